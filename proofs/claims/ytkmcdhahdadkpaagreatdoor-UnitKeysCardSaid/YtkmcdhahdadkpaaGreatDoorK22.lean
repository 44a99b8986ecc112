/- slices.SortFunc over tables with rows, by their names: the contract. Plans: a plan's own sources, rising. Units: slices.Clone. Units: places, a statement. -/
import Derived.Test.YtkmcdhahdadkpaaGreatDoorK20
import Derived.Test.YtkmcdhahdadkpaaGreatDoorK21
import Derived.Test.YtkmcdhahdadkpaaGreatDoorK18
import Derived.Test.YtkmcdhahdadkpaaGreatDoorK14
import Derived.Test.YtkmcdhahdadkpaaGreatDoorK17
import Derived.Test.YtkmcdhahdadkpaaGreatDoorK07
import Derived.Sort.Grow
import Derived.Deep.Draws
import Derived.Shelf.SlSortCmp.QuietGrown
import Derived.Shelf.GgClosure.StringsIndexFuncTop
import Derived.Test.YtkmcdhahdadkpaaGreatDoorK08
import Derived.RegionTactic
import Derived.RegionCalls
import Derived.Deep.RegionWith
import Derived.StillTailTactics
import Derived.Maps.RangeWalk
import Derived.LoopTactic
import Derived.Shelf.SlSortCmp.NoneTotal
namespace Cad
open Go Go.Proofs Go.Sort
open Tr renaming chk→Qc
open AV renaming nils→Qb
open AO renaming box→Qa
open Tr renaming «to»→Q9
open Tr renaming val→Q8
open Sh renaming str→Q6
open Sh renaming expr→Q5
open Bool renaming false→Q4
open Bool renaming true→Q3
open Option renaming none→Q2
open Option renaming some→Q1
open Decidable renaming decide→Q0
open Int (toNat)
open List (getD)
open List (length)
set_option maxHeartbeats 4000000
open Tr (chk br re)
open AV (nils agg tup ptr kb str sl)
theorem tc:∀a b:zB,(Lib.compareBytes a b<0)↔Op.bytesLess a b=Q3
 |[],[]=>by simp[Lib.compareBytes,Op.bytesLess]
 |[],_::_=>by simp[Lib.compareBytes,Op.bytesLess]
 |_::_,[]=>by simp[Lib.compareBytes,Op.bytesLess]
 | a::r,b::s=>by
  unfold Lib.compareBytes Op.bytesLess;by_cases h1:a<b
  ·simp[h1]
  ·by_cases h2:b<a
   ·have:a≠b:=λe=>by rw[e]at h2;exact absurd h2 (UInt8.lt_irrefl b)
    simp[h1,h2,this]
   ·have:a=b:=UInt8.le_antisymm (UInt8.not_lt.1 h2) (UInt8.not_lt.1 h1);subst this;simp[tc r s]
theorem DO:∀s:zB,Op.bytesLess s s=Q4
 |[]=>rfl
 |a::r=>by simp[Op.bytesLess,DO r]
theorem Aw:∀{a b c:zB},Op.bytesLess a b=Q3->Op.bytesLess b c=Q3->Op.bytesLess a c=Q3
 |_,[],_,h,_=>by cases‹zB›<;>simp[Op.bytesLess]at h
 |_,_::_,[],_,h=>by simp[Op.bytesLess]at h
 |[],_::_,_::_,_,_=>rfl
 | a::x,b::y,c::z,h,g=>by
  simp only[Op.bytesLess,lZ,aD,aO,ba]at h g⊢;rcases h with h|⟨rfl,h⟩
  ·rcases g with g|⟨rfl,g⟩
   ·exact .inl (UInt8.lt_trans h g)
   ·exact .inl h
  ·rcases g with g|⟨rfl,g⟩
   ·exact .inl g
   ·exact .inr ⟨rfl,Aw h g⟩
theorem Av:∀{a b:zB},Op.bytesLess a b=Q4->a≠b->Op.bytesLess b a=Q3
 |[],[],_,h=>absurd rfl h
 |[],_::_,h,_=>by simp[Op.bytesLess]at h
 |_::_,[],_,_=>rfl
 | a::x,b::y,h,hne=>by
  simp only[Op.bytesLess,Bool.or_eq_false_iff,decide_eq_false_iff_not,Bool.and_eq_false_iff]at h;simp only[Op.bytesLess,lZ,aD,aO,ba];by_cases e:b=a
  ·subst e;refine .inr ⟨rfl,Av (h.2.resolve_left sw) λe=>hne (by rw[e])⟩
  ·exact .inl (Nat.lt_of_le_of_ne (UInt8.not_lt.1 h.1) λe'=>e (UInt8.toNat_inj.1 e'))
def fD:List (Sem zh)->List (Sem zh)
 |[a,b]=>if Op.bytesLess b.1.1 a.1.1=Q3 then[b,a]else[a,b]
 |l=>l
theorem qL(a b:Sem zh):fD [a,b]=if Op.bytesLess b.1.1 a.1.1=Q3 then[b,a]else[a,b]:=rfl
def two(l:List (Sem zh)):Bool:=match l with
 |[_]=>Q3
 |[a,b]=>!((a.1.1:zB)==b.1.1)
 |_=>Q4
theorem T4{l l':List (Sem zh)}(h:two l=Q3)(hp:List.Perm l' l)(hs:l'.Pairwise λx y:Sem zh=>¬Lib.compareBytes y.1.1 x.1.1<0):l'=fD l:=by
 match l,h with
 |[a],_=>exact List.perm_singleton.1 hp
 | [a,b],h=>
  have hl:=hp.length_eq;have hne:(a.1.1:zB)≠b.1.1:=by simpa[two]using h
  match l',hl,hp,hs with
  |[x,y],_,hp,hs=>
  have hs:¬Lib.compareBytes y.1.1 x.1.1<0:=by simpa using hs
  rw[tc]at hs;have hx:x=a/\y=b\/x=b/\y=a:=by
   have hxm:x∈[a,b]:=hp.mem_iff.1 sw;rcases cm.1 hxm with rfl|hxm
   ·have:=(List.perm_cons x).1 hp;exact .inl ⟨rfl,by simpa using this⟩
   ·have hxb:x=b:=by simpa using hxm
    subst hxb;have:=(List.perm_cons x).1 (hp.trans (List.Perm.swap x a []));exact .inr ⟨rfl,by simpa using this⟩
  rw[qL];rcases hx with⟨rfl,rfl⟩|⟨rfl,rfl⟩
  ·rw[if_neg hs]
  ·rw[if_pos (Av (by simpa using hs) hne)]
def ZE:zY:=λargs hp _=>match args with
 | [.vec id,.clo (.func 56) [] [.ptr nb 0]]=>match hp id,hp nb with
  |.vec zjM l,.box [.clo (.func 52) [] []]=>.chk (two l) (.ok {val:=.tup [],wr:=[(id,.vec zh (fD l))]})
  |_,_=>.err
 |_=>.err
theorem zkX:Go.Proofs.Enters Tryz.prog 56:=by
  cases hb:Tryz.f56.body with
  | none => have:Tryz.f56.body.isNone=false:=by kernel_rfl
            rw[hb]at this;cases this
  |some c=>exact Go.Proofs.enters_of (fn:=Tryz.f56) kw kw hb
theorem zbl:FK 92 ZE where
 fn:=⟨Tryz.f92,kw,kw,kw⟩
 calls:=λw U ρ hp n args vals f fp hf hr hub hgl hfp hin hcl hnw=>by
  unfold ZE at hf;split at hf
  ·rename_i id nb;split at hf
   ·rename_i l hid hnb;simp only[Tr.val_chk,Tr.val_ok,bz]at hf;obtain⟨h2,rfl⟩:=hf;have hl:=hr.len
    match vals,hl,hr with
    |[va,vc],_,hr=>
    have r0:=hr.rv 0 _ va rfl rfl;have r1:=hr.rv 1 _ vc rfl rfl;cases r0 with
    |vec _ _ hva _=>
    cases r1 with
    |clo _ _ _ vf vcs hf hc hrf hrc=>
    match vf,hf,vcs,hc,hrc with
    |[],_,[pv],_,hrc=>
    have r2:=hrc 0 _ pv rfl rfl;cases r2 with
    |ptr _ _ b0 hb0=>
    have iid:id∈fp:=hin id (by simp[AV.idsL,AV.ids]);have inb:nb∈fp:=hin nb (by simp[AV.idsL,AV.ids]);have ob:=hfp.ob nb inb;have oid:=hfp.ob id iid;rw[hnb]at ob;rw[hid]at oid;obtain⟨b',T,arr,e1,hUB,hBB,hrl,h1c⟩:=ob;rw[hb0]at e1;cases e1;have hal:=hrl.len;have hfv:=hrl.rv 0 _ (arr.toList[0]'(by rw[<-hal];simp)) rfl (zS _);have hcell:w.cell? ⟨b0,0,Q2⟩=Q1 (.func (.func 52) #[] #[]):=by
     generalize hx:arr.toList[0]'(by rw[<-hal];simp)=x at hfv;cases hfv with
     |clo _ _ _ vf vc hf hc _ _=>
     match vf,hf,vc,hc with
     |[],_,[],_=>
     rw[World.cell?,hBB];have:arr[0]?=Q1 (Value.func (.func 52) #[] #[]):=by
      rw[<-rc,zS (by rw[<-hal];simp),hx]
     simpa using this
    have hbl:=hub b0 hUB;have hlne:l≠[]:=λe=>by rw[e]at h2;cases h2
    have hlen:l.length<=2:=by
     match l,h2 with
     |[_],_=>simp
     |[_,_],_=>simp
    refine⟨(Un (n:=n) (e:=zh) (G:=λ_=>True) (λx y:Sem zh=>Lib.compareBytes x.1.1 y.1.1) (by decide) hub hid oid hva hlne (λ_ _=>trivial) ?_).mono ?_,by simp;exact iid⟩
    ·intro inst B cap d hds hH hBlt hown;have hne:b0≠B:=λe=>by
      have:=hfp.inj id iid nb inb B (by rw[hid];exact hown) (by rw[hnb];exact⟨rfl,_,hb0,by simp[eO,e]⟩);subst this;rw[hid]at hnb;cases hnb
     refine AnyQ.slices_SortFunc Tryz.sortRel 12 Tryz.isAgg52 Tryz.sizeOf52 (λp:Pl w U ρ zh (λ_=>True)=>p.1.1) (λp=>p.2.1) (λp=>p.2.2.1) (λp q=>Lib.compareBytes p.1.2.1.1 q.1.2.1.1) ?_ 56 #[.pointer (Q1 ⟨b0,0,Q2⟩)] B 0 cap d w zkX ?_ hH hBlt ow
     ·refine⟨λx=>?_,λx y z h g=>?_,λx y z h g=>?_⟩
      ·have:=DO x.1.2.1.1;simp only[ltOf,decide_eq_false_iff_not,tc,this];simp
      ·simp only[ltOf,aO,tc]at*;exact Aw h g
      ·simp only[ltOf,decide_eq_false_iff_not,tc]at*;intro hxz;by_cases e:(x.1.2.1.1:zB)=y.1.2.1.1
       ·rw[e]at hxz;exact g hxz
       ·exact g (Aw (Av (by simpa using h) e) hxz)
     ·intro m os dk hdk x y;have nm:∀p:Pl w U ρ zh (λ_=>True),∃v1 v2 v3 v4 v5 v6 v7 v8 v9 v10 v11,p.1.1=[.string ⟨(p.1.2.1.1:zB).toArray⟩,v1,v2,v3,v4,v5,v6,v7,v8,v9,v10,v11]:=by
       rintro⟨⟨cs,q⟩,h1,h2,h3,h4⟩;obtain⟨v,hv1,hv2⟩:=h3 0 (.str q.1.1) rfl;have h1:cs.length=12:=h1
       match cs,h1 with
       |[a0,a1,a2,a3,a4,a5,a6,a7,a8,a9,a10,a11],_=>
       have:a0=v:=by simpa using hv1
       subst this;cases hv2;exact⟨a1,a2,a3,a4,a5,a6,a7,a8,a9,a10,a11,rfl⟩
      obtain⟨v1,v2,v3,v4,v5,v6,v7,v8,v9,v10,v11,ex⟩:=nm x;obtain⟨u1,u2,u3,u4,u5,u6,u7,u8,u9,u10,u11,ey⟩:=nm y;have hkept:(sortWorldK (λp:Pl w U ρ zh (λ_=>True)=>p.1.1) 12 w B 0 m dk os).heap[b0]?=w.heap[b0]?:=gL dk hbl hne
      have:=Tryz.cmp56 ⟨(x.1.2.1.1:zB).toArray⟩ ⟨(y.1.2.1.1:zB).toArray⟩ v1 v2 v3 v4 v5 v6 v7 v8 v9 v10 v11 u1 u2 u3 u4 u5 u6 u7 u8 u9 u10 u11 b0 (sortWorldK (λp:Pl w U ρ zh (λ_=>True)=>p.1.1) 12 w B 0 m dk os)
       (by rw[World.cell?_of_block hkept];exact hcell) (iG hbl (by unfold sortWorldK grow putRowK;simp[Sort.ahead]))
      show Calls Tryz.prog 56 (#[Value.agg x.1.1.toArray,Value.agg y.1.1.toArray]++#[Value.pointer (Q1 ⟨b0,0,Q2⟩)]) _ _;rw[ex,ey];exact this
    ·rintro e' w' ⟨l',hp',hs',v',U',ρ',rfl,hef⟩;rw[T4 h2 hp' hs']at hef;exact⟨v',U',ρ',rfl,hef⟩
   ·simp at hf
  ·simp at hf
open Go Go.Proofs
noncomputable def aC(db:List (Sem zh))(p:Sem zz):List (Sem zh):=(bJ p.2.1 p.2.2.1).map λn=>kr (aA (bJ p.2.1 p.2.2.1)) (aB db n)
theorem EJ{l:List (Sem zh)}{x:Sem zh}:x∈fD l↔x∈l:=by
 match l with
 |[]=>rfl
 |[_]=>rfl
 | [a,b]=>
  rw[qL];split
  ·simp[or_comm]
  ·exact Iff.rfl
 |_::_::_::_=>rfl
theorem ED(l:List (Sem zh)):(fD l).length=l.length:=by
 match l with
 |[]=>rfl
 |[_]=>rfl
 |[a,b]=>rw[qL];split<;>rfl
 |_::_::_::_=>rfl
theorem HV{db:List (Sem zh)}{s:Sem zl}(hp:(dh db s).1=0):(dh db s).2.1=s.1/\(dh db s).2.2.1=s.2.2.1/\(dh db s).2.2.2.1=dK s:=by
 unfold dh at hp⊢;split at hp
 ·rename_i h;rw[if_pos h,(ls hp).2];exact⟨rfl,rfl,rfl⟩
 ·rename_i h;split at hp
  ·rename_i h';rw[if_neg h,if_pos h',(ls hp).2];exact⟨rfl,rfl,rfl⟩
  ·rename_i h';split at hp
   ·rename_i h'';rw[if_neg h,if_neg h',if_pos h'',(ls hp).2];exact⟨rfl,rfl,rfl⟩
   ·cases hp
theorem ON{s:Sem zl}(h:eZ s=Q3)(ho:s.1=[106,111,105,110]):dK s≠[]:=by
 obtain⟨o,s2,s3,s4,s5,s6,s7,s8,s9,s10,uw,s12,s13⟩:=s;have ho:o=[106,111,105,110]:=ho;subst ho;obtain⟨_,hp⟩:=eA (s:=([106,111,105,110],s2,s3,s4,s5,s6,s7,s8,s9,s10,uw,s12,s13)) (g:=_) (b:=_) rfl;rw[hp]at h;intro hr;have hr:s13=[]:=hr;subst hr;rw[show bP []=Q4 from rfl]at h;cases h1:bP s2<;>cases h2:bP s3<;>cases h3:bP s6<;>simp[h1,h2,h3]at h
theorem Nd{db:List (Sem zh)}{s:Sem zl}(hp:(aT db s).1=0):jt s.1/\dY s=Q3/\km db=(0:Int)/\(∀n∈bJ s.2.2.1 (dK s),LE.le (α:=Int) 0 (zV db n))/\s.2.2.1≠dK s/\aT db s=dh db s:=by
 unfold aT at hp;split at hp
 case isFalse=>cases hp
 rename_i hm;split at hp
 case isFalse h=>exact absurd hp h
 rename_i h0;refine⟨hm.1,hm.2.1,hm.2.2,?_,?_,by unfold aT;rw[if_pos hm,if_pos h0]⟩
 ·unfold nG at h0;split at h0
  ·assumption
  ·cases h0
 ·unfold nG at h0;split at h0
  case isFalse=>cases h0
  split at h0
  case isTrue=>cases h0
  rename_i h2;intro e;apply h2;have e:s.2.2.1=s.t.t.t:=e;rw[<-e];simp
theorem Pp{db:List (Sem zh)}{s:Sem zl}(hdb:∀x∈db,gH x)(hp:(aT db s).1=0)(sh:lK s):
  aT (fD (aC db (aT db s).2)) (iL (aT db s).2 (aC db (aT db s).2))=(0,(aT db s).2)/\(aC db (aT db s).2).map (λx:Sem zh=>x.1.1)=bJ (aT db s).2.2.1 (aT db s).2.2.2.1/\(fD (aC db (aT db s).2)).Pairwise (λx y:Sem zh=>Op.bytesLess x.1.1 y.1.1=Q3)/\iL (aT db s).2 (aC db (aT db s).2)=s/\(∀x∈fD (aC db (aT db s).2),gH x)/\two (aC db (aT db s).2)=Q3:=by
 obtain⟨hm,hmay,hb,hf,hne,hask⟩:=Nd hp;have hB:=(jZ hdb).1 hb;have hparts:=lE hmay;have hp0:(dh db s).1=0:=by rw[<-hask];exact hp
 obtain⟨f1,f2,f3⟩:=HV hp0;have hp2:aT db s=(0,(aT db s).2):=by rw[<-hp]
 rw[hask]at hp2⊢;generalize hns:bJ (dh db s).2.2.1 (dh db s).2.2.2.1=ns;have hns':bJ s.2.2.1 (dK s)=ns:=by rw[<-hns,f2,f3]
 rw[hns']at hf;have hsrc:aC db (dh db s).2=ns.map λn=>kr (aA ns) (aB db n):=by unfold aC;rw[hns]
 rw[hsrc];have hname:∀n∈ns,(aB db n).1.1=n:=λn hn=>(nD (hf n hn)).2
 have hmem:∀x∈fD (ns.map λn=>kr (aA ns) (aB db n)),∃n∈ns,x=kr (aA ns) (aB db n):=λx hx=>by
  obtain⟨n,hn,rfl⟩:=bn.1 (EJ.1 hx);exact⟨n,hn,rfl⟩
 have hthere:∀n∈ns,kr (aA ns) (aB db n)∈fD (ns.map λn=>kr (aA ns) (aB db n)):=λn hn=>EJ.2 (bn.2 ⟨n,hn,rfl⟩)
 have hlen:ns.length<=2:=by rw[<-hns];unfold bJ;split<;>simp
 have hpw:(fD (ns.map λn=>kr (aA ns) (aB db n))).Pairwise λx y:Sem zh=>Op.bytesLess x.1.1 y.1.1=Q3:=by
  by_cases hr:(dK s==[])=Q3
  ·have e:ns=[s.2.2.1]:=by rw[<-hns'];unfold bJ;rw[if_pos hr]
   rw[e];simp[fD]
  ·have e:ns=[s.2.2.1,dK s]:=by rw[<-hns'];unfold bJ;rw[if_neg hr]
   have n1:=hname s.2.2.1 (by rw[e];simp);have n2:=hname (dK s) (by rw[e];simp);rw[e];show(fD [kr _ (aB db s.2.2.1),kr _ (aB db (dK s))]).Pairwise _;rw[qL];split
   ·rename_i h;simp only[List.pairwise_cons,gp,forall_eq,List.not_mem_nil,false_implies,implies_true,List.Pairwise.nil,and_true];exact h
   ·rename_i h;simp only[List.pairwise_cons,gp,forall_eq,List.not_mem_nil,false_implies,implies_true,List.Pairwise.nil,and_true];refine jE (by simpa using h) ?_;show(aB db (dK s)).1.1≠(aB db s.2.2.1).1.1;rw[n1,n2];exact λe=>hne e.symm
 generalize hdb':fD (ns.map λn=>kr (aA ns) (aB db n))=db' at hmem hthere hpw;have hfind:∀n∈ns,LE.le (α:=Int) 0 (zV db' n):=λn hn=>by
  have:=MG (hthere n hn)
  rwa [show(kr (aA ns) (aB db n)).1.1=n from hname n hn]at this
 have hB':iM db':=hB.src (p:=aA ns) (by rw[<-hdb',ED,da];omega) hpw (λy hy=>by
  obtain⟨n,hn,rfl⟩:=hmem y hy;exact⟨_,(nD (hf n hn)).1,rfl⟩) (λn hn=>hfind n ((kE _ _).1 hn))
 have hsh:∀x∈db',gH x:=λx hx=>by
  obtain⟨n,hn,rfl⟩:=hmem x hx;have:=hdb _ (nD (hf n hn)).1;exact⟨this.uq,cG (List.length_filter_le _ _) this.rf,this.rw⟩
 have htab:∀n∈ns,aw db' n=Kr (aA ns) (aw db n):=λn hn=>by
  obtain⟨h1,h2⟩:=nD (hfind n hn);obtain⟨m,hm,e⟩:=hmem _ h1;have:m=n:=by
   rw[e]at h2;rw[<-hname m hm];exact h2
  subst this;show(aB db' m).1=_;rw[e];rfl
 have hback:iL (dh db s).2 (ns.map λn=>kr (aA ns) (aB db n))=s:=by
  refine Pr hp0 hm hparts sh ?_;have:∃r,ns=s.2.2.1::r:=by rw[<-hns'];unfold bJ;split<;>exact⟨_,rfl⟩
  obtain⟨r,e⟩:=this;rw[e];rfl
 have htwo:two (ns.map λn=>kr (aA ns) (aB db n))=Q3:=by
  by_cases hr:(dK s==[])=Q3
  ·have e:ns=[s.2.2.1]:=by rw[<-hns'];unfold bJ;rw[if_pos hr]
   rw[e];rfl
  ·have e:ns=[s.2.2.1,dK s]:=by rw[<-hns'];unfold bJ;rw[if_neg hr]
   have n1:=hname s.2.2.1 (by rw[e];simp);have n2:=hname (dK s) (by rw[e];simp);rw[e];show(!((aB db s.2.2.1).1.1:zB)==(aB db (dK s)).1.1)=Q3;rw[n1,n2];simpa using hne
 refine⟨?_,?_,hpw,hback,hsh,htwo⟩
 ·rw[hback];refine(Tt hp ((jZ hsh).2 hB') (λn hn=>?_) (λx hx=>?_) (λho=>ON hparts ho)).1.trans (by rw[hask];exact hp2)
  ·rw[hns']at hn⊢;refine⟨hfind n hn,?_⟩;rw[htab n hn];refine⟨rfl,rfl,λf hfn=>?_⟩;show f∈(aw db n).t.1.filter (λf:Sem zr=>aA ns f.2)↔_;rw[List.mem_filter,(kE _ _).2 hfn];simp
  ·rw[hns'];obtain⟨n,hn,rfl⟩:=hmem x hx;obtain⟨h1,h2⟩:=nD (hf n hn);exact⟨by show(aB db n).1.1∈ns;rw[h2];exact hn,_,h1,rfl⟩
 ·rw[oD]
  conv=>rhs;rw[<-List.map_id ns]
  exact List.map_congr_left λn hn=>hname n hn
noncomputable abbrev wY(l:List (Sem ze)):Tr zC:=run Ek 0 Wt (Func.results Tryz.f32).toList 300 (bt Tryz.f32) (bc (Func.ntmps Tryz.f32) [.sl ze l] [])
theorem MZ:zJ Ek.P 32 Tryz.f32 1:=bQ kw
theorem zg3(l:List (Sem ze)):wY l=.ok (.fork l.isEmpty (dU (wY l)).1 (dU (wY l)).2.1 (dU (wY l)).2.2):=kw
theorem zc5(l:List (Sem ze)):run Ek 0 Wt (Func.results Tryz.f32).toList 300 (dU (wY l)).1 (dU (wY l)).2.2=.ok (.ret .nils []):=kw
theorem zc6(l:List (Sem ze)):run Ek 0 Wt (Func.results Tryz.f32).toList 300 (dU (wY l)).2.1 (dU (wY l)).2.2=.chk (Q0 (l.length<=1073741824)) (.ok (.ret (.vec 0) [.vec ze l])):=kw
def zgt:ic [Q1 (.sl ze)]:=λx h=>match h with
 |[]=>.chk (Q0 (length x.1<=1073741824)) (.ok (.vec 0,[.vec ze x.1]))
 |_=>.err
def zep:zY:=bg [Q1 (.sl ze)] zgt
theorem zas:FK 32 zep:=by
 refine dt MZ λx h0 res hx C hC=>?_
 unfold zgt at hx;split at hx
 ·simp only[Q8]at hx;split at hx
  ·rename_i hl;simp only[bz]at hx;subst hx;obtain⟨l,u⟩:=x;refine zD (n0:=0) mf MZ hC (zg3 l) ?_;refine⟨λhe=>?_,?_⟩
   ·have hn:l=[]:=List.isEmpty_iff.1 he;refine Reach.weaken (Q:=λr h=>(r,h)=(.vec 0,[.vec ze []])) (Reach.promNil ze (λid=>hC id sw) (zD (n0:=0) mf MZ hC (zc5 l) rfl)) ?_;intro r h hq;cases hq;refine⟨_,?_,λ_ _ _ _ h=>h⟩;show(AV.vec 0,[AO.vec ze []])=(AV.vec 0,[AO.vec ze l]);rw[hn]
   ·exact zD (n0:=0) mf MZ hC (zc6 l) (jY hl rfl)
  ·cases hx
 ·simp at hx
noncomputable def Ro:=Ek.add 32 zep
theorem r8:zx Ro:=mf.add zas
noncomputable section
def We(x0:Sem zz)(x1:Sem zh.sl):Tr (Empty⊕ar):=
 let a0:=getD x1 (toNat 0) (zi zh)
 br (x0.1==[99,111,112,121]) (Qc (zN 0 (length x1)) (re (ai a0.1.2.2.1) []))
 (br (x0.1==[106,111,105,110]) (re (ai x0.t.2) [])
  (Qc (zN 0 (length x0.t.1)) (re (ai (getD x0.t.1 (toNat 0) (zi zg))) [])))
def uQ(x0:Sem zz)(x1:Sem zh.sl):=ao [zg] t0 100000000 (We x0 x1)
def jl(x0:Sem zz)(x1:Sem zh.sl):=(uQ x0 x1).isSome
def bT(x0:Sem zz)(x1:Sem zh.sl):=o1 (uQ x0 x1)
def zeo:=FT [zz,zh.sl] [zg] λx=>uQ x.1 x.2.1
theorem zar:FK 31 zeo:=r8.T1 (f:=Tryz.f31) (keep:=k0) (e:=e0)
abbrev zh8:=lV [(7,[4,5,52,53,54])]
inductive HH where
 |h7 (l52:List (Sem zj)) (i53:Int) (i54:Int) (ja0:List UInt8) (ja1:List UInt8) (ja2:List UInt8) (ja5:List UInt8) (ja8:List UInt8) (ja9:Int) (ja10:Int) (ja11:List UInt8) (ja12:List UInt8) (ja16:List UInt8) (ja17:Int) (ja18:Int) (ja19:List UInt8) (ja20:List UInt8) (ja22:List UInt8) (jb0:Sem Q6) (jb1:Sem Q6) (jb2:Sem Q6) (jb5:List UInt8) (jb8:zB) (jb9:Int) (jb10:Int) (jb11:zB) (jb12:zB) (jb13:List (Sem Q5)) (jb16:List UInt8) (jb17:Int) (jb18:Int) (jb19:List UInt8) (jb20:List UInt8) (jb22:Sem Q6)
 |h7b (l52:List (Sem zj)) (i53:Int) (i54:Int) (ja0:List UInt8) (ja1:List UInt8) (ja2:List UInt8) (ja5:List UInt8) (ja8:List UInt8) (ja9:Int) (ja10:Int) (ja11:List UInt8) (ja12:List UInt8) (ja16:List UInt8) (ja17:Int) (ja18:Int) (ja19:List UInt8) (ja20:List UInt8) (ja22:List UInt8) (jb0:Sem Q6) (jb1:Sem Q6) (jb2:Sem Q6) (jb5:List UInt8) (jb8:zB) (jb9:Int) (jb10:Int) (jb11:zB) (jb12:zB) (jb13:List (Sem Q5)) (jb16:List UInt8) (jb17:Int) (jb18:Int) (jb19:List UInt8) (jb20:List UInt8) (jb22:Sem Q6) (lh_2:List (Sem Q6))
abbrev zkH:HH->Nat×St
 |.h7 l52 i53 i54 ja0 ja1 ja2 ja5 ja8 ja9 ja10 ja11 ja12 ja16 ja17 ja18 ja19 ja20 ja22 jb0 jb1 jb2 jb5 jb8 jb9 jb10 jb11 jb12 jb13 jb16 jb17 jb18 jb19 jb20 jb22=>(7,⟨tm 67 [(4,ptr 0 0),(5,ptr 1 0),(52,sl zj l52),(53,ai i53),(54,ai i54)],[Qa [str ja0,str ja1,str ja2,Qb,Qb,str ja5,Qb,Qb,str ja8,ai ja9,ai ja10,str ja11,str ja12,Qb,Qb,Qb,str ja16,ai ja17,ai ja18,str ja19,str ja20,Qb,str ja22],Qa [str jb0,str jb1,str jb2,Qb,Qb,str jb5,Qb,Qb,str jb8,ai jb9,ai jb10,str jb11,str jb12,sl Q5 jb13,Qb,Qb,str jb16,ai jb17,ai jb18,str jb19,str jb20,Qb,str jb22]]⟩)
 |.h7b l52 i53 i54 ja0 ja1 ja2 ja5 ja8 ja9 ja10 ja11 ja12 ja16 ja17 ja18 ja19 ja20 ja22 jb0 jb1 jb2 jb5 jb8 jb9 jb10 jb11 jb12 jb13 jb16 jb17 jb18 jb19 jb20 jb22 lh_2=>(7,⟨tm 67 [(4,ptr 0 0),(5,ptr 1 0),(52,sl zj l52),(53,ai i53),(54,ai i54)],[Qa [str ja0,str ja1,str ja2,Qb,Qb,str ja5,Qb,Qb,str ja8,ai ja9,ai ja10,str ja11,str ja12,Qb,Qb,Qb,str ja16,ai ja17,ai ja18,str ja19,str ja20,Qb,str ja22],Qa [str jb0,str jb1,str jb2,AV.vec 2,Qb,str jb5,Qb,Qb,str jb8,ai jb9,ai jb10,str jb11,str jb12,sl Q5 jb13,Qb,Qb,str jb16,ai jb17,ai jb18,str jb19,str jb20,Qb,str jb22],AO.vec Q6 lh_2]⟩)
def Wl(x0:Sem zz)(x1:Sem zh.sl):Tr (HH⊕ar):=
 let a0:=Q0 (x0.t.2>=0)
 let a1:=zN 0 (length x1)
 let a2:=getD x1 (toNat 0) (zi zh)
 let a3:=(↑(length a2.1.2.1):Int)
 let a4:=getD a2.1.2.1 (toNat x0.t.2) (zi zj)
 br (x0.1==[106,111,105,110])
 (Qc (bif a0 then a1 else Q3)
  (br (bif a0 then Q0 (x0.t.2<a3)else Q4) (Qc a1 (Qc (zN x0.t.2 (length a2.1.2.1)) (re (agg [str x0.1,str x0.2.2.2.1.1,str x0.2.1,Qb,Qb,str a4.1,Qb,Qb,str (zf.op x0.2.2.2.1.t.2),ai (zf.v x0.2.2.2.1.t.2).1,
  ai (zf.v x0.2.2.2.1.t.2).2.1,str (zf.v x0.2.2.2.1.t.2).2.2,str (zf.s x0.2.2.2.1.t.2),sl Q5 (zf.l x0.2.2.2.1.t.2),Qb,Qb,str [],ai 0,ai 0,str [],str [],Qb,str x0.2.2.1]) []))) (re (agg
  [str x0.1,str x0.2.2.2.1.1,str x0.2.1,Qb,Qb,str [],Qb,Qb,str (zf.op x0.2.2.2.1.t.2),ai (zf.v x0.2.2.2.1.t.2).1,ai (zf.v x0.2.2.2.1.t.2).2.1,str (zf.v x0.2.2.2.1.t.2).2.2,str (zf.s x0.2.2.2.1.t.2),sl Q5 (zf.l x0.2.2.2.1.t.2),Qb,Qb,
  str [],ai 0,ai 0,str [],str [],Qb,str x0.2.2.1]) [])))
 (Q9
  (HH.h7 x0.2.2.2.1.2.1 (↑(length x0.2.2.2.1.2.1):Int) 0 [] [] [] [] [] 0 0 [] [] [] 0 0 [] [] [] x0.1 x0.2.2.2.1.1 x0.2.1 [] (zf.op x0.2.2.2.1.t.2) (zf.v x0.2.2.2.1.t.2).1 (zf.v x0.2.2.2.1.t.2).2.1 (zf.v x0.2.2.2.1.t.2).2.2 (zf.s x0.2.2.2.1.t.2) (zf.l x0.2.2.2.1.t.2) [] 0 0 [] [] x0.2.2.1))
def xP:HH->Tr (HH⊕ar)
 | .h7 l52 i53 i54 ja0 ja1 ja2 ja5 ja8 ja9 ja10 ja11 ja12 ja16 ja17 ja18 ja19 ja20 ja22 jb0 jb1 jb2 jb5 jb8 jb9 jb10 jb11 jb12 jb13 jb16 jb17 jb18 jb19 jb20 jb22=>
  let a0:=l52.getD i54.toNat (zi zj)
  let a1:=[a0.1]
  br (Q0 (i54<i53))
  (Qc (zN i54 l52.length) (Qc (Q0 (a1.length<=1073741824)) (Q9 (HH.h7b l52 i53 (IntKind.i64.wrap (i54+1)) ja0 ja1 ja2 ja5 ja8 ja9 ja10 ja11 ja12 ja16 ja17 ja18 ja19 ja20 ja22 jb0 jb1 jb2 jb5 jb8 jb9 jb10 jb11 jb12 jb13 jb16 jb17 jb18 jb19 jb20 jb22 a1))))
  (re (agg [str jb0,str jb1,str jb2,Qb,Qb,str jb5,Qb,Qb,str jb8,ai jb9,ai jb10,str jb11,str jb12,sl Q5 jb13,Qb,Qb,str jb16,ai jb17,ai jb18,str jb19,str jb20,Qb,str jb22]) [])
 | .h7b l52 i53 i54 ja0 ja1 ja2 ja5 ja8 ja9 ja10 ja11 ja12 ja16 ja17 ja18 ja19 ja20 ja22 jb0 jb1 jb2 jb5 jb8 jb9 jb10 jb11 jb12 jb13 jb16 jb17 jb18 jb19 jb20 jb22 lh_2=>
  let a0:=l52.getD i54.toNat (zi zj)
  let a1:=[a0.1]
  br (Q0 (i54<i53))
  (Qc (zN i54 l52.length) (Qc (Q0 (lh_2.length+a1.length<=1073741824)) (Q9 (HH.h7b l52 i53 (IntKind.i64.wrap (i54+1)) ja0 ja1 ja2 ja5 ja8 ja9 ja10 ja11 ja12 ja16 ja17 ja18 ja19 ja20 ja22 jb0 jb1 jb2 jb5 jb8 jb9 jb10 jb11 jb12 jb13 jb16 jb17 jb18 jb19 jb20 jb22 (lh_2++a1)))))
  (re (agg [str jb0,str jb1,str jb2,AV.vec 0,Qb,str jb5,Qb,Qb,str jb8,ai jb9,ai jb10,str jb11,str jb12,sl Q5 jb13,Qb,Qb,str jb16,ai jb17,ai jb18,str jb19,str jb20,Qb,str jb22]) [AO.vec Q6 lh_2])
def Gf(x0:Sem zz)(x1:Sem zh.sl):=ao [zl] xP 100000000 (Wl x0 x1)
def Lh(x0:Sem zz)(x1:Sem zh.sl):=(Gf x0 x1).isSome
def Tl(x0:Sem zz)(x1:Sem zh.sl):=o1 (Gf x0 x1)
def zeK:=FT [zz,zh.sl] [zl] λx=>Gf x.1 x.2.1
theorem zaQ:FK 59 zeK:=r8.T1 (f:=Tryz.f59) (keep:=zh8) (e:=zkH)
def Rp:=Ro.addL [(31,zeo),(59,zeK)]
theorem KB:zx Rp:=r8.addL<|fc zar<|fc zaQ<|iV
end
noncomputable def zlZ(x0:Sem zh):Tr (Empty⊕ar):=
 re (str x0.1.1) []
noncomputable def TT(x0:Sem zh):=ao [Q6] t0 100000000 (zlZ x0)
noncomputable def zka:=FT [zh] [Q6] λx=>TT x.1
theorem zaM:FK 52 zka:=mf.T1 (f:=Tryz.f52) (keep:=k0) (e:=e0)
theorem zaN:FK 52 (aE [zh] [.str] λx=>(x.1.1.1,())):=gP zaM λ_=>rfl
noncomputable def YK:=((((Rp.add 52 (aE [zh] [.str] λx=>(x.1.1.1,()))).add 92 ZE).aut 54 Tryz.f54 2).aut 55 Tryz.f55 1)
theorem El:zx YK:=ii (ii ((KB.add zaN).add zbl) (bQ kw)) (bQ kw)
noncomputable section
abbrev zhU:=lV [(6,[1,2,5,6,19,20,21])]
inductive NW where
 |h6 (l1:List (Sem zh)) (l6:List (Sem Q6)) (l19:List (Sem zh)) (i20:Int) (i21:Int) (z0:zn [CP.d zz])
abbrev zkz:NW->Nat×St
 |.h6 l1 l6 l19 i20 i21 z0=>(6,⟨tm 55 [(1,sl zh l1),(2,ptr 0 0),(5,ptr 1 0),(6,sl Q6 l6),(19,sl zh l19),(20,ai i20),(21,ai i21)],[Qa (bC [] [CP.d zz] z0),Qa [AV.clo (Fn.func 52) [] []]]⟩)
def zhr(x0:Sem zz)(x1:Sem zh.sl):Tr (NW⊕ar):=
 let a0:=kJ (x0.1,x0.2.1,x0.2.2.1,(x0.2.2.2.1.1,x0.2.2.2.1.2.1,x0.2.2.2.1.2.2.1,x0.2.2.2.1.2.2.2.1,x0.2.2.2.1.t.1,zm x0.2.2.2.1.t.2),x0.t)
 br ((↑(length x1):Int)!=(↑(length a0):Int)) (re (ai 1) []) (Q9 (NW.h6 x1 a0 x1 (↑(length x1):Int) 0 (x0,())))
def Xb:NW->Tr (NW⊕ar)
 | .h6 l1 l6 l19 i20 i21 z0=>
  let a0:=l19.getD i21.toNat (zi zh)
  let a1:=(z0.1.1,z0.1.2.1,z0.1.2.2.1,(z0.1.2.2.2.1.1,z0.1.2.2.2.1.2.1,z0.1.2.2.2.1.2.2.1,z0.1.2.2.2.1.2.2.2.1,z0.1.2.2.2.1.t.1,zm z0.1.2.2.2.1.t.2),z0.1.t)
  let a2:=Tl a1 l1
  let a3:=(a2.1,a2.2.1,a2.2.2.1,a2.2.2.2.1,a2.t.1,a2.t.2.1,a2.t.q.1,a2.t.q.2.1,zm a2.t.t.1,a2.t.t.2.1,a2.t.t.q.1,zm a2.t.t.q.2.1,a2.t.t.t)
  let a4:=pOf (fD l1) a3
  let a5:=a4.2!=0
  let a6:=(a4.1.1,a4.1.2.1,a4.1.2.2.1,(a4.1.2.2.2.1.1,a4.1.2.2.2.1.2.1,a4.1.2.2.2.1.2.2.1,a4.1.2.2.2.1.2.2.2.1,a4.1.2.2.2.1.t.1,zm a4.1.2.2.2.1.t.2),a4.1.t)
  br (Q0 (i21<i20))
  (Qc (zN i21 l19.length) (Qc (zN i21 l6.length) (br (!a0.1.1==l6.getD i21.toNat (zi Q6)) (re (ai 1) []) (Q9 (NW.h6 l1 l6 l19 i20 (IntKind.i64.wrap (i21+1)) z0)))))
  (Qc (Q0 (0<l1.length)) (Qc (Q0 (l1.length<=1000)) (Qc (two l1) (Qc (Lh a1 l1) (Qc (zc9 (fD l1) a3) (Qc (bif a5 then Q3 else Gd a1 a6) (br (bif a5 then Q3 else !I8 a1 a6) (re (ai 1) []) (re (ai 0) []))))))))
def Na(x0:Sem zz)(x1:Sem zh.sl):=ao [zg] Xb 100000000 (zhr x0 x1)
def EL(x0:Sem zz)(x1:Sem zh.sl):=(Na x0 x1).isSome
def O7(x0:Sem zz)(x1:Sem zh.sl):=o1 (Na x0 x1)
def zej:=FT [zz,zh.sl] [zg] λx=>Na x.1 x.2.1
theorem zam:FK 29 zej:=El.T1 (f:=Tryz.f29) (keep:=zhU) (e:=zkz)
def YL:=YK.add 29 zej
theorem pP:zx YL:=El.add zam
end
noncomputable section
abbrev zhI:=lV [(6,[5,8,9,22,23,24])]
inductive C5 where
 |h6 (i8:Sem zg) (l22:List (Sem ze.sl)) (i23:Int) (i24:Int) (z0:zn [CP.d ze])
 |h6b (i8:Sem zg) (l22:List (Sem ze.sl)) (i23:Int) (i24:Int) (z0:zn [CP.d ze]) (lh_1:List (Sem ze.sl))
abbrev zkq:C5->Nat×St
 |.h6 i8 l22 i23 i24 z0=>(6,⟨tm 46 [(5,ptr 0 0),(8,ai i8),(9,Qb),(22,sl ze.sl l22),(23,ai i23),(24,ai i24)],[Qa (bC [] [CP.d ze] z0)]⟩)
 |.h6b i8 l22 i23 i24 z0 lh_1=>(6,⟨tm 46 [(5,ptr 0 0),(8,ai i8),(9,AV.vec 1),(22,sl ze.sl l22),(23,ai i23),(24,ai i24)],[Qa (bC [] [CP.d ze] z0),AO.vec ze.sl lh_1]⟩)
def zcd(x0:Sem zz)(x1:Sem zh.sl)(x2:Sem ze):Tr (C5⊕ar):=
 let a0:=(x0.1,x0.2.1,x0.2.2.1,(x0.2.2.2.1.1,x0.2.2.2.1.2.1,x0.2.2.2.1.2.2.1,x0.2.2.2.1.2.2.2.1,x0.2.2.2.1.t.1,zm x0.2.2.2.1.t.2),x0.t)
 let a1:=getD x1 (toNat 0) (zi zh)
 Qc (EL a0 x1)
 (br (O7 a0 x1 !=0) (re (tup [Qb,ai 1]) [])
  (Qc (jl a0 x1) (Qc (zN 0 (length x1)) (Q9 (C5.h6 (bT a0 x1) a1.2 (↑(length a1.2):Int) 0 (x2,()))))))
def xO:C5->Tr (C5⊕ar)
 | .h6 i8 l22 i23 i24 z0=>
  let a0:=l22.getD i24.toNat (zi ze.sl)
  let a1:=getD a0 (toNat i8) (zi ze)
  let a2:=[a0]
  let a3:=IntKind.i64.wrap (i24+1)
  br (Q0 (i24<i23))
  (Qc (zN i24 l22.length) (Qc (zN i8 (length a0)) (br (bif a1.1==z0.1.1&&(a1.2.1==z0.1.2.1&&(a1.2.2==z0.1.2.2&&Q3))then z0.1.1!=0 else Q4) (Qc (Q0 (length a0<=1073741824)) (Qc (Q0 (a2.length<=1073741824)) (Q9 (C5.h6b i8 l22 i23 a3 z0 a2)))) (Q9 (C5.h6 i8 l22 i23 a3 z0)))))
  (re (tup [Qb,ai 0]) [])
 | .h6b i8 l22 i23 i24 z0 lh_1=>
  let a0:=l22.getD i24.toNat (zi ze.sl)
  let a1:=getD a0 (toNat i8) (zi ze)
  let a2:=[a0]
  let a3:=IntKind.i64.wrap (i24+1)
  br (Q0 (i24<i23))
  (Qc (zN i24 l22.length) (Qc (zN i8 (length a0)) (br (bif a1.1==z0.1.1&&(a1.2.1==z0.1.2.1&&(a1.2.2==z0.1.2.2&&Q3))then z0.1.1!=0 else Q4) (Qc (Q0 (length a0<=1073741824)) (Qc (Q0 (lh_1.length+a2.length<=1073741824)) (Q9 (C5.h6b i8 l22 i23 a3 z0 (lh_1++a2))))) (Q9 (C5.h6b i8 l22 i23 a3 z0 lh_1)))))
  (re (tup [AV.vec 0,ai 0]) [AO.vec ze.sl lh_1])
def CV(x0:Sem zz)(x1:Sem zh.sl)(x2:Sem ze):=ao [ze.sl.sl,zg] xO 100000000 (zcd x0 x1 x2)
def L6(x0:Sem zz)(x1:Sem zh.sl)(x2:Sem ze):=(CV x0 x1 x2).isSome
def Uj(x0:Sem zz)(x1:Sem zh.sl)(x2:Sem ze):=o2 (CV x0 x1 x2)
def zdP:=FT [zz,zh.sl,ze] [ze.sl.sl,zg] λx=>CV x.1 x.2.1 x.2.2.1
theorem ZQ:FK 11 zdP:=pP.T1 (f:=Tryz.f11) (keep:=zhI) (e:=zkq)
abbrev zh5:=lV [(4,[1,6,7,8]),(12,[1,6,7,8,10,11,12])]
inductive lJ where
 |h4 (l1:List (Sem zh)) (l6:List (Sem Q6)) (i8:Int)
 |h12 (l1:List (Sem zh)) (l6:List (Sem Q6)) (i8:Int) (i12:Int) (z0:zn [CP.d zh])
 |h12b (l1:List (Sem zh)) (l6:List (Sem Q6)) (i8:Int) (i12:Int) (z0:zn [CP.d zh]) (lh_1:List (Sem zr))
 |h4b (l1:List (Sem zh)) (l6:List (Sem Q6)) (i8:Int) (lh_0:List (Sem zh))
 |h12bb (l1:List (Sem zh)) (l6:List (Sem Q6)) (i8:Int) (i12:Int) (z1:zn [CP.d zh]) (lh_0:List (Sem zh))
 |h12bbb (l1:List (Sem zh)) (l6:List (Sem Q6)) (i8:Int) (i12:Int) (z1:zn [CP.d zh]) (lh_0:List (Sem zh)) (lh_2:List (Sem zr))
abbrev zkF:lJ->Nat×St
 |.h4 l1 l6 i8=>(4,⟨tm 67 [(1,sl zh l1),(6,sl Q6 l6),(7,Qb),(8,ai i8)],[]⟩)
 |.h12 l1 l6 i8 i12 z0=>(12,⟨tm 67 [(1,sl zh l1),(6,sl Q6 l6),(7,Qb),(8,ai i8),(10,ptr 0 0),(11,Qb),(12,ai i12)],[Qa (bC [] [CP.d zh] z0)]⟩)
 |.h12b l1 l6 i8 i12 z0 lh_1=>(12,⟨tm 67 [(1,sl zh l1),(6,sl Q6 l6),(7,Qb),(8,ai i8),(10,ptr 0 0),(11,AV.vec 1),(12,ai i12)],[Qa (bC [] [CP.d zh] z0),AO.vec zr lh_1]⟩)
 |.h4b l1 l6 i8 lh_0=>(4,⟨tm 67 [(1,sl zh l1),(6,sl Q6 l6),(7,AV.vec 0),(8,ai i8)],[AO.vec zh lh_0]⟩)
 |.h12bb l1 l6 i8 i12 z1 lh_0=>(12,⟨tm 67 [(1,sl zh l1),(6,sl Q6 l6),(7,AV.vec 0),(8,ai i8),(10,ptr 1 0),(11,Qb),(12,ai i12)],[AO.vec zh lh_0,Qa (bC [] [CP.d zh] z1)]⟩)
 |.h12bbb l1 l6 i8 i12 z1 lh_0 lh_2=>(12,⟨tm 67 [(1,sl zh l1),(6,sl Q6 l6),(7,AV.vec 0),(8,ai i8),(10,ptr 1 0),(11,AV.vec 2),(12,ai i12)],[AO.vec zh lh_0,Qa (bC [] [CP.d zh] z1),AO.vec zr lh_2]⟩)
def zcl(x0:Sem zz)(x1:Sem zh.sl):Tr (lJ⊕ar):=
 let a0:=(x0.1,x0.2.1,x0.2.2.1,(x0.2.2.2.1.1,x0.2.2.2.1.2.1,x0.2.2.2.1.2.2.1,x0.2.2.2.1.2.2.2.1,x0.2.2.2.1.t.1,zm x0.2.2.2.1.t.2),x0.t)
 Qc (jx a0) (Q9 (lJ.h4 x1 (kK a0) 0))
def gg:lJ->Tr (lJ⊕ar)
 | .h4 l1 l6 i8=>
  let a0:=kP l1 (l6.getD i8.toNat (zi Q6))
  br (Q0 (i8<(↑l6.length:Int)))
  (Qc (zN i8 l6.length) (br (Q0 (a0<0)) (re (tup [Qb,kb Q4]) []) (Qc (zN a0 l1.length) (Q9 (lJ.h12 l1 l6 i8 0 (l1.getD (toNat a0) (zi zh),()))))))
  (re (tup [Qb,kb Q3]) [])
 | .h12 l1 l6 i8 i12 z0=>
  let a0:=(↑(length z0.1.1.t.1):Int)
  let a1:=zN i12 (length z0.1.1.t.1)
  let a2:=getD z0.1.1.t.1 i12.toNat (zi zr)
  let a3:=[a2]
  let a4:=IntKind.i64.wrap (i12+1)
  let a5:=[((z0.1.1.1,z0.1.1.2.1,z0.1.1.2.2.1,z0.1.1.2.2.2.1,[],zm z0.1.1.t.2),z0.1.2)]
  br (Q0 (i12<a0))
  (Qc a1 (Qc (xy l6 a2.2) (br (JC l6 a2.2) (Qc a1 (Qc (Q0 (a3.length<=1073741824)) (Q9 (lJ.h12b l1 l6 i8 a4 z0 a3)))) (Q9 (lJ.h12 l1 l6 i8 a4 z0)))))
  (Qc (Q0 (a5.length<=1073741824)) (Q9 (lJ.h4b l1 l6 (IntKind.i64.wrap (i8+1)) a5)))
 | .h12b l1 l6 i8 i12 z0 lh_1=>
  let a0:=(↑(length z0.1.1.t.1):Int)
  let a1:=zN i12 (length z0.1.1.t.1)
  let a2:=getD z0.1.1.t.1 i12.toNat (zi zr)
  let a3:=[a2]
  let a4:=IntKind.i64.wrap (i12+1)
  let a5:=[((z0.1.1.1,z0.1.1.2.1,z0.1.1.2.2.1,z0.1.1.2.2.2.1,lh_1,zm z0.1.1.t.2),z0.1.2)]
  br (Q0 (i12<a0))
  (Qc a1 (Qc (xy l6 a2.2) (br (JC l6 a2.2) (Qc a1 (Qc (Q0 (lh_1.length+a3.length<=1073741824)) (Q9 (lJ.h12b l1 l6 i8 a4 z0 (lh_1++a3))))) (Q9 (lJ.h12b l1 l6 i8 a4 z0 lh_1)))))
  (Qc (Q0 (a5.length<=1073741824)) (Q9 (lJ.h4b l1 l6 (IntKind.i64.wrap (i8+1)) a5)))
 | .h4b l1 l6 i8 lh_0=>
  let a0:=kP l1 (l6.getD i8.toNat (zi Q6))
  br (Q0 (i8<(↑l6.length:Int)))
  (Qc (zN i8 l6.length) (br (Q0 (a0<0)) (re (tup [Qb,kb Q4]) []) (Qc (zN a0 l1.length) (Q9 (lJ.h12bb l1 l6 i8 0 (l1.getD (toNat a0) (zi zh),()) lh_0)))))
  (re (tup [AV.vec 0,kb Q3]) [AO.vec zh lh_0])
 | .h12bb l1 l6 i8 i12 z1 lh_0=>
  let a0:=(↑(length z1.1.1.t.1):Int)
  let a1:=zN i12 (length z1.1.1.t.1)
  let a2:=getD z1.1.1.t.1 i12.toNat (zi zr)
  let a3:=[a2]
  let a4:=IntKind.i64.wrap (i12+1)
  let a5:=[((z1.1.1.1,z1.1.1.2.1,z1.1.1.2.2.1,z1.1.1.2.2.2.1,[],zm z1.1.1.t.2),z1.1.2)]
  br (Q0 (i12<a0))
  (Qc a1 (Qc (xy l6 a2.2) (br (JC l6 a2.2) (Qc a1 (Qc (Q0 (a3.length<=1073741824)) (Q9 (lJ.h12bbb l1 l6 i8 a4 z1 lh_0 a3)))) (Q9 (lJ.h12bb l1 l6 i8 a4 z1 lh_0)))))
  (Qc (Q0 (lh_0.length+a5.length<=1073741824)) (Q9 (lJ.h4b l1 l6 (IntKind.i64.wrap (i8+1)) (lh_0++a5))))
 | .h12bbb l1 l6 i8 i12 z1 lh_0 lh_2=>
  let a0:=(↑(length z1.1.1.t.1):Int)
  let a1:=zN i12 (length z1.1.1.t.1)
  let a2:=getD z1.1.1.t.1 i12.toNat (zi zr)
  let a3:=[a2]
  let a4:=IntKind.i64.wrap (i12+1)
  let a5:=[((z1.1.1.1,z1.1.1.2.1,z1.1.1.2.2.1,z1.1.1.2.2.2.1,lh_2,zm z1.1.1.t.2),z1.1.2)]
  br (Q0 (i12<a0))
  (Qc a1 (Qc (xy l6 a2.2) (br (JC l6 a2.2) (Qc a1 (Qc (Q0 (lh_2.length+a3.length<=1073741824)) (Q9 (lJ.h12bbb l1 l6 i8 a4 z1 lh_0 (lh_2++a3))))) (Q9 (lJ.h12bbb l1 l6 i8 a4 z1 lh_0 lh_2)))))
  (Qc (Q0 (lh_0.length+a5.length<=1073741824)) (Q9 (lJ.h4b l1 l6 (IntKind.i64.wrap (i8+1)) (lh_0++a5))))
def BM(x0:Sem zz)(x1:Sem zh.sl):=ao [zh.sl,Sh.bool] gg 100000000 (zcl x0 x1)
def Ln(x0:Sem zz)(x1:Sem zh.sl):=(BM x0 x1).isSome
def TA(x0:Sem zz)(x1:Sem zh.sl):=o2 (BM x0 x1)
def zeG:=FT [zz,zh.sl] [zh.sl,Sh.bool] λx=>BM x.1 x.2.1
theorem zaJ:FK 50 zeG:=pP.T1 (f:=Tryz.f50) (keep:=zh5) (e:=zkF)
def w9:=YL.addL [(11,zdP),(50,zeG)]
theorem vP:zx w9:=pP.addL<|fc ZQ<|fc zaJ<|iV
end
noncomputable def cL(p:Sem zz)(src:List (Sem zh)):Int:=if p.1=[99,111,112,121]then(getD src 0 (zi zh)).1.2.2.1 else if p.1=[106,111,105,110]then p.t.2 else getD p.t.1 0 (zi zg)
theorem Pz{p:Sem zz}{src:List (Sem zh)}(h0:0<src.length)(hg:p.1≠[99,111,112,121]->p.1≠[106,111,105,110]->0<length p.t.1):uQ p src=Q1 (cL p src,()):=by
 have hi:zN 0 src.length=Q3:=zt (i:=0) h0;unfold cL;by_cases h1:p.1=[99,111,112,121]
 ·rw[if_pos h1];have e1:(p.1==[99,111,112,121])=Q3:=by simp[h1]
  refine zI (r:=(.int .i64 (getD src 0 (zi zh)).1.2.2.1,[])) ?_ rfl;simp only[We,Q8,e1,hi,if_true];rfl
 ·rw[if_neg h1];have e1:(p.1==[99,111,112,121])=Q4:=by simpa using h1
  by_cases h2:p.1=[106,111,105,110]
  ·rw[if_pos h2];have e2:(p.1==[106,111,105,110])=Q3:=by simp[h2]
   refine zI (r:=(.int .i64 p.t.2,[])) ?_ rfl;simp only[We,Q8,e1,e2,if_true,zE,if_false]
  ·rw[if_neg h2];have e2:(p.1==[106,111,105,110])=Q4:=by simpa using h2
   have hj:zN 0 (length p.t.1)=Q3:=zt (i:=0) (hg h1 h2);refine zI (r:=(.int .i64 (getD p.t.1 0 (zi zg)),[])) ?_ rfl;simp only[We,Q8,e1,e2,hj,if_true,zE,if_false];rfl
def s59(p:Sem zz)(n:Int)(i:Int):List zB->HH
 |[]=>.h7 p.2.2.2.1.2.1 n i [] [] [] [] [] 0 0 [] [] [] 0 0 [] [] [] p.1 p.2.2.2.1.1 p.2.1 [] (zf.op p.2.2.2.1.t.2) (zf.v p.2.2.2.1.t.2).1 (zf.v p.2.2.2.1.t.2).2.1 (zf.v p.2.2.2.1.t.2).2.2 (zf.s p.2.2.2.1.t.2) (zf.l p.2.2.2.1.t.2) [] 0 0 [] [] p.2.2.1
 |a::r=>.h7b p.2.2.2.1.2.1 n i [] [] [] [] [] 0 0 [] [] [] 0 0 [] [] [] p.1 p.2.2.2.1.1 p.2.1 [] (zf.op p.2.2.2.1.t.2) (zf.v p.2.2.2.1.t.2).1 (zf.v p.2.2.2.1.t.2).2.1 (zf.v p.2.2.2.1.t.2).2.2 (zf.s p.2.2.2.1.t.2) (zf.l p.2.2.2.1.t.2) [] 0 0 [] [] p.2.2.1 (a::r)
theorem W5{p:Sem zz}{i:Nat}(acc:List zB)(hi:i<length p.2.2.2.1.2.1)(hb:acc.length<=1000)(hib:i<=1000):(xP (s59 p (length p.2.2.2.1.2.1:Int) (i:Int) acc)).val=Q1 (.inl (s59 p (length p.2.2.2.1.2.1:Int) ((i+1:Nat):Int) (acc++[(getD p.2.2.2.1.2.1 i (zi zj)).1]))):=by
 cases acc with
 | nil=>
  show(xP (.h7 _ _ _ _ _ _ _ _ _ _ _ _ _ _ _ _ _ _ _ _ _ _ _ _ _ _ _ _ _ _ _ _ _ _)).val=_;simp only[xP,Q8,zH hi,zt hi,if_true,aK];rw[if_pos sw,zp i um];rfl
 | cons a r=>
  show(xP (.h7b _ _ _ _ _ _ _ _ _ _ _ _ _ _ _ _ _ _ _ _ _ _ _ _ _ _ _ _ _ _ _ _ _ _ _)).val=_;simp only[xP,Q8,zH hi,zt hi,if_true,aK];rw[if_pos (by simp at hb⊢;omega),zp i um];rfl
theorem Tm{p:Sem zz}{src:List (Sem zh)}(h0:0<src.length)(hl:length p.2.2.2.1.2.1<=1000):Gf p src=Q1 (iL p src,()):=by
 have hi:zN 0 src.length=Q3:=zt (i:=0) h0;by_cases h2:p.1=[106,111,105,110]
 ·have e2:(p.1==[106,111,105,110])=Q3:=by simp[h2]
  unfold iL;rw[if_pos h2,if_pos h2];by_cases hc:LE.le (α:=Int) 0 p.t.2/\LT.lt (α:=Int) p.t.2 (length (getD src 0 (zi zh)).1.2.1)
  ·rw[if_pos hc];have e3:Q0 (GE.ge (α:=Int) p.t.2 0)=Q3:=zu hc.1;have e4:Q0 (LT.lt (α:=Int) p.t.2 (length (getD src 0 (zi zh)).1.2.1))=Q3:=zu hc.2;have e5:zN p.t.2 (length (getD src 0 (zi zh)).1.2.1)=Q3:=by
    unfold zN;rw[aD];exact⟨zu hc.1,zu (by have:=hc.1;have:=hc.2;omega)⟩
   have hv:(Wl p src).val=Q1 (.inr (agg [str p.1,str p.2.2.2.1.1,str p.2.1,Qb,Qb,str (getD (getD src 0 (zi zh)).1.2.1 (toNat p.t.2) (zi zj)).1,Qb,Qb,str (zf.op p.2.2.2.1.t.2),ai (zf.v p.2.2.2.1.t.2).1,
     ai (zf.v p.2.2.2.1.t.2).2.1,str (zf.v p.2.2.2.1.t.2).2.2,str (zf.s p.2.2.2.1.t.2),sl Q5 (zf.l p.2.2.2.1.t.2),Qb,Qb,str [],ai 0,ai 0,str [],str [],Qb,str p.2.2.1],[])):=by
    show(br _ (Qc _ (br _ (Qc _ (Qc _ (re _ _))) (re _ _))) (Q9 _)).val=_;have e3':Q0 (p.t.2>=0)=Q3:=e3;simp only[Q8,e2,e3',hi,ah,if_true];have e4':Q0 (p.t.2<(↑(length (getD src (toNat 0) (zi zh)).1.2.1):Int))=Q3:=e4;have e5':zN p.t.2 (length (getD src (toNat 0) (zi zh)).1.2.1)=Q3:=e5;rw[if_pos e4',if_pos e5'];rfl
   refine zI hv ?_;rw[<-zk p.2.2.2.1.t.2];rfl
  ·rw[if_neg hc]
   have hv:(Wl p src).val=Q1 (.inr (agg [str p.1,str p.2.2.2.1.1,str p.2.1,Qb,Qb,str [],Qb,Qb,str (zf.op p.2.2.2.1.t.2),ai (zf.v p.2.2.2.1.t.2).1,
     ai (zf.v p.2.2.2.1.t.2).2.1,str (zf.v p.2.2.2.1.t.2).2.2,str (zf.s p.2.2.2.1.t.2),sl Q5 (zf.l p.2.2.2.1.t.2),Qb,Qb,str [],ai 0,ai 0,str [],str [],Qb,str p.2.2.1],[])):=by
    have ec:(bif Q0 (p.t.2>=0)then Q0 (p.t.2<(↑(length (getD src (toNat 0) (zi zh)).1.2.1):Int))else Q4)=Q4:=by
     by_cases c1:LE.le (α:=Int) 0 p.t.2
     ·have c2:¬LT.lt (α:=Int) p.t.2 (length (getD src 0 (zi zh)).1.2.1):=λc=>hc ⟨c1,c⟩
      rw[show Q0 (p.t.2>=0)=Q3 from zu c1,ah];exact aj c2
     ·rw[show Q0 (p.t.2>=0)=Q4 from aj c1,ay]
    have ed:(bif Q0 (p.t.2>=0)then zN 0 (length src)else Q3)=Q3:=by rw[hi];cases Q0 (p.t.2>=0)<;>rfl
    show(br _ (Qc _ (br _ (Qc _ (Qc _ (re _ _))) (re _ _))) (Q9 _)).val=_;simp only[Q8,e2,if_true];rw[if_pos ed];simp only[ec,zE,if_false]
   refine zI hv ?_;rw[<-zk p.2.2.2.1.t.2];rfl
 ·have e2:(p.1==[106,111,105,110])=Q4:=by simpa using h2
  have hs:(Wl p src).val=Q1 (.inl (s59 p (length p.2.2.2.1.2.1:Int) ((0:Nat):Int) [])):=by
   show(br _ (Qc _ (br _ (Qc _ (Qc _ (re _ _))) (re _ _))) (Q9 _)).val=_;simp only[Q8,e2,zE,if_false];rfl
  have hg:=zP.all (t:=xP) 1 (λi=>s59 p (length p.2.2.2.1.2.1:Int) (i:Int) ((p.2.2.2.1.2.1.take i).map λc:Sem zj=>c.1)) (length p.2.2.2.1.2.1) λi hi=>zP.of (by
   rw[W5 _ hi sg ow];congr 3;rw[cj hi,iI,bd,zS hi];rfl)
  simp only[List.take_zero,List.map_nil,jN]at hg;unfold iL;rw[if_neg h2,if_neg h2];generalize hm:(p.2.2.2.1.2.1.map λc:Sem zj=>c.1)=names at hg;have hend:∃r,zT xP 1 (s59 p (length p.2.2.2.1.2.1:Int) (length p.2.2.2.1.2.1:Int) names) r/\aM r.2 [zl] r.1=Q1 ((p.1,p.2.2.2.1.1,p.2.1,names,[],[],[],[],p.2.2.2.1.t.2,[],[],dl,p.2.2.1),()):=by
   cases names with
   | nil=>
    refine⟨_,zT.of (by
     show(xP (.h7 _ _ _ _ _ _ _ _ _ _ _ _ _ _ _ _ _ _ _ _ _ _ _ _ _ _ _ _ _ _ _ _ _ _)).val=_;simp only[xP,Q8,zA,zE,if_false];rfl),?_⟩
    rw[<-zk p.2.2.2.1.t.2];rfl
   | cons a r=>
    refine⟨_,zT.of (by
     show(xP (.h7b _ _ _ _ _ _ _ _ _ _ _ _ _ _ _ _ _ _ _ _ _ _ _ _ _ _ _ _ _ _ _ _ _ _ _)).val=_;simp only[xP,Q8,zA,zE,if_false];rfl),?_⟩
    rw[<-zk p.2.2.2.1.t.2];rfl
  obtain⟨r,r1,r2⟩:=hend;exact zw hs (hg.ends r1) ow r2
structure HC (p:Sem zz) (src:List (Sem zh)):Prop where
 names:src.map (λx:Sem zh=>x.1.1)=bJ p.2.1 p.2.2.1
 two:two src=Q3
 plan:aT (fD src) (iL p src)=(0,p)
 few:Kd (iL p src)
 short:∀x∈fD src,gH x
 cols:length p.2.2.2.1.2.1<=1000
 same:Gd p p=Q3/\I8 p p=Q3
theorem nJ{src:List (Sem zh)}(h:two src=Q3):0<src.length/\src.length<=2:=by
 match src,h with
 |[_],_=>simp
 |[_,_],_=>simp
theorem WN{p:Sem zz}{src:List (Sem zh)}(h:HC p src):Na p src=Q1 (0,()):=by
 obtain⟨l0,l2⟩:=nJ h.two;have hlen:(bJ p.2.1 p.2.2.1).length=src.length:=by rw[<-h.names,da]
 have hs:(zhr p src).val=Q1 (.inl (.h6 src (bJ p.2.1 p.2.2.1) src (src.length:Int) ((0:Nat):Int) (p,()))):=by
  have e:((src.length:Int)!=((bJ p.2.1 p.2.2.1).length:Int))=Q4:=by rw[hlen];simp
  show(br ((src.length:Int)!=((bJ p.2.1 p.2.2.1).length:Int)) _ _).val=_;rw[e];rfl
 have hg:=zP.all (t:=Xb) 1 (λi=>.h6 src (bJ p.2.1 p.2.2.1) src (src.length:Int) (i:Int) (p,())) src.length λi hi=>zP.of (by
  have hn:(!((getD src i (zi zh)).1.1:zB)==(bJ p.2.1 p.2.2.1).getD i (zi Q6))=Q4:=by
   rw[<-h.names,bd,bd,fa,zS hi];simp
  simp only[Xb,Q8,zH hi,zt hi,zt (show i<(bJ p.2.1 p.2.2.1).length by omega),if_true,aK,hn,zE,if_false];rw[zp i um])
 have hst:=Tm (p:=p) l0 h.cols;have c1:Lh p src=Q3:=by unfold Lh;rw[hst];rfl
 have c2:Tl p src=iL p src:=by unfold Tl;rw[hst];rfl
 have hp:I7 (fD src) (iL p src)=Q1 ((aT (fD src) (iL p src)).2,(aT (fD src) (iL p src)).1,()):=zda h.short (by rw[ED];omega) h.few;rw[h.plan]at hp;have c3:zc9 (fD src) (iL p src)=Q3:=by unfold zc9;rw[hp];rfl
 have c4:pOf (fD src) (iL p src)=(p,0):=by unfold pOf;rw[hp];rfl
 refine zw hs (hg.ends (k:=1) (r:=(.int .i64 0,[])) (zT.of ?_)) ow rfl;simp only[Xb,Q8,zA,zk,Prod.eta,c1,c2,c3,c4,h.two,h.same.1,h.same.2,zE,if_false];simp[l0,show src.length<=1000 by omega]
theorem Gc{p:Sem zz}{src:List (Sem zh)}(h:HC p src):EL p src=Q3/\O7 p src=0:=by
 have:=WN h;exact⟨by unfold EL;rw[this];rfl,by unfold O7;rw[this];rfl⟩
def s50(db:List (Sem zh))(ns:List zB)(j:Int)(i:Int)(x:Sem zh):List (Sem zh)->List (Sem zr)->lJ
 |[],[]=>.h12 db ns j i (x,())
 |[],b::r=>.h12b db ns j i (x,()) (b::r)
 |a::l,[]=>.h12bb db ns j i (x,()) (a::l)
 |a::l,b::r=>.h12bbb db ns j i (x,()) (a::l) (b::r)
def LK(db:List (Sem zh))(ns:List zB)(j:Int):List (Sem zh)->lJ
 |[]=>.h4 db ns j
 |a::l=>.h4b db ns j (a::l)
theorem W1{db:List (Sem zh)}{ns:List zB}{j:Int}{x:Sem zh}{acc:List (Sem zh)}{b:List (Sem zr)}{i:Nat}(hi:i<length x.1.t.1)(hn:ns.length<=1000)(hb:b.length<=1000)(hib:i<=1000):
  (gg (s50 db ns j (i:Int) x acc b)).val=Q1 (.inl (s50 db ns j ((i+1:Nat):Int) x acc (if aA ns (getD x.1.t.1 i (zi zr)).2=Q3 then b++[getD x.1.t.1 i (zi zr)]else b))):=by
 obtain⟨r1,r2⟩:=GP (l:=ns) (s:=(getD x.1.t.1 i (zi zr)).2) ow;cases acc with
 | nil=>
  cases b with
  | nil=>
   show(gg (.h12 _ _ _ _ _)).val=_;simp only[gg,Q8,zH hi,zt hi,if_true,aK,r1,r2];rw[zp i um];split
   ·rw[if_pos sw];rfl
   ·rfl
  | cons c r=>
   show(gg (.h12b _ _ _ _ _ _)).val=_;simp only[gg,Q8,zH hi,zt hi,if_true,aK,r1,r2];rw[zp i um];split
   ·rw[if_pos (by simp at hb⊢;omega)];rfl
   ·rfl
 | cons a l=>
  cases b with
  | nil=>
   show(gg (.h12bb _ _ _ _ _ _)).val=_;simp only[gg,Q8,zH hi,zt hi,if_true,aK,r1,r2];rw[zp i um];split
   ·rw[if_pos sw];rfl
   ·rfl
  | cons c r=>
   show(gg (.h12bbb _ _ _ _ _ _ _)).val=_;simp only[gg,Q8,zH hi,zt hi,if_true,aK,r1,r2];rw[zp i um];split
   ·rw[if_pos (by simp at hb⊢;omega)];rfl
   ·rfl
theorem W0{db:List (Sem zh)}{ns:List zB}{j:Nat}{x:Sem zh}{acc:List (Sem zh)}{b:List (Sem zr)}(hj:j<=1000)(ha:acc.length<=1000):
  (gg (s50 db ns (j:Int) (length x.1.t.1:Int) x acc b)).val=Q1 (.inl (LK db ns ((j+1:Nat):Int) (acc++[((x.1.1,x.1.2.1,x.1.2.2.1,x.1.2.2.2.1,b,x.1.t.2),x.2)]))):=by
 cases acc with
 | nil=>
  cases b with
  | nil=>
   show(gg (.h12 _ _ _ _ _)).val=_;simp only[gg,Q8,zA,zE,if_false,zk];rw[zp j um,if_pos sw];rfl
  | cons c r=>
   show(gg (.h12b _ _ _ _ _ _)).val=_;simp only[gg,Q8,zA,zE,if_false,zk];rw[zp j um,if_pos sw];rfl
 | cons a l=>
  cases b with
  | nil=>
   show(gg (.h12bb _ _ _ _ _ _)).val=_;simp only[gg,Q8,zA,zE,if_false,zk];rw[zp j um,if_pos (by simp at ha⊢;omega)];rfl
  | cons c r=>
   show(gg (.h12bbb _ _ _ _ _ _ _)).val=_;simp only[gg,Q8,zA,zE,if_false,zk];rw[zp j um,if_pos (by simp at ha⊢;omega)];rfl
theorem zdh{db:List (Sem zh)}{ns:List zB}{j:Nat}{x:Sem zh}{acc:List (Sem zh)}(hn:ns.length<=1000)(hj:j<=1000)(ha:acc.length<=1000)(hr:length x.1.t.1<=1000):
  zP gg 1002 (s50 db ns (j:Int) ((0:Nat):Int) x acc []) (LK db ns ((j+1:Nat):Int) (acc++[kr (aA ns) x])):=by
 have hg:=zP.all (t:=gg) 1 (λi=>s50 db ns (j:Int) (i:Int) x acc ((x.1.t.1.take i).filter λf:Sem zr=>aA ns f.2)) (length x.1.t.1) λi hi=>zP.of (by
  rw[W1 hi hn (cG (List.length_filter_le _ _) sg) ow];congr 3;rw[cj hi,List.filter_append,bd,zS hi];cases h:aA ns (x.1.t.1[i]:Sem zr).2<;>simp[h])
 simp only[List.take_zero,List.filter_nil,jN]at hg;refine(hg.trans (zP.of (W0 hj ha))).mono ow
theorem TB{db:List (Sem zh)}{p:Sem zz}(hs:∀x∈db,gH x)(hf:∀n∈bJ p.2.1 p.2.2.1,LE.le (α:=Int) 0 (zV db n)):BM p db=Q1 (aC db p,Q3,()):=by
 have hi:(zcl p db).val=Q1 (.inl (LK db (bJ p.2.1 p.2.2.1) ((0:Nat):Int) [])):=by
  simp only[zcl,zk,Prod.eta,Q8,rz,tT,if_true];rfl
 have hl:(bJ p.2.1 p.2.2.1).length<=2:=by unfold bJ;split<;>simp
 unfold aC;generalize bJ p.2.1 p.2.2.1=ns at hi hl hf⊢;have hg:=zP.all (t:=gg) 1003 (λj=>LK db ns (j:Int) ((ns.take j).map λn=>kr (aA ns) (aB db n))) ns.length λj hj=>by
  have hfj:=hf ns[j] (bu hj);have hne:Q0 (zV db ns[j]<0)=Q4:=by simpa using hfj
  have hin:=dv hfj;have hx:=hs _ (mg hfj);have h1:zP gg 1 (LK db ns (j:Int) ((ns.take j).map λn=>kr (aA ns) (aB db n))) (s50 db ns (j:Int) ((0:Nat):Int) (aB db ns[j]) ((ns.take j).map λn=>kr (aA ns) (aB db n)) []):=zP.of (by
   generalize((ns.take j).map λn=>kr (aA ns) (aB db n))=acc;cases acc with
   | nil=>
    show(gg (.h4 _ _ _)).val=_;simp only[gg,Q8,zH hj,zt hj,if_true,zO _ _ hj,dp,hne,hin,zE,if_false];rfl
   | cons a l=>
    show(gg (.h4b _ _ _ _)).val=_;simp only[gg,Q8,zH hj,zt hj,if_true,zO _ _ hj,dp,hne,hin,zE,if_false];rfl)
  have h2:=(h1.trans (zdh (x:=aB db ns[j]) ow ow sg hx.rf)).mono (b:=1003) ow;show zP gg 1003 _ (LK db ns ((j+1:Nat):Int) ((ns.take (j+1)).map λn=>kr (aA ns) (aB db n)));rw[cj hj,iI];exact h2
 simp only[List.take_zero,List.map_nil,jN]at hg;generalize hm:(ns.map λn=>kr (aA ns) (aB db n))=acc at hg;have hend:∃r,zT gg 1 (LK db ns (ns.length:Int) acc) r/\aM r.2 [zh.sl,Sh.bool] r.1=Q1 (acc,Q3,()):=by
  cases acc with
  | nil=>
   refine⟨_,zT.of (by
    show(gg (.h4 _ _ _)).val=_;simp only[gg,Q8,zA,zE,if_false];rfl),rfl⟩
  | cons a l=>
   refine⟨_,zT.of (by
    show(gg (.h4b _ _ _ _)).val=_;simp only[gg,Q8,zA,zE,if_false];rfl),rfl⟩
 obtain⟨r,r1,r2⟩:=hend;exact zw hi (hg.ends r1) ow r2
def Fe(a b:Sem ze):Bool:=a.1==b.1&&(a.2.1==b.2.1&&(a.2.2==b.2.2&&Q3))
theorem qN{a b:Sem ze}:Fe a b=Q3↔a=b:=by
 obtain⟨a1,a2,a3⟩:=a;obtain⟨b1,b2,b3⟩:=b;unfold Fe;simp
def uW(at':Int)(v:Sem ze)(row:List (Sem ze)):Bool:=bif Fe (getD row at'.toNat (zi ze)) v then v.1!=0 else Q4
theorem lw{at':Int}{v:Sem ze}{row:List (Sem ze)}:uW at' v row=Q3↔getD row at'.toNat (zi ze)=v/\v.1≠0:=by
 unfold uW;rw[<-qN];cases Fe (getD row at'.toNat (zi ze)) v<;>simp
def uw(at':Int)(l:List (List (Sem ze)))(n:Int)(i:Int)(v:Sem ze):List (List (Sem ze))->C5
 |[]=>.h6 at' l n i (v,())
 |a::r=>.h6b at' l n i (v,()) (a::r)
theorem WZ{at':Int}{l:List (List (Sem ze))}{v:Sem ze}{acc:List (List (Sem ze))}{i:Nat}(hi:i<l.length)(hl:l.length<=1000)(ha:acc.length<=1000)(hin:zN at' (length l[i])=Q3)(hr:length l[i]<=1000):
  (xO (uw at' l (l.length:Int) (i:Int) v acc)).val=Q1 (.inl (uw at' l (l.length:Int) ((i+1:Nat):Int) v (if uW at' v l[i]=Q3 then acc++[l[i]]else acc))):=by
 cases acc with
 | nil=>
  show(xO (.h6 _ _ _ _ _)).val=_;simp only[xO,Q8,zH hi,zt hi,if_true,zO _ _ hi,hin];rw[zp i um];show(if uW at' v l[i]=Q3 then _ else _)=_;split
  ·rw[if_pos (by simpa using(by omega:length l[i]<=1073741824)),if_pos sw];rfl
  ·rfl
 | cons c r=>
  show(xO (.h6b _ _ _ _ _ _)).val=_;simp only[xO,Q8,zH hi,zt hi,if_true,zO _ _ hi,hin];rw[zp i um];show(if uW at' v l[i]=Q3 then _ else _)=_;split
  ·rw[if_pos (by simpa using(by omega:length l[i]<=1073741824)),if_pos (by simp at ha⊢;omega)];rfl
  ·rfl
theorem Uk{p:Sem zz}{src:List (Sem zh)}(v:Sem ze)(h:HC p src)(hc:jl p src=Q3)(hl:length (getD src 0 (zi zh)).2<=1000)(hr:∀row∈(getD src 0 (zi zh)).2,zN (bT p src) (length row)=Q3/\length row<=1000):
  CV p src v=Q1 ((getD src 0 (zi zh)).2.filter (uW (bT p src) v),0,()):=by
 obtain⟨c1,c2⟩:=Gc h;have l0:=(nJ h.two).1;have hi:(zcd p src v).val=Q1 (.inl (uw (bT p src) (getD src 0 (zi zh)).2 (length (getD src 0 (zi zh)).2:Int) ((0:Nat):Int) v [])):=by
  simp only[zcd,zk,Prod.eta,Q8,c1,c2,hc,show zN 0 src.length=Q3 from zt (i:=0) l0,iH,zE,if_true,if_false];rfl
 generalize(getD src 0 (zi zh)).2=l at hi hl hr⊢;generalize bT p src=at' at hi hr⊢;have hg:=zP.all (t:=xO) 1 (λi=>uw at' l (l.length:Int) (i:Int) v ((l.take i).filter (uW at' v))) l.length λi hi=>zP.of (by
  have hx:=hr l[i] (bu hi);rw[WZ hi hl (cG (List.length_filter_le _ _) sg) hx.1 hx.2];congr 3;rw[cj hi,List.filter_append];cases h:uW at' v l[i]<;>simp[h])
 simp only[List.take_zero,List.filter_nil,jN]at hg;generalize l.filter (uW at' v)=acc at hg⊢;have hend:∃r,zT xO 1 (uw at' l (l.length:Int) (l.length:Int) v acc) r/\aM r.2 [ze.sl.sl,zg] r.1=Q1 (acc,0,()):=by
  cases acc with
  | nil=>
   refine⟨_,zT.of (by
    show(xO (.h6 _ _ _ _ _)).val=_;simp only[xO,Q8,zA,zE,if_false];rfl),rfl⟩
  | cons a r=>
   refine⟨_,zT.of (by
    show(xO (.h6b _ _ _ _ _ _)).val=_;simp only[xO,Q8,zA,zE,if_false];rfl),rfl⟩
 obtain⟨r,r1,r2⟩:=hend;exact zw hi (hg.ends r1) ow r2
def sx(u:Sem ze):List (Sem ze)->List (Sem ze)
 |[]=>[u]
 |o::r=>if LT.lt (α:=Int) (cO o u) 0 then o::sx u r else if(o==u)=Q3 then o::r else u::o::r
def oE(l:List (Sem ze)):List (Sem ze):=l.foldl (λacc u=>if((u:Sem ze).1==0)=Q3 then acc else sx u acc) []
theorem mH{a b:Sem ze}(ha:aW a=Q3)(hb:aW b=Q3)(h:¬xF a b):a=b\/xF b a:=by
 have ka:ap a=a:=by unfold ap;rw[ha];rfl
 have kb:ap b=b:=by unfold ap;rw[hb];rfl
 rw[uR,ka,kb]at h⊢;obtain⟨k,n,s⟩:=a;obtain⟨k',n',s'⟩:=b;unfold Lx at h⊢;simp only at h⊢;have h1:¬k<k':=λe=>h (.inl e)
 rcases Int.lt_or_eq_of_le (Int.not_lt.1 h1)with e|e
 ·exact .inr (.inl e)
 have h2:¬n<n':=λg=>h (.inr ⟨e.symm,.inl g⟩)
 rcases Int.lt_or_eq_of_le (Int.not_lt.1 h2)with g|g
 ·exact .inr (.inr ⟨e,.inl g⟩)
 by_cases hs:s=s'
 ·exact .inl (by rw[e,g,hs])
 ·refine .inr (.inr ⟨e,.inr ⟨g,jE ?_ hs⟩⟩);cases hx:Op.bytesLess s s'
  ·rfl
  ·exact absurd (.inr ⟨e.symm,.inr ⟨g.symm,hx⟩⟩) h
theorem tN{u:Sem ze}:∀{l:List (Sem ze)}{x:Sem ze},x∈sx u l↔x=u\/x∈l
 |[],x=>by simp[sx]
 | o::r,x=>by
  unfold sx;split
  ·rw[cm,tN,cm];exact⟨λh=>by rcases h with h|h|h<;>simp[h],λh=>by rcases h with h|h|h<;>simp[h]⟩
  ·split
   ·rename_i h;have h:=bE h;subst h;simp
   ·simp
theorem E8{u:Sem ze}(hu:aW u=Q3):∀{l:List (Sem ze)},(∀x∈l,aW x=Q3)->l.Pairwise xF->(sx u l).Pairwise xF
 |[],_,_=>by simp[sx]
 | o :: r,hl,h=>by
  obtain⟨h1,h2⟩:=List.pairwise_cons.1 h;unfold sx;split
  ·rename_i hlt;refine List.pairwise_cons.2 ⟨λx hx=>?_,E8 hu (λx hx=>hl x (by simp[hx])) h2⟩;rcases tN.1 hx with rfl|hx
   ·exact hlt
   ·exact h1 x hx
  ·rename_i hn;split
   ·exact h
   ·rename_i hne;have ho:xF u o:=by
     rcases mH (hl o sw) hu hn with e|e
     ·exact absurd (by rw[e];simp) hne
     ·exact e
    refine List.pairwise_cons.2 ⟨λx hx=>?_,h⟩;rcases cm.1 hx with rfl|hx
    ·exact ho
    ·exact g7 ho (h1 x hx)
theorem vT:∀(l acc:List (Sem ze)),(∀x∈l,aW x=Q3)->(∀x∈acc,aW x=Q3)->acc.Pairwise xF->
  (l.foldl (λacc u=>if((u:Sem ze).1==0)=Q3 then acc else sx u acc) acc).Pairwise xF/\∀x,x∈l.foldl (λacc u=>if((u:Sem ze).1==0)=Q3 then acc else sx u acc) acc↔x∈acc\/(x∈l/\x.1≠0)
 |[],acc,_,_,h=>⟨h,λx=>by simp⟩
 | u::r,acc,hl,ha,h=>by
  rw[List.foldl_cons];by_cases hu:(u.1==0)=Q3
  ·rw[if_pos hu];obtain⟨h1,h2⟩:=vT r acc (λx hx=>hl x (by simp[hx])) ha h;refine⟨h1,λx=>(h2 x).trans ⟨λh=>h.imp id λh=>⟨by simp[h.1],h.2⟩,λh=>h.imp id λh=>⟨?_,h.2⟩⟩⟩;rcases cm.1 h.1 with rfl|h'
   ·exact absurd (bE hu) h.2
   ·exact h'
  ·rw[if_neg hu];have hm:=hl u sw;obtain⟨h1,h2⟩:=vT r (sx u acc) (λx hx=>hl x (by simp[hx])) (λx hx=>by
    rcases tN.1 hx with rfl|hx
    ·exact hm
    ·exact ha x hx) (E8 hm ha h)
   refine⟨h1,λx=>(h2 x).trans ?_⟩;rw[tN,cm];refine⟨λh=>?_,λh=>?_⟩
   ·rcases h with(rfl|h)|h
    ·exact .inr ⟨.inl rfl,λe=>hu (by rw[e];rfl)⟩
    ·exact .inl h
    ·exact .inr ⟨.inr h.1,h.2⟩
   ·rcases h with h|⟨rfl|h,h'⟩
    ·exact .inl (.inr h)
    ·exact .inl (.inl rfl)
    ·exact .inr ⟨h,h'⟩
theorem mQ{l:List (Sem ze)}(h:∀x∈l,aW x=Q3):(oE l).Pairwise xF/\∀x,x∈oE l↔x∈l/\x.1≠0:=by
 obtain⟨h1,h2⟩:=vT l [] h sw sw;exact⟨h1,λx=>(h2 x).trans sw⟩
theorem GX:∀{l m:List (Sem ze)},l.Pairwise xF->m.Pairwise xF->(∀x,x∈l↔x∈m)->l=m
 |[],[],_,_,_=>rfl
 |[],b::m,_,_,h=>by have:=(h b).2 sw;simp at this
 |a::l,[],_,_,h=>by have:=(h a).1 sw;simp at this
 | a::l,b::m,h1,h2,h=>by
  obtain⟨a1,a2⟩:=List.pairwise_cons.1 h1;obtain⟨b1,b2⟩:=List.pairwise_cons.1 h2;have e:a=b:=by
   rcases cm.1 ((h a).1 sw)with e|e
   ·exact e
   ·rcases cm.1 ((h b).2 sw)with g|g
    ·exact g.symm
    ·exact absurd (g7 (a1 _ g) (b1 _ e)) gO
  subst e;rw[GX a2 b2 λx=>⟨λhx=>?_,λhx=>?_⟩]
  ·rcases cm.1 ((h x).1 (by simp[hx]))with rfl|hx'
   ·exact absurd (a1 _ hx) gO
   ·exact hx'
  ·rcases cm.1 ((h x).2 (by simp[hx]))with rfl|hx'
   ·exact absurd (b1 _ hx) gO
   ·exact hx'
theorem IJ(u:Sem ze):∀l:List (Sem ze),(sx u l).length<=l.length+1
 |[]=>by simp[sx]
 | o::r=>by
  unfold sx;split
  ·have:=IJ u r;simp only[fb];omega
  ·split<;>simp
theorem IB:∀(l acc:List (Sem ze)),(l.foldl (λacc u=>if((u:Sem ze).1==0)=Q3 then acc else sx u acc) acc).length<=acc.length+l.length
 |[],acc=>by simp
 | u::r,acc=>by
  rw[List.foldl_cons];refine cG (IB r _) ?_;split
  ·simp
  ·have:=IJ u acc;simp only[fb];omega
theorem Qm(l:List (Sem ze)):(oE l).length<=l.length:=by
 have:=IB l [];simpa[oE]using this
def Fp(p:Sem zz):Prop:=p.2.2.2.1.2.1.length<=1000/\p.2.2.2.1.2.2.2.1.length<=1000000/\p.2.2.2.1.t.1.length<=1000000/\qU 16 p.2.2.2.1.t.2=Q3/\p.t.1.length<=1000000
theorem mD:Fp jw:=⟨aZ _,aZ _,aZ _,rfl,aZ _⟩
theorem sf{e:Int}{p:Sem zz}(h:e=0->Fp p):Fp (js e p).2:=by
 unfold js;split
 ·split
  ·exact h (by assumption)
  ·exact mD
 ·exact mD
theorem Lj(db:List (Sem zh)){s:Sem zl}(hf:Kd s):Fp (aT db s).2:=by
 have hn:=hf.sh.names.1;unfold aT;split;rotate_left
 ·exact mD
 split;rotate_left
 ·exact mD
 unfold dh;split
 ·refine sf λ_=>⟨?_,aZ _,aZ _,hf.cp,?_⟩
  ·show(gr _ _).length<=_;unfold gr;rw[da];omega
  ·show(kG _ _).length<=_;unfold kG;rw[da];omega
 split
 ·refine sf λh=>?_
  have h9:(aw db s.2.2.1).2.1.length+(fV db s.t.t.t).2.1.length<=9:=by
   unfold gW at h;split at h
   ·cases h
   split at h;rotate_left
   ·cases h
   split at h
   ·cases h
   ·omega
  have ho:=o6 (fV db s.t.t.t).2.2.1 (length (fV db s.t.t.t).2.1);refine⟨?_,aZ _,aZ _,hf.cp,?_⟩
  ·show(_++gv _ _).length<=_;unfold gv;rw[jM,da];omega
  ·show(jV _ _).length<=_;unfold jV;rw[da];omega
 split
 ·refine sf λ_=>⟨?_,aZ _,aZ _,hf.cp,?_⟩
  ·show(Di _ _).length<=_;unfold Di;simp
  ·show(kG _ _).length<=_;unfold kG;rw[da];omega
 ·exact mD
noncomputable def dJ(db:List (Sem zh))(p:Sem zz):Sem zh:=getD (aC db p) 0 (zi zh)
structure bl (db:List (Sem zh)) (p:Sem zz):Prop where
 go:HC p (aC db p)
 rel:ee (dJ db p)
 plc:uQ p (aC db p)=Q1 (cL p (aC db p),())
 inn:∀row∈(dJ db p).2,zN (cL p (aC db p)) (length row)=Q3/\length row=length (dJ db p).1.2.1
 fnd:∀n∈bJ p.2.1 p.2.2.1,LE.le (α:=Int) 0 (zV db n)
 mig:jt p.1
 col:LE.le (α:=Int) 0 (cL p (aC db p))/\LT.lt (α:=Int) (cL p (aC db p)) (length (dJ db p).1.2.1)
theorem Ts{db:List (Sem zh)}{s:Sem zl}(hdb:∀x∈db,gH x)(hp:(aT db s).1=0)(hf:Kd s):bl db (aT db s).2:=by
  obtain⟨hm,hmay,hb,hfd,hne,hask⟩:=Nd hp;obtain⟨c1,c2,_,c4,c5,c6⟩:=Pp hdb hp hf.sh;have hB:=(jZ hdb).1 hb;obtain⟨b1,b2,b3,b4,b5⟩:=Lj db hf;have hparts:=lE hmay;have hp0:(dh db s).1=0:=by rw[<-hask];exact hp
  obtain⟨f1,f2,f3⟩:=HV hp0;rw[hask]at c1 c2 c4 c5 c6 b1 b2 b3 b4 b5⊢;have hfd':∀n∈bJ (dh db s).2.2.1 (dh db s).2.2.2.1,LE.le (α:=Int) 0 (zV db n):=by rw[f2,f3];exact hfd
  have hfr:LE.le (α:=Int) 0 (zV db s.2.2.1):=hfd _ (by unfold bJ;split<;>simp);have hx:dJ db (dh db s).2=kr (aA (bJ s.2.2.1 (dK s))) (aB db s.2.2.1):=by
    unfold dJ aC;rw[f2,f3];have:∃r,bJ s.2.2.1 (dK s)=s.2.2.1::r:=by unfold bJ;split<;>exact⟨_,rfl⟩
    obtain⟨r,e⟩:=this;rw[e];rfl
  have hxr:ee (dJ db (dh db s).2):=by rw[hx];exact(hB.rels _ (nD hfr).1).cut
  have hcols:(dJ db (dh db s).2).1.2.1=(aw db s.2.2.1).2.1:=by rw[hx];rfl
  obtain⟨m1,m2⟩:=Tk (b:=(dh db s).2) (by omega) b2 b3 b4 b5;have hlen:∀row∈(dJ db (dh db s).2).2,length row=length (dJ db (dh db s).2).1.2.1:=λrow hr=>(fy (hxr.fits row hr)).1
  have hplc:(LE.le (α:=Int) 0 (cL (dh db s).2 (aC db (dh db s).2))/\LT.lt (α:=Int) (cL (dh db s).2 (aC db (dh db s).2)) (length (dJ db (dh db s).2).1.2.1))/\((dh db s).2.1≠[99,111,112,121]->(dh db s).2.1≠[106,111,105,110]->0<length (dh db s).2.2.2.2.2.1):=by
    unfold cL;rw[f1];rcases hm with ho|ho|ho
    · rw[if_pos ho]
      refine⟨?_,λh=>absurd ho h⟩;obtain⟨k1,_⟩:=gX hxr.may;exact k1
    · have n1:s.1≠[99,111,112,121]:=by rw[ho];decide
      rw[if_neg n1,if_pos ho];refine⟨?_,λ_ h=>absurd ho h⟩
      have e:(dh db s)=js (gW (aw db s.2.2.1) (fV db s.2.2.2.2.2.2.2.2.2.2.2.2) s.2.2.2.2.2.1 s.2.2.2.2.2.2.2.2.2.2.2.2)
          (s.1,s.2.2.1,s.2.2.2.2.2.2.2.2.2.2.2.2,(s.2.1,(aw db s.2.2.1).2.1++gv (fV db s.2.2.2.2.2.2.2.2.2.2.2.2) (length (fV db s.2.2.2.2.2.2.2.2.2.2.2.2).2.1),(aw db s.2.2.1).2.2.1,[],[],s.2.2.2.2.2.2.2.2.1),
            jV (fV db s.2.2.2.2.2.2.2.2.2.2.2.2).2.2.1 (length (fV db s.2.2.2.2.2.2.2.2.2.2.2.2).2.1),zQ (aw db s.2.2.1) s.2.2.2.2.2.1):=by
        unfold dh;rw[if_neg (by simpa using n1),if_pos (by simp[ho])]
      have e0:=hp0;rw[e]at e0;obtain⟨g1,g2⟩:=ls e0;have hpos:¬LT.lt (α:=Int) (zQ (aw db s.2.2.1) s.2.2.2.2.2.1) 0:=by
        intro hlt;unfold gW at g1;rw[if_pos hlt]at g1;cases g1
      have hon:(dh db s).2.2.2.2.2.2=zQ (aw db s.2.2.1) s.2.2.2.2.2.1:=by rw[e,g2]
      rw[hon,hcols];exact⟨by omega,(iW hpos).2⟩
    · have n1:s.1≠[99,111,112,121]:=by rw[ho];decide
      have n2:s.1≠[106,111,105,110]:=by rw[ho];decide
      rw[if_neg n1,if_neg n2];have e:(dh db s)=js (sj (aw db s.2.2.1) s.2.2.2.1) (s.1,s.2.2.1,s.2.2.2.2.2.2.2.2.2.2.2.2,(s.2.1,Di (aw db s.2.2.1) s.2.2.2.1,0,[],[],s.2.2.2.2.2.2.2.2.1),kG (aw db s.2.2.1) s.2.2.2.1,0):=by
        unfold dh;rw[if_neg (by simpa using n1),if_neg (by simpa using n2),if_pos (by simp[ho])]
      have e0:=hp0;rw[e]at e0;obtain⟨g1,g2⟩:=ls e0;have hpl:fZ (aw db s.2.2.1) s.2.2.2.1=0:=by
        unfold sj at g1;split at g1
        · assumption
        · exact g1
      have hpos:=BJ hpl;have hix:(dh db s).2.2.2.2.2.1=kG (aw db s.2.2.1) s.2.2.2.1:=by rw[e,g2]
      have h2:=lu hparts ho;rw[hix,hcols]
      match hnm:s.2.2.2.1,h2 with
      | [a,b],_=>
        rw[hnm]at hpos;have ha:=hpos a (by simp)
        exact ⟨⟨by have:¬ LT.lt (α:=Int) (zQ (aw db s.2.2.1) a) 0:=ha
                   show LE.le (α:=Int) 0 (zQ (aw db s.2.2.1) a);omega,(iW ha).2⟩,λ_ _=>by simp[kG]⟩
  have two0:=nJ c6;refine⟨⟨c2,c6,by rw[c1],by rw[c4];exact hf,c5,b1,m1,m2.2 rfl⟩,hxr,Pz two0.1 hplc.2,λrow hr=>⟨?_,hlen row hr⟩,hfd',by rw[f1];exact hm,hplc.1⟩;rw[hlen row hr];unfold zN;rw[aD];have h1:=hplc.1.1;have h2:=hplc.1.2;exact⟨zu h1,zu (by omega)⟩
end Cad
namespace Go.Proofs
open Cad (az zE)
open Go.Shelf Go.RowKit Go.Lib Go.Sort
open Bool renaming false→Q4
open Bool renaming true→Q3
open Option renaming none→Q2
open Option renaming some→Q1
open Decidable renaming decide→Q0
open Int (toNat)
open List (getD)
open List (length)
theorem gd_of{w w':World}(h:Below w.heap.size w w')(hd:w.drawn<=w'.drawn):∃q os',w'=grow (w.drewN q) os':=by
 refine⟨w'.drawn-w.drawn,w'.heap.extract w.heap.size w'.heap.size,?_⟩;have hh:w'.heap=w.heap++w'.heap.extract w.heap.size w'.heap.size:=by
  apply Array.ext_getElem?;intro i;by_cases hi:i<w.heap.size
  ·rw[Array.getElem?_append_left hi,h.block i hi]
  ·rw[Array.getElem?_append_right (by omega)];have hs:=h.size;by_cases hi2:i<w'.heap.size
   ·rw[Array.getElem?_extract,if_pos (by omega)];congr 1;omega
   ·rw[Array.getElem?_eq_none (by omega),Array.getElem?_eq_none (by simp;omega)]
 obtain⟨heap,tape,drawn,os,output⟩:=w;obtain⟨heap',tape',drawn',os',output'⟩:=w';have h1:=h.os;have h2:=h.tape;have h3:=h.output;simp only at h1 h2 h3 hd hh;subst h1 h2 h3;unfold grow World.drewN;simp only[World.mk.injEq,true_and,and_true];exact⟨hh,by omega⟩
set_option maxHeartbeats 1000000 in
theorem Tryz.odd63(r:Nat)(W:World):Calls Tryz.prog 63 #[.int .i32 (r:Int)] W λe w'=>e=.returned (.bool (Q0 ((r:Int)<32)||Q0 ((r:Int)>126)))/\w'=W:=by
 go_enter Tryz.func63,Tryz.ntmps63
 go_wp2
 ·go_ret
  exact⟨by simp,rfl⟩
 ·rename_i h
  go_ret
  exact⟨by simp,rfl⟩
set_option maxHeartbeats 4000000 in
set_option maxRecDepth 1000000 in
theorem Tryz.indexFunc112(p:Nat->Bool)(s:ByteArray)(w:World)(hp:∀(W:World)(x:Nat),Calls Tryz.prog 63 #[.int .i32 (x:Int)] W λe w'=>e=.returned (.bool (p x))/\w'=W):
  Calls Tryz.prog 112 #[.string s,.func (.func 63) #[] #[],.bool Q3] w λe w'=>e=.returned (.int .i64 (Lib.idxFunc p Q3 s))/\Below w.heap.size w w'/\w.drawn<=w'.drawn:=by
 go_enter Tryz.func112,Tryz.ntmps112
 go_wp2
 go_loopg [] s.size (λgf wx=>∃pos:Nat,wx.heap[w.heap.size]?=Q1 (.stringIter s pos)/\(Below w.heap.size w wx/\w.drawn<=wx.drawn)/\Lib.idxFuncFrom p Q3 s gf pos=Lib.idxFunc p Q3 s/\s.size<=pos+gf)
 case atStart=>exact⟨0,World.iter_heap w s 0,⟨(Below.refl _ w).alloc (az _) _,az _⟩,rfl,by omega⟩
 case round=>
  obtain⟨pos,hit,⟨hbw,hdr⟩,hleft,hfu⟩:=hrel;by_cases hps:pos<s.size
  ·obtain⟨g',rfl⟩:∃g',gk=g'+1:=⟨gk-1,by omega⟩;have hnx:∀ty,(Instr.next (.pointer (Q1 ⟨w.heap.size,0,Q2⟩)) Q3 ty).run Tryz.prog wr=_:=λty=>Lib.run_next_any_at wr w.heap.size s pos ty hit hps
   have hwd:=Lib.width_pos s pos;obtain⟨R,hR⟩:∃R,(Utf8.decode s pos).1=R:=⟨_,rfl⟩;obtain⟨K,hK⟩:∃K,(Utf8.decode s pos).2=K:=⟨_,rfl⟩;simp only[Lib.idxFuncFrom,hps,if_true,hR,hK]at hleft;rw[hR,hK]at hnx;rw[hK]at hwd;have hit2:=Lib.iterAt_heap wr w.heap.size s pos (pos+K) hit;have hbw2:=Lib.below_iterAt hbw (k:=w.heap.size) (az _) s (pos+K);have hdr2:w.drawn<=(wr.iterAt w.heap.size s (pos+K)).drawn:=hdr;obtain⟨W,hWd⟩:∃W,wr.iterAt w.heap.size s (pos+K)=W:=⟨_,rfl⟩;rw[hWd]at hnx hit2 hbw2 hdr2;have cS:=hp W R;clear hp;cases hsp:p R<;>rw[hsp]at cS<;>simp only[hsp,if_true,zE,if_false]at hleft
   ·go_wp2_with (go_at_call 63;refine cS.mono ?_;rintro e W' ⟨rfl,rfl⟩)
    go_roundg g'
    case measure=>omega
    case rel=>exact⟨pos+K,hit2,⟨hbw2,hdr2⟩,hleft,by omega⟩
   ·go_wp2_with (go_at_call 63;refine cS.mono ?_;rintro e W' ⟨rfl,rfl⟩)
    go_ret
    exact⟨by rw[<-hleft]<;>rfl,hbw2,hdr2⟩
  ·have hnx:∀ty,(Instr.next (.pointer (Q1 ⟨w.heap.size,0,Q2⟩)) Q3 ty).run Tryz.prog wr=_:=λty=>Lib.run_next_end_at wr w.heap.size s pos ty hit hps
   rw[Lib.idxFuncFrom_end p Q3 s gk pos hps]at hleft
   go_wp2
   go_ret
   exact⟨by rw[<-hleft]<;>rfl,hbw,hdr⟩
theorem Tryz.indexFunc64(p:Nat->Bool)(s:ByteArray)(w:World)(hp:∀(W:World)(x:Nat),Calls Tryz.prog 63 #[.int .i32 (x:Int)] W λe w'=>e=.returned (.bool (p x))/\w'=W):
  Calls Tryz.prog 64 #[.string s,.func (.func 63) #[] #[]] w λe w'=>e=.returned (.int .i64 (Lib.idxFunc p Q3 s))/\Below w.heap.size w w'/\w.drawn<=w'.drawn:=by
 have h:=λW'=>Tryz.indexFunc112 p s W' hp
 go_enter Tryz.func64,Tryz.ntmps64
 go_wp2_with (go_at_call 112;refine(h _).mono ?_;rintro e w' ⟨rfl,h1,h2⟩)
 go_ret
 exact⟨rfl,h1,h2⟩
end Go.Proofs
namespace Cad
open Go Go.Proofs Go.Sort
open Tr renaming chk→Qc
open AV renaming nils→Qb
open AO renaming box→Qa
open Tr renaming «to»→Q9
open Tr renaming val→Q8
open Sh renaming str→Q6
open Sh renaming expr→Q5
open Bool renaming false→Q4
open Bool renaming true→Q3
open Option renaming none→Q2
open Option renaming some→Q1
open Decidable renaming decide→Q0
open Int (toNat)
open List (getD)
open List (length)
set_option maxHeartbeats 4000000
open Tr (chk br)
open AV (nils agg tup ptr kb str sl)
theorem zix(W:World)(x:Nat):Calls Tryz.prog 63 #[.int .i32 (x:Int)] W λe w'=>e=.returned (.bool (BC x))/\w'=W:=
 (Tryz.odd63 x W).mono λe w' h=>⟨by rw[h.1];unfold BC;cases Q0 ((x:Int)<32)<;>rfl,h.2⟩
theorem ziv(k n:Int)(s:zB)(W:World):Calls Tryz.prog 34 #[.agg #[.int .i64 k,.int .i64 n,.string ⟨s.toArray⟩]] W λe w'=>e=.returned (.bool (aW (k,n,s)))/\RowKit.Below W.heap.size W w'/\W.drawn<=w'.drawn:=by
 have h:=λW'=>Tryz.indexFunc64 (λr=>BC r) ⟨s.toArray⟩ W' zix
 have ho:Lib.idxFunc (λr=>BC r) Q3 ⟨s.toArray⟩=o5 s:=rfl;rw[ho]at h;have hv:aW (k,n,s)=aW (k,n,s):=rfl;generalize hR:aW (k,n,s)=R at hv⊢;clear hv;unfold aW at hR;generalize o5 s=I at h hR
 go_enter Tryz.func34,Tryz.ntmps34
 go_wp2_with (go_at_call 64;refine(h _).mono ?_;rintro e w' ⟨rfl,h1,h2⟩)
 all_goals
  go_ret
  refine⟨?_,?_,?_⟩
  ·rw[<-hR];congr 2;simp_all<;>(rw[<-hR];first|(rw[aj ow];rfl)|(rw[beq_false_of_ne ‹¬n=0›];first|rfl|(rw[beq_false_of_ne ‹¬n=1›];rfl)))
  ·first
   |exact(RowKit.Below.refl _ _).alloc (az _) _
   |exact((RowKit.Below.refl _ W).alloc (az _) _).trans (h1.mono sw)
  ·first
   |exact az _
   |exact h2
theorem Px(W w':World)(a b c x y z:Value)(h:RowKit.Below ((W.alloc (.cells #[a,b,c] 27)).alloc (.cells #[x,y,z] 27)).heap.size ((W.alloc (.cells #[a,b,c] 27)).alloc (.cells #[x,y,z] 27)) w'):
  w'.cell? ⟨W.heap.size,0,Q2⟩=Q1 a/\w'.cell? ⟨W.heap.size,1,Q2⟩=Q1 b/\w'.cell? ⟨W.heap.size,2,Q2⟩=Q1 c/\
  w'.cell? ⟨W.heap.size+1,0,Q2⟩=Q1 x/\w'.cell? ⟨W.heap.size+1,1,Q2⟩=Q1 y/\w'.cell? ⟨W.heap.size+1,2,Q2⟩=Q1 z/\
  w'.frozen? ⟨W.heap.size+1,0,Q2⟩=Q4/\w'.frozen? ⟨W.heap.size+1,1,Q2⟩=Q4/\w'.frozen? ⟨W.heap.size+1,2,Q2⟩=Q4/\w'.heap[W.heap.size+1]?=Q1 (.cells #[x,y,z] 27 (0,0)):=by
 have b0:=h.block W.heap.size sg;have b1:=h.block (W.heap.size+1) sw;have e0:((W.alloc (.cells #[a,b,c] 27)).alloc (.cells #[x,y,z] 27)).heap[W.heap.size]?=Q1 (.cells #[a,b,c] 27 (0,0)):=(bj _ _ _ sw).trans (cy _ _);have e1:((W.alloc (.cells #[a,b,c] 27)).alloc (.cells #[x,y,z] 27)).heap[W.heap.size+1]?=Q1 (.cells #[x,y,z] 27 (0,0)):=by
  have:=cy (W.alloc (.cells #[a,b,c] 27)) (.cells #[x,y,z] 27)
  rwa [aX]at this
 rw[e0]at b0;rw[e1]at b1;simp[World.cell?,World.frozen?,b0,b1]
theorem IN(k n:Int)(s:zB)(W:World):Calls Tryz.prog 107 #[.agg #[.int .i64 k,.int .i64 n,.string ⟨s.toArray⟩]] W λe w'=>e=.returned (.agg #[.int .i64 (ap (k,n,s)).1,.int .i64 (ap (k,n,s)).2.1,.string ⟨(ap (k,n,s)).2.2.toArray⟩])/\RowKit.Below W.heap.size W w'/\W.drawn<=w'.drawn:=by
 have h:=λW'=>ziv k n s W'
 unfold ap;generalize aW (k,n,s)=R at h⊢
 go_enter Tryz.func107,Tryz.ntmps107
 go_wp2_with (go_at_call 34;refine(h _).mono ?_;rintro e w' ⟨rfl,h1,h2⟩;obtain⟨c0,c1,c2,d0,d1,d2,g0,g1,g2,bb⟩:=Px W w' (.int .i64 k) (.int .i64 n) (.string ⟨s.toArray⟩) (.int .i64 0) (.int .i64 0) (.string ⟨#[]⟩) h1)
 all_goals
  have hB:RowKit.Below W.heap.size W w':=(((RowKit.Below.refl _ W).alloc (az _) _).alloc sw _).trans (h1.mono sg);have hd:W.drawn<=w'.drawn:=h2;refine bodyPost_ret (results_cell_row rfl _ _ (W.heap.size+1) 27 _ (0,0) _ rfl (by simp[World.setCell,sO,bb];rfl) Tryz.underlying27 rfl kw) rfl ⟨?_,?_,?_⟩
  ·rfl
  ·exact((hB.setCell (p:=⟨W.heap.size+1,0,Q2⟩) sw _).setCell (p:=⟨W.heap.size+1,1,Q2⟩) sw _).setCell (p:=⟨W.heap.size+1,2,Q2⟩) sw _
  ·exact hd
open Go Go.Proofs
set_option maxRecDepth 100000
theorem SL(x:Int)(W:World):Calls Tryz.prog 165 #[.int .i64 x] W λe w'=>e=.returned (.bool Q4)/\w'=W:=by
 go_enter Tryz.func165,Tryz.ntmps165
 go_wp2
 go_ret
 exact⟨sw,rfl⟩
theorem SM(x:Int)(W:World):Calls Tryz.prog 166 #[.int .i64 x] W λe w'=>e=.returned (.bool Q4)/\w'=W:=by
 go_enter Tryz.func166,Tryz.ntmps166
 go_wp2
 go_ret
 exact⟨sw,rfl⟩
theorem SN(x:ByteArray)(W:World):Calls Tryz.prog 167 #[.string x] W λe w'=>e=.returned (.bool Q4)/\w'=W:=by
 go_enter Tryz.func167,Tryz.ntmps167
 go_wp2
 go_ret
 exact⟨sw,rfl⟩
theorem Qw(x y:Int):rS x y=(if x<y then -1 else if y<x then 1 else 0:Int):=by
 unfold rS;simp
theorem Oe(x y:Int):kq x y=(if x<y then -1 else if y<x then 1 else 0:Int):=by
 unfold kq;simp
theorem zbF(x y:Int)(W:World):Calls Tryz.prog 109 #[.int .i64 x,.int .i64 y] W λe w'=>e=.returned (.int .i64 (rS x y))/\w'=W:=by
 have h1:=λW'=>SL x W'
 have h2:=λW'=>SL y W'
 rw[Qw]
 go_enter Tryz.func109,Tryz.ntmps109
 go_wp2_with (first|(go_at_call 165;refine(h1 _).mono ?_;rintro e w' ⟨rfl,rfl⟩)|(go_at_call 165;refine(h2 _).mono ?_;rintro e w' ⟨rfl,rfl⟩))
 all_goals
  go_ret
  refine⟨?_,rfl⟩;congr 2
theorem zbG(x y:Int)(W:World):Calls Tryz.prog 110 #[.int .i64 x,.int .i64 y] W λe w'=>e=.returned (.int .i64 (kq x y))/\w'=W:=by
 have h1:=λW'=>SM x W'
 have h2:=λW'=>SM y W'
 rw[Oe]
 go_enter Tryz.func110,Tryz.ntmps110
 go_wp2_with (first|(go_at_call 166;refine(h1 _).mono ?_;rintro e w' ⟨rfl,rfl⟩)|(go_at_call 166;refine(h2 _).mono ?_;rintro e w' ⟨rfl,rfl⟩))
 all_goals
  go_ret
  refine⟨?_,rfl⟩;congr 2
theorem zbH(x y:zB)(W:World):Calls Tryz.prog 111 #[.string ⟨x.toArray⟩,.string ⟨y.toArray⟩] W λe w'=>e=.returned (.int .i64 (oe x y))/\w'=W:=by
 have h1:=λW'=>SN ⟨x.toArray⟩ W'
 have h2:=λW'=>SN ⟨y.toArray⟩ W'
 have hg:∀W',(binOp .gtr 9 (.string ⟨x.toArray⟩) (.string ⟨y.toArray⟩)).run Tryz.prog W'=.ok (.bool (!(Op.bytesLess x y||x==y))) W':=λW'=>by simp[binOp,Op.stringOp]
 have hc:oe x y=(if Op.bytesLess x y=Q3 then -1 else if(!(Op.bytesLess x y||x==y))=Q3 then 1 else 0:Int):=by unfold oe;simp
 rw[hc];clear hc
 go_enter Tryz.func111,Tryz.ntmps111
 go_wp2_with (first|(go_at_call 167;refine(h1 _).mono ?_;rintro e w' ⟨rfl,rfl⟩)|(go_at_call 167;refine(h2 _).mono ?_;rintro e w' ⟨rfl,rfl⟩))
 all_goals
  go_ret
  refine⟨?_,rfl⟩;simp_all
theorem zjL(x y z:Int)(b:Nat)(W:World)(h0:W.cell? ⟨b,0,Q2⟩=Q1 (.int .i64 x))(h1:W.cell? ⟨b,1,Q2⟩=Q1 (.int .i64 y))(h2:W.cell? ⟨b,2,Q2⟩=Q1 (.int .i64 z)):
  Calls Tryz.prog 108 #[.slice (Q1 ⟨b,0,Q2⟩) 3 3] W λe w'=>e=.returned (.int .i64 (Ga [x,y,z]))/\w'=W:=by
 have hv:Ga [x,y,z]=if x=0 then(if y=0 then z else y)else x:=by
  unfold Ga;unfold Ga;unfold Ga;unfold Ga;by_cases hx:x=0<;>by_cases hy:y=0<;>by_cases hz:z=0<;>simp[hx,hy,hz]
 rw[hv];clear hv
 go_enter Tryz.func108,Tryz.ntmps108
 go_wp2
 by_cases hx:x=0
 ·subst hx;by_cases hy:y=0
  ·subst hy;by_cases hz:z=0
   ·subst hz;refine wp_loop_rounds 4 ?_
    (rw[rounds_succ];go_wp2)
    (rw[rounds_succ];go_wp2)
    (rw[rounds_succ];go_wp2)
    (rw[rounds_succ];go_wp2)
    go_ret
    exact⟨by simp[*],rfl⟩
   ·refine wp_loop_rounds 4 ?_
    (rw[rounds_succ];go_wp2)
    (rw[rounds_succ];go_wp2)
    (rw[rounds_succ];go_wp2)
    go_ret
    exact⟨by simp[*],rfl⟩
  ·refine wp_loop_rounds 4 ?_
   (rw[rounds_succ];go_wp2)
   (rw[rounds_succ];go_wp2)
   go_ret
   exact⟨by simp[*],rfl⟩
 ·refine wp_loop_rounds 4 ?_
  (rw[rounds_succ];go_wp2)
  go_ret
  exact⟨by simp[*],rfl⟩
structure zkg (p:Prop):Prop where
 out:p
theorem Y8{A w':World}{p q:Nat}{a b c x y z:Value}(e0:A.heap[p]?=Q1 (.cells #[a,b,c] 27 (0,0)))(e1:A.heap[q]?=Q1 (.cells #[x,y,z] 27 (0,0)))(h:RowKit.Below A.heap.size A w'):
  w'.heap[p]?=Q1 (.cells #[a,b,c] 27 (0,0))/\w'.heap[q]?=Q1 (.cells #[x,y,z] 27 (0,0)):=
 ⟨(h.block p (nY.1 e0).1).trans e0,(h.block q (nY.1 e1).1).trans e1⟩
theorem oG{A:World}{p:Nat}{a b c:Value}(e0:A.heap[p]?=Q1 (.cells #[a,b,c] 27 (0,0))):
  A.cell? ⟨p,0,Q2⟩=Q1 a/\A.cell? ⟨p,1,Q2⟩=Q1 b/\A.cell? ⟨p,2,Q2⟩=Q1 c/\A.frozen? ⟨p,0,Q2⟩=Q4/\A.frozen? ⟨p,1,Q2⟩=Q4/\A.frozen? ⟨p,2,Q2⟩=Q4:=by
 simp[World.cell?,World.frozen?,e0]
theorem WM(k n:Int)(s:zB)(k' n':Int)(s':zB)(W:World):Calls Tryz.prog 62 #[.agg #[.int .i64 k,.int .i64 n,.string ⟨s.toArray⟩],.agg #[.int .i64 k',.int .i64 n',.string ⟨s'.toArray⟩]] W λe w'=>e=.returned (.int .i64 (cO (k,n,s) (k',n',s')))/\RowKit.Below W.heap.size W w'/\W.drawn<=w'.drawn:=by
 have hk:=λW'=>IN k n s W'
 have hk':=λW'=>IN k' n' s' W'
 have mixed:Tryz.prog.follows .mixedOrders=Q3:=by kernel_rfl
 unfold cO;generalize ap (k,n,s)=a at hk⊢;generalize ap (k',n',s')=b at hk'⊢;obtain⟨a1,a2,a3⟩:=a;obtain⟨b1,b2,b3⟩:=b
 dsimp only at hk hk'⊢
 have k1:=λW'=>zbF a1 b1 W'
 have k2:=λW'=>zbG a2 b2 W'
 have k3:=λW'=>zbH a3 b3 W'
 generalize rS a1 b1=m1 at k1⊢;generalize kq a2 b2=m2 at k2⊢;generalize oe a3 b3=m3 at k3⊢
 go_enter Tryz.func62,Tryz.ntmps62
 go_wp2
 obtain⟨W2,hW2⟩:∃W2,(W.alloc (.cells #[.int .i64 k,.int .i64 n,.string ⟨s.toArray⟩] 27)).alloc (.cells #[.int .i64 k',.int .i64 n',.string ⟨s'.toArray⟩] 27)=W2:=⟨_,rfl⟩;have e0:W2.heap[W.heap.size]?=Q1 (.cells #[.int .i64 k,.int .i64 n,.string ⟨s.toArray⟩] 27 (0,0)):=by rw[<-hW2];exact(bj _ _ _ sw).trans (cy _ _)
 have e1:W2.heap[W.heap.size+1]?=Q1 (.cells #[.int .i64 k',.int .i64 n',.string ⟨s'.toArray⟩] 27 (0,0)):=by
  rw[<-hW2];have:=cy (W.alloc (.cells #[.int .i64 k,.int .i64 n,.string ⟨s.toArray⟩] 27)) (.cells #[.int .i64 k',.int .i64 n',.string ⟨s'.toArray⟩] 27)
  rwa [aX]at this
 have hB2:RowKit.Below W.heap.size W W2:=by rw[<-hW2];exact((RowKit.Below.refl _ W).alloc (az _) _).alloc sw _
 have hd2:W.drawn<=W2.drawn:=by rw[<-hW2];exact az _
 rw[hW2];clear hW2;obtain⟨c0,c1,c2,c3,c4,c5⟩:=oG e0;obtain⟨d0,d1,d2,d3,d4,d5⟩:=oG e1;rename_i K hK
 have hrest:∀W3:World,W3.heap[W.heap.size]?=Q1 (.cells #[.int .i64 a1,.int .i64 a2,.string ⟨a3.toArray⟩] 27 (0,0))->W3.heap[W.heap.size+1]?=Q1 (.cells #[.int .i64 b1,.int .i64 b2,.string ⟨b3.toArray⟩] 27 (0,0))->RowKit.Below W.heap.size W W3->W.drawn<=W3.drawn->
   K {tmps:=#[.agg #[.int .i64 k,.int .i64 n,.string ⟨s.toArray⟩],.agg #[.int .i64 k',.int .i64 n',.string ⟨s'.toArray⟩],.pointer (Q1 ⟨W.heap.size,0,Q2⟩),.pointer (Q1 ⟨W.heap.size+1,0,Q2⟩),.int .i64 0,.agg #[.int .i64 k,.int .i64 n,.string ⟨s.toArray⟩],.agg #[.int .i64 a1,.int .i64 a2,.string ⟨a3.toArray⟩],.agg #[.int .i64 k',.int .i64 n',.string ⟨s'.toArray⟩],.agg #[.int .i64 b1,.int .i64 b2,.string ⟨b3.toArray⟩],undef,undef,undef,undef,undef,undef,undef,undef,undef,undef,undef,undef,undef,undef,undef,undef,undef],defers:=[]} W3:=by
  intro W3 w0 w1 hB3 V9;apply hK;clear hK;have hsz:W.heap.size+1<W3.heap.size:=(nY.1 w1).1;obtain⟨x0,x1,x2,x3,x4,x5⟩:=oG w0;obtain⟨y0,y1,y2,y3,y4,y5⟩:=oG w1
  go_wp2
  go_still_tail 15,mixed
  still_call (k1 _)
  repeat still_step
  still_call (k2 _)
  repeat still_step
  still_call (k3 _)
  refine wpStill_nil ?_;change wpList _ _ _ _ _ W3.drew;have hd4:W.drawn<=W3.drew.drawn:=cG V9 (Nat.le_succ _);have hB4:RowKit.Below W.heap.size W W3.drew:=hB3.drew;generalize W3.drew=W4 at hd4 hB4⊢
  go_wp2_with (go_at_call 108;refine(zjL m1 m2 m3 W4.heap.size _ sw sw sw).mono ?_;rintro e w' ⟨rfl,rfl⟩)
  go_ret
  exact⟨rfl,hB4.alloc hB4.size _,hd4⟩
 have hrk:=zkg.mk hrest;clear hK hrest k1 k2 k3
 go_region_with (first
  |(go_at_call 107;refine(hk _).mono ?_;clear hk;rintro e w1 ⟨rfl,h1,V9⟩;obtain⟨f0,f1⟩:=Y8 (A:=W2.drew) e0 e1 h1;obtain⟨p0,p1,p2,p3,p4,p5⟩:=oG f0;obtain⟨q0,q1,q2,q3,q4,q5⟩:=oG f1)
  |(go_at_call 107;refine(hk' _).mono ?_;clear hk';rintro e w2 ⟨rfl,h2,hd4⟩;obtain⟨g0,g1⟩:=Y8 f0 f1 h2;obtain⟨r0,r1,r2,r3,r4,r5⟩:=oG g0;obtain⟨s0,s1,s2,s3,s4,s5⟩:=oG g1))
 all_goals
  refine hrk.out _ ?_ ?_ ?_ ?_
  ·simp[World.setCell,sO,g0]
  ·simp[World.setCell,sO,g1]
  ·have hs1:=h1.size;have hs2:=h2.size;have hB5:RowKit.Below W.heap.size W w2:=(hB2.trans ((RowKit.Below.mono ⟨h1.os,h1.tape,h1.output,h1.size,h1.block⟩ hB2.size))).trans (h2.mono (cG hB2.size hs1));exact(((((hB5.setCell (p:=⟨W.heap.size,0,Q2⟩) sw _).setCell (p:=⟨W.heap.size,1,Q2⟩) sw _).setCell (p:=⟨W.heap.size,2,Q2⟩) sw _).setCell (p:=⟨W.heap.size+1,0,Q2⟩) sw _).setCell (p:=⟨W.heap.size+1,1,Q2⟩) sw _).setCell (p:=⟨W.heap.size+1,2,Q2⟩) sw _
  ·have hs3:W2.drawn+1<=w1.drawn:=V9;have hs4:W.drawn<=w2.drawn:=by omega
   simpa[World.setCell]using hs4
open Tr (chk br re)
def pJ(l:List (Sem ze)):Bool:=l.all (λv=>aW v&&(v.1!=0))&&decide l.Nodup&&!l.isEmpty
theorem T5{l l':List (Sem ze)}(h:pJ l=Q3)(hp:List.Perm l' l)(hs:l'.Pairwise λx y:Sem ze=>¬LT.lt (α:=Int) (cO y x) 0):l'=oE l:=by
 simp only[pJ,aD,dW,aO,bne_iff_ne,ne_eq]at h;obtain⟨⟨hm,hn⟩,_⟩:=h;obtain⟨a1,a2⟩:=mQ λx hx=>(hm x hx).1
 have hn':l'.Nodup:=hp.nodup_iff.2 hn;refine GX ?_ a1 λx=>?_
 ·refine(hs.and hn').imp_of_mem λ{x y} hx hy h=>?_
  rcases mH (hm y (hp.mem_iff.1 hy)).1 (hm x (hp.mem_iff.1 hx)).1 h.1 with e|e
  ·exact absurd e.symm h.2
  ·exact e
 ·rw[a2 x,hp.mem_iff];exact⟨λhx=>⟨hx,(hm x hx).2⟩,λhx=>hx.1⟩
@[match_pattern] abbrev zmt:Sh:=.pr (.int .i64) (.pr (.int .i64) .str)
def zn1:zY:=λargs hp _=>match args with
 | [.vec id,.clo (.func 62) [] []]=>match hp id with
  |.vec zmt l=>(.chk (Q0 (length l<=1000000)) (.chk (pJ l) (.ok {val:=.tup [],wr:=[(id,.vec ze (oE l))]})))
  |_=>.err
 |_=>.err
theorem zkY:Go.Proofs.Enters Tryz.prog 62:=by
  cases hb:Tryz.f62.body with
  | none => have:Tryz.f62.body.isNone=false:=by kernel_rfl
            rw[hb]at this;cases this
  |some c=>exact Go.Proofs.enters_of (fn:=Tryz.f62) kw kw hb
noncomputable section
abbrev Zd:=lV [(4,[5,6,18,19,20]),(11,[9,34])]
inductive NX where
 |h4 (i5:Sem zg) (l18:List (Sem ze.sl)) (i19:Int) (i20:Int) (mh_0:List ((Int×Int×zB)×Int))
abbrev Ks:NX->Nat×St
 |.h4 i5 l18 i19 i20 mh_0=>(4,⟨tm 46 [(5,ai i5),(6,AV.mp 0),(18,sl ze.sl l18),(19,ai i19),(20,ai i20)],[AO.vmap Q3 mh_0]⟩)
def zci(x0:Sem zz)(x1:Sem zh.sl):Tr (NX⊕ar):=
 let a0:=(x0.1,x0.2.1,x0.2.2.1,(x0.2.2.2.1.1,x0.2.2.2.1.2.1,x0.2.2.2.1.2.2.1,x0.2.2.2.1.2.2.2.1,x0.2.2.2.1.t.1,zm x0.2.2.2.1.t.2),x0.t)
 let a1:=getD x1 (toNat 0) (zi zh)
 Qc (jl a0 x1) (Qc (zN 0 (length x1)) (Q9 (NX.h4 (bT a0 x1) a1.2 (↑(length a1.2):Int) 0 [])))
def zjU:NX->Tr (NX⊕ar)
 | .h4 i5 l18 i19 i20 mh_0=>
  let a0:=l18.getD i20.toNat (zi ze.sl)
  br (Q0 (i20<i19))
  (Qc (zN i20 l18.length) (Qc (zN i5 (length a0)) (Q9 (NX.h4 i5 l18 i19 (IntKind.i64.wrap (i20+1)) (jX mh_0 (getD a0 (toNat i5) (zi ze)) 0)))))
  Tr.err
end
def vn(es:List ((Int×Int×zB)×Int))(k:Int×Int×zB):List ((Int×Int×zB)×Int):=match ck es k 0 with
 |some q=>es.eraseIdx q.1
 |none=>es
theorem wb{α β:Type}(f:α->β):∀(l:List α)(i:Nat),(l.eraseIdx i).map f=(l.map f).eraseIdx i
 |[],_=>rfl
 |_::_,0=>rfl
 | x::r,i+1=>by
  show f x::(r.eraseIdx i).map f=f x::(r.map f).eraseIdx i;rw[wb f r i]
theorem VV{P:Program}{mt kt et:TypeId}(hm:P.underlying mt=Q1 (.map kt et))(hvk:mG P kt=Q3){w:World}{r:Nat}{ents:Array MapEntry}{clock:Nat}{es:List ((Int×Int×zB)×Int)}{k:Int×Int×zB}(hko:ld k)
  (hb:w.heap[r]?=Q1 (.map ents clock)) (he:(ents.toList.map λe=>(e.key,e.val))=AN Q3 es) (ho:∀p∈es,cJ .i64 p.2/\ld p.1) (hs:lh ents clock):
  ∃ents':Array MapEntry,(∀ty,(Builtin.delete_ #[mt,kt] ty #[.map (Q1 r),dG k]).run P w=.ok (.tuple #[]) {w with heap:=w.heap.setIfInBounds r (.map ents' clock)})/\
   (ents'.toList.map λe=>(e.key,e.val))=AN Q3 (vn es k)/\(∀x∈ents'.toList,x.born<clock)/\(ents'.toList.map (·.born)).Nodup:=by
 have hfk:=ji (P:=P) (w:=w) hvk hko Q3 es ents.toList he ho;have hborn:∀x∈ents.toList,x.born<clock:=λx hx=>by
  obtain⟨i,hi,rfl⟩:=gn hx;have:=hs.2 i ents.toList[i] (by rw[<-rc];exact zS hi);rw[this,hs.1];simpa using hi
 have hnd:(ents.toList.map (·.born)).Nodup:=by
  have:ents.toList.map (·.born)=List.range ents.size:=by
   apply List.ext_getElem
   ·simp
   ·intro i h1 h2;have hi:i<ents.size:=by simpa using h1
    simp only[List.getElem_map,List.getElem_range];exact hs.2 i _ (by rw[<-rc];exact zS (by simpa using hi))
  rw[this];exact List.nodup_range
 unfold vn;cases hfi:ck es k 0 with
 | none=>
  rw[hfi]at hfk;refine⟨ents,λty=>?_,he,hborn,hnd⟩;simp[Builtin.delete_,bA hm,kk hb,cY hvk,hfk,wM _ hb,Result.andThen]
 | some q=>
  rw[hfi]at hfk;have hsub:((ents.eraseIdxIfInBounds q.1).toList)=ents.toList.eraseIdx q.1:=by simp
  refine⟨ents.eraseIdxIfInBounds q.1,λty=>?_,?_,λx hx=>?_,?_⟩
  ·simp[Builtin.delete_,bA hm,kk hb,cY hvk,hfk,wM _ hb,Result.andThen]
  ·rw[hsub,wb,he];exact(wb _ es q.1).symm
  ·rw[hsub]at hx;exact hborn x (List.mem_of_mem_eraseIdx hx)
  ·rw[hsub];exact hnd.sublist ((List.eraseIdx_sublist _ _).map _)
noncomputable def Co:Code:=match Tryz.f30.body with
 |some (.seq _ (.seq _ (.seq _ (.seq _ r))))=>r
 |_=>.skip
noncomputable def Bp:Code:=match Tryz.f30.body with
 |some (.seq _ (.seq _ (.seq _ (.seq (.seq _ (.block _ (.loop c))) _))))=>c
 |_=>.skip
theorem zb9:ae Tryz.f30 4=[.code Bp,.inLoop Bp,.inBlock 0,.code Co]:=kw
theorem zcp:(Tryz.prog.info? 27).map (λi=>(i.zero,i.size,i.bytes))=Q1 (Q1 (.agg #[.int .i64 0,.int .i64 0,.string ⟨#[]⟩]),3,32):=kw
def Iz(l:List ((Int×Int×zB)×MapEntry)):List Value:=l.flatMap λp=>[.int .i64 p.1.1,.int .i64 p.1.2.1,.string ⟨p.1.2.2.toArray⟩]
structure ZC (w1:World) (r clock:Nat) (ents':Array MapEntry) (v:Value) (wr:World) (seen:Array Nat) (E:List ((Int×Int×zB)×MapEntry)):Prop where
 it:∃c0,wr.heap[w1.heap.size]?=Q1 (.mapIter (Q1 r) clock seen c0)/\clock<=c0
 mp:wr.heap[r]?=Q1 (.map ents' clock)
 sub:∀p∈E,p.2∈ents'.toList/\p.2.key=dG p.1
 sn:seen.toList=E.map λp=>p.2.born
 nd:(E.map λp=>p.2.born).Nodup
 row:wr.ownsRow w1.heap.size 27 3 v E.length (Iz E)
 bel:RowKit.Below w1.heap.size w1 wr
 cnt:E.length+(leftOf ents' seen).size<=ents'.size
theorem Od(w:World)(l:List Value)(t:TypeId):∀j u,l[j]?=Q1 u->(w.alloc (.cells l.toArray t)).cell? ((⟨w.heap.size,0,Q2⟩:Addr).add j)=Q1 u:=by
 intro j u h;unfold Addr.add;split
 ·rename_i e;subst e;simp[h]
 ·simp[h]
theorem WY(Q:Exit->Act->World->Prop)(S:Value->World->Prop)(r:Nat)(ents':Array MapEntry)(clock:Nat)(w w1:World)(hdel:∀ty,(Builtin.delete_ #[121,27] ty #[.map (Q1 r),.agg #[.int .i64 0,.int .i64 0,.string ⟨#[]⟩]]).run Tryz.prog w=.ok (.tuple #[]) w1)(hm:w1.heap[r]?=Q1 (.map ents' clock))(hborn:∀x∈ents'.toList,x.born<clock)(hnd:(ents'.toList.map (·.born)).Nodup) (hkeys:∀x∈ents'.toList,∃k,x.key=dG k) (hsz:ents'.size<=1000)
  (hsort:∀v wr seen E,ZC w1 r clock ents' v wr seen E->(leftOf ents' seen).size=0->Calls Tryz.prog 61 #[v,.func (.func 62) #[] #[]] wr λe w'=>e=.returned (.tuple #[])/\S v w')
  (hQ:∀v w'(a:Act),S v w'->a.tmps[4]?=Q1 v->a.defers=[]->Q Exit.ret a w')
  (v0 v1 v2 v3 v4 v5 v7 v8 v9 v10 v11 v12 v13 v14 v15 v16 v17 v18 v19 v20 v21 v22 v23 v24 v25 v26 v27 v28 v29 v30 v31 v32 v33 v34 v35 v36 v37 v38 v39 v40 v41 v42 v43 v44 v45:Value):
  Co.wp Tryz.prog Q {tmps:=#[v0,v1,v2,v3,v4,v5,(Value.map (Q1 r)),v7,v8,v9,v10,v11,v12,v13,v14,v15,v16,v17,v18,v19,v20,v21,v22,v23,v24,v25,v26,v27,v28,v29,v30,v31,v32,v33,v34,v35,v36,v37,v38,v39,v40,v41,v42,v43,v44,v45],defers:=[]} w:=by
 have hrg:=run_range_map (P:=Tryz.prog) w1 121 27 122 r ents' clock Tryz.underlying121 hm;simp only[Co,Tryz.f30]
 go_wp2
 obtain⟨i0,hi,hz0,hz1,hz2⟩:=info_parts zcp
 go_loopw [9] (λv wr=>∃seen E,ZC w1 r clock ents' v wr seen E)
  (λ_ wr=>(leftOf ents' (wr.iterSeen w1.heap.size)).size)
 case atStart=>
  exact⟨#[],[],⟨⟨clock,heap_alloc_new _ _,az _⟩,by rw[heap_alloc_old _ _ (nY.1 hm).1];exact hm,sw,sw,sw,World.ownsRow_nil _ _ _ _,(RowKit.Below.refl _ _).alloc (az _) _,by simpa[leftOf]using Array.size_filter_le⟩⟩
 case round=>
  obtain⟨seen,E,hC⟩:=hrel;obtain⟨c0,hit,hsc⟩:=hC.it;have hrlt:r<w1.heap.size:=(nY.1 hm).1;rcases run_next_at (P:=Tryz.prog) wr 0 w1.heap.size r clock c0 seen ents' clock hit hC.mp hborn hsc with⟨hz,hnx⟩|⟨e,he,wd,hwd,hnx⟩
  ·have hC':=hsort _ _ _ _ hC (by simpa using hz);clear hC
   go_wp2_with (go_at_call 61;refine hC'.mono ?_;rintro e w' ⟨rfl,hS⟩)
   exact hQ _ _ _ hS rfl rfl
  ·have hem:e∈ents'.toList:=by simp[leftOf]at he⊢;exact he.1
   have hes:e.born∉E.map λp=>p.2.born:=by
    rw[<-hC.sn];simp[leftOf]at he⊢;exact he.2
   obtain⟨k,hk⟩:=hkeys e hem;have hleft:0<(leftOf ents' seen).size:=by
    have:=List.length_pos_of_mem he;simpa using this
   have hcnt:=hC.cnt;have hEl:E.length<1000:=by omega
   obtain⟨W3,hW3⟩:∃W3,ChangeMaps.setBlock wd w1.heap.size (.mapIter (Q1 r) clock (seen.push e.born) clock)=W3:=⟨_,rfl⟩;rw[hW3]at hnx;have hwh:wd.heap=wr.heap:=by rcases hwd with rfl|rfl<;>rfl
   have hilt:w1.heap.size<wr.heap.size:=(nY.1 hit).1;have hit3:W3.heap[w1.heap.size]?=Q1 (.mapIter (Q1 r) clock (seen.push e.born) clock):=by
    rw[<-hW3];show(wd.heap.setIfInBounds _ _)[_]?=_;rw[hwh];simp[hilt]
   have hoth:∀j,j≠w1.heap.size->W3.heap[j]?=wr.heap[j]?:=λj hj=>by
    rw[<-hW3];show(wd.heap.setIfInBounds _ _)[_]?=_;rw[hwh,Array.getElem?_setIfInBounds_ne (λe=>hj e.symm)]
   have hsz3:W3.heap.size=wr.heap.size:=by
    rw[<-hW3];show(wd.heap.setIfInBounds _ _).size=_;rw[hwh];simp
   have hgr:wr.grownBy W3 (Q1 w1.heap.size):=⟨by rw[<-hW3];rcases hwd with rfl|rfl<;>rfl,by rw[<-hW3];rcases hwd with rfl|rfl<;>rfl,by rw[<-hW3];rcases hwd with rfl|rfl<;>rfl,by rw[hsz3];exact az _,λj _ hj=>hoth j λe=>hj (by rw[e])⟩;have hmp3:W3.heap[r]?=Q1 (.map ents' clock):=(hoth r ow).trans hC.mp;have hen:=run_entry_at (P:=Tryz.prog) W3 w1.heap.size r clock seen ents' clock e hit3 hmp3 hem hnd;have hrow3:=hC.row.kept hgr (by
    rcases hC.row.2 with⟨rfl,_⟩|⟨g,cap,cur,rfl,_,hgb,_⟩
    ·exact .inl rfl
    ·refine .inr λe'=>?_
     have:g=w1.heap.size:=by simpa[Value.ownBlock]using e'
     subst this;rw[hit]at hgb;cases hgb)
   have hbel3:RowKit.Below w1.heap.size w1 W3:=hC.bel.grown hgr hC.bel.size (λj e=>by cases e;exact az _);rw[hk]at hnx hen;obtain⟨k1,k2,k3⟩:=k;simp only[dG]at hnx hen;have hsub:=hC.sub;have hsn:=hC.sn;have hndE:=hC.nd;clear hW3 hwd hwh hsz3 hgr hC
   go_wp2_with (at_builtin;refine wpList_append_own _ rfl _ _ 31 rfl w1.heap.size 27 i0 _ 3 32 Tryz.underlying31 hi hz0 hz1 hz2 rfl (by decide) _ _ _ rfl ((hrow3.alloc _).alloc _) ⟨W3.heap.size+1,0,Q2⟩ 1 1 [.int .i64 k1,.int .i64 k2,.string ⟨k3.toArray⟩] rfl rfl (by have:=Od (W3.alloc (.cells #[.int .i64 k1,.int .i64 k2,.string ⟨k3.toArray⟩] 27)) [.int .i64 k1,.int .i64 k2,.string ⟨k3.toArray⟩] 27;simpa using this) (by simp[Value.oneCell']) (by unfold maxLen;omega) ow (by have:=hbel3.size;simp;omega) ?_;intro v' w3 hown' hgr3 hnil3;go_frame)
   obtain⟨o3,ho3⟩:∃o:Obj,o=.cells #[.int .i64 k1,.int .i64 k2,.string ⟨k3.toArray⟩] 27:=⟨_,rfl⟩;have hgr4:World.grownBy ((W3.alloc o3).alloc o3) w3 u9.ownBlock:=by rw[ho3];exact hgr3
   clear hgr3 hnil3;have hown9:∀j,u9.ownBlock=Q1 j->w1.heap.size<=j/\j≠w1.heap.size:=by
    intro j hj;rcases hrow3.2 with⟨rfl,_⟩|⟨g,cap,cur,rfl,hbg,hgb,_⟩
    ·simp[Value.ownBlock]at hj
    ·have:g=j:=by simpa[Value.ownBlock]using hj
     subst this;exact⟨hbg,λe'=>by subst e';rw[hit3]at hgb;cases hgb⟩
   have hs3:w1.heap.size<W3.heap.size:=(nY.1 hit3).1;have hold:∀j,j<=w1.heap.size->w3.heap[j]?=W3.heap[j]?:=λj hj=>by
    rw[hgr4.block j sg (λe'=>by obtain⟨a,b⟩:=hown9 j e'.symm;omega),heap_alloc_old _ _ sg,heap_alloc_old _ _ ow]
   have hnew:w3.heap[w1.heap.size]?=Q1 (Obj.mapIter (Q1 r) clock (seen.push e.born) clock):=(hold _ (az _)).trans hit3;have hfl:Iz (E++[((k1,k2,k3),e)])=Iz E++[.int .i64 k1,.int .i64 k2,.string ⟨k3.toArray⟩]:=by simp[Iz]
   refine⟨⟨seen.push e.born,E++[((k1,k2,k3),e)],⟨⟨clock,hnew,az _⟩,(hold r ow).trans hmp3,?_,?_,?_,?_,?_,?_⟩⟩,?_⟩
   ·intro p hp;rcases cP.1 hp with h|h
    ·exact hsub p h
    ·obtain rfl:=gp.1 h;exact⟨hem,hk⟩
   ·simp[hsn]
   ·rw[iI];refine List.nodup_append.2 ⟨hndE,sw,λa ha b hb=>?_⟩;have:b=e.born:=by simpa using hb
    rintro rfl;exact hes (this▸ha)
   ·rw[hfl,jM];exact hown'
   ·exact((hbel3.alloc ow _).alloc sg _).grown hgr4 sg (λj hj=>(hown9 j hj).1)
   ·have:=left_shrinks _ _ _ he;rw[jM];simp only[fb,nM];omega
   ·have e1:wr.iterSeen w1.heap.size=seen:=by simp[World.iterSeen,hit]
    have e2:w3.iterSeen w1.heap.size=seen.push e.born:=by simp[World.iterSeen,hnew]
    rw[e1,e2];exact left_shrinks _ _ _ he
abbrev V3:={x:Sem ze//aW x=Q3}
def jG(p:V3):List Value:=[.int .i64 p.1.1,.int .i64 p.1.2.1,.string ⟨(p.1.2.2:zB).toArray⟩]
def HX(p q:V3):Int:=cO p.1 q.1
theorem zdj[Inhabited V3](d:Array V3)(B cap:Nat)(w:World)(hH:HoldsK jG 3 w B 0 d)(hB:B<w.heap.size)(h:d.size<4611686018427387904):
  Calls Tryz.prog 61 #[.slice (Q1 ⟨B,0,Q2⟩) d.size cap,.func (.func 62) #[] #[]] w λe w'=>e=.returned (.tuple #[])/\∃n os,w'=sortWorldK jG 3 w B 0 n (d.toList.mergeSort λx y=>!(ltOf HX) y x).toArray os:=by
 refine AnyQ.slices_SortFunc_total Tryz.sortVal 3 Tryz.isAgg27 Tryz.sizeOf27 jG (λ_=>rfl) ?_ HX ?_ 62 #[] B 0 cap d w zkY ?_ hH hB h ?_
 ·intro x v hv;simp only[jG,cm,List.not_mem_nil,or_false]at hv;rcases hv with rfl|rfl|rfl<;>rfl
 ·refine⟨λx=>?_,λx y z h g=>?_,λx y z h g=>?_⟩
  ·exact aj (gO (a:=x.1))
  ·simp only[ltOf,aO]at h g⊢;exact g7 (a:=x.1) (b:=y.1) (c:=z.1) h g
  ·simp only[ltOf,decide_eq_false_iff_not]at h g⊢;intro hxz;rcases mH x.2 y.2 h with e|e
   ·unfold HX at hxz;rw[e]at hxz;exact g hxz
   ·exact g (g7 (a:=y.1) (b:=x.1) (c:=z.1) e hxz)
 ·intro m os dk hdk x y;show Calls Tryz.prog 62 (#[Value.agg (jG x).toArray,Value.agg (jG y).toArray]++#[]) _ _;refine(WM x.1.1 x.1.2.1 x.1.2.2 y.1.1 y.1.2.1 y.1.2.2 _).mono ?_;rintro e' w' ⟨rfl,h1,h2⟩;exact⟨rfl,gd_of h1 h2⟩
 ·intro x y h g;simp only[ltOf,decide_eq_false_iff_not]at h g;rcases mH x.2 y.2 h with e|e
  ·exact Subtype.ext e
  ·exact absurd e g
theorem tt[Inhabited V3]:∀(l:List V3)(t:Nat),t<l.length*3->(l.flatMap jG)[t]?=Q1 (jG (l[t/3]!))[t%3]!
 |[],t,h=>by simp at h
 | a::l,t,h=>by
  rw[List.flatMap_cons];by_cases h3:t<3
  ·have e0:t/3=0:=by omega
   have e1:t%3=t:=by omega
   rw[mP (by simpa[jG]using h3),e0,e1];rw[List.getElem!_cons_zero,zS (by simpa[jG]using h3),getElem!_pos]
  ·obtain⟨s,rfl⟩:∃s,t=s+3:=⟨t-3,ow⟩;have e0:(s+3)/3=s/3+1:=by omega
   have e1:(s+3)%3=s%3:=by omega
   rw[nZ (by simp[jG]),e0,e1,List.getElem!_cons_succ];have:=tt l s (by simp at h;omega);simpa[jG]using this
theorem Bc:∀l:List V3,(l.flatMap jG).length=l.length*3
 |[]=>rfl
 | a::l=>by
  rw[List.flatMap_cons,jM,Bc l,fb];simp[jG];omega
theorem Tj[Inhabited V3]{w:World}{base:Nat}{v:Value}{l:List V3}(hown:w.ownsRow base 27 3 v l.length (l.flatMap jG))(hbig:l.length<4611686018427387904)(hne:l≠[]):
  Calls Tryz.prog 61 #[v,.func (.func 62) #[] #[]] w λe w'=>e=.returned (.tuple #[])/\w'.ownsRow base 27 3 v l.length ((l.mergeSort λx y=>!(ltOf HX) y x).flatMap jG)/\w.grownBy w' v.ownBlock:=by
 rcases hown.2 with⟨_,h0⟩|⟨g,cap,cur,rfl,hbg,hgb,hnc,hcm,hcs,htk⟩
 ·exact absurd (List.length_eq_zero_iff.1 h0) hne
 have hH:HoldsK jG 3 w g 0 l.toArray:=by
  intro t ht;rw[size_flatK]at ht;have ht':t<l.length*3:=by simpa using ht
  have hc:cur.toList[t]?=Q1 (jG (l[t/3]!))[t%3]!:=by
   rw[<-tt l t ht',<-htk,List.getElem?_take_of_lt ht']
  refine⟨?_,by simp[World.frozen?,hgb]⟩;rw[get_flatK _ _ _ _ ht];simp[World.cell?,hgb];simpa using hc
 have hs:=zdj l.toArray g cap w hH (nY.1 hgb).1 (by simpa using hbig);have hsz:l.toArray.size=l.length:=by simp
 rw[hsz]at hs;refine hs.mono ?_;rintro e w' ⟨rfl,m,os,rfl⟩;have hl':(l.mergeSort λx y=>!(ltOf HX) y x).length=l.length:=List.length_mergeSort _;simp only[];generalize(l.mergeSort λx y=>!(ltOf HX) y x)=l' at hl';have hB':=tz (enc:=jG) (k:=3) (n:=m) (os:=os) l'.toArray hgb;have hoth:∀b,b<w.heap.size->b≠g->(sortWorldK jG 3 w g 0 m l'.toArray os).heap[b]?=w.heap[b]?:=λb hb hn=>gL l'.toArray hb hn
 refine⟨by first|trivial|rfl,⟨by rw[Bc,hl'],.inr ⟨g,cap,_,rfl,hbg,hB',hnc,hcm,by simp[putCells,hcs],?_⟩⟩,⟨rfl,rfl,rfl,?_,λk hk hn=>hoth k hk λe=>hn (by rw[e];rfl)⟩⟩
 ·apply Ao;intro t;by_cases ht:t<l.length*3
  ·rw[List.getElem?_take_of_lt ht,tt l' t (by rw[hl'];exact ht),rc];have hcl:t<cur.size:=by rw[hcs];exact iG ht (gQ 3 hnc)
   have hfk:=get_flatK jG 3 l'.toArray t (by simpa[hl']using ht);have hfs:(flatK jG 3 l'.toArray).size=l.length*3:=by simp[hl']
   unfold putCells;rw[Array.getElem?_mapIdx,sS hcl];simp only[DJ,aZ,ft,hfs,ht,and_self,if_true,Nat.sub_zero,hfk,id_eq];simp
  ·rw[eC sg,eC (by rw[Bc,hl'];omega)]
 ·unfold sortWorldK grow putRowK;simp[Sort.ahead]
end Cad
