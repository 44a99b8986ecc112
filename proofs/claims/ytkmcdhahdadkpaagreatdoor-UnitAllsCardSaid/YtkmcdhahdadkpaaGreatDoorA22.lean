/- slices.SortFunc over tables with rows, by their names: the contract. Plans: a plan's own sources, rising. Units: slices.Clone. Units: places, a statement. -/
import Derived.Test.YtkmcdhahdadkpaaGreatDoorA20
import Derived.Test.YtkmcdhahdadkpaaGreatDoorA21
import Derived.Test.YtkmcdhahdadkpaaGreatDoorA18
import Derived.Test.YtkmcdhahdadkpaaGreatDoorA14
import Derived.Test.YtkmcdhahdadkpaaGreatDoorA17
import Derived.Test.YtkmcdhahdadkpaaGreatDoorA07
import Derived.Sort.Grow
import Derived.Deep.Draws
import Derived.Shelf.SlSortCmp.QuietGrown
import Derived.Shelf.GgClosure.StringsIndexFuncTop
import Derived.Test.YtkmcdhahdadkpaaGreatDoorA08
import Derived.RegionTactic
import Derived.RegionCalls
import Derived.Deep.RegionWith
import Derived.StillTailTactics
import Derived.Maps.RangeWalk
import Derived.LoopTactic
import Derived.Shelf.SlSortCmp.NoneTotal
namespace Cad
open Go Go.Proofs Go.Sort
open Tr renaming chk→Qc
open AV renaming nils→Qb
open AO renaming box→Qa
open Tr renaming «to»→Q9
open Tr renaming val→Q8
open Sh renaming str→Q6
open Sh renaming expr→Q5
open Bool renaming false→Q4
open Bool renaming true→Q3
open Option renaming none→Q2
open Option renaming some→Q1
open Decidable renaming decide→Q0
open Int (toNat)
open List (getD)
open List (length)
set_option maxHeartbeats 4000000
open Tr (chk br re)
open AV (nils agg tup ptr kb str sl)
theorem tB:∀a b:zD,(Lib.compareBytes a b<0)↔Op.bytesLess a b=Q3
 |[],[]=>by simp[Lib.compareBytes,Op.bytesLess]
 |[],_::_=>by simp[Lib.compareBytes,Op.bytesLess]
 |_::_,[]=>by simp[Lib.compareBytes,Op.bytesLess]
 | a::r,b::s=>by
  unfold Lib.compareBytes Op.bytesLess;by_cases h1:a<b
  ·simp[h1]
  ·by_cases h2:b<a
   ·have:a≠b:=λe=>by rw[e]at h2;exact absurd h2 (UInt8.lt_irrefl b)
    simp[h1,h2,this]
   ·have:a=b:=UInt8.le_antisymm (UInt8.not_lt.1 h2) (UInt8.not_lt.1 h1);subst this;simp[tB r s]
theorem Ek:∀s:zD,Op.bytesLess s s=Q4
 |[]=>rfl
 |a::r=>by simp[Op.bytesLess,Ek r]
theorem AZ:∀{a b c:zD},Op.bytesLess a b=Q3->Op.bytesLess b c=Q3->Op.bytesLess a c=Q3
 |_,[],_,h,_=>by cases‹zD›<;>simp[Op.bytesLess]at h
 |_,_::_,[],_,h=>by simp[Op.bytesLess]at h
 |[],_::_,_::_,_,_=>rfl
 | a::x,b::y,c::z,h,g=>by
  simp only[Op.bytesLess,mo,aC,aP,bf]at h g⊢;rcases h with h|⟨rfl,h⟩
  ·rcases g with g|⟨rfl,g⟩
   ·exact .inl (UInt8.lt_trans h g)
   ·exact .inl h
  ·rcases g with g|⟨rfl,g⟩
   ·exact .inl g
   ·exact .inr ⟨rfl,AZ h g⟩
theorem AY:∀{a b:zD},Op.bytesLess a b=Q4->a≠b->Op.bytesLess b a=Q3
 |[],[],_,h=>absurd rfl h
 |[],_::_,h,_=>by simp[Op.bytesLess]at h
 |_::_,[],_,_=>rfl
 | a::x,b::y,h,hne=>by
  simp only[Op.bytesLess,Bool.or_eq_false_iff,decide_eq_false_iff_not,Bool.and_eq_false_iff]at h;simp only[Op.bytesLess,mo,aC,aP,bf];by_cases e:b=a
  ·subst e;refine .inr ⟨rfl,AY (h.2.resolve_left sw) λe=>hne (by rw[e])⟩
  ·exact .inl (Nat.lt_of_le_of_ne (UInt8.not_lt.1 h.1) λe'=>e (UInt8.toNat_inj.1 e'))
def fH:List (Sem zh)->List (Sem zh)
 |[a,b]=>if Op.bytesLess b.1.1 a.1.1=Q3 then[b,a]else[a,b]
 |l=>l
theorem ra(a b:Sem zh):fH [a,b]=if Op.bytesLess b.1.1 a.1.1=Q3 then[b,a]else[a,b]:=rfl
def two(l:List (Sem zh)):Bool:=match l with
 |[_]=>Q3
 |[a,b]=>!((a.1.1:zD)==b.1.1)
 |_=>Q4
theorem UC{l l':List (Sem zh)}(h:two l=Q3)(hp:List.Perm l' l)(hs:l'.Pairwise λx y:Sem zh=>¬Lib.compareBytes y.1.1 x.1.1<0):l'=fH l:=by
 match l,h with
 |[a],_=>exact List.perm_singleton.1 hp
 | [a,b],h=>
  have hl:=hp.length_eq;have hne:(a.1.1:zD)≠b.1.1:=by simpa[two]using h
  match l',hl,hp,hs with
  |[x,y],_,hp,hs=>
  have hs:¬Lib.compareBytes y.1.1 x.1.1<0:=by simpa using hs
  rw[tB]at hs;have hx:x=a/\y=b\/x=b/\y=a:=by
   have hxm:x∈[a,b]:=hp.mem_iff.1 sw;rcases cu.1 hxm with rfl|hxm
   ·have:=(List.perm_cons x).1 hp;exact .inl ⟨rfl,by simpa using this⟩
   ·have hxb:x=b:=by simpa using hxm
    subst hxb;have:=(List.perm_cons x).1 (hp.trans (List.Perm.swap x a []));exact .inr ⟨rfl,by simpa using this⟩
  rw[ra];rcases hx with⟨rfl,rfl⟩|⟨rfl,rfl⟩
  ·rw[if_neg hs]
  ·rw[if_pos (AY (by simpa using hs) hne)]
def zag:ac:=λargs hp _=>match args with
 | [.vec id,.clo (.func 56) [] [.ptr nb 0]]=>match hp id,hp nb with
  |.vec zkK l,.box [.clo (.func 52) [] []]=>.chk (two l) (.ok {val:=.tup [],wr:=[(id,.vec zh (fH l))]})
  |_,_=>.err
 |_=>.err
theorem zl0:Go.Proofs.Enters Tryz.prog 56:=by
  cases hb:Tryz.f56.body with
  | none => have:Tryz.f56.body.isNone=false:=by kernel_rfl
            rw[hb]at this;cases this
  |some c=>exact Go.Proofs.enters_of (fn:=Tryz.f56) kw kw hb
theorem zb2:FK 92 zag where
 fn:=⟨Tryz.f92,kw,kw,kw⟩
 calls:=λw U ρ hp n args vals f fp hf hr hub hgl hfp hin hcl hnw=>by
  unfold zag at hf;split at hf
  ·rename_i id nb;split at hf
   ·rename_i l hid hnb;simp only[Tr.val_chk,Tr.val_ok,bD]at hf;obtain⟨h2,rfl⟩:=hf;have hl:=hr.len
    match vals,hl,hr with
    |[va,vc],_,hr=>
    have r0:=hr.rv 0 _ va rfl rfl;have r1:=hr.rv 1 _ vc rfl rfl;cases r0 with
    |vec _ _ hva _=>
    cases r1 with
    |clo _ _ _ vf vcs hf hc hrf hrc=>
    match vf,hf,vcs,hc,hrc with
    |[],_,[pv],_,hrc=>
    have r2:=hrc 0 _ pv rfl rfl;cases r2 with
    |ptr _ _ b0 hb0=>
    have iid:id∈fp:=hin id (by simp[AV.idsL,AV.ids]);have inb:nb∈fp:=hin nb (by simp[AV.idsL,AV.ids]);have ob:=hfp.ob nb inb;have oid:=hfp.ob id iid;rw[hnb]at ob;rw[hid]at oid;obtain⟨b',T,arr,e1,hUB,hBB,hrl,h1c⟩:=ob;rw[hb0]at e1;cases e1;have hal:=hrl.len;have hfv:=hrl.rv 0 _ (arr.toList[0]'(by rw[<-hal];simp)) rfl (zS _);have hcell:w.cell? ⟨b0,0,Q2⟩=Q1 (.func (.func 52) #[] #[]):=by
     generalize hx:arr.toList[0]'(by rw[<-hal];simp)=x at hfv;cases hfv with
     |clo _ _ _ vf vc hf hc _ _=>
     match vf,hf,vc,hc with
     |[],_,[],_=>
     rw[World.cell?,hBB];have:arr[0]?=Q1 (Value.func (.func 52) #[] #[]):=by
      rw[<-rD,zS (by rw[<-hal];simp),hx]
     simpa using this
    have hbl:=hub b0 hUB;have hlne:l≠[]:=λe=>by rw[e]at h2;cases h2
    have hlen:l.length<=2:=by
     match l,h2 with
     |[_],_=>simp
     |[_,_],_=>simp
    refine⟨(UW (n:=n) (e:=zh) (G:=λ_=>True) (λx y:Sem zh=>Lib.compareBytes x.1.1 y.1.1) (by decide) hub hid oid hva hlne (λ_ _=>trivial) ?_).mono ?_,by simp;exact iid⟩
    ·intro inst B cap d hds hH hBlt hown;have hne:b0≠B:=λe=>by
      have:=hfp.inj id iid nb inb B (by rw[hid];exact hown) (by rw[hnb];exact⟨rfl,_,hb0,by simp[eR,e]⟩);subst this;rw[hid]at hnb;cases hnb
     refine AnyQ.slices_SortFunc Tryz.sortRel 12 Tryz.isAgg52 Tryz.sizeOf52 (λp:Pl w U ρ zh (λ_=>True)=>p.1.1) (λp=>p.2.1) (λp=>p.2.2.1) (λp q=>Lib.compareBytes p.1.2.1.1 q.1.2.1.1) ?_ 56 #[.pointer (Q1 ⟨b0,0,Q2⟩)] B 0 cap d w zl0 ?_ hH hBlt ow
     ·refine⟨λx=>?_,λx y z h g=>?_,λx y z h g=>?_⟩
      ·have:=Ek x.1.2.1.1;simp only[ltOf,decide_eq_false_iff_not,tB,this];simp
      ·simp only[ltOf,aP,tB]at*;exact AZ h g
      ·simp only[ltOf,decide_eq_false_iff_not,tB]at*;intro hxz;by_cases e:(x.1.2.1.1:zD)=y.1.2.1.1
       ·rw[e]at hxz;exact g hxz
       ·exact g (AZ (AY (by simpa using h) e) hxz)
     ·intro m os dk hdk x y;have nm:∀p:Pl w U ρ zh (λ_=>True),∃v1 v2 v3 v4 v5 v6 v7 v8 v9 v10 v11,p.1.1=[.string ⟨(p.1.2.1.1:zD).toArray⟩,v1,v2,v3,v4,v5,v6,v7,v8,v9,v10,v11]:=by
       rintro⟨⟨cs,q⟩,h1,h2,h3,h4⟩;obtain⟨v,hv1,hv2⟩:=h3 0 (.str q.1.1) rfl;have h1:cs.length=12:=h1
       match cs,h1 with
       |[a0,a1,a2,a3,a4,a5,a6,a7,a8,a9,a10,a11],_=>
       have:a0=v:=by simpa using hv1
       subst this;cases hv2;exact⟨a1,a2,a3,a4,a5,a6,a7,a8,a9,a10,a11,rfl⟩
      obtain⟨v1,v2,v3,v4,v5,v6,v7,v8,v9,v10,v11,ex⟩:=nm x;obtain⟨u1,u2,u3,u4,u5,u6,u7,u8,u9,u10,u11,ey⟩:=nm y;have hkept:(sortWorldK (λp:Pl w U ρ zh (λ_=>True)=>p.1.1) 12 w B 0 m dk os).heap[b0]?=w.heap[b0]?:=gR dk hbl hne
      have:=Tryz.cmp56 ⟨(x.1.2.1.1:zD).toArray⟩ ⟨(y.1.2.1.1:zD).toArray⟩ v1 v2 v3 v4 v5 v6 v7 v8 v9 v10 v11 u1 u2 u3 u4 u5 u6 u7 u8 u9 u10 u11 b0 (sortWorldK (λp:Pl w U ρ zh (λ_=>True)=>p.1.1) 12 w B 0 m dk os)
       (by rw[World.cell?_of_block hkept];exact hcell) (iO hbl (by unfold sortWorldK grow putRowK;simp[Sort.ahead]))
      show Calls Tryz.prog 56 (#[Value.agg x.1.1.toArray,Value.agg y.1.1.toArray]++#[Value.pointer (Q1 ⟨b0,0,Q2⟩)]) _ _;rw[ex,ey];exact this
    ·rintro e' w' ⟨l',hp',hs',v',U',ρ',rfl,hef⟩;rw[UC h2 hp' hs']at hef;exact⟨v',U',ρ',rfl,hef⟩
   ·simp at hf
  ·simp at hf
open Go Go.Proofs
noncomputable def zG(db:List (Sem zh))(p:Sem zr):List (Sem zh):=(bH p.2.1 p.2.2.1).map λn=>kE (aD (bH p.2.1 p.2.2.1)) (aB db n)
theorem Ff{l:List (Sem zh)}{x:Sem zh}:x∈fH l↔x∈l:=by
 match l with
 |[]=>rfl
 |[_]=>rfl
 | [a,b]=>
  rw[ra];split
  ·simp[or_comm]
  ·exact Iff.rfl
 |_::_::_::_=>rfl
theorem E9(l:List (Sem zh)):(fH l).length=l.length:=by
 match l with
 |[]=>rfl
 |[_]=>rfl
 |[a,b]=>rw[ra];split<;>rfl
 |_::_::_::_=>rfl
theorem It{db:List (Sem zh)}{s:Sem zl}(hp:(dj db s).1=0):(dj db s).2.1=s.1/\(dj db s).2.2.1=s.2.2.1/\(dj db s).2.2.2.1=dL s:=by
 unfold dj at hp⊢;split at hp
 ·rename_i h;rw[if_pos h,(lK hp).2];exact⟨rfl,rfl,rfl⟩
 ·rename_i h;split at hp
  ·rename_i h';rw[if_neg h,if_pos h',(lK hp).2];exact⟨rfl,rfl,rfl⟩
  ·rename_i h';split at hp
   ·rename_i h'';rw[if_neg h,if_neg h',if_pos h'',(lK hp).2];exact⟨rfl,rfl,rfl⟩
   ·cases hp
theorem Po{s:Sem zl}(h:fh s=Q3)(ho:s.1=[106,111,105,110]):dL s≠[]:=by
 obtain⟨o,s2,s3,s4,s5,s6,s7,s8,s9,s10,uP,s12,s13⟩:=s;have ho:o=[106,111,105,110]:=ho;subst ho;obtain⟨_,hp⟩:=eC (s:=([106,111,105,110],s2,s3,s4,s5,s6,s7,s8,s9,s10,uP,s12,s13)) (g:=_) (b:=_) rfl;rw[hp]at h;intro hr;have hr:s13=[]:=hr;subst hr;rw[show bR []=Q4 from rfl]at h;cases h1:bR s2<;>cases h2:bR s3<;>cases h3:bR s6<;>simp[h1,h2,h3]at h
theorem NM{db:List (Sem zh)}{s:Sem zl}(hp:(aW db s).1=0):jC s.1/\dZ s=Q3/\kC db=(0:Int)/\(∀n∈bH s.2.2.1 (dL s),LE.le (α:=Int) 0 (zX db n))/\s.2.2.1≠dL s/\aW db s=dj db s:=by
 unfold aW at hp;split at hp
 case isFalse=>cases hp
 rename_i hm;split at hp
 case isFalse h=>exact absurd hp h
 rename_i h0;refine⟨hm.1,hm.2.1,hm.2.2,?_,?_,by unfold aW;rw[if_pos hm,if_pos h0]⟩
 ·unfold nX at h0;split at h0
  ·assumption
  ·cases h0
 ·unfold nX at h0;split at h0
  case isFalse=>cases h0
  split at h0
  case isTrue=>cases h0
  rename_i h2;intro e;apply h2;have e:s.2.2.1=s.t.t.t:=e;rw[<-e];simp
theorem PV{db:List (Sem zh)}{s:Sem zl}(hdb:∀x∈db,gN x)(hp:(aW db s).1=0)(sh:l5 s):
  aW (fH (zG db (aW db s).2)) (iT (aW db s).2 (zG db (aW db s).2))=(0,(aW db s).2)/\(zG db (aW db s).2).map (λx:Sem zh=>x.1.1)=bH (aW db s).2.2.1 (aW db s).2.2.2.1/\(fH (zG db (aW db s).2)).Pairwise (λx y:Sem zh=>Op.bytesLess x.1.1 y.1.1=Q3)/\iT (aW db s).2 (zG db (aW db s).2)=s/\(∀x∈fH (zG db (aW db s).2),gN x)/\two (zG db (aW db s).2)=Q3:=by
 obtain⟨hm,hmay,hb,hf,hne,hask⟩:=NM hp;have hB:=(ke hdb).1 hb;have hparts:=lV hmay;have hp0:(dj db s).1=0:=by rw[<-hask];exact hp
 obtain⟨f1,f2,f3⟩:=It hp0;have hp2:aW db s=(0,(aW db s).2):=by rw[<-hp]
 rw[hask]at hp2⊢;generalize hns:bH (dj db s).2.2.1 (dj db s).2.2.2.1=ns;have hns':bH s.2.2.1 (dL s)=ns:=by rw[<-hns,f2,f3]
 rw[hns']at hf;have hsrc:zG db (dj db s).2=ns.map λn=>kE (aD ns) (aB db n):=by unfold zG;rw[hns]
 rw[hsrc];have hname:∀n∈ns,(aB db n).1.1=n:=λn hn=>(md (hf n hn)).2
 have hmem:∀x∈fH (ns.map λn=>kE (aD ns) (aB db n)),∃n∈ns,x=kE (aD ns) (aB db n):=λx hx=>by
  obtain⟨n,hn,rfl⟩:=bq.1 (Ff.1 hx);exact⟨n,hn,rfl⟩
 have hthere:∀n∈ns,kE (aD ns) (aB db n)∈fH (ns.map λn=>kE (aD ns) (aB db n)):=λn hn=>Ff.2 (bq.2 ⟨n,hn,rfl⟩)
 have hlen:ns.length<=2:=by rw[<-hns];unfold bH;split<;>simp
 have hpw:(fH (ns.map λn=>kE (aD ns) (aB db n))).Pairwise λx y:Sem zh=>Op.bytesLess x.1.1 y.1.1=Q3:=by
  by_cases hr:(dL s==[])=Q3
  ·have e:ns=[s.2.2.1]:=by rw[<-hns'];unfold bH;rw[if_pos hr]
   rw[e];simp[fH]
  ·have e:ns=[s.2.2.1,dL s]:=by rw[<-hns'];unfold bH;rw[if_neg hr]
   have n1:=hname s.2.2.1 (by rw[e];simp);have n2:=hname (dL s) (by rw[e];simp);rw[e];show(fH [kE _ (aB db s.2.2.1),kE _ (aB db (dL s))]).Pairwise _;rw[ra];split
   ·rename_i h;simp only[List.pairwise_cons,gw,forall_eq,List.not_mem_nil,false_implies,implies_true,List.Pairwise.nil,and_true];exact h
   ·rename_i h;simp only[List.pairwise_cons,gw,forall_eq,List.not_mem_nil,false_implies,implies_true,List.Pairwise.nil,and_true];refine jO (by simpa using h) ?_;show(aB db (dL s)).1.1≠(aB db s.2.2.1).1.1;rw[n1,n2];exact λe=>hne e.symm
 generalize hdb':fH (ns.map λn=>kE (aD ns) (aB db n))=db' at hmem hthere hpw;have hfind:∀n∈ns,LE.le (α:=Int) 0 (zX db' n):=λn hn=>by
  have:=Nf (hthere n hn)
  rwa [show(kE (aD ns) (aB db n)).1.1=n from hname n hn]at this
 have hB':iU db':=hB.src (p:=aD ns) (by rw[<-hdb',E9,cV];omega) hpw (λy hy=>by
  obtain⟨n,hn,rfl⟩:=hmem y hy;exact⟨_,(md (hf n hn)).1,rfl⟩) (λn hn=>hfind n ((kN _ _).1 hn))
 have hsh:∀x∈db',gN x:=λx hx=>by
  obtain⟨n,hn,rfl⟩:=hmem x hx;have:=hdb _ (md (hf n hn)).1;exact⟨this.uq,cD (List.length_filter_le _ _) this.rf,this.rw⟩
 have htab:∀n∈ns,az db' n=KX (aD ns) (az db n):=λn hn=>by
  obtain⟨h1,h2⟩:=md (hfind n hn);obtain⟨m,hm,e⟩:=hmem _ h1;have:m=n:=by
   rw[e]at h2;rw[<-hname m hm];exact h2
  subst this;show(aB db' m).1=_;rw[e];rfl
 have hback:iT (dj db s).2 (ns.map λn=>kE (aD ns) (aB db n))=s:=by
  refine PX hp0 hm hparts sh ?_;have:∃r,ns=s.2.2.1::r:=by rw[<-hns'];unfold bH;split<;>exact⟨_,rfl⟩
  obtain⟨r,e⟩:=this;rw[e];rfl
 have htwo:two (ns.map λn=>kE (aD ns) (aB db n))=Q3:=by
  by_cases hr:(dL s==[])=Q3
  ·have e:ns=[s.2.2.1]:=by rw[<-hns'];unfold bH;rw[if_pos hr]
   rw[e];rfl
  ·have e:ns=[s.2.2.1,dL s]:=by rw[<-hns'];unfold bH;rw[if_neg hr]
   have n1:=hname s.2.2.1 (by rw[e];simp);have n2:=hname (dL s) (by rw[e];simp);rw[e];show(!((aB db s.2.2.1).1.1:zD)==(aB db (dL s)).1.1)=Q3;rw[n1,n2];simpa using hne
 refine⟨?_,?_,hpw,hback,hsh,htwo⟩
 ·rw[hback];refine(T4 hp ((ke hsh).2 hB') (λn hn=>?_) (λx hx=>?_) (λho=>Po hparts ho)).1.trans (by rw[hask];exact hp2)
  ·rw[hns']at hn⊢;refine⟨hfind n hn,?_⟩;rw[htab n hn];refine⟨rfl,rfl,λf hfn=>?_⟩;show f∈(az db n).t.1.filter (λf:Sem zu=>aD ns f.2)↔_;rw[List.mem_filter,(kN _ _).2 hfn];simp
  ·rw[hns'];obtain⟨n,hn,rfl⟩:=hmem x hx;obtain⟨h1,h2⟩:=md (hf n hn);exact⟨by show(aB db n).1.1∈ns;rw[h2];exact hn,_,h1,rfl⟩
 ·rw[oS]
  conv=>rhs;rw[<-List.map_id ns]
  exact List.map_congr_left λn hn=>hname n hn
noncomputable abbrev xz(l:List (Sem ze)):Tr zE:=run EQ 0 W5 (Func.results Tryz.f32).toList 300 (bx Tryz.f32) (bg (Func.ntmps Tryz.f32) [.sl ze l] [])
theorem Ny:zL EQ.P 32 Tryz.f32 1:=bS kw
theorem zhT(l:List (Sem ze)):xz l=.ok (.fork l.isEmpty (dV (xz l)).1 (dV (xz l)).2.1 (dV (xz l)).2.2):=kw
theorem zdP(l:List (Sem ze)):run EQ 0 W5 (Func.results Tryz.f32).toList 300 (dV (xz l)).1 (dV (xz l)).2.2=.ok (.ret .nils []):=kw
theorem zdQ(l:List (Sem ze)):run EQ 0 W5 (Func.results Tryz.f32).toList 300 (dV (xz l)).2.1 (dV (xz l)).2.2=.chk (Q0 (l.length<=1073741824)) (.ok (.ret (.vec 0) [.vec ze l])):=kw
def zhj:il [Q1 (.sl ze)]:=λx h=>match h with
 |[]=>.chk (Q0 (length x.1<=1073741824)) (.ok (.vec 0,[.vec ze x.1]))
 |_=>.err
def zff:ac:=bm [Q1 (.sl ze)] zhj
theorem za9:FK 32 zff:=by
 refine dv Ny λx h0 res hx C hC=>?_
 unfold zhj at hx;split at hx
 ·simp only[Q8]at hx;split at hx
  ·rename_i hl;simp only[bD]at hx;subst hx;obtain⟨l,u⟩:=x;refine zF (n0:=0) mB Ny hC (zhT l) ?_;refine⟨λhe=>?_,?_⟩
   ·have hn:l=[]:=List.isEmpty_iff.1 he;refine Reach.weaken (Q:=λr h=>(r,h)=(.vec 0,[.vec ze []])) (Reach.promNil ze (λid=>hC id sw) (zF (n0:=0) mB Ny hC (zdP l) rfl)) ?_;intro r h hq;cases hq;refine⟨_,?_,λ_ _ _ _ h=>h⟩;show(AV.vec 0,[AO.vec ze []])=(AV.vec 0,[AO.vec ze l]);rw[hn]
   ·exact zF (n0:=0) mB Ny hC (zdQ l) (kd hl rfl)
  ·cases hx
 ·simp at hx
noncomputable def RX:=EQ.add 32 zff
theorem sC:zy RX:=mB.add za9
noncomputable section
def Pk(x0:Sem zr)(x1:Sem zh.sl):Tr (Empty⊕aw):=
 let a0:=getD x1 (toNat 0) (zi zh)
 br (x0.1==[99,111,112,121]) (Qc (zK 0 (length x1)) (re (ai a0.1.2.2.1) []))
 (br (x0.1==[106,111,105,110]) (re (ai x0.t.2) [])
  (Qc (zK 0 (length x0.t.1)) (re (ai (getD x0.t.1 (toNat 0) (zi zg))) [])))
def rc(x0:Sem zr)(x1:Sem zh.sl):=al [zg] t0 100000000 (Pk x0 x1)
def jt(x0:Sem zr)(x1:Sem zh.sl):=(rc x0 x1).isSome
def bW(x0:Sem zr)(x1:Sem zh.sl):=o1 (rc x0 x1)
def zfe:=FT [zr,zh.sl] [zg] λx=>rc x.1 x.2.1
theorem za8:FK 31 zfe:=sC.T1 (f:=Tryz.f31) (keep:=k0) (e:=e0)
abbrev zi7:=lx [(7,[4,5,52,53,54])]
inductive Id where
 |h7 (l52:List (Sem zj)) (i53:Int) (i54:Int) (ja0:List UInt8) (ja1:List UInt8) (ja2:List UInt8) (ja5:List UInt8) (ja8:List UInt8) (ja9:Int) (ja10:Int) (ja11:List UInt8) (ja12:List UInt8) (ja16:List UInt8) (ja17:Int) (ja18:Int) (ja19:List UInt8) (ja20:List UInt8) (ja22:List UInt8) (jb0:Sem Q6) (jb1:Sem Q6) (jb2:Sem Q6) (jb5:List UInt8) (jb8:zD) (jb9:Int) (jb10:Int) (jb11:zD) (jb12:zD) (jb13:List (Sem Q5)) (jb16:List UInt8) (jb17:Int) (jb18:Int) (jb19:List UInt8) (jb20:List UInt8) (jb22:Sem Q6)
 |h7b (l52:List (Sem zj)) (i53:Int) (i54:Int) (ja0:List UInt8) (ja1:List UInt8) (ja2:List UInt8) (ja5:List UInt8) (ja8:List UInt8) (ja9:Int) (ja10:Int) (ja11:List UInt8) (ja12:List UInt8) (ja16:List UInt8) (ja17:Int) (ja18:Int) (ja19:List UInt8) (ja20:List UInt8) (ja22:List UInt8) (jb0:Sem Q6) (jb1:Sem Q6) (jb2:Sem Q6) (jb5:List UInt8) (jb8:zD) (jb9:Int) (jb10:Int) (jb11:zD) (jb12:zD) (jb13:List (Sem Q5)) (jb16:List UInt8) (jb17:Int) (jb18:Int) (jb19:List UInt8) (jb20:List UInt8) (jb22:Sem Q6) (lh_2:List (Sem Q6))
abbrev zlK:Id->Nat×St
 |.h7 l52 i53 i54 ja0 ja1 ja2 ja5 ja8 ja9 ja10 ja11 ja12 ja16 ja17 ja18 ja19 ja20 ja22 jb0 jb1 jb2 jb5 jb8 jb9 jb10 jb11 jb12 jb13 jb16 jb17 jb18 jb19 jb20 jb22=>(7,⟨tm 67 [(4,ptr 0 0),(5,ptr 1 0),(52,sl zj l52),(53,ai i53),(54,ai i54)],[Qa [str ja0,str ja1,str ja2,Qb,Qb,str ja5,Qb,Qb,str ja8,ai ja9,ai ja10,str ja11,str ja12,Qb,Qb,Qb,str ja16,ai ja17,ai ja18,str ja19,str ja20,Qb,str ja22],Qa [str jb0,str jb1,str jb2,Qb,Qb,str jb5,Qb,Qb,str jb8,ai jb9,ai jb10,str jb11,str jb12,sl Q5 jb13,Qb,Qb,str jb16,ai jb17,ai jb18,str jb19,str jb20,Qb,str jb22]]⟩)
 |.h7b l52 i53 i54 ja0 ja1 ja2 ja5 ja8 ja9 ja10 ja11 ja12 ja16 ja17 ja18 ja19 ja20 ja22 jb0 jb1 jb2 jb5 jb8 jb9 jb10 jb11 jb12 jb13 jb16 jb17 jb18 jb19 jb20 jb22 lh_2=>(7,⟨tm 67 [(4,ptr 0 0),(5,ptr 1 0),(52,sl zj l52),(53,ai i53),(54,ai i54)],[Qa [str ja0,str ja1,str ja2,Qb,Qb,str ja5,Qb,Qb,str ja8,ai ja9,ai ja10,str ja11,str ja12,Qb,Qb,Qb,str ja16,ai ja17,ai ja18,str ja19,str ja20,Qb,str ja22],Qa [str jb0,str jb1,str jb2,AV.vec 2,Qb,str jb5,Qb,Qb,str jb8,ai jb9,ai jb10,str jb11,str jb12,sl Q5 jb13,Qb,Qb,str jb16,ai jb17,ai jb18,str jb19,str jb20,Qb,str jb22],AO.vec Q6 lh_2]⟩)
def WV(x0:Sem zr)(x1:Sem zh.sl):Tr (Id⊕aw):=
 let a0:=Q0 (x0.t.2>=0)
 let a1:=zK 0 (length x1)
 let a2:=getD x1 (toNat 0) (zi zh)
 let a3:=(↑(length a2.1.2.1):Int)
 let a4:=getD a2.1.2.1 (toNat x0.t.2) (zi zj)
 br (x0.1==[106,111,105,110])
 (Qc (bif a0 then a1 else Q3)
  (br (bif a0 then Q0 (x0.t.2<a3)else Q4) (Qc a1 (Qc (zK x0.t.2 (length a2.1.2.1)) (re (agg [str x0.1,str x0.2.2.2.1.1,str x0.2.1,Qb,Qb,str a4.1,Qb,Qb,str (zf.op x0.2.2.2.1.t.2),ai (zf.v x0.2.2.2.1.t.2).1,
  ai (zf.v x0.2.2.2.1.t.2).2.1,str (zf.v x0.2.2.2.1.t.2).2.2,str (zf.s x0.2.2.2.1.t.2),sl Q5 (zf.l x0.2.2.2.1.t.2),Qb,Qb,str [],ai 0,ai 0,str [],str [],Qb,str x0.2.2.1]) []))) (re (agg
  [str x0.1,str x0.2.2.2.1.1,str x0.2.1,Qb,Qb,str [],Qb,Qb,str (zf.op x0.2.2.2.1.t.2),ai (zf.v x0.2.2.2.1.t.2).1,ai (zf.v x0.2.2.2.1.t.2).2.1,str (zf.v x0.2.2.2.1.t.2).2.2,str (zf.s x0.2.2.2.1.t.2),sl Q5 (zf.l x0.2.2.2.1.t.2),Qb,Qb,
  str [],ai 0,ai 0,str [],str [],Qb,str x0.2.2.1]) [])))
 (Q9
  (Id.h7 x0.2.2.2.1.2.1 (↑(length x0.2.2.2.1.2.1):Int) 0 [] [] [] [] [] 0 0 [] [] [] 0 0 [] [] [] x0.1 x0.2.2.2.1.1 x0.2.1 [] (zf.op x0.2.2.2.1.t.2) (zf.v x0.2.2.2.1.t.2).1 (zf.v x0.2.2.2.1.t.2).2.1 (zf.v x0.2.2.2.1.t.2).2.2 (zf.s x0.2.2.2.1.t.2) (zf.l x0.2.2.2.1.t.2) [] 0 0 [] [] x0.2.2.1))
def yu:Id->Tr (Id⊕aw)
 | .h7 l52 i53 i54 ja0 ja1 ja2 ja5 ja8 ja9 ja10 ja11 ja12 ja16 ja17 ja18 ja19 ja20 ja22 jb0 jb1 jb2 jb5 jb8 jb9 jb10 jb11 jb12 jb13 jb16 jb17 jb18 jb19 jb20 jb22=>
  let a0:=l52.getD i54.toNat (zi zj)
  let a1:=[a0.1]
  br (Q0 (i54<i53))
  (Qc (zK i54 l52.length) (Qc (Q0 (a1.length<=1073741824)) (Q9 (Id.h7b l52 i53 (IntKind.i64.wrap (i54+1)) ja0 ja1 ja2 ja5 ja8 ja9 ja10 ja11 ja12 ja16 ja17 ja18 ja19 ja20 ja22 jb0 jb1 jb2 jb5 jb8 jb9 jb10 jb11 jb12 jb13 jb16 jb17 jb18 jb19 jb20 jb22 a1))))
  (re (agg [str jb0,str jb1,str jb2,Qb,Qb,str jb5,Qb,Qb,str jb8,ai jb9,ai jb10,str jb11,str jb12,sl Q5 jb13,Qb,Qb,str jb16,ai jb17,ai jb18,str jb19,str jb20,Qb,str jb22]) [])
 | .h7b l52 i53 i54 ja0 ja1 ja2 ja5 ja8 ja9 ja10 ja11 ja12 ja16 ja17 ja18 ja19 ja20 ja22 jb0 jb1 jb2 jb5 jb8 jb9 jb10 jb11 jb12 jb13 jb16 jb17 jb18 jb19 jb20 jb22 lh_2=>
  let a0:=l52.getD i54.toNat (zi zj)
  let a1:=[a0.1]
  br (Q0 (i54<i53))
  (Qc (zK i54 l52.length) (Qc (Q0 (lh_2.length+a1.length<=1073741824)) (Q9 (Id.h7b l52 i53 (IntKind.i64.wrap (i54+1)) ja0 ja1 ja2 ja5 ja8 ja9 ja10 ja11 ja12 ja16 ja17 ja18 ja19 ja20 ja22 jb0 jb1 jb2 jb5 jb8 jb9 jb10 jb11 jb12 jb13 jb16 jb17 jb18 jb19 jb20 jb22 (lh_2++a1)))))
  (re (agg [str jb0,str jb1,str jb2,AV.vec 0,Qb,str jb5,Qb,Qb,str jb8,ai jb9,ai jb10,str jb11,str jb12,sl Q5 jb13,Qb,Qb,str jb16,ai jb17,ai jb18,str jb19,str jb20,Qb,str jb22]) [AO.vec Q6 lh_2])
def GN(x0:Sem zr)(x1:Sem zh.sl):=al [zl] yu 100000000 (WV x0 x1)
def LU(x0:Sem zr)(x1:Sem zh.sl):=(GN x0 x1).isSome
def TV(x0:Sem zr)(x1:Sem zh.sl):=o1 (GN x0 x1)
def zfA:=FT [zr,zh.sl] [zl] λx=>GN x.1 x.2.1
theorem zbx:FK 59 zfA:=sC.T1 (f:=Tryz.f59) (keep:=zi7) (e:=zlK)
def RY:=RX.addL [(31,zfe),(59,zfA)]
theorem K7:zy RY:=sC.addL<|fc za8<|fc zbx<|iM
end
noncomputable def zm1(x0:Sem zh):Tr (Empty⊕aw):=
 re (str x0.1.1) []
noncomputable def Ut(x0:Sem zh):=al [Q6] t0 100000000 (zm1 x0)
noncomputable def zk9:=FT [zh] [Q6] λx=>Ut x.1
theorem zbt:FK 52 zk9:=mB.T1 (f:=Tryz.f52) (keep:=k0) (e:=e0)
theorem zbu:FK 52 (aF [zh] [.str] λx=>(x.1.1.1,())):=gV zbt λ_=>rfl
noncomputable def Zm:=((((RY.add 52 (aF [zh] [.str] λx=>(x.1.1.1,()))).add 92 zag).aut 54 Tryz.f54 2).aut 55 Tryz.f55 1)
theorem ER:zy Zm:=ir (ir ((K7.add zbu).add zb2) (bS kw)) (bS kw)
noncomputable section
abbrev ziT:=lx [(6,[1,2,5,6,19,20,21])]
inductive Ox where
 |h6 (l1:List (Sem zh)) (l6:List (Sem Q6)) (l19:List (Sem zh)) (i20:Int) (i21:Int) (z0:zm [CP.d zr])
abbrev zlC:Ox->Nat×St
 |.h6 l1 l6 l19 i20 i21 z0=>(6,⟨tm 55 [(1,sl zh l1),(2,ptr 0 0),(5,ptr 1 0),(6,sl Q6 l6),(19,sl zh l19),(20,ai i20),(21,ai i21)],[Qa (bv [] [CP.d zr] z0),Qa [AV.clo (Fn.func 52) [] []]]⟩)
def zil(x0:Sem zr)(x1:Sem zh.sl):Tr (Ox⊕aw):=
 let a0:=kT (x0.1,x0.2.1,x0.2.2.1,(x0.2.2.2.1.1,x0.2.2.2.1.2.1,x0.2.2.2.1.2.2.1,x0.2.2.2.1.2.2.2.1,x0.2.2.2.1.t.1,zn x0.2.2.2.1.t.2),x0.t)
 br ((↑(length x1):Int)!=(↑(length a0):Int)) (re (ai 1) []) (Q9 (Ox.h6 x1 a0 x1 (↑(length x1):Int) 0 (x0,())))
def XN:Ox->Tr (Ox⊕aw)
 | .h6 l1 l6 l19 i20 i21 z0=>
  let a0:=l19.getD i21.toNat (zi zh)
  let a1:=(z0.1.1,z0.1.2.1,z0.1.2.2.1,(z0.1.2.2.2.1.1,z0.1.2.2.2.1.2.1,z0.1.2.2.2.1.2.2.1,z0.1.2.2.2.1.2.2.2.1,z0.1.2.2.2.1.t.1,zn z0.1.2.2.2.1.t.2),z0.1.t)
  let a2:=TV a1 l1
  let a3:=(a2.1,a2.2.1,a2.2.2.1,a2.2.2.2.1,a2.t.1,a2.t.2.1,a2.t.q.1,a2.t.q.2.1,zn a2.t.t.1,a2.t.t.2.1,a2.t.t.q.1,zn a2.t.t.q.2.1,a2.t.t.t)
  let a4:=pOf (fH l1) a3
  let a5:=a4.2!=0
  let a6:=(a4.1.1,a4.1.2.1,a4.1.2.2.1,(a4.1.2.2.2.1.1,a4.1.2.2.2.1.2.1,a4.1.2.2.2.1.2.2.1,a4.1.2.2.2.1.2.2.2.1,a4.1.2.2.2.1.t.1,zn a4.1.2.2.2.1.t.2),a4.1.t)
  br (Q0 (i21<i20))
  (Qc (zK i21 l19.length) (Qc (zK i21 l6.length) (br (!a0.1.1==l6.getD i21.toNat (zi Q6)) (re (ai 1) []) (Q9 (Ox.h6 l1 l6 l19 i20 (IntKind.i64.wrap (i21+1)) z0)))))
  (Qc (Q0 (0<l1.length)) (Qc (Q0 (l1.length<=1000)) (Qc (two l1) (Qc (LU a1 l1) (Qc (zdT (fH l1) a3) (Qc (bif a5 then Q3 else GL a1 a6) (br (bif a5 then Q3 else !JF a1 a6) (re (ai 1) []) (re (ai 0) []))))))))
def NJ(x0:Sem zr)(x1:Sem zh.sl):=al [zg] XN 100000000 (zil x0 x1)
def Fi(x0:Sem zr)(x1:Sem zh.sl):=(NJ x0 x1).isSome
def PG(x0:Sem zr)(x1:Sem zh.sl):=o1 (NJ x0 x1)
def ze9:=FT [zr,zh.sl] [zg] λx=>NJ x.1 x.2.1
theorem za3:FK 29 ze9:=ER.T1 (f:=Tryz.f29) (keep:=ziT) (e:=zlC)
def Zn:=Zm.add 29 ze9
theorem qe:zy Zn:=ER.add za3
end
noncomputable section
abbrev ziD:=lx [(6,[5,8,9,22,23,24])]
inductive DA where
 |h6 (i8:Sem zg) (l22:List (Sem ze.sl)) (i23:Int) (i24:Int) (z0:zm [CP.d ze])
 |h6b (i8:Sem zg) (l22:List (Sem ze.sl)) (i23:Int) (i24:Int) (z0:zm [CP.d ze]) (lh_1:List (Sem ze.sl))
abbrev zlp:DA->Nat×St
 |.h6 i8 l22 i23 i24 z0=>(6,⟨tm 46 [(5,ptr 0 0),(8,ai i8),(9,Qb),(22,sl ze.sl l22),(23,ai i23),(24,ai i24)],[Qa (bv [] [CP.d ze] z0)]⟩)
 |.h6b i8 l22 i23 i24 z0 lh_1=>(6,⟨tm 46 [(5,ptr 0 0),(8,ai i8),(9,AV.vec 1),(22,sl ze.sl l22),(23,ai i23),(24,ai i24)],[Qa (bv [] [CP.d ze] z0),AO.vec ze.sl lh_1]⟩)
def zcV(x0:Sem zr)(x1:Sem zh.sl)(x2:Sem ze):Tr (DA⊕aw):=
 let a0:=(x0.1,x0.2.1,x0.2.2.1,(x0.2.2.2.1.1,x0.2.2.2.1.2.1,x0.2.2.2.1.2.2.1,x0.2.2.2.1.2.2.2.1,x0.2.2.2.1.t.1,zn x0.2.2.2.1.t.2),x0.t)
 let a1:=getD x1 (toNat 0) (zi zh)
 Qc (Fi a0 x1)
 (br (PG a0 x1 !=0) (re (tup [Qb,ai 1]) [])
  (Qc (jt a0 x1) (Qc (zK 0 (length x1)) (Q9 (DA.h6 (bW a0 x1) a1.2 (↑(length a1.2):Int) 0 (x2,()))))))
def yq:DA->Tr (DA⊕aw)
 | .h6 i8 l22 i23 i24 z0=>
  let a0:=l22.getD i24.toNat (zi ze.sl)
  let a1:=getD a0 (toNat i8) (zi ze)
  let a2:=[a0]
  let a3:=IntKind.i64.wrap (i24+1)
  br (Q0 (i24<i23))
  (Qc (zK i24 l22.length) (Qc (zK i8 (length a0)) (br (bif a1.1==z0.1.1&&(a1.2.1==z0.1.2.1&&(a1.2.2==z0.1.2.2&&Q3))then z0.1.1!=0 else Q4) (Qc (Q0 (length a0<=1073741824)) (Qc (Q0 (a2.length<=1073741824)) (Q9 (DA.h6b i8 l22 i23 a3 z0 a2)))) (Q9 (DA.h6 i8 l22 i23 a3 z0)))))
  (re (tup [Qb,ai 0]) [])
 | .h6b i8 l22 i23 i24 z0 lh_1=>
  let a0:=l22.getD i24.toNat (zi ze.sl)
  let a1:=getD a0 (toNat i8) (zi ze)
  let a2:=[a0]
  let a3:=IntKind.i64.wrap (i24+1)
  br (Q0 (i24<i23))
  (Qc (zK i24 l22.length) (Qc (zK i8 (length a0)) (br (bif a1.1==z0.1.1&&(a1.2.1==z0.1.2.1&&(a1.2.2==z0.1.2.2&&Q3))then z0.1.1!=0 else Q4) (Qc (Q0 (length a0<=1073741824)) (Qc (Q0 (lh_1.length+a2.length<=1073741824)) (Q9 (DA.h6b i8 l22 i23 a3 z0 (lh_1++a2))))) (Q9 (DA.h6b i8 l22 i23 a3 z0 lh_1)))))
  (re (tup [AV.vec 0,ai 0]) [AO.vec ze.sl lh_1])
def Dp(x0:Sem zr)(x1:Sem zh.sl)(x2:Sem ze):=al [ze.sl.sl,zg] yq 100000000 (zcV x0 x1 x2)
def ME(x0:Sem zr)(x1:Sem zh.sl)(x2:Sem ze):=(Dp x0 x1 x2).isSome
def US(x0:Sem zr)(x1:Sem zh.sl)(x2:Sem ze):=o2 (Dp x0 x1 x2)
def zeA:=FT [zr,zh.sl,ze] [ze.sl.sl,zg] λx=>Dp x.1 x.2.1 x.2.2.1
theorem zas:FK 11 zeA:=qe.T1 (f:=Tryz.f11) (keep:=ziD) (e:=zlp)
abbrev zi4:=lx [(4,[1,6,7,8]),(12,[1,6,7,8,10,11,12])]
inductive lZ where
 |h4 (l1:List (Sem zh)) (l6:List (Sem Q6)) (i8:Int)
 |h12 (l1:List (Sem zh)) (l6:List (Sem Q6)) (i8:Int) (i12:Int) (z0:zm [CP.d zh])
 |h12b (l1:List (Sem zh)) (l6:List (Sem Q6)) (i8:Int) (i12:Int) (z0:zm [CP.d zh]) (lh_1:List (Sem zu))
 |h4b (l1:List (Sem zh)) (l6:List (Sem Q6)) (i8:Int) (lh_0:List (Sem zh))
 |h12bb (l1:List (Sem zh)) (l6:List (Sem Q6)) (i8:Int) (i12:Int) (z1:zm [CP.d zh]) (lh_0:List (Sem zh))
 |h12bbb (l1:List (Sem zh)) (l6:List (Sem Q6)) (i8:Int) (i12:Int) (z1:zm [CP.d zh]) (lh_0:List (Sem zh)) (lh_2:List (Sem zu))
abbrev zlI:lZ->Nat×St
 |.h4 l1 l6 i8=>(4,⟨tm 67 [(1,sl zh l1),(6,sl Q6 l6),(7,Qb),(8,ai i8)],[]⟩)
 |.h12 l1 l6 i8 i12 z0=>(12,⟨tm 67 [(1,sl zh l1),(6,sl Q6 l6),(7,Qb),(8,ai i8),(10,ptr 0 0),(11,Qb),(12,ai i12)],[Qa (bv [] [CP.d zh] z0)]⟩)
 |.h12b l1 l6 i8 i12 z0 lh_1=>(12,⟨tm 67 [(1,sl zh l1),(6,sl Q6 l6),(7,Qb),(8,ai i8),(10,ptr 0 0),(11,AV.vec 1),(12,ai i12)],[Qa (bv [] [CP.d zh] z0),AO.vec zu lh_1]⟩)
 |.h4b l1 l6 i8 lh_0=>(4,⟨tm 67 [(1,sl zh l1),(6,sl Q6 l6),(7,AV.vec 0),(8,ai i8)],[AO.vec zh lh_0]⟩)
 |.h12bb l1 l6 i8 i12 z1 lh_0=>(12,⟨tm 67 [(1,sl zh l1),(6,sl Q6 l6),(7,AV.vec 0),(8,ai i8),(10,ptr 1 0),(11,Qb),(12,ai i12)],[AO.vec zh lh_0,Qa (bv [] [CP.d zh] z1)]⟩)
 |.h12bbb l1 l6 i8 i12 z1 lh_0 lh_2=>(12,⟨tm 67 [(1,sl zh l1),(6,sl Q6 l6),(7,AV.vec 0),(8,ai i8),(10,ptr 1 0),(11,AV.vec 2),(12,ai i12)],[AO.vec zh lh_0,Qa (bv [] [CP.d zh] z1),AO.vec zu lh_2]⟩)
def zc4(x0:Sem zr)(x1:Sem zh.sl):Tr (lZ⊕aw):=
 let a0:=(x0.1,x0.2.1,x0.2.2.1,(x0.2.2.2.1.1,x0.2.2.2.1.2.1,x0.2.2.2.1.2.2.1,x0.2.2.2.1.2.2.2.1,x0.2.2.2.1.t.1,zn x0.2.2.2.1.t.2),x0.t)
 Qc (jG a0) (Q9 (lZ.h4 x1 (kU a0) 0))
def gr:lZ->Tr (lZ⊕aw)
 | .h4 l1 l6 i8=>
  let a0:=lc l1 (l6.getD i8.toNat (zi Q6))
  br (Q0 (i8<(↑l6.length:Int)))
  (Qc (zK i8 l6.length) (br (Q0 (a0<0)) (re (tup [Qb,kb Q4]) []) (Qc (zK a0 l1.length) (Q9 (lZ.h12 l1 l6 i8 0 (l1.getD (toNat a0) (zi zh),()))))))
  (re (tup [Qb,kb Q3]) [])
 | .h12 l1 l6 i8 i12 z0=>
  let a0:=(↑(length z0.1.1.t.1):Int)
  let a1:=zK i12 (length z0.1.1.t.1)
  let a2:=getD z0.1.1.t.1 i12.toNat (zi zu)
  let a3:=[a2]
  let a4:=IntKind.i64.wrap (i12+1)
  let a5:=[((z0.1.1.1,z0.1.1.2.1,z0.1.1.2.2.1,z0.1.1.2.2.2.1,[],zn z0.1.1.t.2),z0.1.2)]
  br (Q0 (i12<a0))
  (Qc a1 (Qc (xV l6 a2.2) (br (J9 l6 a2.2) (Qc a1 (Qc (Q0 (a3.length<=1073741824)) (Q9 (lZ.h12b l1 l6 i8 a4 z0 a3)))) (Q9 (lZ.h12 l1 l6 i8 a4 z0)))))
  (Qc (Q0 (a5.length<=1073741824)) (Q9 (lZ.h4b l1 l6 (IntKind.i64.wrap (i8+1)) a5)))
 | .h12b l1 l6 i8 i12 z0 lh_1=>
  let a0:=(↑(length z0.1.1.t.1):Int)
  let a1:=zK i12 (length z0.1.1.t.1)
  let a2:=getD z0.1.1.t.1 i12.toNat (zi zu)
  let a3:=[a2]
  let a4:=IntKind.i64.wrap (i12+1)
  let a5:=[((z0.1.1.1,z0.1.1.2.1,z0.1.1.2.2.1,z0.1.1.2.2.2.1,lh_1,zn z0.1.1.t.2),z0.1.2)]
  br (Q0 (i12<a0))
  (Qc a1 (Qc (xV l6 a2.2) (br (J9 l6 a2.2) (Qc a1 (Qc (Q0 (lh_1.length+a3.length<=1073741824)) (Q9 (lZ.h12b l1 l6 i8 a4 z0 (lh_1++a3))))) (Q9 (lZ.h12b l1 l6 i8 a4 z0 lh_1)))))
  (Qc (Q0 (a5.length<=1073741824)) (Q9 (lZ.h4b l1 l6 (IntKind.i64.wrap (i8+1)) a5)))
 | .h4b l1 l6 i8 lh_0=>
  let a0:=lc l1 (l6.getD i8.toNat (zi Q6))
  br (Q0 (i8<(↑l6.length:Int)))
  (Qc (zK i8 l6.length) (br (Q0 (a0<0)) (re (tup [Qb,kb Q4]) []) (Qc (zK a0 l1.length) (Q9 (lZ.h12bb l1 l6 i8 0 (l1.getD (toNat a0) (zi zh),()) lh_0)))))
  (re (tup [AV.vec 0,kb Q3]) [AO.vec zh lh_0])
 | .h12bb l1 l6 i8 i12 z1 lh_0=>
  let a0:=(↑(length z1.1.1.t.1):Int)
  let a1:=zK i12 (length z1.1.1.t.1)
  let a2:=getD z1.1.1.t.1 i12.toNat (zi zu)
  let a3:=[a2]
  let a4:=IntKind.i64.wrap (i12+1)
  let a5:=[((z1.1.1.1,z1.1.1.2.1,z1.1.1.2.2.1,z1.1.1.2.2.2.1,[],zn z1.1.1.t.2),z1.1.2)]
  br (Q0 (i12<a0))
  (Qc a1 (Qc (xV l6 a2.2) (br (J9 l6 a2.2) (Qc a1 (Qc (Q0 (a3.length<=1073741824)) (Q9 (lZ.h12bbb l1 l6 i8 a4 z1 lh_0 a3)))) (Q9 (lZ.h12bb l1 l6 i8 a4 z1 lh_0)))))
  (Qc (Q0 (lh_0.length+a5.length<=1073741824)) (Q9 (lZ.h4b l1 l6 (IntKind.i64.wrap (i8+1)) (lh_0++a5))))
 | .h12bbb l1 l6 i8 i12 z1 lh_0 lh_2=>
  let a0:=(↑(length z1.1.1.t.1):Int)
  let a1:=zK i12 (length z1.1.1.t.1)
  let a2:=getD z1.1.1.t.1 i12.toNat (zi zu)
  let a3:=[a2]
  let a4:=IntKind.i64.wrap (i12+1)
  let a5:=[((z1.1.1.1,z1.1.1.2.1,z1.1.1.2.2.1,z1.1.1.2.2.2.1,lh_2,zn z1.1.1.t.2),z1.1.2)]
  br (Q0 (i12<a0))
  (Qc a1 (Qc (xV l6 a2.2) (br (J9 l6 a2.2) (Qc a1 (Qc (Q0 (lh_2.length+a3.length<=1073741824)) (Q9 (lZ.h12bbb l1 l6 i8 a4 z1 lh_0 (lh_2++a3))))) (Q9 (lZ.h12bbb l1 l6 i8 a4 z1 lh_0 lh_2)))))
  (Qc (Q0 (lh_0.length+a5.length<=1073741824)) (Q9 (lZ.h4b l1 l6 (IntKind.i64.wrap (i8+1)) (lh_0++a5))))
def Ch(x0:Sem zr)(x1:Sem zh.sl):=al [zh.sl,Sh.bool] gr 100000000 (zc4 x0 x1)
def L2(x0:Sem zr)(x1:Sem zh.sl):=(Ch x0 x1).isSome
def Ub(x0:Sem zr)(x1:Sem zh.sl):=o2 (Ch x0 x1)
def zfw:=FT [zr,zh.sl] [zh.sl,Sh.bool] λx=>Ch x.1 x.2.1
theorem zbq:FK 50 zfw:=qe.T1 (f:=Tryz.f50) (keep:=zi4) (e:=zlI)
def xD:=Zn.addL [(11,zeA),(50,zfw)]
theorem wl:zy xD:=qe.addL<|fc zas<|fc zbq<|iM
end
noncomputable def aT(p:Sem zr)(src:List (Sem zh)):Int:=if p.1=[99,111,112,121]then(getD src 0 (zi zh)).1.2.2.1 else if p.1=[106,111,105,110]then p.t.2 else getD p.t.1 0 (zi zg)
theorem P6{p:Sem zr}{src:List (Sem zh)}(h0:0<src.length)(hg:p.1≠[99,111,112,121]->p.1≠[106,111,105,110]->0<length p.t.1):rc p src=Q1 (aT p src,()):=by
 have hi:zK 0 src.length=Q3:=zt (i:=0) h0;unfold aT;by_cases h1:p.1=[99,111,112,121]
 ·rw[if_pos h1];have e1:(p.1==[99,111,112,121])=Q3:=by simp[h1]
  refine zJ (r:=(.int .i64 (getD src 0 (zi zh)).1.2.2.1,[])) ?_ rfl;simp only[Pk,Q8,e1,hi,if_true];rfl
 ·rw[if_neg h1];have e1:(p.1==[99,111,112,121])=Q4:=by simpa using h1
  by_cases h2:p.1=[106,111,105,110]
  ·rw[if_pos h2];have e2:(p.1==[106,111,105,110])=Q3:=by simp[h2]
   refine zJ (r:=(.int .i64 p.t.2,[])) ?_ rfl;simp only[Pk,Q8,e1,e2,if_true,zB,if_false]
  ·rw[if_neg h2];have e2:(p.1==[106,111,105,110])=Q4:=by simpa using h2
   have hj:zK 0 (length p.t.1)=Q3:=zt (i:=0) (hg h1 h2);refine zJ (r:=(.int .i64 (getD p.t.1 0 (zi zg)),[])) ?_ rfl;simp only[Pk,Q8,e1,e2,hj,if_true,zB,if_false];rfl
def s59(p:Sem zr)(n:Int)(i:Int):List zD->Id
 |[]=>.h7 p.2.2.2.1.2.1 n i [] [] [] [] [] 0 0 [] [] [] 0 0 [] [] [] p.1 p.2.2.2.1.1 p.2.1 [] (zf.op p.2.2.2.1.t.2) (zf.v p.2.2.2.1.t.2).1 (zf.v p.2.2.2.1.t.2).2.1 (zf.v p.2.2.2.1.t.2).2.2 (zf.s p.2.2.2.1.t.2) (zf.l p.2.2.2.1.t.2) [] 0 0 [] [] p.2.2.1
 |a::r=>.h7b p.2.2.2.1.2.1 n i [] [] [] [] [] 0 0 [] [] [] 0 0 [] [] [] p.1 p.2.2.2.1.1 p.2.1 [] (zf.op p.2.2.2.1.t.2) (zf.v p.2.2.2.1.t.2).1 (zf.v p.2.2.2.1.t.2).2.1 (zf.v p.2.2.2.1.t.2).2.2 (zf.s p.2.2.2.1.t.2) (zf.l p.2.2.2.1.t.2) [] 0 0 [] [] p.2.2.1 (a::r)
theorem XG{p:Sem zr}{i:Nat}(acc:List zD)(hi:i<length p.2.2.2.1.2.1)(hb:acc.length<=1000)(hib:i<=1000):(yu (s59 p (length p.2.2.2.1.2.1:Int) (i:Int) acc)).val=Q1 (.inl (s59 p (length p.2.2.2.1.2.1:Int) ((i+1:Nat):Int) (acc++[(getD p.2.2.2.1.2.1 i (zi zj)).1]))):=by
 cases acc with
 | nil=>
  show(yu (.h7 _ _ _ _ _ _ _ _ _ _ _ _ _ _ _ _ _ _ _ _ _ _ _ _ _ _ _ _ _ _ _ _ _ _)).val=_;simp only[yu,Q8,zC hi,zt hi,if_true,aG];rw[if_pos sw,zp i um];rfl
 | cons a r=>
  show(yu (.h7b _ _ _ _ _ _ _ _ _ _ _ _ _ _ _ _ _ _ _ _ _ _ _ _ _ _ _ _ _ _ _ _ _ _ _)).val=_;simp only[yu,Q8,zC hi,zt hi,if_true,aG];rw[if_pos (by simp at hb⊢;omega),zp i um];rfl
theorem TW{p:Sem zr}{src:List (Sem zh)}(h0:0<src.length)(hl:length p.2.2.2.1.2.1<=1000):GN p src=Q1 (iT p src,()):=by
 have hi:zK 0 src.length=Q3:=zt (i:=0) h0;by_cases h2:p.1=[106,111,105,110]
 ·have e2:(p.1==[106,111,105,110])=Q3:=by simp[h2]
  unfold iT;rw[if_pos h2,if_pos h2];by_cases hc:LE.le (α:=Int) 0 p.t.2/\LT.lt (α:=Int) p.t.2 (length (getD src 0 (zi zh)).1.2.1)
  ·rw[if_pos hc];have e3:Q0 (GE.ge (α:=Int) p.t.2 0)=Q3:=zx hc.1;have e4:Q0 (LT.lt (α:=Int) p.t.2 (length (getD src 0 (zi zh)).1.2.1))=Q3:=zx hc.2;have e5:zK p.t.2 (length (getD src 0 (zi zh)).1.2.1)=Q3:=by
    unfold zK;rw[aC];exact⟨zx hc.1,zx (by have:=hc.1;have:=hc.2;omega)⟩
   have hv:(WV p src).val=Q1 (.inr (agg [str p.1,str p.2.2.2.1.1,str p.2.1,Qb,Qb,str (getD (getD src 0 (zi zh)).1.2.1 (toNat p.t.2) (zi zj)).1,Qb,Qb,str (zf.op p.2.2.2.1.t.2),ai (zf.v p.2.2.2.1.t.2).1,
     ai (zf.v p.2.2.2.1.t.2).2.1,str (zf.v p.2.2.2.1.t.2).2.2,str (zf.s p.2.2.2.1.t.2),sl Q5 (zf.l p.2.2.2.1.t.2),Qb,Qb,str [],ai 0,ai 0,str [],str [],Qb,str p.2.2.1],[])):=by
    show(br _ (Qc _ (br _ (Qc _ (Qc _ (re _ _))) (re _ _))) (Q9 _)).val=_;have e3':Q0 (p.t.2>=0)=Q3:=e3;simp only[Q8,e2,e3',hi,ae,if_true];have e4':Q0 (p.t.2<(↑(length (getD src (toNat 0) (zi zh)).1.2.1):Int))=Q3:=e4;have e5':zK p.t.2 (length (getD src (toNat 0) (zi zh)).1.2.1)=Q3:=e5;rw[if_pos e4',if_pos e5'];rfl
   refine zJ hv ?_;rw[<-zk p.2.2.2.1.t.2];rfl
  ·rw[if_neg hc]
   have hv:(WV p src).val=Q1 (.inr (agg [str p.1,str p.2.2.2.1.1,str p.2.1,Qb,Qb,str [],Qb,Qb,str (zf.op p.2.2.2.1.t.2),ai (zf.v p.2.2.2.1.t.2).1,
     ai (zf.v p.2.2.2.1.t.2).2.1,str (zf.v p.2.2.2.1.t.2).2.2,str (zf.s p.2.2.2.1.t.2),sl Q5 (zf.l p.2.2.2.1.t.2),Qb,Qb,str [],ai 0,ai 0,str [],str [],Qb,str p.2.2.1],[])):=by
    have ec:(bif Q0 (p.t.2>=0)then Q0 (p.t.2<(↑(length (getD src (toNat 0) (zi zh)).1.2.1):Int))else Q4)=Q4:=by
     by_cases c1:LE.le (α:=Int) 0 p.t.2
     ·have c2:¬LT.lt (α:=Int) p.t.2 (length (getD src 0 (zi zh)).1.2.1):=λc=>hc ⟨c1,c⟩
      rw[show Q0 (p.t.2>=0)=Q3 from zx c1,ae];exact aj c2
     ·rw[show Q0 (p.t.2>=0)=Q4 from aj c1,ar]
    have ed:(bif Q0 (p.t.2>=0)then zK 0 (length src)else Q3)=Q3:=by rw[hi];cases Q0 (p.t.2>=0)<;>rfl
    show(br _ (Qc _ (br _ (Qc _ (Qc _ (re _ _))) (re _ _))) (Q9 _)).val=_;simp only[Q8,e2,if_true];rw[if_pos ed];simp only[ec,zB,if_false]
   refine zJ hv ?_;rw[<-zk p.2.2.2.1.t.2];rfl
 ·have e2:(p.1==[106,111,105,110])=Q4:=by simpa using h2
  have hs:(WV p src).val=Q1 (.inl (s59 p (length p.2.2.2.1.2.1:Int) ((0:Nat):Int) [])):=by
   show(br _ (Qc _ (br _ (Qc _ (Qc _ (re _ _))) (re _ _))) (Q9 _)).val=_;simp only[Q8,e2,zB,if_false];rfl
  have hg:=zQ.all (t:=yu) 1 (λi=>s59 p (length p.2.2.2.1.2.1:Int) (i:Int) ((p.2.2.2.1.2.1.take i).map λc:Sem zj=>c.1)) (length p.2.2.2.1.2.1) λi hi=>zQ.of (by
   rw[XG _ hi sg ow];congr 3;rw[bV hi,iP,bc,zS hi];rfl)
  simp only[List.take_zero,List.map_nil,jx]at hg;unfold iT;rw[if_neg h2,if_neg h2];generalize hm:(p.2.2.2.1.2.1.map λc:Sem zj=>c.1)=names at hg;have hend:∃r,zU yu 1 (s59 p (length p.2.2.2.1.2.1:Int) (length p.2.2.2.1.2.1:Int) names) r/\aL r.2 [zl] r.1=Q1 ((p.1,p.2.2.2.1.1,p.2.1,names,[],[],[],[],p.2.2.2.1.t.2,[],[],dn,p.2.2.1),()):=by
   cases names with
   | nil=>
    refine⟨_,zU.of (by
     show(yu (.h7 _ _ _ _ _ _ _ _ _ _ _ _ _ _ _ _ _ _ _ _ _ _ _ _ _ _ _ _ _ _ _ _ _ _)).val=_;simp only[yu,Q8,zA,zB,if_false];rfl),?_⟩
    rw[<-zk p.2.2.2.1.t.2];rfl
   | cons a r=>
    refine⟨_,zU.of (by
     show(yu (.h7b _ _ _ _ _ _ _ _ _ _ _ _ _ _ _ _ _ _ _ _ _ _ _ _ _ _ _ _ _ _ _ _ _ _ _)).val=_;simp only[yu,Q8,zA,zB,if_false];rfl),?_⟩
    rw[<-zk p.2.2.2.1.t.2];rfl
  obtain⟨r,r1,r2⟩:=hend;exact zw hs (hg.ends r1) ow r2
structure H8 (p:Sem zr) (src:List (Sem zh)):Prop where
 names:src.map (λx:Sem zh=>x.1.1)=bH p.2.1 p.2.2.1
 two:two src=Q3
 plan:aW (fH src) (iT p src)=(0,p)
 few:KJ (iT p src)
 short:∀x∈fH src,gN x
 cols:length p.2.2.2.1.2.1<=1000
 same:GL p p=Q3/\JF p p=Q3
theorem oe{src:List (Sem zh)}(h:two src=Q3):0<src.length/\src.length<=2:=by
 match src,h with
 |[_],_=>simp
 |[_,_],_=>simp
theorem Xq{p:Sem zr}{src:List (Sem zh)}(h:H8 p src):NJ p src=Q1 (0,()):=by
 obtain⟨l0,l2⟩:=oe h.two;have hlen:(bH p.2.1 p.2.2.1).length=src.length:=by rw[<-h.names,cV]
 have hs:(zil p src).val=Q1 (.inl (.h6 src (bH p.2.1 p.2.2.1) src (src.length:Int) ((0:Nat):Int) (p,()))):=by
  have e:((src.length:Int)!=((bH p.2.1 p.2.2.1).length:Int))=Q4:=by rw[hlen];simp
  show(br ((src.length:Int)!=((bH p.2.1 p.2.2.1).length:Int)) _ _).val=_;rw[e];rfl
 have hg:=zQ.all (t:=XN) 1 (λi=>.h6 src (bH p.2.1 p.2.2.1) src (src.length:Int) (i:Int) (p,())) src.length λi hi=>zQ.of (by
  have hn:(!((getD src i (zi zh)).1.1:zD)==(bH p.2.1 p.2.2.1).getD i (zi Q6))=Q4:=by
   rw[<-h.names,bc,bc,fi,zS hi];simp
  simp only[XN,Q8,zC hi,zt hi,zt (show i<(bH p.2.1 p.2.2.1).length by omega),if_true,aG,hn,zB,if_false];rw[zp i um])
 have hst:=TW (p:=p) l0 h.cols;have c1:LU p src=Q3:=by unfold LU;rw[hst];rfl
 have c2:TV p src=iT p src:=by unfold TV;rw[hst];rfl
 have hp:JE (fH src) (iT p src)=Q1 ((aW (fH src) (iT p src)).2,(aW (fH src) (iT p src)).1,()):=zdU h.short (by rw[E9];omega) h.few;rw[h.plan]at hp;have c3:zdT (fH src) (iT p src)=Q3:=by unfold zdT;rw[hp];rfl
 have c4:pOf (fH src) (iT p src)=(p,0):=by unfold pOf;rw[hp];rfl
 refine zw hs (hg.ends (k:=1) (r:=(.int .i64 0,[])) (zU.of ?_)) ow rfl;simp only[XN,Q8,zA,zk,Prod.eta,c1,c2,c3,c4,h.two,h.same.1,h.same.2,zB,if_false];simp[l0,show src.length<=1000 by omega]
theorem yP{p:Sem zr}{src:List (Sem zh)}(h:H8 p src):Fi p src=Q3/\PG p src=0:=by
 have:=Xq h;exact⟨by unfold Fi;rw[this];rfl,by unfold PG;rw[this];rfl⟩
def s50(db:List (Sem zh))(ns:List zD)(j:Int)(i:Int)(x:Sem zh):List (Sem zh)->List (Sem zu)->lZ
 |[],[]=>.h12 db ns j i (x,())
 |[],b::r=>.h12b db ns j i (x,()) (b::r)
 |a::l,[]=>.h12bb db ns j i (x,()) (a::l)
 |a::l,b::r=>.h12bbb db ns j i (x,()) (a::l) (b::r)
def Ml(db:List (Sem zh))(ns:List zD)(j:Int):List (Sem zh)->lZ
 |[]=>.h4 db ns j
 |a::l=>.h4b db ns j (a::l)
theorem XF{db:List (Sem zh)}{ns:List zD}{j:Int}{x:Sem zh}{acc:List (Sem zh)}{b:List (Sem zu)}{i:Nat}(hi:i<length x.1.t.1)(hn:ns.length<=1000)(hb:b.length<=1000)(hib:i<=1000):
  (gr (s50 db ns j (i:Int) x acc b)).val=Q1 (.inl (s50 db ns j ((i+1:Nat):Int) x acc (if aD ns (getD x.1.t.1 i (zi zu)).2=Q3 then b++[getD x.1.t.1 i (zi zu)]else b))):=by
 obtain⟨r1,r2⟩:=Ho (l:=ns) (s:=(getD x.1.t.1 i (zi zu)).2) ow;cases acc with
 | nil=>
  cases b with
  | nil=>
   show(gr (.h12 _ _ _ _ _)).val=_;simp only[gr,Q8,zC hi,zt hi,if_true,aG,r1,r2];rw[zp i um];split
   ·rw[if_pos sw];rfl
   ·rfl
  | cons c r=>
   show(gr (.h12b _ _ _ _ _ _)).val=_;simp only[gr,Q8,zC hi,zt hi,if_true,aG,r1,r2];rw[zp i um];split
   ·rw[if_pos (by simp at hb⊢;omega)];rfl
   ·rfl
 | cons a l=>
  cases b with
  | nil=>
   show(gr (.h12bb _ _ _ _ _ _)).val=_;simp only[gr,Q8,zC hi,zt hi,if_true,aG,r1,r2];rw[zp i um];split
   ·rw[if_pos sw];rfl
   ·rfl
  | cons c r=>
   show(gr (.h12bbb _ _ _ _ _ _ _)).val=_;simp only[gr,Q8,zC hi,zt hi,if_true,aG,r1,r2];rw[zp i um];split
   ·rw[if_pos (by simp at hb⊢;omega)];rfl
   ·rfl
theorem XE{db:List (Sem zh)}{ns:List zD}{j:Nat}{x:Sem zh}{acc:List (Sem zh)}{b:List (Sem zu)}(hj:j<=1000)(ha:acc.length<=1000):
  (gr (s50 db ns (j:Int) (length x.1.t.1:Int) x acc b)).val=Q1 (.inl (Ml db ns ((j+1:Nat):Int) (acc++[((x.1.1,x.1.2.1,x.1.2.2.1,x.1.2.2.2.1,b,x.1.t.2),x.2)]))):=by
 cases acc with
 | nil=>
  cases b with
  | nil=>
   show(gr (.h12 _ _ _ _ _)).val=_;simp only[gr,Q8,zA,zB,if_false,zk];rw[zp j um,if_pos sw];rfl
  | cons c r=>
   show(gr (.h12b _ _ _ _ _ _)).val=_;simp only[gr,Q8,zA,zB,if_false,zk];rw[zp j um,if_pos sw];rfl
 | cons a l=>
  cases b with
  | nil=>
   show(gr (.h12bb _ _ _ _ _ _)).val=_;simp only[gr,Q8,zA,zB,if_false,zk];rw[zp j um,if_pos (by simp at ha⊢;omega)];rfl
  | cons c r=>
   show(gr (.h12bbb _ _ _ _ _ _ _)).val=_;simp only[gr,Q8,zA,zB,if_false,zk];rw[zp j um,if_pos (by simp at ha⊢;omega)];rfl
theorem zd1{db:List (Sem zh)}{ns:List zD}{j:Nat}{x:Sem zh}{acc:List (Sem zh)}(hn:ns.length<=1000)(hj:j<=1000)(ha:acc.length<=1000)(hr:length x.1.t.1<=1000):
  zQ gr 1002 (s50 db ns (j:Int) ((0:Nat):Int) x acc []) (Ml db ns ((j+1:Nat):Int) (acc++[kE (aD ns) x])):=by
 have hg:=zQ.all (t:=gr) 1 (λi=>s50 db ns (j:Int) (i:Int) x acc ((x.1.t.1.take i).filter λf:Sem zu=>aD ns f.2)) (length x.1.t.1) λi hi=>zQ.of (by
  rw[XF hi hn (cD (List.length_filter_le _ _) sg) ow];congr 3;rw[bV hi,List.filter_append,bc,zS hi];cases h:aD ns (x.1.t.1[i]:Sem zu).2<;>simp[h])
 simp only[List.take_zero,List.filter_nil,jx]at hg;refine(hg.trans (zQ.of (XE hj ha))).mono ow
theorem Uc{db:List (Sem zh)}{p:Sem zr}(hs:∀x∈db,gN x)(hf:∀n∈bH p.2.1 p.2.2.1,LE.le (α:=Int) 0 (zX db n)):Ch p db=Q1 (zG db p,Q3,()):=by
 have hi:(zc4 p db).val=Q1 (.inl (Ml db (bH p.2.1 p.2.2.1) ((0:Nat):Int) [])):=by
  simp only[zc4,zk,Prod.eta,Q8,rS,ul,if_true];rfl
 have hl:(bH p.2.1 p.2.2.1).length<=2:=by unfold bH;split<;>simp
 unfold zG;generalize bH p.2.1 p.2.2.1=ns at hi hl hf⊢;have hg:=zQ.all (t:=gr) 1003 (λj=>Ml db ns (j:Int) ((ns.take j).map λn=>kE (aD ns) (aB db n))) ns.length λj hj=>by
  have hfj:=hf ns[j] (bd hj);have hne:Q0 (zX db ns[j]<0)=Q4:=by simpa using hfj
  have hin:=dA hfj;have hx:=hs _ (mC hfj);have h1:zQ gr 1 (Ml db ns (j:Int) ((ns.take j).map λn=>kE (aD ns) (aB db n))) (s50 db ns (j:Int) ((0:Nat):Int) (aB db ns[j]) ((ns.take j).map λn=>kE (aD ns) (aB db n)) []):=zQ.of (by
   generalize((ns.take j).map λn=>kE (aD ns) (aB db n))=acc;cases acc with
   | nil=>
    show(gr (.h4 _ _ _)).val=_;simp only[gr,Q8,zC hj,zt hj,if_true,zM _ _ hj,dr,hne,hin,zB,if_false];rfl
   | cons a l=>
    show(gr (.h4b _ _ _ _)).val=_;simp only[gr,Q8,zC hj,zt hj,if_true,zM _ _ hj,dr,hne,hin,zB,if_false];rfl)
  have h2:=(h1.trans (zd1 (x:=aB db ns[j]) ow ow sg hx.rf)).mono (b:=1003) ow;show zQ gr 1003 _ (Ml db ns ((j+1:Nat):Int) ((ns.take (j+1)).map λn=>kE (aD ns) (aB db n)));rw[bV hj,iP];exact h2
 simp only[List.take_zero,List.map_nil,jx]at hg;generalize hm:(ns.map λn=>kE (aD ns) (aB db n))=acc at hg;have hend:∃r,zU gr 1 (Ml db ns (ns.length:Int) acc) r/\aL r.2 [zh.sl,Sh.bool] r.1=Q1 (acc,Q3,()):=by
  cases acc with
  | nil=>
   refine⟨_,zU.of (by
    show(gr (.h4 _ _ _)).val=_;simp only[gr,Q8,zA,zB,if_false];rfl),rfl⟩
  | cons a l=>
   refine⟨_,zU.of (by
    show(gr (.h4b _ _ _ _)).val=_;simp only[gr,Q8,zA,zB,if_false];rfl),rfl⟩
 obtain⟨r,r1,r2⟩:=hend;exact zw hi (hg.ends r1) ow r2
def vw(a b:Sem ze):Bool:=a.1==b.1&&(a.2.1==b.2.1&&(a.2.2==b.2.2&&Q3))
theorem js{a b:Sem ze}:vw a b=Q3↔a=b:=by
 obtain⟨a1,a2,a3⟩:=a;obtain⟨b1,b2,b3⟩:=b;unfold vw;simp
def ph(at':Int)(v:Sem ze)(row:List (Sem ze)):Bool:=bif vw (getD row at'.toNat (zi ze)) v then v.1!=0 else Q4
theorem lN{at':Int}{v:Sem ze}{row:List (Sem ze)}:ph at' v row=Q3↔getD row at'.toNat (zi ze)=v/\v.1≠0:=by
 unfold ph;rw[<-js];cases vw (getD row at'.toNat (zi ze)) v<;>simp
def uP(at':Int)(l:List (List (Sem ze)))(n:Int)(i:Int)(v:Sem ze):List (List (Sem ze))->DA
 |[]=>.h6 at' l n i (v,())
 |a::r=>.h6b at' l n i (v,()) (a::r)
theorem XC{at':Int}{l:List (List (Sem ze))}{v:Sem ze}{acc:List (List (Sem ze))}{i:Nat}(hi:i<l.length)(hl:l.length<=1000)(ha:acc.length<=1000)(hin:zK at' (length l[i])=Q3)(hr:length l[i]<=1000):
  (yq (uP at' l (l.length:Int) (i:Int) v acc)).val=Q1 (.inl (uP at' l (l.length:Int) ((i+1:Nat):Int) v (if ph at' v l[i]=Q3 then acc++[l[i]]else acc))):=by
 cases acc with
 | nil=>
  show(yq (.h6 _ _ _ _ _)).val=_;simp only[yq,Q8,zC hi,zt hi,if_true,zM _ _ hi,hin];rw[zp i um];show(if ph at' v l[i]=Q3 then _ else _)=_;split
  ·rw[if_pos (by simpa using(by omega:length l[i]<=1073741824)),if_pos sw];rfl
  ·rfl
 | cons c r=>
  show(yq (.h6b _ _ _ _ _ _)).val=_;simp only[yq,Q8,zC hi,zt hi,if_true,zM _ _ hi,hin];rw[zp i um];show(if ph at' v l[i]=Q3 then _ else _)=_;split
  ·rw[if_pos (by simpa using(by omega:length l[i]<=1073741824)),if_pos (by simp at ha⊢;omega)];rfl
  ·rfl
theorem UT{p:Sem zr}{src:List (Sem zh)}(v:Sem ze)(h:H8 p src)(hc:jt p src=Q3)(hl:length (getD src 0 (zi zh)).2<=1000)(hr:∀row∈(getD src 0 (zi zh)).2,zK (bW p src) (length row)=Q3/\length row<=1000):
  Dp p src v=Q1 ((getD src 0 (zi zh)).2.filter (ph (bW p src) v),0,()):=by
 obtain⟨c1,c2⟩:=yP h;have l0:=(oe h.two).1;have hi:(zcV p src v).val=Q1 (.inl (uP (bW p src) (getD src 0 (zi zh)).2 (length (getD src 0 (zi zh)).2:Int) ((0:Nat):Int) v [])):=by
  simp only[zcV,zk,Prod.eta,Q8,c1,c2,hc,show zK 0 src.length=Q3 from zt (i:=0) l0,io,zB,if_true,if_false];rfl
 generalize(getD src 0 (zi zh)).2=l at hi hl hr⊢;generalize bW p src=at' at hi hr⊢;have hg:=zQ.all (t:=yq) 1 (λi=>uP at' l (l.length:Int) (i:Int) v ((l.take i).filter (ph at' v))) l.length λi hi=>zQ.of (by
  have hx:=hr l[i] (bd hi);rw[XC hi hl (cD (List.length_filter_le _ _) sg) hx.1 hx.2];congr 3;rw[bV hi,List.filter_append];cases h:ph at' v l[i]<;>simp[h])
 simp only[List.take_zero,List.filter_nil,jx]at hg;generalize l.filter (ph at' v)=acc at hg⊢;have hend:∃r,zU yq 1 (uP at' l (l.length:Int) (l.length:Int) v acc) r/\aL r.2 [ze.sl.sl,zg] r.1=Q1 (acc,0,()):=by
  cases acc with
  | nil=>
   refine⟨_,zU.of (by
    show(yq (.h6 _ _ _ _ _)).val=_;simp only[yq,Q8,zA,zB,if_false];rfl),rfl⟩
  | cons a r=>
   refine⟨_,zU.of (by
    show(yq (.h6b _ _ _ _ _ _)).val=_;simp only[yq,Q8,zA,zB,if_false];rfl),rfl⟩
 obtain⟨r,r1,r2⟩:=hend;exact zw hi (hg.ends r1) ow r2
def eZ(u:Sem ze):List (Sem ze)->List (Sem ze)
 |[]=>[u]
 |o::r=>if LT.lt (α:=Int) (bj o u) 0 then o::eZ u r else if(o==u)=Q3 then o::r else u::o::r
def iq(l:List (Sem ze)):List (Sem ze):=l.foldl (λacc u=>if((u:Sem ze).1==0)=Q3 then acc else eZ u acc) []
theorem mZ{a b:Sem ze}(ha:aR a=Q3)(hb:aR b=Q3)(h:¬yg a b):a=b\/yg b a:=by
 have ka:ao a=a:=by unfold ao;rw[ha];rfl
 have kb:ao b=b:=by unfold ao;rw[hb];rfl
 rw[vA,ka,kb]at h⊢;obtain⟨k,n,s⟩:=a;obtain⟨k',n',s'⟩:=b;unfold Lx at h⊢;simp only at h⊢;have h1:¬k<k':=λe=>h (.inl e)
 rcases Int.lt_or_eq_of_le (Int.not_lt.1 h1)with e|e
 ·exact .inr (.inl e)
 have h2:¬n<n':=λg=>h (.inr ⟨e.symm,.inl g⟩)
 rcases Int.lt_or_eq_of_le (Int.not_lt.1 h2)with g|g
 ·exact .inr (.inr ⟨e,.inl g⟩)
 by_cases hs:s=s'
 ·exact .inl (by rw[e,g,hs])
 ·refine .inr (.inr ⟨e,.inr ⟨g,jO ?_ hs⟩⟩);cases hx:Op.bytesLess s s'
  ·rfl
  ·exact absurd (.inr ⟨e.symm,.inr ⟨g.symm,hx⟩⟩) h
theorem uf{u:Sem ze}:∀{l:List (Sem ze)}{x:Sem ze},x∈eZ u l↔x=u\/x∈l
 |[],x=>by simp[eZ]
 | o::r,x=>by
  unfold eZ;split
  ·rw[cu,uf,cu];exact⟨λh=>by rcases h with h|h|h<;>simp[h],λh=>by rcases h with h|h|h<;>simp[h]⟩
  ·split
   ·rename_i h;have h:=bC h;subst h;simp
   ·simp
theorem FG{u:Sem ze}(hu:aR u=Q3):∀{l:List (Sem ze)},(∀x∈l,aR x=Q3)->l.Pairwise yg->(eZ u l).Pairwise yg
 |[],_,_=>by simp[eZ]
 | o :: r,hl,h=>by
  obtain⟨h1,h2⟩:=List.pairwise_cons.1 h;unfold eZ;split
  ·rename_i hlt;refine List.pairwise_cons.2 ⟨λx hx=>?_,FG hu (λx hx=>hl x (by simp[hx])) h2⟩;rcases uf.1 hx with rfl|hx
   ·exact hlt
   ·exact h1 x hx
  ·rename_i hn;split
   ·exact h
   ·rename_i hne;have ho:yg u o:=by
     rcases mZ (hl o sw) hu hn with e|e
     ·exact absurd (by rw[e];simp) hne
     ·exact e
    refine List.pairwise_cons.2 ⟨λx hx=>?_,h⟩;rcases cu.1 hx with rfl|hx
    ·exact ho
    ·exact ie ho (h1 x hx)
theorem wq:∀(l acc:List (Sem ze)),(∀x∈l,aR x=Q3)->(∀x∈acc,aR x=Q3)->acc.Pairwise yg->
  (l.foldl (λacc u=>if((u:Sem ze).1==0)=Q3 then acc else eZ u acc) acc).Pairwise yg/\∀x,x∈l.foldl (λacc u=>if((u:Sem ze).1==0)=Q3 then acc else eZ u acc) acc↔x∈acc\/(x∈l/\x.1≠0)
 |[],acc,_,_,h=>⟨h,λx=>by simp⟩
 | u::r,acc,hl,ha,h=>by
  rw[List.foldl_cons];by_cases hu:(u.1==0)=Q3
  ·rw[if_pos hu];obtain⟨h1,h2⟩:=wq r acc (λx hx=>hl x (by simp[hx])) ha h;refine⟨h1,λx=>(h2 x).trans ⟨λh=>h.imp id λh=>⟨by simp[h.1],h.2⟩,λh=>h.imp id λh=>⟨?_,h.2⟩⟩⟩;rcases cu.1 h.1 with rfl|h'
   ·exact absurd (bC hu) h.2
   ·exact h'
  ·rw[if_neg hu];have hm:=hl u sw;obtain⟨h1,h2⟩:=wq r (eZ u acc) (λx hx=>hl x (by simp[hx])) (λx hx=>by
    rcases uf.1 hx with rfl|hx
    ·exact hm
    ·exact ha x hx) (FG hm ha h)
   refine⟨h1,λx=>(h2 x).trans ?_⟩;rw[uf,cu];refine⟨λh=>?_,λh=>?_⟩
   ·rcases h with(rfl|h)|h
    ·exact .inr ⟨.inl rfl,λe=>hu (by rw[e];rfl)⟩
    ·exact .inl h
    ·exact .inr ⟨.inr h.1,h.2⟩
   ·rcases h with h|⟨rfl|h,h'⟩
    ·exact .inl (.inr h)
    ·exact .inl (.inl rfl)
    ·exact .inr ⟨h,h'⟩
theorem lE{l:List (Sem ze)}(h:∀x∈l,aR x=Q3):(iq l).Pairwise yg/\∀x,x∈iq l↔x∈l/\x.1≠0:=by
 obtain⟨h1,h2⟩:=wq l [] h sw sw;exact⟨h1,λx=>(h2 x).trans sw⟩
theorem Hv:∀{l m:List (Sem ze)},l.Pairwise yg->m.Pairwise yg->(∀x,x∈l↔x∈m)->l=m
 |[],[],_,_,_=>rfl
 |[],b::m,_,_,h=>by have:=(h b).2 sw;simp at this
 |a::l,[],_,_,h=>by have:=(h a).1 sw;simp at this
 | a::l,b::m,h1,h2,h=>by
  obtain⟨a1,a2⟩:=List.pairwise_cons.1 h1;obtain⟨b1,b2⟩:=List.pairwise_cons.1 h2;have e:a=b:=by
   rcases cu.1 ((h a).1 sw)with e|e
   ·exact e
   ·rcases cu.1 ((h b).2 sw)with g|g
    ·exact g.symm
    ·exact absurd (ie (a1 _ g) (b1 _ e)) gU
  subst e;rw[Hv a2 b2 λx=>⟨λhx=>?_,λhx=>?_⟩]
  ·rcases cu.1 ((h x).1 (by simp[hx]))with rfl|hx'
   ·exact absurd (a1 _ hx) gU
   ·exact hx'
  ·rcases cu.1 ((h x).2 (by simp[hx]))with rfl|hx'
   ·exact absurd (b1 _ hx) gU
   ·exact hx'
theorem Jh(u:Sem ze):∀l:List (Sem ze),(eZ u l).length<=l.length+1
 |[]=>by simp[eZ]
 | o::r=>by
  unfold eZ;split
  ·have:=Jh u r;simp only[fj];omega
  ·split<;>simp
theorem Ja:∀(l acc:List (Sem ze)),(l.foldl (λacc u=>if((u:Sem ze).1==0)=Q3 then acc else eZ u acc) acc).length<=acc.length+l.length
 |[],acc=>by simp
 | u::r,acc=>by
  rw[List.foldl_cons];refine cD (Ja r _) ?_;split
  ·simp
  ·have:=Jh u acc;simp only[fj];omega
theorem Ir(l:List (Sem ze)):(iq l).length<=l.length:=by
 have:=Ja l [];simpa[iq]using this
def FX(p:Sem zr):Prop:=p.2.2.2.1.2.1.length<=1000/\p.2.2.2.1.2.2.2.1.length<=1000000/\p.2.2.2.1.t.1.length<=1000000/\rt 16 p.2.2.2.1.t.2=Q3/\p.t.1.length<=1000000
theorem mV:FX jF:=⟨be _,be _,be _,rfl,be _⟩
theorem sH{e:Int}{p:Sem zr}(h:e=0->FX p):FX (jB e p).2:=by
 unfold jB;split
 ·split
  ·exact h (by assumption)
  ·exact mV
 ·exact mV
theorem LY(db:List (Sem zh)){s:Sem zl}(hf:KJ s):FX (aW db s).2:=by
 have hn:=hf.sh.names.1;unfold aW;split;rotate_left
 ·exact mV
 split;rotate_left
 ·exact mV
 unfold dj;split
 ·refine sH λ_=>⟨?_,be _,be _,hf.cp,?_⟩
  ·show(gz _ _).length<=_;unfold gz;rw[cV];omega
  ·show(kP _ _).length<=_;unfold kP;rw[cV];omega
 split
 ·refine sH λh=>?_
  have h9:(az db s.2.2.1).2.1.length+(gh db s.t.t.t).2.1.length<=9:=by
   unfold g7 at h;split at h
   ·cases h
   split at h;rotate_left
   ·cases h
   split at h
   ·cases h
   ·omega
  have ho:=pm (gh db s.t.t.t).2.2.1 (length (gh db s.t.t.t).2.1);refine⟨?_,be _,be _,hf.cp,?_⟩
  ·show(_++gB _ _).length<=_;unfold gB;rw[jW,cV];omega
  ·show(j8 _ _).length<=_;unfold j8;rw[cV];omega
 split
 ·refine sH λ_=>⟨?_,be _,be _,hf.cp,?_⟩
  ·show(DP _ _).length<=_;unfold DP;simp
  ·show(kP _ _).length<=_;unfold kP;rw[cV];omega
 ·exact mV
noncomputable def ch(db:List (Sem zh))(p:Sem zr):Sem zh:=getD (zG db p) 0 (zi zh)
structure aE (db:List (Sem zh)) (p:Sem zr):Prop where
 go:H8 p (zG db p)
 rel:eh (ch db p)
 plc:rc p (zG db p)=Q1 (aT p (zG db p),())
 inn:∀row∈(ch db p).2,zK (aT p (zG db p)) (length row)=Q3/\length row=length (ch db p).1.2.1
 fnd:∀n∈bH p.2.1 p.2.2.1,LE.le (α:=Int) 0 (zX db n)
 mig:jC p.1
 col:LE.le (α:=Int) 0 (aT p (zG db p))/\LT.lt (α:=Int) (aT p (zG db p)) (length (ch db p).1.2.1)
theorem T3{db:List (Sem zh)}{s:Sem zl}(hdb:∀x∈db,gN x)(hp:(aW db s).1=0)(hf:KJ s):aE db (aW db s).2:=by
  obtain⟨hm,hmay,hb,hfd,hne,hask⟩:=NM hp;obtain⟨c1,c2,_,c4,c5,c6⟩:=PV hdb hp hf.sh;have hB:=(ke hdb).1 hb;obtain⟨b1,b2,b3,b4,b5⟩:=LY db hf;have hparts:=lV hmay;have hp0:(dj db s).1=0:=by rw[<-hask];exact hp
  obtain⟨f1,f2,f3⟩:=It hp0;rw[hask]at c1 c2 c4 c5 c6 b1 b2 b3 b4 b5⊢;have hfd':∀n∈bH (dj db s).2.2.1 (dj db s).2.2.2.1,LE.le (α:=Int) 0 (zX db n):=by rw[f2,f3];exact hfd
  have hfr:LE.le (α:=Int) 0 (zX db s.2.2.1):=hfd _ (by unfold bH;split<;>simp);have hx:ch db (dj db s).2=kE (aD (bH s.2.2.1 (dL s))) (aB db s.2.2.1):=by
    unfold ch zG;rw[f2,f3];have:∃r,bH s.2.2.1 (dL s)=s.2.2.1::r:=by unfold bH;split<;>exact⟨_,rfl⟩
    obtain⟨r,e⟩:=this;rw[e];rfl
  have hxr:eh (ch db (dj db s).2):=by rw[hx];exact(hB.rels _ (md hfr).1).cut
  have hcols:(ch db (dj db s).2).1.2.1=(az db s.2.2.1).2.1:=by rw[hx];rfl
  obtain⟨m1,m2⟩:=TU (b:=(dj db s).2) (by omega) b2 b3 b4 b5;have hlen:∀row∈(ch db (dj db s).2).2,length row=length (ch db (dj db s).2).1.2.1:=λrow hr=>(fD (hxr.fits row hr)).1
  have hplc:(LE.le (α:=Int) 0 (aT (dj db s).2 (zG db (dj db s).2))/\LT.lt (α:=Int) (aT (dj db s).2 (zG db (dj db s).2)) (length (ch db (dj db s).2).1.2.1))/\((dj db s).2.1≠[99,111,112,121]->(dj db s).2.1≠[106,111,105,110]->0<length (dj db s).2.2.2.2.2.1):=by
    unfold aT;rw[f1];rcases hm with ho|ho|ho
    · rw[if_pos ho]
      refine⟨?_,λh=>absurd ho h⟩;obtain⟨k1,_⟩:=g8 hxr.may;exact k1
    · have n1:s.1≠[99,111,112,121]:=by rw[ho];decide
      rw[if_neg n1,if_pos ho];refine⟨?_,λ_ h=>absurd ho h⟩
      have e:(dj db s)=jB (g7 (az db s.2.2.1) (gh db s.2.2.2.2.2.2.2.2.2.2.2.2) s.2.2.2.2.2.1 s.2.2.2.2.2.2.2.2.2.2.2.2)
          (s.1,s.2.2.1,s.2.2.2.2.2.2.2.2.2.2.2.2,(s.2.1,(az db s.2.2.1).2.1++gB (gh db s.2.2.2.2.2.2.2.2.2.2.2.2) (length (gh db s.2.2.2.2.2.2.2.2.2.2.2.2).2.1),(az db s.2.2.1).2.2.1,[],[],s.2.2.2.2.2.2.2.2.1),
            j8 (gh db s.2.2.2.2.2.2.2.2.2.2.2.2).2.2.1 (length (gh db s.2.2.2.2.2.2.2.2.2.2.2.2).2.1),zT (az db s.2.2.1) s.2.2.2.2.2.1):=by
        unfold dj;rw[if_neg (by simpa using n1),if_pos (by simp[ho])]
      have e0:=hp0;rw[e]at e0;obtain⟨g1,g2⟩:=lK e0;have hpos:¬LT.lt (α:=Int) (zT (az db s.2.2.1) s.2.2.2.2.2.1) 0:=by
        intro hlt;unfold g7 at g1;rw[if_pos hlt]at g1;cases g1
      have hon:(dj db s).2.2.2.2.2.2=zT (az db s.2.2.1) s.2.2.2.2.2.1:=by rw[e,g2]
      rw[hon,hcols];exact⟨by omega,(jd hpos).2⟩
    · have n1:s.1≠[99,111,112,121]:=by rw[ho];decide
      have n2:s.1≠[106,111,105,110]:=by rw[ho];decide
      rw[if_neg n1,if_neg n2];have e:(dj db s)=jB (sJ (az db s.2.2.1) s.2.2.2.1) (s.1,s.2.2.1,s.2.2.2.2.2.2.2.2.2.2.2.2,(s.2.1,DP (az db s.2.2.1) s.2.2.2.1,0,[],[],s.2.2.2.2.2.2.2.2.1),kP (az db s.2.2.1) s.2.2.2.1,0):=by
        unfold dj;rw[if_neg (by simpa using n1),if_neg (by simpa using n2),if_pos (by simp[ho])]
      have e0:=hp0;rw[e]at e0;obtain⟨g1,g2⟩:=lK e0;have hpl:gq (az db s.2.2.1) s.2.2.2.1=0:=by
        unfold sJ at g1;split at g1
        · assumption
        · exact g1
      have hpos:=Ce hpl;have hix:(dj db s).2.2.2.2.2.1=kP (az db s.2.2.1) s.2.2.2.1:=by rw[e,g2]
      have h2:=lL hparts ho;rw[hix,hcols]
      match hnm:s.2.2.2.1,h2 with
      | [a,b],_=>
        rw[hnm]at hpos;have ha:=hpos a (by simp)
        exact ⟨⟨by have:¬ LT.lt (α:=Int) (zT (az db s.2.2.1) a) 0:=ha
                   show LE.le (α:=Int) 0 (zT (az db s.2.2.1) a);omega,(jd ha).2⟩,λ_ _=>by simp[kP]⟩
  have two0:=oe c6;refine⟨⟨c2,c6,by rw[c1],by rw[c4];exact hf,c5,b1,m1,m2.2 rfl⟩,hxr,P6 two0.1 hplc.2,λrow hr=>⟨?_,hlen row hr⟩,hfd',by rw[f1];exact hm,hplc.1⟩;rw[hlen row hr];unfold zK;rw[aC];have h1:=hplc.1.1;have h2:=hplc.1.2;exact⟨zx h1,zx (by omega)⟩
end Cad
namespace Go.Proofs
open Cad (aA zB)
open Go.Shelf Go.RowKit Go.Lib Go.Sort
open Bool renaming false→Q4
open Bool renaming true→Q3
open Option renaming none→Q2
open Option renaming some→Q1
open Decidable renaming decide→Q0
open Int (toNat)
open List (getD)
open List (length)
theorem gd_of{w w':World}(h:Below w.heap.size w w')(hd:w.drawn<=w'.drawn):∃q os',w'=grow (w.drewN q) os':=by
 refine⟨w'.drawn-w.drawn,w'.heap.extract w.heap.size w'.heap.size,?_⟩;have hh:w'.heap=w.heap++w'.heap.extract w.heap.size w'.heap.size:=by
  apply Array.ext_getElem?;intro i;by_cases hi:i<w.heap.size
  ·rw[Array.getElem?_append_left hi,h.block i hi]
  ·rw[Array.getElem?_append_right (by omega)];have hs:=h.size;by_cases hi2:i<w'.heap.size
   ·rw[Array.getElem?_extract,if_pos (by omega)];congr 1;omega
   ·rw[Array.getElem?_eq_none (by omega),Array.getElem?_eq_none (by simp;omega)]
 obtain⟨heap,tape,drawn,os,output⟩:=w;obtain⟨heap',tape',drawn',os',output'⟩:=w';have h1:=h.os;have h2:=h.tape;have h3:=h.output;simp only at h1 h2 h3 hd hh;subst h1 h2 h3;unfold grow World.drewN;simp only[World.mk.injEq,true_and,and_true];exact⟨hh,by omega⟩
set_option maxHeartbeats 1000000 in
theorem Tryz.odd63(r:Nat)(W:World):Calls Tryz.prog 63 #[.int .i32 (r:Int)] W λe w'=>e=.returned (.bool (Q0 ((r:Int)<32)||Q0 ((r:Int)>126)))/\w'=W:=by
 go_enter Tryz.func63,Tryz.ntmps63
 go_wp2
 ·go_ret
  exact⟨by simp,rfl⟩
 ·rename_i h
  go_ret
  exact⟨by simp,rfl⟩
set_option maxHeartbeats 4000000 in
set_option maxRecDepth 1000000 in
theorem Tryz.indexFunc112(p:Nat->Bool)(s:ByteArray)(w:World)(hp:∀(W:World)(x:Nat),Calls Tryz.prog 63 #[.int .i32 (x:Int)] W λe w'=>e=.returned (.bool (p x))/\w'=W):
  Calls Tryz.prog 112 #[.string s,.func (.func 63) #[] #[],.bool Q3] w λe w'=>e=.returned (.int .i64 (Lib.idxFunc p Q3 s))/\Below w.heap.size w w'/\w.drawn<=w'.drawn:=by
 go_enter Tryz.func112,Tryz.ntmps112
 go_wp2
 go_loopg [] s.size (λgf wx=>∃pos:Nat,wx.heap[w.heap.size]?=Q1 (.stringIter s pos)/\(Below w.heap.size w wx/\w.drawn<=wx.drawn)/\Lib.idxFuncFrom p Q3 s gf pos=Lib.idxFunc p Q3 s/\s.size<=pos+gf)
 case atStart=>exact⟨0,World.iter_heap w s 0,⟨(Below.refl _ w).alloc (aA _) _,aA _⟩,rfl,by omega⟩
 case round=>
  obtain⟨pos,hit,⟨hbw,hdr⟩,hleft,hfu⟩:=hrel;by_cases hps:pos<s.size
  ·obtain⟨g',rfl⟩:∃g',gk=g'+1:=⟨gk-1,by omega⟩;have hnx:∀ty,(Instr.next (.pointer (Q1 ⟨w.heap.size,0,Q2⟩)) Q3 ty).run Tryz.prog wr=_:=λty=>Lib.run_next_any_at wr w.heap.size s pos ty hit hps
   have hwd:=Lib.width_pos s pos;obtain⟨R,hR⟩:∃R,(Utf8.decode s pos).1=R:=⟨_,rfl⟩;obtain⟨K,hK⟩:∃K,(Utf8.decode s pos).2=K:=⟨_,rfl⟩;simp only[Lib.idxFuncFrom,hps,if_true,hR,hK]at hleft;rw[hR,hK]at hnx;rw[hK]at hwd;have hit2:=Lib.iterAt_heap wr w.heap.size s pos (pos+K) hit;have hbw2:=Lib.below_iterAt hbw (k:=w.heap.size) (aA _) s (pos+K);have hdr2:w.drawn<=(wr.iterAt w.heap.size s (pos+K)).drawn:=hdr;obtain⟨W,hWd⟩:∃W,wr.iterAt w.heap.size s (pos+K)=W:=⟨_,rfl⟩;rw[hWd]at hnx hit2 hbw2 hdr2;have cS:=hp W R;clear hp;cases hsp:p R<;>rw[hsp]at cS<;>simp only[hsp,if_true,zB,if_false]at hleft
   ·go_wp2_with (go_at_call 63;refine cS.mono ?_;rintro e W' ⟨rfl,rfl⟩)
    go_roundg g'
    case measure=>omega
    case rel=>exact⟨pos+K,hit2,⟨hbw2,hdr2⟩,hleft,by omega⟩
   ·go_wp2_with (go_at_call 63;refine cS.mono ?_;rintro e W' ⟨rfl,rfl⟩)
    go_ret
    exact⟨by rw[<-hleft]<;>rfl,hbw2,hdr2⟩
  ·have hnx:∀ty,(Instr.next (.pointer (Q1 ⟨w.heap.size,0,Q2⟩)) Q3 ty).run Tryz.prog wr=_:=λty=>Lib.run_next_end_at wr w.heap.size s pos ty hit hps
   rw[Lib.idxFuncFrom_end p Q3 s gk pos hps]at hleft
   go_wp2
   go_ret
   exact⟨by rw[<-hleft]<;>rfl,hbw,hdr⟩
theorem Tryz.indexFunc64(p:Nat->Bool)(s:ByteArray)(w:World)(hp:∀(W:World)(x:Nat),Calls Tryz.prog 63 #[.int .i32 (x:Int)] W λe w'=>e=.returned (.bool (p x))/\w'=W):
  Calls Tryz.prog 64 #[.string s,.func (.func 63) #[] #[]] w λe w'=>e=.returned (.int .i64 (Lib.idxFunc p Q3 s))/\Below w.heap.size w w'/\w.drawn<=w'.drawn:=by
 have h:=λW'=>Tryz.indexFunc112 p s W' hp
 go_enter Tryz.func64,Tryz.ntmps64
 go_wp2_with (go_at_call 112;refine(h _).mono ?_;rintro e w' ⟨rfl,h1,h2⟩)
 go_ret
 exact⟨rfl,h1,h2⟩
end Go.Proofs
namespace Cad
open Go Go.Proofs Go.Sort
open Tr renaming chk→Qc
open AV renaming nils→Qb
open AO renaming box→Qa
open Tr renaming «to»→Q9
open Tr renaming val→Q8
open Sh renaming str→Q6
open Sh renaming expr→Q5
open Bool renaming false→Q4
open Bool renaming true→Q3
open Option renaming none→Q2
open Option renaming some→Q1
open Decidable renaming decide→Q0
open Int (toNat)
open List (getD)
open List (length)
set_option maxHeartbeats 4000000
open Tr (chk br)
open AV (nils agg tup ptr kb str sl)
theorem zjv(W:World)(x:Nat):Calls Tryz.prog 63 #[.int .i32 (x:Int)] W λe w'=>e=.returned (.bool (B5 x))/\w'=W:=
 (Tryz.odd63 x W).mono λe w' h=>⟨by rw[h.1];unfold B5;cases Q0 ((x:Int)<32)<;>rfl,h.2⟩
theorem zjt(k n:Int)(s:zD)(W:World):Calls Tryz.prog 34 #[.agg #[.int .i64 k,.int .i64 n,.string ⟨s.toArray⟩]] W λe w'=>e=.returned (.bool (aR (k,n,s)))/\RowKit.Below W.heap.size W w'/\W.drawn<=w'.drawn:=by
 have h:=λW'=>Tryz.indexFunc64 (λr=>B5 r) ⟨s.toArray⟩ W' zjv
 have ho:Lib.idxFunc (λr=>B5 r) Q3 ⟨s.toArray⟩=pl s:=rfl;rw[ho]at h;have hv:aR (k,n,s)=aR (k,n,s):=rfl;generalize hR:aR (k,n,s)=R at hv⊢;clear hv;unfold aR at hR;generalize pl s=I at h hR
 go_enter Tryz.func34,Tryz.ntmps34
 go_wp2_with (go_at_call 64;refine(h _).mono ?_;rintro e w' ⟨rfl,h1,h2⟩)
 all_goals
  go_ret
  refine⟨?_,?_,?_⟩
  ·rw[<-hR];congr 2;simp_all<;>(rw[<-hR];first|(rw[aj ow];rfl)|(rw[beq_false_of_ne ‹¬n=0›];first|rfl|(rw[beq_false_of_ne ‹¬n=1›];rfl)))
  ·first
   |exact(RowKit.Below.refl _ _).alloc (aA _) _
   |exact((RowKit.Below.refl _ W).alloc (aA _) _).trans (h1.mono sw)
  ·first
   |exact aA _
   |exact h2
theorem P4(W w':World)(a b c x y z:Value)(h:RowKit.Below ((W.alloc (.cells #[a,b,c] 27)).alloc (.cells #[x,y,z] 27)).heap.size ((W.alloc (.cells #[a,b,c] 27)).alloc (.cells #[x,y,z] 27)) w'):
  w'.cell? ⟨W.heap.size,0,Q2⟩=Q1 a/\w'.cell? ⟨W.heap.size,1,Q2⟩=Q1 b/\w'.cell? ⟨W.heap.size,2,Q2⟩=Q1 c/\
  w'.cell? ⟨W.heap.size+1,0,Q2⟩=Q1 x/\w'.cell? ⟨W.heap.size+1,1,Q2⟩=Q1 y/\w'.cell? ⟨W.heap.size+1,2,Q2⟩=Q1 z/\
  w'.frozen? ⟨W.heap.size+1,0,Q2⟩=Q4/\w'.frozen? ⟨W.heap.size+1,1,Q2⟩=Q4/\w'.frozen? ⟨W.heap.size+1,2,Q2⟩=Q4/\w'.heap[W.heap.size+1]?=Q1 (.cells #[x,y,z] 27 (0,0)):=by
 have b0:=h.block W.heap.size sg;have b1:=h.block (W.heap.size+1) sw;have e0:((W.alloc (.cells #[a,b,c] 27)).alloc (.cells #[x,y,z] 27)).heap[W.heap.size]?=Q1 (.cells #[a,b,c] 27 (0,0)):=(bp _ _ _ sw).trans (cB _ _);have e1:((W.alloc (.cells #[a,b,c] 27)).alloc (.cells #[x,y,z] 27)).heap[W.heap.size+1]?=Q1 (.cells #[x,y,z] 27 (0,0)):=by
  have:=cB (W.alloc (.cells #[a,b,c] 27)) (.cells #[x,y,z] 27)
  rwa [aZ]at this
 rw[e0]at b0;rw[e1]at b1;simp[World.cell?,World.frozen?,b0,b1]
theorem Jl(k n:Int)(s:zD)(W:World):Calls Tryz.prog 107 #[.agg #[.int .i64 k,.int .i64 n,.string ⟨s.toArray⟩]] W λe w'=>e=.returned (.agg #[.int .i64 (ao (k,n,s)).1,.int .i64 (ao (k,n,s)).2.1,.string ⟨(ao (k,n,s)).2.2.toArray⟩])/\RowKit.Below W.heap.size W w'/\W.drawn<=w'.drawn:=by
 have h:=λW'=>zjt k n s W'
 unfold ao;generalize aR (k,n,s)=R at h⊢
 go_enter Tryz.func107,Tryz.ntmps107
 go_wp2_with (go_at_call 34;refine(h _).mono ?_;rintro e w' ⟨rfl,h1,h2⟩;obtain⟨c0,c1,c2,d0,d1,d2,g0,g1,g2,bb⟩:=P4 W w' (.int .i64 k) (.int .i64 n) (.string ⟨s.toArray⟩) (.int .i64 0) (.int .i64 0) (.string ⟨#[]⟩) h1)
 all_goals
  have hB:RowKit.Below W.heap.size W w':=(((RowKit.Below.refl _ W).alloc (aA _) _).alloc sw _).trans (h1.mono sg);have hd:W.drawn<=w'.drawn:=h2;refine bodyPost_ret (results_cell_row rfl _ _ (W.heap.size+1) 27 _ (0,0) _ rfl (by simp[World.setCell,th,bb];rfl) Tryz.underlying27 rfl kw) rfl ⟨?_,?_,?_⟩
  ·rfl
  ·exact((hB.setCell (p:=⟨W.heap.size+1,0,Q2⟩) sw _).setCell (p:=⟨W.heap.size+1,1,Q2⟩) sw _).setCell (p:=⟨W.heap.size+1,2,Q2⟩) sw _
  ·exact hd
open Go Go.Proofs
set_option maxRecDepth 100000
theorem Tj(x:Int)(W:World):Calls Tryz.prog 165 #[.int .i64 x] W λe w'=>e=.returned (.bool Q4)/\w'=W:=by
 go_enter Tryz.func165,Tryz.ntmps165
 go_wp2
 go_ret
 exact⟨sw,rfl⟩
theorem Tk(x:Int)(W:World):Calls Tryz.prog 166 #[.int .i64 x] W λe w'=>e=.returned (.bool Q4)/\w'=W:=by
 go_enter Tryz.func166,Tryz.ntmps166
 go_wp2
 go_ret
 exact⟨sw,rfl⟩
theorem Tl(x:ByteArray)(W:World):Calls Tryz.prog 167 #[.string x] W λe w'=>e=.returned (.bool Q4)/\w'=W:=by
 go_enter Tryz.func167,Tryz.ntmps167
 go_wp2
 go_ret
 exact⟨sw,rfl⟩
theorem Rd(x y:Int):rq x y=(if x<y then -1 else if y<x then 1 else 0:Int):=by
 unfold rq;simp
theorem OQ(x y:Int):jX x y=(if x<y then -1 else if y<x then 1 else 0:Int):=by
 unfold jX;simp
theorem zcn(x y:Int)(W:World):Calls Tryz.prog 109 #[.int .i64 x,.int .i64 y] W λe w'=>e=.returned (.int .i64 (rq x y))/\w'=W:=by
 have h1:=λW'=>Tj x W'
 have h2:=λW'=>Tj y W'
 rw[Rd]
 go_enter Tryz.func109,Tryz.ntmps109
 go_wp2_with (first|(go_at_call 165;refine(h1 _).mono ?_;rintro e w' ⟨rfl,rfl⟩)|(go_at_call 165;refine(h2 _).mono ?_;rintro e w' ⟨rfl,rfl⟩))
 all_goals
  go_ret
  refine⟨?_,rfl⟩;congr 2
theorem zco(x y:Int)(W:World):Calls Tryz.prog 110 #[.int .i64 x,.int .i64 y] W λe w'=>e=.returned (.int .i64 (jX x y))/\w'=W:=by
 have h1:=λW'=>Tk x W'
 have h2:=λW'=>Tk y W'
 rw[OQ]
 go_enter Tryz.func110,Tryz.ntmps110
 go_wp2_with (first|(go_at_call 166;refine(h1 _).mono ?_;rintro e w' ⟨rfl,rfl⟩)|(go_at_call 166;refine(h2 _).mono ?_;rintro e w' ⟨rfl,rfl⟩))
 all_goals
  go_ret
  refine⟨?_,rfl⟩;congr 2
theorem zcp(x y:zD)(W:World):Calls Tryz.prog 111 #[.string ⟨x.toArray⟩,.string ⟨y.toArray⟩] W λe w'=>e=.returned (.int .i64 (nj x y))/\w'=W:=by
 have h1:=λW'=>Tl ⟨x.toArray⟩ W'
 have h2:=λW'=>Tl ⟨y.toArray⟩ W'
 have hg:∀W',(binOp .gtr 9 (.string ⟨x.toArray⟩) (.string ⟨y.toArray⟩)).run Tryz.prog W'=.ok (.bool (!(Op.bytesLess x y||x==y))) W':=λW'=>by simp[binOp,Op.stringOp]
 have hc:nj x y=(if Op.bytesLess x y=Q3 then -1 else if(!(Op.bytesLess x y||x==y))=Q3 then 1 else 0:Int):=by unfold nj;simp
 rw[hc];clear hc
 go_enter Tryz.func111,Tryz.ntmps111
 go_wp2_with (first|(go_at_call 167;refine(h1 _).mono ?_;rintro e w' ⟨rfl,rfl⟩)|(go_at_call 167;refine(h2 _).mono ?_;rintro e w' ⟨rfl,rfl⟩))
 all_goals
  go_ret
  refine⟨?_,rfl⟩;simp_all
theorem zkJ(x y z:Int)(b:Nat)(W:World)(h0:W.cell? ⟨b,0,Q2⟩=Q1 (.int .i64 x))(h1:W.cell? ⟨b,1,Q2⟩=Q1 (.int .i64 y))(h2:W.cell? ⟨b,2,Q2⟩=Q1 (.int .i64 z)):
  Calls Tryz.prog 108 #[.slice (Q1 ⟨b,0,Q2⟩) 3 3] W λe w'=>e=.returned (.int .i64 (Fg [x,y,z]))/\w'=W:=by
 have hv:Fg [x,y,z]=if x=0 then(if y=0 then z else y)else x:=by
  unfold Fg;unfold Fg;unfold Fg;unfold Fg;by_cases hx:x=0<;>by_cases hy:y=0<;>by_cases hz:z=0<;>simp[hx,hy,hz]
 rw[hv];clear hv
 go_enter Tryz.func108,Tryz.ntmps108
 go_wp2
 by_cases hx:x=0
 ·subst hx;by_cases hy:y=0
  ·subst hy;by_cases hz:z=0
   ·subst hz;refine wp_loop_rounds 4 ?_
    (rw[rounds_succ];go_wp2)
    (rw[rounds_succ];go_wp2)
    (rw[rounds_succ];go_wp2)
    (rw[rounds_succ];go_wp2)
    go_ret
    exact⟨by simp[*],rfl⟩
   ·refine wp_loop_rounds 4 ?_
    (rw[rounds_succ];go_wp2)
    (rw[rounds_succ];go_wp2)
    (rw[rounds_succ];go_wp2)
    go_ret
    exact⟨by simp[*],rfl⟩
  ·refine wp_loop_rounds 4 ?_
   (rw[rounds_succ];go_wp2)
   (rw[rounds_succ];go_wp2)
   go_ret
   exact⟨by simp[*],rfl⟩
 ·refine wp_loop_rounds 4 ?_
  (rw[rounds_succ];go_wp2)
  go_ret
  exact⟨by simp[*],rfl⟩
structure zlf (p:Prop):Prop where
 out:p
theorem ZL{A w':World}{p q:Nat}{a b c x y z:Value}(e0:A.heap[p]?=Q1 (.cells #[a,b,c] 27 (0,0)))(e1:A.heap[q]?=Q1 (.cells #[x,y,z] 27 (0,0)))(h:RowKit.Below A.heap.size A w'):
  w'.heap[p]?=Q1 (.cells #[a,b,c] 27 (0,0))/\w'.heap[q]?=Q1 (.cells #[x,y,z] 27 (0,0)):=
 ⟨(h.block p (oD.1 e0).1).trans e0,(h.block q (oD.1 e1).1).trans e1⟩
theorem oU{A:World}{p:Nat}{a b c:Value}(e0:A.heap[p]?=Q1 (.cells #[a,b,c] 27 (0,0))):
  A.cell? ⟨p,0,Q2⟩=Q1 a/\A.cell? ⟨p,1,Q2⟩=Q1 b/\A.cell? ⟨p,2,Q2⟩=Q1 c/\A.frozen? ⟨p,0,Q2⟩=Q4/\A.frozen? ⟨p,1,Q2⟩=Q4/\A.frozen? ⟨p,2,Q2⟩=Q4:=by
 simp[World.cell?,World.frozen?,e0]
theorem Xp(k n:Int)(s:zD)(k' n':Int)(s':zD)(W:World):Calls Tryz.prog 62 #[.agg #[.int .i64 k,.int .i64 n,.string ⟨s.toArray⟩],.agg #[.int .i64 k',.int .i64 n',.string ⟨s'.toArray⟩]] W λe w'=>e=.returned (.int .i64 (bj (k,n,s) (k',n',s')))/\RowKit.Below W.heap.size W w'/\W.drawn<=w'.drawn:=by
 have hk:=λW'=>Jl k n s W'
 have hk':=λW'=>Jl k' n' s' W'
 have mixed:Tryz.prog.follows .mixedOrders=Q3:=by kernel_rfl
 unfold bj;generalize ao (k,n,s)=a at hk⊢;generalize ao (k',n',s')=b at hk'⊢;obtain⟨a1,a2,a3⟩:=a;obtain⟨b1,b2,b3⟩:=b
 dsimp only at hk hk'⊢
 have k1:=λW'=>zcn a1 b1 W'
 have k2:=λW'=>zco a2 b2 W'
 have k3:=λW'=>zcp a3 b3 W'
 generalize rq a1 b1=m1 at k1⊢;generalize jX a2 b2=m2 at k2⊢;generalize nj a3 b3=m3 at k3⊢
 go_enter Tryz.func62,Tryz.ntmps62
 go_wp2
 obtain⟨W2,hW2⟩:∃W2,(W.alloc (.cells #[.int .i64 k,.int .i64 n,.string ⟨s.toArray⟩] 27)).alloc (.cells #[.int .i64 k',.int .i64 n',.string ⟨s'.toArray⟩] 27)=W2:=⟨_,rfl⟩;have e0:W2.heap[W.heap.size]?=Q1 (.cells #[.int .i64 k,.int .i64 n,.string ⟨s.toArray⟩] 27 (0,0)):=by rw[<-hW2];exact(bp _ _ _ sw).trans (cB _ _)
 have e1:W2.heap[W.heap.size+1]?=Q1 (.cells #[.int .i64 k',.int .i64 n',.string ⟨s'.toArray⟩] 27 (0,0)):=by
  rw[<-hW2];have:=cB (W.alloc (.cells #[.int .i64 k,.int .i64 n,.string ⟨s.toArray⟩] 27)) (.cells #[.int .i64 k',.int .i64 n',.string ⟨s'.toArray⟩] 27)
  rwa [aZ]at this
 have hB2:RowKit.Below W.heap.size W W2:=by rw[<-hW2];exact((RowKit.Below.refl _ W).alloc (aA _) _).alloc sw _
 have hd2:W.drawn<=W2.drawn:=by rw[<-hW2];exact aA _
 rw[hW2];clear hW2;obtain⟨c0,c1,c2,c3,c4,c5⟩:=oU e0;obtain⟨d0,d1,d2,d3,d4,d5⟩:=oU e1;rename_i K hK
 have hrest:∀W3:World,W3.heap[W.heap.size]?=Q1 (.cells #[.int .i64 a1,.int .i64 a2,.string ⟨a3.toArray⟩] 27 (0,0))->W3.heap[W.heap.size+1]?=Q1 (.cells #[.int .i64 b1,.int .i64 b2,.string ⟨b3.toArray⟩] 27 (0,0))->RowKit.Below W.heap.size W W3->W.drawn<=W3.drawn->
   K {tmps:=#[.agg #[.int .i64 k,.int .i64 n,.string ⟨s.toArray⟩],.agg #[.int .i64 k',.int .i64 n',.string ⟨s'.toArray⟩],.pointer (Q1 ⟨W.heap.size,0,Q2⟩),.pointer (Q1 ⟨W.heap.size+1,0,Q2⟩),.int .i64 0,.agg #[.int .i64 k,.int .i64 n,.string ⟨s.toArray⟩],.agg #[.int .i64 a1,.int .i64 a2,.string ⟨a3.toArray⟩],.agg #[.int .i64 k',.int .i64 n',.string ⟨s'.toArray⟩],.agg #[.int .i64 b1,.int .i64 b2,.string ⟨b3.toArray⟩],undef,undef,undef,undef,undef,undef,undef,undef,undef,undef,undef,undef,undef,undef,undef,undef,undef],defers:=[]} W3:=by
  intro W3 w0 w1 hB3 WK;apply hK;clear hK;have hsz:W.heap.size+1<W3.heap.size:=(oD.1 w1).1;obtain⟨x0,x1,x2,x3,x4,x5⟩:=oU w0;obtain⟨y0,y1,y2,y3,y4,y5⟩:=oU w1
  go_wp2
  go_still_tail 15,mixed
  still_call (k1 _)
  repeat still_step
  still_call (k2 _)
  repeat still_step
  still_call (k3 _)
  refine wpStill_nil ?_;change wpList _ _ _ _ _ W3.drew;have hd4:W.drawn<=W3.drew.drawn:=cD WK (Nat.le_succ _);have hB4:RowKit.Below W.heap.size W W3.drew:=hB3.drew;generalize W3.drew=W4 at hd4 hB4⊢
  go_wp2_with (go_at_call 108;refine(zkJ m1 m2 m3 W4.heap.size _ sw sw sw).mono ?_;rintro e w' ⟨rfl,rfl⟩)
  go_ret
  exact⟨rfl,hB4.alloc hB4.size _,hd4⟩
 have hrk:=zlf.mk hrest;clear hK hrest k1 k2 k3
 go_region_with (first
  |(go_at_call 107;refine(hk _).mono ?_;clear hk;rintro e w1 ⟨rfl,h1,WK⟩;obtain⟨f0,f1⟩:=ZL (A:=W2.drew) e0 e1 h1;obtain⟨p0,p1,p2,p3,p4,p5⟩:=oU f0;obtain⟨q0,q1,q2,q3,q4,q5⟩:=oU f1)
  |(go_at_call 107;refine(hk' _).mono ?_;clear hk';rintro e w2 ⟨rfl,h2,hd4⟩;obtain⟨g0,g1⟩:=ZL f0 f1 h2;obtain⟨r0,r1,r2,r3,r4,r5⟩:=oU g0;obtain⟨s0,s1,s2,s3,s4,s5⟩:=oU g1))
 all_goals
  refine hrk.out _ ?_ ?_ ?_ ?_
  ·simp[World.setCell,th,g0]
  ·simp[World.setCell,th,g1]
  ·have hs1:=h1.size;have hs2:=h2.size;have hB5:RowKit.Below W.heap.size W w2:=(hB2.trans ((RowKit.Below.mono ⟨h1.os,h1.tape,h1.output,h1.size,h1.block⟩ hB2.size))).trans (h2.mono (cD hB2.size hs1));exact(((((hB5.setCell (p:=⟨W.heap.size,0,Q2⟩) sw _).setCell (p:=⟨W.heap.size,1,Q2⟩) sw _).setCell (p:=⟨W.heap.size,2,Q2⟩) sw _).setCell (p:=⟨W.heap.size+1,0,Q2⟩) sw _).setCell (p:=⟨W.heap.size+1,1,Q2⟩) sw _).setCell (p:=⟨W.heap.size+1,2,Q2⟩) sw _
  ·have hs3:W2.drawn+1<=w1.drawn:=WK;have hs4:W.drawn<=w2.drawn:=by omega
   simpa[World.setCell]using hs4
open Tr (chk br re)
def pY(l:List (Sem ze)):Bool:=l.all (λv=>aR v&&(v.1!=0))&&decide l.Nodup&&!l.isEmpty
theorem UD{l l':List (Sem ze)}(h:pY l=Q3)(hp:List.Perm l' l)(hs:l'.Pairwise λx y:Sem ze=>¬LT.lt (α:=Int) (bj y x) 0):l'=iq l:=by
 simp only[pY,aC,dX,aP,bne_iff_ne,ne_eq]at h;obtain⟨⟨hm,hn⟩,_⟩:=h;obtain⟨a1,a2⟩:=lE λx hx=>(hm x hx).1
 have hn':l'.Nodup:=hp.nodup_iff.2 hn;refine Hv ?_ a1 λx=>?_
 ·refine(hs.and hn').imp_of_mem λ{x y} hx hy h=>?_
  rcases mZ (hm y (hp.mem_iff.1 hy)).1 (hm x (hp.mem_iff.1 hx)).1 h.1 with e|e
  ·exact absurd e.symm h.2
  ·exact e
 ·rw[a2 x,hp.mem_iff];exact⟨λhx=>⟨hx,(hm x hx).2⟩,λhx=>hx.1⟩
@[match_pattern] abbrev znv:Sh:=.pr (.int .i64) (.pr (.int .i64) .str)
def zo3:ac:=λargs hp _=>match args with
 | [.vec id,.clo (.func 62) [] []]=>match hp id with
  |.vec znv l=>(.chk (Q0 (length l<=1000000)) (.chk (pY l) (.ok {val:=.tup [],wr:=[(id,.vec ze (iq l))]})))
  |_=>.err
 |_=>.err
theorem zl1:Go.Proofs.Enters Tryz.prog 62:=by
  cases hb:Tryz.f62.body with
  | none => have:Tryz.f62.body.isNone=false:=by kernel_rfl
            rw[hb]at this;cases this
  |some c=>exact Go.Proofs.enters_of (fn:=Tryz.f62) kw kw hb
noncomputable section
abbrev ZQ:=lx [(4,[5,6,18,19,20]),(11,[9,34])]
inductive Oy where
 |h4 (i5:Sem zg) (l18:List (Sem ze.sl)) (i19:Int) (i20:Int) (mh_0:List ((Int×Int×zD)×Int))
abbrev KY:Oy->Nat×St
 |.h4 i5 l18 i19 i20 mh_0=>(4,⟨tm 46 [(5,ai i5),(6,AV.mp 0),(18,sl ze.sl l18),(19,ai i19),(20,ai i20)],[AO.vmap Q3 mh_0]⟩)
def zc1(x0:Sem zr)(x1:Sem zh.sl):Tr (Oy⊕aw):=
 let a0:=(x0.1,x0.2.1,x0.2.2.1,(x0.2.2.2.1.1,x0.2.2.2.1.2.1,x0.2.2.2.1.2.2.1,x0.2.2.2.1.2.2.2.1,x0.2.2.2.1.t.1,zn x0.2.2.2.1.t.2),x0.t)
 let a1:=getD x1 (toNat 0) (zi zh)
 Qc (jt a0 x1) (Qc (zK 0 (length x1)) (Q9 (Oy.h4 (bW a0 x1) a1.2 (↑(length a1.2):Int) 0 [])))
def zkT:Oy->Tr (Oy⊕aw)
 | .h4 i5 l18 i19 i20 mh_0=>
  let a0:=l18.getD i20.toNat (zi ze.sl)
  br (Q0 (i20<i19))
  (Qc (zK i20 l18.length) (Qc (zK i5 (length a0)) (Q9 (Oy.h4 i5 l18 i19 (IntKind.i64.wrap (i20+1)) (kc mh_0 (getD a0 (toNat i5) (zi ze)) 0)))))
  Tr.err
end
def vN(es:List ((Int×Int×zD)×Int))(k:Int×Int×zD):List ((Int×Int×zD)×Int):=match cr es k 0 with
 |some q=>es.eraseIdx q.1
 |none=>es
theorem wB{α β:Type}(f:α->β):∀(l:List α)(i:Nat),(l.eraseIdx i).map f=(l.map f).eraseIdx i
 |[],_=>rfl
 |_::_,0=>rfl
 | x::r,i+1=>by
  show f x::(r.eraseIdx i).map f=f x::(r.map f).eraseIdx i;rw[wB f r i]
theorem Wx{P:Program}{mt kt et:TypeId}(hm:P.underlying mt=Q1 (.map kt et))(hvk:mY P kt=Q3){w:World}{r:Nat}{ents:Array MapEntry}{clock:Nat}{es:List ((Int×Int×zD)×Int)}{k:Int×Int×zD}(hko:lz k)
  (hb:w.heap[r]?=Q1 (.map ents clock)) (he:(ents.toList.map λe=>(e.key,e.val))=Bg Q3 es) (ho:∀p∈es,cN .i64 p.2/\lz p.1) (hs:lB ents clock):
  ∃ents':Array MapEntry,(∀ty,(Builtin.delete_ #[mt,kt] ty #[.map (Q1 r),dJ k]).run P w=.ok (.tuple #[]) {w with heap:=w.heap.setIfInBounds r (.map ents' clock)})/\
   (ents'.toList.map λe=>(e.key,e.val))=Bg Q3 (vN es k)/\(∀x∈ents'.toList,x.born<clock)/\(ents'.toList.map (·.born)).Nodup:=by
 have hfk:=jp (P:=P) (w:=w) hvk hko Q3 es ents.toList he ho;have hborn:∀x∈ents.toList,x.born<clock:=λx hx=>by
  obtain⟨i,hi,rfl⟩:=fW hx;have:=hs.2 i ents.toList[i] (by rw[<-rD];exact zS hi);rw[this,hs.1];simpa using hi
 have hnd:(ents.toList.map (·.born)).Nodup:=by
  have:ents.toList.map (·.born)=List.range ents.size:=by
   apply List.ext_getElem
   ·simp
   ·intro i h1 h2;have hi:i<ents.size:=by simpa using h1
    simp only[List.getElem_map,List.getElem_range];exact hs.2 i _ (by rw[<-rD];exact zS (by simpa using hi))
  rw[this];exact List.nodup_range
 unfold vN;cases hfi:cr es k 0 with
 | none=>
  rw[hfi]at hfk;refine⟨ents,λty=>?_,he,hborn,hnd⟩;simp[Builtin.delete_,bE hm,kA hb,dc hvk,hfk,xk _ hb,Result.andThen]
 | some q=>
  rw[hfi]at hfk;have hsub:((ents.eraseIdxIfInBounds q.1).toList)=ents.toList.eraseIdx q.1:=by simp
  refine⟨ents.eraseIdxIfInBounds q.1,λty=>?_,?_,λx hx=>?_,?_⟩
  ·simp[Builtin.delete_,bE hm,kA hb,dc hvk,hfk,xk _ hb,Result.andThen]
  ·rw[hsub,wB,he];exact(wB _ es q.1).symm
  ·rw[hsub]at hx;exact hborn x (List.mem_of_mem_eraseIdx hx)
  ·rw[hsub];exact hnd.sublist ((List.eraseIdx_sublist _ _).map _)
noncomputable def CU:Code:=match Tryz.f30.body with
 |some (.seq _ (.seq _ (.seq _ (.seq _ r))))=>r
 |_=>.skip
noncomputable def BT:Code:=match Tryz.f30.body with
 |some (.seq _ (.seq _ (.seq _ (.seq (.seq _ (.block _ (.loop c))) _))))=>c
 |_=>.skip
theorem zcR:ag Tryz.f30 4=[.code BT,.inLoop BT,.inBlock 0,.code CU]:=kw
theorem zc8:(Tryz.prog.info? 27).map (λi=>(i.zero,i.size,i.bytes))=Q1 (Q1 (.agg #[.int .i64 0,.int .i64 0,.string ⟨#[]⟩]),3,32):=kw
def I8(l:List ((Int×Int×zD)×MapEntry)):List Value:=l.flatMap λp=>[.int .i64 p.1.1,.int .i64 p.1.2.1,.string ⟨p.1.2.2.toArray⟩]
structure zae (w1:World) (r clock:Nat) (ents':Array MapEntry) (v:Value) (wr:World) (seen:Array Nat) (E:List ((Int×Int×zD)×MapEntry)):Prop where
 it:∃c0,wr.heap[w1.heap.size]?=Q1 (.mapIter (Q1 r) clock seen c0)/\clock<=c0
 mp:wr.heap[r]?=Q1 (.map ents' clock)
 sub:∀p∈E,p.2∈ents'.toList/\p.2.key=dJ p.1
 sn:seen.toList=E.map λp=>p.2.born
 nd:(E.map λp=>p.2.born).Nodup
 row:wr.ownsRow w1.heap.size 27 3 v E.length (I8 E)
 bel:RowKit.Below w1.heap.size w1 wr
 cnt:E.length+(leftOf ents' seen).size<=ents'.size
theorem OP(w:World)(l:List Value)(t:TypeId):∀j u,l[j]?=Q1 u->(w.alloc (.cells l.toArray t)).cell? ((⟨w.heap.size,0,Q2⟩:Addr).add j)=Q1 u:=by
 intro j u h;unfold Addr.add;split
 ·rename_i e;subst e;simp[h]
 ·simp[h]
theorem XB(Q:Exit->Act->World->Prop)(S:Value->World->Prop)(r:Nat)(ents':Array MapEntry)(clock:Nat)(w w1:World)(hdel:∀ty,(Builtin.delete_ #[121,27] ty #[.map (Q1 r),.agg #[.int .i64 0,.int .i64 0,.string ⟨#[]⟩]]).run Tryz.prog w=.ok (.tuple #[]) w1)(hm:w1.heap[r]?=Q1 (.map ents' clock))(hborn:∀x∈ents'.toList,x.born<clock)(hnd:(ents'.toList.map (·.born)).Nodup) (hkeys:∀x∈ents'.toList,∃k,x.key=dJ k) (hsz:ents'.size<=1000)
  (hsort:∀v wr seen E,zae w1 r clock ents' v wr seen E->(leftOf ents' seen).size=0->Calls Tryz.prog 61 #[v,.func (.func 62) #[] #[]] wr λe w'=>e=.returned (.tuple #[])/\S v w')
  (hQ:∀v w'(a:Act),S v w'->a.tmps[4]?=Q1 v->a.defers=[]->Q Exit.ret a w')
  (v0 v1 v2 v3 v4 v5 v7 v8 v9 v10 v11 v12 v13 v14 v15 v16 v17 v18 v19 v20 v21 v22 v23 v24 v25 v26 v27 v28 v29 v30 v31 v32 v33 v34 v35 v36 v37 v38 v39 v40 v41 v42 v43 v44 v45:Value):
  CU.wp Tryz.prog Q {tmps:=#[v0,v1,v2,v3,v4,v5,(Value.map (Q1 r)),v7,v8,v9,v10,v11,v12,v13,v14,v15,v16,v17,v18,v19,v20,v21,v22,v23,v24,v25,v26,v27,v28,v29,v30,v31,v32,v33,v34,v35,v36,v37,v38,v39,v40,v41,v42,v43,v44,v45],defers:=[]} w:=by
 have hrg:=run_range_map (P:=Tryz.prog) w1 121 27 122 r ents' clock Tryz.underlying121 hm;simp only[CU,Tryz.f30]
 go_wp2
 obtain⟨i0,hi,hz0,hz1,hz2⟩:=info_parts zc8
 go_loopw [9] (λv wr=>∃seen E,zae w1 r clock ents' v wr seen E)
  (λ_ wr=>(leftOf ents' (wr.iterSeen w1.heap.size)).size)
 case atStart=>
  exact⟨#[],[],⟨⟨clock,heap_alloc_new _ _,aA _⟩,by rw[heap_alloc_old _ _ (oD.1 hm).1];exact hm,sw,sw,sw,World.ownsRow_nil _ _ _ _,(RowKit.Below.refl _ _).alloc (aA _) _,by simpa[leftOf]using Array.size_filter_le⟩⟩
 case round=>
  obtain⟨seen,E,hC⟩:=hrel;obtain⟨c0,hit,hsc⟩:=hC.it;have hrlt:r<w1.heap.size:=(oD.1 hm).1;rcases run_next_at (P:=Tryz.prog) wr 0 w1.heap.size r clock c0 seen ents' clock hit hC.mp hborn hsc with⟨hz,hnx⟩|⟨e,he,wd,hwd,hnx⟩
  ·have hC':=hsort _ _ _ _ hC (by simpa using hz);clear hC
   go_wp2_with (go_at_call 61;refine hC'.mono ?_;rintro e w' ⟨rfl,hS⟩)
   exact hQ _ _ _ hS rfl rfl
  ·have hem:e∈ents'.toList:=by simp[leftOf]at he⊢;exact he.1
   have hes:e.born∉E.map λp=>p.2.born:=by
    rw[<-hC.sn];simp[leftOf]at he⊢;exact he.2
   obtain⟨k,hk⟩:=hkeys e hem;have hleft:0<(leftOf ents' seen).size:=by
    have:=List.length_pos_of_mem he;simpa using this
   have hcnt:=hC.cnt;have hEl:E.length<1000:=by omega
   obtain⟨W3,hW3⟩:∃W3,ChangeMaps.setBlock wd w1.heap.size (.mapIter (Q1 r) clock (seen.push e.born) clock)=W3:=⟨_,rfl⟩;rw[hW3]at hnx;have hwh:wd.heap=wr.heap:=by rcases hwd with rfl|rfl<;>rfl
   have hilt:w1.heap.size<wr.heap.size:=(oD.1 hit).1;have hit3:W3.heap[w1.heap.size]?=Q1 (.mapIter (Q1 r) clock (seen.push e.born) clock):=by
    rw[<-hW3];show(wd.heap.setIfInBounds _ _)[_]?=_;rw[hwh];simp[hilt]
   have hoth:∀j,j≠w1.heap.size->W3.heap[j]?=wr.heap[j]?:=λj hj=>by
    rw[<-hW3];show(wd.heap.setIfInBounds _ _)[_]?=_;rw[hwh,Array.getElem?_setIfInBounds_ne (λe=>hj e.symm)]
   have hsz3:W3.heap.size=wr.heap.size:=by
    rw[<-hW3];show(wd.heap.setIfInBounds _ _).size=_;rw[hwh];simp
   have hgr:wr.grownBy W3 (Q1 w1.heap.size):=⟨by rw[<-hW3];rcases hwd with rfl|rfl<;>rfl,by rw[<-hW3];rcases hwd with rfl|rfl<;>rfl,by rw[<-hW3];rcases hwd with rfl|rfl<;>rfl,by rw[hsz3];exact aA _,λj _ hj=>hoth j λe=>hj (by rw[e])⟩;have hmp3:W3.heap[r]?=Q1 (.map ents' clock):=(hoth r ow).trans hC.mp;have hen:=run_entry_at (P:=Tryz.prog) W3 w1.heap.size r clock seen ents' clock e hit3 hmp3 hem hnd;have hrow3:=hC.row.kept hgr (by
    rcases hC.row.2 with⟨rfl,_⟩|⟨g,cap,cur,rfl,_,hgb,_⟩
    ·exact .inl rfl
    ·refine .inr λe'=>?_
     have:g=w1.heap.size:=by simpa[Value.ownBlock]using e'
     subst this;rw[hit]at hgb;cases hgb)
   have hbel3:RowKit.Below w1.heap.size w1 W3:=hC.bel.grown hgr hC.bel.size (λj e=>by cases e;exact aA _);rw[hk]at hnx hen;obtain⟨k1,k2,k3⟩:=k;simp only[dJ]at hnx hen;have hsub:=hC.sub;have hsn:=hC.sn;have hndE:=hC.nd;clear hW3 hwd hwh hsz3 hgr hC
   go_wp2_with (at_builtin;refine wpList_append_own _ rfl _ _ 31 rfl w1.heap.size 27 i0 _ 3 32 Tryz.underlying31 hi hz0 hz1 hz2 rfl (by decide) _ _ _ rfl ((hrow3.alloc _).alloc _) ⟨W3.heap.size+1,0,Q2⟩ 1 1 [.int .i64 k1,.int .i64 k2,.string ⟨k3.toArray⟩] rfl rfl (by have:=OP (W3.alloc (.cells #[.int .i64 k1,.int .i64 k2,.string ⟨k3.toArray⟩] 27)) [.int .i64 k1,.int .i64 k2,.string ⟨k3.toArray⟩] 27;simpa using this) (by simp[Value.oneCell']) (by unfold maxLen;omega) ow (by have:=hbel3.size;simp;omega) ?_;intro v' w3 hown' hgr3 hnil3;go_frame)
   obtain⟨o3,ho3⟩:∃o:Obj,o=.cells #[.int .i64 k1,.int .i64 k2,.string ⟨k3.toArray⟩] 27:=⟨_,rfl⟩;have hgr4:World.grownBy ((W3.alloc o3).alloc o3) w3 u9.ownBlock:=by rw[ho3];exact hgr3
   clear hgr3 hnil3;have hown9:∀j,u9.ownBlock=Q1 j->w1.heap.size<=j/\j≠w1.heap.size:=by
    intro j hj;rcases hrow3.2 with⟨rfl,_⟩|⟨g,cap,cur,rfl,hbg,hgb,_⟩
    ·simp[Value.ownBlock]at hj
    ·have:g=j:=by simpa[Value.ownBlock]using hj
     subst this;exact⟨hbg,λe'=>by subst e';rw[hit3]at hgb;cases hgb⟩
   have hs3:w1.heap.size<W3.heap.size:=(oD.1 hit3).1;have hold:∀j,j<=w1.heap.size->w3.heap[j]?=W3.heap[j]?:=λj hj=>by
    rw[hgr4.block j sg (λe'=>by obtain⟨a,b⟩:=hown9 j e'.symm;omega),heap_alloc_old _ _ sg,heap_alloc_old _ _ ow]
   have hnew:w3.heap[w1.heap.size]?=Q1 (Obj.mapIter (Q1 r) clock (seen.push e.born) clock):=(hold _ (aA _)).trans hit3;have hfl:I8 (E++[((k1,k2,k3),e)])=I8 E++[.int .i64 k1,.int .i64 k2,.string ⟨k3.toArray⟩]:=by simp[I8]
   refine⟨⟨seen.push e.born,E++[((k1,k2,k3),e)],⟨⟨clock,hnew,aA _⟩,(hold r ow).trans hmp3,?_,?_,?_,?_,?_,?_⟩⟩,?_⟩
   ·intro p hp;rcases cR.1 hp with h|h
    ·exact hsub p h
    ·obtain rfl:=gw.1 h;exact⟨hem,hk⟩
   ·simp[hsn]
   ·rw[iP];refine List.nodup_append.2 ⟨hndE,sw,λa ha b hb=>?_⟩;have:b=e.born:=by simpa using hb
    rintro rfl;exact hes (this▸ha)
   ·rw[hfl,jW];exact hown'
   ·exact((hbel3.alloc ow _).alloc sg _).grown hgr4 sg (λj hj=>(hown9 j hj).1)
   ·have:=left_shrinks _ _ _ he;rw[jW];simp only[fj,om];omega
   ·have e1:wr.iterSeen w1.heap.size=seen:=by simp[World.iterSeen,hit]
    have e2:w3.iterSeen w1.heap.size=seen.push e.born:=by simp[World.iterSeen,hnew]
    rw[e1,e2];exact left_shrinks _ _ _ he
abbrev V3:={x:Sem ze//aR x=Q3}
def jQ(p:V3):List Value:=[.int .i64 p.1.1,.int .i64 p.1.2.1,.string ⟨(p.1.2.2:zD).toArray⟩]
def Iv(p q:V3):Int:=bj p.1 q.1
theorem zd3[Inhabited V3](d:Array V3)(B cap:Nat)(w:World)(hH:HoldsK jQ 3 w B 0 d)(hB:B<w.heap.size)(h:d.size<4611686018427387904):
  Calls Tryz.prog 61 #[.slice (Q1 ⟨B,0,Q2⟩) d.size cap,.func (.func 62) #[] #[]] w λe w'=>e=.returned (.tuple #[])/\∃n os,w'=sortWorldK jQ 3 w B 0 n (d.toList.mergeSort λx y=>!(ltOf Iv) y x).toArray os:=by
 refine AnyQ.slices_SortFunc_total Tryz.sortVal 3 Tryz.isAgg27 Tryz.sizeOf27 jQ (λ_=>rfl) ?_ Iv ?_ 62 #[] B 0 cap d w zl1 ?_ hH hB h ?_
 ·intro x v hv;simp only[jQ,cu,List.not_mem_nil,or_false]at hv;rcases hv with rfl|rfl|rfl<;>rfl
 ·refine⟨λx=>?_,λx y z h g=>?_,λx y z h g=>?_⟩
  ·exact aj (gU (a:=x.1))
  ·simp only[ltOf,aP]at h g⊢;exact ie (a:=x.1) (b:=y.1) (c:=z.1) h g
  ·simp only[ltOf,decide_eq_false_iff_not]at h g⊢;intro hxz;rcases mZ x.2 y.2 h with e|e
   ·unfold Iv at hxz;rw[e]at hxz;exact g hxz
   ·exact g (ie (a:=y.1) (b:=x.1) (c:=z.1) e hxz)
 ·intro m os dk hdk x y;show Calls Tryz.prog 62 (#[Value.agg (jQ x).toArray,Value.agg (jQ y).toArray]++#[]) _ _;refine(Xp x.1.1 x.1.2.1 x.1.2.2 y.1.1 y.1.2.1 y.1.2.2 _).mono ?_;rintro e' w' ⟨rfl,h1,h2⟩;exact⟨rfl,gd_of h1 h2⟩
 ·intro x y h g;simp only[ltOf,decide_eq_false_iff_not]at h g;rcases mZ x.2 y.2 h with e|e
  ·exact Subtype.ext e
  ·exact absurd e g
theorem tQ[Inhabited V3]:∀(l:List V3)(t:Nat),t<l.length*3->(l.flatMap jQ)[t]?=Q1 (jQ (l[t/3]!))[t%3]!
 |[],t,h=>by simp at h
 | a::l,t,h=>by
  rw[List.flatMap_cons];by_cases h3:t<3
  ·have e0:t/3=0:=by omega
   have e1:t%3=t:=by omega
   rw[ms (by simpa[jQ]using h3),e0,e1];rw[List.getElem!_cons_zero,zS (by simpa[jQ]using h3),getElem!_pos]
  ·obtain⟨s,rfl⟩:∃s,t=s+3:=⟨t-3,ow⟩;have e0:(s+3)/3=s/3+1:=by omega
   have e1:(s+3)%3=s%3:=by omega
   rw[ng (by simp[jQ]),e0,e1,List.getElem!_cons_succ];have:=tQ l s (by simp at h;omega);simpa[jQ]using this
theorem BF:∀l:List V3,(l.flatMap jQ).length=l.length*3
 |[]=>rfl
 | a::l=>by
  rw[List.flatMap_cons,jW,BF l,fj];simp[jQ];omega
theorem TT[Inhabited V3]{w:World}{base:Nat}{v:Value}{l:List V3}(hown:w.ownsRow base 27 3 v l.length (l.flatMap jQ))(hbig:l.length<4611686018427387904)(hne:l≠[]):
  Calls Tryz.prog 61 #[v,.func (.func 62) #[] #[]] w λe w'=>e=.returned (.tuple #[])/\w'.ownsRow base 27 3 v l.length ((l.mergeSort λx y=>!(ltOf Iv) y x).flatMap jQ)/\w.grownBy w' v.ownBlock:=by
 rcases hown.2 with⟨_,h0⟩|⟨g,cap,cur,rfl,hbg,hgb,hnc,hcm,hcs,htk⟩
 ·exact absurd (List.length_eq_zero_iff.1 h0) hne
 have hH:HoldsK jQ 3 w g 0 l.toArray:=by
  intro t ht;rw[size_flatK]at ht;have ht':t<l.length*3:=by simpa using ht
  have hc:cur.toList[t]?=Q1 (jQ (l[t/3]!))[t%3]!:=by
   rw[<-tQ l t ht',<-htk,List.getElem?_take_of_lt ht']
  refine⟨?_,by simp[World.frozen?,hgb]⟩;rw[get_flatK _ _ _ _ ht];simp[World.cell?,hgb];simpa using hc
 have hs:=zd3 l.toArray g cap w hH (oD.1 hgb).1 (by simpa using hbig);have hsz:l.toArray.size=l.length:=by simp
 rw[hsz]at hs;refine hs.mono ?_;rintro e w' ⟨rfl,m,os,rfl⟩;have hl':(l.mergeSort λx y=>!(ltOf Iv) y x).length=l.length:=List.length_mergeSort _;simp only[];generalize(l.mergeSort λx y=>!(ltOf Iv) y x)=l' at hl';have hB':=tU (enc:=jQ) (k:=3) (n:=m) (os:=os) l'.toArray hgb;have hoth:∀b,b<w.heap.size->b≠g->(sortWorldK jQ 3 w g 0 m l'.toArray os).heap[b]?=w.heap[b]?:=λb hb hn=>gR l'.toArray hb hn
 refine⟨by first|trivial|rfl,⟨by rw[BF,hl'],.inr ⟨g,cap,_,rfl,hbg,hB',hnc,hcm,by simp[putCells,hcs],?_⟩⟩,⟨rfl,rfl,rfl,?_,λk hk hn=>hoth k hk λe=>hn (by rw[e];rfl)⟩⟩
 ·apply AQ;intro t;by_cases ht:t<l.length*3
  ·rw[List.getElem?_take_of_lt ht,tQ l' t (by rw[hl'];exact ht),rD];have hcl:t<cur.size:=by rw[hcs];exact iO ht (gW 3 hnc)
   have hfk:=get_flatK jQ 3 l'.toArray t (by simpa[hl']using ht);have hfs:(flatK jQ 3 l'.toArray).size=l.length*3:=by simp[hl']
   unfold putCells;rw[Array.getElem?_mapIdx,tp hcl];simp only[Ee,be,eX,hfs,ht,and_self,if_true,Nat.sub_zero,hfk,id_eq];simp
  ·rw[eE sg,eE (by rw[BF,hl'];omega)]
 ·unfold sortWorldK grow putRowK;simp[Sort.ahead]
end Cad
