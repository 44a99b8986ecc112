/- slices.SortFunc over tables with rows, by their names: the contract. Plans: a plan's own sources, rising. Units: slices.Clone. Units: places, a statement. -/
import Derived.Test.YtkmcdhahdadkpaaGreatDoorF20
import Derived.Test.YtkmcdhahdadkpaaGreatDoorF21
import Derived.Test.YtkmcdhahdadkpaaGreatDoorF18
import Derived.Test.YtkmcdhahdadkpaaGreatDoorF14
import Derived.Test.YtkmcdhahdadkpaaGreatDoorF17
import Derived.Test.YtkmcdhahdadkpaaGreatDoorF07
import Derived.Sort.Grow
import Derived.Deep.Draws
import Derived.Shelf.SlSortCmp.QuietGrown
import Derived.Shelf.GgClosure.StringsIndexFuncTop
import Derived.Test.YtkmcdhahdadkpaaGreatDoorF08
import Derived.RegionTactic
import Derived.RegionCalls
import Derived.Deep.RegionWith
import Derived.StillTailTactics
import Derived.Maps.RangeWalk
import Derived.LoopTactic
import Derived.Shelf.SlSortCmp.NoneTotal
namespace Cad
open Go Go.Proofs Go.Sort
open Tr renaming chk→Qc
open AV renaming nils→Qb
open AO renaming box→Qa
open Tr renaming «to»→Q9
open Tr renaming val→Q8
open Sh renaming str→Q6
open Sh renaming expr→Q5
open Bool renaming false→Q4
open Bool renaming true→Q3
open Option renaming none→Q2
open Option renaming some→Q1
open Decidable renaming decide→Q0
open Int (toNat)
open List (getD)
open List (length)
set_option maxHeartbeats 4000000
open Tr (chk br re)
open AV (nils agg tup ptr kb str sl)
theorem sX:∀a b:zA,(Lib.compareBytes a b<0)↔Op.bytesLess a b=Q3
 |[],[]=>by simp[Lib.compareBytes,Op.bytesLess]
 |[],_::_=>by simp[Lib.compareBytes,Op.bytesLess]
 |_::_,[]=>by simp[Lib.compareBytes,Op.bytesLess]
 | a::r,b::s=>by
  unfold Lib.compareBytes Op.bytesLess;by_cases h1:a<b
  ·simp[h1]
  ·by_cases h2:b<a
   ·have:a≠b:=λe=>by rw[e]at h2;exact absurd h2 (UInt8.lt_irrefl b)
    simp[h1,h2,this]
   ·have:a=b:=UInt8.le_antisymm (UInt8.not_lt.1 h2) (UInt8.not_lt.1 h1);subst this;simp[sX r s]
theorem DD:∀s:zA,Op.bytesLess s s=Q4
 |[]=>rfl
 |a::r=>by simp[Op.bytesLess,DD r]
theorem Am:∀{a b c:zA},Op.bytesLess a b=Q3->Op.bytesLess b c=Q3->Op.bytesLess a c=Q3
 |_,[],_,h,_=>by cases‹zA›<;>simp[Op.bytesLess]at h
 |_,_::_,[],_,h=>by simp[Op.bytesLess]at h
 |[],_::_,_::_,_,_=>rfl
 | a::x,b::y,c::z,h,g=>by
  simp only[Op.bytesLess,lR,aD,aN,aX]at h g⊢;rcases h with h|⟨rfl,h⟩
  ·rcases g with g|⟨rfl,g⟩
   ·exact .inl (UInt8.lt_trans h g)
   ·exact .inl h
  ·rcases g with g|⟨rfl,g⟩
   ·exact .inl g
   ·exact .inr ⟨rfl,Am h g⟩
theorem Al:∀{a b:zA},Op.bytesLess a b=Q4->a≠b->Op.bytesLess b a=Q3
 |[],[],_,h=>absurd rfl h
 |[],_::_,h,_=>by simp[Op.bytesLess]at h
 |_::_,[],_,_=>rfl
 | a::x,b::y,h,hne=>by
  simp only[Op.bytesLess,Bool.or_eq_false_iff,decide_eq_false_iff_not,Bool.and_eq_false_iff]at h;simp only[Op.bytesLess,lR,aD,aN,aX];by_cases e:b=a
  ·subst e;refine .inr ⟨rfl,Al (h.2.resolve_left sw) λe=>hne (by rw[e])⟩
  ·exact .inl (Nat.lt_of_le_of_ne (UInt8.not_lt.1 h.1) λe'=>e (UInt8.toNat_inj.1 e'))
def fw:List (Sem zh)->List (Sem zh)
 |[a,b]=>if Op.bytesLess b.1.1 a.1.1=Q3 then[b,a]else[a,b]
 |l=>l
theorem qE(a b:Sem zh):fw [a,b]=if Op.bytesLess b.1.1 a.1.1=Q3 then[b,a]else[a,b]:=rfl
def two(l:List (Sem zh)):Bool:=match l with
 |[_]=>Q3
 |[a,b]=>!((a.1.1:zA)==b.1.1)
 |_=>Q4
theorem Tn{l l':List (Sem zh)}(h:two l=Q3)(hp:List.Perm l' l)(hs:l'.Pairwise λx y:Sem zh=>¬Lib.compareBytes y.1.1 x.1.1<0):l'=fw l:=by
 match l,h with
 |[a],_=>exact List.perm_singleton.1 hp
 | [a,b],h=>
  have hl:=hp.length_eq;have hne:(a.1.1:zA)≠b.1.1:=by simpa[two]using h
  match l',hl,hp,hs with
  |[x,y],_,hp,hs=>
  have hs:¬Lib.compareBytes y.1.1 x.1.1<0:=by simpa using hs
  rw[sX]at hs;have hx:x=a/\y=b\/x=b/\y=a:=by
   have hxm:x∈[a,b]:=hp.mem_iff.1 sw;rcases ce.1 hxm with rfl|hxm
   ·have:=(List.perm_cons x).1 hp;exact .inl ⟨rfl,by simpa using this⟩
   ·have hxb:x=b:=by simpa using hxm
    subst hxb;have:=(List.perm_cons x).1 (hp.trans (List.Perm.swap x a []));exact .inr ⟨rfl,by simpa using this⟩
  rw[qE];rcases hx with⟨rfl,rfl⟩|⟨rfl,rfl⟩
  ·rw[if_neg hs]
  ·rw[if_pos (Al (by simpa using hs) hne)]
def YX:zX:=λargs hp _=>match args with
 | [.vec id,.clo (.func 56) [] [.ptr nb 0]]=>match hp id,hp nb with
  |.vec ziC l,.box [.clo (.func 52) [] []]=>.chk (two l) (.ok {val:=.tup [],wr:=[(id,.vec zh (fw l))]})
  |_,_=>.err
 |_=>.err
theorem zjK:Go.Proofs.Enters Tryz.prog 56:=by
  cases hb:Tryz.f56.body with
  | none => have:Tryz.f56.body.isNone=false:=by kernel_rfl
            rw[hb]at this;cases this
  |some c=>exact Go.Proofs.enters_of (fn:=Tryz.f56) kw kw hb
theorem zav:FK 92 YX where
 fn:=⟨Tryz.f92,kw,kw,kw⟩
 calls:=λw U ρ hp n args vals f fp hf hr hub hgl hfp hin hcl hnw=>by
  unfold YX at hf;split at hf
  ·rename_i id nb;split at hf
   ·rename_i l hid hnb;simp only[Tr.val_chk,Tr.val_ok,bw]at hf;obtain⟨h2,rfl⟩:=hf;have hl:=hr.len
    match vals,hl,hr with
    |[va,vc],_,hr=>
    have r0:=hr.rv 0 _ va rfl rfl;have r1:=hr.rv 1 _ vc rfl rfl;cases r0 with
    |vec _ _ hva _=>
    cases r1 with
    |clo _ _ _ vf vcs hf hc hrf hrc=>
    match vf,hf,vcs,hc,hrc with
    |[],_,[pv],_,hrc=>
    have r2:=hrc 0 _ pv rfl rfl;cases r2 with
    |ptr _ _ b0 hb0=>
    have iid:id∈fp:=hin id (by simp[AV.idsL,AV.ids]);have inb:nb∈fp:=hin nb (by simp[AV.idsL,AV.ids]);have ob:=hfp.ob nb inb;have oid:=hfp.ob id iid;rw[hnb]at ob;rw[hid]at oid;obtain⟨b',T,arr,e1,hUB,hBB,hrl,h1c⟩:=ob;rw[hb0]at e1;cases e1;have hal:=hrl.len;have hfv:=hrl.rv 0 _ (arr.toList[0]'(by rw[<-hal];simp)) rfl (zQ _);have hcell:w.cell? ⟨b0,0,Q2⟩=Q1 (.func (.func 52) #[] #[]):=by
     generalize hx:arr.toList[0]'(by rw[<-hal];simp)=x at hfv;cases hfv with
     |clo _ _ _ vf vc hf hc _ _=>
     match vf,hf,vc,hc with
     |[],_,[],_=>
     rw[World.cell?,hBB];have:arr[0]?=Q1 (Value.func (.func 52) #[] #[]):=by
      rw[<-qU,zQ (by rw[<-hal];simp),hx]
     simpa using this
    have hbl:=hub b0 hUB;have hlne:l≠[]:=λe=>by rw[e]at h2;cases h2
    have hlen:l.length<=2:=by
     match l,h2 with
     |[_],_=>simp
     |[_,_],_=>simp
    refine⟨(TF (n:=n) (e:=zh) (G:=λ_=>True) (λx y:Sem zh=>Lib.compareBytes x.1.1 y.1.1) (by decide) hub hid oid hva hlne (λ_ _=>trivial) ?_).mono ?_,by simp;exact iid⟩
    ·intro inst B cap d hds hH hBlt hown;have hne:b0≠B:=λe=>by
      have:=hfp.inj id iid nb inb B (by rw[hid];exact hown) (by rw[hnb];exact⟨rfl,_,hb0,by simp[eK,e]⟩);subst this;rw[hid]at hnb;cases hnb
     refine AnyQ.slices_SortFunc Tryz.sortRel 12 Tryz.isAgg52 Tryz.sizeOf52 (λp:Pl w U ρ zh (λ_=>True)=>p.1.1) (λp=>p.2.1) (λp=>p.2.2.1) (λp q=>Lib.compareBytes p.1.2.1.1 q.1.2.1.1) ?_ 56 #[.pointer (Q1 ⟨b0,0,Q2⟩)] B 0 cap d w zjK ?_ hH hBlt ow
     ·refine⟨λx=>?_,λx y z h g=>?_,λx y z h g=>?_⟩
      ·have:=DD x.1.2.1.1;simp only[ltOf,decide_eq_false_iff_not,sX,this];simp
      ·simp only[ltOf,aN,sX]at*;exact Am h g
      ·simp only[ltOf,decide_eq_false_iff_not,sX]at*;intro hxz;by_cases e:(x.1.2.1.1:zA)=y.1.2.1.1
       ·rw[e]at hxz;exact g hxz
       ·exact g (Am (Al (by simpa using h) e) hxz)
     ·intro m os dk hdk x y;have nm:∀p:Pl w U ρ zh (λ_=>True),∃v1 v2 v3 v4 v5 v6 v7 v8 v9 v10 v11,p.1.1=[.string ⟨(p.1.2.1.1:zA).toArray⟩,v1,v2,v3,v4,v5,v6,v7,v8,v9,v10,v11]:=by
       rintro⟨⟨cs,q⟩,h1,h2,h3,h4⟩;obtain⟨v,hv1,hv2⟩:=h3 0 (.str q.1.1) rfl;have h1:cs.length=12:=h1
       match cs,h1 with
       |[a0,a1,a2,a3,a4,a5,a6,a7,a8,a9,a10,a11],_=>
       have:a0=v:=by simpa using hv1
       subst this;cases hv2;exact⟨a1,a2,a3,a4,a5,a6,a7,a8,a9,a10,a11,rfl⟩
      obtain⟨v1,v2,v3,v4,v5,v6,v7,v8,v9,v10,v11,ex⟩:=nm x;obtain⟨u1,u2,u3,u4,u5,u6,u7,u8,u9,u10,u11,ey⟩:=nm y;have hkept:(sortWorldK (λp:Pl w U ρ zh (λ_=>True)=>p.1.1) 12 w B 0 m dk os).heap[b0]?=w.heap[b0]?:=gE dk hbl hne
      have:=Tryz.cmp56 ⟨(x.1.2.1.1:zA).toArray⟩ ⟨(y.1.2.1.1:zA).toArray⟩ v1 v2 v3 v4 v5 v6 v7 v8 v9 v10 v11 u1 u2 u3 u4 u5 u6 u7 u8 u9 u10 u11 b0 (sortWorldK (λp:Pl w U ρ zh (λ_=>True)=>p.1.1) 12 w B 0 m dk os)
       (by rw[World.cell?_of_block hkept];exact hcell) (iz hbl (by unfold sortWorldK grow putRowK;simp[Sort.ahead]))
      show Calls Tryz.prog 56 (#[Value.agg x.1.1.toArray,Value.agg y.1.1.toArray]++#[Value.pointer (Q1 ⟨b0,0,Q2⟩)]) _ _;rw[ex,ey];exact this
    ·rintro e' w' ⟨l',hp',hs',v',U',ρ',rfl,hef⟩;rw[Tn h2 hp' hs']at hef;exact⟨v',U',ρ',rfl,hef⟩
   ·simp at hf
  ·simp at hf
open Go Go.Proofs
noncomputable def bK(db:List (Sem zh))(p:Sem zE):List (Sem zh):=(bG p.2.1 p.2.2.1).map λn=>kh (az (bG p.2.1 p.2.2.1)) (aA db n)
theorem Ey{l:List (Sem zh)}{x:Sem zh}:x∈fw l↔x∈l:=by
 match l with
 |[]=>rfl
 |[_]=>rfl
 | [a,b]=>
  rw[qE];split
  ·simp[or_comm]
  ·exact Iff.rfl
 |_::_::_::_=>rfl
theorem Es(l:List (Sem zh)):(fw l).length=l.length:=by
 match l with
 |[]=>rfl
 |[_]=>rfl
 |[a,b]=>rw[qE];split<;>rfl
 |_::_::_::_=>rfl
theorem HD{db:List (Sem zh)}{s:Sem zk}(hp:(da db s).1=0):(da db s).2.1=s.1/\(da db s).2.2.1=s.2.2.1/\(da db s).2.2.2.1=dH s:=by
 unfold da at hp⊢;split at hp
 ·rename_i h;rw[if_pos h,(lg hp).2];exact⟨rfl,rfl,rfl⟩
 ·rename_i h;split at hp
  ·rename_i h';rw[if_neg h,if_pos h',(lg hp).2];exact⟨rfl,rfl,rfl⟩
  ·rename_i h';split at hp
   ·rename_i h'';rw[if_neg h,if_neg h',if_pos h'',(lg hp).2];exact⟨rfl,rfl,rfl⟩
   ·cases hp
theorem Ok{s:Sem zk}(h:eW s=Q3)(ho:s.1=[106,111,105,110]):dH s≠[]:=by
 obtain⟨o,s2,s3,s4,s5,s6,s7,s8,s9,s10,us,s12,s13⟩:=s;have ho:o=[106,111,105,110]:=ho;subst ho;obtain⟨_,hp⟩:=eo (s:=([106,111,105,110],s2,s3,s4,s5,s6,s7,s8,s9,s10,us,s12,s13)) (g:=_) (b:=_) rfl;rw[hp]at h;intro hr;have hr:s13=[]:=hr;subst hr;rw[show bL []=Q4 from rfl]at h;cases h1:bL s2<;>cases h2:bL s3<;>cases h3:bL s6<;>simp[h1,h2,h3]at h
theorem MU{db:List (Sem zh)}{s:Sem zk}(hp:(aS db s).1=0):jk s.1/\dW s=Q3/\ke db=(0:Int)/\(∀n∈bG s.2.2.1 (dH s),LE.le (α:=Int) 0 (zS db n))/\s.2.2.1≠dH s/\aS db s=da db s:=by
 unfold aS at hp;split at hp
 case isFalse=>cases hp
 rename_i hm;split at hp
 case isFalse h=>exact absurd hp h
 rename_i h0;refine⟨hm.1,hm.2.1,hm.2.2,?_,?_,by unfold aS;rw[if_pos hm,if_pos h0]⟩
 ·unfold nt at h0;split at h0
  ·assumption
  ·cases h0
 ·unfold nt at h0;split at h0
  case isFalse=>cases h0
  split at h0
  case isTrue=>cases h0
  rename_i h2;intro e;apply h2;have e:s.2.2.1=s.t.t.t:=e;rw[<-e];simp
theorem OV{db:List (Sem zh)}{s:Sem zk}(hdb:∀x∈db,gz x)(hp:(aS db s).1=0)(sh:lC s):
  aS (fw (bK db (aS db s).2)) (iE (aS db s).2 (bK db (aS db s).2))=(0,(aS db s).2)/\(bK db (aS db s).2).map (λx:Sem zh=>x.1.1)=bG (aS db s).2.2.1 (aS db s).2.2.2.1/\(fw (bK db (aS db s).2)).Pairwise (λx y:Sem zh=>Op.bytesLess x.1.1 y.1.1=Q3)/\iE (aS db s).2 (bK db (aS db s).2)=s/\(∀x∈fw (bK db (aS db s).2),gz x)/\two (bK db (aS db s).2)=Q3:=by
 obtain⟨hm,hmay,hb,hf,hne,hask⟩:=MU hp;have hB:=(jR hdb).1 hb;have hparts:=lw hmay;have hp0:(da db s).1=0:=by rw[<-hask];exact hp
 obtain⟨f1,f2,f3⟩:=HD hp0;have hp2:aS db s=(0,(aS db s).2):=by rw[<-hp]
 rw[hask]at hp2⊢;generalize hns:bG (da db s).2.2.1 (da db s).2.2.2.1=ns;have hns':bG s.2.2.1 (dH s)=ns:=by rw[<-hns,f2,f3]
 rw[hns']at hf;have hsrc:bK db (da db s).2=ns.map λn=>kh (az ns) (aA db n):=by unfold bK;rw[hns]
 rw[hsrc];have hname:∀n∈ns,(aA db n).1.1=n:=λn hn=>(np (hf n hn)).2
 have hmem:∀x∈fw (ns.map λn=>kh (az ns) (aA db n)),∃n∈ns,x=kh (az ns) (aA db n):=λx hx=>by
  obtain⟨n,hn,rfl⟩:=bm.1 (Ey.1 hx);exact⟨n,hn,rfl⟩
 have hthere:∀n∈ns,kh (az ns) (aA db n)∈fw (ns.map λn=>kh (az ns) (aA db n)):=λn hn=>Ey.2 (bm.2 ⟨n,hn,rfl⟩)
 have hlen:ns.length<=2:=by rw[<-hns];unfold bG;split<;>simp
 have hpw:(fw (ns.map λn=>kh (az ns) (aA db n))).Pairwise λx y:Sem zh=>Op.bytesLess x.1.1 y.1.1=Q3:=by
  by_cases hr:(dH s==[])=Q3
  ·have e:ns=[s.2.2.1]:=by rw[<-hns'];unfold bG;rw[if_pos hr]
   rw[e];simp[fw]
  ·have e:ns=[s.2.2.1,dH s]:=by rw[<-hns'];unfold bG;rw[if_neg hr]
   have n1:=hname s.2.2.1 (by rw[e];simp);have n2:=hname (dH s) (by rw[e];simp);rw[e];show(fw [kh _ (aA db s.2.2.1),kh _ (aA db (dH s))]).Pairwise _;rw[qE];split
   ·rename_i h;simp only[List.pairwise_cons,fX,forall_eq,List.not_mem_nil,false_implies,implies_true,List.Pairwise.nil,and_true];exact h
   ·rename_i h;simp only[List.pairwise_cons,fX,forall_eq,List.not_mem_nil,false_implies,implies_true,List.Pairwise.nil,and_true];refine jv (by simpa using h) ?_;show(aA db (dH s)).1.1≠(aA db s.2.2.1).1.1;rw[n1,n2];exact λe=>hne e.symm
 generalize hdb':fw (ns.map λn=>kh (az ns) (aA db n))=db' at hmem hthere hpw;have hfind:∀n∈ns,LE.le (α:=Int) 0 (zS db' n):=λn hn=>by
  have:=Ml (hthere n hn)
  rwa [show(kh (az ns) (aA db n)).1.1=n from hname n hn]at this
 have hB':iF db':=hB.src (p:=az ns) (by rw[<-hdb',Es,cN];omega) hpw (λy hy=>by
  obtain⟨n,hn,rfl⟩:=hmem y hy;exact⟨_,(np (hf n hn)).1,rfl⟩) (λn hn=>hfind n ((kv _ _).1 hn))
 have hsh:∀x∈db',gz x:=λx hx=>by
  obtain⟨n,hn,rfl⟩:=hmem x hx;have:=hdb _ (np (hf n hn)).1;exact⟨this.uq,cL (List.length_filter_le _ _) this.rf,this.rw⟩
 have htab:∀n∈ns,au db' n=J7 (az ns) (au db n):=λn hn=>by
  obtain⟨h1,h2⟩:=np (hfind n hn);obtain⟨m,hm,e⟩:=hmem _ h1;have:m=n:=by
   rw[e]at h2;rw[<-hname m hm];exact h2
  subst this;show(aA db' m).1=_;rw[e];rfl
 have hback:iE (da db s).2 (ns.map λn=>kh (az ns) (aA db n))=s:=by
  refine OX hp0 hm hparts sh ?_;have:∃r,ns=s.2.2.1::r:=by rw[<-hns'];unfold bG;split<;>exact⟨_,rfl⟩
  obtain⟨r,e⟩:=this;rw[e];rfl
 have htwo:two (ns.map λn=>kh (az ns) (aA db n))=Q3:=by
  by_cases hr:(dH s==[])=Q3
  ·have e:ns=[s.2.2.1]:=by rw[<-hns'];unfold bG;rw[if_pos hr]
   rw[e];rfl
  ·have e:ns=[s.2.2.1,dH s]:=by rw[<-hns'];unfold bG;rw[if_neg hr]
   have n1:=hname s.2.2.1 (by rw[e];simp);have n2:=hname (dH s) (by rw[e];simp);rw[e];show(!((aA db s.2.2.1).1.1:zA)==(aA db (dH s)).1.1)=Q3;rw[n1,n2];simpa using hne
 refine⟨?_,?_,hpw,hback,hsh,htwo⟩
 ·rw[hback];refine(SR hp ((jR hsh).2 hB') (λn hn=>?_) (λx hx=>?_) (λho=>Ok hparts ho)).1.trans (by rw[hask];exact hp2)
  ·rw[hns']at hn⊢;refine⟨hfind n hn,?_⟩;rw[htab n hn];refine⟨rfl,rfl,λf hfn=>?_⟩;show f∈(au db n).t.1.filter (λf:Sem zr=>az ns f.2)↔_;rw[List.mem_filter,(kv _ _).2 hfn];simp
  ·rw[hns'];obtain⟨n,hn,rfl⟩:=hmem x hx;obtain⟨h1,h2⟩:=np (hf n hn);exact⟨by show(aA db n).1.1∈ns;rw[h2];exact hn,_,h1,rfl⟩
 ·rw[ov]
  conv=>rhs;rw[<-List.map_id ns]
  exact List.map_congr_left λn hn=>hname n hn
noncomputable abbrev wT(l:List (Sem zf)):Tr zB:=run D8 0 VM (Func.results Tryz.f32).toList 300 (bq Tryz.f32) (bc (Func.ntmps Tryz.f32) [.sl zf l] [])
theorem ME:zI D8.P 32 Tryz.f32 1:=bQ kw
theorem zfY(l:List (Sem zf)):wT l=.ok (.fork l.isEmpty (dR (wT l)).1 (dR (wT l)).2.1 (dR (wT l)).2.2):=kw
theorem zce(l:List (Sem zf)):run D8 0 VM (Func.results Tryz.f32).toList 300 (dR (wT l)).1 (dR (wT l)).2.2=.ok (.ret .nils []):=kw
theorem zcf(l:List (Sem zf)):run D8 0 VM (Func.results Tryz.f32).toList 300 (dR (wT l)).2.1 (dR (wT l)).2.2=.chk (Q0 (l.length<=1073741824)) (.ok (.ret (.vec 0) [.vec zf l])):=kw
def zfo:iv [Q1 (.sl zf)]:=λx h=>match h with
 |[]=>.chk (Q0 (length x.1<=1073741824)) (.ok (.vec 0,[.vec zf x.1]))
 |_=>.err
def zdq:zX:=bh [Q1 (.sl zf)] zfo
theorem ZI:FK 32 zdq:=by
 refine dI ME λx h0 res hx C hC=>?_
 unfold zfo at hx;split at hx
 ·simp only[Q8]at hx;split at hx
  ·rename_i hl;simp only[bw]at hx;subst hx;obtain⟨l,u⟩:=x;refine zD (n0:=0) lZ ME hC (zfY l) ?_;refine⟨λhe=>?_,?_⟩
   ·have hn:l=[]:=List.isEmpty_iff.1 he;refine Reach.weaken (Q:=λr h=>(r,h)=(.vec 0,[.vec zf []])) (Reach.promNil zf (λid=>hC id sw) (zD (n0:=0) lZ ME hC (zce l) rfl)) ?_;intro r h hq;cases hq;refine⟨_,?_,λ_ _ _ _ h=>h⟩;show(AV.vec 0,[AO.vec zf []])=(AV.vec 0,[AO.vec zf l]);rw[hn]
   ·exact zD (n0:=0) lZ ME hC (zcf l) (jQ hl rfl)
  ·cases hx
 ·simp at hx
noncomputable def QI:=D8.add 32 zdq
theorem rV:zw QI:=lZ.add ZI
noncomputable section
def Vx(x0:Sem zE)(x1:Sem zh.sl):Tr (Empty⊕aw):=
 let a0:=getD x1 (toNat 0) (zi zh)
 br (x0.1==[99,111,112,121]) (Qc (zP 0 (length x1)) (re (ai a0.1.2.2.1) []))
 (br (x0.1==[106,111,105,110]) (re (ai x0.t.2) [])
  (Qc (zP 0 (length x0.t.1)) (re (ai (getD x0.t.1 (toNat 0) (zi zg))) [])))
def uN(x0:Sem zE)(x1:Sem zh.sl):=al [zg] t0 100000000 (Vx x0 x1)
def ly(x0:Sem zE)(x1:Sem zh.sl):=(uN x0 x1).isSome
def dz(x0:Sem zE)(x1:Sem zh.sl):=o1 (uN x0 x1)
def zdp:=FT [zE,zh.sl] [zg] λx=>uN x.1 x.2.1
theorem ZH:FK 31 zdp:=rV.T1 (f:=Tryz.f31) (keep:=k0) (e:=e0)
abbrev zgZ:=mV [(7,[4,5,52,53,54])]
inductive Hp where
 |h7 (l52:List (Sem zj)) (i53:Int) (i54:Int) (ja0:List UInt8) (ja1:List UInt8) (ja2:List UInt8) (ja5:List UInt8) (ja8:List UInt8) (ja9:Int) (ja10:Int) (ja11:List UInt8) (ja12:List UInt8) (ja16:List UInt8) (ja17:Int) (ja18:Int) (ja19:List UInt8) (ja20:List UInt8) (ja22:List UInt8) (jb0:Sem Q6) (jb1:Sem Q6) (jb2:Sem Q6) (jb5:List UInt8) (jb8:zA) (jb9:Int) (jb10:Int) (jb11:zA) (jb12:zA) (jb13:List (Sem Q5)) (jb16:List UInt8) (jb17:Int) (jb18:Int) (jb19:List UInt8) (jb20:List UInt8) (jb22:Sem Q6)
 |h7b (l52:List (Sem zj)) (i53:Int) (i54:Int) (ja0:List UInt8) (ja1:List UInt8) (ja2:List UInt8) (ja5:List UInt8) (ja8:List UInt8) (ja9:Int) (ja10:Int) (ja11:List UInt8) (ja12:List UInt8) (ja16:List UInt8) (ja17:Int) (ja18:Int) (ja19:List UInt8) (ja20:List UInt8) (ja22:List UInt8) (jb0:Sem Q6) (jb1:Sem Q6) (jb2:Sem Q6) (jb5:List UInt8) (jb8:zA) (jb9:Int) (jb10:Int) (jb11:zA) (jb12:zA) (jb13:List (Sem Q5)) (jb16:List UInt8) (jb17:Int) (jb18:Int) (jb19:List UInt8) (jb20:List UInt8) (jb22:Sem Q6) (lh_2:List (Sem Q6))
abbrev zjv:Hp->Nat×St
 |.h7 l52 i53 i54 ja0 ja1 ja2 ja5 ja8 ja9 ja10 ja11 ja12 ja16 ja17 ja18 ja19 ja20 ja22 jb0 jb1 jb2 jb5 jb8 jb9 jb10 jb11 jb12 jb13 jb16 jb17 jb18 jb19 jb20 jb22=>(7,⟨tm 67 [(4,ptr 0 0),(5,ptr 1 0),(52,sl zj l52),(53,ai i53),(54,ai i54)],[Qa [str ja0,str ja1,str ja2,Qb,Qb,str ja5,Qb,Qb,str ja8,ai ja9,ai ja10,str ja11,str ja12,Qb,Qb,Qb,str ja16,ai ja17,ai ja18,str ja19,str ja20,Qb,str ja22],Qa [str jb0,str jb1,str jb2,Qb,Qb,str jb5,Qb,Qb,str jb8,ai jb9,ai jb10,str jb11,str jb12,sl Q5 jb13,Qb,Qb,str jb16,ai jb17,ai jb18,str jb19,str jb20,Qb,str jb22]]⟩)
 |.h7b l52 i53 i54 ja0 ja1 ja2 ja5 ja8 ja9 ja10 ja11 ja12 ja16 ja17 ja18 ja19 ja20 ja22 jb0 jb1 jb2 jb5 jb8 jb9 jb10 jb11 jb12 jb13 jb16 jb17 jb18 jb19 jb20 jb22 lh_2=>(7,⟨tm 67 [(4,ptr 0 0),(5,ptr 1 0),(52,sl zj l52),(53,ai i53),(54,ai i54)],[Qa [str ja0,str ja1,str ja2,Qb,Qb,str ja5,Qb,Qb,str ja8,ai ja9,ai ja10,str ja11,str ja12,Qb,Qb,Qb,str ja16,ai ja17,ai ja18,str ja19,str ja20,Qb,str ja22],Qa [str jb0,str jb1,str jb2,AV.vec 2,Qb,str jb5,Qb,Qb,str jb8,ai jb9,ai jb10,str jb11,str jb12,sl Q5 jb13,Qb,Qb,str jb16,ai jb17,ai jb18,str jb19,str jb20,Qb,str jb22],AO.vec Q6 lh_2]⟩)
def VE(x0:Sem zE)(x1:Sem zh.sl):Tr (Hp⊕aw):=
 let a0:=Q0 (x0.t.2>=0)
 let a1:=zP 0 (length x1)
 let a2:=getD x1 (toNat 0) (zi zh)
 let a3:=(↑(length a2.1.2.1):Int)
 let a4:=getD a2.1.2.1 (toNat x0.t.2) (zi zj)
 br (x0.1==[106,111,105,110])
 (Qc (bif a0 then a1 else Q3)
  (br (bif a0 then Q0 (x0.t.2<a3)else Q4) (Qc a1 (Qc (zP x0.t.2 (length a2.1.2.1)) (re (agg [str x0.1,str x0.2.2.2.1.1,str x0.2.1,Qb,Qb,str a4.1,Qb,Qb,str (ze.op x0.2.2.2.1.t.2),ai (ze.v x0.2.2.2.1.t.2).1,
  ai (ze.v x0.2.2.2.1.t.2).2.1,str (ze.v x0.2.2.2.1.t.2).2.2,str (ze.s x0.2.2.2.1.t.2),sl Q5 (ze.l x0.2.2.2.1.t.2),Qb,Qb,str [],ai 0,ai 0,str [],str [],Qb,str x0.2.2.1]) []))) (re (agg
  [str x0.1,str x0.2.2.2.1.1,str x0.2.1,Qb,Qb,str [],Qb,Qb,str (ze.op x0.2.2.2.1.t.2),ai (ze.v x0.2.2.2.1.t.2).1,ai (ze.v x0.2.2.2.1.t.2).2.1,str (ze.v x0.2.2.2.1.t.2).2.2,str (ze.s x0.2.2.2.1.t.2),sl Q5 (ze.l x0.2.2.2.1.t.2),Qb,Qb,
  str [],ai 0,ai 0,str [],str [],Qb,str x0.2.2.1]) [])))
 (Q9
  (Hp.h7 x0.2.2.2.1.2.1 (↑(length x0.2.2.2.1.2.1):Int) 0 [] [] [] [] [] 0 0 [] [] [] 0 0 [] [] [] x0.1 x0.2.2.2.1.1 x0.2.1 [] (ze.op x0.2.2.2.1.t.2) (ze.v x0.2.2.2.1.t.2).1 (ze.v x0.2.2.2.1.t.2).2.1 (ze.v x0.2.2.2.1.t.2).2.2 (ze.s x0.2.2.2.1.t.2) (ze.l x0.2.2.2.1.t.2) [] 0 0 [] [] x0.2.2.1))
def xK:Hp->Tr (Hp⊕aw)
 | .h7 l52 i53 i54 ja0 ja1 ja2 ja5 ja8 ja9 ja10 ja11 ja12 ja16 ja17 ja18 ja19 ja20 ja22 jb0 jb1 jb2 jb5 jb8 jb9 jb10 jb11 jb12 jb13 jb16 jb17 jb18 jb19 jb20 jb22=>
  let a0:=l52.getD i54.toNat (zi zj)
  let a1:=[a0.1]
  br (Q0 (i54<i53))
  (Qc (zP i54 l52.length) (Qc (Q0 (a1.length<=1073741824)) (Q9 (Hp.h7b l52 i53 (IntKind.i64.wrap (i54+1)) ja0 ja1 ja2 ja5 ja8 ja9 ja10 ja11 ja12 ja16 ja17 ja18 ja19 ja20 ja22 jb0 jb1 jb2 jb5 jb8 jb9 jb10 jb11 jb12 jb13 jb16 jb17 jb18 jb19 jb20 jb22 a1))))
  (re (agg [str jb0,str jb1,str jb2,Qb,Qb,str jb5,Qb,Qb,str jb8,ai jb9,ai jb10,str jb11,str jb12,sl Q5 jb13,Qb,Qb,str jb16,ai jb17,ai jb18,str jb19,str jb20,Qb,str jb22]) [])
 | .h7b l52 i53 i54 ja0 ja1 ja2 ja5 ja8 ja9 ja10 ja11 ja12 ja16 ja17 ja18 ja19 ja20 ja22 jb0 jb1 jb2 jb5 jb8 jb9 jb10 jb11 jb12 jb13 jb16 jb17 jb18 jb19 jb20 jb22 lh_2=>
  let a0:=l52.getD i54.toNat (zi zj)
  let a1:=[a0.1]
  br (Q0 (i54<i53))
  (Qc (zP i54 l52.length) (Qc (Q0 (lh_2.length+a1.length<=1073741824)) (Q9 (Hp.h7b l52 i53 (IntKind.i64.wrap (i54+1)) ja0 ja1 ja2 ja5 ja8 ja9 ja10 ja11 ja12 ja16 ja17 ja18 ja19 ja20 ja22 jb0 jb1 jb2 jb5 jb8 jb9 jb10 jb11 jb12 jb13 jb16 jb17 jb18 jb19 jb20 jb22 (lh_2++a1)))))
  (re (agg [str jb0,str jb1,str jb2,AV.vec 0,Qb,str jb5,Qb,Qb,str jb8,ai jb9,ai jb10,str jb11,str jb12,sl Q5 jb13,Qb,Qb,str jb16,ai jb17,ai jb18,str jb19,str jb20,Qb,str jb22]) [AO.vec Q6 lh_2])
def F0(x0:Sem zE)(x1:Sem zh.sl):=al [zk] xK 100000000 (VE x0 x1)
def KV(x0:Sem zE)(x1:Sem zh.sl):=(F0 x0 x1).isSome
def SK(x0:Sem zE)(x1:Sem zh.sl):=o1 (F0 x0 x1)
def zdJ:=FT [zE,zh.sl] [zk] λx=>F0 x.1 x.2.1
theorem Z4:FK 59 zdJ:=rV.T1 (f:=Tryz.f59) (keep:=zgZ) (e:=zjv)
def QJ:=QI.addL [(31,zdp),(59,zdJ)]
theorem Kh:zw QJ:=rV.addL<|fc ZH<|fc Z4<|jj
end
noncomputable def zkL(x0:Sem zh):Tr (Empty⊕aw):=
 re (str x0.1.1) []
noncomputable def Te(x0:Sem zh):=al [Q6] t0 100000000 (zkL x0)
noncomputable def zi0:=FT [zh] [Q6] λx=>Te x.1
theorem Z0:FK 52 zi0:=lZ.T1 (f:=Tryz.f52) (keep:=k0) (e:=e0)
theorem Z1:FK 52 (aC [zh] [.str] λx=>(x.1.1.1,())):=gH Z0 λ_=>rfl
noncomputable def X5:=((((QJ.add 52 (aC [zh] [.str] λx=>(x.1.1.1,()))).add 92 YX).aut 54 Tryz.f54 2).aut 55 Tryz.f55 1)
theorem D9:zw X5:=gZ (gZ ((Kh.add Z1).add zav) (bQ kw)) (bQ kw)
noncomputable section
abbrev zgL:=mV [(6,[1,2,5,6,19,20,21])]
inductive Nx where
 |h6 (l1:List (Sem zh)) (l6:List (Sem Q6)) (l19:List (Sem zh)) (i20:Int) (i21:Int) (z0:zn [CP.d zE])
abbrev zjn:Nx->Nat×St
 |.h6 l1 l6 l19 i20 i21 z0=>(6,⟨tm 55 [(1,sl zh l1),(2,ptr 0 0),(5,ptr 1 0),(6,sl Q6 l6),(19,sl zh l19),(20,ai i20),(21,ai i21)],[Qa (bx [] [CP.d zE] z0),Qa [AV.clo (Fn.func 52) [] []]]⟩)
def zgn(x0:Sem zE)(x1:Sem zh.sl):Tr (Nx⊕aw):=
 let a0:=kB (x0.1,x0.2.1,x0.2.2.1,(x0.2.2.2.1.1,x0.2.2.2.1.2.1,x0.2.2.2.1.2.2.1,x0.2.2.2.1.2.2.2.1,x0.2.2.2.1.t.1,zm x0.2.2.2.1.t.2),x0.t)
 br ((↑(length x1):Int)!=(↑(length a0):Int)) (re (ai 1) []) (Q9 (Nx.h6 x1 a0 x1 (↑(length x1):Int) 0 (x0,())))
def Wu:Nx->Tr (Nx⊕aw)
 | .h6 l1 l6 l19 i20 i21 z0=>
  let a0:=l19.getD i21.toNat (zi zh)
  let a1:=(z0.1.1,z0.1.2.1,z0.1.2.2.1,(z0.1.2.2.2.1.1,z0.1.2.2.2.1.2.1,z0.1.2.2.2.1.2.2.1,z0.1.2.2.2.1.2.2.2.1,z0.1.2.2.2.1.t.1,zm z0.1.2.2.2.1.t.2),z0.1.t)
  let a2:=SK a1 l1
  let a3:=(a2.1,a2.2.1,a2.2.2.1,a2.2.2.2.1,a2.t.1,a2.t.2.1,a2.t.q.1,a2.t.q.2.1,zm a2.t.t.1,a2.t.t.2.1,a2.t.t.q.1,zm a2.t.t.q.2.1,a2.t.t.t)
  let a4:=pOf (fw l1) a3
  let a5:=a4.2!=0
  let a6:=(a4.1.1,a4.1.2.1,a4.1.2.2.1,(a4.1.2.2.2.1.1,a4.1.2.2.2.1.2.1,a4.1.2.2.2.1.2.2.1,a4.1.2.2.2.1.2.2.2.1,a4.1.2.2.2.1.t.1,zm a4.1.2.2.2.1.t.2),a4.1.t)
  br (Q0 (i21<i20))
  (Qc (zP i21 l19.length) (Qc (zP i21 l6.length) (br (!a0.1.1==l6.getD i21.toNat (zi Q6)) (re (ai 1) []) (Q9 (Nx.h6 l1 l6 l19 i20 (IntKind.i64.wrap (i21+1)) z0)))))
  (Qc (Q0 (0<l1.length)) (Qc (Q0 (l1.length<=1000)) (Qc (two l1) (Qc (KV a1 l1) (Qc (zci (fw l1) a3) (Qc (bif a5 then Q3 else FY a1 a6) (br (bif a5 then Q3 else !IQ a1 a6) (re (ai 1) []) (re (ai 0) []))))))))
def MQ(x0:Sem zE)(x1:Sem zh.sl):=al [zg] Wu 100000000 (zgn x0 x1)
def MP(x0:Sem zE)(x1:Sem zh.sl):=(MQ x0 x1).isSome
def V7(x0:Sem zE)(x1:Sem zh.sl):=o1 (MQ x0 x1)
def zdk:=FT [zE,zh.sl] [zg] λx=>MQ x.1 x.2.1
theorem ZC:FK 29 zdk:=D9.T1 (f:=Tryz.f29) (keep:=zgL) (e:=zjn)
def X6:=X5.add 29 zdk
theorem vL:zw X6:=D9.add ZC
end
noncomputable section
abbrev zgB:=mV [(6,[5,8,9,22,23,24])]
inductive CU where
 |h6 (i8:Sem zg) (l22:List (Sem zf.sl)) (i23:Int) (i24:Int) (z0:zn [CP.d zf])
 |h6b (i8:Sem zg) (l22:List (Sem zf.sl)) (i23:Int) (i24:Int) (z0:zn [CP.d zf]) (lh_1:List (Sem zf.sl))
abbrev zjg:CU->Nat×St
 |.h6 i8 l22 i23 i24 z0=>(6,⟨tm 46 [(5,ptr 0 0),(8,ai i8),(9,Qb),(22,sl zf.sl l22),(23,ai i23),(24,ai i24)],[Qa (bx [] [CP.d zf] z0)]⟩)
 |.h6b i8 l22 i23 i24 z0 lh_1=>(6,⟨tm 46 [(5,ptr 0 0),(8,ai i8),(9,AV.vec 1),(22,sl zf.sl l22),(23,ai i23),(24,ai i24)],[Qa (bx [] [CP.d zf] z0),AO.vec zf.sl lh_1]⟩)
def zbm(x0:Sem zE)(x1:Sem zh.sl)(x2:Sem zf):Tr (CU⊕aw):=
 let a0:=(x0.1,x0.2.1,x0.2.2.1,(x0.2.2.2.1.1,x0.2.2.2.1.2.1,x0.2.2.2.1.2.2.1,x0.2.2.2.1.2.2.2.1,x0.2.2.2.1.t.1,zm x0.2.2.2.1.t.2),x0.t)
 let a1:=getD x1 (toNat 0) (zi zh)
 Qc (MP a0 x1)
 (br (V7 a0 x1 !=0) (re (tup [Qb,ai 1]) [])
  (Qc (ly a0 x1) (Qc (zP 0 (length x1)) (Q9 (CU.h6 (dz a0 x1) a1.2 (↑(length a1.2):Int) 0 (x2,()))))))
def xJ:CU->Tr (CU⊕aw)
 | .h6 i8 l22 i23 i24 z0=>
  let a0:=l22.getD i24.toNat (zi zf.sl)
  let a1:=getD a0 (toNat i8) (zi zf)
  let a2:=[a0]
  let a3:=IntKind.i64.wrap (i24+1)
  br (Q0 (i24<i23))
  (Qc (zP i24 l22.length) (Qc (zP i8 (length a0)) (br (bif a1.1==z0.1.1&&(a1.2.1==z0.1.2.1&&(a1.2.2==z0.1.2.2&&Q3))then z0.1.1!=0 else Q4) (Qc (Q0 (length a0<=1073741824)) (Qc (Q0 (a2.length<=1073741824)) (Q9 (CU.h6b i8 l22 i23 a3 z0 a2)))) (Q9 (CU.h6 i8 l22 i23 a3 z0)))))
  (re (tup [Qb,ai 0]) [])
 | .h6b i8 l22 i23 i24 z0 lh_1=>
  let a0:=l22.getD i24.toNat (zi zf.sl)
  let a1:=getD a0 (toNat i8) (zi zf)
  let a2:=[a0]
  let a3:=IntKind.i64.wrap (i24+1)
  br (Q0 (i24<i23))
  (Qc (zP i24 l22.length) (Qc (zP i8 (length a0)) (br (bif a1.1==z0.1.1&&(a1.2.1==z0.1.2.1&&(a1.2.2==z0.1.2.2&&Q3))then z0.1.1!=0 else Q4) (Qc (Q0 (length a0<=1073741824)) (Qc (Q0 (lh_1.length+a2.length<=1073741824)) (Q9 (CU.h6b i8 l22 i23 a3 z0 (lh_1++a2))))) (Q9 (CU.h6b i8 l22 i23 a3 z0 lh_1)))))
  (re (tup [AV.vec 0,ai 0]) [AO.vec zf.sl lh_1])
def CJ(x0:Sem zE)(x1:Sem zh.sl)(x2:Sem zf):=al [zf.sl.sl,zg] xJ 100000000 (zbm x0 x1 x2)
def LD(x0:Sem zE)(x1:Sem zh.sl)(x2:Sem zf):=(CJ x0 x1 x2).isSome
def TC(x0:Sem zE)(x1:Sem zh.sl)(x2:Sem zf):=o2 (CJ x0 x1 x2)
def zcT:=FT [zE,zh.sl,zf] [zf.sl.sl,zg] λx=>CJ x.1 x.2.1 x.2.2.1
theorem Y9:FK 11 zcT:=vL.T1 (f:=Tryz.f11) (keep:=zgB) (e:=zjg)
abbrev zgW:=mV [(4,[1,6,7,8]),(12,[1,6,7,8,10,11,12])]
inductive lB where
 |h4 (l1:List (Sem zh)) (l6:List (Sem Q6)) (i8:Int)
 |h12 (l1:List (Sem zh)) (l6:List (Sem Q6)) (i8:Int) (i12:Int) (z0:zn [CP.d zh])
 |h12b (l1:List (Sem zh)) (l6:List (Sem Q6)) (i8:Int) (i12:Int) (z0:zn [CP.d zh]) (lh_1:List (Sem zr))
 |h4b (l1:List (Sem zh)) (l6:List (Sem Q6)) (i8:Int) (lh_0:List (Sem zh))
 |h12bb (l1:List (Sem zh)) (l6:List (Sem Q6)) (i8:Int) (i12:Int) (z1:zn [CP.d zh]) (lh_0:List (Sem zh))
 |h12bbb (l1:List (Sem zh)) (l6:List (Sem Q6)) (i8:Int) (i12:Int) (z1:zn [CP.d zh]) (lh_0:List (Sem zh)) (lh_2:List (Sem zr))
abbrev zjt:lB->Nat×St
 |.h4 l1 l6 i8=>(4,⟨tm 67 [(1,sl zh l1),(6,sl Q6 l6),(7,Qb),(8,ai i8)],[]⟩)
 |.h12 l1 l6 i8 i12 z0=>(12,⟨tm 67 [(1,sl zh l1),(6,sl Q6 l6),(7,Qb),(8,ai i8),(10,ptr 0 0),(11,Qb),(12,ai i12)],[Qa (bx [] [CP.d zh] z0)]⟩)
 |.h12b l1 l6 i8 i12 z0 lh_1=>(12,⟨tm 67 [(1,sl zh l1),(6,sl Q6 l6),(7,Qb),(8,ai i8),(10,ptr 0 0),(11,AV.vec 1),(12,ai i12)],[Qa (bx [] [CP.d zh] z0),AO.vec zr lh_1]⟩)
 |.h4b l1 l6 i8 lh_0=>(4,⟨tm 67 [(1,sl zh l1),(6,sl Q6 l6),(7,AV.vec 0),(8,ai i8)],[AO.vec zh lh_0]⟩)
 |.h12bb l1 l6 i8 i12 z1 lh_0=>(12,⟨tm 67 [(1,sl zh l1),(6,sl Q6 l6),(7,AV.vec 0),(8,ai i8),(10,ptr 1 0),(11,Qb),(12,ai i12)],[AO.vec zh lh_0,Qa (bx [] [CP.d zh] z1)]⟩)
 |.h12bbb l1 l6 i8 i12 z1 lh_0 lh_2=>(12,⟨tm 67 [(1,sl zh l1),(6,sl Q6 l6),(7,AV.vec 0),(8,ai i8),(10,ptr 1 0),(11,AV.vec 2),(12,ai i12)],[AO.vec zh lh_0,Qa (bx [] [CP.d zh] z1),AO.vec zr lh_2]⟩)
def zbu(x0:Sem zE)(x1:Sem zh.sl):Tr (lB⊕aw):=
 let a0:=(x0.1,x0.2.1,x0.2.2.1,(x0.2.2.2.1.1,x0.2.2.2.1.2.1,x0.2.2.2.1.2.2.1,x0.2.2.2.1.2.2.2.1,x0.2.2.2.1.t.1,zm x0.2.2.2.1.t.2),x0.t)
 Qc (jo a0) (Q9 (lB.h4 x1 (kC a0) 0))
def fU:lB->Tr (lB⊕aw)
 | .h4 l1 l6 i8=>
  let a0:=kH l1 (l6.getD i8.toNat (zi Q6))
  br (Q0 (i8<(↑l6.length:Int)))
  (Qc (zP i8 l6.length) (br (Q0 (a0<0)) (re (tup [Qb,kb Q4]) []) (Qc (zP a0 l1.length) (Q9 (lB.h12 l1 l6 i8 0 (l1.getD (toNat a0) (zi zh),()))))))
  (re (tup [Qb,kb Q3]) [])
 | .h12 l1 l6 i8 i12 z0=>
  let a0:=(↑(length z0.1.1.t.1):Int)
  let a1:=zP i12 (length z0.1.1.t.1)
  let a2:=getD z0.1.1.t.1 i12.toNat (zi zr)
  let a3:=[a2]
  let a4:=IntKind.i64.wrap (i12+1)
  let a5:=[((z0.1.1.1,z0.1.1.2.1,z0.1.1.2.2.1,z0.1.1.2.2.2.1,[],zm z0.1.1.t.2),z0.1.2)]
  br (Q0 (i12<a0))
  (Qc a1 (Qc (xu l6 a2.2) (br (Ji l6 a2.2) (Qc a1 (Qc (Q0 (a3.length<=1073741824)) (Q9 (lB.h12b l1 l6 i8 a4 z0 a3)))) (Q9 (lB.h12 l1 l6 i8 a4 z0)))))
  (Qc (Q0 (a5.length<=1073741824)) (Q9 (lB.h4b l1 l6 (IntKind.i64.wrap (i8+1)) a5)))
 | .h12b l1 l6 i8 i12 z0 lh_1=>
  let a0:=(↑(length z0.1.1.t.1):Int)
  let a1:=zP i12 (length z0.1.1.t.1)
  let a2:=getD z0.1.1.t.1 i12.toNat (zi zr)
  let a3:=[a2]
  let a4:=IntKind.i64.wrap (i12+1)
  let a5:=[((z0.1.1.1,z0.1.1.2.1,z0.1.1.2.2.1,z0.1.1.2.2.2.1,lh_1,zm z0.1.1.t.2),z0.1.2)]
  br (Q0 (i12<a0))
  (Qc a1 (Qc (xu l6 a2.2) (br (Ji l6 a2.2) (Qc a1 (Qc (Q0 (lh_1.length+a3.length<=1073741824)) (Q9 (lB.h12b l1 l6 i8 a4 z0 (lh_1++a3))))) (Q9 (lB.h12b l1 l6 i8 a4 z0 lh_1)))))
  (Qc (Q0 (a5.length<=1073741824)) (Q9 (lB.h4b l1 l6 (IntKind.i64.wrap (i8+1)) a5)))
 | .h4b l1 l6 i8 lh_0=>
  let a0:=kH l1 (l6.getD i8.toNat (zi Q6))
  br (Q0 (i8<(↑l6.length:Int)))
  (Qc (zP i8 l6.length) (br (Q0 (a0<0)) (re (tup [Qb,kb Q4]) []) (Qc (zP a0 l1.length) (Q9 (lB.h12bb l1 l6 i8 0 (l1.getD (toNat a0) (zi zh),()) lh_0)))))
  (re (tup [AV.vec 0,kb Q3]) [AO.vec zh lh_0])
 | .h12bb l1 l6 i8 i12 z1 lh_0=>
  let a0:=(↑(length z1.1.1.t.1):Int)
  let a1:=zP i12 (length z1.1.1.t.1)
  let a2:=getD z1.1.1.t.1 i12.toNat (zi zr)
  let a3:=[a2]
  let a4:=IntKind.i64.wrap (i12+1)
  let a5:=[((z1.1.1.1,z1.1.1.2.1,z1.1.1.2.2.1,z1.1.1.2.2.2.1,[],zm z1.1.1.t.2),z1.1.2)]
  br (Q0 (i12<a0))
  (Qc a1 (Qc (xu l6 a2.2) (br (Ji l6 a2.2) (Qc a1 (Qc (Q0 (a3.length<=1073741824)) (Q9 (lB.h12bbb l1 l6 i8 a4 z1 lh_0 a3)))) (Q9 (lB.h12bb l1 l6 i8 a4 z1 lh_0)))))
  (Qc (Q0 (lh_0.length+a5.length<=1073741824)) (Q9 (lB.h4b l1 l6 (IntKind.i64.wrap (i8+1)) (lh_0++a5))))
 | .h12bbb l1 l6 i8 i12 z1 lh_0 lh_2=>
  let a0:=(↑(length z1.1.1.t.1):Int)
  let a1:=zP i12 (length z1.1.1.t.1)
  let a2:=getD z1.1.1.t.1 i12.toNat (zi zr)
  let a3:=[a2]
  let a4:=IntKind.i64.wrap (i12+1)
  let a5:=[((z1.1.1.1,z1.1.1.2.1,z1.1.1.2.2.1,z1.1.1.2.2.2.1,lh_2,zm z1.1.1.t.2),z1.1.2)]
  br (Q0 (i12<a0))
  (Qc a1 (Qc (xu l6 a2.2) (br (Ji l6 a2.2) (Qc a1 (Qc (Q0 (lh_2.length+a3.length<=1073741824)) (Q9 (lB.h12bbb l1 l6 i8 a4 z1 lh_0 (lh_2++a3))))) (Q9 (lB.h12bbb l1 l6 i8 a4 z1 lh_0 lh_2)))))
  (Qc (Q0 (lh_0.length+a5.length<=1073741824)) (Q9 (lB.h4b l1 l6 (IntKind.i64.wrap (i8+1)) (lh_0++a5))))
def Bz(x0:Sem zE)(x1:Sem zh.sl):=al [zh.sl,Sh.bool] fU 100000000 (zbu x0 x1)
def K1(x0:Sem zE)(x1:Sem zh.sl):=(Bz x0 x1).isSome
def SY(x0:Sem zE)(x1:Sem zh.sl):=o2 (Bz x0 x1)
def zdF:=FT [zE,zh.sl] [zh.sl,Sh.bool] λx=>Bz x.1 x.2.1
theorem ZX:FK 50 zdF:=vL.T1 (f:=Tryz.f50) (keep:=zgW) (e:=zjt)
def wX:=X6.addL [(11,zcT),(50,zdF)]
theorem vM:zw wX:=vL.addL<|fc Y9<|fc ZX<|jj
end
noncomputable def nX(p:Sem zE)(src:List (Sem zh)):Int:=if p.1=[99,111,112,121]then(getD src 0 (zi zh)).1.2.2.1 else if p.1=[106,111,105,110]then p.t.2 else getD p.t.1 0 (zi zg)
theorem O3{p:Sem zE}{src:List (Sem zh)}(h0:0<src.length)(hg:p.1≠[99,111,112,121]->p.1≠[106,111,105,110]->0<length p.t.1):uN p src=Q1 (nX p src,()):=by
 have hi:zP 0 src.length=Q3:=zu (i:=0) h0;unfold nX;by_cases h1:p.1=[99,111,112,121]
 ·rw[if_pos h1];have e1:(p.1==[99,111,112,121])=Q3:=by simp[h1]
  refine zM (r:=(.int .i64 (getD src 0 (zi zh)).1.2.2.1,[])) ?_ rfl;simp only[Vx,Q8,e1,hi,if_true];rfl
 ·rw[if_neg h1];have e1:(p.1==[99,111,112,121])=Q4:=by simpa using h1
  by_cases h2:p.1=[106,111,105,110]
  ·rw[if_pos h2];have e2:(p.1==[106,111,105,110])=Q3:=by simp[h2]
   refine zM (r:=(.int .i64 p.t.2,[])) ?_ rfl;simp only[Vx,Q8,e1,e2,if_true,zG,if_false]
  ·rw[if_neg h2];have e2:(p.1==[106,111,105,110])=Q4:=by simpa using h2
   have hj:zP 0 (length p.t.1)=Q3:=zu (i:=0) (hg h1 h2);refine zM (r:=(.int .i64 (getD p.t.1 0 (zi zg)),[])) ?_ rfl;simp only[Vx,Q8,e1,e2,hj,if_true,zG,if_false];rfl
def s59(p:Sem zE)(n:Int)(i:Int):List zA->Hp
 |[]=>.h7 p.2.2.2.1.2.1 n i [] [] [] [] [] 0 0 [] [] [] 0 0 [] [] [] p.1 p.2.2.2.1.1 p.2.1 [] (ze.op p.2.2.2.1.t.2) (ze.v p.2.2.2.1.t.2).1 (ze.v p.2.2.2.1.t.2).2.1 (ze.v p.2.2.2.1.t.2).2.2 (ze.s p.2.2.2.1.t.2) (ze.l p.2.2.2.1.t.2) [] 0 0 [] [] p.2.2.1
 |a::r=>.h7b p.2.2.2.1.2.1 n i [] [] [] [] [] 0 0 [] [] [] 0 0 [] [] [] p.1 p.2.2.2.1.1 p.2.1 [] (ze.op p.2.2.2.1.t.2) (ze.v p.2.2.2.1.t.2).1 (ze.v p.2.2.2.1.t.2).2.1 (ze.v p.2.2.2.1.t.2).2.2 (ze.s p.2.2.2.1.t.2) (ze.l p.2.2.2.1.t.2) [] 0 0 [] [] p.2.2.1 (a::r)
theorem Wo{p:Sem zE}{i:Nat}(acc:List zA)(hi:i<length p.2.2.2.1.2.1)(hb:acc.length<=1000)(hib:i<=1000):(xK (s59 p (length p.2.2.2.1.2.1:Int) (i:Int) acc)).val=Q1 (.inl (s59 p (length p.2.2.2.1.2.1:Int) ((i+1:Nat):Int) (acc++[(getD p.2.2.2.1.2.1 i (zi zj)).1]))):=by
 cases acc with
 | nil=>
  show(xK (.h7 _ _ _ _ _ _ _ _ _ _ _ _ _ _ _ _ _ _ _ _ _ _ _ _ _ _ _ _ _ _ _ _ _ _)).val=_;simp only[xK,Q8,zH hi,zu hi,if_true,aJ];rw[if_pos sw,zq i um];rfl
 | cons a r=>
  show(xK (.h7b _ _ _ _ _ _ _ _ _ _ _ _ _ _ _ _ _ _ _ _ _ _ _ _ _ _ _ _ _ _ _ _ _ _ _)).val=_;simp only[xK,Q8,zH hi,zu hi,if_true,aJ];rw[if_pos (by simp at hb⊢;omega),zq i um];rfl
theorem SL{p:Sem zE}{src:List (Sem zh)}(h0:0<src.length)(hl:length p.2.2.2.1.2.1<=1000):F0 p src=Q1 (iE p src,()):=by
 have hi:zP 0 src.length=Q3:=zu (i:=0) h0;by_cases h2:p.1=[106,111,105,110]
 ·have e2:(p.1==[106,111,105,110])=Q3:=by simp[h2]
  unfold iE;rw[if_pos h2,if_pos h2];by_cases hc:LE.le (α:=Int) 0 p.t.2/\LT.lt (α:=Int) p.t.2 (length (getD src 0 (zi zh)).1.2.1)
  ·rw[if_pos hc];have e3:Q0 (GE.ge (α:=Int) p.t.2 0)=Q3:=zt hc.1;have e4:Q0 (LT.lt (α:=Int) p.t.2 (length (getD src 0 (zi zh)).1.2.1))=Q3:=zt hc.2;have e5:zP p.t.2 (length (getD src 0 (zi zh)).1.2.1)=Q3:=by
    unfold zP;rw[aD];exact⟨zt hc.1,zt (by have:=hc.1;have:=hc.2;omega)⟩
   have hv:(VE p src).val=Q1 (.inr (agg [str p.1,str p.2.2.2.1.1,str p.2.1,Qb,Qb,str (getD (getD src 0 (zi zh)).1.2.1 (toNat p.t.2) (zi zj)).1,Qb,Qb,str (ze.op p.2.2.2.1.t.2),ai (ze.v p.2.2.2.1.t.2).1,
     ai (ze.v p.2.2.2.1.t.2).2.1,str (ze.v p.2.2.2.1.t.2).2.2,str (ze.s p.2.2.2.1.t.2),sl Q5 (ze.l p.2.2.2.1.t.2),Qb,Qb,str [],ai 0,ai 0,str [],str [],Qb,str p.2.2.1],[])):=by
    show(br _ (Qc _ (br _ (Qc _ (Qc _ (re _ _))) (re _ _))) (Q9 _)).val=_;have e3':Q0 (p.t.2>=0)=Q3:=e3;simp only[Q8,e2,e3',hi,ag,if_true];have e4':Q0 (p.t.2<(↑(length (getD src (toNat 0) (zi zh)).1.2.1):Int))=Q3:=e4;have e5':zP p.t.2 (length (getD src (toNat 0) (zi zh)).1.2.1)=Q3:=e5;rw[if_pos e4',if_pos e5'];rfl
   refine zM hv ?_;rw[<-zl p.2.2.2.1.t.2];rfl
  ·rw[if_neg hc]
   have hv:(VE p src).val=Q1 (.inr (agg [str p.1,str p.2.2.2.1.1,str p.2.1,Qb,Qb,str [],Qb,Qb,str (ze.op p.2.2.2.1.t.2),ai (ze.v p.2.2.2.1.t.2).1,
     ai (ze.v p.2.2.2.1.t.2).2.1,str (ze.v p.2.2.2.1.t.2).2.2,str (ze.s p.2.2.2.1.t.2),sl Q5 (ze.l p.2.2.2.1.t.2),Qb,Qb,str [],ai 0,ai 0,str [],str [],Qb,str p.2.2.1],[])):=by
    have ec:(bif Q0 (p.t.2>=0)then Q0 (p.t.2<(↑(length (getD src (toNat 0) (zi zh)).1.2.1):Int))else Q4)=Q4:=by
     by_cases c1:LE.le (α:=Int) 0 p.t.2
     ·have c2:¬LT.lt (α:=Int) p.t.2 (length (getD src 0 (zi zh)).1.2.1):=λc=>hc ⟨c1,c⟩
      rw[show Q0 (p.t.2>=0)=Q3 from zt c1,ag];exact ah c2
     ·rw[show Q0 (p.t.2>=0)=Q4 from ah c1,ay]
    have ed:(bif Q0 (p.t.2>=0)then zP 0 (length src)else Q3)=Q3:=by rw[hi];cases Q0 (p.t.2>=0)<;>rfl
    show(br _ (Qc _ (br _ (Qc _ (Qc _ (re _ _))) (re _ _))) (Q9 _)).val=_;simp only[Q8,e2,if_true];rw[if_pos ed];simp only[ec,zG,if_false]
   refine zM hv ?_;rw[<-zl p.2.2.2.1.t.2];rfl
 ·have e2:(p.1==[106,111,105,110])=Q4:=by simpa using h2
  have hs:(VE p src).val=Q1 (.inl (s59 p (length p.2.2.2.1.2.1:Int) ((0:Nat):Int) [])):=by
   show(br _ (Qc _ (br _ (Qc _ (Qc _ (re _ _))) (re _ _))) (Q9 _)).val=_;simp only[Q8,e2,zG,if_false];rfl
  have hg:=zR.all (t:=xK) 1 (λi=>s59 p (length p.2.2.2.1.2.1:Int) (i:Int) ((p.2.2.2.1.2.1.take i).map λc:Sem zj=>c.1)) (length p.2.2.2.1.2.1) λi hi=>zR.of (by
   rw[Wo _ hi sg ow];congr 3;rw[bZ hi,iB,aY,zQ hi];rfl)
  simp only[List.take_zero,List.map_nil,jE]at hg;unfold iE;rw[if_neg h2,if_neg h2];generalize hm:(p.2.2.2.1.2.1.map λc:Sem zj=>c.1)=names at hg;have hend:∃r,zV xK 1 (s59 p (length p.2.2.2.1.2.1:Int) (length p.2.2.2.1.2.1:Int) names) r/\aL r.2 [zk] r.1=Q1 ((p.1,p.2.2.2.1.1,p.2.1,names,[],[],[],[],p.2.2.2.1.t.2,[],[],dg,p.2.2.1),()):=by
   cases names with
   | nil=>
    refine⟨_,zV.of (by
     show(xK (.h7 _ _ _ _ _ _ _ _ _ _ _ _ _ _ _ _ _ _ _ _ _ _ _ _ _ _ _ _ _ _ _ _ _ _)).val=_;simp only[xK,Q8,zz,zG,if_false];rfl),?_⟩
    rw[<-zl p.2.2.2.1.t.2];rfl
   | cons a r=>
    refine⟨_,zV.of (by
     show(xK (.h7b _ _ _ _ _ _ _ _ _ _ _ _ _ _ _ _ _ _ _ _ _ _ _ _ _ _ _ _ _ _ _ _ _ _ _)).val=_;simp only[xK,Q8,zz,zG,if_false];rfl),?_⟩
    rw[<-zl p.2.2.2.1.t.2];rfl
  obtain⟨r,r1,r2⟩:=hend;exact zx hs (hg.ends r1) ow r2
structure LU (p:Sem zE) (src:List (Sem zh)):Prop where
 names:src.map (λx:Sem zh=>x.1.1)=bG p.2.1 p.2.2.1
 two:two src=Q3
 plan:aS (fw src) (iE p src)=(0,p)
 few:JT (iE p src)
 short:∀x∈fw src,gz x
 cols:length p.2.2.2.1.2.1<=1000
 same:FY p p=Q3/\IQ p p=Q3
theorem uK{src:List (Sem zh)}(h:two src=Q3):0<src.length/\src.length<=2:=by
 match src,h with
 |[_],_=>simp
 |[_,_],_=>simp
theorem V8{p:Sem zE}{src:List (Sem zh)}(h:LU p src):MQ p src=Q1 (0,()):=by
 obtain⟨l0,l2⟩:=uK h.two;have hlen:(bG p.2.1 p.2.2.1).length=src.length:=by rw[<-h.names,cN]
 have hs:(zgn p src).val=Q1 (.inl (.h6 src (bG p.2.1 p.2.2.1) src (src.length:Int) ((0:Nat):Int) (p,()))):=by
  have e:((src.length:Int)!=((bG p.2.1 p.2.2.1).length:Int))=Q4:=by rw[hlen];simp
  show(br ((src.length:Int)!=((bG p.2.1 p.2.2.1).length:Int)) _ _).val=_;rw[e];rfl
 have hg:=zR.all (t:=Wu) 1 (λi=>.h6 src (bG p.2.1 p.2.2.1) src (src.length:Int) (i:Int) (p,())) src.length λi hi=>zR.of (by
  have hn:(!((getD src i (zi zh)).1.1:zA)==(bG p.2.1 p.2.2.1).getD i (zi Q6))=Q4:=by
   rw[<-h.names,aY,aY,eY,zQ hi];simp
  simp only[Wu,Q8,zH hi,zu hi,zu (show i<(bG p.2.1 p.2.2.1).length by omega),if_true,aJ,hn,zG,if_false];rw[zq i um])
 have hst:=SL (p:=p) l0 h.cols;have c1:KV p src=Q3:=by unfold KV;rw[hst];rfl
 have c2:SK p src=iE p src:=by unfold SK;rw[hst];rfl
 have hp:IP (fw src) (iE p src)=Q1 ((aS (fw src) (iE p src)).2,(aS (fw src) (iE p src)).1,()):=zcj h.short (by rw[Es];omega) h.few;rw[h.plan]at hp;have c3:zci (fw src) (iE p src)=Q3:=by unfold zci;rw[hp];rfl
 have c4:pOf (fw src) (iE p src)=(p,0):=by unfold pOf;rw[hp];rfl
 refine zx hs (hg.ends (k:=1) (r:=(.int .i64 0,[])) (zV.of ?_)) ow rfl;simp only[Wu,Q8,zz,zl,Prod.eta,c1,c2,c3,c4,h.two,h.same.1,h.same.2,zG,if_false];simp[l0,show src.length<=1000 by omega]
theorem MR{p:Sem zE}{src:List (Sem zh)}(h:LU p src):MP p src=Q3/\V7 p src=0:=by
 have:=V8 h;exact⟨by unfold MP;rw[this];rfl,by unfold V7;rw[this];rfl⟩
def s50(db:List (Sem zh))(ns:List zA)(j:Int)(i:Int)(x:Sem zh):List (Sem zh)->List (Sem zr)->lB
 |[],[]=>.h12 db ns j i (x,())
 |[],b::r=>.h12b db ns j i (x,()) (b::r)
 |a::l,[]=>.h12bb db ns j i (x,()) (a::l)
 |a::l,b::r=>.h12bbb db ns j i (x,()) (a::l) (b::r)
def Li(db:List (Sem zh))(ns:List zA)(j:Int):List (Sem zh)->lB
 |[]=>.h4 db ns j
 |a::l=>.h4b db ns j (a::l)
theorem Wn{db:List (Sem zh)}{ns:List zA}{j:Int}{x:Sem zh}{acc:List (Sem zh)}{b:List (Sem zr)}{i:Nat}(hi:i<length x.1.t.1)(hn:ns.length<=1000)(hb:b.length<=1000)(hib:i<=1000):
  (fU (s50 db ns j (i:Int) x acc b)).val=Q1 (.inl (s50 db ns j ((i+1:Nat):Int) x acc (if az ns (getD x.1.t.1 i (zi zr)).2=Q3 then b++[getD x.1.t.1 i (zi zr)]else b))):=by
 obtain⟨r1,r2⟩:=Gz (l:=ns) (s:=(getD x.1.t.1 i (zi zr)).2) ow;cases acc with
 | nil=>
  cases b with
  | nil=>
   show(fU (.h12 _ _ _ _ _)).val=_;simp only[fU,Q8,zH hi,zu hi,if_true,aJ,r1,r2];rw[zq i um];split
   ·rw[if_pos sw];rfl
   ·rfl
  | cons c r=>
   show(fU (.h12b _ _ _ _ _ _)).val=_;simp only[fU,Q8,zH hi,zu hi,if_true,aJ,r1,r2];rw[zq i um];split
   ·rw[if_pos (by simp at hb⊢;omega)];rfl
   ·rfl
 | cons a l=>
  cases b with
  | nil=>
   show(fU (.h12bb _ _ _ _ _ _)).val=_;simp only[fU,Q8,zH hi,zu hi,if_true,aJ,r1,r2];rw[zq i um];split
   ·rw[if_pos sw];rfl
   ·rfl
  | cons c r=>
   show(fU (.h12bbb _ _ _ _ _ _ _)).val=_;simp only[fU,Q8,zH hi,zu hi,if_true,aJ,r1,r2];rw[zq i um];split
   ·rw[if_pos (by simp at hb⊢;omega)];rfl
   ·rfl
theorem Wm{db:List (Sem zh)}{ns:List zA}{j:Nat}{x:Sem zh}{acc:List (Sem zh)}{b:List (Sem zr)}(hj:j<=1000)(ha:acc.length<=1000):
  (fU (s50 db ns (j:Int) (length x.1.t.1:Int) x acc b)).val=Q1 (.inl (Li db ns ((j+1:Nat):Int) (acc++[((x.1.1,x.1.2.1,x.1.2.2.1,x.1.2.2.2.1,b,x.1.t.2),x.2)]))):=by
 cases acc with
 | nil=>
  cases b with
  | nil=>
   show(fU (.h12 _ _ _ _ _)).val=_;simp only[fU,Q8,zz,zG,if_false,zl];rw[zq j um,if_pos sw];rfl
  | cons c r=>
   show(fU (.h12b _ _ _ _ _ _)).val=_;simp only[fU,Q8,zz,zG,if_false,zl];rw[zq j um,if_pos sw];rfl
 | cons a l=>
  cases b with
  | nil=>
   show(fU (.h12bb _ _ _ _ _ _)).val=_;simp only[fU,Q8,zz,zG,if_false,zl];rw[zq j um,if_pos (by simp at ha⊢;omega)];rfl
  | cons c r=>
   show(fU (.h12bbb _ _ _ _ _ _ _)).val=_;simp only[fU,Q8,zz,zG,if_false,zl];rw[zq j um,if_pos (by simp at ha⊢;omega)];rfl
theorem zcq{db:List (Sem zh)}{ns:List zA}{j:Nat}{x:Sem zh}{acc:List (Sem zh)}(hn:ns.length<=1000)(hj:j<=1000)(ha:acc.length<=1000)(hr:length x.1.t.1<=1000):
  zR fU 1002 (s50 db ns (j:Int) ((0:Nat):Int) x acc []) (Li db ns ((j+1:Nat):Int) (acc++[kh (az ns) x])):=by
 have hg:=zR.all (t:=fU) 1 (λi=>s50 db ns (j:Int) (i:Int) x acc ((x.1.t.1.take i).filter λf:Sem zr=>az ns f.2)) (length x.1.t.1) λi hi=>zR.of (by
  rw[Wn hi hn (cL (List.length_filter_le _ _) sg) ow];congr 3;rw[bZ hi,List.filter_append,aY,zQ hi];cases h:az ns (x.1.t.1[i]:Sem zr).2<;>simp[h])
 simp only[List.take_zero,List.filter_nil,jE]at hg;refine(hg.trans (zR.of (Wm hj ha))).mono ow
theorem SZ{db:List (Sem zh)}{p:Sem zE}(hs:∀x∈db,gz x)(hf:∀n∈bG p.2.1 p.2.2.1,LE.le (α:=Int) 0 (zS db n)):Bz p db=Q1 (bK db p,Q3,()):=by
 have hi:(zbu p db).val=Q1 (.inl (Li db (bG p.2.1 p.2.2.1) ((0:Nat):Int) [])):=by
  simp only[zbu,zl,Prod.eta,Q8,rp,tP,if_true];rfl
 have hl:(bG p.2.1 p.2.2.1).length<=2:=by unfold bG;split<;>simp
 unfold bK;generalize bG p.2.1 p.2.2.1=ns at hi hl hf⊢;have hg:=zR.all (t:=fU) 1003 (λj=>Li db ns (j:Int) ((ns.take j).map λn=>kh (az ns) (aA db n))) ns.length λj hj=>by
  have hfj:=hf ns[j] (bC hj);have hne:Q0 (zS db ns[j]<0)=Q4:=by simpa using hfj
  have hin:=dq hfj;have hx:=hs _ (l5 hfj);have h1:zR fU 1 (Li db ns (j:Int) ((ns.take j).map λn=>kh (az ns) (aA db n))) (s50 db ns (j:Int) ((0:Nat):Int) (aA db ns[j]) ((ns.take j).map λn=>kh (az ns) (aA db n)) []):=zR.of (by
   generalize((ns.take j).map λn=>kh (az ns) (aA db n))=acc;cases acc with
   | nil=>
    show(fU (.h4 _ _ _)).val=_;simp only[fU,Q8,zH hj,zu hj,if_true,ac _ _ hj,dj,hne,hin,zG,if_false];rfl
   | cons a l=>
    show(fU (.h4b _ _ _ _)).val=_;simp only[fU,Q8,zH hj,zu hj,if_true,ac _ _ hj,dj,hne,hin,zG,if_false];rfl)
  have h2:=(h1.trans (zcq (x:=aA db ns[j]) ow ow sg hx.rf)).mono (b:=1003) ow;show zR fU 1003 _ (Li db ns ((j+1:Nat):Int) ((ns.take (j+1)).map λn=>kh (az ns) (aA db n)));rw[bZ hj,iB];exact h2
 simp only[List.take_zero,List.map_nil,jE]at hg;generalize hm:(ns.map λn=>kh (az ns) (aA db n))=acc at hg;have hend:∃r,zV fU 1 (Li db ns (ns.length:Int) acc) r/\aL r.2 [zh.sl,Sh.bool] r.1=Q1 (acc,Q3,()):=by
  cases acc with
  | nil=>
   refine⟨_,zV.of (by
    show(fU (.h4 _ _ _)).val=_;simp only[fU,Q8,zz,zG,if_false];rfl),rfl⟩
  | cons a l=>
   refine⟨_,zV.of (by
    show(fU (.h4b _ _ _ _)).val=_;simp only[fU,Q8,zz,zG,if_false];rfl),rfl⟩
 obtain⟨r,r1,r2⟩:=hend;exact zx hi (hg.ends r1) ow r2
def O2(a b:Sem zf):Bool:=a.1==b.1&&(a.2.1==b.2.1&&(a.2.2==b.2.2&&Q3))
theorem Hc{a b:Sem zf}:O2 a b=Q3↔a=b:=by
 obtain⟨a1,a2,a3⟩:=a;obtain⟨b1,b2,b3⟩:=b;unfold O2;simp
def KC(at':Int)(v:Sem zf)(row:List (Sem zf)):Bool:=bif O2 (getD row at'.toNat (zi zf)) v then v.1!=0 else Q4
theorem Mq{at':Int}{v:Sem zf}{row:List (Sem zf)}:KC at' v row=Q3↔getD row at'.toNat (zi zf)=v/\v.1≠0:=by
 unfold KC;rw[<-Hc];cases O2 (getD row at'.toNat (zi zf)) v<;>simp
def us(at':Int)(l:List (List (Sem zf)))(n:Int)(i:Int)(v:Sem zf):List (List (Sem zf))->CU
 |[]=>.h6 at' l n i (v,())
 |a::r=>.h6b at' l n i (v,()) (a::r)
theorem Wl{at':Int}{l:List (List (Sem zf))}{v:Sem zf}{acc:List (List (Sem zf))}{i:Nat}(hi:i<l.length)(hl:l.length<=1000)(ha:acc.length<=1000)(hin:zP at' (length l[i])=Q3)(hr:length l[i]<=1000):
  (xJ (us at' l (l.length:Int) (i:Int) v acc)).val=Q1 (.inl (us at' l (l.length:Int) ((i+1:Nat):Int) v (if KC at' v l[i]=Q3 then acc++[l[i]]else acc))):=by
 cases acc with
 | nil=>
  show(xJ (.h6 _ _ _ _ _)).val=_;simp only[xJ,Q8,zH hi,zu hi,if_true,ac _ _ hi,hin];rw[zq i um];show(if KC at' v l[i]=Q3 then _ else _)=_;split
  ·rw[if_pos (by simpa using(by omega:length l[i]<=1073741824)),if_pos sw];rfl
  ·rfl
 | cons c r=>
  show(xJ (.h6b _ _ _ _ _ _)).val=_;simp only[xJ,Q8,zH hi,zu hi,if_true,ac _ _ hi,hin];rw[zq i um];show(if KC at' v l[i]=Q3 then _ else _)=_;split
  ·rw[if_pos (by simpa using(by omega:length l[i]<=1073741824)),if_pos (by simp at ha⊢;omega)];rfl
  ·rfl
theorem TD{p:Sem zE}{src:List (Sem zh)}(v:Sem zf)(h:LU p src)(hc:ly p src=Q3)(hl:length (getD src 0 (zi zh)).2<=1000)(hr:∀row∈(getD src 0 (zi zh)).2,zP (dz p src) (length row)=Q3/\length row<=1000):
  CJ p src v=Q1 ((getD src 0 (zi zh)).2.filter (KC (dz p src) v),0,()):=by
 obtain⟨c1,c2⟩:=MR h;have l0:=(uK h.two).1;have hi:(zbm p src v).val=Q1 (.inl (us (dz p src) (getD src 0 (zi zh)).2 (length (getD src 0 (zi zh)).2:Int) ((0:Nat):Int) v [])):=by
  simp only[zbm,zl,Prod.eta,Q8,c1,c2,hc,show zP 0 src.length=Q3 from zu (i:=0) l0,oq,zG,if_true,if_false];rfl
 generalize(getD src 0 (zi zh)).2=l at hi hl hr⊢;generalize dz p src=at' at hi hr⊢;have hg:=zR.all (t:=xJ) 1 (λi=>us at' l (l.length:Int) (i:Int) v ((l.take i).filter (KC at' v))) l.length λi hi=>zR.of (by
  have hx:=hr l[i] (bC hi);rw[Wl hi hl (cL (List.length_filter_le _ _) sg) hx.1 hx.2];congr 3;rw[bZ hi,List.filter_append];cases h:KC at' v l[i]<;>simp[h])
 simp only[List.take_zero,List.filter_nil,jE]at hg;generalize l.filter (KC at' v)=acc at hg⊢;have hend:∃r,zV xJ 1 (us at' l (l.length:Int) (l.length:Int) v acc) r/\aL r.2 [zf.sl.sl,zg] r.1=Q1 (acc,0,()):=by
  cases acc with
  | nil=>
   refine⟨_,zV.of (by
    show(xJ (.h6 _ _ _ _ _)).val=_;simp only[xJ,Q8,zz,zG,if_false];rfl),rfl⟩
  | cons a r=>
   refine⟨_,zV.of (by
    show(xJ (.h6b _ _ _ _ _ _)).val=_;simp only[xJ,Q8,zz,zG,if_false];rfl),rfl⟩
 obtain⟨r,r1,r2⟩:=hend;exact zx hi (hg.ends r1) ow r2
def sj(u:Sem zf):List (Sem zf)->List (Sem zf)
 |[]=>[u]
 |o::r=>if LT.lt (α:=Int) (cJ o u) 0 then o::sj u r else if(o==u)=Q3 then o::r else u::o::r
def nR(l:List (Sem zf)):List (Sem zf):=l.foldl (λacc u=>if((u:Sem zf).1==0)=Q3 then acc else sj u acc) []
theorem mB{a b:Sem zf}(ha:bd a=Q3)(hb:bd b=Q3)(h:¬xL a b):a=b\/xL b a:=by
 have ka:ap a=a:=by unfold ap;rw[ha];rfl
 have kb:ap b=b:=by unfold ap;rw[hb];rfl
 rw[uO,ka,kb]at h⊢;obtain⟨k,n,s⟩:=a;obtain⟨k',n',s'⟩:=b;unfold Lx at h⊢;simp only at h⊢;have h1:¬k<k':=λe=>h (.inl e)
 rcases Int.lt_or_eq_of_le (Int.not_lt.1 h1)with e|e
 ·exact .inr (.inl e)
 have h2:¬n<n':=λg=>h (.inr ⟨e.symm,.inl g⟩)
 rcases Int.lt_or_eq_of_le (Int.not_lt.1 h2)with g|g
 ·exact .inr (.inr ⟨e,.inl g⟩)
 by_cases hs:s=s'
 ·exact .inl (by rw[e,g,hs])
 ·refine .inr (.inr ⟨e,.inr ⟨g,jv ?_ hs⟩⟩);cases hx:Op.bytesLess s s'
  ·rfl
  ·exact absurd (.inr ⟨e.symm,.inr ⟨g.symm,hx⟩⟩) h
theorem tI{u:Sem zf}:∀{l:List (Sem zf)}{x:Sem zf},x∈sj u l↔x=u\/x∈l
 |[],x=>by simp[sj]
 | o::r,x=>by
  unfold sj;split
  ·rw[ce,tI,ce];exact⟨λh=>by rcases h with h|h|h<;>simp[h],λh=>by rcases h with h|h|h<;>simp[h]⟩
  ·split
   ·rename_i h;have h:=bA h;subst h;simp
   ·simp
theorem EW{u:Sem zf}(hu:bd u=Q3):∀{l:List (Sem zf)},(∀x∈l,bd x=Q3)->l.Pairwise xL->(sj u l).Pairwise xL
 |[],_,_=>by simp[sj]
 | o :: r,hl,h=>by
  obtain⟨h1,h2⟩:=List.pairwise_cons.1 h;unfold sj;split
  ·rename_i hlt;refine List.pairwise_cons.2 ⟨λx hx=>?_,EW hu (λx hx=>hl x (by simp[hx])) h2⟩;rcases tI.1 hx with rfl|hx
   ·exact hlt
   ·exact h1 x hx
  ·rename_i hn;split
   ·exact h
   ·rename_i hne;have ho:xL u o:=by
     rcases mB (hl o sw) hu hn with e|e
     ·exact absurd (by rw[e];simp) hne
     ·exact e
    refine List.pairwise_cons.2 ⟨λx hx=>?_,h⟩;rcases ce.1 hx with rfl|hx
    ·exact ho
    ·exact gT ho (h1 x hx)
theorem vQ:∀(l acc:List (Sem zf)),(∀x∈l,bd x=Q3)->(∀x∈acc,bd x=Q3)->acc.Pairwise xL->
  (l.foldl (λacc u=>if((u:Sem zf).1==0)=Q3 then acc else sj u acc) acc).Pairwise xL/\∀x,x∈l.foldl (λacc u=>if((u:Sem zf).1==0)=Q3 then acc else sj u acc) acc↔x∈acc\/(x∈l/\x.1≠0)
 |[],acc,_,_,h=>⟨h,λx=>by simp⟩
 | u::r,acc,hl,ha,h=>by
  rw[List.foldl_cons];by_cases hu:(u.1==0)=Q3
  ·rw[if_pos hu];obtain⟨h1,h2⟩:=vQ r acc (λx hx=>hl x (by simp[hx])) ha h;refine⟨h1,λx=>(h2 x).trans ⟨λh=>h.imp id λh=>⟨by simp[h.1],h.2⟩,λh=>h.imp id λh=>⟨?_,h.2⟩⟩⟩;rcases ce.1 h.1 with rfl|h'
   ·exact absurd (bA hu) h.2
   ·exact h'
  ·rw[if_neg hu];have hm:=hl u sw;obtain⟨h1,h2⟩:=vQ r (sj u acc) (λx hx=>hl x (by simp[hx])) (λx hx=>by
    rcases tI.1 hx with rfl|hx
    ·exact hm
    ·exact ha x hx) (EW hm ha h)
   refine⟨h1,λx=>(h2 x).trans ?_⟩;rw[tI,ce];refine⟨λh=>?_,λh=>?_⟩
   ·rcases h with(rfl|h)|h
    ·exact .inr ⟨.inl rfl,λe=>hu (by rw[e];rfl)⟩
    ·exact .inl h
    ·exact .inr ⟨.inr h.1,h.2⟩
   ·rcases h with h|⟨rfl|h,h'⟩
    ·exact .inl (.inr h)
    ·exact .inl (.inl rfl)
    ·exact .inr ⟨h,h'⟩
theorem sP{l:List (Sem zf)}(h:∀x∈l,bd x=Q3):(nR l).Pairwise xL/\∀x,x∈nR l↔x∈l/\x.1≠0:=by
 obtain⟨h1,h2⟩:=vQ l [] h sw sw;exact⟨h1,λx=>(h2 x).trans sw⟩
theorem GG:∀{l m:List (Sem zf)},l.Pairwise xL->m.Pairwise xL->(∀x,x∈l↔x∈m)->l=m
 |[],[],_,_,_=>rfl
 |[],b::m,_,_,h=>by have:=(h b).2 sw;simp at this
 |a::l,[],_,_,h=>by have:=(h a).1 sw;simp at this
 | a::l,b::m,h1,h2,h=>by
  obtain⟨a1,a2⟩:=List.pairwise_cons.1 h1;obtain⟨b1,b2⟩:=List.pairwise_cons.1 h2;have e:a=b:=by
   rcases ce.1 ((h a).1 sw)with e|e
   ·exact e
   ·rcases ce.1 ((h b).2 sw)with g|g
    ·exact g.symm
    ·exact absurd (gT (a1 _ g) (b1 _ e)) iV
  subst e;rw[GG a2 b2 λx=>⟨λhx=>?_,λhx=>?_⟩]
  ·rcases ce.1 ((h x).1 (by simp[hx]))with rfl|hx'
   ·exact absurd (a1 _ hx) iV
   ·exact hx'
  ·rcases ce.1 ((h x).2 (by simp[hx]))with rfl|hx'
   ·exact absurd (b1 _ hx) iV
   ·exact hx'
theorem Iq(u:Sem zf):∀l:List (Sem zf),(sj u l).length<=l.length+1
 |[]=>by simp[sj]
 | o::r=>by
  unfold sj;split
  ·have:=Iq u r;simp only[fi];omega
  ·split<;>simp
theorem Ii:∀(l acc:List (Sem zf)),(l.foldl (λacc u=>if((u:Sem zf).1==0)=Q3 then acc else sj u acc) acc).length<=acc.length+l.length
 |[],acc=>by simp
 | u::r,acc=>by
  rw[List.foldl_cons];refine cL (Ii r _) ?_;split
  ·simp
  ·have:=Iq u acc;simp only[fi];omega
theorem HB(l:List (Sem zf)):(nR l).length<=l.length:=by
 have:=Ii l [];simpa[nR]using this
theorem Ez{α:Type}[DecidableEq α]:∀{l m:List α},l.Nodup->(∀x∈l,x∈m)->l.length<=m.length
 |[],m,_,_=>by simp
 | a::r,m,hn,h=>by
  rw[List.nodup_cons]at hn;have ha:=h a sJ;have h1:=Ez (l:=r) (m:=m.erase a) hn.2 λx hx=>(List.mem_erase_of_ne (λe:x=a=>hn.1 (e▸hx))).2 (h x (sI _ hx))
  have h2:=List.length_erase_of_mem ha;have h3:=List.length_pos_of_mem ha;rw[fi];omega
theorem NJ{l:List (Sem zf)}(hm:∀x∈l,bd x=Q3)(hn:l.Nodup)(h0:∀x∈l,x.1≠0):(nR l).length=l.length:=by
 obtain⟨_,h2⟩:=sP hm;have:=Ez (α:=Int×Int×zA) hn λx hx=>(h2 x).2 ⟨hx,h0 x hx⟩
 have:=HB l;omega
def Fb(p:Sem zE):Prop:=p.2.2.2.1.2.1.length<=1000/\p.2.2.2.1.2.2.2.1.length<=1000000/\p.2.2.2.1.t.1.length<=1000000/\qM 16 p.2.2.2.1.t.2=Q3/\p.t.1.length<=1000000
theorem mv:Fb jn:=⟨ba _,ba _,ba _,rfl,ba _⟩
theorem rZ{e:Int}{p:Sem zE}(h:e=0->Fb p):Fb (ji e p).2:=by
 unfold ji;split
 ·split
  ·exact h (by assumption)
  ·exact mv
 ·exact mv
theorem KX(db:List (Sem zh)){s:Sem zk}(hf:JT s):Fb (aS db s).2:=by
 have hn:=hf.sh.names.1;unfold aS;split;rotate_left
 ·exact mv
 split;rotate_left
 ·exact mv
 unfold da;split
 ·refine rZ λ_=>⟨?_,ba _,ba _,hf.cp,?_⟩
  ·show(fY _ _).length<=_;unfold fY;rw[cN];omega
  ·show(ky _ _).length<=_;unfold ky;rw[cN];omega
 split
 ·refine rZ λh=>?_
  have h9:(au db s.2.2.1).2.1.length+(fP db s.t.t.t).2.1.length<=9:=by
   unfold gO at h;split at h
   ·cases h
   split at h;rotate_left
   ·cases h
   split at h
   ·cases h
   ·omega
  have ho:=oU (fP db s.t.t.t).2.2.1 (length (fP db s.t.t.t).2.1);refine⟨?_,ba _,ba _,hf.cp,?_⟩
  ·show(_++gg _ _).length<=_;unfold gg;rw[jD,cN];omega
  ·show(jN _ _).length<=_;unfold jN;rw[cN];omega
 split
 ·refine rZ λ_=>⟨?_,ba _,ba _,hf.cp,?_⟩
  ·show(C7 _ _).length<=_;unfold C7;simp
  ·show(ky _ _).length<=_;unfold ky;rw[cN];omega
 ·exact mv
noncomputable def xe(db:List (Sem zh))(p:Sem zE):Sem zh:=getD (bK db p) 0 (zi zh)
structure de (db:List (Sem zh)) (p:Sem zE):Prop where
 go:LU p (bK db p)
 rel:eJ (xe db p)
 plc:uN p (bK db p)=Q1 (nX p (bK db p),())
 inn:∀row∈(xe db p).2,zP (nX p (bK db p)) (length row)=Q3/\length row=length (xe db p).1.2.1
 fnd:∀n∈bG p.2.1 p.2.2.1,LE.le (α:=Int) 0 (zS db n)
 mig:jk p.1
 col:LE.le (α:=Int) 0 (nX p (bK db p))/\LT.lt (α:=Int) (nX p (bK db p)) (length (xe db p).1.2.1)
theorem SQ{db:List (Sem zh)}{s:Sem zk}(hdb:∀x∈db,gz x)(hp:(aS db s).1=0)(hf:JT s):de db (aS db s).2:=by
  obtain⟨hm,hmay,hb,hfd,hne,hask⟩:=MU hp;obtain⟨c1,c2,_,c4,c5,c6⟩:=OV hdb hp hf.sh;have hB:=(jR hdb).1 hb;obtain⟨b1,b2,b3,b4,b5⟩:=KX db hf;have hparts:=lw hmay;have hp0:(da db s).1=0:=by rw[<-hask];exact hp
  obtain⟨f1,f2,f3⟩:=HD hp0;rw[hask]at c1 c2 c4 c5 c6 b1 b2 b3 b4 b5⊢;have hfd':∀n∈bG (da db s).2.2.1 (da db s).2.2.2.1,LE.le (α:=Int) 0 (zS db n):=by rw[f2,f3];exact hfd
  have hfr:LE.le (α:=Int) 0 (zS db s.2.2.1):=hfd _ (by unfold bG;split<;>simp);have hx:xe db (da db s).2=kh (az (bG s.2.2.1 (dH s))) (aA db s.2.2.1):=by
    unfold xe bK;rw[f2,f3];have:∃r,bG s.2.2.1 (dH s)=s.2.2.1::r:=by unfold bG;split<;>exact⟨_,rfl⟩
    obtain⟨r,e⟩:=this;rw[e];rfl
  have hxr:eJ (xe db (da db s).2):=by rw[hx];exact(hB.rels _ (np hfr).1).cut
  have hcols:(xe db (da db s).2).1.2.1=(au db s.2.2.1).2.1:=by rw[hx];rfl
  obtain⟨m1,m2⟩:=SJ (b:=(da db s).2) (by omega) b2 b3 b4 b5;have hlen:∀row∈(xe db (da db s).2).2,length row=length (xe db (da db s).2).1.2.1:=λrow hr=>(gD (hxr.fits row hr)).1
  have hplc:(LE.le (α:=Int) 0 (nX (da db s).2 (bK db (da db s).2))/\LT.lt (α:=Int) (nX (da db s).2 (bK db (da db s).2)) (length (xe db (da db s).2).1.2.1))/\((da db s).2.1≠[99,111,112,121]->(da db s).2.1≠[106,111,105,110]->0<length (da db s).2.2.2.2.2.1):=by
    unfold nX;rw[f1];rcases hm with ho|ho|ho
    · rw[if_pos ho]
      refine⟨?_,λh=>absurd ho h⟩;obtain⟨k1,_⟩:=gP hxr.may;exact k1
    · have n1:s.1≠[99,111,112,121]:=by rw[ho];decide
      rw[if_neg n1,if_pos ho];refine⟨?_,λ_ h=>absurd ho h⟩
      have e:(da db s)=ji (gO (au db s.2.2.1) (fP db s.2.2.2.2.2.2.2.2.2.2.2.2) s.2.2.2.2.2.1 s.2.2.2.2.2.2.2.2.2.2.2.2)
          (s.1,s.2.2.1,s.2.2.2.2.2.2.2.2.2.2.2.2,(s.2.1,(au db s.2.2.1).2.1++gg (fP db s.2.2.2.2.2.2.2.2.2.2.2.2) (length (fP db s.2.2.2.2.2.2.2.2.2.2.2.2).2.1),(au db s.2.2.1).2.2.1,[],[],s.2.2.2.2.2.2.2.2.1),
            jN (fP db s.2.2.2.2.2.2.2.2.2.2.2.2).2.2.1 (length (fP db s.2.2.2.2.2.2.2.2.2.2.2.2).2.1),zN (au db s.2.2.1) s.2.2.2.2.2.1):=by
        unfold da;rw[if_neg (by simpa using n1),if_pos (by simp[ho])]
      have e0:=hp0;rw[e]at e0;obtain⟨g1,g2⟩:=lg e0;have hpos:¬LT.lt (α:=Int) (zN (au db s.2.2.1) s.2.2.2.2.2.1) 0:=by
        intro hlt;unfold gO at g1;rw[if_pos hlt]at g1;cases g1
      have hon:(da db s).2.2.2.2.2.2=zN (au db s.2.2.1) s.2.2.2.2.2.1:=by rw[e,g2]
      rw[hon,hcols];exact⟨by omega,(iO hpos).2⟩
    · have n1:s.1≠[99,111,112,121]:=by rw[ho];decide
      have n2:s.1≠[106,111,105,110]:=by rw[ho];decide
      rw[if_neg n1,if_neg n2];have e:(da db s)=ji (r8 (au db s.2.2.1) s.2.2.2.1) (s.1,s.2.2.1,s.2.2.2.2.2.2.2.2.2.2.2.2,(s.2.1,C7 (au db s.2.2.1) s.2.2.2.1,0,[],[],s.2.2.2.2.2.2.2.2.1),ky (au db s.2.2.1) s.2.2.2.1,0):=by
        unfold da;rw[if_neg (by simpa using n1),if_neg (by simpa using n2),if_pos (by simp[ho])]
      have e0:=hp0;rw[e]at e0;obtain⟨g1,g2⟩:=lg e0;have hpl:fT (au db s.2.2.1) s.2.2.2.1=0:=by
        unfold r8 at g1;split at g1
        · assumption
        · exact g1
      have hpos:=Bv hpl;have hix:(da db s).2.2.2.2.2.1=ky (au db s.2.2.1) s.2.2.2.1:=by rw[e,g2]
      have h2:=lh hparts ho;rw[hix,hcols]
      match hnm:s.2.2.2.1,h2 with
      | [a,b],_=>
        rw[hnm]at hpos;have ha:=hpos a (by simp)
        exact ⟨⟨by have:¬ LT.lt (α:=Int) (zN (au db s.2.2.1) a) 0:=ha
                   show LE.le (α:=Int) 0 (zN (au db s.2.2.1) a);omega,(iO ha).2⟩,λ_ _=>by simp[ky]⟩
  have two0:=uK c6;refine⟨⟨c2,c6,by rw[c1],by rw[c4];exact hf,c5,b1,m1,m2.2 rfl⟩,hxr,O3 two0.1 hplc.2,λrow hr=>⟨?_,hlen row hr⟩,hfd',by rw[f1];exact hm,hplc.1⟩;rw[hlen row hr];unfold zP;rw[aD];have h1:=hplc.1.1;have h2:=hplc.1.2;exact⟨zt h1,zt (by omega)⟩
end Cad
namespace Go.Proofs
open Cad (aB zG)
open Go.Shelf Go.RowKit Go.Lib Go.Sort
open Bool renaming false→Q4
open Bool renaming true→Q3
open Option renaming none→Q2
open Option renaming some→Q1
open Decidable renaming decide→Q0
open Int (toNat)
open List (getD)
open List (length)
theorem gd_of{w w':World}(h:Below w.heap.size w w')(hd:w.drawn<=w'.drawn):∃q os',w'=grow (w.drewN q) os':=by
 refine⟨w'.drawn-w.drawn,w'.heap.extract w.heap.size w'.heap.size,?_⟩;have hh:w'.heap=w.heap++w'.heap.extract w.heap.size w'.heap.size:=by
  apply Array.ext_getElem?;intro i;by_cases hi:i<w.heap.size
  ·rw[Array.getElem?_append_left hi,h.block i hi]
  ·rw[Array.getElem?_append_right (by omega)];have hs:=h.size;by_cases hi2:i<w'.heap.size
   ·rw[Array.getElem?_extract,if_pos (by omega)];congr 1;omega
   ·rw[Array.getElem?_eq_none (by omega),Array.getElem?_eq_none (by simp;omega)]
 obtain⟨heap,tape,drawn,os,output⟩:=w;obtain⟨heap',tape',drawn',os',output'⟩:=w';have h1:=h.os;have h2:=h.tape;have h3:=h.output;simp only at h1 h2 h3 hd hh;subst h1 h2 h3;unfold grow World.drewN;simp only[World.mk.injEq,true_and,and_true];exact⟨hh,by omega⟩
set_option maxHeartbeats 1000000 in
theorem Tryz.odd63(r:Nat)(W:World):Calls Tryz.prog 63 #[.int .i32 (r:Int)] W λe w'=>e=.returned (.bool (Q0 ((r:Int)<32)||Q0 ((r:Int)>126)))/\w'=W:=by
 go_enter Tryz.func63,Tryz.ntmps63
 go_wp2
 ·go_ret
  exact⟨by simp,rfl⟩
 ·rename_i h
  go_ret
  exact⟨by simp,rfl⟩
set_option maxHeartbeats 4000000 in
set_option maxRecDepth 1000000 in
theorem Tryz.indexFunc112(p:Nat->Bool)(s:ByteArray)(w:World)(hp:∀(W:World)(x:Nat),Calls Tryz.prog 63 #[.int .i32 (x:Int)] W λe w'=>e=.returned (.bool (p x))/\w'=W):
  Calls Tryz.prog 112 #[.string s,.func (.func 63) #[] #[],.bool Q3] w λe w'=>e=.returned (.int .i64 (Lib.idxFunc p Q3 s))/\Below w.heap.size w w'/\w.drawn<=w'.drawn:=by
 go_enter Tryz.func112,Tryz.ntmps112
 go_wp2
 go_loopg [] s.size (λgf wx=>∃pos:Nat,wx.heap[w.heap.size]?=Q1 (.stringIter s pos)/\(Below w.heap.size w wx/\w.drawn<=wx.drawn)/\Lib.idxFuncFrom p Q3 s gf pos=Lib.idxFunc p Q3 s/\s.size<=pos+gf)
 case atStart=>exact⟨0,World.iter_heap w s 0,⟨(Below.refl _ w).alloc (aB _) _,aB _⟩,rfl,by omega⟩
 case round=>
  obtain⟨pos,hit,⟨hbw,hdr⟩,hleft,hfu⟩:=hrel;by_cases hps:pos<s.size
  ·obtain⟨g',rfl⟩:∃g',gk=g'+1:=⟨gk-1,by omega⟩;have hnx:∀ty,(Instr.next (.pointer (Q1 ⟨w.heap.size,0,Q2⟩)) Q3 ty).run Tryz.prog wr=_:=λty=>Lib.run_next_any_at wr w.heap.size s pos ty hit hps
   have hwd:=Lib.width_pos s pos;obtain⟨R,hR⟩:∃R,(Utf8.decode s pos).1=R:=⟨_,rfl⟩;obtain⟨K,hK⟩:∃K,(Utf8.decode s pos).2=K:=⟨_,rfl⟩;simp only[Lib.idxFuncFrom,hps,if_true,hR,hK]at hleft;rw[hR,hK]at hnx;rw[hK]at hwd;have hit2:=Lib.iterAt_heap wr w.heap.size s pos (pos+K) hit;have hbw2:=Lib.below_iterAt hbw (k:=w.heap.size) (aB _) s (pos+K);have hdr2:w.drawn<=(wr.iterAt w.heap.size s (pos+K)).drawn:=hdr;obtain⟨W,hWd⟩:∃W,wr.iterAt w.heap.size s (pos+K)=W:=⟨_,rfl⟩;rw[hWd]at hnx hit2 hbw2 hdr2;have cS:=hp W R;clear hp;cases hsp:p R<;>rw[hsp]at cS<;>simp only[hsp,if_true,zG,if_false]at hleft
   ·go_wp2_with (go_at_call 63;refine cS.mono ?_;rintro e W' ⟨rfl,rfl⟩)
    go_roundg g'
    case measure=>omega
    case rel=>exact⟨pos+K,hit2,⟨hbw2,hdr2⟩,hleft,by omega⟩
   ·go_wp2_with (go_at_call 63;refine cS.mono ?_;rintro e W' ⟨rfl,rfl⟩)
    go_ret
    exact⟨by rw[<-hleft]<;>rfl,hbw2,hdr2⟩
  ·have hnx:∀ty,(Instr.next (.pointer (Q1 ⟨w.heap.size,0,Q2⟩)) Q3 ty).run Tryz.prog wr=_:=λty=>Lib.run_next_end_at wr w.heap.size s pos ty hit hps
   rw[Lib.idxFuncFrom_end p Q3 s gk pos hps]at hleft
   go_wp2
   go_ret
   exact⟨by rw[<-hleft]<;>rfl,hbw,hdr⟩
theorem Tryz.indexFunc64(p:Nat->Bool)(s:ByteArray)(w:World)(hp:∀(W:World)(x:Nat),Calls Tryz.prog 63 #[.int .i32 (x:Int)] W λe w'=>e=.returned (.bool (p x))/\w'=W):
  Calls Tryz.prog 64 #[.string s,.func (.func 63) #[] #[]] w λe w'=>e=.returned (.int .i64 (Lib.idxFunc p Q3 s))/\Below w.heap.size w w'/\w.drawn<=w'.drawn:=by
 have h:=λW'=>Tryz.indexFunc112 p s W' hp
 go_enter Tryz.func64,Tryz.ntmps64
 go_wp2_with (go_at_call 112;refine(h _).mono ?_;rintro e w' ⟨rfl,h1,h2⟩)
 go_ret
 exact⟨rfl,h1,h2⟩
end Go.Proofs
namespace Cad
open Go Go.Proofs Go.Sort
open Tr renaming chk→Qc
open AV renaming nils→Qb
open AO renaming box→Qa
open Tr renaming «to»→Q9
open Tr renaming val→Q8
open Sh renaming str→Q6
open Sh renaming expr→Q5
open Bool renaming false→Q4
open Bool renaming true→Q3
open Option renaming none→Q2
open Option renaming some→Q1
open Decidable renaming decide→Q0
open Int (toNat)
open List (getD)
open List (length)
set_option maxHeartbeats 4000000
open Tr (chk br)
open AV (nils agg tup ptr kb str sl)
theorem zhm(W:World)(x:Nat):Calls Tryz.prog 63 #[.int .i32 (x:Int)] W λe w'=>e=.returned (.bool (Bn x))/\w'=W:=
 (Tryz.odd63 x W).mono λe w' h=>⟨by rw[h.1];unfold Bn;cases Q0 ((x:Int)<32)<;>rfl,h.2⟩
theorem zhk(k n:Int)(s:zA)(W:World):Calls Tryz.prog 34 #[.agg #[.int .i64 k,.int .i64 n,.string ⟨s.toArray⟩]] W λe w'=>e=.returned (.bool (bd (k,n,s)))/\RowKit.Below W.heap.size W w'/\W.drawn<=w'.drawn:=by
 have h:=λW'=>Tryz.indexFunc64 (λr=>Bn r) ⟨s.toArray⟩ W' zhm
 have ho:Lib.idxFunc (λr=>Bn r) Q3 ⟨s.toArray⟩=oT s:=rfl;rw[ho]at h;have hv:bd (k,n,s)=bd (k,n,s):=rfl;generalize hR:bd (k,n,s)=R at hv⊢;clear hv;unfold bd at hR;generalize oT s=I at h hR
 go_enter Tryz.func34,Tryz.ntmps34
 go_wp2_with (go_at_call 64;refine(h _).mono ?_;rintro e w' ⟨rfl,h1,h2⟩)
 all_goals
  go_ret
  refine⟨?_,?_,?_⟩
  ·rw[<-hR];congr 2;simp_all<;>(rw[<-hR];first|(rw[ah ow];rfl)|(rw[beq_false_of_ne ‹¬n=0›];first|rfl|(rw[beq_false_of_ne ‹¬n=1›];rfl)))
  ·first
   |exact(RowKit.Below.refl _ _).alloc (aB _) _
   |exact((RowKit.Below.refl _ W).alloc (aB _) _).trans (h1.mono sw)
  ·first
   |exact aB _
   |exact h2
theorem O0(W w':World)(a b c x y z:Value)(h:RowKit.Below ((W.alloc (.cells #[a,b,c] 27)).alloc (.cells #[x,y,z] 27)).heap.size ((W.alloc (.cells #[a,b,c] 27)).alloc (.cells #[x,y,z] 27)) w'):
  w'.cell? ⟨W.heap.size,0,Q2⟩=Q1 a/\w'.cell? ⟨W.heap.size,1,Q2⟩=Q1 b/\w'.cell? ⟨W.heap.size,2,Q2⟩=Q1 c/\
  w'.cell? ⟨W.heap.size+1,0,Q2⟩=Q1 x/\w'.cell? ⟨W.heap.size+1,1,Q2⟩=Q1 y/\w'.cell? ⟨W.heap.size+1,2,Q2⟩=Q1 z/\
  w'.frozen? ⟨W.heap.size+1,0,Q2⟩=Q4/\w'.frozen? ⟨W.heap.size+1,1,Q2⟩=Q4/\w'.frozen? ⟨W.heap.size+1,2,Q2⟩=Q4/\w'.heap[W.heap.size+1]?=Q1 (.cells #[x,y,z] 27 (0,0)):=by
 have b0:=h.block W.heap.size sg;have b1:=h.block (W.heap.size+1) sw;have e0:((W.alloc (.cells #[a,b,c] 27)).alloc (.cells #[x,y,z] 27)).heap[W.heap.size]?=Q1 (.cells #[a,b,c] 27 (0,0)):=(bg _ _ _ sw).trans (cq _ _);have e1:((W.alloc (.cells #[a,b,c] 27)).alloc (.cells #[x,y,z] 27)).heap[W.heap.size+1]?=Q1 (.cells #[x,y,z] 27 (0,0)):=by
  have:=cq (W.alloc (.cells #[a,b,c] 27)) (.cells #[x,y,z] 27)
  rwa [aV]at this
 rw[e0]at b0;rw[e1]at b1;simp[World.cell?,World.frozen?,b0,b1]
theorem Iu(k n:Int)(s:zA)(W:World):Calls Tryz.prog 107 #[.agg #[.int .i64 k,.int .i64 n,.string ⟨s.toArray⟩]] W λe w'=>e=.returned (.agg #[.int .i64 (ap (k,n,s)).1,.int .i64 (ap (k,n,s)).2.1,.string ⟨(ap (k,n,s)).2.2.toArray⟩])/\RowKit.Below W.heap.size W w'/\W.drawn<=w'.drawn:=by
 have h:=λW'=>zhk k n s W'
 unfold ap;generalize bd (k,n,s)=R at h⊢
 go_enter Tryz.func107,Tryz.ntmps107
 go_wp2_with (go_at_call 34;refine(h _).mono ?_;rintro e w' ⟨rfl,h1,h2⟩;obtain⟨c0,c1,c2,d0,d1,d2,g0,g1,g2,bb⟩:=O0 W w' (.int .i64 k) (.int .i64 n) (.string ⟨s.toArray⟩) (.int .i64 0) (.int .i64 0) (.string ⟨#[]⟩) h1)
 all_goals
  have hB:RowKit.Below W.heap.size W w':=(((RowKit.Below.refl _ W).alloc (aB _) _).alloc sw _).trans (h1.mono sg);have hd:W.drawn<=w'.drawn:=h2;refine bodyPost_ret (results_cell_row rfl _ _ (W.heap.size+1) 27 _ (0,0) _ rfl (by simp[World.setCell,sH,bb];rfl) Tryz.underlying27 rfl kw) rfl ⟨?_,?_,?_⟩
  ·rfl
  ·exact((hB.setCell (p:=⟨W.heap.size+1,0,Q2⟩) sw _).setCell (p:=⟨W.heap.size+1,1,Q2⟩) sw _).setCell (p:=⟨W.heap.size+1,2,Q2⟩) sw _
  ·exact hd
open Go Go.Proofs
set_option maxRecDepth 100000
theorem Sa(x:Int)(W:World):Calls Tryz.prog 165 #[.int .i64 x] W λe w'=>e=.returned (.bool Q4)/\w'=W:=by
 go_enter Tryz.func165,Tryz.ntmps165
 go_wp2
 go_ret
 exact⟨sw,rfl⟩
theorem Sb(x:Int)(W:World):Calls Tryz.prog 166 #[.int .i64 x] W λe w'=>e=.returned (.bool Q4)/\w'=W:=by
 go_enter Tryz.func166,Tryz.ntmps166
 go_wp2
 go_ret
 exact⟨sw,rfl⟩
theorem Sc(x:ByteArray)(W:World):Calls Tryz.prog 167 #[.string x] W λe w'=>e=.returned (.bool Q4)/\w'=W:=by
 go_enter Tryz.func167,Tryz.ntmps167
 go_wp2
 go_ret
 exact⟨sw,rfl⟩
theorem PR(x y:Int):rL x y=(if x<y then -1 else if y<x then 1 else 0:Int):=by
 unfold rL;simp
theorem NP(x y:Int):kg x y=(if x<y then -1 else if y<x then 1 else 0:Int):=by
 unfold kg;simp
theorem zaP(x y:Int)(W:World):Calls Tryz.prog 109 #[.int .i64 x,.int .i64 y] W λe w'=>e=.returned (.int .i64 (rL x y))/\w'=W:=by
 have h1:=λW'=>Sa x W'
 have h2:=λW'=>Sa y W'
 rw[PR]
 go_enter Tryz.func109,Tryz.ntmps109
 go_wp2_with (first|(go_at_call 165;refine(h1 _).mono ?_;rintro e w' ⟨rfl,rfl⟩)|(go_at_call 165;refine(h2 _).mono ?_;rintro e w' ⟨rfl,rfl⟩))
 all_goals
  go_ret
  refine⟨?_,rfl⟩;congr 2
theorem zaQ(x y:Int)(W:World):Calls Tryz.prog 110 #[.int .i64 x,.int .i64 y] W λe w'=>e=.returned (.int .i64 (kg x y))/\w'=W:=by
 have h1:=λW'=>Sb x W'
 have h2:=λW'=>Sb y W'
 rw[NP]
 go_enter Tryz.func110,Tryz.ntmps110
 go_wp2_with (first|(go_at_call 166;refine(h1 _).mono ?_;rintro e w' ⟨rfl,rfl⟩)|(go_at_call 166;refine(h2 _).mono ?_;rintro e w' ⟨rfl,rfl⟩))
 all_goals
  go_ret
  refine⟨?_,rfl⟩;congr 2
theorem zaR(x y:zA)(W:World):Calls Tryz.prog 111 #[.string ⟨x.toArray⟩,.string ⟨y.toArray⟩] W λe w'=>e=.returned (.int .i64 (nS x y))/\w'=W:=by
 have h1:=λW'=>Sc ⟨x.toArray⟩ W'
 have h2:=λW'=>Sc ⟨y.toArray⟩ W'
 have hg:∀W',(binOp .gtr 9 (.string ⟨x.toArray⟩) (.string ⟨y.toArray⟩)).run Tryz.prog W'=.ok (.bool (!(Op.bytesLess x y||x==y))) W':=λW'=>by simp[binOp,Op.stringOp]
 have hc:nS x y=(if Op.bytesLess x y=Q3 then -1 else if(!(Op.bytesLess x y||x==y))=Q3 then 1 else 0:Int):=by unfold nS;simp
 rw[hc];clear hc
 go_enter Tryz.func111,Tryz.ntmps111
 go_wp2_with (first|(go_at_call 167;refine(h1 _).mono ?_;rintro e w' ⟨rfl,rfl⟩)|(go_at_call 167;refine(h2 _).mono ?_;rintro e w' ⟨rfl,rfl⟩))
 all_goals
  go_ret
  refine⟨?_,rfl⟩;simp_all
theorem ziB(x y z:Int)(b:Nat)(W:World)(h0:W.cell? ⟨b,0,Q2⟩=Q1 (.int .i64 x))(h1:W.cell? ⟨b,1,Q2⟩=Q1 (.int .i64 y))(h2:W.cell? ⟨b,2,Q2⟩=Q1 (.int .i64 z)):
  Calls Tryz.prog 108 #[.slice (Q1 ⟨b,0,Q2⟩) 3 3] W λe w'=>e=.returned (.int .i64 (FW [x,y,z]))/\w'=W:=by
 have hv:FW [x,y,z]=if x=0 then(if y=0 then z else y)else x:=by
  unfold FW;unfold FW;unfold FW;unfold FW;by_cases hx:x=0<;>by_cases hy:y=0<;>by_cases hz:z=0<;>simp[hx,hy,hz]
 rw[hv];clear hv
 go_enter Tryz.func108,Tryz.ntmps108
 go_wp2
 by_cases hx:x=0
 ·subst hx;by_cases hy:y=0
  ·subst hy;by_cases hz:z=0
   ·subst hz;refine wp_loop_rounds 4 ?_
    (rw[rounds_succ];go_wp2)
    (rw[rounds_succ];go_wp2)
    (rw[rounds_succ];go_wp2)
    (rw[rounds_succ];go_wp2)
    go_ret
    exact⟨by simp[*],rfl⟩
   ·refine wp_loop_rounds 4 ?_
    (rw[rounds_succ];go_wp2)
    (rw[rounds_succ];go_wp2)
    (rw[rounds_succ];go_wp2)
    go_ret
    exact⟨by simp[*],rfl⟩
  ·refine wp_loop_rounds 4 ?_
   (rw[rounds_succ];go_wp2)
   (rw[rounds_succ];go_wp2)
   go_ret
   exact⟨by simp[*],rfl⟩
 ·refine wp_loop_rounds 4 ?_
  (rw[rounds_succ];go_wp2)
  go_ret
  exact⟨by simp[*],rfl⟩
structure zi6 (p:Prop):Prop where
 out:p
theorem Ys{A w':World}{p q:Nat}{a b c x y z:Value}(e0:A.heap[p]?=Q1 (.cells #[a,b,c] 27 (0,0)))(e1:A.heap[q]?=Q1 (.cells #[x,y,z] 27 (0,0)))(h:RowKit.Below A.heap.size A w'):
  w'.heap[p]?=Q1 (.cells #[a,b,c] 27 (0,0))/\w'.heap[q]?=Q1 (.cells #[x,y,z] 27 (0,0)):=
 ⟨(h.block p (nP.1 e0).1).trans e0,(h.block q (nP.1 e1).1).trans e1⟩
theorem oy{A:World}{p:Nat}{a b c:Value}(e0:A.heap[p]?=Q1 (.cells #[a,b,c] 27 (0,0))):
  A.cell? ⟨p,0,Q2⟩=Q1 a/\A.cell? ⟨p,1,Q2⟩=Q1 b/\A.cell? ⟨p,2,Q2⟩=Q1 c/\A.frozen? ⟨p,0,Q2⟩=Q4/\A.frozen? ⟨p,1,Q2⟩=Q4/\A.frozen? ⟨p,2,Q2⟩=Q4:=by
 simp[World.cell?,World.frozen?,e0]
theorem V6(k n:Int)(s:zA)(k' n':Int)(s':zA)(W:World):Calls Tryz.prog 62 #[.agg #[.int .i64 k,.int .i64 n,.string ⟨s.toArray⟩],.agg #[.int .i64 k',.int .i64 n',.string ⟨s'.toArray⟩]] W λe w'=>e=.returned (.int .i64 (cJ (k,n,s) (k',n',s')))/\RowKit.Below W.heap.size W w'/\W.drawn<=w'.drawn:=by
 have hk:=λW'=>Iu k n s W'
 have hk':=λW'=>Iu k' n' s' W'
 have mixed:Tryz.prog.follows .mixedOrders=Q3:=by kernel_rfl
 unfold cJ;generalize ap (k,n,s)=a at hk⊢;generalize ap (k',n',s')=b at hk'⊢;obtain⟨a1,a2,a3⟩:=a;obtain⟨b1,b2,b3⟩:=b
 dsimp only at hk hk'⊢
 have k1:=λW'=>zaP a1 b1 W'
 have k2:=λW'=>zaQ a2 b2 W'
 have k3:=λW'=>zaR a3 b3 W'
 generalize rL a1 b1=m1 at k1⊢;generalize kg a2 b2=m2 at k2⊢;generalize nS a3 b3=m3 at k3⊢
 go_enter Tryz.func62,Tryz.ntmps62
 go_wp2
 obtain⟨W2,hW2⟩:∃W2,(W.alloc (.cells #[.int .i64 k,.int .i64 n,.string ⟨s.toArray⟩] 27)).alloc (.cells #[.int .i64 k',.int .i64 n',.string ⟨s'.toArray⟩] 27)=W2:=⟨_,rfl⟩;have e0:W2.heap[W.heap.size]?=Q1 (.cells #[.int .i64 k,.int .i64 n,.string ⟨s.toArray⟩] 27 (0,0)):=by rw[<-hW2];exact(bg _ _ _ sw).trans (cq _ _)
 have e1:W2.heap[W.heap.size+1]?=Q1 (.cells #[.int .i64 k',.int .i64 n',.string ⟨s'.toArray⟩] 27 (0,0)):=by
  rw[<-hW2];have:=cq (W.alloc (.cells #[.int .i64 k,.int .i64 n,.string ⟨s.toArray⟩] 27)) (.cells #[.int .i64 k',.int .i64 n',.string ⟨s'.toArray⟩] 27)
  rwa [aV]at this
 have hB2:RowKit.Below W.heap.size W W2:=by rw[<-hW2];exact((RowKit.Below.refl _ W).alloc (aB _) _).alloc sw _
 have hd2:W.drawn<=W2.drawn:=by rw[<-hW2];exact aB _
 rw[hW2];clear hW2;obtain⟨c0,c1,c2,c3,c4,c5⟩:=oy e0;obtain⟨d0,d1,d2,d3,d4,d5⟩:=oy e1;rename_i K hK
 have hrest:∀W3:World,W3.heap[W.heap.size]?=Q1 (.cells #[.int .i64 a1,.int .i64 a2,.string ⟨a3.toArray⟩] 27 (0,0))->W3.heap[W.heap.size+1]?=Q1 (.cells #[.int .i64 b1,.int .i64 b2,.string ⟨b3.toArray⟩] 27 (0,0))->RowKit.Below W.heap.size W W3->W.drawn<=W3.drawn->
   K {tmps:=#[.agg #[.int .i64 k,.int .i64 n,.string ⟨s.toArray⟩],.agg #[.int .i64 k',.int .i64 n',.string ⟨s'.toArray⟩],.pointer (Q1 ⟨W.heap.size,0,Q2⟩),.pointer (Q1 ⟨W.heap.size+1,0,Q2⟩),.int .i64 0,.agg #[.int .i64 k,.int .i64 n,.string ⟨s.toArray⟩],.agg #[.int .i64 a1,.int .i64 a2,.string ⟨a3.toArray⟩],.agg #[.int .i64 k',.int .i64 n',.string ⟨s'.toArray⟩],.agg #[.int .i64 b1,.int .i64 b2,.string ⟨b3.toArray⟩],undef,undef,undef,undef,undef,undef,undef,undef,undef,undef,undef,undef,undef,undef,undef,undef,undef],defers:=[]} W3:=by
  intro W3 w0 w1 hB3 Vv;apply hK;clear hK;have hsz:W.heap.size+1<W3.heap.size:=(nP.1 w1).1;obtain⟨x0,x1,x2,x3,x4,x5⟩:=oy w0;obtain⟨y0,y1,y2,y3,y4,y5⟩:=oy w1
  go_wp2
  go_still_tail 15,mixed
  still_call (k1 _)
  repeat still_step
  still_call (k2 _)
  repeat still_step
  still_call (k3 _)
  refine wpStill_nil ?_;change wpList _ _ _ _ _ W3.drew;have hd4:W.drawn<=W3.drew.drawn:=cL Vv (Nat.le_succ _);have hB4:RowKit.Below W.heap.size W W3.drew:=hB3.drew;generalize W3.drew=W4 at hd4 hB4⊢
  go_wp2_with (go_at_call 108;refine(ziB m1 m2 m3 W4.heap.size _ sw sw sw).mono ?_;rintro e w' ⟨rfl,rfl⟩)
  go_ret
  exact⟨rfl,hB4.alloc hB4.size _,hd4⟩
 have hrk:=zi6.mk hrest;clear hK hrest k1 k2 k3
 go_region_with (first
  |(go_at_call 107;refine(hk _).mono ?_;clear hk;rintro e w1 ⟨rfl,h1,Vv⟩;obtain⟨f0,f1⟩:=Ys (A:=W2.drew) e0 e1 h1;obtain⟨p0,p1,p2,p3,p4,p5⟩:=oy f0;obtain⟨q0,q1,q2,q3,q4,q5⟩:=oy f1)
  |(go_at_call 107;refine(hk' _).mono ?_;clear hk';rintro e w2 ⟨rfl,h2,hd4⟩;obtain⟨g0,g1⟩:=Ys f0 f1 h2;obtain⟨r0,r1,r2,r3,r4,r5⟩:=oy g0;obtain⟨s0,s1,s2,s3,s4,s5⟩:=oy g1))
 all_goals
  refine hrk.out _ ?_ ?_ ?_ ?_
  ·simp[World.setCell,sH,g0]
  ·simp[World.setCell,sH,g1]
  ·have hs1:=h1.size;have hs2:=h2.size;have hB5:RowKit.Below W.heap.size W w2:=(hB2.trans ((RowKit.Below.mono ⟨h1.os,h1.tape,h1.output,h1.size,h1.block⟩ hB2.size))).trans (h2.mono (cL hB2.size hs1));exact(((((hB5.setCell (p:=⟨W.heap.size,0,Q2⟩) sw _).setCell (p:=⟨W.heap.size,1,Q2⟩) sw _).setCell (p:=⟨W.heap.size,2,Q2⟩) sw _).setCell (p:=⟨W.heap.size+1,0,Q2⟩) sw _).setCell (p:=⟨W.heap.size+1,1,Q2⟩) sw _).setCell (p:=⟨W.heap.size+1,2,Q2⟩) sw _
  ·have hs3:W2.drawn+1<=w1.drawn:=Vv;have hs4:W.drawn<=w2.drawn:=by omega
   simpa[World.setCell]using hs4
open Tr (chk br re)
def pD(l:List (Sem zf)):Bool:=l.all (λv=>bd v&&(v.1!=0))&&decide l.Nodup&&!l.isEmpty
theorem To{l l':List (Sem zf)}(h:pD l=Q3)(hp:List.Perm l' l)(hs:l'.Pairwise λx y:Sem zf=>¬LT.lt (α:=Int) (cJ y x) 0):l'=nR l:=by
 simp only[pD,aD,dU,aN,bne_iff_ne,ne_eq]at h;obtain⟨⟨hm,hn⟩,_⟩:=h;obtain⟨a1,a2⟩:=sP λx hx=>(hm x hx).1
 have hn':l'.Nodup:=hp.nodup_iff.2 hn;refine GG ?_ a1 λx=>?_
 ·refine(hs.and hn').imp_of_mem λ{x y} hx hy h=>?_
  rcases mB (hm y (hp.mem_iff.1 hy)).1 (hm x (hp.mem_iff.1 hx)).1 h.1 with e|e
  ·exact absurd e.symm h.2
  ·exact e
 ·rw[a2 x,hp.mem_iff];exact⟨λhx=>⟨hx,(hm x hx).2⟩,λhx=>hx.1⟩
@[match_pattern] abbrev zlf:Sh:=.pr (.int .i64) (.pr (.int .i64) .str)
def zmM:zX:=λargs hp _=>match args with
 | [.vec id,.clo (.func 62) [] []]=>match hp id with
  |.vec zlf l=>(.chk (Q0 (length l<=1000000)) (.chk (pD l) (.ok {val:=.tup [],wr:=[(id,.vec zf (nR l))]})))
  |_=>.err
 |_=>.err
theorem zjL:Go.Proofs.Enters Tryz.prog 62:=by
  cases hb:Tryz.f62.body with
  | none => have:Tryz.f62.body.isNone=false:=by kernel_rfl
            rw[hb]at this;cases this
  |some c=>exact Go.Proofs.enters_of (fn:=Tryz.f62) kw kw hb
noncomputable section
abbrev Yx:=mV [(4,[5,6,18,19,20]),(11,[9,34])]
inductive Ny where
 |h4 (i5:Sem zg) (l18:List (Sem zf.sl)) (i19:Int) (i20:Int) (mh_0:List ((Int×Int×zA)×Int))
abbrev J8:Ny->Nat×St
 |.h4 i5 l18 i19 i20 mh_0=>(4,⟨tm 46 [(5,ai i5),(6,AV.mp 0),(18,sl zf.sl l18),(19,ai i19),(20,ai i20)],[AO.vmap Q3 mh_0]⟩)
def zbr(x0:Sem zE)(x1:Sem zh.sl):Tr (Ny⊕aw):=
 let a0:=(x0.1,x0.2.1,x0.2.2.1,(x0.2.2.2.1.1,x0.2.2.2.1.2.1,x0.2.2.2.1.2.2.1,x0.2.2.2.1.2.2.2.1,x0.2.2.2.1.t.1,zm x0.2.2.2.1.t.2),x0.t)
 let a1:=getD x1 (toNat 0) (zi zh)
 Qc (ly a0 x1) (Qc (zP 0 (length x1)) (Q9 (Ny.h4 (dz a0 x1) a1.2 (↑(length a1.2):Int) 0 [])))
def ziK:Ny->Tr (Ny⊕aw)
 | .h4 i5 l18 i19 i20 mh_0=>
  let a0:=l18.getD i20.toNat (zi zf.sl)
  br (Q0 (i20<i19))
  (Qc (zP i20 l18.length) (Qc (zP i5 (length a0)) (Q9 (Ny.h4 i5 l18 i19 (IntKind.i64.wrap (i20+1)) (jP mh_0 (getD a0 (toNat i5) (zi zf)) 0)))))
  Tr.err
end
def ve(es:List ((Int×Int×zA)×Int))(k:Int×Int×zA):List ((Int×Int×zA)×Int):=match cd es k 0 with
 |some q=>es.eraseIdx q.1
 |none=>es
theorem vX{α β:Type}(f:α->β):∀(l:List α)(i:Nat),(l.eraseIdx i).map f=(l.map f).eraseIdx i
 |[],_=>rfl
 |_::_,0=>rfl
 | x::r,i+1=>by
  show f x::(r.eraseIdx i).map f=f x::(r.map f).eraseIdx i;rw[vX f r i]
theorem Vg{P:Program}{mt kt et:TypeId}(hm:P.underlying mt=Q1 (.map kt et))(hvk:mA P kt=Q3){w:World}{r:Nat}{ents:Array MapEntry}{clock:Nat}{es:List ((Int×Int×zA)×Int)}{k:Int×Int×zA}(hko:kT k)
  (hb:w.heap[r]?=Q1 (.map ents clock)) (he:(ents.toList.map λe=>(e.key,e.val))=AD Q3 es) (ho:∀p∈es,cF .i64 p.2/\kT p.1) (hs:kV ents clock):
  ∃ents':Array MapEntry,(∀ty,(Builtin.delete_ #[mt,kt] ty #[.map (Q1 r),dD k]).run P w=.ok (.tuple #[]) {w with heap:=w.heap.setIfInBounds r (.map ents' clock)})/\
   (ents'.toList.map λe=>(e.key,e.val))=AD Q3 (ve es k)/\(∀x∈ents'.toList,x.born<clock)/\(ents'.toList.map (·.born)).Nodup:=by
 have hfk:=jb (P:=P) (w:=w) hvk hko Q3 es ents.toList he ho;have hborn:∀x∈ents.toList,x.born<clock:=λx hx=>by
  obtain⟨i,hi,rfl⟩:=gY hx;have:=hs.2 i ents.toList[i] (by rw[<-qU];exact zQ hi);rw[this,hs.1];simpa using hi
 have hnd:(ents.toList.map (·.born)).Nodup:=by
  have:ents.toList.map (·.born)=List.range ents.size:=by
   apply List.ext_getElem
   ·simp
   ·intro i h1 h2;have hi:i<ents.size:=by simpa using h1
    simp only[List.getElem_map,List.getElem_range];exact hs.2 i _ (by rw[<-qU];exact zQ (by simpa using hi))
  rw[this];exact List.nodup_range
 unfold ve;cases hfi:cd es k 0 with
 | none=>
  rw[hfi]at hfk;refine⟨ents,λty=>?_,he,hborn,hnd⟩;simp[Builtin.delete_,bu hm,j9 hb,cU hvk,hfk,wI _ hb,Result.andThen]
 | some q=>
  rw[hfi]at hfk;have hsub:((ents.eraseIdxIfInBounds q.1).toList)=ents.toList.eraseIdx q.1:=by simp
  refine⟨ents.eraseIdxIfInBounds q.1,λty=>?_,?_,λx hx=>?_,?_⟩
  ·simp[Builtin.delete_,bu hm,j9 hb,cU hvk,hfk,wI _ hb,Result.andThen]
  ·rw[hsub,vX,he];exact(vX _ es q.1).symm
  ·rw[hsub]at hx;exact hborn x (List.mem_of_mem_eraseIdx hx)
  ·rw[hsub];exact hnd.sublist ((List.eraseIdx_sublist _ _).map _)
noncomputable def Ca:Code:=match Tryz.f30.body with
 |some (.seq _ (.seq _ (.seq _ (.seq _ r))))=>r
 |_=>.skip
noncomputable def Bc:Code:=match Tryz.f30.body with
 |some (.seq _ (.seq _ (.seq _ (.seq (.seq _ (.block _ (.loop c))) _))))=>c
 |_=>.skip
theorem zbi:zZ Tryz.f30 4=[.code Bc,.inLoop Bc,.inBlock 0,.code Ca]:=kw
theorem zby:(Tryz.prog.info? 27).map (λi=>(i.zero,i.size,i.bytes))=Q1 (Q1 (.agg #[.int .i64 0,.int .i64 0,.string ⟨#[]⟩]),3,32):=kw
def Ig(l:List ((Int×Int×zA)×MapEntry)):List Value:=l.flatMap λp=>[.int .i64 p.1.1,.int .i64 p.1.2.1,.string ⟨p.1.2.2.toArray⟩]
structure YV (w1:World) (r clock:Nat) (ents':Array MapEntry) (v:Value) (wr:World) (seen:Array Nat) (E:List ((Int×Int×zA)×MapEntry)):Prop where
 it:∃c0,wr.heap[w1.heap.size]?=Q1 (.mapIter (Q1 r) clock seen c0)/\clock<=c0
 mp:wr.heap[r]?=Q1 (.map ents' clock)
 sub:∀p∈E,p.2∈ents'.toList/\p.2.key=dD p.1
 sn:seen.toList=E.map λp=>p.2.born
 nd:(E.map λp=>p.2.born).Nodup
 row:wr.ownsRow w1.heap.size 27 3 v E.length (Ig E)
 bel:RowKit.Below w1.heap.size w1 wr
 cnt:E.length+(leftOf ents' seen).size<=ents'.size
theorem NO(w:World)(l:List Value)(t:TypeId):∀j u,l[j]?=Q1 u->(w.alloc (.cells l.toArray t)).cell? ((⟨w.heap.size,0,Q2⟩:Addr).add j)=Q1 u:=by
 intro j u h;unfold Addr.add;split
 ·rename_i e;subst e;simp[h]
 ·simp[h]
theorem Wk(Q:Exit->Act->World->Prop)(S:Value->World->Prop)(r:Nat)(ents':Array MapEntry)(clock:Nat)(w w1:World)(hdel:∀ty,(Builtin.delete_ #[121,27] ty #[.map (Q1 r),.agg #[.int .i64 0,.int .i64 0,.string ⟨#[]⟩]]).run Tryz.prog w=.ok (.tuple #[]) w1)(hm:w1.heap[r]?=Q1 (.map ents' clock))(hborn:∀x∈ents'.toList,x.born<clock)(hnd:(ents'.toList.map (·.born)).Nodup) (hkeys:∀x∈ents'.toList,∃k,x.key=dD k) (hsz:ents'.size<=1000)
  (hsort:∀v wr seen E,YV w1 r clock ents' v wr seen E->(leftOf ents' seen).size=0->Calls Tryz.prog 61 #[v,.func (.func 62) #[] #[]] wr λe w'=>e=.returned (.tuple #[])/\S v w')
  (hQ:∀v w'(a:Act),S v w'->a.tmps[4]?=Q1 v->a.defers=[]->Q Exit.ret a w')
  (v0 v1 v2 v3 v4 v5 v7 v8 v9 v10 v11 v12 v13 v14 v15 v16 v17 v18 v19 v20 v21 v22 v23 v24 v25 v26 v27 v28 v29 v30 v31 v32 v33 v34 v35 v36 v37 v38 v39 v40 v41 v42 v43 v44 v45:Value):
  Ca.wp Tryz.prog Q {tmps:=#[v0,v1,v2,v3,v4,v5,(Value.map (Q1 r)),v7,v8,v9,v10,v11,v12,v13,v14,v15,v16,v17,v18,v19,v20,v21,v22,v23,v24,v25,v26,v27,v28,v29,v30,v31,v32,v33,v34,v35,v36,v37,v38,v39,v40,v41,v42,v43,v44,v45],defers:=[]} w:=by
 have hrg:=run_range_map (P:=Tryz.prog) w1 121 27 122 r ents' clock Tryz.underlying121 hm;simp only[Ca,Tryz.f30]
 go_wp2
 obtain⟨i0,hi,hz0,hz1,hz2⟩:=info_parts zby
 go_loopw [9] (λv wr=>∃seen E,YV w1 r clock ents' v wr seen E)
  (λ_ wr=>(leftOf ents' (wr.iterSeen w1.heap.size)).size)
 case atStart=>
  exact⟨#[],[],⟨⟨clock,heap_alloc_new _ _,aB _⟩,by rw[heap_alloc_old _ _ (nP.1 hm).1];exact hm,sw,sw,sw,World.ownsRow_nil _ _ _ _,(RowKit.Below.refl _ _).alloc (aB _) _,by simpa[leftOf]using Array.size_filter_le⟩⟩
 case round=>
  obtain⟨seen,E,hC⟩:=hrel;obtain⟨c0,hit,hsc⟩:=hC.it;have hrlt:r<w1.heap.size:=(nP.1 hm).1;rcases run_next_at (P:=Tryz.prog) wr 0 w1.heap.size r clock c0 seen ents' clock hit hC.mp hborn hsc with⟨hz,hnx⟩|⟨e,he,wd,hwd,hnx⟩
  ·have hC':=hsort _ _ _ _ hC (by simpa using hz);clear hC
   go_wp2_with (go_at_call 61;refine hC'.mono ?_;rintro e w' ⟨rfl,hS⟩)
   exact hQ _ _ _ hS rfl rfl
  ·have hem:e∈ents'.toList:=by simp[leftOf]at he⊢;exact he.1
   have hes:e.born∉E.map λp=>p.2.born:=by
    rw[<-hC.sn];simp[leftOf]at he⊢;exact he.2
   obtain⟨k,hk⟩:=hkeys e hem;have hleft:0<(leftOf ents' seen).size:=by
    have:=List.length_pos_of_mem he;simpa using this
   have hcnt:=hC.cnt;have hEl:E.length<1000:=by omega
   obtain⟨W3,hW3⟩:∃W3,ChangeMaps.setBlock wd w1.heap.size (.mapIter (Q1 r) clock (seen.push e.born) clock)=W3:=⟨_,rfl⟩;rw[hW3]at hnx;have hwh:wd.heap=wr.heap:=by rcases hwd with rfl|rfl<;>rfl
   have hilt:w1.heap.size<wr.heap.size:=(nP.1 hit).1;have hit3:W3.heap[w1.heap.size]?=Q1 (.mapIter (Q1 r) clock (seen.push e.born) clock):=by
    rw[<-hW3];show(wd.heap.setIfInBounds _ _)[_]?=_;rw[hwh];simp[hilt]
   have hoth:∀j,j≠w1.heap.size->W3.heap[j]?=wr.heap[j]?:=λj hj=>by
    rw[<-hW3];show(wd.heap.setIfInBounds _ _)[_]?=_;rw[hwh,Array.getElem?_setIfInBounds_ne (λe=>hj e.symm)]
   have hsz3:W3.heap.size=wr.heap.size:=by
    rw[<-hW3];show(wd.heap.setIfInBounds _ _).size=_;rw[hwh];simp
   have hgr:wr.grownBy W3 (Q1 w1.heap.size):=⟨by rw[<-hW3];rcases hwd with rfl|rfl<;>rfl,by rw[<-hW3];rcases hwd with rfl|rfl<;>rfl,by rw[<-hW3];rcases hwd with rfl|rfl<;>rfl,by rw[hsz3];exact aB _,λj _ hj=>hoth j λe=>hj (by rw[e])⟩;have hmp3:W3.heap[r]?=Q1 (.map ents' clock):=(hoth r ow).trans hC.mp;have hen:=run_entry_at (P:=Tryz.prog) W3 w1.heap.size r clock seen ents' clock e hit3 hmp3 hem hnd;have hrow3:=hC.row.kept hgr (by
    rcases hC.row.2 with⟨rfl,_⟩|⟨g,cap,cur,rfl,_,hgb,_⟩
    ·exact .inl rfl
    ·refine .inr λe'=>?_
     have:g=w1.heap.size:=by simpa[Value.ownBlock]using e'
     subst this;rw[hit]at hgb;cases hgb)
   have hbel3:RowKit.Below w1.heap.size w1 W3:=hC.bel.grown hgr hC.bel.size (λj e=>by cases e;exact aB _);rw[hk]at hnx hen;obtain⟨k1,k2,k3⟩:=k;simp only[dD]at hnx hen;have hsub:=hC.sub;have hsn:=hC.sn;have hndE:=hC.nd;clear hW3 hwd hwh hsz3 hgr hC
   go_wp2_with (at_builtin;refine wpList_append_own _ rfl _ _ 31 rfl w1.heap.size 27 i0 _ 3 32 Tryz.underlying31 hi hz0 hz1 hz2 rfl (by decide) _ _ _ rfl ((hrow3.alloc _).alloc _) ⟨W3.heap.size+1,0,Q2⟩ 1 1 [.int .i64 k1,.int .i64 k2,.string ⟨k3.toArray⟩] rfl rfl (by have:=NO (W3.alloc (.cells #[.int .i64 k1,.int .i64 k2,.string ⟨k3.toArray⟩] 27)) [.int .i64 k1,.int .i64 k2,.string ⟨k3.toArray⟩] 27;simpa using this) (by simp[Value.oneCell']) (by unfold maxLen;omega) ow (by have:=hbel3.size;simp;omega) ?_;intro v' w3 hown' hgr3 hnil3;go_frame)
   obtain⟨o3,ho3⟩:∃o:Obj,o=.cells #[.int .i64 k1,.int .i64 k2,.string ⟨k3.toArray⟩] 27:=⟨_,rfl⟩;have hgr4:World.grownBy ((W3.alloc o3).alloc o3) w3 u9.ownBlock:=by rw[ho3];exact hgr3
   clear hgr3 hnil3;have hown9:∀j,u9.ownBlock=Q1 j->w1.heap.size<=j/\j≠w1.heap.size:=by
    intro j hj;rcases hrow3.2 with⟨rfl,_⟩|⟨g,cap,cur,rfl,hbg,hgb,_⟩
    ·simp[Value.ownBlock]at hj
    ·have:g=j:=by simpa[Value.ownBlock]using hj
     subst this;exact⟨hbg,λe'=>by subst e';rw[hit3]at hgb;cases hgb⟩
   have hs3:w1.heap.size<W3.heap.size:=(nP.1 hit3).1;have hold:∀j,j<=w1.heap.size->w3.heap[j]?=W3.heap[j]?:=λj hj=>by
    rw[hgr4.block j sg (λe'=>by obtain⟨a,b⟩:=hown9 j e'.symm;omega),heap_alloc_old _ _ sg,heap_alloc_old _ _ ow]
   have hnew:w3.heap[w1.heap.size]?=Q1 (Obj.mapIter (Q1 r) clock (seen.push e.born) clock):=(hold _ (aB _)).trans hit3;have hfl:Ig (E++[((k1,k2,k3),e)])=Ig E++[.int .i64 k1,.int .i64 k2,.string ⟨k3.toArray⟩]:=by simp[Ig]
   refine⟨⟨seen.push e.born,E++[((k1,k2,k3),e)],⟨⟨clock,hnew,aB _⟩,(hold r ow).trans hmp3,?_,?_,?_,?_,?_,?_⟩⟩,?_⟩
   ·intro p hp;rcases cK.1 hp with h|h
    ·exact hsub p h
    ·obtain rfl:=fX.1 h;exact⟨hem,hk⟩
   ·simp[hsn]
   ·rw[iB];refine List.nodup_append.2 ⟨hndE,sw,λa ha b hb=>?_⟩;have:b=e.born:=by simpa using hb
    rintro rfl;exact hes (this▸ha)
   ·rw[hfl,jD];exact hown'
   ·exact((hbel3.alloc ow _).alloc sg _).grown hgr4 sg (λj hj=>(hown9 j hj).1)
   ·have:=left_shrinks _ _ _ he;rw[jD];simp only[fi,nC];omega
   ·have e1:wr.iterSeen w1.heap.size=seen:=by simp[World.iterSeen,hit]
    have e2:w3.iterSeen w1.heap.size=seen.push e.born:=by simp[World.iterSeen,hnew]
    rw[e1,e2];exact left_shrinks _ _ _ he
abbrev V3:={x:Sem zf//bd x=Q3}
def jx(p:V3):List Value:=[.int .i64 p.1.1,.int .i64 p.1.2.1,.string ⟨(p.1.2.2:zA).toArray⟩]
def HF(p q:V3):Int:=cJ p.1 q.1
theorem zcs[Inhabited V3](d:Array V3)(B cap:Nat)(w:World)(hH:HoldsK jx 3 w B 0 d)(hB:B<w.heap.size)(h:d.size<4611686018427387904):
  Calls Tryz.prog 61 #[.slice (Q1 ⟨B,0,Q2⟩) d.size cap,.func (.func 62) #[] #[]] w λe w'=>e=.returned (.tuple #[])/\∃n os,w'=sortWorldK jx 3 w B 0 n (d.toList.mergeSort λx y=>!(ltOf HF) y x).toArray os:=by
 refine AnyQ.slices_SortFunc_total Tryz.sortVal 3 Tryz.isAgg27 Tryz.sizeOf27 jx (λ_=>rfl) ?_ HF ?_ 62 #[] B 0 cap d w zjL ?_ hH hB h ?_
 ·intro x v hv;simp only[jx,ce,List.not_mem_nil,or_false]at hv;rcases hv with rfl|rfl|rfl<;>rfl
 ·refine⟨λx=>?_,λx y z h g=>?_,λx y z h g=>?_⟩
  ·exact ah (iV (a:=x.1))
  ·simp only[ltOf,aN]at h g⊢;exact gT (a:=x.1) (b:=y.1) (c:=z.1) h g
  ·simp only[ltOf,decide_eq_false_iff_not]at h g⊢;intro hxz;rcases mB x.2 y.2 h with e|e
   ·unfold HF at hxz;rw[e]at hxz;exact g hxz
   ·exact g (gT (a:=y.1) (b:=x.1) (c:=z.1) e hxz)
 ·intro m os dk hdk x y;show Calls Tryz.prog 62 (#[Value.agg (jx x).toArray,Value.agg (jx y).toArray]++#[]) _ _;refine(V6 x.1.1 x.1.2.1 x.1.2.2 y.1.1 y.1.2.1 y.1.2.2 _).mono ?_;rintro e' w' ⟨rfl,h1,h2⟩;exact⟨rfl,gd_of h1 h2⟩
 ·intro x y h g;simp only[ltOf,decide_eq_false_iff_not]at h g;rcases mB x.2 y.2 h with e|e
  ·exact Subtype.ext e
  ·exact absurd e g
end Cad
