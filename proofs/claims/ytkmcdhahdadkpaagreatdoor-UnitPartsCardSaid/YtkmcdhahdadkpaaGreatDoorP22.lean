/- slices.SortFunc over tables with rows, by their names: the contract. Plans: a plan's own sources, rising. Units: slices.Clone. Units: places, a statement. -/
import Derived.Test.YtkmcdhahdadkpaaGreatDoorP20
import Derived.Test.YtkmcdhahdadkpaaGreatDoorP21
import Derived.Test.YtkmcdhahdadkpaaGreatDoorP18
import Derived.Test.YtkmcdhahdadkpaaGreatDoorP14
import Derived.Test.YtkmcdhahdadkpaaGreatDoorP17
import Derived.Test.YtkmcdhahdadkpaaGreatDoorP07
import Derived.Sort.Grow
import Derived.Deep.Draws
import Derived.Shelf.SlSortCmp.QuietGrown
import Derived.Shelf.GgClosure.StringsIndexFuncTop
import Derived.Test.YtkmcdhahdadkpaaGreatDoorP08
import Derived.RegionTactic
import Derived.RegionCalls
import Derived.Deep.RegionWith
import Derived.StillTailTactics
import Derived.Maps.RangeWalk
import Derived.LoopTactic
import Derived.Shelf.SlSortCmp.NoneTotal
namespace Cad
open Go Go.Proofs Go.Sort
open Tr renaming chk→Qc
open AV renaming nils→Qb
open AO renaming box→Qa
open Tr renaming «to»→Q9
open Tr renaming val→Q8
open Sh renaming str→Q6
open Sh renaming expr→Q5
open Bool renaming false→Q4
open Bool renaming true→Q3
open Option renaming none→Q2
open Option renaming some→Q1
open Decidable renaming decide→Q0
open Int (toNat)
open List (getD)
open List (length)
set_option maxHeartbeats 4000000
open Tr (chk br re)
open AV (nils agg tup ptr kb str sl)
theorem sY:∀a b:zB,(Lib.compareBytes a b<0)↔Op.bytesLess a b=Q3
 |[],[]=>by simp[Lib.compareBytes,Op.bytesLess]
 |[],_::_=>by simp[Lib.compareBytes,Op.bytesLess]
 |_::_,[]=>by simp[Lib.compareBytes,Op.bytesLess]
 | a::r,b::s=>by
  unfold Lib.compareBytes Op.bytesLess;by_cases h1:a<b
  ·simp[h1]
  ·by_cases h2:b<a
   ·have:a≠b:=λe=>by rw[e]at h2;exact absurd h2 (UInt8.lt_irrefl b)
    simp[h1,h2,this]
   ·have:a=b:=UInt8.le_antisymm (UInt8.not_lt.1 h2) (UInt8.not_lt.1 h1);subst this;simp[sY r s]
theorem DJ:∀s:zB,Op.bytesLess s s=Q4
 |[]=>rfl
 |a::r=>by simp[Op.bytesLess,DJ r]
theorem An:∀{a b c:zB},Op.bytesLess a b=Q3->Op.bytesLess b c=Q3->Op.bytesLess a c=Q3
 |_,[],_,h,_=>by cases‹zB›<;>simp[Op.bytesLess]at h
 |_,_::_,[],_,h=>by simp[Op.bytesLess]at h
 |[],_::_,_::_,_,_=>rfl
 | a::x,b::y,c::z,h,g=>by
  simp only[Op.bytesLess,lY,aD,aP,aZ]at h g⊢;rcases h with h|⟨rfl,h⟩
  ·rcases g with g|⟨rfl,g⟩
   ·exact .inl (UInt8.lt_trans h g)
   ·exact .inl h
  ·rcases g with g|⟨rfl,g⟩
   ·exact .inl g
   ·exact .inr ⟨rfl,An h g⟩
theorem Am:∀{a b:zB},Op.bytesLess a b=Q4->a≠b->Op.bytesLess b a=Q3
 |[],[],_,h=>absurd rfl h
 |[],_::_,h,_=>by simp[Op.bytesLess]at h
 |_::_,[],_,_=>rfl
 | a::x,b::y,h,hne=>by
  simp only[Op.bytesLess,Bool.or_eq_false_iff,decide_eq_false_iff_not,Bool.and_eq_false_iff]at h;simp only[Op.bytesLess,lY,aD,aP,aZ];by_cases e:b=a
  ·subst e;refine .inr ⟨rfl,Am (h.2.resolve_left sw) λe=>hne (by rw[e])⟩
  ·exact .inl (Nat.lt_of_le_of_ne (UInt8.not_lt.1 h.1) λe'=>e (UInt8.toNat_inj.1 e'))
def fy:List (Sem zh)->List (Sem zh)
 |[a,b]=>if Op.bytesLess b.1.1 a.1.1=Q3 then[b,a]else[a,b]
 |l=>l
theorem qI(a b:Sem zh):fy [a,b]=if Op.bytesLess b.1.1 a.1.1=Q3 then[b,a]else[a,b]:=rfl
def two(l:List (Sem zh)):Bool:=match l with
 |[_]=>Q3
 |[a,b]=>!((a.1.1:zB)==b.1.1)
 |_=>Q4
theorem Ty{l l':List (Sem zh)}(h:two l=Q3)(hp:List.Perm l' l)(hs:l'.Pairwise λx y:Sem zh=>¬Lib.compareBytes y.1.1 x.1.1<0):l'=fy l:=by
 match l,h with
 |[a],_=>exact List.perm_singleton.1 hp
 | [a,b],h=>
  have hl:=hp.length_eq;have hne:(a.1.1:zB)≠b.1.1:=by simpa[two]using h
  match l',hl,hp,hs with
  |[x,y],_,hp,hs=>
  have hs:¬Lib.compareBytes y.1.1 x.1.1<0:=by simpa using hs
  rw[sY]at hs;have hx:x=a/\y=b\/x=b/\y=a:=by
   have hxm:x∈[a,b]:=hp.mem_iff.1 sw;rcases cj.1 hxm with rfl|hxm
   ·have:=(List.perm_cons x).1 hp;exact .inl ⟨rfl,by simpa using this⟩
   ·have hxb:x=b:=by simpa using hxm
    subst hxb;have:=(List.perm_cons x).1 (hp.trans (List.Perm.swap x a []));exact .inr ⟨rfl,by simpa using this⟩
  rw[qI];rcases hx with⟨rfl,rfl⟩|⟨rfl,rfl⟩
  ·rw[if_neg hs]
  ·rw[if_pos (Am (by simpa using hs) hne)]
def Za:zX:=λargs hp _=>match args with
 | [.vec id,.clo (.func 56) [] [.ptr nb 0]]=>match hp id,hp nb with
  |.vec ziS l,.box [.clo (.func 52) [] []]=>.chk (two l) (.ok {val:=.tup [],wr:=[(id,.vec zh (fy l))]})
  |_,_=>.err
 |_=>.err
theorem zj3:Go.Proofs.Enters Tryz.prog 56:=by
  cases hb:Tryz.f56.body with
  | none => have:Tryz.f56.body.isNone=false:=by kernel_rfl
            rw[hb]at this;cases this
  |some c=>exact Go.Proofs.enters_of (fn:=Tryz.f56) kw kw hb
theorem zaJ:FK 92 Za where
 fn:=⟨Tryz.f92,kw,kw,kw⟩
 calls:=λw U ρ hp n args vals f fp hf hr hub hgl hfp hin hcl hnw=>by
  unfold Za at hf;split at hf
  ·rename_i id nb;split at hf
   ·rename_i l hid hnb;simp only[Tr.val_chk,Tr.val_ok,bB]at hf;obtain⟨h2,rfl⟩:=hf;have hl:=hr.len
    match vals,hl,hr with
    |[va,vc],_,hr=>
    have r0:=hr.rv 0 _ va rfl rfl;have r1:=hr.rv 1 _ vc rfl rfl;cases r0 with
    |vec _ _ hva _=>
    cases r1 with
    |clo _ _ _ vf vcs hf hc hrf hrc=>
    match vf,hf,vcs,hc,hrc with
    |[],_,[pv],_,hrc=>
    have r2:=hrc 0 _ pv rfl rfl;cases r2 with
    |ptr _ _ b0 hb0=>
    have iid:id∈fp:=hin id (by simp[AV.idsL,AV.ids]);have inb:nb∈fp:=hin nb (by simp[AV.idsL,AV.ids]);have ob:=hfp.ob nb inb;have oid:=hfp.ob id iid;rw[hnb]at ob;rw[hid]at oid;obtain⟨b',T,arr,e1,hUB,hBB,hrl,h1c⟩:=ob;rw[hb0]at e1;cases e1;have hal:=hrl.len;have hfv:=hrl.rv 0 _ (arr.toList[0]'(by rw[<-hal];simp)) rfl (zR _);have hcell:w.cell? ⟨b0,0,Q2⟩=Q1 (.func (.func 52) #[] #[]):=by
     generalize hx:arr.toList[0]'(by rw[<-hal];simp)=x at hfv;cases hfv with
     |clo _ _ _ vf vc hf hc _ _=>
     match vf,hf,vc,hc with
     |[],_,[],_=>
     rw[World.cell?,hBB];have:arr[0]?=Q1 (Value.func (.func 52) #[] #[]):=by
      rw[<-qZ,zR (by rw[<-hal];simp),hx]
     simpa using this
    have hbl:=hub b0 hUB;have hlne:l≠[]:=λe=>by rw[e]at h2;cases h2
    have hlen:l.length<=2:=by
     match l,h2 with
     |[_],_=>simp
     |[_,_],_=>simp
    refine⟨(TQ (n:=n) (e:=zh) (G:=λ_=>True) (λx y:Sem zh=>Lib.compareBytes x.1.1 y.1.1) (by decide) hub hid oid hva hlne (λ_ _=>trivial) ?_).mono ?_,by simp;exact iid⟩
    ·intro inst B cap d hds hH hBlt hown;have hne:b0≠B:=λe=>by
      have:=hfp.inj id iid nb inb B (by rw[hid];exact hown) (by rw[hnb];exact⟨rfl,_,hb0,by simp[eJ,e]⟩);subst this;rw[hid]at hnb;cases hnb
     refine AnyQ.slices_SortFunc Tryz.sortRel 12 Tryz.isAgg52 Tryz.sizeOf52 (λp:Pl w U ρ zh (λ_=>True)=>p.1.1) (λp=>p.2.1) (λp=>p.2.2.1) (λp q=>Lib.compareBytes p.1.2.1.1 q.1.2.1.1) ?_ 56 #[.pointer (Q1 ⟨b0,0,Q2⟩)] B 0 cap d w zj3 ?_ hH hBlt ow
     ·refine⟨λx=>?_,λx y z h g=>?_,λx y z h g=>?_⟩
      ·have:=DJ x.1.2.1.1;simp only[ltOf,decide_eq_false_iff_not,sY,this];simp
      ·simp only[ltOf,aP,sY]at*;exact An h g
      ·simp only[ltOf,decide_eq_false_iff_not,sY]at*;intro hxz;by_cases e:(x.1.2.1.1:zB)=y.1.2.1.1
       ·rw[e]at hxz;exact g hxz
       ·exact g (An (Am (by simpa using h) e) hxz)
     ·intro m os dk hdk x y;have nm:∀p:Pl w U ρ zh (λ_=>True),∃v1 v2 v3 v4 v5 v6 v7 v8 v9 v10 v11,p.1.1=[.string ⟨(p.1.2.1.1:zB).toArray⟩,v1,v2,v3,v4,v5,v6,v7,v8,v9,v10,v11]:=by
       rintro⟨⟨cs,q⟩,h1,h2,h3,h4⟩;obtain⟨v,hv1,hv2⟩:=h3 0 (.str q.1.1) rfl;have h1:cs.length=12:=h1
       match cs,h1 with
       |[a0,a1,a2,a3,a4,a5,a6,a7,a8,a9,a10,a11],_=>
       have:a0=v:=by simpa using hv1
       subst this;cases hv2;exact⟨a1,a2,a3,a4,a5,a6,a7,a8,a9,a10,a11,rfl⟩
      obtain⟨v1,v2,v3,v4,v5,v6,v7,v8,v9,v10,v11,ex⟩:=nm x;obtain⟨u1,u2,u3,u4,u5,u6,u7,u8,u9,u10,u11,ey⟩:=nm y;have hkept:(sortWorldK (λp:Pl w U ρ zh (λ_=>True)=>p.1.1) 12 w B 0 m dk os).heap[b0]?=w.heap[b0]?:=gF dk hbl hne
      have:=Tryz.cmp56 ⟨(x.1.2.1.1:zB).toArray⟩ ⟨(y.1.2.1.1:zB).toArray⟩ v1 v2 v3 v4 v5 v6 v7 v8 v9 v10 v11 u1 u2 u3 u4 u5 u6 u7 u8 u9 u10 u11 b0 (sortWorldK (λp:Pl w U ρ zh (λ_=>True)=>p.1.1) 12 w B 0 m dk os)
       (by rw[World.cell?_of_block hkept];exact hcell) (iA hbl (by unfold sortWorldK grow putRowK;simp[Sort.ahead]))
      show Calls Tryz.prog 56 (#[Value.agg x.1.1.toArray,Value.agg y.1.1.toArray]++#[Value.pointer (Q1 ⟨b0,0,Q2⟩)]) _ _;rw[ex,ey];exact this
    ·rintro e' w' ⟨l',hp',hs',v',U',ρ',rfl,hef⟩;rw[Ty h2 hp' hs']at hef;exact⟨v',U',ρ',rfl,hef⟩
   ·simp at hf
  ·simp at hf
open Go Go.Proofs
noncomputable def aj(db:List (Sem zh))(p:Sem zz):List (Sem zh):=(bD p.2.1 p.2.2.1).map λn=>kl (aA (bD p.2.1 p.2.2.1)) (az db n)
theorem EE{l:List (Sem zh)}{x:Sem zh}:x∈fy l↔x∈l:=by
 match l with
 |[]=>rfl
 |[_]=>rfl
 | [a,b]=>
  rw[qI];split
  ·simp[or_comm]
  ·exact Iff.rfl
 |_::_::_::_=>rfl
theorem Ey(l:List (Sem zh)):(fy l).length=l.length:=by
 match l with
 |[]=>rfl
 |[_]=>rfl
 |[a,b]=>rw[qI];split<;>rfl
 |_::_::_::_=>rfl
theorem HJ{db:List (Sem zh)}{s:Sem zk}(hp:(dd db s).1=0):(dd db s).2.1=s.1/\(dd db s).2.2.1=s.2.2.1/\(dd db s).2.2.2.1=dG s:=by
 unfold dd at hp⊢;split at hp
 ·rename_i h;rw[if_pos h,(lr hp).2];exact⟨rfl,rfl,rfl⟩
 ·rename_i h;split at hp
  ·rename_i h';rw[if_neg h,if_pos h',(lr hp).2];exact⟨rfl,rfl,rfl⟩
  ·rename_i h';split at hp
   ·rename_i h'';rw[if_neg h,if_neg h',if_pos h'',(lr hp).2];exact⟨rfl,rfl,rfl⟩
   ·cases hp
theorem Oq{s:Sem zk}(h:eW s=Q3)(ho:s.1=[106,111,105,110]):dG s≠[]:=by
 obtain⟨o,s2,s3,s4,s5,s6,s7,s8,s9,s10,uu,s12,s13⟩:=s;have ho:o=[106,111,105,110]:=ho;subst ho;obtain⟨_,hp⟩:=ej (s:=([106,111,105,110],s2,s3,s4,s5,s6,s7,s8,s9,s10,uu,s12,s13)) (g:=_) (b:=_) rfl;rw[hp]at h;intro hr;have hr:s13=[]:=hr;subst hr;rw[show bP []=Q4 from rfl]at h;cases h1:bP s2<;>cases h2:bP s3<;>cases h3:bP s6<;>simp[h1,h2,h3]at h
theorem MX{db:List (Sem zh)}{s:Sem zk}(hp:(aT db s).1=0):jn s.1/\dV s=Q3/\ki db=(0:Int)/\(∀n∈bD s.2.2.1 (dG s),LE.le (α:=Int) 0 (zS db n))/\s.2.2.1≠dG s/\aT db s=dd db s:=by
 unfold aT at hp;split at hp
 case isFalse=>cases hp
 rename_i hm;split at hp
 case isFalse h=>exact absurd hp h
 rename_i h0;refine⟨hm.1,hm.2.1,hm.2.2,?_,?_,by unfold aT;rw[if_pos hm,if_pos h0]⟩
 ·unfold nD at h0;split at h0
  ·assumption
  ·cases h0
 ·unfold nD at h0;split at h0
  case isFalse=>cases h0
  split at h0
  case isTrue=>cases h0
  rename_i h2;intro e;apply h2;have e:s.2.2.1=s.t.t.t:=e;rw[<-e];simp
theorem O0{db:List (Sem zh)}{s:Sem zk}(hdb:∀x∈db,gB x)(hp:(aT db s).1=0)(sh:lJ s):
  aT (fy (aj db (aT db s).2)) (iE (aT db s).2 (aj db (aT db s).2))=(0,(aT db s).2)/\(aj db (aT db s).2).map (λx:Sem zh=>x.1.1)=bD (aT db s).2.2.1 (aT db s).2.2.2.1/\(fy (aj db (aT db s).2)).Pairwise (λx y:Sem zh=>Op.bytesLess x.1.1 y.1.1=Q3)/\iE (aT db s).2 (aj db (aT db s).2)=s/\(∀x∈fy (aj db (aT db s).2),gB x)/\two (aj db (aT db s).2)=Q3:=by
 obtain⟨hm,hmay,hb,hf,hne,hask⟩:=MX hp;have hB:=(jV hdb).1 hb;have hparts:=lD hmay;have hp0:(dd db s).1=0:=by rw[<-hask];exact hp
 obtain⟨f1,f2,f3⟩:=HJ hp0;have hp2:aT db s=(0,(aT db s).2):=by rw[<-hp]
 rw[hask]at hp2⊢;generalize hns:bD (dd db s).2.2.1 (dd db s).2.2.2.1=ns;have hns':bD s.2.2.1 (dG s)=ns:=by rw[<-hns,f2,f3]
 rw[hns']at hf;have hsrc:aj db (dd db s).2=ns.map λn=>kl (aA ns) (az db n):=by unfold aj;rw[hns]
 rw[hsrc];have hname:∀n∈ns,(az db n).1.1=n:=λn hn=>(lP (hf n hn)).2
 have hmem:∀x∈fy (ns.map λn=>kl (aA ns) (az db n)),∃n∈ns,x=kl (aA ns) (az db n):=λx hx=>by
  obtain⟨n,hn,rfl⟩:=bl.1 (EE.1 hx);exact⟨n,hn,rfl⟩
 have hthere:∀n∈ns,kl (aA ns) (az db n)∈fy (ns.map λn=>kl (aA ns) (az db n)):=λn hn=>EE.2 (bl.2 ⟨n,hn,rfl⟩)
 have hlen:ns.length<=2:=by rw[<-hns];unfold bD;split<;>simp
 have hpw:(fy (ns.map λn=>kl (aA ns) (az db n))).Pairwise λx y:Sem zh=>Op.bytesLess x.1.1 y.1.1=Q3:=by
  by_cases hr:(dG s==[])=Q3
  ·have e:ns=[s.2.2.1]:=by rw[<-hns'];unfold bD;rw[if_pos hr]
   rw[e];simp[fy]
  ·have e:ns=[s.2.2.1,dG s]:=by rw[<-hns'];unfold bD;rw[if_neg hr]
   have n1:=hname s.2.2.1 (by rw[e];simp);have n2:=hname (dG s) (by rw[e];simp);rw[e];show(fy [kl _ (az db s.2.2.1),kl _ (az db (dG s))]).Pairwise _;rw[qI];split
   ·rename_i h;simp only[List.pairwise_cons,fZ,forall_eq,List.not_mem_nil,false_implies,implies_true,List.Pairwise.nil,and_true];exact h
   ·rename_i h;simp only[List.pairwise_cons,fZ,forall_eq,List.not_mem_nil,false_implies,implies_true,List.Pairwise.nil,and_true];refine jA (by simpa using h) ?_;show(az db (dG s)).1.1≠(az db s.2.2.1).1.1;rw[n1,n2];exact λe=>hne e.symm
 generalize hdb':fy (ns.map λn=>kl (aA ns) (az db n))=db' at hmem hthere hpw;have hfind:∀n∈ns,LE.le (α:=Int) 0 (zS db' n):=λn hn=>by
  have:=Mr (hthere n hn)
  rwa [show(kl (aA ns) (az db n)).1.1=n from hname n hn]at this
 have hB':iF db':=hB.src (p:=aA ns) (by rw[<-hdb',Ey,cX];omega) hpw (λy hy=>by
  obtain⟨n,hn,rfl⟩:=hmem y hy;exact⟨_,(lP (hf n hn)).1,rfl⟩) (λn hn=>hfind n ((kA _ _).1 hn))
 have hsh:∀x∈db',gB x:=λx hx=>by
  obtain⟨n,hn,rfl⟩:=hmem x hx;have:=hdb _ (lP (hf n hn)).1;exact⟨this.uq,cy (List.length_filter_le _ _) this.rf,this.rw⟩
 have htab:∀n∈ns,au db' n=Kg (aA ns) (au db n):=λn hn=>by
  obtain⟨h1,h2⟩:=lP (hfind n hn);obtain⟨m,hm,e⟩:=hmem _ h1;have:m=n:=by
   rw[e]at h2;rw[<-hname m hm];exact h2
  subst this;show(az db' m).1=_;rw[e];rfl
 have hback:iE (dd db s).2 (ns.map λn=>kl (aA ns) (az db n))=s:=by
  refine O2 hp0 hm hparts sh ?_;have:∃r,ns=s.2.2.1::r:=by rw[<-hns'];unfold bD;split<;>exact⟨_,rfl⟩
  obtain⟨r,e⟩:=this;rw[e];rfl
 have htwo:two (ns.map λn=>kl (aA ns) (az db n))=Q3:=by
  by_cases hr:(dG s==[])=Q3
  ·have e:ns=[s.2.2.1]:=by rw[<-hns'];unfold bD;rw[if_pos hr]
   rw[e];rfl
  ·have e:ns=[s.2.2.1,dG s]:=by rw[<-hns'];unfold bD;rw[if_neg hr]
   have n1:=hname s.2.2.1 (by rw[e];simp);have n2:=hname (dG s) (by rw[e];simp);rw[e];show(!((az db s.2.2.1).1.1:zB)==(az db (dG s)).1.1)=Q3;rw[n1,n2];simpa using hne
 refine⟨?_,?_,hpw,hback,hsh,htwo⟩
 ·rw[hback];refine(S1 hp ((jV hsh).2 hB') (λn hn=>?_) (λx hx=>?_) (λho=>Oq hparts ho)).1.trans (by rw[hask];exact hp2)
  ·rw[hns']at hn⊢;refine⟨hfind n hn,?_⟩;rw[htab n hn];refine⟨rfl,rfl,λf hfn=>?_⟩;show f∈(au db n).t.1.filter (λf:Sem zr=>aA ns f.2)↔_;rw[List.mem_filter,(kA _ _).2 hfn];simp
  ·rw[hns'];obtain⟨n,hn,rfl⟩:=hmem x hx;obtain⟨h1,h2⟩:=lP (hf n hn);exact⟨by show(az db n).1.1∈ns;rw[h2];exact hn,_,h1,rfl⟩
 ·rw[oz]
  conv=>rhs;rw[<-List.map_id ns]
  exact List.map_congr_left λn hn=>hname n hn
noncomputable abbrev wT(l:List (Sem zf)):Tr zC:=run Ee 0 VV (Func.results Tryz.f32).toList 300 (bw Tryz.f32) (be (Func.ntmps Tryz.f32) [.sl zf l] [])
theorem MJ:zI Ee.P 32 Tryz.f32 1:=bU kw
theorem zgd(l:List (Sem zf)):wT l=.ok (.fork l.isEmpty (dQ (wT l)).1 (dQ (wT l)).2.1 (dQ (wT l)).2.2):=kw
theorem zcs(l:List (Sem zf)):run Ee 0 VV (Func.results Tryz.f32).toList 300 (dQ (wT l)).1 (dQ (wT l)).2.2=.ok (.ret .nils []):=kw
theorem zct(l:List (Sem zf)):run Ee 0 VV (Func.results Tryz.f32).toList 300 (dQ (wT l)).2.1 (dQ (wT l)).2.2=.chk (Q0 (l.length<=1073741824)) (.ok (.ret (.vec 0) [.vec zf l])):=kw
def zfE:iw [Q1 (.sl zf)]:=λx h=>match h with
 |[]=>.chk (Q0 (length x.1<=1073741824)) (.ok (.vec 0,[.vec zf x.1]))
 |_=>.err
def zdG:zX:=bm [Q1 (.sl zf)] zfE
theorem ZW:FK 32 zdG:=by
 refine dH MJ λx h0 res hx C hC=>?_
 unfold zfE at hx;split at hx
 ·simp only[Q8]at hx;split at hx
  ·rename_i hl;simp only[bB]at hx;subst hx;obtain⟨l,u⟩:=x;refine zD (n0:=0) me MJ hC (zgd l) ?_;refine⟨λhe=>?_,?_⟩
   ·have hn:l=[]:=List.isEmpty_iff.1 he;refine Reach.weaken (Q:=λr h=>(r,h)=(.vec 0,[.vec zf []])) (Reach.promNil zf (λid=>hC id sw) (zD (n0:=0) me MJ hC (zcs l) rfl)) ?_;intro r h hq;cases hq;refine⟨_,?_,λ_ _ _ _ h=>h⟩;show(AV.vec 0,[AO.vec zf []])=(AV.vec 0,[AO.vec zf l]);rw[hn]
   ·exact zD (n0:=0) me MJ hC (zct l) (jU hl rfl)
  ·cases hx
 ·simp at hx
noncomputable def QP:=Ee.add 32 zdG
theorem rY:zw QP:=me.add ZW
noncomputable section
def VG(x0:Sem zz)(x1:Sem zh.sl):Tr (Empty⊕aw):=
 let a0:=getD x1 (toNat 0) (zi zh)
 br (x0.1==[99,111,112,121]) (Qc (zM 0 (length x1)) (re (ai a0.1.2.2.1) []))
 (br (x0.1==[106,111,105,110]) (re (ai x0.t.2) [])
  (Qc (zM 0 (length x0.t.1)) (re (ai (getD x0.t.1 (toNat 0) (zi zg))) [])))
def uM(x0:Sem zz)(x1:Sem zh.sl):=al [zg] t0 100000000 (VG x0 x1)
def jd(x0:Sem zz)(x1:Sem zh.sl):=(uM x0 x1).isSome
def bT(x0:Sem zz)(x1:Sem zh.sl):=o1 (uM x0 x1)
def zdF:=FT [zz,zh.sl] [zg] λx=>uM x.1 x.2.1
theorem ZV:FK 31 zdF:=rY.T1 (f:=Tryz.f31) (keep:=k0) (e:=e0)
abbrev zhf:=mM [(7,[4,5,52,53,54])]
inductive Hw where
 |h7 (l52:List (Sem zj)) (i53:Int) (i54:Int) (ja0:List UInt8) (ja1:List UInt8) (ja2:List UInt8) (ja5:List UInt8) (ja8:List UInt8) (ja9:Int) (ja10:Int) (ja11:List UInt8) (ja12:List UInt8) (ja16:List UInt8) (ja17:Int) (ja18:Int) (ja19:List UInt8) (ja20:List UInt8) (ja22:List UInt8) (jb0:Sem Q6) (jb1:Sem Q6) (jb2:Sem Q6) (jb5:List UInt8) (jb8:zB) (jb9:Int) (jb10:Int) (jb11:zB) (jb12:zB) (jb13:List (Sem Q5)) (jb16:List UInt8) (jb17:Int) (jb18:Int) (jb19:List UInt8) (jb20:List UInt8) (jb22:Sem Q6)
 |h7b (l52:List (Sem zj)) (i53:Int) (i54:Int) (ja0:List UInt8) (ja1:List UInt8) (ja2:List UInt8) (ja5:List UInt8) (ja8:List UInt8) (ja9:Int) (ja10:Int) (ja11:List UInt8) (ja12:List UInt8) (ja16:List UInt8) (ja17:Int) (ja18:Int) (ja19:List UInt8) (ja20:List UInt8) (ja22:List UInt8) (jb0:Sem Q6) (jb1:Sem Q6) (jb2:Sem Q6) (jb5:List UInt8) (jb8:zB) (jb9:Int) (jb10:Int) (jb11:zB) (jb12:zB) (jb13:List (Sem Q5)) (jb16:List UInt8) (jb17:Int) (jb18:Int) (jb19:List UInt8) (jb20:List UInt8) (jb22:Sem Q6) (lh_2:List (Sem Q6))
abbrev zjO:Hw->Nat×St
 |.h7 l52 i53 i54 ja0 ja1 ja2 ja5 ja8 ja9 ja10 ja11 ja12 ja16 ja17 ja18 ja19 ja20 ja22 jb0 jb1 jb2 jb5 jb8 jb9 jb10 jb11 jb12 jb13 jb16 jb17 jb18 jb19 jb20 jb22=>(7,⟨tm 67 [(4,ptr 0 0),(5,ptr 1 0),(52,sl zj l52),(53,ai i53),(54,ai i54)],[Qa [str ja0,str ja1,str ja2,Qb,Qb,str ja5,Qb,Qb,str ja8,ai ja9,ai ja10,str ja11,str ja12,Qb,Qb,Qb,str ja16,ai ja17,ai ja18,str ja19,str ja20,Qb,str ja22],Qa [str jb0,str jb1,str jb2,Qb,Qb,str jb5,Qb,Qb,str jb8,ai jb9,ai jb10,str jb11,str jb12,sl Q5 jb13,Qb,Qb,str jb16,ai jb17,ai jb18,str jb19,str jb20,Qb,str jb22]]⟩)
 |.h7b l52 i53 i54 ja0 ja1 ja2 ja5 ja8 ja9 ja10 ja11 ja12 ja16 ja17 ja18 ja19 ja20 ja22 jb0 jb1 jb2 jb5 jb8 jb9 jb10 jb11 jb12 jb13 jb16 jb17 jb18 jb19 jb20 jb22 lh_2=>(7,⟨tm 67 [(4,ptr 0 0),(5,ptr 1 0),(52,sl zj l52),(53,ai i53),(54,ai i54)],[Qa [str ja0,str ja1,str ja2,Qb,Qb,str ja5,Qb,Qb,str ja8,ai ja9,ai ja10,str ja11,str ja12,Qb,Qb,Qb,str ja16,ai ja17,ai ja18,str ja19,str ja20,Qb,str ja22],Qa [str jb0,str jb1,str jb2,AV.vec 2,Qb,str jb5,Qb,Qb,str jb8,ai jb9,ai jb10,str jb11,str jb12,sl Q5 jb13,Qb,Qb,str jb16,ai jb17,ai jb18,str jb19,str jb20,Qb,str jb22],AO.vec Q6 lh_2]⟩)
def VN(x0:Sem zz)(x1:Sem zh.sl):Tr (Hw⊕aw):=
 let a0:=Q0 (x0.t.2>=0)
 let a1:=zM 0 (length x1)
 let a2:=getD x1 (toNat 0) (zi zh)
 let a3:=(↑(length a2.1.2.1):Int)
 let a4:=getD a2.1.2.1 (toNat x0.t.2) (zi zj)
 br (x0.1==[106,111,105,110])
 (Qc (bif a0 then a1 else Q3)
  (br (bif a0 then Q0 (x0.t.2<a3)else Q4) (Qc a1 (Qc (zM x0.t.2 (length a2.1.2.1)) (re (agg [str x0.1,str x0.2.2.2.1.1,str x0.2.1,Qb,Qb,str a4.1,Qb,Qb,str (ze.op x0.2.2.2.1.t.2),ai (ze.v x0.2.2.2.1.t.2).1,
  ai (ze.v x0.2.2.2.1.t.2).2.1,str (ze.v x0.2.2.2.1.t.2).2.2,str (ze.s x0.2.2.2.1.t.2),sl Q5 (ze.l x0.2.2.2.1.t.2),Qb,Qb,str [],ai 0,ai 0,str [],str [],Qb,str x0.2.2.1]) []))) (re (agg
  [str x0.1,str x0.2.2.2.1.1,str x0.2.1,Qb,Qb,str [],Qb,Qb,str (ze.op x0.2.2.2.1.t.2),ai (ze.v x0.2.2.2.1.t.2).1,ai (ze.v x0.2.2.2.1.t.2).2.1,str (ze.v x0.2.2.2.1.t.2).2.2,str (ze.s x0.2.2.2.1.t.2),sl Q5 (ze.l x0.2.2.2.1.t.2),Qb,Qb,
  str [],ai 0,ai 0,str [],str [],Qb,str x0.2.2.1]) [])))
 (Q9
  (Hw.h7 x0.2.2.2.1.2.1 (↑(length x0.2.2.2.1.2.1):Int) 0 [] [] [] [] [] 0 0 [] [] [] 0 0 [] [] [] x0.1 x0.2.2.2.1.1 x0.2.1 [] (ze.op x0.2.2.2.1.t.2) (ze.v x0.2.2.2.1.t.2).1 (ze.v x0.2.2.2.1.t.2).2.1 (ze.v x0.2.2.2.1.t.2).2.2 (ze.s x0.2.2.2.1.t.2) (ze.l x0.2.2.2.1.t.2) [] 0 0 [] [] x0.2.2.1))
def xK:Hw->Tr (Hw⊕aw)
 | .h7 l52 i53 i54 ja0 ja1 ja2 ja5 ja8 ja9 ja10 ja11 ja12 ja16 ja17 ja18 ja19 ja20 ja22 jb0 jb1 jb2 jb5 jb8 jb9 jb10 jb11 jb12 jb13 jb16 jb17 jb18 jb19 jb20 jb22=>
  let a0:=l52.getD i54.toNat (zi zj)
  let a1:=[a0.1]
  br (Q0 (i54<i53))
  (Qc (zM i54 l52.length) (Qc (Q0 (a1.length<=1073741824)) (Q9 (Hw.h7b l52 i53 (IntKind.i64.wrap (i54+1)) ja0 ja1 ja2 ja5 ja8 ja9 ja10 ja11 ja12 ja16 ja17 ja18 ja19 ja20 ja22 jb0 jb1 jb2 jb5 jb8 jb9 jb10 jb11 jb12 jb13 jb16 jb17 jb18 jb19 jb20 jb22 a1))))
  (re (agg [str jb0,str jb1,str jb2,Qb,Qb,str jb5,Qb,Qb,str jb8,ai jb9,ai jb10,str jb11,str jb12,sl Q5 jb13,Qb,Qb,str jb16,ai jb17,ai jb18,str jb19,str jb20,Qb,str jb22]) [])
 | .h7b l52 i53 i54 ja0 ja1 ja2 ja5 ja8 ja9 ja10 ja11 ja12 ja16 ja17 ja18 ja19 ja20 ja22 jb0 jb1 jb2 jb5 jb8 jb9 jb10 jb11 jb12 jb13 jb16 jb17 jb18 jb19 jb20 jb22 lh_2=>
  let a0:=l52.getD i54.toNat (zi zj)
  let a1:=[a0.1]
  br (Q0 (i54<i53))
  (Qc (zM i54 l52.length) (Qc (Q0 (lh_2.length+a1.length<=1073741824)) (Q9 (Hw.h7b l52 i53 (IntKind.i64.wrap (i54+1)) ja0 ja1 ja2 ja5 ja8 ja9 ja10 ja11 ja12 ja16 ja17 ja18 ja19 ja20 ja22 jb0 jb1 jb2 jb5 jb8 jb9 jb10 jb11 jb12 jb13 jb16 jb17 jb18 jb19 jb20 jb22 (lh_2++a1)))))
  (re (agg [str jb0,str jb1,str jb2,AV.vec 0,Qb,str jb5,Qb,Qb,str jb8,ai jb9,ai jb10,str jb11,str jb12,sl Q5 jb13,Qb,Qb,str jb16,ai jb17,ai jb18,str jb19,str jb20,Qb,str jb22]) [AO.vec Q6 lh_2])
def F6(x0:Sem zz)(x1:Sem zh.sl):=al [zk] xK 100000000 (VN x0 x1)
def K3(x0:Sem zz)(x1:Sem zh.sl):=(F6 x0 x1).isSome
def ST(x0:Sem zz)(x1:Sem zh.sl):=o1 (F6 x0 x1)
def zdZ:=FT [zz,zh.sl] [zk] λx=>F6 x.1 x.2.1
theorem zai:FK 59 zdZ:=rY.T1 (f:=Tryz.f59) (keep:=zhf) (e:=zjO)
def QQ:=QP.addL [(31,zdF),(59,zdZ)]
theorem Kq:zw QQ:=rY.addL<|fc ZV<|fc zai<|jm
end
noncomputable def zk4(x0:Sem zh):Tr (Empty⊕aw):=
 re (str x0.1.1) []
noncomputable def To(x0:Sem zh):=al [Q6] t0 100000000 (zk4 x0)
noncomputable def zji:=FT [zh] [Q6] λx=>To x.1
theorem zae:FK 52 zji:=me.T1 (f:=Tryz.f52) (keep:=k0) (e:=e0)
theorem zaf:FK 52 (aC [zh] [.str] λx=>(x.1.1.1,())):=gJ zae λ_=>rfl
noncomputable def Yg:=((((QQ.add 52 (aC [zh] [.str] λx=>(x.1.1.1,()))).add 92 Za).aut 54 Tryz.f54 2).aut 55 Tryz.f55 1)
theorem Eg:zw Yg:=g6 (g6 ((Kq.add zaf).add zaJ) (bU kw)) (bU kw)
noncomputable section
abbrev zg1:=mM [(6,[1,2,5,6,19,20,21])]
inductive ND where
 |h6 (l1:List (Sem zh)) (l6:List (Sem Q6)) (l19:List (Sem zh)) (i20:Int) (i21:Int) (z0:zn [CP.d zz])
abbrev zjG:ND->Nat×St
 |.h6 l1 l6 l19 i20 i21 z0=>(6,⟨tm 55 [(1,sl zh l1),(2,ptr 0 0),(5,ptr 1 0),(6,sl Q6 l6),(19,sl zh l19),(20,ai i20),(21,ai i21)],[Qa (bC [] [CP.d zz] z0),Qa [AV.clo (Fn.func 52) [] []]]⟩)
def zgC(x0:Sem zz)(x1:Sem zh.sl):Tr (ND⊕aw):=
 let a0:=kF (x0.1,x0.2.1,x0.2.2.1,(x0.2.2.2.1.1,x0.2.2.2.1.2.1,x0.2.2.2.1.2.2.1,x0.2.2.2.1.2.2.2.1,x0.2.2.2.1.t.1,zm x0.2.2.2.1.t.2),x0.t)
 br ((↑(length x1):Int)!=(↑(length a0):Int)) (re (ai 1) []) (Q9 (ND.h6 x1 a0 x1 (↑(length x1):Int) 0 (x0,())))
def WE:ND->Tr (ND⊕aw)
 | .h6 l1 l6 l19 i20 i21 z0=>
  let a0:=l19.getD i21.toNat (zi zh)
  let a1:=(z0.1.1,z0.1.2.1,z0.1.2.2.1,(z0.1.2.2.2.1.1,z0.1.2.2.2.1.2.1,z0.1.2.2.2.1.2.2.1,z0.1.2.2.2.1.2.2.2.1,z0.1.2.2.2.1.t.1,zm z0.1.2.2.2.1.t.2),z0.1.t)
  let a2:=ST a1 l1
  let a3:=(a2.1,a2.2.1,a2.2.2.1,a2.2.2.2.1,a2.t.1,a2.t.2.1,a2.t.q.1,a2.t.q.2.1,zm a2.t.t.1,a2.t.t.2.1,a2.t.t.q.1,zm a2.t.t.q.2.1,a2.t.t.t)
  let a4:=pOf (fy l1) a3
  let a5:=a4.2!=0
  let a6:=(a4.1.1,a4.1.2.1,a4.1.2.2.1,(a4.1.2.2.2.1.1,a4.1.2.2.2.1.2.1,a4.1.2.2.2.1.2.2.1,a4.1.2.2.2.1.2.2.2.1,a4.1.2.2.2.1.t.1,zm a4.1.2.2.2.1.t.2),a4.1.t)
  br (Q0 (i21<i20))
  (Qc (zM i21 l19.length) (Qc (zM i21 l6.length) (br (!a0.1.1==l6.getD i21.toNat (zi Q6)) (re (ai 1) []) (Q9 (ND.h6 l1 l6 l19 i20 (IntKind.i64.wrap (i21+1)) z0)))))
  (Qc (Q0 (0<l1.length)) (Qc (Q0 (l1.length<=1000)) (Qc (two l1) (Qc (K3 a1 l1) (Qc (zcw (fy l1) a3) (Qc (bif a5 then Q3 else F4 a1 a6) (br (bif a5 then Q3 else !IY a1 a6) (re (ai 1) []) (re (ai 0) []))))))))
def MU(x0:Sem zz)(x1:Sem zh.sl):=al [zg] WE 100000000 (zgC x0 x1)
def IW(x0:Sem zz)(x1:Sem zh.sl):=(MU x0 x1).isSome
def SR(x0:Sem zz)(x1:Sem zh.sl):=o1 (MU x0 x1)
def zdA:=FT [zz,zh.sl] [zg] λx=>MU x.1 x.2.1
theorem ZQ:FK 29 zdA:=Eg.T1 (f:=Tryz.f29) (keep:=zg1) (e:=zjG)
def Yh:=Yg.add 29 zdA
theorem pM:zw Yh:=Eg.add ZQ
end
noncomputable section
abbrev zgQ:=mM [(6,[5,8,9,22,23,24])]
inductive CY where
 |h6 (i8:Sem zg) (l22:List (Sem zf.sl)) (i23:Int) (i24:Int) (z0:zn [CP.d zf])
 |h6b (i8:Sem zg) (l22:List (Sem zf.sl)) (i23:Int) (i24:Int) (z0:zn [CP.d zf]) (lh_1:List (Sem zf.sl))
abbrev zjy:CY->Nat×St
 |.h6 i8 l22 i23 i24 z0=>(6,⟨tm 46 [(5,ptr 0 0),(8,ai i8),(9,Qb),(22,sl zf.sl l22),(23,ai i23),(24,ai i24)],[Qa (bC [] [CP.d zf] z0)]⟩)
 |.h6b i8 l22 i23 i24 z0 lh_1=>(6,⟨tm 46 [(5,ptr 0 0),(8,ai i8),(9,AV.vec 1),(22,sl zf.sl l22),(23,ai i23),(24,ai i24)],[Qa (bC [] [CP.d zf] z0),AO.vec zf.sl lh_1]⟩)
def zbA(x0:Sem zz)(x1:Sem zh.sl)(x2:Sem zf):Tr (CY⊕aw):=
 let a0:=(x0.1,x0.2.1,x0.2.2.1,(x0.2.2.2.1.1,x0.2.2.2.1.2.1,x0.2.2.2.1.2.2.1,x0.2.2.2.1.2.2.2.1,x0.2.2.2.1.t.1,zm x0.2.2.2.1.t.2),x0.t)
 let a1:=getD x1 (toNat 0) (zi zh)
 Qc (IW a0 x1)
 (br (SR a0 x1 !=0) (re (tup [Qb,ai 1]) [])
  (Qc (jd a0 x1) (Qc (zM 0 (length x1)) (Q9 (CY.h6 (bT a0 x1) a1.2 (↑(length a1.2):Int) 0 (x2,()))))))
def xJ:CY->Tr (CY⊕aw)
 | .h6 i8 l22 i23 i24 z0=>
  let a0:=l22.getD i24.toNat (zi zf.sl)
  let a1:=getD a0 (toNat i8) (zi zf)
  let a2:=[a0]
  let a3:=IntKind.i64.wrap (i24+1)
  br (Q0 (i24<i23))
  (Qc (zM i24 l22.length) (Qc (zM i8 (length a0)) (br (bif a1.1==z0.1.1&&(a1.2.1==z0.1.2.1&&(a1.2.2==z0.1.2.2&&Q3))then z0.1.1!=0 else Q4) (Qc (Q0 (length a0<=1073741824)) (Qc (Q0 (a2.length<=1073741824)) (Q9 (CY.h6b i8 l22 i23 a3 z0 a2)))) (Q9 (CY.h6 i8 l22 i23 a3 z0)))))
  (re (tup [Qb,ai 0]) [])
 | .h6b i8 l22 i23 i24 z0 lh_1=>
  let a0:=l22.getD i24.toNat (zi zf.sl)
  let a1:=getD a0 (toNat i8) (zi zf)
  let a2:=[a0]
  let a3:=IntKind.i64.wrap (i24+1)
  br (Q0 (i24<i23))
  (Qc (zM i24 l22.length) (Qc (zM i8 (length a0)) (br (bif a1.1==z0.1.1&&(a1.2.1==z0.1.2.1&&(a1.2.2==z0.1.2.2&&Q3))then z0.1.1!=0 else Q4) (Qc (Q0 (length a0<=1073741824)) (Qc (Q0 (lh_1.length+a2.length<=1073741824)) (Q9 (CY.h6b i8 l22 i23 a3 z0 (lh_1++a2))))) (Q9 (CY.h6b i8 l22 i23 a3 z0 lh_1)))))
  (re (tup [AV.vec 0,ai 0]) [AO.vec zf.sl lh_1])
def CM(x0:Sem zz)(x1:Sem zh.sl)(x2:Sem zf):=al [zf.sl.sl,zg] xJ 100000000 (zbA x0 x1 x2)
def LN(x0:Sem zz)(x1:Sem zh.sl)(x2:Sem zf):=(CM x0 x1 x2).isSome
def TN(x0:Sem zz)(x1:Sem zh.sl)(x2:Sem zf):=o2 (CM x0 x1 x2)
def zc8:=FT [zz,zh.sl,zf] [zf.sl.sl,zg] λx=>CM x.1 x.2.1 x.2.2.1
theorem Zm:FK 11 zc8:=pM.T1 (f:=Tryz.f11) (keep:=zgQ) (e:=zjy)
abbrev zhc:=mM [(4,[1,6,7,8]),(12,[1,6,7,8,10,11,12])]
inductive lI where
 |h4 (l1:List (Sem zh)) (l6:List (Sem Q6)) (i8:Int)
 |h12 (l1:List (Sem zh)) (l6:List (Sem Q6)) (i8:Int) (i12:Int) (z0:zn [CP.d zh])
 |h12b (l1:List (Sem zh)) (l6:List (Sem Q6)) (i8:Int) (i12:Int) (z0:zn [CP.d zh]) (lh_1:List (Sem zr))
 |h4b (l1:List (Sem zh)) (l6:List (Sem Q6)) (i8:Int) (lh_0:List (Sem zh))
 |h12bb (l1:List (Sem zh)) (l6:List (Sem Q6)) (i8:Int) (i12:Int) (z1:zn [CP.d zh]) (lh_0:List (Sem zh))
 |h12bbb (l1:List (Sem zh)) (l6:List (Sem Q6)) (i8:Int) (i12:Int) (z1:zn [CP.d zh]) (lh_0:List (Sem zh)) (lh_2:List (Sem zr))
abbrev zjM:lI->Nat×St
 |.h4 l1 l6 i8=>(4,⟨tm 67 [(1,sl zh l1),(6,sl Q6 l6),(7,Qb),(8,ai i8)],[]⟩)
 |.h12 l1 l6 i8 i12 z0=>(12,⟨tm 67 [(1,sl zh l1),(6,sl Q6 l6),(7,Qb),(8,ai i8),(10,ptr 0 0),(11,Qb),(12,ai i12)],[Qa (bC [] [CP.d zh] z0)]⟩)
 |.h12b l1 l6 i8 i12 z0 lh_1=>(12,⟨tm 67 [(1,sl zh l1),(6,sl Q6 l6),(7,Qb),(8,ai i8),(10,ptr 0 0),(11,AV.vec 1),(12,ai i12)],[Qa (bC [] [CP.d zh] z0),AO.vec zr lh_1]⟩)
 |.h4b l1 l6 i8 lh_0=>(4,⟨tm 67 [(1,sl zh l1),(6,sl Q6 l6),(7,AV.vec 0),(8,ai i8)],[AO.vec zh lh_0]⟩)
 |.h12bb l1 l6 i8 i12 z1 lh_0=>(12,⟨tm 67 [(1,sl zh l1),(6,sl Q6 l6),(7,AV.vec 0),(8,ai i8),(10,ptr 1 0),(11,Qb),(12,ai i12)],[AO.vec zh lh_0,Qa (bC [] [CP.d zh] z1)]⟩)
 |.h12bbb l1 l6 i8 i12 z1 lh_0 lh_2=>(12,⟨tm 67 [(1,sl zh l1),(6,sl Q6 l6),(7,AV.vec 0),(8,ai i8),(10,ptr 1 0),(11,AV.vec 2),(12,ai i12)],[AO.vec zh lh_0,Qa (bC [] [CP.d zh] z1),AO.vec zr lh_2]⟩)
def zbI(x0:Sem zz)(x1:Sem zh.sl):Tr (lI⊕aw):=
 let a0:=(x0.1,x0.2.1,x0.2.2.1,(x0.2.2.2.1.1,x0.2.2.2.1.2.1,x0.2.2.2.1.2.2.1,x0.2.2.2.1.2.2.2.1,x0.2.2.2.1.t.1,zm x0.2.2.2.1.t.2),x0.t)
 Qc (jr a0) (Q9 (lI.h4 x1 (kG a0) 0))
def fW:lI->Tr (lI⊕aw)
 | .h4 l1 l6 i8=>
  let a0:=kL l1 (l6.getD i8.toNat (zi Q6))
  br (Q0 (i8<(↑l6.length:Int)))
  (Qc (zM i8 l6.length) (br (Q0 (a0<0)) (re (tup [Qb,kb Q4]) []) (Qc (zM a0 l1.length) (Q9 (lI.h12 l1 l6 i8 0 (l1.getD (toNat a0) (zi zh),()))))))
  (re (tup [Qb,kb Q3]) [])
 | .h12 l1 l6 i8 i12 z0=>
  let a0:=(↑(length z0.1.1.t.1):Int)
  let a1:=zM i12 (length z0.1.1.t.1)
  let a2:=getD z0.1.1.t.1 i12.toNat (zi zr)
  let a3:=[a2]
  let a4:=IntKind.i64.wrap (i12+1)
  let a5:=[((z0.1.1.1,z0.1.1.2.1,z0.1.1.2.2.1,z0.1.1.2.2.2.1,[],zm z0.1.1.t.2),z0.1.2)]
  br (Q0 (i12<a0))
  (Qc a1 (Qc (xt l6 a2.2) (br (Jr l6 a2.2) (Qc a1 (Qc (Q0 (a3.length<=1073741824)) (Q9 (lI.h12b l1 l6 i8 a4 z0 a3)))) (Q9 (lI.h12 l1 l6 i8 a4 z0)))))
  (Qc (Q0 (a5.length<=1073741824)) (Q9 (lI.h4b l1 l6 (IntKind.i64.wrap (i8+1)) a5)))
 | .h12b l1 l6 i8 i12 z0 lh_1=>
  let a0:=(↑(length z0.1.1.t.1):Int)
  let a1:=zM i12 (length z0.1.1.t.1)
  let a2:=getD z0.1.1.t.1 i12.toNat (zi zr)
  let a3:=[a2]
  let a4:=IntKind.i64.wrap (i12+1)
  let a5:=[((z0.1.1.1,z0.1.1.2.1,z0.1.1.2.2.1,z0.1.1.2.2.2.1,lh_1,zm z0.1.1.t.2),z0.1.2)]
  br (Q0 (i12<a0))
  (Qc a1 (Qc (xt l6 a2.2) (br (Jr l6 a2.2) (Qc a1 (Qc (Q0 (lh_1.length+a3.length<=1073741824)) (Q9 (lI.h12b l1 l6 i8 a4 z0 (lh_1++a3))))) (Q9 (lI.h12b l1 l6 i8 a4 z0 lh_1)))))
  (Qc (Q0 (a5.length<=1073741824)) (Q9 (lI.h4b l1 l6 (IntKind.i64.wrap (i8+1)) a5)))
 | .h4b l1 l6 i8 lh_0=>
  let a0:=kL l1 (l6.getD i8.toNat (zi Q6))
  br (Q0 (i8<(↑l6.length:Int)))
  (Qc (zM i8 l6.length) (br (Q0 (a0<0)) (re (tup [Qb,kb Q4]) []) (Qc (zM a0 l1.length) (Q9 (lI.h12bb l1 l6 i8 0 (l1.getD (toNat a0) (zi zh),()) lh_0)))))
  (re (tup [AV.vec 0,kb Q3]) [AO.vec zh lh_0])
 | .h12bb l1 l6 i8 i12 z1 lh_0=>
  let a0:=(↑(length z1.1.1.t.1):Int)
  let a1:=zM i12 (length z1.1.1.t.1)
  let a2:=getD z1.1.1.t.1 i12.toNat (zi zr)
  let a3:=[a2]
  let a4:=IntKind.i64.wrap (i12+1)
  let a5:=[((z1.1.1.1,z1.1.1.2.1,z1.1.1.2.2.1,z1.1.1.2.2.2.1,[],zm z1.1.1.t.2),z1.1.2)]
  br (Q0 (i12<a0))
  (Qc a1 (Qc (xt l6 a2.2) (br (Jr l6 a2.2) (Qc a1 (Qc (Q0 (a3.length<=1073741824)) (Q9 (lI.h12bbb l1 l6 i8 a4 z1 lh_0 a3)))) (Q9 (lI.h12bb l1 l6 i8 a4 z1 lh_0)))))
  (Qc (Q0 (lh_0.length+a5.length<=1073741824)) (Q9 (lI.h4b l1 l6 (IntKind.i64.wrap (i8+1)) (lh_0++a5))))
 | .h12bbb l1 l6 i8 i12 z1 lh_0 lh_2=>
  let a0:=(↑(length z1.1.1.t.1):Int)
  let a1:=zM i12 (length z1.1.1.t.1)
  let a2:=getD z1.1.1.t.1 i12.toNat (zi zr)
  let a3:=[a2]
  let a4:=IntKind.i64.wrap (i12+1)
  let a5:=[((z1.1.1.1,z1.1.1.2.1,z1.1.1.2.2.1,z1.1.1.2.2.2.1,lh_2,zm z1.1.1.t.2),z1.1.2)]
  br (Q0 (i12<a0))
  (Qc a1 (Qc (xt l6 a2.2) (br (Jr l6 a2.2) (Qc a1 (Qc (Q0 (lh_2.length+a3.length<=1073741824)) (Q9 (lI.h12bbb l1 l6 i8 a4 z1 lh_0 (lh_2++a3))))) (Q9 (lI.h12bbb l1 l6 i8 a4 z1 lh_0 lh_2)))))
  (Qc (Q0 (lh_0.length+a5.length<=1073741824)) (Q9 (lI.h4b l1 l6 (IntKind.i64.wrap (i8+1)) (lh_0++a5))))
def BA(x0:Sem zz)(x1:Sem zh.sl):=al [zh.sl,Sh.bool] fW 100000000 (zbI x0 x1)
def K9(x0:Sem zz)(x1:Sem zh.sl):=(BA x0 x1).isSome
def S8(x0:Sem zz)(x1:Sem zh.sl):=o2 (BA x0 x1)
def zdV:=FT [zz,zh.sl] [zh.sl,Sh.bool] λx=>BA x.1 x.2.1
theorem zab:FK 50 zdV:=pM.T1 (f:=Tryz.f50) (keep:=zhc) (e:=zjM)
def wX:=Yh.addL [(11,zc8),(50,zdV)]
theorem vL:zw wX:=pM.addL<|fc Zm<|fc zab<|jm
end
noncomputable def eK(p:Sem zz)(src:List (Sem zh)):Int:=if p.1=[99,111,112,121]then(getD src 0 (zi zh)).1.2.2.1 else if p.1=[106,111,105,110]then p.t.2 else getD p.t.1 0 (zi zg)
theorem O8{p:Sem zz}{src:List (Sem zh)}(h0:0<src.length)(hg:p.1≠[99,111,112,121]->p.1≠[106,111,105,110]->0<length p.t.1):uM p src=Q1 (eK p src,()):=by
 have hi:zM 0 src.length=Q3:=zu (i:=0) h0;unfold eK;by_cases h1:p.1=[99,111,112,121]
 ·rw[if_pos h1];have e1:(p.1==[99,111,112,121])=Q3:=by simp[h1]
  refine zN (r:=(.int .i64 (getD src 0 (zi zh)).1.2.2.1,[])) ?_ rfl;simp only[VG,Q8,e1,hi,if_true];rfl
 ·rw[if_neg h1];have e1:(p.1==[99,111,112,121])=Q4:=by simpa using h1
  by_cases h2:p.1=[106,111,105,110]
  ·rw[if_pos h2];have e2:(p.1==[106,111,105,110])=Q3:=by simp[h2]
   refine zN (r:=(.int .i64 p.t.2,[])) ?_ rfl;simp only[VG,Q8,e1,e2,if_true,zG,if_false]
  ·rw[if_neg h2];have e2:(p.1==[106,111,105,110])=Q4:=by simpa using h2
   have hj:zM 0 (length p.t.1)=Q3:=zu (i:=0) (hg h1 h2);refine zN (r:=(.int .i64 (getD p.t.1 0 (zi zg)),[])) ?_ rfl;simp only[VG,Q8,e1,e2,hj,if_true,zG,if_false];rfl
def s59(p:Sem zz)(n:Int)(i:Int):List zB->Hw
 |[]=>.h7 p.2.2.2.1.2.1 n i [] [] [] [] [] 0 0 [] [] [] 0 0 [] [] [] p.1 p.2.2.2.1.1 p.2.1 [] (ze.op p.2.2.2.1.t.2) (ze.v p.2.2.2.1.t.2).1 (ze.v p.2.2.2.1.t.2).2.1 (ze.v p.2.2.2.1.t.2).2.2 (ze.s p.2.2.2.1.t.2) (ze.l p.2.2.2.1.t.2) [] 0 0 [] [] p.2.2.1
 |a::r=>.h7b p.2.2.2.1.2.1 n i [] [] [] [] [] 0 0 [] [] [] 0 0 [] [] [] p.1 p.2.2.2.1.1 p.2.1 [] (ze.op p.2.2.2.1.t.2) (ze.v p.2.2.2.1.t.2).1 (ze.v p.2.2.2.1.t.2).2.1 (ze.v p.2.2.2.1.t.2).2.2 (ze.s p.2.2.2.1.t.2) (ze.l p.2.2.2.1.t.2) [] 0 0 [] [] p.2.2.1 (a::r)
theorem Ww{p:Sem zz}{i:Nat}(acc:List zB)(hi:i<length p.2.2.2.1.2.1)(hb:acc.length<=1000)(hib:i<=1000):(xK (s59 p (length p.2.2.2.1.2.1:Int) (i:Int) acc)).val=Q1 (.inl (s59 p (length p.2.2.2.1.2.1:Int) ((i+1:Nat):Int) (acc++[(getD p.2.2.2.1.2.1 i (zi zj)).1]))):=by
 cases acc with
 | nil=>
  show(xK (.h7 _ _ _ _ _ _ _ _ _ _ _ _ _ _ _ _ _ _ _ _ _ _ _ _ _ _ _ _ _ _ _ _ _ _)).val=_;simp only[xK,Q8,zH hi,zu hi,if_true,aJ];rw[if_pos sw,zp i um];rfl
 | cons a r=>
  show(xK (.h7b _ _ _ _ _ _ _ _ _ _ _ _ _ _ _ _ _ _ _ _ _ _ _ _ _ _ _ _ _ _ _ _ _ _ _)).val=_;simp only[xK,Q8,zH hi,zu hi,if_true,aJ];rw[if_pos (by simp at hb⊢;omega),zp i um];rfl
theorem SU{p:Sem zz}{src:List (Sem zh)}(h0:0<src.length)(hl:length p.2.2.2.1.2.1<=1000):F6 p src=Q1 (iE p src,()):=by
 have hi:zM 0 src.length=Q3:=zu (i:=0) h0;by_cases h2:p.1=[106,111,105,110]
 ·have e2:(p.1==[106,111,105,110])=Q3:=by simp[h2]
  unfold iE;rw[if_pos h2,if_pos h2];by_cases hc:LE.le (α:=Int) 0 p.t.2/\LT.lt (α:=Int) p.t.2 (length (getD src 0 (zi zh)).1.2.1)
  ·rw[if_pos hc];have e3:Q0 (GE.ge (α:=Int) p.t.2 0)=Q3:=zt hc.1;have e4:Q0 (LT.lt (α:=Int) p.t.2 (length (getD src 0 (zi zh)).1.2.1))=Q3:=zt hc.2;have e5:zM p.t.2 (length (getD src 0 (zi zh)).1.2.1)=Q3:=by
    unfold zM;rw[aD];exact⟨zt hc.1,zt (by have:=hc.1;have:=hc.2;omega)⟩
   have hv:(VN p src).val=Q1 (.inr (agg [str p.1,str p.2.2.2.1.1,str p.2.1,Qb,Qb,str (getD (getD src 0 (zi zh)).1.2.1 (toNat p.t.2) (zi zj)).1,Qb,Qb,str (ze.op p.2.2.2.1.t.2),ai (ze.v p.2.2.2.1.t.2).1,
     ai (ze.v p.2.2.2.1.t.2).2.1,str (ze.v p.2.2.2.1.t.2).2.2,str (ze.s p.2.2.2.1.t.2),sl Q5 (ze.l p.2.2.2.1.t.2),Qb,Qb,str [],ai 0,ai 0,str [],str [],Qb,str p.2.2.1],[])):=by
    show(br _ (Qc _ (br _ (Qc _ (Qc _ (re _ _))) (re _ _))) (Q9 _)).val=_;have e3':Q0 (p.t.2>=0)=Q3:=e3;simp only[Q8,e2,e3',hi,ay,if_true];have e4':Q0 (p.t.2<(↑(length (getD src (toNat 0) (zi zh)).1.2.1):Int))=Q3:=e4;have e5':zM p.t.2 (length (getD src (toNat 0) (zi zh)).1.2.1)=Q3:=e5;rw[if_pos e4',if_pos e5'];rfl
   refine zN hv ?_;rw[<-zl p.2.2.2.1.t.2];rfl
  ·rw[if_neg hc]
   have hv:(VN p src).val=Q1 (.inr (agg [str p.1,str p.2.2.2.1.1,str p.2.1,Qb,Qb,str [],Qb,Qb,str (ze.op p.2.2.2.1.t.2),ai (ze.v p.2.2.2.1.t.2).1,
     ai (ze.v p.2.2.2.1.t.2).2.1,str (ze.v p.2.2.2.1.t.2).2.2,str (ze.s p.2.2.2.1.t.2),sl Q5 (ze.l p.2.2.2.1.t.2),Qb,Qb,str [],ai 0,ai 0,str [],str [],Qb,str p.2.2.1],[])):=by
    have ec:(bif Q0 (p.t.2>=0)then Q0 (p.t.2<(↑(length (getD src (toNat 0) (zi zh)).1.2.1):Int))else Q4)=Q4:=by
     by_cases c1:LE.le (α:=Int) 0 p.t.2
     ·have c2:¬LT.lt (α:=Int) p.t.2 (length (getD src 0 (zi zh)).1.2.1):=λc=>hc ⟨c1,c⟩
      rw[show Q0 (p.t.2>=0)=Q3 from zt c1,ay];exact af c2
     ·rw[show Q0 (p.t.2>=0)=Q4 from af c1,aN]
    have ed:(bif Q0 (p.t.2>=0)then zM 0 (length src)else Q3)=Q3:=by rw[hi];cases Q0 (p.t.2>=0)<;>rfl
    show(br _ (Qc _ (br _ (Qc _ (Qc _ (re _ _))) (re _ _))) (Q9 _)).val=_;simp only[Q8,e2,if_true];rw[if_pos ed];simp only[ec,zG,if_false]
   refine zN hv ?_;rw[<-zl p.2.2.2.1.t.2];rfl
 ·have e2:(p.1==[106,111,105,110])=Q4:=by simpa using h2
  have hs:(VN p src).val=Q1 (.inl (s59 p (length p.2.2.2.1.2.1:Int) ((0:Nat):Int) [])):=by
   show(br _ (Qc _ (br _ (Qc _ (Qc _ (re _ _))) (re _ _))) (Q9 _)).val=_;simp only[Q8,e2,zG,if_false];rfl
  have hg:=zQ.all (t:=xK) 1 (λi=>s59 p (length p.2.2.2.1.2.1:Int) (i:Int) ((p.2.2.2.1.2.1.take i).map λc:Sem zj=>c.1)) (length p.2.2.2.1.2.1) λi hi=>zQ.of (by
   rw[Ww _ hi sg ow];congr 3;rw[bS hi,gZ,ba,zR hi];rfl)
  simp only[List.take_zero,List.map_nil,ji]at hg;unfold iE;rw[if_neg h2,if_neg h2];generalize hm:(p.2.2.2.1.2.1.map λc:Sem zj=>c.1)=names at hg;have hend:∃r,zT xK 1 (s59 p (length p.2.2.2.1.2.1:Int) (length p.2.2.2.1.2.1:Int) names) r/\aL r.2 [zk] r.1=Q1 ((p.1,p.2.2.2.1.1,p.2.1,names,[],[],[],[],p.2.2.2.1.t.2,[],[],dh,p.2.2.1),()):=by
   cases names with
   | nil=>
    refine⟨_,zT.of (by
     show(xK (.h7 _ _ _ _ _ _ _ _ _ _ _ _ _ _ _ _ _ _ _ _ _ _ _ _ _ _ _ _ _ _ _ _ _ _)).val=_;simp only[xK,Q8,zA,zG,if_false];rfl),?_⟩
    rw[<-zl p.2.2.2.1.t.2];rfl
   | cons a r=>
    refine⟨_,zT.of (by
     show(xK (.h7b _ _ _ _ _ _ _ _ _ _ _ _ _ _ _ _ _ _ _ _ _ _ _ _ _ _ _ _ _ _ _ _ _ _ _)).val=_;simp only[xK,Q8,zA,zG,if_false];rfl),?_⟩
    rw[<-zl p.2.2.2.1.t.2];rfl
  obtain⟨r,r1,r2⟩:=hend;exact zx hs (hg.ends r1) ow r2
structure Hr (p:Sem zz) (src:List (Sem zh)):Prop where
 names:src.map (λx:Sem zh=>x.1.1)=bD p.2.1 p.2.2.1
 two:two src=Q3
 plan:aT (fy src) (iE p src)=(0,p)
 few:J2 (iE p src)
 short:∀x∈fy src,gB x
 cols:length p.2.2.2.1.2.1<=1000
 same:F4 p p=Q3/\IY p p=Q3
theorem qK{src:List (Sem zh)}(h:two src=Q3):0<src.length/\src.length<=2:=by
 match src,h with
 |[_],_=>simp
 |[_,_],_=>simp
theorem Wh{p:Sem zz}{src:List (Sem zh)}(h:Hr p src):MU p src=Q1 (0,()):=by
 obtain⟨l0,l2⟩:=qK h.two;have hlen:(bD p.2.1 p.2.2.1).length=src.length:=by rw[<-h.names,cX]
 have hs:(zgC p src).val=Q1 (.inl (.h6 src (bD p.2.1 p.2.2.1) src (src.length:Int) ((0:Nat):Int) (p,()))):=by
  have e:((src.length:Int)!=((bD p.2.1 p.2.2.1).length:Int))=Q4:=by rw[hlen];simp
  show(br ((src.length:Int)!=((bD p.2.1 p.2.2.1).length:Int)) _ _).val=_;rw[e];rfl
 have hg:=zQ.all (t:=WE) 1 (λi=>.h6 src (bD p.2.1 p.2.2.1) src (src.length:Int) (i:Int) (p,())) src.length λi hi=>zQ.of (by
  have hn:(!((getD src i (zi zh)).1.1:zB)==(bD p.2.1 p.2.2.1).getD i (zi Q6))=Q4:=by
   rw[<-h.names,ba,ba,eY,zR hi];simp
  simp only[WE,Q8,zH hi,zu hi,zu (show i<(bD p.2.1 p.2.2.1).length by omega),if_true,aJ,hn,zG,if_false];rw[zp i um])
 have hst:=SU (p:=p) l0 h.cols;have c1:K3 p src=Q3:=by unfold K3;rw[hst];rfl
 have c2:ST p src=iE p src:=by unfold ST;rw[hst];rfl
 have hp:IX (fy src) (iE p src)=Q1 ((aT (fy src) (iE p src)).2,(aT (fy src) (iE p src)).1,()):=zcx h.short (by rw[Ey];omega) h.few;rw[h.plan]at hp;have c3:zcw (fy src) (iE p src)=Q3:=by unfold zcw;rw[hp];rfl
 have c4:pOf (fy src) (iE p src)=(p,0):=by unfold pOf;rw[hp];rfl
 refine zx hs (hg.ends (k:=1) (r:=(.int .i64 0,[])) (zT.of ?_)) ow rfl;simp only[WE,Q8,zA,zl,Prod.eta,c1,c2,c3,c4,h.two,h.same.1,h.same.2,zG,if_false];simp[l0,show src.length<=1000 by omega]
theorem F3{p:Sem zz}{src:List (Sem zh)}(h:Hr p src):IW p src=Q3/\SR p src=0:=by
 have:=Wh h;exact⟨by unfold IW;rw[this];rfl,by unfold SR;rw[this];rfl⟩
def s50(db:List (Sem zh))(ns:List zB)(j:Int)(i:Int)(x:Sem zh):List (Sem zh)->List (Sem zr)->lI
 |[],[]=>.h12 db ns j i (x,())
 |[],b::r=>.h12b db ns j i (x,()) (b::r)
 |a::l,[]=>.h12bb db ns j i (x,()) (a::l)
 |a::l,b::r=>.h12bbb db ns j i (x,()) (a::l) (b::r)
def Lp(db:List (Sem zh))(ns:List zB)(j:Int):List (Sem zh)->lI
 |[]=>.h4 db ns j
 |a::l=>.h4b db ns j (a::l)
theorem Wv{db:List (Sem zh)}{ns:List zB}{j:Int}{x:Sem zh}{acc:List (Sem zh)}{b:List (Sem zr)}{i:Nat}(hi:i<length x.1.t.1)(hn:ns.length<=1000)(hb:b.length<=1000)(hib:i<=1000):
  (fW (s50 db ns j (i:Int) x acc b)).val=Q1 (.inl (s50 db ns j ((i+1:Nat):Int) x acc (if aA ns (getD x.1.t.1 i (zi zr)).2=Q3 then b++[getD x.1.t.1 i (zi zr)]else b))):=by
 obtain⟨r1,r2⟩:=GF (l:=ns) (s:=(getD x.1.t.1 i (zi zr)).2) ow;cases acc with
 | nil=>
  cases b with
  | nil=>
   show(fW (.h12 _ _ _ _ _)).val=_;simp only[fW,Q8,zH hi,zu hi,if_true,aJ,r1,r2];rw[zp i um];split
   ·rw[if_pos sw];rfl
   ·rfl
  | cons c r=>
   show(fW (.h12b _ _ _ _ _ _)).val=_;simp only[fW,Q8,zH hi,zu hi,if_true,aJ,r1,r2];rw[zp i um];split
   ·rw[if_pos (by simp at hb⊢;omega)];rfl
   ·rfl
 | cons a l=>
  cases b with
  | nil=>
   show(fW (.h12bb _ _ _ _ _ _)).val=_;simp only[fW,Q8,zH hi,zu hi,if_true,aJ,r1,r2];rw[zp i um];split
   ·rw[if_pos sw];rfl
   ·rfl
  | cons c r=>
   show(fW (.h12bbb _ _ _ _ _ _ _)).val=_;simp only[fW,Q8,zH hi,zu hi,if_true,aJ,r1,r2];rw[zp i um];split
   ·rw[if_pos (by simp at hb⊢;omega)];rfl
   ·rfl
theorem Wu{db:List (Sem zh)}{ns:List zB}{j:Nat}{x:Sem zh}{acc:List (Sem zh)}{b:List (Sem zr)}(hj:j<=1000)(ha:acc.length<=1000):
  (fW (s50 db ns (j:Int) (length x.1.t.1:Int) x acc b)).val=Q1 (.inl (Lp db ns ((j+1:Nat):Int) (acc++[((x.1.1,x.1.2.1,x.1.2.2.1,x.1.2.2.2.1,b,x.1.t.2),x.2)]))):=by
 cases acc with
 | nil=>
  cases b with
  | nil=>
   show(fW (.h12 _ _ _ _ _)).val=_;simp only[fW,Q8,zA,zG,if_false,zl];rw[zp j um,if_pos sw];rfl
  | cons c r=>
   show(fW (.h12b _ _ _ _ _ _)).val=_;simp only[fW,Q8,zA,zG,if_false,zl];rw[zp j um,if_pos sw];rfl
 | cons a l=>
  cases b with
  | nil=>
   show(fW (.h12bb _ _ _ _ _ _)).val=_;simp only[fW,Q8,zA,zG,if_false,zl];rw[zp j um,if_pos (by simp at ha⊢;omega)];rfl
  | cons c r=>
   show(fW (.h12bbb _ _ _ _ _ _ _)).val=_;simp only[fW,Q8,zA,zG,if_false,zl];rw[zp j um,if_pos (by simp at ha⊢;omega)];rfl
theorem zcE{db:List (Sem zh)}{ns:List zB}{j:Nat}{x:Sem zh}{acc:List (Sem zh)}(hn:ns.length<=1000)(hj:j<=1000)(ha:acc.length<=1000)(hr:length x.1.t.1<=1000):
  zQ fW 1002 (s50 db ns (j:Int) ((0:Nat):Int) x acc []) (Lp db ns ((j+1:Nat):Int) (acc++[kl (aA ns) x])):=by
 have hg:=zQ.all (t:=fW) 1 (λi=>s50 db ns (j:Int) (i:Int) x acc ((x.1.t.1.take i).filter λf:Sem zr=>aA ns f.2)) (length x.1.t.1) λi hi=>zQ.of (by
  rw[Wv hi hn (cy (List.length_filter_le _ _) sg) ow];congr 3;rw[bS hi,List.filter_append,ba,zR hi];cases h:aA ns (x.1.t.1[i]:Sem zr).2<;>simp[h])
 simp only[List.take_zero,List.filter_nil,ji]at hg;refine(hg.trans (zQ.of (Wu hj ha))).mono ow
theorem S9{db:List (Sem zh)}{p:Sem zz}(hs:∀x∈db,gB x)(hf:∀n∈bD p.2.1 p.2.2.1,LE.le (α:=Int) 0 (zS db n)):BA p db=Q1 (aj db p,Q3,()):=by
 have hi:(zbI p db).val=Q1 (.inl (Lp db (bD p.2.1 p.2.2.1) ((0:Nat):Int) [])):=by
  simp only[zbI,zl,Prod.eta,Q8,ru,tQ,if_true];rfl
 have hl:(bD p.2.1 p.2.2.1).length<=2:=by unfold bD;split<;>simp
 unfold aj;generalize bD p.2.1 p.2.2.1=ns at hi hl hf⊢;have hg:=zQ.all (t:=fW) 1003 (λj=>Lp db ns (j:Int) ((ns.take j).map λn=>kl (aA ns) (az db n))) ns.length λj hj=>by
  have hfj:=hf ns[j] (bq hj);have hne:Q0 (zS db ns[j]<0)=Q4:=by simpa using hfj
  have hin:=dr hfj;have hx:=hs _ (mf hfj);have h1:zQ fW 1 (Lp db ns (j:Int) ((ns.take j).map λn=>kl (aA ns) (az db n))) (s50 db ns (j:Int) ((0:Nat):Int) (az db ns[j]) ((ns.take j).map λn=>kl (aA ns) (az db n)) []):=zQ.of (by
   generalize((ns.take j).map λn=>kl (aA ns) (az db n))=acc;cases acc with
   | nil=>
    show(fW (.h4 _ _ _)).val=_;simp only[fW,Q8,zH hj,zu hj,if_true,zY _ _ hj,dm,hne,hin,zG,if_false];rfl
   | cons a l=>
    show(fW (.h4b _ _ _ _)).val=_;simp only[fW,Q8,zH hj,zu hj,if_true,zY _ _ hj,dm,hne,hin,zG,if_false];rfl)
  have h2:=(h1.trans (zcE (x:=az db ns[j]) ow ow sg hx.rf)).mono (b:=1003) ow;show zQ fW 1003 _ (Lp db ns ((j+1:Nat):Int) ((ns.take (j+1)).map λn=>kl (aA ns) (az db n)));rw[bS hj,gZ];exact h2
 simp only[List.take_zero,List.map_nil,ji]at hg;generalize hm:(ns.map λn=>kl (aA ns) (az db n))=acc at hg;have hend:∃r,zT fW 1 (Lp db ns (ns.length:Int) acc) r/\aL r.2 [zh.sl,Sh.bool] r.1=Q1 (acc,Q3,()):=by
  cases acc with
  | nil=>
   refine⟨_,zT.of (by
    show(fW (.h4 _ _ _)).val=_;simp only[fW,Q8,zA,zG,if_false];rfl),rfl⟩
  | cons a l=>
   refine⟨_,zT.of (by
    show(fW (.h4b _ _ _ _)).val=_;simp only[fW,Q8,zA,zG,if_false];rfl),rfl⟩
 obtain⟨r,r1,r2⟩:=hend;exact zx hi (hg.ends r1) ow r2
def uEq(a b:Sem zf):Bool:=a.1==b.1&&(a.2.1==b.2.1&&(a.2.2==b.2.2&&Q3))
theorem WK{a b:Sem zf}:uEq a b=Q3↔a=b:=by
 obtain⟨a1,a2,a3⟩:=a;obtain⟨b1,b2,b3⟩:=b;unfold uEq;simp
def uS(at':Int)(v:Sem zf)(row:List (Sem zf)):Bool:=bif uEq (getD row at'.toNat (zi zf)) v then v.1!=0 else Q4
theorem m7{at':Int}{v:Sem zf}{row:List (Sem zf)}:uS at' v row=Q3↔getD row at'.toNat (zi zf)=v/\v.1≠0:=by
 unfold uS;rw[<-WK];cases uEq (getD row at'.toNat (zi zf)) v<;>simp
def uu(at':Int)(l:List (List (Sem zf)))(n:Int)(i:Int)(v:Sem zf):List (List (Sem zf))->CY
 |[]=>.h6 at' l n i (v,())
 |a::r=>.h6b at' l n i (v,()) (a::r)
theorem Wt{at':Int}{l:List (List (Sem zf))}{v:Sem zf}{acc:List (List (Sem zf))}{i:Nat}(hi:i<l.length)(hl:l.length<=1000)(ha:acc.length<=1000)(hin:zM at' (length l[i])=Q3)(hr:length l[i]<=1000):
  (xJ (uu at' l (l.length:Int) (i:Int) v acc)).val=Q1 (.inl (uu at' l (l.length:Int) ((i+1:Nat):Int) v (if uS at' v l[i]=Q3 then acc++[l[i]]else acc))):=by
 cases acc with
 | nil=>
  show(xJ (.h6 _ _ _ _ _)).val=_;simp only[xJ,Q8,zH hi,zu hi,if_true,zY _ _ hi,hin];rw[zp i um];show(if uS at' v l[i]=Q3 then _ else _)=_;split
  ·rw[if_pos (by simpa using(by omega:length l[i]<=1073741824)),if_pos sw];rfl
  ·rfl
 | cons c r=>
  show(xJ (.h6b _ _ _ _ _ _)).val=_;simp only[xJ,Q8,zH hi,zu hi,if_true,zY _ _ hi,hin];rw[zp i um];show(if uS at' v l[i]=Q3 then _ else _)=_;split
  ·rw[if_pos (by simpa using(by omega:length l[i]<=1073741824)),if_pos (by simp at ha⊢;omega)];rfl
  ·rfl
theorem TO{p:Sem zz}{src:List (Sem zh)}(v:Sem zf)(h:Hr p src)(hc:jd p src=Q3)(hl:length (getD src 0 (zi zh)).2<=1000)(hr:∀row∈(getD src 0 (zi zh)).2,zM (bT p src) (length row)=Q3/\length row<=1000):
  CM p src v=Q1 ((getD src 0 (zi zh)).2.filter (uS (bT p src) v),0,()):=by
 obtain⟨c1,c2⟩:=F3 h;have l0:=(qK h.two).1;have hi:(zbA p src v).val=Q1 (.inl (uu (bT p src) (getD src 0 (zi zh)).2 (length (getD src 0 (zi zh)).2:Int) ((0:Nat):Int) v [])):=by
  simp only[zbA,zl,Prod.eta,Q8,c1,c2,hc,show zM 0 src.length=Q3 from zu (i:=0) l0,ld,zG,if_true,if_false];rfl
 generalize(getD src 0 (zi zh)).2=l at hi hl hr⊢;generalize bT p src=at' at hi hr⊢;have hg:=zQ.all (t:=xJ) 1 (λi=>uu at' l (l.length:Int) (i:Int) v ((l.take i).filter (uS at' v))) l.length λi hi=>zQ.of (by
  have hx:=hr l[i] (bq hi);rw[Wt hi hl (cy (List.length_filter_le _ _) sg) hx.1 hx.2];congr 3;rw[bS hi,List.filter_append];cases h:uS at' v l[i]<;>simp[h])
 simp only[List.take_zero,List.filter_nil,ji]at hg;generalize l.filter (uS at' v)=acc at hg⊢;have hend:∃r,zT xJ 1 (uu at' l (l.length:Int) (l.length:Int) v acc) r/\aL r.2 [zf.sl.sl,zg] r.1=Q1 (acc,0,()):=by
  cases acc with
  | nil=>
   refine⟨_,zT.of (by
    show(xJ (.h6 _ _ _ _ _)).val=_;simp only[xJ,Q8,zA,zG,if_false];rfl),rfl⟩
  | cons a r=>
   refine⟨_,zT.of (by
    show(xJ (.h6b _ _ _ _ _ _)).val=_;simp only[xJ,Q8,zA,zG,if_false];rfl),rfl⟩
 obtain⟨r,r1,r2⟩:=hend;exact zx hi (hg.ends r1) ow r2
def sq(u:Sem zf):List (Sem zf)->List (Sem zf)
 |[]=>[u]
 |o::r=>if LT.lt (α:=Int) (cD o u) 0 then o::sq u r else if(o==u)=Q3 then o::r else u::o::r
def oA(l:List (Sem zf)):List (Sem zf):=l.foldl (λacc u=>if((u:Sem zf).1==0)=Q3 then acc else sq u acc) []
theorem mH{a b:Sem zf}(ha:aW a=Q3)(hb:aW b=Q3)(h:¬xA a b):a=b\/xA b a:=by
 have ka:ap a=a:=by unfold ap;rw[ha];rfl
 have kb:ap b=b:=by unfold ap;rw[hb];rfl
 rw[uN,ka,kb]at h⊢;obtain⟨k,n,s⟩:=a;obtain⟨k',n',s'⟩:=b;unfold Lx at h⊢;simp only at h⊢;have h1:¬k<k':=λe=>h (.inl e)
 rcases Int.lt_or_eq_of_le (Int.not_lt.1 h1)with e|e
 ·exact .inr (.inl e)
 have h2:¬n<n':=λg=>h (.inr ⟨e.symm,.inl g⟩)
 rcases Int.lt_or_eq_of_le (Int.not_lt.1 h2)with g|g
 ·exact .inr (.inr ⟨e,.inl g⟩)
 by_cases hs:s=s'
 ·exact .inl (by rw[e,g,hs])
 ·refine .inr (.inr ⟨e,.inr ⟨g,jA ?_ hs⟩⟩);cases hx:Op.bytesLess s s'
  ·rfl
  ·exact absurd (.inr ⟨e.symm,.inr ⟨g.symm,hx⟩⟩) h
theorem tK{u:Sem zf}:∀{l:List (Sem zf)}{x:Sem zf},x∈sq u l↔x=u\/x∈l
 |[],x=>by simp[sq]
 | o::r,x=>by
  unfold sq;split
  ·rw[cj,tK,cj];exact⟨λh=>by rcases h with h|h|h<;>simp[h],λh=>by rcases h with h|h|h<;>simp[h]⟩
  ·split
   ·rename_i h;have h:=bF h;subst h;simp
   ·simp
theorem E3{u:Sem zf}(hu:aW u=Q3):∀{l:List (Sem zf)},(∀x∈l,aW x=Q3)->l.Pairwise xA->(sq u l).Pairwise xA
 |[],_,_=>by simp[sq]
 | o :: r,hl,h=>by
  obtain⟨h1,h2⟩:=List.pairwise_cons.1 h;unfold sq;split
  ·rename_i hlt;refine List.pairwise_cons.2 ⟨λx hx=>?_,E3 hu (λx hx=>hl x (by simp[hx])) h2⟩;rcases tK.1 hx with rfl|hx
   ·exact hlt
   ·exact h1 x hx
  ·rename_i hn;split
   ·exact h
   ·rename_i hne;have ho:xA u o:=by
     rcases mH (hl o sw) hu hn with e|e
     ·exact absurd (by rw[e];simp) hne
     ·exact e
    refine List.pairwise_cons.2 ⟨λx hx=>?_,h⟩;rcases cj.1 hx with rfl|hx
    ·exact ho
    ·exact gV ho (h1 x hx)
theorem vP:∀(l acc:List (Sem zf)),(∀x∈l,aW x=Q3)->(∀x∈acc,aW x=Q3)->acc.Pairwise xA->
  (l.foldl (λacc u=>if((u:Sem zf).1==0)=Q3 then acc else sq u acc) acc).Pairwise xA/\∀x,x∈l.foldl (λacc u=>if((u:Sem zf).1==0)=Q3 then acc else sq u acc) acc↔x∈acc\/(x∈l/\x.1≠0)
 |[],acc,_,_,h=>⟨h,λx=>by simp⟩
 | u::r,acc,hl,ha,h=>by
  rw[List.foldl_cons];by_cases hu:(u.1==0)=Q3
  ·rw[if_pos hu];obtain⟨h1,h2⟩:=vP r acc (λx hx=>hl x (by simp[hx])) ha h;refine⟨h1,λx=>(h2 x).trans ⟨λh=>h.imp id λh=>⟨by simp[h.1],h.2⟩,λh=>h.imp id λh=>⟨?_,h.2⟩⟩⟩;rcases cj.1 h.1 with rfl|h'
   ·exact absurd (bF hu) h.2
   ·exact h'
  ·rw[if_neg hu];have hm:=hl u sw;obtain⟨h1,h2⟩:=vP r (sq u acc) (λx hx=>hl x (by simp[hx])) (λx hx=>by
    rcases tK.1 hx with rfl|hx
    ·exact hm
    ·exact ha x hx) (E3 hm ha h)
   refine⟨h1,λx=>(h2 x).trans ?_⟩;rw[tK,cj];refine⟨λh=>?_,λh=>?_⟩
   ·rcases h with(rfl|h)|h
    ·exact .inr ⟨.inl rfl,λe=>hu (by rw[e];rfl)⟩
    ·exact .inl h
    ·exact .inr ⟨.inr h.1,h.2⟩
   ·rcases h with h|⟨rfl|h,h'⟩
    ·exact .inl (.inr h)
    ·exact .inl (.inl rfl)
    ·exact .inr ⟨h,h'⟩
theorem lh{l:List (Sem zf)}(h:∀x∈l,aW x=Q3):(oA l).Pairwise xA/\∀x,x∈oA l↔x∈l/\x.1≠0:=by
 obtain⟨h1,h2⟩:=vP l [] h sw sw;exact⟨h1,λx=>(h2 x).trans sw⟩
theorem GL:∀{l m:List (Sem zf)},l.Pairwise xA->m.Pairwise xA->(∀x,x∈l↔x∈m)->l=m
 |[],[],_,_,_=>rfl
 |[],b::m,_,_,h=>by have:=(h b).2 sw;simp at this
 |a::l,[],_,_,h=>by have:=(h a).1 sw;simp at this
 | a::l,b::m,h1,h2,h=>by
  obtain⟨a1,a2⟩:=List.pairwise_cons.1 h1;obtain⟨b1,b2⟩:=List.pairwise_cons.1 h2;have e:a=b:=by
   rcases cj.1 ((h a).1 sw)with e|e
   ·exact e
   ·rcases cj.1 ((h b).2 sw)with g|g
    ·exact g.symm
    ·exact absurd (gV (a1 _ g) (b1 _ e)) gI
  subst e;rw[GL a2 b2 λx=>⟨λhx=>?_,λhx=>?_⟩]
  ·rcases cj.1 ((h x).1 (by simp[hx]))with rfl|hx'
   ·exact absurd (a1 _ hx) gI
   ·exact hx'
  ·rcases cj.1 ((h x).2 (by simp[hx]))with rfl|hx'
   ·exact absurd (b1 _ hx) gI
   ·exact hx'
theorem Ix(u:Sem zf):∀l:List (Sem zf),(sq u l).length<=l.length+1
 |[]=>by simp[sq]
 | o::r=>by
  unfold sq;split
  ·have:=Ix u r;simp only[eZ];omega
  ·split<;>simp
theorem Iq:∀(l acc:List (Sem zf)),(l.foldl (λacc u=>if((u:Sem zf).1==0)=Q3 then acc else sq u acc) acc).length<=acc.length+l.length
 |[],acc=>by simp
 | u::r,acc=>by
  rw[List.foldl_cons];refine cy (Iq r _) ?_;split
  ·simp
  ·have:=Ix u acc;simp only[eZ];omega
theorem PO(l:List (Sem zf)):(oA l).length<=l.length:=by
 have:=Iq l [];simpa[oA]using this
def Fh(p:Sem zz):Prop:=p.2.2.2.1.2.1.length<=1000/\p.2.2.2.1.2.2.2.1.length<=1000000/\p.2.2.2.1.t.1.length<=1000000/\qR 16 p.2.2.2.1.t.2=Q3/\p.t.1.length<=1000000
theorem mD:Fh jq:=⟨bd _,bd _,bd _,rfl,bd _⟩
theorem r9{e:Int}{p:Sem zz}(h:e=0->Fh p):Fh (jl e p).2:=by
 unfold jl;split
 ·split
  ·exact h (by assumption)
  ·exact mD
 ·exact mD
theorem K5(db:List (Sem zh)){s:Sem zk}(hf:J2 s):Fh (aT db s).2:=by
 have hn:=hf.sh.names.1;unfold aT;split;rotate_left
 ·exact mD
 split;rotate_left
 ·exact mD
 unfold dd;split
 ·refine r9 λ_=>⟨?_,bd _,bd _,hf.cp,?_⟩
  ·show(gh _ _).length<=_;unfold gh;rw[cX];omega
  ·show(kC _ _).length<=_;unfold kC;rw[cX];omega
 split
 ·refine r9 λh=>?_
  have h9:(au db s.2.2.1).2.1.length+(fR db s.t.t.t).2.1.length<=9:=by
   unfold gQ at h;split at h
   ·cases h
   split at h;rotate_left
   ·cases h
   split at h
   ·cases h
   ·omega
  have ho:=oY (fR db s.t.t.t).2.2.1 (length (fR db s.t.t.t).2.1);refine⟨?_,bd _,bd _,hf.cp,?_⟩
  ·show(_++gn _ _).length<=_;unfold gn;rw[jg,cX];omega
  ·show(jQ _ _).length<=_;unfold jQ;rw[cX];omega
 split
 ·refine r9 λ_=>⟨?_,bd _,bd _,hf.cp,?_⟩
  ·show(Db _ _).length<=_;unfold Db;simp
  ·show(kC _ _).length<=_;unfold kC;rw[cX];omega
 ·exact mD
noncomputable def jy(db:List (Sem zh))(p:Sem zz):Sem zh:=getD (aj db p) 0 (zi zh)
structure bu (db:List (Sem zh)) (p:Sem zz):Prop where
 go:Hr p (aj db p)
 rel:eI (jy db p)
 plc:uM p (aj db p)=Q1 (eK p (aj db p),())
 inn:∀row∈(jy db p).2,zM (eK p (aj db p)) (length row)=Q3/\length row=length (jy db p).1.2.1
 fnd:∀n∈bD p.2.1 p.2.2.1,LE.le (α:=Int) 0 (zS db n)
 mig:jn p.1
 col:LE.le (α:=Int) 0 (eK p (aj db p))/\LT.lt (α:=Int) (eK p (aj db p)) (length (jy db p).1.2.1)
theorem S0{db:List (Sem zh)}{s:Sem zk}(hdb:∀x∈db,gB x)(hp:(aT db s).1=0)(hf:J2 s):bu db (aT db s).2:=by
  obtain⟨hm,hmay,hb,hfd,hne,hask⟩:=MX hp;obtain⟨c1,c2,_,c4,c5,c6⟩:=O0 hdb hp hf.sh;have hB:=(jV hdb).1 hb;obtain⟨b1,b2,b3,b4,b5⟩:=K5 db hf;have hparts:=lD hmay;have hp0:(dd db s).1=0:=by rw[<-hask];exact hp
  obtain⟨f1,f2,f3⟩:=HJ hp0;rw[hask]at c1 c2 c4 c5 c6 b1 b2 b3 b4 b5⊢;have hfd':∀n∈bD (dd db s).2.2.1 (dd db s).2.2.2.1,LE.le (α:=Int) 0 (zS db n):=by rw[f2,f3];exact hfd
  have hfr:LE.le (α:=Int) 0 (zS db s.2.2.1):=hfd _ (by unfold bD;split<;>simp);have hx:jy db (dd db s).2=kl (aA (bD s.2.2.1 (dG s))) (az db s.2.2.1):=by
    unfold jy aj;rw[f2,f3];have:∃r,bD s.2.2.1 (dG s)=s.2.2.1::r:=by unfold bD;split<;>exact⟨_,rfl⟩
    obtain⟨r,e⟩:=this;rw[e];rfl
  have hxr:eI (jy db (dd db s).2):=by rw[hx];exact(hB.rels _ (lP hfr).1).cut
  have hcols:(jy db (dd db s).2).1.2.1=(au db s.2.2.1).2.1:=by rw[hx];rfl
  obtain⟨m1,m2⟩:=SS (b:=(dd db s).2) (by omega) b2 b3 b4 b5;have hlen:∀row∈(jy db (dd db s).2).2,length row=length (jy db (dd db s).2).1.2.1:=λrow hr=>(ft (hxr.fits row hr)).1
  have hplc:(LE.le (α:=Int) 0 (eK (dd db s).2 (aj db (dd db s).2))/\LT.lt (α:=Int) (eK (dd db s).2 (aj db (dd db s).2)) (length (jy db (dd db s).2).1.2.1))/\((dd db s).2.1≠[99,111,112,121]->(dd db s).2.1≠[106,111,105,110]->0<length (dd db s).2.2.2.2.2.1):=by
    unfold eK;rw[f1];rcases hm with ho|ho|ho
    · rw[if_pos ho]
      refine⟨?_,λh=>absurd ho h⟩;obtain⟨k1,_⟩:=gR hxr.may;exact k1
    · have n1:s.1≠[99,111,112,121]:=by rw[ho];decide
      rw[if_neg n1,if_pos ho];refine⟨?_,λ_ h=>absurd ho h⟩
      have e:(dd db s)=jl (gQ (au db s.2.2.1) (fR db s.2.2.2.2.2.2.2.2.2.2.2.2) s.2.2.2.2.2.1 s.2.2.2.2.2.2.2.2.2.2.2.2)
          (s.1,s.2.2.1,s.2.2.2.2.2.2.2.2.2.2.2.2,(s.2.1,(au db s.2.2.1).2.1++gn (fR db s.2.2.2.2.2.2.2.2.2.2.2.2) (length (fR db s.2.2.2.2.2.2.2.2.2.2.2.2).2.1),(au db s.2.2.1).2.2.1,[],[],s.2.2.2.2.2.2.2.2.1),
            jQ (fR db s.2.2.2.2.2.2.2.2.2.2.2.2).2.2.1 (length (fR db s.2.2.2.2.2.2.2.2.2.2.2.2).2.1),zO (au db s.2.2.1) s.2.2.2.2.2.1):=by
        unfold dd;rw[if_neg (by simpa using n1),if_pos (by simp[ho])]
      have e0:=hp0;rw[e]at e0;obtain⟨g1,g2⟩:=lr e0;have hpos:¬LT.lt (α:=Int) (zO (au db s.2.2.1) s.2.2.2.2.2.1) 0:=by
        intro hlt;unfold gQ at g1;rw[if_pos hlt]at g1;cases g1
      have hon:(dd db s).2.2.2.2.2.2=zO (au db s.2.2.1) s.2.2.2.2.2.1:=by rw[e,g2]
      rw[hon,hcols];exact⟨by omega,(iO hpos).2⟩
    · have n1:s.1≠[99,111,112,121]:=by rw[ho];decide
      have n2:s.1≠[106,111,105,110]:=by rw[ho];decide
      rw[if_neg n1,if_neg n2];have e:(dd db s)=jl (se (au db s.2.2.1) s.2.2.2.1) (s.1,s.2.2.1,s.2.2.2.2.2.2.2.2.2.2.2.2,(s.2.1,Db (au db s.2.2.1) s.2.2.2.1,0,[],[],s.2.2.2.2.2.2.2.2.1),kC (au db s.2.2.1) s.2.2.2.1,0):=by
        unfold dd;rw[if_neg (by simpa using n1),if_neg (by simpa using n2),if_pos (by simp[ho])]
      have e0:=hp0;rw[e]at e0;obtain⟨g1,g2⟩:=lr e0;have hpl:fV (au db s.2.2.1) s.2.2.2.1=0:=by
        unfold se at g1;split at g1
        · assumption
        · exact g1
      have hpos:=Bw hpl;have hix:(dd db s).2.2.2.2.2.1=kC (au db s.2.2.1) s.2.2.2.1:=by rw[e,g2]
      have h2:=ls hparts ho;rw[hix,hcols]
      match hnm:s.2.2.2.1,h2 with
      | [a,b],_=>
        rw[hnm]at hpos;have ha:=hpos a (by simp)
        exact ⟨⟨by have:¬ LT.lt (α:=Int) (zO (au db s.2.2.1) a) 0:=ha
                   show LE.le (α:=Int) 0 (zO (au db s.2.2.1) a);omega,(iO ha).2⟩,λ_ _=>by simp[kC]⟩
  have two0:=qK c6;refine⟨⟨c2,c6,by rw[c1],by rw[c4];exact hf,c5,b1,m1,m2.2 rfl⟩,hxr,O8 two0.1 hplc.2,λrow hr=>⟨?_,hlen row hr⟩,hfd',by rw[f1];exact hm,hplc.1⟩;rw[hlen row hr];unfold zM;rw[aD];have h1:=hplc.1.1;have h2:=hplc.1.2;exact⟨zt h1,zt (by omega)⟩
end Cad
namespace Go.Proofs
open Cad (aB zG)
open Go.Shelf Go.RowKit Go.Lib Go.Sort
open Bool renaming false→Q4
open Bool renaming true→Q3
open Option renaming none→Q2
open Option renaming some→Q1
open Decidable renaming decide→Q0
open Int (toNat)
open List (getD)
open List (length)
theorem gd_of{w w':World}(h:Below w.heap.size w w')(hd:w.drawn<=w'.drawn):∃q os',w'=grow (w.drewN q) os':=by
 refine⟨w'.drawn-w.drawn,w'.heap.extract w.heap.size w'.heap.size,?_⟩;have hh:w'.heap=w.heap++w'.heap.extract w.heap.size w'.heap.size:=by
  apply Array.ext_getElem?;intro i;by_cases hi:i<w.heap.size
  ·rw[Array.getElem?_append_left hi,h.block i hi]
  ·rw[Array.getElem?_append_right (by omega)];have hs:=h.size;by_cases hi2:i<w'.heap.size
   ·rw[Array.getElem?_extract,if_pos (by omega)];congr 1;omega
   ·rw[Array.getElem?_eq_none (by omega),Array.getElem?_eq_none (by simp;omega)]
 obtain⟨heap,tape,drawn,os,output⟩:=w;obtain⟨heap',tape',drawn',os',output'⟩:=w';have h1:=h.os;have h2:=h.tape;have h3:=h.output;simp only at h1 h2 h3 hd hh;subst h1 h2 h3;unfold grow World.drewN;simp only[World.mk.injEq,true_and,and_true];exact⟨hh,by omega⟩
set_option maxHeartbeats 1000000 in
theorem Tryz.odd63(r:Nat)(W:World):Calls Tryz.prog 63 #[.int .i32 (r:Int)] W λe w'=>e=.returned (.bool (Q0 ((r:Int)<32)||Q0 ((r:Int)>126)))/\w'=W:=by
 go_enter Tryz.func63,Tryz.ntmps63
 go_wp2
 ·go_ret
  exact⟨by simp,rfl⟩
 ·rename_i h
  go_ret
  exact⟨by simp,rfl⟩
set_option maxHeartbeats 4000000 in
set_option maxRecDepth 1000000 in
theorem Tryz.indexFunc112(p:Nat->Bool)(s:ByteArray)(w:World)(hp:∀(W:World)(x:Nat),Calls Tryz.prog 63 #[.int .i32 (x:Int)] W λe w'=>e=.returned (.bool (p x))/\w'=W):
  Calls Tryz.prog 112 #[.string s,.func (.func 63) #[] #[],.bool Q3] w λe w'=>e=.returned (.int .i64 (Lib.idxFunc p Q3 s))/\Below w.heap.size w w'/\w.drawn<=w'.drawn:=by
 go_enter Tryz.func112,Tryz.ntmps112
 go_wp2
 go_loopg [] s.size (λgf wx=>∃pos:Nat,wx.heap[w.heap.size]?=Q1 (.stringIter s pos)/\(Below w.heap.size w wx/\w.drawn<=wx.drawn)/\Lib.idxFuncFrom p Q3 s gf pos=Lib.idxFunc p Q3 s/\s.size<=pos+gf)
 case atStart=>exact⟨0,World.iter_heap w s 0,⟨(Below.refl _ w).alloc (aB _) _,aB _⟩,rfl,by omega⟩
 case round=>
  obtain⟨pos,hit,⟨hbw,hdr⟩,hleft,hfu⟩:=hrel;by_cases hps:pos<s.size
  ·obtain⟨g',rfl⟩:∃g',gk=g'+1:=⟨gk-1,by omega⟩;have hnx:∀ty,(Instr.next (.pointer (Q1 ⟨w.heap.size,0,Q2⟩)) Q3 ty).run Tryz.prog wr=_:=λty=>Lib.run_next_any_at wr w.heap.size s pos ty hit hps
   have hwd:=Lib.width_pos s pos;obtain⟨R,hR⟩:∃R,(Utf8.decode s pos).1=R:=⟨_,rfl⟩;obtain⟨K,hK⟩:∃K,(Utf8.decode s pos).2=K:=⟨_,rfl⟩;simp only[Lib.idxFuncFrom,hps,if_true,hR,hK]at hleft;rw[hR,hK]at hnx;rw[hK]at hwd;have hit2:=Lib.iterAt_heap wr w.heap.size s pos (pos+K) hit;have hbw2:=Lib.below_iterAt hbw (k:=w.heap.size) (aB _) s (pos+K);have hdr2:w.drawn<=(wr.iterAt w.heap.size s (pos+K)).drawn:=hdr;obtain⟨W,hWd⟩:∃W,wr.iterAt w.heap.size s (pos+K)=W:=⟨_,rfl⟩;rw[hWd]at hnx hit2 hbw2 hdr2;have cS:=hp W R;clear hp;cases hsp:p R<;>rw[hsp]at cS<;>simp only[hsp,if_true,zG,if_false]at hleft
   ·go_wp2_with (go_at_call 63;refine cS.mono ?_;rintro e W' ⟨rfl,rfl⟩)
    go_roundg g'
    case measure=>omega
    case rel=>exact⟨pos+K,hit2,⟨hbw2,hdr2⟩,hleft,by omega⟩
   ·go_wp2_with (go_at_call 63;refine cS.mono ?_;rintro e W' ⟨rfl,rfl⟩)
    go_ret
    exact⟨by rw[<-hleft]<;>rfl,hbw2,hdr2⟩
  ·have hnx:∀ty,(Instr.next (.pointer (Q1 ⟨w.heap.size,0,Q2⟩)) Q3 ty).run Tryz.prog wr=_:=λty=>Lib.run_next_end_at wr w.heap.size s pos ty hit hps
   rw[Lib.idxFuncFrom_end p Q3 s gk pos hps]at hleft
   go_wp2
   go_ret
   exact⟨by rw[<-hleft]<;>rfl,hbw,hdr⟩
theorem Tryz.indexFunc64(p:Nat->Bool)(s:ByteArray)(w:World)(hp:∀(W:World)(x:Nat),Calls Tryz.prog 63 #[.int .i32 (x:Int)] W λe w'=>e=.returned (.bool (p x))/\w'=W):
  Calls Tryz.prog 64 #[.string s,.func (.func 63) #[] #[]] w λe w'=>e=.returned (.int .i64 (Lib.idxFunc p Q3 s))/\Below w.heap.size w w'/\w.drawn<=w'.drawn:=by
 have h:=λW'=>Tryz.indexFunc112 p s W' hp
 go_enter Tryz.func64,Tryz.ntmps64
 go_wp2_with (go_at_call 112;refine(h _).mono ?_;rintro e w' ⟨rfl,h1,h2⟩)
 go_ret
 exact⟨rfl,h1,h2⟩
end Go.Proofs
namespace Cad
open Go Go.Proofs Go.Sort
open Tr renaming chk→Qc
open AV renaming nils→Qb
open AO renaming box→Qa
open Tr renaming «to»→Q9
open Tr renaming val→Q8
open Sh renaming str→Q6
open Sh renaming expr→Q5
open Bool renaming false→Q4
open Bool renaming true→Q3
open Option renaming none→Q2
open Option renaming some→Q1
open Decidable renaming decide→Q0
open Int (toNat)
open List (getD)
open List (length)
set_option maxHeartbeats 4000000
open Tr (chk br)
open AV (nils agg tup ptr kb str sl)
theorem zhC(W:World)(x:Nat):Calls Tryz.prog 63 #[.int .i32 (x:Int)] W λe w'=>e=.returned (.bool (Bo x))/\w'=W:=
 (Tryz.odd63 x W).mono λe w' h=>⟨by rw[h.1];unfold Bo;cases Q0 ((x:Int)<32)<;>rfl,h.2⟩
theorem zhA(k n:Int)(s:zB)(W:World):Calls Tryz.prog 34 #[.agg #[.int .i64 k,.int .i64 n,.string ⟨s.toArray⟩]] W λe w'=>e=.returned (.bool (aW (k,n,s)))/\RowKit.Below W.heap.size W w'/\W.drawn<=w'.drawn:=by
 have h:=λW'=>Tryz.indexFunc64 (λr=>Bo r) ⟨s.toArray⟩ W' zhC
 have ho:Lib.idxFunc (λr=>Bo r) Q3 ⟨s.toArray⟩=oX s:=rfl;rw[ho]at h;have hv:aW (k,n,s)=aW (k,n,s):=rfl;generalize hR:aW (k,n,s)=R at hv⊢;clear hv;unfold aW at hR;generalize oX s=I at h hR
 go_enter Tryz.func34,Tryz.ntmps34
 go_wp2_with (go_at_call 64;refine(h _).mono ?_;rintro e w' ⟨rfl,h1,h2⟩)
 all_goals
  go_ret
  refine⟨?_,?_,?_⟩
  ·rw[<-hR];congr 2;simp_all<;>(rw[<-hR];first|(rw[af ow];rfl)|(rw[beq_false_of_ne ‹¬n=0›];first|rfl|(rw[beq_false_of_ne ‹¬n=1›];rfl)))
  ·first
   |exact(RowKit.Below.refl _ _).alloc (aB _) _
   |exact((RowKit.Below.refl _ W).alloc (aB _) _).trans (h1.mono sw)
  ·first
   |exact aB _
   |exact h2
theorem O6(W w':World)(a b c x y z:Value)(h:RowKit.Below ((W.alloc (.cells #[a,b,c] 27)).alloc (.cells #[x,y,z] 27)).heap.size ((W.alloc (.cells #[a,b,c] 27)).alloc (.cells #[x,y,z] 27)) w'):
  w'.cell? ⟨W.heap.size,0,Q2⟩=Q1 a/\w'.cell? ⟨W.heap.size,1,Q2⟩=Q1 b/\w'.cell? ⟨W.heap.size,2,Q2⟩=Q1 c/\
  w'.cell? ⟨W.heap.size+1,0,Q2⟩=Q1 x/\w'.cell? ⟨W.heap.size+1,1,Q2⟩=Q1 y/\w'.cell? ⟨W.heap.size+1,2,Q2⟩=Q1 z/\
  w'.frozen? ⟨W.heap.size+1,0,Q2⟩=Q4/\w'.frozen? ⟨W.heap.size+1,1,Q2⟩=Q4/\w'.frozen? ⟨W.heap.size+1,2,Q2⟩=Q4/\w'.heap[W.heap.size+1]?=Q1 (.cells #[x,y,z] 27 (0,0)):=by
 have b0:=h.block W.heap.size sg;have b1:=h.block (W.heap.size+1) sw;have e0:((W.alloc (.cells #[a,b,c] 27)).alloc (.cells #[x,y,z] 27)).heap[W.heap.size]?=Q1 (.cells #[a,b,c] 27 (0,0)):=(bh _ _ _ sw).trans (cv _ _);have e1:((W.alloc (.cells #[a,b,c] 27)).alloc (.cells #[x,y,z] 27)).heap[W.heap.size+1]?=Q1 (.cells #[x,y,z] 27 (0,0)):=by
  have:=cv (W.alloc (.cells #[a,b,c] 27)) (.cells #[x,y,z] 27)
  rwa [aX]at this
 rw[e0]at b0;rw[e1]at b1;simp[World.cell?,World.frozen?,b0,b1]
theorem IB(k n:Int)(s:zB)(W:World):Calls Tryz.prog 107 #[.agg #[.int .i64 k,.int .i64 n,.string ⟨s.toArray⟩]] W λe w'=>e=.returned (.agg #[.int .i64 (ap (k,n,s)).1,.int .i64 (ap (k,n,s)).2.1,.string ⟨(ap (k,n,s)).2.2.toArray⟩])/\RowKit.Below W.heap.size W w'/\W.drawn<=w'.drawn:=by
 have h:=λW'=>zhA k n s W'
 unfold ap;generalize aW (k,n,s)=R at h⊢
 go_enter Tryz.func107,Tryz.ntmps107
 go_wp2_with (go_at_call 34;refine(h _).mono ?_;rintro e w' ⟨rfl,h1,h2⟩;obtain⟨c0,c1,c2,d0,d1,d2,g0,g1,g2,bb⟩:=O6 W w' (.int .i64 k) (.int .i64 n) (.string ⟨s.toArray⟩) (.int .i64 0) (.int .i64 0) (.string ⟨#[]⟩) h1)
 all_goals
  have hB:RowKit.Below W.heap.size W w':=(((RowKit.Below.refl _ W).alloc (aB _) _).alloc sw _).trans (h1.mono sg);have hd:W.drawn<=w'.drawn:=h2;refine bodyPost_ret (results_cell_row rfl _ _ (W.heap.size+1) 27 _ (0,0) _ rfl (by simp[World.setCell,sK,bb];rfl) Tryz.underlying27 rfl kw) rfl ⟨?_,?_,?_⟩
  ·rfl
  ·exact((hB.setCell (p:=⟨W.heap.size+1,0,Q2⟩) sw _).setCell (p:=⟨W.heap.size+1,1,Q2⟩) sw _).setCell (p:=⟨W.heap.size+1,2,Q2⟩) sw _
  ·exact hd
open Go Go.Proofs
set_option maxRecDepth 100000
theorem Sj(x:Int)(W:World):Calls Tryz.prog 165 #[.int .i64 x] W λe w'=>e=.returned (.bool Q4)/\w'=W:=by
 go_enter Tryz.func165,Tryz.ntmps165
 go_wp2
 go_ret
 exact⟨sw,rfl⟩
theorem Sk(x:Int)(W:World):Calls Tryz.prog 166 #[.int .i64 x] W λe w'=>e=.returned (.bool Q4)/\w'=W:=by
 go_enter Tryz.func166,Tryz.ntmps166
 go_wp2
 go_ret
 exact⟨sw,rfl⟩
theorem Sl(x:ByteArray)(W:World):Calls Tryz.prog 167 #[.string x] W λe w'=>e=.returned (.bool Q4)/\w'=W:=by
 go_enter Tryz.func167,Tryz.ntmps167
 go_wp2
 go_ret
 exact⟨sw,rfl⟩
theorem PY(x y:Int):rP x y=(if x<y then -1 else if y<x then 1 else 0:Int):=by
 unfold rP;simp
theorem NU(x y:Int):kk x y=(if x<y then -1 else if y<x then 1 else 0:Int):=by
 unfold kk;simp
theorem za3(x y:Int)(W:World):Calls Tryz.prog 109 #[.int .i64 x,.int .i64 y] W λe w'=>e=.returned (.int .i64 (rP x y))/\w'=W:=by
 have h1:=λW'=>Sj x W'
 have h2:=λW'=>Sj y W'
 rw[PY]
 go_enter Tryz.func109,Tryz.ntmps109
 go_wp2_with (first|(go_at_call 165;refine(h1 _).mono ?_;rintro e w' ⟨rfl,rfl⟩)|(go_at_call 165;refine(h2 _).mono ?_;rintro e w' ⟨rfl,rfl⟩))
 all_goals
  go_ret
  refine⟨?_,rfl⟩;congr 2
theorem za4(x y:Int)(W:World):Calls Tryz.prog 110 #[.int .i64 x,.int .i64 y] W λe w'=>e=.returned (.int .i64 (kk x y))/\w'=W:=by
 have h1:=λW'=>Sk x W'
 have h2:=λW'=>Sk y W'
 rw[NU]
 go_enter Tryz.func110,Tryz.ntmps110
 go_wp2_with (first|(go_at_call 166;refine(h1 _).mono ?_;rintro e w' ⟨rfl,rfl⟩)|(go_at_call 166;refine(h2 _).mono ?_;rintro e w' ⟨rfl,rfl⟩))
 all_goals
  go_ret
  refine⟨?_,rfl⟩;congr 2
theorem za5(x y:zB)(W:World):Calls Tryz.prog 111 #[.string ⟨x.toArray⟩,.string ⟨y.toArray⟩] W λe w'=>e=.returned (.int .i64 (nY x y))/\w'=W:=by
 have h1:=λW'=>Sl ⟨x.toArray⟩ W'
 have h2:=λW'=>Sl ⟨y.toArray⟩ W'
 have hg:∀W',(binOp .gtr 9 (.string ⟨x.toArray⟩) (.string ⟨y.toArray⟩)).run Tryz.prog W'=.ok (.bool (!(Op.bytesLess x y||x==y))) W':=λW'=>by simp[binOp,Op.stringOp]
 have hc:nY x y=(if Op.bytesLess x y=Q3 then -1 else if(!(Op.bytesLess x y||x==y))=Q3 then 1 else 0:Int):=by unfold nY;simp
 rw[hc];clear hc
 go_enter Tryz.func111,Tryz.ntmps111
 go_wp2_with (first|(go_at_call 167;refine(h1 _).mono ?_;rintro e w' ⟨rfl,rfl⟩)|(go_at_call 167;refine(h2 _).mono ?_;rintro e w' ⟨rfl,rfl⟩))
 all_goals
  go_ret
  refine⟨?_,rfl⟩;simp_all
theorem ziR(x y z:Int)(b:Nat)(W:World)(h0:W.cell? ⟨b,0,Q2⟩=Q1 (.int .i64 x))(h1:W.cell? ⟨b,1,Q2⟩=Q1 (.int .i64 y))(h2:W.cell? ⟨b,2,Q2⟩=Q1 (.int .i64 z)):
  Calls Tryz.prog 108 #[.slice (Q1 ⟨b,0,Q2⟩) 3 3] W λe w'=>e=.returned (.int .i64 (F1 [x,y,z]))/\w'=W:=by
 have hv:F1 [x,y,z]=if x=0 then(if y=0 then z else y)else x:=by
  unfold F1;unfold F1;unfold F1;unfold F1;by_cases hx:x=0<;>by_cases hy:y=0<;>by_cases hz:z=0<;>simp[hx,hy,hz]
 rw[hv];clear hv
 go_enter Tryz.func108,Tryz.ntmps108
 go_wp2
 by_cases hx:x=0
 ·subst hx;by_cases hy:y=0
  ·subst hy;by_cases hz:z=0
   ·subst hz;refine wp_loop_rounds 4 ?_
    (rw[rounds_succ];go_wp2)
    (rw[rounds_succ];go_wp2)
    (rw[rounds_succ];go_wp2)
    (rw[rounds_succ];go_wp2)
    go_ret
    exact⟨by simp[*],rfl⟩
   ·refine wp_loop_rounds 4 ?_
    (rw[rounds_succ];go_wp2)
    (rw[rounds_succ];go_wp2)
    (rw[rounds_succ];go_wp2)
    go_ret
    exact⟨by simp[*],rfl⟩
  ·refine wp_loop_rounds 4 ?_
   (rw[rounds_succ];go_wp2)
   (rw[rounds_succ];go_wp2)
   go_ret
   exact⟨by simp[*],rfl⟩
 ·refine wp_loop_rounds 4 ?_
  (rw[rounds_succ];go_wp2)
  go_ret
  exact⟨by simp[*],rfl⟩
structure zjo (p:Prop):Prop where
 out:p
theorem YE{A w':World}{p q:Nat}{a b c x y z:Value}(e0:A.heap[p]?=Q1 (.cells #[a,b,c] 27 (0,0)))(e1:A.heap[q]?=Q1 (.cells #[x,y,z] 27 (0,0)))(h:RowKit.Below A.heap.size A w'):
  w'.heap[p]?=Q1 (.cells #[a,b,c] 27 (0,0))/\w'.heap[q]?=Q1 (.cells #[x,y,z] 27 (0,0)):=
 ⟨(h.block p (nW.1 e0).1).trans e0,(h.block q (nW.1 e1).1).trans e1⟩
theorem oC{A:World}{p:Nat}{a b c:Value}(e0:A.heap[p]?=Q1 (.cells #[a,b,c] 27 (0,0))):
  A.cell? ⟨p,0,Q2⟩=Q1 a/\A.cell? ⟨p,1,Q2⟩=Q1 b/\A.cell? ⟨p,2,Q2⟩=Q1 c/\A.frozen? ⟨p,0,Q2⟩=Q4/\A.frozen? ⟨p,1,Q2⟩=Q4/\A.frozen? ⟨p,2,Q2⟩=Q4:=by
 simp[World.cell?,World.frozen?,e0]
theorem Wg(k n:Int)(s:zB)(k' n':Int)(s':zB)(W:World):Calls Tryz.prog 62 #[.agg #[.int .i64 k,.int .i64 n,.string ⟨s.toArray⟩],.agg #[.int .i64 k',.int .i64 n',.string ⟨s'.toArray⟩]] W λe w'=>e=.returned (.int .i64 (cD (k,n,s) (k',n',s')))/\RowKit.Below W.heap.size W w'/\W.drawn<=w'.drawn:=by
 have hk:=λW'=>IB k n s W'
 have hk':=λW'=>IB k' n' s' W'
 have mixed:Tryz.prog.follows .mixedOrders=Q3:=by kernel_rfl
 unfold cD;generalize ap (k,n,s)=a at hk⊢;generalize ap (k',n',s')=b at hk'⊢;obtain⟨a1,a2,a3⟩:=a;obtain⟨b1,b2,b3⟩:=b
 dsimp only at hk hk'⊢
 have k1:=λW'=>za3 a1 b1 W'
 have k2:=λW'=>za4 a2 b2 W'
 have k3:=λW'=>za5 a3 b3 W'
 generalize rP a1 b1=m1 at k1⊢;generalize kk a2 b2=m2 at k2⊢;generalize nY a3 b3=m3 at k3⊢
 go_enter Tryz.func62,Tryz.ntmps62
 go_wp2
 obtain⟨W2,hW2⟩:∃W2,(W.alloc (.cells #[.int .i64 k,.int .i64 n,.string ⟨s.toArray⟩] 27)).alloc (.cells #[.int .i64 k',.int .i64 n',.string ⟨s'.toArray⟩] 27)=W2:=⟨_,rfl⟩;have e0:W2.heap[W.heap.size]?=Q1 (.cells #[.int .i64 k,.int .i64 n,.string ⟨s.toArray⟩] 27 (0,0)):=by rw[<-hW2];exact(bh _ _ _ sw).trans (cv _ _)
 have e1:W2.heap[W.heap.size+1]?=Q1 (.cells #[.int .i64 k',.int .i64 n',.string ⟨s'.toArray⟩] 27 (0,0)):=by
  rw[<-hW2];have:=cv (W.alloc (.cells #[.int .i64 k,.int .i64 n,.string ⟨s.toArray⟩] 27)) (.cells #[.int .i64 k',.int .i64 n',.string ⟨s'.toArray⟩] 27)
  rwa [aX]at this
 have hB2:RowKit.Below W.heap.size W W2:=by rw[<-hW2];exact((RowKit.Below.refl _ W).alloc (aB _) _).alloc sw _
 have hd2:W.drawn<=W2.drawn:=by rw[<-hW2];exact aB _
 rw[hW2];clear hW2;obtain⟨c0,c1,c2,c3,c4,c5⟩:=oC e0;obtain⟨d0,d1,d2,d3,d4,d5⟩:=oC e1;rename_i K hK
 have hrest:∀W3:World,W3.heap[W.heap.size]?=Q1 (.cells #[.int .i64 a1,.int .i64 a2,.string ⟨a3.toArray⟩] 27 (0,0))->W3.heap[W.heap.size+1]?=Q1 (.cells #[.int .i64 b1,.int .i64 b2,.string ⟨b3.toArray⟩] 27 (0,0))->RowKit.Below W.heap.size W W3->W.drawn<=W3.drawn->
   K {tmps:=#[.agg #[.int .i64 k,.int .i64 n,.string ⟨s.toArray⟩],.agg #[.int .i64 k',.int .i64 n',.string ⟨s'.toArray⟩],.pointer (Q1 ⟨W.heap.size,0,Q2⟩),.pointer (Q1 ⟨W.heap.size+1,0,Q2⟩),.int .i64 0,.agg #[.int .i64 k,.int .i64 n,.string ⟨s.toArray⟩],.agg #[.int .i64 a1,.int .i64 a2,.string ⟨a3.toArray⟩],.agg #[.int .i64 k',.int .i64 n',.string ⟨s'.toArray⟩],.agg #[.int .i64 b1,.int .i64 b2,.string ⟨b3.toArray⟩],undef,undef,undef,undef,undef,undef,undef,undef,undef,undef,undef,undef,undef,undef,undef,undef,undef],defers:=[]} W3:=by
  intro W3 w0 w1 hB3 VD;apply hK;clear hK;have hsz:W.heap.size+1<W3.heap.size:=(nW.1 w1).1;obtain⟨x0,x1,x2,x3,x4,x5⟩:=oC w0;obtain⟨y0,y1,y2,y3,y4,y5⟩:=oC w1
  go_wp2
  go_still_tail 15,mixed
  still_call (k1 _)
  repeat still_step
  still_call (k2 _)
  repeat still_step
  still_call (k3 _)
  refine wpStill_nil ?_;change wpList _ _ _ _ _ W3.drew;have hd4:W.drawn<=W3.drew.drawn:=cy VD (Nat.le_succ _);have hB4:RowKit.Below W.heap.size W W3.drew:=hB3.drew;generalize W3.drew=W4 at hd4 hB4⊢
  go_wp2_with (go_at_call 108;refine(ziR m1 m2 m3 W4.heap.size _ sw sw sw).mono ?_;rintro e w' ⟨rfl,rfl⟩)
  go_ret
  exact⟨rfl,hB4.alloc hB4.size _,hd4⟩
 have hrk:=zjo.mk hrest;clear hK hrest k1 k2 k3
 go_region_with (first
  |(go_at_call 107;refine(hk _).mono ?_;clear hk;rintro e w1 ⟨rfl,h1,VD⟩;obtain⟨f0,f1⟩:=YE (A:=W2.drew) e0 e1 h1;obtain⟨p0,p1,p2,p3,p4,p5⟩:=oC f0;obtain⟨q0,q1,q2,q3,q4,q5⟩:=oC f1)
  |(go_at_call 107;refine(hk' _).mono ?_;clear hk';rintro e w2 ⟨rfl,h2,hd4⟩;obtain⟨g0,g1⟩:=YE f0 f1 h2;obtain⟨r0,r1,r2,r3,r4,r5⟩:=oC g0;obtain⟨s0,s1,s2,s3,s4,s5⟩:=oC g1))
 all_goals
  refine hrk.out _ ?_ ?_ ?_ ?_
  ·simp[World.setCell,sK,g0]
  ·simp[World.setCell,sK,g1]
  ·have hs1:=h1.size;have hs2:=h2.size;have hB5:RowKit.Below W.heap.size W w2:=(hB2.trans ((RowKit.Below.mono ⟨h1.os,h1.tape,h1.output,h1.size,h1.block⟩ hB2.size))).trans (h2.mono (cy hB2.size hs1));exact(((((hB5.setCell (p:=⟨W.heap.size,0,Q2⟩) sw _).setCell (p:=⟨W.heap.size,1,Q2⟩) sw _).setCell (p:=⟨W.heap.size,2,Q2⟩) sw _).setCell (p:=⟨W.heap.size+1,0,Q2⟩) sw _).setCell (p:=⟨W.heap.size+1,1,Q2⟩) sw _).setCell (p:=⟨W.heap.size+1,2,Q2⟩) sw _
  ·have hs3:W2.drawn+1<=w1.drawn:=VD;have hs4:W.drawn<=w2.drawn:=by omega
   simpa[World.setCell]using hs4
open Tr (chk br re)
def pG(l:List (Sem zf)):Bool:=l.all (λv=>aW v&&(v.1!=0))&&decide l.Nodup&&!l.isEmpty
theorem Tz{l l':List (Sem zf)}(h:pG l=Q3)(hp:List.Perm l' l)(hs:l'.Pairwise λx y:Sem zf=>¬LT.lt (α:=Int) (cD y x) 0):l'=oA l:=by
 simp only[pG,aD,dT,aP,bne_iff_ne,ne_eq]at h;obtain⟨⟨hm,hn⟩,_⟩:=h;obtain⟨a1,a2⟩:=lh λx hx=>(hm x hx).1
 have hn':l'.Nodup:=hp.nodup_iff.2 hn;refine GL ?_ a1 λx=>?_
 ·refine(hs.and hn').imp_of_mem λ{x y} hx hy h=>?_
  rcases mH (hm y (hp.mem_iff.1 hy)).1 (hm x (hp.mem_iff.1 hx)).1 h.1 with e|e
  ·exact absurd e.symm h.2
  ·exact e
 ·rw[a2 x,hp.mem_iff];exact⟨λhx=>⟨hx,(hm x hx).2⟩,λhx=>hx.1⟩
@[match_pattern] abbrev zly:Sh:=.pr (.int .i64) (.pr (.int .i64) .str)
def zm5:zX:=λargs hp _=>match args with
 | [.vec id,.clo (.func 62) [] []]=>match hp id with
  |.vec zly l=>(.chk (Q0 (length l<=1000000)) (.chk (pG l) (.ok {val:=.tup [],wr:=[(id,.vec zf (oA l))]})))
  |_=>.err
 |_=>.err
theorem zj4:Go.Proofs.Enters Tryz.prog 62:=by
  cases hb:Tryz.f62.body with
  | none => have:Tryz.f62.body.isNone=false:=by kernel_rfl
            rw[hb]at this;cases this
  |some c=>exact Go.Proofs.enters_of (fn:=Tryz.f62) kw kw hb
noncomputable section
abbrev YJ:=mM [(4,[5,6,18,19,20]),(11,[9,34])]
inductive NE where
 |h4 (i5:Sem zg) (l18:List (Sem zf.sl)) (i19:Int) (i20:Int) (mh_0:List ((Int×Int×zB)×Int))
abbrev Kh:NE->Nat×St
 |.h4 i5 l18 i19 i20 mh_0=>(4,⟨tm 46 [(5,ai i5),(6,AV.mp 0),(18,sl zf.sl l18),(19,ai i19),(20,ai i20)],[AO.vmap Q3 mh_0]⟩)
def zbF(x0:Sem zz)(x1:Sem zh.sl):Tr (NE⊕aw):=
 let a0:=(x0.1,x0.2.1,x0.2.2.1,(x0.2.2.2.1.1,x0.2.2.2.1.2.1,x0.2.2.2.1.2.2.1,x0.2.2.2.1.2.2.2.1,x0.2.2.2.1.t.1,zm x0.2.2.2.1.t.2),x0.t)
 let a1:=getD x1 (toNat 0) (zi zh)
 Qc (jd a0 x1) (Qc (zM 0 (length x1)) (Q9 (NE.h4 (bT a0 x1) a1.2 (↑(length a1.2):Int) 0 [])))
def zi0:NE->Tr (NE⊕aw)
 | .h4 i5 l18 i19 i20 mh_0=>
  let a0:=l18.getD i20.toNat (zi zf.sl)
  br (Q0 (i20<i19))
  (Qc (zM i20 l18.length) (Qc (zM i5 (length a0)) (Q9 (NE.h4 i5 l18 i19 (IntKind.i64.wrap (i20+1)) (jT mh_0 (getD a0 (toNat i5) (zi zf)) 0)))))
  Tr.err
end
def ve(es:List ((Int×Int×zB)×Int))(k:Int×Int×zB):List ((Int×Int×zB)×Int):=match ch es k 0 with
 |some q=>es.eraseIdx q.1
 |none=>es
theorem vW{α β:Type}(f:α->β):∀(l:List α)(i:Nat),(l.eraseIdx i).map f=(l.map f).eraseIdx i
 |[],_=>rfl
 |_::_,0=>rfl
 | x::r,i+1=>by
  show f x::(r.eraseIdx i).map f=f x::(r.map f).eraseIdx i;rw[vW f r i]
theorem Vp{P:Program}{mt kt et:TypeId}(hm:P.underlying mt=Q1 (.map kt et))(hvk:mG P kt=Q3){w:World}{r:Nat}{ents:Array MapEntry}{clock:Nat}{es:List ((Int×Int×zB)×Int)}{k:Int×Int×zB}(hko:kY k)
  (hb:w.heap[r]?=Q1 (.map ents clock)) (he:(ents.toList.map λe=>(e.key,e.val))=AE Q3 es) (ho:∀p∈es,cJ .i64 p.2/\kY p.1) (hs:lc ents clock):
  ∃ents':Array MapEntry,(∀ty,(Builtin.delete_ #[mt,kt] ty #[.map (Q1 r),dD k]).run P w=.ok (.tuple #[]) {w with heap:=w.heap.setIfInBounds r (.map ents' clock)})/\
   (ents'.toList.map λe=>(e.key,e.val))=AE Q3 (ve es k)/\(∀x∈ents'.toList,x.born<clock)/\(ents'.toList.map (·.born)).Nodup:=by
 have hfk:=ja (P:=P) (w:=w) hvk hko Q3 es ents.toList he ho;have hborn:∀x∈ents.toList,x.born<clock:=λx hx=>by
  obtain⟨i,hi,rfl⟩:=gL hx;have:=hs.2 i ents.toList[i] (by rw[<-qZ];exact zR hi);rw[this,hs.1];simpa using hi
 have hnd:(ents.toList.map (·.born)).Nodup:=by
  have:ents.toList.map (·.born)=List.range ents.size:=by
   apply List.ext_getElem
   ·simp
   ·intro i h1 h2;have hi:i<ents.size:=by simpa using h1
    simp only[List.getElem_map,List.getElem_range];exact hs.2 i _ (by rw[<-qZ];exact zR (by simpa using hi))
  rw[this];exact List.nodup_range
 unfold ve;cases hfi:ch es k 0 with
 | none=>
  rw[hfi]at hfk;refine⟨ents,λty=>?_,he,hborn,hnd⟩;simp[Builtin.delete_,bz hm,kf hb,cV hvk,hfk,wI _ hb,Result.andThen]
 | some q=>
  rw[hfi]at hfk;have hsub:((ents.eraseIdxIfInBounds q.1).toList)=ents.toList.eraseIdx q.1:=by simp
  refine⟨ents.eraseIdxIfInBounds q.1,λty=>?_,?_,λx hx=>?_,?_⟩
  ·simp[Builtin.delete_,bz hm,kf hb,cV hvk,hfk,wI _ hb,Result.andThen]
  ·rw[hsub,vW,he];exact(vW _ es q.1).symm
  ·rw[hsub]at hx;exact hborn x (List.mem_of_mem_eraseIdx hx)
  ·rw[hsub];exact hnd.sublist ((List.eraseIdx_sublist _ _).map _)
noncomputable def Cb:Code:=match Tryz.f30.body with
 |some (.seq _ (.seq _ (.seq _ (.seq _ r))))=>r
 |_=>.skip
noncomputable def Bd:Code:=match Tryz.f30.body with
 |some (.seq _ (.seq _ (.seq _ (.seq (.seq _ (.block _ (.loop c))) _))))=>c
 |_=>.skip
theorem zbw:ac Tryz.f30 4=[.code Bd,.inLoop Bd,.inBlock 0,.code Cb]:=kw
theorem zbM:(Tryz.prog.info? 27).map (λi=>(i.zero,i.size,i.bytes))=Q1 (Q1 (.agg #[.int .i64 0,.int .i64 0,.string ⟨#[]⟩]),3,32):=kw
def In(l:List ((Int×Int×zB)×MapEntry)):List Value:=l.flatMap λp=>[.int .i64 p.1.1,.int .i64 p.1.2.1,.string ⟨p.1.2.2.toArray⟩]
structure Y8 (w1:World) (r clock:Nat) (ents':Array MapEntry) (v:Value) (wr:World) (seen:Array Nat) (E:List ((Int×Int×zB)×MapEntry)):Prop where
 it:∃c0,wr.heap[w1.heap.size]?=Q1 (.mapIter (Q1 r) clock seen c0)/\clock<=c0
 mp:wr.heap[r]?=Q1 (.map ents' clock)
 sub:∀p∈E,p.2∈ents'.toList/\p.2.key=dD p.1
 sn:seen.toList=E.map λp=>p.2.born
 nd:(E.map λp=>p.2.born).Nodup
 row:wr.ownsRow w1.heap.size 27 3 v E.length (In E)
 bel:RowKit.Below w1.heap.size w1 wr
 cnt:E.length+(leftOf ents' seen).size<=ents'.size
theorem NT(w:World)(l:List Value)(t:TypeId):∀j u,l[j]?=Q1 u->(w.alloc (.cells l.toArray t)).cell? ((⟨w.heap.size,0,Q2⟩:Addr).add j)=Q1 u:=by
 intro j u h;unfold Addr.add;split
 ·rename_i e;subst e;simp[h]
 ·simp[h]
theorem Ws(Q:Exit->Act->World->Prop)(S:Value->World->Prop)(r:Nat)(ents':Array MapEntry)(clock:Nat)(w w1:World)(hdel:∀ty,(Builtin.delete_ #[121,27] ty #[.map (Q1 r),.agg #[.int .i64 0,.int .i64 0,.string ⟨#[]⟩]]).run Tryz.prog w=.ok (.tuple #[]) w1)(hm:w1.heap[r]?=Q1 (.map ents' clock))(hborn:∀x∈ents'.toList,x.born<clock)(hnd:(ents'.toList.map (·.born)).Nodup) (hkeys:∀x∈ents'.toList,∃k,x.key=dD k) (hsz:ents'.size<=1000)
  (hsort:∀v wr seen E,Y8 w1 r clock ents' v wr seen E->(leftOf ents' seen).size=0->Calls Tryz.prog 61 #[v,.func (.func 62) #[] #[]] wr λe w'=>e=.returned (.tuple #[])/\S v w')
  (hQ:∀v w'(a:Act),S v w'->a.tmps[4]?=Q1 v->a.defers=[]->Q Exit.ret a w')
  (v0 v1 v2 v3 v4 v5 v7 v8 v9 v10 v11 v12 v13 v14 v15 v16 v17 v18 v19 v20 v21 v22 v23 v24 v25 v26 v27 v28 v29 v30 v31 v32 v33 v34 v35 v36 v37 v38 v39 v40 v41 v42 v43 v44 v45:Value):
  Cb.wp Tryz.prog Q {tmps:=#[v0,v1,v2,v3,v4,v5,(Value.map (Q1 r)),v7,v8,v9,v10,v11,v12,v13,v14,v15,v16,v17,v18,v19,v20,v21,v22,v23,v24,v25,v26,v27,v28,v29,v30,v31,v32,v33,v34,v35,v36,v37,v38,v39,v40,v41,v42,v43,v44,v45],defers:=[]} w:=by
 have hrg:=run_range_map (P:=Tryz.prog) w1 121 27 122 r ents' clock Tryz.underlying121 hm;simp only[Cb,Tryz.f30]
 go_wp2
 obtain⟨i0,hi,hz0,hz1,hz2⟩:=info_parts zbM
 go_loopw [9] (λv wr=>∃seen E,Y8 w1 r clock ents' v wr seen E)
  (λ_ wr=>(leftOf ents' (wr.iterSeen w1.heap.size)).size)
 case atStart=>
  exact⟨#[],[],⟨⟨clock,heap_alloc_new _ _,aB _⟩,by rw[heap_alloc_old _ _ (nW.1 hm).1];exact hm,sw,sw,sw,World.ownsRow_nil _ _ _ _,(RowKit.Below.refl _ _).alloc (aB _) _,by simpa[leftOf]using Array.size_filter_le⟩⟩
 case round=>
  obtain⟨seen,E,hC⟩:=hrel;obtain⟨c0,hit,hsc⟩:=hC.it;have hrlt:r<w1.heap.size:=(nW.1 hm).1;rcases run_next_at (P:=Tryz.prog) wr 0 w1.heap.size r clock c0 seen ents' clock hit hC.mp hborn hsc with⟨hz,hnx⟩|⟨e,he,wd,hwd,hnx⟩
  ·have hC':=hsort _ _ _ _ hC (by simpa using hz);clear hC
   go_wp2_with (go_at_call 61;refine hC'.mono ?_;rintro e w' ⟨rfl,hS⟩)
   exact hQ _ _ _ hS rfl rfl
  ·have hem:e∈ents'.toList:=by simp[leftOf]at he⊢;exact he.1
   have hes:e.born∉E.map λp=>p.2.born:=by
    rw[<-hC.sn];simp[leftOf]at he⊢;exact he.2
   obtain⟨k,hk⟩:=hkeys e hem;have hleft:0<(leftOf ents' seen).size:=by
    have:=List.length_pos_of_mem he;simpa using this
   have hcnt:=hC.cnt;have hEl:E.length<1000:=by omega
   obtain⟨W3,hW3⟩:∃W3,ChangeMaps.setBlock wd w1.heap.size (.mapIter (Q1 r) clock (seen.push e.born) clock)=W3:=⟨_,rfl⟩;rw[hW3]at hnx;have hwh:wd.heap=wr.heap:=by rcases hwd with rfl|rfl<;>rfl
   have hilt:w1.heap.size<wr.heap.size:=(nW.1 hit).1;have hit3:W3.heap[w1.heap.size]?=Q1 (.mapIter (Q1 r) clock (seen.push e.born) clock):=by
    rw[<-hW3];show(wd.heap.setIfInBounds _ _)[_]?=_;rw[hwh];simp[hilt]
   have hoth:∀j,j≠w1.heap.size->W3.heap[j]?=wr.heap[j]?:=λj hj=>by
    rw[<-hW3];show(wd.heap.setIfInBounds _ _)[_]?=_;rw[hwh,Array.getElem?_setIfInBounds_ne (λe=>hj e.symm)]
   have hsz3:W3.heap.size=wr.heap.size:=by
    rw[<-hW3];show(wd.heap.setIfInBounds _ _).size=_;rw[hwh];simp
   have hgr:wr.grownBy W3 (Q1 w1.heap.size):=⟨by rw[<-hW3];rcases hwd with rfl|rfl<;>rfl,by rw[<-hW3];rcases hwd with rfl|rfl<;>rfl,by rw[<-hW3];rcases hwd with rfl|rfl<;>rfl,by rw[hsz3];exact aB _,λj _ hj=>hoth j λe=>hj (by rw[e])⟩;have hmp3:W3.heap[r]?=Q1 (.map ents' clock):=(hoth r ow).trans hC.mp;have hen:=run_entry_at (P:=Tryz.prog) W3 w1.heap.size r clock seen ents' clock e hit3 hmp3 hem hnd;have hrow3:=hC.row.kept hgr (by
    rcases hC.row.2 with⟨rfl,_⟩|⟨g,cap,cur,rfl,_,hgb,_⟩
    ·exact .inl rfl
    ·refine .inr λe'=>?_
     have:g=w1.heap.size:=by simpa[Value.ownBlock]using e'
     subst this;rw[hit]at hgb;cases hgb)
   have hbel3:RowKit.Below w1.heap.size w1 W3:=hC.bel.grown hgr hC.bel.size (λj e=>by cases e;exact aB _);rw[hk]at hnx hen;obtain⟨k1,k2,k3⟩:=k;simp only[dD]at hnx hen;have hsub:=hC.sub;have hsn:=hC.sn;have hndE:=hC.nd;clear hW3 hwd hwh hsz3 hgr hC
   go_wp2_with (at_builtin;refine wpList_append_own _ rfl _ _ 31 rfl w1.heap.size 27 i0 _ 3 32 Tryz.underlying31 hi hz0 hz1 hz2 rfl (by decide) _ _ _ rfl ((hrow3.alloc _).alloc _) ⟨W3.heap.size+1,0,Q2⟩ 1 1 [.int .i64 k1,.int .i64 k2,.string ⟨k3.toArray⟩] rfl rfl (by have:=NT (W3.alloc (.cells #[.int .i64 k1,.int .i64 k2,.string ⟨k3.toArray⟩] 27)) [.int .i64 k1,.int .i64 k2,.string ⟨k3.toArray⟩] 27;simpa using this) (by simp[Value.oneCell']) (by unfold maxLen;omega) ow (by have:=hbel3.size;simp;omega) ?_;intro v' w3 hown' hgr3 hnil3;go_frame)
   obtain⟨o3,ho3⟩:∃o:Obj,o=.cells #[.int .i64 k1,.int .i64 k2,.string ⟨k3.toArray⟩] 27:=⟨_,rfl⟩;have hgr4:World.grownBy ((W3.alloc o3).alloc o3) w3 u9.ownBlock:=by rw[ho3];exact hgr3
   clear hgr3 hnil3;have hown9:∀j,u9.ownBlock=Q1 j->w1.heap.size<=j/\j≠w1.heap.size:=by
    intro j hj;rcases hrow3.2 with⟨rfl,_⟩|⟨g,cap,cur,rfl,hbg,hgb,_⟩
    ·simp[Value.ownBlock]at hj
    ·have:g=j:=by simpa[Value.ownBlock]using hj
     subst this;exact⟨hbg,λe'=>by subst e';rw[hit3]at hgb;cases hgb⟩
   have hs3:w1.heap.size<W3.heap.size:=(nW.1 hit3).1;have hold:∀j,j<=w1.heap.size->w3.heap[j]?=W3.heap[j]?:=λj hj=>by
    rw[hgr4.block j sg (λe'=>by obtain⟨a,b⟩:=hown9 j e'.symm;omega),heap_alloc_old _ _ sg,heap_alloc_old _ _ ow]
   have hnew:w3.heap[w1.heap.size]?=Q1 (Obj.mapIter (Q1 r) clock (seen.push e.born) clock):=(hold _ (aB _)).trans hit3;have hfl:In (E++[((k1,k2,k3),e)])=In E++[.int .i64 k1,.int .i64 k2,.string ⟨k3.toArray⟩]:=by simp[In]
   refine⟨⟨seen.push e.born,E++[((k1,k2,k3),e)],⟨⟨clock,hnew,aB _⟩,(hold r ow).trans hmp3,?_,?_,?_,?_,?_,?_⟩⟩,?_⟩
   ·intro p hp;rcases cN.1 hp with h|h
    ·exact hsub p h
    ·obtain rfl:=fZ.1 h;exact⟨hem,hk⟩
   ·simp[hsn]
   ·rw[gZ];refine List.nodup_append.2 ⟨hndE,sw,λa ha b hb=>?_⟩;have:b=e.born:=by simpa using hb
    rintro rfl;exact hes (this▸ha)
   ·rw[hfl,jg];exact hown'
   ·exact((hbel3.alloc ow _).alloc sg _).grown hgr4 sg (λj hj=>(hown9 j hj).1)
   ·have:=left_shrinks _ _ _ he;rw[jg];simp only[eZ,nJ];omega
   ·have e1:wr.iterSeen w1.heap.size=seen:=by simp[World.iterSeen,hit]
    have e2:w3.iterSeen w1.heap.size=seen.push e.born:=by simp[World.iterSeen,hnew]
    rw[e1,e2];exact left_shrinks _ _ _ he
abbrev V3:={x:Sem zf//aW x=Q3}
def jC(p:V3):List Value:=[.int .i64 p.1.1,.int .i64 p.1.2.1,.string ⟨(p.1.2.2:zB).toArray⟩]
def HL(p q:V3):Int:=cD p.1 q.1
theorem zcG[Inhabited V3](d:Array V3)(B cap:Nat)(w:World)(hH:HoldsK jC 3 w B 0 d)(hB:B<w.heap.size)(h:d.size<4611686018427387904):
  Calls Tryz.prog 61 #[.slice (Q1 ⟨B,0,Q2⟩) d.size cap,.func (.func 62) #[] #[]] w λe w'=>e=.returned (.tuple #[])/\∃n os,w'=sortWorldK jC 3 w B 0 n (d.toList.mergeSort λx y=>!(ltOf HL) y x).toArray os:=by
 refine AnyQ.slices_SortFunc_total Tryz.sortVal 3 Tryz.isAgg27 Tryz.sizeOf27 jC (λ_=>rfl) ?_ HL ?_ 62 #[] B 0 cap d w zj4 ?_ hH hB h ?_
 ·intro x v hv;simp only[jC,cj,List.not_mem_nil,or_false]at hv;rcases hv with rfl|rfl|rfl<;>rfl
 ·refine⟨λx=>?_,λx y z h g=>?_,λx y z h g=>?_⟩
  ·exact af (gI (a:=x.1))
  ·simp only[ltOf,aP]at h g⊢;exact gV (a:=x.1) (b:=y.1) (c:=z.1) h g
  ·simp only[ltOf,decide_eq_false_iff_not]at h g⊢;intro hxz;rcases mH x.2 y.2 h with e|e
   ·unfold HL at hxz;rw[e]at hxz;exact g hxz
   ·exact g (gV (a:=y.1) (b:=x.1) (c:=z.1) e hxz)
 ·intro m os dk hdk x y;show Calls Tryz.prog 62 (#[Value.agg (jC x).toArray,Value.agg (jC y).toArray]++#[]) _ _;refine(Wg x.1.1 x.1.2.1 x.1.2.2 y.1.1 y.1.2.1 y.1.2.2 _).mono ?_;rintro e' w' ⟨rfl,h1,h2⟩;exact⟨rfl,gd_of h1 h2⟩
 ·intro x y h g;simp only[ltOf,decide_eq_false_iff_not]at h g;rcases mH x.2 y.2 h with e|e
  ·exact Subtype.ext e
  ·exact absurd e g
theorem tp[Inhabited V3]:∀(l:List V3)(t:Nat),t<l.length*3->(l.flatMap jC)[t]?=Q1 (jC (l[t/3]!))[t%3]!
 |[],t,h=>by simp at h
 | a::l,t,h=>by
  rw[List.flatMap_cons];by_cases h3:t<3
  ·have e0:t/3=0:=by omega
   have e1:t%3=t:=by omega
   rw[mQ (by simpa[jC]using h3),e0,e1];rw[List.getElem!_cons_zero,zR (by simpa[jC]using h3),getElem!_pos]
  ·obtain⟨s,rfl⟩:∃s,t=s+3:=⟨t-3,ow⟩;have e0:(s+3)/3=s/3+1:=by omega
   have e1:(s+3)%3=s%3:=by omega
   rw[nX (by simp[jC]),e0,e1,List.getElem!_cons_succ];have:=tp l s (by simp at h;omega);simpa[jC]using this
theorem A0:∀l:List V3,(l.flatMap jC).length=l.length*3
 |[]=>rfl
 | a::l=>by
  rw[List.flatMap_cons,jg,A0 l,eZ];simp[jC];omega
theorem SQ[Inhabited V3]{w:World}{base:Nat}{v:Value}{l:List V3}(hown:w.ownsRow base 27 3 v l.length (l.flatMap jC))(hbig:l.length<4611686018427387904)(hne:l≠[]):
  Calls Tryz.prog 61 #[v,.func (.func 62) #[] #[]] w λe w'=>e=.returned (.tuple #[])/\w'.ownsRow base 27 3 v l.length ((l.mergeSort λx y=>!(ltOf HL) y x).flatMap jC)/\w.grownBy w' v.ownBlock:=by
 rcases hown.2 with⟨_,h0⟩|⟨g,cap,cur,rfl,hbg,hgb,hnc,hcm,hcs,htk⟩
 ·exact absurd (List.length_eq_zero_iff.1 h0) hne
 have hH:HoldsK jC 3 w g 0 l.toArray:=by
  intro t ht;rw[size_flatK]at ht;have ht':t<l.length*3:=by simpa using ht
  have hc:cur.toList[t]?=Q1 (jC (l[t/3]!))[t%3]!:=by
   rw[<-tp l t ht',<-htk,List.getElem?_take_of_lt ht']
  refine⟨?_,by simp[World.frozen?,hgb]⟩;rw[get_flatK _ _ _ _ ht];simp[World.cell?,hgb];simpa using hc
 have hs:=zcG l.toArray g cap w hH (nW.1 hgb).1 (by simpa using hbig);have hsz:l.toArray.size=l.length:=by simp
 rw[hsz]at hs;refine hs.mono ?_;rintro e w' ⟨rfl,m,os,rfl⟩;have hl':(l.mergeSort λx y=>!(ltOf HL) y x).length=l.length:=List.length_mergeSort _;simp only[];generalize(l.mergeSort λx y=>!(ltOf HL) y x)=l' at hl';have hB':=tu (enc:=jC) (k:=3) (n:=m) (os:=os) l'.toArray hgb;have hoth:∀b,b<w.heap.size->b≠g->(sortWorldK jC 3 w g 0 m l'.toArray os).heap[b]?=w.heap[b]?:=λb hb hn=>gF l'.toArray hb hn
 refine⟨by first|trivial|rfl,⟨by rw[A0,hl'],.inr ⟨g,cap,_,rfl,hbg,hB',hnc,hcm,by simp[putCells,hcs],?_⟩⟩,⟨rfl,rfl,rfl,?_,λk hk hn=>hoth k hk λe=>hn (by rw[e];rfl)⟩⟩
 ·apply DA;intro t;by_cases ht:t<l.length*3
  ·rw[List.getElem?_take_of_lt ht,tp l' t (by rw[hl'];exact ht),qZ];have hcl:t<cur.size:=by rw[hcs];exact iA ht (gK 3 hnc)
   have hfk:=get_flatK jC 3 l'.toArray t (by simpa[hl']using ht);have hfs:(flatK jC 3 l'.toArray).size=l.length*3:=by simp[hl']
   unfold putCells;rw[Array.getElem?_mapIdx,sO hcl];simp only[DE,bd,kh,hfs,ht,and_self,if_true,Nat.sub_zero,hfk,id_eq];simp
  ·rw[eX sg,eX (by rw[A0,hl'];omega)]
 ·unfold sortWorldK grow putRowK;simp[Sort.ahead]
end Cad
