/- Plans: the statement of which a plan over its sources would be. Plans: a plan's own sources, rising. Units: a plan and its sources go together. Units: plan. -/
import Derived.Test.YtjfdpfapcmcncaaGreatDoorL21
import Derived.Test.YtjfdpfapcmcncaaGreatDoorL16
import Derived.Test.YtjfdpfapcmcncaaGreatDoorL17
import Derived.Test.YtjfdpfapcmcncaaGreatDoorL18
import Derived.Test.YtjfdpfapcmcncaaGreatDoorL20
import Derived.Test.YtjfdpfapcmcncaaGreatDoorL05
import Derived.RowKit3
import Derived.WideKeyArgs
import Derived.Test.YtjfdpfapcmcncaaGreatDoorRows
import Derived.OpenShut
import Derived.ProofKit
import Derived.Test.YtjfdpfapcmcncaaGreatDoorL11
import Derived.Test.YtjfdpfapcmcncaaGreatDoorL08
import Derived.Test.YtjfdpfapcmcncaaGreatDoorL19
namespace Cad
open Go Go.Proofs
open AV renaming nils→Qb
open Tr renaming val→Q8
open Bool renaming false→Q4,true→Q3
open Option renaming some→Q1
open Decidable renaming decide→Q0
open Int (toNat)
open List (getD length)
open Tr (chk br re)
open AV (nils agg tup ptr kb str sl)
set_option maxHeartbeats 4000000
theorem G4{g c b:Bool}(h:(g&&(bif c then b else Q4))=Q3):b=Q3:=by
 cases g<;>cases c<;>simp_all
theorem ZG{s:Sem zl}(h:fw s=Q3)(sh:mi s)(ho:jM s.1):
  s.t.1=[]/\s.t.q.1=[]/\s.t.q.2.1=[]/\s.t.t.2.1=[]/\s.t.t.q.1=[]/\s.t.t.q.2.1=dw/\(if s.1=gK then s.2.2.2.1=[]else s.t.2.1=[]/\dQ s=[]):=by
 obtain⟨o,s2,s3,s4,s5,s6,s7,s8,s9,s10,s11,s12,s13⟩:=s;have n4:=sh.names.1;have n5:=sh.cols.1;have n7:=sh.uniques.1;have n8:=sh.refs.1;have n10:=sh.row;have n11:=sh.sets.1;simp only at n4 n5 n7 n8 n10 n11;rcases ho with rfl|rfl|rfl
 ·obtain⟨_,hp⟩:=eL (s:=(dv,s2,s3,s4,s5,s6,s7,s8,s9,s10,s11,s12,s13)) (g:=_) (b:=_) rfl;rw[hp]at h;have h:=G4 h;obtain⟨_,_,k3,k4,_,k6,k7,k8,k9,k10,_,k12⟩:=(js sw sg sg sg sg sg).1 h;exact⟨k6,k7,k8,k9,k10,(ze.eta _).symm.trans k12,by rw[if_neg (λh=>by simp at h)];exact⟨k3,k4⟩⟩
 ·obtain⟨_,hp⟩:=eL (s:=(gK,s2,s3,s4,s5,s6,s7,s8,s9,s10,s11,s12,s13)) (g:=_) (b:=_) rfl;rw[hp]at h;have h:=G4 h;obtain⟨_,_,k3,k4,k5,k6,k7,k8,k9,k10,_,k12⟩:=(js sg sg sg sg sg sg).1 h;exact⟨k6,k7,k8,k9,k10,(ze.eta _).symm.trans k12,by rw[if_pos rfl];exact k5⟩
 ·obtain⟨_,hp⟩:=eL (s:=(nA,s2,s3,s4,s5,s6,s7,s8,s9,s10,s11,s12,s13)) (g:=_) (b:=_) rfl;rw[hp]at h;have h:=G4 h;obtain⟨_,_,k3,k4,_,k6,k7,k8,k9,k10,_,k12⟩:=(js sw sg sg sg sg sg).1 h;exact⟨k6,k7,k8,k9,k10,(ze.eta _).symm.trans k12,by rw[if_neg (λh=>by simp at h)];exact⟨k3,k4⟩⟩
theorem jo{t:Sem zp}{n:zB}(h:¬LT.lt (α:=Int) (zP t n) 0):(getD t.2.1 (toNat (zP t n)) (zj zi)).1=n/\LT.lt (α:=Int) (zP t n) (length t.2.1):=by
 have e:zP t n=zR (λc:Sem zi=>c.1==n) t.2.1 0:=rfl;rcases ii (λc:Sem zi=>c.1==n) t.2.1 0 with⟨h1,_⟩|⟨k,hk,h1,h2,_⟩
 ·rw[e,h1]at h;exact absurd (by decide:(-1:Int)<0) h
 ·rw[e,h1,jJ];refine⟨?_,Int.ofNat_lt.2 hk⟩;rw[cI _ _ hk];exact bI h2
def jc(p:Sem zA)(src:List (Sem zh)):Sem zl:=
 (p.1,p.2.2.2.1.1,p.2.1,if p.1=gK then[]else p.2.2.2.1.2.1.map λc:Sem zi=>c.1,[],
  if p.1=gK then(if LE.le (α:=Int) 0 p.t.2/\LT.lt (α:=Int) p.t.2 (length (src.getD 0 (zj zh)).1.2.1)then(getD (src.getD 0 (zj zh)).1.2.1 (toNat p.t.2) (zj zi)).1 else[])else[],
  [],[],p.2.2.2.1.t.2,[],[],dw,p.2.2.1)
theorem Dc{t:Sem zp}{l:List zB}(h:gz t l=0):∀s∈l,¬LT.lt (α:=Int) (zP t s) 0:=by
 unfold gz at h;split at h
 ·assumption
 ·cases h
theorem yC{t:Sem zp}:∀{l:List zB},(∀s∈l,¬LT.lt (α:=Int) (zP t s) 0)->(gE t l).map (λc:Sem zi=>c.1)=l
 |[],_=>rfl
 | s::r,h=>by
  show(getD t.2.1 (toNat (zP t s)) (zj zi)).1::(gE t r).map (λc:Sem zi=>c.1)=s::r;rw[(jo (h s sw)).1,yC λx hx=>h x (by simp[hx])]
theorem lT{e:Int}{p:Sem zA}(h:(jL e p).1=0):e=0/\jL e p=(0,p):=by
 unfold jL at h⊢;split at h
 ·rename_i h1;split at h
  ·rename_i h2;rw[if_pos h1,if_pos h2];exact⟨h1,rfl⟩
  ·rename_i h2;exact absurd h h2
 ·rename_i h1;exact absurd h h1
theorem RW{db:List (Sem zh)}{s:Sem zl}{src:List (Sem zh)}(hp:(dq db s).1=0)(hm:jM s.1)(hs:fw s=Q3)(sh:mi s)(hc:(src.getD 0 (zj zh)).1.2.1=(aA db s.2.2.1).2.1):jc (dq db s).2 src=s:=by
 obtain⟨n1,n2,n3,n4,n5,n6,n7⟩:=ZG hs sh hm;obtain⟨o,s2,s3,s4,s5,s6,s7,s8,s9,s10,s11,s12,s13⟩:=s;simp only at n1 n2 n3 n4 n5 n6 n7 hc;subst n1 n2 n3 n4 n5 n6;rcases hm with rfl|rfl|rfl
 ·rw[if_neg (λh=>by simp at h)]at n7;obtain⟨rfl,n8⟩:=n7;have n8:s13=[]:=n8;subst n8;unfold dq at hp⊢
  dsimp only at hp⊢
  rw[if_pos (show((dv:zB)==dv)=Q3 from rfl)]at hp⊢;obtain⟨he,hf⟩:=lT hp;rw[hf];have hq:=Dc (by
   unfold wK at he;split at he
   ·assumption
   ·rename_i h1;exact absurd he h1)
  unfold jc;simp only;rw[if_neg (λh=>by simp at h),if_neg (λh=>by simp at h),yC hq]
 ·rw[if_pos rfl]at n7;subst n7;unfold dq at hp⊢
  dsimp only at hp⊢
  rw[if_neg (show¬((gK:zB)==dv)=Q3 by decide),if_pos (show((gK:zB)==gK)=Q3 from rfl)]at hp⊢;obtain⟨he,hf⟩:=lT hp;rw[hf];have hq:¬LT.lt (α:=Int) (zP (aA db s3) s6) 0:=by
   intro h;unfold il at he;rw[if_pos h]at he;cases he
  obtain⟨q1,q2⟩:=jo hq;unfold jc;simp only;rw[if_pos trivial,if_pos trivial,hc,if_pos ⟨Int.not_lt.1 hq,q2⟩,q1]
 ·rw[if_neg (λh=>by simp at h)]at n7;obtain⟨rfl,n8⟩:=n7;have n8:s13=[]:=n8;subst n8;have hl:=lU hs rfl;simp only at hl;unfold dq at hp⊢
  dsimp only at hp⊢
  rw[if_neg (show¬((nA:zB)==dv)=Q3 by decide),if_neg (show¬((nA:zB)==gK)=Q3 by decide),if_pos (show((nA:zB)==nA)=Q3 from rfl)]at hp⊢;obtain⟨he,hf⟩:=lT hp;rw[hf];have hq:=Dc (by
   unfold tK at he;split at he
   ·assumption
   ·rename_i h1;exact absurd he h1)
  match s4,hl,hq with
  |[a,b],_,hq=>
  unfold jc;simp only;rw[if_neg (λh=>by simp at h),if_neg (λh=>by simp at h)];have e1:=(jo (hq a sw)).1;have e2:=(jo (hq b sw)).1;show(nA,s2,s3,[(getD (aA db s3).2.1 (toNat (zP (aA db s3) a)) (zj zi)).1,(getD (aA db s3).2.1 (toNat (zP (aA db s3) b)) (zj zi)).1],_)=_;rw[e1,e2]
noncomputable def bE(db:List (Sem zh))(p:Sem zA):List (Sem zh):=(bM p.2.1 p.2.2.1).map λn=>kS (aC (bM p.2.1 p.2.2.1)) (aD db n)
theorem Gn{l:List (Sem zh)}{x:Sem zh}:x∈fQ l↔x∈l:=by
 match l with
 |[]=>rfl
 |[_]=>rfl
 | [a,b]=>
  rw[rW];split
  ·simp[or_comm]
  ·exact Iff.rfl
 |_::_::_::_=>rfl
theorem Gg(l:List (Sem zh)):(fQ l).length=l.length:=by
 match l with
 |[]=>rfl
 |[_]=>rfl
 |[a,b]=>rw[rW];split<;>rfl
 |_::_::_::_=>rfl
theorem JH{db:List (Sem zh)}{s:Sem zl}(hp:(dq db s).1=0):(dq db s).2.1=s.1/\(dq db s).2.2.1=s.2.2.1/\(dq db s).2.2.2.1=dQ s:=by
 unfold dq at hp⊢;split at hp
 ·rename_i h;rw[if_pos h,(lT hp).2];exact⟨rfl,rfl,rfl⟩
 ·rename_i h;split at hp
  ·rename_i h';rw[if_neg h,if_pos h',(lT hp).2];exact⟨rfl,rfl,rfl⟩
  ·rename_i h';split at hp
   ·rename_i h'';rw[if_neg h,if_neg h',if_pos h'',(lT hp).2];exact⟨rfl,rfl,rfl⟩
   ·cases hp
theorem Rj{s:Sem zl}(h:fw s=Q3)(ho:s.1=gK):dQ s≠[]:=by
 obtain⟨o,s2,s3,s4,s5,s6,s7,s8,s9,s10,s11,s12,s13⟩:=s;have ho:o=gK:=ho;subst ho;obtain⟨_,hp⟩:=eL (s:=(gK,s2,s3,s4,s5,s6,s7,s8,s9,s10,s11,s12,s13)) (g:=_) (b:=_) rfl;rw[hp]at h;intro hr;have hr:s13=[]:=hr;subst hr;rw[show bT []=Q4 from rfl]at h;cases h1:bT s2<;>cases h2:bT s3<;>cases h3:bT s6<;>simp[h1,h2,h3]at h
theorem Pg{db:List (Sem zh)}{s:Sem zl}(hp:(aV db s).1=0):jM s.1/\eo s=Q3/\kO db=(0:Int)/\(∀n∈bM s.2.2.1 (dQ s),LE.le (α:=Int) 0 (zS db n))/\s.2.2.1≠dQ s/\aV db s=dq db s:=by
 unfold aV at hp;split at hp
 case isFalse=>cases hp
 rename_i hm;split at hp
 case isFalse h=>exact absurd hp h
 rename_i h0;refine⟨hm.1,hm.2.1,hm.2.2,?_,?_,by unfold aV;rw[if_pos hm,if_pos h0]⟩
 ·unfold oH at h0;split at h0
  ·assumption
  ·cases h0
 ·unfold oH at h0;split at h0
  case isFalse=>cases h0
  split at h0
  case isTrue=>cases h0
  rename_i h2;intro e;apply h2;have e:s.2.2.1=s.t.t.t:=e;rw[<-e];simp
theorem RU{db:List (Sem zh)}{s:Sem zl}(hdb:∀x∈db,gS x)(hp:(aV db s).1=0)(sh:mi s):
  aV (fQ (bE db (aV db s).2)) (jc (aV db s).2 (bE db (aV db s).2))=(0,(aV db s).2)/\(bE db (aV db s).2).map (λx:Sem zh=>x.1.1)=bM (aV db s).2.2.1 (aV db s).2.2.2.1/\(fQ (bE db (aV db s).2)).Pairwise (λx y:Sem zh=>Op.bytesLess x.1.1 y.1.1=Q3)/\jc (aV db s).2 (bE db (aV db s).2)=s/\(∀x∈fQ (bE db (aV db s).2),gS x)/\two (bE db (aV db s).2)=Q3:=by
 obtain⟨hm,hmay,hb,hf,hne,hask⟩:=Pg hp;have hB:=(kv hdb).1 hb;have hparts:=me hmay;have hp0:(dq db s).1=0:=by rw[<-hask];exact hp
 obtain⟨f1,f2,f3⟩:=JH hp0;have hp2:aV db s=(0,(aV db s).2):=by rw[<-hp]
 rw[hask]at hp2⊢;generalize hns:bM (dq db s).2.2.1 (dq db s).2.2.2.1=ns;have hns':bM s.2.2.1 (dQ s)=ns:=by rw[<-hns,f2,f3]
 rw[hns']at hf;have hsrc:bE db (dq db s).2=ns.map λn=>kS (aC ns) (aD db n):=by unfold bE;rw[hns]
 rw[hsrc];have hname:∀n∈ns,(aD db n).1.1=n:=λn hn=>(oD (hf n hn)).2
 have hmem:∀x∈fQ (ns.map λn=>kS (aC ns) (aD db n)),∃n∈ns,x=kS (aC ns) (aD db n):=λx hx=>by
  obtain⟨n,hn,rfl⟩:=bn.1 (Gn.1 hx);exact⟨n,hn,rfl⟩
 have hthere:∀n∈ns,kS (aC ns) (aD db n)∈fQ (ns.map λn=>kS (aC ns) (aD db n)):=λn hn=>Gn.2 (bn.2 ⟨n,hn,rfl⟩)
 have hlen:ns.length<=2:=by rw[<-hns];unfold bM;split<;>simp
 have hpw:(fQ (ns.map λn=>kS (aC ns) (aD db n))).Pairwise λx y:Sem zh=>Op.bytesLess x.1.1 y.1.1=Q3:=by
  by_cases hr:(dQ s==[])=Q3
  ·have e:ns=[s.2.2.1]:=by rw[<-hns'];unfold bM;rw[if_pos hr]
   rw[e];simp[fQ]
  ·have e:ns=[s.2.2.1,dQ s]:=by rw[<-hns'];unfold bM;rw[if_neg hr]
   have n1:=hname s.2.2.1 (by rw[e];simp);have n2:=hname (dQ s) (by rw[e];simp);rw[e];show(fQ [kS _ (aD db s.2.2.1),kS _ (aD db (dQ s))]).Pairwise _;rw[rW];split
   ·rename_i h;simp only[List.pairwise_cons,gn,forall_eq,List.not_mem_nil,false_implies,implies_true,List.Pairwise.nil,and_true];exact h
   ·rename_i h;simp only[List.pairwise_cons,gn,forall_eq,List.not_mem_nil,false_implies,implies_true,List.Pairwise.nil,and_true];refine jY (by simpa using h) ?_;show(aD db (dQ s)).1.1≠(aD db s.2.2.1).1.1;rw[n1,n2];exact λe=>hne e.symm
 generalize hdb':fQ (ns.map λn=>kS (aC ns) (aD db n))=db' at hmem hthere hpw;have hfind:∀n∈ns,LE.le (α:=Int) 0 (zS db' n):=λn hn=>by
  have:=OK (hthere n hn)
  rwa [show(kS (aC ns) (aD db n)).1.1=n from hname n hn]at this
 have hB':jd db':=hB.src (p:=aC ns) (by rw[<-hdb',Gg,di];omega) hpw (λy hy=>by
  obtain⟨n,hn,rfl⟩:=hmem y hy;exact⟨_,(oD (hf n hn)).1,rfl⟩) (λn hn=>hfind n ((ld _ _).1 hn))
 have hsh:∀x∈db',gS x:=λx hx=>by
  obtain⟨n,hn,rfl⟩:=hmem x hx;have:=hdb _ (oD (hf n hn)).1;exact⟨this.uq,cC (List.length_filter_le _ _) this.rf,this.rw⟩
 have htab:∀n∈ns,aA db' n=Mr (aC ns) (aA db n):=λn hn=>by
  obtain⟨h1,h2⟩:=oD (hfind n hn);obtain⟨m,hm,e⟩:=hmem _ h1;have:m=n:=by
   rw[e]at h2;rw[<-hname m hm];exact h2
  subst this;show(aD db' m).1=_;rw[e];rfl
 have hback:jc (dq db s).2 (ns.map λn=>kS (aC ns) (aD db n))=s:=by
  refine RW hp0 hm hparts sh ?_;have:∃r,ns=s.2.2.1::r:=by rw[<-hns'];unfold bM;split<;>exact⟨_,rfl⟩
  obtain⟨r,e⟩:=this;rw[e];rfl
 have htwo:two (ns.map λn=>kS (aC ns) (aD db n))=Q3:=by
  by_cases hr:(dQ s==[])=Q3
  ·have e:ns=[s.2.2.1]:=by rw[<-hns'];unfold bM;rw[if_pos hr]
   rw[e];rfl
  ·have e:ns=[s.2.2.1,dQ s]:=by rw[<-hns'];unfold bM;rw[if_neg hr]
   have n1:=hname s.2.2.1 (by rw[e];simp);have n2:=hname (dQ s) (by rw[e];simp);rw[e];show(!((aD db s.2.2.1).1.1:zB)==(aD db (dQ s)).1.1)=Q3;rw[n1,n2];simpa using hne
 refine⟨?_,?_,hpw,hback,hsh,htwo⟩
 ·rw[hback];refine(V1 hp ((kv hsh).2 hB') (λn hn=>?_) (λx hx=>?_) (λho=>Rj hparts ho)).1.trans (by rw[hask];exact hp2)
  ·rw[hns']at hn⊢;refine⟨hfind n hn,?_⟩;rw[htab n hn];refine⟨rfl,rfl,λf hfn=>?_⟩;show f∈(aA db n).t.1.filter (λf:Sem zo=>aC ns f.2)↔_;rw[List.mem_filter,(ld _ _).2 hfn];simp
  ·rw[hns'];obtain⟨n,hn,rfl⟩:=hmem x hx;obtain⟨h1,h2⟩:=oD (hf n hn);exact⟨by show(aD db n).1.1∈ns;rw[h2];exact hn,_,h1,rfl⟩
 ·rw[pq]
  conv=>rhs;rw[<-List.map_id ns]
  exact List.map_congr_left λn hn=>hname n hn
noncomputable def og(p:Sem zA)(src:List (Sem zh)):Int:=if p.1=dv then(getD src 0 (zj zh)).1.2.2.1 else if p.1=gK then p.t.2 else getD p.t.1 0 (zj zg)
theorem R2{p:Sem zA}{src:List (Sem zh)}(h0:0<src.length)(hg:p.1≠dv->p.1≠gK->0<length p.t.1):wz p src=Q1 (og p src,()):=by
 have hi:zO 0 src.length=Q3:=zw (i:=0) h0;unfold og;by_cases h1:p.1=dv
 ·rw[if_pos h1];have e1:(p.1==dv)=Q3:=by simp[h1]
  refine zH (r:=(.int .i64 (getD src 0 (zj zh)).1.2.2.1,[])) ?_ rfl;simp only[Zi,Q8,e1,hi,if_true];rfl
 ·rw[if_neg h1];have e1:(p.1==dv)=Q4:=by simpa using h1
  by_cases h2:p.1=gK
  ·rw[if_pos h2];have e2:(p.1==gK)=Q3:=by simp[h2]
   refine zH (r:=(.int .i64 p.t.2,[])) ?_ rfl;simp only[Zi,Q8,e1,e2,if_true,zF,if_false]
  ·rw[if_neg h2];have e2:(p.1==gK)=Q4:=by simpa using h2
   have hj:zO 0 (length p.t.1)=Q3:=zw (i:=0) (hg h1 h2);refine zH (r:=(.int .i64 (getD p.t.1 0 (zj zg)),[])) ?_ rfl;simp only[Zi,Q8,e1,e2,hj,if_true,zF,if_false];rfl
def s59(p:Sem zA)(n:Int)(i:Int):List zB->Jt
 |[]=>.h7 p.2.2.2.1.2.1 n i [] [] [] [] [] 0 0 [] [] [] 0 0 [] [] [] p.1 p.2.2.2.1.1 p.2.1 [] (ze.op p.2.2.2.1.t.2) (ze.v p.2.2.2.1.t.2).1 (ze.v p.2.2.2.1.t.2).2.1 (ze.v p.2.2.2.1.t.2).2.2 (ze.s p.2.2.2.1.t.2) (ze.l p.2.2.2.1.t.2) [] 0 0 [] [] p.2.2.1
 |a::r=>.h7b p.2.2.2.1.2.1 n i [] [] [] [] [] 0 0 [] [] [] 0 0 [] [] [] p.1 p.2.2.2.1.1 p.2.1 [] (ze.op p.2.2.2.1.t.2) (ze.v p.2.2.2.1.t.2).1 (ze.v p.2.2.2.1.t.2).2.1 (ze.v p.2.2.2.1.t.2).2.2 (ze.s p.2.2.2.1.t.2) (ze.l p.2.2.2.1.t.2) [] 0 0 [] [] p.2.2.1 (a::r)
theorem zab{p:Sem zA}{i:Nat}(acc:List zB)(hi:i<length p.2.2.2.1.2.1)(hb:acc.length<=1000)(hib:i<=1000):(Ar (s59 p (length p.2.2.2.1.2.1:Int) (i:Int) acc)).val=Q1 (.inl (s59 p (length p.2.2.2.1.2.1:Int) ((i+1:Nat):Int) (acc++[(getD p.2.2.2.1.2.1 i (zj zi)).1]))):=by
 cases acc with
 | nil=>
  show(Ar (.h7 _ _ _ _ _ _ _ _ _ _ _ _ _ _ _ _ _ _ _ _ _ _ _ _ _ _ _ _ _ _ _ _ _ _)).val=_;simp only[Ar,Q8,zJ hi,zw hi,if_true,aK];rw[if_pos sw,zr i um];rfl
 | cons a r=>
  show(Ar (.h7b _ _ _ _ _ _ _ _ _ _ _ _ _ _ _ _ _ _ _ _ _ _ _ _ _ _ _ _ _ _ _ _ _ _ _)).val=_;simp only[Ar,Q8,zJ hi,zw hi,if_true,aK];rw[if_pos (by simp at hb⊢;omega),zr i um];rfl
theorem VV{p:Sem zA}{src:List (Sem zh)}(h0:0<src.length)(hl:length p.2.2.2.1.2.1<=1000):HV p src=Q1 (jc p src,()):=by
 have hi:zO 0 src.length=Q3:=zw (i:=0) h0;by_cases h2:p.1=gK
 ·have e2:(p.1==gK)=Q3:=by simp[h2]
  unfold jc;rw[if_pos h2,if_pos h2];by_cases hc:LE.le (α:=Int) 0 p.t.2/\LT.lt (α:=Int) p.t.2 (length (getD src 0 (zj zh)).1.2.1)
  ·rw[if_pos hc];have e3:Q0 (GE.ge (α:=Int) p.t.2 0)=Q3:=zu hc.1;have e4:Q0 (LT.lt (α:=Int) p.t.2 (length (getD src 0 (zj zh)).1.2.1))=Q3:=zu hc.2;have e5:zO p.t.2 (length (getD src 0 (zj zh)).1.2.1)=Q3:=by
    unfold zO;rw[aE];exact⟨zu hc.1,zu (by have:=hc.1;have:=hc.2;omega)⟩
   have hv:(Zq p src).val=Q1 (.inr (agg [str p.1,str p.2.2.2.1.1,str p.2.1,Qb,Qb,str (getD (getD src 0 (zj zh)).1.2.1 (toNat p.t.2) (zj zi)).1,Qb,Qb,str (ze.op p.2.2.2.1.t.2),ai (ze.v p.2.2.2.1.t.2).1,
     ai (ze.v p.2.2.2.1.t.2).2.1,str (ze.v p.2.2.2.1.t.2).2.2,str (ze.s p.2.2.2.1.t.2),sl Sh.expr (ze.l p.2.2.2.1.t.2),Qb,Qb,str [],ai 0,ai 0,str [],str [],Qb,str p.2.2.1],[])):=by
    show(br _ (chk _ (br _ (chk _ (chk _ (re _ _))) (re _ _))) (Tr.to _)).val=_;have e3':Q0 (p.t.2>=0)=Q3:=e3;simp only[Q8,e2,e3',hi,zZ,if_true];have e4':Q0 (p.t.2<(↑(length (getD src (toNat 0) (zj zh)).1.2.1):Int))=Q3:=e4;have e5':zO p.t.2 (length (getD src (toNat 0) (zj zh)).1.2.1)=Q3:=e5;rw[if_pos e4',if_pos e5'];rfl
   refine zH hv ?_;rw[<-zk p.2.2.2.1.t.2];rfl
  ·rw[if_neg hc]
   have hv:(Zq p src).val=Q1 (.inr (agg [str p.1,str p.2.2.2.1.1,str p.2.1,Qb,Qb,str [],Qb,Qb,str (ze.op p.2.2.2.1.t.2),ai (ze.v p.2.2.2.1.t.2).1,
     ai (ze.v p.2.2.2.1.t.2).2.1,str (ze.v p.2.2.2.1.t.2).2.2,str (ze.s p.2.2.2.1.t.2),sl Sh.expr (ze.l p.2.2.2.1.t.2),Qb,Qb,str [],ai 0,ai 0,str [],str [],Qb,str p.2.2.1],[])):=by
    have ec:(bif Q0 (p.t.2>=0)then Q0 (p.t.2<(↑(length (getD src (toNat 0) (zj zh)).1.2.1):Int))else Q4)=Q4:=by
     by_cases c1:LE.le (α:=Int) 0 p.t.2
     ·have c2:¬LT.lt (α:=Int) p.t.2 (length (getD src 0 (zj zh)).1.2.1):=λc=>hc ⟨c1,c⟩
      rw[show Q0 (p.t.2>=0)=Q3 from zu c1,zZ];exact ao c2
     ·rw[show Q0 (p.t.2>=0)=Q4 from ao c1,aq]
    have ed:(bif Q0 (p.t.2>=0)then zO 0 (length src)else Q3)=Q3:=by rw[hi];cases Q0 (p.t.2>=0)<;>rfl
    show(br _ (chk _ (br _ (chk _ (chk _ (re _ _))) (re _ _))) (Tr.to _)).val=_;simp only[Q8,e2,if_true];rw[if_pos ed];simp only[ec,zF,if_false]
   refine zH hv ?_;rw[<-zk p.2.2.2.1.t.2];rfl
 ·have e2:(p.1==gK)=Q4:=by simpa using h2
  have hs:(Zq p src).val=Q1 (.inl (s59 p (length p.2.2.2.1.2.1:Int) ((0:Nat):Int) [])):=by
   show(br _ (chk _ (br _ (chk _ (chk _ (re _ _))) (re _ _))) (Tr.to _)).val=_;simp only[Q8,e2,zF,if_false];rfl
  have hg:=zT.all (t:=Ar) 1 (λi=>s59 p (length p.2.2.2.1.2.1:Int) (i:Int) ((p.2.2.2.1.2.1.take i).map λc:Sem zi=>c.1)) (length p.2.2.2.1.2.1) λi hi=>zT.of (by
   rw[zab _ hi sg ow];congr 3;rw[cU hi,iA,ba,zQ hi];rfl)
  simp only[List.take_zero,List.map_nil,lN]at hg;unfold jc;rw[if_neg h2,if_neg h2];generalize hm:(p.2.2.2.1.2.1.map λc:Sem zi=>c.1)=names at hg;have hend:∃r,zX Ar 1 (s59 p (length p.2.2.2.1.2.1:Int) (length p.2.2.2.1.2.1:Int) names) r/\aM r.2 [zl] r.1=Q1 ((p.1,p.2.2.2.1.1,p.2.1,names,[],[],[],[],p.2.2.2.1.t.2,[],[],dw,p.2.2.1),()):=by
   cases names with
   | nil=>
    refine⟨_,zX.of (by
     show(Ar (.h7 _ _ _ _ _ _ _ _ _ _ _ _ _ _ _ _ _ _ _ _ _ _ _ _ _ _ _ _ _ _ _ _ _ _)).val=_;simp only[Ar,Q8,zC,zF,if_false];rfl),?_⟩
    rw[<-zk p.2.2.2.1.t.2];rfl
   | cons a r=>
    refine⟨_,zX.of (by
     show(Ar (.h7b _ _ _ _ _ _ _ _ _ _ _ _ _ _ _ _ _ _ _ _ _ _ _ _ _ _ _ _ _ _ _ _ _ _ _)).val=_;simp only[Ar,Q8,zC,zF,if_false];rfl),?_⟩
    rw[<-zk p.2.2.2.1.t.2];rfl
  obtain⟨r,r1,r2⟩:=hend;exact zy hs (hg.ends r1) ow r2
structure SC (p:Sem zA) (src:List (Sem zh)):Prop where
 names:src.map (λx:Sem zh=>x.1.1)=bM p.2.1 p.2.2.1
 two:two src=Q3
 plan:aV (fQ src) (jc p src)=(0,p)
 few:Mb (jc p src)
 short:∀x∈fQ src,gS x
 cols:length p.2.2.2.1.2.1<=1000
 same:HT p p=Q3/\KV p p=Q3
theorem Bp{src:List (Sem zh)}(h:two src=Q3):0<src.length/\src.length<=2:=by
 match src,h with
 |[_],_=>simp
 |[_,_],_=>simp
theorem ZU{p:Sem zA}{src:List (Sem zh)}(h:SC p src):Pd p src=Q1 (0,()):=by
 obtain⟨l0,l2⟩:=Bp h.two;have hlen:(bM p.2.1 p.2.2.1).length=src.length:=by rw[<-h.names,di]
 have hs:(zlb p src).val=Q1 (.inl (.h6 src (bM p.2.1 p.2.2.1) src (src.length:Int) ((0:Nat):Int) (p,()))):=by
  have e:((src.length:Int)!=((bM p.2.1 p.2.2.1).length:Int))=Q4:=by rw[hlen];simp
  show(br ((src.length:Int)!=((bM p.2.1 p.2.2.1).length:Int)) _ _).val=_;rw[e];rfl
 have hg:=zT.all (t:=zah) 1 (λi=>.h6 src (bM p.2.1 p.2.2.1) src (src.length:Int) (i:Int) (p,())) src.length λi hi=>zT.of (by
  have hn:(!((getD src i (zj zh)).1.1:zB)==(bM p.2.1 p.2.2.1).getD i (zj Sh.str))=Q4:=by
   rw[<-h.names,ba,ba,fA,zQ hi];simp
  simp only[zah,Q8,zJ hi,zw hi,zw (show i<(bM p.2.1 p.2.2.1).length by omega),if_true,aK,hn,zF,if_false];rw[zr i um])
 have hst:=VV (p:=p) l0 h.cols;have c1:Nk p src=Q3:=by unfold Nk;rw[hst];rfl
 have c2:VU p src=jc p src:=by unfold VU;rw[hst];rfl
 have hp:KU (fQ src) (jc p src)=Q1 ((aV (fQ src) (jc p src)).2,(aV (fQ src) (jc p src)).1,()):=zgG h.short (by rw[Gg];omega) h.few;rw[h.plan]at hp;have c3:zgF (fQ src) (jc p src)=Q3:=by unfold zgF;rw[hp];rfl
 have c4:pOf (fQ src) (jc p src)=(p,0):=by unfold pOf;rw[hp];rfl
 refine zy hs (hg.ends (k:=1) (r:=(.int .i64 0,[])) (zX.of ?_)) ow rfl;simp only[zah,Q8,zC,zk,Prod.eta,c1,c2,c3,c4,h.two,h.same.1,h.same.2,zF,if_false];simp[l0,show src.length<=1000 by omega]
theorem HS{p:Sem zA}{src:List (Sem zh)}(h:SC p src):KT p src=Q3/\VS p src=0:=by
 have:=ZU h;exact⟨by unfold KT;rw[this];rfl,by unfold VS;rw[this];rfl⟩
def s50(db:List (Sem zh))(ns:List zB)(j:Int)(i:Int)(x:Sem zh):List (Sem zh)->List (Sem zo)->mh
 |[],[]=>.h12 db ns j i (x,())
 |[],b::r=>.h12b db ns j i (x,()) (b::r)
 |a::l,[]=>.h12bb db ns j i (x,()) (a::l)
 |a::l,b::r=>.h12bbb db ns j i (x,()) (a::l) (b::r)
def NJ(db:List (Sem zh))(ns:List zB)(j:Int):List (Sem zh)->mh
 |[]=>.h4 db ns j
 |a::l=>.h4b db ns j (a::l)
theorem zaa{db:List (Sem zh)}{ns:List zB}{j:Int}{x:Sem zh}{acc:List (Sem zh)}{b:List (Sem zo)}{i:Nat}(hi:i<length x.1.t.1)(hn:ns.length<=1000)(hb:b.length<=1000)(hib:i<=1000):
  (gA (s50 db ns j (i:Int) x acc b)).val=Q1 (.inl (s50 db ns j ((i+1:Nat):Int) x acc (if aC ns (getD x.1.t.1 i (zj zo)).2=Q3 then b++[getD x.1.t.1 i (zj zo)]else b))):=by
 obtain⟨r1,r2⟩:=Iv (l:=ns) (s:=(getD x.1.t.1 i (zj zo)).2) ow;cases acc with
 | nil=>
  cases b with
  | nil=>
   show(gA (.h12 _ _ _ _ _)).val=_;simp only[gA,Q8,zJ hi,zw hi,if_true,aK,r1,r2];rw[zr i um];split
   ·rw[if_pos sw];rfl
   ·rfl
  | cons c r=>
   show(gA (.h12b _ _ _ _ _ _)).val=_;simp only[gA,Q8,zJ hi,zw hi,if_true,aK,r1,r2];rw[zr i um];split
   ·rw[if_pos (by simp at hb⊢;omega)];rfl
   ·rfl
 | cons a l=>
  cases b with
  | nil=>
   show(gA (.h12bb _ _ _ _ _ _)).val=_;simp only[gA,Q8,zJ hi,zw hi,if_true,aK,r1,r2];rw[zr i um];split
   ·rw[if_pos sw];rfl
   ·rfl
  | cons c r=>
   show(gA (.h12bbb _ _ _ _ _ _ _)).val=_;simp only[gA,Q8,zJ hi,zw hi,if_true,aK,r1,r2];rw[zr i um];split
   ·rw[if_pos (by simp at hb⊢;omega)];rfl
   ·rfl
theorem Z9{db:List (Sem zh)}{ns:List zB}{j:Nat}{x:Sem zh}{acc:List (Sem zh)}{b:List (Sem zo)}(hj:j<=1000)(ha:acc.length<=1000):
  (gA (s50 db ns (j:Int) (length x.1.t.1:Int) x acc b)).val=Q1 (.inl (NJ db ns ((j+1:Nat):Int) (acc++[((x.1.1,x.1.2.1,x.1.2.2.1,x.1.2.2.2.1,b,x.1.t.2),x.2)]))):=by
 cases acc with
 | nil=>
  cases b with
  | nil=>
   show(gA (.h12 _ _ _ _ _)).val=_;simp only[gA,Q8,zC,zF,if_false,zk];rw[zr j um,if_pos sw];rfl
  | cons c r=>
   show(gA (.h12b _ _ _ _ _ _)).val=_;simp only[gA,Q8,zC,zF,if_false,zk];rw[zr j um,if_pos sw];rfl
 | cons a l=>
  cases b with
  | nil=>
   show(gA (.h12bb _ _ _ _ _ _)).val=_;simp only[gA,Q8,zC,zF,if_false,zk];rw[zr j um,if_pos (by simp at ha⊢;omega)];rfl
  | cons c r=>
   show(gA (.h12bbb _ _ _ _ _ _ _)).val=_;simp only[gA,Q8,zC,zF,if_false,zk];rw[zr j um,if_pos (by simp at ha⊢;omega)];rfl
theorem zgO{db:List (Sem zh)}{ns:List zB}{j:Nat}{x:Sem zh}{acc:List (Sem zh)}(hn:ns.length<=1000)(hj:j<=1000)(ha:acc.length<=1000)(hr:length x.1.t.1<=1000):
  zT gA 1002 (s50 db ns (j:Int) ((0:Nat):Int) x acc []) (NJ db ns ((j+1:Nat):Int) (acc++[kS (aC ns) x])):=by
 have hg:=zT.all (t:=gA) 1 (λi=>s50 db ns (j:Int) (i:Int) x acc ((x.1.t.1.take i).filter λf:Sem zo=>aC ns f.2)) (length x.1.t.1) λi hi=>zT.of (by
  rw[zaa hi hn (cC (List.length_filter_le _ _) sg) ow];congr 3;rw[cU hi,List.filter_append,ba,zQ hi];cases h:aC ns (x.1.t.1[i]:Sem zo).2<;>simp[h])
 simp only[List.take_zero,List.filter_nil,lN]at hg;refine(hg.trans (zT.of (Z9 hj ha))).mono ow
theorem Wb{db:List (Sem zh)}{p:Sem zA}(hs:∀x∈db,gS x)(hf:∀n∈bM p.2.1 p.2.2.1,LE.le (α:=Int) 0 (zS db n)):Df p db=Q1 (bE db p,Q3,()):=by
 have hi:(zfN p db).val=Q1 (.inl (NJ db (bM p.2.1 p.2.2.1) ((0:Nat):Int) [])):=by
  simp only[zfN,zk,Prod.eta,Q8,sO,vu,if_true];rfl
 have hl:(bM p.2.1 p.2.2.1).length<=2:=by unfold bM;split<;>simp
 unfold bE;generalize bM p.2.1 p.2.2.1=ns at hi hl hf⊢;have hg:=zT.all (t:=gA) 1003 (λj=>NJ db ns (j:Int) ((ns.take j).map λn=>kS (aC ns) (aD db n))) ns.length λj hj=>by
  have hfj:=hf ns[j] (bG hj);have hne:Q0 (zS db ns[j]<0)=Q4:=by simpa using hfj
  have hin:=dF hfj;have hx:=hs _ (mQ hfj);have h1:zT gA 1 (NJ db ns (j:Int) ((ns.take j).map λn=>kS (aC ns) (aD db n))) (s50 db ns (j:Int) ((0:Nat):Int) (aD db ns[j]) ((ns.take j).map λn=>kS (aC ns) (aD db n)) []):=zT.of (by
   generalize((ns.take j).map λn=>kS (aC ns) (aD db n))=acc;cases acc with
   | nil=>
    show(gA (.h4 _ _ _)).val=_;simp only[gA,Q8,zJ hj,zw hj,if_true,af _ _ hj,dB,hne,hin,zF,if_false];rfl
   | cons a l=>
    show(gA (.h4b _ _ _ _)).val=_;simp only[gA,Q8,zJ hj,zw hj,if_true,af _ _ hj,dB,hne,hin,zF,if_false];rfl)
  have h2:=(h1.trans (zgO (x:=aD db ns[j]) ow ow sg hx.rf)).mono (b:=1003) ow;show zT gA 1003 _ (NJ db ns ((j+1:Nat):Int) ((ns.take (j+1)).map λn=>kS (aC ns) (aD db n)));rw[cU hj,iA];exact h2
 simp only[List.take_zero,List.map_nil,lN]at hg;generalize hm:(ns.map λn=>kS (aC ns) (aD db n))=acc at hg;have hend:∃r,zX gA 1 (NJ db ns (ns.length:Int) acc) r/\aM r.2 [zh.sl,Sh.bool] r.1=Q1 (acc,Q3,()):=by
  cases acc with
  | nil=>
   refine⟨_,zX.of (by
    show(gA (.h4 _ _ _)).val=_;simp only[gA,Q8,zC,zF,if_false];rfl),rfl⟩
  | cons a l=>
   refine⟨_,zX.of (by
    show(gA (.h4b _ _ _ _)).val=_;simp only[gA,Q8,zC,zF,if_false];rfl),rfl⟩
 obtain⟨r,r1,r2⟩:=hend;exact zy hi (hg.ends r1) ow r2
def L6(a b:Sem zf):Bool:=a.1==b.1&&(a.2.1==b.2.1&&(a.2.2==b.2.2&&Q3))
theorem Br{a b:Sem zf}:L6 a b=Q3↔a=b:=by
 obtain⟨a1,a2,a3⟩:=a;obtain⟨b1,b2,b3⟩:=b;unfold L6;simp
def isU(at':Int)(v:Sem zf)(row:List (Sem zf)):Bool:=bif L6 (getD row at'.toNat (zj zf)) v then v.1!=0 else Q4
theorem HE{at':Int}{v:Sem zf}{row:List (Sem zf)}:isU at' v row=Q3↔getD row at'.toNat (zj zf)=v/\v.1≠0:=by
 unfold isU;rw[<-Br];cases L6 (getD row at'.toNat (zj zf)) v<;>simp
theorem Kw(u:Sem zf):∀l:List (Sem zf),(tQ u l).length<=l.length+1
 |[]=>by simp[tQ]
 | o::r=>by
  unfold tQ;split
  ·have:=Kw u r;simp only[eE];omega
  ·split<;>simp
theorem Kp:∀(l acc:List (Sem zf)),(l.foldl (λacc u=>if((u:Sem zf).1==0)=Q3 then acc else tQ u acc) acc).length<=acc.length+l.length
 |[],acc=>by simp
 | u::r,acc=>by
  rw[List.foldl_cons];refine cC (Kp r _) ?_;split
  ·simp
  ·have:=Kw u acc;simp only[eE];omega
theorem SM(l:List (Sem zf)):(pt l).length<=l.length:=by
 have:=Kp l [];simpa[pt]using this
def G2(p:Sem zA):Prop:=p.2.2.2.1.2.1.length<=1000/\p.2.2.2.1.2.2.2.1.length<=1000000/\p.2.2.2.1.t.1.length<=1000000/\si 16 p.2.2.2.1.t.2=Q3/\p.t.1.length<=1000000
theorem nj:G2 jP:=⟨aY _,aY _,aY _,rfl,aY _⟩
theorem tF{e:Int}{p:Sem zA}(h:e=0->G2 p):G2 (jL e p).2:=by
 unfold jL;split
 ·split
  ·exact h (by assumption)
  ·exact nj
 ·exact nj
theorem Nm(db:List (Sem zh)){s:Sem zl}(hf:Mb s):G2 (aV db s).2:=by
 have hn:=hf.sh.names.1;unfold aV;split;rotate_left
 ·exact nj
 split;rotate_left
 ·exact nj
 unfold dq;split
 ·refine tF λ_=>⟨?_,aY _,aY _,hf.cp,?_⟩
  ·show(gE _ _).length<=_;unfold gE;rw[di];omega
  ·show(lh _ _).length<=_;unfold lh;rw[di];omega
 split
 ·refine tF λh=>?_
  have h9:(aA db s.2.2.1).2.1.length+(gu db s.t.t.t).2.1.length<=9:=by
   unfold il at h;split at h
   ·cases h
   split at h;rotate_left
   ·cases h
   split at h
   ·cases h
   ·omega
  have ho:=pV (gu db s.t.t.t).2.2.1 (length (gu db s.t.t.t).2.1);refine⟨?_,aY _,aY _,hf.cp,?_⟩
  ·show(_++gG _ _).length<=_;unfold gG;rw[j9,di];omega
  ·show(kl _ _).length<=_;unfold kl;rw[di];omega
 split
 ·refine tF λ_=>⟨?_,aY _,aY _,hf.cp,?_⟩
  ·show(EM _ _).length<=_;unfold EM;simp
  ·show(lh _ _).length<=_;unfold lh;rw[di];omega
 ·exact nj
noncomputable def nS(db:List (Sem zh))(p:Sem zA):Sem zh:=getD (bE db p) 0 (zj zh)
structure cE (db:List (Sem zh)) (p:Sem zA):Prop where
 go:SC p (bE db p)
 rel:eC (nS db p)
 plc:wz p (bE db p)=Q1 (og p (bE db p),())
 inn:∀row∈(nS db p).2,zO (og p (bE db p)) (length row)=Q3/\length row=length (nS db p).1.2.1
 fnd:∀n∈bM p.2.1 p.2.2.1,LE.le (α:=Int) 0 (zS db n)
 mig:jM p.1
 col:LE.le (α:=Int) 0 (og p (bE db p))/\LT.lt (α:=Int) (og p (bE db p)) (length (nS db p).1.2.1)
theorem V0{db:List (Sem zh)}{s:Sem zl}(hdb:∀x∈db,gS x)(hp:(aV db s).1=0)(hf:Mb s):cE db (aV db s).2:=by
  obtain⟨hm,hmay,hb,hfd,hne,hask⟩:=Pg hp;obtain⟨c1,c2,_,c4,c5,c6⟩:=RU hdb hp hf.sh;have hB:=(kv hdb).1 hb;obtain⟨b1,b2,b3,b4,b5⟩:=Nm db hf;have hparts:=me hmay;have hp0:(dq db s).1=0:=by rw[<-hask];exact hp
  obtain⟨f1,f2,f3⟩:=JH hp0;rw[hask]at c1 c2 c4 c5 c6 b1 b2 b3 b4 b5⊢;have hfd':∀n∈bM (dq db s).2.2.1 (dq db s).2.2.2.1,LE.le (α:=Int) 0 (zS db n):=by rw[f2,f3];exact hfd
  have hfr:LE.le (α:=Int) 0 (zS db s.2.2.1):=hfd _ (by unfold bM;split<;>simp);have hx:nS db (dq db s).2=kS (aC (bM s.2.2.1 (dQ s))) (aD db s.2.2.1):=by
    unfold nS bE;rw[f2,f3];have:∃r,bM s.2.2.1 (dQ s)=s.2.2.1::r:=by unfold bM;split<;>exact⟨_,rfl⟩
    obtain⟨r,e⟩:=this;rw[e];rfl
  have hxr:eC (nS db (dq db s).2):=by rw[hx];exact(hB.rels _ (oD hfr).1).cut
  have hcols:(nS db (dq db s).2).1.2.1=(aA db s.2.2.1).2.1:=by rw[hx];rfl
  obtain⟨m1,m2⟩:=VT (b:=(dq db s).2) (by omega) b2 b3 b4 b5;have hlen:∀row∈(nS db (dq db s).2).2,length row=length (nS db (dq db s).2).1.2.1:=λrow hr=>(gW (hxr.fits row hr)).1
  have hplc:(LE.le (α:=Int) 0 (og (dq db s).2 (bE db (dq db s).2))/\LT.lt (α:=Int) (og (dq db s).2 (bE db (dq db s).2)) (length (nS db (dq db s).2).1.2.1))/\((dq db s).2.1≠[99,111,112,121]->(dq db s).2.1≠[106,111,105,110]->0<length (dq db s).2.2.2.2.2.1):=by
    unfold og;rw[f1];rcases hm with ho|ho|ho
    · rw[if_pos ho]
      refine⟨?_,λh=>absurd ho h⟩;obtain⟨k1,_⟩:=im hxr.may;exact k1
    · have n1:s.1≠[99,111,112,121]:=by rw[ho];decide
      rw[if_neg n1,if_pos ho];refine⟨?_,λ_ h=>absurd ho h⟩
      have e:(dq db s)=jL (il (aA db s.2.2.1) (gu db s.2.2.2.2.2.2.2.2.2.2.2.2) s.2.2.2.2.2.1 s.2.2.2.2.2.2.2.2.2.2.2.2)
          (s.1,s.2.2.1,s.2.2.2.2.2.2.2.2.2.2.2.2,(s.2.1,(aA db s.2.2.1).2.1++gG (gu db s.2.2.2.2.2.2.2.2.2.2.2.2) (length (gu db s.2.2.2.2.2.2.2.2.2.2.2.2).2.1),(aA db s.2.2.1).2.2.1,[],[],s.2.2.2.2.2.2.2.2.1),
            kl (gu db s.2.2.2.2.2.2.2.2.2.2.2.2).2.2.1 (length (gu db s.2.2.2.2.2.2.2.2.2.2.2.2).2.1),zP (aA db s.2.2.1) s.2.2.2.2.2.1):=by
        unfold dq;rw[if_neg (by simpa using n1),if_pos (by simp[ho])]
      have e0:=hp0;rw[e]at e0;obtain⟨g1,g2⟩:=lT e0;have hpos:¬LT.lt (α:=Int) (zP (aA db s.2.2.1) s.2.2.2.2.2.1) 0:=by
        intro hlt;unfold il at g1;rw[if_pos hlt]at g1;cases g1
      have hon:(dq db s).2.2.2.2.2.2=zP (aA db s.2.2.1) s.2.2.2.2.2.1:=by rw[e,g2]
      rw[hon,hcols];exact⟨by omega,(jo hpos).2⟩
    · have n1:s.1≠[99,111,112,121]:=by rw[ho];decide
      have n2:s.1≠[106,111,105,110]:=by rw[ho];decide
      rw[if_neg n1,if_neg n2];have e:(dq db s)=jL (tK (aA db s.2.2.1) s.2.2.2.1) (s.1,s.2.2.1,s.2.2.2.2.2.2.2.2.2.2.2.2,(s.2.1,EM (aA db s.2.2.1) s.2.2.2.1,0,[],[],s.2.2.2.2.2.2.2.2.1),lh (aA db s.2.2.1) s.2.2.2.1,0):=by
        unfold dq;rw[if_neg (by simpa using n1),if_neg (by simpa using n2),if_pos (by simp[ho])]
      have e0:=hp0;rw[e]at e0;obtain⟨g1,g2⟩:=lT e0;have hpl:gz (aA db s.2.2.1) s.2.2.2.1=0:=by
        unfold tK at g1;split at g1
        · assumption
        · exact g1
      have hpos:=Dc hpl;have hix:(dq db s).2.2.2.2.2.1=lh (aA db s.2.2.1) s.2.2.2.1:=by rw[e,g2]
      have h2:=lU hparts ho;rw[hix,hcols]
      match hnm:s.2.2.2.1,h2 with
      | [a,b],_=>
        rw[hnm]at hpos;have ha:=hpos a (by simp)
        exact ⟨⟨by have:¬ LT.lt (α:=Int) (zP (aA db s.2.2.1) a) 0:=ha
                   show LE.le (α:=Int) 0 (zP (aA db s.2.2.1) a);omega,(jo ha).2⟩,λ_ _=>by simp[lh]⟩
  have two0:=Bp c6;refine⟨⟨c2,c6,by rw[c1],by rw[c4];exact hf,c5,b1,m1,m2.2 rfl⟩,hxr,R2 two0.1 hplc.2,λrow hr=>⟨?_,hlen row hr⟩,hfd',by rw[f1];exact hm,hplc.1⟩;rw[hlen row hr];unfold zO;rw[aE];have h1:=hplc.1.1;have h2:=hplc.1.2;exact⟨zu h1,zu (by omega)⟩
section
variable {db:List (Sem zh)} {p:Sem zA}
theorem cE.pc(h:cE db p):rZ p (bE db p)=Q3/\fx p (bE db p)=og p (bE db p):=
 ⟨by unfold rZ;rw[h.plc];rfl,by unfold fx;rw[h.plc];rfl⟩
theorem cE.at_mem(h:cE db p){row:List (Sem zf)}(hr:row∈(nS db p).2):getD row (toNat (og p (bE db p))) (zj zf)∈row:=by
 have hi:=(h.inn row hr).1;simp only[zO,aE,aO]at hi;exact uO _ _ ow
theorem cE.may(h:cE db p){x:Sem zf}(hx:x∈Jd p (bE db p)):bg x=Q3:=by
 obtain⟨row,hr,rfl⟩:=bn.1 hx;rw[h.pc.2];exact(gW (h.rel.fits row hr)).2.1 _ (h.at_mem hr)
theorem cE.all(h:cE db p):GR p (bE db p)=Q3:=by
 unfold GR;simp only[aE,aO,ei];refine⟨h.pc.1,zw (i:=0) (Bp h.go.two).1,cC h.rel.few ow,λrow hr=>⟨?_,h.may (bn.2 ⟨row,hr,rfl⟩)⟩⟩;rw[h.pc.2];exact(h.inn row hr).1
theorem cE.len(h:cE db p){row:List (Sem zf)}(hr:row∈(nS db p).2):row.length<=8:=by
 rw[(h.inn row hr).2];exact(im h.rel.may).2.2.2.1
theorem cE.few(_:cE db p):(ez p (bE db p)).length<=(nS db p).2.length:=by
 have:=SM (Jd p (bE db p));have e:(Jd p (bE db p)).length=(nS db p).2.length:=di _;rw[e]at this;exact this
theorem cE.keys(h:cE db p)(hc:p.1=dv):(Jd p (bE db p)).Nodup/\∀x∈Jd p (bE db p),x.1≠0:=by
 have hp:fx p (bE db p)=(nS db p).1.2.2.1:=by
  rw[h.pc.2];unfold og;rw[if_pos hc];rfl
 have e:Jd p (bE db p)=(nS db p).2.map (al (nS db p).1.2.2.1):=by
  unfold Jd;rw[hp];rfl
 rw[e];refine⟨OQ h.rel.pw,λx hx=>?_⟩;obtain⟨row,hr,rfl⟩:=bn.1 hx;have ht:=(lD _).1 h.rel.may;have hk:=h.rel.keys row hr;simp only[zO,aE,aO]at hk;exact(gW (h.rel.fits row hr)).2.2 _ ow ht.nn
theorem cE.is(h:cE db p)(v:Sem zf):v∈ez p (bE db p)↔(nS db p).2.filter (isU (og p (bE db p)) v)≠[]:=by
 unfold ez;rw[(Aw λx hx=>h.may hx).2];show _↔¬(nS db p).2.filter (isU (og p (bE db p)) v)=[];rw[List.filter_eq_nil_iff];constructor
 ·rintro⟨hx,h0⟩ hn;obtain⟨row,hr,e⟩:=bn.1 hx;rw[h.pc.2]at e;exact hn row hr (HE.2 ⟨e,h0⟩)
 ·intro hn;have:∃row∈(nS db p).2,isU (og p (bE db p)) v row=Q3:=by
   refine te λhno=>hn λrow hr hi=>hno ⟨row,hr,hi⟩
  obtain⟨row,hr,hi⟩:=this;obtain⟨e,h0⟩:=HE.1 hi;refine⟨bn.2 ⟨row,hr,?_⟩,h0⟩;show getD row (toNat (fx p (bE db p))) (zj zf)=v;rw[h.pc.2];exact e
end
def RgV(v:Sem zf):Prop:=LE.le (α:=Int) (-9223372036854775808) v.2.1/\LE.le (α:=Int) v.2.1 9223372036854775807
mutual
def Sf:ze->Prop
 |.mk _ v _ l=>RgV v/\G1 l
def G1:List ze->Prop
 |[]=>True
 |e::r=>Sf e/\G1 r
end
theorem G1.mem:∀{l:List ze},G1 l->∀e∈l,Sf e
 |[],_,e,h=>by simp at h
 | x::r,h,e,he=>by
  rw[G1]at h;rcases cr.1 he with rfl|he
  ·exact h.1
  ·exact G1.mem h.2 e he
theorem kg.app:∀{a b:List ze},kg a->kg b->kg (a++b)
 |[],_,_,h=>h
 | x::r,b,h,hb=>by
  rw[kg]at h;rw[List.cons_append,kg];exact⟨h.1,h.2.app hb⟩
theorem LU(k:Nat)(s:zB)(h:k<=1000):(List.take (toNat (k:Int)-toNat 0) (List.drop (toNat 0) s)).length<=1000000:=by
 simp;omega
theorem Vo{n k:Nat}(h:¬Q0 ((n:Int)>(k:Int))=Q3)(hk:k<=1000):n<=1000000:=by
 have:¬(n:Int)>(k:Int):=by simpa using h
 omega
theorem kg.of:∀{l:List ze},(∀x∈l,tc x)->kg l
 |[],_=>by rw[kg];trivial
 |x::r,h=>by rw[kg];exact⟨h x sw,kg.of λy hy=>h y (by simp[hy])⟩
theorem AI{e:ze}(h:Sf e):tc (fK e):=by
 obtain⟨r,m,h1,h2⟩:=HA (P:=λ_ e r=>Sf e->tc r) (λN e o t s l hl _ ht hs hr=>by
  obtain⟨op,v,s',l'⟩:=e;rw[Sf]at hr;rw[tc];exact⟨⟨hr.1.1,hr.1.2,by show t.length<=_;omega⟩,ow,kg.of λy hy=>by
   obtain⟨x,hx,hxy⟩:=hl y hy;exact hxy (hr.2.mem x hx)⟩) 16 e 14 80 ow ow ow
 unfold fK;rw[ze.eta,show sj 16 e 14 80=(r,m) by unfold sj;rw[h1];rfl];exact h2 h
theorem DY(s:zB):(jt s).length<=1000000:=by
 unfold jt;split
 ·exact LU 20 s ow
 ·exact Vo (k:=20) (by assumption) ow
theorem U4(l:List (Sem zi)):(jN l).length<=9/\∀c∈jN l,length c.1<=1000000:=by
 refine⟨by show((List.take 9 l).map _).length<=9;rw[di,pn];omega,λc hc=>?_⟩;obtain⟨x,_,rfl⟩:=bn.1 hc;exact DY x.1
theorem zak{t:Sem zp}(h:Sf t.t.2):L5 (Eh t):=by
 have hc:=U4 t.2.1;refine⟨DY _,hc.2,cC hc.1 ow,?_,?_,λf hf=>?_,AI h⟩
 ·show(List.take 10 _).length<=_;rw[pn];omega
 ·show((List.take 10 _).map _).length<=_;rw[di,pn];omega
 ·obtain⟨g,_,rfl⟩:=bn.1 hf;exact DY _
theorem zan{v:Sem zf}(h:RgV v):mj (EU v):=by
 unfold EU;split
 ·exact⟨h.1,h.2,LU 60 v.2.2 ow⟩
 ·exact⟨h.1,h.2,Vo (k:=60) (by assumption) ow⟩
theorem KF{l:List (Sem zf)}(h:∀v∈l,RgV v):∀v∈lX l,mj v:=λv hv=>by
 obtain⟨x,hx,rfl⟩:=bn.1 hv;exact zan (h x (List.mem_of_mem_take hx))
structure RgR (x:Sem zh):Prop where
 chk:Sf x.1.t.2
 vals:∀r∈x.2,∀v∈(r:List (Sem zf)),RgV v
theorem UY{x:Sem zh}(h:RgR x):Xd (yS x):=by
 obtain⟨rows,h1,h2⟩:=KE x;have h3:yS x=(Eh x.1,rows):=by unfold yS;rw[h2];rfl
 rw[h3];refine⟨zak h.chk,by show rows.length<=1000;have:=h1.1;omega,λr hr v hv=>?_⟩;obtain⟨r0,hr0,rfl⟩:=h1.2 r hr;exact KF (h.vals r0 hr0) v hv
structure RgS (s:Sem zl):Prop where
 chk:Sf s.t.t.1
 whr:Sf s.t.t.q.2.1
 row:∀v∈s.t.t.2.1,RgV v
 sets:∀x∈s.t.t.q.1,Sf (x:Sem iq).2
theorem UX{s:Sem zl}(h:RgS s):∃s':Sem zl,xy s=Q1 (s',())/\Mb s'/\pf s':=by
 obtain⟨s',h1,h2,h3⟩:=M6 s;refine⟨s',h1,h2,h2.sh,?_,?_,h2.cp,?_,?_,?_⟩
 ·rw[h3.chk];exact AI h.chk
 ·rw[h3.whr];exact AI h.whr
 ·rw[h3.whr];exact Hh _
 ·rw[h3.row];exact KF h.row
 ·intro x hx;obtain⟨y,hy,he⟩:=h3.sets x hx;rw[he];exact⟨AI (h.sets y hy),Hh _⟩
open Go Go.RowKit Go.ChangeShapes
theorem HF{W W':World}(hos:W'.os=W.os)(hout:W'.output=W.output)(h:∀b,b<W.heap.size->W'.heap[b]?=W.heap[b]?)(may:MemPlace->Prop):W.keptBut W' may:=by
 refine⟨hos,hout,λi hi=>?_⟩;rw[h i hi];cases W.heap[i]? with
 |none=>rfl
 | some o=>
  cases o with
  |cells c t fr=>exact⟨rfl,rfl,rfl,λ_ _=>rfl⟩
  |map es clock=>exact .inr ⟨rfl,rfl⟩
  |_=>rfl
section
variable {H:Type} {enc:TypeId×Value->H} {P:Program}
theorem KX{f:Func}{s:ChangeSpec}{fresh handsOn again:Bool}{W W':World}{args:Array Value}{v:Value}{ds gs:List (DataW H)}{before pa pv:List MemPlace}
  (hW:DataW.Whole enc P f.params.toList s.vars Q4 W args.toList ds gs before)
  (hres:∀(b:Nat)(sp:Nat->Bool)(hd:Bool),DataW.TrodAll enc P W' b sp hd f.resultTypes.toList (v.resultList f.resultTypes.size) (s.fn H (ds++gs)).results [])
  (hargs:∀sp:Nat->Bool,(∀p∈before,sp p.block=Q3)->DataW.TrodAll enc P W' 0 sp Q3 f.params.toList args.toList (s.fn H (ds++gs)).args pa)
  (hvars:∀sp:Nat->Bool,(∀p∈before,sp p.block=Q3)->DataW.TrodVars enc P W' sp s.vars (s.fn H (ds++gs)).vars pv)
  (hps:before=pa++pv) (hk:W.keptBut W' (·∈before)) (hfz:∀a:Addr,a.block<W.heap.size->W'.frozen? a=W.frozen? a)
  (hok:∀(j:Nat)(t:TypeId)(r:Value),f.resultTypes[j]?=Q1 t->(v.resultList f.resultTypes.size)[j]?=Q1 r->Value.okWide P W' .any 0 t r):
  s.post enc P f Q4 fresh handsOn again W args v W':=by
 have hold:∀p∈before,(λb=>Q0 (b<W.heap.size)) p.block=Q3:=λp hp=>by simpa using hW.lt p hp
 have hlt:=hW.lt;refine⟨ds,gs,before,[],pa,pv,hW,hres _ _ _,hargs _ hold,hvars _ hold,World.keptBut_mono (λp hp=>⟨hp,?_⟩) hk,λ_=>?_⟩
 ·rw[hps,cQ]at hp;exact Or.inr hp
 ·obtain⟨_,_,_,_,_,hz,hn⟩:=hW;refine⟨hok,_,_,([]++pa)++pv,⟨[]++pa,pv,trodAll_append (hargs _ (λ_ _=>rfl)) (hres _ _ _),hvars _ (λ_ _=>rfl),rfl,?_,?_⟩,?_⟩
  ·intro b off hp;have hp':MemPlace.cell b off∈before:=by rw[hps];simpa using hp
   rw[hfz ⟨b,off,none⟩ (hlt _ hp')];exact hz b off hp'
  ·intro ha;cases ha
  ·intro p hp _;rw[hps];simpa using hp
theorem RB{W:World}{r:Go.Reach}{b:Nat}{t:TypeId}{fs:Array Field}{v:Value}(ht:P.underlying t=Q1 (.struct fs))(h:Value.okWide P W r b t v):∃cs,v=.agg cs:=by
 unfold Value.okWide at h;rw[ht]at h;obtain⟨cs,rfl,_⟩:=h;exact⟨cs,rfl⟩
theorem VF{W:World}{r:Go.Reach}{b:Nat}{t e:TypeId}{v:Value}(ht:P.underlying t=Q1 (.slice e))(h:Value.okWide P W r b t v):∃a n c,v=.slice a n c:=by
 unfold Value.okWide at h;rw[ht]at h;simp only at h;unfold Cell.okWide at h;rw[ht]at h;unfold Cell.ok at h;rw[ht]at h;cases v<;>simp at h
 exact⟨_,_,_,rfl⟩
theorem zgx{W:World}{r:Go.Reach}{b:Nat}{t:TypeId}{k:IntKind}{v:Value}(ht:P.underlying t=Q1 (.int k))(h:Value.okWide P W r b t v):∃n,v=.int k n:=by
 unfold Value.okWide at h;rw[ht]at h;simp only at h;unfold Cell.okWide at h;rw[ht]at h;unfold Cell.ok at h;rw[ht]at h;cases v<;>simp at h
 exact⟨_,by rw[h.1]⟩
theorem MT{W:World}{r:Go.Reach}{b n:Nat}{t:TypeId}{fs:Array Field}{s:Sh}{v:Value}{d:DataW H}{ps:List MemPlace}(hty:N0 P n t s=Q3)(hs:s.isAgg=Q3)(ht:P.underlying t=Q1 (.struct fs))(hok:Value.okWide P W r b t v)
  (h:DataW.Trod enc P W 0 (λ_=>Q3) Q3 t v d ps):∃x:Sem s,Rv W U0 iQ (zz s x) v:=by
 refine Ay hty h ⟨λ_=>hs,λ_=>RB ht hok⟩ (λh'=>?_);rw[hs]at h';cases h'
theorem Re{W:World}{r:Go.Reach}{b n:Nat}{t e:TypeId}{s:Sh}{v:Value}{d:DataW H}{ps:List MemPlace}(hty:N0 P n t (.sl s)=Q3)(ht:P.underlying t=Q1 (.slice e))(hok:Value.okWide P W r b t v)
  (h:DataW.Trod enc P W 0 (λ_=>Q3) Q3 t v d ps):∃x:List (Sem s),Rv W U0 iQ (.sl s x) v:=by
 obtain⟨a,m,c,rfl⟩:=VF ht hok;exact Ay (s:=.sl s) hty h ⟨(λ⟨_,hh⟩=>(by cases hh)),(λhh=>(by cases hh))⟩ (λ_=>rfl)
theorem Zd{W:World}{r:Go.Reach}{b n:Nat}{t:TypeId}{k:IntKind}{v:Value}{d:DataW H}{ps:List MemPlace}(hty:N0 P n t (.int k)=Q3)(ht:P.underlying t=Q1 (.int k))(hok:Value.okWide P W r b t v)
  (h:DataW.Trod enc P W 0 (λ_=>Q3) Q3 t v d ps):∃x:Int,Rv W U0 iQ (.int k x) v:=by
 obtain⟨m,rfl⟩:=zgx ht hok;exact Ay (s:=.int k) hty h ⟨(λ⟨_,hh⟩=>(by cases hh)),(λhh=>(by cases hh))⟩ (λ_=>rfl)
theorem Mo{gl:Nat->AV}{k:FuncId}{F:zV}(hF:oZ P gl k F){W:World}{jx:List AV}{args:Array Value}(hgl:sX gl W U0)(hr:du W U0 iQ jx args.toList)(hv:(F jx (λ_=>.dead) 0).val=Q1 {val:=.bool Q3})(hid:AV.idsL jx=[]):
  Calls P k args W λe W'=>e=.returned (.bool Q3)/\mg W W'/\∀b,b<W.heap.size->W'.heap[b]?=W.heap[b]?:=by
 have:=(hF.calls W U0 iQ (λ_=>.dead) 0 jx args.toList _ [] hv hr (λ_ h=>h.elim) hgl ⟨sw,sw⟩ (by rw[hid];simp) sw sw).1;rw[show args.toList.toArray=args by simp]at this;refine this.mono ?_;rintro e w' ⟨v,U',ρ',rfl,hef⟩;have hv':=hef.val;cases hv';exact⟨rfl,hef.ext,λb hb=>hef.same b hb sw⟩
end
open Go Go.Proofs Go.RowKit Go.ChangeShapes Go.WideShapes Go.ChangeAt Go.Proofs.YtjfdpfapcmcncaaGreatDoor
theorem KG{P:Program}{w:World}:∀{l:List (String×DataW Unit)}{ps:List MemPlace},DataW.LaidVars P w l ps->∀n d,(n,d)∈l->
  ∃g t cs fuel p,P.globalNamed n=Q1 g/\(P.globals[g]?).map (·.type)=Q1 t/\w.var? P n=Q1 cs/\DataW.trod (λ_=>()) P w 0 (λ_=>Q3) Q4 fuel t cs.toList=Q1 (d,p)
 |[],_,_,_,_,h=>by simp at h
 | (n0,d0)::r,ps,h,n,d,hm=>by
  obtain⟨g,t,cs,fuel,p,q,h1,h2,h3,h4,h5,_⟩:=h;rcases cr.1 hm with e|hm
  ·cases e;exact⟨g,t,cs,fuel,p,h1,h2,h3,h4⟩
  ·exact KG h5 n d hm
theorem HI{P:Program}{l:List (String×DataW Unit)}{w:World}(hf:(l.filter λx=>x.2.handleName?.isSome).isEmpty=Q3)(h:laidMetH P l w):laidMet P l w:=by
 unfold laidMetH at h;split at h
 ·exact h
 ·rename_i a b hab;rw[hab]at hf;simp at hf
theorem qw{H:Type}{enc:TypeId×Value->H}{P:Program}{w:World}{base:Nat}{sp:Nat->Bool}{held:Bool}{fuel:Nat}{t:TypeId}(ht:P.underlying t=Q1 .string){cs:List Value}{b:List UInt8}{p:List MemPlace}
  (h:DataW.trod enc P w base sp held fuel t cs=Q1 (.lit (.string b),p)):cs=[.string ⟨b.toArray⟩]:=by
 cases fuel with
 |zero=>simp[DataW.trod]at h
 | succ fuel=>
  unfold DataW.trod at h;rw[ht]at h;split at h
  all_goals first
   |(rename_i hu;cases hu;done)
   |(rename_i hu _;cases hu;done)
   |(simp at h;done)
   |skip
  rename_i s hu;split at h
  ·simp only[bB,cB,DataW.lit.injEq,Lit.string.injEq]at h;rw[<-h.1]
  ·cases h
theorem WT{H:Type}{enc:TypeId×Value->H}{P:Program}{w:World}{base:Nat}{sp:Nat->Bool}{held:Bool}{fuel:Nat}{t:TypeId}(ht:P.underlying t=Q1 (.int .u64)){cs:List Value}{z:Int}{p:List MemPlace}
  (h:DataW.trod enc P w base sp held fuel t cs=Q1 (.lit (.int .u64 z),p)):cs=[.int .u64 z]:=by
 cases fuel with
 |zero=>simp[DataW.trod]at h
 | succ fuel=>
  unfold DataW.trod at h;rw[ht]at h;split at h
  all_goals first
   |(rename_i hu;cases hu;done)
   |(rename_i hu _;cases hu;done)
   |(simp at h;done)
   |skip
  all_goals(try split at h)
  all_goals first
   |(cases h;done)
   |(simp at h;done)
   |skip
  all_goals simp_all
theorem Fg{W:World}{l:List (String×DataW Unit)}(h:laidMet Tryz.prog l W){name:String}{g:Nat}{t e:TypeId}{len:Nat}{ds:List (DataW Unit)}(hm:(name,DataW.agg ds)∈l)
  (hg:Tryz.prog.globalNamed name=Q1 g) (ht:(Tryz.prog.globals[g]?).map (·.type)=Q1 t) (hu:Tryz.prog.underlying t=Q1 (.array len e)) (hc:Tryz.prog.cellsOf e=1):
  ∃cs T fr,W.heap[g]?=Q1 (.cells cs T fr)/\∀(j:Nat) d,ds[j]?=Q1 d->∃fuel p,DataW.trod (λ_=>()) Tryz.prog W 0 (λ_=>Q3) Q4 fuel e ((cs.toList.drop j).take 1)=Q1 (d,p):=by
 obtain⟨ps,hL,_,_⟩:=h;obtain⟨g',t',cs,fuel,p,h1,h2,h3,h4⟩:=KG hL name _ hm;rw[hg]at h1;cases h1;rw[ht]at h2;cases h2;have hvar:∃T fr,W.heap[g]?=Q1 (.cells cs T fr):=by
  unfold World.var? at h3;rw[hg]at h3;simp only[Option.bind_some]at h3;split at h3
  ·rename_i c T fr hh;cases h3;exact⟨T,fr,hh⟩
  ·cases h3
 obtain⟨T,fr,hblk⟩:=hvar;refine⟨cs,T,fr,hblk,?_⟩;cases fuel with
 |zero=>simp[DataW.trod]at h4
 | succ fuel=>
  unfold DataW.trod at h4;rw[hu]at h4;simp only at h4;split at h4
  ·rw[eD]at h4;obtain⟨xs,hm',hx⟩:=h4;simp only[cB,DataW.agg.injEq]at hx;obtain⟨hl,hg'⟩:=CU hm';intro j d hj;rw[<-hx.1,fA,eD]at hj;obtain⟨⟨d',p'⟩,hj,rfl⟩:=hj;have hjl:j<xs.length:=(dh.1 hj).1;have hr:(List.range len)[j]?=Q1 j:=by
    rw[ym];rw[hl,List.length_range]at hjl;exact hjl
   have:=hg' j j hr;rw[hj,hc,Nat.mul_one]at this;exact⟨fuel,p',this⟩
  ·cases h4
theorem PL{cs:Array Value}{j:Nat}{v:Value}(h:(cs.toList.drop j).take 1=[v]):cs[j]?=Q1 v:=by
 have:=congrArg (·[0]?) h;simp only[List.getElem?_take,E9]at this;simpa using this
theorem gl0{W:World}{l:List (String×DataW Unit)}(h:laidMet Tryz.prog l W)(hm:("caddis/stmt.types",Rows.laid_caddis_stmt_types)∈l):Rv W U0 iQ (.eptr [.str [73,78,84],.str [84,69,88,84],.str [66,79,79,76]] 0) (.pointer (Q1 ⟨1,0,none⟩)):=by
 obtain⟨cs,T,fr,hb,hd⟩:=Fg h (g:=1) (t:=315) (e:=9) (len:=3) hm kw kw kw kw;have hs9:Tryz.prog.underlying 9=Q1 .string:=by kernel_rfl
 have hcell:∀j,W.cell? ⟨1,j,none⟩=cs[j]?:=by
  intro j;unfold World.cell?;rw[hb];rfl
 obtain⟨_,_,g0⟩:=hd 0 _ rfl;obtain⟨_,_,g1⟩:=hd 1 _ rfl;obtain⟨_,_,g2⟩:=hd 2 _ rfl;have w0:=PL (qw hs9 g0);have w1:=PL (qw hs9 g1);have w2:=PL (qw hs9 g2);refine .eptr [.str [73,78,84],.str [84,69,88,84],.str [66,79,79,76]] 0 1 0 (λj=>match j with
  |0=>.string ⟨#[73,78,84]⟩
  |1=>.string ⟨#[84,69,88,84]⟩
  |_=>.string ⟨#[66,79,79,76]⟩) (nJ (by rw[hcell];exact w0)) (λh=>h) ?_ ?_ ?_
 ·intro j hj
  match j,hj with
  |0,_=>rw[hcell];exact w0
  |1,_=>rw[hcell];exact w1
  |2,_=>rw[hcell];exact w2
 ·intro j hj
  match j,hj with
  |0,_=>rfl
  |1,_=>rfl
  |2,_=>rfl
 ·intro j c hc
  match j,hc with
  |0,hc=>simp at hc;subst hc;exact .str [73,78,84] (by simp[aF])
  |1,hc=>simp at hc;subst hc;exact .str [84,69,88,84] (by simp[aF])
  |2,hc=>simp at hc;subst hc;exact .str [66,79,79,76] (by simp[aF])
  |j+3,hc=>simp at hc
set_option maxRecDepth 100000 in
theorem gl2{W:World}(h:W.ShapedOpen Tryz.prog):Rv W U0 iQ .gint (.pointer (Q1 ⟨0,0,none⟩)):=by
 have h0:((begin Tryz.prog (λ_ _=>0) default).world.heap[0]?).bind Obj.row?=Q1 (#[.int .i64 0],3):=by kernel_rfl
 obtain⟨cs,hh,hs,hr⟩:=h.1 0 _ _ (lM kw) h0;obtain⟨ts,hts,_,hall⟩:=hr kw;have hc:Tryz.prog.cellTypes Tryz.prog.depth 3=Q1 [3]:=by kernel_rfl
 rw[hc]at hts;cases hts;have h1:cs.size=1:=hs;obtain⟨u,hu,hok⟩:=hall 0 cs[0] sw;have:u=3:=by simpa using hu.symm
 subst this;have hi:Tryz.prog.underlying 3=Q1 (.int .i64):=by kernel_rfl
 unfold Cell.ok at hok;rw[hi]at hok;have hcs:cs=#[cs[0]]:=by
  apply Array.ext
  ·simp[h1]
  ·intro i h2 h3;have:i=0:=by omega
   subst this;rfl
 cases hv:cs[0]<;>rw[hv]at hok<;>simp at hok
 rename_i k n;obtain⟨rfl,hn⟩:=hok;refine .gint n 0 3 (0,0) hn ?_ (λh=>h);rw[hh,hcs,hv]
theorem gl5{W:World}{l:List (String×DataW Unit)}(h:laidMet Tryz.prog l W)(hs:W.ShapedOpen Tryz.prog)(hm:("internal/strconv.uint64pow10",Rows.laid_internal_strconv_uint64pow10)∈l):Rv W U0 iQ (.tab .u64 mo) (.pointer (Q1 ⟨5,0,none⟩)):=by
 obtain⟨cs,T,fr,hb,hd⟩:=Fg h (g:=5) (t:=370) (e:=240) (len:=20) hm kw kw kw kw;have hu:Tryz.prog.underlying 240=Q1 (.int .u64):=by kernel_rfl
 have h0:((begin Tryz.prog (λ_ _=>0) default).world.heap[5]?).bind Obj.row?=Q1 (Array.replicate 20 (.int .u64 0),370):=by kernel_rfl
 obtain⟨cs',hh,hsz,_⟩:=hs.1 5 _ _ (lM kw) h0;rw[hb]at hh;have hcs:cs=cs':=by simp only[bB,Obj.cells.injEq]at hh;exact hh.1
 have hlen:cs.size=20:=by rw[hcs,hsz];simp
 have key:cs=(mo.map λz=>Value.int .u64 z).toArray:=by
  apply Array.ext
  ·rw[hlen];rfl
  ·intro i h1 h2;have hd':∀(j:Nat) z,mo[j]?=Q1 z->cs[j]?=Q1 (.int .u64 z):=by
    intro j z hz;obtain⟨_,_,g⟩:=hd j (.lit (.int .u64 z)) (by
     have:(match(Rows.laid_internal_strconv_uint64pow10:DataW Unit)with|.agg l=>l|_=>[])=mo.map λz=>DataW.lit (.int .u64 z):=by kernel_rfl
     have e2:(match(Rows.laid_internal_strconv_uint64pow10:DataW Unit)with|.agg l=>l|_=>[])[j]?=Q1 (.lit (.int .u64 z)):=by
      rw[this,fA,hz];rfl
     exact e2)
    exact PL (WT hu g)
   have hi:i<mo.length:=by simpa using h2
   have:=hd' i mo[i] (zQ hi);rw[td h1,bB]at this;rw[this,List.getElem_toArray,List.getElem_map]
 exact .tab .u64 mo 5 T fr (by rw[hb,key]) (λh=>h)
theorem U5:laidOutB Tryz.prog=Q3:=kw
def xv(P:Program)(t:TypeId):Bool:=match P.underlying t with
 |some (.struct _)=>Q3
 |_=>Q4
theorem HD{P:Program}{t:TypeId}(h:xv P t=Q3):∃fs,P.underlying t=Q1 (.struct fs):=by
 unfold xv at h;split at h
 ·exact⟨_,‹_›⟩
 ·cases h
theorem un4:Tryz.prog.underlying 4=Q1 .bool:=kw
theorem znC{H:Type}{enc:TypeId×Value->H}{W W':World}(hsame:∀b,b<W.heap.size->W'.heap[b]?=W.heap[b]?){t:TypeId}{v:Value}{d:DataW H}{ps:List MemPlace}(hr:Tryz.prog.readableRec t=Q3)(hrow:t<Tryz.prog.types.size)
  (h:DataW.Trod enc Tryz.prog W 0 (λ_=>Q3) Q3 t v d ps) (hlt:∀p∈ps,p.block<W.heap.size) {sp:Nat->Bool} (hs:∀p∈ps,sp p.block=Q3):DataW.Trod enc Tryz.prog W' 0 sp Q3 t v d ps:=
 WideElems.Trod_stays U5 hr hrow h (λp hp=>by
  have h1:=hsame p.block (hlt p hp);cases p with
  |cell b off=>exact World.cell?_of_block h1
  |map b=>exact h1) hs
theorem Za{W:World}{l:List (String×DataW Unit)}(hL:laidMet Tryz.prog l W)(hs:W.ShapedOpen Tryz.prog)(h0:("caddis/stmt.types",Rows.laid_caddis_stmt_types)∈l)(h5:("internal/strconv.uint64pow10",Rows.laid_internal_strconv_uint64pow10)∈l):sX CH W U0:=by
 intro g
 match g with
 |0=>exact gl2 hs
 |1=>exact gl0 hL h0
 |2=>exact .any _
 |3=>exact .any _
 |4=>exact .any _
 |5=>exact gl5 hL hs h5
 |g+6=>exact .any _
theorem RA{P:Program}{W:World}{r:Go.Reach}{b:Nat}{t:TypeId}{v:Value}(ht:P.underlying t=Q1 .string)(h:Value.okWide P W r b t v):∃n,v=.string n:=by
 unfold Value.okWide at h;rw[ht]at h;simp only at h;unfold Cell.okWide at h;rw[ht]at h;unfold Cell.ok at h;rw[ht]at h;cases v<;>simp at h
 exact⟨_,rfl⟩
structure EA (t:TypeId) (s:Sh):Prop where
 got:∀{H:Type}{enc:TypeId×Value->H}{W:World}{r:Go.Reach}{b:Nat}{v:Value}{d:DataW H}{ps:List MemPlace},Value.okWide Tryz.prog W r b t v->DataW.Trod enc Tryz.prog W 0 (λ_=>Q3) Q3 t v d ps->∃x:Sem s,Rv W U0 iQ (zz s x) v
 rd:Tryz.prog.readableRec t=Q3
 row:t<Tryz.prog.types.size
set_option maxRecDepth 100000 in
theorem EA.struct{t:TypeId}{s:Sh}{n:Nat}(hty:N0 Tryz.prog n t s=Q3)(hs:s.isAgg=Q3)(ht:xv Tryz.prog t=Q3)(rd:Tryz.prog.readableRec t=Q3)(row:t<Tryz.prog.types.size):EA t s where
 got:=λhok h=>by
  obtain⟨fs,hu⟩:=HD ht;exact MT hty hs hu hok h
 rd:=rd
 row:=row
set_option maxRecDepth 100000 in
theorem EA.slice{t e:TypeId}{s:Sh}{n:Nat}(hty:N0 Tryz.prog n t (.sl s)=Q3)(ht:Tryz.prog.underlying t=Q1 (.slice e))(rd:Tryz.prog.readableRec t=Q3)(row:t<Tryz.prog.types.size):EA t (.sl s) where
 got:=λhok h=>Re hty ht hok h
 rd:=rd
 row:=row
set_option maxRecDepth 100000 in
theorem EA.int{t:TypeId}{k:IntKind}{n:Nat}(hty:N0 Tryz.prog n t (.int k)=Q3)(ht:Tryz.prog.underlying t=Q1 (.int k))(rd:Tryz.prog.readableRec t=Q3)(row:t<Tryz.prog.types.size):EA t (.int k) where
 got:=λhok h=>Zd hty ht hok h
 rd:=rd
 row:=row
set_option maxRecDepth 100000 in
theorem EA.str{t:TypeId}{n:Nat}(hty:N0 Tryz.prog n t .str=Q3)(ht:Tryz.prog.underlying t=Q1 .string)(rd:Tryz.prog.readableRec t=Q3)(row:t<Tryz.prog.types.size):EA t .str where
 got:=λhok h=>by
  obtain⟨m,rfl⟩:=RA ht hok;exact Ay (s:=.str) hty h ⟨(λ⟨_,hh⟩=>(by cases hh)),(λhh=>(by cases hh))⟩ (λ_=>rfl)
 rd:=rd
 row:=row
inductive Mg:List TypeId->List Sh->Prop
 |nil:Mg [] []
 |cons {t:TypeId} {s:Sh} {ts:List TypeId} {ss:List Sh} (h:EA t s) (r:Mg ts ss):Mg (t::ts) (s::ss)
set_option maxRecDepth 100000 in
theorem Mg.got{ts:List TypeId}{ss:List Sh}(h:Mg ts ss):∀{H:Type}{enc:TypeId×Value->H}{W:World}{base:Nat}{vs:List Value}{ds:List (DataW H)}{ps:List MemPlace},
  (∀(j:Nat) t v,ts[j]?=Q1 t->vs[j]?=Q1 v->Value.okWide Tryz.prog W .any base t v)->DataW.TrodAll enc Tryz.prog W 0 (λ_=>Q3) Q3 ts vs ds ps->
  ds.length=ts.length/\(∃x:zx (ss.map Q1),du W U0 iQ (jx (ss.map Q1) x) vs)/\
  ∀W',(∀b,b<W.heap.size->W'.heap[b]?=W.heap[b]?)->(∀p∈ps,p.block<W.heap.size)->∀sp:Nat->Bool,(∀p∈ps,sp p.block=Q3)->DataW.TrodAll enc Tryz.prog W' 0 sp Q3 ts vs ds ps:=by
 induction h with
 | nil=>
  intro H enc W base vs ds ps _ hT;obtain⟨rfl,rfl,rfl⟩:=trodAll_nil hT;exact⟨rfl,⟨(),rfl,λj c v hc=>by
   have h0:([]:List AV)[j]?=Q1 c:=hc;simp at h0⟩,λ_ _ _ _ _=>trodAll_mk0⟩
 | @cons t s ts ss h r IH=>
  intro H enc W base vs ds ps hok hT;obtain⟨v,vs,d,ds,p,q,rfl,rfl,rfl,hd,hrest⟩:=trodAll_cons hT;obtain⟨x,hx⟩:=h.got (hok 0 t v rfl rfl) hd;obtain⟨hl,⟨y,hy⟩,hk⟩:=IH (λj t v ht hv=>hok (j+1) t v ht hv) hrest;refine⟨by simp[hl],⟨(x,y),by show(zz s x::jx (ss.map Q1) y).length=_;simp[hy.len],λj c v' hc hv=>?_⟩,λW' hsame hlt sp hsp=>?_⟩
  ·have hc:(zz s x::jx (ss.map Q1) y)[j]?=Q1 c:=hc;cases j with
   | zero=>
    simp only[List.getElem?_cons_zero,bB]at hc hv;subst hc;subst hv;exact hx
   |succ j=>exact hy.rv j c v' hc hv
  ·exact trodAll_cons_mk (znC hsame h.rd h.row hd (λp hp=>hlt p (by simp[hp])) (λp hp=>hsp p (by simp[hp]))) (hk W' hsame (λp hp=>hlt p (by simp[hp])) sp (λp hp=>hsp p (by simp[hp])))
theorem Om:∀(ss:List Sh)(x:zx (ss.map Q1)),AV.idsL (jx (ss.map Q1) x)=[]
 |[],_=>rfl
 | s::ss,x=>by
  show(zz s x.1).ids++AV.idsL (jx (ss.map Q1) x.2)=[];rw[Om ss x.2,yr];unfold zz;have hL:∀l:List AV,(∀c∈l,c.ids=[])->AV.idsL l=[]:=by
   intro l
   induction l with
   |nil=>intro _;rfl
   |cons c l ih=>intro h;simp only[AV.idsL,h c sw,ih λc hc=>h c (by simp[hc]),yr]
  have hE:∀c∈zq s x.1,c.ids=[]:=λc hc=>by
   obtain⟨j,hj,rfl⟩:=g8 hc;exact lS s x.1 j _ (zQ hj)
  cases s.isAgg with
  |true=>exact hL _ hE
  | false=>
   cases hh:zq s x.1 with
   |nil=>rfl
   |cons c l=>exact hE c (by rw[hh];simp)
set_option maxRecDepth 100000 in
theorem QF{k:FuncId}{f:Func}{s:ChangeSpec}{F:zV}{ts:List TypeId}{ss:List Sh}(hF:oZ Tryz.prog CH k F)(hpar:f.params=ts.toArray)(hp:Mg ts ss)(hrt:f.resultTypes=#[4])(hvars:s.vars=[])
  (hfn:∀(H:Type)(ds:List (DataW H)),ds.length=ts.length->s.fn H ds={results:=[.lit (.bool Q3)],args:=ds})
  {H:Type} {enc:TypeId×Value->H} {W:World} {base:Nat} {args:Array Value} {ds gs:List (DataW H)} {before:List MemPlace}
  (hv:∀x:zx (ss.map Q1),du W U0 iQ (jx (ss.map Q1) x) args.toList->(F (jx (ss.map Q1) x) (λ_=>.dead) 0).val=Q1 {val:=.bool Q3})
  (hval:∀(j:Nat) t v,f.params[j]?=Q1 t->args[j]?=Q1 v->Value.okWide Tryz.prog W .any base t v)
  (hW:DataW.Whole enc Tryz.prog f.params.toList s.vars Q4 W args.toList ds gs before) (hgl:sX CH W U0):
  Calls Tryz.prog k args W λe W'=>∃v,e=.returned v/\s.post enc Tryz.prog f Q4 Q3 Q4 Q4 W args v W':=by
 have hW':=hW;obtain⟨p,q,hA0,hV,rfl,hfz,hnd⟩:=hW;have hA:DataW.TrodAll enc Tryz.prog W 0 (λ_=>Q3) Q3 f.params.toList args.toList ds p:=hA0;rw[hpar]at hA;rw[hvars]at hV;obtain⟨rfl,rfl⟩:=trodVars_none hV;have hlt:=hW'.lt;obtain⟨hl,⟨x,hx⟩,hk⟩:=hp.got (base:=base) (λj t v ht hv=>hval j t v (by rw[hpar];simpa using ht) (by simpa using hv)) hA;have hc:=Mo hF (args:=args) hgl hx (hv x hx) (Om ss x);refine hc.mono λe' W' ⟨he,hext,hsame⟩=>?_
 subst he;have hf2:s.fn H (ds++[])={results:=[.lit (.bool Q3)],args:=ds}:=by rw[yr];exact hfn H ds hl
 refine⟨_,rfl,KX (pa:=p) (pv:=[]) hW' (λ_ _ _=>?_) (λsp hsp=>?_) (λ_ _=>?_) sw (HF hext.os hext.out hsame _) hext.fr (ok_one hrt rfl (okWide_bool_mk un4 _))⟩
 ·rw[hf2,hrt];exact trodAll_cons_mk (shut_bool un4 _) trodAll_mk0
 ·rw[hf2,hpar];exact hk W' hsame (λp hp=>hlt p (by simpa using hp)) sp (λp hp=>hsp p (by simpa using hp))
 ·rw[hf2,hvars];rfl
open Go Go.Proofs Go.RowKit Go.ChangeShapes Go.WideShapes Go.ChangeAt
section
variable {w:World} {U:Nat->Prop} {ρ:Nat->Option Value}
def Ag(w:World)(U:Nat->Prop)(ρ:Nat->Option Value)(l:List AV):Prop:=∀(j:Nat)(c:AV),l[j]?=Q1 c->∃v,Rv w U ρ c v
theorem Kx{n:Int}{v:Value}(h:Rv w U ρ (.int .i64 n) v):-9223372036854775808<=n/\n<=9223372036854775807:=by
 cases h with
 |int _ _ h=>simpa[cq,IntKind.min,IntKind.max,IntKind.signed,IntKind.bits]using h
theorem rV{e:Sh}{l:List (Sem e)}{v:Value}(h:Rv w U ρ (.sl e l) v):∀x∈l,Ag w U ρ (zq e x):=by
 intro x hx;cases h with
 |sl0=>simp at hx
 | sl _ _ _ _ _ vals hc hm hb hU hcell hr=>
  obtain⟨i,hi,rfl⟩:=g8 hx;exact λj c h=>⟨_,hr i hi j c h⟩
theorem Ub{v:Sem zf}(h:Ag w U ρ (zq zf v)):RgV v:=by
 obtain⟨_,h⟩:=h 1 _ rfl;exact Kx h
mutual
theorem CI:∀(e:ze),Ag w U ρ (zq .expr e)->Sf e
 | .mk op v s l,h=>by
  rw[Sf];obtain⟨_,h2⟩:=h 2 _ rfl;obtain⟨_,h5⟩:=h 5 _ rfl;exact⟨Kx h2,OL l λx hx=>rV h5 x hx⟩
theorem OL:∀(l:List ze),(∀x∈l,Ag w U ρ (zq .expr x))->G1 l
 |[],_=>by rw[G1];trivial
 |x::r,h=>by rw[G1];exact⟨CI x (h x sw),OL r λy hy=>h y (by simp[hy])⟩
end
theorem zfD{x:Sem zh}(h:Ag w U ρ (zq zh x)):RgR x where
 chk:=CI _ λj c hc=>match j,hc with
  |0,hc=>h 5 c hc
  |1,hc=>h 6 c hc
  |2,hc=>h 7 c hc
  |3,hc=>h 8 c hc
  |4,hc=>h 9 c hc
  |5,hc=>h 10 c hc
  |j+6,hc=>by simp[zq]at hc
 vals:=by
  obtain⟨_,h⟩:=h 11 _ rfl;intro r hr v hv;obtain⟨_,h⟩:=rV h r hr 0 _ rfl;exact Ub (rV h v hv)
end
theorem SK{w:World}{U:Nat->Prop}{ρ:Nat->Option Value}{cs:List AV}{v:Value}(h:Rv w U ρ (.agg cs) v):Ag w U ρ cs:=by
 intro j c hc;cases h with
 | agg _ vs hl h1 hr=>
  have hj:j<vs.length:=by have:=(dh.1 hc).1;omega
  exact⟨vs[j],hr j c _ hc (zQ hj)⟩
theorem zfE{w:World}{U:Nat->Prop}{ρ:Nat->Option Value}{s:Sem zl}(h:Ag w U ρ (zq zl s)):RgS s where
 chk:=CI _ λj c hc=>match j,hc with
  |0,hc=>h 8 c hc
  |1,hc=>h 9 c hc
  |2,hc=>h 10 c hc
  |3,hc=>h 11 c hc
  |4,hc=>h 12 c hc
  |5,hc=>h 13 c hc
  |j+6,hc=>by simp[zq]at hc
 whr:=CI _ λj c hc=>match j,hc with
  |0,hc=>h 16 c hc
  |1,hc=>h 17 c hc
  |2,hc=>h 18 c hc
  |3,hc=>h 19 c hc
  |4,hc=>h 20 c hc
  |5,hc=>h 21 c hc
  |j+6,hc=>by simp[zq]at hc
 row:=by
  obtain⟨_,h⟩:=h 14 _ rfl;exact λv hv=>Ub (rV h v hv)
 sets:=by
  obtain⟨_,h⟩:=h 15 _ rfl;intro x hx;have h:=rV h x hx;exact CI _ λj c hc=>match j,hc with
   |0,hc=>h 1 c hc
   |1,hc=>h 2 c hc
   |2,hc=>h 3 c hc
   |3,hc=>h 4 c hc
   |4,hc=>h 5 c hc
   |5,hc=>h 6 c hc
   |j+6,hc=>by simp[zq]at hc
theorem WS{p:Sem zA}{db src:List (Sem zh)}{ok:Bool}(h:Df p db=Q1 (src,ok,())):AN p db=Q1 (p,src,ok,()):=by
 have c1:Nq p db=Q3:=by unfold Nq;rw[h];rfl
 have c2:V9 p db=(src,ok):=by unfold V9;rw[h];rfl
 have e:p=(p.1,p.2.1,p.2.2.1,(p.2.2.2.1.1,p.2.2.2.1.2.1,p.2.2.2.1.2.2.1,p.2.2.2.1.2.2.2.1,p.2.2.2.1.t.1,zm p.2.2.2.1.t.2),p.t):=by rw[zk]
 refine(zH (i:=zfI p db) (t:=t0) (n:=100000000) (outs:=[zA,zh.sl,Sh.bool]) (by
  simp only[zfI,zk,Prod.eta,Q8,c1,c2,if_true];rfl) (y:=((p.1,p.2.1,p.2.2.1,(p.2.2.2.1.1,p.2.2.2.1.2.1,p.2.2.2.1.2.2.1,p.2.2.2.1.2.2.2.1,p.2.2.2.1.t.1,zm p.2.2.2.1.t.2),p.t),src,ok,())) rfl).trans ?_
 rw[<-e]
theorem Nn{x0:List (Sem zh)}{x1:Sem zl}(hx:∀x∈x0,RgR x)(h1:RgS x1):
  ∃(p:Sem zA)(src:List (Sem zh))(ok:Bool),qX x0 x1=Q1 (p,src,ok,())/\(ok=Q3->∃db,cE db p/\src=bE db p/\∀x∈db,Xd x):=by
 obtain⟨db,d1,d2,d3⟩:=UZ x0;obtain⟨s,s1,s2,s3⟩:=UX h1;have hdb:Ge x0=db:=by unfold Ge;rw[d1];rfl
 have hdc:M8 x0=Q3:=by unfold M8;rw[d1];rfl
 have hs:UW x1=s:=by unfold UW;rw[s1];rfl
 have hsc:M5 x1=Q3:=by unfold M5;rw[s1];rfl
 have hwf:∀x∈db,Xd x:=by
  intro x hxm;obtain⟨y,hy,rfl⟩:=d3 x hxm;exact UY (hx y hy)
 have hsh:∀x∈db,gS x:=λx hxm=>(hwf x hxm).short
 have q1:=V8 hwf s3;have hqc:Np db s=Q3:=by unfold Np;rw[q1];rfl
 have hq:V7 db s=((aV db s).2,(aV db s).1):=by unfold V7;rw[q1];rfl
 by_cases h0:(aV db s).1=0
 ·have hP:=V0 hsh h0 s2;have ht:=WS (Wb hsh hP.fnd);generalize(aV db s).2=p at hq hP ht;rw[h0]at hq;have t1:HH p db=Q3:=by unfold HH;rw[ht];rfl
  have t2:M9 p db=(p,bE db p,Q3):=by unfold M9;rw[ht];rfl
  refine⟨p,bE db p,Q3,?_,λ_=>⟨db,hP,rfl,hwf⟩⟩;have e:p=(p.1,p.2.1,p.2.2.1,(p.2.2.2.1.1,p.2.2.2.1.2.1,p.2.2.2.1.2.2.1,p.2.2.2.1.2.2.2.1,p.2.2.2.1.t.1,zm p.2.2.2.1.t.2),p.t):=by rw[zk]
  refine(zH (i:=i7u x0 x1) (t:=t0) (n:=100000000) (outs:=[zA,zh.sl,Sh.bool]) (by
   simp only[i7u,zk,Prod.eta,Q8,hdb,hdc,hs,hsc,hq,hqc,t1,t2,jG,zF,if_true,if_false];rfl) (y:=((p.1,p.2.1,p.2.2.1,(p.2.2.2.1.1,p.2.2.2.1.2.1,p.2.2.2.1.2.2.1,p.2.2.2.1.2.2.2.1,p.2.2.2.1.t.1,zm p.2.2.2.1.t.2),p.t),bE db p,Q3,())) rfl).trans ?_
  rw[<-e]
 ·have hb:((aV db s).1!=0)=Q3:=by simpa using h0
  refine⟨jP,[],Q4,?_,λh=>by cases h⟩;refine zH (i:=i7u x0 x1) (t:=t0) (n:=100000000) (outs:=[zA,zh.sl,Sh.bool]) (r:=(tup [agg [str [],str [],str [],str [],Qb,ai 0,Qb,Qb,str [],ai 0,ai 0,str [],str [],Qb,Qb,ai 0],Qb,kb Q4],[])) ?_ rfl;simp only[i7u,zk,Prod.eta,Q8,hdb,hdc,hs,hsc,hq,hqc,hb,if_true]
theorem cE.uall{db:List (Sem zh)}{p:Sem zA}(h:cE db p):Jc p (bE db p)=Q1 (ez p (bE db p),0,()):=by
 obtain⟨c1,c2⟩:=HS h.go;refine zH (r:=(tup [sl zf (ez p (bE db p)),ai 0],[])) ?_ rfl;simp only[zkZ,zk,Prod.eta,Q8,c1,c2,h.all,jG,zF,if_true,if_false]
theorem zap{l:List (Sem zf)}(v:Sem zf)(hl:l.length<=1000000):PR l v=Q1 (zR (L6 v) l 0,()):=by
 have hs:(zlk l v).val=Q1 (.inl (.h2 l (l.length:Int) ((0:Nat):Int) (v,()))):=rfl
 have hgo:∀k,k<=l.length->(∀x∈l.take k,L6 v x=Q4)->zT RY (k*1) (.h2 l (l.length:Int) ((0:Nat):Int) (v,())) (.h2 l (l.length:Int) (k:Int) (v,())):=λk hk hn=>
  zT.all (t:=RY) 1 (λi=>.h2 l (l.length:Int) (i:Int) (v,())) k λi hi=>zT.of (by
   have hi':i<l.length:=by omega
   have hne:L6 v l[i]=Q4:=hn _ (List.mem_take_iff_getElem.2 ⟨i,ow,rfl⟩);unfold L6 at hne;simp only[RY,Q8,zJ hi',zw hi',if_true,af _ _ hi',hne,zF,if_false];rw[zr i um])
 rcases ii (L6 v) l 0 with⟨h1,h2⟩|⟨k,hk,h1,h2,h3⟩
 ·rw[h1];refine zy hs ((hgo l.length (ae _) (λx hx=>h2 x (List.mem_of_mem_take hx))).ends (zX.of (r:=(.int .i64 (-1),[])) ?_)) ow rfl;simp only[RY,Q8,zC,zF,if_false]
 ·rw[h1];refine zy hs ((hgo k ow h3).ends (zX.of (r:=(.int .i64 (k:Int),[])) ?_)) ow (by rw[jJ];rfl);unfold L6 at h2;simp only[RY,Q8,zJ hk,zw hk,if_true,af _ _ hk,h2]
theorem zao{l:List (Sem zf)}(v:Sem zf)(hl:l.length<=1000000):L0 l v=Q3/\Je l v=l.any (L6 v):=by
 have h:=zap v hl;have c1:WY l v=Q3:=by unfold WY;rw[h];rfl
 have c2:zgU l v=zR (L6 v) l 0:=by unfold zgU;rw[h];rfl
 have hb:Q0 (GE.ge (α:=Int) (zR (L6 v) l 0) 0)=l.any (L6 v):=by rw[iY,xw,List.any_eq_true]
 have:PQ l v=Q1 (l.any (L6 v),()):=by
  refine zH (r:=(.bool (l.any (L6 v)),[])) ?_ rfl;simp only[zld,Q8,c1,c2,if_true];rw[hb]
 exact⟨by unfold L0;rw[this];rfl,by unfold Je;rw[this];rfl⟩
theorem Ws{x:Sem zh}(v:Sem zf)(h:eM x.1=Q3):NI x v=Q3/\Wr x v=zR (λr=>bx r x.1.2.2.1 v) x.2 0:=by
 have:IA x v=Q1 (zR (λr=>bx r x.1.2.2.1 v) x.2 0,()):=by
  refine zH (r:=(.int .i64 (zR (λr=>bx r x.1.2.2.1 v) x.2 0),[])) ?_ rfl;simp only[zlc,zk,Prod.eta,Q8,h,bS,zF,if_false]
 exact⟨by unfold NI;rw[this];rfl,by unfold Wr;rw[this];rfl⟩
theorem Gb{row:List (Sem zf)}{c:Int}{v:Sem zf}(h:zO c row.length=Q3):bx row c v=Q3↔al c row=v:=by
 simp only[zO,aE,aO]at h;unfold bx;rw[zu (show GE.ge (α:=Int) c 0 from h.1),zu (show LT.lt (α:=Int) c (row.length:Int)from h.2),zZ,zZ];exact Br
theorem eC.find{x:Sem zh}(h:eC x){row:List (Sem zf)}(hr:row∈x.2):
  ∃(k:Nat)(hk:k<x.2.length),zR (λr=>bx r x.1.2.2.1 (al x.1.2.2.1 row)) x.2 0=(k:Int)/\x.2[k]=row:=by
 rcases ii (λr=>bx r x.1.2.2.1 (al x.1.2.2.1 row)) x.2 0 with⟨_,h2⟩|⟨k,hk,h1,h2,_⟩
 ·have:=h2 row hr;rw[(Gb (h.keys row hr)).2 rfl]at this;cases this
 ·refine⟨k,hk,by rw[h1,jJ],?_⟩;have e:=(Gb (h.keys _ (bG hk))).1 h2;obtain⟨j,hj,rfl⟩:=g8 hr;by_cases hkj:k=j
  ·subst hkj;rfl
  ·have hp:=List.pairwise_iff_getElem.1 (List.pairwise_map.1 (OQ h.pw));rcases Nat.lt_or_gt_of_ne hkj with hlt|hlt
   ·exact absurd e (hp k j hk hj hlt)
   ·exact absurd e.symm (hp j k hj hk hlt)
section
variable {db:List (Sem zh)} {p:Sem zA}
theorem cE.has(h:cE db p){row:List (Sem zf)}(hr:row∈(nS db p).2)(h0:(al (og p (bE db p)) row).1≠0):al (og p (bE db p)) row∈ez p (bE db p):=by
 refine(h.is _).2 λhn=>?_
 have:=List.filter_eq_nil_iff.1 hn row hr;exact this (HE.2 ⟨rfl,h0⟩)
theorem cE.hasC(h:cE db p)(v:Sem zf):L0 (ez p (bE db p)) v=Q3/\(Je (ez p (bE db p)) v=Q3↔v∈ez p (bE db p)):=by
 have h1:=h.few;have h2:=h.rel.few;obtain⟨a,b⟩:=zao (l:=ez p (bE db p)) v ow;refine⟨a,?_⟩;rw[b,List.any_eq_true];constructor
 ·rintro⟨x,hx,e⟩;rw[Br.1 e];exact hx
 ·intro hv;exact⟨v,hv,Br.2 rfl⟩
noncomputable def Ao(db:List (Sem zh))(p:Sem zA)(v:Sem zf):Sem zf×Int:=
 if p.1=gK then
  let at':=zR (λr=>bx r (nS db p).1.2.2.1 v) (nS db p).2 0
  if LT.lt (α:=Int) at' 0 then((0,0,[]),6)else
   let u:=al p.t.2 (getD (nS db p).2 at'.toNat (zj zf.sl))
   if Je (ez p (bE db p)) u=Q3 then(u,0)else((0,0,[]),6)
 else if Je (ez p (bE db p)) v=Q3 then(v,0)else((0,0,[]),6)
theorem cE.key(h:cE db p)(v:Sem zf):PO p (bE db p) v=Q1 ((Ao db p v).1,(Ao db p v).2,()):=by
 obtain⟨c1,c2⟩:=HS h.go;have hlen:zO 0 (bE db p).length=Q3:=zw (i:=0) (Bp h.go.two).1;have hfr:getD (bE db p) (toNat 0) (zj zh)=nS db p:=rfl;obtain⟨f1,f2⟩:=Ws (x:=nS db p) v h.rel.may;by_cases hj:p.1=gK
 ·have hb:(p.1==gK)=Q3:=by simpa using hj
  have hon:og p (bE db p)=p.t.2:=by
   unfold og;rw[if_neg (by rw[hj];decide),if_pos hj]
  unfold Ao;rw[if_pos hj];by_cases hn:LT.lt (α:=Int) (zR (λr=>bx r (nS db p).1.2.2.1 v) (nS db p).2 0) 0
  ·simp only[if_pos hn];refine zH (r:=(tup [agg [ai 0,ai 0,str []],ai 6],[])) ?_ rfl;simp only[Rg,zk,Prod.eta,Q8,c1,c2,hb,hlen,hfr,f1,f2,jG,zF,if_true,if_false];rw[if_pos (zu hn)]
  ·simp only[if_neg hn];rcases fU (λr=>bx r (nS db p).1.2.2.1 v) (nS db p).2 0 with e|⟨e1,e2⟩
   ·rw[e]at hn;omega
   ·obtain⟨k,hk⟩:∃k:Nat,zR (λr=>bx r (nS db p).1.2.2.1 v) (nS db p).2 0=(k:Int):=⟨_,(Int.toNat_of_nonneg e1).symm⟩;rw[hk]at hn e2 f2⊢;have hk':k<(nS db p).2.length:=by omega
    have hin:=(h.inn _ (bG hk')).1;rw[hon]at hin;obtain⟨g1,g2⟩:=h.hasC (al p.t.2 (nS db p).2[k]);have e3:Q0 ((k:Int)<0)=Q4:=by simp
    rw[af _ _ hk'];by_cases hv:Je (ez p (bE db p)) (al p.t.2 (nS db p).2[k])=Q3
    ·rw[if_pos hv];refine zH (r:=(tup [agg [ai (al p.t.2 (nS db p).2[k]).1,ai (al p.t.2 (nS db p).2[k]).2.1,str (al p.t.2 (nS db p).2[k]).2.2],ai 0],[])) ?_ rfl;simp only[Rg,zk,Prod.eta,Q8,c1,c2,hb,hlen,hfr,f1,f2,e3,zw hk',af _ _ hk',hin,h.all,g1,hv,jG,bS,zF,if_true,if_false]
    ·rw[if_neg hv];have hv':=Bool.eq_false_iff.2 hv;refine zH (r:=(tup [agg [ai 0,ai 0,str []],ai 6],[])) ?_ rfl;simp only[Rg,zk,Prod.eta,Q8,c1,c2,hb,hlen,hfr,f1,f2,e3,zw hk',af _ _ hk',hin,h.all,g1,hv',jG,cX,zF,if_true,if_false]
 ·have hb:(p.1==gK)=Q4:=by simpa using hj
  unfold Ao;rw[if_neg hj];obtain⟨g1,g2⟩:=h.hasC v;by_cases hv:Je (ez p (bE db p)) v=Q3
  ·rw[if_pos hv];refine zH (r:=(tup [agg [ai v.1,ai v.2.1,str v.2.2],ai 0],[])) ?_ rfl;simp only[Rg,zk,Prod.eta,Q8,c1,c2,hb,h.all,g1,hv,jG,bS,zF,if_true,if_false]
  ·rw[if_neg hv];have hv':=Bool.eq_false_iff.2 hv;refine zH (r:=(tup [agg [ai 0,ai 0,str []],ai 6],[])) ?_ rfl;simp only[Rg,zk,Prod.eta,Q8,c1,c2,hb,h.all,g1,hv',jG,cX,zF,if_true,if_false]
end
section
variable {db:List (Sem zh)} {p:Sem zA}
theorem Zw(h:cE db p)(v:Sem zf)(h0:(Ao db p v).2=0):(Ao db p v).1∈ez p (bE db p):=by
 revert h0;unfold Ao;split
 ·dsimp only
  split
  ·intro h0;cases h0
  ·split
   ·rename_i hv;intro _;exact(h.hasC _).2.1 hv
   ·intro h0;cases h0
 ·split
  ·rename_i hv;intro _;exact(h.hasC _).2.1 hv
  ·intro h0;cases h0
noncomputable def qA(db:List (Sem zh))(p:Sem zA)(e:ze):List (Sem zf):=
 if(dj p e).2=Q3 then(if((Ao db p (dj p e).1).2!=0)=Q3 then[]else[(Ao db p (dj p e).1).1])else ez p (bE db p)
theorem LW(h:cE db p)(e:ze):AF p (bE db p) e=Q3/\Hd p (bE db p) e=(qA db p e,0):=by
 obtain⟨c1,c2⟩:=HS h.go;have ha:=h.uall;have a1:N1 p (bE db p)=Q3:=by unfold N1;rw[ha];rfl
 have a2:WV p (bE db p)=(ez p (bE db p),0):=by unfold WV;rw[ha];rfl
 have hk:=h.key (dj p e).1;have k1:WW p (bE db p) (dj p e).1=Q3:=by unfold WW;rw[hk];rfl
 have k2:zgT p (bE db p) (dj p e).1=Ao db p (dj p e).1:=by unfold zgT;rw[hk];rfl
 have ho:AG p (bE db p) e=Q1 (qA db p e,0,()):=by
  unfold qA;cases hq:(dj p e).2
  ·rw[if_neg sw];refine zH (r:=(tup [sl zf (ez p (bE db p)),ai 0],[])) ?_ rfl;simp only[Zg,zk,Prod.eta,Q8,c1,c2,AA,hq,a1,a2,jG,cX,zF,if_true,if_false]
  ·rw[if_pos rfl];cases hz:(Ao db p (dj p e).1).2!=0
   ·rw[if_neg sw];refine zH (r:=(tup [sl zf [(Ao db p (dj p e).1).1],ai 0],[])) ?_ rfl;simp only[Zg,zk,Prod.eta,Q8,c1,c2,AA,hq,k1,k2,hz,jG,bS,zF,if_true,if_false]
   ·rw[if_pos rfl];refine zH (r:=(tup [Qb,ai 0],[])) ?_ rfl;simp only[Zg,zk,Prod.eta,Q8,c1,c2,AA,hq,k1,k2,hz,jG,bS,zF,if_true,if_false]
 exact⟨by unfold AF;rw[ho];rfl,by unfold Hd;rw[ho];rfl⟩
theorem WX{e:ze}(h:(dj p e).2=Q3):(qA db p e).length<=1:=by
 unfold qA;rw[if_pos h];split<;>simp
theorem LY{e:ze}(h:(dj p e).2=Q4):qA db p e=ez p (bE db p):=by
 unfold qA;rw[if_neg (by rw[h];simp)]
theorem PP(h:cE db p)(e:ze):(qA db p e).length<=(ez p (bE db p)).length:=by
 unfold qA;split
 ·split
  ·simp
  ·rename_i hz;have:=List.length_pos_of_mem (Zw h (dj p e).1 (by simpa using hz));rw[List.length_singleton];omega
 ·exact ae _
theorem Qo{e g:ze}(h1:(dj p e).2=Q3)(h2:(dj p (.mk cY (0,0,[]) [] [e,g])).2=Q3):dj p (.mk cY (0,0,[]) [] [e,g])=dj p e:=by
 unfold dj at h1 h2⊢;cases n1:up p e
 ·cases n2:up p (.mk cY (0,0,[]) [] [e,g])
  ·rw[n1,aq]at h1;rw[aq,aq];have hm:¬up p (.mk cY (0,0,[]) [] [e,g])=Q3:=by rw[n2];simp
   rw[qI]at hm;simp only[not_or,Bool.not_eq_false]at hm;obtain⟨ge,gg⟩:=SZ hm.2.2;have hp:jn 20 (.mk cY (0,0,[]) [] [e,g])=jn 19 e++jn 19 g:=by
    conv=>lhs;unfold jn
    rw[if_pos (show(ze.mk cY (0,0,[]) [] [e,g]).op=cY from rfl)];rfl
   rw[hp,Cy,pY 19 20 e ow (nT 11 e 19 ow ge),if_pos h1]
  ·rw[n2,zZ]at h2;cases h2
 ·rw[n1,zZ]at h1;cases h1
end
theorem JK:AE=Q1 (Q3,()):=zH (i:=i8v) (r:=(.bool Q3,[])) rfl rfl
theorem ux:AD=Q3/\BV=Q3:=⟨by unfold AD;rw[JK];rfl,by unfold BV;rw[JK];rfl⟩
abbrev oF:Sh:=.pr (.sl zh) (.pr zl (.pr .expr .expr))
theorem ZB{x:Sem oF}(hx:∀r∈x.1,RgR r)(h1:RgS x.2.1):HG x=Q1 (Q3,()):=by
 obtain⟨p,src,ok,h,hok⟩:=Nn hx h1;have hc:xz x.1 x.2.1=Q3:=by unfold xz;rw[h];rfl
 have hp:CR x.1 x.2.1=(p,src,ok):=by unfold CR;rw[h];rfl
 refine zH (r:=(.bool Q3,[])) ?_ rfl;simp only[i4v,zk,Prod.eta,Q8,hc,hp,if_true];generalize fK x.2.2.1=e;generalize fK x.2.2.2=g;cases ok with
 |false=>simp only[cX,zZ,if_true,ux.2]
 | true=>
  obtain⟨db,hP,rfl,_⟩:=hok rfl;simp only[bS,aq];by_cases ho:(bif e.op==[]then Q3 else g.op==[])=Q3
  ·rw[if_pos ho,ux.2]
  ·rw[if_neg ho];obtain⟨u1,u2⟩:=LW hP e;obtain⟨b1,b2⟩:=LW hP (.mk cY (0,0,[]) [] [e,g]);simp only[u1,u2,b1,b2,AA,jG,aq,if_true,ux.1,ux.2];have hB:=PP hP (.mk cY (0,0,[]) [] [e,g]);have hE:=PP hP e;cases h1:(dj p e).2
   ·rw[LY h1];have d1:Q0 (((qA db p (.mk cY (0,0,[]) [] [e,g])).length:Int)<=((ez p (bE db p)).length:Int))=Q3:=by simpa using hB
    simp only[aq,zF,if_false,d1,zZ,if_true]
   ·have h3:=WX (db:=db) h1;have d0:Q0 (((qA db p e).length:Int)>1)=Q4:=by simp;omega
    cases h2:(dj p (.mk cY (0,0,[]) [] [e,g])).2
    ·rw[LY h2];have d1:Q0 (((ez p (bE db p)).length:Int)>=((qA db p e).length:Int))=Q3:=by simpa using hE
     simp only[zZ,d0,zF,if_false,cX,if_true,d1]
    ·have e1:qA db p (.mk cY (0,0,[]) [] [e,g])=qA db p e:=by
      unfold qA;rw[Qo h1 h2]
     rw[e1];have d1:Q0 (((qA db p e).length:Int)<=((qA db p e).length:Int))=Q3:=by simp
     simp only[zZ,d0,zF,if_false,bS,if_true,d1]
section
variable {w:World} {U:Nat->Prop} {ρ:Nat->Option Value} {a b:List AV}
theorem Ua(h:Ag w U ρ (a++b)):Ag w U ρ a:=λj c hc=>h j c (by rw[mG (dh.1 hc).1];exact hc)
theorem Zf(h:Ag w U ρ (a++b)):Ag w U ρ b:=λj c hc=>h (a.length+j) c (by rw[nG ow,Nat.add_sub_cancel_left];exact hc)
end
theorem U7(x:zx ([oF].map Q1)){W:World}{vs:List Value}(hr:du W U0 iQ (jx ([oF].map Q1) x) vs):(F4v (jx ([oF].map Q1) x) (λ_=>.dead) 0).val=Q1 {val:=.bool Q3}:=by
 obtain⟨a,u⟩:=x;have hr:du W U0 iQ [zz oF a] vs:=hr;have hl:=hr.len;obtain⟨v0,h0⟩:∃v,Rv W U0 iQ (zz oF a) v:=⟨_,hr.rv 0 _ _ rfl (zQ (by rw[<-hl];simp))⟩;have hh:Ag W U0 iQ (zq (.sl zh) a.1++(zq zl a.2.1++(zq .expr a.2.2.1++zq .expr a.2.2.2))):=SK h0;obtain⟨_,hd⟩:=Ua hh 0 _ rfl;have e:a=(a.1,(a.2.1.1,a.2.1.2.1,a.2.1.2.2.1,a.2.1.2.2.2.1,a.2.1.t.1,a.2.1.t.2.1,a.2.1.t.q.1,a.2.1.t.q.2.1,zm a.2.1.t.t.1,a.2.1.t.t.2.1,a.2.1.t.t.q.1,zm a.2.1.t.t.q.2.1,a.2.1.t.t.t),zm a.2.2.1,zm a.2.2.2):=by rw[zk,zk,zk,zk]
 have h:(F4v [zz oF a] (λ_=>.dead) 0).val=(chk (HG (a.1,(a.2.1.1,a.2.1.2.1,a.2.1.2.2.1,a.2.1.2.2.2.1,a.2.1.t.1,a.2.1.t.2.1,a.2.1.t.q.1,a.2.1.t.q.2.1,zm a.2.1.t.t.1,a.2.1.t.t.2.1,a.2.1.t.t.q.1,zm a.2.1.t.t.q.2.1,a.2.1.t.t.t),zm a.2.2.1,zm a.2.2.2)).isSome (Tr.ok ({val:=.bool ((HG (a.1,(a.2.1.1,a.2.1.2.1,a.2.1.2.2.1,a.2.1.2.2.2.1,a.2.1.t.1,a.2.1.t.2.1,a.2.1.t.q.1,a.2.1.t.q.2.1,zm a.2.1.t.t.1,a.2.1.t.t.2.1,a.2.1.t.t.q.1,zm a.2.1.t.t.q.2.1,a.2.1.t.t.t),zm a.2.2.1,zm a.2.2.2)).getD (cm [.bool])).1}:fT))).val:=by kernel_rfl
 show(F4v [zz oF a] (λ_=>.dead) 0).val=_;rw[h,<-e,ZB (rV hd · · |>zfD) (zfE (Ua (Zf hh)))];rfl
end Cad
