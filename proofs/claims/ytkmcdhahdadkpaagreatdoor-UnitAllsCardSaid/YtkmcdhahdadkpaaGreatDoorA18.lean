/- A plan's sources, as they are taken: a base that may be. Plans: over a plan's own sources the plan is the same. -/
import Derived.Test.YtkmcdhahdadkpaaGreatDoorA14
import Derived.Test.YtkmcdhahdadkpaaGreatDoorA16
import Derived.Test.YtkmcdhahdadkpaaGreatDoorA17
import Derived.Test.YtkmcdhahdadkpaaGreatDoorA13
import Derived.RangeFuncBox
import Derived.RangeFuncNested
import Derived.RangeFuncBound
import Derived.RangeFuncCalls
import Derived.RangeFuncLeaves
import Derived.Shelf.Abstract
import Derived.WalkKit
import Derived.OwnWalkIn
import Derived.TacticsInMore
import Derived.LoopNIn
import Derived.LoopIn
import Derived.Maps.AppendAt
import Derived.Test.YtkmcdhahdadkpaaGreatDoorProg
import Derived.Test.YtkmcdhahdadkpaaGreatDoorA08
namespace Cad
open Go Go.Proofs
open Bool renaming true→Q3
open Option renaming none→Q2
open Option renaming some→Q1
set_option maxHeartbeats 4000000
open Tr (chk br re)
open AV (nils agg tup ptr kb str sl)
theorem eF{α:Type}(p:α->Bool):∀(l:List α)(i:Nat),(zW p l i=-1/\∀x∈l,p x=false)\/∃(k:Nat)(h:k<l.length),zW p l i=((i+k:Nat):Int)/\p l[k]=Q3/\∀x∈l.take k,p x=false
 |[],_=>.inl ⟨rfl,sw⟩
 | x::r,i=>by
  unfold zW;split
  ·rename_i h;exact .inr ⟨0,sw,rfl,h,sw⟩
  ·rename_i h;have hx:p x=false:=by simpa using h
   rcases eF p r (i+1)with⟨h1,h2⟩|⟨k,hk,h1,h2,h3⟩
   ·refine .inl ⟨h1,λy hy=>?_⟩;rcases cu.1 hy with rfl|hy
    ·exact hx
    ·exact h2 y hy
   ·refine .inr ⟨k+1,by simpa using hk,by rw[h1];congr 1;omega,by simpa using h2,λy hy=>?_⟩;rw[List.take_succ_cons]at hy;rcases cu.1 hy with rfl|hy
    ·exact hx
    ·exact h3 y hy
theorem Ll{db:List (Sem zh)}{n:zD}{x:Sem zh}{i:Nat}(h:zX db n=(i:Int))(hx:db.getD i (zi zh)=x):x.1.1=n:=by
 rcases eF (λy:Sem zh=>y.1.1==n) db 0 with⟨q,_⟩|⟨k,hk,q1,q2,_⟩
 ·exfalso;have h':zW (λy:Sem zh=>y.1.1==n) db 0=(i:Int):=h;rw[q]at h';omega
 ·have h':zW (λy:Sem zh=>y.1.1==n) db 0=(i:Int):=h;rw[q1]at h';obtain rfl:k=i:=by omega
  rw[bc,zS hk,dw]at hx;subst hx;simpa using q2
def KX(p:zD->Bool)(t:Sem zo):Sem zo:=(t.1,t.2.1,t.2.2.1,t.2.2.2.1,t.t.1.filter (λf:Sem zu=>p f.2),t.t.2)
def kE(p:zD->Bool)(x:Sem zh):Sem zh:=(KX p x.1,x.2)
theorem Ns{p:zD->Bool}{t:Sem zo}(h:eD t=Q3):eD (KX p t)=Q3:=by
 have h:=(lm t).1 h;exact(lm _).2 ⟨h.name,h.n1,h.n8,h.cols,h.uniq,λf hf=>h.refs f (List.mem_filter.1 hf).1,h.key,h.nn,h.chk⟩
theorem EZ{t:Sem zo}{p:zD->Bool}{row:List (Sem ze)}:∀(r:List (Sem ze))(i:Int),ez (KX p t) row r i=ez t row r i
 |[],_=>by rw[ez,ez];rfl
 |x::r,i=>by rw[ez,ez,EZ r];rfl
theorem I7{t:Sem zo}{p:zD->Bool}{row:List (Sem ze)}:∀(r:List (Sem ze))(i:Int),fZ (KX p t) row r i=fZ t row r i
 |[],_=>by rw[fZ,fZ,EZ]
 |x::r,i=>by rw[fZ,fZ,I7 r]
theorem R9{p:zD->Bool}{t:Sem zo}(h:eD t=Q3)(r:List (Sem ze)):eb (KX p t) r=eb t r:=by
 unfold eb;rw[h,Ns h,I7];rfl
theorem eh.cut{p:zD->Bool}{x:Sem zh}(h:eh x):eh (kE p x) where
 may:=Ns h.may
 few:=h.few
 fits:=λr hr=>by
  show eb (KX p x.1) r=0;rw[R9 h.may];exact h.fits r hr
 key:=h.key
 uniq:=h.uniq
 rise:=h.rise
theorem Ti{db:List (Sem zh)}(hB:iU db){x y:Sem zh}(hx:x∈db)(hy:y∈db)(h:x.1.1=y.1.1):x=y:=by
 have hpw:db.Pairwise λx y:Sem zh=>Op.bytesLess x.1.1 y.1.1=Q3:=(uO (R:=λx y:Sem zh=>Op.bytesLess x.1.1 y.1.1=Q3) gG).1 hB.names
 obtain⟨i,hi,rfl⟩:=fW hx;obtain⟨j,hj,rfl⟩:=fW hy;rcases Nat.lt_trichotomy i j with g|g|g
 ·have:=List.pairwise_iff_getElem.1 hpw i j hi hj g;rw[h,bN]at this;cases this
 ·subst g;rfl
 ·have:=List.pairwise_iff_getElem.1 hpw j i hj hi g;rw[h,bN]at this;cases this
theorem md{db:List (Sem zh)}{n:zD}(h:LE.le (α:=Int) 0 (zX db n)):aB db n∈db/\(aB db n).1.1=n:=
 ⟨mC h,Ll (i:=Int.toNat (zX db n)) (Int.toNat_of_nonneg h).symm rfl⟩
theorem iU.src{db db':List (Sem zh)}{p:zD->Bool}(hB:iU db)(h1:db'.length<=12)(h2:db'.Pairwise λx y:Sem zh=>Op.bytesLess x.1.1 y.1.1=Q3)(h3:∀y∈db',∃x∈db,y=kE p x)(h4:∀n,p n=Q3->LE.le (α:=Int) 0 (zX db' n)):iU db' where
 few:=h1
 names:=(uO (R:=λx y:Sem zh=>Op.bytesLess x.1.1 y.1.1=Q3) gG).2 h2
 rels:=λy hy=>by
  obtain⟨x,hx,rfl⟩:=h3 y hy;exact(hB.rels x hx).cut
 bound:=λy hy f hf=>by
  obtain⟨x,hx,rfl⟩:=h3 y hy;obtain⟨hf1,hf2⟩:=List.mem_filter.1 hf;have hn:=h4 f.2 hf2;refine⟨hn,λrow hr hv=>?_⟩;obtain⟨k1,k2⟩:=hB.bound x hx f hf1;have k3:=k2 row hr hv;obtain⟨m1,m2⟩:=md hn;obtain⟨z,hz,e⟩:=h3 _ m1;obtain⟨n1,n2⟩:=md k1;have hzz:z=aB db f.2:=Ti hB hz n1 (by rw[n2];rw[e]at m2;exact m2);rw[e,hzz];exact k3
structure iN (ns:List zD) (t t':Sem zo):Prop where
 cols:t'.2.1=t.2.1
 key:t'.2.2.1=t.2.2.1
 refs:∀f:Sem zu,f.2∈ns->(f∈t'.t.1↔f∈t.t.1)
section
variable {ns:List zD} {t t':Sem zo}
theorem iN.place(h:iN ns t t'):zT t'=zT t:=funext λn=>by unfold zT;rw[h.cols]
theorem iN.plc(h:iN ns t t')(l:List zD):gq t' l=gq t l:=by unfold gq;rw[h.place]
theorem iN.ix(h:iN ns t t')(l:List zD):kP t' l=kP t l:=by unfold kP;rw[h.place]
theorem iN.cs(h:iN ns t t')(l:List zD):gz t' l=gz t l:=by unfold gz;rw[h.place,h.cols]
theorem iN.cpy(h:iN ns t t')(l:List zD):vJ t' l=vJ t l:=by unfold vJ;rw[h.plc,h.ix,h.key]
theorem iN.grp(h:iN ns t t')(l:List zD):sJ t' l=sJ t l/\DP t' l=DP t l:=by unfold sJ DP;rw[h.plc,h.cs];exact⟨rfl,rfl⟩
theorem iN.join(h:iN ns t t'){u u':Sem zo}(hu:iN ns u u'){k w:zD}(hw:w∈ns):g7 t' u' k w=g7 t u k w:=by
 have:jR t'.t.1 (zT t k,w)=jR t.t.1 (zT t k,w):=by
  rw[ip,sK,sK];exact h.refs (zT t k,w) hw
 unfold g7;rw[h.place,this,h.cols,hu.cols]
theorem iN.oth(h:iN ns t t')(n:Nat):gB t' n=gB t n:=by unfold gB;rw[h.key,h.cols]
end
abbrev dL(s:Sem zl):zD:=s.t.t.t
theorem Nf{db:List (Sem zh)}{x:Sem zh}(hx:x∈db):LE.le (α:=Int) 0 (zX db x.1.1):=by
 rcases eF (λy:Sem zh=>y.1.1==x.1.1) db 0 with⟨_,h1⟩|⟨k,_,h1,_⟩
 ·have:=h1 x hx;simp at this
 ·have h1:zX db x.1.1=((0+k:Nat):Int):=h1;rw[h1];exact Int.natCast_nonneg _
theorem T4{db db':List (Sem zh)}{s:Sem zl}(hp:(aW db s).1=0)(hc:kC db'=(0:Int))(hf:∀n∈bH s.2.2.1 (dL s),LE.le (α:=Int) 0 (zX db' n)/\iN (bH s.2.2.1 (dL s)) (az db n) (az db' n))
  (hall:∀x∈db',x.1.1∈bH s.2.2.1 (dL s)/\∃y∈db,(y:Sem zh).1.1=x.1.1) (hw:s.1=[106,111,105,110]->dL s≠[]):aW db' s=aW db s/\aW db s=dj db s:=by
 unfold aW at hp;split at hp
 case isFalse=>cases hp
 rename_i hm;split at hp
 case isFalse h=>exact absurd hp h
 rename_i h0;have hask:aW db s=dj db s:=by unfold aW;rw[if_pos hm,if_pos h0]
 refine⟨?_,hask⟩;rw[hask];have hsrc:nX db' s.2.2.1 (dL s) s.2.1=0:=by
  unfold nX at h0⊢;split at h0
  case isFalse=>cases h0
  rw[if_pos λn hn=>(hf n hn).1];split at h0
  case isTrue=>cases h0
  rename_i h2;have h3:¬(decide (GE.ge (α:=Int) (zX db' s.2.1) 0)||s.2.2.1==dL s)=Q3:=by
   intro h4;apply h2;rcases(mo _ _).mp h4 with h4|h4
   ·have h5:LE.le (α:=Int) 0 (zX db' s.2.1):=lC h4;obtain⟨m1,m2⟩:=md h5;obtain⟨_,y,hy,e⟩:=hall _ m1;have:=Nf hy;rw[e,m2]at this;rw[mo];exact .inl (zx this)
   ·rw[mo];exact .inr h4
  rw[if_neg h3,if_neg];unfold dO;intro h4;obtain⟨x,hx,h5⟩:=List.any_eq_true.1 h4;rw[(kN _ _).2 (hall x hx).1]at h5;simp at h5
 have hfrom:s.2.2.1∈bH s.2.2.1 (dL s):=by unfold bH;split<;>simp
 have ha:=(hf _ hfrom).2;unfold aW;rw[if_pos ⟨hm.1,hm.2.1,hc⟩,if_pos hsrc];unfold dj;by_cases o1:(s.1==[99,111,112,121])=Q3
 ·rw[if_pos o1,if_pos o1,ha.cpy,ha.cs,ha.ix,ha.key]
 rw[if_neg o1,if_neg o1];by_cases o2:(s.1==[106,111,105,110])=Q3
 ·have hr:=hw (bC o2);have hwi:dL s∈bH s.2.2.1 (dL s):=by
   unfold bH;rw[if_neg (by simpa using hr)];simp
  have hb:=(hf _ hwi).2;have e1:gh db' (dL s)=az db' (dL s):=by unfold gh;rw[if_neg hr]
  have e2:gh db (dL s)=az db (dL s):=by unfold gh;rw[if_neg hr]
  rw[if_pos o2,if_pos o2,e1,e2,ha.join hb hwi,ha.cols,ha.key,ha.place,hb.cols,hb.key,hb.oth]
 rw[if_neg o2,if_neg o2,(ha.grp _).1,(ha.grp _).2,ha.ix]
theorem FZ{g c b:Bool}(h:(g&&(bif c then b else false))=Q3):b=Q3:=by
 cases g<;>cases c<;>simp_all
theorem Xb{s:Sem zl}(h:fh s=Q3)(sh:l5 s)(ho:jC s.1):
  s.t.1=[]/\s.t.q.1=[]/\s.t.q.2.1=[]/\s.t.t.2.1=[]/\s.t.t.q.1=[]/\s.t.t.q.2.1=dn/\(if s.1=[106,111,105,110]then s.2.2.2.1=[]else s.t.2.1=[]/\dL s=[]):=by
 obtain⟨o,s2,s3,s4,s5,s6,s7,s8,s9,s10,uP,s12,s13⟩:=s;have n4:=sh.names.1;have n5:=sh.cols.1;have n7:=sh.uniques.1;have n8:=sh.refs.1;have n10:=sh.row;have n11:=sh.sets.1;simp only at n4 n5 n7 n8 n10 n11;rcases ho with rfl|rfl|rfl
 ·obtain⟨_,hp⟩:=eC (s:=([99,111,112,121],s2,s3,s4,s5,s6,s7,s8,s9,s10,uP,s12,s13)) (g:=_) (b:=_) rfl;rw[hp]at h;have h:=FZ h;obtain⟨_,_,k3,k4,_,k6,k7,k8,k9,k10,_,k12⟩:=(jh sw sg sg sg sg sg).1 h;exact⟨k6,k7,k8,k9,k10,(zf.eta _).symm.trans k12,by rw[if_neg (λh=>by simp at h)];exact⟨k3,k4⟩⟩
 ·obtain⟨_,hp⟩:=eC (s:=([106,111,105,110],s2,s3,s4,s5,s6,s7,s8,s9,s10,uP,s12,s13)) (g:=_) (b:=_) rfl;rw[hp]at h;have h:=FZ h;obtain⟨_,_,k3,k4,k5,k6,k7,k8,k9,k10,_,k12⟩:=(jh sg sg sg sg sg sg).1 h;exact⟨k6,k7,k8,k9,k10,(zf.eta _).symm.trans k12,by rw[if_pos rfl];exact k5⟩
 ·obtain⟨_,hp⟩:=eC (s:=([103,114,111,117,112],s2,s3,s4,s5,s6,s7,s8,s9,s10,uP,s12,s13)) (g:=_) (b:=_) rfl;rw[hp]at h;have h:=FZ h;obtain⟨_,_,k3,k4,_,k6,k7,k8,k9,k10,_,k12⟩:=(jh sw sg sg sg sg sg).1 h;exact⟨k6,k7,k8,k9,k10,(zf.eta _).symm.trans k12,by rw[if_neg (λh=>by simp at h)];exact⟨k3,k4⟩⟩
theorem jd{t:Sem zo}{n:zD}(h:¬LT.lt (α:=Int) (zT t n) 0):(List.getD t.2.1 (Int.toNat (zT t n)) (zi zj)).1=n/\LT.lt (α:=Int) (zT t n) (List.length t.2.1):=by
 have e:zT t n=zW (λc:Sem zj=>c.1==n) t.2.1 0:=rfl;rcases eF (λc:Sem zj=>c.1==n) t.2.1 0 with⟨h1,_⟩|⟨k,hk,h1,h2,_⟩
 ·rw[e,h1]at h;exact absurd (by decide:(-1:Int)<0) h
 ·rw[e,h1,eX];refine⟨?_,Int.ofNat_lt.2 hk⟩;rw[cF _ _ hk];exact bC h2
def iT(p:Sem zr)(src:List (Sem zh)):Sem zl:=
 (p.1,p.2.2.2.1.1,p.2.1,if p.1=[106,111,105,110]then[]else p.2.2.2.1.2.1.map λc:Sem zj=>c.1,[],
  if p.1=[106,111,105,110]then(if LE.le (α:=Int) 0 p.t.2/\LT.lt (α:=Int) p.t.2 (List.length (src.getD 0 (zi zh)).1.2.1)then(List.getD (src.getD 0 (zi zh)).1.2.1 (Int.toNat p.t.2) (zi zj)).1 else[])else[],
  [],[],p.2.2.2.1.t.2,[],[],dn,p.2.2.1)
theorem Ce{t:Sem zo}{l:List zD}(h:gq t l=0):∀s∈l,¬LT.lt (α:=Int) (zT t s) 0:=by
 unfold gq at h;split at h
 ·assumption
 ·cases h
theorem xA{t:Sem zo}:∀{l:List zD},(∀s∈l,¬LT.lt (α:=Int) (zT t s) 0)->(gz t l).map (λc:Sem zj=>c.1)=l
 |[],_=>rfl
 | s::r,h=>by
  show(List.getD t.2.1 (Int.toNat (zT t s)) (zi zj)).1::(gz t r).map (λc:Sem zj=>c.1)=s::r;rw[(jd (h s sw)).1,xA λx hx=>h x (by simp[hx])]
theorem lK{e:Int}{p:Sem zr}(h:(jB e p).1=0):e=0/\jB e p=(0,p):=by
 unfold jB at h⊢;split at h
 ·rename_i h1;split at h
  ·rename_i h2;rw[if_pos h1,if_pos h2];exact⟨h1,rfl⟩
  ·rename_i h2;exact absurd h h2
 ·rename_i h1;exact absurd h h1
theorem PX{db:List (Sem zh)}{s:Sem zl}{src:List (Sem zh)}(hp:(dj db s).1=0)(hm:jC s.1)(hs:fh s=Q3)(sh:l5 s)(hc:(src.getD 0 (zi zh)).1.2.1=(az db s.2.2.1).2.1):iT (dj db s).2 src=s:=by
 obtain⟨n1,n2,n3,n4,n5,n6,n7⟩:=Xb hs sh hm;obtain⟨o,s2,s3,s4,s5,s6,s7,s8,s9,s10,uP,s12,s13⟩:=s;simp only at n1 n2 n3 n4 n5 n6 n7 hc;subst n1 n2 n3 n4 n5 n6;rcases hm with rfl|rfl|rfl
 ·rw[if_neg (λh=>by simp at h)]at n7;obtain⟨rfl,n8⟩:=n7;have n8:s13=[]:=n8;subst n8;unfold dj at hp⊢
  dsimp only at hp⊢
  rw[if_pos (show(([99,111,112,121]:zD)==[99,111,112,121])=Q3 from rfl)]at hp⊢;obtain⟨he,hf⟩:=lK hp;rw[hf];have hq:=Ce (by
   unfold vJ at he;split at he
   ·assumption
   ·rename_i h1;exact absurd he h1)
  unfold iT;simp only;rw[if_neg (λh=>by simp at h),if_neg (λh=>by simp at h),xA hq]
 ·rw[if_pos rfl]at n7;subst n7;unfold dj at hp⊢
  dsimp only at hp⊢
  rw[if_neg (show¬(([106,111,105,110]:zD)==[99,111,112,121])=Q3 by decide),if_pos (show(([106,111,105,110]:zD)==[106,111,105,110])=Q3 from rfl)]at hp⊢;obtain⟨he,hf⟩:=lK hp;rw[hf];have hq:¬LT.lt (α:=Int) (zT (az db s3) s6) 0:=by
   intro h;unfold g7 at he;rw[if_pos h]at he;cases he
  obtain⟨q1,q2⟩:=jd hq;unfold iT;simp only;rw[if_pos trivial,if_pos trivial,hc,if_pos ⟨Int.not_lt.1 hq,q2⟩,q1]
 ·rw[if_neg (λh=>by simp at h)]at n7;obtain⟨rfl,n8⟩:=n7;have n8:s13=[]:=n8;subst n8;have hl:=lL hs rfl;simp only at hl;unfold dj at hp⊢
  dsimp only at hp⊢
  rw[if_neg (show¬(([103,114,111,117,112]:zD)==[99,111,112,121])=Q3 by decide),if_neg (show¬(([103,114,111,117,112]:zD)==[106,111,105,110])=Q3 by decide),if_pos (show(([103,114,111,117,112]:zD)==[103,114,111,117,112])=Q3 from rfl)]at hp⊢;obtain⟨he,hf⟩:=lK hp;rw[hf];have hq:=Ce (by
   unfold sJ at he;split at he
   ·assumption
   ·rename_i h1;exact absurd he h1)
  match s4,hl,hq with
  |[a,b],_,hq=>
  unfold iT;simp only;rw[if_neg (λh=>by simp at h),if_neg (λh=>by simp at h)];have e1:=(jd (hq a sw)).1;have e2:=(jd (hq b sw)).1;show([103,114,111,117,112],s2,s3,[(List.getD (az db s3).2.1 (Int.toNat (zT (az db s3) a)) (zi zj)).1,(List.getD (az db s3).2.1 (Int.toNat (zT (az db s3) b)) (zi zj)).1],_)=_;rw[e1,e2]
end Cad
namespace Go.Proofs
open Cad (Ec aA be cD fj iO jx oD ol om xu)
open Go.RowKit Go.Shelf
open Bool renaming true→Q3
open Option renaming none→Q2
open Option renaming some→Q1
attribute [local go_sem] Oper.semAt_some
abbrev R12:={l:List Value//l.length=12/\∀v∈l,v.oneCell'=Q3}
theorem run_store_one(v:Value)(h:v.oneCell'=Q3)(w:World)(a:Addr)(hc:(w.cell? a).isSome=Q3)(hf:w.frozen? a=false):Sem.run Tryz.prog (store a v) w=.ok () (w.setCell a v):=by
 obtain⟨u,hu⟩:=Option.isSome_iff_exists.1 hc;unfold store;cases v<;>first|(simp[Value.oneCell']at h;done)|simp[Sem.run,hu,hf]
set_option maxRecDepth 100000 in
set_option maxHeartbeats 2000000 in
theorem Tryz.values1_in(F:Fence)(n:Nat)(h7:F.fn 93)(hro:F.round=Q2)(hn:1<=n)(l Bs n₀ b off cap:Nat)(zs:List R12)(hreach:zs.length<=1000)(hb:b<n₀)(J Jx:List R12->World->Prop)(W:World)(hn₀:n₀<=W.heap.size)(hJ:AbidesFrom W.heap.size J)
  (hY:∀pre x W,J pre W->pre.length<zs.length->YieldAt F (n-1) Tryz.prog l #[.agg x.1.toArray] W λe W'=>
   (e=.returned (.bool Q3)/\J (pre++[x]) W'/\Below n₀ W W')\/(e=.returned (.bool false)/\Jx (pre++[x]) W'))
  (hBs:W.cell? ⟨Bs,0,Q2⟩=Q1 (.slice (Q1 ⟨b,off,Q2⟩) zs.length cap)) (hc:∀i(hi:i<zs.length),∀j v,zs[i].1[j]?=Q1 v->W.cell? ⟨b,off+i*12+j,Q2⟩=Q1 v) (h0:J [] W):
  CallsIn F n Tryz.prog 93 #[.func (.yield l) #[] #[],.pointer (Q1 ⟨Bs,0,Q2⟩)] W λe W'=>(∃v,e=.returned v)/\
   ((∃ys,ys=zs/\J ys W')\/(∃pre,(∃k,k<=zs.length/\pre=zs.take k)/\Jx pre W')):=by
 refine callsIn_of_wp Tryz.func93 rfl h7 ?_ hro;simp only[Tryz.ntmps93,List.size_toArray,fj,om,Nat.reduceAdd,Nat.reduceSub,Array.replicate_succ,Array.replicate_zero,List.push_toArray,List.append_toArray,Ec,List.cons_append]
 gi_wp2
 gi_loopw [7] (λi wr=>∃k:Nat,k<=zs.length/\i=.int .i64 k/\J (zs.take k) wr/\Below n₀ W wr)
  (λi _=>zs.length-(intOf i).toNat)
 case atStart=>exact⟨0,be _,rfl,h0,Below.refl _ _⟩
 case round=>
  obtain⟨k,hk,rfl,hJs,hnx⟩:=hrel;by_cases hlt:k<zs.length
  ·have hcx:∀j v,zs[k].1[j]?=Q1 v->wr.cell? ⟨b,off+k*12+j,Q2⟩=Q1 v:=λj v h=>(hnx.cell (p:=⟨b,off+k*12+j,Q2⟩) hb).trans (hc k hlt j v h)
   have hYx:=λW' h=>hY (zs.take k) zs[k] W' h (by rw[ol];omega)
   have htk:zs.take k++[zs[k]]=zs.take (k+1):=List.take_append_getElem hlt;rw[htk]at hYx;generalize hx:zs[k]=x at hYx hcx;obtain⟨xs,hxl,hx1⟩:=x
   match xs,hxl with
   |[v0,v1,v2,v3,v4,v5,v6,v7,v8,v9,v10,v11],_=>
   have c0:=hcx 0 v0 rfl;have c1:=hcx 1 v1 rfl;have c2:=hcx 2 v2 rfl;have c3:=hcx 3 v3 rfl;have c4:=hcx 4 v4 rfl;have c5:=hcx 5 v5 rfl;have c6:=hcx 6 v6 rfl;have c7:=hcx 7 v7 rfl;have c8:=hcx 8 v8 rfl;have c9:=hcx 9 v9 rfl;have c10:=hcx 10 v10 rfl;have c11:=hcx 11 v11 rfl;rw[xu]at c0;have d0:=run_store_one v0 (hx1 v0 (by simp));have d1:=run_store_one v1 (hx1 v1 (by simp));have d2:=run_store_one v2 (hx1 v2 (by simp));have d3:=run_store_one v3 (hx1 v3 (by simp));have d4:=run_store_one v4 (hx1 v4 (by simp));have d5:=run_store_one v5 (hx1 v5 (by simp));have d6:=run_store_one v6 (hx1 v6 (by simp));have d7:=run_store_one v7 (hx1 v7 (by simp));have d8:=run_store_one v8 (hx1 v8 (by simp));have d9:=run_store_one v9 (hx1 v9 (by simp));have d10:=run_store_one v10 (hx1 v10 (by simp));have d11:=run_store_one v11 (hx1 v11 (by simp));have hJa:J (zs.take k) (wr.alloc (.cells #[v0,v1,v2,v3,v4,v5,v6,v7,v8,v9,v10,v11] 52)):=hJ _ _ _ Q2 hJs (World.grownBy_alloc _ _ _) (λr e=>by cases e);have hba:Below n₀ wr (wr.alloc (.cells #[v0,v1,v2,v3,v4,v5,v6,v7,v8,v9,v10,v11] 52)):=(Below.refl _ _).alloc (by have:=hnx.size;omega) _;obtain⟨fn,tmps,assign,body,hy,hR⟩:=hYx _ hJa
   dsimp only at hy hR
   gi_wp2
   refine hR.mono ?_;rintro e W3 (⟨rfl,hJ3,hk3⟩|⟨rfl,hJx3⟩)
   ·gi_wp2
    go_roundw
    case rel=>exact⟨k+1,by omega,by simp,hJ3,(hnx.trans hba).trans hk3⟩
    case measure=>simp[intOf];omega
   ·gi_wp2
    refine bodyPost_ret (results_none rfl _ _ _) rfl ?_;exact⟨⟨_,rfl⟩,.inr ⟨_,⟨k+1,by omega,rfl⟩,hJx3⟩⟩
  ·obtain rfl:k=zs.length:=by omega
   gi_wp2
   go_end0
   exact⟨⟨_,rfl⟩,.inl ⟨_,rfl,by rwa [jx]at hJs⟩⟩
theorem Tryz.values_stops(F:Fence)(n:Nat)(h7:F.fn 93)(hro:F.round=Q2)(hn:1<=n)(Bs n₀ b off cap:Nat)(zs:List R12)(hreach:zs.length<=1000)(w:World)(hBs:Bs<w.heap.size)(hn₀:n₀<=w.heap.size)(hb:b<n₀)
  (hs:w.cell? ⟨Bs,0,Q2⟩=Q1 (.slice (Q1 ⟨b,off,Q2⟩) zs.length cap)) (hc:∀i(hi:i<zs.length),∀j v,zs[i].1[j]?=Q1 v->w.cell? ⟨b,off+i*12+j,Q2⟩=Q1 v):
  SeqStopsK F n Tryz.prog 93 #[.pointer (Q1 ⟨Bs,0,Q2⟩)] (λx:R12=>#[.agg x.1.toArray]) (Below n₀) (λys=>ys=zs) (λpre=>pre<+:zs) zs.length w:=λl J Jx W hW hJ _ hY h0=>by
 refine(Tryz.values1_in F n h7 hro hn l Bs n₀ b off cap zs hreach hb J Jx W (cD hn₀ hW.size) hJ hY ((hW.cell (p:=⟨Bs,0,Q2⟩) hBs).trans hs) (λi hi j v h=>(hW.cell (p:=⟨b,off+i*12+j,Q2⟩) (iO hb hn₀)).trans (hc i hi j v h)) h0).mono ?_;rintro e W' ⟨he,⟨ys,hy,hj⟩|⟨pre,⟨k,hk,rfl⟩,hj⟩⟩
 ·exact⟨he,.inl ⟨ys,hy,hj⟩⟩
 ·exact⟨he,.inr ⟨_,List.take_prefix _ _,hj⟩⟩
theorem Tryz.info52:(Tryz.prog.info? 52).map (λi=>(i.zero,i.size,i.bytes))=Q1 (Q1 (.agg #[.string ⟨#[]⟩,.slice Q2 0 0,.int .i64 0,.slice Q2 0 0,.slice Q2 0 0,.string ⟨#[]⟩,.int .i64 0,.int .i64 0,.string ⟨#[]⟩,.string ⟨#[]⟩,.slice Q2 0 0,.slice Q2 0 0]),12,208):=by kernel_rfl
def flat12(l:List R12):List Value:=l.flatMap λx=>x.1
theorem flat12_snoc(l:List R12)(x:R12):flat12 (l++[x])=flat12 l++x.1:=by simp[flat12]
theorem cell_row_new(w:World)(l:List Value)(t:TypeId):∀j u,l[j]?=Q1 u->(w.alloc (.cells l.toArray t)).cell? ((⟨w.heap.size,0,Q2⟩:Addr).add j)=Q1 u:=by
 intro j u h;unfold Addr.add;split
 ·rename_i e;subst e;simp[h]
 ·simp[h]
theorem cells_own(B:Nat)(vs:Array Value)(t:TypeId):Own (λ(_:Unit) W=>W.heap[B]?=Q1 (.cells vs t (0,0))):=λs X Y row hs hg hrow=>
 (hg.block B (oD.1 hs).1 (λe'=>by obtain⟨o,ho,hc⟩:=hrow B e'.symm;rw[hs]at ho;cases ho;cases hc)).trans hs
set_option maxRecDepth 100000 in
set_option maxHeartbeats 2000000 in
theorem Tryz.appendSeq_in(F:Fence)(n:Nat)(h3:F.fn 135)(h5:F.fn 93)(hro:F.round=Q2)(hn:3<=n)(Bs b off cap:Nat)(zs:List R12)(hreach:zs.length<=1000)(w:World)(hBs:Bs<w.heap.size)(hb:b<w.heap.size)
  (hs:w.cell? ⟨Bs,0,Q2⟩=Q1 (.slice (Q1 ⟨b,off,Q2⟩) zs.length cap)) (hc:∀i(hi:i<zs.length),∀j v,zs[i].1[j]?=Q1 v->w.cell? ⟨b,off+i*12+j,Q2⟩=Q1 v):
  CallsIn F n Tryz.prog 135 #[.slice Q2 0 0,.func (.func 93) #[] #[.pointer (Q1 ⟨Bs,0,Q2⟩)]] w λe W'=>∃v,e=.returned v/\W'.ownsRow w.heap.size 52 12 v zs.length (flat12 zs)/\Below w.heap.size w W':=by
 have h1:1<=n:=by omega
 obtain⟨i0,hi,hz0,hz1,hz2⟩:=info_parts Tryz.info52;refine callsIn_of_wp_marks Tryz.func135 rfl h3 ?_ hro;simp only[Tryz.ntmps135,List.size_toArray,fj,om,Nat.reduceAdd,Nat.reduceSub,Array.replicate_succ,Array.replicate_zero,List.push_toArray,List.append_toArray,Ec,List.cons_append]
 gi_wp2
 have bO:=Boxed.new w 22 (.slice Q2 0 0);have hB0:Below w.heap.size w (w.alloc (.cells #[.slice Q2 0 0] 22)):=(Below.refl _ w).alloc (aA _) _
 refine wpIn_rangeFunc_ownH hro h1 (gf:=93) (lb:=#[.pointer (Q1 ⟨Bs,0,Q2⟩)]) rfl h5 (enters_of Tryz.func93 (by kernel_rfl) rfl)
  (Tryz.values_stops F (n-1) h5 hro (by omega) Bs w.heap.size b off cap zs hreach _ (by simp<;>omega) (by simp) hb ((hB0.cell (p:=⟨Bs,0,Q2⟩) hBs).trans hs) (λi hi j v h=>(hB0.cell (p:=⟨b,off+i*12+j,Q2⟩) hb).trans (hc i hi j v h))) belowK_t (belowK_b (by simp<;>omega)) (Below.refl _ _) (λ_=>rfl)
  (λpre W=>(∃v,Boxed W w.heap.size 22 v/\W.ownsRow w.heap.size 52 12 v pre.length (flat12 pre)/\(v=.slice Q2 0 0↔pre=[]))/\Below w.heap.size w W)
  (λ_ _ _=>False)
  (OwnFrom.and (Own.from (holdsRow_own w.heap.size w.heap.size 22 52 12 (λpre=>pre.length) (λpre=>flat12 pre) (λpre v=>v=.slice Q2 0 0↔pre=[])) _) (ownFrom_below (aA _) (by simp<;>omega)))
  (λ_ _ _ _ _ hs _ _=>hs)
  ⟨⟨_,bO,World.ownsRow_nil _ _ _ _,by simp⟩,hB0⟩
  (λx a' W=>∃Bx,w.heap.size<Bx/\W.heap[Bx]?=Q1 (.cells x.1.toArray 52 (0,0))/\a'={tmps:=#[.slice Q2 0 0,.func (.func 93) #[] #[.pointer (Q1 ⟨Bs,0,Q2⟩)],.pointer (Q1 ⟨w.heap.size,0,Q2⟩),undef,.slice Q2 0 0,.pointer (Q1 ⟨Bx,0,Q2⟩),.func (.func 93) #[] #[.pointer (Q1 ⟨Bs,0,Q2⟩)],.agg x.1.toArray,undef,undef,undef,undef,undef],defers:=[]})
  (λx a' _ X Y row hs hg hr=>by obtain⟨Bx,h1,h2,h3⟩:=hs;exact⟨Bx,h1,cells_own Bx x.1.toArray 52 () X Y row h2 hg (λr e=>(hr r e).2),h3⟩)
  ?assign ?body ?done ?stop
 case assign=>
  rintro l pre ⟨xs,hxl,hx1⟩ W K ⟨⟨v,hv,hrow,hnil⟩,hB⟩ hK
  match xs,hxl with
  |[v0,v1,v2,v3,v4,v5,v6,v7,v8,v9,v10,v11],_=>
  have d0:=run_store_one v0 (hx1 v0 (by simp));have d1:=run_store_one v1 (hx1 v1 (by simp));have d2:=run_store_one v2 (hx1 v2 (by simp));have d3:=run_store_one v3 (hx1 v3 (by simp));have d4:=run_store_one v4 (hx1 v4 (by simp));have d5:=run_store_one v5 (hx1 v5 (by simp));have d6:=run_store_one v6 (hx1 v6 (by simp));have d7:=run_store_one v7 (hx1 v7 (by simp));have d8:=run_store_one v8 (hx1 v8 (by simp));have d9:=run_store_one v9 (hx1 v9 (by simp));have d10:=run_store_one v10 (hx1 v10 (by simp));have d11:=run_store_one v11 (hx1 v11 (by simp))
  gi_wp2
  exact hK _ _ ((KeepsOthers.alloc _ _).from _) ((Below.refl _ W).alloc hB.size _) ⟨⟨v,hv.alloc _,hrow.alloc _,hnil⟩,hB.alloc hB.size _⟩ ⟨W.heap.size,hv.lt,World.alloc_heap_new W _,rfl⟩
 case body=>
  rintro l pre ⟨xs,hxl,hx1⟩ a' W hl ⟨r,hr⟩ ⟨⟨v,hv,hrow,hnil⟩,hB⟩ ⟨Bx,hBx,hX,rfl⟩ hlt
  match xs,hxl with
  |[v0,v1,v2,v3,v4,v5,v6,v7,v8,v9,v10,v11],_=>
  have hcv:=hv.cell
  dsimp only at hX
  have c0:W.cell? ⟨Bx,0,Q2⟩=Q1 v0:=by simp[World.cell?,hX]
  have c1:W.cell? ⟨Bx,1,Q2⟩=Q1 v1:=by simp[World.cell?,hX]
  have c2:W.cell? ⟨Bx,2,Q2⟩=Q1 v2:=by simp[World.cell?,hX]
  have c3:W.cell? ⟨Bx,3,Q2⟩=Q1 v3:=by simp[World.cell?,hX]
  have c4:W.cell? ⟨Bx,4,Q2⟩=Q1 v4:=by simp[World.cell?,hX]
  have c5:W.cell? ⟨Bx,5,Q2⟩=Q1 v5:=by simp[World.cell?,hX]
  have c6:W.cell? ⟨Bx,6,Q2⟩=Q1 v6:=by simp[World.cell?,hX]
  have c7:W.cell? ⟨Bx,7,Q2⟩=Q1 v7:=by simp[World.cell?,hX]
  have c8:W.cell? ⟨Bx,8,Q2⟩=Q1 v8:=by simp[World.cell?,hX]
  have c9:W.cell? ⟨Bx,9,Q2⟩=Q1 v9:=by simp[World.cell?,hX]
  have c10:W.cell? ⟨Bx,10,Q2⟩=Q1 v10:=by simp[World.cell?,hX]
  have c11:W.cell? ⟨Bx,11,Q2⟩=Q1 v11:=by simp[World.cell?,hX]
  gi_wp2_with (gi_at_builtin;refine wpListIn_append_own _ rfl _ _ 22 rfl w.heap.size 52 i0 _ 12 208 Tryz.underlying22 hi hz0 hz1 hz2 rfl (by decide) _ _ _ rfl (hrow.alloc _) ⟨W.heap.size,0,Q2⟩ 1 1 [v0,v1,v2,v3,v4,v5,v6,v7,v8,v9,v10,v11] rfl rfl (cell_row_new _ _ _) hx1 (by unfold maxLen;omega) (by omega) (by have:=hB.size;simp;omega) ?_;intro v' w1 hown' hgrow _;obtain⟨g',cap',rfl⟩:=ownsRow_succ hown';obtain⟨hv1,hv2,hr2,hk2,hb2⟩:=hv.appended (by decide) hrow hB.size (aA _) hown' hgrow;have hc1:=hv1.cell;have hf1:=hv1.frozen)
  exact⟨hk2.from _,hb2,⟨_,hv2,by rw[flat12_snoc];simpa using hr2,by simp⟩,hB.trans hb2⟩
 case done=>
  rintro D ys W hD rfl ⟨⟨v,hv,hrow,hnil⟩,hB⟩ hK;have hc:=hv.cell
  gi_wp2
  refine⟨by simp,.inl ⟨_,_,rfl,run_takeDeferred hK,?_⟩⟩;exact⟨_,results_tmp rfl _ _ _,v,rfl,ownsRow_putObj hrow _ hK rfl,hB.trans (belowK_b (w:=w) (aA _) W D _ _ (by simp at hD;omega) hK rfl rfl)⟩
 case stop=>
  rintro D c pre W _ _ h _;exact h.elim
set_option maxHeartbeats 1000000 in
theorem Tryz.collect_in(F:Fence)(n:Nat)(h2:F.fn 91)(h3:F.fn 135)(h5:F.fn 93)(hro:F.round=Q2)(hn:4<=n)(Bs b off cap:Nat)(zs:List R12)(hreach:zs.length<=1000)(w:World)(hBs:Bs<w.heap.size)(hb:b<w.heap.size)
  (hs:w.cell? ⟨Bs,0,Q2⟩=Q1 (.slice (Q1 ⟨b,off,Q2⟩) zs.length cap)) (hc:∀i(hi:i<zs.length),∀j v,zs[i].1[j]?=Q1 v->w.cell? ⟨b,off+i*12+j,Q2⟩=Q1 v):
  CallsIn F n Tryz.prog 91 #[.func (.func 93) #[] #[.pointer (Q1 ⟨Bs,0,Q2⟩)]] w λe W'=>∃v,e=.returned v/\W'.ownsRow w.heap.size 52 12 v zs.length (flat12 zs)/\Below w.heap.size w W':=by
 have h1:1<=n:=by omega
 refine callsIn_of_wp Tryz.func91 rfl h2 ?_ hro;simp only[Tryz.ntmps91,List.size_toArray,fj,om,Nat.reduceAdd,Nat.reduceSub,Array.replicate_succ,Array.replicate_zero,List.push_toArray,List.append_toArray,Ec,List.cons_append]
 gi_wp2_with (gi_at_call 135;refine(Tryz.appendSeq_in F (n-1) h3 h5 hro (by omega) Bs b off cap zs hreach w hBs hb hs hc).mono ?_;rintro e w' ⟨v,rfl,hv1,hv2⟩)
 go_ret
 exact⟨v,rfl,hv1,hv2⟩
end Go.Proofs
namespace Cad
open Go Go.Proofs
open Bool renaming true→Q3
open Option renaming none→Q2
open Option renaming some→Q1
set_option maxHeartbeats 4000000
open Tr (chk br)
open AV (nils agg tup ptr kb str sl)
theorem BE:∀(l:List R12)(i j:Nat)(hi:i<l.length),j<12->(flat12 l)[i*12+j]?=l[i].1[j]?
 | x::r,0,j,_,hj=>by
  show(x.1++flat12 r)[0*12+j]?=x.1[j]?;rw[ms (by rw[x.2.1];omega),Nat.zero_mul,eX]
 | x::r,i+1,j,hi,hj=>by
  show(x.1++flat12 r)[(i+1)*12+j]?=_;rw[ng (by rw[x.2.1];omega),x.2.1,show(i+1)*12+j-12=i*12+j by omega,BE r i j (by simpa using hi) hj];rfl
@[match_pattern] abbrev zkK:Sh:=.pr (.pr .str (.pr (.sl (.pr .str (.pr (.int .i64) .bool))) (.pr (.int .i64) (.pr (.sl (.int .i64)) (.pr (.sl (.pr (.int .i64) .str)) .expr))))) (.sl (.sl (.pr (.int .i64) (.pr (.int .i64) .str))))
def F91:ac:=λargs hp n=>match args with
 | [.clo (.func 93) [] [.ptr id 0]]=>match hp id with
  |.box [.sl zkK l]=>.chk (decide (0<List.length l)) (.chk (decide (List.length l<=1000)) (.ok {val:=.vec n,nw:=[.vec zh l]}))
  |_=>.err
 |_=>.err
theorem KW{w:World}{U:Nat->Prop}{ρ:Nat->Option Value}{hp:Nat->AO}{n Bs:Nat}{l:List (Sem zh)}{sv:Value}(hub:∀b,U b->b<w.heap.size)(hBs:w.cell? ⟨Bs,0,Q2⟩=Q1 sv)(hr:Rv w U ρ (.sl zh l) sv)(hn:ρ n=Q2)(h0:0<l.length)(h1:l.length<=1000):
  Calls Tryz.prog 91 #[.func (.func 93) #[] #[.pointer (Q1 ⟨Bs,0,Q2⟩)]] w λe w'=>∃v U' ρ',e=.returned v/\Ef n hp {val:=.vec n,nw:=[.vec zh l]} w U ρ v w' U' ρ':=by
 obtain⟨a,cap,rfl,hcap,hm,h⟩:=HF hr;rcases h with rfl|⟨b,o,rfl,hrr⟩
 ·simp at h0
 have e12:zh.size=12:=rfl;have hex:∀i(hi:i<l.length) j,j<12->∃c x,(zq zh l[i])[j]?=Q1 c/\w.cell? ⟨b,o+i*12+j,Q2⟩=Q1 x/\Rv w U ρ c x/\x.oneCell'=Q3:=by
  intro i hi j hj;have hlen:(zq zh l[i]).length=12:=zZ zh l[i];have hget:(zq zh l[i])[j]?=Q1 ((zq zh l[i])[j]'(by rw[hlen];exact hj)):=zS _;obtain⟨x,h1,h2⟩:=hrr i hi j _ hget;exact⟨_,x,hget,h1,h2,fC zh l[i] j _ x hget h2⟩
 have hb:b<w.heap.size:=by
  obtain⟨c,x,_,h2,_⟩:=hex 0 h0 0 ow;exact tv h2
 let zs:List R12:=List.ofFn λi:Fin l.length=>⟨(List.range 12).map λj=>(w.cell? ⟨b,o+i.1*12+j,Q2⟩).getD undef,sw,λv hv=>by
  obtain⟨j,hj,rfl⟩:=bq.1 hv;obtain⟨c,x,_,h2,_,h4⟩:=hex i.1 i.2 j (by simpa using hj);rw[h2];exact h4⟩
 have hzl:zs.length=l.length:=by simp[zs]
 have hzc:∀i(hi:i<zs.length),∀j v,zs[i].1[j]?=Q1 v->w.cell? ⟨b,o+i*12+j,Q2⟩=Q1 v:=by
  intro i hi j v hv;simp only[zs,List.getElem_ofFn,fi,ei]at hv;obtain⟨q,hq,hv⟩:=hv;obtain⟨hlt,rfl⟩:=wU hq;obtain⟨c,x,_,h2,_,_⟩:=hex i (by rw[<-hzl];exact hi) q hlt;rw[h2]at hv;rw[h2,<-hv];rfl
 refine(callsIn_wide.1 (Tryz.collect_in Fence.wide 4 trivial trivial trivial rfl ow Bs b o cap zs ow w (tv hBs) hb (by rw[hzl];exact hBs) hzc)).mono ?_;rintro e w' ⟨v,rfl,hown,hbel⟩;rcases hown.2 with⟨_,h⟩|⟨g,cap',cur,rfl,hg,hG,hle,_,hsz,htk⟩
 ·omega
 have hglt:g<w'.heap.size:=(oD.1 hG).1
 obtain⟨U2,u1,u2,u3⟩:∃U2:Nat->Prop,(∀b,b<w.heap.size->(U2 b↔U b))/\U2 g/\∀b,U2 b->b<w'.heap.size:=
  ⟨λb=>U b\/b=g,λb hb=>⟨λh=>h.elim id λe=>absurd e ow,.inl⟩,.inr rfl,λb h=>by
   rcases h with h|rfl
   ·exact iO (hub b h) hbel.size
   ·exact hglt⟩
 have hmono:∀{c:AV}{x:Value},Rv w U ρ c x->Rv w' U2 (mj ρ n (.slice (Q1 ⟨g,0,Q2⟩) zs.length cap')) c x:=λh=>h.mono hbel.size (λb' hb' _=>hbel.block b' hb') (λb hb h=>(u1 b hb).1 h) (eP hn)
 refine⟨_,U2,_,rfl,Ef.newVec sw hn rfl (lX.below hbel) (λb hb _=>hbel.block b hb) u3 u1 ?_ ?_⟩
 ·refine⟨_,cap',by rw[hzl];simp[mj],hm,.inr ⟨g,52,cur,rfl,ow,u2,hG,hsz,ow,?_⟩⟩;intro i hi j c hc;have hj:j<12:=by have:=(cW.1 hc).1;rwa [zZ]at this
  obtain⟨c',x,h1,h2,h3,_⟩:=hex i hi j hj;rw[hc]at h1;cases h1;refine⟨x,?_,hmono h3⟩;have hz:(flat12 zs)[i*12+j]?=Q1 x:=by
   rw[BE zs i j (by rw[hzl];exact hi) hj];simp only[zs,List.getElem_ofFn,fi];rw[xm hj];simp[h2]
  rw[<-htk]at hz;have:=List.getElem?_take.symm.trans hz;split at this
  ·rw[e12,<-rD];exact this
  ·cases this
 ·intro b' hb';simp[eR]at hb';exact .inl ow
theorem zg9:FK 91 F91 where
 fn:=⟨Tryz.f91,kw,kw,kw⟩
 calls:=λw U ρ hp n args vals f fp hf hr hub hgl hfp hin hcl hnw=>by
  unfold F91 at hf;split at hf
  ·rename_i id;split at hf
   ·rename_i l hbx;simp only[Tr.val_chk,Tr.val_ok,bD,aP]at hf;obtain⟨h0,h1,rfl⟩:=hf;have hl:=hr.len
    match vals,hl,hr with
    |[va],_,hr=>
    have r0:=hr.rv 0 _ va rfl rfl;cases r0 with
    |clo _ _ _ vf vc hf hc hrf hrc=>
    match vf,hf,vc,hc,hrc with
    |[],_,[pv],_,hrc=>
    have r1:=hrc 0 _ pv rfl rfl;cases r1 with
    |ptr _ _ b0 hb0=>
    have iid:id∈fp:=hin id (by simp[AV.idsL,AV.ids]);have ob:=hfp.ob id iid;rw[hbx]at ob;obtain⟨b',T,arr,e1,hUB,hBB,hrl,h1c⟩:=ob;rw[hb0]at e1;cases e1;have hal:=hrl.len;have hsv:=hrl.rv 0 _ (arr.toList[0]'(by rw[<-hal];simp)) rfl (zS _);refine⟨KW hub ?_ hsv (hnw 0 sw) h0 h1,sw⟩;rw[World.cell?,hBB];simp
   ·simp at hf
  ·simp at hf
end Cad
