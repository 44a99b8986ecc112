/- Units: the law UnitParts answers true. -/
import Derived.Test.YtkmcdhahdadkpaaGreatDoorP23
namespace Cad
open Go Go.Proofs
open Tr renaming val→Q8
open List (getD)
open Tr (chk br re)
open AV (nils agg tup ptr kb str sl)
set_option maxHeartbeats 4000000
theorem Ra{db:List (Sem zh)}{p:Sem zz}:(jy db p).2=(az db p.2.1).2:=by
 unfold jy aj;have:∃r,bD p.2.1 p.2.2.1=p.2.1::r:=by unfold bD;split<;>exact⟨_,rfl⟩
 obtain⟨r,e⟩:=this;rw[e];rfl
section
variable {db:List (Sem zh)} {p:Sem zz}
theorem bu.vok(h:bu db p)(hw:∀x∈db,PK x){u:Sem zf}(hu:u∈bj p (aj db p)):u.2.2.length<=1000000:=by
 obtain⟨row,hr,e⟩:=bl.1 (((lh λx hx=>h.may hx).2 u).1 hu).1;rw[h.pc.2]at e;have hm:=h.at_mem hr;rw[e]at hm;have hr':row∈(jy db p).2:=hr;rw[Ra]at hr';have hin:p.2.1∈bD p.2.1 p.2.2.1:=by unfold bD;split<;>simp
 exact((hw _ (lP (h.fnd _ hin)).1).vals row hr' u hm).2.2
noncomputable def kQ(db:List (Sem zh))(p:Sem zz)(i:Nat):Nat:=(((bj p (aj db p)).take i).map λu=>((jy db p).2.filter (uS (eK p (aj db p)) u)).length).sum
noncomputable def xI(db:List (Sem zh))(p:Sem zz)(i:Nat):Nat:=(((jy db p).2.take i).filter λrow:List (Sem zf)=>(getD row (Int.toNat (eK p (aj db p))) (zi zf)).1==0).length
theorem Nn(h:bu db p):kQ db p (bj p (aj db p)).length+xI db p (jy db p).2.length=(jy db p).2.length:=by
 unfold kQ xI;rw[ji,ji];exact h.parts
theorem wy{i:Nat}(hi:i<(bj p (aj db p)).length):kQ db p (i+1)=kQ db p i+((jy db p).2.filter (uS (eK p (aj db p)) (bj p (aj db p))[i])).length:=by
 unfold kQ;rw[bS hi,gZ,List.sum_append];simp
theorem WC(h:bu db p):∀i,i<=(bj p (aj db p)).length->kQ db p i<=200:=by
 intro i hi;have h1:=Nn h;have h2:=h.rel.few;have:∀k,i+k<=(bj p (aj db p)).length->kQ db p i<=kQ db p (i+k):=by
  intro k
  induction k with
  |zero=>intro _;exact aB _
  | succ k ih=>
   intro hk;refine cy (ih ow) ?_;rw[<-Nat.add_assoc,wy ow];omega
 have:=this ((bj p (aj db p)).length-i) ow;rw[show i+((bj p (aj db p)).length-i)=(bj p (aj db p)).length by omega]at this;omega
theorem WB(i:Nat):xI db p i<=(jy db p).2.length:=by
 unfold xI;exact cy (List.length_filter_le _ _) (by rw[nI];omega)
end
theorem SV{x0:List (Sem zh)}{x1:Sem zk}(hx:∀x∈x0,RgR x)(h1:RgS x1):xY x0 x1=some (true,()):=by
 obtain⟨p,src,ok,h,hok⟩:=K6 hx h1;have hc:vU x0 x1=true:=by unfold vU;rw[h];rfl
 have hp:Bc x0 x1=(p,src,ok):=by unfold Bc;rw[h];rfl
 cases ok with
 | false=>
  refine zN (r:=(.bool true,[])) ?_ rfl;simp only[i4u,zl,Prod.eta,Q8,hc,hp,CL.2,jI,if_true]
 | true=>
  obtain⟨db,hP,rfl,hw⟩:=hok rfl;have ha:=hP.uall;have a1:LM p (aj db p)=true:=by unfold LM;rw[ha];rfl
  have a2:TL p (aj db p)=(bj p (aj db p),0):=by unfold TL;rw[ha];rfl
  have hsum:=Nn hP;have hrl:=hP.rel.few;have hLl:=hP.few;have hlen:zM 0 (aj db p).length=true:=zu (i:=0) (qK hP.go.two).1;have hrow:∀v,LN p (aj db p) v=true/\TN p (aj db p) v=((jy db p).2.filter (uS (eK p (aj db p)) v),0):=λv=>by
   have hr:=hP.rows v;exact⟨by unfold LN;rw[hr];rfl,by unfold TN;rw[hr];rfl⟩
  have hof:∀row∈(jy db p).2,WL p (aj db p) row=true/\uOf p (aj db p) row=YQ p (aj db p) (eK p (aj db p)) row:=λrow hr=>by
   have ho:=hP.of (row:=row) (cy (hP.len hr) ow);exact⟨by unfold WL;rw[ho];rfl,by unfold uOf;rw[ho];rfl⟩
  have hs:(i4u x0 x1).val=some (.inl (.h9 (aj db p) (bj p (aj db p)) (kQ db p 0:Int) ((0:Nat):Int) (p,()))):=by
   simp only[i4u,zl,Prod.eta,Q8,hc,hp,a1,a2,fa,ld,zG,if_true,if_false];rfl
  have g1:=zQ.all (t:=Nq) 300 (λi=>.h9 (aj db p) (bj p (aj db p)) (kQ db p i:Int) (i:Int) (p,())) (bj p (aj db p)).length λi hi=>by
   have hu:=bq hi;have hn:=(hP.is _).1 hu;have h0:=hP.ne0 hu;have hle:=WC hP (i+1) ow;rw[wy hi]at hle;generalize hR:(jy db p).2.filter (uS (eK p (aj db p)) (bj p (aj db p))[i])=R at hn hle;have hRm:∀row∈R,row∈(jy db p).2/\uS (eK p (aj db p)) (bj p (aj db p))[i] row=true:=λrow hr=>by rw[<-hR]at hr;exact List.mem_filter.1 hr
   have f1:zQ Nq 1 (.h9 (aj db p) (bj p (aj db p)) (kQ db p i:Int) (i:Int) (p,())) (.h16 (aj db p) (bj p (aj db p)) ((kQ db p i+R.length:Nat):Int) (i:Int) R ((0:Nat):Int) (p,())):=zQ.of (by
    obtain⟨w1,w2⟩:=hrow (bj p (aj db p))[i];rw[hR]at w2;have c5:((R.length:Int)==0)=false:=by
     have:=List.length_pos_iff.2 hn;rw[bN];omega
    have c6:((bj p (aj db p))[i].1==0)=false:=by simpa using h0
    have c7:(bif decide ((i:Int)>0)then zM (IntKind.i64.wrap ((i:Int)-1)) (bj p (aj db p)).length&&(true&&pd (getD (bj p (aj db p)) (IntKind.i64.wrap ((i:Int)-1)).toNat (zi zf)) (bj p (aj db p))[i])else true)=true/\
      (bif decide ((i:Int)>0)then decide (tU (getD (bj p (aj db p)) (IntKind.i64.wrap ((i:Int)-1)).toNat (zi zf)) (bj p (aj db p))[i]>=0)else false)=false:=by
     cases i with
     |zero=>exact⟨rfl,rfl⟩
     | succ j=>
      have hj:j<(bj p (aj db p)).length:=by omega
      have hw':=mL j um;have hr:=List.pairwise_iff_getElem.1 hP.rise j (j+1) hj hi ow;have hlv:=hP.vok hw hu;have hlj:=hP.vok hw (bq hj);rw[hw',zt (show(((j+1:Nat):Int)>0) by omega),zY _ _ hj,BF hlj hlv,EK hlj hlv,zu hj];refine⟨rfl,?_⟩;rw[ay];have:¬GE.ge (α:=Int) (cD (bj p (aj db p))[j] (bj p (aj db p))[j+1]) 0:=by
       have:LT.lt (α:=Int) (cD (bj p (aj db p))[j] (bj p (aj db p))[j+1]) 0:=hr;omega
      exact af this
    simp only[Nq,Q8,zH hi,zu hi,if_true,zY _ _ hi,zl,Prod.eta,w1,w2,c5,c6,c7.2,ld,aN,dl,zG,if_false];have c8:=c7.1;simp only[dl]at c8;rw[if_pos c8,show((kQ db p i:Int)+(R.length:Int))=((kQ db p i+R.length:Nat):Int) by simp,CT ow];rfl)
   have f2:=zQ.all (t:=Nq) 1 (λk=>.h16 (aj db p) (bj p (aj db p)) ((kQ db p i+R.length:Nat):Int) (i:Int) R (k:Int) (p,())) R.length λk hk=>zQ.of (by
    obtain⟨m1,m2⟩:=hRm R[k] (bq hk);obtain⟨o1,o2⟩:=hof R[k] m1;obtain⟨e1,e2⟩:=m7.1 m2;rw[hP.row m1,e1,if_neg e2]at o2;simp only[Nq,Q8,zH hk,zu hk,zu hi,if_true,zY _ _ hk,zY _ _ hi,zl,Prod.eta,o1,o2,BEq.rfl,nK,fa,aN,ld,zG,if_false];rw[zp k um])
   have f3:zQ Nq 1 (.h16 (aj db p) (bj p (aj db p)) ((kQ db p i+R.length:Nat):Int) (i:Int) R (R.length:Int) (p,())) (.h9 (aj db p) (bj p (aj db p)) (kQ db p (i+1):Int) ((i+1:Nat):Int) (p,())):=zQ.of (by
    rw[wy hi,hR];simp only[Nq,Q8,zA,zG,if_false];rw[zp i um])
   exact((f1.trans f2).trans f3).mono ow
  have g2:zQ Nq 1 (.h9 (aj db p) (bj p (aj db p)) (kQ db p (bj p (aj db p)).length:Int) ((bj p (aj db p)).length:Int) (p,())) (.h22 (aj db p) ((kQ db p (bj p (aj db p)).length+xI db p 0:Nat):Int) ((0:Nat):Int) (p,())):=zQ.of (by
   simp only[Nq,Q8,zA,zG,if_false];rfl)
  have g3:=zQ.all (t:=Nq) 1 (λk=>.h22 (aj db p) ((kQ db p (bj p (aj db p)).length+xI db p k:Nat):Int) (k:Int) (p,())) (jy db p).2.length λk hk=>zQ.of (by
   obtain⟨o1,o2⟩:=hof (jy db p).2[k] (bq hk);rw[hP.row (bq hk)]at o2;have hl:=WB (db:=db) (p:=p) (k+1);have hs0:xI db p (k+1)=xI db p k+if(getD (jy db p).2[k] (Int.toNat (eK p (aj db p))) (zi zf)).1=0 then 1 else 0:=by
    unfold xI;rw[bS hk,List.filter_append,jg];congr 1;by_cases hz:(getD (jy db p).2[k] (Int.toNat (eK p (aj db p))) (zi zf)).1=0
    ·rw[if_pos hz,List.filter_cons_of_pos (by simpa using hz)];rfl
    ·rw[if_neg hz,List.filter_cons_of_neg (by simpa using hz)];rfl
   have hfr:getD (aj db p) (Int.toNat 0) (zi zh)=jy db p:=rfl;have hkk:decide ((k:Int)<((jy db p).2.length:Int))=true:=zH hk;simp only[Nq,Q8,hlen,hfr,hkk,zu hk,if_true,zY _ _ hk,zl,Prod.eta,o1,o2];by_cases hz:(getD (jy db p).2[k] (Int.toNat (eK p (aj db p))) (zi zf)).1=0
   ·rw[hs0,if_pos hz];simp only[hz,if_true];rw[if_pos GM,show(((kQ db p (bj p (aj db p)).length+xI db p k:Nat):Int)+1)=((kQ db p (bj p (aj db p)).length+(xI db p k+1):Nat):Int) by omega,CT (by rw[if_pos hz]at hs0;omega),zp k um]
   ·rw[hs0,if_neg hz];simp only[hz,if_false];rw[if_neg (by decide),zp k um];rfl)
  have hend:(Nq (.h22 (aj db p) ((kQ db p (bj p (aj db p)).length+xI db p (jy db p).2.length:Nat):Int) ((jy db p).2.length:Int) (p,()))).val=some (.inr (.bool true,[])):=by
   have hfr:getD (aj db p) (Int.toNat 0) (zi zh)=jy db p:=rfl;rw[hsum];simp only[Nq,Q8,hlen,hfr,zA,CL.1,CL.2,BEq.rfl,ay,nK,zG,if_true,if_false]
  exact zx hs (((g1.trans g2).trans g3).ends (zT.of hend)) ow rfl
theorem OL(x:zy ([.sl zh,zk].map some)){W:World}{vs:List Value}(hr:dj W U0 iy (iW ([.sl zh,zk].map some) x) vs):(F4u (iW ([.sl zh,zk].map some) x) (λ_=>.dead) 0).val=some {val:=.bool true}:=by
 obtain⟨db,s,u⟩:=x;have hr:dj W U0 iy [.sl zh db,zE zk s] vs:=hr;have hl:=hr.len;have at':∀j c,([.sl zh db,zE zk s]:List AV)[j]?=some c->∃v,Rv W U0 iy c v:=λj c hj=>by
  have hlt:j<vs.length:=by rw[<-hl];exact(cW.1 hj).1
  exact⟨vs[j],hr.rv j c _ hj (zR hlt)⟩
 obtain⟨v0,h0⟩:=at' 0 _ rfl;obtain⟨v1,h1⟩:=at' 1 _ rfl;have e:s=(s.1,s.2.1,s.2.2.1,s.2.2.2.1,s.t.1,s.t.2.1,s.t.q.1,s.t.q.2.1,zm s.t.t.1,s.t.t.2.1,s.t.t.q.1,zm s.t.t.q.2.1,s.t.t.t):=by rw[zl,zl]
 have h:(F4u [.sl zh db,zE zk s] (λ_=>.dead) 0).val=(chk (xY db (s.1,s.2.1,s.2.2.1,s.2.2.2.1,s.t.1,s.t.2.1,s.t.q.1,s.t.q.2.1,zm s.t.t.1,s.t.t.2.1,s.t.t.q.1,zm s.t.t.q.2.1,s.t.t.t)).isSome (Tr.ok ({val:=.bool ((xY db (s.1,s.2.1,s.2.2.1,s.2.2.2.1,s.t.1,s.t.2.1,s.t.q.1,s.t.q.2.1,zm s.t.t.1,s.t.t.2.1,s.t.t.q.1,zm s.t.t.q.2.1,s.t.t.t)).getD (cu [.bool])).1}:fK))).val:=by kernel_rfl
 show(F4u [.sl zh db,zE zk s] (λ_=>.dead) 0).val=_;rw[h,<-e,SV (qH h0 · · |>zbx) (zby (PM h1))];rfl
end Cad
