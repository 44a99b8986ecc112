/- Cover. -/
import Derived.Test.YtjfdpfapcmcncaaGreatDoorH23
namespace Cad
open Go Go.Proofs
open List renaming length→Io
open Tr renaming val→Q8
open Bool renaming true→Q3
open Tr (chk br re)
open AV (nils agg tup ptr kb str sl)
set_option maxHeartbeats 4000000
set_option maxRecDepth 100000
theorem XA{B:List (Sem zh)}{C:Sem zn}(hx:∀x∈B,RgR x)(h1:RgS C):
  ∃(p:Sem zq)(I:List (Sem zh))(W:Bool),rz B C=some (p,I,W,())/\(W=Q3->∃o,aG o p/\I=zK o p/\(∀x∈o,FZ x)/\AT o p):=by
 obtain⟨o,S,d2,d3⟩:=Ww B;obtain⟨s,Y,s2,Z⟩:=Wu h1;have D:Hc B=o:=by unfold Hc;rw[S];rfl
 have E:Ot B=Q3:=by unfold Ot;rw[S];rfl
 have U:Wt C=s:=by unfold Wt;rw[Y];rfl
 have G:On C=Q3:=by unfold On;rw[Y];rfl
 have u:∀x∈o,FZ x:=by
  intro x z;obtain⟨y,hy,rfl⟩:=d3 x z;exact Wv (hx y hy)
 have H:∀x∈o,gS x:=λx z=>(u x z).short
 have X:=XG u Z;have F:OI o s=Q3:=by unfold OI;rw[X];rfl
 have L:XF o s=((aV o s).2,(aV o s).1):=by unfold XF;rw[X];rfl
 by_cases J:(aV o s).1=0
 ·have M:=Xy H J s2;have T:=zh9 u J Z;have O:=Yo (XI H M.fnd);generalize(aV o s).2=p at L M T O;rw[J]at L;have t1:IL p o=Q3:=by unfold IL;rw[O];rfl
  have t2:Ou p o=(p,zK o p,Q3):=by unfold Ou;rw[O];rfl
  refine⟨p,zK o p,Q3,?_,λ_=>⟨o,M,rfl,u,T⟩⟩;have e:p=(p.1,p.2.1,p.2.2.1,(p.2.2.2.1.1,p.2.2.2.1.2.1,p.2.2.2.1.2.2.1,p.2.2.2.1.2.2.2.1,p.2.2.2.1.t.1,zl p.2.2.2.1.t.2),p.t):=by rw[zk]
  refine(zH (i:=i7u B C) (t:=t0) (n:=100000000) (outs:=[zq,zh.sl,Sh.bool]) (by
   simp only[i7u,zk,Prod.eta,Q8,D,E,U,G,L,F,t1,t2,ir,zA,if_true,if_false];rfl) (y:=((p.1,p.2.1,p.2.2.1,(p.2.2.2.1.1,p.2.2.2.1.2.1,p.2.2.2.1.2.2.1,p.2.2.2.1.2.2.2.1,p.2.2.2.1.t.1,zl p.2.2.2.1.t.2),p.t),zK o p,Q3,())) rfl).trans ?_
  rw[<-e]
 ·have hb:((aV o s).1!=0)=Q3:=by simpa using J
  refine⟨jU,[],false,?_,λh=>by cases h⟩;refine zH (i:=i7u B C) (t:=t0) (n:=100000000) (outs:=[zq,zh.sl,Sh.bool]) (r:=(tup [agg [str [],str [],str [],str [],nils,ai 0,nils,nils,str [],ai 0,ai 0,str [],str [],nils,nils,ai 0],nils,kb false],[])) ?_ rfl;simp only[i7u,zk,Prod.eta,Q8,D,E,U,G,L,F,hb,if_true]
theorem zar{e:zf}{cols:List (Sem zj)}(z:sD e)(D:Io cols<=1000000):kC e cols=Q3/\(eQ e cols=0->(e.op==[])=false->cm e=Q3):=by
 by_cases o:(e.op==[])=false->cm e=Q3
 ·exact⟨(wg z D o).1,λ_=>o⟩
 ·have E:(e.op==[])=false:=iW λh=>o λC=>absurd C h
  have u:cm e=false:=by
   refine Bool.eq_false_iff.2 λh=>o λ_=>h
  have B:we e cols=some (1,()):=by
   refine zH (r:=(ai 1,[])) ?_ rfl;simp only[VX,Q8,zk,E,lH z,oO z,u,cw,zA,if_true,if_false]
  refine⟨by unfold kC;rw[B];rfl,λh=>?_⟩;unfold eQ at h;rw[B]at h;cases h
theorem zex{t:Sem zo}{h:List (List (Sem ze))}{e:zf}(L:sD e)(Z:Io t.2.1<=1000)(Y:Io h<=1000)(S:∀r∈h,Io r<=1000/\∀v∈r,jL v):
  Js (t,h) e=Q3/\QT (t,h) e=if eQ e t.2.1=0 then(h.filter (mD e t.2.1),0)else([],eQ e t.2.1):=by
 obtain⟨G,M⟩:=zar (cols:=t.2.1) L ow;have I:Jt (t,h) e=some (ite (eQ e t.2.1=0) (h.filter (mD e t.2.1),0,()) ([],eQ e t.2.1,())):=by
  by_cases o:eQ e t.2.1=0;rotate_left
  ·rw[if_neg o];refine zH (r:=(tup [nils,ai (eQ e t.2.1)],[])) ?_ rfl;have D:(eQ e t.2.1!=0)=Q3:=by simpa using o
   simp only[zaJ,Q8,zk,G,D,if_true]
  ·rw[if_pos o];have D:(eQ e t.2.1!=0)=false:=by simpa using o
   have T:(zaJ (t,h) e).val=some (.inl (.h6 ((0:Nat):Int) ((t,h),()) (e,()) [])):=by
    simp only[zaJ,Q8,zk,G,D,zA,if_true,if_false];rfl
   have z:=zL.all (t:=zbJ) 1 (λi=>.h6 (i:Int) ((t,h),()) (e,()) ((h.take i).filter (mD e t.2.1))) (Io h) λi B=>zL.of (by
    obtain⟨r1,U⟩:=S _ (aP B);have C:((h.take i).filter (mD e t.2.1)).length<=1000:=bt (List.length_filter_le _ _) sg;rw[be B,List.filter_append];generalize(h.take i).filter (mD e t.2.1)=acc at C⊢;have O:decide (Io acc+[h[i]].length<=1073741824)=Q3:=by simp;omega
    have E:decide (h[i].length<=1073741824)=Q3:=by simp;omega
    have J:(cond (e.op==[]) Q3 (Q3&&(mo e t.2.1 h[i]&&lB (oN e t.2.1 h[i]) Q3)))=Q3/\(cond (e.op==[]) Q3 (oG (oN e t.2.1 h[i]) Q3))=mD e t.2.1 h[i]:=by
     unfold mD;cases F:(e.op==[])with
     |true=>exact⟨rfl,rfl⟩
     | false=>
      have u:=Mu (cols:=t.2.1) (row:=h[i]) ow U L (M o F);have W:mo e t.2.1 h[i]=Q3:=by unfold mo;rw[u];rfl
      have X:oN e t.2.1 h[i]=ia e t.2.1 h[i]:=by unfold oN;rw[u];rfl
      rw[W,X,vU,D6];exact⟨rfl,rfl⟩
    simp only[zbJ,Q8,zk,zE B,zt B,zG _ _ B,O,E,J.1,J.2,if_true];rw[zr i um];cases H:mD e t.2.1 h[i]with
    |true=>rw[if_pos rfl,List.filter_cons,if_pos H];rfl
    |false=>rw[if_neg sw,List.filter_cons,if_neg (by rw[H];simp)];simp)
   simp only[fI,List.take_zero,List.filter_nil]at z;refine zy T (z.ends (zV.of (r:=(tup [AV.vec 0,ai 0],[AO.vec ze.sl (h.filter (mD e t.2.1))])) ?_)) ow rfl;simp only[zbJ,Q8,zB,zA,if_false]
 refine⟨by unfold Js;rw[I];rfl,?_⟩;unfold QT;rw[I];split<;>rfl
theorem VF{S:List (Sem zh)}{T:Sem zn}{x2:zf}(hx:∀r∈S,RgR r)(h1:RgS T)(h2:RP x2):Bo S T x2=some (Q3,()):=by
 obtain⟨p,Z,ok,h,X⟩:=XA hx h1;have hc:yg S T=Q3:=by unfold yg;rw[h];rfl
 have hp:DB S T=(p,Z,ok):=by unfold DB;rw[h];rfl
 have Y:=uU h2;refine zH (r:=(.bool Q3,[])) ?_ rfl;simp only[i3v,zk,Prod.eta,Q8,hc,hp,if_true];generalize e8 x2=e at Y;cases ok with
 |false=>simp only[cw,if_true,uN.2]
 | true=>
  obtain⟨E,D,rfl,W,G⟩:=X rfl;have h3:=D.rel.few;obtain⟨a1,a2⟩:=D.qAll W;have M:(cE p (zK E p)).length<=1000:=by have:=D.few;omega
  have B:∀u∈cE p (zK E p),u.1≠0:=λu J=>D.ne0 J
  have z:(FJ E p e).Nodup/\∀u∈FJ E p e,u.1≠0:=by
   unfold FJ;split
   ·split
    ·exact⟨List.nodup_nil,λu J=>by cases J⟩
    ·rename_i O;refine⟨sw,λu J=>?_⟩;rw[eC]at J;subst J;exact B _ (IK D _ (by simpa using O))
   ·exact⟨D.nodup,B⟩
  obtain⟨s1,s2⟩:=Yc D G D.nodup B M;obtain⟨t1,t2⟩:=Yc D G z.1 z.2 (bt (zbU D e) M);obtain⟨u1,u2⟩:=Yt D e;have C:∀o:List (Sem ze),o.Nodup->(∀u∈o,u.1≠0)->(jR (zN p.2.2.2.1.2.2.1) (o.flatMap (dw E p))).length<=1000/\∀r∈jR (zN p.2.2.2.1.2.2.1) (o.flatMap (dw E p)),Io r<=1000/\(∀v∈r,jL v)/\aR (zN p.2.2.2.1.2.2.1 r)=Q3:=λo I H=>by
   refine⟨?_,λr F=>?_⟩
   ·rw[(nh _).length_eq];have:=PC (db:=E) (p:=p) o I H;omega
   ·obtain⟨u,J,hg⟩:=F4.1 ((nh _).mem_iff.1 F);obtain⟨g1,g2,_⟩:=Dt D G r hg;refine⟨?_,Ox D G r (List.mem_filter.1 hg).1,g2.2.2⟩;have:=(cX g1).1;have:=G.wf.ncols;omega
  obtain⟨r1,r2⟩:=C _ D.nodup B;obtain⟨q1,q2⟩:=C _ z.1 z.2;obtain⟨w1,w2⟩:=zex (t:=p.2.2.2.1) Y G.wf.ncols r1 λr F=>⟨(r2 r F).1,(r2 r F).2.1⟩
  obtain⟨v1,v2⟩:=zex (t:=p.2.2.2.1) Y G.wf.ncols q1 λr F=>⟨(q2 r F).1,(q2 r F).2.1⟩
  have U:∀o:List (Sem ze),o.Nodup->(∀u∈o,u.1≠0)->(jR (zN p.2.2.2.1.2.2.1) (o.flatMap (dw E p))).filter (mD e p.2.2.2.1.2.1)=jR (zN p.2.2.2.1.2.2.1) ((o.flatMap (dw E p)).filter (mD e p.2.2.2.1.2.1)):=λo I H=>LM λr F=>((C o I H).2 r ((nh _).mem_iff.2 F)).2.2
  simp only[a1,a2,s1,s2,t1,t2,u1,u2,w1,w2,v1,v2,bA,zA,if_true,if_false];by_cases O:eQ e p.2.2.2.1.2.1=0
  ·simp only[if_pos O];rw[U _ D.nodup B,U _ z.1 z.2,zgZ D G e];have L:∀o:List (Sem ze),o.Nodup->(∀u∈o,u.1≠0)->(jR (zN p.2.2.2.1.2.2.1) ((o.flatMap (dw E p)).filter (mD e p.2.2.2.1.2.1))).length<=1000000/\∀r∈jR (zN p.2.2.2.1.2.2.1) ((o.flatMap (dw E p)).filter (mD e p.2.2.2.1.2.1)),Io r<=1000000:=λo I H=>by
    rw[<-U o I H];refine⟨bt (List.length_filter_le _ _) (by have:=(C o I H).1;omega),λr F=>by have:=((C o I H).2 r (List.mem_filter.1 F).1).1;omega⟩
   obtain⟨z1,z2⟩:=MD (L _ z.1 z.2).1 (L _ z.1 z.2).2;simp only[z1,z2,uN.1,uN.2,ir,beq_self_eq_true,zY,sU,zA,if_true,if_false]
  ·have hb:(eQ e p.2.2.2.1.2.1!=0)=Q3:=by simpa using O
   simp only[if_neg O,hb,uN.2,if_true]
theorem SG(x:zz ([.sl zh,zn,.expr].map some)){W:World}{vs:List Value}(B:dB W U0 iX (jD ([.sl zh,zn,.expr].map some) x) vs):(F3v (jD ([.sl zh,zn,.expr].map some) x) (λ_=>.dead) 0).val=some {val:=.bool Q3}:=by
 obtain⟨z,s,g,u⟩:=x;have B:dB W U0 iX [.sl zh z,zC zn s,zC .expr g] vs:=B;have H:=B.len;have o:∀j c,([.sl zh z,zC zn s,zC .expr g]:List AV)[j]?=some c->∃v,Rv W U0 iX c v:=λj c D=>by
  have C:j<Io vs:=by rw[<-H];exact(dp.1 D).1
  exact⟨vs[j],B.rv j c _ D (zU C)⟩
 obtain⟨I,E⟩:=o 0 _ rfl;obtain⟨J,F⟩:=o 1 _ rfl;obtain⟨L,G⟩:=o 2 _ rfl;have e:s=(s.1,s.2.1,s.2.2.1,s.2.2.2.1,s.t.1,s.t.2.1,s.t.q.1,s.t.q.2.1,zl s.t.t.1,s.t.t.2.1,s.t.t.q.1,zl s.t.t.q.2.1,s.t.t.t):=by rw[zk,zk]
 have h:(F3v [.sl zh z,zC zn s,zC .expr g] (λ_=>.dead) 0).val=(chk (Bo z (s.1,s.2.1,s.2.2.1,s.2.2.2.1,s.t.1,s.t.2.1,s.t.q.1,s.t.q.2.1,zl s.t.t.1,s.t.t.2.1,s.t.t.q.1,zl s.t.t.q.2.1,s.t.t.t) (zl g)).isSome (Tr.ok ({val:=.bool ((Bo z (s.1,s.2.1,s.2.2.1,s.2.2.2.1,s.t.1,s.t.2.1,s.t.q.1,s.t.q.2.1,zl s.t.t.1,s.t.t.2.1,s.t.t.q.1,zl s.t.t.q.2.1,s.t.t.t) (zl g)).getD (bQ [.bool])).1}:fT))).val:=by kernel_rfl
 show(F3v [.sl zh z,zC zn s,zC .expr g] (λ_=>.dead) 0).val=_;rw[h,<-e,zk,VF (sk E · · |>zhs) (zht (KH F)) (xW _ (KH G))];rfl
end Cad
