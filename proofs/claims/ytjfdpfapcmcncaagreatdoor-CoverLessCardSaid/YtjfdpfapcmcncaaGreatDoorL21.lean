/- The document's plans: sources, who refers, places, conditions. The document's plans: places, conditions. -/
import Derived.Test.YtjfdpfapcmcncaaGreatDoorL17
import Derived.Test.YtjfdpfapcmcncaaGreatDoorL19
import Derived.Test.YtjfdpfapcmcncaaGreatDoorL20
import Derived.Test.YtjfdpfapcmcncaaGreatDoorL14
import Derived.Test.YtjfdpfapcmcncaaGreatDoorL16
namespace Cad
open Go Go.Proofs
open Tr renaming val→Q8
open Bool renaming false→Q4,true→Q3
open Option renaming some→Q1
open Decidable renaming decide→Q0
open Int (toNat)
open List (getD length)
open Tr (chk br re)
open AV (nils agg tup ptr kb str sl)
set_option maxHeartbeats 4000000
theorem sP(p:Sem zA):l7 p=Q1 (bM p.2.1 p.2.2.1,()):=by
 unfold bM;by_cases h:(p.2.2.1==[])=Q3
 ·rw[if_pos h];refine zH (r:=(.vec 0,[.vec Sh.str [p.2.1]])) ?_ rfl;simp only[zfG,Q8,h];rfl
 ·rw[if_neg h];have h:(p.2.2.1==[])=Q4:=by simpa using h
  refine zH (r:=(.vec 0,[.vec Sh.str ([p.2.1]++[p.2.2.1])])) ?_ rfl;simp only[zfG,Q8,h];rfl
theorem sO(p:Sem zA):jQ p=Q3:=by unfold jQ;rw[sP];rfl
theorem vu(p:Sem zA):lp p=bM p.2.1 p.2.2.1:=by unfold lp;rw[sP];rfl
theorem yQ(x:zB):∀(l:List zB)(i:Nat),GE.ge (α:=Int) (iG x l (i:Int)) 0↔x∈l
 | [],i=>by
  rw[iG];exact⟨λh=>absurd h (by decide),λh=>by cases h⟩
 | a::r,i=>by
  rw[iG];split
  ·rename_i h;have:x=a:=by simpa using h
   subst this;exact⟨λ_=>yn,λ_=>Int.natCast_nonneg i⟩
  ·rename_i h;have:=yQ x r (i+1);rw[ul]at this;rw[cr];refine⟨λh2=>.inr (this.1 h2),λh2=>this.2 (h2.resolve_left ?_)⟩;rintro rfl;simp at h
theorem ld(l:List zB)(x:zB):aC l x=Q3↔x∈l:=by
 unfold aC;rw[decide_eq_true_iff];exact yQ x l 0
theorem Iv{l:List zB}{s:zB}(hl:l.length<=1000000):yY l s=Q3/\Lo l s=aC l s:=by
 have key:Pv l s=Q1 (aC l s,()):=by
  rcases my (t:=NY) (Φ:=λr=>r=(.kb Q3,[])) 1 (λi=>.h2 l s (i:Int)) (λi=>∀h:i<l.length,l[i]≠s) l.length (λi hi _=>by
   have hv:(NY (.h2 l s (i:Int))).val=if(l[i]==s)=Q3 then Q1 (.inr (.kb Q3,[]))else Q1 (.inl (.h2 l s ((i+1:Nat):Int))):=by
    show(NY (.h2 _ _ _)).val=_;simp only[NY,Q8,af _ _ hi,zJ hi,zw hi,if_true];rw[zr i um]
   by_cases h:l[i]=s
   ·exact .inr ⟨λk=>k hi h,_,zX.of (by rw[hv,if_pos (by simpa using h)]),rfl⟩
   ·exact .inl ⟨λ_=>h,zT.of (by rw[hv,if_neg (by simpa using h)])⟩)with⟨h1,h2⟩|⟨h1,r,h2,rfl⟩
  ·have hn:aC l s=Q4:=by
    rw[<-ib,ld];intro hm;obtain⟨j,hj,e⟩:=g8 hm;exact h1 j hj hj e
   rw[hn];refine zy (s:=.h2 l s 0) rfl (h2.ends (zX.of (r:=(.kb Q4,[])) ?_)) ow rfl;show(NY (.h2 _ _ _)).val=_;simp only[NY,Q8,zC];rfl
  ·have hn:aC l s=Q3:=by
    rw[ld];apply te;intro hm;exact h1 λi _ hi e=>hm (e▸bG hi)
   rw[hn];exact zy (s:=.h2 l s 0) rfl h2 ow rfl
 exact⟨by unfold yY;rw[key];rfl,by unfold Lo;rw[key];rfl⟩
theorem yO{α:Type}(p:α->Bool):∀(l:List α)(i:Nat),(!Q0 (zR p l i>=0))=Q3↔∀x∈l,p x=Q4
 | [],i=>by
  refine⟨λ_ x hx=>(by cases hx),λ_=>?_⟩;rw[zR];rfl
 | y::r,i=>by
  refine⟨λh=>pS p _ i h,λh=>?_⟩;rw[zR,h y sw];exact(yO p r (i+1)).2 λx hx=>h x (by simp[hx])
theorem xw{α:Type}(p:α->Bool)(l:List α):Q0 (GE.ge (α:=Int) (zR p l 0) 0)=Q3↔∃x∈l,p x=Q3:=by
 have h:=yO p l 0;constructor
 ·intro h1;apply te;intro h2;have:=h.2 λx hx=>by
   cases hp:p x
   ·rfl
   ·exact absurd ⟨x,hx,hp⟩ h2
  rw[h1]at this;cases this
 ·rintro⟨x,hx,hp⟩;cases h1:Q0 (GE.ge (α:=Int) (zR p l 0) 0)
  ·have:=h.1 (by rw[h1];rfl) x hx;rw[hp]at this;cases this
  ·rfl
theorem H1{db:List (Sem zh)}{ns:List zB}(hl:db.length<=1000)(hr:∀x∈db,(x:Sem zh).1.t.1.length<=1000)(hn:ns.length<=1000000):om db ns=Q1 (dW db ns,()):=by
 have hin:∀i(hi:i<db.length),(¬(!aC ns db[i].1.1&&Q0 (GE.ge (α:=Int) (zR (λf:Sem zo=>aC ns f.2) db[i].1.t.1 0) 0))=Q3/\zT qt 1002 (.h2 db ns (i:Int)) (.h2 db ns ((i+1:Nat):Int)))\/
   ((!aC ns db[i].1.1&&Q0 (GE.ge (α:=Int) (zR (λf:Sem zo=>aC ns f.2) db[i].1.t.1 0) 0))=Q3/\zX qt 1002 (.h2 db ns (i:Int)) (.kb Q3,[])):=by
  intro i hi;have hx:=hr _ (bG hi);have g:db.getD (i:Int).toNat (zj zh)=db[i]:=af _ _ hi;have h0:zT qt 1 (.h2 db ns (i:Int)) (.h5 db ns (i:Int) ((0:Nat):Int)):=zT.of (by
   show(qt (.h2 _ _ _)).val=_;simp only[qt,Q8,zJ hi,if_true];rfl)
  obtain⟨c1,c2⟩:=Iv (l:=ns) (s:=db[i].1.1) hn;have hN:(qt (.h5 db ns (i:Int) (db[i].1.t.1.length:Int))).val=Q1 (.inl (.h2 db ns ((i+1:Nat):Int))):=by
   show(qt (.h5 _ _ _ _)).val=_;simp only[qt,Q8,g,zC,zw hi,if_true];rw[zr i um];rfl
  rcases my (t:=qt) (Φ:=λr=>r=(.kb Q3,[])) 1 (λj=>.h5 db ns (i:Int) (j:Int)) (λj=>∀h:j<db[i].1.t.1.length,¬(!aC ns db[i].1.1&&aC ns (db[i].1.t.1[j]).2)=Q3) db[i].1.t.1.length (λj hj _=>by
   have gj:getD db[i].1.t.1 (j:Int).toNat (zj zo)=db[i].1.t.1[j]:=af _ _ hj;obtain⟨d1,d2⟩:=Iv (l:=ns) (s:=(db[i].1.t.1[j]).2) hn;have hv:(qt (.h5 db ns (i:Int) (j:Int))).val=if(!aC ns db[i].1.1&&aC ns (db[i].1.t.1[j]).2)=Q3 then Q1 (.inr (.kb Q3,[]))else Q1 (.inl (.h5 db ns (i:Int) ((j+1:Nat):Int))):=by
    show(qt (.h5 _ _ _ _)).val=_;simp only[qt,Q8,g,gj,zJ hj,zw hi,zw hj,c1,c2,d1,d2,if_true,dO];rw[zr j um];cases aC ns db[i].1.1<;>cases aC ns (db[i].1.t.1[j]).2<;>rfl
   by_cases h:(!aC ns db[i].1.1&&aC ns (db[i].1.t.1[j]).2)=Q3
   ·exact .inr ⟨λk=>k hj h,_,zX.of (by rw[hv,if_pos h]),rfl⟩
   ·exact .inl ⟨λ_=>h,zT.of (by rw[hv,if_neg h])⟩)with⟨h1,h2⟩|⟨h1,r,h2,rfl⟩
  ·refine .inl ⟨?_,((h0.trans h2).trans (zT.of hN)).mono ow⟩;intro h;simp only[aE,xw]at h;obtain⟨a1,f,hf,a2⟩:=h;obtain⟨j,hj,rfl⟩:=g8 hf;exact h1 j hj hj (by rw[a1,a2];rfl)
  ·refine .inr ⟨?_,(h0.ends h2).mono ow⟩;apply te;intro h;refine h1 λj _ hj hc=>h ?_
   simp only[aE]at hc;simp only[aE,xw];exact⟨hc.1,_,bG hj,hc.2⟩
 rcases my (t:=qt) (Φ:=λr=>r=(.kb Q3,[])) 1002 (λi=>.h2 db ns (i:Int)) (λi=>∀h:i<db.length,¬(!aC ns db[i].1.1&&Q0 (GE.ge (α:=Int) (zR (λf:Sem zo=>aC ns f.2) db[i].1.t.1 0) 0))=Q3) db.length (λi hi _=>by
  rcases hin i hi with⟨h1,h2⟩|⟨h1,h2⟩
  ·exact .inl ⟨λ_=>h1,h2⟩
  ·exact .inr ⟨λk=>k hi h1,_,h2,rfl⟩)with⟨h1,h2⟩|⟨h1,r,h2,rfl⟩
 ·have hb:dW db ns=Q4:=by
   unfold dW;rw[List.any_eq_false];intro x hx;obtain⟨j,hj,rfl⟩:=g8 hx;exact h1 j hj hj
  rw[hb];have hv:(qt (.h2 db ns (db.length:Int))).val=Q1 (.inr (.kb Q4,[])):=by
   show(qt (.h2 _ _ _)).val=_;simp only[qt,Q8,zC];rfl
  exact zy (s:=.h2 db ns 0) rfl (h2.ends (zX.of hv)) ow rfl
 ·have hb:dW db ns=Q3:=by
   unfold dW;apply te;intro h;rw[ib,List.any_eq_false]at h;exact h1 λi _ hi=>h _ (bG hi)
  rw[hb];exact zy (s:=.h2 db ns 0) rfl h2 ow rfl
theorem K1{db:List (Sem zh)}{ns:List zB}(hl:db.length<=1000)(hr:∀x∈db,(x:Sem zh).1.t.1.length<=1000)(hn:ns.length<=1000000):tW db ns=Q3/\xJ db ns=dW db ns:=by
 have h:=H1 hl hr hn;exact⟨by unfold tW;rw[h];rfl,by unfold xJ;rw[h];rfl⟩
def pl3(t:Sem zp)(names:List zB):Nat->pi
 |0=>.h3 t.2.1 names ((0:Nat):Int)
 |i+1=>.h3b t.2.1 names ((i+1:Nat):Int) (lh t (names.take (i+1)))
theorem ZW{t:Sem zp}{names:List zB}(hc:t.2.1.length<=1000000)(hn:names.length<=1000){i:Nat}(hi:i<names.length):(jT (pl3 t names i)).val=if LT.lt (α:=Int) (zP t names[i]) 0 then Q1 (.inr (.tup [.nils,.int .i64 4],[]))else Q1 (.inl (pl3 t names (i+1))):=by
 have e:eS t.2.1 names[i]=zP t names[i]:=kG hc;have ec:dH t.2.1 names[i]=Q3:=jp hc;have hx:lh t (names.take (i+1))=lh t (names.take i)++[zP t names[i]]:=by
  unfold lh;rw[cU hi,iA];rfl
 cases i with
 | zero=>
  have hx:lh t (names.take 1)=[zP t names[0]]:=hx;show(jT (.h3 _ _ _)).val=_;simp only[jT,Q8,zJ hi,zw hi,if_true,af _ _ hi,e,ec];by_cases h:LT.lt (α:=Int) (zP t names[0]) 0
  ·simp only[zu h,if_true,if_pos h]
  ·simp only[ao h,if_neg h,zF,if_false];rw[if_pos sw,zr 0 um];show _=Q1 (Sum.inl (pi.h3b _ _ _ (lh t (names.take 1))));rw[hx]
 | succ i=>
  show(jT (.h3b _ _ _ _)).val=_;simp only[jT,Q8,zJ hi,zw hi,if_true,af _ _ hi,e,ec];by_cases h:LT.lt (α:=Int) (zP t names[i+1]) 0
  ·simp only[zu h,if_true,if_pos h]
  ·simp only[ao h,if_neg h,zF,if_false];rw[if_pos (by unfold lh;simp;omega),zr (i+1) um];show _=Q1 (Sum.inl (pi.h3b _ _ _ (lh t (names.take (i+1+1)))));rw[hx]
theorem zqf{l:List Int}(hl:l.length<=1000):zX jT (l.length*1001+1) (.h10b ((0:Nat):Int) l) (if l.Nodup then(.tup [.vec 0,.int .i64 0],[.vec zg l])else(.tup [.nils,.int .i64 7],[])):=by
 have hin:∀i(hi:i<l.length),((∀k(hk:k<i),l[k]≠l[i])/\zT jT 1001 (.h10b (i:Int) l) (.h10b ((i+1:Nat):Int) l))\/((¬∀k(hk:k<i),l[k]≠l[i])/\zX jT 1001 (.h10b (i:Int) l) (.tup [.nils,.int .i64 7],[])):=by
  intro i hi;have h0:zT jT 1 (.h10b (i:Int) l) (.h13b (i:Int) ((0:Nat):Int) l):=zT.of (by
   show(jT (.h10b _ _)).val=_;simp only[jT,Q8,zJ hi,if_true];rfl)
  rcases my (t:=jT) (Φ:=λr=>r=(.tup [.nils,.int .i64 7],[])) 1 (λk=>.h13b (i:Int) (k:Int) l) (λk=>∀h:k<i,l[k]≠l[i]) i (λk hk _=>by
   have hkl:k<l.length:=by omega
   have g1:Q0 ((k:Int)<(i:Int))=Q3:=zJ hk;have hv:(jT (.h13b (i:Int) (k:Int) l)).val=if(l[i]==l[k])=Q3 then Q1 (.inr (.tup [.nils,.int .i64 7],[]))else Q1 (.inl (.h13b (i:Int) ((k+1:Nat):Int) l)):=by
    show(jT (.h13b _ _ _)).val=_;simp only[jT,Q8,g1,zw hi,zw hkl,xZ hi,xZ hkl,af _ _ hi,af _ _ hkl,if_true];rw[zr k um]
   by_cases h:l[i]=l[k]
   ·exact .inr ⟨λq=>q hk h.symm,_,zX.of (by rw[hv,if_pos (by simpa using h)]),rfl⟩
   ·exact .inl ⟨λ_=>Ne.symm h,zT.of (by rw[hv,if_neg (by simpa using h)])⟩)with⟨h1,h2⟩|⟨h1,r,h2,rfl⟩
  ·refine .inl ⟨λk hk=>h1 k hk hk,((h0.trans h2).trans (zT.of ?_)).mono ow⟩;show(jT (.h13b _ _ _)).val=_;simp only[jT,Q8,zC];rw[zr i um];rfl
  ·exact .inr ⟨λh=>h1 λk hk _=>h k hk,(h0.ends h2).mono ow⟩
 have hnd:l.Nodup↔∀i,i<l.length->∀h:i<l.length,∀k(hk:k<i),l[k]≠l[i]:=by
  unfold List.Nodup;rw[List.pairwise_iff_getElem];exact⟨λh i _ hi k hk=>h k i ow hi hk,λh i j hi hj hij=>h j hj hj i hij⟩
 rcases my (t:=jT) (Φ:=λr=>r=(.tup [.nils,.int .i64 7],[])) 1001 (λi=>.h10b (i:Int) l) (λi=>∀h:i<l.length,∀k(hk:k<i),l[k]≠l[i]) l.length (λi hi _=>by
  rcases hin i hi with⟨h1,h2⟩|⟨h1,h2⟩
  ·exact .inl ⟨λ_=>h1,h2⟩
  ·exact .inr ⟨λh=>h1 (h hi),_,h2,rfl⟩)with⟨h1,h2⟩|⟨h1,r,h2,rfl⟩
 ·rw[if_pos (hnd.2 h1)];refine(h2.ends (zX.of ?_)).mono ow;show(jT (.h10b _ _)).val=_;simp only[jT,Q8,zC];rfl
 ·rw[if_neg (λh=>h1 (hnd.1 h))];exact h2.mono ow
theorem H0{t:Sem zp}{names:List zB}(hc:t.2.1.length<=1000000)(hn:names.length<=1000):ol t.2.1 names=Q1 (if gz t names=0 then lh t names else[],gz t names,()):=by
 have hi:(zle t.2.1 names).val=Q1 (.inl (pl3 t names 0)):=rfl
 rcases my (t:=jT) (Φ:=λr=>r=(.tup [.nils,.int .i64 4],[])) 1 (pl3 t names) (λi=>∀h:i<names.length,¬LT.lt (α:=Int) (zP t names[i]) 0) names.length (λi hi _=>by
  have hv:=ZW hc hn hi;by_cases h:LT.lt (α:=Int) (zP t names[i]) 0
  ·exact .inr ⟨λq=>q hi h,_,zX.of (by rw[hv,if_pos h]),rfl⟩
  ·exact .inl ⟨λ_=>h,zT.of (by rw[hv,if_neg h])⟩)with⟨h1,h2⟩|⟨h1,r,h2,rfl⟩
 ·have hA:∀s∈names,¬LT.lt (α:=Int) (zP t s) 0:=by
   intro s hs;obtain⟨j,hj,rfl⟩:=g8 hs;exact h1 j hj hj
  have hE:gz t names=if(lh t names).Nodup then 0 else 7:=by unfold gz;rw[if_pos hA];rfl
  have hxl:(lh t names).length=names.length:=by unfold lh;simp
  cases hnm:names.length with
  | zero=>
   have hnil:names=[]:=Ah hnm;subst hnil;have h3:zX jT 2 (pl3 t [] 0) (.tup [.nils,.int .i64 0],[]):=by
    refine(zT.of (s':=.h10 0) ?_).ends (zX.of ?_)
    ·rfl
    ·rfl
   have h0:gz t []=0:=by rw[hE,if_pos (by unfold lh;exact List.nodup_nil)]
   rw[h0,if_pos rfl];exact zy hi h3 ow rfl
  | succ n=>
   rw[hnm]at h2;have e1:lh t (names.take (n+1))=lh t names:=by rw[<-hnm,lN]
   have h3:zT jT 1 (pl3 t names (n+1)) (.h10b ((0:Nat):Int) (lh t names)):=zT.of (by
    show(jT (.h3b _ _ _ _)).val=_;rw[e1,<-hnm];simp only[jT,Q8,zC];rfl)
   have h4:=zqf (l:=lh t names) ow;have h5:=h2.ends (h3.ends h4);rw[hE];by_cases hd:(lh t names).Nodup
   ·rw[if_pos hd]at h5⊢;exact zy hi h5 ow rfl
   ·rw[if_neg hd]at h5⊢;exact zy hi h5 ow rfl
 ·have hE:gz t names=4:=by
   unfold gz;rw[if_neg];intro h;exact h1 λi _ hi=>h _ (bG hi)
  rw[hE];exact zy hi h2 ow rfl
theorem K0{t:Sem zp}{names:List zB}(hc:t.2.1.length<=1000000)(hn:names.length<=1000):oh t.2.1 names=Q3/\rk t.2.1 names=(if gz t names=0 then lh t names else[],gz t names):=by
 have h:=H0 hc hn;exact⟨by unfold oh;rw[h];rfl,by unfold rk;rw[h];rfl⟩
def sf(e:ze)(cols:List (Sem zi)):Int:=
 if(e.op==[])=Q3 then 0 else if(bif (bJ e cols).2==0 then bif (bJ e cols).1!=3 then(bJ e cols).1!=0 else Q4 else Q4)=Q3 then 5 else(bJ e cols).2
theorem RM{e:ze}{cols:List (Sem zi)}(hw:tc e)(hl:cols.length<=1000000)(hm:(e.op==[])=Q4->cA e=Q3):A6 e cols=Q1 (sf e cols,()):=by
 unfold sf;cases ho:(e.op==[])
 ·have hme:=hm ho;have h1:=mZ hw;have h2:=rA hw;have h3:=Lb hl hme;have t1:ov e cols=Q3:=by unfold ov;rw[h3];rfl
  have t2:iM e cols=bJ e cols:=by unfold iM;rw[h3];rfl
  have hb:(bif (bJ e cols).2==0 then bif (bJ e cols).1!=0 then(bJ e cols).1!=3 else Q4 else Q4)=(bif (bJ e cols).2==0 then bif (bJ e cols).1!=3 then(bJ e cols).1!=0 else Q4 else Q4):=by
   cases((bJ e cols).2==0)<;>cases((bJ e cols).1!=0)<;>cases((bJ e cols).1!=3)<;>rfl
  have hv:(Zo e cols).val=Q1 (.inr (.int .i64 (if(bif (bJ e cols).2==0 then bif (bJ e cols).1!=3 then(bJ e cols).1!=0 else Q4 else Q4)=Q3 then 5 else(bJ e cols).2),[])):=by
   simp only[Zo,Q8,zk,ho,h1,h2,hme,t1,t2,hb,if_true,zF,if_false,bS];split<;>rfl
  exact zH hv rfl
 ·refine zH (r:=(.int .i64 0,[])) ?_ rfl;simp only[Zo,Q8,ho,if_true]
theorem Dy{e:ze}{cols:List (Sem zi)}(hw:tc e)(hl:cols.length<=1000000)(hm:(e.op==[])=Q4->cA e=Q3):rI e cols=Q3/\xN e cols=sf e cols:=by
 have h:=RM hw hl hm;exact⟨by unfold rI;rw[h];rfl,by unfold xN;rw[h];rfl⟩
theorem EQ(l:List zB):gI l=Lib.join l eZ:=by
 have h:=qq l 0 [];unfold gI;rw[h];have e:l.map md=l:=by
  rw[show(md:zB->zB)=id from rfl];exact List.map_id l
 rw[po,e]
theorem zal{s:Sem zl}(h:pf s)(o:s.1=dv)(hk:ll s=Q3):iS s=NZ s:=by
 unfold ll at hk;simp only[aE,aO]at hk;rw[(iT (zcO h.sh o)).2,tC,BX hk.2.1,EQ];unfold NZ;simp
theorem zam{s:Sem zl}(h:pf s)(o:s.1=gK)(hk:oe s=Q3):iS s=qy s:=by
 unfold oe at hk;simp only[aE]at hk;rw[(iT (zcQ h.sh o)).2,tJ,BX hk.1];unfold qy;simp
theorem WU{s:Sem zl}(h:pf s)(o:s.1=nA)(hk:gN s=Q3):iS s=mf s:=by
 unfold gN at hk;simp only[aE,aO]at hk;rw[(iT (zcP h.sh o hk.1)).2,tG,BX hk.2.1];unfold mf;simp
theorem NE{s:Sem zl}(h:pf s)(hm:jM s.1):∃t,oB s=Q1 (t,eo s,()):=by
 have key:∀(own:Sem zl)(ok:Bool)(t tx:zB),dI s=Q1 (t,own,ok,())->t.length<=900000->Bu own->(ok=Q3->t=tx)->(ok=Q3->iS s=tx)->fw s=(ok&&(zL s.2.1&&ft own s))->∃t,oB s=Q1 (t,eo s,()):=by
  intro own ok t tx h1 h2 h3 h4 h5 h6;obtain⟨t',h7⟩:=GH h h1 h2 h3;refine⟨t',?_⟩;rw[h7,WJ,h6];cases hk:ok
  ·rfl
  ·rw[h5 hk,h4 hk];cases zL s.2.1<;>cases ft own s<;>rfl
 rcases hm with o|o|o
 ·obtain⟨t,h1,h2,h3⟩:=PV h o;exact key _ _ _ _ h1 h2 (eF h (.inl rfl) (.inr rfl) (.inr rfl) (.inr rfl) (.inl rfl) (.inr rfl) (.inr rfl) (.inr rfl)) h3 (zal h o) (Pi h o)
 ·obtain⟨h1,h2⟩:=PW h o;exact key _ _ _ _ h1 h2 (eF h (.inr rfl) (.inr rfl) (.inr rfl) (.inr rfl) (.inl rfl) (.inr rfl) (.inr rfl) (.inr rfl)) (λ_=>rfl) (zam h o) (Pj h o)
 ·obtain⟨t,h1,h2,h3⟩:=L4 h o;exact key _ _ _ _ h1 h2 (eF h (.inl rfl) (.inr rfl) (.inr rfl) (.inr rfl) (.inl rfl) (.inr rfl) (.inr rfl) (.inr rfl)) h3 (WU h o) (KY h o)
theorem OH{g c:ze->ze->Bool}:∀(l m:List ze),l.length=m.length->(∀x∈l,∀y,c x y=Q3/\(g x y=Q3↔x=y))->Rb g c l m=Q3/\(Y6 g l m=Q3↔l=m)
 |[],[],_,_=>⟨rfl,by simp[Y6]⟩
 |[],_::_,h,_=>by simp at h
 |_::_,[],h,_=>by simp at h
 | x::r,y::q,h,hx=>by
  obtain⟨c1,g1⟩:=hx x sw y;obtain⟨c2,g2⟩:=OH r q (by simpa using h) (λz hz=>hx z (by simp[hz]));rw[Rb,Y6];rw[c1];by_cases k:g x y=Q3
  ·have:=g1.1 k;subst this;simp[k,c2,g2]
  ·have hne:x≠y:=λe=>k (g1.2 e)
   simp[k,hne]
theorem LH:∀(N:Nat)(a b:ze),si N a=Q3->ju N a b=Q3/\(fF N a b=Q3↔a=b)
 |0,_,_,h=>by cases h
 | N + 1,.mk op v s l,.mk op' v' s' l',h=>by
  rw[si]at h;simp only[aE,aO,ei]at h;obtain⟨_,ha⟩:=h;have e1:ju (N+1) (.mk op v s l) (.mk op' v' s' l')=(bif op==op' then bif Xe v v' then bif s==s' then yG (fF N) (ju N) l l' else Q3 else Q3 else Q3):=rfl;have e2:fF (N+1) (.mk op v s l) (.mk op' v' s' l')=(bif op==op' then bif Xe v v' then bif s==s' then MH (fF N) l l' else Q4 else Q4 else Q4):=rfl;rw[e1,e2];unfold yG MH;have hV:Xe v v'=Q3↔v=v':=by unfold Xe;simp[Prod.ext_iff]
  by_cases h1:op=op'
  ·by_cases h2:v=v'
   ·by_cases h3:s=s'
    ·by_cases h4:l.length=l'.length
     ·obtain⟨k1,k2⟩:=OH (g:=fF N) (c:=ju N) l l' h4 (λx hx y=>LH N x y (ha x hx));have hb:((↑l.length:Int)!=(↑l'.length:Int))=Q4:=by rw[<-ib,jy];exact λh=>h h4
      rw[hb,hV.2 h2];simp[h1,h3,k1,k2,h2]
     ·have hb:((↑l.length:Int)!=(↑l'.length:Int))=Q3:=jy.2 h4;have hne:l≠l':=λe=>h4 (by rw[e])
      rw[hb,hV.2 h2];simp[h1,h3,hne]
    ·rw[hV.2 h2];simp[h1,h3]
   ·have:Xe v v'=Q4:=by rw[<-ib,hV];exact h2
    rw[this];simp[h1,h2]
  ·simp[h1]
theorem LM{a b:List Int}(h:a.length<=1000000):IQ a b=Q3/\(oX a b=Q3↔a=b):=by
 have key:∃r,IR a b=Q1 (r,())/\(r=Q3↔a=b):=by
  by_cases hl:a.length=b.length
  ·have hb:((↑(length a):Int)!=(↑(length b):Int))=Q4:=by rw[<-ib,jy];exact λh=>h hl
   have hi:(Zp a b).val=Q1 (.inl (.h4 a b (a.length:Int) 0)):=by
    simp only[Zp,Q8,hb];rfl
   rcases lR (t:=znG) (la:=a) (lb:=b) (λi=>.h4 a b (a.length:Int) i) (.inr (.kb Q3,[])) (λi=>getD a (i:Int).toNat (zj zg)==getD b (i:Int).toNat (zj zg)) (λ_ _=>rfl) (λi _ ha hb=>by rw[aZ,af _ _ ha,af _ _ hb]) hl h with⟨q5,k5⟩|⟨q5,k5⟩
   ·exact⟨Q3,zy hi (k5 0 _ rfl) ow rfl,by simp[q5]⟩
   ·exact⟨Q4,zy hi k5 ow rfl,by simp[q5]⟩
  ·refine⟨Q4,zH (r:=GI) ?_ rfl,by simp;exact λe=>hl (by rw[e])⟩;simp only[Zp,Q8,jy.2 hl,if_true]
 obtain⟨r,h1,h2⟩:=key;refine⟨by unfold IQ;rw[h1];rfl,?_⟩;have:oX a b=r:=by unfold oX;rw[h1];rfl
 rw[this];exact h2
theorem WE{a b:List (Sem zi)}(h:a.length<=1000000):NO a b=Q3/\(yZ a b=Q3↔a=b):=by
 have key:∃r,IN a b=Q1 (r,())/\(r=Q3↔a=b):=by
  by_cases hl:a.length=b.length
  ·have hb:((↑(length a):Int)!=(↑(length b):Int))=Q4:=by rw[<-ib,jy];exact λh=>h hl
   have hi:(Zt a b).val=Q1 (.inl (.h4 a b (a.length:Int) 0)):=by
    simp only[Zt,Q8,hb];rfl
   rcases lR (t:=znI) (la:=a) (lb:=b) (λi=>.h4 a b (a.length:Int) i) (.inr (.kb Q3,[])) (λi=>((getD a (i:Int).toNat (zj zi)).1==(getD b (i:Int).toNat (zj zi)).1&&((getD a (i:Int).toNat (zj zi)).2.1==(getD b (i:Int).toNat (zj zi)).2.1&&((getD a (i:Int).toNat (zj zi)).2.2==(getD b (i:Int).toNat (zj zi)).2.2&&Q3)))) (λ_ _=>rfl) (λi _ ha hb=>by rw[S4,af _ _ ha,af _ _ hb]) hl h with⟨q5,k5⟩|⟨q5,k5⟩
   ·exact⟨Q3,zy hi (k5 0 _ rfl) ow rfl,by simp[q5]⟩
   ·exact⟨Q4,zy hi k5 ow rfl,by simp[q5]⟩
  ·refine⟨Q4,zH (r:=GI) ?_ rfl,by simp;exact λe=>hl (by rw[e])⟩;simp only[Zt,Q8,jy.2 hl,if_true]
 obtain⟨r,h1,h2⟩:=key;refine⟨by unfold NO;rw[h1];rfl,?_⟩;have:yZ a b=r:=by unfold yZ;rw[h1];rfl
 rw[this];exact h2
theorem WF{a b:List (Sem zo)}(h:a.length<=1000000):NP a b=Q3/\(Aa a b=Q3↔a=b):=by
 have key:∃r,IP a b=Q1 (r,())/\(r=Q3↔a=b):=by
  by_cases hl:a.length=b.length
  ·have hb:((↑(length a):Int)!=(↑(length b):Int))=Q4:=by rw[<-ib,jy];exact λh=>h hl
   have hi:(Zu a b).val=Q1 (.inl (.h4 a b (a.length:Int) 0)):=by
    simp only[Zu,Q8,hb];rfl
   rcases lR (t:=znJ) (la:=a) (lb:=b) (λi=>.h4 a b (a.length:Int) i) (.inr (.kb Q3,[])) (λi=>((getD a (i:Int).toNat (zj zo)).1==(getD b (i:Int).toNat (zj zo)).1&&((getD a (i:Int).toNat (zj zo)).2==(getD b (i:Int).toNat (zj zo)).2&&Q3))) (λ_ _=>rfl) (λi _ ha hb=>by rw[zfh,af _ _ ha,af _ _ hb]) hl h with⟨q5,k5⟩|⟨q5,k5⟩
   ·exact⟨Q3,zy hi (k5 0 _ rfl) ow rfl,by simp[q5]⟩
   ·exact⟨Q4,zy hi k5 ow rfl,by simp[q5]⟩
  ·refine⟨Q4,zH (r:=GI) ?_ rfl,by simp;exact λe=>hl (by rw[e])⟩;simp only[Zu,Q8,jy.2 hl,if_true]
 obtain⟨r,h1,h2⟩:=key;refine⟨by unfold NP;rw[h1];rfl,?_⟩;have:Aa a b=r:=by unfold Aa;rw[h1];rfl
 rw[this];exact h2
theorem WR{a b:Sem zp}(hc:a.2.1.length<=1000000)(hu:a.2.2.2.1.length<=1000000)(hr:a.t.1.length<=1000000)(he:si 16 a.t.2=Q3):I7 a b=Q3/\(sU a b=Q3↔a=b):=by
 obtain⟨a1,a2,a3,a4,a5,a6⟩:=a;obtain⟨b1,b2,b3,b4,b5,b6⟩:=b;obtain⟨c1,d1⟩:=WE (b:=b2) (show a2.length<=1000000 from hc);obtain⟨c2,d2⟩:=LM (b:=b4) (show a4.length<=1000000 from hu);obtain⟨c3,d3⟩:=WF (b:=b5) (show a5.length<=1000000 from hr);obtain⟨c4,d4⟩:=LH 16 a6 b6 he;have hv:I8 (a1,a2,a3,a4,a5,a6) (b1,b2,b3,b4,b5,b6)=Q1 ((bif a1==b1 then bif a3==b3 then bif yZ a2 b2 then bif oX a4 b4 then bif Aa a5 b5 then fF 16 a6 b6 else Q4 else Q4 else Q4 else Q4 else Q4),()):=by
  refine zH (r:=(.bool _,[])) ?_ rfl;simp only[zlf,Q8,zk,c1,c2,c3,c4];rw[if_pos];cases(a1==b1)<;>cases(a3==b3)<;>cases yZ a2 b2<;>cases oX a4 b4<;>cases Aa a5 b5<;>rfl
 refine⟨by unfold I7;rw[hv];rfl,?_⟩;have:sU (a1,a2,a3,a4,a5,a6) (b1,b2,b3,b4,b5,b6)=(bif a1==b1 then bif a3==b3 then bif yZ a2 b2 then bif oX a4 b4 then bif Aa a5 b5 then fF 16 a6 b6 else Q4 else Q4 else Q4 else Q4 else Q4):=by unfold sU;rw[hv];rfl
 rw[this];simp only[cB];rw[<-d1,<-d2,<-d3,<-d4];have x1:(a1==b1)=Q3↔a1=b1:=aZ;have x3:(a3==b3)=Q3↔a3=b3:=aZ;rw[<-x1,<-x3];cases(a1==b1)<;>cases(a3==b3)<;>cases yZ a2 b2<;>cases oX a4 b4<;>cases Aa a5 b5<;>cases fF 16 a6 b6<;>simp
theorem VT{a b:Sem zA}(hc:a.2.2.2.1.2.1.length<=1000000)(hu:a.2.2.2.1.2.2.2.1.length<=1000000)(hr:a.2.2.2.1.t.1.length<=1000000)(he:si 16 a.2.2.2.1.t.2=Q3)(hx:a.t.1.length<=1000000):HT a b=Q3/\(KV a b=Q3↔a=b):=by
 obtain⟨a1,a2,a3,a4,a5,a6⟩:=a;obtain⟨b1,b2,b3,b4,b5,b6⟩:=b;obtain⟨c1,d1⟩:=WR (b:=b4) hc hu hr he;obtain⟨c2,d2⟩:=LM (b:=b5) (show a5.length<=1000000 from hx);have c1':I7 (a4.1,a4.2.1,a4.2.2.1,a4.2.2.2.1,a4.t.1,a4.t.2) (b4.1,b4.2.1,b4.2.2.1,b4.2.2.2.1,b4.t.1,b4.t.2)=Q3:=c1;have hs:sU (a4.1,a4.2.1,a4.2.2.1,a4.2.2.2.1,a4.t.1,a4.t.2) (b4.1,b4.2.1,b4.2.2.1,b4.2.2.2.1,b4.t.1,b4.t.2)=sU a4 b4:=rfl;have hv:HU (a1,a2,a3,a4,a5,a6) (b1,b2,b3,b4,b5,b6)=Q1 ((bif a1==b1 then bif a2==b2 then bif a3==b3 then bif a6==b6 then bif sU a4 b4 then oX a5 b5 else Q4 else Q4 else Q4 else Q4 else Q4),()):=by
  refine zH (r:=(.bool _,[])) ?_ rfl;simp only[zk4,Q8,zk,c1',hs,c2];rw[if_pos];cases(a1==b1)<;>cases(a2==b2)<;>cases(a3==b3)<;>cases(a6==b6)<;>cases sU a4 b4<;>rfl
 refine⟨by unfold HT;rw[hv];rfl,?_⟩;have:KV (a1,a2,a3,a4,a5,a6) (b1,b2,b3,b4,b5,b6)=(bif a1==b1 then bif a2==b2 then bif a3==b3 then bif a6==b6 then bif sU a4 b4 then oX a5 b5 else Q4 else Q4 else Q4 else Q4 else Q4):=by unfold KV;rw[hv];rfl
 rw[this];simp only[cB];rw[<-d1,<-d2];have x1:(a1==b1)=Q3↔a1=b1:=aZ;have x2:(a2==b2)=Q3↔a2=b2:=aZ;have x3:(a3==b3)=Q3↔a3=b3:=aZ;have x6:(a6==b6)=Q3↔a6=b6:=aZ;rw[<-x1,<-x2,<-x3,<-x6];cases(a1==b1)<;>cases(a2==b2)<;>cases(a3==b3)<;>cases(a6==b6)<;>cases sU a4 b4<;>cases oX a5 b5<;>simp
theorem oN.may{t:Sem zp}(h:oN t)(ho:(t.t.2.op==[])=Q4):cA t.t.2=Q3:=by
 have hc:=h.chk;unfold iR at hc;have hn:fF 16 t.t.2 xD=Q4:=by rw[D0,ho];rfl
 rw[hn,if_neg sw]at hc;rcases zG (cA t.t.2)with c|c
 ·exact c
 ·have ht:bJ t.t.2 t.2.1=(0,1):=by unfold bJ;rw[c];rfl
  rw[ht]at hc;cases hc
theorem MP(t:Sem zp)(row:List (Sem zf))(i:Int):eI t row [] i=if Ji (kd t.t.2 t.2.1 row) 0=Q3 then(9:Int)else 0:=by rw[eI];rfl
theorem yI(t:Sem zp)(row:List (Sem zf))(x:Sem zf)(r:List (Sem zf))(i:Nat):eI t row (x::r) (i:Int)=if(bif x.1==0 then(getD t.2.1 i (zj zi)).2.2 else Q4)=Q3 then(8:Int)else if(bif x.1!=0 then x.1!=(getD t.2.1 i (zj zi)).2.1 else Q4)=Q3 then 5 else eI t row r ((i+1:Nat):Int):=by
 rw[eI];simp only[aK];rfl
theorem CA{t:Sem zp}{row:List (Sem zf)}(hw:L5 t)(hT:oN t)(hr:∀v∈row,mj v)(hl:row.length=t.2.1.length):∀(m i:Nat),row.length-i=m->i<=row.length->zX Ed (m+1) (.h9 row (i:Int) (t,())) (.int .i64 (eI t row (row.drop i) (i:Int)),[])
 | 0,i,hm,hi=>by
  obtain rfl:i=row.length:=by omega
  have hcl:=hw.ncols;rw[jH,MP];refine zX.of ?_;have h8:=hT.n8;rcases zG (t.t.2.op==[])with c|c
  ·have hm:cA t.t.2=Q4:=by
    rcases zG (cA t.t.2)with h|h
    ·rw[Ov h]at c;cases c
    ·exact h
   have hv:kd t.t.2 t.2.1 row=(0,0,[]):=by unfold kd;rw[hm];rfl
   rw[hv];simp only[Ed,Q8,zC,zk];rw[c];rfl
  ·have hm:=hT.may c;have hev:=Wh (cols:=t.2.1) (row:=row) ow hr hw.chk hm;have hec:AZ t.t.2 t.2.1 row=Q3:=by unfold AZ;rw[hev];rfl
   have hevv:H7 t.t.2 t.2.1 row=kd t.t.2 t.2.1 row:=by unfold H7;rw[hev];rfl
   simp only[Ed,Q8,zC,zk,hec,hevv,AU,H3];rw[c];show(if Q3=Q3 then(if Ji (kd t.t.2 t.2.1 row) 0=Q3 then Q1 (Sum.inr (ai 9,[]))else Q1 (Sum.inr (ai 0,[])))else none:Option (G0⊕az))=_;rcases zG (Ji (kd t.t.2 t.2.1 row) 0)with k|k<;>rw[k]<;>rfl
 | m+1,i,hm,hi=>by
  have hlt:i<row.length:=by omega
  have h8:=hT.n8;have ih:=CA hw hT hr hl m (i+1) ow ow;have hd:row.drop i=getD row i (zj zf)::row.drop (i+1):=by
   rw[fH hlt,ba,zQ hlt];rfl
  rw[hd,yI];have hin:zO (i:Int) t.2.1.length=Q3:=zw ow;have hv:(Ed (.h9 row (i:Int) (t,()))).val=if(bif (getD row i (zj zf)).1==0 then(getD t.2.1 i (zj zi)).2.2 else Q4)=Q3 then Q1 (.inr (.int .i64 8,[]))else if(bif (getD row i (zj zf)).1!=0 then(getD row i (zj zf)).1!=(getD t.2.1 i (zj zi)).2.1 else Q4)=Q3 then Q1 (.inr (.int .i64 5,[]))else Q1 (.inl (.h9 row ((i+1:Nat):Int) (t,()))):=by
   simp only[Ed,Q8,zJ hlt,zw hlt,hin,aK,if_true];rw[zr i um];cases((getD row i (zj zf)).1==0)<;>cases((getD row i (zj zf)).1!=0)<;>rfl
  rcases zG (bif (getD row i (zj zf)).1==0 then(getD t.2.1 i (zj zi)).2.2 else Q4)with c|c
  ·rw[c,if_pos Jj]at hv⊢;exact(zX.of hv).mono ow
  ·rw[c,if_neg sw]at hv⊢;rcases zG (bif (getD row i (zj zf)).1!=0 then(getD row i (zj zf)).1!=(getD t.2.1 i (zj zi)).2.1 else Q4)with c2|c2
   ·rw[c2,if_pos Jj]at hv⊢;exact(zX.of hv).mono ow
   ·rw[c2,if_neg sw]at hv⊢;exact(zT.of hv).ends ih
theorem Cz{t:Sem zp}{row:List (Sem zf)}(hw:L5 t)(hT:oN t)(hr:∀v∈row,mj v)(hl:row.length=t.2.1.length):∀(m i:Nat),row.length-i=m->i<=row.length->zX Ed (m+2+row.length) (.h4 row (i:Int) (t,())) (.int .i64 (gq t row (row.drop i) (i:Int)),[])
 | 0,i,hm,hi=>by
  obtain rfl:i=row.length:=by omega
  rw[jH];have hv:(Ed (.h4 row (row.length:Int) (t,()))).val=Q1 (.inl (.h9 row ((0:Nat):Int) (t,()))):=by
   simp only[Ed,Q8,zC];rfl
  have h9:=CA hw hT hr hl row.length 0 ow ow;have e:gq t row [] (row.length:Int)=eI t row (row.drop 0) ((0:Nat):Int):=by
   rw[gq];rfl
  rw[e];exact((zT.of hv).ends h9).mono ow
 | m+1,i,hm,hi=>by
  have hlt:i<row.length:=by omega
  have h8:=hT.n8;have ih:=Cz hw hT hr hl m (i+1) ow ow;have hd:row.drop i=getD row i (zj zf)::row.drop (i+1):=by
   rw[fH hlt,ba,zQ hlt];rfl
  have hvl:=(hr _ (bK (d:=zj zf) hlt)).2.2;have e:gq t row (row.drop i) (i:Int)=if(!bg (getD row i (zj zf)))=Q3 then(1:Int)else gq t row (row.drop (i+1)) ((i+1:Nat):Int):=by
   rw[hd];rw[gq];rfl
  rw[e];have hv:(Ed (.h4 row (i:Int) (t,()))).val=if(!bg (getD row i (zj zf)))=Q3 then Q1 (.inr (.int .i64 1,[]))else Q1 (.inl (.h4 row ((i+1:Nat):Int) (t,()))):=by
   simp only[Ed,Q8,zJ hlt,zw hlt,aK,if_true,lq hvl,oo hvl];rw[zr i um]
  rcases zG (!bg (getD row i (zj zf)))with c|c
  ·rw[c,if_pos Jj]at hv⊢;exact(zX.of hv).mono ow
  ·rw[c,if_neg sw]at hv⊢;exact((zT.of hv).ends ih).mono ow
theorem GA{t:Sem zp}{row:List (Sem zf)}(hw:L5 t)(hr:∀v∈row,mj v):A5 t row=Q1 (eu t row,()):=by
 unfold eu;have hi:(zfP t row).val=if(bif !eM t then Q3 else(row.length:Int)!=(t.2.1.length:Int))=Q3 then Q1 (.inr (.int .i64 1,[]))else Q1 (.inl (.h4 row ((0:Nat):Int) (t,()))):=by
  simp only[zfP,Q8,zk,m7 hw,rH hw,if_true];rfl
 rcases zG (bif !eM t then Q3 else(row.length:Int)!=(t.2.1.length:Int))with c|c
 ·rw[if_pos c]at hi⊢;exact zH hi rfl
 ·rw[if_neg (by rw[c];simp)]at hi⊢;have hm:eM t=Q3:=by
   rcases zG (eM t)with k|k
   ·exact k
   ·rw[k]at c;cases c
  rw[hm]at c;have hl:row.length=t.2.1.length:=by
   have:((row.length:Int)!=(t.2.1.length:Int))=Q4:=c;simp at this;omega
  have hT:=(lD t).1 hm;have h8:=hT.n8;exact zy hi (Cz hw hT hr hl row.length 0 ow ow) ow rfl
theorem RL{t:Sem zp}{row:List (Sem zf)}(hw:L5 t)(hr:∀v∈row,mj v):Ie t row=Q3:=by unfold Ie;rw[GA hw hr];rfl
theorem Wj{t:Sem zp}{row:List (Sem zf)}(hw:L5 t)(hr:∀v∈row,mj v):Nz t row=eu t row:=by unfold Nz;rw[GA hw hr];rfl
theorem eq3(a b:Sem zf):(a.1==b.1&&(a.2.1==b.2.1&&(a.2.2==b.2.2&&Q3)))=Q3↔a=b:=by
 obtain⟨k,n,s⟩:=a;obtain⟨k',n',s'⟩:=b;simp
theorem vJ{rows:List (List (Sem zf))}{c:Int}(hc:∀r∈rows,zO c (length r)=Q3)(hl:rows.length<=1000):∃b,vI rows c=Q1 (b,())/\(b=Q4↔sb rows c):=by
 have h2:=my (t:=ER) (Φ:=λr=>r=(.kb Q3,[])) 1002 (λi=>.h2 rows c (i:Int)) (λi=>∀k,k<i->¬((al c (getD rows i (zj zf.sl))).1≠0/\al c (getD rows i (zj zf.sl))=al c (getD rows k (zj zf.sl)))) rows.length (by
  intro i hi _;have hv:(ER (.h2 rows c (i:Int))).val=Q1 (.inl (.h5 rows c (i:Int) ((0:Nat):Int))):=by
   simp only[ER,Q8,zJ hi];rfl
  have h5:=my (t:=ER) (Φ:=λr=>r=(.kb Q3,[])) 1 (λk=>.h5 rows c (i:Int) (k:Int)) (λk=>¬((al c (getD rows i (zj zf.sl))).1≠0/\al c (getD rows i (zj zf.sl))=al c (getD rows k (zj zf.sl)))) i (by
   intro k hk _;have hk2:k<rows.length:=by omega
   have hv:(ER (.h5 rows c (i:Int) (k:Int))).val=if(bif (al c (getD rows i (zj zf.sl))).1!=0 then(al c (getD rows i (zj zf.sl))).1==(al c (getD rows k (zj zf.sl))).1&&((al c (getD rows i (zj zf.sl))).2.1==(al c (getD rows k (zj zf.sl))).2.1&&((al c (getD rows i (zj zf.sl))).2.2==(al c (getD rows k (zj zf.sl))).2.2&&Q3))else Q4)=Q3 then Q1 (.inr (.kb Q3,[]))else Q1 (.inl (.h5 rows c (i:Int) ((k+1:Nat):Int))):=by
    simp only[ER,Q8,zJ hk,zw hi,zw hk2,hc _ (bK (d:=zj zf.sl) hi),hc _ (bK (d:=zj zf.sl) hk2),aK,if_true];rw[if_pos,zr k um];cases((getD (getD rows i (zj zf.sl)) (toNat c) (zj zf)).1!=0)<;>rfl
   have he:=eq3 (al c (getD rows i (zj zf.sl))) (al c (getD rows k (zj zf.sl)));rcases zG ((al c (getD rows i (zj zf.sl))).1!=0)with d1|d1
   ·have d1':(al c (getD rows i (zj zf.sl))).1≠0:=bne_iff_ne.1 d1;rcases zG ((al c (getD rows i (zj zf.sl))).1==(al c (getD rows k (zj zf.sl))).1&&((al c (getD rows i (zj zf.sl))).2.1==(al c (getD rows k (zj zf.sl))).2.1&&((al c (getD rows i (zj zf.sl))).2.2==(al c (getD rows k (zj zf.sl))).2.2&&Q3)))with d2|d2
    ·exact .inr ⟨λh=>h ⟨d1',he.1 d2⟩,_,zX.of (by rw[hv,d1,d2,if_pos Jj]),rfl⟩
    ·exact .inl ⟨λh=>(by rw[he.2 h.2]at d2;cases d2),zT.of (by rw[hv,d1,d2,if_neg sw])⟩
   ·refine .inl ⟨λh=>h.1 (by simpa using d1),zT.of (by rw[hv,d1,if_neg sw])⟩)
  rcases h5 with⟨p5,g5⟩|⟨p5,r,g5,hr⟩
  ·have hv5:(ER (.h5 rows c (i:Int) (i:Int))).val=Q1 (.inl (.h2 rows c ((i+1:Nat):Int))):=by
    simp only[ER,Q8,zC];rw[zr i um];rfl
   exact .inl ⟨p5,(((zT.of hv).trans g5).trans (zT.of hv5)).mono ow⟩
  ·exact .inr ⟨p5,r,((zT.of hv).ends g5).mono ow,hr⟩)
 have hu:(∀i,i<rows.length->∀k,k<i->¬((al c (getD rows i (zj zf.sl))).1≠0/\al c (getD rows i (zj zf.sl))=al c (getD rows k (zj zf.sl))))↔sb rows c:=by
  unfold sb;rw[List.pairwise_iff_getElem];have e:∀i(hi:i<rows.length),getD rows i (zj zf.sl)=rows[i]:=λi hi=>by rw[ba,zQ hi,dp]
  constructor
  ·intro h i j hi hj hij hne heq;have:=h j hj i hij;rw[e i hi,e j hj]at this;exact this ⟨by rw[<-heq];exact hne,heq.symm⟩
  ·rintro h i hi k hk ⟨h1,h2⟩;rw[e i hi]at h1 h2;rw[e k ow]at h2;exact h k i ow hi hk (by rw[<-h2];exact h1) h2.symm
 have hi:(zlg rows c).val=Q1 (.inl (.h2 rows c ((0:Nat):Int))):=rfl;rcases h2 with⟨p2,g2⟩|⟨p2,r,g2,hr⟩
 ·refine⟨Q4,zy hi (g2.ends (zX.of (r:=(.kb Q4,[])) ?_)) ow rfl,⟨λ_=>hu.1 p2,λ_=>rfl⟩⟩;simp only[ER,Q8,zC];rfl
 ·subst hr;exact⟨Q3,zy hi g2 ow rfl,⟨λh=>(by cases h),λh=>absurd (hu.2 h) p2⟩⟩
theorem Lh{t:Sem zp}{row:List (Sem zf)}(hw:L5 t)(hm:eM t=Q3)(hk:zO t.2.2.1 row.length=Q3):Dz t row=Q1 (al t.2.2.1 row,()):=by
 unfold Dz ah de;have h2:Q0 (LT.lt (α:=Int) t.2.2.1 (row.length:Int))=Q3:=by
  unfold zO at hk;simp only[aE]at hk;exact hk.2
 simp only[zli,Q8,zk,m7 hw,rH hw,hm,hk,h2];rfl
theorem Lg{t:Sem zp}{row:List (Sem zf)}(hw:L5 t)(hm:eM t=Q3)(hk:zO t.2.2.1 row.length=Q3):Ik t row=Q3:=by unfold Ik;rw[Lh hw hm hk];rfl
theorem Pt{t:Sem zp}{row:List (Sem zf)}(hw:L5 t)(hm:eM t=Q3)(hk:zO t.2.2.1 row.length=Q3):Ps t row=al t.2.2.1 row:=by unfold Ps;rw[Lh hw hm hk];rfl
theorem GC{x:Sem zh}{v:Sem zf}(hw:L5 x.1)(hm:eM x.1=Q3)(hk:∀r∈x.2,zO x.1.2.2.1 (length r)=Q3)(hl:x.2.length<=1000):A7 x v=Q1 (zR (λr=>bx r x.1.2.2.1 v) x.2 0,()):=by
 have hh:∀r∈x.2,bx r x.1.2.2.1 v=((al x.1.2.2.1 r).1==v.1&&((al x.1.2.2.1 r).2.1==v.2.1&&((al x.1.2.2.1 r).2.2==v.2.2&&Q3))):=by
  intro r hr;have:=hk r hr;unfold zO at this;simp only[aE]at this;unfold bx;rw[show Q0 (GE.ge (α:=Int) x.1.2.2.1 0)=Q3 from this.1,this.2];rfl
 have hf:=my (t:=WM) (Φ:=λr=>r=(.int .i64 (zR (λr=>bx r x.1.2.2.1 v) x.2 0),[])) 1 (λi=>.h2 (i:Int) (x,()) (v,())) (λi=>bx (getD x.2 i (zj zf.sl)) x.1.2.2.1 v=Q4) x.2.length (by
  intro i hi hj;have hmem:=bK (d:=zj zf.sl) hi;have hkk:=hk _ hmem;have h2:Q0 (LT.lt (α:=Int) x.1.2.2.1 ((getD x.2 i (zj zf.sl)).length:Int))=Q3:=by
   unfold zO at hkk;simp only[aE]at hkk;exact hkk.2
  have hv:(WM (.h2 (i:Int) (x,()) (v,()))).val=if bx (getD x.2 i (zj zf.sl)) x.1.2.2.1 v=Q3 then Q1 (.inr (.int .i64 i,[]))else Q1 (.inl (.h2 ((i+1:Nat):Int) (x,()) (v,()))):=by
   rw[hh _ hmem];simp only[WM,Q8,zk,zJ hi,zw hi,hkk,h2,m7 hw,rH hw,hm,aK,zZ,if_true,yv];rw[zr i um]
  rcases zG (bx (getD x.2 i (zj zf.sl)) x.1.2.2.1 v)with h|h
  ·have hp:=mR (p:=λr=>bx r x.1.2.2.1 v) (d:=zj zf.sl) x.2 0 i hi h hj;refine .inr ⟨by rw[h];simp,_,zX.of (by rw[hv,if_pos h]),?_⟩;show _=(ai (zR (λr=>bx r x.1.2.2.1 v) x.2 0),[]);rw[hp];simp
  ·exact .inl ⟨h,zT.of (by rw[hv,if_neg (by rw[h];simp)])⟩)
 have hi:(zlj x v).val=Q1 (.inl (.h2 ((0:Nat):Int) (x,()) (v,()))):=rfl;rcases hf with⟨h1,h2⟩|⟨h1,r,h2,rfl⟩
 ·have hp:=mS (p:=λr=>bx r x.1.2.2.1 v) (d:=zj zf.sl) x.2 0 h1;rw[hp];refine zy hi (h2.ends (zX.of (r:=(.int .i64 (-1),[])) ?_)) ow rfl;simp only[WM,Q8,zC];rfl
 ·exact zy hi h2 ow rfl
theorem RN{x:Sem zh}{v:Sem zf}(hw:L5 x.1)(hm:eM x.1=Q3)(hk:∀r∈x.2,zO x.1.2.2.1 (length r)=Q3)(hl:x.2.length<=1000):Ij x v=Q3:=by unfold Ij;rw[GC hw hm hk hl];rfl
theorem Wk{x:Sem zh}{v:Sem zf}(hw:L5 x.1)(hm:eM x.1=Q3)(hk:∀r∈x.2,zO x.1.2.2.1 (length r)=Q3)(hl:x.2.length<=1000):NA x v=zR (λr=>bx r x.1.2.2.1 v) x.2 0:=by unfold NA;rw[GC hw hm hk hl];rfl
structure Xd (x:Sem zh):Prop where
 t:L5 x.1
 rows:x.2.length<=1000
 vals:∀r∈x.2,∀v∈(r:List (Sem zf)),mj v
theorem Xd.short{x:Sem zh}(h:Xd x):gS x:=⟨h.t.nuq,h.t.nrf,h.rows⟩
theorem F5{t:Sem zp}{row:List (Sem zf)}:∀(r:List (Sem zf))(i:Nat),eI t row r (i:Int)=(0:Int)->∀j,j<r.length->(getD t.2.1 (i+j) (zj zi)).2.2=Q3->(getD r j (zj zf)).1≠0
 |[],_,_,j,hj,_=>by simp at hj
 | x::r,i,h,j,hj,hn=>by
  rw[yI]at h;split at h
  ·cases h
  rename_i c;split at h
  ·cases h
  cases j with
  | zero=>
   intro h0;have h0':(x.1==0)=Q3:=by simpa using h0
   rw[h0']at c;exact c hn
  | succ j=>
   have:=F5 r (i+1) h j (by simpa using hj) (by rw[show i+1+j=i+(j+1) by omega];exact hn);exact this
theorem F8{t:Sem zp}{row:List (Sem zf)}:∀(r:List (Sem zf))(i:Nat),gq t row r (i:Int)=(0:Int)->(∀v∈r,bg v=Q3)/\eI t row row ((0:Nat):Int)=(0:Int)
 | [],i,h=>by
  rw[gq]at h;exact⟨λv hv=>(by cases hv),h⟩
 | x::r,i,h=>by
  have e:gq t row (x::r) (i:Int)=if(!bg x)=Q3 then(1:Int)else gq t row r ((i+1:Nat):Int):=by
   rw[gq];rfl
  rw[e]at h;split at h
  ·cases h
  rename_i c;obtain⟨h1,h2⟩:=F8 r (i+1) h;refine⟨λv hv=>?_,h2⟩;rcases cr.1 hv with rfl|hv
  ·simpa using c
  ·exact h1 v hv
theorem gW{t:Sem zp}{row:List (Sem zf)}(h:eu t row=(0:Int)):row.length=t.2.1.length/\(∀v∈row,bg v=Q3)/\∀j,j<row.length->(getD t.2.1 j (zj zi)).2.2=Q3->(getD row j (zj zf)).1≠0:=by
 have hl:=CB (t:=t) (row:=row) (by simpa using h);unfold eu at h;split at h
 ·cases h
 obtain⟨h1,h2⟩:=F8 row 0 h;refine⟨hl,h1,λj hj hn=>?_⟩;have:=F5 row 0 h2 j hj (by rwa [jJ]);exact this
theorem Nj{a b:Sem zf}(ha:bg a=Q3)(hb:bg b=Q3)(h:cW a b=(0:Int)):a=b:=by
 unfold cW au at h;rw[ha,hb]at h;have h:HQ [tn a.1 b.1,kR a.2.1 b.2.1,o7 a.2.2 b.2.2]=(0:Int):=h;rw[<-U8]at h;rcases zG (a.1==b.1&&(a.2.1==b.2.1&&(a.2.2==b.2.2&&Q3)))with c|c
 ·exact(eq3 a b).1 c
 ·rw[if_neg (by rw[c];simp)]at h;split at h<;>cases h
theorem Ii{x:Sem zh}(hw:Xd x):∃e:Int,m8 x=Q1 (e,())/\(e=0↔eC x):=by
 have hsw:=hw.rows;have hsu:=hw.t.nuq;by_cases hm:eM x.1=Q3
 case neg=>
  have hm':eM x.1=Q4:=by simpa using hm
  refine⟨1,?_,λh=>(by cases h),λh=>absurd h.may hm⟩;unfold m8 ah de;simp only[Up,Q8,zk,m7 hw.t,rH hw.t,hm'];rfl
 by_cases hwl:x.2.length<=200
 case neg=>
  refine⟨13,?_,λh=>(by cases h),λh=>absurd h.few hwl⟩;unfold m8 ah de;simp only[Up,Q8,zk,m7 hw.t,rH hw.t,hm];rw[if_pos trivial,if_neg sw,if_pos sg];rfl
 have hi:(Up x).val=Q1 (.inl (.h6 ((0:Nat):Int) (x,()))):=by
  simp only[Up,Q8,zk,m7 hw.t,rH hw.t,hm];rw[if_pos trivial,if_neg sw,if_neg sg];rfl
 obtain⟨hkc,hrc,huc,_,_⟩:=im hm;have h6:=my (t:=qr) (Φ:=Xa) 1 (λi=>.h6 (i:Int) (x,())) (λi=>eu x.1 (getD x.2 i (zj zf.sl))=(0:Int)) x.2.length (by
  intro i hi _;have hvr:=hw.vals _ (bK (d:=zj zf.sl) hi);have hv:(qr (.h6 (i:Int) (x,()))).val=if(eu x.1 (getD x.2 i (zj zf.sl))!=0)=Q3 then Q1 (.inr (.int .i64 (eu x.1 (getD x.2 i (zj zf.sl))),[]))else Q1 (.inl (.h6 ((i+1:Nat):Int) (x,()))):=by
   simp only[qr,Q8,zk,zJ hi,zw hi,aK,RL hw.t hvr,Wj hw.t hvr,if_true];rw[zr i um]
  by_cases h:eu x.1 (getD x.2 i (zj zf.sl))=(0:Int)
  ·refine .inl ⟨h,zT.of ?_⟩;rw[hv,if_neg (by rw[h];simp)]
  ·refine .inr ⟨h,_,zX.of (by rw[hv,if_pos (by simpa using h)]),_,rfl,h⟩)
 rcases h6 with⟨hf,h6⟩|⟨hf,r,h6,e,he,hne⟩
 case inr=>
  subst he;exact⟨e,zy hi h6 ow rfl,λh=>absurd h hne,λh=>absurd ((aw (Q:=λr=>eu x.1 r=(0:Int))).2 h.fits) hf⟩
 have hfits:=(aw (Q:=λr=>eu x.1 r=(0:Int))).1 hf;have hlen:∀r∈x.2,length r=x.1.2.1.length:=λr hr=>(gW (hfits r hr)).1
 have hin:∀c,Es c x.1.2.1.length->∀r∈x.2,zO c (length r)=Q3:=λc hc r hr=>by
  rw[hlen r hr];exact uT hc
 obtain⟨b,hb,hbu⟩:=vJ (rows:=x.2) (c:=x.1.2.2.1) (hin _ hkc) hsw;have hbc:na x.2 x.1.2.2.1=Q3:=by unfold na;rw[hb];rfl
 have hbv:rJ x.2 x.1.2.2.1=b:=by unfold rJ;rw[hb];rfl
 have hv6:(qr (.h6 (x.2.length:Int) (x,()))).val=if b=Q3 then Q1 (.inr (.int .i64 7,[]))else Q1 (.inl (.h14 ((0:Nat):Int) (x,()))):=by
  simp only[qr,Q8,zC,hbc,hbv];rfl
 by_cases hb1:b=Q3
 ·refine⟨7,zy hi (h6.ends (zX.of (by rw[hv6,if_pos hb1]))) ow rfl,λh=>(by cases h),λh=>?_⟩;have:=hbu.2 h.key;rw[hb1]at this;cases this
 have hkey:sb x.2 x.1.2.2.1:=hbu.1 (by simpa using hb1);have g14:zT qr _ (.h6 ((0:Nat):Int) (x,())) _:=h6.trans (zT.of (by rw[hv6,if_neg hb1]));have h14:=my (t:=qr) (Φ:=Xa) 1 (λi=>.h14 (i:Int) (x,())) (λi=>sb x.2 (getD x.1.2.2.2.1 i (zj zg))) x.1.2.2.2.1.length (by
  intro i hi _;obtain⟨b,hb,hbu⟩:=vJ (rows:=x.2) (c:=getD x.1.2.2.2.1 i (zj zg)) (hin _ (huc _ (bK hi))) hsw;have hbc:na x.2 (getD x.1.2.2.2.1 i (zj zg))=Q3:=by unfold na;rw[hb];rfl
  have hbv:rJ x.2 (getD x.1.2.2.2.1 i (zj zg))=b:=by unfold rJ;rw[hb];rfl
  have hv:(qr (.h14 (i:Int) (x,()))).val=if b=Q3 then Q1 (.inr (.int .i64 7,[]))else Q1 (.inl (.h14 ((i+1:Nat):Int) (x,()))):=by
   simp only[qr,Q8,zJ hi,zw hi,if_true,aK,hbc,hbv];rw[zr i um]
  by_cases h:b=Q3
  ·refine .inr ⟨λhu=>?_,_,zX.of (by rw[hv,if_pos h]),7,rfl,by decide⟩;have:=hbu.2 hu;rw[h]at this;cases this
  ·exact .inl ⟨hbu.1 (by simpa using h),zT.of (by rw[hv,if_neg h])⟩)
 rcases h14 with⟨hq,h14⟩|⟨hq,r,h14,e,he,hne⟩
 case inr=>
  subst he;exact⟨e,zy hi (g14.ends h14) ow rfl,λh=>absurd h hne,λh=>absurd ((aw (Q:=λu=>sb x.2 u)).2 h.uniq) hq⟩
 have huniq:=(aw (Q:=λu=>sb x.2 u)).1 hq;have hv14:(qr (.h14 (x.1.2.2.2.1.length:Int) (x,()))).val=Q1 (.inl (.h19 ((0+1:Nat):Int) (x,()))):=by
  simp only[qr,Q8,zC];rfl
 have g19:=(g14.trans h14).trans (zT.of hv14);have hstep:∀i,i+1<x.2.length->(As (al x.1.2.2.1 (getD x.2 i (zj zf.sl))) (al x.1.2.2.1 (getD x.2 (i+1) (zj zf.sl)))↔Q0 (GT.gt (α:=Int) (cW (al x.1.2.2.1 (getD x.2 i (zj zf.sl))) (al x.1.2.2.1 (getD x.2 (i+1) (zj zf.sl)))) 0)=Q4):=by
  intro i h2;have h1:i<x.2.length:=by omega
  have m1:=bK (d:=zj zf.sl) h1;have m2:=bK (d:=zj zf.sl) h2;obtain⟨l1,f1,n1⟩:=gW (hfits _ m1);obtain⟨l2,f2,_⟩:=gW (hfits _ m2);have hT:=(lD x.1).1 hm;obtain⟨k1,k2⟩:=hT.key;have hk1:toNat x.1.2.2.1<(getD x.2 i (zj zf.sl)).length:=by rw[l1];omega
  have hk2:toNat x.1.2.2.1<(getD x.2 (i+1) (zj zf.sl)).length:=by rw[l2];omega
  unfold As;constructor
  ·intro h;exact ao ow
  ·intro h;have h:¬GT.gt (α:=Int) (cW (al x.1.2.2.1 (getD x.2 i (zj zf.sl))) (al x.1.2.2.1 (getD x.2 (i+1) (zj zf.sl)))) 0:=of_decide_eq_false h;by_cases h0:@Eq Int (cW (al x.1.2.2.1 (getD x.2 i (zj zf.sl))) (al x.1.2.2.1 (getD x.2 (i+1) (zj zf.sl)))) 0
   ·exfalso;have he:=Nj (f1 _ (bK hk1)) (f2 _ (bK hk2)) h0;have hne:=n1 _ hk1 hT.nn;have hp:=(List.pairwise_iff_getElem.1 hkey) i (i+1) h1 h2 ow;have e1:getD x.2 i (zj zf.sl)=x.2[i]:=by rw[ba,zQ h1,dp]
    have e2:getD x.2 (i+1) (zj zf.sl)=x.2[i+1]:=by rw[ba,zQ h2,dp]
    rw[e1]at hne he;rw[e2]at he;exact hp hne he
   ·omega
 have h19:=my (t:=qr) (Φ:=Xa) 1 (λi=>.h19 ((i+1:Nat):Int) (x,())) (λi=>As (al x.1.2.2.1 (getD x.2 i (zj zf.sl))) (al x.1.2.2.1 (getD x.2 (i+1) (zj zf.sl)))) (x.2.length-1) (by
  intro i hi _;have h1:i<x.2.length:=by omega
  have h2:i+1<x.2.length:=by omega
  have m1:=bK (d:=zj zf.sl) h1;have m2:=bK (d:=zj zf.sl) h2;have k1:=hin _ hkc _ m1;have k2:=hin _ hkc _ m2;have o1:∀r∈x.2,(al x.1.2.2.1 r).2.2.length<=1000000:=by
   intro r hr;by_cases h:toNat x.1.2.2.1<length r
   ·exact(hw.vals r hr _ (bK h)).2.2
   ·unfold al;rw[ba,fy ow];simp[zj]
  have hv:(qr (.h19 ((i+1:Nat):Int) (x,()))).val=if Q0 (GT.gt (α:=Int) (cW (al x.1.2.2.1 (getD x.2 i (zj zf.sl))) (al x.1.2.2.1 (getD x.2 (i+1) (zj zf.sl)))) 0)=Q3 then Q1 (.inr (.int .i64 15,[]))else Q1 (.inl (.h19 ((i+1+1:Nat):Int) (x,()))):=by
   simp only[qr,zk,qE i um];simp only[Q8,zJ h2,zw h2,zw h1,aK,Prod.eta,Lg hw.t hm k1,Lg hw.t hm k2,Pt hw.t hm k1,Pt hw.t hm k2,Nt (o1 _ m1) (o1 _ m2),RJ (o1 _ m1) (o1 _ m2),if_true];rw[zr (i+1) um]
  rcases zG (Q0 (GT.gt (α:=Int) (cW (al x.1.2.2.1 (getD x.2 i (zj zf.sl))) (al x.1.2.2.1 (getD x.2 (i+1) (zj zf.sl)))) 0))with c|c
  ·exact .inr ⟨λh=>(by rw[(hstep i h2).1 h]at c;cases c),_,zX.of (by rw[hv,if_pos c]),15,rfl,by decide⟩
  ·exact .inl ⟨(hstep i h2).2 c,zT.of (by rw[hv,if_neg (by rw[c];simp)])⟩)
 rcases h19 with⟨hr,h19⟩|⟨hr,r,h19,e,he,hne⟩
 case inr=>
  subst he;exact⟨e,zy hi (g19.ends h19) ow rfl,λh=>absurd h hne,λh=>absurd h.rise hr⟩
 have hv19:(qr (.h19 ((x.2.length-1+1:Nat):Int) (x,()))).val=Q1 (.inr (.int .i64 0,[])):=by
  simp only[qr,Q8];rw[if_neg sg]
 exact⟨0,zy hi (g19.ends (h19.ends (zX.of hv19))) ow rfl,λ_=>⟨hm,hwl,hfits,hkey,huniq,hr⟩,λ_=>rfl⟩
theorem Li(s:zB):∀(l:List (Sem zh))(i:Nat),gH s l (i:Int)=zR (λx:Sem zh=>x.1.1==s) l i
 |[],_=>rfl
 | x::r,i=>by
  rw[gH,zR];have h:=Li s r (i+1);have e:(((i+1:Nat)):Int)=(i:Int)+1:=by omega
  rw[e]at h;by_cases hx:(x.1.1==s)=Q3
  ·rw[if_pos hx,if_pos hx]
  ·rw[if_neg hx,if_neg hx,h]
theorem dB(l:List (Sem zh))(s:zB):lw l s=zS l s:=Li s l 0
theorem eC.keys{x:Sem zh}(h:eC x):∀r∈x.2,zO x.1.2.2.1 (length r)=Q3:=by
 intro r hr;obtain⟨h1,_⟩:=im h.may;rw[(gW (h.fits r hr)).1];exact uT h1
theorem TX(x:Sem zh)(c:Int)(v:Sem zf):Q0 (LT.lt (α:=Int) (zR (λr=>bx r c v) x.2 0) 0)=!gZ x c v:=by
 unfold gZ;rcases fU (λr=>bx r c v) x.2 0 with h|⟨h,_⟩
 ·rw[h];rfl
 ·have:Q0 (zR (λr=>bx r c v) x.2 0>=0)=Q3:=zu ow;rw[this,ao ow];rfl
theorem Im{db:List (Sem zh)}(hok:∀x∈db,eC x)(hw:∀x∈db,Xd x)(hl:db.length<=13):∃b,vK db=Q1 (b,())/\(b=Q3↔EX db):=by
 have h2:=my (t:=sm) (Φ:=Xb) 1010000 (λi=>.h2 db (i:Int)) (λi=>∀f∈(getD db i (zj zh)).1.t.1,LE.le (α:=Int) 0 (zS db f.2)/\∀row∈(getD db i (zj zh)).2,(al f.1 row).1≠0->gZ (aD db f.2) (aD db f.2).1.2.2.1 (al f.1 row)=true) db.length (by
  intro i hi _;have hm:=bK (d:=zj zh) hi;have s1:=(hw _ hm).t.nrf;have s2:=(hw _ hm).rows;have hcl:=(hok _ hm).cols;generalize hx:getD db i (zj zh)=x at*;have hv:(sm (.h2 db (i:Int))).val=Q1 (.inl (.h5 db (i:Int) ((0:Nat):Int))):=by
   simp only[sm,Q8,zJ hi];rfl
  have h5:=my (t:=sm) (Φ:=Xb) 1002 (λk=>.h5 db (i:Int) (k:Int)) (λk=>LE.le (α:=Int) 0 (zS db (getD x.1.t.1 k (zj zo)).2)/\∀row∈x.2,(al (getD x.1.t.1 k (zj zo)).1 row).1≠0->gZ (aD db (getD x.1.t.1 k (zj zo)).2) (aD db (getD x.1.t.1 k (zj zo)).2).1.2.2.1 (al (getD x.1.t.1 k (zj zo)).1 row)=Q3) x.1.t.1.length (by
   intro k hk _;have hfm:=bK (d:=zj zo) hk;have hcf:=hcl _ hfm;generalize hf:getD x.1.t.1 k (zj zo)=f at*;have hv:(sm (.h5 db (i:Int) (k:Int))).val=if Q0 (LT.lt (α:=Int) (zS db f.2) 0)=Q3 then Q1 (.inr (.kb Q4,[]))else Q1 (.inl (.h12 db (i:Int) (k:Int) (zS db f.2) ((0:Nat):Int) (f,()))):=by
    simp only[sm,Q8,zw hi,aK,hx,zJ hk,zw hk,hf,dB,if_true];rfl
   by_cases h1:LE.le (α:=Int) 0 (zS db f.2)
   ·have g1:=zT.of (t:=sm) (s:=.h5 db (i:Int) (k:Int)) (by rw[hv,if_neg (by rw[aO];omega)]);have hto:aD db f.2∈db:=bK (by
     rcases yB db f.2 with h|⟨_,h⟩
     ·rw[h]at h1;exact absurd h1 (by decide)
     ·omega)
    have htw:=hw _ hto;have hto2:=hok _ hto;have h12:=my (t:=sm) (Φ:=Xb) 1 (λj=>.h12 db (i:Int) (k:Int) (zS db f.2) (j:Int) (f,())) (λj=>(al f.1 (getD x.2 j (zj zf.sl))).1≠0->gZ (aD db f.2) (aD db f.2).1.2.2.1 (al f.1 (getD x.2 j (zj zf.sl)))=Q3) x.2.length (by
     intro j hj _;have hv:(sm (.h12 db (i:Int) (k:Int) (zS db f.2) (j:Int) (f,()))).val=if(bif (al f.1 (getD x.2 j (zj zf.sl))).1!=0 then !gZ (aD db f.2) (aD db f.2).1.2.2.1 (al f.1 (getD x.2 j (zj zf.sl)))else Q4)=Q3 then Q1 (.inr (.kb Q4,[]))else Q1 (.inl (.h12 db (i:Int) (k:Int) (zS db f.2) ((j+1:Nat):Int) (f,()))):=by
      simp only[sm,Q8,zk,Prod.eta,zw hi,aK,hx,zJ hj,zw hj,hcf _ (bK (d:=zj zf.sl) hj),dF h1,RN htw.t hto2.may hto2.keys htw.rows,if_true,yv];rw[Wk htw.t hto2.may hto2.keys htw.rows,TX];rw[if_pos (by cases((getD (getD x.2 j (zj zf.sl)) (toNat f.1) (zj zf)).1!=0)<;>rfl)];rw[zr j um]
     by_cases d1:(al f.1 (getD x.2 j (zj zf.sl))).1=0
     ·exact .inl ⟨λh=>absurd d1 h,zT.of (by rw[hv,if_neg (by rw[d1];simp)])⟩
     ·have d1':((al f.1 (getD x.2 j (zj zf.sl))).1!=0)=Q3:=by simpa using d1
      by_cases d2:gZ (aD db f.2) (aD db f.2).1.2.2.1 (al f.1 (getD x.2 j (zj zf.sl)))=Q3
      ·exact .inl ⟨λ_=>d2,zT.of (by rw[hv,if_neg (by rw[d2,d1'];simp)])⟩
      ·exact .inr ⟨λh=>d2 (h d1),_,zX.of (by rw[hv,if_pos (by rw[d1'];simpa using d2)]),rfl⟩)
    rcases h12 with⟨p12,g12⟩|⟨p12,r,g12,hr⟩
    ·have hv2:(sm (.h12 db (i:Int) (k:Int) (zS db f.2) (x.2.length:Int) (f,()))).val=Q1 (.inl (.h5 db (i:Int) ((k+1:Nat):Int))):=by
      simp only[sm,Q8,zw hi,aK,hx,zC];rw[zr k um];rfl
     refine .inl ⟨⟨h1,?_⟩,((g1.trans g12).trans (zT.of hv2)).mono ow⟩;exact(aw (Q:=λrow=>(al f.1 row).1≠0->gZ (aD db f.2) (aD db f.2).1.2.2.1 (al f.1 row)=Q3)).1 p12
    ·refine .inr ⟨λh=>p12 ?_,r,(g1.ends g12).mono ow,hr⟩;exact(aw (Q:=λrow=>(al f.1 row).1≠0->gZ (aD db f.2) (aD db f.2).1.2.2.1 (al f.1 row)=Q3)).2 h.2
   ·exact .inr ⟨λh=>h1 h.1,_,(zX.of (by rw[hv,if_pos (by rw[aO];omega)])).mono ow,rfl⟩)
  rcases h5 with⟨p5,g5⟩|⟨p5,r,g5,hr⟩
  ·have hv2:(sm (.h5 db (i:Int) (x.1.t.1.length:Int))).val=Q1 (.inl (.h2 db ((i+1:Nat):Int))):=by
    simp only[sm,Q8,zw hi,aK,hx,zC];rw[zr i um];rfl
   refine .inl ⟨?_,(((zT.of hv).trans g5).trans (zT.of hv2)).mono ow⟩;exact(aw (Q:=λf:Sem zo=>LE.le (α:=Int) 0 (zS db f.2)/\∀row∈x.2,(al f.1 row).1≠0->gZ (aD db f.2) (aD db f.2).1.2.2.1 (al f.1 row)=Q3)).1 p5
  ·refine .inr ⟨λh=>p5 ?_,r,((zT.of hv).ends g5).mono ow,hr⟩;exact(aw (Q:=λf:Sem zo=>LE.le (α:=Int) 0 (zS db f.2)/\∀row∈x.2,(al f.1 row).1≠0->gZ (aD db f.2) (aD db f.2).1.2.2.1 (al f.1 row)=Q3)).2 h)
 have hb:(∀i,i<db.length->∀f∈(getD db i (zj zh)).1.t.1,LE.le (α:=Int) 0 (zS db f.2)/\∀row∈(getD db i (zj zh)).2,(al f.1 row).1≠0->gZ (aD db f.2) (aD db f.2).1.2.2.1 (al f.1 row)=Q3)↔EX db:=
  aw (Q:=λx:Sem zh=>∀f∈x.1.t.1,LE.le (α:=Int) 0 (zS db f.2)/\∀row∈x.2,(al f.1 row).1≠0->gZ (aD db f.2) (aD db f.2).1.2.2.1 (al f.1 row)=Q3)
 have hi:(zla db).val=Q1 (.inl (.h2 db ((0:Nat):Int))):=rfl;rcases h2 with⟨h2,h3⟩|⟨h2,r,h3,h4⟩
 ·refine⟨Q3,zy hi (h3.ends (zX.of (r:=(.kb Q3,[])) ?_)) ow rfl,λ_=>hb.1 h2,λ_=>rfl⟩;simp only[sm,Q8,zC];rfl
 ·unfold Xb at h4;subst h4;exact⟨Q4,zy hi h3 ow rfl,λh=>(by cases h),λh=>absurd (hb.2 h) h2⟩
theorem Ip{db:List (Sem zh)}(hw:∀x∈db,Xd x):∃e:Int,qk db=Q1 (e,())/\(e=0↔jd db):=by
 by_cases hwl:db.length<=12
 case neg=>
  refine⟨13,?_,λh=>(by cases h),λh=>absurd h.few hwl⟩;unfold qk ah de;simp only[i9p,Q8];rw[if_pos sg];rfl
 have hi:(i9p db).val=Q1 (.inl (.h4 db ((0+1:Nat):Int))):=by
  simp only[i9p,Q8];rw[if_neg sg];rfl
 have h4:=my (t:=WN) (Φ:=Xa) 1 (λi=>.h4 db ((i+1:Nat):Int)) (λi=>Op.bytesLess (getD db i (zj zh)).1.1 (getD db (i+1) (zj zh)).1.1=Q3) (db.length-1) (by
  intro i hi _;have h1:i<db.length:=by omega
  have h2:i+1<db.length:=by omega
  have hv:(WN (.h4 db ((i+1:Nat):Int))).val=if(!Op.bytesLess (getD db i (zj zh)).1.1 (getD db (i+1) (zj zh)).1.1)=Q3 then Q1 (.inr (.int .i64 15,[]))else Q1 (.inl (.h4 db ((i+1+1:Nat):Int))):=by
   simp only[WN,qE i um];simp only[Q8,zJ h2,zw h2,zw h1,aK,if_true];rw[zr (i+1) um]
  by_cases h:Op.bytesLess (getD db i (zj zh)).1.1 (getD db (i+1) (zj zh)).1.1=Q3
  ·exact .inl ⟨h,zT.of (by rw[hv,if_neg (by rw[h];simp)])⟩
  ·exact .inr ⟨h,_,zX.of (by rw[hv,if_pos (by simpa using h)]),15,rfl,by decide⟩)
 rcases h4 with⟨hn,h4⟩|⟨hn,r,h4,e,he,hne⟩
 case inr=>
  subst he;exact⟨e,zy hi h4 ow rfl,λh=>absurd h hne,λh=>absurd h.names hn⟩
 have hv4:(WN (.h4 db ((db.length-1+1:Nat):Int))).val=Q1 (.inl (.h9 db ((0:Nat):Int))):=by
  simp only[WN,Q8];rw[if_neg sg];rfl
 have g9:=h4.trans (zT.of hv4);have h9:=my (t:=WN) (Φ:=Xa) 1 (λi=>.h9 db (i:Int)) (λi=>eC (getD db i (zj zh))) db.length (by
  intro i hi _;obtain⟨e,he,heq⟩:=Ii (hw _ (bK (d:=zj zh) hi));have hc:Dx (getD db i (zj zh))=Q3:=by unfold Dx;rw[he];rfl
  have hv0:Ih (getD db i (zj zh))=e:=by unfold Ih;rw[he];rfl
  have hv:(WN (.h9 db (i:Int))).val=if(e !=0)=Q3 then Q1 (.inr (.int .i64 e,[]))else Q1 (.inl (.h9 db ((i+1:Nat):Int))):=by
   simp only[WN,Q8,zk,zJ hi,zw hi,aK,if_true,Prod.eta,hc,hv0];rw[zr i um]
  by_cases h:e=0
  ·exact .inl ⟨heq.1 h,zT.of (by rw[hv,if_neg (by rw[h];simp)])⟩
  ·exact .inr ⟨λhr=>h (heq.2 hr),_,zX.of (by rw[hv,if_pos (by simpa using h)]),e,rfl,h⟩)
 rcases h9 with⟨hr,h9⟩|⟨hr,r,h9,e,he,hne⟩
 case inr=>
  subst he;exact⟨e,zy hi (g9.ends h9) ow rfl,λh=>absurd h hne,λh=>absurd ((aw (Q:=eC)).2 h.rels) hr⟩
 have hrels:=(aw (Q:=eC)).1 hr;obtain⟨b,hb,hbb⟩:=Im (db:=db) hrels hw ow;have hc:DA db=Q3:=by unfold DA;rw[hb];rfl
 have hv0:Il db=b:=by unfold Il;rw[hb];rfl
 have hv9:(WN (.h9 db (db.length:Int))).val=if(!b)=Q3 then Q1 (.inr (.int .i64 10,[]))else Q1 (.inr (.int .i64 0,[])):=by
  simp only[WN,Q8,zC,hc,hv0];rfl
 by_cases h:b=Q3
 ·exact⟨0,zy hi (g9.ends (h9.ends (zX.of (by rw[hv9,if_neg (by rw[h];simp)])))) ow rfl,λ_=>⟨hwl,hn,hrels,hbb.1 h⟩,λ_=>rfl⟩
 ·exact⟨10,zy hi (g9.ends (h9.ends (zX.of (by rw[hv9,if_pos (by simpa using h)])))) ow rfl,λh=>(by cases h),λhB=>absurd (hbb.2 hB.bound) h⟩
theorem CN(x:Int):∀(l:List Int)(i:Nat),(∃j,∃hj:j<l.length,eP x l (i:Int)=((i+j:Nat):Int)/\l[j]=x/\∀k(hk:k<j),l[k]≠x)\/(eP x l (i:Int)=(-1:Int)/\x∉l)
 |[],i=>.inr ⟨rfl,sw⟩
 | a::r,i=>by
  rw[eP];by_cases h:x=a
  ·rw[if_pos (by simpa using h)];exact .inl ⟨0,sw,sw,h.symm,λk hk=>absurd hk ow⟩
  ·rw[if_neg (by simpa using h),show((i:Int)+1)=((i+1:Nat):Int) by omega];rcases CN x r (i+1)with⟨j,hj,h1,h2,h3⟩|⟨h1,h2⟩
   ·refine .inl ⟨j+1,by simpa using hj,by rw[h1];congr 1;omega,h2,λk hk=>?_⟩;cases k with
    |zero=>exact λe=>h e.symm
    |succ k=>exact h3 k ow
   ·exact .inr ⟨h1,by simp[h2,h]⟩
theorem Uz(l:List Int)(x:Int):(∃j,∃hj:j<l.length,ij l x=(j:Int)/\l[j]=x/\∀k(hk:k<j),l[k]≠x)\/(ij l x=(-1:Int)/\x∉l):=by
 rcases CN x l 0 with⟨j,hj,h1,h2⟩|h
 ·exact .inl ⟨j,hj,by show eP x l ((0:Nat):Int)=_;rw[h1,jJ],h2⟩
 ·exact .inr h
def zav(c:Sem zi):Prop:=zL c.1=Q3/\LE.le (α:=Int) 1 c.2.1/\LE.le (α:=Int) c.2.1 3
theorem oN.col{t:Sem zp}(h:oN t):∀c∈t.2.1,zav c:=by
 intro c hc;obtain⟨i,hi,rfl⟩:=g8 hc;have:=h.cols i hi;rw[ba,zQ hi,dp]at this;exact⟨this.1,this.2.1,this.2.2.1⟩
theorem VX{t:Sem zp}{s:zB}(h:¬LT.lt (α:=Int) (zP t s) 0):toNat (zP t s)<t.2.1.length:=by
 rcases ws t s with h1|⟨h1,h2⟩
 ·rw[h1]at h;simp at h
 ·omega
theorem oN.at{t:Sem zp}(h:oN t){s:zB}(hs:¬LT.lt (α:=Int) (zP t s) 0):zav (getD t.2.1 (toNat (zP t s)) (zj zi)):=h.col _ (uO _ _ (VX hs))
theorem Kl{db:List (Sem zh)}{n:zB}(hB:jd db)(h:(0:Int)<=zS db n):oN (aA db n):=(lD _).1 (hB.rels _ (mQ h)).may
theorem Gq{t:Sem zp}{names:List zB}(h:gz t names=0):(∀s∈names,¬LT.lt (α:=Int) (zP t s) 0)/\(lh t names).Nodup:=by
 unfold gz at h;split at h
 ·rename_i h1;split at h
  ·exact⟨h1,by assumption⟩
  ·cases h
 ·cases h
theorem Ru{s:Sem zl}(hw:pf s)(hst:eo s=Q3)(hm:jM s.1):zL s.2.1=Q3/\bU s.t.t.1=Q3/\(s.1=dv->1<=s.2.2.2.1.length/\s.2.2.2.1.length<=8)/\(s.1=gK->zL s.t.t.t=Q3)/\(s.1=nA->s.2.2.2.1.length=2):=by
 have hp:=me hst;rcases hm with o|o|o
 ·rw[Pi hw o]at hp;simp only[aE,ll,aO]at hp;exact⟨hp.2.1,hp.1.2.1,λ_=>hp.1.1.2,λk=>(by rw[o]at k;cases k),λk=>(by rw[o]at k;cases k)⟩
 ·rw[Pj hw o]at hp;simp only[aE,oe]at hp;exact⟨hp.2.1,hp.1.1,λk=>(by rw[o]at k;cases k),λ_=>hp.1.2.2.1,λk=>(by rw[o]at k;cases k)⟩
 ·rw[KY hw o]at hp;simp only[aE,gN,aO]at hp;exact⟨hp.2.1,hp.1.2.1,λk=>(by rw[o]at k;cases k),λk=>(by rw[o]at k;cases k),λ_=>hp.1.1⟩
abbrev rN(e:Int):az:=(.tup [zPl,.int .i64 e],[])
def wH(r:az)(x:Int×Sem zA):Prop:=aM r.2 [zA,zg] r.1=Q1 (x.2,x.1,())
theorem dY(e:Int):wH (rN e) (e,jP):=rfl
theorem zgj(st:Nat->kL)(R:az){p:Sem zA}(hR:wH R (0,p))
  (hv:∀i,i<=p.2.2.2.1.2.1.length->(dD (st i)).val=if i<p.2.2.2.1.2.1.length then(if ag p.2.2.2.1.2.1 (getD p.2.2.2.1.2.1 i (zj zi)).1=(i:Int)then Q1 (.inl (st (i+1)))else Q1 (.inr (rN 7)))else(if sf p.2.2.2.1.t.2 p.2.2.2.1.2.1=0 then Q1 (.inr R)else Q1 (.inr (rN (sf p.2.2.2.1.t.2 p.2.2.2.1.2.1))))):
  ∃r,zX dD (p.2.2.2.1.2.1.length*1+1) (st 0) r/\wH r (jL 0 p):=by
 have hT:wu p.2.2.2.1=if∃i,i<length p.2.2.2.1.2.1/\zP p.2.2.2.1 (getD p.2.2.2.1.2.1 i (zj zi)).1≠(i:Int)then 7 else sf p.2.2.2.1.t.2 p.2.2.2.1.2.1:=rfl
 unfold jL;rw[if_pos rfl,hT]
 rcases my (t:=dD) (Φ:=λr=>r=rN 7) 1 st (λi=>ag p.2.2.2.1.2.1 (getD p.2.2.2.1.2.1 i (zj zi)).1=(i:Int)) p.2.2.2.1.2.1.length (λi hi _=>by
  have h:=hv i ow;rw[if_pos hi]at h;by_cases c:ag p.2.2.2.1.2.1 (getD p.2.2.2.1.2.1 i (zj zi)).1=(i:Int)
  ·exact .inl ⟨c,zT.of (by rw[h,if_pos c])⟩
  ·exact .inr ⟨c,_,zX.of (by rw[h,if_neg c]),rfl⟩)with⟨h1,h2⟩|⟨h1,r,h2,rfl⟩
 ·have hn:¬∃i,i<length p.2.2.2.1.2.1/\zP p.2.2.2.1 (getD p.2.2.2.1.2.1 i (zj zi)).1≠(i:Int):=by
   rintro⟨i,hi,hne⟩;exact hne (h1 i hi)
  rw[if_neg hn];have h:=hv _ (ae _);rw[if_neg (Nat.lt_irrefl _)]at h;by_cases c:sf p.2.2.2.1.t.2 p.2.2.2.1.2.1=0
  ·rw[if_pos c]at h⊢;exact⟨_,(h2.ends (zX.of h)).mono ow,hR⟩
  ·rw[if_neg c]at h⊢;exact⟨_,(h2.ends (zX.of h)).mono ow,dY _⟩
 ·have hy:∃i,i<length p.2.2.2.1.2.1/\zP p.2.2.2.1 (getD p.2.2.2.1.2.1 i (zj zi)).1≠(i:Int):=by
   apply te;intro hn;refine h1 λi hi=>?_
   apply te;exact λhc=>hn ⟨i,hi,hc⟩
  rw[if_pos hy,if_neg (by decide)];exact⟨_,h2.mono ow,dY _⟩
structure Bt (s:Sem zl):Prop where
 wf:tc s.t.t.1
 may:(s.t.t.1.op==[])=Q4->cA s.t.t.1=Q3
abbrev plQ(z:zn QG):Sem zA:=(z.1,z.2.1,z.2.2.1,(z.2.2.2.1,z.t.1,z.t.2.1,[],[],z.t.q.1),z.t.q.2.1,z.t.t.1)
theorem zmg{s:Sem zl}(hs:Bt s)(z1:zn jZ)(z:zn zfb)(hz:z.t.q.1=s.t.t.1)(hl:length z.t.1<=1000):
  ∃r,zX dD (length z.t.1*1+1) (.h64 ((0:Nat):Int) (s,()) z1 z) r/\wH r (jL 0 (plQ z)):=by
 obtain⟨k1,k2⟩:=Dy (cols:=z.t.1) hs.wf ow hs.may;refine zgj (p:=plQ z) (λi=>.h64 (i:Int) (s,()) z1 z) ?R ?h ?v
 case v=>
  intro i hi;by_cases h:i<length z.t.1
  ·have e1:dH z.t.1 (getD z.t.1 i (zj zi)).1=Q3:=jp ow;have e2:eS z.t.1 (getD z.t.1 i (zj zi)).1=ag z.t.1 (getD z.t.1 i (zj zi)).1:=kG ow;rw[if_pos h];simp only[dD,rE,Q8,zJ h,zw h,aK,e1,e2,if_true];rw[zr i um];by_cases c:ag z.t.1 (getD z.t.1 i (zj zi)).1=(i:Int)
   ·rw[if_pos c,if_neg (by simpa using c)]
   ·rw[if_neg c,if_pos (by simpa using c)]
  ·obtain rfl:i=length z.t.1:=Nat.le_antisymm hi ow;rw[if_neg h];show(dD (.h64 _ _ _ _)).val=if sf z.t.q.1 z.t.1=0 then Q1 (Sum.inr _)else Q1 (Sum.inr (rN (sf z.t.q.1 z.t.1)))
   rw[hz];simp only[dD,rE,Q8,zC,zk,k1,k2,if_true,zF,if_false];by_cases c:sf s.t.t.1 z.t.1=0
   ·rw[if_pos c,if_neg (by simpa using c)]
   ·rw[if_neg c,if_pos (by simpa using c)]
 case h=>
  unfold wH;obtain⟨z0,z1,z2,z3,z4,z5,e,z7,z8,z9⟩:=z;cases e;rfl
theorem zmh{s:Sem zl}(hs:Bt s)(z1:zn jZ)(z:zn QG)(hz:z.t.q.1=s.t.t.1)(hl:length z.t.1<=1000):
  ∃r,zX dD (length z.t.1*1+1) (.h64bb ((0:Nat):Int) (s,()) z1 z) r/\wH r (jL 0 (plQ z)):=by
 obtain⟨k1,k2⟩:=Dy (cols:=z.t.1) hs.wf ow hs.may;refine zgj (p:=plQ z) (λi=>.h64bb (i:Int) (s,()) z1 z) ?R ?h ?v
 case v=>
  intro i hi;by_cases h:i<length z.t.1
  ·have e1:dH z.t.1 (getD z.t.1 i (zj zi)).1=Q3:=jp ow;have e2:eS z.t.1 (getD z.t.1 i (zj zi)).1=ag z.t.1 (getD z.t.1 i (zj zi)).1:=kG ow;rw[if_pos h];simp only[dD,rE,Q8,zJ h,zw h,aK,zu h,e1,e2,if_true];rw[zr i um];by_cases c:ag z.t.1 (getD z.t.1 i (zj zi)).1=(i:Int)
   ·rw[if_pos c,if_neg (by simpa using c)]
   ·rw[if_neg c,if_pos (by simpa using c)]
  ·obtain rfl:i=length z.t.1:=Nat.le_antisymm hi ow;rw[if_neg h];show(dD (.h64bb _ _ _ _)).val=if sf z.t.q.1 z.t.1=0 then Q1 (Sum.inr _)else Q1 (Sum.inr (rN (sf z.t.q.1 z.t.1)))
   rw[hz];simp only[dD,rE,Q8,zC,zk,k1,k2,if_true,zF,if_false];by_cases c:sf s.t.t.1 z.t.1=0
   ·rw[if_pos c,if_neg (by simpa using c)]
   ·rw[if_neg c,if_pos (by simpa using c)]
 case h=>
  unfold wH;obtain⟨z0,z1,z2,z3,z4,z5,e,z7,z8,z9⟩:=z;cases e;rfl
theorem zmi{s:Sem zl}(hs:Bt s)(z1:zn jZ)(z:zn S6)(hz:z.t.q.1=s.t.t.1)(hl:length z.t.1<=1000):
  ∃r,zX dD (length z.t.1*1+1) (.h64bbb ((0:Nat):Int) (s,()) z1 z) r/\wH r (jL 0 (plQ z)):=by
 obtain⟨k1,k2⟩:=Dy (cols:=z.t.1) hs.wf ow hs.may;refine zgj (p:=plQ z) (λi=>.h64bbb (i:Int) (s,()) z1 z) ?R ?h ?v
 case v=>
  intro i hi;by_cases h:i<length z.t.1
  ·have e1:dH z.t.1 (getD z.t.1 i (zj zi)).1=Q3:=jp ow;have e2:eS z.t.1 (getD z.t.1 i (zj zi)).1=ag z.t.1 (getD z.t.1 i (zj zi)).1:=kG ow;rw[if_pos h];simp only[dD,rE,Q8,zJ h,zw h,aK,zu h,e1,e2,if_true];rw[zr i um];by_cases c:ag z.t.1 (getD z.t.1 i (zj zi)).1=(i:Int)
   ·rw[if_pos c,if_neg (by simpa using c)]
   ·rw[if_neg c,if_pos (by simpa using c)]
  ·obtain rfl:i=length z.t.1:=Nat.le_antisymm hi ow;rw[if_neg h];show(dD (.h64bbb _ _ _ _)).val=if sf z.t.q.1 z.t.1=0 then Q1 (Sum.inr _)else Q1 (Sum.inr (rN (sf z.t.q.1 z.t.1)))
   rw[hz];simp only[dD,rE,Q8,zC,zk,k1,k2,if_true,zF,if_false];by_cases c:sf s.t.t.1 z.t.1=0
   ·rw[if_pos c,if_neg (by simpa using c)]
   ·rw[if_neg c,if_pos (by simpa using c)]
 case h=>
  unfold wH;obtain⟨z0,z1,z2,z3,z4,z5,e,z7,z8,z9⟩:=z;cases e;rfl
def sK(k:Int)(l:List Int):Nat->Int
 |0=>-1
 |i+1=>if l.getD i 0=k then(i:Int)else sK k l i
theorem KH{k:Int}{l:List Int}{j:Nat}(hj:j<l.length)(hk:l[j]=k)(hn:l.Nodup):∀i,i<=l.length->sK k l i=if j<i then(j:Int)else -1
 |0,_=>rfl
 | i+1,hi=>by
  rw[sK,KH hj hk hn i ow,ba,zQ (by omega:i<l.length),dp];by_cases h:l[i]=k
  ·have:i=j:=by
    rcases Nat.lt_trichotomy i j with c|c|c
    ·exact absurd (h.trans hk.symm) (List.pairwise_iff_getElem.1 hn i j ow hj c)
    ·exact c
    ·exact absurd (hk.trans h.symm) (List.pairwise_iff_getElem.1 hn j i hj ow c)
   rw[if_pos h,if_pos ow,this]
  ·rw[if_neg h];by_cases c:j<i
   ·rw[if_pos c,if_pos ow]
   ·have:j≠i:=by rintro rfl;exact h hk
    rw[if_neg c,if_neg ow]
theorem KI{k:Int}{l:List Int}(hk:k∉l):∀i,i<=l.length->sK k l i=-1
 |0,_=>rfl
 | i+1,hi=>by
  rw[sK,KI hk i ow,ba,zQ (by omega:i<l.length),dp,if_neg];rintro rfl;exact hk (bG _)
theorem U6{k:Int}{l:List Int}(hn:l.Nodup):sK k l l.length=ij l k:=by
 rcases Uz l k with⟨j,hj,h1,h2,_⟩|⟨h1,h2⟩
 ·rw[h1,KH hj h2 hn _ (ae _),if_pos hj]
 ·rw[h1,KI h2 _ (ae _)]
theorem zqa{s:Sem zl}(hs:Bt s)(z1:zn jZ){t:Sem zp}{a b c d:zB}{l:List Int}{on:Int}(hl:l.length<=1000)(hn:l.Nodup)(hin:∀x∈l,zO x t.2.1.length=Q3):
  ∃r k,zX dD k (.h24 ((0:Nat):Int) (s,()) z1 (a,b,c,d,[],-1,s.t.t.1,l,on,()) (t,())) r/\k<=10000/\
   wH r (jL (if LT.lt (α:=Int) (ij l t.2.2.1) 0 then 1 else 0) (a,b,c,(d,l.map (λx=>getD t.2.1 (toNat x) (zj zi)),ij l t.2.2.1,[],[],s.t.t.1),l,on)):=by
 have hg:=zT.all (t:=dD) 1 (λi=>.h24 (i:Int) (s,()) z1 (a,b,c,d,(l.take i).map (λx=>getD t.2.1 (toNat x) (zj zi)),sK t.2.2.1 l i,s.t.t.1,l,on,()) (t,())) l.length (by
  intro i hi;refine zT.of ?_;have e1:getD l ((i:Int).toNat) (zj zg)=l[i]:=af l _ hi;have e2:zO l[i] t.2.1.length=Q3:=hin _ (bG hi);have e3:sK t.2.2.1 l (i+1)=if l[i]=t.2.2.1 then(i:Int)else sK t.2.2.1 l i:=by
   rw[sK,ba,zQ hi,dp]
  have e5:Q0 (length ((l.take i).map (λx=>getD t.2.1 (toNat x) (zj zi)))+length [getD t.2.1 (toNat l[i]) (zj zi)]<=1073741824)=Q3:=zu sg;simp only[dD,rE,Q8,zJ hi,zw hi,e1,e2,e5,if_true];rw[zr i um,cU hi,iA,e3];by_cases k:l[i]=t.2.2.1
  ·rw[if_pos k,if_pos (by simpa using k)];rfl
  ·rw[if_neg k,if_neg (by simpa using k)];rfl)
 rw[lN,U6 hn]at hg;by_cases h:LT.lt (α:=Int) (ij l t.2.2.1) 0
 ·rw[if_pos h];refine⟨rN 1,_,hg.ends (zX.of ?_),ow,dY 1⟩;simp only[dD,rE,Q8,zC,zu h,if_true,zF,if_false]
 ·rw[if_neg h];obtain⟨r,h1,h2⟩:=zmh hs z1 (a,b,c,d,l.map (λx=>getD t.2.1 (toNat x) (zj zi)),ij l t.2.2.1,s.t.t.1,l,on,()) rfl (by simpa using hl);refine⟨r,_,hg.ends ((zT.of ?_).ends h1),sg,h2⟩;simp only[dD,rE,Q8,zC,ao h,zF,if_false];rfl
theorem yN(a:Int)(b:zB):∀(l:List (Sem zo))(i:Nat),GE.ge (α:=Int) (iF a b l (i:Int)) 0↔(a,b)∈l
 | [],i=>by
  rw[iF];exact⟨λh=>absurd h (by decide),λh=>by cases h⟩
 | x::r,i=>by
  rw[iF];split
  ·rename_i h;have:(a,b)=x:=by
    simp only[Bool.and_true,aE,aZ]at h;exact Prod.ext h.1 h.2
   rw[<-this];exact⟨λ_=>yn,λ_=>Int.natCast_nonneg i⟩
  ·rename_i h;have:=yN a b r (i+1);rw[ul]at this;rw[cr];refine⟨λh2=>.inr (this.1 h2),λh2=>this.2 (h2.resolve_left ?_)⟩;rintro rfl;simp at h
theorem tL(l:List (Sem zo))(x:Sem zo):j4 l x=Q3↔x∈l:=by
 unfold j4;rw[decide_eq_true_iff];exact yN x.1 x.2 l 0
def lc(on:Int)(w:zB)(l:List (Sem zo)):Bool:=l.any λf=>f.1==on&&f.2==w
theorem MQ(on:Int)(w:zB)(l:List (Sem zo)):lc on w l=j4 l (on,w):=by
 apply iY.2;rw[tL];unfold lc;rw[List.any_eq_true];constructor
 ·rintro⟨f,hf,h⟩;simp only[aE,aZ]at h;have:f=(on,w):=Prod.ext h.1 h.2
  rwa [this]at hf
 ·intro h;exact⟨_,h,sw⟩
theorem yK(on:Int)(w:zB)(l:List (Sem zo))(f:Sem zo):lc on w (l++[f])=bif lc on w l then Q3 else bif f.1==on then f.2==w else Q4:=by
 unfold lc;simp only[List.any_append,List.any_cons,List.any_nil,Bool.or_false];cases(l.any λf=>f.1==on&&f.2==w)<;>cases(f.1==on)<;>rfl
theorem zqc{s:Sem zl}(hs:Bt s)(z1:zn jZ){t u:Sem zp}{a b c d:zB}{on:Int}(ht:t.2.1.length<=100)(hu:u.2.1.length<=100):
  ∃r k,zX dD k (.h48 ((0:Nat):Int) (s,()) z1 (a,b,c,d,t.2.1,t.2.2.1,s.t.t.1,[],on,()) (u,())) r/\k<=10000/\
   wH r (jL 0 (a,b,c,(d,t.2.1++gG u (length u.2.1),t.2.2.1,[],[],s.t.t.1),kl u.2.2.1 (length u.2.1),on)):=by
 have hg:=zT.all (t:=dD) 1 (λi=>.h48 (i:Int) (s,()) z1 (a,b,c,d,t.2.1++gG u i,t.2.2.1,s.t.t.1,kl u.2.2.1 i,on,()) (u,())) u.2.1.length (by
  intro i hi;refine zT.of ?_;have hoth:=pV u.2.2.1 i;have hsucc:=Gp u.2.2.1 i;have l1:(kl u.2.2.1 i).length<=100:=by unfold kl;rw[di];omega
  have l2:(gG u i).length<=100:=by unfold gG;rw[di];omega
  simp only[dD,Q8,zJ hi,zw hi,if_true,af _ _ hi];rw[zr i um];by_cases k:((i:Int)!=u.2.2.1)=Q3
  ·rw[if_pos k]at hsucc;rw[if_pos k,if_pos sg,if_pos sg,gG,gG,kl,kl,hsucc,iA,iA,<-BG];simp[zQ hi]
  ·rw[if_neg k]at hsucc;rw[if_neg k,gG,gG,kl,kl,hsucc])
 have l1:(gG u (length u.2.1)).length<=100:=by have:=pV u.2.2.1 (length u.2.1);unfold gG;rw[di];omega
 obtain⟨r,h1,h2⟩:=zmi hs z1 (a,b,c,d,t.2.1++gG u (length u.2.1),t.2.2.1,s.t.t.1,kl u.2.2.1 (length u.2.1),on,()) rfl sg;have h3:zT dD 1 (.h48 (u.2.1.length:Int) (s,()) z1 (a,b,c,d,t.2.1++gG u (length u.2.1),t.2.2.1,s.t.t.1,kl u.2.2.1 (length u.2.1),on,()) (u,())) (.h64bbb ((0:Nat):Int) (s,()) z1 (a,b,c,d,t.2.1++gG u (length u.2.1),t.2.2.1,s.t.t.1,kl u.2.2.1 (length u.2.1),on,())):=zT.of (by
  simp only[dD,Q8,zC];rfl)
 have h0:t.2.1++gG u 0=t.2.1:=yr _;have h5:=hg.ends (h3.ends h1);rw[h0]at h5;exact⟨r,_,h5,sg,h2⟩
theorem zqb{s:Sem zl}(hs:Bt s)(z1:zn jZ){t u:Sem zp}{a b c d:zB}{k0 on:Int}(ht:t.2.1.length<=100)(hu:u.2.1.length<=100)(hr:t.t.1.length<=1000):
  ∃r k,zX dD k (.h38 ((0:Nat):Int) (s,()) z1 (a,b,c,d,k0,s.t.t.1,on,()) (t,()) (u,())) r/\k<=20000/\
   wH r (jL (if j4 t.t.1 (on,s.t.t.t)=Q3 then(if LT.lt (α:=Int) 9 ((length t.2.1:Int)+(length u.2.1:Int))then 13 else 0)else 10) (a,b,c,(d,t.2.1++gG u (length u.2.1),t.2.2.1,[],[],s.t.t.1),kl u.2.2.1 (length u.2.1),on)):=by
 rw[<-MQ];by_cases h0:0<t.t.1.length
 ·have hg0:zT dD 1 (.h38 ((0:Nat):Int) (s,()) z1 (a,b,c,d,k0,s.t.t.1,on,()) (t,()) (u,())) (.h38b (lc on s.t.t.t (t.t.1.take (0+1))) ((0+1:Nat):Int) (s,()) z1 (a,b,c,d,k0,s.t.t.1,on,()) (t,()) (u,())):=zT.of (by
   have e:t.t.1.take (0+1)=[]++[t.t.1[0]]:=cU h0;rw[e,yK];simp only[dD,rE,Q8,zJ h0,zw h0,if_true,af _ _ h0];rw[zr 0 um];cases((t.t.1[0]).1==on)<;>rfl)
  have hg:=zT.all (t:=dD) 1 (λi=>.h38b (lc on s.t.t.t (t.t.1.take (i+1))) ((i+1:Nat):Int) (s,()) z1 (a,b,c,d,k0,s.t.t.1,on,()) (t,()) (u,())) (t.t.1.length-1) (by
   intro i hi;have hi:i+1<t.t.1.length:=by omega
   refine zT.of ?_;rw[cU hi,yK];simp only[dD,rE,Q8,zJ hi,zw hi,af _ _ hi];rw[zr (i+1) um];cases lc on s.t.t.t (t.t.1.take (i+1))<;>cases((t.t.1[i+1]).1==on)<;>rfl)
  have hn:t.t.1.length-1+1=t.t.1.length:=by omega
  rw[hn,lN]at hg;have hw:IntKind.i64.wrap ((↑(length t.2.1):Int)+(↑(length u.2.1):Int))=(↑(length t.2.1):Int)+(↑(length u.2.1):Int):=lJ _ ow ow;by_cases hf:lc on s.t.t.t t.t.1=Q3
  ·rw[if_pos hf];by_cases h9:LT.lt (α:=Int) 9 ((length t.2.1:Int)+(length u.2.1:Int))
   ·rw[if_pos h9];refine⟨rN 13,_,(hg0.trans hg).ends (zX.of ?_),ow,dY 13⟩;simp only[dD,rE,Q8,zC,hf,hw,bS,zF,if_false];rw[if_pos (by simpa using h9)]
   ·rw[if_neg h9];obtain⟨r,k,h1,h2,h3⟩:=zqc hs z1 (a:=a) (b:=b) (c:=c) (d:=d) (on:=on) ht hu;refine⟨r,_,(hg0.trans hg).ends ((zT.of ?_).ends h1),ow,h3⟩;simp only[dD,rE,Q8,zC,hf,hw,bS,zF,if_false];rw[if_neg (by simpa using h9),if_pos sg];rfl
  ·rw[if_neg hf];have hf:lc on s.t.t.t t.t.1=Q4:=by simpa using hf
   refine⟨rN 10,_,(hg0.trans hg).ends (zX.of ?_),ow,dY 10⟩;simp only[dD,rE,Q8,zC,hf,cX,if_true,zF,if_false]
 ·have hnil:t.t.1=[]:=Ah ow;rw[hnil,if_neg (by unfold lc;simp)];refine⟨rN 10,1,zX.of ?_,ow,dY 10⟩;simp only[dD,rE,Q8,hnil];rfl
theorem AL{e:Int}{p:Sem zA}(h:e≠0):jL e p=(e,jP):=by unfold jL;rw[if_neg h]
theorem S5(t:Sem zp)(names:List zB):gE t names=(lh t names).map λx=>getD t.2.1 (toNat x) (zj zi):=by
 unfold gE lh;rw[pq];rfl
theorem of7{db:List (Sem zh)}{s:Sem zl}(hB:jd db)(hw:pf s)(hst:eo s=Q3)(hm:jM s.1)(hb:kO db=(0:Int))(hdb:∀x∈db,Xd x)(z1:zn jZ):
  ∃r k,zX dD k (.h7 db (bM s.2.2.1 s.t.t.t) ((0:Nat):Int) (s,()) z1 (s.1,s.2.2.1,s.t.t.t,s.2.1,0,s.t.t.1,0,())) r/\k<=90000/\wH r (aV db s):=by
 obtain⟨hnm,hmb,m1,m2,m3⟩:=Ru hw hst hm;have hs:Bt s:=⟨hw.chk,λh=>by
  unfold bU at hmb;rcases zG (ic s.t.t.1)with c|c
  ·rw[ky.1 c]at h;cases h
  ·rw[c]at hmb;exact hmb⟩
 have hP:aV db s=if oH db s.2.2.1 s.t.t.t s.2.1=0 then dq db s else(oH db s.2.2.1 s.t.t.t s.2.1,jP):=by
  unfold aV;rw[if_pos ⟨hm,hst,hb⟩]
 have hnl:(bM s.2.2.1 s.t.t.t).length<=2:=by unfold bM;split<;>simp
 rw[hP];clear hP
 rcases my (t:=dD) (Φ:=λr=>r=rN 6) 1 (λi=>.h7 db (bM s.2.2.1 s.t.t.t) (i:Int) (s,()) z1 (s.1,s.2.2.1,s.t.t.t,s.2.1,0,s.t.t.1,0,())) (λi=>∀h:i<(bM s.2.2.1 s.t.t.t).length,LE.le (α:=Int) 0 (zS db (bM s.2.2.1 s.t.t.t)[i])) (bM s.2.2.1 s.t.t.t).length (λi hi _=>by
  have hv:(dD (.h7 db (bM s.2.2.1 s.t.t.t) (i:Int) (s,()) z1 (s.1,s.2.2.1,s.t.t.t,s.2.1,0,s.t.t.1,0,()))).val=if LT.lt (α:=Int) (zS db (bM s.2.2.1 s.t.t.t)[i]) 0 then Q1 (.inr (rN 6))else Q1 (.inl (.h7 db (bM s.2.2.1 s.t.t.t) ((i+1:Nat):Int) (s,()) z1 (s.1,s.2.2.1,s.t.t.t,s.2.1,0,s.t.t.1,0,()))):=by
   simp only[dD,rE,Q8,zJ hi,zw hi,if_true,af _ _ hi,dB];rw[zr i um];by_cases c:LT.lt (α:=Int) (zS db (bM s.2.2.1 s.t.t.t)[i]) 0
   ·rw[if_pos c,if_pos (by simpa using c)]
   ·rw[if_neg c,if_neg (by simpa using c)]
  by_cases c:LT.lt (α:=Int) (zS db (bM s.2.2.1 s.t.t.t)[i]) 0
  ·exact .inr ⟨λh=>by have:=h hi;omega,_,zX.of (by rw[hv,if_pos c]),rfl⟩
  ·exact .inl ⟨λ_=>by omega,zT.of (by rw[hv,if_neg c])⟩)with⟨h1,h2⟩|⟨h1,r,h2,rfl⟩
 rotate_left
 ·have hE:oH db s.2.2.1 s.t.t.t s.2.1=6:=by
   unfold oH;rw[if_neg];intro h;exact h1 λi _ hi=>h _ (bG hi)
  rw[hE,if_neg (by decide)];exact⟨_,_,h2,ow,dY 6⟩
 have hA:∀n∈bM s.2.2.1 s.t.t.t,LE.le (α:=Int) 0 (zS db n):=by
  intro n hn;obtain⟨j,hj,rfl⟩:=g8 hn;exact h1 j hj hj
 have hfr:LE.le (α:=Int) 0 (zS db s.2.2.1):=hA _ (by unfold bM;split<;>simp);have hE:oH db s.2.2.1 s.t.t.t s.2.1=if(Q0 (GE.ge (α:=Int) (zS db s.2.1) 0)||s.2.2.1==s.t.t.t)=Q3 then 7 else if dW db (bM s.2.2.1 s.t.t.t)=Q3 then 10 else 0:=by
  unfold oH;rw[if_pos hA]
 have hl12:=hB.few;obtain⟨f1,f2⟩:=K1 (db:=db) (ns:=bM s.2.2.1 s.t.t.t) ow (λx hx=>(hdb x hx).short.rf|>λh=>by omega) ow;have hT:oN (aA db s.2.2.1):=Kl hB hfr;have t8:=hT.n8;have hnames:=hw.sh.names.1;have hor:(bif Q0 (GE.ge (α:=Int) (zS db s.2.1) 0)then Q3 else s.2.2.1==s.t.t.t)=(Q0 (GE.ge (α:=Int) (zS db s.2.1) 0)||s.2.2.1==s.t.t.t):=by cases Q0 (GE.ge (α:=Int) (zS db s.2.1) 0)<;>rfl
 rw[hE];by_cases c7:(Q0 (GE.ge (α:=Int) (zS db s.2.1) 0)||s.2.2.1==s.t.t.t)=Q3
 ·rw[if_pos c7,if_neg (by decide)];refine⟨rN 7,_,h2.ends (zX.of ?_),ow,dY 7⟩;simp only[dD,rE,Q8,zC,dB,hor,c7,if_true,zF,if_false]
 rw[if_neg c7];have c7:(Q0 (GE.ge (α:=Int) (zS db s.2.1) 0)||s.2.2.1==s.t.t.t)=Q4:=by simpa using c7
 by_cases c10:dW db (bM s.2.2.1 s.t.t.t)=Q3
 ·rw[if_pos c10,if_neg (by decide)];refine⟨rN 10,_,h2.ends (zX.of ?_),ow,dY 10⟩;simp only[dD,rE,Q8,zC,dB,hor,c7,f1,f2,c10,if_true,zF,if_false]
 rw[if_neg c10,if_pos rfl];have c10:dW db (bM s.2.2.1 s.t.t.t)=Q4:=by simpa using c10
 obtain⟨p1,p2⟩:=K0 (t:=aA db s.2.2.1) (names:=s.2.2.2.1) ow ow;have p1:oh (getD db (toNat (zS db s.2.2.1)) (zj zh)).1.2.1 s.2.2.2.1=Q3:=p1;have p2:rk (getD db (toNat (zS db s.2.2.1)) (zj zh)).1.2.1 s.2.2.2.1=(if gz (aA db s.2.2.1) s.2.2.2.1=0 then lh (aA db s.2.2.1) s.2.2.2.1 else[],gz (aA db s.2.2.1) s.2.2.2.1):=p2;unfold dq;by_cases o1:(s.1==dv)=Q3
 ·rw[if_pos o1];unfold wK;by_cases hp:gz (aA db s.2.2.1) s.2.2.2.1=0
  ·rw[if_pos hp];obtain⟨q1,q2⟩:=Gq hp;obtain⟨r,k,e1,e2,e3⟩:=zqa hs z1 (t:=aA db s.2.2.1) (a:=s.1) (b:=s.2.2.1) (c:=s.t.t.t) (d:=s.2.1) (l:=lh (aA db s.2.2.1) s.2.2.2.1) (on:=0) (by unfold lh;rw[di];omega) q2 (by
    intro x hx;obtain⟨n,hn,rfl⟩:=bn.1 hx;exact qV (q1 n hn))
   rw[S5];refine⟨r,_,h2.ends ((zT.of ?_).ends e1),ow,e3⟩;rw[if_pos hp,hp]at p2;simp only[dD,rE,Q8,zC,dB,hor,c7,f1,f2,c10,dF hfr,o1,p1,p2,if_true,zF,if_false,jG];rfl
  ·rw[if_neg hp,AL hp];refine⟨_,_,h2.ends (zX.of ?_),ow,dY _⟩;rw[if_neg hp]at p2;have hp':(gz (aA db s.2.2.1) s.2.2.2.1!=0)=Q3:=by simpa using hp
   simp only[dD,rE,Q8,zC,dB,hor,c7,f1,f2,c10,dF hfr,o1,p1,p2,hp',if_true,zF,if_false]
 rw[if_neg o1];by_cases o2:(s.1==gK)=Q3
 ·rw[if_pos o2];have hr:=m2 (bI o2);have hne:s.t.t.t≠[]:=by intro k;rw[k]at hr;cases hr
  have hwt:gu db s.t.t.t=aA db s.t.t.t:=by unfold gu;rw[if_neg hne]
  have hrl:LE.le (α:=Int) 0 (zS db s.t.t.t):=hA _ (by unfold bM;rw[if_neg (by simpa using hne)];simp);have u8:=(Kl hB hrl).n8;have hrf:(aA db s.2.2.1).t.1.length<=1000:=by have:=(hdb _ (mQ hfr)).short.rf;unfold aA;omega
  have g1:dH (getD db (toNat (zS db s.2.2.1)) (zj zh)).1.2.1 s.t.2.1=Q3:=jp (by show(aA db s.2.2.1).2.1.length<=_;omega);have g2:eS (getD db (toNat (zS db s.2.2.1)) (zj zh)).1.2.1 s.t.2.1=zP (aA db s.2.2.1) s.t.2.1:=kG (by show(aA db s.2.2.1).2.1.length<=_;omega);rw[hwt];unfold il;by_cases h4:LT.lt (α:=Int) (zP (aA db s.2.2.1) s.t.2.1) 0
  ·rw[if_pos h4,AL (by decide)];refine⟨rN 4,_,h2.ends (zX.of ?_),ow,dY 4⟩;simp only[dD,rE,Q8,zC,dB,hor,c7,f1,f2,c10,dF hfr,dF hrl,o1,o2,g1,g2,zu h4,if_true,zF,if_false]
  ·rw[if_neg h4];obtain⟨r,k,e1,e2,e3⟩:=zqb hs z1 (t:=aA db s.2.2.1) (u:=aA db s.t.t.t) (a:=s.1) (b:=s.2.2.1) (c:=s.t.t.t) (d:=s.2.1) (k0:=0) (on:=zP (aA db s.2.2.1) s.t.2.1) ow ow hrf;refine⟨r,_,h2.ends ((zT.of ?_).ends e1),ow,e3⟩;simp only[dD,rE,Q8,zC,dB,hor,c7,f1,f2,c10,dF hfr,dF hrl,o1,o2,g1,g2,ao h4,if_true,zF,if_false];rfl
 rw[if_neg o2];have o3:(s.1==nA)=Q3:=by
  rcases hm with k|k|k
  ·rw[k]at o1;exact absurd rfl o1
  ·rw[k]at o2;exact absurd rfl o2
  ·rw[k];rfl
 rw[if_pos o3];have hl2:=m3 (bI o3);unfold tK;by_cases hp:gz (aA db s.2.2.1) s.2.2.2.1=0
 ·rw[if_pos hp];obtain⟨q1,q2⟩:=Gq hp;rw[if_pos hp,hp]at p2;obtain⟨n0,n1,hn⟩:∃n0 n1,s.2.2.2.1=[n0,n1]:=by
   match s.2.2.2.1,hl2 with
   |[a,b],_=>exact⟨a,b,rfl⟩
  have i0:zO (zP (aA db s.2.2.1) n0) (length (getD db (toNat (zS db s.2.2.1)) (zj zh)).1.2.1)=Q3:=qV (q1 n0 (by rw[hn];simp));have i1:zO (zP (aA db s.2.2.1) n1) (length (getD db (toNat (zS db s.2.2.1)) (zj zh)).1.2.1)=Q3:=qV (q1 n1 (by rw[hn];simp));have x0:(lh (aA db s.2.2.1) s.2.2.2.1).getD (toNat 0) (zj zg)=zP (aA db s.2.2.1) n0:=by rw[hn];rfl
  have x1:(lh (aA db s.2.2.1) s.2.2.2.1).getD (toNat 1) (zj zg)=zP (aA db s.2.2.1) n1:=by rw[hn];rfl
  have xl:(lh (aA db s.2.2.1) s.2.2.2.1).length=2:=by rw[hn];rfl
  have b0:zO 0 2=Q3:=rfl;have b1:zO 1 2=Q3:=rfl;have y1:(gE (aA db s.2.2.1) s.2.2.2.1).getD 1 (zj zi)=getD (getD db (toNat (zS db s.2.2.1)) (zj zh)).1.2.1 (toNat (zP (aA db s.2.2.1) n1)) (zj zi):=by rw[hn];rfl
  have y0:(gE (aA db s.2.2.1) s.2.2.2.1).getD 0 (zj zi)=getD (getD db (toNat (zS db s.2.2.1)) (zj zh)).1.2.1 (toNat (zP (aA db s.2.2.1) n0)) (zj zi):=by rw[hn];rfl
  unfold EM;rw[y1,y0];by_cases h5:(getD (getD db (toNat (zS db s.2.2.1)) (zj zh)).1.2.1 (toNat (zP (aA db s.2.2.1) n1)) (zj zi)).2.1=(1:Int)
  ·rw[if_pos h5];obtain⟨r,e1,e3⟩:=zmg hs z1 (s.1,s.2.2.1,s.t.t.t,s.2.1,[((getD (getD db (toNat (zS db s.2.2.1)) (zj zh)).1.2.1 (toNat (zP (aA db s.2.2.1) n0)) (zj zi)).1,(getD (getD db (toNat (zS db s.2.2.1)) (zj zh)).1.2.1 (toNat (zP (aA db s.2.2.1) n0)) (zj zi)).2.1,Q3),((getD (getD db (toNat (zS db s.2.2.1)) (zj zh)).1.2.1 (toNat (zP (aA db s.2.2.1) n1)) (zj zi)).1,(getD (getD db (toNat (zS db s.2.2.1)) (zj zh)).1.2.1 (toNat (zP (aA db s.2.2.1) n1)) (zj zi)).2.1,Q4)],0,s.t.t.1,lh (aA db s.2.2.1) s.2.2.2.1,0,()) rfl sw;have h5':((getD (getD db (toNat (zS db s.2.2.1)) (zj zh)).1.2.1 (toNat (zP (aA db s.2.2.1) n1)) (zj zi)).2.1!=1)=Q4:=by rw[h5];rfl
   refine⟨r,_,h2.ends ((zT.of ?_).ends e1),sg,e3⟩;simp only[dD,rE,Q8,zC,dB,hor,c7,f1,f2,c10,dF hfr,o1,o2,o3,p1,p2,x0,x1,xl,b0,b1,i0,i1,h5',if_true,zF,if_false,jG];rfl
  ·rw[if_neg h5,AL (by decide)];have h5':((getD (getD db (toNat (zS db s.2.2.1)) (zj zh)).1.2.1 (toNat (zP (aA db s.2.2.1) n1)) (zj zi)).2.1!=1)=Q3:=by simpa using h5
   refine⟨rN 5,_,h2.ends (zX.of ?_),ow,dY 5⟩;simp only[dD,rE,Q8,zC,dB,hor,c7,f1,f2,c10,dF hfr,o1,o2,o3,p1,p2,x0,x1,xl,b0,b1,i0,i1,h5',if_true,zF,if_false,jG]
 ·rw[if_neg hp,AL hp];refine⟨_,_,h2.ends (zX.of ?_),ow,dY _⟩;rw[if_neg hp]at p2;have hp':(gz (aA db s.2.2.1) s.2.2.2.1!=0)=Q3:=by simpa using hp
  simp only[dD,rE,Q8,zC,dB,hor,c7,f1,f2,c10,dF hfr,o1,o2,o3,p1,p2,hp',if_true,zF,if_false]
theorem V8{db:List (Sem zh)}{s:Sem zl}(hdb:∀x∈db,Xd x)(hw:pf s):De db s=Q1 ((aV db s).2,(aV db s).1,()):=by
 have hsh:∀x∈db,gS x:=λx hx=>(hdb x hx).short
 obtain⟨e,c1,c2⟩:=Ip hdb;have k1:DB db=Q3:=by unfold DB;rw[c1];rfl
 have k2:In db=e:=by unfold In;rw[c1];rfl
 have one:(Rf db s).val=Q1 (.inr (rN 1))->aV db s=(1,jP)->De db s=Q1 ((aV db s).2,(aV db s).1,()):=by
  intro h h2;rw[h2];exact zH h (dY 1)
 have hS:∀p:Sem zA,jQ p=Q3/\lp p=bM p.2.1 p.2.2.1:=λp=>⟨sO p,vu p⟩
 by_cases hm:jM s.1
 ·obtain⟨t,h⟩:=NE hw hm;have t1:iP s=Q3:=by unfold iP;rw[h];rfl
  have t2:lv s=(t,eo s):=by unfold lv;rw[h];rfl
  have hop:(bif !s.1==dv then bif !s.1==gK then !s.1==nA else Q4 else Q4)=Q4:=by
   rcases hm with k|k|k<;>rw[k]<;>rfl
  by_cases hst:eo s=Q3
  ·by_cases he:e=0
   ·have hB:=c2.1 he;have hb:=(kv hsh).2 hB;obtain⟨r,k,e1,e2,e3⟩:=of7 hB hw hst hm hb hdb ([],[],[],[],0,[],0,0,[],[],0,());refine zy ?_ e1 ow e3;simp only[Rf,rE,Q8,zk,Prod.eta,t1,t2,k1,k2,hst,he,hop,hS,bS,aq,if_true,jG,zF,if_false];rfl
   ·refine one ?_ ?_
    ·have he':(e !=0)=Q3:=by simpa using he
     simp only[Rf,rE,Q8,zk,Prod.eta,t1,t2,k1,k2,hst,he',bS,aq,zZ,if_true]
    ·unfold aV;rw[if_neg];rintro⟨_,_,h⟩;exact he (c2.2 ((kv hsh).1 h))
  ·have hst':eo s=Q4:=by simpa using hst
   refine one ?_ ?_
   ·simp only[Rf,rE,Q8,zk,Prod.eta,t1,t2,hst',cX,zZ,if_true]
   ·unfold aV;rw[if_neg];rintro⟨_,h,_⟩;exact hst h
 ·obtain⟨t,b,h⟩:=ND hw;have t1:iP s=Q3:=by unfold iP;rw[h];rfl
  have t2:lv s=(t,b):=by unfold lv;rw[h];rfl
  have hop:(bif !s.1==dv then bif !s.1==gK then !s.1==nA else Q4 else Q4)=Q3:=by
   have x1:(s.1==dv)=Q4:=by simpa using λk=>hm (.inl k)
   have x2:(s.1==gK)=Q4:=by simpa using λk=>hm (.inr (.inl k))
   have x3:(s.1==nA)=Q4:=by simpa using λk=>hm (.inr (.inr k))
   rw[x1,x2,x3];rfl
  refine one ?_ ?_
  ·simp only[Rf,rE,Q8,zk,Prod.eta,t1,t2,k1,k2,hop,if_true];cases b<;>cases(e !=0)<;>rfl
  ·unfold aV;rw[if_neg λh=>hm h.1]
theorem ii{α:Type}(p:α->Bool):∀(l:List α)(i:Nat),(zR p l i=-1/\∀x∈l,p x=Q4)\/∃(k:Nat)(h:k<l.length),zR p l i=((i+k:Nat):Int)/\p l[k]=Q3/\∀x∈l.take k,p x=Q4
 |[],_=>.inl ⟨rfl,sw⟩
 | x::r,i=>by
  unfold zR;split
  ·rename_i h;exact .inr ⟨0,sw,rfl,h,sw⟩
  ·rename_i h;have hx:p x=Q4:=by simpa using h
   rcases ii p r (i+1)with⟨h1,h2⟩|⟨k,hk,h1,h2,h3⟩
   ·refine .inl ⟨h1,λy hy=>?_⟩;rcases cr.1 hy with rfl|hy
    ·exact hx
    ·exact h2 y hy
   ·refine .inr ⟨k+1,by simpa using hk,by rw[h1];congr 1;omega,by simpa using h2,λy hy=>?_⟩;rw[List.take_succ_cons]at hy;rcases cr.1 hy with rfl|hy
    ·exact hx
    ·exact h3 y hy
theorem MR{db:List (Sem zh)}{n:zB}{x:Sem zh}{i:Nat}(h:zS db n=(i:Int))(hx:db.getD i (zj zh)=x):x.1.1=n:=by
 rcases ii (λy:Sem zh=>y.1.1==n) db 0 with⟨q,_⟩|⟨k,hk,q1,q2,_⟩
 ·exfalso;have h':zR (λy:Sem zh=>y.1.1==n) db 0=(i:Int):=h;rw[q]at h';omega
 ·have h':zR (λy:Sem zh=>y.1.1==n) db 0=(i:Int):=h;rw[q1]at h';obtain rfl:k=i:=by omega
  rw[ba,zQ hk,dp]at hx;subst hx;simpa using q2
def Mr(p:zB->Bool)(t:Sem zp):Sem zp:=(t.1,t.2.1,t.2.2.1,t.2.2.2.1,t.t.1.filter (λf:Sem zo=>p f.2),t.t.2)
def kS(p:zB->Bool)(x:Sem zh):Sem zh:=(Mr p x.1,x.2)
theorem OX{p:zB->Bool}{t:Sem zp}(h:eM t=Q3):eM (Mr p t)=Q3:=by
 have h:=(lD t).1 h;exact(lD _).2 ⟨h.name,h.n1,h.n8,h.cols,h.uniq,λf hf=>h.refs f (List.mem_filter.1 hf).1,h.key,h.nn,h.chk⟩
theorem F6{t:Sem zp}{p:zB->Bool}{row:List (Sem zf)}:∀(r:List (Sem zf))(i:Int),eI (Mr p t) row r i=eI t row r i
 |[],_=>by rw[eI,eI];rfl
 |x::r,i=>by rw[eI,eI,F6 r];rfl
theorem Km{t:Sem zp}{p:zB->Bool}{row:List (Sem zf)}:∀(r:List (Sem zf))(i:Int),gq (Mr p t) row r i=gq t row r i
 |[],_=>by rw[gq,gq,F6]
 |x::r,i=>by rw[gq,gq,Km r]
theorem TY{p:zB->Bool}{t:Sem zp}(h:eM t=Q3)(r:List (Sem zf)):eu (Mr p t) r=eu t r:=by
 unfold eu;rw[h,OX h,Km];rfl
theorem eC.cut{p:zB->Bool}{x:Sem zh}(h:eC x):eC (kS p x) where
 may:=OX h.may
 few:=h.few
 fits:=λr hr=>by
  show eu (Mr p x.1) r=0;rw[TY h.may];exact h.fits r hr
 key:=h.key
 uniq:=h.uniq
 rise:=h.rise
theorem Vh{db:List (Sem zh)}(hB:jd db){x y:Sem zh}(hx:x∈db)(hy:y∈db)(h:x.1.1=y.1.1):x=y:=by
 have hpw:db.Pairwise λx y:Sem zh=>Op.bytesLess x.1.1 y.1.1=Q3:=(wa (R:=λx y:Sem zh=>Op.bytesLess x.1.1 y.1.1=Q3) gL).1 hB.names
 obtain⟨i,hi,rfl⟩:=g8 hx;obtain⟨j,hj,rfl⟩:=g8 hy;rcases Nat.lt_trichotomy i j with g|g|g
 ·have:=List.pairwise_iff_getElem.1 hpw i j hi hj g;rw[h,bN]at this;cases this
 ·subst g;rfl
 ·have:=List.pairwise_iff_getElem.1 hpw j i hj hi g;rw[h,bN]at this;cases this
theorem oD{db:List (Sem zh)}{n:zB}(h:LE.le (α:=Int) 0 (zS db n)):aD db n∈db/\(aD db n).1.1=n:=
 ⟨mQ h,MR (i:=toNat (zS db n)) (Int.toNat_of_nonneg h).symm rfl⟩
theorem jd.src{db db':List (Sem zh)}{p:zB->Bool}(hB:jd db)(h1:db'.length<=12)(h2:db'.Pairwise λx y:Sem zh=>Op.bytesLess x.1.1 y.1.1=Q3)(h3:∀y∈db',∃x∈db,y=kS p x)(h4:∀n,p n=Q3->LE.le (α:=Int) 0 (zS db' n)):jd db' where
 few:=h1
 names:=(wa (R:=λx y:Sem zh=>Op.bytesLess x.1.1 y.1.1=Q3) gL).2 h2
 rels:=λy hy=>by
  obtain⟨x,hx,rfl⟩:=h3 y hy;exact(hB.rels x hx).cut
 bound:=λy hy f hf=>by
  obtain⟨x,hx,rfl⟩:=h3 y hy;obtain⟨hf1,hf2⟩:=List.mem_filter.1 hf;have hn:=h4 f.2 hf2;refine⟨hn,λrow hr hv=>?_⟩;obtain⟨k1,k2⟩:=hB.bound x hx f hf1;have k3:=k2 row hr hv;obtain⟨m1,m2⟩:=oD hn;obtain⟨z,hz,e⟩:=h3 _ m1;obtain⟨n1,n2⟩:=oD k1;have hzz:z=aD db f.2:=Vh hB hz n1 (by rw[n2];rw[e]at m2;exact m2);rw[e,hzz];exact k3
structure iW (ns:List zB) (t t':Sem zp):Prop where
 cols:t'.2.1=t.2.1
 key:t'.2.2.1=t.2.2.1
 refs:∀f:Sem zo,f.2∈ns->(f∈t'.t.1↔f∈t.t.1)
section
variable {ns:List zB} {t t':Sem zp}
theorem iW.place(h:iW ns t t'):zP t'=zP t:=funext λn=>by unfold zP;rw[h.cols]
theorem iW.plc(h:iW ns t t')(l:List zB):gz t' l=gz t l:=by unfold gz;rw[h.place]
theorem iW.ix(h:iW ns t t')(l:List zB):lh t' l=lh t l:=by unfold lh;rw[h.place]
theorem iW.cs(h:iW ns t t')(l:List zB):gE t' l=gE t l:=by unfold gE;rw[h.place,h.cols]
theorem iW.cpy(h:iW ns t t')(l:List zB):wK t' l=wK t l:=by unfold wK;rw[h.plc,h.ix,h.key]
theorem iW.grp(h:iW ns t t')(l:List zB):tK t' l=tK t l/\EM t' l=EM t l:=by unfold tK EM;rw[h.plc,h.cs];exact⟨rfl,rfl⟩
theorem iW.join(h:iW ns t t'){u u':Sem zp}(hu:iW ns u u'){k w:zB}(hw:w∈ns):il t' u' k w=il t u k w:=by
 have:j4 t'.t.1 (zP t k,w)=j4 t.t.1 (zP t k,w):=by
  rw[iY,tL,tL];exact h.refs (zP t k,w) hw
 unfold il;rw[h.place,this,h.cols,hu.cols]
theorem iW.oth(h:iW ns t t')(n:Nat):gG t' n=gG t n:=by unfold gG;rw[h.key,h.cols]
end
abbrev dQ(s:Sem zl):zB:=s.t.t.t
theorem OK{db:List (Sem zh)}{x:Sem zh}(hx:x∈db):LE.le (α:=Int) 0 (zS db x.1.1):=by
 rcases ii (λy:Sem zh=>y.1.1==x.1.1) db 0 with⟨_,h1⟩|⟨k,_,h1,_⟩
 ·have:=h1 x hx;simp at this
 ·have h1:zS db x.1.1=((0+k:Nat):Int):=h1;rw[h1];exact Int.natCast_nonneg _
theorem V1{db db':List (Sem zh)}{s:Sem zl}(hp:(aV db s).1=0)(hc:kO db'=(0:Int))(hf:∀n∈bM s.2.2.1 (dQ s),LE.le (α:=Int) 0 (zS db' n)/\iW (bM s.2.2.1 (dQ s)) (aA db n) (aA db' n))
  (hall:∀x∈db',x.1.1∈bM s.2.2.1 (dQ s)/\∃y∈db,(y:Sem zh).1.1=x.1.1) (hw:s.1=gK->dQ s≠[]):aV db' s=aV db s/\aV db s=dq db s:=by
 unfold aV at hp;split at hp
 case isFalse=>cases hp
 rename_i hm;split at hp
 case isFalse h=>exact absurd hp h
 rename_i h0;have hask:aV db s=dq db s:=by unfold aV;rw[if_pos hm,if_pos h0]
 refine⟨?_,hask⟩;rw[hask];have hsrc:oH db' s.2.2.1 (dQ s) s.2.1=0:=by
  unfold oH at h0⊢;split at h0
  case isFalse=>cases h0
  rw[if_pos λn hn=>(hf n hn).1];split at h0
  case isTrue=>cases h0
  rename_i h2;have h3:¬(Q0 (GE.ge (α:=Int) (zS db' s.2.1) 0)||s.2.2.1==dQ s)=Q3:=by
   intro h4;apply h2;rcases(mE _ _).mp h4 with h4|h4
   ·have h5:LE.le (α:=Int) 0 (zS db' s.2.1):=lM h4;obtain⟨m1,m2⟩:=oD h5;obtain⟨_,y,hy,e⟩:=hall _ m1;have:=OK hy;rw[e,m2]at this;rw[mE];exact .inl (zu this)
   ·rw[mE];exact .inr h4
  rw[if_neg h3,if_neg];unfold dW;intro h4;obtain⟨x,hx,h5⟩:=List.any_eq_true.1 h4;rw[(ld _ _).2 (hall x hx).1]at h5;simp at h5
 have hfrom:s.2.2.1∈bM s.2.2.1 (dQ s):=by unfold bM;split<;>simp
 have ha:=(hf _ hfrom).2;unfold aV;rw[if_pos ⟨hm.1,hm.2.1,hc⟩,if_pos hsrc];unfold dq;by_cases o1:(s.1==dv)=Q3
 ·rw[if_pos o1,if_pos o1,ha.cpy,ha.cs,ha.ix,ha.key]
 rw[if_neg o1,if_neg o1];by_cases o2:(s.1==gK)=Q3
 ·have hr:=hw (bI o2);have hwi:dQ s∈bM s.2.2.1 (dQ s):=by
   unfold bM;rw[if_neg (by simpa using hr)];simp
  have hb:=(hf _ hwi).2;have e1:gu db' (dQ s)=aA db' (dQ s):=by unfold gu;rw[if_neg hr]
  have e2:gu db (dQ s)=aA db (dQ s):=by unfold gu;rw[if_neg hr]
  rw[if_pos o2,if_pos o2,e1,e2,ha.join hb hwi,ha.cols,ha.key,ha.place,hb.cols,hb.key,hb.oth]
 rw[if_neg o2,if_neg o2,(ha.grp _).1,(ha.grp _).2,ha.ix]
end Cad
