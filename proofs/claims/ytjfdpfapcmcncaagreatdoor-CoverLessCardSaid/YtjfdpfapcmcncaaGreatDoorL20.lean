/- The document's sameness of statements: they are the same. The document's conditions and names: their texts. The document's creates: always a text, or none. -/
import Derived.Test.YtjfdpfapcmcncaaGreatDoorL19
import Derived.Test.YtjfdpfapcmcncaaGreatDoorL13
import Derived.Test.YtjfdpfapcmcncaaGreatDoorL16
import Derived.Test.YtjfdpfapcmcncaaGreatDoorL18
namespace Cad
open Go Go.Proofs
open List renaming drop→Qh,take→Qg
open Tr renaming val→Q8
open Sh renaming bool→Q7,str→Q6,expr→Q5
open Bool renaming false→Q4,true→Q3
open Option renaming some→Q1
open Decidable renaming decide→Q0
open Int (toNat)
open List (getD length)
open Tr (chk br re)
open AV (nils agg tup ptr kb str sl)
set_option maxHeartbeats 4000000
theorem VP{x y:Bool}(h:(bif x then Q3 else y)=Q4):x=Q4/\y=Q4:=by
 cases x
 ·exact⟨rfl,h⟩
 ·cases h
theorem Vl{α:Type}[BEq α][LawfulBEq α]{a b:α}(h:(!a==b)=Q4):a=b:=by
 cases hh:(a==b)
 ·rw[hh]at h;cases h
 ·simpa using hh
theorem Rw{α:Type}{a b:List α}(h:((↑(length a):Int)!=(↑(length b):Int))=Q4):a.length=b.length:=by
 simp[bne]at h;omega
structure Bu (a:Sem zl):Prop where
 names:a.2.2.2.1.length<=1000
 cols:a.t.1.length<=1000
 uniques:a.t.q.1.length<=1000
 refs:a.t.q.2.1.length<=1000
 row:a.t.t.2.1.length<=1000
 sets:a.t.t.q.1.length<=1000
 chk:si 16 a.t.t.1=Q3
 whr:si 16 a.t.t.q.2.1=Q3
 ex:∀x∈a.t.t.q.1,si 16 (x:Sem iq).2=Q3
theorem NC{a b:Sem zl}(h:Bu a):∃r,rM a b=Q1 (r,())/\(r=Q3↔a=b):=by
 obtain⟨a1,a2,a3,a4,a5,a6,a7,a8,a9,a10,a11,a12,a13⟩:=a;obtain⟨b1,b2,b3,b4,b5,b6,b7,b8,b9,b10,b11,b12,b13⟩:=b;obtain⟨h4,h5,h7,h8,h10,h11,h9,h12,hx⟩:=h;have h4:a4.length<=1000:=h4;have h5:a5.length<=1000:=h5;have h7:a7.length<=1000:=h7;have h8:a8.length<=1000:=h8;have h10:a10.length<=1000:=h10;have h11:a11.length<=1000:=h11;have hx:∀x∈a11,si 16 (x:Sem iq).2=Q3:=hx;obtain⟨s1,s2⟩:=rB (b:=b9) (show si 16 a9=Q3 from h9);obtain⟨u1,u2⟩:=rB (b:=b12) (show si 16 a12=Q3 from h12);generalize hA:((a1,a2,a3,a4,a5,a6,a7,a8,a9,a10,a11,a12,a13):Sem zl)=A;generalize hB:((b1,b2,b3,b4,b5,b6,b7,b8,b9,b10,b11,b12,b13):Sem zl)=B;have hne:∀r:az,∀{k s},(Zs A B).val=Q1 (.inl s)->A≠B->zX uf k s GI->k<=100000000->∃r,rM A B=Q1 (r,())/\(r=Q3↔A=B):=by
  intro _ k s h1 h h2 h3;exact⟨Q4,zy h1 h2 h3 rfl,by simp[h]⟩
 have hv:∀c d:Bool,(bif !a1==b1 then Q3 else bif !a2==b2 then Q3 else bif !a3==b3 then Q3 else bif !a6==b6 then Q3 else bif !a13==b13 then Q3 else bif !fq a9 b9 then Q3 else !fq a12 b12)=c->
   (bif (↑(length a4):Int)!=(↑(length b4):Int)then Q3 else bif (↑(length a5):Int)!=(↑(length b5):Int)then Q3 else bif (↑(length a7):Int)!=(↑(length b7):Int)then Q3 else bif (↑(length a8):Int)!=(↑(length b8):Int)then Q3 else bif (↑(length a10):Int)!=(↑(length b10):Int)then Q3 else(↑(length a11):Int)!=(↑(length b11):Int))=d->
   (Zs A B).val=if c=Q3 then Q1 (.inr GI)else if d=Q3 then Q1 (.inr GI)else Q1 (.inl (.h6 0 (A,()) (B,()))):=by
  rintro c d rfl rfl;subst hA;subst hB;have hg:∀x:Bool,(bif !a1==b1 then Q3 else bif !a2==b2 then Q3 else bif !a3==b3 then Q3 else bif !a6==b6 then Q3 else bif !a13==b13 then Q3 else gP a9 b9&&bif x then Q3 else gP a12 b12)=Q3:=by
   intro x;rw[s1,u1];cases(!a1==b1)<;>cases(!a2==b2)<;>cases(!a3==b3)<;>cases(!a6==b6)<;>cases(!a13==b13)<;>cases x<;>rfl
  simp only[Zs,Q8,zk];rw[if_pos (hg _)]
 cases hc:(bif !a1==b1 then Q3 else bif !a2==b2 then Q3 else bif !a3==b3 then Q3 else bif !a6==b6 then Q3 else bif !a13==b13 then Q3 else bif !fq a9 b9 then Q3 else !fq a12 b12);rotate_left
 ·refine⟨Q4,zH (r:=GI) (by rw[hv Q3 _ hc rfl];rfl) rfl,?_⟩;constructor
  ·intro h;cases h
  ·intro h;rw[<-hA,<-hB]at h;simp only[cB]at h;obtain⟨rfl,rfl,rfl,rfl,rfl,rfl,rfl,rfl,rfl,rfl,rfl,rfl,rfl⟩:=h;have k1:=s2.2 rfl;have k2:=u2.2 rfl;rw[k1,k2]at hc;simp at hc
 cases hd:(bif (↑(length a4):Int)!=(↑(length b4):Int)then Q3 else bif (↑(length a5):Int)!=(↑(length b5):Int)then Q3 else bif (↑(length a7):Int)!=(↑(length b7):Int)then Q3 else bif (↑(length a8):Int)!=(↑(length b8):Int)then Q3 else bif (↑(length a10):Int)!=(↑(length b10):Int)then Q3 else(↑(length a11):Int)!=(↑(length b11):Int));rotate_left
 ·refine⟨Q4,zH (r:=GI) (by rw[hv Q4 Q3 hc hd];rfl) rfl,?_⟩;constructor
  ·intro h;cases h
  ·intro h;rw[<-hA,<-hB]at h;simp only[cB]at h;obtain⟨rfl,rfl,rfl,rfl,rfl,rfl,rfl,rfl,rfl,rfl,rfl,rfl,rfl⟩:=h;simp at hd
 have hi:=hv Q4 Q4 hc hd;rw[if_neg sw,if_neg sw]at hi;obtain⟨m1,hc⟩:=VP hc;obtain⟨m2,hc⟩:=VP hc;obtain⟨m3,hc⟩:=VP hc;obtain⟨m6,hc⟩:=VP hc;obtain⟨m13,hc⟩:=VP hc;obtain⟨m9,m12⟩:=VP hc;obtain⟨n4,hd⟩:=VP hd;obtain⟨n5,hd⟩:=VP hd;obtain⟨n7,hd⟩:=VP hd;obtain⟨n8,hd⟩:=VP hd;obtain⟨n10,n11⟩:=VP hd;have e1:=Vl m1;have e2:=Vl m2;have e3:=Vl m3;have e6:=Vl m6;have e13:=Vl m13;have e9:=s2.1 (by simpa using m9);have e12:=u2.1 (by simpa using m12);subst e1;subst e2;subst e3;subst e6;subst e13;subst e9;subst e12;have no:∀{k},A≠B->zX uf k (.h6 0 (A,()) (B,())) GI->k<=100000000->∃r,rM A B=Q1 (r,())/\(r=Q3↔A=B):=λh1 h2 h3=>hne GI hi h1 h2 h3
 rcases lR (t:=uf) (la:=a4) (lb:=b4) (λi=>.h6 i (A,()) (B,())) (.inl (.h11 0 (A,()) (B,()))) (λi=>getD a4 (i:Int).toNat (zj Q6)==getD b4 (i:Int).toNat (zj Q6)) (λ_ _=>by subst hA;subst hB;rfl) (λi _ ha hb=>by rw[aZ,af _ _ ha,af _ _ hb]) (Rw n4) ow with⟨q4,k4⟩|⟨q4,k4⟩;rotate_left
 ·exact no (λh=>q4 (by rw[<-hA,<-hB]at h;simp only[cB]at h;exact h.2.2.2.1)) k4 ow
 rcases lR (t:=uf) (la:=a5) (lb:=b5) (λi=>.h11 i (A,()) (B,())) (.inl (.h16 0 (A,()) (B,()))) (λi=>((getD a5 (i:Int).toNat (zj zi)).1==(getD b5 (i:Int).toNat (zj zi)).1&&((getD a5 (i:Int).toNat (zj zi)).2.1==(getD b5 (i:Int).toNat (zj zi)).2.1&&((getD a5 (i:Int).toNat (zj zi)).2.2==(getD b5 (i:Int).toNat (zj zi)).2.2&&Q3)))) (λ_ _=>by subst hA;subst hB;rfl) (λi _ ha hb=>by rw[S4,af _ _ ha,af _ _ hb]) (Rw n5) ow with⟨q5,k5⟩|⟨q5,k5⟩;rotate_left
 ·exact no (λh=>q5 (by rw[<-hA,<-hB]at h;simp only[cB]at h;exact h.t.1)) (k4 _ _ k5) ow
 rcases lR (t:=uf) (la:=a7) (lb:=b7) (λi=>.h16 i (A,()) (B,())) (.inl (.h21 0 (A,()) (B,()))) (λi=>getD a7 (i:Int).toNat (zj Q6)==getD b7 (i:Int).toNat (zj Q6)) (λ_ _=>by subst hA;subst hB;rfl) (λi _ ha hb=>by rw[aZ,af _ _ ha,af _ _ hb]) (Rw n7) ow with⟨q7,k7⟩|⟨q7,k7⟩;rotate_left
 ·exact no (λh=>q7 (by rw[<-hA,<-hB]at h;simp only[cB]at h;exact h.t.q.1)) (k4 _ _ (k5 _ _ k7)) ow
 rcases lR (t:=uf) (la:=a8) (lb:=b8) (λi=>.h21 i (A,()) (B,())) (.inl (.h26 0 (A,()) (B,()))) (λi=>((getD a8 (i:Int).toNat (zj jb)).1==(getD b8 (i:Int).toNat (zj jb)).1&&((getD a8 (i:Int).toNat (zj jb)).2==(getD b8 (i:Int).toNat (zj jb)).2&&Q3))) (λ_ _=>by subst hA;subst hB;rfl) (λi _ ha hb=>by rw[znw,af _ _ ha,af _ _ hb]) (Rw n8) ow with⟨q8,k8⟩|⟨q8,k8⟩;rotate_left
 ·exact no (λh=>q8 (by rw[<-hA,<-hB]at h;simp only[cB]at h;exact h.t.q.2.1)) (k4 _ _ (k5 _ _ (k7 _ _ k8))) ow
 rcases lR (t:=uf) (la:=a10) (lb:=b10) (λi=>.h26 i (A,()) (B,())) (.inl (.h31 0 (A,()) (B,()))) (λi=>((getD a10 (i:Int).toNat (zj zf)).1==(getD b10 (i:Int).toNat (zj zf)).1&&((getD a10 (i:Int).toNat (zj zf)).2.1==(getD b10 (i:Int).toNat (zj zf)).2.1&&((getD a10 (i:Int).toNat (zj zf)).2.2==(getD b10 (i:Int).toNat (zj zf)).2.2&&Q3)))) (λ_ _=>by subst hA;subst hB;rfl) (λi _ ha hb=>by rw[zgW,af _ _ ha,af _ _ hb]) (Rw n10) ow with⟨q10,k10⟩|⟨q10,k10⟩;rotate_left
 ·exact no (λh=>q10 (by rw[<-hA,<-hB]at h;simp only[cB]at h;exact h.t.t.2.1)) (k4 _ _ (k5 _ _ (k7 _ _ (k8 _ _ k10)))) ow
 have l11:=Rw n11
 rcases MG (t:=uf) (la:=a11) (lb:=b11) (λi=>.h31 (i:Int) (A,()) (B,())) l11 (λi ha hb=>by
  obtain⟨w1,w2⟩:=rB (a:=a11[i].2) (b:=b11[i].2) (hx _ (bG ha));have hval:(uf (.h31 (i:Int) (A,()) (B,()))).val=if(bif !a11[i].1==b11[i].1 then Q3 else !fq a11[i].2 b11[i].2)=Q3 then Q1 (.inr GI)else Q1 (.inl (.h31 ((i+1:Nat):Int) (A,()) (B,()))):=by
   subst hA;subst hB;show(uf (.h31 _ _ _)).val=_;simp only[uf,Q8,zk,af _ _ ha,af _ _ hb,zJ ha,zw ha,zw hb,w1,if_true,dO];rw[zr i um];cases(!a11[i].1==b11[i].1)<;>rfl
  refine⟨λh=>?_,λh=>?_⟩
  ·have k:=w2.2 (by rw[h]);rw[hval,if_neg (by rw[k,h];simp)]
  ·rw[hval,if_pos];cases hh:(a11[i].1==b11[i].1)
   ·rfl
   ·cases hw:fq a11[i].2 b11[i].2
    ·rfl
    ·exact absurd (Prod.ext (by simpa using hh) (w2.1 hw)) h)with⟨q11,k11⟩|⟨q11,k11⟩
 rotate_left
 ·exact no (λh=>q11 (by rw[<-hA,<-hB]at h;simp only[cB]at h;exact h.t.t.q.1)) (k4 _ _ (k5 _ _ (k7 _ _ (k8 _ _ (k10 _ _ k11))))) ow
 have hend:(uf (.h31 (a11.length:Int) (A,()) (B,()))).val=Q1 (.inr (.kb Q3,[])):=by
  subst hA;subst hB;show(uf (.h31 _ _ _)).val=_;simp only[uf,Q8,zC];rfl
 refine⟨Q3,zy hi (k4 _ _ (k5 _ _ (k7 _ _ (k8 _ _ (k10 _ _ (k11.ends (zX.of hend))))))) ow rfl,?_⟩;subst q4;subst q5;subst q7;subst q8;subst q10;subst q11;rw[<-hA,<-hB];simp
theorem rO{a b:Sem zl}(h:Bu a):Ba a b=Q3/\(ft a b=Q3↔a=b):=by
 obtain⟨r,h1,h2⟩:=NC (b:=b) h;refine⟨by unfold Ba;rw[h1];rfl,?_⟩;have:ft a b=r:=by unfold ft;rw[h1];rfl
 rw[this];exact h2
theorem ky{e:ze}:ic e=Q3↔e=.mk [] (0,0,[]) [] []:=by
 obtain⟨op,⟨k,i,t⟩,s,l⟩:=e;unfold ic;show(bif op==[]then bif k==0&&(i==0&&(t==[]&&Q3))then bif s==[]then(↑l.length:Int)==0 else Q4 else Q4 else Q4)=Q3↔_;simp only[ze.mk.injEq,cB];constructor
 ·intro h;obtain⟨h1,h⟩:=cu h;obtain⟨h2,h⟩:=cu h;obtain⟨h3,h⟩:=cu h;simp at h1 h2 h3 h;exact⟨h1,h2,h3,h⟩
 ·rintro⟨rfl,⟨rfl,rfl,rfl⟩,rfl,rfl⟩;rfl
theorem Tm{e:ze}(h:cA e=Q3):(e.op==[])=Q4:=by
 have f:=fN (gU h);clear h;cases f with
 |lit v hv=>rfl
 |col s hs hr=>rfl
 |one op a ho ha=>rcases ho with rfl|rfl<;>rfl
 |two op a b ho ha hb=>rcases ho with rfl|rfl|rfl|rfl|rfl|rfl<;>rfl
theorem Tn{e:ze}(h:cA e=Q3):nE 12 e<=60:=by
 rw[wP]at h;by_cases k:nE 12 e<=60
 ·exact k
 ·exfalso;rw[ao k]at h;cases bq 12 e<;>simp at h
theorem La{e:ze}(hw:tc e)(h:cA e=Q3):rC e=Q3/\qh e=aP 16 e/\(aP 16 e).length<=24000:=by
 obtain⟨h1,h2⟩:=rD 16 12 16 e ow ow ow (gU h) hw;have h1:H9 e=Q1 (aP 16 e,()):=h1;have h3:=Tn h;refine⟨by unfold rC;rw[h1];rfl,by unfold qh;rw[h1];rfl,ow⟩
def pB(w:zB)(e:ze):zB:=if(e.op==[])=Q3 then[]else if cA e=Q3 then(if(w==gD)=Q3 then YF++aP 16 e else w++YC++aP 16 e++iC)else[]
theorem RO{e:ze}(hw:tc e)(hc:si 16 e=Q3){w:zB}(hl:w.length<=1000):Bb e w=Q1 (pB w e,bU e,())/\(pB w e).length<=30000:=by
 unfold pB;by_cases h0:(e.op==[])=Q3
 ·rw[if_pos h0];obtain⟨s1,s2⟩:=rB (b:=.mk [] (0,0,[]) [] []) hc;have hm:cA e=Q4:=by
   cases h:cA e
   ·rfl
   ·rw[Tm h]at h0;cases h0
  have he:fq e (.mk [] (0,0,[]) [] [])=bU e:=by
   unfold bU;rw[hm];apply iY.2;rw[s2,<-ky];cases ic e<;>simp
  refine⟨zH (r:=(.tup [.str [],.bool (bU e)],[])) ?_ rfl,sw⟩;simp only[Kt,Q8,zk,h0,s1,he,if_true]
 ·rw[if_neg h0];have hn:ic e=Q4:=by
   cases h:ic e
   ·rfl
   ·rw[ky.1 h]at h0;exact absurd rfl h0
  have hmb:bU e=cA e:=by unfold bU;rw[hn];rfl
  have h0:(e.op==[])=Q4:=by simpa using h0
  rw[hmb];by_cases hm:cA e=Q3
  ·obtain⟨t1,t2,t3⟩:=La hw hm;rw[if_pos hm,hm];by_cases hwh:(w==gD)=Q3
   ·rw[if_pos hwh];refine⟨zH (r:=(.tup [.str (YF++aP 16 e),.kb Q3],[])) ?_ rfl,sg⟩;simp only[Kt,Q8,zk,h0,mZ hw,rA hw,hm,hwh,t1,t2,if_true];rw[if_neg sw,if_neg sw,if_pos (zu sg)]
   ·rw[if_neg hwh];have hwh:(w==gD)=Q4:=by simpa using hwh
    refine⟨zH (r:=(.tup [.str (w++YC++aP 16 e++iC),.kb Q3],[])) ?_ rfl,sg⟩;simp only[Kt,Q8,zk,h0,mZ hw,rA hw,hm,hwh,t1,t2,if_true];rw[if_neg sw,if_neg sw,if_neg sw,if_pos (zu sg),if_pos (zu sg),if_pos (zu sg)]
  ·rw[if_neg hm];have hm:cA e=Q4:=by simpa using hm
   rw[hm];refine⟨zH (r:=(.tup [.str [],.kb Q4],[])) ?_ rfl,sw⟩;simp only[Kt,Q8,zk,h0,mZ hw,rA hw,hm,if_true];rfl
theorem bf{e:ze}(hw:tc e)(hc:si 16 e=Q3){w:zB}(hl:w.length<=1000):vS e w=Q3/\DI e w=(pB w e,bU e)/\(pB w e).length<=30000:=by
 obtain⟨h1,h2⟩:=RO hw hc hl;exact⟨by unfold vS;rw[h1];rfl,by unfold DI;rw[h1];rfl,h2⟩
theorem BX{e:ze}(h:bU e=Q3):kQ [32] e=pB [] e:=by
 unfold kQ pB;unfold bU at h;cases hn:ic e
 ·rw[hn]at h;have hm:cA e=Q3:=h;rw[if_neg sw,if_neg (by rw[Tm hm];simp),if_pos hm];unfold iU nR;rw[hm];rfl
 ·rw[if_pos rfl];rw[ky.1 hn];rfl
theorem Gd(sep x:zB):∀l:List zB,Lib.join (l++[x]) sep=if l=[]then x else Lib.join l sep++sep++x
 |[]=>by rw[if_pos rfl];exact Lib.join_one x sep
 |[a]=>by simp[Lib.join,List.intercalate,List.intersperse]
 | a::b::r=>by
  have ih:=Gd sep x (b::r);rw[if_neg sw]at ih⊢;have e1:∀(c:zB)(q:List zB),Lib.join (a::c::q) sep=a++sep++Lib.join (c::q) sep:=λc q=>by simp[Lib.join,List.intercalate,List.intersperse]
  show Lib.join (a::b::(r++[x])) sep=_;rw[e1,e1];rw[show b::(r++[x])=(b::r)++[x]from rfl,ih];simp
theorem NF{l:List zB}(hl:l.length<=100)(hs:∀x∈l,length x<=1000):∃t,vT l=Q1 (t,(Q0 (∀x∈l,zL x=Q3)&&(Q0 (1<=l.length)&&Q0 (l.length<=8))),())/\t.length<=200000/\((∀x∈l,zL x=Q3)->t=Lib.join l eZ):=by
 have hjl:∀i,i<=l.length->(Lib.join (l.take i) eZ).length<=110000:=by
  intro i hi;have:=uX eZ 1000 (l.take i) (λx hx=>hs x (List.mem_of_mem_take hx));have h2:(l.take i).length<=100:=by simp;omega
  have h3:=g7 (1000+(eZ:zB).length) h2;simp at this h3⊢;omega
 have hstep:∀i(hi:i<l.length),(D5 (.h3 l (Lib.join (l.take i) eZ) (i:Int))).val=if zL l[i]=Q3 then Q1 (.inl (.h3 l (Lib.join (l.take (i+1)) eZ) ((i+1:Nat):Int)))else Q1 (.inr (.tup [.str [],.kb Q4],[])):=by
  intro i hi;have hx:=hs _ (bG hi);have hj:=hjl i ow;show(D5 (.h3 _ _ _)).val=_;simp only[D5,Q8,af _ _ hi,zJ hi,zw hi,bu (s:=l[i]) ow,ff (s:=l[i]) ow,if_true];rw[zr i um,zcR hi,Gd];by_cases hn:zL l[i]=Q3
  ·rw[if_neg (by rw[hn];simp),if_pos hn];by_cases h0:i=0
   ·subst h0;rw[if_neg sw,if_pos (zu (by simp[Lib.join_nil];omega)),if_pos sw];rfl
   ·rw[if_pos (zu ow),if_pos (zu sg),if_pos (zu sg),if_neg (by
     intro h;have:=congrArg length h;simp at this;rcases this with h|h
     ·exact h0 h
     ·rw[h]at hi;simp at hi)]
  ·rw[if_pos (by simpa using hn),if_neg hn]
 rcases my (t:=D5) (Φ:=λr=>r=(.tup [.str [],.kb Q4],[])) 1 (λi=>.h3 l (Lib.join (l.take i) eZ) (i:Int)) (λi=>∀h:i<l.length,zL l[i]=Q3) l.length (λi hi _=>by
  by_cases hn:zL l[i]=Q3
  ·exact .inl ⟨λ_=>hn,zT.of (by rw[hstep i hi,if_pos hn])⟩
  ·exact .inr ⟨λh=>hn (h hi),_,zX.of (by rw[hstep i hi,if_neg hn]),rfl⟩)with⟨h1,h2⟩|⟨h1,r,h2,rfl⟩
 ·have hall:∀x∈l,zL x=Q3:=by
   intro x hx;obtain⟨j,hj,rfl⟩:=g8 hx;exact h1 j hj hj
  rw[lN]at h2;have hj:=hjl l.length (ae _);rw[lN]at hj;refine⟨Lib.join l eZ,zy (s:=.h3 l [] 0) rfl (h2.ends (zX.of (r:=(.tup [.str (Lib.join l eZ),.bool (bif Q0 (1<=(↑l.length:Int))then Q0 ((↑l.length:Int)<=8)else Q4)],[])) ?_)) ow ?_,ow,λ_=>rfl⟩
  ·show(D5 (.h3 _ _ _)).val=_;simp only[D5,Q8,zC];cases Q0 (1<=(↑l.length:Int))<;>rfl
  ·rw[zu hall];have e1:Q0 (1<=(↑l.length:Int))=Q0 (1<=l.length):=by
    by_cases h:1<=l.length
    ·rw[zu h];exact zu ow
    ·rw[ao h];exact ao ow
   have e2:Q0 ((↑l.length:Int)<=8)=Q0 (l.length<=8):=by
    by_cases h:l.length<=8
    ·rw[zu h];exact zu ow
    ·rw[ao h];exact ao ow
   rw[e1,e2];cases Q0 (1<=l.length)<;>cases Q0 (l.length<=8)<;>rfl
 ·have hne:¬∀x∈l,zL x=Q3:=λh=>h1 λi _ hi=>h _ (bG hi)
  refine⟨[],zy (s:=.h3 l [] 0) rfl h2 ow ?_,sw,λh=>absurd h hne⟩;rw[ao hne];rfl
structure pf (s:Sem zl):Prop where
 sh:mi s
 chk:tc s.t.t.1
 whr:tc s.t.t.q.2.1
 cchk:si 16 s.t.t.1=Q3
 cwhr:si 16 s.t.t.q.2.1=Q3
 row:∀v∈s.t.t.2.1,mj v
 sets:∀x∈s.t.t.q.1,tc (x:Sem iq).2/\si 16 (x:Sem iq).2=Q3
def zeL(B:Nat)(r:az):Prop:=∃(tx:zB)(b:Bool),aM r.2 [Q6,Q7] r.1=Q1 (tx,b,())/\tx.length<=B
theorem zob{s:Sem zl}(h:pf s)(b4:Bool)(s5:zB)(hs:s5.length<=60000)(n:Nat)(hn:30<=n):∃r,da fG n (.h20 b4 s5 0 (s,()))=Q1 r/\zeL 200000 r:=by
 have hl:=h.sh.refs.1;refine dr (t:=fG) (β:=Bool×zB) s.t.q.2.1.length (λb i=>.h20 b.1 b.2 (i:Int) (s,())) (λb i=>b.2.length<=60000+2100*i) _ 1 ?_ ?_ s.t.q.2.1.length 0 (b4,s5) n rfl (aY _) (by simpa using hs) ow
 ·rintro⟨b,x⟩ i hi hI;have hI:x.length<=60000+2100*i:=hI;obtain⟨r1,r2⟩:=h.sh.refs.2 _ (bG hi);have g:getD s.t.q.2.1 (i:Int).toNat (zj jb)=s.t.q.2.1[i]:=af _ _ hi;generalize s.t.q.2.1[i]=f at g r1 r2;refine .inl ⟨(bif b then bif bm f.1 then bm f.2 else Q4 else Q4,x++(zeY++f.1++zeX++f.2)),sg,?_⟩;show(fG (.h20 _ _ _ _)).val=_;simp only[fG,Q8,g,zJ hi,zw hi,bu (s:=f.1) ow,bu (s:=f.2) ow,if_true];rw[zr i um,if_pos (by cases b<;>cases bm f.1<;>rfl),if_pos (zu sg),if_pos (zu sg),if_pos (zu sg),if_pos (zu sg)]
 ·rintro⟨b,x⟩ n hI hn;have hI:x.length<=60000+2100*s.t.q.2.1.length:=hI;obtain⟨n,rfl⟩:∃k,n=k+1:=⟨n-1,ow⟩;obtain⟨c1,c2,c3⟩:=bf h.chk h.cchk (w:=[32,44]) sw;have hv:(fG (.h20 b x (s.t.q.2.1.length:Int) (s,()))).val=Q1 (.inr (.tup [.str (x++pB [32,44] s.t.t.1++iC),.bool (bif b then bU s.t.t.1 else Q4)],[])):=by
   show(fG (.h20 _ _ _ _)).val=_;simp only[fG,Q8,zk,zC,c1,c2,if_true]
   rw[if_neg sw,if_pos (by
    have:x.length+(pB [32,44] s.t.t.1).length<=200000:=by omega
    simp;omega)]
   cases b<;>rfl
  rw[cL,hv];exact⟨_,rfl,_,_,rfl,sg⟩
theorem zoa{s:Sem zl}(h:pf s)(b4:Bool)(s5:zB)(hs:s5.length<=30000)(n:Nat)(hn:60<=n):∃r,da fG n (.h15 b4 s5 0 (s,()))=Q1 r/\zeL 200000 r:=by
 have hl:=h.sh.uniques.1;refine dr (t:=fG) (β:=Bool×zB) s.t.q.1.length (λb i=>.h15 b.1 b.2 (i:Int) (s,())) (λb i=>b.2.length<=30000+1100*i) _ 31 ?_ ?_ s.t.q.1.length 0 (b4,s5) n rfl (aY _) (by simpa using hs) ow
 ·rintro⟨b,x⟩ i hi hI;have hI:x.length<=30000+1100*i:=hI;have r1:=h.sh.uniques.2 _ (bG hi);have g:getD s.t.q.1 (i:Int).toNat (zj Q6)=s.t.q.1[i]:=af _ _ hi;generalize s.t.q.1[i]=f at g r1;refine .inl ⟨(bif b then bm f else Q4,x++(zeZ++f++iC)),sg,?_⟩;show(fG (.h15 _ _ _ _)).val=_;simp only[fG,Q8,g,zJ hi,zw hi,bu (s:=f) ow,if_true];rw[zr i um,if_pos (by cases b<;>rfl),if_pos (zu sg),if_pos (zu sg),if_pos (zu sg)]
 ·rintro⟨b,x⟩ n hI hn;have hI:x.length<=30000+1100*s.t.q.1.length:=hI;obtain⟨n,rfl⟩:∃k,n=k+1:=⟨n-1,ow⟩;have hv:(fG (.h15 b x (s.t.q.1.length:Int) (s,()))).val=Q1 (.inl (.h20 b x 0 (s,()))):=by
   show(fG (.h15 _ _ _ _)).val=_;simp only[fG,Q8,zC];rfl
  rw[cL,hv];exact zob h b x ow n ow
theorem cr4{s:Sem zl}(h:pf s)(b4:Bool)(s5:zB)(hs:s5.length<=2000)(n:Nat)(hn:100<=n):∃r,da fG n (.h4 b4 s5 0 (s,()))=Q1 r/\zeL 200000 r:=by
 have hl:=h.sh.cols.1;have hk:=h.sh.key;refine dr (t:=fG) (β:=zB) s.t.1.length (λb i=>.h4 b4 b (i:Int) (s,())) (λb i=>b.length<=2000+1100*i) _ 61 ?_ ?_ s.t.1.length 0 s5 n rfl (aY _) (by simpa using hs) ow
 ·intro x i hi hI;have r1:=h.sh.cols.2 _ (bG hi);have g:getD s.t.1 (i:Int).toNat (zj zi)=s.t.1[i]:=af _ _ hi;generalize s.t.1[i]=f at g r1
  have hv:((fG (.h4 b4 x (i:Int) (s,()))).val=if(bif !bm f.1 then Q3 else bif Q0 (LT.lt (α:=Int) f.2.1 1)then Q3 else Q0 (GT.gt (α:=Int) f.2.1 3))=Q3 then Q1 (.inr (.tup [.str [],.kb Q4],[]))else
    Q1 (.inl (.h4 b4 ((if f.2.2=Q3 then x++(f.1++[32]++[[],BQ,BR,BP].getD (toNat f.2.1) (zj Q6))++ze1 else x++(f.1++[32]++[[],BQ,BR,BP].getD (toNat f.2.1) (zj Q6)))++eZ) ((i+1:Nat):Int) (s,()))))/\
    (¬(bif !bm f.1 then Q3 else bif Q0 (LT.lt (α:=Int) f.2.1 1)then Q3 else Q0 (GT.gt (α:=Int) f.2.1 3))=Q3->([[],BQ,BR,BP].getD (toNat f.2.1) (zj Q6)).length<=4):=by
   have hgt:¬(bif !bm f.1 then Q3 else bif Q0 (LT.lt (α:=Int) f.2.1 1)then Q3 else Q0 (GT.gt (α:=Int) f.2.1 3))=Q3->zO f.2.1 4=Q3/\([[],BQ,BR,BP].getD (toNat f.2.1) (zj Q6)).length<=4:=by
    intro hc;have h1:¬LT.lt (α:=Int) f.2.1 1:=by
     intro h1;rw[zu h1]at hc;cases h2:(!bm f.1)<;>rw[h2]at hc<;>exact hc rfl
    have h3:¬GT.gt (α:=Int) f.2.1 3:=by
     intro h1;rw[zu h1]at hc;cases h2:(!bm f.1)<;>rw[h2]at hc<;>cases h4:Q0 (LT.lt (α:=Int) f.2.1 1)<;>rw[h4]at hc<;>exact hc rfl
    have h4:@Eq Int f.2.1 1\/@Eq Int f.2.1 2\/@Eq Int f.2.1 3:=by omega
    rcases h4 with h4|h4|h4<;>rw[h4]<;>exact⟨rfl,by decide⟩
   refine⟨?_,λhc=>(hgt hc).2⟩;show(fG (.h4 _ _ _ _)).val=_;simp only[fG,Q8,g,zJ hi,zw hi,bu (s:=f.1) ow,if_true];by_cases hc:(bif !bm f.1 then Q3 else bif Q0 (LT.lt (α:=Int) f.2.1 1)then Q3 else Q0 (GT.gt (α:=Int) f.2.1 3))=Q3
   ·rw[if_pos hc,if_pos hc]
   ·obtain⟨k1,k2⟩:=hgt hc;rw[if_neg hc,if_neg hc,if_pos (zu sg)];refine(if_pos k1).trans ?_;generalize[[],BQ,BR,BP].getD (toNat f.2.1) (zj Q6)=ty at k2;rw[if_pos (zu sg),if_pos (zu sg),zr i um];by_cases hn:f.2.2=Q3
    ·rw[if_pos hn,if_pos hn,if_pos (zu sg),if_pos (zu sg)]
    ·rw[if_neg hn,if_neg hn,if_pos (zu sg)]
  obtain⟨hv,hty⟩:=hv;by_cases hc:(bif !bm f.1 then Q3 else bif Q0 (LT.lt (α:=Int) f.2.1 1)then Q3 else Q0 (GT.gt (α:=Int) f.2.1 3))=Q3
  ·rw[if_pos hc]at hv;exact .inr ⟨_,hv,[],Q4,rfl,sw⟩
  ·rw[if_neg hc]at hv;have:=hty hc;generalize[[],BQ,BR,BP].getD (toNat f.2.1) (zj Q6)=ty at hv this;refine .inl ⟨_,?_,hv⟩;split<;>simp<;>omega
 ·intro x n hI hn;obtain⟨n,rfl⟩:∃k,n=k+1:=⟨n-1,ow⟩;have hv:(fG (.h4 b4 x (s.t.1.length:Int) (s,()))).val=Q1 (.inl (.h15 b4 (x++(ze4++s.t.2.1++iC)) 0 (s,()))):=by
   show(fG (.h4 _ _ _ _)).val=_;simp only[fG,Q8,zC];rw[if_neg sw,if_pos (zu sg),if_pos (zu sg),if_pos (zu sg)]
  rw[cL,hv];exact zoa h b4 _ sg n ow
theorem Le{s:Sem zl}(h:pf s):∃(tx:zB)(b:Bool),m4 s=Q1 (tx,b,())/\tx.length<=200000:=by
 have ht:=h.sh.table;have hk:=h.sh.key;have hv:∃b4,(Uj s).val=Q1 (.inl (.h4 b4 (YG++s.2.1++Aj) 0 (s,()))):=by
  refine⟨(bif bm s.t.2.1 then bif Q0 (1<=(↑(length s.t.1):Int))then bif Q0 ((↑(length s.t.1):Int)<=8)then bif Q0 ((↑(length s.t.q.1):Int)<=8)then Q0 ((↑(length s.t.q.2.1):Int)<=8)else Q4 else Q4 else Q4 else Q4),?_⟩;simp only[Uj,Q8,bu (s:=s.t.2.1) ow,if_true];rw[if_pos (zu sg),if_pos (zu sg)]
 obtain⟨b4,hv⟩:=hv;obtain⟨r,h1,tx,b,h2,h3⟩:=cr4 h b4 (YG++s.2.1++Aj) sg 100000000 ow;refine⟨tx,b,?_,h3⟩;unfold m4 ah de;rw[hv];show(da fG 100000000 _).bind _=_;rw[h1];exact h2
theorem Ny{s:Sem zl}(h:pf s):rG s=Q3/\(qi s).1.length<=200000:=by
 obtain⟨tx,b,h1,h2⟩:=Le h;exact⟨by unfold rG;rw[h1];rfl,by unfold qi;rw[h1];exact h2⟩
def Ql(o:Option (zx (List.map Q1 [Q6,zl,Q7]))):Prop:=∃(t:zB)(own:Sem zl)(ok:Bool),o=Q1 (t,own,ok,())/\t.length<=900000/\Bu own
theorem znL{s:Sem zl}{r:az}{t:zB}{own:Sem zl}{ok:Bool}(hv:(gY s).val=Q1 (.inr r))(hr:aM r.2 [Q6,zl,Q7] r.1=Q1 (t,own,ok,()))(hl:t.length<=900000)(hc:Bu own):Ql (dI s):=
 ⟨t,own,ok,zH hv hr,hl,hc⟩
abbrev dw:ze:=.mk [] (0,0,[]) [] []
theorem Vm:si 16 dw=Q3:=by decide+kernel
theorem eF{a:Sem zl}{s:Sem zl}(h:pf s)(h4:a.2.2.2.1=s.2.2.2.1\/a.2.2.2.1=[])(h5:a.t.1=s.t.1\/a.t.1=[])(h7:a.t.q.1=s.t.q.1\/a.t.q.1=[])
  (h8:a.t.q.2.1=s.t.q.2.1\/a.t.q.2.1=[]) (h9:a.t.t.1=s.t.t.1\/a.t.t.1=dw) (h10:a.t.t.2.1=s.t.t.2.1\/a.t.t.2.1=[])
  (h11:a.t.t.q.1=s.t.t.q.1\/a.t.t.q.1=[]) (h12:a.t.t.q.2.1=s.t.t.q.2.1\/a.t.t.q.2.1=dw):Bu a where
 names:=by have:=h.sh.names.1;rcases h4 with h|h<;>rw[h]<;>first|omega|simp
 cols:=by have:=h.sh.cols.1;rcases h5 with h|h<;>rw[h]<;>first|omega|simp
 uniques:=by have:=h.sh.uniques.1;rcases h7 with h|h<;>rw[h]<;>first|omega|simp
 refs:=by have:=h.sh.refs.1;rcases h8 with h|h<;>rw[h]<;>first|omega|simp
 row:=by have:=h.sh.row;rcases h10 with h|h<;>rw[h]<;>first|omega|simp
 sets:=by have:=h.sh.sets.1;rcases h11 with h|h<;>rw[h]<;>first|omega|simp
 chk:=by rcases h9 with k|k<;>rw[k];exact h.cchk;exact Vm
 whr:=by rcases h12 with k|k<;>rw[k];exact h.cwhr;exact Vm
 ex:=by
  rcases h11 with k|k<;>rw[k]
  ·exact λx hx=>(h.sets x hx).2
  ·intro x hx;cases hx
def sZ(r:az):Prop:=∃(t:zB)(own:Sem zl)(ok:Bool),aM r.2 [Q6,zl,Q7] r.1=Q1 (t,own,ok,())/\t.length<=900000/\Bu own
theorem uV{r:az}(t:zB)(own:Sem zl)(ok:Bool)(h1:aM r.2 [Q6,zl,Q7] r.1=Q1 (t,own,ok,()))(h2:t.length<=900000)(h3:Bu own):sZ r:=⟨t,own,ok,h1,h2,h3⟩
theorem zqq{s:Sem zl}(h:pf s):∃r,da mu 100000000 (.h15 [] 0 (s,()) ([],[],[],[],[],0,0,[],[],[],0,0,[],[],[],()) (s.1,s.2.1,[],[],[],0,0,[],[],s.t.t.2.1,[],0,0,[],[],[],()))=Q1 r/\sZ r:=by
 have hl:=h.sh.row;have ht:=h.sh.table;have hcmp:Bu (s.1,s.2.1,[],[],[],[],[],[],dw,s.t.t.2.1,[],dw,[]):=eF h (.inr rfl) (.inr rfl) (.inr rfl) (.inr rfl) (.inr rfl) (.inl rfl) (.inr rfl) (.inr rfl);refine dr (t:=mu) (β:=zB) s.t.t.2.1.length (λb i=>.h15 b (i:Int) (s,()) ([],[],[],[],[],0,0,[],[],[],0,0,[],[],[],()) (s.1,s.2.1,[],[],[],0,0,[],[],s.t.t.2.1,[],0,0,[],[],[],())) (λb i=>b.length<=400*i) _ 1 ?_ ?_ s.t.t.2.1.length 0 [] 100000000 rfl (aY _) sw ow
 ·intro x i hi hI;have hv:=h.row _ (bG hi);have hx:=yh s.t.t.2.1[i];have g:getD s.t.t.2.1 (i:Int).toNat (zj zf)=s.t.t.2.1[i]:=af _ _ hi;generalize s.t.t.2.1[i]=v at g hv hx
  have e:(mu (.h15 x (i:Int) (s,()) ([],[],[],[],[],0,0,[],[],[],0,0,[],[],[],()) (s.1,s.2.1,[],[],[],0,0,[],[],s.t.t.2.1,[],0,0,[],[],[],()))).val=if bg v=Q3 then Q1 (.inl (.h15 ((if(i:Int)>0 then x++eZ else x)++iu v) ((i+1:Nat):Int) (s,()) ([],[],[],[],[],0,0,[],[],[],0,0,[],[],[],()) (s.1,s.2.1,[],[],[],0,0,[],[],s.t.t.2.1,[],0,0,[],[],[],())))else
    Q1 (.inr (.tup [.str [],.agg [.str s.1,.str s.2.1,.str [],.nils,.nils,.str [],.nils,.nils,.str [],.int .i64 0,.int .i64 0,.str [],.str [],.nils,.sl zf s.t.t.2.1,.nils,.str [],.int .i64 0,.int .i64 0,.str [],.str [],.nils,.str []],.kb Q4],[])):=by
   show(mu (.h15 _ _ _ _ _)).val=_;simp only[mu,Q8,g,zJ hi,zw hi,lq hv.2.2,oo hv.2.2,Gw hv,K8 hv,if_true];rw[zr i um];by_cases m:bg v=Q3
   ·rw[if_neg (by rw[m];simp),if_pos m];by_cases h0:(i:Int)>0
    ·rw[if_pos (zu h0),if_pos h0,if_pos (zu sg),if_pos (zu sg)]
    ·rw[if_neg (by simpa using h0),if_neg h0,if_pos (zu ow)]
   ·rw[if_pos (by simpa using m),if_neg m]
  by_cases m:bg v=Q3
  ·rw[if_pos m]at e;refine .inl ⟨_,?_,e⟩;split<;>simp<;>omega
  ·rw[if_neg m]at e;exact .inr ⟨_,e,uV [] _ Q4 rfl sw hcmp⟩
 ·intro x n hI hn;obtain⟨n,rfl⟩:∃k,n=k+1:=⟨n-1,ow⟩
  have e:∃b,(mu (.h15 x (s.t.t.2.1.length:Int) (s,()) ([],[],[],[],[],0,0,[],[],[],0,0,[],[],[],()) (s.1,s.2.1,[],[],[],0,0,[],[],s.t.t.2.1,[],0,0,[],[],[],()))).val=
    Q1 (.inr (.tup [.str (SV++s.2.1++YE++x++iC),.agg [.str s.1,.str s.2.1,.str [],.nils,.nils,.str [],.nils,.nils,.str [],.int .i64 0,.int .i64 0,.str [],.str [],.nils,.sl zf s.t.t.2.1,.nils,.str [],.int .i64 0,.int .i64 0,.str [],.str [],.nils,.str []],b],[]))/\(b=.kb Q4\/∃c,b=.bool c):=by
   show∃b,(mu (.h15 _ _ _ _ _)).val=_/\_;simp only[mu,Q8,zC];rw[if_neg sw,if_pos (zu sg),if_pos (zu sg),if_pos (zu sg),if_pos (zu sg)];split
   ·exact⟨_,rfl,.inr ⟨_,rfl⟩⟩
   ·exact⟨_,rfl,.inl rfl⟩
  obtain⟨b,e,hb⟩:=e;rw[cL,e];rcases hb with rfl|⟨c,rfl⟩
  ·exact⟨_,rfl,uV _ _ Q4 rfl sg hcmp⟩
  ·exact⟨_,rfl,uV _ _ c rfl sg hcmp⟩
theorem zqr{s:Sem zl}(h:pf s)(s8:zB)(b9:Bool)(h8:s8.length<=30000):∃r,da mu 100000000 (.h27 s8 b9 [] 0 (s,()) ([],[],[],[],[],0,0,[],[],[],0,0,[],[],[],()) (s.1,s.2.1,[],[],[],0,0,[],[],s.t.t.q.1,s.t.t.q.2.1,[],()))=Q1 r/\sZ r:=by
 have hl:=h.sh.sets.1;have ht:=h.sh.table;have hcmp:Bu (s.1,s.2.1,[],[],[],[],[],[],dw,[],s.t.t.q.1,s.t.t.q.2.1,[]):=eF h (.inr rfl) (.inr rfl) (.inr rfl) (.inr rfl) (.inr rfl) (.inr rfl) (.inl rfl) (.inl rfl);generalize hZ:(([],[],[],[],[],0,0,[],[],[],0,0,[],[],[],()):zn jf)=Z;generalize hU:((s.1,s.2.1,[],[],[],0,0,[],[],s.t.t.q.1,s.t.t.q.2.1,[],()):zn zfd)=V
 have own:∀(t:zB)(ok:Bool)(b:AV),(b=.bool ok\/(b=.kb Q4/\ok=Q4))->aM [] [Q6,zl,Q7] (.tup [.str t,.agg [.str V.1,.str V.2.1,.str V.2.2.1,.nils,.nils,.str V.2.2.2.1,.nils,.nils,.str V.t.1,.int .i64 V.t.2.1,.int .i64 V.t.q.1,.str V.t.q.2.1,.str V.t.t.1,.nils,.nils,
   .sl (Sh.str.pr Q5) V.t.t.2.1,.str (ze.op V.t.t.q.1),.int .i64 (ze.v V.t.t.q.1).1,.int .i64 (ze.v V.t.t.q.1).2.1,.str (ze.v V.t.t.q.1).2.2,.str (ze.s V.t.t.q.1),.sl Q5 (ze.l V.t.t.q.1),.str V.t.t.q.2.1],b])=
   Q1 (t,(s.1,s.2.1,[],[],[],[],[],[],dw,[],s.t.t.q.1,s.t.t.q.2.1,[]),ok,()):=by
  intro t ok b hb;subst hU;obtain⟨s1,s2,s3,s4,s5,s6,s7,s8,s9,s10,s11,⟨d1,d2,d3,d4⟩,s13⟩:=s;rcases hb with rfl|⟨rfl,rfl⟩<;>rfl
 refine dr (t:=mu) (β:=zB) s.t.t.q.1.length (λb i=>.h27 s8 b9 b (i:Int) (s,()) Z V) (λb i=>b.length<=26000*i) _ 1 ?_ ?_ s.t.t.q.1.length 0 [] 100000000 rfl (aY _) sw ow
 ·intro x i hi hI;obtain⟨hw,hcp⟩:=h.sets _ (bG hi);have hnm:=h.sh.sets.2 _ (bG hi);have g:getD s.t.t.q.1 (i:Int).toNat (zj iq)=s.t.t.q.1[i]:=af _ _ hi;generalize s.t.t.q.1[i]=v at g hw hcp hnm;have e:(¬(bm v.1=Q3/\cA v.2=Q3)/\∃r,(mu (.h27 s8 b9 x (i:Int) (s,()) Z V)).val=Q1 (.inr r)/\sZ r)\/∃x':zB,x'.length<=x.length+26000/\(mu (.h27 s8 b9 x (i:Int) (s,()) Z V)).val=Q1 (.inl (.h27 s8 b9 x' ((i+1:Nat):Int) (s,()) Z V)):=by
   show(_/\∃r,(mu (.h27 _ _ _ _ _ _ _)).val=_/\_)\/∃x':zB,_/\(mu (.h27 _ _ _ _ _ _ _)).val=_;simp only[mu,Q8,g,zk,zJ hi,zw hi,bu (s:=v.1) ow,mZ hw,rA hw,if_true,dO];have hg:(bif !bm v.1 then Q3 else Q3)=Q3:=by cases bm v.1<;>rfl
   rw[hg];by_cases m:bm v.1=Q3/\cA v.2=Q3
   ·obtain⟨m1,m2⟩:=m;obtain⟨t1,t2,t3⟩:=La hw m2;refine .inr ⟨(if(i:Int)>0 then x++eZ else x)++(v.1++ze0++aP 16 v.2),by split<;>simp<;>omega,?_⟩;simp only[m1,m2,t1,t2,if_true,bS,aq,zF,if_false];rw[zr i um];by_cases h0:(i:Int)>0
    ·rw[if_pos (zu h0),if_pos h0,if_pos (zu sg),if_pos (zu sg),if_pos (zu sg),if_pos (zu sg)]
    ·rw[if_neg (by simpa using h0),if_neg h0,if_pos (zu sg),if_pos (zu sg),if_pos (zu sg)]
   ·refine .inl ⟨m,?_⟩;have hc:(bif !bm v.1 then Q3 else !cA v.2)=Q3:=by
     cases h1:bm v.1
     ·rfl
     ·cases h2:cA v.2
      ·rfl
      ·exact absurd ⟨h1,h2⟩ m
    rw[if_pos rfl,if_pos hc];exact⟨_,rfl,uV [] _ Q4 (own [] Q4 _ (.inr ⟨rfl,rfl⟩)) sw hcmp⟩
  rcases e with⟨_,r,e1,e2⟩|⟨x',e1,e2⟩
  ·exact .inr ⟨r,e1,e2⟩
  ·exact .inl ⟨x',ow,e2⟩
 ·intro x n hI hn;obtain⟨n,rfl⟩:∃k,n=k+1:=⟨n-1,ow⟩
  have e:∃b ok,(mu (.h27 s8 b9 x (s.t.t.q.1.length:Int) (s,()) Z V)).val=
    Q1 (.inr (.tup [.str (SY++s.2.1++YD++x++s8),.agg [.str V.1,.str V.2.1,.str V.2.2.1,.nils,.nils,.str V.2.2.2.1,.nils,.nils,.str V.t.1,.int .i64 V.t.2.1,.int .i64 V.t.q.1,.str V.t.q.2.1,.str V.t.t.1,.nils,.nils,
   .sl (Sh.str.pr Q5) V.t.t.2.1,.str (ze.op V.t.t.q.1),.int .i64 (ze.v V.t.t.q.1).1,.int .i64 (ze.v V.t.t.q.1).2.1,.str (ze.v V.t.t.q.1).2.2,.str (ze.s V.t.t.q.1),.sl Q5 (ze.l V.t.t.q.1),.str V.t.t.q.2.1],b],[]))/\(b=.bool ok\/(b=.kb Q4/\ok=Q4)):=by
   show∃b ok,(mu (.h27 _ _ _ _ _ _ _)).val=_/\_;simp only[mu,Q8,zC];rw[if_neg sw,if_pos (zu sg),if_pos (zu sg),if_pos (zu sg),if_pos (zu sg)];split
   ·split
    ·exact⟨_,_,rfl,.inl rfl⟩
    ·exact⟨_,Q4,rfl,.inr ⟨rfl,rfl⟩⟩
   ·exact⟨_,Q4,rfl,.inr ⟨rfl,rfl⟩⟩
  obtain⟨b,ok,e,hb⟩:=e;rw[cL,e];exact⟨_,rfl,uV _ _ ok (own _ ok b hb) sg hcmp⟩
theorem R7{s:Sem zl}(h:pf s)(o:s.1=mJ):∃r,(gY s).val=Q1 (.inr r)/\sZ r:=by
 obtain⟨c1,c2,c3⟩:=bf h.chk h.cchk (w:=[]) sw;obtain⟨d1,d2,d3⟩:=bf h.whr h.cwhr (w:=gD) sw;have ht:=h.sh.table;have hr:=h.sh.role;have ho:=h.sh.other;have hk:=h.sh.key;have q0:(s.1==mJ)=Q3:=by rw[o];rfl
 simp only[gY,Q8,zk,c1,d1,q0,if_true];obtain⟨e1,e2⟩:=Ny h;have es:rG (s.1,s.2.1,s.2.2.1,s.2.2.2.1,s.t.1,s.t.2.1,s.t.q.1,s.t.q.2.1,s.t.t.1,s.t.t.2.1,s.t.t.q.1,s.t.t.q.2.1,s.t.t.t)=Q3:=e1;rw[if_pos es];refine⟨_,rfl,uV (qi s).1 (s.1,s.2.1,[],[],s.t.1,s.t.2.1,s.t.q.1,s.t.q.2.1,s.t.t.1,[],[],dw,[]) (qi s).2 ?_ ow (eF h (.inr rfl) (.inl rfl) (.inl rfl) (.inl rfl) (.inl rfl) (.inr rfl) (.inr rfl) (.inr rfl))⟩;obtain⟨s1,s2,s3,s4,s5,s6,s7,s8,⟨f1,f2,f3,f4⟩,s10,s11,⟨g1,g2,g3,g4⟩,s13⟩:=s;rfl
theorem zas{s:Sem zl}(h:pf s)(o:s.1=EB):∃r,(gY s).val=Q1 (.inr r)/\sZ r:=by
 obtain⟨c1,c2,c3⟩:=bf h.chk h.cchk (w:=[]) sw;obtain⟨d1,d2,d3⟩:=bf h.whr h.cwhr (w:=gD) sw;have ht:=h.sh.table;have hr:=h.sh.role;have ho:=h.sh.other;have hk:=h.sh.key;have q0:(s.1==mJ)=Q4:=by rw[o];rfl
 have q1:(s.1==EB)=Q3:=by rw[o];rfl
 simp only[gY,Q8,zk,c1,d1,q0,q1,if_true,zF,if_false];rw[if_pos (zu sg)];exact⟨_,rfl,uV _ (s.1,s.2.1,[],[],[],[],[],[],dw,[],[],dw,[]) Q3 rfl sg (eF h (.inr rfl) (.inr rfl) (.inr rfl) (.inr rfl) (.inr rfl) (.inr rfl) (.inr rfl) (.inr rfl))⟩
theorem R8{s:Sem zl}(h:pf s)(o:s.1=Jh):∃r,(gY s).val=Q1 (.inr r)/\sZ r:=by
 obtain⟨c1,c2,c3⟩:=bf h.chk h.cchk (w:=[]) sw;obtain⟨d1,d2,d3⟩:=bf h.whr h.cwhr (w:=gD) sw;have ht:=h.sh.table;have hr:=h.sh.role;have ho:=h.sh.other;have hk:=h.sh.key;have q0:(s.1==mJ)=Q4:=by rw[o];rfl
 have q1:(s.1==EB)=Q4:=by rw[o];rfl
 have q2:(s.1==G7)=Q4:=by rw[o];rfl
 have q3:(s.1==o6)=Q4:=by rw[o];rfl
 have q4:(s.1==Jh)=Q3:=by rw[o];rfl
 simp only[gY,Q8,zk,c1,d1,q0,q1,q2,q3,q4,if_true,zF,if_false];rw[d2,if_pos (zu sg),if_pos (zu sg)];refine⟨_,rfl,uV (YI++s.2.1++pB gD s.t.t.q.2.1) (s.1,s.2.1,[],[],[],[],[],[],dw,[],[],s.t.t.q.2.1,[]) (bU s.t.t.q.2.1) ?_ ?_ (eF h (.inr rfl) (.inr rfl) (.inr rfl) (.inr rfl) (.inr rfl) (.inr rfl) (.inr rfl) (.inl rfl))⟩;rotate_left 2
 ·obtain⟨s1,s2,s3,s4,s5,s6,s7,s8,⟨f1,f2,f3,f4⟩,s10,s11,⟨g1,g2,g3,g4⟩,s13⟩:=s;rfl
 ·simp;omega
theorem Sa{s:Sem zl}(h:pf s)(o:s.1=py):∃r,(gY s).val=Q1 (.inr r)/\sZ r:=by
 obtain⟨c1,c2,c3⟩:=bf h.chk h.cchk (w:=[]) sw;obtain⟨d1,d2,d3⟩:=bf h.whr h.cwhr (w:=gD) sw;have ht:=h.sh.table;have hr:=h.sh.role;have ho:=h.sh.other;have hk:=h.sh.key;have q0:(s.1==mJ)=Q4:=by rw[o];rfl
 have q1:(s.1==EB)=Q4:=by rw[o];rfl
 have q2:(s.1==G7)=Q4:=by rw[o];rfl
 have q3:(s.1==o6)=Q4:=by rw[o];rfl
 have q4:(s.1==Jh)=Q4:=by rw[o];rfl
 have q5:(s.1==py)=Q3:=by rw[o];rfl
 simp only[gY,Q8,zk,c1,d1,q0,q1,q2,q3,q4,q5,if_true,zF,if_false];rw[d2,if_pos (zu sg),if_pos (zu sg)];refine⟨_,rfl,uV (YR++s.2.1++pB gD s.t.t.q.2.1) (s.1,s.2.1,[],[],[],[],[],[],dw,[],[],s.t.t.q.2.1,[]) (bU s.t.t.q.2.1) ?_ ?_ (eF h (.inr rfl) (.inr rfl) (.inr rfl) (.inr rfl) (.inr rfl) (.inr rfl) (.inr rfl) (.inl rfl))⟩;rotate_left 2
 ·obtain⟨s1,s2,s3,s4,s5,s6,s7,s8,⟨f1,f2,f3,f4⟩,s10,s11,⟨g1,g2,g3,g4⟩,s13⟩:=s;rfl
 ·simp;omega
theorem zau{s:Sem zl}(h:pf s)(o:s.1=On):∃r,(gY s).val=Q1 (.inr r)/\sZ r:=by
 obtain⟨c1,c2,c3⟩:=bf h.chk h.cchk (w:=[]) sw;obtain⟨d1,d2,d3⟩:=bf h.whr h.cwhr (w:=gD) sw;have ht:=h.sh.table;have hr:=h.sh.role;have ho:=h.sh.other;have hk:=h.sh.key;have q0:(s.1==mJ)=Q4:=by rw[o];rfl
 have q1:(s.1==EB)=Q4:=by rw[o];rfl
 have q2:(s.1==G7)=Q4:=by rw[o];rfl
 have q3:(s.1==o6)=Q4:=by rw[o];rfl
 have q4:(s.1==Jh)=Q4:=by rw[o];rfl
 have q5:(s.1==py)=Q4:=by rw[o];rfl
 have q6:(s.1==dv)=Q4:=by rw[o];rfl
 have q7:(s.1==gK)=Q4:=by rw[o];rfl
 have q8:(s.1==nA)=Q4:=by rw[o];rfl
 have q9:(s.1==On)=Q3:=by rw[o];rfl
 simp only[gY,Q8,zk,c1,d1,q0,q1,q2,q3,q4,q5,q6,q7,q8,q9,if_true,zF,if_false];rw[if_pos (zu sg),if_pos (zu sg),if_pos (zu sg),if_pos (bu (s:=s.t.t.t) ow)];exact⟨_,rfl,uV _ (s.1,s.2.1,[],[],[],[],[],[],dw,[],[],dw,s.t.t.t) (bm s.t.t.t) rfl sg (eF h (.inr rfl) (.inr rfl) (.inr rfl) (.inr rfl) (.inr rfl) (.inr rfl) (.inr rfl) (.inr rfl))⟩
theorem W6{s:Sem zl}(h:pf s)(o:s.1=wJ):∃r,(gY s).val=Q1 (.inr r)/\sZ r:=by
 obtain⟨c1,c2,c3⟩:=bf h.chk h.cchk (w:=[]) sw;obtain⟨d1,d2,d3⟩:=bf h.whr h.cwhr (w:=gD) sw;have ht:=h.sh.table;have hr:=h.sh.role;have ho:=h.sh.other;have hk:=h.sh.key;have q0:(s.1==mJ)=Q4:=by rw[o];rfl
 have q1:(s.1==EB)=Q4:=by rw[o];rfl
 have q2:(s.1==G7)=Q4:=by rw[o];rfl
 have q3:(s.1==o6)=Q4:=by rw[o];rfl
 have q4:(s.1==Jh)=Q4:=by rw[o];rfl
 have q5:(s.1==py)=Q4:=by rw[o];rfl
 have q6:(s.1==dv)=Q4:=by rw[o];rfl
 have q7:(s.1==gK)=Q4:=by rw[o];rfl
 have q8:(s.1==nA)=Q4:=by rw[o];rfl
 have q9:(s.1==On)=Q4:=by rw[o];rfl
 have q10:(s.1==wJ)=Q3:=by rw[o];rfl
 simp only[gY,Q8,zk,c1,d1,q0,q1,q2,q3,q4,q5,q6,q7,q8,q9,q10,if_true,zF,if_false];rw[if_pos (zu sg),if_pos (zu sg),if_pos (zu sg),if_pos (bu (s:=s.t.t.t) ow)];exact⟨_,rfl,uV _ (s.1,s.2.1,[],[],[],[],[],[],dw,[],[],dw,s.t.t.t) (bm s.t.t.t) rfl sg (eF h (.inr rfl) (.inr rfl) (.inr rfl) (.inr rfl) (.inr rfl) (.inr rfl) (.inr rfl) (.inr rfl))⟩
theorem Sb{s:Sem zl}(h:pf s)(o:s.1=Ai):∃r,(gY s).val=Q1 (.inr r)/\sZ r:=by
 obtain⟨c1,c2,c3⟩:=bf h.chk h.cchk (w:=[]) sw;obtain⟨d1,d2,d3⟩:=bf h.whr h.cwhr (w:=gD) sw;have ht:=h.sh.table;have hr:=h.sh.role;have ho:=h.sh.other;have hk:=h.sh.key;have q0:(s.1==mJ)=Q4:=by rw[o];rfl
 have q1:(s.1==EB)=Q4:=by rw[o];rfl
 have q2:(s.1==G7)=Q4:=by rw[o];rfl
 have q3:(s.1==o6)=Q4:=by rw[o];rfl
 have q4:(s.1==Jh)=Q4:=by rw[o];rfl
 have q5:(s.1==py)=Q4:=by rw[o];rfl
 have q6:(s.1==dv)=Q4:=by rw[o];rfl
 have q7:(s.1==gK)=Q4:=by rw[o];rfl
 have q8:(s.1==nA)=Q4:=by rw[o];rfl
 have q9:(s.1==On)=Q4:=by rw[o];rfl
 have q10:(s.1==wJ)=Q4:=by rw[o];rfl
 have q11:(s.1==Ai)=Q3:=by rw[o];rfl
 simp only[gY,Q8,zk,c1,d1,q0,q1,q2,q3,q4,q5,q6,q7,q8,q9,q10,q11,if_true,zF,if_false];rw[if_pos (zu sg),if_pos (zu sg),if_pos (zu sg),if_pos (bu (s:=s.t.t.t) ow)];exact⟨_,rfl,uV _ (s.1,s.2.1,[],[],[],[],[],[],dw,[],[],dw,s.t.t.t) (bm s.t.t.t) rfl sg (eF h (.inr rfl) (.inr rfl) (.inr rfl) (.inr rfl) (.inr rfl) (.inr rfl) (.inr rfl) (.inr rfl))⟩
theorem N3{s:Sem zl}(h:pf s)(o:s.1=BN):∃r,(gY s).val=Q1 (.inr r)/\sZ r:=by
 obtain⟨c1,c2,c3⟩:=bf h.chk h.cchk (w:=[]) sw;obtain⟨d1,d2,d3⟩:=bf h.whr h.cwhr (w:=gD) sw;have ht:=h.sh.table;have hr:=h.sh.role;have ho:=h.sh.other;have hk:=h.sh.key;have q0:(s.1==mJ)=Q4:=by rw[o];rfl
 have q1:(s.1==EB)=Q4:=by rw[o];rfl
 have q2:(s.1==G7)=Q4:=by rw[o];rfl
 have q3:(s.1==o6)=Q4:=by rw[o];rfl
 have q4:(s.1==Jh)=Q4:=by rw[o];rfl
 have q5:(s.1==py)=Q4:=by rw[o];rfl
 have q6:(s.1==dv)=Q4:=by rw[o];rfl
 have q7:(s.1==gK)=Q4:=by rw[o];rfl
 have q8:(s.1==nA)=Q4:=by rw[o];rfl
 have q9:(s.1==On)=Q4:=by rw[o];rfl
 have q10:(s.1==wJ)=Q4:=by rw[o];rfl
 have q11:(s.1==Ai)=Q4:=by rw[o];rfl
 have q12:(s.1==BN)=Q3:=by rw[o];rfl
 simp only[gY,Q8,zk,c1,d1,q0,q1,q2,q3,q4,q5,q6,q7,q8,q9,q10,q11,q12,if_true,zF,if_false];rw[if_pos (zu sg),if_pos (zu sg),if_pos (zu sg),if_pos (bu (s:=s.t.t.t) ow)];exact⟨_,rfl,uV _ (s.1,s.2.1,[],[],[],[],[],[],dw,[],[],dw,s.t.t.t) (bm s.t.t.t) rfl sg (eF h (.inr rfl) (.inr rfl) (.inr rfl) (.inr rfl) (.inr rfl) (.inr rfl) (.inr rfl) (.inr rfl))⟩
theorem zat{s:Sem zl}(h:pf s)(n0:s.1≠mJ)(n1:s.1≠EB)(n2:s.1≠G7)(n3:s.1≠o6)(n4:s.1≠Jh)(n5:s.1≠py)(n6:s.1≠dv)(n7:s.1≠gK)(n8:s.1≠nA)(n9:s.1≠On)(n10:s.1≠wJ)(n11:s.1≠Ai)(n12:s.1≠BN):∃r,(gY s).val=Q1 (.inr r)/\sZ r:=by
 obtain⟨c1,c2,c3⟩:=bf h.chk h.cchk (w:=[]) sw;obtain⟨d1,d2,d3⟩:=bf h.whr h.cwhr (w:=gD) sw;have ht:=h.sh.table;have hr:=h.sh.role;have ho:=h.sh.other;have hk:=h.sh.key;have q0:(s.1==mJ)=Q4:=bX.2 n0;have q1:(s.1==EB)=Q4:=bX.2 n1;have q2:(s.1==G7)=Q4:=bX.2 n2;have q3:(s.1==o6)=Q4:=bX.2 n3;have q4:(s.1==Jh)=Q4:=bX.2 n4;have q5:(s.1==py)=Q4:=bX.2 n5;have q6:(s.1==dv)=Q4:=bX.2 n6;have q7:(s.1==gK)=Q4:=bX.2 n7;have q8:(s.1==nA)=Q4:=bX.2 n8;have q9:(s.1==On)=Q4:=bX.2 n9;have q10:(s.1==wJ)=Q4:=bX.2 n10;have q11:(s.1==Ai)=Q4:=bX.2 n11;have q12:(s.1==BN)=Q4:=bX.2 n12;simp only[gY,Q8,zk,c1,d1,q0,q1,q2,q3,q4,q5,q6,q7,q8,q9,q10,q11,q12,if_true,zF,if_false];exact⟨_,rfl,uV _ (s.1,s.2.1,[],[],[],[],[],[],dw,[],[],dw,[]) Q4 rfl sw (eF h (.inr rfl) (.inr rfl) (.inr rfl) (.inr rfl) (.inr rfl) (.inr rfl) (.inr rfl) (.inr rfl))⟩
def NZ(s:Sem zl):zB:=SW++s.2.1++kP++s.2.2.1++Aj++Lib.join s.2.2.2.1 eZ++iC++pB [] s.t.t.1
def ll(s:Sem zl):Bool:=(Q0 (∀x∈s.2.2.2.1,zL x=Q3)&&(Q0 (1<=s.2.2.2.1.length)&&Q0 (s.2.2.2.1.length<=8)))&&(bU s.t.t.1&&zL s.2.2.1)
theorem PV{s:Sem zl}(h:pf s)(o:s.1=dv):∃t,dI s=Q1 (t,(s.1,s.2.1,s.2.2.1,s.2.2.2.1,[],[],[],[],s.t.t.1,[],[],dw,[]),ll s,())/\t.length<=900000/\(ll s=Q3->t=NZ s):=by
 obtain⟨c1,c2,c3⟩:=bf h.chk h.cchk (w:=[]) sw;obtain⟨d1,d2,d3⟩:=bf h.whr h.cwhr (w:=gD) sw;have ht:=h.sh.table;have hr:=h.sh.role;have ho:=h.sh.other;have hk:=h.sh.key;obtain⟨q0,q1,q2,q3,q4,q5,_,_,_,_,q6⟩:=ZR o;obtain⟨t,n1,n2,n3⟩:=NF (l:=s.2.2.2.1) (by have:=h.sh.names.1;omega) h.sh.names.2;have n4:DJ s.2.2.2.1=Q3:=by unfold DJ;rw[n1];rfl
 have n5:Iy s.2.2.2.1=(t,(Q0 (∀x∈s.2.2.2.1,zL x=Q3)&&(Q0 (1<=s.2.2.2.1.length)&&Q0 (s.2.2.2.1.length<=8)))):=by unfold Iy;rw[n1];rfl
 have w1:=bu (s:=s.2.2.1) ow;have w2:=ff (s:=s.2.2.1) ow;refine⟨SW++s.2.1++kP++s.2.2.1++Aj++t++iC++pB [] s.t.t.1,?_,sg,?_⟩
 ·have hv:∃b,(gY s).val=Q1 (.inr (.tup [.str (SW++s.2.1++kP++s.2.2.1++Aj++t++iC++pB [] s.t.t.1),.agg [.str s.1,.str s.2.1,.str s.2.2.1,.sl Q6 s.2.2.2.1,.nils,.str [],.nils,.nils,.str (ze.op s.t.t.1),.int .i64 (ze.v s.t.t.1).1,.int .i64 (ze.v s.t.t.1).2.1,.str (ze.v s.t.t.1).2.2,.str (ze.s s.t.t.1),
    .sl Q5 (ze.l s.t.t.1),.nils,.nils,.str [],.int .i64 0,.int .i64 0,.str [],.str [],.nils,.str []],b],[]))/\(b=.bool (ll s)\/(b=.kb Q4/\ll s=Q4)):=by
   unfold ll;simp only[gY,Q8,zk,c1,d1,q0,q1,q2,q3,q4,q5,q6,n4,n5,c2,w1,w2,if_true,zF,if_false]
   iterate 7 rw[if_pos (zu sg)]
   generalize(Q0 (∀x∈s.2.2.2.1,zL x=Q3)&&(Q0 (1<=s.2.2.2.1.length)&&Q0 (s.2.2.2.1.length<=8)))=b1;generalize bU s.t.t.1=b2;cases b1
   ·exact⟨_,rfl,.inr ⟨rfl,rfl⟩⟩
   ·cases b2
    ·exact⟨_,rfl,.inr ⟨rfl,rfl⟩⟩
    ·exact⟨_,rfl,.inl rfl⟩
  obtain⟨b,hv,hb⟩:=hv;refine zH hv ?_;clear hv;obtain⟨s1,s2,s3,s4,s5,s6,s7,s8,⟨f1,f2,f3,f4⟩,s10,s11,⟨g1,g2,g3,g4⟩,s13⟩:=s;rcases hb with rfl|⟨rfl,hb⟩
  ·rfl
  ·rw[hb];rfl
 ·intro hk;have hall:∀x∈s.2.2.2.1,zL x=Q3:=by
   unfold ll at hk;simp only[aE,aO]at hk;exact hk.1.1
  rw[n3 hall];rfl
def qy(s:Sem zl):zB:=ze6++s.2.1++kP++s.2.2.1++eZ++s.t.t.t++Ak++s.t.2.1++pB [] s.t.t.1
def oe(s:Sem zl):Bool:=bU s.t.t.1&&(zL s.2.2.1&&(zL s.t.t.t&&zL s.t.2.1))
theorem PW{s:Sem zl}(h:pf s)(o:s.1=gK):dI s=Q1 (qy s,(s.1,s.2.1,s.2.2.1,[],[],s.t.2.1,[],[],s.t.t.1,[],[],dw,s.t.t.t),oe s,())/\(qy s).length<=900000:=by
 obtain⟨c1,c2,c3⟩:=bf h.chk h.cchk (w:=[]) sw;obtain⟨d1,d2,d3⟩:=bf h.whr h.cwhr (w:=gD) sw;have ht:=h.sh.table;have hr:=h.sh.role;have ho:=h.sh.other;have hk:=h.sh.key;obtain⟨q0,q1,q2,q3,q4,q5,_,_,_,_,q6,q7⟩:=ZS o;have w1:=bu (s:=s.2.2.1) ow;have w2:=ff (s:=s.2.2.1) ow;have w3:=bu (s:=s.t.t.t) ow;have w4:=ff (s:=s.t.t.t) ow;have w5:=bu (s:=s.t.2.1) ow;have w6:=ff (s:=s.t.2.1) ow;refine⟨?_,by unfold qy;simp;omega⟩
 have hv:∃b,(gY s).val=Q1 (.inr (.tup [.str (qy s),.agg [.str s.1,.str s.2.1,.str s.2.2.1,.nils,.nils,.str s.t.2.1,.nils,.nils,.str (ze.op s.t.t.1),.int .i64 (ze.v s.t.t.1).1,.int .i64 (ze.v s.t.t.1).2.1,.str (ze.v s.t.t.1).2.2,.str (ze.s s.t.t.1),
    .sl Q5 (ze.l s.t.t.1),.nils,.nils,.str [],.int .i64 0,.int .i64 0,.str [],.str [],.nils,.str s.t.t.t],b],[]))/\(b=.bool (oe s)\/(b=.kb Q4/\oe s=Q4)):=by
  unfold oe qy;simp only[gY,Q8,zk,c1,d1,q0,q1,q2,q3,q4,q5,q6,q7,c2,w1,w2,w3,w4,w5,w6,if_true,zF,if_false]
  iterate 8 rw[if_pos (zu sg)]
  generalize bU s.t.t.1=b1;generalize zL s.2.2.1=b2;generalize zL s.t.t.t=b3;cases b1
  ·exact⟨_,rfl,.inr ⟨rfl,rfl⟩⟩
  ·cases b2
   ·exact⟨_,rfl,.inr ⟨rfl,rfl⟩⟩
   ·cases b3
    ·exact⟨_,rfl,.inr ⟨rfl,rfl⟩⟩
    ·exact⟨_,rfl,.inl rfl⟩
 obtain⟨b,hv,hb⟩:=hv;refine zH hv ?_;clear hv;generalize qy s=tx;obtain⟨s1,s2,s3,s4,s5,s6,s7,s8,⟨f1,f2,f3,f4⟩,s10,s11,⟨g1,g2,g3,g4⟩,s13⟩:=s;rcases hb with rfl|⟨rfl,hb⟩
 ·rfl
 ·rw[hb];rfl
def mf(s:Sem zl):zB:=ze5++s.2.1++kP++s.2.2.1++Qs++s.2.2.2.1.getD 0 []++Qt++s.2.2.2.1.getD 1 []++pB [] s.t.t.1
def gN(s:Sem zl):Bool:=Q0 (s.2.2.2.1.length=2)&&(bU s.t.t.1&&(zL s.2.2.1&&(zL (s.2.2.2.1.getD 0 [])&&zL (s.2.2.2.1.getD 1 []))))
theorem L4{s:Sem zl}(h:pf s)(o:s.1=nA):∃t,dI s=Q1 (t,(s.1,s.2.1,s.2.2.1,s.2.2.2.1,[],[],[],[],s.t.t.1,[],[],dw,[]),gN s,())/\t.length<=900000/\(gN s=Q3->t=mf s):=by
 obtain⟨c1,c2,c3⟩:=bf h.chk h.cchk (w:=[]) sw;obtain⟨d1,d2,d3⟩:=bf h.whr h.cwhr (w:=gD) sw;have ht:=h.sh.table;have hr:=h.sh.role;have ho:=h.sh.other;have hk:=h.sh.key;obtain⟨q0,q1,q2,q3,q4,q5,_,_,_,_,q6,q7,q8⟩:=VO o;have w1:=bu (s:=s.2.2.1) ow;have w2:=ff (s:=s.2.2.1) ow;by_cases hlen:s.2.2.2.1.length=2
 ·have l0:((↑(length s.2.2.2.1):Int)!=2)=Q4:=by rw[hlen];rfl
  have n0:(s.2.2.2.1.getD 0 []).length<=1000:=by
   rw[ba,zQ ow,dp];exact h.sh.names.2 _ (bG _)
  have n1:(s.2.2.2.1.getD 1 []).length<=1000:=by
   rw[ba,zQ ow,dp];exact h.sh.names.2 _ (bG _)
  have i0:zO 0 (length s.2.2.2.1)=Q3:=by rw[hlen];rfl
  have i1:zO 1 (length s.2.2.2.1)=Q3:=by rw[hlen];rfl
  have g0:getD s.2.2.2.1 (toNat 0) (zj Q6)=s.2.2.2.1.getD 0 []:=rfl;have g1:getD s.2.2.2.1 (toNat 1) (zj Q6)=s.2.2.2.1.getD 1 []:=rfl;have w3:=bu (s:=s.2.2.2.1.getD 0 []) ow;have w4:=ff (s:=s.2.2.2.1.getD 0 []) ow;have w5:=bu (s:=s.2.2.2.1.getD 1 []) ow;have w6:=ff (s:=s.2.2.2.1.getD 1 []) ow;refine⟨mf s,?_,by unfold mf;simp at n0 n1⊢;omega,λ_=>rfl⟩
  have hv:∃b,(gY s).val=Q1 (.inr (.tup [.str (mf s),.agg [.str s.1,.str s.2.1,.str s.2.2.1,.sl Q6 s.2.2.2.1,.nils,.str [],.nils,.nils,.str (ze.op s.t.t.1),.int .i64 (ze.v s.t.t.1).1,.int .i64 (ze.v s.t.t.1).2.1,.str (ze.v s.t.t.1).2.2,.str (ze.s s.t.t.1),
    .sl Q5 (ze.l s.t.t.1),.nils,.nils,.str [],.int .i64 0,.int .i64 0,.str [],.str [],.nils,.str []],b],[]))/\(b=.bool (gN s)\/(b=.kb Q4/\gN s=Q4)):=by
   unfold gN mf;rw[zu hlen];simp only[gY,Q8,zk,c1,d1,q0,q1,q2,q3,q4,q5,q6,q7,q8,c2,w1,w2,g0,g1,w3,w4,w5,w6,l0,i0,i1,if_true,zF,if_false];generalize s.2.2.2.1.getD 0 []=a0 at n0;generalize s.2.2.2.1.getD 1 []=a1 at n1
   iterate 8 rw[if_pos (zu sg)]
   generalize bU s.t.t.1=b1;generalize zL s.2.2.1=b2;generalize zL a0=b3;cases b1
   ·exact⟨_,rfl,.inr ⟨rfl,rfl⟩⟩
   ·cases b2
    ·exact⟨_,rfl,.inr ⟨rfl,rfl⟩⟩
    ·cases b3
     ·exact⟨_,rfl,.inr ⟨rfl,rfl⟩⟩
     ·exact⟨_,rfl,.inl rfl⟩
  obtain⟨b,hv,hb⟩:=hv;refine zH hv ?_;clear hv;generalize mf s=tx;clear n0 n1 i0 i1 g0 g1 w3 w4 w5 w6;obtain⟨s1,s2,s3,s4,s5,s6,s7,s8,⟨f1,f2,f3,f4⟩,s10,s11,⟨g1,g2,g3,g4⟩,s13⟩:=s;rcases hb with rfl|⟨rfl,hb⟩
  ·rfl
  ·rw[hb];rfl
 ·have l0:((↑(length s.2.2.2.1):Int)!=2)=Q3:=by
   simp only[bne_iff_ne];omega
  have hok:gN s=Q4:=by unfold gN;rw[ao hlen];rfl
  refine⟨[],?_,sw,λhh=>by rw[hok]at hh;cases hh⟩;rw[hok]
  refine zH (r:=(.tup [.str [],.agg [.str s.1,.str s.2.1,.str s.2.2.1,.sl Q6 s.2.2.2.1,.nils,.str [],.nils,.nils,.str (ze.op s.t.t.1),.int .i64 (ze.v s.t.t.1).1,.int .i64 (ze.v s.t.t.1).2.1,.str (ze.v s.t.t.1).2.2,.str (ze.s s.t.t.1),
    .sl Q5 (ze.l s.t.t.1),.nils,.nils,.str [],.int .i64 0,.int .i64 0,.str [],.str [],.nils,.str []],.kb Q4],[])) ?_ ?_
  ·simp only[gY,Q8,zk,c1,d1,q0,q1,q2,q3,q4,q5,q6,q7,q8,l0,if_true,zF,if_false]
  ·obtain⟨s1,s2,s3,s4,s5,s6,s7,s8,⟨f1,f2,f3,f4⟩,s10,s11,⟨g1,g2,g3,g4⟩,s13⟩:=s;rfl
theorem gh{s:Sem zl}(h:∃r,(gY s).val=Q1 (.inr r)/\sZ r):Ql (dI s):=by
 obtain⟨r,h1,t,own,ok,h2,h3,h4⟩:=h;exact znL h1 h2 h3 h4
theorem Ep{s:Sem zl}{st:Bz}(h1:(gY s).val=Q1 (.inl st))(h2:∃r,da mu 100000000 st=Q1 r/\sZ r):Ql (dI s):=by
 obtain⟨r,h2,t,own,ok,h3,h4,h5⟩:=h2;refine⟨t,own,ok,?_,h4,h5⟩;unfold dI ah de;rw[h1];show(da mu 100000000 st).bind _=_;rw[h2];exact h3
theorem R9{s:Sem zl}(h:pf s)(o:s.1=G7):Ql (dI s):=by
 obtain⟨c1,c2,c3⟩:=bf h.chk h.cchk (w:=[]) sw;obtain⟨d1,d2,d3⟩:=bf h.whr h.cwhr (w:=gD) sw;have ht:=h.sh.table;have hr:=h.sh.role;have ho:=h.sh.other;have hk:=h.sh.key;have q0:(s.1==mJ)=Q4:=by rw[o];rfl
 have q1:(s.1==EB)=Q4:=by rw[o];rfl
 have q2:(s.1==G7)=Q3:=by rw[o];rfl
 refine Ep ?_ (zqq h);simp only[gY,Q8,zk,c1,d1,q0,q1,q2,if_true,zF,if_false]
theorem Sc{s:Sem zl}(h:pf s)(o:s.1=o6):Ql (dI s):=by
 obtain⟨c1,c2,c3⟩:=bf h.chk h.cchk (w:=[]) sw;obtain⟨d1,d2,d3⟩:=bf h.whr h.cwhr (w:=gD) sw;have ht:=h.sh.table;have hr:=h.sh.role;have ho:=h.sh.other;have hk:=h.sh.key;have q0:(s.1==mJ)=Q4:=by rw[o];rfl
 have q1:(s.1==EB)=Q4:=by rw[o];rfl
 have q2:(s.1==G7)=Q4:=by rw[o];rfl
 have q3:(s.1==o6)=Q3:=by rw[o];rfl
 refine Ep ?_ (zqr h (pB gD s.t.t.q.2.1) (bU s.t.t.q.2.1) d3);simp only[gY,Q8,zk,c1,d1,d2,q0,q1,q2,q3,if_true,zF,if_false]
theorem NG{s:Sem zl}(h:pf s):Ql (dI s):=by
 by_cases n0:s.1=mJ
 ·exact gh (R7 h n0)
 by_cases n1:s.1=EB
 ·exact gh (zas h n1)
 by_cases n2:s.1=G7
 ·exact R9 h n2
 by_cases n3:s.1=o6
 ·exact Sc h n3
 by_cases n4:s.1=Jh
 ·exact gh (R8 h n4)
 by_cases n5:s.1=py
 ·exact gh (Sa h n5)
 by_cases n6:s.1=dv
 ·obtain⟨t,h1,h2,_⟩:=PV h n6;exact⟨t,_,_,h1,h2,eF h (.inl rfl) (.inr rfl) (.inr rfl) (.inr rfl) (.inl rfl) (.inr rfl) (.inr rfl) (.inr rfl)⟩
 by_cases n7:s.1=gK
 ·obtain⟨h1,h2⟩:=PW h n7;exact⟨_,_,_,h1,h2,eF h (.inr rfl) (.inr rfl) (.inr rfl) (.inr rfl) (.inl rfl) (.inr rfl) (.inr rfl) (.inr rfl)⟩
 by_cases n8:s.1=nA
 ·obtain⟨t,h1,h2,_⟩:=L4 h n8;exact⟨t,_,_,h1,h2,eF h (.inl rfl) (.inr rfl) (.inr rfl) (.inr rfl) (.inl rfl) (.inr rfl) (.inr rfl) (.inr rfl)⟩
 by_cases n9:s.1=On
 ·exact gh (zau h n9)
 by_cases n10:s.1=wJ
 ·exact gh (W6 h n10)
 by_cases n11:s.1=Ai
 ·exact gh (Sb h n11)
 by_cases n12:s.1=BN
 ·exact gh (N3 h n12)
 exact gh (zat h n0 n1 n2 n3 n4 n5 n6 n7 n8 n9 n10 n11 n12)
theorem zcA(p:Int->Bool):∀s:zB,cN p s=s.length↔∀c∈s,p c.toNat=Q3
 |[]=>by simp[cN]
 | c::r=>by
  have h1:=AP p r;have h2:=zcA p r;rw[cN];by_cases h:p c.toNat=Q3
  ·rw[if_pos h];simp[h,h2]
  ·rw[if_neg h];simp[h]
theorem zqg(p:Int->Bool)(s:zB):aL p p s=s.length↔∀c∈s,p c.toNat=Q3:=by
 cases s with
 |nil=>simp[aL]
 | cons c r=>
  have h1:=AP p r;have h2:=zcA p r;rw[aL];by_cases h:p c.toNat=Q3
  ·rw[if_pos h];simp[h,h2]
  ·rw[if_neg h];simp[h]
theorem zae:∀s:zB,(bif (↑(length s):Int)==1 then Q0 (0<=Lib.indexByte ze2 (List.headD s 0))else Q4)=
  (bif s==[40]then Q3 else bif s==[41]then Q3 else bif s==[44]then Q3 else bif s==[61]then Q3 else bif s==[60]then Q3 else bif s==[43]then Q3 else bif s==[45]then Q3 else s==[42])
 |[]=>rfl
 | a::b::r=>by
  have e:((((a::b::r).length:Nat):Int)==1)=Q4:=bX.2 sg;rw[e];simp
 | [c]=>by
  by_cases h1:c=40
  ·subst h1;rfl
  by_cases h2:c=41
  ·subst h2;rfl
  by_cases h3:c=44
  ·subst h3;rfl
  by_cases h4:c=61
  ·subst h4;rfl
  by_cases h5:c=60
  ·subst h5;rfl
  by_cases h6:c=43
  ·subst h6;rfl
  by_cases h7:c=45
  ·subst h7;rfl
  by_cases h8:c=42
  ·subst h8;rfl
  simp[Lib.indexByte,h1,h2,h3,h4,h5,h6,h7,h8,Ne.symm h1,Ne.symm h2,Ne.symm h3,Ne.symm h4,Ne.symm h5,Ne.symm h6,Ne.symm h7,Ne.symm h8]
theorem Lk{t:Sem bZ}(hl:t.2.length<=1000000):Is t=Q1 (cg t,()):=by
 obtain⟨k,s⟩:=t;have hl:s.length<=1000000:=hl;by_cases k1:k=(1:Int)
 ·subst k1;refine zH (r:=(.bool (eb s),[])) ?_ ?_
  ·simp only[Ku,Q8,xO hl,DD hl];rfl
  ·rfl
 by_cases k2:k=(2:Int)
 ·subst k2;have hi:(Ku ((2,s):Sem bZ)).val=Q1 (.inl (.h6 ((0:Nat):Int) ((2,s),()))):=rfl;have hf:=my (t:=wn) (Φ:=λr=>r=(.kb Q4,[])) 1 (λi=>.h6 (i:Int) ((2,s),())) (λi=>zU (getD s i 0).toNat=Q3) s.length (by
   intro i hi _;have hv:(wn (.h6 (i:Int) ((2,s),()))).val=if(!zU (getD s i 0).toNat)=Q3 then Q1 (.inr (.kb Q4,[]))else Q1 (.inl (.h6 ((i+1:Nat):Int) ((2,s),()))):=by
    show(wn (.h6 _ _)).val=_;unfold wn;simp only[Q8,zJ hi,zw hi,aK,eT,fY,if_true];rw[zr i um]
   by_cases h:zU (getD s i 0).toNat=Q3
   ·exact .inl ⟨h,zT.of (by rw[hv,if_neg (by rw[h];simp)])⟩
   ·exact .inr ⟨h,_,zX.of (by rw[hv,if_pos (by simpa using h)]),rfl⟩)
  have hq:=aw (l:=s) (d:=0) (Q:=λc=>zU c.toNat=Q3);have hr:=zqg zU s;have ht:cg ((2,s):Sem bZ)=(bif Q0 ((↑(length s):Int)>=1)then bif Q0 ((↑(length s):Int)<=19)then(↑(aL zU zU s):Int)==(↑(length s):Int)else Q4 else Q4):=rfl;rw[ht];rcases hf with⟨h1,h2⟩|⟨h1,r,h2,rfl⟩
  ·have e:((↑(aL zU zU s):Int)==(↑(length s):Int))=Q3:=by rw[hr.2 (hq.1 h1)];simp
   rw[e];refine zy hi (h2.ends (zX.of (r:=(.bool (bif Q0 (1<=(s.length:Int))then Q0 ((s.length:Int)<=19)else Q4),[])) ?_)) ow ?_
   ·show(wn (.h6 _ _)).val=_;unfold wn;simp only[Q8,zC];rfl
   ·show Q1 _=Q1 _;rw[show Q0 ((↑(length s):Int)>=1)=Q0 (1<=(s.length:Int))from rfl];cases Q0 ((s.length:Int)<=19)<;>rfl
  ·have e:((↑(aL zU zU s):Int)==(↑(length s):Int))=Q4:=by
    rw[bX];intro h;exact h1 (hq.2 (hr.1 ow))
   rw[e];refine zy hi h2 ow ?_;show Q1 _=Q1 _;cases Q0 ((↑(length s):Int)>=1)<;>cases Q0 ((↑(length s):Int)<=19)<;>rfl
 by_cases k3:k=(3:Int)
 ·subst k3;refine zH (r:=(.bool (bg (2,0,s)),[])) ?_ ?_
  ·simp only[Ku,Q8,lq (v:=(2,0,s)) hl,oo (v:=(2,0,s)) hl];rfl
  ·rfl
 by_cases k4:k=(4:Int)
 ·subst k4;have hs:=zae s;refine zH (r:=(.bool _,[])) rfl ?_;show Q1 _=Q1 _;rw[show cg ((4,s):Sem bZ)=_ from hs]
 have b1:(k==1)=Q4:=bX.2 k1;have b2:(k==2)=Q4:=bX.2 k2;have b3:(k==3)=Q4:=bX.2 k3;have b4:(k==4)=Q4:=bX.2 k4;have c1:((1:Int)==k)=Q4:=bX.2 (Ne.symm k1);have c2:((2:Int)==k)=Q4:=bX.2 (Ne.symm k2);have ht:cg ((k,s):Sem bZ)=Q4:=by
  unfold cg;simp[b3,b4,c1,c2]
 rw[ht];refine zH (r:=(.kb Q4,[])) ?_ rfl;simp only[Ku,Q8,b1,b2,b3,b4];rfl
theorem vL{t:Sem bZ}(hl:t.2.length<=1000000):iO t=Q3:=by unfold iO;rw[Lk hl];rfl
theorem A8{t:Sem bZ}(hl:t.2.length<=1000000):ma t=cg t:=by unfold ma;rw[Lk hl];rfl
abbrev ta:=Option (List (Sem zo))
abbrev oL(o:ta):List (Sem zo):=o.getD []
abbrev Sg(s:zB)(i:Int):ta->eB
 |none=>.h3 s i
 |some l=>.h3b s i l
abbrev T8(s:zB)(i c f:Int)(z:zn [CP.d zo]):ta->eB
 |none=>.h11 s i c f z
 |some l=>.h11b s i c f z l
abbrev T9(s:zB)(i c f:Int)(z:zn [CP.d zo]):ta->eB
 |none=>.h15 s i c f z
 |some l=>.h15b s i c f z l
abbrev MU(s:zB)(i:Int)(z:zn [CP.d zo]):ta->eB
 |none=>.h20 s i z
 |some l=>.h20b s i z l
abbrev rNo:az:=(.tup [.nils,.kb Q4],[])
def SD(r:az)(b:Bool):Prop:=∃l,aM r.2 [Sh.sl zo,Q7] r.1=Q1 (l,b,())
theorem Wt:SD rNo Q4:=⟨[],rfl⟩
def Mi(s:zB)(j:Nat)(t:Sem bZ)(o:ta):eB⊕az:=if cg t=Q3 then .inl (Sg s (j:Int) (Q1 (oL o++[t])))else .inr rNo
theorem jU(s:zB){j:Nat}(h:j<s.length):Qg (((j+1:Nat):Int).toNat-(j:Int).toNat) (Qh (j:Int).toNat s)=[s[j]]:=by
 rw[aK,aK,show j+1-j=1 by omega,fH h];rfl
theorem v20{s:zB}{j:Nat}{acc:zB}(hl:s.length<=1000000)(hj:j<s.length)(ha:acc.length<=1000000):∀{o:ta},(oL o).length<=1000000->(cT (MU s (j:Int) ((3,acc),()) o)).val=Q1 (
  if s[j]≠39 then .inl (MU s ((j+1:Nat):Int) ((3,acc++[s[j]]),()) o)
  else if s[j+1]?=Q1 39 then .inl (MU s ((j+2:Nat):Int) ((3,acc++[39]),()) o)
  else Mi s (j+1) (3,acc) o):=by
 intro o ho;have w1:IntKind.i64.wrap ((j:Int)+1)=((j+1:Nat):Int):=zr j um;have w2:IntKind.i64.wrap (((j+1:Nat):Int)+1)=((j+2:Nat):Int):=zr (j+1) um;have g1:(Q0 (0<=(j:Int))&&Q0 ((j:Int)<=((j+1:Nat):Int))&&Q0 (((j+1:Nat):Int)<=(↑(length s):Int)))=Q3:=by simp;omega
 have g2:Q0 ((↑(length s):Int)<=(j:Int))=Q4:=ao ow;have g3:Q0 ((j:Int)>=(↑(length s):Int))=Q4:=ao ow;have hM:ma ((3,acc):Sem zo)=cg ((3,acc):Sem bZ):=A8 (t:=((3,acc):Sem bZ)) ha;have hMC:iO ((3,acc):Sem zo)=Q3:=vL (t:=((3,acc):Sem bZ)) ha;have hS:(acc.length+[s[j]].length<=1099511627776):=by simp;omega
 by_cases c1:s[j]=39
 ·have b1:((↑s[j].toNat:Int)!=39)=Q4:=by simp[bne,sk.2 c1]
  have b2:((↑s[j].toNat:Int)==39)=Q3:=sk.2 c1;by_cases c2:s[j+1]?=Q1 39
  ·obtain⟨hj1,c3⟩:=dh.1 c2;have b3:((↑s[j+1].toNat:Int)==39)=Q3:=sk.2 c3;have d1:Q0 (((j+1:Nat):Int)<(↑(length s):Int))=Q3:=zu ow;rw[if_neg (by simpa using c1),if_pos c2];cases o with
   | none=>
    show(cT (.h20 _ _ _)).val=_;simp only[cT,w1,w2,ce s hj,jU s hj,zJ hj,zw hj,zw hj1,d1,b1,b2,b3,ce s hj1,Q8,zZ,aq,dO,if_true,g1,zu hS];rw[c1]
   | some l=>
    show(cT (.h20b _ _ _ _)).val=_;simp only[cT,w1,w2,ce s hj,jU s hj,zJ hj,zw hj,zw hj1,d1,b1,b2,b3,ce s hj1,Q8,zZ,aq,dO,if_true,g1,zu hS];rw[c1]
  ·rw[if_neg (by simpa using c1),if_neg c2];have e:(bif Q0 (((j+1:Nat):Int)<(↑(length s):Int))then(↑(getD s ((j+1:Nat):Int).toNat 0).toNat:Int)==39 else Q4)=Q4:=by
    by_cases hj1:j+1<s.length
    ·rw[zu ow,ce s hj1];simp only[zZ];rw[<-ib,sk];intro h;exact c2 (dh.2 ⟨hj1,h⟩)
    ·rw[ao ow];rfl
   have e2:(bif Q0 (((j+1:Nat):Int)<(↑(length s):Int))then zO ((j+1:Nat):Int) (length s)else Q3)=Q3:=by
    by_cases hj1:j+1<s.length
    ·rw[zw hj1];cases Q0 (((j+1:Nat):Int)<(↑(length s):Int))<;>rfl
    ·rw[ao ow];rfl
   unfold Mi;cases o with
   | none=>
    show(cT (.h20 _ _ _)).val=_;simp only[cT,w1,w2,ce s hj,jU s hj,zJ hj,zw hj,b1,b2,e,e2,Q8,zZ,aq,dO,if_true,zF,if_false,g3,hMC,hM];by_cases m:cg ((3,acc):Sem bZ)=Q3
    ·simp[m]
    ·simp[m]
   | some l=>
    have hl2:(l.length+[((3,acc):Sem zo)].length<=1073741824):=by have:l.length<=1000000:=ho;simp;omega
    show(cT (.h20b _ _ _ _)).val=_;simp only[cT,w1,w2,ce s hj,jU s hj,zJ hj,zw hj,b1,b2,e,e2,Q8,zZ,aq,dO,if_true,zF,if_false,g3,hMC,hM,zu hl2];by_cases m:cg ((3,acc):Sem bZ)=Q3
    ·simp[m]
    ·simp[m]
 ·have b1:((↑s[j].toNat:Int)!=39)=Q3:=by simp only[bne,yo];rw[<-ib,sk];exact c1
  have b2:((↑s[j].toNat:Int)==39)=Q4:=by rw[<-ib,sk];exact c1
  rw[if_pos c1];cases o with
  | none=>
   show(cT (.h20 _ _ _)).val=_;simp only[cT,w1,w2,ce s hj,jU s hj,zJ hj,zw hj,b1,b2,Q8,zZ,dO,if_true,zF,if_false,g1,zu hS]
  | some l=>
   show(cT (.h20b _ _ _ _)).val=_;simp only[cT,w1,w2,ce s hj,jU s hj,zJ hj,zw hj,b1,b2,Q8,zZ,dO,if_true,zF,if_false,g1,zu hS]
theorem zqp{s:zB}{acc:zB}:∀{o:ta},(cT (MU s (s.length:Int) ((3,acc),()) o)).val=Q1 (.inr rNo):=by
 intro o;have g3:Q0 ((↑(length s):Int)>=(↑(length s):Int))=Q3:=zu (Int.le_refl _);cases o with
 | none=>
  show(cT (.h20 _ _ _)).val=_;simp only[cT,zC,Q8,aq,if_true,zF,if_false,g3]
 | some l=>
  show(cT (.h20b _ _ _ _)).val=_;simp only[cT,zC,Q8,aq,if_true,zF,if_false,g3]
theorem l20{s:zB}{o:ta}(hl:s.length<=1000000)(ho:(oL o).length<=1000000):∀(n j:Nat)(acc:zB),s.length-j<=n->j<=s.length->acc.length<=j->
  (fg (s.drop j)=none->zX cT (n+1) (MU s (j:Int) ((3,acc),()) o) rNo)/\
  (∀t k,fg (s.drop j)=Q1 (t,k)->∀K r,(match Mi s (j+k) (3,acc++t) o with|.inl h=>zX cT K h r|.inr r'=>r'=r)->zX cT (K+k) (MU s (j:Int) ((3,acc),()) o) r)
 | n, j,acc,hn,hj,ha=>by
  by_cases hlt:j<s.length
  ·have hv:=v20 (o:=o) (acc:=acc) hl hlt ow ho;rw[fH hlt];by_cases c1:s[j]=39
   ·rw[if_neg (by simpa using c1)]at hv;by_cases c2:s[j+1]?=Q1 39
    ·rw[if_pos c2]at hv;obtain⟨hj1,c3⟩:=dh.1 c2;obtain⟨n,rfl⟩:∃m,n=m+1:=⟨n-1,ow⟩;obtain⟨i1,i2⟩:=l20 hl ho n (j+2) (acc++[39]) ow ow sg;rw[fH hj1,c1,c3,LJ,show j+1+1=j+2 from rfl];refine⟨λh=>?_,λt k h K r hr=>?_⟩
     ·rw[Option.map_eq_none_iff]at h;exact((zT.of hv).ends (i1 h))
     ·rw[eD]at h;obtain⟨⟨t',k'⟩,h1,h2⟩:=h;simp only[cB]at h2;obtain⟨rfl,rfl⟩:=h2;have:=i2 t' k' h1 K r (by rw[BG];rw[show j+2+k'=j+(k'+2) by omega];exact hr);exact((zT.of hv).ends this).mono ow
    ·rw[if_neg c2]at hv;rw[c1,D1 _ (by rw[List.head?_drop];exact c2)];refine⟨λh=>(by cases h),λt k h K r hr=>?_⟩;simp only[bB,cB]at h;obtain⟨rfl,rfl⟩:=h;rw[yr]at hr;revert hv hr;cases Mi s (j+1) (3,acc) o with
     |inl h=>intro hv hr;exact(zT.of hv).ends hr
     |inr r'=>intro hv hr;cases hr;exact(zX.of hv).mono ow
   ·rw[if_pos c1]at hv;obtain⟨n,rfl⟩:∃m,n=m+1:=⟨n-1,ow⟩;obtain⟨i1,i2⟩:=l20 hl ho n (j+1) (acc++[s[j]]) ow ow sg;rw[GO c1];refine⟨λh=>?_,λt k h K r hr=>?_⟩
    ·rw[Option.map_eq_none_iff]at h;exact((zT.of hv).ends (i1 h))
    ·rw[eD]at h;obtain⟨⟨t',k'⟩,h1,h2⟩:=h;simp only[cB]at h2;obtain⟨rfl,rfl⟩:=h2;have:=i2 t' k' h1 K r (by rw[BG];rw[show j+1+k'=j+(k'+1) by omega];exact hr);exact((zT.of hv).ends this).mono ow
  ·obtain rfl:j=s.length:=by omega
   rw[jH];exact⟨λ_=>(zX.of zqp).mono ow,λt k h=>(by simp[fg]at h)⟩
theorem zqm{s:zB}{j:Nat}{c f:Int}{z:zn [CP.d zo]}(hl:s.length<=1000000)(hj:j<s.length)(hp:bt s[j].toNat=Q3):∀{o:ta},(cT (T8 s (j:Int) c f z o)).val=Q1 (.inl (T8 s ((j+1:Nat):Int) c f z o)):=by
 intro o;have w1:IntKind.i64.wrap ((j:Int)+1)=((j+1:Nat):Int):=zr j um;cases o with
 | none=>
  show(cT (.h11 _ _ _ _ _)).val=_;simp only[cT,ce s hj,zJ hj,zw hj,rL,vP,hp,w1,Q8,zZ,yv,if_true]
 | some l=>
  show(cT (.h11b _ _ _ _ _ _)).val=_;simp only[cT,ce s hj,zJ hj,zw hj,rL,vP,hp,w1,Q8,zZ,yv,if_true]
theorem zql{s:zB}{j f:Nat}{c:UInt8}{z:zn [CP.d zo]}(hl:s.length<=1000000)(hj:j<=s.length)(hf:f<=j)(hp:∀h:j<s.length,bt s[j].toNat=Q4)(h1:zU c.toNat=Q4)(h2:c≠39):
  ∀{o:ta},(oL o).length<=1000000->(cT (T8 s (j:Int) (c.toNat:Int) (f:Int) z o)).val=Q1 (Mi s j (1,Qg (j-f) (Qh f s)) o):=by
 intro o ho;have e1:(bif Q0 ((j:Int)<(↑(length s):Int))then zO (j:Int) (length s)&&rK (↑(getD s (j:Int).toNat 0).toNat:Int)else Q3)=Q3:=by
  by_cases h:j<s.length
  ·rw[zw h,rL];cases Q0 ((j:Int)<(↑(length s):Int))<;>rfl
  ·rw[ao ow];rfl
 have e2:(bif Q0 ((j:Int)<(↑(length s):Int))then xP (↑(getD s (j:Int).toNat 0).toNat:Int)else Q4)=Q4:=by
  by_cases h:j<s.length
  ·rw[ce s h,vP,hp h];cases Q0 ((j:Int)<(↑(length s):Int))<;>rfl
  ·rw[ao ow];rfl
 have g1:(Q0 (0<=(f:Int))&&Q0 ((f:Int)<=(j:Int))&&Q0 ((j:Int)<=(↑(length s):Int)))=Q3:=by simp;omega
 have b2:((c.toNat:Int)==39)=Q4:=by rw[<-ib,sk];exact h2
 have hlen:(Qg (j-f) (Qh f s)).length<=1000000:=by simp;omega
 have hM:ma ((1,Qg (j-f) (Qh f s)):Sem zo)=cg (1,Qg (j-f) (Qh f s)):=A8 (t:=((1,Qg (j-f) (Qh f s)):Sem bZ)) hlen;have hMC:iO ((1,Qg (j-f) (Qh f s)):Sem zo)=Q3:=vL (t:=((1,Qg (j-f) (Qh f s)):Sem bZ)) hlen;unfold Mi;cases o with
 | none=>
  show(cT (.h11 _ _ _ _ _)).val=_;simp only[cT,e1,e2,g1,eT,fY,h1,b2,Q8,if_true,zF,if_false];simp only[aK,hMC,hM,if_true];generalize Qg (j-f) (Qh f s)=T;by_cases m:cg (1,T)=Q3
  ·simp[m]
  ·simp[m]
 | some l=>
  have hl2:(l.length+[((1,Qg (j-f) (Qh f s)):Sem zo)].length<=1073741824):=by have:l.length<=1000000:=ho;simp;omega
  show(cT (.h11b _ _ _ _ _ _)).val=_;simp only[cT,e1,e2,g1,eT,fY,h1,b2,Q8,if_true,zF,if_false];simp only[aK,hMC,hM,zu hl2,if_true];generalize Qg (j-f) (Qh f s)=T;by_cases m:cg (1,T)=Q3
  ·simp[m]
  ·simp[m]
theorem zqo{s:zB}{j:Nat}{c f:Int}{z:zn [CP.d zo]}(hl:s.length<=1000000)(hj:j<s.length)(hp:zU s[j].toNat=Q3):∀{o:ta},(cT (T9 s (j:Int) c f z o)).val=Q1 (.inl (T9 s ((j+1:Nat):Int) c f z o)):=by
 intro o;have w1:IntKind.i64.wrap ((j:Int)+1)=((j+1:Nat):Int):=zr j um;cases o with
 | none=>
  show(cT (.h15 _ _ _ _ _)).val=_;simp only[cT,ce s hj,zJ hj,zw hj,eT,fY,hp,w1,Q8,zZ,yv,if_true]
 | some l=>
  show(cT (.h15b _ _ _ _ _ _)).val=_;simp only[cT,ce s hj,zJ hj,zw hj,eT,fY,hp,w1,Q8,zZ,yv,if_true]
theorem zqn{s:zB}{j f:Nat}{c:UInt8}{z:zn [CP.d zo]}(hl:s.length<=1000000)(hj:j<=s.length)(hf:f<=j)(hp:∀h:j<s.length,zU s[j].toNat=Q4)(h2:c≠39):
  ∀{o:ta},(oL o).length<=1000000->(cT (T9 s (j:Int) (c.toNat:Int) (f:Int) z o)).val=Q1 (Mi s j (2,Qg (j-f) (Qh f s)) o):=by
 intro o ho;have e1:(bif Q0 ((j:Int)<(↑(length s):Int))then zO (j:Int) (length s)&&fP (↑(getD s (j:Int).toNat 0).toNat:Int)else Q3)=Q3:=by
  by_cases h:j<s.length
  ·rw[zw h,eT];cases Q0 ((j:Int)<(↑(length s):Int))<;>rfl
  ·rw[ao ow];rfl
 have e2:(bif Q0 ((j:Int)<(↑(length s):Int))then gR (↑(getD s (j:Int).toNat 0).toNat:Int)else Q4)=Q4:=by
  by_cases h:j<s.length
  ·rw[ce s h,fY,hp h];cases Q0 ((j:Int)<(↑(length s):Int))<;>rfl
  ·rw[ao ow];rfl
 have g1:(Q0 (0<=(f:Int))&&Q0 ((f:Int)<=(j:Int))&&Q0 ((j:Int)<=(↑(length s):Int)))=Q3:=by simp;omega
 have b2:((c.toNat:Int)==39)=Q4:=by rw[<-ib,sk];exact h2
 have hlen:(Qg (j-f) (Qh f s)).length<=1000000:=by simp;omega
 have hM:ma ((2,Qg (j-f) (Qh f s)):Sem zo)=cg (2,Qg (j-f) (Qh f s)):=A8 (t:=((2,Qg (j-f) (Qh f s)):Sem bZ)) hlen;have hMC:iO ((2,Qg (j-f) (Qh f s)):Sem zo)=Q3:=vL (t:=((2,Qg (j-f) (Qh f s)):Sem bZ)) hlen;unfold Mi;cases o with
 | none=>
  show(cT (.h15 _ _ _ _ _)).val=_;simp only[cT,e1,e2,g1,b2,Q8,if_true,zF,if_false];simp only[aK,hMC,hM,if_true];generalize Qg (j-f) (Qh f s)=T;by_cases m:cg (2,T)=Q3
  ·simp[m]
  ·simp[m]
 | some l=>
  have hl2:(l.length+[((2,Qg (j-f) (Qh f s)):Sem zo)].length<=1073741824):=by have:l.length<=1000000:=ho;simp;omega
  show(cT (.h15b _ _ _ _ _ _)).val=_;simp only[cT,e1,e2,g1,b2,Q8,if_true,zF,if_false];simp only[aK,hMC,hM,zu hl2,if_true];generalize Qg (j-f) (Qh f s)=T;by_cases m:cg (2,T)=Q3
  ·simp[m]
  ·simp[m]
theorem HJ{p:Int->Bool}{s:zB}(st:Nat->eB)(hs:∀j(hj:j<s.length),p s[j].toNat=Q3->(cT (st j)).val=Q1 (.inl (st (j+1)))):∀(n j:Nat),s.length-j<=n->j<=s.length->
  zT cT (cN p (s.drop j)) (st j) (st (j+cN p (s.drop j)))/\j+cN p (s.drop j)<=s.length/\∀h:j+cN p (s.drop j)<s.length,p s[j+cN p (s.drop j)].toNat=Q4
 | n,j,hn,hj=>by
  by_cases hlt:j<s.length
  ·by_cases hp:p s[j].toNat=Q3
   ·obtain⟨n,rfl⟩:∃m,n=m+1:=⟨n-1,ow⟩;have e:cN p (s.drop j)=cN p (s.drop (j+1))+1:=by rw[fH hlt,cN,if_pos hp]
    obtain⟨i1,i2,i3⟩:=HJ st hs n (j+1) ow ow;have e2:j+cN p (s.drop j)=j+1+cN p (s.drop (j+1)):=by omega
    refine⟨?_,ow,?_⟩
    ·rw[e2,e];exact((zT.of (hs j hlt hp)).trans i1).mono ow
    ·intro h;simp only[e2]at h⊢;exact i3 h
   ·have e:cN p (s.drop j)=0:=by rw[fH hlt,cN,if_neg hp]
    rw[e];exact⟨zT.refl _,ow,λ_=>by simpa using hp⟩
  ·have e:cN p (s.drop j)=0:=by rw[BC ow];rfl
   rw[e];exact⟨zT.refl _,ow,λh=>absurd h ow⟩
theorem v3{s:zB}{i:Nat}(hl:s.length<=1000000)(hi:i<s.length):∀{o:ta},(oL o).length<=1000000->∃z,(cT (Sg s (i:Int) o)).val=Q1 (
  if(bif (s[i].toNat:Int)==32 then Q3 else(s[i].toNat:Int)==10)=Q3 then .inl (Sg s ((i+1:Nat):Int) o)
  else if aI s[i].toNat=Q3 then .inl (T8 s ((i+1:Nat):Int) s[i].toNat i z o)
  else if zU s[i].toNat=Q3 then .inl (T9 s ((i+1:Nat):Int) s[i].toNat i z o)
  else if s[i]=39 then .inl (MU s ((i+1:Nat):Int) ((3,[]),()) o)
  else Mi s (i+1) (4,[s[i]]) o):=by
 intro o ho;refine⟨((4,[s[i]]),()),?_⟩;have w1:IntKind.i64.wrap ((i:Int)+1)=((i+1:Nat):Int):=zr i um;have g1:(Q0 (0<=(i:Int))&&Q0 ((i:Int)<=((i+1:Nat):Int))&&Q0 (((i+1:Nat):Int)<=(↑(length s):Int)))=Q3:=by simp;omega
 have hM:ma ((4,[s[i]]):Sem zo)=cg (4,[s[i]]):=A8 (t:=((4,[s[i]]):Sem bZ)) sw;have hMC:iO ((4,[s[i]]):Sem zo)=Q3:=vL (t:=((4,[s[i]]):Sem bZ)) sw;have h39:s[i]=39↔((s[i].toNat:Int)==39)=Q3:=sk.symm;unfold Mi;simp only[h39];cases o with
 | none=>
  show(cT (.h3 _ _)).val=_;simp only[cT,w1,ce s hi,jU s hi,zJ hi,zw hi,g1,mb,oA,eT,fY,Q8,if_true,hMC,hM];repeat' split
  all_goals first|rfl|simp_all
 | some l=>
  have hl2:(l.length+[((4,[s[i]]):Sem zo)].length<=1073741824):=by have:l.length<=1000000:=ho;simp;omega
  show(cT (.h3b _ _ _)).val=_;simp only[cT,w1,ce s hi,jU s hi,zJ hi,zw hi,g1,mb,oA,eT,fY,Q8,if_true,hMC,hM,zu hl2];repeat' split
  all_goals first|rfl|simp_all
theorem Rp{c:UInt8}(h:aI c.toNat=Q3):zU c.toNat=Q4/\c≠39:=by
 have h39:aI ((39:UInt8).toNat:Int)=Q4:=rfl;constructor
 ·have h65:(65:Int)<=(c.toNat:Int):=by
   by_cases k:(65:Int)<=(c.toNat:Int)
   ·exact k
   ·exfalso;have k1:Q0 ((c.toNat:Int)>=97)=Q4:=ao ow;have k2:Q0 ((c.toNat:Int)>=65)=Q4:=ao ow;unfold aI at h;rw[k1,k2]at h;cases h
  have k3:Q0 ((c.toNat:Int)<=57)=Q4:=ao ow;unfold zU;rw[k3];cases Q0 ((c.toNat:Int)>=48)<;>rfl
 ·rintro rfl;rw[h39]at h;cases h
theorem Td{c:UInt8}(h:zU c.toNat=Q3):c≠39:=by
 have h39:zU ((39:UInt8).toNat:Int)=Q4:=rfl;rintro rfl;rw[h39]at h;cases h
theorem DC{s:zB}(hl:s.length<=1000000):∀(n i:Nat)(o:ta),s.length+1<=n+i->i<=s.length->(oL o).length<=i->∃r,zX cT (3*(s.length-i)+3) (Sg s (i:Int) o) r/\SD r (wM n (s.drop i) (oL o).length)
 |0,i,o,h1,h2,h3=>by omega
 | n + 1,i,o,h1,h2,h3=>by
  by_cases hi:i<s.length
  ·obtain⟨z,hv⟩:=v3 (o:=o) hl hi ow;rw[fH hi,wM];have hdrop:Qh i s=s[i]::Qh (i+1) s:=fH hi;have next:∀(j:Nat)(t:Sem bZ),i<j->j<=s.length->∃r,(match Mi s j t o with|.inl h=>zX cT (3*(s.length-j)+3) h r|.inr r'=>r'=r)/\SD r (if cg t=Q3 then wM n (s.drop j) ((oL o).length+1)else Q4):=by
    intro j t hj1 hj2;unfold Mi;by_cases m:cg t=Q3
    ·rw[if_pos m,if_pos m];obtain⟨r,a1,a2⟩:=DC hl n j (Q1 (oL o++[t])) ow hj2 sg;refine⟨r,a1,?_⟩;have:(oL (Q1 (oL o++[t]))).length=(oL o).length+1:=by simp
     rw[this]at a2;exact a2
    ·rw[if_neg m,if_neg m];exact⟨rNo,rfl,Wt⟩
   by_cases c0:(bif (s[i].toNat:Int)==32 then Q3 else(s[i].toNat:Int)==10)=Q3
   ·rw[if_pos c0]at hv⊢;obtain⟨r,a1,a2⟩:=DC hl n (i+1) o ow ow ow;exact⟨r,((zT.of hv).ends a1).mono ow,a2⟩
   ·rw[if_neg c0]at hv⊢;unfold pL;by_cases c1:aI s[i].toNat=Q3
    ·rw[if_pos c1]at hv⊢;obtain⟨b1,b2⟩:=Rp c1;obtain⟨p1,p2,p3⟩:=HJ (p:=bt) (s:=s) (λj=>T8 s (j:Int) (s[i].toNat:Int) (i:Int) z o) (λj hj hp=>zqm hl hj hp) s.length (i+1) ow ow;have hx:=zql (z:=z) (c:=s[i]) (f:=i) hl p2 ow p3 b1 b2 (o:=o) ow;rw[show i+1+cN bt (Qh (i+1) s)-i=cN bt (Qh (i+1) s)+1 by omega,hdrop]at hx;obtain⟨r,a1,a2⟩:=next (i+1+cN bt (Qh (i+1) s)) (1,(s[i]::Qh (i+1) s).take (cN bt (Qh (i+1) s)+1)) ow p2
     refine⟨r,?_,?_⟩
     ·revert hx a1;cases Mi s (i+1+cN bt (Qh (i+1) s)) (1,(s[i]::Qh (i+1) s).take (cN bt (Qh (i+1) s)+1)) o with
      |inl h=>intro hx a1;exact(((zT.of hv).trans p1).ends ((zT.of hx).ends a1)).mono ow
      |inr r'=>intro hx a1;cases a1;exact(((zT.of hv).trans p1).ends (zX.of hx)).mono ow
     ·rw[<-hdrop,Fe];rw[show i+(cN bt (Qh (i+1) s)+1)=i+1+cN bt (Qh (i+1) s) by omega];rw[hdrop];exact a2
    ·rw[if_neg c1]at hv⊢;by_cases c2:zU s[i].toNat=Q3
     ·rw[if_pos c2]at hv⊢;have b2:=Td c2;obtain⟨p1,p2,p3⟩:=HJ (p:=zU) (s:=s) (λj=>T9 s (j:Int) (s[i].toNat:Int) (i:Int) z o) (λj hj hp=>zqo hl hj hp) s.length (i+1) ow ow;have hx:=zqn (z:=z) (c:=s[i]) (f:=i) hl p2 ow p3 b2 (o:=o) ow;rw[show i+1+cN zU (Qh (i+1) s)-i=cN zU (Qh (i+1) s)+1 by omega,hdrop]at hx;obtain⟨r,a1,a2⟩:=next (i+1+cN zU (Qh (i+1) s)) (2,(s[i]::Qh (i+1) s).take (cN zU (Qh (i+1) s)+1)) ow p2
      refine⟨r,?_,?_⟩
      ·revert hx a1;cases Mi s (i+1+cN zU (Qh (i+1) s)) (2,(s[i]::Qh (i+1) s).take (cN zU (Qh (i+1) s)+1)) o with
       |inl h=>intro hx a1;exact(((zT.of hv).trans p1).ends ((zT.of hx).ends a1)).mono ow
       |inr r'=>intro hx a1;cases a1;exact(((zT.of hv).trans p1).ends (zX.of hx)).mono ow
      ·rw[<-hdrop,Fe];rw[show i+(cN zU (Qh (i+1) s)+1)=i+1+cN zU (Qh (i+1) s) by omega];rw[hdrop];exact a2
     ·rw[if_neg c2]at hv⊢;by_cases c3:s[i]=39
      ·rw[if_pos c3]at hv⊢;obtain⟨q1,q2⟩:=l20 (o:=o) hl ow (s.length-(i+1)) (i+1) [] (ae _) ow sw;cases hs:fg (Qh (i+1) s)with
       | none=>
        have hm:cg ((0,[]):Sem bZ)=Q4:=rfl;simp only[hm,zF,if_false];exact⟨rNo,((zT.of hv).ends (q1 hs)).mono ow,Wt⟩
       | some x=>
        obtain⟨t,k⟩:=x;obtain⟨k1,k2,_⟩:=rU _ _ _ _ (ae _) hs;have k2:k<=s.length-(i+1):=by simpa using k2
        obtain⟨r,a1,a2⟩:=next (i+1+k) (3,t) ow ow
        refine⟨r,((zT.of hv).ends (q2 t k hs _ r a1)).mono ow,?_⟩;simp only;rw[<-hdrop,Fe,show i+(k+1)=i+1+k by omega];exact a2
      ·rw[if_neg c3]at hv⊢;obtain⟨r,a1,a2⟩:=next (i+1) (4,[s[i]]) ow ow
       refine⟨r,?_,a2⟩;revert hv a1;cases Mi s (i+1) (4,[s[i]]) o with
       |inl h=>intro hv a1;exact((zT.of hv).ends a1).mono ow
       |inr r'=>intro hv a1;cases a1;exact(zX.of hv).mono ow
  ·obtain rfl:i=s.length:=by omega
   rw[jH,wM];cases o with
   | none=>
    refine⟨(.tup [.nils,.bool Q3],[]),(zX.of ?_).mono ow,[],rfl⟩;show(cT (.h3 _ _)).val=_;simp only[cT,zC,Q8];rfl
   | some l=>
    refine⟨(.tup [.vec 0,.bool (Q0 ((↑l.length:Int)<=400))],[.vec zo l]),(zX.of ?_).mono ow,l,?_⟩
    ·show(cT (.h3b _ _ _)).val=_;simp only[cT,zC,Q8];rfl
    ·have e:Q0 ((↑l.length:Int)<=400)=Q0 (l.length<=400):=by
      by_cases h:l.length<=400
      ·rw[zu h];exact zu ow
      ·rw[ao h];exact ao ow
     rw[e];rfl
theorem Lj{s:zB}(hl:s.length<=1000000):∃l,Ir s=Q1 (l,(cut s).2==(0:Int),()):=by
 obtain⟨r,h1,l,h2⟩:=DC hl (s.length+1) 0 none ow ow sw;have h3:=BY (s.length+1) s 0 [] ow ow ow sw;have hc:((cut s).2==(0:Int))=wM (s.length+1) (s.drop 0) ([]:List (Sem zo)).length:=h3;refine⟨l,?_⟩;rw[hc];exact zy (s:=Sg s ((0:Nat):Int) none) rfl h1 ow h2
theorem Wl{s:zB}(hl:s.length<=1000000):Iq s=Q3:=by
 obtain⟨l,h⟩:=Lj hl;unfold Iq;rw[h];rfl
theorem Z2{s:zB}(hl:s.length<=1000000):(yW s).2=((cut s).2==(0:Int)):=by
 obtain⟨l,h⟩:=Lj hl;unfold yW;rw[h];rfl
theorem tR{α:Type}(p:α->Bool):∀(l:List α)(i:Nat),(!Q0 (zR p l i>=0))=Q3↔∀x∈l,p x=Q4
 | [],i=>by
  refine⟨λ_ x hx=>(by cases hx),λ_=>?_⟩;rw[zR];rfl
 | y::r,i=>by
  refine⟨λh=>pS p _ i h,λh=>?_⟩;rw[zR,h y sw];exact(tR p r (i+1)).2 λx hx=>h x (by simp[hx])
theorem js{x:Sem zl}(h4:x.2.2.2.1.length<=1000)(h5:x.2.2.2.2.1.length<=1000)(h7:x.2.2.2.2.2.2.1.length<=1000)(h8:x.2.2.2.2.2.2.2.1.length<=1000)(h10:x.2.2.2.2.2.2.2.2.2.1.length<=1000)(h11:x.2.2.2.2.2.2.2.2.2.2.1.length<=1000):
  eK x=Q3↔x.2.1=[]/\x.2.2.1=[]/\x.2.2.2.2.2.1=[]/\x.2.2.2.2.2.2.2.2.2.2.2.2=[]/\x.2.2.2.1=[]/\x.2.2.2.2.1=[]/\x.2.2.2.2.2.2.1=[]/\x.2.2.2.2.2.2.2.1=[]/\x.2.2.2.2.2.2.2.2.2.1=[]/\x.2.2.2.2.2.2.2.2.2.2.1=[]/\x.2.2.2.2.2.2.2.2.1=dw/\x.2.2.2.2.2.2.2.2.2.2.2.1=dw:=by
 unfold eK
 have hw:(IntKind.i64.wrap (IntKind.i64.wrap (IntKind.i64.wrap (IntKind.i64.wrap (IntKind.i64.wrap ((↑(length x.2.2.2.1):Int)+(↑(length x.2.2.2.2.1):Int))+(↑(length x.2.2.2.2.2.2.1):Int))+(↑(length x.2.2.2.2.2.2.2.1):Int))+(↑(length x.2.2.2.2.2.2.2.2.2.1):Int))+(↑(length x.2.2.2.2.2.2.2.2.2.2.1):Int)))=
   ((x.2.2.2.1.length+x.2.2.2.2.1.length+x.2.2.2.2.2.2.1.length+x.2.2.2.2.2.2.2.1.length+x.2.2.2.2.2.2.2.2.2.1.length+x.2.2.2.2.2.2.2.2.2.2.1.length:Nat):Int):=by
  have g:∀n:Nat,n<=10000->IntKind.i64.wrap (n:Int)=(n:Int):=λn hn=>W7 n (by omega)
  rw[<-ul,g _ (by omega),<-ul,g _ (by omega),<-ul,g _ (by omega),<-ul,g _ (by omega),<-ul,g _ (by omega)]
 rw[hw];constructor
 ·intro h;obtain⟨k1,h⟩:=cu h;obtain⟨k2,h⟩:=cu h;obtain⟨k3,k4⟩:=cu h;simp only[aZ,List.append_eq_nil_iff]at k1;obtain⟨⟨⟨a1,a2⟩,a3⟩,a4⟩:=k1;have k2:x.2.2.2.1.length+x.2.2.2.2.1.length+x.2.2.2.2.2.2.1.length+x.2.2.2.2.2.2.2.1.length+x.2.2.2.2.2.2.2.2.2.1.length+x.2.2.2.2.2.2.2.2.2.2.1.length=0:=by
   have:=bI k2;exact Int.ofNat.inj this
  refine⟨a1,a2,a3,a4,?_,?_,?_,?_,?_,?_,ky.1 k3,ky.1 k4⟩<;>exact Ah (by omega)
 ·rintro⟨a1,a2,a3,a4,a5,a6,a7,a8,a9,a10,a11,a12⟩;rw[a1,a2,a3,a4,a5,a6,a7,a8,a9,a10,a11,a12,show ic dw=Q3 from rfl];rfl
theorem WJ(s:Sem zl):eo s=(fw s&&((cut (iS s)).2==0)):=by
 unfold eo qm;cases fw s
 ·rfl
 ·show((if((cut (iS s)).2!=0)=Q3 then(([],1):Sem Q6×Sem zg)else(iS s,0)).2==0)=_;cases h:((cut (iS s)).2==0)
  ·have:((cut (iS s)).2!=0)=Q3:=by simp only[bne,h];rfl
   rw[if_pos this];rfl
  ·have:((cut (iS s)).2!=0)=Q4:=by simp only[bne,h];rfl
   rw[this];rfl
theorem Vn(s:zB):bT s=zL s:=rfl
theorem GH{s:Sem zl}(h:pf s){t:zB}{own:Sem zl}{ok:Bool}(hw:dI s=Q1 (t,own,ok,()))(hl:t.length<=900000)(hc:Bu own):
  ∃t',oB s=Q1 (t',(ok&&(zL s.2.1&&(ft own s&&((cut t).2==(0:Int))))),()):=by
 have hn:=h.sh.table;have e1:vU s=Q3:=by unfold vU;rw[hw];rfl
 have e2:Bc s=(t,own,ok):=by unfold Bc;rw[hw];rfl
 obtain⟨s1,_⟩:=rO (b:=s) hc;have n1:=bu (s:=s.2.1) ow;have n2:=ff (s:=s.2.1) ow;have k1:=Wl (s:=t) ow;have k2:=Z2 (s:=t) ow;have es:vU (s.1,s.2.1,s.2.2.1,s.2.2.2.1,s.t.1,s.t.2.1,s.t.q.1,s.t.q.2.1,s.t.t.1,s.t.t.2.1,s.t.t.q.1,s.t.t.q.2.1,s.t.t.t)=Q3:=e1;have ew:Bc (s.1,s.2.1,s.2.2.1,s.2.2.2.1,s.t.1,s.t.2.1,s.t.q.1,s.t.q.2.1,s.t.t.1,s.t.t.2.1,s.t.t.q.1,s.t.t.q.2.1,s.t.t.t)=(t,own,ok):=e2;have ss:Ba (own.1,own.2.1,own.2.2.1,own.2.2.2.1,own.t.1,own.t.2.1,own.t.q.1,own.t.q.2.1,own.t.t.1,own.t.t.2.1,own.t.t.q.1,own.t.t.q.2.1,own.t.t.t) (s.1,s.2.1,s.2.2.1,s.2.2.2.1,s.t.1,s.t.2.1,s.t.q.1,s.t.q.2.1,s.t.t.1,s.t.t.2.1,s.t.t.q.1,s.t.t.q.2.1,s.t.t.t)=Q3:=s1;have sv:ft (own.1,own.2.1,own.2.2.1,own.2.2.2.1,own.t.1,own.t.2.1,own.t.q.1,own.t.q.2.1,own.t.t.1,own.t.t.2.1,own.t.t.q.1,own.t.t.q.2.1,own.t.t.t) (s.1,s.2.1,s.2.2.1,s.2.2.2.1,s.t.1,s.t.2.1,s.t.q.1,s.t.q.2.1,s.t.t.1,s.t.t.2.1,s.t.t.q.1,s.t.t.q.2.1,s.t.t.t)=ft own s:=rfl;have hv:∃t' b,(zfM s).val=Q1 (.inr (.tup [.str t',b],[]))/\(b=.kb Q3/\(ok&&(zL s.2.1&&(ft own s&&((cut t).2==(0:Int)))))=Q3\/(b=.kb Q4/\(ok&&(zL s.2.1&&(ft own s&&((cut t).2==(0:Int)))))=Q4)):=by
  simp only[zfM,Q8,zk,es,ew,ss,sv,n1,n2,k1,k2,if_true];generalize ft own s=b1;generalize zL s.2.1=b2;generalize((cut t).2==(0:Int))=b3;cases ok<;>cases b2<;>cases b1<;>cases b3<;>first|exact⟨_,_,rfl,.inl ⟨rfl,rfl⟩⟩|exact⟨_,_,rfl,.inr ⟨rfl,rfl⟩⟩
 obtain⟨t',b,hv,hb⟩:=hv;refine⟨t',zH hv ?_⟩;rcases hb with⟨rfl,hb⟩|⟨rfl,hb⟩<;>rw[hb]<;>rfl
theorem ND{s:Sem zl}(h:pf s):∃t b,oB s=Q1 (t,b,()):=by
 obtain⟨t,own,ok,h1,h2,h3⟩:=NG h;obtain⟨t',h4⟩:=GH h h1 h2 h3;exact⟨t',_,h4⟩
theorem Pi{s:Sem zl}(h:pf s)(o:s.1=[99,111,112,121]):fw s=(ll s&&(zL s.2.1&&ft (s.1,s.2.1,s.2.2.1,s.2.2.2.1,[],[],[],[],s.2.2.2.2.2.2.2.2.1,[],[],dw,[]) s)):=by
 have hn:=h.sh.names.1;have hc:=h.sh.cols.1;have hq:=h.sh.uniques.1;have hr:=h.sh.refs.1;have hw:=h.sh.row;have hs:=h.sh.sets.1;obtain⟨p0,p1,p2,p3,p4,p5,p6,p7,p8,p9,p10⟩:=ZR o;obtain⟨_,hp⟩:=eL (s:=s) (g:=_) (b:=_) (by simp only[uR,Q8,p0,p1,p2,p3,p4,p5,p6,p7,p8,p9,p10,if_true,if_false,zF,zk];exact rfl);obtain⟨_,hsame⟩:=rO (a:=(s.1,s.2.1,s.2.2.1,s.2.2.2.1,[],[],[],[],s.2.2.2.2.2.2.2.2.1,[],[],dw,[])) (b:=s) (eF h (.inl rfl) (.inr rfl) (.inr rfl) (.inr rfl) (.inl rfl) (.inr rfl) (.inr rfl) (.inr rfl));have hem:=js (x:=(s.1,[],[],[],s.2.2.2.2.1,s.2.2.2.2.2.1,s.2.2.2.2.2.2.1,s.2.2.2.2.2.2.2.1,dw,s.2.2.2.2.2.2.2.2.2.1,s.2.2.2.2.2.2.2.2.2.2.1,s.2.2.2.2.2.2.2.2.2.2.2.1,s.2.2.2.2.2.2.2.2.2.2.2.2)) (by simp) (by simpa using cC hc (by omega)) (by simpa using cC hq (by omega)) (by simpa using cC hr (by omega)) (by simpa using cC hw (by omega)) (by simpa using cC hs (by omega));have hec:eA (s.1,[],[],[],s.2.2.2.2.1,s.2.2.2.2.2.1,s.2.2.2.2.2.2.1,s.2.2.2.2.2.2.2.1,dw,s.2.2.2.2.2.2.2.2.2.1,s.2.2.2.2.2.2.2.2.2.2.1,s.2.2.2.2.2.2.2.2.2.2.2.1,s.2.2.2.2.2.2.2.2.2.2.2.2)=Q3:=fZ (by simp) (by simp) (by have:=h.sh.key;simpa using this) (by have:=h.sh.role;simpa using this);rw[hp];apply iY.2;have hown:ft (s.1,s.2.1,s.2.2.1,s.2.2.2.1,[],[],[],[],s.2.2.2.2.2.2.2.2.1,[],[],dw,[]) s=Q3↔eK (s.1,[],[],[],s.2.2.2.2.1,s.2.2.2.2.2.1,s.2.2.2.2.2.2.1,s.2.2.2.2.2.2.2.1,dw,s.2.2.2.2.2.2.2.2.2.1,s.2.2.2.2.2.2.2.2.2.2.1,s.2.2.2.2.2.2.2.2.2.2.2.1,s.2.2.2.2.2.2.2.2.2.2.2.2)=Q3:=by
  rw[hsame,hem];obtain⟨s1,s2,s3,s4,s5,s6,s7,s8,s9,s10,s11,s12,s13⟩:=s;simp only[cB,true_and];constructor
  ·intro k;simp_all
  ·intro k;simp_all
 have hix:=tR (λx=>!bT x) s.2.2.2.1 0;have hnm:(!Q0 (zR (λx=>!bT x) s.2.2.2.1 0>=0))=Q0 (∀x∈s.2.2.2.1,zL x=Q3):=by
  apply iY.2;rw[hix,decide_eq_true_iff];exact⟨λk x hx=>by have:=k x hx;simpa[Vn]using this,λk x hx=>by have:=k x hx;simpa[Vn]using this⟩
 have hlb:(bif Q0 ((↑(length s.2.2.2.1):Int)<1)then Q3 else Q0 ((↑(length s.2.2.2.1):Int)>8))=!(Q0 (1<=s.2.2.2.1.length)&&Q0 (s.2.2.2.1.length<=8)):=by
  by_cases a:1<=s.2.2.2.1.length
  ·rw[ao (show¬(↑(length s.2.2.2.1):Int)<1 by omega),zu a];by_cases b:s.2.2.2.1.length<=8
   ·rw[ao (show¬(↑(length s.2.2.2.1):Int)>8 by omega),zu b];rfl
   ·rw[zu (show(↑(length s.2.2.2.1):Int)>8 by omega),ao b];rfl
  ·rw[zu (show(↑(length s.2.2.2.1):Int)<1 by omega),ao a];rfl
 rw[hnm,hlb,hec];unfold ll;rw[show bT s.2.1=zL s.2.1 from rfl,show bT s.2.2.1=zL s.2.2.1 from rfl];rw[iY.2 hown];generalize eK _=b1;generalize bU s.2.2.2.2.2.2.2.2.1=b2;generalize zL s.2.1=b3;generalize zL s.2.2.1=b4;generalize Q0 (∀x∈s.2.2.2.1,zL x=Q3)=b5;generalize(Q0 (1<=s.2.2.2.1.length)&&Q0 (s.2.2.2.1.length<=8))=b6;cases b1<;>cases b2<;>cases b3<;>cases b4<;>cases b5<;>cases b6<;>simp
theorem Pj{s:Sem zl}(h:pf s)(o:s.1=gK):fw s=(oe s&&(zL s.2.1&&ft (s.1,s.2.1,s.2.2.1,[],[],s.t.2.1,[],[],s.t.t.1,[],[],dw,s.t.t.t) s)):=by
 have hn:=h.sh.names.1;have hc:=h.sh.cols.1;have hq:=h.sh.uniques.1;have hr:=h.sh.refs.1;have hw:=h.sh.row;have hs:=h.sh.sets.1;obtain⟨p0,p1,p2,p3,p4,p5,p6,p7,p8,p9,p10,p11⟩:=ZS o;obtain⟨_,hp⟩:=eL (s:=s) (g:=_) (b:=_) (by simp only[uR,Q8,p0,p1,p2,p3,p4,p5,p6,p7,p8,p9,p10,p11,if_true,if_false,zF,zk];exact rfl);obtain⟨_,hsame⟩:=rO (a:=(s.1,s.2.1,s.2.2.1,[],[],s.t.2.1,[],[],s.t.t.1,[],[],dw,s.t.t.t)) (b:=s) (eF h (.inr rfl) (.inr rfl) (.inr rfl) (.inr rfl) (.inl rfl) (.inr rfl) (.inr rfl) (.inr rfl));have hem:=js (x:=(s.1,[],[],s.2.2.2.1,s.t.1,[],s.t.q.1,s.t.q.2.1,dw,s.t.t.2.1,s.t.t.q.1,s.t.t.q.2.1,[])) (by simpa using cC hn ow) (by simpa using cC hc ow) (by simpa using cC hq ow) (by simpa using cC hr ow) (by simpa using cC hw ow) (by simpa using cC hs ow);have hec:eA (s.1,[],[],s.2.2.2.1,s.t.1,[],s.t.q.1,s.t.q.2.1,dw,s.t.t.2.1,s.t.t.q.1,s.t.t.q.2.1,[])=Q3:=fZ sw sw sw sw;rw[hp];apply iY.2;have hown:ft (s.1,s.2.1,s.2.2.1,[],[],s.t.2.1,[],[],s.t.t.1,[],[],dw,s.t.t.t) s=Q3↔eK (s.1,[],[],s.2.2.2.1,s.t.1,[],s.t.q.1,s.t.q.2.1,dw,s.t.t.2.1,s.t.t.q.1,s.t.t.q.2.1,[])=Q3:=by
  rw[hsame,hem];obtain⟨s1,s2,s3,s4,s5,s6,s7,s8,s9,s10,s11,s12,s13⟩:=s;simp only[cB,true_and];constructor
  ·intro k;simp_all
  ·intro k;simp_all
 rw[hec];unfold oe;rw[show bT s.2.1=zL s.2.1 from rfl,show bT s.2.2.1=zL s.2.2.1 from rfl,show bT s.t.2.1=zL s.t.2.1 from rfl,show bT s.t.t.t=zL s.t.t.t from rfl];rw[iY.2 hown];generalize eK _=b1;generalize bU s.t.t.1=b2;generalize zL s.2.1=b3;generalize zL s.2.2.1=b4;generalize zL s.t.2.1=b5;generalize zL s.t.t.t=b6;cases b1<;>cases b2<;>cases b3<;>cases b4<;>cases b5<;>cases b6<;>simp
theorem KY{s:Sem zl}(h:pf s)(o:s.1=[103,114,111,117,112]):fw s=(gN s&&(zL s.2.1&&ft (s.1,s.2.1,s.2.2.1,s.2.2.2.1,[],[],[],[],s.2.2.2.2.2.2.2.2.1,[],[],dw,[]) s)):=by
 have hn:=h.sh.names.1;have hc:=h.sh.cols.1;have hq:=h.sh.uniques.1;have hr:=h.sh.refs.1;have hw:=h.sh.row;have hs:=h.sh.sets.1;obtain⟨p0,p1,p2,p3,p4,p5,p6,p7,p8,p9,p10,p11,p12⟩:=VO o;obtain⟨_,hp⟩:=eL (s:=s) (g:=_) (b:=_) (by simp only[uR,Q8,p0,p1,p2,p3,p4,p5,p6,p7,p8,p9,p10,p11,p12,if_true,if_false,zF,zk];exact rfl);obtain⟨_,hsame⟩:=rO (a:=(s.1,s.2.1,s.2.2.1,s.2.2.2.1,[],[],[],[],s.2.2.2.2.2.2.2.2.1,[],[],dw,[])) (b:=s) (eF h (.inl rfl) (.inr rfl) (.inr rfl) (.inr rfl) (.inl rfl) (.inr rfl) (.inr rfl) (.inr rfl));have hem:=js (x:=(s.1,[],[],[],s.2.2.2.2.1,s.2.2.2.2.2.1,s.2.2.2.2.2.2.1,s.2.2.2.2.2.2.2.1,dw,s.2.2.2.2.2.2.2.2.2.1,s.2.2.2.2.2.2.2.2.2.2.1,s.2.2.2.2.2.2.2.2.2.2.2.1,s.2.2.2.2.2.2.2.2.2.2.2.2)) (by simp) (by simpa using cC hc (by omega)) (by simpa using cC hq (by omega)) (by simpa using cC hr (by omega)) (by simpa using cC hw (by omega)) (by simpa using cC hs (by omega));have hec:eA (s.1,[],[],[],s.2.2.2.2.1,s.2.2.2.2.2.1,s.2.2.2.2.2.2.1,s.2.2.2.2.2.2.2.1,dw,s.2.2.2.2.2.2.2.2.2.1,s.2.2.2.2.2.2.2.2.2.2.1,s.2.2.2.2.2.2.2.2.2.2.2.1,s.2.2.2.2.2.2.2.2.2.2.2.2)=Q3:=fZ (by simp) (by simp) (by have:=h.sh.key;simpa using this) (by have:=h.sh.role;simpa using this);rw[hp];apply iY.2;have hown:ft (s.1,s.2.1,s.2.2.1,s.2.2.2.1,[],[],[],[],s.2.2.2.2.2.2.2.2.1,[],[],dw,[]) s=Q3↔eK (s.1,[],[],[],s.2.2.2.2.1,s.2.2.2.2.2.1,s.2.2.2.2.2.2.1,s.2.2.2.2.2.2.2.1,dw,s.2.2.2.2.2.2.2.2.2.1,s.2.2.2.2.2.2.2.2.2.2.1,s.2.2.2.2.2.2.2.2.2.2.2.1,s.2.2.2.2.2.2.2.2.2.2.2.2)=Q3:=by
  rw[hsame,hem];obtain⟨s1,s2,s3,s4,s5,s6,s7,s8,s9,s10,s11,s12,s13⟩:=s;simp only[cB,true_and];constructor
  ·intro k;simp_all
  ·intro k;simp_all
 have hix:=tR (λx=>!bT x) s.2.2.2.1 0;have hlb:(bif bif Q0 ((↑(length s.2.2.2.1):Int)<2)then Q3 else Q0 ((↑(length s.2.2.2.1):Int)>2)then Q4 else bif !Q0 (zR (λx=>!bT x) s.2.2.2.1 0>=0)then bU s.2.2.2.2.2.2.2.2.1 else Q4)=(Q0 (s.2.2.2.1.length=2)&&(bU s.2.2.2.2.2.2.2.2.1&&(zL (s.2.2.2.1.getD 0 [])&&zL (s.2.2.2.1.getD 1 [])))):=by
  by_cases a:s.2.2.2.1.length=2
  ·rw[ao (show¬(↑(length s.2.2.2.1):Int)<2 by omega),ao (show¬(↑(length s.2.2.2.1):Int)>2 by omega),zu a];have hnm:(!Q0 (zR (λx=>!bT x) s.2.2.2.1 0>=0))=(zL (s.2.2.2.1.getD 0 [])&&zL (s.2.2.2.1.getD 1 [])):=by
    apply iY.2;rw[hix,aE];obtain⟨s1,s2,s3,s4,s5⟩:=s
    match s4,a with
    |[x,y],_=>simp[Vn]
   rw[hnm];cases bU s.2.2.2.2.2.2.2.2.1<;>cases zL (s.2.2.2.1.getD 0 [])<;>cases zL (s.2.2.2.1.getD 1 [])<;>rfl
  ·rw[ao a];by_cases b:(↑(length s.2.2.2.1):Int)<2
   ·rw[zu b];rfl
   ·rw[ao b,zu (show(↑(length s.2.2.2.1):Int)>2 by omega)];rfl
 rw[hlb,hec];unfold gN;rw[show bT s.2.1=zL s.2.1 from rfl,show bT s.2.2.1=zL s.2.2.1 from rfl];rw[iY.2 hown];generalize eK _=b1;generalize bU s.2.2.2.2.2.2.2.2.1=b2;generalize zL s.2.1=b3;generalize zL s.2.2.1=b4;generalize zL (s.2.2.2.1.getD 0 [])=b5;generalize zL (s.2.2.2.1.getD 1 [])=b6;generalize Q0 (s.2.2.2.1.length=2)=b7;cases b1<;>cases b2<;>cases b3<;>cases b4<;>cases b5<;>cases b6<;>cases b7<;>simp
end Cad
