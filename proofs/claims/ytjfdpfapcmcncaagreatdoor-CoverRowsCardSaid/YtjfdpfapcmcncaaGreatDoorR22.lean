/- The document's plan is the program's. -/
import Derived.Test.YtjfdpfapcmcncaaGreatDoorR21
import Derived.RowKit3
import Derived.WideKeyArgs
import Derived.Test.YtjfdpfapcmcncaaGreatDoorRows
import Derived.OpenShut
import Derived.ProofKit
namespace Cad
open Go Go.Proofs
open List renaming length→Io
open IntKind renaming wrap→Γ,i64→Δ
open Tr renaming val→Q8
open Bool renaming false→Q4,true→Q3
open Option renaming some→Q1
open Decidable renaming decide→Q0
open Int (toNat)
open List (getD)
open Tr (chk br re)
open AV (nils agg tup ptr kb str sl)
set_option maxHeartbeats 4000000
abbrev rN(e:Int):aw:=(.tup [zPl,.int .i64 e],[])
def xi(r:aw)(x:Int×Sem zq):Prop:=aI r.2 [zq,zg] r.1=Q1 (x.2,x.1,())
theorem ee(e:Int):xi (rN e) (e,jS):=rfl
theorem zh6(st:Nat->kZ)(R:aw){p:Sem zq}(E:xi R (0,p))
  (D:∀i,i<=Io p.2.2.2.1.2.1->(dG (st i)).val=if i<Io p.2.2.2.1.2.1 then(ite (ap p.2.2.2.1.2.1 (getD p.2.2.2.1.2.1 i (zi zj)).1=(i:Int)) (Q1 (.inl (st (i+1)))) (Q1 (.inr (rN 7))))else(ite (sF p.2.2.2.1.t.2 p.2.2.2.1.2.1=0) (Q1 (.inr R)) (Q1 (.inr (rN (sF p.2.2.2.1.t.2 p.2.2.2.1.2.1)))))):
  ∃r,zV dG (Io p.2.2.2.1.2.1*1+1) (st 0) r/\xi r (iw 0 p):=by
 have F:wU p.2.2.2.1=if∃i,i<Io p.2.2.2.1.2.1/\zR p.2.2.2.1 (getD p.2.2.2.1.2.1 i (zi zj)).1≠(i:Int)then 7 else sF p.2.2.2.1.t.2 p.2.2.2.1.2.1:=rfl
 unfold iw;rw[if_pos rfl,F]
 rcases mI (t:=dG) (Φ:=λr=>r=rN 7) 1 st (λi=>ap p.2.2.2.1.2.1 (getD p.2.2.2.1.2.1 i (zi zj)).1=(i:Int)) (Io p.2.2.2.1.2.1) (λi o _=>by
  have h:=D i ow;rw[if_pos o]at h;by_cases c:ap p.2.2.2.1.2.1 (getD p.2.2.2.1.2.1 i (zi zj)).1=(i:Int)
  ·exact .inl ⟨c,zL.of (by rw[h,if_pos c])⟩
  ·exact .inr ⟨c,_,zV.of (by rw[h,if_neg c]),rfl⟩)with⟨z,u⟩|⟨z,r,u,rfl⟩
 ·have B:¬∃i,i<Io p.2.2.2.1.2.1/\zR p.2.2.2.1 (getD p.2.2.2.1.2.1 i (zi zj)).1≠(i:Int):=by
   rintro⟨i,o,C⟩;exact C (z i o)
  rw[if_neg B];have h:=D _ (ae _);rw[if_neg (Nat.lt_irrefl _)]at h;by_cases c:sF p.2.2.2.1.t.2 p.2.2.2.1.2.1=0
  ·rw[if_pos c]at h⊢;exact⟨_,(u.ends (zV.of h)).mono ow,E⟩
  ·rw[if_neg c]at h⊢;exact⟨_,(u.ends (zV.of h)).mono ow,ee _⟩
 ·have I:∃i,i<Io p.2.2.2.1.2.1/\zR p.2.2.2.1 (getD p.2.2.2.1.2.1 i (zi zj)).1≠(i:Int):=by
   apply ke;intro B;refine z λi o=>?_
   apply ke;exact λG=>B ⟨i,o,G⟩
  rw[if_pos I,if_neg (by decide)];exact⟨_,u.mono ow,ee _⟩
structure B7 (s:Sem zn):Prop where
 wf:tz s.t.t.1
 may:(s.t.t.1.op==[])=Q4->cG s.t.t.1=Q3
abbrev plQ(z:zl R7):Sem zq:=(z.1,z.2.1,z.2.2.1,(z.2.2.2.1,z.t.1,z.t.2.1,[],[],z.t.q.1),z.t.q.2.1,z.t.t.1)
theorem zoq{s:Sem zn}(u:B7 s)(o:zl kh)(z:zl zgW)(E:z.t.q.1=s.t.t.1)(I:Io z.t.1<=1000):
  ∃r,zV dG (Io z.t.1*1+1) (.h64 ((0:Nat):Int) (s,()) o z) r/\xi r (iw 0 (plQ z)):=by
 obtain⟨F,G⟩:=En (cols:=z.t.1) u.wf ow u.may;refine zh6 (p:=plQ z) (λi=>.h64 (i:Int) (s,()) o z) ?R ?h ?v
 case v=>
  intro i D;by_cases h:i<Io z.t.1
  ·have B:dM z.t.1 (getD z.t.1 i (zi zj)).1=Q3:=ju ow;have C:eR z.t.1 (getD z.t.1 i (zi zj)).1=ap z.t.1 (getD z.t.1 i (zi zj)).1:=kT ow;rw[if_pos h];simp only[dG,rE,Q8,zF h,zt h,aD,B,C,if_true];rw[zr i um];by_cases c:ap z.t.1 (getD z.t.1 i (zi zj)).1=(i:Int)
   ·rw[if_pos c,if_neg (by simpa using c)]
   ·rw[if_neg c,if_pos (by simpa using c)]
  ·obtain rfl:i=Io z.t.1:=Nat.le_antisymm D ow;rw[if_neg h];show(dG (.h64 _ _ _ _)).val=if sF z.t.q.1 z.t.1=0 then Q1 (Sum.inr _)else Q1 (Sum.inr (rN (sF z.t.q.1 z.t.1)))
   rw[E];simp only[dG,rE,Q8,zB,zk,F,G,if_true,zA,if_false];by_cases c:sF s.t.t.1 z.t.1=0
   ·rw[if_pos c,if_neg (by simpa using c)]
   ·rw[if_neg c,if_pos (by simpa using c)]
 case h=>
  unfold xi;obtain⟨J,o,L,M,O,S,e,T,U,W⟩:=z;cases e;rfl
theorem zor{s:Sem zn}(u:B7 s)(o:zl kh)(z:zl R7)(E:z.t.q.1=s.t.t.1)(I:Io z.t.1<=1000):
  ∃r,zV dG (Io z.t.1*1+1) (.h64bb ((0:Nat):Int) (s,()) o z) r/\xi r (iw 0 (plQ z)):=by
 obtain⟨F,G⟩:=En (cols:=z.t.1) u.wf ow u.may;refine zh6 (p:=plQ z) (λi=>.h64bb (i:Int) (s,()) o z) ?R ?h ?v
 case v=>
  intro i D;by_cases h:i<Io z.t.1
  ·have B:dM z.t.1 (getD z.t.1 i (zi zj)).1=Q3:=ju ow;have C:eR z.t.1 (getD z.t.1 i (zi zj)).1=ap z.t.1 (getD z.t.1 i (zi zj)).1:=kT ow;rw[if_pos h];simp only[dG,rE,Q8,zF h,zt h,aD,zx h,B,C,if_true];rw[zr i um];by_cases c:ap z.t.1 (getD z.t.1 i (zi zj)).1=(i:Int)
   ·rw[if_pos c,if_neg (by simpa using c)]
   ·rw[if_neg c,if_pos (by simpa using c)]
  ·obtain rfl:i=Io z.t.1:=Nat.le_antisymm D ow;rw[if_neg h];show(dG (.h64bb _ _ _ _)).val=if sF z.t.q.1 z.t.1=0 then Q1 (Sum.inr _)else Q1 (Sum.inr (rN (sF z.t.q.1 z.t.1)))
   rw[E];simp only[dG,rE,Q8,zB,zk,F,G,if_true,zA,if_false];by_cases c:sF s.t.t.1 z.t.1=0
   ·rw[if_pos c,if_neg (by simpa using c)]
   ·rw[if_neg c,if_pos (by simpa using c)]
 case h=>
  unfold xi;obtain⟨J,o,L,M,O,S,e,T,U,W⟩:=z;cases e;rfl
theorem zos{s:Sem zn}(u:B7 s)(o:zl kh)(z:zl Us)(E:z.t.q.1=s.t.t.1)(I:Io z.t.1<=1000):
  ∃r,zV dG (Io z.t.1*1+1) (.h64bbb ((0:Nat):Int) (s,()) o z) r/\xi r (iw 0 (plQ z)):=by
 obtain⟨F,G⟩:=En (cols:=z.t.1) u.wf ow u.may;refine zh6 (p:=plQ z) (λi=>.h64bbb (i:Int) (s,()) o z) ?R ?h ?v
 case v=>
  intro i D;by_cases h:i<Io z.t.1
  ·have B:dM z.t.1 (getD z.t.1 i (zi zj)).1=Q3:=ju ow;have C:eR z.t.1 (getD z.t.1 i (zi zj)).1=ap z.t.1 (getD z.t.1 i (zi zj)).1:=kT ow;rw[if_pos h];simp only[dG,rE,Q8,zF h,zt h,aD,zx h,B,C,if_true];rw[zr i um];by_cases c:ap z.t.1 (getD z.t.1 i (zi zj)).1=(i:Int)
   ·rw[if_pos c,if_neg (by simpa using c)]
   ·rw[if_neg c,if_pos (by simpa using c)]
  ·obtain rfl:i=Io z.t.1:=Nat.le_antisymm D ow;rw[if_neg h];show(dG (.h64bbb _ _ _ _)).val=if sF z.t.q.1 z.t.1=0 then Q1 (Sum.inr _)else Q1 (Sum.inr (rN (sF z.t.q.1 z.t.1)))
   rw[E];simp only[dG,rE,Q8,zB,zk,F,G,if_true,zA,if_false];by_cases c:sF s.t.t.1 z.t.1=0
   ·rw[if_pos c,if_neg (by simpa using c)]
   ·rw[if_neg c,if_pos (by simpa using c)]
 case h=>
  unfold xi;obtain⟨J,o,L,M,O,S,e,T,U,W⟩:=z;cases e;rfl
def te(k:Int)(l:List Int):Nat->Int
 |0=>-1
 |i+1=>if l.getD i 0=k then(i:Int)else te k l i
theorem LQ{k:Int}{l:List Int}{j:Nat}(u:j<Io l)(o:l[j]=k)(z:l.Nodup):∀i,i<=Io l->te k l i=if j<i then(j:Int)else -1
 |0,_=>rfl
 | i+1,B=>by
  rw[te,LQ u o z i ow,aS,zU (by omega:i<Io l),dv];by_cases h:l[i]=k
  ·have:i=j:=by
    rcases Nat.lt_trichotomy i j with c|c|c
    ·exact absurd (h.trans o.symm) (List.pairwise_iff_getElem.1 z i j ow u c)
    ·exact c
    ·exact absurd (o.trans h.symm) (List.pairwise_iff_getElem.1 z j i u ow c)
   rw[if_pos h,if_pos ow,this]
  ·rw[if_neg h];by_cases c:j<i
   ·rw[if_pos c,if_pos ow]
   ·have:j≠i:=by rintro rfl;exact h o
    rw[if_neg c,if_neg ow]
theorem LR{k:Int}{l:List Int}(h:k∉l):∀i,i<=Io l->te k l i=-1
 |0,_=>rfl
 | i+1,o=>by
  rw[te,LR h i ow,aS,zU (by omega:i<Io l),dv,if_neg];rintro rfl;exact h (aK _)
theorem Ww{k:Int}{l:List Int}(z:l.Nodup):te k l (Io l)=gF l k:=by
 rcases LG l k with⟨j,u,h,o,_⟩|⟨h,o⟩
 ·rw[h,LQ u o z _ (ae _),if_pos u]
 ·rw[h,LR o _ (ae _)]
theorem zsz{s:Sem zn}(M:B7 s)(B:zl kh){t:Sem zo}{a b c d:zD}{l:List Int}{on:Int}(J:Io l<=1000)(L:l.Nodup)(z:∀x∈l,zJ x (Io t.2.1)=Q3):
  ∃r k,zV dG k (.h24 ((0:Nat):Int) (s,()) B (a,b,c,d,[],-1,s.t.t.1,l,on,()) (t,())) r/\k<=10000/\
   xi r (iw (if LT.lt (α:=Int) (gF l t.2.2.1) 0 then 1 else 0) (a,b,c,(d,l.map (λx=>getD t.2.1 (toNat x) (zi zj)),gF l t.2.2.1,[],[],s.t.t.1),l,on)):=by
 have u:=zL.all (t:=dG) 1 (λi=>.h24 (i:Int) (s,()) B (a,b,c,d,(l.take i).map (λx=>getD t.2.1 (toNat x) (zi zj)),te t.2.2.1 l i,s.t.t.1,l,on,()) (t,())) (Io l) (by
  intro i o;refine zL.of ?_;have C:getD l ((i:Int).toNat) (zi zg)=l[i]:=zH l _ o;have D:zJ l[i] (Io t.2.1)=Q3:=z _ (aK o);have E:te t.2.2.1 l (i+1)=if l[i]=t.2.2.1 then(i:Int)else te t.2.2.1 l i:=by
   rw[te,aS,zU o,dv]
  have F:Q0 (Io ((l.take i).map (λx=>getD t.2.1 (toNat x) (zi zj)))+Io [getD t.2.1 (toNat l[i]) (zi zj)]<=1073741824)=Q3:=zx sg;simp only[dG,rE,Q8,zF o,zt o,C,D,F,if_true];rw[zr i um,bg o,gD,E];by_cases k:l[i]=t.2.2.1
  ·rw[if_pos k,if_pos (by simpa using k)];rfl
  ·rw[if_neg k,if_neg (by simpa using k)];rfl)
 rw[fI,Ww L]at u;by_cases h:LT.lt (α:=Int) (gF l t.2.2.1) 0
 ·rw[if_pos h];refine⟨rN 1,_,u.ends (zV.of ?_),ow,ee 1⟩;simp only[dG,rE,Q8,zB,zx h,if_true,zA,if_false]
 ·rw[if_neg h];obtain⟨r,G,I⟩:=zor M B (a,b,c,d,l.map (λx=>getD t.2.1 (toNat x) (zi zj)),gF l t.2.2.1,s.t.t.1,l,on,()) rfl (by simpa using J);refine⟨r,_,u.ends ((zL.of ?_).ends G),sg,I⟩;simp only[dG,rE,Q8,zB,aq h,zA,if_false];rfl
theorem Ar(a:Int)(b:zD):∀(l:List (Sem zp))(i:Nat),GE.ge (α:=Int) (iC a b l (i:Int)) 0↔(a,b)∈l
 | [],i=>by
  rw[iC];exact⟨λh=>absurd h (by decide),λh=>by cases h⟩
 | x::r,i=>by
  rw[iC];split
  ·rename_i h;have:(a,b)=x:=by
    simp only[Bool.and_true,aE,bh]at h;exact Prod.ext h.1 h.2
   rw[<-this];exact⟨λ_=>uG,λ_=>Int.natCast_nonneg i⟩
  ·rename_i h;have:=Ar a b r (i+1);rw[uK]at this;rw[bL];refine⟨λo=>.inr (this.1 o),λo=>this.2 (o.resolve_left ?_)⟩;rintro rfl;simp at h
theorem oq(l:List (Sem zp))(x:Sem zp):jp l x=Q3↔x∈l:=by
 unfold jp;rw[KD];exact Ar x.1 x.2 l 0
def lu(on:Int)(w:zD)(l:List (Sem zp)):Bool:=l.any λf=>f.1==on&&f.2==w
theorem N1(o:Int)(w:zD)(l:List (Sem zp)):lu o w l=jp l (o,w):=by
 apply iY.2;rw[oq];unfold lu;rw[List.any_eq_true];constructor
 ·rintro⟨f,u,h⟩;simp only[aE,bh]at h;have:f=(o,w):=Prod.ext h.1 h.2
  rwa [this]at u
 ·intro h;exact⟨_,h,sw⟩
theorem Ao(o:Int)(w:zD)(l:List (Sem zp))(f:Sem zp):lu o w (l++[f])=bif lu o w l then Q3 else bif f.1==o then f.2==w else Q4:=by
 unfold lu;simp only[List.any_append,List.any_cons,List.any_nil,Bool.or_false];cases(l.any λf=>f.1==o&&f.2==w)<;>cases(f.1==o)<;>rfl
theorem zsB{s:Sem zn}(J:B7 s)(z:zl kh){t u:Sem zo}{a b c d:zD}{on:Int}(M:Io t.2.1<=100)(O:Io u.2.1<=100):
  ∃r k,zV dG k (.h48 ((0:Nat):Int) (s,()) z (a,b,c,d,t.2.1,t.2.2.1,s.t.t.1,[],on,()) (u,())) r/\k<=10000/\
   xi r (iw 0 (a,b,c,(d,t.2.1++fO u (Io u.2.1),t.2.2.1,[],[],s.t.t.1),jt u.2.2.1 (Io u.2.1),on)):=by
 have I:=zL.all (t:=dG) 1 (λi=>.h48 (i:Int) (s,()) z (a,b,c,d,t.2.1++fO u i,t.2.2.1,s.t.t.1,jt u.2.2.1 i,on,()) (u,())) (Io u.2.1) (by
  intro i o;refine zL.of ?_;have C:=lA u.2.2.1 i;have h:=Hp u.2.2.1 i;have L:(jt u.2.2.1 i).length<=100:=by unfold jt;rw[cz];omega
  have S:(fO u i).length<=100:=by unfold fO;rw[cz];omega
  simp only[dG,Q8,zF o,zt o,if_true,zH _ _ o];rw[zr i um];by_cases k:((i:Int)!=u.2.2.1)=Q3
  ·rw[if_pos k]at h;rw[if_pos k,if_pos sg,if_pos sg,fO,fO,jt,jt,h,gD,gD,<-uI];simp[zU o]
  ·rw[if_neg k]at h;rw[if_neg k,fO,fO,jt,jt,h])
 have L:(fO u (Io u.2.1)).length<=100:=by have:=lA u.2.2.1 (Io u.2.1);unfold fO;rw[cz];omega
 obtain⟨r,E,F⟩:=zos J z (a,b,c,d,t.2.1++fO u (Io u.2.1),t.2.2.1,s.t.t.1,jt u.2.2.1 (Io u.2.1),on,()) rfl sg;have G:zL dG 1 (.h48 (Io u.2.1:Int) (s,()) z (a,b,c,d,t.2.1++fO u (Io u.2.1),t.2.2.1,s.t.t.1,jt u.2.2.1 (Io u.2.1),on,()) (u,())) (.h64bbb ((0:Nat):Int) (s,()) z (a,b,c,d,t.2.1++fO u (Io u.2.1),t.2.2.1,s.t.t.1,jt u.2.2.1 (Io u.2.1),on,())):=zL.of (by
  simp only[dG,Q8,zB];rfl)
 have D:t.2.1++fO u 0=t.2.1:=o8 _;have B:=I.ends (G.ends E);rw[D]at B;exact⟨r,_,B,sg,F⟩
theorem zsA{s:Sem zn}(M:B7 s)(C:zl kh){t u:Sem zo}{a b c d:zD}{k0 on:Int}(O:Io t.2.1<=100)(S:Io u.2.1<=100)(U:Io t.t.1<=1000):
  ∃r k,zV dG k (.h38 ((0:Nat):Int) (s,()) C (a,b,c,d,k0,s.t.t.1,on,()) (t,()) (u,())) r/\k<=20000/\
   xi r (iw (if jp t.t.1 (on,s.t.t.t)=Q3 then(if LT.lt (α:=Int) 9 ((Io t.2.1:Int)+(Io u.2.1:Int))then 13 else 0)else 10) (a,b,c,(d,t.2.1++fO u (Io u.2.1),t.2.2.1,[],[],s.t.t.1),jt u.2.2.1 (Io u.2.1),on)):=by
 rw[<-N1];by_cases D:0<Io t.t.1
 ·have z:zL dG 1 (.h38 ((0:Nat):Int) (s,()) C (a,b,c,d,k0,s.t.t.1,on,()) (t,()) (u,())) (.h38b (lu on s.t.t.t (t.t.1.take (0+1))) ((0+1:Nat):Int) (s,()) C (a,b,c,d,k0,s.t.t.1,on,()) (t,()) (u,())):=zL.of (by
   have e:t.t.1.take (0+1)=[]++[t.t.1[0]]:=bg D;rw[e,Ao];simp only[dG,rE,Q8,zF D,zt D,if_true,zH _ _ D];rw[zr 0 um];cases((t.t.1[0]).1==on)<;>rfl)
  have F:=zL.all (t:=dG) 1 (λi=>.h38b (lu on s.t.t.t (t.t.1.take (i+1))) ((i+1:Nat):Int) (s,()) C (a,b,c,d,k0,s.t.t.1,on,()) (t,()) (u,())) (Io t.t.1-1) (by
   intro i B;have B:i+1<Io t.t.1:=by omega
   refine zL.of ?_;rw[bg B,Ao];simp only[dG,rE,Q8,zF B,zt B,zH _ _ B];rw[zr (i+1) um];cases lu on s.t.t.t (t.t.1.take (i+1))<;>cases((t.t.1[i+1]).1==on)<;>rfl)
  have L:Io t.t.1-1+1=Io t.t.1:=by omega
  rw[L,fI]at F;have G:Γ Δ ((↑(Io t.2.1):Int)+(↑(Io u.2.1):Int))=(↑(Io t.2.1):Int)+(↑(Io u.2.1):Int):=lU _ ow ow;by_cases o:lu on s.t.t.t t.t.1=Q3
  ·rw[if_pos o];by_cases E:LT.lt (α:=Int) 9 ((Io t.2.1:Int)+(Io u.2.1:Int))
   ·rw[if_pos E];refine⟨rN 13,_,(z.trans F).ends (zV.of ?_),ow,ee 13⟩;simp only[dG,rE,Q8,zB,o,G,bA,zA,if_false];rw[if_pos (by simpa using E)]
   ·rw[if_neg E];obtain⟨r,k,I,T,J⟩:=zsB M C (a:=a) (b:=b) (c:=c) (d:=d) (on:=on) O S;refine⟨r,_,(z.trans F).ends ((zL.of ?_).ends I),ow,J⟩;simp only[dG,rE,Q8,zB,o,G,bA,zA,if_false];rw[if_neg (by simpa using E),if_pos sg];rfl
  ·rw[if_neg o];have o:lu on s.t.t.t t.t.1=Q4:=by simpa using o
   refine⟨rN 10,_,(z.trans F).ends (zV.of ?_),ow,ee 10⟩;simp only[dG,rE,Q8,zB,o,cA,if_true,zA,if_false]
 ·have h:t.t.1=[]:=AQ ow;rw[h,if_neg (by unfold lu;simp)];refine⟨rN 10,1,zV.of ?_,ow,ee 10⟩;simp only[dG,rE,Q8,h];rfl
theorem Bk{e:Int}{p:Sem zq}(h:e≠0):iw e p=(e,jS):=by unfold iw;rw[if_neg h]
theorem Ur(t:Sem zo)(h:List zD):er t h=(js t h).map λx=>getD t.2.1 (toNat x) (zi zj):=by
 unfold er js;rw[pM];rfl
theorem of7{db:List (Sem zh)}{s:Sem zn}(hB:jd db)(hw:po s)(h0:ew s=Q3)(hm:jO s.1)(hb:ld db=(0:Int))(Y:∀x∈db,F1 x)(T:zl kh):
  ∃r k,zV dG k (.h7 db (bw s.2.2.1 s.t.t.t) ((0:Nat):Int) (s,()) T (s.1,s.2.2.1,s.t.t.t,s.2.1,0,s.t.t.1,0,())) r/\k<=90000/\xi r (aV db s):=by
 obtain⟨x4,L,m1,m2,m3⟩:=SR hw h0 hm;have hs:B7 s:=⟨hw.chk,λh=>by
  unfold bW at L;rcases zN (g9 s.t.t.1)with c|c
  ·rw[kJ.1 c]at h;cases h
  ·rw[c]at L;exact L⟩
 have hP:aV db s=if oV db s.2.2.1 s.t.t.t s.2.1=0 then cB db s else(oV db s.2.2.1 s.t.t.t s.2.1,jS):=by
  unfold aV;rw[if_pos ⟨hm,h0,hb⟩]
 have x3:(bw s.2.2.1 s.t.t.t).length<=2:=by unfold bw;split<;>simp
 rw[hP];clear hP
 rcases mI (t:=dG) (Φ:=λr=>r=rN 6) 1 (λi=>.h7 db (bw s.2.2.1 s.t.t.t) (i:Int) (s,()) T (s.1,s.2.2.1,s.t.t.t,s.2.1,0,s.t.t.1,0,())) (λi=>∀h:i<(bw s.2.2.1 s.t.t.t).length,LE.le (α:=Int) 0 (zX db (bw s.2.2.1 s.t.t.t)[i])) (bw s.2.2.1 s.t.t.t).length (λi U _=>by
  have hv:(dG (.h7 db (bw s.2.2.1 s.t.t.t) (i:Int) (s,()) T (s.1,s.2.2.1,s.t.t.t,s.2.1,0,s.t.t.1,0,()))).val=if LT.lt (α:=Int) (zX db (bw s.2.2.1 s.t.t.t)[i]) 0 then Q1 (.inr (rN 6))else Q1 (.inl (.h7 db (bw s.2.2.1 s.t.t.t) ((i+1:Nat):Int) (s,()) T (s.1,s.2.2.1,s.t.t.t,s.2.1,0,s.t.t.1,0,()))):=by
   simp only[dG,rE,Q8,zF U,zt U,if_true,zH _ _ U,dD];rw[zr i um];by_cases c:LT.lt (α:=Int) (zX db (bw s.2.2.1 s.t.t.t)[i]) 0
   ·rw[if_pos c,if_pos (by simpa using c)]
   ·rw[if_neg c,if_neg (by simpa using c)]
  by_cases c:LT.lt (α:=Int) (zX db (bw s.2.2.1 s.t.t.t)[i]) 0
  ·exact .inr ⟨λh=>by have:=h U;omega,_,zV.of (by rw[hv,if_pos c]),rfl⟩
  ·exact .inl ⟨λ_=>by omega,zL.of (by rw[hv,if_neg c])⟩)with⟨h1,h2⟩|⟨h1,r,h2,rfl⟩
 rotate_left
 ·have hE:oV db s.2.2.1 s.t.t.t s.2.1=6:=by
   unfold oV;rw[if_neg];intro h;exact h1 λi _ U=>h _ (aK U)
  rw[hE,if_neg (by decide)];exact⟨_,_,h2,ow,ee 6⟩
 have hA:∀n∈bw s.2.2.1 s.t.t.t,LE.le (α:=Int) 0 (zX db n):=by
  intro n D;obtain⟨j,hj,rfl⟩:=fz D;exact h1 j hj hj
 have z:LE.le (α:=Int) 0 (zX db s.2.2.1):=hA _ (by unfold bw;split<;>simp);have hE:oV db s.2.2.1 s.t.t.t s.2.1=if(Q0 (GE.ge (α:=Int) (zX db s.2.1) 0)||s.2.2.1==s.t.t.t)=Q3 then 7 else if ec db (bw s.2.2.1 s.t.t.t)=Q3 then 10 else 0:=by
  unfold oV;rw[if_pos hA]
 have x2:=hB.few;obtain⟨G,I⟩:=Mg (db:=db) (ns:=bw s.2.2.1 s.t.t.t) ow (λx hx=>(Y x hx).short.rf|>λh=>by omega) ow;have hT:o6 (ah db s.2.2.1):=Ll hB z;have t8:=hT.n8;have h3:=hw.sh.names.1;have B:(bif Q0 (GE.ge (α:=Int) (zX db s.2.1) 0)then Q3 else s.2.2.1==s.t.t.t)=(Q0 (GE.ge (α:=Int) (zX db s.2.1) 0)||s.2.2.1==s.t.t.t):=by cases Q0 (GE.ge (α:=Int) (zX db s.2.1) 0)<;>rfl
 rw[hE];by_cases C:(Q0 (GE.ge (α:=Int) (zX db s.2.1) 0)||s.2.2.1==s.t.t.t)=Q3
 ·rw[if_pos C,if_neg (by decide)];refine⟨rN 7,_,h2.ends (zV.of ?_),ow,ee 7⟩;simp only[dG,rE,Q8,zB,dD,B,C,if_true,zA,if_false]
 rw[if_neg C];have C:(Q0 (GE.ge (α:=Int) (zX db s.2.1) 0)||s.2.2.1==s.t.t.t)=Q4:=by simpa using C
 by_cases o:ec db (bw s.2.2.1 s.t.t.t)=Q3
 ·rw[if_pos o,if_neg (by decide)];refine⟨rN 10,_,h2.ends (zV.of ?_),ow,ee 10⟩;simp only[dG,rE,Q8,zB,dD,B,C,G,I,o,if_true,zA,if_false]
 rw[if_neg o,if_pos rfl];have o:ec db (bw s.2.2.1 s.t.t.t)=Q4:=by simpa using o
 obtain⟨S,F⟩:=Mf (t:=ah db s.2.2.1) (names:=s.2.2.2.1) ow ow;have S:oB (getD db (toNat (zX db s.2.2.1)) (zi zh)).1.2.1 s.2.2.2.1=Q3:=S;have F:rH (getD db (toNat (zX db s.2.2.1)) (zi zh)).1.2.1 s.2.2.2.1=(ite (fW (ah db s.2.2.1) s.2.2.2.1=0) (js (ah db s.2.2.1) s.2.2.2.1) [],fW (ah db s.2.2.1) s.2.2.2.1):=F;unfold cB;by_cases o1:(s.1==cT)=Q3
 ·rw[if_pos o1];unfold tK;by_cases hp:fW (ah db s.2.2.1) s.2.2.2.1=0
  ·rw[if_pos hp];obtain⟨q1,q2⟩:=Hq hp;obtain⟨r,k,W,e2,X⟩:=zsz hs T (t:=ah db s.2.2.1) (a:=s.1) (b:=s.2.2.1) (c:=s.t.t.t) (d:=s.2.1) (l:=js (ah db s.2.2.1) s.2.2.2.1) (on:=0) (by unfold js;rw[cz];omega) q2 (by
    intro x hx;obtain⟨n,D,rfl⟩:=bd.1 hx;exact rt (q1 n D))
   rw[Ur];refine⟨r,_,h2.ends ((zL.of ?_).ends W),ow,X⟩;rw[if_pos hp,hp]at F;simp only[dG,rE,Q8,zB,dD,B,C,G,I,o,dK z,o1,S,F,if_true,zA,if_false,jJ];rfl
  ·rw[if_neg hp,Bk hp];refine⟨_,_,h2.ends (zV.of ?_),ow,ee _⟩;rw[if_neg hp]at F;have M:(fW (ah db s.2.2.1) s.2.2.2.1!=0)=Q3:=by simpa using hp
   simp only[dG,rE,Q8,zB,dD,B,C,G,I,o,dK z,o1,S,F,M,if_true,zA,if_false]
 rw[if_neg o1];by_cases o2:(s.1==eX)=Q3
 ·rw[if_pos o2];have hr:=m2 (bG o2);have Z:s.t.t.t≠[]:=by intro k;rw[k]at hr;cases hr
  have h9:ej db s.t.t.t=ah db s.t.t.t:=by unfold ej;rw[if_neg Z]
  have O:LE.le (α:=Int) 0 (zX db s.t.t.t):=hA _ (by unfold bw;rw[if_neg (by simpa using Z)];simp);have u8:=(Ll hB O).n8;have h8:(ah db s.2.2.1).t.1.length<=1000:=by have:=(Y _ (nc z)).short.rf;unfold ah;omega
  have g1:dM (getD db (toNat (zX db s.2.2.1)) (zi zh)).1.2.1 s.t.2.1=Q3:=ju (by show(ah db s.2.2.1).2.1.length<=_;omega);have g2:eR (getD db (toNat (zX db s.2.2.1)) (zi zh)).1.2.1 s.t.2.1=zR (ah db s.2.2.1) s.t.2.1:=kT (by show(ah db s.2.2.1).2.1.length<=_;omega);rw[h9];unfold fM;by_cases h4:LT.lt (α:=Int) (zR (ah db s.2.2.1) s.t.2.1) 0
  ·rw[if_pos h4,Bk (by decide)];refine⟨rN 4,_,h2.ends (zV.of ?_),ow,ee 4⟩;simp only[dG,rE,Q8,zB,dD,B,C,G,I,o,dK z,dK O,o1,o2,g1,g2,zx h4,if_true,zA,if_false]
  ·rw[if_neg h4];obtain⟨r,k,W,e2,X⟩:=zsA hs T (t:=ah db s.2.2.1) (u:=ah db s.t.t.t) (a:=s.1) (b:=s.2.2.1) (c:=s.t.t.t) (d:=s.2.1) (k0:=0) (on:=zR (ah db s.2.2.1) s.t.2.1) ow ow h8;refine⟨r,_,h2.ends ((zL.of ?_).ends W),ow,X⟩;simp only[dG,rE,Q8,zB,dD,B,C,G,I,o,dK z,dK O,o1,o2,g1,g2,aq h4,if_true,zA,if_false];rfl
 rw[if_neg o2];have o3:(s.1==kq)=Q3:=by
  rcases hm with k|k|k
  ·rw[k]at o1;exact absurd rfl o1
  ·rw[k]at o2;exact absurd rfl o2
  ·rw[k];rfl
 rw[if_pos o3];have h6:=m3 (bG o3);unfold qh;by_cases hp:fW (ah db s.2.2.1) s.2.2.2.1=0
 ·rw[if_pos hp];obtain⟨q1,q2⟩:=Hq hp;rw[if_pos hp,hp]at F;obtain⟨n0,E,D⟩:∃n0 E,s.2.2.2.1=[n0,E]:=by
   match s.2.2.2.1,h6 with
   |[a,b],_=>exact⟨a,b,rfl⟩
  have i0:zJ (zR (ah db s.2.2.1) n0) (Io (getD db (toNat (zX db s.2.2.1)) (zi zh)).1.2.1)=Q3:=rt (q1 n0 (by rw[D];simp));have i1:zJ (zR (ah db s.2.2.1) E) (Io (getD db (toNat (zX db s.2.2.1)) (zi zh)).1.2.1)=Q3:=rt (q1 E (by rw[D];simp));have x0:(js (ah db s.2.2.1) s.2.2.2.1).getD (toNat 0) (zi zg)=zR (ah db s.2.2.1) n0:=by rw[D];rfl
  have x1:(js (ah db s.2.2.1) s.2.2.2.1).getD (toNat 1) (zi zg)=zR (ah db s.2.2.1) E:=by rw[D];rfl
  have xl:(js (ah db s.2.2.1) s.2.2.2.1).length=2:=by rw[D];rfl
  have b0:zJ 0 2=Q3:=rfl;have b1:zJ 1 2=Q3:=rfl;have y1:(er (ah db s.2.2.1) s.2.2.2.1).getD 1 (zi zj)=getD (getD db (toNat (zX db s.2.2.1)) (zi zh)).1.2.1 (toNat (zR (ah db s.2.2.1) E)) (zi zj):=by rw[D];rfl
  have y0:(er (ah db s.2.2.1) s.2.2.2.1).getD 0 (zi zj)=getD (getD db (toNat (zX db s.2.2.1)) (zi zh)).1.2.1 (toNat (zR (ah db s.2.2.1) n0)) (zi zj):=by rw[D];rfl
  unfold xW;rw[y1,y0];by_cases h5:(getD (getD db (toNat (zX db s.2.2.1)) (zi zh)).1.2.1 (toNat (zR (ah db s.2.2.1) E)) (zi zj)).2.1=(1:Int)
  ·rw[if_pos h5];obtain⟨r,W,X⟩:=zoq hs T (s.1,s.2.2.1,s.t.t.t,s.2.1,[((getD (getD db (toNat (zX db s.2.2.1)) (zi zh)).1.2.1 (toNat (zR (ah db s.2.2.1) n0)) (zi zj)).1,(getD (getD db (toNat (zX db s.2.2.1)) (zi zh)).1.2.1 (toNat (zR (ah db s.2.2.1) n0)) (zi zj)).2.1,Q3),((getD (getD db (toNat (zX db s.2.2.1)) (zi zh)).1.2.1 (toNat (zR (ah db s.2.2.1) E)) (zi zj)).1,(getD (getD db (toNat (zX db s.2.2.1)) (zi zh)).1.2.1 (toNat (zR (ah db s.2.2.1) E)) (zi zj)).2.1,Q4)],0,s.t.t.1,js (ah db s.2.2.1) s.2.2.2.1,0,()) rfl sw;have J:((getD (getD db (toNat (zX db s.2.2.1)) (zi zh)).1.2.1 (toNat (zR (ah db s.2.2.1) E)) (zi zj)).2.1!=1)=Q4:=by rw[h5];rfl
   refine⟨r,_,h2.ends ((zL.of ?_).ends W),sg,X⟩;simp only[dG,rE,Q8,zB,dD,B,C,G,I,o,dK z,o1,o2,o3,S,F,x0,x1,xl,b0,b1,i0,i1,J,if_true,zA,if_false,jJ];rfl
  ·rw[if_neg h5,Bk (by decide)];have J:((getD (getD db (toNat (zX db s.2.2.1)) (zi zh)).1.2.1 (toNat (zR (ah db s.2.2.1) E)) (zi zj)).2.1!=1)=Q3:=by simpa using h5
   refine⟨rN 5,_,h2.ends (zV.of ?_),ow,ee 5⟩;simp only[dG,rE,Q8,zB,dD,B,C,G,I,o,dK z,o1,o2,o3,S,F,x0,x1,xl,b0,b1,i0,i1,J,if_true,zA,if_false,jJ]
 ·rw[if_neg hp,Bk hp];refine⟨_,_,h2.ends (zV.of ?_),ow,ee _⟩;rw[if_neg hp]at F;have M:(fW (ah db s.2.2.1) s.2.2.2.1!=0)=Q3:=by simpa using hp
  simp only[dG,rE,Q8,zB,dD,B,C,G,I,o,dK z,o1,o2,o3,S,F,M,if_true,zA,if_false]
theorem XD{db:List (Sem zh)}{s:Sem zn}(u:∀x∈db,F1 x)(L:po s):D0 db s=Q1 ((aV db s).2,(aV db s).1,()):=by
 have D:∀x∈db,gS x:=λx hx=>(u x hx).short
 obtain⟨e,S,T⟩:=Jr u;have M:Er db=Q3:=by unfold Er;rw[S];rfl
 have O:Jq db=e:=by unfold Jq;rw[S];rfl
 have C:(SA db s).val=Q1 (.inr (rN 1))->aV db s=(1,jS)->D0 db s=Q1 ((aV db s).2,(aV db s).1,()):=by
  intro h Y;rw[Y];exact zM h (ee 1)
 have Z:∀p:Sem zq,jT p=Q3/\lC p=bw p.2.1 p.2.2.1:=λp=>⟨th p,vQ p⟩
 by_cases z:jO s.1
 ·obtain⟨t,h⟩:=OQ L z;have F:iM s=Q3:=by unfold iM;rw[h];rfl
  have G:lJ s=(t,ew s):=by unfold lJ;rw[h];rfl
  have B:(cond (!s.1==cT) (cond (!s.1==eX) (!s.1==kq) Q4) Q4)=Q4:=by
   rcases z with k|k|k<;>rw[k]<;>rfl
  by_cases o:ew s=Q3
  ·by_cases I:e=0
   ·have U:=T.1 I;have hb:=(je D).2 U;obtain⟨r,k,W,e2,X⟩:=of7 U L o z hb u ([],[],[],[],0,[],0,0,[],[],0,());refine zy ?_ W ow X;simp only[SA,rE,Q8,zk,Prod.eta,F,G,M,O,o,I,B,Z,bA,ao,if_true,jJ,zA,if_false];rfl
   ·refine C ?_ ?_
    ·have J:(e !=0)=Q3:=by simpa using I
     simp only[SA,rE,Q8,zk,Prod.eta,F,G,M,O,o,J,bA,ao,af,if_true]
    ·unfold aV;rw[if_neg];rintro⟨_,_,h⟩;exact I (T.2 ((je D).1 h))
  ·have E:ew s=Q4:=by simpa using o
   refine C ?_ ?_
   ·simp only[SA,rE,Q8,zk,Prod.eta,F,G,E,cA,af,if_true]
   ·unfold aV;rw[if_neg];rintro⟨_,h,_⟩;exact o h
 ·obtain⟨t,b,h⟩:=OP L;have F:iM s=Q3:=by unfold iM;rw[h];rfl
  have G:lJ s=(t,b):=by unfold lJ;rw[h];rfl
  have B:(cond (!s.1==cT) (cond (!s.1==eX) (!s.1==kq) Q4) Q4)=Q3:=by
   have x1:(s.1==cT)=Q4:=by simpa using λk=>z (.inl k)
   have x2:(s.1==eX)=Q4:=by simpa using λk=>z (.inr (.inl k))
   have x3:(s.1==kq)=Q4:=by simpa using λk=>z (.inr (.inr k))
   rw[x1,x2,x3];rfl
  refine C ?_ ?_
  ·simp only[SA,rE,Q8,zk,Prod.eta,F,G,M,O,B,if_true];cases b<;>cases(e !=0)<;>rfl
  ·unfold aV;rw[if_neg λh=>z h.1]
theorem dC{α:Type}(p:α->Bool):∀(l:List α)(i:Nat),(zW p l i=-1/\∀x∈l,p x=Q4)\/∃(k:Nat)(h:k<Io l),zW p l i=((i+k:Nat):Int)/\p l[k]=Q3/\∀x∈l.take k,p x=Q4
 |[],_=>.inl ⟨rfl,sw⟩
 | x::r,i=>by
  unfold zW;split
  ·rename_i h;exact .inr ⟨0,sw,rfl,h,sw⟩
  ·rename_i h;have B:p x=Q4:=by simpa using h
   rcases dC p r (i+1)with⟨u,z⟩|⟨k,D,u,z,C⟩
   ·refine .inl ⟨u,λy o=>?_⟩;rcases bL.1 o with rfl|o
    ·exact B
    ·exact z y o
   ·refine .inr ⟨k+1,by simpa using D,by rw[u];congr 1;omega,by simpa using z,λy o=>?_⟩;rw[List.take_succ_cons]at o;rcases bL.1 o with rfl|o
    ·exact B
    ·exact C y o
theorem N2{db:List (Sem zh)}{n:zD}{x:Sem zh}{i:Nat}(h:zX db n=(i:Int))(u:db.getD i (zi zh)=x):x.1.1=n:=by
 rcases dC (λy:Sem zh=>y.1.1==n) db 0 with⟨q,_⟩|⟨k,z,B,C,_⟩
 ·exfalso;have o:zW (λy:Sem zh=>y.1.1==n) db 0=(i:Int):=h;rw[q]at o;omega
 ·have o:zW (λy:Sem zh=>y.1.1==n) db 0=(i:Int):=h;rw[B]at o;obtain rfl:k=i:=by omega
  rw[aS,zU z,dv]at u;subst u;simpa using C
def NB(p:zD->Bool)(t:Sem zo):Sem zo:=(t.1,t.2.1,t.2.2.1,t.2.2.2.1,t.t.1.filter (λf:Sem zp=>p f.2),t.t.2)
def jh(p:zD->Bool)(x:Sem zh):Sem zh:=(NB p x.1,x.2)
theorem P9{p:zD->Bool}{t:Sem zo}(h:dp t=Q3):dp (NB p t)=Q3:=by
 have h:=(iR t).1 h;exact(iR _).2 ⟨h.name,h.n1,h.n8,h.cols,h.uniq,λf o=>h.refs f (List.mem_filter.1 o).1,h.key,h.nn,h.chk⟩
theorem G5{t:Sem zo}{p:zD->Bool}{h:List (Sem ze)}:∀(r:List (Sem ze))(i:Int),eH (NB p t) h r i=eH t h r i
 |[],_=>by rw[eH,eH];rfl
 |x::r,i=>by rw[eH,eH,G5 r];rfl
theorem Lm{t:Sem zo}{p:zD->Bool}{h:List (Sem ze)}:∀(r:List (Sem ze))(i:Int),gu (NB p t) h r i=gu t h r i
 |[],_=>by rw[gu,gu,G5]
 |x::r,i=>by rw[gu,gu,Lm r]
theorem Vp{p:zD->Bool}{t:Sem zo}(h:dp t=Q3)(r:List (Sem ze)):dc (NB p t) r=dc t r:=by
 unfold dc;rw[h,P9 h,Lm];rfl
theorem dH.cut{p:zD->Bool}{x:Sem zh}(h:dH x):dH (jh p x) where
 may:=P9 h.may
 few:=h.few
 fits:=λr o=>by
  show dc (NB p x.1) r=0;rw[Vp h.may];exact h.fits r o
 key:=h.key
 uniq:=h.uniq
 rise:=h.rise
theorem WH{db:List (Sem zh)}(B:jd db){x y:Sem zh}(C:x∈db)(D:y∈db)(h:x.1.1=y.1.1):x=y:=by
 have o:db.Pairwise λx y:Sem zh=>Op.bytesLess x.1.1 y.1.1=Q3:=(wD (R:=λx y:Sem zh=>Op.bytesLess x.1.1 y.1.1=Q3) gK).1 B.names
 obtain⟨i,u,rfl⟩:=fz C;obtain⟨j,z,rfl⟩:=fz D;rcases Nat.lt_trichotomy i j with g|g|g
 ·have:=List.pairwise_iff_getElem.1 o i j u z g;rw[h,bR]at this;cases this
 ·subst g;rfl
 ·have:=List.pairwise_iff_getElem.1 o j i z u g;rw[h,bR]at this;cases this
theorem iN{db:List (Sem zh)}{n:zD}(h:LE.le (α:=Int) 0 (zX db n)):aA db n∈db/\(aA db n).1.1=n:=
 ⟨nc h,N2 (i:=toNat (zX db n)) (Int.toNat_of_nonneg h).symm rfl⟩
theorem jd.src{db h:List (Sem zh)}{p:zD->Bool}(u:jd db)(L:Io h<=12)(M:h.Pairwise λx y:Sem zh=>Op.bytesLess x.1.1 y.1.1=Q3)(o:∀y∈h,∃x∈db,y=jh p x)(O:∀n,p n=Q3->LE.le (α:=Int) 0 (zX h n)):jd h where
 few:=L
 names:=(wD (R:=λx y:Sem zh=>Op.bytesLess x.1.1 y.1.1=Q3) gK).2 M
 rels:=λy E=>by
  obtain⟨x,D,rfl⟩:=o y E;exact(u.rels x D).cut
 bound:=λy E f S=>by
  obtain⟨x,D,rfl⟩:=o y E;obtain⟨B,C⟩:=List.mem_filter.1 S;have I:=O f.2 C;refine⟨I,λG T U=>?_⟩;obtain⟨X,Y⟩:=u.bound x D f B;have Z:=Y G T U;obtain⟨m1,J⟩:=iN I;obtain⟨z,W,e⟩:=o _ m1;obtain⟨n1,n2⟩:=iN X;have F:z=aA db f.2:=WH u W n1 (by rw[n2];rw[e]at J;exact J);rw[e,F];exact Z
structure iW (ns:List zD) (t t':Sem zo):Prop where
 cols:t'.2.1=t.2.1
 key:t'.2.2.1=t.2.2.1
 refs:∀f:Sem zp,f.2∈ns->(f∈t'.t.1↔f∈t.t.1)
section
variable {ns:List zD} {t t':Sem zo}
theorem iW.place(h:iW ns t t'):zR t'=zR t:=funext λn=>by unfold zR;rw[h.cols]
theorem iW.plc(h:iW ns t t')(l:List zD):fW t' l=fW t l:=by unfold fW;rw[h.place]
theorem iW.ix(h:iW ns t t')(l:List zD):js t' l=js t l:=by unfold js;rw[h.place]
theorem iW.cs(h:iW ns t t')(l:List zD):er t' l=er t l:=by unfold er;rw[h.place,h.cols]
theorem iW.cpy(h:iW ns t t')(l:List zD):tK t' l=tK t l:=by unfold tK;rw[h.plc,h.ix,h.key]
theorem iW.grp(h:iW ns t t')(l:List zD):qh t' l=qh t l/\xW t' l=xW t l:=by unfold qh xW;rw[h.plc,h.cs];exact⟨rfl,rfl⟩
theorem iW.join(h:iW ns t t'){u o:Sem zo}(z:iW ns u o){k w:zD}(B:w∈ns):fM t' o k w=fM t u k w:=by
 have:jp t'.t.1 (zR t k,w)=jp t.t.1 (zR t k,w):=by
  rw[iY,oq,oq];exact h.refs (zR t k,w) B
 unfold fM;rw[h.place,this,h.cols,z.cols]
theorem iW.oth(h:iW ns t t')(n:Nat):fO t' n=fO t n:=by unfold fO;rw[h.key,h.cols]
end
abbrev cn(s:Sem zn):zD:=s.t.t.t
theorem PV{db:List (Sem zh)}{x:Sem zh}(o:x∈db):LE.le (α:=Int) 0 (zX db x.1.1):=by
 rcases dC (λy:Sem zh=>y.1.1==x.1.1) db 0 with⟨_,h⟩|⟨k,_,h,_⟩
 ·have:=h x o;simp at this
 ·have h:zX db x.1.1=((0+k:Nat):Int):=h;rw[h];exact Int.natCast_nonneg _
theorem Xw{db o:List (Sem zh)}{s:Sem zn}(hp:(aV db s).1=0)(X:ld o=(0:Int))(L:∀n∈bw s.2.2.1 (cn s),LE.le (α:=Int) 0 (zX o n)/\iW (bw s.2.2.1 (cn s)) (ah db n) (ah o n))
  (z:∀x∈o,x.1.1∈bw s.2.2.1 (cn s)/\∃y∈db,(y:Sem zh).1.1=x.1.1) (Z:s.1=eX->cn s≠[]):aV o s=aV db s/\aV db s=cB db s:=by
 unfold aV at hp;split at hp
 case isFalse=>cases hp
 rename_i M;split at hp
 case isFalse h=>exact absurd hp h
 rename_i E;have B:aV db s=cB db s:=by unfold aV;rw[if_pos M,if_pos E]
 refine⟨?_,B⟩;rw[B];have F:oV o s.2.2.1 (cn s) s.2.1=0:=by
  unfold oV at E⊢;split at E
  case isFalse=>cases E
  rw[if_pos λn Y=>(L n Y).1];split at E
  case isTrue=>cases E
  rename_i U;have W:¬(Q0 (GE.ge (α:=Int) (zX o s.2.1) 0)||s.2.2.1==cn s)=Q3:=by
   intro C;apply U;rcases(mP _ _).mp C with C|C
   ·have I:LE.le (α:=Int) 0 (zX o s.2.1):=lZ C;obtain⟨m1,m2⟩:=iN I;obtain⟨_,y,hy,e⟩:=z _ m1;have:=PV hy;rw[e,m2]at this;rw[mP];exact .inl (zx this)
   ·rw[mP];exact .inr C
  rw[if_neg W,if_neg];unfold ec;intro C;obtain⟨x,hx,I⟩:=List.any_eq_true.1 C;rw[(lv _ _).2 (z x hx).1]at I;simp at I
 have D:s.2.2.1∈bw s.2.2.1 (cn s):=by unfold bw;split<;>simp
 have u:=(L _ D).2;unfold aV;rw[if_pos ⟨M.1,M.2.1,X⟩,if_pos F];unfold cB;by_cases o1:(s.1==cT)=Q3
 ·rw[if_pos o1,if_pos o1,u.cpy,u.cs,u.ix,u.key]
 rw[if_neg o1,if_neg o1];by_cases o2:(s.1==eX)=Q3
 ·have O:=Z (bG o2);have G:cn s∈bw s.2.2.1 (cn s):=by
   unfold bw;rw[if_neg (by simpa using O)];simp
  have J:=(L _ G).2;have S:ej o (cn s)=ah o (cn s):=by unfold ej;rw[if_neg O]
  have T:ej db (cn s)=ah db (cn s):=by unfold ej;rw[if_neg O]
  rw[if_pos o2,if_pos o2,S,T,u.join J G,u.cols,u.key,u.place,J.cols,J.key,J.oth]
 rw[if_neg o2,if_neg o2,(u.grp _).1,(u.grp _).2,u.ix]
theorem H3{g c b:Bool}(h:(g&&(cond c b Q4))=Q3):b=Q3:=by
 cases g<;>cases c<;>simp_all
theorem za4{s:Sem zn}(h:fx s=Q3)(sh:my s)(ho:jO s.1):
  s.t.1=[]/\s.t.q.1=[]/\s.t.q.2.1=[]/\s.t.t.2.1=[]/\s.t.t.q.1=[]/\s.t.t.q.2.1=dB/\(ite (s.1=eX) (s.2.2.2.1=[]) (s.t.2.1=[]/\cn s=[])):=by
 obtain⟨o,T,U,W,X,Y,Z,s8,s9,B,C,D,E⟩:=s;have n4:=sh.names.1;have n5:=sh.cols.1;have n7:=sh.uniques.1;have n8:=sh.refs.1;have O:=sh.row;have S:=sh.sets.1;simp only at n4 n5 n7 n8 O S;rcases ho with rfl|rfl|rfl
 ·obtain⟨_,hp⟩:=eK (s:=(cT,T,U,W,X,Y,Z,s8,s9,B,C,D,E)) (g:=_) (b:=_) rfl;rw[hp]at h;have h:=H3 h;obtain⟨_,_,L,M,_,F,G,I,J,u,_,z⟩:=(jx sw sg sg sg sg sg).1 h;exact⟨F,G,I,J,u,(zf.eta _).symm.trans z,by rw[if_neg (λh=>by simp at h)];exact⟨L,M⟩⟩
 ·obtain⟨_,hp⟩:=eK (s:=(eX,T,U,W,X,Y,Z,s8,s9,B,C,D,E)) (g:=_) (b:=_) rfl;rw[hp]at h;have h:=H3 h;obtain⟨_,_,L,M,k5,F,G,I,J,u,_,z⟩:=(jx sg sg sg sg sg sg).1 h;exact⟨F,G,I,J,u,(zf.eta _).symm.trans z,by rw[if_pos rfl];exact k5⟩
 ·obtain⟨_,hp⟩:=eK (s:=(kq,T,U,W,X,Y,Z,s8,s9,B,C,D,E)) (g:=_) (b:=_) rfl;rw[hp]at h;have h:=H3 h;obtain⟨_,_,L,M,_,F,G,I,J,u,_,z⟩:=(jx sw sg sg sg sg sg).1 h;exact⟨F,G,I,J,u,(zf.eta _).symm.trans z,by rw[if_neg (λh=>by simp at h)];exact⟨L,M⟩⟩
theorem gZ{t:Sem zo}{n:zD}(h:¬LT.lt (α:=Int) (zR t n) 0):(getD t.2.1 (toNat (zR t n)) (zi zj)).1=n/\LT.lt (α:=Int) (zR t n) (Io t.2.1):=by
 have e:zR t n=zW (λc:Sem zj=>c.1==n) t.2.1 0:=rfl;rcases dC (λc:Sem zj=>c.1==n) t.2.1 0 with⟨o,_⟩|⟨k,u,o,z,_⟩
 ·rw[e,o]at h;exact absurd (by decide:(-1:Int)<0) h
 ·rw[e,o,ek];refine⟨?_,Int.ofNat_lt.2 u⟩;rw[cM _ _ u];exact bG z
def jc(p:Sem zq)(h:List (Sem zh)):Sem zn:=
 (p.1,p.2.2.2.1.1,p.2.1,if p.1=eX then[]else p.2.2.2.1.2.1.map λc:Sem zj=>c.1,[],
  if p.1=eX then(if LE.le (α:=Int) 0 p.t.2/\LT.lt (α:=Int) p.t.2 (Io (h.getD 0 (zi zh)).1.2.1)then(getD (h.getD 0 (zi zh)).1.2.1 (toNat p.t.2) (zi zj)).1 else[])else[],
  [],[],p.2.2.2.1.t.2,[],[],dB,p.2.2.1)
theorem qw{t:Sem zo}{l:List zD}(h:fW t l=0):∀s∈l,¬LT.lt (α:=Int) (zR t s) 0:=by
 unfold fW at h;split at h
 ·assumption
 ·cases h
theorem Ag{t:Sem zo}:∀{l:List zD},(∀s∈l,¬LT.lt (α:=Int) (zR t s) 0)->(er t l).map (λc:Sem zj=>c.1)=l
 |[],_=>rfl
 | s::r,h=>by
  show(getD t.2.1 (toNat (zR t s)) (zi zj)).1::(er t r).map (λc:Sem zj=>c.1)=s::r;rw[(gZ (h s sw)).1,Ag λx o=>h x (by simp[o])]
theorem iy{e:Int}{p:Sem zq}(h:(iw e p).1=0):e=0/\iw e p=(0,p):=by
 unfold iw at h⊢;split at h
 ·rename_i o;split at h
  ·rename_i u;rw[if_pos o,if_pos u];exact⟨o,rfl⟩
  ·rename_i u;exact absurd h u
 ·rename_i o;exact absurd h o
theorem Ti{db:List (Sem zh)}{s:Sem zn}{G:List (Sem zh)}(hp:(cB db s).1=0)(M:jO s.1)(O:fx s=Q3)(sh:my s)(J:(G.getD 0 (zi zh)).1.2.1=(ah db s.2.2.1).2.1):jc (cB db s).2 G=s:=by
 obtain⟨S,T,U,W,X,Y,B⟩:=za4 O sh M;obtain⟨o,s2,D,s4,s5,s6,s7,s8,s9,h0,h2,h3,F⟩:=s;simp only at S T U W X Y B J;subst S T U W X Y;rcases M with rfl|rfl|rfl
 ·rw[if_neg (λh=>by simp at h)]at B;obtain⟨rfl,C⟩:=B;have C:F=[]:=C;subst C;unfold cB at hp⊢
  dsimp only at hp⊢
  rw[if_pos (show((cT:zD)==cT)=Q3 from rfl)]at hp⊢;obtain⟨u,E⟩:=iy hp;rw[E];have z:=qw (by
   unfold tK at u;split at u
   ·assumption
   ·rename_i I;exact absurd u I)
  unfold jc;simp only;rw[if_neg (λh=>by simp at h),if_neg (λh=>by simp at h),Ag z]
 ·rw[if_pos rfl]at B;subst B;unfold cB at hp⊢
  dsimp only at hp⊢
  rw[if_neg (show¬((eX:zD)==cT)=Q3 by decide),if_pos (show((eX:zD)==eX)=Q3 from rfl)]at hp⊢;obtain⟨u,E⟩:=iy hp;rw[E];have z:¬LT.lt (α:=Int) (zR (ah db D) s6) 0:=by
   intro h;unfold fM at u;rw[if_pos h]at u;cases u
  obtain⟨q1,q2⟩:=gZ z;unfold jc;simp only;rw[if_pos trivial,if_pos trivial,J,if_pos ⟨Int.not_lt.1 z,q2⟩,q1]
 ·rw[if_neg (λh=>by simp at h)]at B;obtain⟨rfl,C⟩:=B;have C:F=[]:=C;subst C;have L:=jN O rfl;simp only at L;unfold cB at hp⊢
  dsimp only at hp⊢
  rw[if_neg (show¬((kq:zD)==cT)=Q3 by decide),if_neg (show¬((kq:zD)==eX)=Q3 by decide),if_pos (show((kq:zD)==kq)=Q3 from rfl)]at hp⊢;obtain⟨u,E⟩:=iy hp;rw[E];have z:=qw (by
   unfold qh at u;split at u
   ·assumption
   ·rename_i I;exact absurd u I)
  match s4,L,z with
  |[a,b],_,z=>
  unfold jc;simp only;rw[if_neg (λh=>by simp at h),if_neg (λh=>by simp at h)];have Z:=(gZ (z a sw)).1;have e2:=(gZ (z b sw)).1;show(kq,s2,D,[(getD (ah db D).2.1 (toNat (zR (ah db D) a)) (zi zj)).1,(getD (ah db D).2.1 (toNat (zR (ah db D) b)) (zi zj)).1],_)=_;rw[Z,e2]
noncomputable def zI(db:List (Sem zh))(p:Sem zq):List (Sem zh):=(bw p.2.1 p.2.2.1).map λn=>jh (aB (bw p.2.1 p.2.2.1)) (aA db n)
theorem Ho{l:List (Sem zh)}{x:Sem zh}:x∈fQ l↔x∈l:=by
 match l with
 |[]=>rfl
 |[_]=>rfl
 | [a,b]=>
  rw[sq];split
  ·simp[or_comm]
  ·exact Iff.rfl
 |_::_::_::_=>rfl
theorem Hh(l:List (Sem zh)):(fQ l).length=Io l:=by
 match l with
 |[]=>rfl
 |[_]=>rfl
 |[a,b]=>rw[sq];split<;>rfl
 |_::_::_::_=>rfl
theorem Cr{db:List (Sem zh)}{s:Sem zn}(hp:(cB db s).1=0):(cB db s).2.1=s.1/\(cB db s).2.2.1=s.2.2.1/\(cB db s).2.2.2.1=cn s:=by
 unfold cB at hp⊢;split at hp
 ·rename_i h;rw[if_pos h,(iy hp).2];exact⟨rfl,rfl,rfl⟩
 ·rename_i h;split at hp
  ·rename_i o;rw[if_neg h,if_pos o,(iy hp).2];exact⟨rfl,rfl,rfl⟩
  ·rename_i o;split at hp
   ·rename_i u;rw[if_neg h,if_neg o,if_pos u,(iy hp).2];exact⟨rfl,rfl,rfl⟩
   ·cases hp
theorem Ha{s:Sem zn}(h:fx s=Q3)(z:s.1=eX):cn s≠[]:=by
 obtain⟨o,F,G,O,S,I,T,U,W,C,D,E,u⟩:=s;have z:o=eX:=z;subst z;obtain⟨_,hp⟩:=eK (s:=(eX,F,G,O,S,I,T,U,W,C,D,E,u)) (g:=_) (b:=_) rfl;rw[hp]at h;intro B;have B:u=[]:=B;subst B;rw[show bV []=Q4 from rfl]at h;cases J:bV F<;>cases L:bV G<;>cases M:bV I<;>simp[J,L,M]at h
theorem I1{db:List (Sem zh)}{s:Sem zn}(hp:(aV db s).1=0):jO s.1/\ew s=Q3/\ld db=(0:Int)/\(∀n∈bw s.2.2.1 (cn s),LE.le (α:=Int) 0 (zX db n))/\s.2.2.1≠cn s/\aV db s=cB db s:=by
 unfold aV at hp;split at hp
 case isFalse=>cases hp
 rename_i u;split at hp
 case isFalse h=>exact absurd hp h
 rename_i o;refine⟨u.1,u.2.1,u.2.2,?_,?_,by unfold aV;rw[if_pos u,if_pos o]⟩
 ·unfold oV at o;split at o
  ·assumption
  ·cases o
 ·unfold oV at o;split at o
  case isFalse=>cases o
  split at o
  case isTrue=>cases o
  rename_i z;intro e;apply z;have e:s.2.2.1=s.t.t.t:=e;rw[<-e];simp
theorem Tg{db:List (Sem zh)}{s:Sem zn}(M:∀x∈db,gS x)(hp:(aV db s).1=0)(sh:my s):
  aV (fQ (zI db (aV db s).2)) (jc (aV db s).2 (zI db (aV db s).2))=(0,(aV db s).2)/\(zI db (aV db s).2).map (λx:Sem zh=>x.1.1)=bw (aV db s).2.2.1 (aV db s).2.2.2.1/\(fQ (zI db (aV db s).2)).Pairwise (λx y:Sem zh=>Op.bytesLess x.1.1 y.1.1=Q3)/\jc (aV db s).2 (zI db (aV db s).2)=s/\(∀x∈fQ (zI db (aV db s).2),gS x)/\two (zI db (aV db s).2)=Q3:=by
 obtain⟨hm,T,hb,S,U,G⟩:=I1 hp;have hB:=(je M).1 hb;have D:=jW T;have W:(cB db s).1=0:=by rw[<-G];exact hp
 obtain⟨f1,f2,f3⟩:=Cr W;have X:aV db s=(0,(aV db s).2):=by rw[<-hp]
 rw[G]at X⊢;generalize J:bw (cB db s).2.2.1 (cB db s).2.2.2.1=ns;have u:bw s.2.2.1 (cn s)=ns:=by rw[<-J,f2,f3]
 rw[u]at S;have h0:zI db (cB db s).2=ns.map λn=>jh (aB ns) (aA db n):=by unfold zI;rw[J]
 rw[h0];have o:∀n∈ns,(aA db n).1.1=n:=λn z=>(iN (S n z)).2
 have B:∀x∈fQ (ns.map λn=>jh (aB ns) (aA db n)),∃n∈ns,x=jh (aB ns) (aA db n):=λx hx=>by
  obtain⟨n,z,rfl⟩:=bd.1 (Ho.1 hx);exact⟨n,z,rfl⟩
 have E:∀n∈ns,jh (aB ns) (aA db n)∈fQ (ns.map λn=>jh (aB ns) (aA db n)):=λn z=>Ho.2 (bd.2 ⟨n,z,rfl⟩)
 have h7:Io ns<=2:=by rw[<-J];unfold bw;split<;>simp
 have L:(fQ (ns.map λn=>jh (aB ns) (aA db n))).Pairwise λx y:Sem zh=>Op.bytesLess x.1.1 y.1.1=Q3:=by
  by_cases Y:(cn s==[])=Q3
  ·have e:ns=[s.2.2.1]:=by rw[<-u];unfold bw;rw[if_pos Y]
   rw[e];simp[fQ]
  ·have e:ns=[s.2.2.1,cn s]:=by rw[<-u];unfold bw;rw[if_neg Y]
   have n1:=o s.2.2.1 (by rw[e];simp);have n2:=o (cn s) (by rw[e];simp);rw[e];show(fQ [jh _ (aA db s.2.2.1),jh _ (aA db (cn s))]).Pairwise _;rw[sq];split
   ·rename_i h;simp only[List.pairwise_cons,eD,forall_eq,List.not_mem_nil,false_implies,implies_true,List.Pairwise.nil,and_true];exact h
   ·rename_i h;simp only[List.pairwise_cons,eD,forall_eq,List.not_mem_nil,false_implies,implies_true,List.Pairwise.nil,and_true];refine kg (by simpa using h) ?_;show(aA db (cn s)).1.1≠(aA db s.2.2.1).1.1;rw[n1,n2];exact λe=>U e.symm
 generalize O:fQ (ns.map λn=>jh (aB ns) (aA db n))=F at B E L;have C:∀n∈ns,LE.le (α:=Int) 0 (zX F n):=λn z=>by
  have:=PV (E n z)
  rwa [show(jh (aB ns) (aA db n)).1.1=n from o n z]at this
 have h5:jd F:=hB.src (p:=aB ns) (by rw[<-O,Hh,cz];omega) L (λy hy=>by
  obtain⟨n,z,rfl⟩:=B y hy;exact⟨_,(iN (S n z)).1,rfl⟩) (λn z=>C n ((lv _ _).1 z))
 have Z:∀x∈F,gS x:=λx hx=>by
  obtain⟨n,z,rfl⟩:=B x hx;have:=M _ (iN (S n z)).1;exact⟨this.uq,bt (List.length_filter_le _ _) this.rf,this.rw⟩
 have h3:∀n∈ns,ah F n=NB (aB ns) (ah db n):=λn z=>by
  obtain⟨h1,h2⟩:=iN (C n z);obtain⟨m,hm,e⟩:=B _ h1;have:m=n:=by
   rw[e]at h2;rw[<-o m hm];exact h2
  subst this;show(aA F m).1=_;rw[e];rfl
 have I:jc (cB db s).2 (ns.map λn=>jh (aB ns) (aA db n))=s:=by
  refine Ti W hm D sh ?_;have:∃r,ns=s.2.2.1::r:=by rw[<-u];unfold bw;split<;>exact⟨_,rfl⟩
  obtain⟨r,e⟩:=this;rw[e];rfl
 have h4:two (ns.map λn=>jh (aB ns) (aA db n))=Q3:=by
  by_cases Y:(cn s==[])=Q3
  ·have e:ns=[s.2.2.1]:=by rw[<-u];unfold bw;rw[if_pos Y]
   rw[e];rfl
  ·have e:ns=[s.2.2.1,cn s]:=by rw[<-u];unfold bw;rw[if_neg Y]
   have n1:=o s.2.2.1 (by rw[e];simp);have n2:=o (cn s) (by rw[e];simp);rw[e];show(!((aA db s.2.2.1).1.1:zD)==(aA db (cn s)).1.1)=Q3;rw[n1,n2];simpa using U
 refine⟨?_,?_,L,I,Z,h4⟩
 ·rw[I];refine(Xw hp ((je Z).2 h5) (λn z=>?_) (λx hx=>?_) (λho=>Ha D ho)).1.trans (by rw[G];exact X)
  ·rw[u]at z⊢;refine⟨C n z,?_⟩;rw[h3 n z];refine⟨rfl,rfl,λf h6=>?_⟩;show f∈(ah db n).t.1.filter (λf:Sem zp=>aB ns f.2)↔_;rw[List.mem_filter,(lv _ _).2 h6];simp
  ·rw[u];obtain⟨n,z,rfl⟩:=B x hx;obtain⟨h1,h2⟩:=iN (S n z);exact⟨by show(aA db n).1.1∈ns;rw[h2];exact z,_,h1,rfl⟩
 ·rw[pM]
  conv=>rhs;rw[<-List.map_id ns]
  exact List.map_congr_left λn z=>o n z
noncomputable def bY(p:Sem zq)(h:List (Sem zh)):Int:=if p.1=cT then(getD h 0 (zi zh)).1.2.2.1 else if p.1=eX then p.t.2 else getD p.t.1 0 (zi zg)
theorem Tp{p:Sem zq}{h:List (Sem zh)}(C:0<Io h)(D:p.1≠cT->p.1≠eX->0<Io p.t.1):sy p h=Q1 (bY p h,()):=by
 have E:zJ 0 (Io h)=Q3:=zt (i:=0) C;unfold bY;by_cases o:p.1=cT
 ·rw[if_pos o];have z:(p.1==cT)=Q3:=by simp[o]
  refine zM (r:=(.int .i64 (getD h 0 (zi zh)).1.2.2.1,[])) ?_ rfl;simp only[SC,Q8,z,E,if_true];rfl
 ·rw[if_neg o];have z:(p.1==cT)=Q4:=by simpa using o
  by_cases u:p.1=eX
  ·rw[if_pos u];have B:(p.1==eX)=Q3:=by simp[u]
   refine zM (r:=(.int .i64 p.t.2,[])) ?_ rfl;simp only[SC,Q8,z,B,if_true,zA,if_false]
  ·rw[if_neg u];have B:(p.1==eX)=Q4:=by simpa using u
   have F:zJ 0 (Io p.t.1)=Q3:=zt (i:=0) (D o u);refine zM (r:=(.int .i64 (getD p.t.1 0 (zi zg)),[])) ?_ rfl;simp only[SC,Q8,z,B,F,if_true,zA,if_false];rfl
def s59(p:Sem zq)(n:Int)(i:Int):List zD->Ks
 |[]=>.h7 p.2.2.2.1.2.1 n i [] [] [] [] [] 0 0 [] [] [] 0 0 [] [] [] p.1 p.2.2.2.1.1 p.2.1 [] (zf.op p.2.2.2.1.t.2) (zf.v p.2.2.2.1.t.2).1 (zf.v p.2.2.2.1.t.2).2.1 (zf.v p.2.2.2.1.t.2).2.2 (zf.s p.2.2.2.1.t.2) (zf.l p.2.2.2.1.t.2) [] 0 0 [] [] p.2.2.1
 |a::r=>.h7b p.2.2.2.1.2.1 n i [] [] [] [] [] 0 0 [] [] [] 0 0 [] [] [] p.1 p.2.2.2.1.1 p.2.1 [] (zf.op p.2.2.2.1.t.2) (zf.v p.2.2.2.1.t.2).1 (zf.v p.2.2.2.1.t.2).2.1 (zf.v p.2.2.2.1.t.2).2.2 (zf.s p.2.2.2.1.t.2) (zf.l p.2.2.2.1.t.2) [] 0 0 [] [] p.2.2.1 (a::r)
theorem zbB{p:Sem zq}{i:Nat}(acc:List zD)(h:i<Io p.2.2.2.1.2.1)(o:Io acc<=1000)(u:i<=1000):(A2 (s59 p (Io p.2.2.2.1.2.1:Int) (i:Int) acc)).val=Q1 (.inl (s59 p (Io p.2.2.2.1.2.1:Int) ((i+1:Nat):Int) (acc++[(getD p.2.2.2.1.2.1 i (zi zj)).1]))):=by
 cases acc with
 | nil=>
  show(A2 (.h7 _ _ _ _ _ _ _ _ _ _ _ _ _ _ _ _ _ _ _ _ _ _ _ _ _ _ _ _ _ _ _ _ _ _)).val=_;simp only[A2,Q8,zF h,zt h,if_true,aD];rw[if_pos sw,zr i um];rfl
 | cons a r=>
  show(A2 (.h7b _ _ _ _ _ _ _ _ _ _ _ _ _ _ _ _ _ _ _ _ _ _ _ _ _ _ _ _ _ _ _ _ _ _ _)).val=_;simp only[A2,Q8,zF h,zt h,if_true,aD];rw[if_pos (by simp at o⊢;omega),zr i um];rfl
theorem Xq{p:Sem zq}{h:List (Sem zh)}(X:0<Io h)(hl:Io p.2.2.2.1.2.1<=1000):IX p h=Q1 (jc p h,()):=by
 have B:zJ 0 (Io h)=Q3:=zt (i:=0) X;by_cases z:p.1=eX
 ·have D:(p.1==eX)=Q3:=by simp[z]
  unfold jc;rw[if_pos z,if_pos z];by_cases u:LE.le (α:=Int) 0 p.t.2/\LT.lt (α:=Int) p.t.2 (Io (getD h 0 (zi zh)).1.2.1)
  ·rw[if_pos u];have O:Q0 (GE.ge (α:=Int) p.t.2 0)=Q3:=zx u.1;have S:Q0 (LT.lt (α:=Int) p.t.2 (Io (getD h 0 (zi zh)).1.2.1))=Q3:=zx u.2;have T:zJ p.t.2 (Io (getD h 0 (zi zh)).1.2.1)=Q3:=by
    unfold zJ;rw[aE];exact⟨zx u.1,zx (by have:=u.1;have:=u.2;omega)⟩
   have L:(zaQ p h).val=Q1 (.inr (agg [str p.1,str p.2.2.2.1.1,str p.2.1,nils,nils,str (getD (getD h 0 (zi zh)).1.2.1 (toNat p.t.2) (zi zj)).1,nils,nils,str (zf.op p.2.2.2.1.t.2),ai (zf.v p.2.2.2.1.t.2).1,
     ai (zf.v p.2.2.2.1.t.2).2.1,str (zf.v p.2.2.2.1.t.2).2.2,str (zf.s p.2.2.2.1.t.2),sl Sh.expr (zf.l p.2.2.2.1.t.2),nils,nils,str [],ai 0,ai 0,str [],str [],nils,str p.2.2.1],[])):=by
    show(br _ (chk _ (br _ (chk _ (chk _ (re _ _))) (re _ _))) (Tr.to _)).val=_;have F:Q0 (p.t.2>=0)=Q3:=O;simp only[Q8,D,F,B,af,if_true];have G:Q0 (p.t.2<(↑(Io (getD h (toNat 0) (zi zh)).1.2.1):Int))=Q3:=S;have I:zJ p.t.2 (Io (getD h (toNat 0) (zi zh)).1.2.1)=Q3:=T;rw[if_pos G,if_pos I];rfl
   refine zM L ?_;rw[<-zk p.2.2.2.1.t.2];rfl
  ·rw[if_neg u]
   have L:(zaQ p h).val=Q1 (.inr (agg [str p.1,str p.2.2.2.1.1,str p.2.1,nils,nils,str [],nils,nils,str (zf.op p.2.2.2.1.t.2),ai (zf.v p.2.2.2.1.t.2).1,
     ai (zf.v p.2.2.2.1.t.2).2.1,str (zf.v p.2.2.2.1.t.2).2.2,str (zf.s p.2.2.2.1.t.2),sl Sh.expr (zf.l p.2.2.2.1.t.2),nils,nils,str [],ai 0,ai 0,str [],str [],nils,str p.2.2.1],[])):=by
    have U:(cond (Q0 (p.t.2>=0)) (Q0 (p.t.2<(↑(Io (getD h (toNat 0) (zi zh)).1.2.1):Int))) Q4)=Q4:=by
     by_cases E:LE.le (α:=Int) 0 p.t.2
     ·have M:¬LT.lt (α:=Int) p.t.2 (Io (getD h 0 (zi zh)).1.2.1):=λc=>u ⟨E,c⟩
      rw[show Q0 (p.t.2>=0)=Q3 from zx E,af];exact aq M
     ·rw[show Q0 (p.t.2>=0)=Q4 from aq E,ao]
    have W:(cond (Q0 (p.t.2>=0)) (zJ 0 (Io h)) Q3)=Q3:=by rw[B];cases Q0 (p.t.2>=0)<;>rfl
    show(br _ (chk _ (br _ (chk _ (chk _ (re _ _))) (re _ _))) (Tr.to _)).val=_;simp only[Q8,D,if_true];rw[if_pos W];simp only[U,zA,if_false]
   refine zM L ?_;rw[<-zk p.2.2.2.1.t.2];rfl
 ·have D:(p.1==eX)=Q4:=by simpa using z
  have Y:(zaQ p h).val=Q1 (.inl (s59 p (Io p.2.2.2.1.2.1:Int) ((0:Nat):Int) [])):=by
   show(br _ (chk _ (br _ (chk _ (chk _ (re _ _))) (re _ _))) (Tr.to _)).val=_;simp only[Q8,D,zA,if_false];rfl
  have J:=zL.all (t:=A2) 1 (λi=>s59 p (Io p.2.2.2.1.2.1:Int) (i:Int) ((p.2.2.2.1.2.1.take i).map λc:Sem zj=>c.1)) (Io p.2.2.2.1.2.1) λi B=>zL.of (by
   rw[zbB _ B sg ow];congr 3;rw[bg B,gD,aS,zU B];rfl)
  simp only[List.take_zero,Co,fI]at J;unfold jc;rw[if_neg z,if_neg z];generalize hm:(p.2.2.2.1.2.1.map λc:Sem zj=>c.1)=o at J;have C:∃r,zV A2 1 (s59 p (Io p.2.2.2.1.2.1:Int) (Io p.2.2.2.1.2.1:Int) o) r/\aI r.2 [zn] r.1=Q1 ((p.1,p.2.2.2.1.1,p.2.1,o,[],[],[],[],p.2.2.2.1.t.2,[],[],dB,p.2.2.1),()):=by
   cases o with
   | nil=>
    refine⟨_,zV.of (by
     show(A2 (.h7 _ _ _ _ _ _ _ _ _ _ _ _ _ _ _ _ _ _ _ _ _ _ _ _ _ _ _ _ _ _ _ _ _ _)).val=_;simp only[A2,Q8,zB,zA,if_false];rfl),?_⟩
    rw[<-zk p.2.2.2.1.t.2];rfl
   | cons a r=>
    refine⟨_,zV.of (by
     show(A2 (.h7b _ _ _ _ _ _ _ _ _ _ _ _ _ _ _ _ _ _ _ _ _ _ _ _ _ _ _ _ _ _ _ _ _ _ _)).val=_;simp only[A2,Q8,zB,zA,if_false];rfl),?_⟩
    rw[<-zk p.2.2.2.1.t.2];rfl
  obtain⟨r,Z,r2⟩:=C;exact zy Y (J.ends Z) ow r2
structure T0 (p:Sem zq) (src:List (Sem zh)):Prop where
 names:src.map (λx:Sem zh=>x.1.1)=bw p.2.1 p.2.2.1
 two:two src=Q3
 plan:aV (fQ src) (jc p src)=(0,p)
 few:Nd (jc p src)
 short:∀x∈fQ src,gS x
 cols:Io p.2.2.2.1.2.1<=1000
 same:IV p p=Q3/\L9 p p=Q3
theorem wW{o:List (Sem zh)}(h:two o=Q3):0<Io o/\Io o<=2:=by
 match o,h with
 |[_],_=>simp
 |[_,_],_=>simp
theorem zbi{p:Sem zq}{o:List (Sem zh)}(h:T0 p o):Qz p o=Q1 (0,()):=by
 obtain⟨C,M⟩:=wW h.two;have u:(bw p.2.1 p.2.2.1).length=Io o:=by rw[<-h.names,cz]
 have L:(zne p o).val=Q1 (.inl (.h6 o (bw p.2.1 p.2.2.1) o (Io o:Int) ((0:Nat):Int) (p,()))):=by
  have e:((Io o:Int)!=((bw p.2.1 p.2.2.1).length:Int))=Q4:=by rw[u];simp
  show(br ((Io o:Int)!=((bw p.2.1 p.2.2.1).length:Int)) _ _).val=_;rw[e];rfl
 have I:=zL.all (t:=zbJ) 1 (λi=>.h6 o (bw p.2.1 p.2.2.1) o (Io o:Int) (i:Int) (p,())) (Io o) λi B=>zL.of (by
  have J:(!((getD o i (zi zh)).1.1:zD)==(bw p.2.1 p.2.2.1).getD i (zi Sh.str))=Q4:=by
   rw[<-h.names,aS,aS,eL,zU B];simp
  simp only[zbJ,Q8,zF B,zt B,zt (show i<(bw p.2.1 p.2.2.1).length by omega),if_true,aD,J,zA,if_false];rw[zr i um])
 have z:=Xq (p:=p) C h.cols;have D:Ox p o=Q3:=by unfold Ox;rw[z];rfl
 have E:Xp p o=jc p o:=by unfold Xp;rw[z];rfl
 have hp:L8 (fQ o) (jc p o)=Q1 ((aV (fQ o) (jc p o)).2,(aV (fQ o) (jc p o)).1,()):=ziu h.short (by rw[Hh];omega) h.few;rw[h.plan]at hp;have F:zit (fQ o) (jc p o)=Q3:=by unfold zit;rw[hp];rfl
 have G:pOf (fQ o) (jc p o)=(p,0):=by unfold pOf;rw[hp];rfl
 refine zy L (I.ends (k:=1) (r:=(.int .i64 0,[])) (zV.of ?_)) ow rfl;simp only[zbJ,Q8,zB,zk,Prod.eta,D,E,F,G,h.two,h.same.1,h.same.2,zA,if_false];simp[C,show Io o<=1000 by omega]
theorem IU{p:Sem zq}{o:List (Sem zh)}(h:T0 p o):L7 p o=Q3/\Xn p o=0:=by
 have:=zbi h;exact⟨by unfold L7;rw[this];rfl,by unfold Xn;rw[this];rfl⟩
def s50(db:List (Sem zh))(ns:List zD)(j:Int)(i:Int)(x:Sem zh):List (Sem zh)->List (Sem zp)->mw
 |[],[]=>.h12 db ns j i (x,())
 |[],b::r=>.h12b db ns j i (x,()) (b::r)
 |a::l,[]=>.h12bb db ns j i (x,()) (a::l)
 |a::l,b::r=>.h12bbb db ns j i (x,()) (a::l) (b::r)
def OV(db:List (Sem zh))(ns:List zD)(j:Int):List (Sem zh)->mw
 |[]=>.h4 db ns j
 |a::l=>.h4b db ns j (a::l)
theorem zbA{db:List (Sem zh)}{ns:List zD}{j:Int}{x:Sem zh}{acc:List (Sem zh)}{b:List (Sem zp)}{i:Nat}(h:i<Io x.1.t.1)(C:Io ns<=1000)(z:Io b<=1000)(B:i<=1000):
  (gA (s50 db ns j (i:Int) x acc b)).val=Q1 (.inl (s50 db ns j ((i+1:Nat):Int) x acc (ite (aB ns (getD x.1.t.1 i (zi zp)).2=Q3) (b++[getD x.1.t.1 i (zi zp)]) b))):=by
 obtain⟨o,u⟩:=Jy (l:=ns) (s:=(getD x.1.t.1 i (zi zp)).2) ow;cases acc with
 | nil=>
  cases b with
  | nil=>
   show(gA (.h12 _ _ _ _ _)).val=_;simp only[gA,Q8,zF h,zt h,if_true,aD,o,u];rw[zr i um];split
   ·rw[if_pos sw];rfl
   ·rfl
  | cons c r=>
   show(gA (.h12b _ _ _ _ _ _)).val=_;simp only[gA,Q8,zF h,zt h,if_true,aD,o,u];rw[zr i um];split
   ·rw[if_pos (by simp at z⊢;omega)];rfl
   ·rfl
 | cons a l=>
  cases b with
  | nil=>
   show(gA (.h12bb _ _ _ _ _ _)).val=_;simp only[gA,Q8,zF h,zt h,if_true,aD,o,u];rw[zr i um];split
   ·rw[if_pos sw];rfl
   ·rfl
  | cons c r=>
   show(gA (.h12bbb _ _ _ _ _ _ _)).val=_;simp only[gA,Q8,zF h,zt h,if_true,aD,o,u];rw[zr i um];split
   ·rw[if_pos (by simp at z⊢;omega)];rfl
   ·rfl
theorem zbz{db:List (Sem zh)}{ns:List zD}{j:Nat}{x:Sem zh}{acc:List (Sem zh)}{b:List (Sem zp)}(o:j<=1000)(h:Io acc<=1000):
  (gA (s50 db ns (j:Int) (Io x.1.t.1:Int) x acc b)).val=Q1 (.inl (OV db ns ((j+1:Nat):Int) (acc++[((x.1.1,x.1.2.1,x.1.2.2.1,x.1.2.2.2.1,b,x.1.t.2),x.2)]))):=by
 cases acc with
 | nil=>
  cases b with
  | nil=>
   show(gA (.h12 _ _ _ _ _)).val=_;simp only[gA,Q8,zB,zA,if_false,zk];rw[zr j um,if_pos sw];rfl
  | cons c r=>
   show(gA (.h12b _ _ _ _ _ _)).val=_;simp only[gA,Q8,zB,zA,if_false,zk];rw[zr j um,if_pos sw];rfl
 | cons a l=>
  cases b with
  | nil=>
   show(gA (.h12bb _ _ _ _ _ _)).val=_;simp only[gA,Q8,zB,zA,if_false,zk];rw[zr j um,if_pos (by simp at h⊢;omega)];rfl
  | cons c r=>
   show(gA (.h12bbb _ _ _ _ _ _ _)).val=_;simp only[gA,Q8,zB,zA,if_false,zk];rw[zr j um,if_pos (by simp at h⊢;omega)];rfl
theorem ziD{db:List (Sem zh)}{ns:List zD}{j:Nat}{x:Sem zh}{acc:List (Sem zh)}(C:Io ns<=1000)(B:j<=1000)(z:Io acc<=1000)(D:Io x.1.t.1<=1000):
  zL gA 1002 (s50 db ns (j:Int) ((0:Nat):Int) x acc []) (OV db ns ((j+1:Nat):Int) (acc++[jh (aB ns) x])):=by
 have u:=zL.all (t:=gA) 1 (λi=>s50 db ns (j:Int) (i:Int) x acc ((x.1.t.1.take i).filter λf:Sem zp=>aB ns f.2)) (Io x.1.t.1) λi o=>zL.of (by
  rw[zbA o C (bt (List.length_filter_le _ _) sg) ow];congr 3;rw[bg o,List.filter_append,aS,zU o];cases h:aB ns (x.1.t.1[i]:Sem zp).2<;>simp[h])
 simp only[List.take_zero,List.filter_nil,fI]at u;refine(u.trans (zL.of (zbz B z))).mono ow
theorem XF{db:List (Sem zh)}{p:Sem zq}(J:∀x∈db,gS x)(D:∀n∈bw p.2.1 p.2.2.1,LE.le (α:=Int) 0 (zX db n)):D1 p db=Q1 (zI db p,Q3,()):=by
 have E:(zhz p db).val=Q1 (.inl (OV db (bw p.2.1 p.2.2.1) ((0:Nat):Int) [])):=by
  simp only[zhz,zk,Prod.eta,Q8,th,vQ,if_true];rfl
 have I:(bw p.2.1 p.2.2.1).length<=2:=by unfold bw;split<;>simp
 unfold zI;generalize bw p.2.1 p.2.2.1=ns at E I D⊢;have C:=zL.all (t:=gA) 1003 (λj=>OV db ns (j:Int) ((ns.take j).map λn=>jh (aB ns) (aA db n))) (Io ns) λj h=>by
  have o:=D ns[j] (aK h);have B:Q0 (zX db ns[j]<0)=Q4:=by simpa using o
  have z:=dK o;have L:=J _ (nc o);have F:zL gA 1 (OV db ns (j:Int) ((ns.take j).map λn=>jh (aB ns) (aA db n))) (s50 db ns (j:Int) ((0:Nat):Int) (aA db ns[j]) ((ns.take j).map λn=>jh (aB ns) (aA db n)) []):=zL.of (by
   generalize((ns.take j).map λn=>jh (aB ns) (aA db n))=acc;cases acc with
   | nil=>
    show(gA (.h4 _ _ _)).val=_;simp only[gA,Q8,zF h,zt h,if_true,zH _ _ h,dD,B,z,zA,if_false];rfl
   | cons a l=>
    show(gA (.h4b _ _ _ _)).val=_;simp only[gA,Q8,zF h,zt h,if_true,zH _ _ h,dD,B,z,zA,if_false];rfl)
  have G:=(F.trans (ziD (x:=aA db ns[j]) ow ow sg L.rf)).mono (b:=1003) ow;show zL gA 1003 _ (OV db ns ((j+1:Nat):Int) ((ns.take (j+1)).map λn=>jh (aB ns) (aA db n)));rw[bg h,gD];exact G
 simp only[List.take_zero,Co,fI]at C;generalize S:(ns.map λn=>jh (aB ns) (aA db n))=acc at C;have u:∃r,zV gA 1 (OV db ns (Io ns:Int) acc) r/\aI r.2 [zh.sl,Sh.bool] r.1=Q1 (acc,Q3,()):=by
  cases acc with
  | nil=>
   refine⟨_,zV.of (by
    show(gA (.h4 _ _ _)).val=_;simp only[gA,Q8,zB,zA,if_false];rfl),rfl⟩
  | cons a l=>
   refine⟨_,zV.of (by
    show(gA (.h4b _ _ _ _)).val=_;simp only[gA,Q8,zB,zA,if_false];rfl),rfl⟩
 obtain⟨r,M,O⟩:=u;exact zy E (C.ends M) ow O
def pB(a b:Sem ze):Bool:=a.1==b.1&&(a.2.1==b.2.1&&(a.2.2==b.2.2&&Q3))
theorem kF{a b:Sem ze}:pB a b=Q3↔a=b:=by
 obtain⟨h,o,u⟩:=a;obtain⟨z,B,C⟩:=b;unfold pB;simp
def vA(h:Int)(v:Sem ze)(o:List (Sem ze)):Bool:=bif pB (getD o h.toNat (zi ze)) v then v.1!=0 else Q4
theorem ou{h:Int}{v:Sem ze}{o:List (Sem ze)}:vA h v o=Q3↔getD o h.toNat (zi ze)=v/\v.1≠0:=by
 unfold vA;rw[<-kF];cases pB (getD o h.toNat (zi ze)) v<;>simp
theorem LA(u:Sem ze):∀l:List (Sem ze),(fk u l).length<=Io l+1
 |[]=>by simp[fk]
 | o::r=>by
  unfold fk;split
  ·have:=LA u r;simp only[dU];omega
  ·split<;>simp
theorem Lp:∀(l acc:List (Sem ze)),(l.foldl (λacc u=>if((u:Sem ze).1==0)=Q3 then acc else fk u acc) acc).length<=Io acc+Io l
 |[],acc=>by simp
 | u::r,acc=>by
  rw[List.foldl_cons];refine bt (Lp r _) ?_;split
  ·simp
  ·have:=LA u acc;simp only[dU];omega
theorem KF(l:List (Sem ze)):(ir l).length<=Io l:=by
 have:=Lp l [];simpa[ir]using this
def H1(p:Sem zq):Prop:=Io p.2.2.2.1.2.1<=1000/\Io p.2.2.2.1.2.2.2.1<=1000000/\Io p.2.2.2.1.t.1<=1000000/\sG 16 p.2.2.2.1.t.2=Q3/\Io p.t.1<=1000000
theorem nI:H1 jS:=⟨aO _,aO _,aO _,rfl,aO _⟩
theorem tY{e:Int}{p:Sem zq}(h:e=0->H1 p):H1 (iw e p).2:=by
 unfold iw;split
 ·split
  ·exact h (by assumption)
  ·exact nI
 ·exact nI
theorem Oz(db:List (Sem zh)){s:Sem zn}(o:Nd s):H1 (aV db s).2:=by
 have z:=o.sh.names.1;unfold aV;split;rotate_left
 ·exact nI
 split;rotate_left
 ·exact nI
 unfold cB;split
 ·refine tY λ_=>⟨?_,aO _,aO _,o.cp,?_⟩
  ·show(er _ _).length<=_;unfold er;rw[cz];omega
  ·show(js _ _).length<=_;unfold js;rw[cz];omega
 split
 ·refine tY λh=>?_
  have u:(ah db s.2.2.1).2.1.length+(ej db s.t.t.t).2.1.length<=9:=by
   unfold fM at h;split at h
   ·cases h
   split at h;rotate_left
   ·cases h
   split at h
   ·cases h
   ·omega
  have B:=lA (ej db s.t.t.t).2.2.1 (Io (ej db s.t.t.t).2.1);refine⟨?_,aO _,aO _,o.cp,?_⟩
  ·show(_++fO _ _).length<=_;unfold fO;rw[ip,cz];omega
  ·show(jt _ _).length<=_;unfold jt;rw[cz];omega
 split
 ·refine tY λ_=>⟨?_,aO _,aO _,o.cp,?_⟩
  ·show(xW _ _).length<=_;unfold xW;simp
  ·show(js _ _).length<=_;unfold js;rw[cz];omega
 ·exact nI
noncomputable def de(db:List (Sem zh))(p:Sem zq):Sem zh:=getD (zI db p) 0 (zi zh)
structure aF (db:List (Sem zh)) (p:Sem zq):Prop where
 go:T0 p (zI db p)
 rel:dH (de db p)
 plc:sy p (zI db p)=Q1 (bY p (zI db p),())
 inn:∀row∈(de db p).2,zJ (bY p (zI db p)) (Io row)=Q3/\Io row=Io (de db p).1.2.1
 fnd:∀n∈bw p.2.1 p.2.2.1,LE.le (α:=Int) 0 (zX db n)
 mig:jO p.1
 col:LE.le (α:=Int) 0 (bY p (zI db p))/\LT.lt (α:=Int) (bY p (zI db p)) (Io (de db p).1.2.1)
theorem Xv{db:List (Sem zh)}{s:Sem zn}(L:∀x∈db,gS x)(hp:(aV db s).1=0)(Z:Nd s):aF db (aV db s).2:=by
  obtain⟨hm,S,hb,M,h7,E⟩:=I1 hp;obtain⟨c1,c2,_,c4,c5,X⟩:=Tg L hp Z.sh;have hB:=(je L).1 hb;obtain⟨b1,b2,b3,b4,b5⟩:=Oz db Z;have D:=jW S;have I:(cB db s).1=0:=by rw[<-E];exact hp
  obtain⟨f1,f2,f3⟩:=Cr I;rw[E]at c1 c2 c4 c5 X b1 b2 b3 b4 b5⊢;have O:∀n∈bw (cB db s).2.2.1 (cB db s).2.2.2.1,LE.le (α:=Int) 0 (zX db n):=by rw[f2,f3];exact M
  have h0:LE.le (α:=Int) 0 (zX db s.2.2.1):=M _ (by unfold bw;split<;>simp);have hx:de db (cB db s).2=jh (aB (bw s.2.2.1 (cn s))) (aA db s.2.2.1):=by
    unfold de zI;rw[f2,f3];have:∃r,bw s.2.2.1 (cn s)=s.2.2.1::r:=by unfold bw;split<;>exact⟨_,rfl⟩
    obtain⟨r,e⟩:=this;rw[e];rfl
  have J:dH (de db (cB db s).2):=by rw[hx];exact(hB.rels _ (iN h0).1).cut
  have C:(de db (cB db s).2).1.2.1=(ah db s.2.2.1).2.1:=by rw[hx];rfl
  obtain⟨m1,m2⟩:=Xo (b:=(cB db s).2) (by omega) b2 b3 b4 b5;have F:∀z∈(de db (cB db s).2).2,Io z=Io (de db (cB db s).2).1.2.1:=λz W=>(cL (J.fits z W)).1
  have o : (LE.le (α:=Int) 0 (bY (cB db s).2 (zI db (cB db s).2))∧LT.lt (α:=Int) (bY (cB db s).2 (zI db (cB db s).2)) (Io (de db (cB db s).2).1.2.1))∧((cB db s).2.1≠[99,111,112,121]→(cB db s).2.1≠[106,111,105,110]→0 < Io (cB db s).2.2.2.2.2.1):=by
    unfold bY;rw[f1];rcases hm with B|B|B
    · rw[if_pos B]
      refine⟨?_,λh=>absurd B h⟩;obtain⟨k1,_⟩:=fi J.may;exact k1
    · have T:s.1≠[99,111,112,121]:=by rw[B];decide
      rw[if_neg T,if_pos B];refine⟨?_,λ_ h=>absurd B h⟩
      have e:(cB db s)=iw (fM (ah db s.2.2.1) (ej db s.2.2.2.2.2.2.2.2.2.2.2.2) s.2.2.2.2.2.1 s.2.2.2.2.2.2.2.2.2.2.2.2)
          (s.1,s.2.2.1,s.2.2.2.2.2.2.2.2.2.2.2.2,(s.2.1,(ah db s.2.2.1).2.1++fO (ej db s.2.2.2.2.2.2.2.2.2.2.2.2) (Io (ej db s.2.2.2.2.2.2.2.2.2.2.2.2).2.1),(ah db s.2.2.1).2.2.1,[],[],s.2.2.2.2.2.2.2.2.1),
            jt (ej db s.2.2.2.2.2.2.2.2.2.2.2.2).2.2.1 (Io (ej db s.2.2.2.2.2.2.2.2.2.2.2.2).2.1),zR (ah db s.2.2.1) s.2.2.2.2.2.1):=by
        unfold cB;rw[if_neg (by simpa using T),if_pos (by simp[B])]
      have e0:=I;rw[e]at e0;obtain⟨G,Y⟩:=iy e0;have u:¬LT.lt (α:=Int) (zR (ah db s.2.2.1) s.2.2.2.2.2.1) 0:=by
        intro h4;unfold fM at G;rw[if_pos h4]at G;cases G
      have h6:(cB db s).2.2.2.2.2.2=zR (ah db s.2.2.1) s.2.2.2.2.2.1:=by rw[e,Y]
      rw[h6,C];exact⟨by omega,(gZ u).2⟩
    · have T:s.1≠[99,111,112,121]:=by rw[B];decide
      have n2:s.1≠[106,111,105,110]:=by rw[B];decide
      rw[if_neg T,if_neg n2];have e:(cB db s)=iw (qh (ah db s.2.2.1) s.2.2.2.1) (s.1,s.2.2.1,s.2.2.2.2.2.2.2.2.2.2.2.2,(s.2.1,xW (ah db s.2.2.1) s.2.2.2.1,0,[],[],s.2.2.2.2.2.2.2.2.1),js (ah db s.2.2.1) s.2.2.2.1,0):=by
        unfold cB;rw[if_neg (by simpa using T),if_neg (by simpa using n2),if_pos (by simp[B])]
      have e0:=I;rw[e]at e0;obtain⟨G,Y⟩:=iy e0;have hpl:fW (ah db s.2.2.1) s.2.2.2.1=0:=by
        unfold qh at G;split at G
        · assumption
        · exact G
      have u:=qw hpl;have h3:(cB db s).2.2.2.2.2.1=js (ah db s.2.2.1) s.2.2.2.1:=by rw[e,Y]
      have h2:=jN D B;rw[h3,C]
      match h5:s.2.2.2.1,h2 with
      | [a,b],_=>
        rw[h5]at u;have ha:=u a (by simp)
        exact ⟨⟨by have:¬ LT.lt (α:=Int) (zR (ah db s.2.2.1) a) 0:=ha
                   show LE.le (α:=Int) 0 (zR (ah db s.2.2.1) a);omega,(gZ ha).2⟩,λ_ _=>by simp[js]⟩
  have U:=wW X;refine⟨⟨c2,X,by rw[c1],by rw[c4];exact Z,c5,b1,m1,m2.2 rfl⟩,J,Tp U.1 o.2,λz W=>⟨?_,F z W⟩,O,by rw[f1];exact hm,o.1⟩;rw[F z W];unfold zJ;rw[aE];have h1:=o.1.1;have h2:=o.1.2;exact⟨zx h1,zx (by omega)⟩
section
variable {db:List (Sem zh)} {p:Sem zq}
theorem aF.pc(h:aF db p):sx p (zI db p)=Q3/\fy p (zI db p)=bY p (zI db p):=
 ⟨by unfold sx;rw[h.plc];rfl,by unfold fy;rw[h.plc];rfl⟩
theorem aF.at_mem(h:aF db p){o:List (Sem ze)}(z:o∈(de db p).2):getD o (toNat (bY p (zI db p))) (zi ze)∈o:=by
 have u:=(h.inn o z).1;simp only[zJ,aE,aQ]at u;exact vr _ _ ow
theorem aF.may(h:aF db p){x:Sem ze}(z:x∈lW p (zI db p)):aU x=Q3:=by
 obtain⟨o,u,rfl⟩:=bd.1 z;rw[h.pc.2];exact(cL (h.rel.fits o u)).2.1 _ (h.at_mem u)
theorem aF.all(h:aF db p):HR p (zI db p)=Q3:=by
 unfold HR;simp only[aE,aQ,ep];refine⟨h.pc.1,zt (i:=0) (wW h.go.two).1,bt h.rel.few ow,λo u=>⟨?_,h.may (bd.2 ⟨o,u,rfl⟩)⟩⟩;rw[h.pc.2];exact(h.inn o u).1
theorem aF.len(h:aF db p){o:List (Sem ze)}(u:o∈(de db p).2):Io o<=8:=by
 rw[(h.inn o u).2];exact(fi h.rel.may).2.2.2.1
theorem aF.few(_:aF db p):(cv p (zI db p)).length<=(de db p).2.length:=by
 have:=KF (lW p (zI db p));have e:(lW p (zI db p)).length=(de db p).2.length:=cz _;rw[e]at this;exact this
theorem aF.keys(h:aF db p)(z:p.1=cT):(lW p (zI db p)).Nodup/\∀x∈lW p (zI db p),x.1≠0:=by
 have hp:fy p (zI db p)=(de db p).1.2.2.1:=by
  rw[h.pc.2];unfold bY;rw[if_pos z];rfl
 have e:lW p (zI db p)=(de db p).2.map (zE (de db p).1.2.2.1):=by
  unfold lW;rw[hp];rfl
 rw[e];refine⟨P2 h.rel.pw,λx D=>?_⟩;obtain⟨o,u,rfl⟩:=bd.1 D;have C:=(iR _).1 h.rel.may;have B:=h.rel.keys o u;simp only[zJ,aE,aQ]at B;exact(cL (h.rel.fits o u)).2.2 _ ow C.nn
theorem aF.is(h:aF db p)(v:Sem ze):v∈cv p (zI db p)↔(de db p).2.filter (vA (bY p (zI db p)) v)≠[]:=by
 unfold cv;rw[(nS λx E=>h.may E).2];show _↔¬(de db p).2.filter (vA (bY p (zI db p)) v)=[];rw[List.filter_eq_nil_iff];constructor
 ·rintro⟨E,z⟩ C;obtain⟨o,u,e⟩:=bd.1 E;rw[h.pc.2]at e;exact C o u (ou.2 ⟨e,z⟩)
 ·intro C;have:∃o∈(de db p).2,vA (bY p (zI db p)) v o=Q3:=by
   refine ke λD=>C λo u B=>D ⟨o,u,B⟩
  obtain⟨o,u,B⟩:=this;obtain⟨e,z⟩:=ou.1 B;refine⟨bd.2 ⟨o,u,?_⟩,z⟩;show getD o (toNat (fy p (zI db p))) (zi ze)=v;rw[h.pc.2];exact e
end
def RgV(v:Sem ze):Prop:=LE.le (α:=Int) (-9223372036854775808) v.2.1/\LE.le (α:=Int) v.2.1 9223372036854775807
mutual
def TE:zf->Prop
 |.mk _ v _ l=>RgV v/\H0 l
def H0:List zf->Prop
 |[]=>True
 |e::r=>TE e/\H0 r
end
theorem H0.mem:∀{l:List zf},H0 l->∀e∈l,TE e
 |[],_,e,h=>by simp at h
 | x::r,h,e,o=>by
  rw[H0]at h;rcases bL.1 o with rfl|o
  ·exact h.1
  ·exact H0.mem h.2 e o
theorem kv.app:∀{a b:List zf},kv a->kv b->kv (a++b)
 |[],_,_,h=>h
 | x::r,b,h,hb=>by
  rw[kv]at h;rw[List.cons_append,kv];exact⟨h.1,h.2.app hb⟩
theorem M2(k:Nat)(s:zD)(h:k<=1000):(List.take (toNat (k:Int)-toNat 0) (List.drop (toNat 0) s)).length<=1000000:=by
 simp;omega
theorem WO{n k:Nat}(h:¬Q0 ((n:Int)>(k:Int))=Q3)(o:k<=1000):n<=1000000:=by
 have:¬(n:Int)>(k:Int):=by simpa using h
 omega
theorem kv.of:∀{l:List zf},(∀x∈l,tz x)->kv l
 |[],_=>by rw[kv];trivial
 |x::r,h=>by rw[kv];exact⟨h x sw,kv.of λy o=>h y (by simp[o])⟩
theorem Bg{e:zf}(h:TE e):tz (dw e):=by
 obtain⟨r,m,B,C⟩:=IA (P:=λ_ e r=>TE e->tz r) (λN e o t s l D _ I G u=>by
  obtain⟨L,v,M,J⟩:=e;rw[TE]at u;rw[tz];exact⟨⟨u.1.1,u.1.2,by show Io t<=_;omega⟩,ow,kv.of λy F=>by
   obtain⟨x,E,z⟩:=D y F;exact z (u.2.mem x E)⟩) 16 e 14 80 ow ow ow
 unfold dw;rw[zf.eta,show sH 16 e 14 80=(r,m) by unfold sH;rw[B];rfl];exact C h
theorem EO(s:zD):(jy s).length<=1000000:=by
 unfold jy;split
 ·exact M2 20 s ow
 ·exact WO (k:=20) (by assumption) ow
theorem Wu(l:List (Sem zj)):(jQ l).length<=9/\∀c∈jQ l,Io c.1<=1000000:=by
 refine⟨by show((List.take 9 l).map _).length<=9;rw[cz,o7];omega,λc h=>?_⟩;obtain⟨x,_,rfl⟩:=bd.1 h;exact EO x.1
theorem zbM{t:Sem zo}(h:TE t.t.2):AP (E7 t):=by
 have o:=Wu t.2.1;refine⟨EO _,o.2,bt o.1 ow,?_,?_,λf u=>?_,Bg h⟩
 ·show(List.take 10 _).length<=_;rw[o7];omega
 ·show((List.take 10 _).map _).length<=_;rw[cz,o7];omega
 ·obtain⟨g,_,rfl⟩:=bd.1 u;exact EO _
theorem zbS{v:Sem ze}(h:RgV v):kd (FM v):=by
 unfold FM;split
 ·exact⟨h.1,h.2,M2 60 v.2.2 ow⟩
 ·exact⟨h.1,h.2,WO (k:=60) (by assumption) ow⟩
theorem LO{l:List (Sem ze)}(h:∀v∈l,RgV v):∀v∈mh l,kd v:=λv o=>by
 obtain⟨x,u,rfl⟩:=bd.1 o;exact zbS (h x (List.mem_of_mem_take u))
structure RgR (x:Sem zh):Prop where
 chk:TE x.1.t.2
 vals:∀r∈x.2,∀v∈(r:List (Sem ze)),RgV v
theorem Wr{x:Sem zh}(h:RgR x):F1 (Aw x):=by
 obtain⟨o,z,B⟩:=LN x;have C:Aw x=(E7 x.1,o):=by unfold Aw;rw[B];rfl
 rw[C];refine⟨zbM h.chk,by show Io o<=1000;have:=z.1;omega,λr D v E=>?_⟩;obtain⟨F,u,rfl⟩:=z.2 r D;exact LO (h.vals F u) v E
structure RgS (s:Sem zn):Prop where
 chk:TE s.t.t.1
 whr:TE s.t.t.q.2.1
 row:∀v∈s.t.t.2.1,RgV v
 sets:∀x∈s.t.t.q.1,TE (x:Sem ig).2
theorem Wq{s:Sem zn}(h:RgS s):∃u:Sem zn,yf s=Q1 (u,())/\Nd u/\po u:=by
 obtain⟨u,B,z,o⟩:=Oi s;refine⟨u,B,z,z.sh,?_,?_,z.cp,?_,?_,?_⟩
 ·rw[o.chk];exact Bg h.chk
 ·rw[o.whr];exact Bg h.whr
 ·rw[o.whr];exact If _
 ·rw[o.row];exact LO h.row
 ·intro x D;obtain⟨y,E,C⟩:=o.sets x D;rw[C];exact⟨Bg (h.sets y E),If _⟩
open Go Go.RowKit Go.ChangeShapes
theorem IF{W z:World}(C:z.os=W.os)(u:z.output=W.output)(h:∀b,b<W.heap.size->z.heap[b]?=W.heap[b]?)(D:MemPlace->Prop):W.keptBut z D:=by
 refine⟨C,u,λi E=>?_⟩;rw[h i E];cases W.heap[i]? with
 |none=>rfl
 | some o=>
  cases o with
  |cells c t F=>exact⟨rfl,rfl,rfl,λ_ _=>rfl⟩
  |map es B=>exact .inr ⟨rfl,rfl⟩
  |_=>rfl
section
variable {H:Type} {enc:TypeId×Value->H} {P:Program}
theorem Mc{f:Func}{s:ChangeSpec}{F o E:Bool}{W D:World}{args:Array Value}{v:Value}{L M:List (DataW H)}{h pa pv:List MemPlace}
  (S:DataW.Whole enc P f.params.toList s.vars Q4 W args.toList L M h)
  (C:∀(b:Nat)(J:Nat->Bool)(Z:Bool),DataW.TrodAll enc P D b J Z f.resultTypes.toList (v.resultList f.resultTypes.size) (s.fn H (L++M)).results [])
  (u:∀J:Nat->Bool,(∀p∈h,J p.block=Q3)->DataW.TrodAll enc P D 0 J Q3 f.params.toList args.toList (s.fn H (L++M)).args pa)
  (z:∀J:Nat->Bool,(∀p∈h,J p.block=Q3)->DataW.TrodVars enc P D J s.vars (s.fn H (L++M)).vars pv)
  (G:h=pa++pv) (hk:W.keptBut D (·∈h)) (T:∀a:Addr,a.block<W.heap.size->D.frozen? a=W.frozen? a)
  (X:∀(j:Nat)(t:TypeId)(r:Value),f.resultTypes[j]?=Q1 t->(v.resultList f.resultTypes.size)[j]?=Q1 r->Value.okWide P D .any 0 t r):
  s.post enc P f Q4 F o E W args v D:=by
 have B:∀p∈h,(λb=>Q0 (b<W.heap.size)) p.block=Q3:=λp hp=>by simpa using S.lt p hp
 have U:=S.lt;refine⟨L,M,h,[],pa,pv,S,C _ _ _,u _ B,z _ B,World.keptBut_mono (λp hp=>⟨hp,?_⟩) hk,λ_=>?_⟩
 ·rw[G,cJ]at hp;exact Or.inr hp
 ·obtain⟨_,_,_,_,_,hz,hn⟩:=S;refine⟨X,_,_,([]++pa)++pv,⟨[]++pa,pv,trodAll_append (u _ (λ_ _=>rfl)) (C _ _ _),z _ (λ_ _=>rfl),rfl,?_,?_⟩,?_⟩
  ·intro b I hp;have O:MemPlace.cell b I∈h:=by rw[G];simpa using hp
   rw[T ⟨b,I,none⟩ (U _ O)];exact hz b I O
  ·intro Y;cases Y
  ·intro p hp _;rw[G];simpa using hp
theorem SX{W:World}{r:Go.Reach}{b:Nat}{t:TypeId}{o:Array Field}{v:Value}(u:P.underlying t=Q1 (.struct o))(h:Value.okWide P W r b t v):∃cs,v=.agg cs:=by
 unfold Value.okWide at h;rw[u]at h;obtain⟨cs,rfl,_⟩:=h;exact⟨cs,rfl⟩
theorem W9{W:World}{r:Go.Reach}{b:Nat}{t e:TypeId}{v:Value}(o:P.underlying t=Q1 (.slice e))(h:Value.okWide P W r b t v):∃a n c,v=.slice a n c:=by
 unfold Value.okWide at h;rw[o]at h;simp only at h;unfold Cell.okWide at h;rw[o]at h;unfold Cell.ok at h;rw[o]at h;cases v<;>simp at h
 exact⟨_,_,_,rfl⟩
theorem zik{W:World}{r:Go.Reach}{b:Nat}{t:TypeId}{k:IntKind}{v:Value}(o:P.underlying t=Q1 (.int k))(h:Value.okWide P W r b t v):∃n,v=.int k n:=by
 unfold Value.okWide at h;rw[o]at h;simp only at h;unfold Cell.okWide at h;rw[o]at h;unfold Cell.ok at h;rw[o]at h;cases v<;>simp at h
 exact⟨_,by rw[h.1]⟩
theorem N5{W:World}{r:Go.Reach}{b n:Nat}{t:TypeId}{C:Array Field}{s:Sh}{v:Value}{d:DataW H}{ps:List MemPlace}(u:Pc P n t s=Q3)(B:s.isAgg=Q3)(D:P.underlying t=Q1 (.struct C))(o:Value.okWide P W r b t v)
  (h:DataW.Trod enc P W 0 (λ_=>Q3) Q3 t v d ps):∃x:Sem s,Rv W U0 iV (zC s x) v:=by
 refine A7 u h ⟨λ_=>B,λ_=>SX D o⟩ (λz=>?_);rw[B]at z;cases z
theorem Sz{W:World}{r:Go.Reach}{b n:Nat}{t e:TypeId}{s:Sh}{v:Value}{d:DataW H}{ps:List MemPlace}(z:Pc P n t (.sl s)=Q3)(B:P.underlying t=Q1 (.slice e))(u:Value.okWide P W r b t v)
  (h:DataW.Trod enc P W 0 (λ_=>Q3) Q3 t v d ps):∃x:List (Sem s),Rv W U0 iV (.sl s x) v:=by
 obtain⟨a,m,c,rfl⟩:=W9 B u;exact A7 (s:=.sl s) z h ⟨(λ⟨_,o⟩=>(by cases o)),(λo=>(by cases o))⟩ (λ_=>rfl)
theorem zaD{W:World}{r:Go.Reach}{b n:Nat}{t:TypeId}{k:IntKind}{v:Value}{d:DataW H}{ps:List MemPlace}(z:Pc P n t (.int k)=Q3)(B:P.underlying t=Q1 (.int k))(u:Value.okWide P W r b t v)
  (h:DataW.Trod enc P W 0 (λ_=>Q3) Q3 t v d ps):∃x:Int,Rv W U0 iV (.int k x) v:=by
 obtain⟨m,rfl⟩:=zik B u;exact A7 (s:=.int k) z h ⟨(λ⟨_,o⟩=>(by cases o)),(λo=>(by cases o))⟩ (λ_=>rfl)
theorem Ny{D:Nat->AV}{k:FuncId}{F:zZ}(E:pn P D k F){W:World}{jB:List AV}{args:Array Value}(u:tr D W U0)(I:dA W U0 iV jB args.toList)(J:(F jB (λ_=>.dead) 0).val=Q1 {val:=.bool Q3})(z:AV.idsL jB=[]):
  Calls P k args W λe C=>e=.returned (.bool Q3)/\mv W C/\∀b,b<W.heap.size->C.heap[b]?=W.heap[b]?:=by
 have:=(E.calls W U0 iV (λ_=>.dead) 0 jB args.toList _ [] J I (λ_ h=>h.elim) u ⟨sw,sw⟩ (by rw[z];simp) sw sw).1;rw[show args.toList.toArray=args by simp]at this;refine this.mono ?_;rintro e L ⟨v,U,M,rfl,o⟩;have B:=o.val;cases B;exact⟨rfl,o.ext,λb G=>o.same b G sw⟩
end
open Go Go.Proofs Go.RowKit Go.ChangeShapes Go.WideShapes Go.ChangeAt Go.Proofs.YtjfdpfapcmcncaaGreatDoor
theorem LP{P:Program}{w:World}:∀{l:List (String×DataW Unit)}{ps:List MemPlace},DataW.LaidVars P w l ps->∀n d,(n,d)∈l->
  ∃g t cs o p,P.globalNamed n=Q1 g/\(P.globals[g]?).map (·.type)=Q1 t/\w.var? P n=Q1 cs/\DataW.trod (λ_=>()) P w 0 (λ_=>Q3) Q4 o t cs.toList=Q1 (d,p)
 |[],_,_,_,_,h=>by simp at h
 | (n0,F)::r,ps,h,n,d,u=>by
  obtain⟨g,t,cs,o,p,q,z,B,C,D,E,_⟩:=h;rcases bL.1 u with e|u
  ·cases e;exact⟨g,t,cs,o,p,z,B,C,D⟩
  ·exact LP E n d u
theorem II{P:Program}{l:List (String×DataW Unit)}{w:World}(u:(l.filter λx=>x.2.handleName?.isSome).isEmpty=Q3)(h:laidMetH P l w):laidMet P l w:=by
 unfold laidMetH at h;split at h
 ·exact h
 ·rename_i a b o;rw[o]at u;simp at u
theorem qP{H:Type}{enc:TypeId×Value->H}{P:Program}{w:World}{u:Nat}{D:Nat->Bool}{z:Bool}{o:Nat}{t:TypeId}(C:P.underlying t=Q1 .string){cs:List Value}{b:List UInt8}{p:List MemPlace}
  (h:DataW.trod enc P w u D z o t cs=Q1 (.lit (.string b),p)):cs=[.string ⟨b.toArray⟩]:=by
 cases o with
 |zero=>simp[DataW.trod]at h
 | succ o=>
  unfold DataW.trod at h;rw[C]at h;split at h
  all_goals first
   |(rename_i B;cases B;done)
   |(rename_i B _;cases B;done)
   |(simp at h;done)
   |skip
  rename_i s B;split at h
  ·simp only[bH,cF,DataW.lit.injEq,Lit.string.injEq]at h;rw[<-h.1]
  ·cases h
theorem Yn{H:Type}{enc:TypeId×Value->H}{P:Program}{w:World}{u:Nat}{E:Nat->Bool}{B:Bool}{o:Nat}{t:TypeId}(D:P.underlying t=Q1 (.int .u64)){cs:List Value}{z:Int}{p:List MemPlace}
  (h:DataW.trod enc P w u E B o t cs=Q1 (.lit (.int .u64 z),p)):cs=[.int .u64 z]:=by
 cases o with
 |zero=>simp[DataW.trod]at h
 | succ o=>
  unfold DataW.trod at h;rw[D]at h;split at h
  all_goals first
   |(rename_i C;cases C;done)
   |(rename_i C _;cases C;done)
   |(simp at h;done)
   |skip
  all_goals(try split at h)
  all_goals first
   |(cases h;done)
   |(simp at h;done)
   |skip
  all_goals simp_all
theorem Gb{W:World}{l:List (String×DataW Unit)}(h:laidMet Tryz.prog l W){u:String}{g:Nat}{t e:TypeId}{len:Nat}{L:List (DataW Unit)}(hm:(u,DataW.agg L)∈l)
  (S:Tryz.prog.globalNamed u=Q1 g) (ht:(Tryz.prog.globals[g]?).map (·.type)=Q1 t) (hu:Tryz.prog.underlying t=Q1 (.array len e)) (Y:Tryz.prog.cellsOf e=1):
  ∃cs T B,W.heap[g]?=Q1 (.cells cs T B)/\∀(j:Nat) d,L[j]?=Q1 d->∃o p,DataW.trod (λ_=>()) Tryz.prog W 0 (λ_=>Q3) Q4 o e ((cs.toList.drop j).take 1)=Q1 (d,p):=by
 obtain⟨ps,X,_,_⟩:=h;obtain⟨g',t',cs,o,p,M,O,C,z⟩:=LP X u _ hm;rw[S]at M;cases M;rw[ht]at O;cases O;have G:∃T B,W.heap[g]?=Q1 (.cells cs T B):=by
  unfold World.var? at C;rw[S]at C;simp only[Option.bind_some]at C;split at C
  ·rename_i c T B Z;cases C;exact⟨T,B,Z⟩
  ·cases C
 obtain⟨T,B,D⟩:=G;refine⟨cs,T,B,D,?_⟩;cases o with
 |zero=>simp[DataW.trod]at z
 | succ o=>
  unfold DataW.trod at z;rw[hu]at z;simp only at z;split at z
  ·rw[eB]at z;obtain⟨xs,J,U⟩:=z;simp only[cF,DataW.agg.injEq]at U;obtain⟨hl,I⟩:=DE J;intro j d E;rw[<-U.1,eL,eB]at E;obtain⟨⟨d',p'⟩,E,rfl⟩:=E;have F:j<Io xs:=(dn.1 E).1;have hr:(List.range len)[j]?=Q1 j:=by
    rw[yW];rw[hl,List.length_range]at F;exact F
   have:=I j j hr;rw[E,Y,Nat.mul_one]at this;exact⟨o,p',this⟩
  ·cases z
theorem Re{cs:Array Value}{j:Nat}{v:Value}(h:(cs.toList.drop j).take 1=[v]):cs[j]?=Q1 v:=by
 have:=congrArg (·[0]?) h;simp only[List.getElem?_take,F4]at this;simpa using this
theorem gl0{W:World}{l:List (String×DataW Unit)}(h:laidMet Tryz.prog l W)(I:("caddis/stmt.types",Rows.laid_caddis_stmt_types)∈l):Rv W U0 iV (.eptr [.str [73,78,84],.str [84,69,88,84],.str [66,79,79,76]] 0) (.pointer (Q1 ⟨1,0,none⟩)):=by
 obtain⟨cs,T,L,G,B⟩:=Gb h (g:=1) (t:=315) (e:=9) (len:=3) I kw kw kw kw;have z:Tryz.prog.underlying 9=Q1 .string:=by kernel_rfl
 have o:∀j,W.cell? ⟨1,j,none⟩=cs[j]?:=by
  intro j;unfold World.cell?;rw[G];rfl
 obtain⟨_,_,D⟩:=B 0 _ rfl;obtain⟨_,_,E⟩:=B 1 _ rfl;obtain⟨_,_,F⟩:=B 2 _ rfl;have w0:=Re (qP z D);have w1:=Re (qP z E);have J:=Re (qP z F);refine .eptr [.str [73,78,84],.str [84,69,88,84],.str [66,79,79,76]] 0 1 0 (λj=>match j with
  |0=>.string ⟨#[73,78,84]⟩
  |1=>.string ⟨#[84,69,88,84]⟩
  |_=>.string ⟨#[66,79,79,76]⟩) (nV (by rw[o];exact w0)) (λh=>h) ?_ ?_ ?_
 ·intro j C
  match j,C with
  |0,_=>rw[o];exact w0
  |1,_=>rw[o];exact w1
  |2,_=>rw[o];exact J
 ·intro j C
  match j,C with
  |0,_=>rfl
  |1,_=>rfl
  |2,_=>rfl
 ·intro j c u
  match j,u with
  |0,u=>simp at u;subst u;exact .str [73,78,84] (by simp[aG])
  |1,u=>simp at u;subst u;exact .str [84,69,88,84] (by simp[aG])
  |2,u=>simp at u;subst u;exact .str [66,79,79,76] (by simp[aG])
  |j+3,u=>simp at u
set_option maxRecDepth 100000 in
theorem gl2{W:World}(h:W.ShapedOpen Tryz.prog):Rv W U0 iV .gint (.pointer (Q1 ⟨0,0,none⟩)):=by
 have E:((begin Tryz.prog (λ_ _=>0) default).world.heap[0]?).bind Obj.row?=Q1 (#[.int .i64 0],3):=by kernel_rfl
 obtain⟨cs,I,O,M⟩:=h.1 0 _ _ (lZ kw) E;obtain⟨X,B,_,z⟩:=M kw;have G:Tryz.prog.cellTypes Tryz.prog.depth 3=Q1 [3]:=by kernel_rfl
 rw[G]at B;cases B;have F:cs.size=1:=O;obtain⟨u,S,o⟩:=z 0 cs[0] sw;have:u=3:=by simpa using S.symm
 subst this;have J:Tryz.prog.underlying 3=Q1 (.int .i64):=by kernel_rfl
 unfold Cell.ok at o;rw[J]at o;have C:cs=#[cs[0]]:=by
  apply Array.ext
  ·simp[F]
  ·intro i T U;have:i=0:=by omega
   subst this;rfl
 cases D:cs[0]<;>rw[D]at o<;>simp at o
 rename_i k n;obtain⟨rfl,L⟩:=o;refine .gint n 0 3 (0,0) L ?_ (λh=>h);rw[I,C,D]
theorem gl5{W:World}{l:List (String×DataW Unit)}(h:laidMet Tryz.prog l W)(Y:W.ShapedOpen Tryz.prog)(X:("internal/strconv.uint64pow10",Rows.laid_internal_strconv_uint64pow10)∈l):Rv W U0 iV (.tab .u64 mB) (.pointer (Q1 ⟨5,0,none⟩)):=by
 obtain⟨cs,T,J,G,S⟩:=Gb h (g:=5) (t:=370) (e:=240) (len:=20) X kw kw kw kw;have Z:Tryz.prog.underlying 240=Q1 (.int .u64):=by kernel_rfl
 have L:((begin Tryz.prog (λ_ _=>0) default).world.heap[5]?).bind Obj.row?=Q1 (Array.replicate 20 (.int .u64 0),370):=by kernel_rfl
 obtain⟨u,D,E,_⟩:=Y.1 5 _ _ (lZ kw) L;rw[G]at D;have B:cs=u:=by simp only[bH,Obj.cells.injEq]at D;exact D.1
 have o:cs.size=20:=by rw[B,E];simp
 have F:cs=(mB.map λz=>Value.int .u64 z).toArray:=by
  apply Array.ext
  ·rw[o];rfl
  ·intro i M O;have C:∀(j:Nat) z,mB[j]?=Q1 z->cs[j]?=Q1 (.int .u64 z):=by
    intro j z hz;obtain⟨_,_,g⟩:=S j (.lit (.int .u64 z)) (by
     have:(match(Rows.laid_internal_strconv_uint64pow10:DataW Unit)with|.agg l=>l|_=>[])=mB.map λz=>DataW.lit (.int .u64 z):=by kernel_rfl
     have I:(match(Rows.laid_internal_strconv_uint64pow10:DataW Unit)with|.agg l=>l|_=>[])[j]?=Q1 (.lit (.int .u64 z)):=by
      rw[this,eL,hz];rfl
     exact I)
    exact Re (Yn Z g)
   have U:i<Io mB:=by simpa using O
   have:=C i mB[i] (zU U);rw[tB M,bH]at this;rw[this,List.getElem_toArray,List.getElem_map]
 exact .tab .u64 mB 5 T J (by rw[G,F]) (λh=>h)
theorem Wv:laidOutB Tryz.prog=Q3:=kw
def xY(P:Program)(t:TypeId):Bool:=match P.underlying t with
 |some (.struct _)=>Q3
 |_=>Q4
theorem IE{P:Program}{t:TypeId}(h:xY P t=Q3):∃o,P.underlying t=Q1 (.struct o):=by
 unfold xY at h;split at h
 ·exact⟨_,‹_›⟩
 ·cases h
theorem un4:Tryz.prog.underlying 4=Q1 .bool:=kw
theorem zpO{H:Type}{enc:TypeId×Value->H}{W B:World}(o:∀b,b<W.heap.size->B.heap[b]?=W.heap[b]?){t:TypeId}{v:Value}{d:DataW H}{ps:List MemPlace}(E:Tryz.prog.readableRec t=Q3)(u:t<Tryz.prog.types.size)
  (h:DataW.Trod enc Tryz.prog W 0 (λ_=>Q3) Q3 t v d ps) (z:∀p∈ps,p.block<W.heap.size) {D:Nat->Bool} (F:∀p∈ps,D p.block=Q3):DataW.Trod enc Tryz.prog B 0 D Q3 t v d ps:=
 WideElems.Trod_stays Wv E u h (λp hp=>by
  have C:=o p.block (z p hp);cases p with
  |cell b G=>exact World.cell?_of_block C
  |map b=>exact C) F
theorem zaA{W:World}{l:List (String×DataW Unit)}(h:laidMet Tryz.prog l W)(o:W.ShapedOpen Tryz.prog)(u:("caddis/stmt.types",Rows.laid_caddis_stmt_types)∈l)(z:("internal/strconv.uint64pow10",Rows.laid_internal_strconv_uint64pow10)∈l):tr Dq W U0:=by
 intro g
 match g with
 |0=>exact gl2 o
 |1=>exact gl0 h u
 |2=>exact .any _
 |3=>exact .any _
 |4=>exact .any _
 |5=>exact gl5 h o z
 |g+6=>exact .any _
theorem SW{P:Program}{W:World}{r:Go.Reach}{b:Nat}{t:TypeId}{v:Value}(o:P.underlying t=Q1 .string)(h:Value.okWide P W r b t v):∃n,v=.string n:=by
 unfold Value.okWide at h;rw[o]at h;simp only at h;unfold Cell.okWide at h;rw[o]at h;unfold Cell.ok at h;rw[o]at h;cases v<;>simp at h
 exact⟨_,rfl⟩
structure AN (t:TypeId) (s:Sh):Prop where
 got:∀{H:Type}{enc:TypeId×Value->H}{W:World}{r:Go.Reach}{b:Nat}{v:Value}{d:DataW H}{ps:List MemPlace},Value.okWide Tryz.prog W r b t v->DataW.Trod enc Tryz.prog W 0 (λ_=>Q3) Q3 t v d ps->∃x:Sem s,Rv W U0 iV (zC s x) v
 rd:Tryz.prog.readableRec t=Q3
 row:t<Tryz.prog.types.size
set_option maxRecDepth 100000 in
theorem AN.struct{t:TypeId}{s:Sh}{n:Nat}(u:Pc Tryz.prog n t s=Q3)(B:s.isAgg=Q3)(C:xY Tryz.prog t=Q3)(E:Tryz.prog.readableRec t=Q3)(z:t<Tryz.prog.types.size):AN t s where
 got:=λo h=>by
  obtain⟨F,D⟩:=IE C;exact N5 u B D o h
 rd:=E
 row:=z
set_option maxRecDepth 100000 in
theorem AN.slice{t e:TypeId}{s:Sh}{n:Nat}(u:Pc Tryz.prog n t (.sl s)=Q3)(B:Tryz.prog.underlying t=Q1 (.slice e))(C:Tryz.prog.readableRec t=Q3)(z:t<Tryz.prog.types.size):AN t (.sl s) where
 got:=λo h=>Sz u B o h
 rd:=C
 row:=z
set_option maxRecDepth 100000 in
theorem AN.int{t:TypeId}{k:IntKind}{n:Nat}(u:Pc Tryz.prog n t (.int k)=Q3)(z:Tryz.prog.underlying t=Q1 (.int k))(B:Tryz.prog.readableRec t=Q3)(row:t<Tryz.prog.types.size):AN t (.int k) where
 got:=λo h=>zaD u z o h
 rd:=B
 row:=row
set_option maxRecDepth 100000 in
theorem AN.str{t:TypeId}{n:Nat}(z:Pc Tryz.prog n t .str=Q3)(C:Tryz.prog.underlying t=Q1 .string)(D:Tryz.prog.readableRec t=Q3)(B:t<Tryz.prog.types.size):AN t .str where
 got:=λu h=>by
  obtain⟨m,rfl⟩:=SW C u;exact A7 (s:=.str) z h ⟨(λ⟨_,o⟩=>(by cases o)),(λo=>(by cases o))⟩ (λ_=>rfl)
 rd:=D
 row:=B
inductive Nn:List TypeId->List Sh->Prop
 |nil:Nn [] []
 |cons {t:TypeId} {s:Sh} {ts:List TypeId} {ss:List Sh} (h:AN t s) (r:Nn ts ss):Nn (t::ts) (s::ss)
set_option maxRecDepth 100000 in
theorem Nn.got{D:List TypeId}{C:List Sh}(h:Nn D C):∀{H:Type}{enc:TypeId×Value->H}{W:World}{base:Nat}{vs:List Value}{B:List (DataW H)}{ps:List MemPlace},
  (∀(j:Nat) t v,D[j]?=Q1 t->vs[j]?=Q1 v->Value.okWide Tryz.prog W .any base t v)->DataW.TrodAll enc Tryz.prog W 0 (λ_=>Q3) Q3 D vs B ps->
  B.length=Io D/\(∃x:zz (C.map Q1),dA W U0 iV (jB (C.map Q1) x) vs)/\
  ∀J,(∀b,b<W.heap.size->J.heap[b]?=W.heap[b]?)->(∀p∈ps,p.block<W.heap.size)->∀L:Nat->Bool,(∀p∈ps,L p.block=Q3)->DataW.TrodAll enc Tryz.prog J 0 L Q3 D vs B ps:=by
 induction h with
 | nil=>
  intro H enc W base vs B ps _ M;obtain⟨rfl,rfl,rfl⟩:=trodAll_nil M;exact⟨rfl,⟨(),rfl,λj c v u=>by
   have X:([]:List AV)[j]?=Q1 c:=u;simp at X⟩,λ_ _ _ _ _=>trodAll_mk0⟩
 | @cons t s D C h r U=>
  intro H enc W base vs B ps F M;obtain⟨v,vs,d,B,p,q,rfl,rfl,rfl,S,z⟩:=trodAll_cons M;obtain⟨x,hx⟩:=h.got (F 0 t v rfl rfl) S;obtain⟨Z,⟨y,T⟩,Y⟩:=U (λj t v ht I=>F (j+1) t v ht I) z;refine⟨by simp[Z],⟨(x,y),by show(zC s x::jB (C.map Q1) y).length=_;simp[T.len],λj c v' u I=>?_⟩,λJ o E L G=>?_⟩
  ·have u:(zC s x::jB (C.map Q1) y)[j]?=Q1 c:=u;cases j with
   | zero=>
    simp only[List.getElem?_cons_zero,bH]at u I;subst u;subst I;exact hx
   |succ j=>exact T.rv j c v' u I
  ·exact trodAll_cons_mk (zpO o h.rd h.row S (λp hp=>E p (by simp[hp])) (λp hp=>G p (by simp[hp]))) (Y J o (λp hp=>E p (by simp[hp])) L (λp hp=>G p (by simp[hp])))
theorem Pz:∀(o:List Sh)(x:zz (o.map Q1)),AV.idsL (jB (o.map Q1) x)=[]
 |[],_=>rfl
 | s::o,x=>by
  show(zC s x.1).ids++AV.idsL (jB (o.map Q1) x.2)=[];rw[Pz o x.2,o8];unfold zC;have B:∀l:List AV,(∀c∈l,c.ids=[])->AV.idsL l=[]:=by
   intro l
   induction l with
   |nil=>intro _;rfl
   |cons c l E=>intro h;simp only[AV.idsL,h c sw,E λc u=>h c (by simp[u]),o8]
  have z:∀c∈zu s x.1,c.ids=[]:=λc u=>by
   obtain⟨j,D,rfl⟩:=fz u;exact me s x.1 j _ (zU D)
  cases s.isAgg with
  |true=>exact B _ z
  | false=>
   cases C:zu s x.1 with
   |nil=>rfl
   |cons c l=>exact z c (by rw[C];simp)
set_option maxRecDepth 100000 in
theorem R6{k:FuncId}{f:Func}{s:ChangeSpec}{F:zZ}{Z:List TypeId}{L:List Sh}(hF:pn Tryz.prog Dq k F)(o:f.params=Z.toArray)(hp:Nn Z L)(I:f.resultTypes=#[4])(z:s.vars=[])
  (S:∀(H:Type)(C:List (DataW H)),Io C=Io Z->s.fn H C={results:=[.lit (.bool Q3)],args:=C})
  {H:Type} {enc:TypeId×Value->H} {W:World} {D:Nat} {args:Array Value} {C gs:List (DataW H)} {B:List MemPlace}
  (Y:∀x:zz (L.map Q1),dA W U0 iV (jB (L.map Q1) x) args.toList->(F (jB (L.map Q1) x) (λ_=>.dead) 0).val=Q1 {val:=.bool Q3})
  (J:∀(j:Nat) t v,f.params[j]?=Q1 t->args[j]?=Q1 v->Value.okWide Tryz.prog W .any D t v)
  (hW:DataW.Whole enc Tryz.prog f.params.toList s.vars Q4 W args.toList C gs B) (T:tr Dq W U0):
  Calls Tryz.prog k args W λe M=>∃v,e=.returned v/\s.post enc Tryz.prog f Q4 Q3 Q4 Q4 W args v M:=by
 have G:=hW;obtain⟨p,q,O,hV,rfl,h0,h1⟩:=hW;have hA:DataW.TrodAll enc Tryz.prog W 0 (λ_=>Q3) Q3 f.params.toList args.toList C p:=O;rw[o]at hA;rw[z]at hV;obtain⟨rfl,rfl⟩:=trodVars_none hV;have U:=G.lt;obtain⟨hl,⟨x,hx⟩,hk⟩:=hp.got (base:=D) (λj t v ht Y=>J j t v (by rw[o];simpa using ht) (by simpa using Y)) hA;have hc:=Ny hF (args:=args) T hx (Y x hx) (Pz L x);refine hc.mono λe' M ⟨he,h,u⟩=>?_
 subst he;have E:s.fn H (C++[])={results:=[.lit (.bool Q3)],args:=C}:=by rw[o8];exact S H C hl
 refine⟨_,rfl,Mc (pa:=p) (pv:=[]) G (λ_ _ _=>?_) (λsp X=>?_) (λ_ _=>?_) sw (IF h.os h.out u _) h.fr (ok_one I rfl (okWide_bool_mk un4 _))⟩
 ·rw[E,I];exact trodAll_cons_mk (shut_bool un4 _) trodAll_mk0
 ·rw[E,o];exact hk M u (λp hp=>U p (by simpa using hp)) sp (λp hp=>X p (by simpa using hp))
 ·rw[E,z];rfl
end Cad
