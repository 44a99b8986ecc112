/- The document's cutting of a text. -/
import Derived.Test.YtjfdpfapcmcncaaGreatDoorR20
namespace Cad
open Go Go.Proofs
open List renaming length→Io,drop→Qh,take→Qg
open IntKind renaming wrap→Γ,i64→Δ
open Tr renaming val→Q8
open Bool renaming false→Q4,true→Q3
open Option renaming some→Q1
open Decidable renaming decide→Q0
open List (getD)
open Tr (chk br re)
open AV (nils agg tup ptr kb str sl)
set_option maxHeartbeats 4000000
abbrev tw:=Option (List (Sem zp))
abbrev oL(o:tw):List (Sem zp):=o.getD []
abbrev TF(s:zD)(i:Int):tw->eA
 |none=>.h3 s i
 |some l=>.h3b s i l
abbrev Vy(s:zD)(i c f:Int)(z:zl [CP.d zp]):tw->eA
 |none=>.h11 s i c f z
 |some l=>.h11b s i c f z l
abbrev Vz(s:zD)(i c f:Int)(z:zl [CP.d zp]):tw->eA
 |none=>.h15 s i c f z
 |some l=>.h15b s i c f z l
abbrev N6(s:zD)(i:Int)(z:zl [CP.d zp]):tw->eA
 |none=>.h20 s i z
 |some l=>.h20b s i z l
abbrev rNo:aw:=(.tup [.nils,.kb Q4],[])
def T2(r:aw)(b:Bool):Prop:=∃l,aI r.2 [Sh.sl zp,Sh.bool] r.1=Q1 (l,b,())
theorem XX:T2 rNo Q4:=⟨[],rfl⟩
def Np(s:zD)(j:Nat)(t:Sem cg)(o:tw):eA⊕aw:=if cq t=Q3 then .inl (TF s (j:Int) (Q1 (oL o++[t])))else .inr rNo
theorem jY(s:zD){j:Nat}(h:j<Io s):Qg (((j+1:Nat):Int).toNat-(j:Int).toNat) (Qh (j:Int).toNat s)=[s[j]]:=by
 rw[aD,aD,show j+1-j=1 by omega,fj h];rfl
theorem v20{s:zD}{j:Nat}{acc:zD}(Z:Io s<=1000000)(u:j<Io s)(U:Io acc<=1000000):∀{o:tw},(oL o).length<=1000000->(cZ (N6 s (j:Int) ((3,acc),()) o)).val=Q1 (
  if s[j]≠39 then .inl (N6 s ((j+1:Nat):Int) ((3,acc++[s[j]]),()) o)
  else if s[j+1]?=Q1 39 then .inl (N6 s ((j+2:Nat):Int) ((3,acc++[39]),()) o)
  else Np s (j+1) (3,acc) o):=by
 intro o X;have w1:Γ Δ ((j:Int)+1)=((j+1:Nat):Int):=zr j um;have E:Γ Δ (((j+1:Nat):Int)+1)=((j+2:Nat):Int):=zr (j+1) um;have H:(Q0 (0<=(j:Int))&&Q0 ((j:Int)<=((j+1:Nat):Int))&&Q0 (((j+1:Nat):Int)<=(↑(Io s):Int)))=Q3:=by simp;omega
 have Y:Q0 ((↑(Io s):Int)<=(j:Int))=Q4:=aq ow;have S:Q0 ((j:Int)>=(↑(Io s):Int))=Q4:=aq ow;have T:mo ((3,acc):Sem zp)=cq ((3,acc):Sem cg):=BN (t:=((3,acc):Sem cg)) U;have F:iL ((3,acc):Sem zp)=Q3:=wl (t:=((3,acc):Sem cg)) U;have I:(Io acc+[s[j]].length<=1099511627776):=by simp;omega
 by_cases B:s[j]=39
 ·have C:((↑s[j].toNat:Int)!=39)=Q4:=by simp[bne,sI.2 B]
  have D:((↑s[j].toNat:Int)==39)=Q3:=sI.2 B;by_cases G:s[j+1]?=Q1 39
  ·obtain⟨z,W⟩:=dn.1 G;have L:((↑s[j+1].toNat:Int)==39)=Q3:=sI.2 W;have M:Q0 (((j+1:Nat):Int)<(↑(Io s):Int))=Q3:=zx ow;rw[if_neg (by simpa using B),if_pos G];cases o with
   | none=>
    show(cZ (.h20 _ _ _)).val=_;simp only[cZ,w1,E,cm s u,jY s u,zF u,zt u,zt z,M,C,D,L,cm s z,Q8,af,ao,dV,if_true,H,zx I];rw[B]
   | some l=>
    show(cZ (.h20b _ _ _ _)).val=_;simp only[cZ,w1,E,cm s u,jY s u,zF u,zt u,zt z,M,C,D,L,cm s z,Q8,af,ao,dV,if_true,H,zx I];rw[B]
  ·rw[if_neg (by simpa using B),if_neg G];have e:(cond (Q0 (((j+1:Nat):Int)<(↑(Io s):Int))) ((↑(getD s ((j+1:Nat):Int).toNat 0).toNat:Int)==39) Q4)=Q4:=by
    by_cases z:j+1<Io s
    ·rw[zx ow,cm s z];simp only[af];rw[<-g8,sI];intro h;exact G (dn.2 ⟨z,h⟩)
    ·rw[aq ow];rfl
   have O:(cond (Q0 (((j+1:Nat):Int)<(↑(Io s):Int))) (zJ ((j+1:Nat):Int) (Io s)) Q3)=Q3:=by
    by_cases z:j+1<Io s
    ·rw[zt z];cases Q0 (((j+1:Nat):Int)<(↑(Io s):Int))<;>rfl
    ·rw[aq ow];rfl
   unfold Np;cases o with
   | none=>
    show(cZ (.h20 _ _ _)).val=_;simp only[cZ,w1,E,cm s u,jY s u,zF u,zt u,C,D,e,O,Q8,af,ao,dV,if_true,zA,if_false,S,F,T];by_cases m:cq ((3,acc):Sem cg)=Q3
    ·simp[m]
    ·simp[m]
   | some l=>
    have J:(Io l+[((3,acc):Sem zp)].length<=1073741824):=by have:Io l<=1000000:=X;simp;omega
    show(cZ (.h20b _ _ _ _)).val=_;simp only[cZ,w1,E,cm s u,jY s u,zF u,zt u,C,D,e,O,Q8,af,ao,dV,if_true,zA,if_false,S,F,T,zx J];by_cases m:cq ((3,acc):Sem cg)=Q3
    ·simp[m]
    ·simp[m]
 ·have C:((↑s[j].toNat:Int)!=39)=Q3:=by simp only[bne,sT];rw[<-g8,sI];exact B
  have D:((↑s[j].toNat:Int)==39)=Q4:=by rw[<-g8,sI];exact B
  rw[if_pos B];cases o with
  | none=>
   show(cZ (.h20 _ _ _)).val=_;simp only[cZ,w1,E,cm s u,jY s u,zF u,zt u,C,D,Q8,af,dV,if_true,zA,if_false,H,zx I]
  | some l=>
   show(cZ (.h20b _ _ _ _)).val=_;simp only[cZ,w1,E,cm s u,jY s u,zF u,zt u,C,D,Q8,af,dV,if_true,zA,if_false,H,zx I]
theorem zsP{s:zD}{acc:zD}:∀{o:tw},(cZ (N6 s (Io s:Int) ((3,acc),()) o)).val=Q1 (.inr rNo):=by
 intro o;have h:Q0 ((↑(Io s):Int)>=(↑(Io s):Int))=Q3:=zx (Int.le_refl _);cases o with
 | none=>
  show(cZ (.h20 _ _ _)).val=_;simp only[cZ,zB,Q8,ao,if_true,zA,if_false,h]
 | some l=>
  show(cZ (.h20b _ _ _ _)).val=_;simp only[cZ,zB,Q8,ao,if_true,zA,if_false,h]
theorem l20{s:zD}{o:tw}(I:Io s<=1000000)(J:(oL o).length<=1000000):∀(n j:Nat)(acc:zD),Io s-j<=n->j<=Io s->Io acc<=j->
  (fe (s.drop j)=none->zV cZ (n+1) (N6 s (j:Int) ((3,acc),()) o) rNo)/\
  (∀t k,fe (s.drop j)=Q1 (t,k)->∀K r,(match Np s (j+k) (3,acc++t) o with|.inl h=>zV cZ K h r|.inr S=>S=r)->zV cZ (K+k) (N6 s (j:Int) ((3,acc),()) o) r)
 | n, j,acc,X,W,U=>by
  by_cases E:j<Io s
  ·have u:=v20 (o:=o) (acc:=acc) I E ow J;rw[fj E];by_cases C:s[j]=39
   ·rw[if_neg (by simpa using C)]at u;by_cases F:s[j+1]?=Q1 39
    ·rw[if_pos F]at u;obtain⟨H,T⟩:=dn.1 F;obtain⟨n,rfl⟩:∃m,n=m+1:=⟨n-1,ow⟩;obtain⟨L,M⟩:=l20 I J n (j+2) (acc++[39]) ow ow sg;rw[fj H,C,T,MT,show j+1+1=j+2 from rfl];refine⟨λh=>?_,λt k h K r z=>?_⟩
     ·rw[Option.map_eq_none_iff]at h;exact((zL.of u).ends (L h))
     ·rw[eB]at h;obtain⟨⟨O,B⟩,G,D⟩:=h;simp only[cF]at D;obtain⟨rfl,rfl⟩:=D;have:=M O B G K r (by rw[uI];rw[show j+2+B=j+(B+2) by omega];exact z);exact((zL.of u).ends this).mono ow
    ·rw[if_neg F]at u;rw[C,ER _ (by rw[List.head?_drop];exact F)];refine⟨λh=>(by cases h),λt k h K r z=>?_⟩;simp only[bH,cF]at h;obtain⟨rfl,rfl⟩:=h;rw[o8]at z;revert u z;cases Np s (j+1) (3,acc) o with
     |inl h=>intro u z;exact(zL.of u).ends z
     |inr S=>intro u z;cases z;exact(zV.of u).mono ow
   ·rw[if_pos C]at u;obtain⟨n,rfl⟩:∃m,n=m+1:=⟨n-1,ow⟩;obtain⟨L,M⟩:=l20 I J n (j+1) (acc++[s[j]]) ow ow sg;rw[HO C];refine⟨λh=>?_,λt k h K r z=>?_⟩
    ·rw[Option.map_eq_none_iff]at h;exact((zL.of u).ends (L h))
    ·rw[eB]at h;obtain⟨⟨O,B⟩,G,D⟩:=h;simp only[cF]at D;obtain⟨rfl,rfl⟩:=D;have:=M O B G K r (by rw[uI];rw[show j+1+B=j+(B+1) by omega];exact z);exact((zL.of u).ends this).mono ow
  ·obtain rfl:j=Io s:=by omega
   rw[jK];exact⟨λ_=>(zV.of zsP).mono ow,λt k h=>(by simp[fe]at h)⟩
theorem zsM{s:zD}{j:Nat}{c f:Int}{z:zl [CP.d zp]}(u:Io s<=1000000)(h:j<Io s)(hp:bz s[j].toNat=Q3):∀{o:tw},(cZ (Vy s (j:Int) c f z o)).val=Q1 (.inl (Vy s ((j+1:Nat):Int) c f z o)):=by
 intro o;have w1:Γ Δ ((j:Int)+1)=((j+1:Nat):Int):=zr j um;cases o with
 | none=>
  show(cZ (.h11 _ _ _ _ _)).val=_;simp only[cZ,cm s h,zF h,zt h,sa,wq,hp,w1,Q8,af,sU,if_true]
 | some l=>
  show(cZ (.h11b _ _ _ _ _ _)).val=_;simp only[cZ,cm s h,zF h,zt h,sa,wq,hp,w1,Q8,af,sU,if_true]
theorem zsL{s:zD}{j f:Nat}{c:UInt8}{z:zl [CP.d zp]}(S:Io s<=1000000)(O:j<=Io s)(M:f<=j)(hp:∀h:j<Io s,bz s[j].toNat=Q4)(H:zY c.toNat=Q4)(J:c≠39):
  ∀{o:tw},(oL o).length<=1000000->(cZ (Vy s (j:Int) (c.toNat:Int) (f:Int) z o)).val=Q1 (Np s j (1,Qg (j-f) (Qh f s)) o):=by
 intro o L;have E:(cond (Q0 ((j:Int)<(↑(Io s):Int))) (zJ (j:Int) (Io s)&&r9 (↑(getD s (j:Int).toNat 0).toNat:Int)) Q3)=Q3:=by
  by_cases h:j<Io s
  ·rw[zt h,sa];cases Q0 ((j:Int)<(↑(Io s):Int))<;>rfl
  ·rw[aq ow];rfl
 have F:(cond (Q0 ((j:Int)<(↑(Io s):Int))) (yD (↑(getD s (j:Int).toNat 0).toNat:Int)) Q4)=Q4:=by
  by_cases h:j<Io s
  ·rw[cm s h,wq,hp h];cases Q0 ((j:Int)<(↑(Io s):Int))<;>rfl
  ·rw[aq ow];rfl
 have G:(Q0 (0<=(f:Int))&&Q0 ((f:Int)<=(j:Int))&&Q0 ((j:Int)<=(↑(Io s):Int)))=Q3:=by simp;omega
 have D:((c.toNat:Int)==39)=Q4:=by rw[<-g8,sI];exact J
 have u:(Qg (j-f) (Qh f s)).length<=1000000:=by simp;omega
 have I:mo ((1,Qg (j-f) (Qh f s)):Sem zp)=cq (1,Qg (j-f) (Qh f s)):=BN (t:=((1,Qg (j-f) (Qh f s)):Sem cg)) u;have B:iL ((1,Qg (j-f) (Qh f s)):Sem zp)=Q3:=wl (t:=((1,Qg (j-f) (Qh f s)):Sem cg)) u;unfold Np;cases o with
 | none=>
  show(cZ (.h11 _ _ _ _ _)).val=_;simp only[cZ,E,F,G,eS,fZ,H,D,Q8,if_true,zA,if_false];simp only[aD,B,I,if_true];generalize Qg (j-f) (Qh f s)=T;by_cases m:cq (1,T)=Q3
  ·simp[m]
  ·simp[m]
 | some l=>
  have C:(Io l+[((1,Qg (j-f) (Qh f s)):Sem zp)].length<=1073741824):=by have:Io l<=1000000:=L;simp;omega
  show(cZ (.h11b _ _ _ _ _ _)).val=_;simp only[cZ,E,F,G,eS,fZ,H,D,Q8,if_true,zA,if_false];simp only[aD,B,I,zx C,if_true];generalize Qg (j-f) (Qh f s)=T;by_cases m:cq (1,T)=Q3
  ·simp[m]
  ·simp[m]
theorem zsO{s:zD}{j:Nat}{c f:Int}{z:zl [CP.d zp]}(u:Io s<=1000000)(h:j<Io s)(hp:zY s[j].toNat=Q3):∀{o:tw},(cZ (Vz s (j:Int) c f z o)).val=Q1 (.inl (Vz s ((j+1:Nat):Int) c f z o)):=by
 intro o;have w1:Γ Δ ((j:Int)+1)=((j+1:Nat):Int):=zr j um;cases o with
 | none=>
  show(cZ (.h15 _ _ _ _ _)).val=_;simp only[cZ,cm s h,zF h,zt h,eS,fZ,hp,w1,Q8,af,sU,if_true]
 | some l=>
  show(cZ (.h15b _ _ _ _ _ _)).val=_;simp only[cZ,cm s h,zF h,zt h,eS,fZ,hp,w1,Q8,af,sU,if_true]
theorem zsN{s:zD}{j f:Nat}{c:UInt8}{z:zl [CP.d zp]}(O:Io s<=1000000)(M:j<=Io s)(L:f<=j)(hp:∀h:j<Io s,zY s[j].toNat=Q4)(I:c≠39):
  ∀{o:tw},(oL o).length<=1000000->(cZ (Vz s (j:Int) (c.toNat:Int) (f:Int) z o)).val=Q1 (Np s j (2,Qg (j-f) (Qh f s)) o):=by
 intro o J;have E:(cond (Q0 ((j:Int)<(↑(Io s):Int))) (zJ (j:Int) (Io s)&&fP (↑(getD s (j:Int).toNat 0).toNat:Int)) Q3)=Q3:=by
  by_cases h:j<Io s
  ·rw[zt h,eS];cases Q0 ((j:Int)<(↑(Io s):Int))<;>rfl
  ·rw[aq ow];rfl
 have F:(cond (Q0 ((j:Int)<(↑(Io s):Int))) (gQ (↑(getD s (j:Int).toNat 0).toNat:Int)) Q4)=Q4:=by
  by_cases h:j<Io s
  ·rw[cm s h,fZ,hp h];cases Q0 ((j:Int)<(↑(Io s):Int))<;>rfl
  ·rw[aq ow];rfl
 have G:(Q0 (0<=(f:Int))&&Q0 ((f:Int)<=(j:Int))&&Q0 ((j:Int)<=(↑(Io s):Int)))=Q3:=by simp;omega
 have D:((c.toNat:Int)==39)=Q4:=by rw[<-g8,sI];exact I
 have u:(Qg (j-f) (Qh f s)).length<=1000000:=by simp;omega
 have H:mo ((2,Qg (j-f) (Qh f s)):Sem zp)=cq (2,Qg (j-f) (Qh f s)):=BN (t:=((2,Qg (j-f) (Qh f s)):Sem cg)) u;have B:iL ((2,Qg (j-f) (Qh f s)):Sem zp)=Q3:=wl (t:=((2,Qg (j-f) (Qh f s)):Sem cg)) u;unfold Np;cases o with
 | none=>
  show(cZ (.h15 _ _ _ _ _)).val=_;simp only[cZ,E,F,G,D,Q8,if_true,zA,if_false];simp only[aD,B,H,if_true];generalize Qg (j-f) (Qh f s)=T;by_cases m:cq (2,T)=Q3
  ·simp[m]
  ·simp[m]
 | some l=>
  have C:(Io l+[((2,Qg (j-f) (Qh f s)):Sem zp)].length<=1073741824):=by have:Io l<=1000000:=J;simp;omega
  show(cZ (.h15b _ _ _ _ _ _)).val=_;simp only[cZ,E,F,G,D,Q8,if_true,zA,if_false];simp only[aD,B,H,zx C,if_true];generalize Qg (j-f) (Qh f s)=T;by_cases m:cq (2,T)=Q3
  ·simp[m]
  ·simp[m]
theorem IJ{p:Int->Bool}{s:zD}(st:Nat->eA)(z:∀j(B:j<Io s),p s[j].toNat=Q3->(cZ (st j)).val=Q1 (.inl (st (j+1)))):∀(n j:Nat),Io s-j<=n->j<=Io s->
  zL cZ (cR p (s.drop j)) (st j) (st (j+cR p (s.drop j)))/\j+cR p (s.drop j)<=Io s/\∀h:j+cR p (s.drop j)<Io s,p s[j+cR p (s.drop j)].toNat=Q4
 | n,j,E,B=>by
  by_cases o:j<Io s
  ·by_cases hp:p s[j].toNat=Q3
   ·obtain⟨n,rfl⟩:∃m,n=m+1:=⟨n-1,ow⟩;have e:cR p (s.drop j)=cR p (s.drop (j+1))+1:=by rw[fj o,cR,if_pos hp]
    obtain⟨C,F,D⟩:=IJ st z n (j+1) ow ow;have u:j+cR p (s.drop j)=j+1+cR p (s.drop (j+1)):=by omega
    refine⟨?_,ow,?_⟩
    ·rw[u,e];exact((zL.of (z j o hp)).trans C).mono ow
    ·intro h;simp only[u]at h⊢;exact D h
   ·have e:cR p (s.drop j)=0:=by rw[fj o,cR,if_neg hp]
    rw[e];exact⟨zL.refl _,ow,λ_=>by simpa using hp⟩
  ·have e:cR p (s.drop j)=0:=by rw[Cg ow];rfl
   rw[e];exact⟨zL.refl _,ow,λh=>absurd h ow⟩
theorem v3{s:zD}{i:Nat}(G:Io s<=1000000)(h:i<Io s):∀{o:tw},(oL o).length<=1000000->∃z,(cZ (TF s (i:Int) o)).val=Q1 (
  if(cond ((s[i].toNat:Int)==32) Q3 ((s[i].toNat:Int)==10))=Q3 then .inl (TF s ((i+1:Nat):Int) o)
  else if aL s[i].toNat=Q3 then .inl (Vy s ((i+1:Nat):Int) s[i].toNat i z o)
  else if zY s[i].toNat=Q3 then .inl (Vz s ((i+1:Nat):Int) s[i].toNat i z o)
  else if s[i]=39 then .inl (N6 s ((i+1:Nat):Int) ((3,[]),()) o)
  else Np s (i+1) (4,[s[i]]) o):=by
 intro o F;refine⟨((4,[s[i]]),()),?_⟩;have w1:Γ Δ ((i:Int)+1)=((i+1:Nat):Int):=zr i um;have D:(Q0 (0<=(i:Int))&&Q0 ((i:Int)<=((i+1:Nat):Int))&&Q0 (((i+1:Nat):Int)<=(↑(Io s):Int)))=Q3:=by simp;omega
 have E:mo ((4,[s[i]]):Sem zp)=cq (4,[s[i]]):=BN (t:=((4,[s[i]]):Sem cg)) sw;have u:iL ((4,[s[i]]):Sem zp)=Q3:=wl (t:=((4,[s[i]]):Sem cg)) sw;have B:s[i]=39↔((s[i].toNat:Int)==39)=Q3:=sI.symm;unfold Np;simp only[B];cases o with
 | none=>
  show(cZ (.h3 _ _)).val=_;simp only[cZ,w1,cm s h,jY s h,zF h,zt h,D,mq,oQ,eS,fZ,Q8,if_true,u,E];repeat' split
  all_goals first|rfl|simp_all
 | some l=>
  have C:(Io l+[((4,[s[i]]):Sem zp)].length<=1073741824):=by have:Io l<=1000000:=F;simp;omega
  show(cZ (.h3b _ _ _)).val=_;simp only[cZ,w1,cm s h,jY s h,zF h,zt h,D,mq,oQ,eS,fZ,Q8,if_true,u,E,zx C];repeat' split
  all_goals first|rfl|simp_all
theorem SM{c:UInt8}(h:aL c.toNat=Q3):zY c.toNat=Q4/\c≠39:=by
 have o:aL ((39:UInt8).toNat:Int)=Q4:=rfl;constructor
 ·have u:(65:Int)<=(c.toNat:Int):=by
   by_cases k:(65:Int)<=(c.toNat:Int)
   ·exact k
   ·exfalso;have z:Q0 ((c.toNat:Int)>=97)=Q4:=aq ow;have B:Q0 ((c.toNat:Int)>=65)=Q4:=aq ow;unfold aL at h;rw[z,B]at h;cases h
  have C:Q0 ((c.toNat:Int)<=57)=Q4:=aq ow;unfold zY;rw[C];cases Q0 ((c.toNat:Int)>=48)<;>rfl
 ·rintro rfl;rw[o]at h;cases h
theorem UB{c:UInt8}(h:zY c.toNat=Q3):c≠39:=by
 have o:zY ((39:UInt8).toNat:Int)=Q4:=rfl;rintro rfl;rw[o]at h;cases h
theorem Es{s:zD}(F:Io s<=1000000):∀(n i:Nat)(o:tw),Io s+1<=n+i->i<=Io s->(oL o).length<=i->∃r,zV cZ (3*(Io s-i)+3) (TF s (i:Int) o) r/\T2 r (xq n (s.drop i) (oL o).length)
 |0,i,o,h1,h2,h3=>by omega
 | n + 1,i,o,h1,h2,h3=>by
  by_cases O:i<Io s
  ·obtain⟨z,C⟩:=v3 (o:=o) F O ow;rw[fj O,xq];have u:Qh i s=s[i]::Qh (i+1) s:=fj O;have next:∀(j:Nat)(t:Sem cg),i<j->j<=Io s->∃r,(match Np s j t o with|.inl h=>zV cZ (3*(Io s-j)+3) h r|.inr I=>I=r)/\T2 r (ite (cq t=Q3) (xq n (s.drop j) ((oL o).length+1)) Q4):=by
    intro j t h0 T;unfold Np;by_cases m:cq t=Q3
    ·rw[if_pos m,if_pos m];obtain⟨r,B,E⟩:=Es F n j (Q1 (oL o++[t])) ow T sg;refine⟨r,B,?_⟩;have:(oL (Q1 (oL o++[t]))).length=(oL o).length+1:=by simp
     rw[this]at E;exact E
    ·rw[if_neg m,if_neg m];exact⟨rNo,rfl,XX⟩
   by_cases X:(cond ((s[i].toNat:Int)==32) Q3 ((s[i].toNat:Int)==10))=Q3
   ·rw[if_pos X]at C⊢;obtain⟨r,B,E⟩:=Es F n (i+1) o ow ow ow;exact⟨r,((zL.of C).ends B).mono ow,E⟩
   ·rw[if_neg X]at C⊢;unfold qd;by_cases L:aL s[i].toNat=Q3
    ·rw[if_pos L]at C⊢;obtain⟨b1,J⟩:=SM L;obtain⟨G,H,W⟩:=IJ (p:=bz) (s:=s) (λj=>Vy s (j:Int) (s[i].toNat:Int) (i:Int) z o) (λj S hp=>zsM F S hp) (Io s) (i+1) ow ow;have D:=zsL (z:=z) (c:=s[i]) (f:=i) F H ow W b1 J (o:=o) ow;rw[show i+1+cR bz (Qh (i+1) s)-i=cR bz (Qh (i+1) s)+1 by omega,u]at D;obtain⟨r,B,E⟩:=next (i+1+cR bz (Qh (i+1) s)) (1,(s[i]::Qh (i+1) s).take (cR bz (Qh (i+1) s)+1)) ow H
     refine⟨r,?_,?_⟩
     ·revert D B;cases Np s (i+1+cR bz (Qh (i+1) s)) (1,(s[i]::Qh (i+1) s).take (cR bz (Qh (i+1) s)+1)) o with
      |inl h=>intro D B;exact(((zL.of C).trans G).ends ((zL.of D).ends B)).mono ow
      |inr I=>intro D B;cases B;exact(((zL.of C).trans G).ends (zV.of D)).mono ow
     ·rw[<-u,F9];rw[show i+(cR bz (Qh (i+1) s)+1)=i+1+cR bz (Qh (i+1) s) by omega];rw[u];exact E
    ·rw[if_neg L]at C⊢;by_cases M:zY s[i].toNat=Q3
     ·rw[if_pos M]at C⊢;have J:=UB M;obtain⟨G,H,W⟩:=IJ (p:=zY) (s:=s) (λj=>Vz s (j:Int) (s[i].toNat:Int) (i:Int) z o) (λj S hp=>zsO F S hp) (Io s) (i+1) ow ow;have D:=zsN (z:=z) (c:=s[i]) (f:=i) F H ow W J (o:=o) ow;rw[show i+1+cR zY (Qh (i+1) s)-i=cR zY (Qh (i+1) s)+1 by omega,u]at D;obtain⟨r,B,E⟩:=next (i+1+cR zY (Qh (i+1) s)) (2,(s[i]::Qh (i+1) s).take (cR zY (Qh (i+1) s)+1)) ow H
      refine⟨r,?_,?_⟩
      ·revert D B;cases Np s (i+1+cR zY (Qh (i+1) s)) (2,(s[i]::Qh (i+1) s).take (cR zY (Qh (i+1) s)+1)) o with
       |inl h=>intro D B;exact(((zL.of C).trans G).ends ((zL.of D).ends B)).mono ow
       |inr I=>intro D B;cases B;exact(((zL.of C).trans G).ends (zV.of D)).mono ow
      ·rw[<-u,F9];rw[show i+(cR zY (Qh (i+1) s)+1)=i+1+cR zY (Qh (i+1) s) by omega];rw[u];exact E
     ·rw[if_neg M]at C⊢;by_cases Y:s[i]=39
      ·rw[if_pos Y]at C⊢;obtain⟨q1,q2⟩:=l20 (o:=o) F ow (Io s-(i+1)) (i+1) [] (ae _) ow sw;cases U:fe (Qh (i+1) s)with
       | none=>
        have hm:cq ((0,[]):Sem cg)=Q4:=rfl;simp only[hm,zA,if_false];exact⟨rNo,((zL.of C).ends (q1 U)).mono ow,XX⟩
       | some x=>
        obtain⟨t,k⟩:=x;obtain⟨k1,Z,_⟩:=sk _ _ _ _ (ae _) U;have Z:k<=Io s-(i+1):=by simpa using Z
        obtain⟨r,B,E⟩:=next (i+1+k) (3,t) ow ow
        refine⟨r,((zL.of C).ends (q2 t k U _ r B)).mono ow,?_⟩;simp only;rw[<-u,F9,show i+(k+1)=i+1+k by omega];exact E
      ·rw[if_neg Y]at C⊢;obtain⟨r,B,E⟩:=next (i+1) (4,[s[i]]) ow ow
       refine⟨r,?_,E⟩;revert C B;cases Np s (i+1) (4,[s[i]]) o with
       |inl h=>intro C B;exact((zL.of C).ends B).mono ow
       |inr I=>intro C B;cases B;exact(zV.of C).mono ow
  ·obtain rfl:i=Io s:=by omega
   rw[jK,xq];cases o with
   | none=>
    refine⟨(.tup [.nils,.bool Q3],[]),(zV.of ?_).mono ow,[],rfl⟩;show(cZ (.h3 _ _)).val=_;simp only[cZ,zB,Q8];rfl
   | some l=>
    refine⟨(.tup [.vec 0,.bool (Q0 ((↑l.length:Int)<=400))],[.vec zp l]),(zV.of ?_).mono ow,l,?_⟩
    ·show(cZ (.h3b _ _ _)).val=_;simp only[cZ,zB,Q8];rfl
    ·have e:Q0 ((↑l.length:Int)<=400)=Q0 (Io l<=400):=by
      by_cases h:Io l<=400
      ·rw[zx h];exact zx ow
      ·rw[aq h];exact aq ow
     rw[e];rfl
theorem My{s:zD}(B:Io s<=1000000):∃l,Jt s=Q1 (l,(cut s).2==(0:Int),()):=by
 obtain⟨r,h,l,o⟩:=Es B (Io s+1) 0 none ow ow sw;have u:=CI (Io s+1) s 0 [] ow ow ow sw;have z:((cut s).2==(0:Int))=xq (Io s+1) (s.drop 0) ([]:List (Sem zp)).length:=u;refine⟨l,?_⟩;rw[z];exact zy (s:=TF s ((0:Nat):Int) none) rfl h ow o
theorem XP{s:zD}(o:Io s<=1000000):Js s=Q3:=by
 obtain⟨l,h⟩:=My o;unfold Js;rw[h];rfl
theorem zbq{s:zD}(o:Io s<=1000000):(AB s).2=((cut s).2==(0:Int)):=by
 obtain⟨l,h⟩:=My o;unfold AB;rw[h];rfl
theorem uh{α:Type}(p:α->Bool):∀(l:List α)(i:Nat),(!Q0 (zW p l i>=0))=Q3↔∀x∈l,p x=Q4
 | [],i=>by
  refine⟨λ_ x o=>(by cases o),λ_=>?_⟩;rw[zW];rfl
 | y::r,i=>by
  refine⟨λh=>qm p _ i h,λh=>?_⟩;rw[zW,h y sw];exact(uh p r (i+1)).2 λx o=>h x (by simp[o])
theorem jx{x:Sem zn}(X:Io x.2.2.2.1<=1000)(Y:Io x.2.2.2.2.1<=1000)(Z:Io x.2.2.2.2.2.2.1<=1000)(h8:Io x.2.2.2.2.2.2.2.1<=1000)(O:Io x.2.2.2.2.2.2.2.2.2.1<=1000)(S:Io x.2.2.2.2.2.2.2.2.2.2.1<=1000):
  eJ x=Q3↔x.2.1=[]/\x.2.2.1=[]/\x.2.2.2.2.2.1=[]/\x.2.2.2.2.2.2.2.2.2.2.2.2=[]/\x.2.2.2.1=[]/\x.2.2.2.2.1=[]/\x.2.2.2.2.2.2.1=[]/\x.2.2.2.2.2.2.2.1=[]/\x.2.2.2.2.2.2.2.2.2.1=[]/\x.2.2.2.2.2.2.2.2.2.2.1=[]/\x.2.2.2.2.2.2.2.2.1=dB/\x.2.2.2.2.2.2.2.2.2.2.2.1=dB:=by
 unfold eJ
 have T:(Γ Δ (Γ Δ (Γ Δ (Γ Δ (Γ Δ ((↑(Io x.2.2.2.1):Int)+(↑(Io x.2.2.2.2.1):Int))+(↑(Io x.2.2.2.2.2.2.1):Int))+(↑(Io x.2.2.2.2.2.2.2.1):Int))+(↑(Io x.2.2.2.2.2.2.2.2.2.1):Int))+(↑(Io x.2.2.2.2.2.2.2.2.2.2.1):Int)))=
   ((Io x.2.2.2.1+Io x.2.2.2.2.1+Io x.2.2.2.2.2.2.1+Io x.2.2.2.2.2.2.2.1+Io x.2.2.2.2.2.2.2.2.2.1+Io x.2.2.2.2.2.2.2.2.2.2.1:Nat):Int):=by
  have g:∀n:Nat,n<=10000->Γ Δ (n:Int)=(n:Int):=λn hn=>Yx n (by omega)
  rw[<-uK,g _ (by omega),<-uK,g _ (by omega),<-uK,g _ (by omega),<-uK,g _ (by omega),<-uK,g _ (by omega)]
 rw[T];constructor
 ·intro h;obtain⟨F,h⟩:=ck h;obtain⟨G,h⟩:=ck h;obtain⟨U,W⟩:=ck h;simp only[bh,List.append_eq_nil_iff]at F;obtain⟨⟨⟨o,C⟩,D⟩,E⟩:=F;have G:Io x.2.2.2.1+Io x.2.2.2.2.1+Io x.2.2.2.2.2.2.1+Io x.2.2.2.2.2.2.2.1+Io x.2.2.2.2.2.2.2.2.2.1+Io x.2.2.2.2.2.2.2.2.2.2.1=0:=by
   have:=bG G;exact Int.ofNat.inj this
  refine⟨o,C,D,E,?_,?_,?_,?_,?_,?_,kJ.1 U,kJ.1 W⟩<;>exact AQ (by omega)
 ·rintro⟨o,C,D,E,H,I,J,L,M,u,z,B⟩;rw[o,C,D,E,H,I,J,L,M,u,z,B,show g9 dB=Q3 from rfl];rfl
theorem Yd(s:Sem zn):ew s=(fx s&&((cut (iP s)).2==0)):=by
 unfold ew qI;cases fx s
 ·rfl
 ·show((ite (((cut (iP s)).2!=0)=Q3) (([],1):Sem Sh.str×Sem zg) (iP s,0)).2==0)=_;cases h:((cut (iP s)).2==0)
  ·have:((cut (iP s)).2!=0)=Q3:=by simp only[bne,h];rfl
   rw[if_pos this];rfl
  ·have:((cut (iP s)).2!=0)=Q4:=by simp only[bne,h];rfl
   rw[this];rfl
theorem WN(s:zD):bV s=zQ s:=rfl
theorem HH{s:Sem zn}(h:po s){t:zD}{o:Sem zn}{u:Bool}(D:dN s=Q1 (t,o,u,()))(Y:Io t<=900000)(L:B8 o):
  ∃z,oR s=Q1 (z,(u&&(zQ s.2.1&&(fu o s&&((cut t).2==(0:Int))))),()):=by
 have Z:=h.sh.table;have H:ww s=Q3:=by unfold ww;rw[D];rfl
 have I:BR s=(t,o,u):=by unfold BR;rw[D];rfl
 obtain⟨U,_⟩:=sc (b:=s) L;have S:=bB (s:=s.2.1) ow;have T:=fb (s:=s.2.1) ow;have M:=XP (s:=t) ow;have O:=zbq (s:=t) ow;have es:ww (s.1,s.2.1,s.2.2.1,s.2.2.2.1,s.t.1,s.t.2.1,s.t.q.1,s.t.q.2.1,s.t.t.1,s.t.t.2.1,s.t.t.q.1,s.t.t.q.2.1,s.t.t.t)=Q3:=H;have J:BR (s.1,s.2.1,s.2.2.1,s.2.2.2.1,s.t.1,s.t.2.1,s.t.q.1,s.t.q.2.1,s.t.t.1,s.t.t.2.1,s.t.t.q.1,s.t.t.q.2.1,s.t.t.t)=(t,o,u):=I;have W:BP (o.1,o.2.1,o.2.2.1,o.2.2.2.1,o.t.1,o.t.2.1,o.t.q.1,o.t.q.2.1,o.t.t.1,o.t.t.2.1,o.t.t.q.1,o.t.t.q.2.1,o.t.t.t) (s.1,s.2.1,s.2.2.1,s.2.2.2.1,s.t.1,s.t.2.1,s.t.q.1,s.t.q.2.1,s.t.t.1,s.t.t.2.1,s.t.t.q.1,s.t.t.q.2.1,s.t.t.t)=Q3:=U;have X:fu (o.1,o.2.1,o.2.2.1,o.2.2.2.1,o.t.1,o.t.2.1,o.t.q.1,o.t.q.2.1,o.t.t.1,o.t.t.2.1,o.t.t.q.1,o.t.t.q.2.1,o.t.t.t) (s.1,s.2.1,s.2.2.1,s.2.2.2.1,s.t.1,s.t.2.1,s.t.q.1,s.t.q.2.1,s.t.t.1,s.t.t.2.1,s.t.t.q.1,s.t.t.q.2.1,s.t.t.t)=fu o s:=rfl;have C:∃z b,(zhy s).val=Q1 (.inr (.tup [.str z,b],[]))/\(b=.kb Q3/\(u&&(zQ s.2.1&&(fu o s&&((cut t).2==(0:Int)))))=Q3\/(b=.kb Q4/\(u&&(zQ s.2.1&&(fu o s&&((cut t).2==(0:Int)))))=Q4)):=by
  simp only[zhy,Q8,zk,es,J,W,X,S,T,M,O,if_true];generalize fu o s=E;generalize zQ s.2.1=F;generalize((cut t).2==(0:Int))=G;cases u<;>cases F<;>cases E<;>cases G<;>first|exact⟨_,_,rfl,.inl ⟨rfl,rfl⟩⟩|exact⟨_,_,rfl,.inr ⟨rfl,rfl⟩⟩
 obtain⟨z,b,C,B⟩:=C;refine⟨z,zM C ?_⟩;rcases B with⟨rfl,B⟩|⟨rfl,B⟩<;>rw[B]<;>rfl
theorem OP{s:Sem zn}(h:po s):∃t b,oR s=Q1 (t,b,()):=by
 obtain⟨t,C,E,o,u,z⟩:=OS h;obtain⟨D,B⟩:=HH h o u z;exact⟨D,_,B⟩
theorem QE{s:Sem zn}(h:po s)(o:s.1=[99,111,112,121]):fx s=(lz s&&(zQ s.2.1&&fu (s.1,s.2.1,s.2.2.1,s.2.2.2.1,[],[],[],[],s.2.2.2.2.2.2.2.2.1,[],[],dB,[]) s)):=by
 have hn:=h.sh.names.1;have T:=h.sh.cols.1;have U:=h.sh.uniques.1;have W:=h.sh.refs.1;have Y:=h.sh.row;have X:=h.sh.sets.1;obtain⟨Z,p1,p2,p3,p4,p5,p6,p7,p8,p9,H⟩:=zbf o;obtain⟨_,hp⟩:=eK (s:=s) (g:=_) (b:=_) (by simp only[vw,Q8,Z,p1,p2,p3,p4,p5,p6,p7,p8,p9,H,if_true,if_false,zA,zk];exact rfl);obtain⟨_,u⟩:=sc (a:=(s.1,s.2.1,s.2.2.1,s.2.2.2.1,[],[],[],[],s.2.2.2.2.2.2.2.2.1,[],[],dB,[])) (b:=s) (eE h (.inl rfl) (.inr rfl) (.inr rfl) (.inr rfl) (.inl rfl) (.inr rfl) (.inr rfl) (.inr rfl));have C:=jx (x:=(s.1,[],[],[],s.2.2.2.2.1,s.2.2.2.2.2.1,s.2.2.2.2.2.2.1,s.2.2.2.2.2.2.2.1,dB,s.2.2.2.2.2.2.2.2.2.1,s.2.2.2.2.2.2.2.2.2.2.1,s.2.2.2.2.2.2.2.2.2.2.2.1,s.2.2.2.2.2.2.2.2.2.2.2.2)) (by simp) (by simpa using bt T (by omega)) (by simpa using bt U (by omega)) (by simpa using bt W (by omega)) (by simpa using bt Y (by omega)) (by simpa using bt X (by omega));have B:ez (s.1,[],[],[],s.2.2.2.2.1,s.2.2.2.2.2.1,s.2.2.2.2.2.2.1,s.2.2.2.2.2.2.2.1,dB,s.2.2.2.2.2.2.2.2.2.1,s.2.2.2.2.2.2.2.2.2.2.1,s.2.2.2.2.2.2.2.2.2.2.2.1,s.2.2.2.2.2.2.2.2.2.2.2.2)=Q3:=gh (by simp) (by simp) (by have:=h.sh.key;simpa using this) (by have:=h.sh.role;simpa using this);rw[hp];apply iY.2;have z:fu (s.1,s.2.1,s.2.2.1,s.2.2.2.1,[],[],[],[],s.2.2.2.2.2.2.2.2.1,[],[],dB,[]) s=Q3↔eJ (s.1,[],[],[],s.2.2.2.2.1,s.2.2.2.2.2.1,s.2.2.2.2.2.2.1,s.2.2.2.2.2.2.2.1,dB,s.2.2.2.2.2.2.2.2.2.1,s.2.2.2.2.2.2.2.2.2.2.1,s.2.2.2.2.2.2.2.2.2.2.2.1,s.2.2.2.2.2.2.2.2.2.2.2.2)=Q3:=by
  rw[u,C];obtain⟨s1,s2,s3,s4,s5,s6,s7,s8,s9,h0,h1,h2,h3⟩:=s;simp only[cF,true_and];constructor
  ·intro k;simp_all
  ·intro k;simp_all
 have D:=uh (λx=>!bV x) s.2.2.2.1 0;have F:(!Q0 (zW (λx=>!bV x) s.2.2.2.1 0>=0))=Q0 (∀x∈s.2.2.2.1,zQ x=Q3):=by
  apply iY.2;rw[D,KD];exact⟨λk x G=>by have:=k x G;simpa[WN]using this,λk x G=>by have:=k x G;simpa[WN]using this⟩
 have E:(cond (Q0 ((↑(Io s.2.2.2.1):Int)<1)) Q3 (Q0 ((↑(Io s.2.2.2.1):Int)>8)))=!(Q0 (1<=Io s.2.2.2.1)&&Q0 (Io s.2.2.2.1<=8)):=by
  by_cases a:1<=Io s.2.2.2.1
  ·rw[aq (show¬(↑(Io s.2.2.2.1):Int)<1 by omega),zx a];by_cases b:Io s.2.2.2.1<=8
   ·rw[aq (show¬(↑(Io s.2.2.2.1):Int)>8 by omega),zx b];rfl
   ·rw[zx (show(↑(Io s.2.2.2.1):Int)>8 by omega),aq b];rfl
  ·rw[zx (show(↑(Io s.2.2.2.1):Int)<1 by omega),aq a];rfl
 rw[F,E,B];unfold lz;rw[show bV s.2.1=zQ s.2.1 from rfl,show bV s.2.2.1=zQ s.2.2.1 from rfl];rw[iY.2 z];generalize eJ _=I;generalize bW s.2.2.2.2.2.2.2.2.1=J;generalize zQ s.2.1=L;generalize zQ s.2.2.1=M;generalize Q0 (∀x∈s.2.2.2.1,zQ x=Q3)=O;generalize(Q0 (1<=Io s.2.2.2.1)&&Q0 (Io s.2.2.2.1<=8))=S;cases I<;>cases J<;>cases L<;>cases M<;>cases O<;>cases S<;>simp
theorem QF{s:Sem zn}(h:po s)(o:s.1=eX):fx s=(oA s&&(zQ s.2.1&&fu (s.1,s.2.1,s.2.2.1,[],[],s.t.2.1,[],[],s.t.t.1,[],[],dB,s.t.t.t) s)):=by
 have O:=h.sh.names.1;have M:=h.sh.cols.1;have S:=h.sh.uniques.1;have T:=h.sh.refs.1;have W:=h.sh.row;have U:=h.sh.sets.1;obtain⟨X,Y,Z,p3,p4,p5,p6,p7,p8,p9,D,E⟩:=zbg o;obtain⟨_,hp⟩:=eK (s:=s) (g:=_) (b:=_) (by simp only[vw,Q8,X,Y,Z,p3,p4,p5,p6,p7,p8,p9,D,E,if_true,if_false,zA,zk];exact rfl);obtain⟨_,u⟩:=sc (a:=(s.1,s.2.1,s.2.2.1,[],[],s.t.2.1,[],[],s.t.t.1,[],[],dB,s.t.t.t)) (b:=s) (eE h (.inr rfl) (.inr rfl) (.inr rfl) (.inr rfl) (.inl rfl) (.inr rfl) (.inr rfl) (.inr rfl));have C:=jx (x:=(s.1,[],[],s.2.2.2.1,s.t.1,[],s.t.q.1,s.t.q.2.1,dB,s.t.t.2.1,s.t.t.q.1,s.t.t.q.2.1,[])) (by simpa using bt O ow) (by simpa using bt M ow) (by simpa using bt S ow) (by simpa using bt T ow) (by simpa using bt W ow) (by simpa using bt U ow);have B:ez (s.1,[],[],s.2.2.2.1,s.t.1,[],s.t.q.1,s.t.q.2.1,dB,s.t.t.2.1,s.t.t.q.1,s.t.t.q.2.1,[])=Q3:=gh sw sw sw sw;rw[hp];apply iY.2;have z:fu (s.1,s.2.1,s.2.2.1,[],[],s.t.2.1,[],[],s.t.t.1,[],[],dB,s.t.t.t) s=Q3↔eJ (s.1,[],[],s.2.2.2.1,s.t.1,[],s.t.q.1,s.t.q.2.1,dB,s.t.t.2.1,s.t.t.q.1,s.t.t.q.2.1,[])=Q3:=by
  rw[u,C];obtain⟨s1,s2,s3,s4,s5,s6,s7,s8,s9,h0,h1,h2,h3⟩:=s;simp only[cF,true_and];constructor
  ·intro k;simp_all
  ·intro k;simp_all
 rw[B];unfold oA;rw[show bV s.2.1=zQ s.2.1 from rfl,show bV s.2.2.1=zQ s.2.2.1 from rfl,show bV s.t.2.1=zQ s.t.2.1 from rfl,show bV s.t.t.t=zQ s.t.t.t from rfl];rw[iY.2 z];generalize eJ _=F;generalize bW s.t.t.1=G;generalize zQ s.2.1=H;generalize zQ s.2.2.1=I;generalize zQ s.t.2.1=J;generalize zQ s.t.t.t=L;cases F<;>cases G<;>cases H<;>cases I<;>cases J<;>cases L<;>simp
theorem Md{s:Sem zn}(h:po s)(o:s.1=[103,114,111,117,112]):fx s=(gM s&&(zQ s.2.1&&fu (s.1,s.2.1,s.2.2.1,s.2.2.2.1,[],[],[],[],s.2.2.2.2.2.2.2.2.1,[],[],dB,[]) s)):=by
 have hn:=h.sh.names.1;have X:=h.sh.cols.1;have Y:=h.sh.uniques.1;have Z:=h.sh.refs.1;have hw:=h.sh.row;have hs:=h.sh.sets.1;obtain⟨p0,p1,p2,p3,p4,p5,p6,p7,p8,p9,G,H,I⟩:=Xi o;obtain⟨_,hp⟩:=eK (s:=s) (g:=_) (b:=_) (by simp only[vw,Q8,p0,p1,p2,p3,p4,p5,p6,p7,p8,p9,G,H,I,if_true,if_false,zA,zk];exact rfl);obtain⟨_,u⟩:=sc (a:=(s.1,s.2.1,s.2.2.1,s.2.2.2.1,[],[],[],[],s.2.2.2.2.2.2.2.2.1,[],[],dB,[])) (b:=s) (eE h (.inl rfl) (.inr rfl) (.inr rfl) (.inr rfl) (.inl rfl) (.inr rfl) (.inr rfl) (.inr rfl));have C:=jx (x:=(s.1,[],[],[],s.2.2.2.2.1,s.2.2.2.2.2.1,s.2.2.2.2.2.2.1,s.2.2.2.2.2.2.2.1,dB,s.2.2.2.2.2.2.2.2.2.1,s.2.2.2.2.2.2.2.2.2.2.1,s.2.2.2.2.2.2.2.2.2.2.2.1,s.2.2.2.2.2.2.2.2.2.2.2.2)) (by simp) (by simpa using bt X (by omega)) (by simpa using bt Y (by omega)) (by simpa using bt Z (by omega)) (by simpa using bt hw (by omega)) (by simpa using bt hs (by omega));have B:ez (s.1,[],[],[],s.2.2.2.2.1,s.2.2.2.2.2.1,s.2.2.2.2.2.2.1,s.2.2.2.2.2.2.2.1,dB,s.2.2.2.2.2.2.2.2.2.1,s.2.2.2.2.2.2.2.2.2.2.1,s.2.2.2.2.2.2.2.2.2.2.2.1,s.2.2.2.2.2.2.2.2.2.2.2.2)=Q3:=gh (by simp) (by simp) (by have:=h.sh.key;simpa using this) (by have:=h.sh.role;simpa using this);rw[hp];apply iY.2;have z:fu (s.1,s.2.1,s.2.2.1,s.2.2.2.1,[],[],[],[],s.2.2.2.2.2.2.2.2.1,[],[],dB,[]) s=Q3↔eJ (s.1,[],[],[],s.2.2.2.2.1,s.2.2.2.2.2.1,s.2.2.2.2.2.2.1,s.2.2.2.2.2.2.2.1,dB,s.2.2.2.2.2.2.2.2.2.1,s.2.2.2.2.2.2.2.2.2.2.1,s.2.2.2.2.2.2.2.2.2.2.2.1,s.2.2.2.2.2.2.2.2.2.2.2.2)=Q3:=by
  rw[u,C];obtain⟨s1,s2,s3,J,s5,s6,s7,s8,s9,h0,h1,h2,h3⟩:=s;simp only[cF,true_and];constructor
  ·intro k;simp_all
  ·intro k;simp_all
 have D:=uh (λx=>!bV x) s.2.2.2.1 0;have E:(cond (cond (Q0 ((↑(Io s.2.2.2.1):Int)<2)) Q3 (Q0 ((↑(Io s.2.2.2.1):Int)>2))) Q4 (cond (!Q0 (zW (λx=>!bV x) s.2.2.2.1 0>=0)) (bW s.2.2.2.2.2.2.2.2.1) Q4))=(Q0 (Io s.2.2.2.1=2)&&(bW s.2.2.2.2.2.2.2.2.1&&(zQ (s.2.2.2.1.getD 0 [])&&zQ (s.2.2.2.1.getD 1 [])))):=by
  by_cases a:Io s.2.2.2.1=2
  ·rw[aq (show¬(↑(Io s.2.2.2.1):Int)<2 by omega),aq (show¬(↑(Io s.2.2.2.1):Int)>2 by omega),zx a];have F:(!Q0 (zW (λx=>!bV x) s.2.2.2.1 0>=0))=(zQ (s.2.2.2.1.getD 0 [])&&zQ (s.2.2.2.1.getD 1 [])):=by
    apply iY.2;rw[D,aE];obtain⟨s1,s2,s3,J,s5⟩:=s
    match J,a with
    |[x,y],_=>simp[WN]
   rw[F];cases bW s.2.2.2.2.2.2.2.2.1<;>cases zQ (s.2.2.2.1.getD 0 [])<;>cases zQ (s.2.2.2.1.getD 1 [])<;>rfl
  ·rw[aq a];by_cases b:(↑(Io s.2.2.2.1):Int)<2
   ·rw[zx b];rfl
   ·rw[aq b,zx (show(↑(Io s.2.2.2.1):Int)>2 by omega)];rfl
 rw[E,B];unfold gM;rw[show bV s.2.1=zQ s.2.1 from rfl,show bV s.2.2.1=zQ s.2.2.1 from rfl];rw[iY.2 z];generalize eJ _=L;generalize bW s.2.2.2.2.2.2.2.2.1=M;generalize zQ s.2.1=O;generalize zQ s.2.2.1=S;generalize zQ (s.2.2.2.1.getD 0 [])=T;generalize zQ (s.2.2.2.1.getD 1 [])=U;generalize Q0 (Io s.2.2.2.1=2)=W;cases L<;>cases M<;>cases O<;>cases S<;>cases T<;>cases U<;>cases W<;>simp
theorem ti(p:Sem zq):ml p=Q1 (bw p.2.1 p.2.2.1,()):=by
 unfold bw;by_cases h:(p.2.2.1==[])=Q3
 ·rw[if_pos h];refine zM (r:=(.vec 0,[.vec Sh.str [p.2.1]])) ?_ rfl;simp only[zhr,Q8,h];rfl
 ·rw[if_neg h];have h:(p.2.2.1==[])=Q4:=by simpa using h
  refine zM (r:=(.vec 0,[.vec Sh.str ([p.2.1]++[p.2.2.1])])) ?_ rfl;simp only[zhr,Q8,h];rfl
theorem th(p:Sem zq):jT p=Q3:=by unfold jT;rw[ti];rfl
theorem vQ(p:Sem zq):lC p=bw p.2.1 p.2.2.1:=by unfold lC;rw[ti];rfl
theorem Au(x:zD):∀(l:List zD)(i:Nat),GE.ge (α:=Int) (iD x l (i:Int)) 0↔x∈l
 | [],i=>by
  rw[iD];exact⟨λh=>absurd h (by decide),λh=>by cases h⟩
 | a::r,i=>by
  rw[iD];split
  ·rename_i h;have:x=a:=by simpa using h
   subst this;exact⟨λ_=>uG,λ_=>Int.natCast_nonneg i⟩
  ·rename_i h;have:=Au x r (i+1);rw[uK]at this;rw[bL];refine⟨λo=>.inr (this.1 o),λo=>this.2 (o.resolve_left ?_)⟩;rintro rfl;simp at h
theorem lv(l:List zD)(x:zD):aB l x=Q3↔x∈l:=by
 unfold aB;rw[KD];exact Au x l 0
theorem Jy{l:List zD}{s:zD}(G:Io l<=1000000):AD l s=Q3/\MD l s=aB l s:=by
 have u:QO l s=Q1 (aB l s,()):=by
  rcases mI (t:=Pa) (Φ:=λr=>r=(.kb Q3,[])) 1 (λi=>.h2 l s (i:Int)) (λi=>∀h:i<Io l,l[i]≠s) (Io l) (λi o _=>by
   have F:(Pa (.h2 l s (i:Int))).val=if(l[i]==s)=Q3 then Q1 (.inr (.kb Q3,[]))else Q1 (.inl (.h2 l s ((i+1:Nat):Int))):=by
    show(Pa (.h2 _ _ _)).val=_;simp only[Pa,Q8,zH _ _ o,zF o,zt o,if_true];rw[zr i um]
   by_cases h:l[i]=s
   ·exact .inr ⟨λk=>k o h,_,zV.of (by rw[F,if_pos (by simpa using h)]),rfl⟩
   ·exact .inl ⟨λ_=>h,zL.of (by rw[F,if_neg (by simpa using h)])⟩)with⟨z,B⟩|⟨z,r,B,rfl⟩
  ·have D:aB l s=Q4:=by
    rw[<-g8,lv];intro C;obtain⟨j,E,e⟩:=fz C;exact z j E E e
   rw[D];refine zy (s:=.h2 l s 0) rfl (B.ends (zV.of (r:=(.kb Q4,[])) ?_)) ow rfl;show(Pa (.h2 _ _ _)).val=_;simp only[Pa,Q8,zB];rfl
  ·have D:aB l s=Q3:=by
    rw[lv];apply ke;intro C;exact z λi _ o e=>C (e▸aK o)
   rw[D];exact zy (s:=.h2 l s 0) rfl B ow rfl
 exact⟨by unfold AD;rw[u];rfl,by unfold MD;rw[u];rfl⟩
theorem As{α:Type}(p:α->Bool):∀(l:List α)(i:Nat),(!Q0 (zW p l i>=0))=Q3↔∀x∈l,p x=Q4
 | [],i=>by
  refine⟨λ_ x o=>(by cases o),λ_=>?_⟩;rw[zW];rfl
 | y::r,i=>by
  refine⟨λh=>qm p _ i h,λh=>?_⟩;rw[zW,h y sw];exact(As p r (i+1)).2 λx o=>h x (by simp[o])
theorem xZ{α:Type}(p:α->Bool)(l:List α):Q0 (GE.ge (α:=Int) (zW p l 0) 0)=Q3↔∃x∈l,p x=Q3:=by
 have h:=As p l 0;constructor
 ·intro o;apply ke;intro z;have:=h.2 λx u=>by
   cases hp:p x
   ·rfl
   ·exact absurd ⟨x,u,hp⟩ z
  rw[o]at this;cases this
 ·rintro⟨x,u,hp⟩;cases o:Q0 (GE.ge (α:=Int) (zW p l 0) 0)
  ·have:=h.1 (by rw[o];rfl) x u;rw[hp]at this;cases this
  ·rfl
theorem I4{o:List (Sem zh)}{u:List zD}(hl:Io o<=1000)(hr:∀x∈o,(x:Sem zh).1.t.1.length<=1000)(J:Io u<=1000000):oD o u=Q1 (ec o u,()):=by
 have H:∀i(D:i<Io o),(¬(!aB u o[i].1.1&&Q0 (GE.ge (α:=Int) (zW (λf:Sem zp=>aB u f.2) o[i].1.t.1 0) 0))=Q3/\zL qM 1002 (.h2 o u (i:Int)) (.h2 o u ((i+1:Nat):Int)))\/
   ((!aB u o[i].1.1&&Q0 (GE.ge (α:=Int) (zW (λf:Sem zp=>aB u f.2) o[i].1.t.1 0) 0))=Q3/\zV qM 1002 (.h2 o u (i:Int)) (.kb Q3,[])):=by
  intro i D;have L:=hr _ (aK D);have g:o.getD (i:Int).toNat (zi zh)=o[i]:=zH _ _ D;have I:zL qM 1 (.h2 o u (i:Int)) (.h5 o u (i:Int) ((0:Nat):Int)):=zL.of (by
   show(qM (.h2 _ _ _)).val=_;simp only[qM,Q8,zF D,if_true];rfl)
  obtain⟨S,T⟩:=Jy (l:=u) (s:=o[i].1.1) J;have Y:(qM (.h5 o u (i:Int) (o[i].1.t.1.length:Int))).val=Q1 (.inl (.h2 o u ((i+1:Nat):Int))):=by
   show(qM (.h5 _ _ _ _)).val=_;simp only[qM,Q8,g,zB,zt D,if_true];rw[zr i um];rfl
  rcases mI (t:=qM) (Φ:=λr=>r=(.kb Q3,[])) 1 (λj=>.h5 o u (i:Int) (j:Int)) (λj=>∀h:j<o[i].1.t.1.length,¬(!aB u o[i].1.1&&aB u (o[i].1.t.1[j]).2)=Q3) o[i].1.t.1.length (λj z _=>by
   have X:getD o[i].1.t.1 (j:Int).toNat (zi zp)=o[i].1.t.1[j]:=zH _ _ z;obtain⟨U,W⟩:=Jy (l:=u) (s:=(o[i].1.t.1[j]).2) J;have E:(qM (.h5 o u (i:Int) (j:Int))).val=if(!aB u o[i].1.1&&aB u (o[i].1.t.1[j]).2)=Q3 then Q1 (.inr (.kb Q3,[]))else Q1 (.inl (.h5 o u (i:Int) ((j+1:Nat):Int))):=by
    show(qM (.h5 _ _ _ _)).val=_;simp only[qM,Q8,g,X,zF z,zt D,zt z,S,T,U,W,if_true,dV];rw[zr j um];cases aB u o[i].1.1<;>cases aB u (o[i].1.t.1[j]).2<;>rfl
   by_cases h:(!aB u o[i].1.1&&aB u (o[i].1.t.1[j]).2)=Q3
   ·exact .inr ⟨λk=>k z h,_,zV.of (by rw[E,if_pos h]),rfl⟩
   ·exact .inl ⟨λ_=>h,zL.of (by rw[E,if_neg h])⟩)with⟨B,C⟩|⟨B,r,C,rfl⟩
  ·refine .inl ⟨?_,((I.trans C).trans (zL.of Y)).mono ow⟩;intro h;simp only[aE,xZ]at h;obtain⟨M,f,Z,O⟩:=h;obtain⟨j,z,rfl⟩:=fz Z;exact B j z z (by rw[M,O];rfl)
  ·refine .inr ⟨?_,(I.ends C).mono ow⟩;apply ke;intro h;refine B λj _ z G=>h ?_
   simp only[aE]at G;simp only[aE,xZ];exact⟨G.1,_,aK z,G.2⟩
 rcases mI (t:=qM) (Φ:=λr=>r=(.kb Q3,[])) 1002 (λi=>.h2 o u (i:Int)) (λi=>∀h:i<Io o,¬(!aB u o[i].1.1&&Q0 (GE.ge (α:=Int) (zW (λf:Sem zp=>aB u f.2) o[i].1.t.1 0) 0))=Q3) (Io o) (λi D _=>by
  rcases H i D with⟨B,C⟩|⟨B,C⟩
  ·exact .inl ⟨λ_=>B,C⟩
  ·exact .inr ⟨λk=>k D B,_,C,rfl⟩)with⟨B,C⟩|⟨B,r,C,rfl⟩
 ·have F:ec o u=Q4:=by
   unfold ec;rw[List.any_eq_false];intro x L;obtain⟨j,z,rfl⟩:=fz L;exact B j z z
  rw[F];have E:(qM (.h2 o u (Io o:Int))).val=Q1 (.inr (.kb Q4,[])):=by
   show(qM (.h2 _ _ _)).val=_;simp only[qM,Q8,zB];rfl
  exact zy (s:=.h2 o u 0) rfl (C.ends (zV.of E)) ow rfl
 ·have F:ec o u=Q3:=by
   unfold ec;apply ke;intro h;rw[g8,List.any_eq_false]at h;exact B λi _ D=>h _ (aK D)
  rw[F];exact zy (s:=.h2 o u 0) rfl C ow rfl
theorem Mg{db:List (Sem zh)}{ns:List zD}(o:Io db<=1000)(z:∀x∈db,(x:Sem zh).1.t.1.length<=1000)(u:Io ns<=1000000):uo db ns=Q3/\yu db ns=ec db ns:=by
 have h:=I4 o z u;exact⟨by unfold uo;rw[h];rfl,by unfold yu;rw[h];rfl⟩
def pl3(t:Sem zo)(h:List zD):Nat->pE
 |0=>.h3 t.2.1 h ((0:Nat):Int)
 |i+1=>.h3b t.2.1 h ((i+1:Nat):Int) (js t (h.take (i+1)))
theorem zbk{t:Sem zo}{o:List zD}(C:Io t.2.1<=1000000)(D:Io o<=1000){i:Nat}(u:i<Io o):(jX (pl3 t o i)).val=if LT.lt (α:=Int) (zR t o[i]) 0 then Q1 (.inr (.tup [.nils,.int .i64 4],[]))else Q1 (.inl (pl3 t o (i+1))):=by
 have e:eR t.2.1 o[i]=zR t o[i]:=kT C;have B:dM t.2.1 o[i]=Q3:=ju C;have z:js t (o.take (i+1))=js t (o.take i)++[zR t o[i]]:=by
  unfold js;rw[bg u,gD];rfl
 cases i with
 | zero=>
  have z:js t (o.take 1)=[zR t o[0]]:=z;show(jX (.h3 _ _ _)).val=_;simp only[jX,Q8,zF u,zt u,if_true,zH _ _ u,e,B];by_cases h:LT.lt (α:=Int) (zR t o[0]) 0
  ·simp only[zx h,if_true,if_pos h]
  ·simp only[aq h,if_neg h,zA,if_false];rw[if_pos sw,zr 0 um];show _=Q1 (Sum.inl (pE.h3b _ _ _ (js t (o.take 1))));rw[z]
 | succ i=>
  show(jX (.h3b _ _ _ _)).val=_;simp only[jX,Q8,zF u,zt u,if_true,zH _ _ u,e,B];by_cases h:LT.lt (α:=Int) (zR t o[i+1]) 0
  ·simp only[zx h,if_true,if_pos h]
  ·simp only[aq h,if_neg h,zA,if_false];rw[if_pos (by unfold js;simp;omega),zr (i+1) um];show _=Q1 (Sum.inl (pE.h3b _ _ _ (js t (o.take (i+1+1)))));rw[z]
theorem zsE{l:List Int}(L:Io l<=1000):zV jX (Io l*1001+1) (.h10b ((0:Nat):Int) l) (ite l.Nodup (.tup [.vec 0,.int .i64 0],[.vec zg l]) (.tup [.nils,.int .i64 7],[])):=by
 have F:∀i(B:i<Io l),((∀k(o:k<i),l[k]≠l[i])/\zL jX 1001 (.h10b (i:Int) l) (.h10b ((i+1:Nat):Int) l))\/((¬∀k(o:k<i),l[k]≠l[i])/\zV jX 1001 (.h10b (i:Int) l) (.tup [.nils,.int .i64 7],[])):=by
  intro i B;have G:zL jX 1 (.h10b (i:Int) l) (.h13b (i:Int) ((0:Nat):Int) l):=zL.of (by
   show(jX (.h10b _ _)).val=_;simp only[jX,Q8,zF B,if_true];rfl)
  rcases mI (t:=jX) (Φ:=λr=>r=(.tup [.nils,.int .i64 7],[])) 1 (λk=>.h13b (i:Int) (k:Int) l) (λk=>∀h:k<i,l[k]≠l[i]) i (λk o _=>by
   have C:k<Io l:=by omega
   have J:Q0 ((k:Int)<(i:Int))=Q3:=zF o;have I:(jX (.h13b (i:Int) (k:Int) l)).val=if(l[i]==l[k])=Q3 then Q1 (.inr (.tup [.nils,.int .i64 7],[]))else Q1 (.inl (.h13b (i:Int) ((k+1:Nat):Int) l)):=by
    show(jX (.h13b _ _ _)).val=_;simp only[jX,Q8,J,zt B,zt C,yN B,yN C,zH _ _ B,zH _ _ C,if_true];rw[zr k um]
   by_cases h:l[i]=l[k]
   ·exact .inr ⟨λq=>q o h.symm,_,zV.of (by rw[I,if_pos (by simpa using h)]),rfl⟩
   ·exact .inl ⟨λ_=>Ne.symm h,zL.of (by rw[I,if_neg (by simpa using h)])⟩)with⟨u,z⟩|⟨u,r,z,rfl⟩
  ·refine .inl ⟨λk o=>u k o o,((G.trans z).trans (zL.of ?_)).mono ow⟩;show(jX (.h13b _ _ _)).val=_;simp only[jX,Q8,zB];rw[zr i um];rfl
  ·exact .inr ⟨λh=>u λk o _=>h k o,(G.ends z).mono ow⟩
 have D:l.Nodup↔∀i,i<Io l->∀h:i<Io l,∀k(o:k<i),l[k]≠l[i]:=by
  unfold List.Nodup;rw[List.pairwise_iff_getElem];exact⟨λh i _ B k o=>h k i ow B o,λh i j B H E=>h j H H i E⟩
 rcases mI (t:=jX) (Φ:=λr=>r=(.tup [.nils,.int .i64 7],[])) 1001 (λi=>.h10b (i:Int) l) (λi=>∀h:i<Io l,∀k(o:k<i),l[k]≠l[i]) (Io l) (λi B _=>by
  rcases F i B with⟨u,z⟩|⟨u,z⟩
  ·exact .inl ⟨λ_=>u,z⟩
  ·exact .inr ⟨λh=>u (h B),_,z,rfl⟩)with⟨u,z⟩|⟨u,r,z,rfl⟩
 ·rw[if_pos (D.2 u)];refine(z.ends (zV.of ?_)).mono ow;show(jX (.h10b _ _)).val=_;simp only[jX,Q8,zB];rfl
 ·rw[if_neg (λh=>u (D.1 h))];exact z.mono ow
theorem I3{t:Sem zo}{o:List zD}(T:Io t.2.1<=1000000)(U:Io o<=1000):oC t.2.1 o=Q1 (ite (fW t o=0) (js t o) [],fW t o,()):=by
 have u:(znh t.2.1 o).val=Q1 (.inl (pl3 t o 0)):=rfl
 rcases mI (t:=jX) (Φ:=λr=>r=(.tup [.nils,.int .i64 4],[])) 1 (pl3 t o) (λi=>∀h:i<Io o,¬LT.lt (α:=Int) (zR t o[i]) 0) (Io o) (λi u _=>by
  have J:=zbk T U u;by_cases h:LT.lt (α:=Int) (zR t o[i]) 0
  ·exact .inr ⟨λq=>q u h,_,zV.of (by rw[J,if_pos h]),rfl⟩
  ·exact .inl ⟨λ_=>h,zL.of (by rw[J,if_neg h])⟩)with⟨F,C⟩|⟨F,r,C,rfl⟩
 ·have S:∀s∈o,¬LT.lt (α:=Int) (zR t s) 0:=by
   intro s W;obtain⟨j,I,rfl⟩:=fz W;exact F j I I
  have E:fW t o=if(js t o).Nodup then 0 else 7:=by unfold fW;rw[if_pos S];rfl
  have X:(js t o).length=Io o:=by unfold js;simp
  cases z:Io o with
  | zero=>
   have B:o=[]:=AQ z;subst B;have G:zV jX 2 (pl3 t [] 0) (.tup [.nils,.int .i64 0],[]):=by
    refine(zL.of (s':=.h10 0) ?_).ends (zV.of ?_)
    ·rfl
    ·rfl
   have M:fW t []=0:=by rw[E,if_pos (by unfold js;exact List.nodup_nil)]
   rw[M,if_pos rfl];exact zy u G ow rfl
  | succ n=>
   rw[z]at C;have L:js t (o.take (n+1))=js t o:=by rw[<-z,fI]
   have G:zL jX 1 (pl3 t o (n+1)) (.h10b ((0:Nat):Int) (js t o)):=zL.of (by
    show(jX (.h3b _ _ _ _)).val=_;rw[L,<-z];simp only[jX,Q8,zB];rfl)
   have O:=zsE (l:=js t o) ow;have D:=C.ends (G.ends O);rw[E];by_cases H:(js t o).Nodup
   ·rw[if_pos H]at D⊢;exact zy u D ow rfl
   ·rw[if_neg H]at D⊢;exact zy u D ow rfl
 ·have E:fW t o=4:=by
   unfold fW;rw[if_neg];intro h;exact F λi _ u=>h _ (aK u)
  rw[E];exact zy u C ow rfl
theorem Mf{t:Sem zo}{names:List zD}(o:Io t.2.1<=1000000)(u:Io names<=1000):oB t.2.1 names=Q3/\rH t.2.1 names=(ite (fW t names=0) (js t names) [],fW t names):=by
 have h:=I3 o u;exact⟨by unfold oB;rw[h];rfl,by unfold rH;rw[h];rfl⟩
def sF(e:zf)(cols:List (Sem zj)):Int:=
 if(e.op==[])=Q3 then 0 else if(cond ((bM e cols).2==0) (cond ((bM e cols).1!=3) ((bM e cols).1!=0) Q4) Q4)=Q3 then 5 else(bM e cols).2
theorem S7{e:zf}{h:List (Sem zj)}(B:tz e)(F:Io h<=1000000)(G:(e.op==[])=Q4->cG e=Q3):BK e h=Q1 (sF e h,()):=by
 unfold sF;cases u:(e.op==[])
 ·have o:=G u;have C:=nt B;have D:=rS B;have z:=Mq F o;have I:oJ e h=Q3:=by unfold oJ;rw[z];rfl
  have J:iJ e h=bM e h:=by unfold iJ;rw[z];rfl
  have E:(cond ((bM e h).2==0) (cond ((bM e h).1!=0) ((bM e h).1!=3) Q4) Q4)=(cond ((bM e h).2==0) (cond ((bM e h).1!=3) ((bM e h).1!=0) Q4) Q4):=by
   cases((bM e h).2==0)<;>cases((bM e h).1!=0)<;>cases((bM e h).1!=3)<;>rfl
  have H:(zaO e h).val=Q1 (.inr (.int .i64 (ite ((cond ((bM e h).2==0) (cond ((bM e h).1!=3) ((bM e h).1!=0) Q4) Q4)=Q3) 5 ((bM e h).2)),[])):=by
   simp only[zaO,Q8,zk,u,C,D,o,I,J,E,if_true,zA,if_false,bA];split<;>rfl
  exact zM H rfl
 ·refine zM (r:=(.int .i64 0,[])) ?_ rfl;simp only[zaO,Q8,u,if_true]
theorem En{e:zf}{cols:List (Sem zj)}(z:tz e)(o:Io cols<=1000000)(u:(e.op==[])=Q4->cG e=Q3):oN e cols=Q3/\uu e cols=sF e cols:=by
 have h:=S7 z o u;exact⟨by unfold oN;rw[h];rfl,by unfold uu;rw[h];rfl⟩
theorem FI(l:List zD):gI l=Lib.join l eZ:=by
 have h:=qK l 0 [];unfold gI;rw[h];have e:l.map ms=l:=by
  rw[show(ms:zD->zD)=id from rfl];exact List.map_id l
 rw[pK,e]
theorem zbN{s:Sem zn}(h:po s)(o:s.1=cT)(u:lz s=Q3):iP s=Pb s:=by
 unfold lz at u;simp only[aE,aQ]at u;rw[(iQ (zeq h.sh o)).2,tC,CG u.2.1,FI];unfold Pb;simp
theorem zbO{s:Sem zn}(h:po s)(o:s.1=eX)(u:oA s=Q3):iP s=qQ s:=by
 unfold oA at u;simp only[aE]at u;rw[(iQ (zes h.sh o)).2,tJ,CG u.1];unfold qQ;simp
theorem Yo{s:Sem zn}(h:po s)(o:s.1=kq)(u:gM s=Q3):iP s=mu s:=by
 unfold gM at u;simp only[aE,aQ]at u;rw[(iQ (zer h.sh o u.1)).2,tG,CG u.2.1];unfold mu;simp
theorem OQ{s:Sem zn}(h:po s)(M:jO s.1):∃t,oR s=Q1 (t,ew s,()):=by
 have C:∀(u:Sem zn)(D:Bool)(t F:zD),dN s=Q1 (t,u,D,())->Io t<=900000->B8 u->(D=Q3->t=F)->(D=Q3->iP s=F)->fx s=(D&&(zQ s.2.1&&fu u s))->∃t,oR s=Q1 (t,ew s,()):=by
  intro u D t F z B E H I J;obtain⟨O,L⟩:=HH h z B E;refine⟨O,?_⟩;rw[L,Yd,J];cases G:D
  ·rfl
  ·rw[I G,H G];cases zQ s.2.1<;>cases fu u s<;>rfl
 rcases M with o|o|o
 ·obtain⟨t,z,B,E⟩:=Rp h o;exact C _ _ _ _ z B (eE h (.inl rfl) (.inr rfl) (.inr rfl) (.inr rfl) (.inl rfl) (.inr rfl) (.inr rfl) (.inr rfl)) E (zbN h o) (QE h o)
 ·obtain⟨z,B⟩:=Rq h o;exact C _ _ _ _ z B (eE h (.inr rfl) (.inr rfl) (.inr rfl) (.inr rfl) (.inl rfl) (.inr rfl) (.inr rfl) (.inr rfl)) (λ_=>rfl) (zbO h o) (QF h o)
 ·obtain⟨t,z,B,E⟩:=M8 h o;exact C _ _ _ _ z B (eE h (.inl rfl) (.inr rfl) (.inr rfl) (.inr rfl) (.inl rfl) (.inr rfl) (.inr rfl) (.inr rfl)) E (Yo h o) (Md h o)
theorem PS{g c:zf->zf->Bool}:∀(l m:List zf),Io l=Io m->(∀x∈l,∀y,c x y=Q3/\(g x y=Q3↔x=y))->Sw g c l m=Q3/\(eqL g l m=Q3↔l=m)
 |[],[],_,_=>⟨rfl,by simp[eqL]⟩
 |[],_::_,h,_=>by simp at h
 |_::_,[],h,_=>by simp at h
 | x::r,y::q,h,hx=>by
  obtain⟨B,u⟩:=hx x sw y;obtain⟨C,D⟩:=PS r q (by simpa using h) (λz E=>hx z (by simp[E]));rw[Sw,eqL];rw[B];by_cases k:g x y=Q3
  ·have:=u.1 k;subst this;simp[k,C,D]
  ·have o:x≠y:=λe=>k (u.2 e)
   simp[k,o]
theorem MS:∀(N:Nat)(a b:zf),sG N a=Q3->jz N a b=Q3/\(fE N a b=Q3↔a=b)
 |0,_,_,h=>by cases h
 | N + 1,.mk D v s l,.mk o z E u,h=>by
  rw[sG]at h;simp only[aE,aQ,ep]at h;obtain⟨_,O⟩:=h;have L:jz (N+1) (.mk D v s l) (.mk o z E u)=(cond (D==o) (cond (YD v z) (cond (s==E) (Ak (fE N) (jz N) l u) Q3) Q3) Q3):=rfl;have M:fE (N+1) (.mk D v s l) (.mk o z E u)=(cond (D==o) (cond (YD v z) (cond (s==E) (NR (fE N) l u) Q4) Q4) Q4):=rfl;rw[L,M];unfold Ak NR;have G:YD v z=Q3↔v=z:=by unfold YD;simp[Prod.ext_iff]
  by_cases C:D=o
  ·by_cases B:v=z
   ·by_cases H:s=E
    ·by_cases F:Io l=Io u
     ·obtain⟨T,U⟩:=PS (g:=fE N) (c:=jz N) l u F (λx S y=>MS N x y (O x S));have I:((↑l.length:Int)!=(↑u.length:Int))=Q4:=by rw[<-g8,jC];exact λh=>h F
      rw[I,G.2 B];simp[C,H,T,U,B]
     ·have I:((↑l.length:Int)!=(↑u.length:Int))=Q3:=jC.2 F;have J:l≠u:=λe=>F (by rw[e])
      rw[I,G.2 B];simp[C,H,J]
    ·rw[G.2 B];simp[C,H]
   ·have:YD v z=Q4:=by rw[<-g8,G];exact B
    rw[this];simp[C,B]
  ·simp[C]
theorem MW{a b:List Int}(h:Io a<=1000000):JR a b=Q3/\(pl a b=Q3↔a=b):=by
 have B:∃r,JS a b=Q1 (r,())/\(r=Q3↔a=b):=by
  by_cases o:Io a=Io b
  ·have u:((↑(Io a):Int)!=(↑(Io b):Int))=Q4:=by rw[<-g8,jC];exact λh=>h o
   have E:(zaP a b).val=Q1 (.inl (.h4 a b (Io a:Int) 0)):=by
    simp only[zaP,Q8,u];rfl
   rcases md (t:=zpU) (la:=a) (lb:=b) (λi=>.h4 a b (Io a:Int) i) (.inr (.kb Q3,[])) (λi=>getD a (i:Int).toNat (zi zg)==getD b (i:Int).toNat (zi zg)) (λ_ _=>rfl) (λi _ G u=>by rw[bh,zH _ _ G,zH _ _ u]) o h with⟨C,z⟩|⟨C,z⟩
   ·exact⟨Q3,zy E (z 0 _ rfl) ow rfl,by simp[C]⟩
   ·exact⟨Q4,zy E z ow rfl,by simp[C]⟩
  ·refine⟨Q4,zM (r:=HI) ?_ rfl,by simp;exact λe=>o (by rw[e])⟩;simp only[zaP,Q8,jC.2 o,if_true]
 obtain⟨r,D,F⟩:=B;refine⟨by unfold JR;rw[D];rfl,?_⟩;have:pl a b=r:=by unfold pl;rw[D];rfl
 rw[this];exact F
theorem X7{a b:List (Sem zj)}(h:Io a<=1000000):O0 a b=Q3/\(AE a b=Q3↔a=b):=by
 have B:∃r,JP a b=Q1 (r,())/\(r=Q3↔a=b):=by
  by_cases o:Io a=Io b
  ·have u:((↑(Io a):Int)!=(↑(Io b):Int))=Q4:=by rw[<-g8,jC];exact λh=>h o
   have E:(zaT a b).val=Q1 (.inl (.h4 a b (Io a:Int) 0)):=by
    simp only[zaT,Q8,u];rfl
   rcases md (t:=zpW) (la:=a) (lb:=b) (λi=>.h4 a b (Io a:Int) i) (.inr (.kb Q3,[])) (λi=>((getD a (i:Int).toNat (zi zj)).1==(getD b (i:Int).toNat (zi zj)).1&&((getD a (i:Int).toNat (zi zj)).2.1==(getD b (i:Int).toNat (zi zj)).2.1&&((getD a (i:Int).toNat (zi zj)).2.2==(getD b (i:Int).toNat (zi zj)).2.2&&Q3)))) (λ_ _=>rfl) (λi _ G u=>by rw[Uq,zH _ _ G,zH _ _ u]) o h with⟨C,z⟩|⟨C,z⟩
   ·exact⟨Q3,zy E (z 0 _ rfl) ow rfl,by simp[C]⟩
   ·exact⟨Q4,zy E z ow rfl,by simp[C]⟩
  ·refine⟨Q4,zM (r:=HI) ?_ rfl,by simp;exact λe=>o (by rw[e])⟩;simp only[zaT,Q8,jC.2 o,if_true]
 obtain⟨r,D,F⟩:=B;refine⟨by unfold O0;rw[D];rfl,?_⟩;have:AE a b=r:=by unfold AE;rw[D];rfl
 rw[this];exact F
theorem X8{a b:List (Sem zp)}(h:Io a<=1000000):O1 a b=Q3/\(AF a b=Q3↔a=b):=by
 have B:∃r,JQ a b=Q1 (r,())/\(r=Q3↔a=b):=by
  by_cases o:Io a=Io b
  ·have u:((↑(Io a):Int)!=(↑(Io b):Int))=Q4:=by rw[<-g8,jC];exact λh=>h o
   have E:(zaU a b).val=Q1 (.inl (.h4 a b (Io a:Int) 0)):=by
    simp only[zaU,Q8,u];rfl
   rcases md (t:=zpX) (la:=a) (lb:=b) (λi=>.h4 a b (Io a:Int) i) (.inr (.kb Q3,[])) (λi=>((getD a (i:Int).toNat (zi zp)).1==(getD b (i:Int).toNat (zi zp)).1&&((getD a (i:Int).toNat (zi zp)).2==(getD b (i:Int).toNat (zi zp)).2&&Q3))) (λ_ _=>rfl) (λi _ G u=>by rw[zg2,zH _ _ G,zH _ _ u]) o h with⟨C,z⟩|⟨C,z⟩
   ·exact⟨Q3,zy E (z 0 _ rfl) ow rfl,by simp[C]⟩
   ·exact⟨Q4,zy E z ow rfl,by simp[C]⟩
  ·refine⟨Q4,zM (r:=HI) ?_ rfl,by simp;exact λe=>o (by rw[e])⟩;simp only[zaU,Q8,jC.2 o,if_true]
 obtain⟨r,D,F⟩:=B;refine⟨by unfold O1;rw[D];rfl,?_⟩;have:AF a b=r:=by unfold AF;rw[D];rfl
 rw[this];exact F
theorem Yl{a b:Sem zo}(Y:Io a.2.1<=1000000)(hu:Io a.2.2.2.1<=1000000)(hr:Io a.t.1<=1000000)(Z:sG 16 a.t.2=Q3):J8 a b=Q3/\(tp a b=Q3↔a=b):=by
 obtain⟨h,B,o,C,D,H⟩:=a;obtain⟨u,E,z,F,G,I⟩:=b;obtain⟨L,T⟩:=X7 (b:=E) (show Io B<=1000000 from Y);obtain⟨M,U⟩:=MW (b:=F) (show Io C<=1000000 from hu);obtain⟨O,W⟩:=X8 (b:=G) (show Io D<=1000000 from hr);obtain⟨S,X⟩:=MS 16 H I Z;have J:J9 (h,B,o,C,D,H) (u,E,z,F,G,I)=Q1 ((cond (h==u) (cond (o==z) (cond (AE B E) (cond (pl C F) (cond (AF D G) (fE 16 H I) Q4) Q4) Q4) Q4) Q4),()):=by
  refine zM (r:=(.bool _,[])) ?_ rfl;simp only[zni,Q8,zk,L,M,O,S];rw[if_pos];cases(h==u)<;>cases(o==z)<;>cases AE B E<;>cases pl C F<;>cases AF D G<;>rfl
 refine⟨by unfold J8;rw[J];rfl,?_⟩;have:tp (h,B,o,C,D,H) (u,E,z,F,G,I)=(cond (h==u) (cond (o==z) (cond (AE B E) (cond (pl C F) (cond (AF D G) (fE 16 H I) Q4) Q4) Q4) Q4) Q4):=by unfold tp;rw[J];rfl
 rw[this];simp only[cF];rw[<-T,<-U,<-W,<-X];have x1:(h==u)=Q3↔h=u:=bh;have x3:(o==z)=Q3↔o=z:=bh;rw[<-x1,<-x3];cases(h==u)<;>cases(o==z)<;>cases AE B E<;>cases pl C F<;>cases AF D G<;>cases fE 16 H I<;>simp
theorem Xo{a b:Sem zq}(U:Io a.2.2.2.1.2.1<=1000000)(Z:Io a.2.2.2.1.2.2.2.1<=1000000)(X:Io a.2.2.2.1.t.1<=1000000)(W:sG 16 a.2.2.2.1.t.2=Q3)(hx:Io a.t.1<=1000000):IV a b=Q3/\(L9 a b=Q3↔a=b):=by
 obtain⟨u,z,B,o,H,C⟩:=a;obtain⟨D,E,F,h,I,G⟩:=b;obtain⟨M,S⟩:=Yl (b:=h) U Z X W;obtain⟨O,T⟩:=MW (b:=I) (show Io H<=1000000 from hx);have J:J8 (o.1,o.2.1,o.2.2.1,o.2.2.2.1,o.t.1,o.t.2) (h.1,h.2.1,h.2.2.1,h.2.2.2.1,h.t.1,h.t.2)=Q3:=M;have Y:tp (o.1,o.2.1,o.2.2.1,o.2.2.2.1,o.t.1,o.t.2) (h.1,h.2.1,h.2.2.1,h.2.2.2.1,h.t.1,h.t.2)=tp o h:=rfl;have L:IW (u,z,B,o,H,C) (D,E,F,h,I,G)=Q1 ((cond (u==D) (cond (z==E) (cond (B==F) (cond (C==G) (cond (tp o h) (pl H I) Q4) Q4) Q4) Q4) Q4),()):=by
  refine zM (r:=(.bool _,[])) ?_ rfl;simp only[zm4,Q8,zk,J,Y,O];rw[if_pos];cases(u==D)<;>cases(z==E)<;>cases(B==F)<;>cases(C==G)<;>cases tp o h<;>rfl
 refine⟨by unfold IV;rw[L];rfl,?_⟩;have:L9 (u,z,B,o,H,C) (D,E,F,h,I,G)=(cond (u==D) (cond (z==E) (cond (B==F) (cond (C==G) (cond (tp o h) (pl H I) Q4) Q4) Q4) Q4) Q4):=by unfold L9;rw[L];rfl
 rw[this];simp only[cF];rw[<-S,<-T];have x1:(u==D)=Q3↔u=D:=bh;have x2:(z==E)=Q3↔z=E:=bh;have x3:(B==F)=Q3↔B=F:=bh;have x6:(C==G)=Q3↔C=G:=bh;rw[<-x1,<-x2,<-x3,<-x6];cases(u==D)<;>cases(z==E)<;>cases(B==F)<;>cases(C==G)<;>cases tp o h<;>cases pl H I<;>simp
theorem Mx(s:zD):∀(l:List (Sem zh))(i:Nat),gH s l (i:Int)=zW (λx:Sem zh=>x.1.1==s) l i
 |[],_=>rfl
 | x::r,i=>by
  rw[gH,zW];have h:=Mx s r (i+1);have e:(((i+1:Nat)):Int)=(i:Int)+1:=by omega
  rw[e]at h;by_cases o:(x.1.1==s)=Q3
  ·rw[if_pos o,if_pos o]
  ·rw[if_neg o,if_neg o,h]
theorem dD(l:List (Sem zh))(s:zD):lK l s=zX l s:=Mx s l 0
theorem dH.keys{x:Sem zh}(h:dH x):∀r∈x.2,zJ x.1.2.2.1 (Io r)=Q3:=by
 intro r u;obtain⟨o,_⟩:=fi h.may;rw[(cL (h.fits r u)).1];exact mg o
theorem Vo(x:Sem zh)(c:Int)(v:Sem ze):Q0 (LT.lt (α:=Int) (zW (λr=>bf r c v) x.2 0) 0)=!gg x c v:=by
 unfold gg;rcases fU (λr=>bf r c v) x.2 0 with h|⟨h,_⟩
 ·rw[h];rfl
 ·have:Q0 (zW (λr=>bf r c v) x.2 0>=0)=Q3:=zx ow;rw[this,aq ow];rfl
theorem Jp{db:List (Sem zh)}(J:∀x∈db,dH x)(hw:∀x∈db,F1 x)(hl:Io db<=13):∃b,wk db=Q1 (b,())/\(b=Q3↔FQ db):=by
 have I:=mI (t:=sK) (Φ:=YB) 1010000 (λi=>.h2 db (i:Int)) (λi=>∀f∈(getD db i (zi zh)).1.t.1,LE.le (α:=Int) 0 (zX db f.2)/\∀o∈(getD db i (zi zh)).2,(zE f.1 o).1≠0->gg (aA db f.2) (aA db f.2).1.2.2.1 (zE f.1 o)=true) (Io db) (by
  intro i z _;have hm:=bN (d:=zi zh) z;have s1:=(hw _ hm).t.nrf;have s2:=(hw _ hm).rows;have Y:=(J _ hm).cols;generalize S:getD db i (zi zh)=x at*;have C:(sK (.h2 db (i:Int))).val=Q1 (.inl (.h5 db (i:Int) ((0:Nat):Int))):=by
   simp only[sK,Q8,zF z];rfl
  have h5:=mI (t:=sK) (Φ:=YB) 1002 (λk=>.h5 db (i:Int) (k:Int)) (λk=>LE.le (α:=Int) 0 (zX db (getD x.1.t.1 k (zi zp)).2)/\∀o∈x.2,(zE (getD x.1.t.1 k (zi zp)).1 o).1≠0->gg (aA db (getD x.1.t.1 k (zi zp)).2) (aA db (getD x.1.t.1 k (zi zp)).2).1.2.2.1 (zE (getD x.1.t.1 k (zi zp)).1 o)=Q3) (Io x.1.t.1) (by
   intro k hk _;have Z:=bN (d:=zi zp) hk;have X:=Y _ Z;generalize hf:getD x.1.t.1 k (zi zp)=f at*;have C:(sK (.h5 db (i:Int) (k:Int))).val=if Q0 (LT.lt (α:=Int) (zX db f.2) 0)=Q3 then Q1 (.inr (.kb Q4,[]))else Q1 (.inl (.h12 db (i:Int) (k:Int) (zX db f.2) ((0:Nat):Int) (f,()))):=by
    simp only[sK,Q8,zt z,aD,S,zF hk,zt hk,hf,dD,if_true];rfl
   by_cases H:LE.le (α:=Int) 0 (zX db f.2)
   ·have g1:=zL.of (t:=sK) (s:=.h5 db (i:Int) (k:Int)) (by rw[C,if_neg (by rw[aQ];omega)]);have L:aA db f.2∈db:=bN (by
     rcases Af db f.2 with h|⟨_,h⟩
     ·rw[h]at H;exact absurd H (by decide)
     ·omega)
    have B:=hw _ L;have u:=J _ L;have U:=mI (t:=sK) (Φ:=YB) 1 (λj=>.h12 db (i:Int) (k:Int) (zX db f.2) (j:Int) (f,())) (λj=>(zE f.1 (getD x.2 j (zi ze.sl))).1≠0->gg (aA db f.2) (aA db f.2).1.2.2.1 (zE f.1 (getD x.2 j (zi ze.sl)))=Q3) (Io x.2) (by
     intro j hj _;have C:(sK (.h12 db (i:Int) (k:Int) (zX db f.2) (j:Int) (f,()))).val=if(cond ((zE f.1 (getD x.2 j (zi ze.sl))).1!=0) (!gg (aA db f.2) (aA db f.2).1.2.2.1 (zE f.1 (getD x.2 j (zi ze.sl)))) Q4)=Q3 then Q1 (.inr (.kb Q4,[]))else Q1 (.inl (.h12 db (i:Int) (k:Int) (zX db f.2) ((j+1:Nat):Int) (f,()))):=by
      simp only[sK,Q8,zk,Prod.eta,zt z,aD,S,zF hj,zt hj,X _ (bN (d:=zi ze.sl) hj),dK H,S8 B.t u.may u.keys B.rows,if_true,sU];rw[XN B.t u.may u.keys B.rows,Vo];rw[if_pos (by cases((getD (getD x.2 j (zi ze.sl)) (Int.toNat f.1) (zi ze)).1!=0)<;>rfl)];rw[zr j um]
     by_cases M:(zE f.1 (getD x.2 j (zi ze.sl))).1=0
     ·exact .inl ⟨λh=>absurd M h,zL.of (by rw[C,if_neg (by rw[M];simp)])⟩
     ·have G:((zE f.1 (getD x.2 j (zi ze.sl))).1!=0)=Q3:=by simpa using M
      by_cases O:gg (aA db f.2) (aA db f.2).1.2.2.1 (zE f.1 (getD x.2 j (zi ze.sl)))=Q3
      ·exact .inl ⟨λ_=>O,zL.of (by rw[C,if_neg (by rw[O,G];simp)])⟩
      ·exact .inr ⟨λh=>O (h M),_,zV.of (by rw[C,if_pos (by rw[G];simpa using O)]),rfl⟩)
    rcases U with⟨F,D⟩|⟨F,r,D,hr⟩
    ·have E:(sK (.h12 db (i:Int) (k:Int) (zX db f.2) (Io x.2:Int) (f,()))).val=Q1 (.inl (.h5 db (i:Int) ((k+1:Nat):Int))):=by
      simp only[sK,Q8,zt z,aD,S,zB];rw[zr k um];rfl
     refine .inl ⟨⟨H,?_⟩,((g1.trans D).trans (zL.of E)).mono ow⟩;exact(az (Q:=λo=>(zE f.1 o).1≠0->gg (aA db f.2) (aA db f.2).1.2.2.1 (zE f.1 o)=Q3)).1 F
    ·refine .inr ⟨λh=>F ?_,r,(g1.ends D).mono ow,hr⟩;exact(az (Q:=λo=>(zE f.1 o).1≠0->gg (aA db f.2) (aA db f.2).1.2.2.1 (zE f.1 o)=Q3)).2 h.2
   ·exact .inr ⟨λh=>H h.1,_,(zV.of (by rw[C,if_pos (by rw[aQ];omega)])).mono ow,rfl⟩)
  rcases h5 with⟨p5,T⟩|⟨p5,r,T,hr⟩
  ·have E:(sK (.h5 db (i:Int) (Io x.1.t.1:Int))).val=Q1 (.inl (.h2 db ((i+1:Nat):Int))):=by
    simp only[sK,Q8,zt z,aD,S,zB];rw[zr i um];rfl
   refine .inl ⟨?_,(((zL.of C).trans T).trans (zL.of E)).mono ow⟩;exact(az (Q:=λf:Sem zp=>LE.le (α:=Int) 0 (zX db f.2)/\∀o∈x.2,(zE f.1 o).1≠0->gg (aA db f.2) (aA db f.2).1.2.2.1 (zE f.1 o)=Q3)).1 p5
  ·refine .inr ⟨λh=>p5 ?_,r,((zL.of C).ends T).mono ow,hr⟩;exact(az (Q:=λf:Sem zp=>LE.le (α:=Int) 0 (zX db f.2)/\∀o∈x.2,(zE f.1 o).1≠0->gg (aA db f.2) (aA db f.2).1.2.2.1 (zE f.1 o)=Q3)).2 h)
 have hb:(∀i,i<Io db->∀f∈(getD db i (zi zh)).1.t.1,LE.le (α:=Int) 0 (zX db f.2)/\∀o∈(getD db i (zi zh)).2,(zE f.1 o).1≠0->gg (aA db f.2) (aA db f.2).1.2.2.1 (zE f.1 o)=Q3)↔FQ db:=
  az (Q:=λx:Sem zh=>∀f∈x.1.t.1,LE.le (α:=Int) 0 (zX db f.2)/\∀o∈x.2,(zE f.1 o).1≠0->gg (aA db f.2) (aA db f.2).1.2.2.1 (zE f.1 o)=Q3)
 have z:(znd db).val=Q1 (.inl (.h2 db ((0:Nat):Int))):=rfl;rcases I with⟨I,W⟩|⟨I,r,W,h4⟩
 ·refine⟨Q3,zy z (W.ends (zV.of (r:=(.kb Q3,[])) ?_)) ow rfl,λ_=>hb.1 I,λ_=>rfl⟩;simp only[sK,Q8,zB];rfl
 ·unfold YB at h4;subst h4;exact⟨Q4,zy z W ow rfl,λh=>(by cases h),λh=>absurd (hb.2 h) I⟩
theorem Jr{o:List (Sem zh)}(Y:∀x∈o,F1 x):∃e:Int,qG o=Q1 (e,())/\(e=0↔jd o):=by
 by_cases M:Io o<=12
 case neg=>
  refine⟨13,?_,λh=>(by cases h),λh=>absurd h.few M⟩;unfold qG al dd;simp only[i9p,Q8];rw[if_pos sg];rfl
 have z:(i9p o).val=Q1 (.inl (.h4 o ((0+1:Nat):Int))):=by
  simp only[i9p,Q8];rw[if_neg sg];rfl
 have F:=mI (t:=Yh) (Φ:=YA) 1 (λi=>.h4 o ((i+1:Nat):Int)) (λi=>Op.bytesLess (getD o i (zi zh)).1.1 (getD o (i+1) (zi zh)).1.1=Q3) (Io o-1) (by
  intro i z _;have Z:i<Io o:=by omega
  have W:i+1<Io o:=by omega
  have J:(Yh (.h4 o ((i+1:Nat):Int))).val=if(!Op.bytesLess (getD o i (zi zh)).1.1 (getD o (i+1) (zi zh)).1.1)=Q3 then Q1 (.inr (.int .i64 15,[]))else Q1 (.inl (.h4 o ((i+1+1:Nat):Int))):=by
   simp only[Yh,lV i um];simp only[Q8,zF W,zt W,zt Z,aD,if_true];rw[zr (i+1) um]
  by_cases h:Op.bytesLess (getD o i (zi zh)).1.1 (getD o (i+1) (zi zh)).1.1=Q3
  ·exact .inl ⟨h,zL.of (by rw[J,if_neg (by rw[h];simp)])⟩
  ·exact .inr ⟨h,_,zV.of (by rw[J,if_pos (by simpa using h)]),15,rfl,by decide⟩)
 rcases F with⟨T,F⟩|⟨T,r,F,e,E,B⟩
 case inr=>
  subst E;exact⟨e,zy z F ow rfl,λh=>absurd h B,λh=>absurd h.names T⟩
 have U:(Yh (.h4 o ((Io o-1+1:Nat):Int))).val=Q1 (.inl (.h9 o ((0:Nat):Int))):=by
  simp only[Yh,Q8];rw[if_neg sg];rfl
 have O:=F.trans (zL.of U);have D:=mI (t:=Yh) (Φ:=YA) 1 (λi=>.h9 o (i:Int)) (λi=>dH (getD o i (zi zh))) (Io o) (by
  intro i z _;obtain⟨e,E,H⟩:=Jm (Y _ (bN (d:=zi zh) z));have S:Em (getD o i (zi zh))=Q3:=by unfold Em;rw[E];rfl
  have C:Jl (getD o i (zi zh))=e:=by unfold Jl;rw[E];rfl
  have J:(Yh (.h9 o (i:Int))).val=if(e !=0)=Q3 then Q1 (.inr (.int .i64 e,[]))else Q1 (.inl (.h9 o ((i+1:Nat):Int))):=by
   simp only[Yh,Q8,zk,zF z,zt z,aD,if_true,Prod.eta,S,C];rw[zr i um]
  by_cases h:e=0
  ·exact .inl ⟨H.1 h,zL.of (by rw[J,if_neg (by rw[h];simp)])⟩
  ·exact .inr ⟨λI=>h (H.2 I),_,zV.of (by rw[J,if_pos (by simpa using h)]),e,rfl,h⟩)
 rcases D with⟨I,D⟩|⟨I,r,D,e,E,B⟩
 case inr=>
  subst E;exact⟨e,zy z (O.ends D) ow rfl,λh=>absurd h B,λh=>absurd ((az (Q:=dH)).2 h.rels) I⟩
 have u:=(az (Q:=dH)).1 I;obtain⟨b,X,G⟩:=Jp (db:=o) u Y ow;have S:Ep o=Q3:=by unfold Ep;rw[X];rfl
 have C:Jo o=b:=by unfold Jo;rw[X];rfl
 have L:(Yh (.h9 o (Io o:Int))).val=if(!b)=Q3 then Q1 (.inr (.int .i64 10,[]))else Q1 (.inr (.int .i64 0,[])):=by
  simp only[Yh,Q8,zB,S,C];rfl
 by_cases h:b=Q3
 ·exact⟨0,zy z (O.ends (D.ends (zV.of (by rw[L,if_neg (by rw[h];simp)])))) ow rfl,λ_=>⟨M,T,u,G.1 h⟩,λ_=>rfl⟩
 ·exact⟨10,zy z (O.ends (D.ends (zV.of (by rw[L,if_pos (by simpa using h)])))) ow rfl,λh=>(by cases h),λhB=>absurd (G.2 hB.bound) h⟩
theorem Dy(x:Int):∀(l:List Int)(i:Nat),(∃j,∃B:j<Io l,eO x l (i:Int)=((i+j:Nat):Int)/\l[j]=x/\∀k(z:k<j),l[k]≠x)\/(eO x l (i:Int)=(-1:Int)/\x∉l)
 |[],i=>.inr ⟨rfl,sw⟩
 | a::r,i=>by
  rw[eO];by_cases h:x=a
  ·rw[if_pos (by simpa using h)];exact .inl ⟨0,sw,sw,h.symm,λk z=>absurd z ow⟩
  ·rw[if_neg (by simpa using h),show((i:Int)+1)=((i+1:Nat):Int) by omega];rcases Dy x r (i+1)with⟨j,B,o,u,C⟩|⟨o,u⟩
   ·refine .inl ⟨j+1,by simpa using B,by rw[o];congr 1;omega,u,λk z=>?_⟩;cases k with
    |zero=>exact λe=>h e.symm
    |succ k=>exact C k ow
   ·exact .inr ⟨o,by simp[u,h]⟩
theorem LG(l:List Int)(x:Int):(∃j,∃o:j<Io l,gF l x=(j:Int)/\l[j]=x/\∀k(B:k<j),l[k]≠x)\/(gF l x=(-1:Int)/\x∉l):=by
 rcases Dy x l 0 with⟨j,o,u,z⟩|h
 ·exact .inl ⟨j,o,by show eO x l ((0:Nat):Int)=_;rw[u,ek],z⟩
 ·exact .inr h
def zb1(c:Sem zj):Prop:=zQ c.1=Q3/\LE.le (α:=Int) 1 c.2.1/\LE.le (α:=Int) c.2.1 3
theorem o6.col{t:Sem zo}(h:o6 t):∀c∈t.2.1,zb1 c:=by
 intro c u;obtain⟨i,o,rfl⟩:=fz u;have:=h.cols i o;rw[aS,zU o,dv]at this;exact⟨this.1,this.2.1,this.2.2.1⟩
theorem Xs{t:Sem zo}{s:zD}(h:¬LT.lt (α:=Int) (zR t s) 0):Int.toNat (zR t s)<Io t.2.1:=by
 rcases wS t s with o|⟨o,u⟩
 ·rw[o]at h;simp at h
 ·omega
theorem o6.at{t:Sem zo}(h:o6 t){s:zD}(o:¬LT.lt (α:=Int) (zR t s) 0):zb1 (getD t.2.1 (Int.toNat (zR t s)) (zi zj)):=h.col _ (vr _ _ (Xs o))
theorem Ll{o:List (Sem zh)}{n:zD}(u:jd o)(h:(0:Int)<=zX o n):o6 (ah o n):=(iR _).1 (u.rels _ (nc h)).may
theorem Hq{t:Sem zo}{o:List zD}(h:fW t o=0):(∀s∈o,¬LT.lt (α:=Int) (zR t s) 0)/\(js t o).Nodup:=by
 unfold fW at h;split at h
 ·rename_i u;split at h
  ·exact⟨u,by assumption⟩
  ·cases h
 ·cases h
theorem SR{s:Sem zn}(u:po s)(h:ew s=Q3)(z:jO s.1):zQ s.2.1=Q3/\bW s.t.t.1=Q3/\(s.1=cT->1<=Io s.2.2.2.1/\Io s.2.2.2.1<=8)/\(s.1=eX->zQ s.t.t.t=Q3)/\(s.1=kq->Io s.2.2.2.1=2):=by
 have hp:=jW h;rcases z with o|o|o
 ·rw[QE u o]at hp;simp only[aE,lz,aQ]at hp;exact⟨hp.2.1,hp.1.2.1,λ_=>hp.1.1.2,λk=>(by rw[o]at k;cases k),λk=>(by rw[o]at k;cases k)⟩
 ·rw[QF u o]at hp;simp only[aE,oA]at hp;exact⟨hp.2.1,hp.1.1,λk=>(by rw[o]at k;cases k),λ_=>hp.1.2.2.1,λk=>(by rw[o]at k;cases k)⟩
 ·rw[Md u o]at hp;simp only[aE,gM,aQ]at hp;exact⟨hp.2.1,hp.1.2.1,λk=>(by rw[o]at k;cases k),λk=>(by rw[o]at k;cases k),λ_=>hp.1.1⟩
end Cad
