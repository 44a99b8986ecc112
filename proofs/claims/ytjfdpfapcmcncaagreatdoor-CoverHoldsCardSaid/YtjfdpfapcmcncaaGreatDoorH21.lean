/- The document's cutting of a text. -/
import Derived.Test.YtjfdpfapcmcncaaGreatDoorH20
namespace Cad
open Go Go.Proofs
open List renaming length→Io,drop→Qh,take→Qg
open IntKind renaming wrap→Γ,i64→Δ
open Tr renaming val→Q8
open Bool renaming false→Q4,true→Q3
open Option renaming some→Q1
open Decidable renaming decide→Q0
open List (getD)
open Tr (chk br re)
open AV (nils agg tup ptr kb str sl)
set_option maxHeartbeats 4000000
abbrev tz:=Option (List (Sem zp))
abbrev oL(o:tz):List (Sem zp):=o.getD []
abbrev TJ(s:zD)(i:Int):tz->ew
 |none=>.h3 s i
 |some l=>.h3b s i l
abbrev VB(s:zD)(i c f:Int)(z:zm [CP.d zp]):tz->ew
 |none=>.h11 s i c f z
 |some l=>.h11b s i c f z l
abbrev VC(s:zD)(i c f:Int)(z:zm [CP.d zp]):tz->ew
 |none=>.h15 s i c f z
 |some l=>.h15b s i c f z l
abbrev Oc(s:zD)(i:Int)(z:zm [CP.d zp]):tz->ew
 |none=>.h20 s i z
 |some l=>.h20b s i z l
abbrev rNo:aw:=(.tup [.nils,.kb Q4],[])
def T6(r:aw)(b:Bool):Prop:=∃l,aI r.2 [Sh.sl zp,Sh.bool] r.1=Q1 (l,b,())
theorem XZ:T6 rNo Q4:=⟨[],rfl⟩
def Nx(s:zD)(j:Nat)(t:Sem ce)(o:tz):ew⊕aw:=if cr t=Q3 then .inl (TJ s (j:Int) (Q1 (oL o++[t])))else .inr rNo
theorem ka(s:zD){j:Nat}(h:j<Io s):Qg (((j+1:Nat):Int).toNat-(j:Int).toNat) (Qh (j:Int).toNat s)=[s[j]]:=by
 rw[aD,aD,show j+1-j=1 by omega,fk h];rfl
theorem v20{s:zD}{j:Nat}{acc:zD}(Z:Io s<=1000000)(u:j<Io s)(U:Io acc<=1000000):∀{o:tz},(oL o).length<=1000000->(cZ (Oc s (j:Int) ((3,acc),()) o)).val=Q1 (
  if s[j]≠39 then .inl (Oc s ((j+1:Nat):Int) ((3,acc++[s[j]]),()) o)
  else if s[j+1]?=Q1 39 then .inl (Oc s ((j+2:Nat):Int) ((3,acc++[39]),()) o)
  else Nx s (j+1) (3,acc) o):=by
 intro o X;have w1:Γ Δ ((j:Int)+1)=((j+1:Nat):Int):=zr j um;have E:Γ Δ (((j+1:Nat):Int)+1)=((j+2:Nat):Int):=zr (j+1) um;have H:(Q0 (0<=(j:Int))&&Q0 ((j:Int)<=((j+1:Nat):Int))&&Q0 (((j+1:Nat):Int)<=(↑(Io s):Int)))=Q3:=by simp;omega
 have Y:Q0 ((↑(Io s):Int)<=(j:Int))=Q4:=aq ow;have S:Q0 ((j:Int)>=(↑(Io s):Int))=Q4:=aq ow;have T:mq ((3,acc):Sem zp)=cr ((3,acc):Sem ce):=BN (t:=((3,acc):Sem ce)) U;have F:iM ((3,acc):Sem zp)=Q3:=wk (t:=((3,acc):Sem ce)) U;have I:(Io acc+[s[j]].length<=1099511627776):=by simp;omega
 by_cases B:s[j]=39
 ·have C:((↑s[j].toNat:Int)!=39)=Q4:=by simp[bne,sJ.2 B]
  have D:((↑s[j].toNat:Int)==39)=Q3:=sJ.2 B;by_cases G:s[j+1]?=Q1 39
  ·obtain⟨z,W⟩:=dp.1 G;have L:((↑s[j+1].toNat:Int)==39)=Q3:=sJ.2 W;have M:Q0 (((j+1:Nat):Int)<(↑(Io s):Int))=Q3:=zx ow;rw[if_neg (by simpa using B),if_pos G];cases o with
   | none=>
    show(cZ (.h20 _ _ _)).val=_;simp only[cZ,w1,E,cn s u,ka s u,zE u,zt u,zt z,M,C,D,L,cn s z,Q8,zY,al,dT,if_true,H,zx I];rw[B]
   | some l=>
    show(cZ (.h20b _ _ _ _)).val=_;simp only[cZ,w1,E,cn s u,ka s u,zE u,zt u,zt z,M,C,D,L,cn s z,Q8,zY,al,dT,if_true,H,zx I];rw[B]
  ·rw[if_neg (by simpa using B),if_neg G];have e:(cond (Q0 (((j+1:Nat):Int)<(↑(Io s):Int))) ((↑(getD s ((j+1:Nat):Int).toNat 0).toNat:Int)==39) Q4)=Q4:=by
    by_cases z:j+1<Io s
    ·rw[zx ow,cn s z];simp only[zY];rw[<-g9,sJ];intro h;exact G (dp.2 ⟨z,h⟩)
    ·rw[aq ow];rfl
   have O:(cond (Q0 (((j+1:Nat):Int)<(↑(Io s):Int))) (zJ ((j+1:Nat):Int) (Io s)) Q3)=Q3:=by
    by_cases z:j+1<Io s
    ·rw[zt z];cases Q0 (((j+1:Nat):Int)<(↑(Io s):Int))<;>rfl
    ·rw[aq ow];rfl
   unfold Nx;cases o with
   | none=>
    show(cZ (.h20 _ _ _)).val=_;simp only[cZ,w1,E,cn s u,ka s u,zE u,zt u,C,D,e,O,Q8,zY,al,dT,if_true,zA,if_false,S,F,T];by_cases m:cr ((3,acc):Sem ce)=Q3
    ·simp[m]
    ·simp[m]
   | some l=>
    have J:(Io l+[((3,acc):Sem zp)].length<=1073741824):=by have:Io l<=1000000:=X;simp;omega
    show(cZ (.h20b _ _ _ _)).val=_;simp only[cZ,w1,E,cn s u,ka s u,zE u,zt u,C,D,e,O,Q8,zY,al,dT,if_true,zA,if_false,S,F,T,zx J];by_cases m:cr ((3,acc):Sem ce)=Q3
    ·simp[m]
    ·simp[m]
 ·have C:((↑s[j].toNat:Int)!=39)=Q3:=by simp only[bne,sT];rw[<-g9,sJ];exact B
  have D:((↑s[j].toNat:Int)==39)=Q4:=by rw[<-g9,sJ];exact B
  rw[if_pos B];cases o with
  | none=>
   show(cZ (.h20 _ _ _)).val=_;simp only[cZ,w1,E,cn s u,ka s u,zE u,zt u,C,D,Q8,zY,dT,if_true,zA,if_false,H,zx I]
  | some l=>
   show(cZ (.h20b _ _ _ _)).val=_;simp only[cZ,w1,E,cn s u,ka s u,zE u,zt u,C,D,Q8,zY,dT,if_true,zA,if_false,H,zx I]
theorem zsL{s:zD}{acc:zD}:∀{o:tz},(cZ (Oc s (Io s:Int) ((3,acc),()) o)).val=Q1 (.inr rNo):=by
 intro o;have h:Q0 ((↑(Io s):Int)>=(↑(Io s):Int))=Q3:=zx (Int.le_refl _);cases o with
 | none=>
  show(cZ (.h20 _ _ _)).val=_;simp only[cZ,zB,Q8,al,if_true,zA,if_false,h]
 | some l=>
  show(cZ (.h20b _ _ _ _)).val=_;simp only[cZ,zB,Q8,al,if_true,zA,if_false,h]
theorem l20{s:zD}{o:tz}(I:Io s<=1000000)(J:(oL o).length<=1000000):∀(n j:Nat)(acc:zD),Io s-j<=n->j<=Io s->Io acc<=j->
  (ff (s.drop j)=none->zV cZ (n+1) (Oc s (j:Int) ((3,acc),()) o) rNo)/\
  (∀t k,ff (s.drop j)=Q1 (t,k)->∀K r,(match Nx s (j+k) (3,acc++t) o with|.inl h=>zV cZ K h r|.inr S=>S=r)->zV cZ (K+k) (Oc s (j:Int) ((3,acc),()) o) r)
 | n, j,acc,X,W,U=>by
  by_cases E:j<Io s
  ·have u:=v20 (o:=o) (acc:=acc) I E ow J;rw[fk E];by_cases C:s[j]=39
   ·rw[if_neg (by simpa using C)]at u;by_cases F:s[j+1]?=Q1 39
    ·rw[if_pos F]at u;obtain⟨H,T⟩:=dp.1 F;obtain⟨n,rfl⟩:∃m,n=m+1:=⟨n-1,ow⟩;obtain⟨L,M⟩:=l20 I J n (j+2) (acc++[39]) ow ow sg;rw[fk H,C,T,M1,show j+1+1=j+2 from rfl];refine⟨λh=>?_,λt k h K r z=>?_⟩
     ·rw[Option.map_eq_none_iff]at h;exact((zL.of u).ends (L h))
     ·rw[eA]at h;obtain⟨⟨O,B⟩,G,D⟩:=h;simp only[cH]at D;obtain⟨rfl,rfl⟩:=D;have:=M O B G K r (by rw[uF];rw[show j+2+B=j+(B+2) by omega];exact z);exact((zL.of u).ends this).mono ow
    ·rw[if_neg F]at u;rw[C,EQ _ (by rw[List.head?_drop];exact F)];refine⟨λh=>(by cases h),λt k h K r z=>?_⟩;simp only[bH,cH]at h;obtain⟨rfl,rfl⟩:=h;rw[pb]at z;revert u z;cases Nx s (j+1) (3,acc) o with
     |inl h=>intro u z;exact(zL.of u).ends z
     |inr S=>intro u z;cases z;exact(zV.of u).mono ow
   ·rw[if_pos C]at u;obtain⟨n,rfl⟩:∃m,n=m+1:=⟨n-1,ow⟩;obtain⟨L,M⟩:=l20 I J n (j+1) (acc++[s[j]]) ow ow sg;rw[HO C];refine⟨λh=>?_,λt k h K r z=>?_⟩
    ·rw[Option.map_eq_none_iff]at h;exact((zL.of u).ends (L h))
    ·rw[eA]at h;obtain⟨⟨O,B⟩,G,D⟩:=h;simp only[cH]at D;obtain⟨rfl,rfl⟩:=D;have:=M O B G K r (by rw[uF];rw[show j+1+B=j+(B+1) by omega];exact z);exact((zL.of u).ends this).mono ow
  ·obtain rfl:j=Io s:=by omega
   rw[jM];exact⟨λ_=>(zV.of zsL).mono ow,λt k h=>(by simp[ff]at h)⟩
theorem zsI{s:zD}{j:Nat}{c f:Int}{z:zm [CP.d zp]}(u:Io s<=1000000)(h:j<Io s)(hp:bz s[j].toNat=Q3):∀{o:tz},(cZ (VB s (j:Int) c f z o)).val=Q1 (.inl (VB s ((j+1:Nat):Int) c f z o)):=by
 intro o;have w1:Γ Δ ((j:Int)+1)=((j+1:Nat):Int):=zr j um;cases o with
 | none=>
  show(cZ (.h11 _ _ _ _ _)).val=_;simp only[cZ,cn s h,zE h,zt h,r9,wo,hp,w1,Q8,zY,sU,if_true]
 | some l=>
  show(cZ (.h11b _ _ _ _ _ _)).val=_;simp only[cZ,cn s h,zE h,zt h,r9,wo,hp,w1,Q8,zY,sU,if_true]
theorem zsH{s:zD}{j f:Nat}{c:UInt8}{z:zm [CP.d zp]}(S:Io s<=1000000)(O:j<=Io s)(M:f<=j)(hp:∀h:j<Io s,bz s[j].toNat=Q4)(H:zZ c.toNat=Q4)(J:c≠39):
  ∀{o:tz},(oL o).length<=1000000->(cZ (VB s (j:Int) (c.toNat:Int) (f:Int) z o)).val=Q1 (Nx s j (1,Qg (j-f) (Qh f s)) o):=by
 intro o L;have E:(cond (Q0 ((j:Int)<(↑(Io s):Int))) (zJ (j:Int) (Io s)&&r8 (↑(getD s (j:Int).toNat 0).toNat:Int)) Q3)=Q3:=by
  by_cases h:j<Io s
  ·rw[zt h,r9];cases Q0 ((j:Int)<(↑(Io s):Int))<;>rfl
  ·rw[aq ow];rfl
 have F:(cond (Q0 ((j:Int)<(↑(Io s):Int))) (yF (↑(getD s (j:Int).toNat 0).toNat:Int)) Q4)=Q4:=by
  by_cases h:j<Io s
  ·rw[cn s h,wo,hp h];cases Q0 ((j:Int)<(↑(Io s):Int))<;>rfl
  ·rw[aq ow];rfl
 have G:(Q0 (0<=(f:Int))&&Q0 ((f:Int)<=(j:Int))&&Q0 ((j:Int)<=(↑(Io s):Int)))=Q3:=by simp;omega
 have D:((c.toNat:Int)==39)=Q4:=by rw[<-g9,sJ];exact J
 have u:(Qg (j-f) (Qh f s)).length<=1000000:=by simp;omega
 have I:mq ((1,Qg (j-f) (Qh f s)):Sem zp)=cr (1,Qg (j-f) (Qh f s)):=BN (t:=((1,Qg (j-f) (Qh f s)):Sem ce)) u;have B:iM ((1,Qg (j-f) (Qh f s)):Sem zp)=Q3:=wk (t:=((1,Qg (j-f) (Qh f s)):Sem ce)) u;unfold Nx;cases o with
 | none=>
  show(cZ (.h11 _ _ _ _ _)).val=_;simp only[cZ,E,F,G,eR,fZ,H,D,Q8,if_true,zA,if_false];simp only[aD,B,I,if_true];generalize Qg (j-f) (Qh f s)=T;by_cases m:cr (1,T)=Q3
  ·simp[m]
  ·simp[m]
 | some l=>
  have C:(Io l+[((1,Qg (j-f) (Qh f s)):Sem zp)].length<=1073741824):=by have:Io l<=1000000:=L;simp;omega
  show(cZ (.h11b _ _ _ _ _ _)).val=_;simp only[cZ,E,F,G,eR,fZ,H,D,Q8,if_true,zA,if_false];simp only[aD,B,I,zx C,if_true];generalize Qg (j-f) (Qh f s)=T;by_cases m:cr (1,T)=Q3
  ·simp[m]
  ·simp[m]
theorem zsK{s:zD}{j:Nat}{c f:Int}{z:zm [CP.d zp]}(u:Io s<=1000000)(h:j<Io s)(hp:zZ s[j].toNat=Q3):∀{o:tz},(cZ (VC s (j:Int) c f z o)).val=Q1 (.inl (VC s ((j+1:Nat):Int) c f z o)):=by
 intro o;have w1:Γ Δ ((j:Int)+1)=((j+1:Nat):Int):=zr j um;cases o with
 | none=>
  show(cZ (.h15 _ _ _ _ _)).val=_;simp only[cZ,cn s h,zE h,zt h,eR,fZ,hp,w1,Q8,zY,sU,if_true]
 | some l=>
  show(cZ (.h15b _ _ _ _ _ _)).val=_;simp only[cZ,cn s h,zE h,zt h,eR,fZ,hp,w1,Q8,zY,sU,if_true]
theorem zsJ{s:zD}{j f:Nat}{c:UInt8}{z:zm [CP.d zp]}(O:Io s<=1000000)(M:j<=Io s)(L:f<=j)(hp:∀h:j<Io s,zZ s[j].toNat=Q4)(I:c≠39):
  ∀{o:tz},(oL o).length<=1000000->(cZ (VC s (j:Int) (c.toNat:Int) (f:Int) z o)).val=Q1 (Nx s j (2,Qg (j-f) (Qh f s)) o):=by
 intro o J;have E:(cond (Q0 ((j:Int)<(↑(Io s):Int))) (zJ (j:Int) (Io s)&&fP (↑(getD s (j:Int).toNat 0).toNat:Int)) Q3)=Q3:=by
  by_cases h:j<Io s
  ·rw[zt h,eR];cases Q0 ((j:Int)<(↑(Io s):Int))<;>rfl
  ·rw[aq ow];rfl
 have F:(cond (Q0 ((j:Int)<(↑(Io s):Int))) (gQ (↑(getD s (j:Int).toNat 0).toNat:Int)) Q4)=Q4:=by
  by_cases h:j<Io s
  ·rw[cn s h,fZ,hp h];cases Q0 ((j:Int)<(↑(Io s):Int))<;>rfl
  ·rw[aq ow];rfl
 have G:(Q0 (0<=(f:Int))&&Q0 ((f:Int)<=(j:Int))&&Q0 ((j:Int)<=(↑(Io s):Int)))=Q3:=by simp;omega
 have D:((c.toNat:Int)==39)=Q4:=by rw[<-g9,sJ];exact I
 have u:(Qg (j-f) (Qh f s)).length<=1000000:=by simp;omega
 have H:mq ((2,Qg (j-f) (Qh f s)):Sem zp)=cr (2,Qg (j-f) (Qh f s)):=BN (t:=((2,Qg (j-f) (Qh f s)):Sem ce)) u;have B:iM ((2,Qg (j-f) (Qh f s)):Sem zp)=Q3:=wk (t:=((2,Qg (j-f) (Qh f s)):Sem ce)) u;unfold Nx;cases o with
 | none=>
  show(cZ (.h15 _ _ _ _ _)).val=_;simp only[cZ,E,F,G,D,Q8,if_true,zA,if_false];simp only[aD,B,H,if_true];generalize Qg (j-f) (Qh f s)=T;by_cases m:cr (2,T)=Q3
  ·simp[m]
  ·simp[m]
 | some l=>
  have C:(Io l+[((2,Qg (j-f) (Qh f s)):Sem zp)].length<=1073741824):=by have:Io l<=1000000:=J;simp;omega
  show(cZ (.h15b _ _ _ _ _ _)).val=_;simp only[cZ,E,F,G,D,Q8,if_true,zA,if_false];simp only[aD,B,H,zx C,if_true];generalize Qg (j-f) (Qh f s)=T;by_cases m:cr (2,T)=Q3
  ·simp[m]
  ·simp[m]
theorem IN{p:Int->Bool}{s:zD}(st:Nat->ew)(z:∀j(B:j<Io s),p s[j].toNat=Q3->(cZ (st j)).val=Q1 (.inl (st (j+1)))):∀(n j:Nat),Io s-j<=n->j<=Io s->
  zL cZ (cQ p (s.drop j)) (st j) (st (j+cQ p (s.drop j)))/\j+cQ p (s.drop j)<=Io s/\∀h:j+cQ p (s.drop j)<Io s,p s[j+cQ p (s.drop j)].toNat=Q4
 | n,j,E,B=>by
  by_cases o:j<Io s
  ·by_cases hp:p s[j].toNat=Q3
   ·obtain⟨n,rfl⟩:∃m,n=m+1:=⟨n-1,ow⟩;have e:cQ p (s.drop j)=cQ p (s.drop (j+1))+1:=by rw[fk o,cQ,if_pos hp]
    obtain⟨C,F,D⟩:=IN st z n (j+1) ow ow;have u:j+cQ p (s.drop j)=j+1+cQ p (s.drop (j+1)):=by omega
    refine⟨?_,ow,?_⟩
    ·rw[u,e];exact((zL.of (z j o hp)).trans C).mono ow
    ·intro h;simp only[u]at h⊢;exact D h
   ·have e:cQ p (s.drop j)=0:=by rw[fk o,cQ,if_neg hp]
    rw[e];exact⟨zL.refl _,ow,λ_=>by simpa using hp⟩
  ·have e:cQ p (s.drop j)=0:=by rw[Ci ow];rfl
   rw[e];exact⟨zL.refl _,ow,λh=>absurd h ow⟩
theorem v3{s:zD}{i:Nat}(G:Io s<=1000000)(h:i<Io s):∀{o:tz},(oL o).length<=1000000->∃z,(cZ (TJ s (i:Int) o)).val=Q1 (
  if(cond ((s[i].toNat:Int)==32) Q3 ((s[i].toNat:Int)==10))=Q3 then .inl (TJ s ((i+1:Nat):Int) o)
  else if aK s[i].toNat=Q3 then .inl (VB s ((i+1:Nat):Int) s[i].toNat i z o)
  else if zZ s[i].toNat=Q3 then .inl (VC s ((i+1:Nat):Int) s[i].toNat i z o)
  else if s[i]=39 then .inl (Oc s ((i+1:Nat):Int) ((3,[]),()) o)
  else Nx s (i+1) (4,[s[i]]) o):=by
 intro o F;refine⟨((4,[s[i]]),()),?_⟩;have w1:Γ Δ ((i:Int)+1)=((i+1:Nat):Int):=zr i um;have D:(Q0 (0<=(i:Int))&&Q0 ((i:Int)<=((i+1:Nat):Int))&&Q0 (((i+1:Nat):Int)<=(↑(Io s):Int)))=Q3:=by simp;omega
 have E:mq ((4,[s[i]]):Sem zp)=cr (4,[s[i]]):=BN (t:=((4,[s[i]]):Sem ce)) sw;have u:iM ((4,[s[i]]):Sem zp)=Q3:=wk (t:=((4,[s[i]]):Sem ce)) sw;have B:s[i]=39↔((s[i].toNat:Int)==39)=Q3:=sJ.symm;unfold Nx;simp only[B];cases o with
 | none=>
  show(cZ (.h3 _ _)).val=_;simp only[cZ,w1,cn s h,ka s h,zE h,zt h,D,mr,oT,eR,fZ,Q8,if_true,u,E];repeat' split
  all_goals first|rfl|simp_all
 | some l=>
  have C:(Io l+[((4,[s[i]]):Sem zp)].length<=1073741824):=by have:Io l<=1000000:=F;simp;omega
  show(cZ (.h3b _ _ _)).val=_;simp only[cZ,w1,cn s h,ka s h,zE h,zt h,D,mr,oT,eR,fZ,Q8,if_true,u,E,zx C];repeat' split
  all_goals first|rfl|simp_all
theorem SR{c:UInt8}(h:aK c.toNat=Q3):zZ c.toNat=Q4/\c≠39:=by
 have o:aK ((39:UInt8).toNat:Int)=Q4:=rfl;constructor
 ·have u:(65:Int)<=(c.toNat:Int):=by
   by_cases k:(65:Int)<=(c.toNat:Int)
   ·exact k
   ·exfalso;have z:Q0 ((c.toNat:Int)>=97)=Q4:=aq ow;have B:Q0 ((c.toNat:Int)>=65)=Q4:=aq ow;unfold aK at h;rw[z,B]at h;cases h
  have C:Q0 ((c.toNat:Int)<=57)=Q4:=aq ow;unfold zZ;rw[C];cases Q0 ((c.toNat:Int)>=48)<;>rfl
 ·rintro rfl;rw[o]at h;cases h
theorem UE{c:UInt8}(h:zZ c.toNat=Q3):c≠39:=by
 have o:zZ ((39:UInt8).toNat:Int)=Q4:=rfl;rintro rfl;rw[o]at h;cases h
theorem Er{s:zD}(F:Io s<=1000000):∀(n i:Nat)(o:tz),Io s+1<=n+i->i<=Io s->(oL o).length<=i->∃r,zV cZ (3*(Io s-i)+3) (TJ s (i:Int) o) r/\T6 r (xp n (s.drop i) (oL o).length)
 |0,i,o,h1,h2,h3=>by omega
 | n + 1,i,o,h1,h2,h3=>by
  by_cases O:i<Io s
  ·obtain⟨z,C⟩:=v3 (o:=o) F O ow;rw[fk O,xp];have u:Qh i s=s[i]::Qh (i+1) s:=fk O;have next:∀(j:Nat)(t:Sem ce),i<j->j<=Io s->∃r,(match Nx s j t o with|.inl h=>zV cZ (3*(Io s-j)+3) h r|.inr I=>I=r)/\T6 r (ite (cr t=Q3) (xp n (s.drop j) ((oL o).length+1)) Q4):=by
    intro j t h0 T;unfold Nx;by_cases m:cr t=Q3
    ·rw[if_pos m,if_pos m];obtain⟨r,B,E⟩:=Er F n j (Q1 (oL o++[t])) ow T sg;refine⟨r,B,?_⟩;have:(oL (Q1 (oL o++[t]))).length=(oL o).length+1:=by simp
     rw[this]at E;exact E
    ·rw[if_neg m,if_neg m];exact⟨rNo,rfl,XZ⟩
   by_cases X:(cond ((s[i].toNat:Int)==32) Q3 ((s[i].toNat:Int)==10))=Q3
   ·rw[if_pos X]at C⊢;obtain⟨r,B,E⟩:=Er F n (i+1) o ow ow ow;exact⟨r,((zL.of C).ends B).mono ow,E⟩
   ·rw[if_neg X]at C⊢;unfold qd;by_cases L:aK s[i].toNat=Q3
    ·rw[if_pos L]at C⊢;obtain⟨b1,J⟩:=SR L;obtain⟨G,H,W⟩:=IN (p:=bz) (s:=s) (λj=>VB s (j:Int) (s[i].toNat:Int) (i:Int) z o) (λj S hp=>zsI F S hp) (Io s) (i+1) ow ow;have D:=zsH (z:=z) (c:=s[i]) (f:=i) F H ow W b1 J (o:=o) ow;rw[show i+1+cQ bz (Qh (i+1) s)-i=cQ bz (Qh (i+1) s)+1 by omega,u]at D;obtain⟨r,B,E⟩:=next (i+1+cQ bz (Qh (i+1) s)) (1,(s[i]::Qh (i+1) s).take (cQ bz (Qh (i+1) s)+1)) ow H
     refine⟨r,?_,?_⟩
     ·revert D B;cases Nx s (i+1+cQ bz (Qh (i+1) s)) (1,(s[i]::Qh (i+1) s).take (cQ bz (Qh (i+1) s)+1)) o with
      |inl h=>intro D B;exact(((zL.of C).trans G).ends ((zL.of D).ends B)).mono ow
      |inr I=>intro D B;cases B;exact(((zL.of C).trans G).ends (zV.of D)).mono ow
     ·rw[<-u,F8];rw[show i+(cQ bz (Qh (i+1) s)+1)=i+1+cQ bz (Qh (i+1) s) by omega];rw[u];exact E
    ·rw[if_neg L]at C⊢;by_cases M:zZ s[i].toNat=Q3
     ·rw[if_pos M]at C⊢;have J:=UE M;obtain⟨G,H,W⟩:=IN (p:=zZ) (s:=s) (λj=>VC s (j:Int) (s[i].toNat:Int) (i:Int) z o) (λj S hp=>zsK F S hp) (Io s) (i+1) ow ow;have D:=zsJ (z:=z) (c:=s[i]) (f:=i) F H ow W J (o:=o) ow;rw[show i+1+cQ zZ (Qh (i+1) s)-i=cQ zZ (Qh (i+1) s)+1 by omega,u]at D;obtain⟨r,B,E⟩:=next (i+1+cQ zZ (Qh (i+1) s)) (2,(s[i]::Qh (i+1) s).take (cQ zZ (Qh (i+1) s)+1)) ow H
      refine⟨r,?_,?_⟩
      ·revert D B;cases Nx s (i+1+cQ zZ (Qh (i+1) s)) (2,(s[i]::Qh (i+1) s).take (cQ zZ (Qh (i+1) s)+1)) o with
       |inl h=>intro D B;exact(((zL.of C).trans G).ends ((zL.of D).ends B)).mono ow
       |inr I=>intro D B;cases B;exact(((zL.of C).trans G).ends (zV.of D)).mono ow
      ·rw[<-u,F8];rw[show i+(cQ zZ (Qh (i+1) s)+1)=i+1+cQ zZ (Qh (i+1) s) by omega];rw[u];exact E
     ·rw[if_neg M]at C⊢;by_cases Y:s[i]=39
      ·rw[if_pos Y]at C⊢;obtain⟨q1,q2⟩:=l20 (o:=o) F ow (Io s-(i+1)) (i+1) [] (af _) ow sw;cases U:ff (Qh (i+1) s)with
       | none=>
        have hm:cr ((0,[]):Sem ce)=Q4:=rfl;simp only[hm,zA,if_false];exact⟨rNo,((zL.of C).ends (q1 U)).mono ow,XZ⟩
       | some x=>
        obtain⟨t,k⟩:=x;obtain⟨k1,Z,_⟩:=sj _ _ _ _ (af _) U;have Z:k<=Io s-(i+1):=by simpa using Z
        obtain⟨r,B,E⟩:=next (i+1+k) (3,t) ow ow
        refine⟨r,((zL.of C).ends (q2 t k U _ r B)).mono ow,?_⟩;simp only;rw[<-u,F8,show i+(k+1)=i+1+k by omega];exact E
      ·rw[if_neg Y]at C⊢;obtain⟨r,B,E⟩:=next (i+1) (4,[s[i]]) ow ow
       refine⟨r,?_,E⟩;revert C B;cases Nx s (i+1) (4,[s[i]]) o with
       |inl h=>intro C B;exact((zL.of C).ends B).mono ow
       |inr I=>intro C B;cases B;exact(zV.of C).mono ow
  ·obtain rfl:i=Io s:=by omega
   rw[jM,xp];cases o with
   | none=>
    refine⟨(.tup [.nils,.bool Q3],[]),(zV.of ?_).mono ow,[],rfl⟩;show(cZ (.h3 _ _)).val=_;simp only[cZ,zB,Q8];rfl
   | some l=>
    refine⟨(.tup [.vec 0,.bool (Q0 ((↑l.length:Int)<=400))],[.vec zp l]),(zV.of ?_).mono ow,l,?_⟩
    ·show(cZ (.h3b _ _ _)).val=_;simp only[cZ,zB,Q8];rfl
    ·have e:Q0 ((↑l.length:Int)<=400)=Q0 (Io l<=400):=by
      by_cases h:Io l<=400
      ·rw[zx h];exact zx ow
      ·rw[aq h];exact aq ow
     rw[e];rfl
theorem MG{s:zD}(B:Io s<=1000000):∃l,JA s=Q1 (l,(cut s).2==(0:Int),()):=by
 obtain⟨r,h,l,o⟩:=Er B (Io s+1) 0 none ow ow sw;have u:=CK (Io s+1) s 0 [] ow ow ow sw;have z:((cut s).2==(0:Int))=xp (Io s+1) (s.drop 0) ([]:List (Sem zp)).length:=u;refine⟨l,?_⟩;rw[z];exact zy (s:=TJ s ((0:Nat):Int) none) rfl h ow o
theorem XR{s:zD}(o:Io s<=1000000):Jz s=Q3:=by
 obtain⟨l,h⟩:=MG o;unfold Jz;rw[h];rfl
theorem zbs{s:zD}(o:Io s<=1000000):(AH s).2=((cut s).2==(0:Int)):=by
 obtain⟨l,h⟩:=MG o;unfold AH;rw[h];rfl
theorem uh{α:Type}(p:α->Bool):∀(l:List α)(i:Nat),(!Q0 (zW p l i>=0))=Q3↔∀x∈l,p x=Q4
 | [],i=>by
  refine⟨λ_ x o=>(by cases o),λ_=>?_⟩;rw[zW];rfl
 | y::r,i=>by
  refine⟨λh=>qm p _ i h,λh=>?_⟩;rw[zW,h y sw];exact(uh p r (i+1)).2 λx o=>h x (by simp[o])
theorem jz{x:Sem zn}(X:Io x.2.2.2.1<=1000)(Y:Io x.2.2.2.2.1<=1000)(Z:Io x.2.2.2.2.2.2.1<=1000)(h8:Io x.2.2.2.2.2.2.2.1<=1000)(O:Io x.2.2.2.2.2.2.2.2.2.1<=1000)(S:Io x.2.2.2.2.2.2.2.2.2.2.1<=1000):
  eI x=Q3↔x.2.1=[]/\x.2.2.1=[]/\x.2.2.2.2.2.1=[]/\x.2.2.2.2.2.2.2.2.2.2.2.2=[]/\x.2.2.2.1=[]/\x.2.2.2.2.1=[]/\x.2.2.2.2.2.2.1=[]/\x.2.2.2.2.2.2.2.1=[]/\x.2.2.2.2.2.2.2.2.2.1=[]/\x.2.2.2.2.2.2.2.2.2.2.1=[]/\x.2.2.2.2.2.2.2.2.1=dC/\x.2.2.2.2.2.2.2.2.2.2.2.1=dC:=by
 unfold eI
 have T:(Γ Δ (Γ Δ (Γ Δ (Γ Δ (Γ Δ ((↑(Io x.2.2.2.1):Int)+(↑(Io x.2.2.2.2.1):Int))+(↑(Io x.2.2.2.2.2.2.1):Int))+(↑(Io x.2.2.2.2.2.2.2.1):Int))+(↑(Io x.2.2.2.2.2.2.2.2.2.1):Int))+(↑(Io x.2.2.2.2.2.2.2.2.2.2.1):Int)))=
   ((Io x.2.2.2.1+Io x.2.2.2.2.1+Io x.2.2.2.2.2.2.1+Io x.2.2.2.2.2.2.2.1+Io x.2.2.2.2.2.2.2.2.2.1+Io x.2.2.2.2.2.2.2.2.2.2.1:Nat):Int):=by
  have g:∀n:Nat,n<=10000->Γ Δ (n:Int)=(n:Int):=λn hn=>Yz n (by omega)
  rw[<-uG,g _ (by omega),<-uG,g _ (by omega),<-uG,g _ (by omega),<-uG,g _ (by omega),<-uG,g _ (by omega)]
 rw[T];constructor
 ·intro h;obtain⟨F,h⟩:=ck h;obtain⟨G,h⟩:=ck h;obtain⟨U,W⟩:=ck h;simp only[bg,List.append_eq_nil_iff]at F;obtain⟨⟨⟨o,C⟩,D⟩,E⟩:=F;have G:Io x.2.2.2.1+Io x.2.2.2.2.1+Io x.2.2.2.2.2.2.1+Io x.2.2.2.2.2.2.2.1+Io x.2.2.2.2.2.2.2.2.2.1+Io x.2.2.2.2.2.2.2.2.2.2.1=0:=by
   have:=bG G;exact Int.ofNat.inj this
  refine⟨o,C,D,E,?_,?_,?_,?_,?_,?_,kH.1 U,kH.1 W⟩<;>exact AW (by omega)
 ·rintro⟨o,C,D,E,H,I,J,L,M,u,z,B⟩;rw[o,C,D,E,H,I,J,L,M,u,z,B,show ib dC=Q3 from rfl];rfl
theorem Yf(s:Sem zn):er s=(fy s&&((cut (iQ s)).2==0)):=by
 unfold er qH;cases fy s
 ·rfl
 ·show((ite (((cut (iQ s)).2!=0)=Q3) (([],1):Sem Sh.str×Sem zg) (iQ s,0)).2==0)=_;cases h:((cut (iQ s)).2==0)
  ·have:((cut (iQ s)).2!=0)=Q3:=by simp only[bne,h];rfl
   rw[if_pos this];rfl
  ·have:((cut (iQ s)).2!=0)=Q4:=by simp only[bne,h];rfl
   rw[this];rfl
theorem WQ(s:zD):bV s=zQ s:=rfl
theorem HH{s:Sem zn}(h:pq s){t:zD}{o:Sem zn}{u:Bool}(D:dK s=Q1 (t,o,u,()))(Y:Io t<=900000)(L:B9 o):
  ∃z,oU s=Q1 (z,(u&&(zQ s.2.1&&(fw o s&&((cut t).2==(0:Int))))),()):=by
 have Z:=h.sh.table;have H:wv s=Q3:=by unfold wv;rw[D];rfl
 have I:BR s=(t,o,u):=by unfold BR;rw[D];rfl
 obtain⟨U,_⟩:=sb (b:=s) L;have S:=bB (s:=s.2.1) ow;have T:=fe (s:=s.2.1) ow;have M:=XR (s:=t) ow;have O:=zbs (s:=t) ow;have es:wv (s.1,s.2.1,s.2.2.1,s.2.2.2.1,s.t.1,s.t.2.1,s.t.q.1,s.t.q.2.1,s.t.t.1,s.t.t.2.1,s.t.t.q.1,s.t.t.q.2.1,s.t.t.t)=Q3:=H;have J:BR (s.1,s.2.1,s.2.2.1,s.2.2.2.1,s.t.1,s.t.2.1,s.t.q.1,s.t.q.2.1,s.t.t.1,s.t.t.2.1,s.t.t.q.1,s.t.t.q.2.1,s.t.t.t)=(t,o,u):=I;have W:BP (o.1,o.2.1,o.2.2.1,o.2.2.2.1,o.t.1,o.t.2.1,o.t.q.1,o.t.q.2.1,o.t.t.1,o.t.t.2.1,o.t.t.q.1,o.t.t.q.2.1,o.t.t.t) (s.1,s.2.1,s.2.2.1,s.2.2.2.1,s.t.1,s.t.2.1,s.t.q.1,s.t.q.2.1,s.t.t.1,s.t.t.2.1,s.t.t.q.1,s.t.t.q.2.1,s.t.t.t)=Q3:=U;have X:fw (o.1,o.2.1,o.2.2.1,o.2.2.2.1,o.t.1,o.t.2.1,o.t.q.1,o.t.q.2.1,o.t.t.1,o.t.t.2.1,o.t.t.q.1,o.t.t.q.2.1,o.t.t.t) (s.1,s.2.1,s.2.2.1,s.2.2.2.1,s.t.1,s.t.2.1,s.t.q.1,s.t.q.2.1,s.t.t.1,s.t.t.2.1,s.t.t.q.1,s.t.t.q.2.1,s.t.t.t)=fw o s:=rfl;have C:∃z b,(zhD s).val=Q1 (.inr (.tup [.str z,b],[]))/\(b=.kb Q3/\(u&&(zQ s.2.1&&(fw o s&&((cut t).2==(0:Int)))))=Q3\/(b=.kb Q4/\(u&&(zQ s.2.1&&(fw o s&&((cut t).2==(0:Int)))))=Q4)):=by
  simp only[zhD,Q8,zk,es,J,W,X,S,T,M,O,if_true];generalize fw o s=E;generalize zQ s.2.1=F;generalize((cut t).2==(0:Int))=G;cases u<;>cases F<;>cases E<;>cases G<;>first|exact⟨_,_,rfl,.inl ⟨rfl,rfl⟩⟩|exact⟨_,_,rfl,.inr ⟨rfl,rfl⟩⟩
 obtain⟨z,b,C,B⟩:=C;refine⟨z,zH C ?_⟩;rcases B with⟨rfl,B⟩|⟨rfl,B⟩<;>rw[B]<;>rfl
theorem OY{s:Sem zn}(h:pq s):∃t b,oU s=Q1 (t,b,()):=by
 obtain⟨t,C,E,o,u,z⟩:=O1 h;obtain⟨D,B⟩:=HH h o u z;exact⟨D,_,B⟩
theorem QK{s:Sem zn}(h:pq s)(o:s.1=[99,111,112,121]):fy s=(lv s&&(zQ s.2.1&&fw (s.1,s.2.1,s.2.2.1,s.2.2.2.1,[],[],[],[],s.2.2.2.2.2.2.2.2.1,[],[],dC,[]) s)):=by
 have hn:=h.sh.names.1;have T:=h.sh.cols.1;have U:=h.sh.uniques.1;have W:=h.sh.refs.1;have Y:=h.sh.row;have X:=h.sh.sets.1;obtain⟨Z,p1,p2,p3,p4,p5,p6,p7,p8,p9,H⟩:=zbi o;obtain⟨_,hp⟩:=eJ (s:=s) (g:=_) (b:=_) (by simp only[vt,Q8,Z,p1,p2,p3,p4,p5,p6,p7,p8,p9,H,if_true,if_false,zA,zk];exact rfl);obtain⟨_,u⟩:=sb (a:=(s.1,s.2.1,s.2.2.1,s.2.2.2.1,[],[],[],[],s.2.2.2.2.2.2.2.2.1,[],[],dC,[])) (b:=s) (eD h (.inl rfl) (.inr rfl) (.inr rfl) (.inr rfl) (.inl rfl) (.inr rfl) (.inr rfl) (.inr rfl));have C:=jz (x:=(s.1,[],[],[],s.2.2.2.2.1,s.2.2.2.2.2.1,s.2.2.2.2.2.2.1,s.2.2.2.2.2.2.2.1,dC,s.2.2.2.2.2.2.2.2.2.1,s.2.2.2.2.2.2.2.2.2.2.1,s.2.2.2.2.2.2.2.2.2.2.2.1,s.2.2.2.2.2.2.2.2.2.2.2.2)) (by simp) (by simpa using bt T (by omega)) (by simpa using bt U (by omega)) (by simpa using bt W (by omega)) (by simpa using bt Y (by omega)) (by simpa using bt X (by omega));have B:eu (s.1,[],[],[],s.2.2.2.2.1,s.2.2.2.2.2.1,s.2.2.2.2.2.2.1,s.2.2.2.2.2.2.2.1,dC,s.2.2.2.2.2.2.2.2.2.1,s.2.2.2.2.2.2.2.2.2.2.1,s.2.2.2.2.2.2.2.2.2.2.2.1,s.2.2.2.2.2.2.2.2.2.2.2.2)=Q3:=gg (by simp) (by simp) (by have:=h.sh.key;simpa using this) (by have:=h.sh.role;simpa using this);rw[hp];apply jb.2;have z:fw (s.1,s.2.1,s.2.2.1,s.2.2.2.1,[],[],[],[],s.2.2.2.2.2.2.2.2.1,[],[],dC,[]) s=Q3↔eI (s.1,[],[],[],s.2.2.2.2.1,s.2.2.2.2.2.1,s.2.2.2.2.2.2.1,s.2.2.2.2.2.2.2.1,dC,s.2.2.2.2.2.2.2.2.2.1,s.2.2.2.2.2.2.2.2.2.2.1,s.2.2.2.2.2.2.2.2.2.2.2.1,s.2.2.2.2.2.2.2.2.2.2.2.2)=Q3:=by
  rw[u,C];obtain⟨s1,s2,s3,s4,s5,s6,s7,s8,s9,h0,h1,h2,h3⟩:=s;simp only[cH,true_and];constructor
  ·intro k;simp_all
  ·intro k;simp_all
 have D:=uh (λx=>!bV x) s.2.2.2.1 0;have F:(!Q0 (zW (λx=>!bV x) s.2.2.2.1 0>=0))=Q0 (∀x∈s.2.2.2.1,zQ x=Q3):=by
  apply jb.2;rw[D,KK];exact⟨λk x G=>by have:=k x G;simpa[WQ]using this,λk x G=>by have:=k x G;simpa[WQ]using this⟩
 have E:(cond (Q0 ((↑(Io s.2.2.2.1):Int)<1)) Q3 (Q0 ((↑(Io s.2.2.2.1):Int)>8)))=!(Q0 (1<=Io s.2.2.2.1)&&Q0 (Io s.2.2.2.1<=8)):=by
  by_cases a:1<=Io s.2.2.2.1
  ·rw[aq (show¬(↑(Io s.2.2.2.1):Int)<1 by omega),zx a];by_cases b:Io s.2.2.2.1<=8
   ·rw[aq (show¬(↑(Io s.2.2.2.1):Int)>8 by omega),zx b];rfl
   ·rw[zx (show(↑(Io s.2.2.2.1):Int)>8 by omega),aq b];rfl
  ·rw[zx (show(↑(Io s.2.2.2.1):Int)<1 by omega),aq a];rfl
 rw[F,E,B];unfold lv;rw[show bV s.2.1=zQ s.2.1 from rfl,show bV s.2.2.1=zQ s.2.2.1 from rfl];rw[jb.2 z];generalize eI _=I;generalize bW s.2.2.2.2.2.2.2.2.1=J;generalize zQ s.2.1=L;generalize zQ s.2.2.1=M;generalize Q0 (∀x∈s.2.2.2.1,zQ x=Q3)=O;generalize(Q0 (1<=Io s.2.2.2.1)&&Q0 (Io s.2.2.2.1<=8))=S;cases I<;>cases J<;>cases L<;>cases M<;>cases O<;>cases S<;>simp
theorem QL{s:Sem zn}(h:pq s)(o:s.1=eW):fy s=(oC s&&(zQ s.2.1&&fw (s.1,s.2.1,s.2.2.1,[],[],s.t.2.1,[],[],s.t.t.1,[],[],dC,s.t.t.t) s)):=by
 have O:=h.sh.names.1;have M:=h.sh.cols.1;have S:=h.sh.uniques.1;have T:=h.sh.refs.1;have W:=h.sh.row;have U:=h.sh.sets.1;obtain⟨X,Y,Z,p3,p4,p5,p6,p7,p8,p9,D,E⟩:=zbj o;obtain⟨_,hp⟩:=eJ (s:=s) (g:=_) (b:=_) (by simp only[vt,Q8,X,Y,Z,p3,p4,p5,p6,p7,p8,p9,D,E,if_true,if_false,zA,zk];exact rfl);obtain⟨_,u⟩:=sb (a:=(s.1,s.2.1,s.2.2.1,[],[],s.t.2.1,[],[],s.t.t.1,[],[],dC,s.t.t.t)) (b:=s) (eD h (.inr rfl) (.inr rfl) (.inr rfl) (.inr rfl) (.inl rfl) (.inr rfl) (.inr rfl) (.inr rfl));have C:=jz (x:=(s.1,[],[],s.2.2.2.1,s.t.1,[],s.t.q.1,s.t.q.2.1,dC,s.t.t.2.1,s.t.t.q.1,s.t.t.q.2.1,[])) (by simpa using bt O ow) (by simpa using bt M ow) (by simpa using bt S ow) (by simpa using bt T ow) (by simpa using bt W ow) (by simpa using bt U ow);have B:eu (s.1,[],[],s.2.2.2.1,s.t.1,[],s.t.q.1,s.t.q.2.1,dC,s.t.t.2.1,s.t.t.q.1,s.t.t.q.2.1,[])=Q3:=gg sw sw sw sw;rw[hp];apply jb.2;have z:fw (s.1,s.2.1,s.2.2.1,[],[],s.t.2.1,[],[],s.t.t.1,[],[],dC,s.t.t.t) s=Q3↔eI (s.1,[],[],s.2.2.2.1,s.t.1,[],s.t.q.1,s.t.q.2.1,dC,s.t.t.2.1,s.t.t.q.1,s.t.t.q.2.1,[])=Q3:=by
  rw[u,C];obtain⟨s1,s2,s3,s4,s5,s6,s7,s8,s9,h0,h1,h2,h3⟩:=s;simp only[cH,true_and];constructor
  ·intro k;simp_all
  ·intro k;simp_all
 rw[B];unfold oC;rw[show bV s.2.1=zQ s.2.1 from rfl,show bV s.2.2.1=zQ s.2.2.1 from rfl,show bV s.t.2.1=zQ s.t.2.1 from rfl,show bV s.t.t.t=zQ s.t.t.t from rfl];rw[jb.2 z];generalize eI _=F;generalize bW s.t.t.1=G;generalize zQ s.2.1=H;generalize zQ s.2.2.1=I;generalize zQ s.t.2.1=J;generalize zQ s.t.t.t=L;cases F<;>cases G<;>cases H<;>cases I<;>cases J<;>cases L<;>simp
theorem Mj{s:Sem zn}(h:pq s)(o:s.1=[103,114,111,117,112]):fy s=(gM s&&(zQ s.2.1&&fw (s.1,s.2.1,s.2.2.1,s.2.2.2.1,[],[],[],[],s.2.2.2.2.2.2.2.2.1,[],[],dC,[]) s)):=by
 have hn:=h.sh.names.1;have X:=h.sh.cols.1;have Y:=h.sh.uniques.1;have Z:=h.sh.refs.1;have hw:=h.sh.row;have hs:=h.sh.sets.1;obtain⟨p0,p1,p2,p3,p4,p5,p6,p7,p8,p9,G,H,I⟩:=Xl o;obtain⟨_,hp⟩:=eJ (s:=s) (g:=_) (b:=_) (by simp only[vt,Q8,p0,p1,p2,p3,p4,p5,p6,p7,p8,p9,G,H,I,if_true,if_false,zA,zk];exact rfl);obtain⟨_,u⟩:=sb (a:=(s.1,s.2.1,s.2.2.1,s.2.2.2.1,[],[],[],[],s.2.2.2.2.2.2.2.2.1,[],[],dC,[])) (b:=s) (eD h (.inl rfl) (.inr rfl) (.inr rfl) (.inr rfl) (.inl rfl) (.inr rfl) (.inr rfl) (.inr rfl));have C:=jz (x:=(s.1,[],[],[],s.2.2.2.2.1,s.2.2.2.2.2.1,s.2.2.2.2.2.2.1,s.2.2.2.2.2.2.2.1,dC,s.2.2.2.2.2.2.2.2.2.1,s.2.2.2.2.2.2.2.2.2.2.1,s.2.2.2.2.2.2.2.2.2.2.2.1,s.2.2.2.2.2.2.2.2.2.2.2.2)) (by simp) (by simpa using bt X (by omega)) (by simpa using bt Y (by omega)) (by simpa using bt Z (by omega)) (by simpa using bt hw (by omega)) (by simpa using bt hs (by omega));have B:eu (s.1,[],[],[],s.2.2.2.2.1,s.2.2.2.2.2.1,s.2.2.2.2.2.2.1,s.2.2.2.2.2.2.2.1,dC,s.2.2.2.2.2.2.2.2.2.1,s.2.2.2.2.2.2.2.2.2.2.1,s.2.2.2.2.2.2.2.2.2.2.2.1,s.2.2.2.2.2.2.2.2.2.2.2.2)=Q3:=gg (by simp) (by simp) (by have:=h.sh.key;simpa using this) (by have:=h.sh.role;simpa using this);rw[hp];apply jb.2;have z:fw (s.1,s.2.1,s.2.2.1,s.2.2.2.1,[],[],[],[],s.2.2.2.2.2.2.2.2.1,[],[],dC,[]) s=Q3↔eI (s.1,[],[],[],s.2.2.2.2.1,s.2.2.2.2.2.1,s.2.2.2.2.2.2.1,s.2.2.2.2.2.2.2.1,dC,s.2.2.2.2.2.2.2.2.2.1,s.2.2.2.2.2.2.2.2.2.2.1,s.2.2.2.2.2.2.2.2.2.2.2.1,s.2.2.2.2.2.2.2.2.2.2.2.2)=Q3:=by
  rw[u,C];obtain⟨s1,s2,s3,J,s5,s6,s7,s8,s9,h0,h1,h2,h3⟩:=s;simp only[cH,true_and];constructor
  ·intro k;simp_all
  ·intro k;simp_all
 have D:=uh (λx=>!bV x) s.2.2.2.1 0;have E:(cond (cond (Q0 ((↑(Io s.2.2.2.1):Int)<2)) Q3 (Q0 ((↑(Io s.2.2.2.1):Int)>2))) Q4 (cond (!Q0 (zW (λx=>!bV x) s.2.2.2.1 0>=0)) (bW s.2.2.2.2.2.2.2.2.1) Q4))=(Q0 (Io s.2.2.2.1=2)&&(bW s.2.2.2.2.2.2.2.2.1&&(zQ (s.2.2.2.1.getD 0 [])&&zQ (s.2.2.2.1.getD 1 [])))):=by
  by_cases a:Io s.2.2.2.1=2
  ·rw[aq (show¬(↑(Io s.2.2.2.1):Int)<2 by omega),aq (show¬(↑(Io s.2.2.2.1):Int)>2 by omega),zx a];have F:(!Q0 (zW (λx=>!bV x) s.2.2.2.1 0>=0))=(zQ (s.2.2.2.1.getD 0 [])&&zQ (s.2.2.2.1.getD 1 [])):=by
    apply jb.2;rw[D,aE];obtain⟨s1,s2,s3,J,s5⟩:=s
    match J,a with
    |[x,y],_=>simp[WQ]
   rw[F];cases bW s.2.2.2.2.2.2.2.2.1<;>cases zQ (s.2.2.2.1.getD 0 [])<;>cases zQ (s.2.2.2.1.getD 1 [])<;>rfl
  ·rw[aq a];by_cases b:(↑(Io s.2.2.2.1):Int)<2
   ·rw[zx b];rfl
   ·rw[aq b,zx (show(↑(Io s.2.2.2.1):Int)>2 by omega)];rfl
 rw[E,B];unfold gM;rw[show bV s.2.1=zQ s.2.1 from rfl,show bV s.2.2.1=zQ s.2.2.1 from rfl];rw[jb.2 z];generalize eI _=L;generalize bW s.2.2.2.2.2.2.2.2.1=M;generalize zQ s.2.1=O;generalize zQ s.2.2.1=S;generalize zQ (s.2.2.2.1.getD 0 [])=T;generalize zQ (s.2.2.2.1.getD 1 [])=U;generalize Q0 (Io s.2.2.2.1=2)=W;cases L<;>cases M<;>cases O<;>cases S<;>cases T<;>cases U<;>cases W<;>simp
theorem tj(p:Sem zq):mn p=Q1 (bw p.2.1 p.2.2.1,()):=by
 unfold bw;by_cases h:(p.2.2.1==[])=Q3
 ·rw[if_pos h];refine zH (r:=(.vec 0,[.vec Sh.str [p.2.1]])) ?_ rfl;simp only[zhv,Q8,h];rfl
 ·rw[if_neg h];have h:(p.2.2.1==[])=Q4:=by simpa using h
  refine zH (r:=(.vec 0,[.vec Sh.str ([p.2.1]++[p.2.2.1])])) ?_ rfl;simp only[zhv,Q8,h];rfl
theorem ti(p:Sem zq):jV p=Q3:=by unfold jV;rw[tj];rfl
theorem vN(p:Sem zq):lA p=bw p.2.1 p.2.2.1:=by unfold lA;rw[tj];rfl
theorem AA(x:zD):∀(l:List zD)(i:Nat),GE.ge (α:=Int) (iE x l (i:Int)) 0↔x∈l
 | [],i=>by
  rw[iE];exact⟨λh=>absurd h (by decide),λh=>by cases h⟩
 | a::r,i=>by
  rw[iE];split
  ·rename_i h;have:x=a:=by simpa using h
   subst this;exact⟨λ_=>Ab,λ_=>Int.natCast_nonneg i⟩
  ·rename_i h;have:=AA x r (i+1);rw[uG]at this;rw[bL];refine⟨λo=>.inr (this.1 o),λo=>this.2 (o.resolve_left ?_)⟩;rintro rfl;simp at h
theorem lq(l:List zD)(x:zD):aB l x=Q3↔x∈l:=by
 unfold aB;rw[KK];exact AA x l 0
theorem JE{l:List zD}{s:zD}(G:Io l<=1000000):AJ l s=Q3/\ML l s=aB l s:=by
 have u:QV l s=Q1 (aB l s,()):=by
  rcases mK (t:=Pj) (Φ:=λr=>r=(.kb Q3,[])) 1 (λi=>.h2 l s (i:Int)) (λi=>∀h:i<Io l,l[i]≠s) (Io l) (λi o _=>by
   have F:(Pj (.h2 l s (i:Int))).val=if(l[i]==s)=Q3 then Q1 (.inr (.kb Q3,[]))else Q1 (.inl (.h2 l s ((i+1:Nat):Int))):=by
    show(Pj (.h2 _ _ _)).val=_;simp only[Pj,Q8,zG _ _ o,zE o,zt o,if_true];rw[zr i um]
   by_cases h:l[i]=s
   ·exact .inr ⟨λk=>k o h,_,zV.of (by rw[F,if_pos (by simpa using h)]),rfl⟩
   ·exact .inl ⟨λ_=>h,zL.of (by rw[F,if_neg (by simpa using h)])⟩)with⟨z,B⟩|⟨z,r,B,rfl⟩
  ·have D:aB l s=Q4:=by
    rw[<-g9,lq];intro C;obtain⟨j,E,e⟩:=gq C;exact z j E E e
   rw[D];refine zy (s:=.h2 l s 0) rfl (B.ends (zV.of (r:=(.kb Q4,[])) ?_)) ow rfl;show(Pj (.h2 _ _ _)).val=_;simp only[Pj,Q8,zB];rfl
  ·have D:aB l s=Q3:=by
    rw[lq];apply iW;intro C;exact z λi _ o e=>C (e▸aP o)
   rw[D];exact zy (s:=.h2 l s 0) rfl B ow rfl
 exact⟨by unfold AJ;rw[u];rfl,by unfold ML;rw[u];rfl⟩
theorem Ay{α:Type}(p:α->Bool):∀(l:List α)(i:Nat),(!Q0 (zW p l i>=0))=Q3↔∀x∈l,p x=Q4
 | [],i=>by
  refine⟨λ_ x o=>(by cases o),λ_=>?_⟩;rw[zW];rfl
 | y::r,i=>by
  refine⟨λh=>qm p _ i h,λh=>?_⟩;rw[zW,h y sw];exact(Ay p r (i+1)).2 λx o=>h x (by simp[o])
theorem xZ{α:Type}(p:α->Bool)(l:List α):Q0 (GE.ge (α:=Int) (zW p l 0) 0)=Q3↔∃x∈l,p x=Q3:=by
 have h:=Ay p l 0;constructor
 ·intro o;apply iW;intro z;have:=h.2 λx u=>by
   cases hp:p x
   ·rfl
   ·exact absurd ⟨x,u,hp⟩ z
  rw[o]at this;cases this
 ·rintro⟨x,u,hp⟩;cases o:Q0 (GE.ge (α:=Int) (zW p l 0) 0)
  ·have:=h.1 (by rw[o];rfl) x u;rw[hp]at this;cases this
  ·rfl
theorem I8{o:List (Sem zh)}{u:List zD}(hl:Io o<=1000)(hr:∀x∈o,(x:Sem zh).1.t.1.length<=1000)(J:Io u<=1000000):oF o u=Q1 (eb o u,()):=by
 have H:∀i(D:i<Io o),(¬(!aB u o[i].1.1&&Q0 (GE.ge (α:=Int) (zW (λf:Sem zp=>aB u f.2) o[i].1.t.1 0) 0))=Q3/\zL qL 1002 (.h2 o u (i:Int)) (.h2 o u ((i+1:Nat):Int)))\/
   ((!aB u o[i].1.1&&Q0 (GE.ge (α:=Int) (zW (λf:Sem zp=>aB u f.2) o[i].1.t.1 0) 0))=Q3/\zV qL 1002 (.h2 o u (i:Int)) (.kb Q3,[])):=by
  intro i D;have L:=hr _ (aP D);have g:o.getD (i:Int).toNat (zi zh)=o[i]:=zG _ _ D;have I:zL qL 1 (.h2 o u (i:Int)) (.h5 o u (i:Int) ((0:Nat):Int)):=zL.of (by
   show(qL (.h2 _ _ _)).val=_;simp only[qL,Q8,zE D,if_true];rfl)
  obtain⟨S,T⟩:=JE (l:=u) (s:=o[i].1.1) J;have Y:(qL (.h5 o u (i:Int) (o[i].1.t.1.length:Int))).val=Q1 (.inl (.h2 o u ((i+1:Nat):Int))):=by
   show(qL (.h5 _ _ _ _)).val=_;simp only[qL,Q8,g,zB,zt D,if_true];rw[zr i um];rfl
  rcases mK (t:=qL) (Φ:=λr=>r=(.kb Q3,[])) 1 (λj=>.h5 o u (i:Int) (j:Int)) (λj=>∀h:j<o[i].1.t.1.length,¬(!aB u o[i].1.1&&aB u (o[i].1.t.1[j]).2)=Q3) o[i].1.t.1.length (λj z _=>by
   have X:getD o[i].1.t.1 (j:Int).toNat (zi zp)=o[i].1.t.1[j]:=zG _ _ z;obtain⟨U,W⟩:=JE (l:=u) (s:=(o[i].1.t.1[j]).2) J;have E:(qL (.h5 o u (i:Int) (j:Int))).val=if(!aB u o[i].1.1&&aB u (o[i].1.t.1[j]).2)=Q3 then Q1 (.inr (.kb Q3,[]))else Q1 (.inl (.h5 o u (i:Int) ((j+1:Nat):Int))):=by
    show(qL (.h5 _ _ _ _)).val=_;simp only[qL,Q8,g,X,zE z,zt D,zt z,S,T,U,W,if_true,dT];rw[zr j um];cases aB u o[i].1.1<;>cases aB u (o[i].1.t.1[j]).2<;>rfl
   by_cases h:(!aB u o[i].1.1&&aB u (o[i].1.t.1[j]).2)=Q3
   ·exact .inr ⟨λk=>k z h,_,zV.of (by rw[E,if_pos h]),rfl⟩
   ·exact .inl ⟨λ_=>h,zL.of (by rw[E,if_neg h])⟩)with⟨B,C⟩|⟨B,r,C,rfl⟩
  ·refine .inl ⟨?_,((I.trans C).trans (zL.of Y)).mono ow⟩;intro h;simp only[aE,xZ]at h;obtain⟨M,f,Z,O⟩:=h;obtain⟨j,z,rfl⟩:=gq Z;exact B j z z (by rw[M,O];rfl)
  ·refine .inr ⟨?_,(I.ends C).mono ow⟩;apply iW;intro h;refine B λj _ z G=>h ?_
   simp only[aE]at G;simp only[aE,xZ];exact⟨G.1,_,aP z,G.2⟩
 rcases mK (t:=qL) (Φ:=λr=>r=(.kb Q3,[])) 1002 (λi=>.h2 o u (i:Int)) (λi=>∀h:i<Io o,¬(!aB u o[i].1.1&&Q0 (GE.ge (α:=Int) (zW (λf:Sem zp=>aB u f.2) o[i].1.t.1 0) 0))=Q3) (Io o) (λi D _=>by
  rcases H i D with⟨B,C⟩|⟨B,C⟩
  ·exact .inl ⟨λ_=>B,C⟩
  ·exact .inr ⟨λk=>k D B,_,C,rfl⟩)with⟨B,C⟩|⟨B,r,C,rfl⟩
 ·have F:eb o u=Q4:=by
   unfold eb;rw[List.any_eq_false];intro x L;obtain⟨j,z,rfl⟩:=gq L;exact B j z z
  rw[F];have E:(qL (.h2 o u (Io o:Int))).val=Q1 (.inr (.kb Q4,[])):=by
   show(qL (.h2 _ _ _)).val=_;simp only[qL,Q8,zB];rfl
  exact zy (s:=.h2 o u 0) rfl (C.ends (zV.of E)) ow rfl
 ·have F:eb o u=Q3:=by
   unfold eb;apply iW;intro h;rw[g9,List.any_eq_false]at h;exact B λi _ D=>h _ (aP D)
  rw[F];exact zy (s:=.h2 o u 0) rfl C ow rfl
theorem Mm{db:List (Sem zh)}{ns:List zD}(o:Io db<=1000)(z:∀x∈db,(x:Sem zh).1.t.1.length<=1000)(u:Io ns<=1000000):uo db ns=Q3/\yu db ns=eb db ns:=by
 have h:=I8 o z u;exact⟨by unfold uo;rw[h];rfl,by unfold yu;rw[h];rfl⟩
def pl3(t:Sem zo)(h:List zD):Nat->pE
 |0=>.h3 t.2.1 h ((0:Nat):Int)
 |i+1=>.h3b t.2.1 h ((i+1:Nat):Int) (ju t (h.take (i+1)))
theorem zbn{t:Sem zo}{o:List zD}(C:Io t.2.1<=1000000)(D:Io o<=1000){i:Nat}(u:i<Io o):(jZ (pl3 t o i)).val=if LT.lt (α:=Int) (zR t o[i]) 0 then Q1 (.inr (.tup [.nils,.int .i64 4],[]))else Q1 (.inl (pl3 t o (i+1))):=by
 have e:eP t.2.1 o[i]=zR t o[i]:=kP C;have B:dJ t.2.1 o[i]=Q3:=jw C;have z:ju t (o.take (i+1))=ju t (o.take i)++[zR t o[i]]:=by
  unfold ju;rw[be u,gD];rfl
 cases i with
 | zero=>
  have z:ju t (o.take 1)=[zR t o[0]]:=z;show(jZ (.h3 _ _ _)).val=_;simp only[jZ,Q8,zE u,zt u,if_true,zG _ _ u,e,B];by_cases h:LT.lt (α:=Int) (zR t o[0]) 0
  ·simp only[zx h,if_true,if_pos h]
  ·simp only[aq h,if_neg h,zA,if_false];rw[if_pos sw,zr 0 um];show _=Q1 (Sum.inl (pE.h3b _ _ _ (ju t (o.take 1))));rw[z]
 | succ i=>
  show(jZ (.h3b _ _ _ _)).val=_;simp only[jZ,Q8,zE u,zt u,if_true,zG _ _ u,e,B];by_cases h:LT.lt (α:=Int) (zR t o[i+1]) 0
  ·simp only[zx h,if_true,if_pos h]
  ·simp only[aq h,if_neg h,zA,if_false];rw[if_pos (by unfold ju;simp;omega),zr (i+1) um];show _=Q1 (Sum.inl (pE.h3b _ _ _ (ju t (o.take (i+1+1)))));rw[z]
theorem zsC{l:List Int}(L:Io l<=1000):zV jZ (Io l*1001+1) (.h10b ((0:Nat):Int) l) (ite l.Nodup (.tup [.vec 0,.int .i64 0],[.vec zg l]) (.tup [.nils,.int .i64 7],[])):=by
 have F:∀i(B:i<Io l),((∀k(o:k<i),l[k]≠l[i])/\zL jZ 1001 (.h10b (i:Int) l) (.h10b ((i+1:Nat):Int) l))\/((¬∀k(o:k<i),l[k]≠l[i])/\zV jZ 1001 (.h10b (i:Int) l) (.tup [.nils,.int .i64 7],[])):=by
  intro i B;have G:zL jZ 1 (.h10b (i:Int) l) (.h13b (i:Int) ((0:Nat):Int) l):=zL.of (by
   show(jZ (.h10b _ _)).val=_;simp only[jZ,Q8,zE B,if_true];rfl)
  rcases mK (t:=jZ) (Φ:=λr=>r=(.tup [.nils,.int .i64 7],[])) 1 (λk=>.h13b (i:Int) (k:Int) l) (λk=>∀h:k<i,l[k]≠l[i]) i (λk o _=>by
   have C:k<Io l:=by omega
   have J:Q0 ((k:Int)<(i:Int))=Q3:=zE o;have I:(jZ (.h13b (i:Int) (k:Int) l)).val=if(l[i]==l[k])=Q3 then Q1 (.inr (.tup [.nils,.int .i64 7],[]))else Q1 (.inl (.h13b (i:Int) ((k+1:Nat):Int) l)):=by
    show(jZ (.h13b _ _ _)).val=_;simp only[jZ,Q8,J,zt B,zt C,yP B,yP C,zG _ _ B,zG _ _ C,if_true];rw[zr k um]
   by_cases h:l[i]=l[k]
   ·exact .inr ⟨λq=>q o h.symm,_,zV.of (by rw[I,if_pos (by simpa using h)]),rfl⟩
   ·exact .inl ⟨λ_=>Ne.symm h,zL.of (by rw[I,if_neg (by simpa using h)])⟩)with⟨u,z⟩|⟨u,r,z,rfl⟩
  ·refine .inl ⟨λk o=>u k o o,((G.trans z).trans (zL.of ?_)).mono ow⟩;show(jZ (.h13b _ _ _)).val=_;simp only[jZ,Q8,zB];rw[zr i um];rfl
  ·exact .inr ⟨λh=>u λk o _=>h k o,(G.ends z).mono ow⟩
 have D:l.Nodup↔∀i,i<Io l->∀h:i<Io l,∀k(o:k<i),l[k]≠l[i]:=by
  unfold List.Nodup;rw[List.pairwise_iff_getElem];exact⟨λh i _ B k o=>h k i ow B o,λh i j B H E=>h j H H i E⟩
 rcases mK (t:=jZ) (Φ:=λr=>r=(.tup [.nils,.int .i64 7],[])) 1001 (λi=>.h10b (i:Int) l) (λi=>∀h:i<Io l,∀k(o:k<i),l[k]≠l[i]) (Io l) (λi B _=>by
  rcases F i B with⟨u,z⟩|⟨u,z⟩
  ·exact .inl ⟨λ_=>u,z⟩
  ·exact .inr ⟨λh=>u (h B),_,z,rfl⟩)with⟨u,z⟩|⟨u,r,z,rfl⟩
 ·rw[if_pos (D.2 u)];refine(z.ends (zV.of ?_)).mono ow;show(jZ (.h10b _ _)).val=_;simp only[jZ,Q8,zB];rfl
 ·rw[if_neg (λh=>u (D.1 h))];exact z.mono ow
theorem I7{t:Sem zo}{o:List zD}(T:Io t.2.1<=1000000)(U:Io o<=1000):oE t.2.1 o=Q1 (ite (fW t o=0) (ju t o) [],fW t o,()):=by
 have u:(znl t.2.1 o).val=Q1 (.inl (pl3 t o 0)):=rfl
 rcases mK (t:=jZ) (Φ:=λr=>r=(.tup [.nils,.int .i64 4],[])) 1 (pl3 t o) (λi=>∀h:i<Io o,¬LT.lt (α:=Int) (zR t o[i]) 0) (Io o) (λi u _=>by
  have J:=zbn T U u;by_cases h:LT.lt (α:=Int) (zR t o[i]) 0
  ·exact .inr ⟨λq=>q u h,_,zV.of (by rw[J,if_pos h]),rfl⟩
  ·exact .inl ⟨λ_=>h,zL.of (by rw[J,if_neg h])⟩)with⟨F,C⟩|⟨F,r,C,rfl⟩
 ·have S:∀s∈o,¬LT.lt (α:=Int) (zR t s) 0:=by
   intro s W;obtain⟨j,I,rfl⟩:=gq W;exact F j I I
  have E:fW t o=if(ju t o).Nodup then 0 else 7:=by unfold fW;rw[if_pos S];rfl
  have X:(ju t o).length=Io o:=by unfold ju;simp
  cases z:Io o with
  | zero=>
   have B:o=[]:=AW z;subst B;have G:zV jZ 2 (pl3 t [] 0) (.tup [.nils,.int .i64 0],[]):=by
    refine(zL.of (s':=.h10 0) ?_).ends (zV.of ?_)
    ·rfl
    ·rfl
   have M:fW t []=0:=by rw[E,if_pos (by unfold ju;exact List.nodup_nil)]
   rw[M,if_pos rfl];exact zy u G ow rfl
  | succ n=>
   rw[z]at C;have L:ju t (o.take (n+1))=ju t o:=by rw[<-z,fI]
   have G:zL jZ 1 (pl3 t o (n+1)) (.h10b ((0:Nat):Int) (ju t o)):=zL.of (by
    show(jZ (.h3b _ _ _ _)).val=_;rw[L,<-z];simp only[jZ,Q8,zB];rfl)
   have O:=zsC (l:=ju t o) ow;have D:=C.ends (G.ends O);rw[E];by_cases H:(ju t o).Nodup
   ·rw[if_pos H]at D⊢;exact zy u D ow rfl
   ·rw[if_neg H]at D⊢;exact zy u D ow rfl
 ·have E:fW t o=4:=by
   unfold fW;rw[if_neg];intro h;exact F λi _ u=>h _ (aP u)
  rw[E];exact zy u C ow rfl
theorem Ml{t:Sem zo}{names:List zD}(o:Io t.2.1<=1000000)(u:Io names<=1000):oD t.2.1 names=Q3/\rH t.2.1 names=(ite (fW t names=0) (ju t names) [],fW t names):=by
 have h:=I7 o u;exact⟨by unfold oD;rw[h];rfl,by unfold rH;rw[h];rfl⟩
def sF(e:zf)(cols:List (Sem zj)):Int:=
 if(e.op==[])=Q3 then 0 else if(cond ((bM e cols).2==0) (cond ((bM e cols).1!=3) ((bM e cols).1!=0) Q4) Q4)=Q3 then 5 else(bM e cols).2
theorem Td{e:zf}{h:List (Sem zj)}(B:sD e)(F:Io h<=1000000)(G:(e.op==[])=Q4->cm e=Q3):we e h=Q1 (sF e h,()):=by
 unfold sF;cases u:(e.op==[])
 ·have o:=G u;have C:=lH B;have D:=oO B;have z:=Mx F o;have I:oP e h=Q3:=by unfold oP;rw[z];rfl
  have J:iK e h=bM e h:=by unfold iK;rw[z];rfl
  have E:(cond ((bM e h).2==0) (cond ((bM e h).1!=0) ((bM e h).1!=3) Q4) Q4)=(cond ((bM e h).2==0) (cond ((bM e h).1!=3) ((bM e h).1!=0) Q4) Q4):=by
   cases((bM e h).2==0)<;>cases((bM e h).1!=0)<;>cases((bM e h).1!=3)<;>rfl
  have H:(VX e h).val=Q1 (.inr (.int .i64 (ite ((cond ((bM e h).2==0) (cond ((bM e h).1!=3) ((bM e h).1!=0) Q4) Q4)=Q3) 5 ((bM e h).2)),[])):=by
   simp only[VX,Q8,zk,u,C,D,o,I,J,E,if_true,zA,if_false,bA];split<;>rfl
  exact zH H rfl
 ·refine zH (r:=(.int .i64 0,[])) ?_ rfl;simp only[VX,Q8,u,if_true]
theorem wg{e:zf}{cols:List (Sem zj)}(z:sD e)(o:Io cols<=1000000)(u:(e.op==[])=Q4->cm e=Q3):kC e cols=Q3/\eQ e cols=sF e cols:=by
 have h:=Td z o u;exact⟨by unfold kC;rw[h];rfl,by unfold eQ;rw[h];rfl⟩
theorem FG(l:List zD):gI l=Lib.join l eZ:=by
 have h:=qJ l 0 [];unfold gI;rw[h];have e:l.map mu=l:=by
  rw[show(mu:zD->zD)=id from rfl];exact List.map_id l
 rw[pK,e]
theorem zbR{s:Sem zn}(h:pq s)(o:s.1=cV)(u:lv s=Q3):iQ s=Pk s:=by
 unfold lv at u;simp only[aE,aN]at u;rw[(iR (zet h.sh o)).2,tC,CI u.2.1,FG];unfold Pk;simp
theorem zbS{s:Sem zn}(h:pq s)(o:s.1=eW)(u:oC s=Q3):iQ s=qP s:=by
 unfold oC at u;simp only[aE]at u;rw[(iR (zev h.sh o)).2,tJ,CI u.1];unfold qP;simp
theorem Yq{s:Sem zn}(h:pq s)(o:s.1=ku)(u:gM s=Q3):iQ s=mv s:=by
 unfold gM at u;simp only[aE,aN]at u;rw[(iR (zeu h.sh o u.1)).2,tG,CI u.2.1];unfold mv;simp
theorem OZ{s:Sem zn}(h:pq s)(M:jQ s.1):∃t,oU s=Q1 (t,er s,()):=by
 have C:∀(u:Sem zn)(D:Bool)(t F:zD),dK s=Q1 (t,u,D,())->Io t<=900000->B9 u->(D=Q3->t=F)->(D=Q3->iQ s=F)->fy s=(D&&(zQ s.2.1&&fw u s))->∃t,oU s=Q1 (t,er s,()):=by
  intro u D t F z B E H I J;obtain⟨O,L⟩:=HH h z B E;refine⟨O,?_⟩;rw[L,Yf,J];cases G:D
  ·rfl
  ·rw[I G,H G];cases zQ s.2.1<;>cases fw u s<;>rfl
 rcases M with o|o|o
 ·obtain⟨t,z,B,E⟩:=Rx h o;exact C _ _ _ _ z B (eD h (.inl rfl) (.inr rfl) (.inr rfl) (.inr rfl) (.inl rfl) (.inr rfl) (.inr rfl) (.inr rfl)) E (zbR h o) (QK h o)
 ·obtain⟨z,B⟩:=Ry h o;exact C _ _ _ _ z B (eD h (.inr rfl) (.inr rfl) (.inr rfl) (.inr rfl) (.inl rfl) (.inr rfl) (.inr rfl) (.inr rfl)) (λ_=>rfl) (zbS h o) (QL h o)
 ·obtain⟨t,z,B,E⟩:=Nh h o;exact C _ _ _ _ z B (eD h (.inl rfl) (.inr rfl) (.inr rfl) (.inr rfl) (.inl rfl) (.inr rfl) (.inr rfl) (.inr rfl)) E (Yq h o) (Mj h o)
theorem P0{g c:zf->zf->Bool}:∀(l m:List zf),Io l=Io m->(∀x∈l,∀y,c x y=Q3/\(g x y=Q3↔x=y))->SC g c l m=Q3/\(eqL g l m=Q3↔l=m)
 |[],[],_,_=>⟨rfl,by simp[eqL]⟩
 |[],_::_,h,_=>by simp at h
 |_::_,[],h,_=>by simp at h
 | x::r,y::q,h,hx=>by
  obtain⟨B,u⟩:=hx x sw y;obtain⟨C,D⟩:=P0 r q (by simpa using h) (λz E=>hx z (by simp[E]));rw[SC,eqL];rw[B];by_cases k:g x y=Q3
  ·have:=u.1 k;subst this;simp[k,C,D]
  ·have o:x≠y:=λe=>k (u.2 e)
   simp[k,o]
theorem M0:∀(N:Nat)(a b:zf),sG N a=Q3->jB N a b=Q3/\(fE N a b=Q3↔a=b)
 |0,_,_,h=>by cases h
 | N + 1,.mk D v s l,.mk o z E u,h=>by
  rw[sG]at h;simp only[aE,aN,en]at h;obtain⟨_,O⟩:=h;have L:jB (N+1) (.mk D v s l) (.mk o z E u)=(cond (D==o) (cond (YF v z) (cond (s==E) (Ao (fE N) (jB N) l u) Q3) Q3) Q3):=rfl;have M:fE (N+1) (.mk D v s l) (.mk o z E u)=(cond (D==o) (cond (YF v z) (cond (s==E) (NY (fE N) l u) Q4) Q4) Q4):=rfl;rw[L,M];unfold Ao NY;have G:YF v z=Q3↔v=z:=by unfold YF;simp[Prod.ext_iff]
  by_cases C:D=o
  ·by_cases B:v=z
   ·by_cases H:s=E
    ·by_cases F:Io l=Io u
     ·obtain⟨T,U⟩:=P0 (g:=fE N) (c:=jB N) l u F (λx S y=>M0 N x y (O x S));have I:((↑l.length:Int)!=(↑u.length:Int))=Q4:=by rw[<-g9,jE];exact λh=>h F
      rw[I,G.2 B];simp[C,H,T,U,B]
     ·have I:((↑l.length:Int)!=(↑u.length:Int))=Q3:=jE.2 F;have J:l≠u:=λe=>F (by rw[e])
      rw[I,G.2 B];simp[C,H,J]
    ·rw[G.2 B];simp[C,H]
   ·have:YF v z=Q4:=by rw[<-g9,G];exact B
    rw[this];simp[C,B]
  ·simp[C]
theorem M4{a b:List Int}(h:Io a<=1000000):JX a b=Q3/\(pn a b=Q3↔a=b):=by
 have B:∃r,JY a b=Q1 (r,())/\(r=Q3↔a=b):=by
  by_cases o:Io a=Io b
  ·have u:((↑(Io a):Int)!=(↑(Io b):Int))=Q4:=by rw[<-g9,jE];exact λh=>h o
   have E:(zaS a b).val=Q1 (.inl (.h4 a b (Io a:Int) 0)):=by
    simp only[zaS,Q8,u];rfl
   rcases me (t:=zpW) (la:=a) (lb:=b) (λi=>.h4 a b (Io a:Int) i) (.inr (.kb Q3,[])) (λi=>getD a (i:Int).toNat (zi zg)==getD b (i:Int).toNat (zi zg)) (λ_ _=>rfl) (λi _ G u=>by rw[bg,zG _ _ G,zG _ _ u]) o h with⟨C,z⟩|⟨C,z⟩
   ·exact⟨Q3,zy E (z 0 _ rfl) ow rfl,by simp[C]⟩
   ·exact⟨Q4,zy E z ow rfl,by simp[C]⟩
  ·refine⟨Q4,zH (r:=HI) ?_ rfl,by simp;exact λe=>o (by rw[e])⟩;simp only[zaS,Q8,jE.2 o,if_true]
 obtain⟨r,D,F⟩:=B;refine⟨by unfold JX;rw[D];rfl,?_⟩;have:pn a b=r:=by unfold pn;rw[D];rfl
 rw[this];exact F
theorem X9{a b:List (Sem zj)}(h:Io a<=1000000):O9 a b=Q3/\(AK a b=Q3↔a=b):=by
 have B:∃r,JV a b=Q1 (r,())/\(r=Q3↔a=b):=by
  by_cases o:Io a=Io b
  ·have u:((↑(Io a):Int)!=(↑(Io b):Int))=Q4:=by rw[<-g9,jE];exact λh=>h o
   have E:(zaW a b).val=Q1 (.inl (.h4 a b (Io a:Int) 0)):=by
    simp only[zaW,Q8,u];rfl
   rcases me (t:=zpY) (la:=a) (lb:=b) (λi=>.h4 a b (Io a:Int) i) (.inr (.kb Q3,[])) (λi=>((getD a (i:Int).toNat (zi zj)).1==(getD b (i:Int).toNat (zi zj)).1&&((getD a (i:Int).toNat (zi zj)).2.1==(getD b (i:Int).toNat (zi zj)).2.1&&((getD a (i:Int).toNat (zi zj)).2.2==(getD b (i:Int).toNat (zi zj)).2.2&&Q3)))) (λ_ _=>rfl) (λi _ G u=>by rw[Uu,zG _ _ G,zG _ _ u]) o h with⟨C,z⟩|⟨C,z⟩
   ·exact⟨Q3,zy E (z 0 _ rfl) ow rfl,by simp[C]⟩
   ·exact⟨Q4,zy E z ow rfl,by simp[C]⟩
  ·refine⟨Q4,zH (r:=HI) ?_ rfl,by simp;exact λe=>o (by rw[e])⟩;simp only[zaW,Q8,jE.2 o,if_true]
 obtain⟨r,D,F⟩:=B;refine⟨by unfold O9;rw[D];rfl,?_⟩;have:AK a b=r:=by unfold AK;rw[D];rfl
 rw[this];exact F
theorem Ya{a b:List (Sem zp)}(h:Io a<=1000000):Pa a b=Q3/\(AL a b=Q3↔a=b):=by
 have B:∃r,JW a b=Q1 (r,())/\(r=Q3↔a=b):=by
  by_cases o:Io a=Io b
  ·have u:((↑(Io a):Int)!=(↑(Io b):Int))=Q4:=by rw[<-g9,jE];exact λh=>h o
   have E:(zaX a b).val=Q1 (.inl (.h4 a b (Io a:Int) 0)):=by
    simp only[zaX,Q8,u];rfl
   rcases me (t:=zpZ) (la:=a) (lb:=b) (λi=>.h4 a b (Io a:Int) i) (.inr (.kb Q3,[])) (λi=>((getD a (i:Int).toNat (zi zp)).1==(getD b (i:Int).toNat (zi zp)).1&&((getD a (i:Int).toNat (zi zp)).2==(getD b (i:Int).toNat (zi zp)).2&&Q3))) (λ_ _=>rfl) (λi _ G u=>by rw[zg6,zG _ _ G,zG _ _ u]) o h with⟨C,z⟩|⟨C,z⟩
   ·exact⟨Q3,zy E (z 0 _ rfl) ow rfl,by simp[C]⟩
   ·exact⟨Q4,zy E z ow rfl,by simp[C]⟩
  ·refine⟨Q4,zH (r:=HI) ?_ rfl,by simp;exact λe=>o (by rw[e])⟩;simp only[zaX,Q8,jE.2 o,if_true]
 obtain⟨r,D,F⟩:=B;refine⟨by unfold Pa;rw[D];rfl,?_⟩;have:AL a b=r:=by unfold AL;rw[D];rfl
 rw[this];exact F
theorem Yn{a b:Sem zo}(Y:Io a.2.1<=1000000)(hu:Io a.2.2.2.1<=1000000)(hr:Io a.t.1<=1000000)(Z:sG 16 a.t.2=Q3):Ke a b=Q3/\(tq a b=Q3↔a=b):=by
 obtain⟨h,B,o,C,D,H⟩:=a;obtain⟨u,E,z,F,G,I⟩:=b;obtain⟨L,T⟩:=X9 (b:=E) (show Io B<=1000000 from Y);obtain⟨M,U⟩:=M4 (b:=F) (show Io C<=1000000 from hu);obtain⟨O,W⟩:=Ya (b:=G) (show Io D<=1000000 from hr);obtain⟨S,X⟩:=M0 16 H I Z;have J:Kf (h,B,o,C,D,H) (u,E,z,F,G,I)=Q1 ((cond (h==u) (cond (o==z) (cond (AK B E) (cond (pn C F) (cond (AL D G) (fE 16 H I) Q4) Q4) Q4) Q4) Q4),()):=by
  refine zH (r:=(.bool _,[])) ?_ rfl;simp only[znm,Q8,zk,L,M,O,S];rw[if_pos];cases(h==u)<;>cases(o==z)<;>cases AK B E<;>cases pn C F<;>cases AL D G<;>rfl
 refine⟨by unfold Ke;rw[J];rfl,?_⟩;have:tq (h,B,o,C,D,H) (u,E,z,F,G,I)=(cond (h==u) (cond (o==z) (cond (AK B E) (cond (pn C F) (cond (AL D G) (fE 16 H I) Q4) Q4) Q4) Q4) Q4):=by unfold tq;rw[J];rfl
 rw[this];simp only[cH];rw[<-T,<-U,<-W,<-X];have x1:(h==u)=Q3↔h=u:=bg;have x3:(o==z)=Q3↔o=z:=bg;rw[<-x1,<-x3];cases(h==u)<;>cases(o==z)<;>cases AK B E<;>cases pn C F<;>cases AL D G<;>cases fE 16 H I<;>simp
theorem Xr{a b:Sem zq}(U:Io a.2.2.2.1.2.1<=1000000)(Z:Io a.2.2.2.1.2.2.2.1<=1000000)(X:Io a.2.2.2.1.t.1<=1000000)(W:sG 16 a.2.2.2.1.t.2=Q3)(hx:Io a.t.1<=1000000):IZ a b=Q3/\(Mf a b=Q3↔a=b):=by
 obtain⟨u,z,B,o,H,C⟩:=a;obtain⟨D,E,F,h,I,G⟩:=b;obtain⟨M,S⟩:=Yn (b:=h) U Z X W;obtain⟨O,T⟩:=M4 (b:=I) (show Io H<=1000000 from hx);have J:Ke (o.1,o.2.1,o.2.2.1,o.2.2.2.1,o.t.1,o.t.2) (h.1,h.2.1,h.2.2.1,h.2.2.2.1,h.t.1,h.t.2)=Q3:=M;have Y:tq (o.1,o.2.1,o.2.2.1,o.2.2.2.1,o.t.1,o.t.2) (h.1,h.2.1,h.2.2.1,h.2.2.2.1,h.t.1,h.t.2)=tq o h:=rfl;have L:I0 (u,z,B,o,H,C) (D,E,F,h,I,G)=Q1 ((cond (u==D) (cond (z==E) (cond (B==F) (cond (C==G) (cond (tq o h) (pn H I) Q4) Q4) Q4) Q4) Q4),()):=by
  refine zH (r:=(.bool _,[])) ?_ rfl;simp only[zm8,Q8,zk,J,Y,O];rw[if_pos];cases(u==D)<;>cases(z==E)<;>cases(B==F)<;>cases(C==G)<;>cases tq o h<;>rfl
 refine⟨by unfold IZ;rw[L];rfl,?_⟩;have:Mf (u,z,B,o,H,C) (D,E,F,h,I,G)=(cond (u==D) (cond (z==E) (cond (B==F) (cond (C==G) (cond (tq o h) (pn H I) Q4) Q4) Q4) Q4) Q4):=by unfold Mf;rw[L];rfl
 rw[this];simp only[cH];rw[<-S,<-T];have x1:(u==D)=Q3↔u=D:=bg;have x2:(z==E)=Q3↔z=E:=bg;have x3:(B==F)=Q3↔B=F:=bg;have x6:(C==G)=Q3↔C=G:=bg;rw[<-x1,<-x2,<-x3,<-x6];cases(u==D)<;>cases(z==E)<;>cases(B==F)<;>cases(C==G)<;>cases tq o h<;>cases pn H I<;>simp
theorem MF(s:zD):∀(l:List (Sem zh))(i:Nat),gH s l (i:Int)=zW (λx:Sem zh=>x.1.1==s) l i
 |[],_=>rfl
 | x::r,i=>by
  rw[gH,zW];have h:=MF s r (i+1);have e:(((i+1:Nat)):Int)=(i:Int)+1:=by omega
  rw[e]at h;by_cases o:(x.1.1==s)=Q3
  ·rw[if_pos o,if_pos o]
  ·rw[if_neg o,if_neg o,h]
theorem dD(l:List (Sem zh))(s:zD):lK l s=zX l s:=MF s l 0
theorem dQ.keys{x:Sem zh}(h:dQ x):∀r∈x.2,zJ x.1.2.2.1 (Io r)=Q3:=by
 intro r u;obtain⟨o,_⟩:=fj h.may;rw[(cX (h.fits r u)).1];exact mh o
theorem Vr(x:Sem zh)(c:Int)(v:Sem ze):Q0 (LT.lt (α:=Int) (zW (λr=>bl r c v) x.2 0) 0)=!f5 x c v:=by
 unfold f5;rcases fU (λr=>bl r c v) x.2 0 with h|⟨h,_⟩
 ·rw[h];rfl
 ·have:Q0 (zW (λr=>bl r c v) x.2 0>=0)=Q3:=zx ow;rw[this,aq ow];rfl
theorem Jv{db:List (Sem zh)}(J:∀x∈db,dQ x)(hw:∀x∈db,FZ x)(hl:Io db<=13):∃b,wj db=Q1 (b,())/\(b=Q3↔FP db):=by
 have I:=mK (t:=sK) (Φ:=YD) 1010000 (λi=>.h2 db (i:Int)) (λi=>∀f∈(getD db i (zi zh)).1.t.1,LE.le (α:=Int) 0 (zX db f.2)/\∀o∈(getD db i (zi zh)).2,(zN f.1 o).1≠0->f5 (aA db f.2) (aA db f.2).1.2.2.1 (zN f.1 o)=true) (Io db) (by
  intro i z _;have hm:=bN (d:=zi zh) z;have s1:=(hw _ hm).t.nrf;have s2:=(hw _ hm).rows;have Y:=(J _ hm).cols;generalize S:getD db i (zi zh)=x at*;have C:(sK (.h2 db (i:Int))).val=Q1 (.inl (.h5 db (i:Int) ((0:Nat):Int))):=by
   simp only[sK,Q8,zE z];rfl
  have h5:=mK (t:=sK) (Φ:=YD) 1002 (λk=>.h5 db (i:Int) (k:Int)) (λk=>LE.le (α:=Int) 0 (zX db (getD x.1.t.1 k (zi zp)).2)/\∀o∈x.2,(zN (getD x.1.t.1 k (zi zp)).1 o).1≠0->f5 (aA db (getD x.1.t.1 k (zi zp)).2) (aA db (getD x.1.t.1 k (zi zp)).2).1.2.2.1 (zN (getD x.1.t.1 k (zi zp)).1 o)=Q3) (Io x.1.t.1) (by
   intro k hk _;have Z:=bN (d:=zi zp) hk;have X:=Y _ Z;generalize hf:getD x.1.t.1 k (zi zp)=f at*;have C:(sK (.h5 db (i:Int) (k:Int))).val=if Q0 (LT.lt (α:=Int) (zX db f.2) 0)=Q3 then Q1 (.inr (.kb Q4,[]))else Q1 (.inl (.h12 db (i:Int) (k:Int) (zX db f.2) ((0:Nat):Int) (f,()))):=by
    simp only[sK,Q8,zt z,aD,S,zE hk,zt hk,hf,dD,if_true];rfl
   by_cases H:LE.le (α:=Int) 0 (zX db f.2)
   ·have g1:=zL.of (t:=sK) (s:=.h5 db (i:Int) (k:Int)) (by rw[C,if_neg (by rw[aN];omega)]);have L:aA db f.2∈db:=bN (by
     rcases Aj db f.2 with h|⟨_,h⟩
     ·rw[h]at H;exact absurd H (by decide)
     ·omega)
    have B:=hw _ L;have u:=J _ L;have U:=mK (t:=sK) (Φ:=YD) 1 (λj=>.h12 db (i:Int) (k:Int) (zX db f.2) (j:Int) (f,())) (λj=>(zN f.1 (getD x.2 j (zi ze.sl))).1≠0->f5 (aA db f.2) (aA db f.2).1.2.2.1 (zN f.1 (getD x.2 j (zi ze.sl)))=Q3) (Io x.2) (by
     intro j hj _;have C:(sK (.h12 db (i:Int) (k:Int) (zX db f.2) (j:Int) (f,()))).val=if(cond ((zN f.1 (getD x.2 j (zi ze.sl))).1!=0) (!f5 (aA db f.2) (aA db f.2).1.2.2.1 (zN f.1 (getD x.2 j (zi ze.sl)))) Q4)=Q3 then Q1 (.inr (.kb Q4,[]))else Q1 (.inl (.h12 db (i:Int) (k:Int) (zX db f.2) ((j+1:Nat):Int) (f,()))):=by
      simp only[sK,Q8,zk,Prod.eta,zt z,aD,S,zE hj,zt hj,X _ (bN (d:=zi ze.sl) hj),dH H,Te B.t u.may u.keys B.rows,if_true,sU];rw[XP B.t u.may u.keys B.rows,Vr];rw[if_pos (by cases((getD (getD x.2 j (zi ze.sl)) (Int.toNat f.1) (zi ze)).1!=0)<;>rfl)];rw[zr j um]
     by_cases M:(zN f.1 (getD x.2 j (zi ze.sl))).1=0
     ·exact .inl ⟨λh=>absurd M h,zL.of (by rw[C,if_neg (by rw[M];simp)])⟩
     ·have G:((zN f.1 (getD x.2 j (zi ze.sl))).1!=0)=Q3:=by simpa using M
      by_cases O:f5 (aA db f.2) (aA db f.2).1.2.2.1 (zN f.1 (getD x.2 j (zi ze.sl)))=Q3
      ·exact .inl ⟨λ_=>O,zL.of (by rw[C,if_neg (by rw[O,G];simp)])⟩
      ·exact .inr ⟨λh=>O (h M),_,zV.of (by rw[C,if_pos (by rw[G];simpa using O)]),rfl⟩)
    rcases U with⟨F,D⟩|⟨F,r,D,hr⟩
    ·have E:(sK (.h12 db (i:Int) (k:Int) (zX db f.2) (Io x.2:Int) (f,()))).val=Q1 (.inl (.h5 db (i:Int) ((k+1:Nat):Int))):=by
      simp only[sK,Q8,zt z,aD,S,zB];rw[zr k um];rfl
     refine .inl ⟨⟨H,?_⟩,((g1.trans D).trans (zL.of E)).mono ow⟩;exact(az (Q:=λo=>(zN f.1 o).1≠0->f5 (aA db f.2) (aA db f.2).1.2.2.1 (zN f.1 o)=Q3)).1 F
    ·refine .inr ⟨λh=>F ?_,r,(g1.ends D).mono ow,hr⟩;exact(az (Q:=λo=>(zN f.1 o).1≠0->f5 (aA db f.2) (aA db f.2).1.2.2.1 (zN f.1 o)=Q3)).2 h.2
   ·exact .inr ⟨λh=>H h.1,_,(zV.of (by rw[C,if_pos (by rw[aN];omega)])).mono ow,rfl⟩)
  rcases h5 with⟨p5,T⟩|⟨p5,r,T,hr⟩
  ·have E:(sK (.h5 db (i:Int) (Io x.1.t.1:Int))).val=Q1 (.inl (.h2 db ((i+1:Nat):Int))):=by
    simp only[sK,Q8,zt z,aD,S,zB];rw[zr i um];rfl
   refine .inl ⟨?_,(((zL.of C).trans T).trans (zL.of E)).mono ow⟩;exact(az (Q:=λf:Sem zp=>LE.le (α:=Int) 0 (zX db f.2)/\∀o∈x.2,(zN f.1 o).1≠0->f5 (aA db f.2) (aA db f.2).1.2.2.1 (zN f.1 o)=Q3)).1 p5
  ·refine .inr ⟨λh=>p5 ?_,r,((zL.of C).ends T).mono ow,hr⟩;exact(az (Q:=λf:Sem zp=>LE.le (α:=Int) 0 (zX db f.2)/\∀o∈x.2,(zN f.1 o).1≠0->f5 (aA db f.2) (aA db f.2).1.2.2.1 (zN f.1 o)=Q3)).2 h)
 have hb:(∀i,i<Io db->∀f∈(getD db i (zi zh)).1.t.1,LE.le (α:=Int) 0 (zX db f.2)/\∀o∈(getD db i (zi zh)).2,(zN f.1 o).1≠0->f5 (aA db f.2) (aA db f.2).1.2.2.1 (zN f.1 o)=Q3)↔FP db:=
  az (Q:=λx:Sem zh=>∀f∈x.1.t.1,LE.le (α:=Int) 0 (zX db f.2)/\∀o∈x.2,(zN f.1 o).1≠0->f5 (aA db f.2) (aA db f.2).1.2.2.1 (zN f.1 o)=Q3)
 have z:(znh db).val=Q1 (.inl (.h2 db ((0:Nat):Int))):=rfl;rcases I with⟨I,W⟩|⟨I,r,W,h4⟩
 ·refine⟨Q3,zy z (W.ends (zV.of (r:=(.kb Q3,[])) ?_)) ow rfl,λ_=>hb.1 I,λ_=>rfl⟩;simp only[sK,Q8,zB];rfl
 ·unfold YD at h4;subst h4;exact⟨Q4,zy z W ow rfl,λh=>(by cases h),λh=>absurd (hb.2 h) I⟩
theorem Jy{o:List (Sem zh)}(Y:∀x∈o,FZ x):∃e:Int,qF o=Q1 (e,())/\(e=0↔jh o):=by
 by_cases M:Io o<=12
 case neg=>
  refine⟨13,?_,λh=>(by cases h),λh=>absurd h.few M⟩;unfold qF an dd;simp only[i9p,Q8];rw[if_pos sg];rfl
 have z:(i9p o).val=Q1 (.inl (.h4 o ((0+1:Nat):Int))):=by
  simp only[i9p,Q8];rw[if_neg sg];rfl
 have F:=mK (t:=Yj) (Φ:=YC) 1 (λi=>.h4 o ((i+1:Nat):Int)) (λi=>Op.bytesLess (getD o i (zi zh)).1.1 (getD o (i+1) (zi zh)).1.1=Q3) (Io o-1) (by
  intro i z _;have Z:i<Io o:=by omega
  have W:i+1<Io o:=by omega
  have J:(Yj (.h4 o ((i+1:Nat):Int))).val=if(!Op.bytesLess (getD o i (zi zh)).1.1 (getD o (i+1) (zi zh)).1.1)=Q3 then Q1 (.inr (.int .i64 15,[]))else Q1 (.inl (.h4 o ((i+1+1:Nat):Int))):=by
   simp only[Yj,lW i um];simp only[Q8,zE W,zt W,zt Z,aD,if_true];rw[zr (i+1) um]
  by_cases h:Op.bytesLess (getD o i (zi zh)).1.1 (getD o (i+1) (zi zh)).1.1=Q3
  ·exact .inl ⟨h,zL.of (by rw[J,if_neg (by rw[h];simp)])⟩
  ·exact .inr ⟨h,_,zV.of (by rw[J,if_pos (by simpa using h)]),15,rfl,by decide⟩)
 rcases F with⟨T,F⟩|⟨T,r,F,e,E,B⟩
 case inr=>
  subst E;exact⟨e,zy z F ow rfl,λh=>absurd h B,λh=>absurd h.names T⟩
 have U:(Yj (.h4 o ((Io o-1+1:Nat):Int))).val=Q1 (.inl (.h9 o ((0:Nat):Int))):=by
  simp only[Yj,Q8];rw[if_neg sg];rfl
 have O:=F.trans (zL.of U);have D:=mK (t:=Yj) (Φ:=YC) 1 (λi=>.h9 o (i:Int)) (λi=>dQ (getD o i (zi zh))) (Io o) (by
  intro i z _;obtain⟨e,E,H⟩:=Jp (Y _ (bN (d:=zi zh) z));have S:Em (getD o i (zi zh))=Q3:=by unfold Em;rw[E];rfl
  have C:Jo (getD o i (zi zh))=e:=by unfold Jo;rw[E];rfl
  have J:(Yj (.h9 o (i:Int))).val=if(e !=0)=Q3 then Q1 (.inr (.int .i64 e,[]))else Q1 (.inl (.h9 o ((i+1:Nat):Int))):=by
   simp only[Yj,Q8,zk,zE z,zt z,aD,if_true,Prod.eta,S,C];rw[zr i um]
  by_cases h:e=0
  ·exact .inl ⟨H.1 h,zL.of (by rw[J,if_neg (by rw[h];simp)])⟩
  ·exact .inr ⟨λI=>h (H.2 I),_,zV.of (by rw[J,if_pos (by simpa using h)]),e,rfl,h⟩)
 rcases D with⟨I,D⟩|⟨I,r,D,e,E,B⟩
 case inr=>
  subst E;exact⟨e,zy z (O.ends D) ow rfl,λh=>absurd h B,λh=>absurd ((az (Q:=dQ)).2 h.rels) I⟩
 have u:=(az (Q:=dQ)).1 I;obtain⟨b,X,G⟩:=Jv (db:=o) u Y ow;have S:Eo o=Q3:=by unfold Eo;rw[X];rfl
 have C:Ju o=b:=by unfold Ju;rw[X];rfl
 have L:(Yj (.h9 o (Io o:Int))).val=if(!b)=Q3 then Q1 (.inr (.int .i64 10,[]))else Q1 (.inr (.int .i64 0,[])):=by
  simp only[Yj,Q8,zB,S,C];rfl
 by_cases h:b=Q3
 ·exact⟨0,zy z (O.ends (D.ends (zV.of (by rw[L,if_neg (by rw[h];simp)])))) ow rfl,λ_=>⟨M,T,u,G.1 h⟩,λ_=>rfl⟩
 ·exact⟨10,zy z (O.ends (D.ends (zV.of (by rw[L,if_pos (by simpa using h)])))) ow rfl,λh=>(by cases h),λhB=>absurd (G.2 hB.bound) h⟩
theorem Dy(x:Int):∀(l:List Int)(i:Nat),(∃j,∃B:j<Io l,eL x l (i:Int)=((i+j:Nat):Int)/\l[j]=x/\∀k(z:k<j),l[k]≠x)\/(eL x l (i:Int)=(-1:Int)/\x∉l)
 |[],i=>.inr ⟨rfl,sw⟩
 | a::r,i=>by
  rw[eL];by_cases h:x=a
  ·rw[if_pos (by simpa using h)];exact .inl ⟨0,sw,sw,h.symm,λk z=>absurd z ow⟩
  ·rw[if_neg (by simpa using h),show((i:Int)+1)=((i+1:Nat):Int) by omega];rcases Dy x r (i+1)with⟨j,B,o,u,C⟩|⟨o,u⟩
   ·refine .inl ⟨j+1,by simpa using B,by rw[o];congr 1;omega,u,λk z=>?_⟩;cases k with
    |zero=>exact λe=>h e.symm
    |succ k=>exact C k ow
   ·exact .inr ⟨o,by simp[u,h]⟩
theorem LO(l:List Int)(x:Int):(∃j,∃o:j<Io l,gF l x=(j:Int)/\l[j]=x/\∀k(B:k<j),l[k]≠x)\/(gF l x=(-1:Int)/\x∉l):=by
 rcases Dy x l 0 with⟨j,o,u,z⟩|h
 ·exact .inl ⟨j,o,by show eL x l ((0:Nat):Int)=_;rw[u,ez],z⟩
 ·exact .inr h
def zb5(c:Sem zj):Prop:=zQ c.1=Q3/\LE.le (α:=Int) 1 c.2.1/\LE.le (α:=Int) c.2.1 3
theorem o8.col{t:Sem zo}(h:o8 t):∀c∈t.2.1,zb5 c:=by
 intro c u;obtain⟨i,o,rfl⟩:=gq u;have:=h.cols i o;rw[aU,zU o,dv]at this;exact⟨this.1,this.2.1,this.2.2.1⟩
theorem Xv{t:Sem zo}{s:zD}(h:¬LT.lt (α:=Int) (zR t s) 0):Int.toNat (zR t s)<Io t.2.1:=by
 rcases wR t s with o|⟨o,u⟩
 ·rw[o]at h;simp at h
 ·omega
theorem o8.at{t:Sem zo}(h:o8 t){s:zD}(o:¬LT.lt (α:=Int) (zR t s) 0):zb5 (getD t.2.1 (Int.toNat (zR t s)) (zi zj)):=h.col _ (vo _ _ (Xv o))
theorem Lr{o:List (Sem zh)}{n:zD}(u:jh o)(h:(0:Int)<=zX o n):o8 (ah o n):=(iS _).1 (u.rels _ (ng h)).may
theorem Hq{t:Sem zo}{o:List zD}(h:fW t o=0):(∀s∈o,¬LT.lt (α:=Int) (zR t s) 0)/\(ju t o).Nodup:=by
 unfold fW at h;split at h
 ·rename_i u;split at h
  ·exact⟨u,by assumption⟩
  ·cases h
 ·cases h
theorem SW{s:Sem zn}(u:pq s)(h:er s=Q3)(z:jQ s.1):zQ s.2.1=Q3/\bW s.t.t.1=Q3/\(s.1=cV->1<=Io s.2.2.2.1/\Io s.2.2.2.1<=8)/\(s.1=eW->zQ s.t.t.t=Q3)/\(s.1=ku->Io s.2.2.2.1=2):=by
 have hp:=jY h;rcases z with o|o|o
 ·rw[QK u o]at hp;simp only[aE,lv,aN]at hp;exact⟨hp.2.1,hp.1.2.1,λ_=>hp.1.1.2,λk=>(by rw[o]at k;cases k),λk=>(by rw[o]at k;cases k)⟩
 ·rw[QL u o]at hp;simp only[aE,oC]at hp;exact⟨hp.2.1,hp.1.1,λk=>(by rw[o]at k;cases k),λ_=>hp.1.2.2.1,λk=>(by rw[o]at k;cases k)⟩
 ·rw[Mj u o]at hp;simp only[aE,gM,aN]at hp;exact⟨hp.2.1,hp.1.2.1,λk=>(by rw[o]at k;cases k),λk=>(by rw[o]at k;cases k),λ_=>hp.1.1⟩
end Cad
