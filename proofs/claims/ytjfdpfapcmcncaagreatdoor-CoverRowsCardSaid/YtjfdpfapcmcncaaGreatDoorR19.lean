/- The document's expressions that may be are the program's. -/
import Derived.Test.YtjfdpfapcmcncaaGreatDoorR18
namespace Cad
open Go Go.Proofs
open List renaming length→Io
open IntKind renaming wrap→Γ,i64→Δ
open Tr renaming val→Q8
open Bool renaming false→Q4,true→Q3
open Option renaming none→Q2,some→Q1
open Decidable renaming decide→Q0
open Int (toNat)
open List (getD)
open Tr (chk br re)
open AV (nils agg tup ptr kb str sl)
set_option maxHeartbeats 4000000
mutual
def tz:zf->Prop
 |.mk _ v s l=>kd v/\Io s<=1000000/\kv l
def kv:List zf->Prop
 |[]=>True
 |e::r=>tz e/\kv r
end
theorem kv.mem:∀{l:List zf},kv l->∀e∈l,tz e
 |[],_,e,h=>by simp at h
 | x::r,h,e,o=>by
  rw[kv]at h;rcases bL.1 o with rfl|o
  ·exact h.1
  ·exact kv.mem h.2 e o
def FL(o:zD):Bool:=bif o==em then Q3 else bif o==uQ then Q3 else bif o==[61]then Q3 else bif o==[60]then Q3 else bif o==[43]then Q3 else o==[45]
theorem Ms(s:zD):OK s=Q1 (FL s,()):=rfl
theorem XM(s:zD):Jh s=Q3:=by unfold Jh;rw[Ms];rfl
theorem zbo(s:zD):QM s=FL s:=by unfold QM;rw[Ms];rfl
def bE:Nat->zf->Bool
 |0,_=>Q4
 | d+1,.mk o v s l=>
  if(o==kH)=Q3 then(cond (aU v) (cond (s==[]) ((Io l:Int)==0) Q4) Q4)else
  if(o==cX)=Q3 then(cond (aT v) (cond (ei s) (cond (!jw s) ((Io l:Int)==0) Q4) Q4) Q4)else
  if(cond (o==mS) Q3 (o==pb))=Q3 then(cond (aT v) (cond (s==[]) (match l with|[a]=>bE d a|_=>Q4) Q4) Q4)else
  if FL o=Q3 then(cond (aT v) (cond (s==[]) (match l with|[a,b]=>bif bE d a then bE d b else Q4|_=>Q4) Q4) Q4)else Q4
def nE:Nat->zf->Nat
 |0,_=>0
 |d+1,.mk _ _ _ l=>1+(l.map (nE d)).sum
theorem TC(d:Nat)(h:d<=1000):Γ Δ (((d+1:Nat):Int)-1)=(d:Int):=lV d um
theorem Hz:∀(N d:Nat)(e:zf),d<=12->d<N->tz e->fY N e (d:Int)=Q1 (bE d e,())
 |0,_,_,_,h,_=>absurd h ow
 | N+1,0,e,_,_,_=>by
  rw[fY];unfold Jg al dd;rfl
 | N+1,d+1,.mk D v s l,X,Y,M=>by
  rw[tz]at M;obtain⟨L,J,U⟩:=M;have G:∀a∈l,fY N a (d:Int)=Q1 (bE d a,()):=λa I=>Hz N d a ow ow (U.mem a I)
  rw[fY];unfold Jg al dd;have W:(((d+1:Nat):Int)==0)=Q4:=cd.2 ow;simp only[PX,Q8,zk,zf.op,zf.v,zf.s,zf.l,lD L.2.2,oE L.2.2,yC J,Et J,MB,QN,XM,zbo,TC d ow,if_true,W]
  match l,G with
  | [],_=>
   simp only[bE,aT];rcases zN (D==kH)with z|z
   ·rcases zN (aU v)with o|o<;>rcases zN (s==[])with u|u<;>(simp only[z,o,u,af,ao,if_true,if_false,zA,dV];rfl)
   rcases zN (D==cX)with B|B
   ·rcases zN (aT v)with o|o<;>rcases zN (ei s)with u|u<;>rcases zN (jw s)with C|C<;>(simp only[aT]at o;simp only[z,B,o,u,C,af,ao,if_true,if_false,zA,dV,bA,cA];rfl)
   rcases zN (cond (D==mS) Q3 (D==pb))with E|E
   ·rcases zN (aT v)with o|o<;>rcases zN (s==[])with u|u<;>(simp only[aT]at o;simp only[z,B,E,o,u,af,ao,if_true,if_false,zA,dV];rfl)
   rcases zN (FL D)with F|F
   ·rcases zN (aT v)with o|o<;>rcases zN (s==[])with u|u<;>(simp only[aT]at o;simp only[z,B,E,F,o,u,af,ao,if_true,if_false,zA,dV];rfl)
   ·simp only[z,B,E,F,if_false,zA,dV];rfl
  | [a],G=>
   have I:=G a sw;simp only[bE,aT,show getD [a] (toNat 0) (zi Sh.expr)=a from rfl,I,show zJ 0 [a].length=Q3 from rfl,F5,show∀x,oK (Q1 (x,()))=x from λ_=>rfl];rcases zN (D==kH)with z|z
   ·rcases zN (aU v)with o|o<;>rcases zN (s==[])with u|u<;>(simp only[z,o,u,af,ao,if_true,if_false,zA,dV];rfl)
   rcases zN (D==cX)with B|B
   ·rcases zN (aT v)with o|o<;>rcases zN (ei s)with u|u<;>rcases zN (jw s)with C|C<;>(simp only[aT]at o;simp only[z,B,o,u,C,af,ao,if_true,if_false,zA,dV,bA,cA];rfl)
   rcases zN (cond (D==mS) Q3 (D==pb))with E|E
   ·rcases zN (aT v)with o|o<;>rcases zN (s==[])with u|u<;>rcases zN (bE d a)with C|C<;>(simp only[aT]at o;simp only[z,B,E,o,u,C,af,ao,if_true,if_false,zA,dV];rfl)
   rcases zN (FL D)with F|F
   ·rcases zN (aT v)with o|o<;>rcases zN (s==[])with u|u<;>rcases zN (bE d a)with C|C<;>(simp only[aT]at o;simp only[z,B,E,F,o,u,C,af,ao,if_true,if_false,zA,dV];rfl)
   ·simp only[z,B,E,F,if_false,zA,dV];rfl
  | [a,b],G=>
   have I:=G a sw;have T:=G b sw;simp only[bE,aT,show getD [a,b] (toNat 0) (zi Sh.expr)=a from rfl,show getD [a,b] (toNat 1) (zi Sh.expr)=b from rfl,I,T,show zJ 0 [a,b].length=Q3 from rfl,show zJ 1 [a,b].length=Q3 from rfl,F5,show∀x,oK (Q1 (x,()))=x from λ_=>rfl];rcases zN (D==kH)with z|z
   ·rcases zN (aU v)with o|o<;>rcases zN (s==[])with u|u<;>(simp only[z,o,u,af,ao,if_true,if_false,zA,dV];rfl)
   rcases zN (D==cX)with B|B
   ·rcases zN (aT v)with o|o<;>rcases zN (ei s)with u|u<;>rcases zN (jw s)with C|C<;>(simp only[aT]at o;simp only[z,B,o,u,C,af,ao,if_true,if_false,zA,dV,bA,cA];rfl)
   rcases zN (cond (D==mS) Q3 (D==pb))with E|E
   ·rcases zN (aT v)with o|o<;>rcases zN (s==[])with u|u<;>rcases zN (bE d a)with C|C<;>rcases zN (bE d b)with H|H<;>(simp only[aT]at o;simp only[z,B,E,o,u,C,H,af,ao,if_true,if_false,zA,dV];rfl)
   rcases zN (FL D)with F|F
   ·rcases zN (aT v)with o|o<;>rcases zN (s==[])with u|u<;>rcases zN (bE d a)with C|C<;>rcases zN (bE d b)with H|H<;>(simp only[aT]at o;simp only[z,B,E,F,o,u,C,H,af,ao,if_true,if_false,zA,dV];rfl)
   ·simp only[z,B,E,F,if_false,zA,dV];rfl
  | a::b::c::r,_=>
   have e0:((((a::b::c::r).length:Nat):Int)==0)=Q4:=cd.2 sg;have O:((((a::b::c::r).length:Nat):Int)==1)=Q4:=cd.2 sg;have S:((((a::b::c::r).length:Nat):Int)==2)=Q4:=cd.2 sg;simp only[bE,aT,e0,O,S];rcases zN (D==kH)with z|z
   ·rcases zN (aU v)with o|o<;>rcases zN (s==[])with u|u<;>(simp only[z,o,u,af,ao,if_true,if_false,zA,dV];rfl)
   rcases zN (D==cX)with B|B
   ·rcases zN (aT v)with o|o<;>rcases zN (ei s)with u|u<;>rcases zN (jw s)with C|C<;>(simp only[aT]at o;simp only[z,B,o,u,C,af,ao,if_true,if_false,zA,dV,bA,cA];rfl)
   rcases zN (cond (D==mS) Q3 (D==pb))with E|E
   ·rcases zN (aT v)with o|o<;>rcases zN (s==[])with u|u<;>(simp only[aT]at o;simp only[z,B,E,o,u,af,ao,if_true,if_false,zA,dV];rfl)
   rcases zN (FL D)with F|F
   ·rcases zN (aT v)with o|o<;>rcases zN (s==[])with u|u<;>(simp only[aT]at o;simp only[z,B,E,F,o,u,af,ao,if_true,if_false,zA,dV];rfl)
   ·simp only[z,B,E,F,ao,if_false,zA,dV];rfl
theorem To{o:zD}(h:FL o=Q3):o=em\/o=uQ\/o=[61]\/o=[60]\/o=[43]\/o=[45]:=by
 unfold FL at h;rcases zN (o==em)with c|c
 ·exact .inl (bG c)
 rcases zN (o==uQ)with u|u
 ·exact .inr (.inl (bG u))
 rcases zN (o==[61])with z|z
 ·exact .inr (.inr (.inl (bG z)))
 rcases zN (o==[60])with B|B
 ·exact .inr (.inr (.inr (.inl (bG B))))
 rcases zN (o==[43])with C|C
 ·exact .inr (.inr (.inr (.inr (.inl (bG C)))))
 rcases zN (o==[45])with D|D
 ·exact .inr (.inr (.inr (.inr (.inr (bG D)))))
 rw[c,u,z,B,C,D]at h;cases h
inductive TZ (d:Nat):zf->Prop
 |lit (v:Int×Int×zD) (h:aU v=Q3):TZ d (.mk kH v [] [])
 |col (s:zD) (h:ei s=Q3) (h2:jw s=Q4):TZ d (.mk cX (0,0,[]) s [])
 |one (op:zD) (a:zf) (h:op=mS\/op=pb) (ha:bE d a=Q3):TZ d (.mk op (0,0,[]) [] [a])
 |two (op:zD) (a b:zf) (h:op=em\/op=uQ\/op=[61]\/op=[60]\/op=[43]\/op=[45]) (ha:bE d a=Q3) (hb:bE d b=Q3):TZ d (.mk op (0,0,[]) [] [a,b])
theorem Dv{v:Int×Int×zD}(h:aT v=Q3):v=(0,0,[]):=by
 obtain⟨a,b,c⟩:=v;unfold aT at h;simp at h;obtain⟨rfl,rfl,rfl⟩:=h;rfl
theorem ck{a b:Bool}(h:(cond a b Q4)=Q3):a=Q3/\b=Q3:=by
 cases a<;>cases b<;>simp_all
theorem SU{o:zD}(h:(cond (o==mS) Q3 (o==pb))=Q3):o=mS\/o=pb:=by
 rcases zN (o==mS)with k|k
 ·exact .inl (bG k)
 ·rw[k]at h;exact .inr (bG h)
theorem dr{d:Nat}:∀{e:zf},bE (d+1) e=Q3->TZ d e
 | .mk F v s [],h=>by
  simp only[bE]at h;split at h
  ·rename_i c;obtain⟨z,B⟩:=ck h;obtain⟨C,D⟩:=ck B;rw[bG c,bG C];exact .lit v z
  split at h
  ·rename_i c;obtain⟨z,B⟩:=ck h;obtain⟨C,D⟩:=ck B;obtain⟨G,J⟩:=ck D;rw[bG c,Dv z];exact .col s C (by simpa using G)
  split at h
  ·cases o:aT v<;>cases u:(s==[])<;>simp[o,u]at h
  split at h
  ·cases o:aT v<;>cases u:(s==[])<;>simp[o,u]at h
  ·cases h
 | .mk F v s [a],h=>by
  simp only[bE]at h;split at h
  ·cases o:aU v<;>cases u:(s==[])<;>simp[o,u]at h
  split at h
  ·cases o:aT v<;>cases u:ei s<;>cases E:jw s<;>simp[o,u,E]at h
  split at h
  ·rename_i c;obtain⟨z,B⟩:=ck h;obtain⟨C,D⟩:=ck B;rw[bG C,Dv z];exact .one F a (SU c) D
  split at h
  ·cases o:aT v<;>cases u:(s==[])<;>simp[o,u]at h
  ·cases h
 | .mk F v s [a,b],h=>by
  simp only[bE]at h;split at h
  ·cases o:aU v<;>cases u:(s==[])<;>simp[o,u]at h
  split at h
  ·cases o:aT v<;>cases u:ei s<;>cases E:jw s<;>simp[o,u,E]at h
  split at h
  ·cases o:aT v<;>cases u:(s==[])<;>simp[o,u]at h
  split at h
  ·rename_i c;obtain⟨z,B⟩:=ck h;obtain⟨C,D⟩:=ck B;obtain⟨H,I⟩:=ck D;rw[bG C,Dv z];exact .two F a b (To c) H I
  ·cases h
 | .mk F v s (a::b::c::r),h=>by
  have e0:((((a::b::c::r).length:Nat):Int)==0)=Q4:=cd.2 sg;simp only[bE,e0]at h;split at h
  ·cases o:aU v<;>cases u:(s==[])<;>simp[o,u]at h
  split at h
  ·cases o:aT v<;>cases u:ei s<;>cases E:jw s<;>simp[o,u,E]at h
  split at h
  ·cases o:aT v<;>cases u:(s==[])<;>simp[o,u]at h
  split at h
  ·cases o:aT v<;>cases u:(s==[])<;>simp[o,u]at h
  ·cases h
theorem tf:∀(d:Nat)(e:zf),bE d e=Q3->nE d e+1<=2^d
 |0,_,h=>by cases h
 | d+1,e,h=>by
  have u:0<2^d:=Nat.two_pow_pos d;cases dr h with
  |lit v h=>simp[nE,tA];omega
  |col s h u=>simp[nE,tA];omega
  |one B a h o=>have:=tf d a o;simp[nE,tA];omega
  |two B a b h o z=>have:=tf d a o;have:=tf d b z;simp[nE,tA];omega
theorem zh4{d:Nat}{e:zf}(h:bE d e=Q3):1<=nE d e:=by
 cases d with
 |zero=>cases h
 | succ d=>
  obtain⟨o,v,s,l⟩:=e;rw[nE];omega
theorem Yy{n:Nat}(h:n<=1000000):Γ Δ (n:Int)=(n:Int):=by
 rw[gr];omega
theorem oM:∀(N d:Nat)(e:zf),d<=12->d<=N->bE d e=Q3->cD N e=Q1 ((nE d e:Int),())
 |_,0,_,_,_,h=>by cases h
 |0,d+1,_,_,h,_=>absurd h ow
 | N+1,d+1,e,T,I,h=>by
  have hp:2^(d+1)<=2^12:=F3 ow ow;have J:=tf (d+1) e h
  have o:∀(e:zf)(i:Nat)(n k:Nat)(E:i<(zf.l e).length),cD N (zf.l e)[i]=Q1 ((k:Int),())->n+k<=1000000->i<=1000->
    (EX (λz=>iK (cD N z)) (λz=>(cD N z).isSome) (.h3 (n:Int) (i:Int) (e,()))).val=Q1 (.inl (.h3 ((n+k:Nat):Int) ((i+1:Nat):Int) (e,()))):=by
   intro e i n k E L M U;have H:getD (zf.l e) (i:Int).toNat (zi Sh.expr)=(zf.l e)[i]:=zH _ _ E;simp only[EX,JX,EY,Q8,H,zk,L,zF E,zt E,F5,if_true];show Q1 (Sum.inl (uD.h3 (Γ Δ ((n:Int)+(k:Int))) _ _))=_;rw[zr i um,<-uK,Yy M]
  have u:∀(e:zf)(n:Nat),(EX (λz=>iK (cD N z)) (λz=>(cD N z).isSome) (.h3 (n:Int) ((zf.l e).length:Int) (e,()))).val=Q1 (.inr (.int .i64 n,[])):=by
   intro e n;simp only[EX,JX,EY,Q8,zB];rfl
  have B:∀e,(PY (λz=>iK (cD N z)) (λz=>(cD N z).isSome) e).val=Q1 (.inl (.h3 ((1:Nat):Int) ((0:Nat):Int) (e,()))):=λ_=>rfl
  rw[cD];unfold Mr;cases dr h with
  |lit v h=>exact zy (B _) (zV.of (u _ 1)) ow rfl
  |col s h I=>exact zy (B _) (zV.of (u _ 1)) ow rfl
  | one C a h D=>
   have F:=oM N d a ow ow D;have O:=tf d a D;have S:2^d<=2^12:=F3 ow ow;refine zy (B _) ((zL.of (o (.mk C (0,0,[]) [] [a]) 0 1 (nE d a) (by simp[zf.l]) F ow ow)).ends (zV.of (u (.mk C (0,0,[]) [] [a]) _))) ow ?_;simp[nE];rfl
  | two C a b h D G=>
   have F:=oM N d a ow ow D;have kb:=oM N d b ow ow G;have O:=tf d a D;have W:=tf d b G;have S:2^d<=2^12:=F3 ow ow;refine zy (B _) ((zL.of (o (.mk C (0,0,[]) [] [a,b]) 0 1 (nE d a) (by simp[zf.l]) F ow ow)).ends ((zL.of (o (.mk C (0,0,[]) [] [a,b]) 1 (1+nE d a) (nE d b) (by simp[zf.l]) kb ow ow)).ends (zV.of (u (.mk C (0,0,[]) [] [a,b]) _)))) ow ?_;simp[nE,Nat.add_assoc];rfl
theorem rC:∀(N k:Nat)(e:zf)(n:Nat),k<=12->k<=N->bE k e=Q3->n+nE k e<=60->il N e ((13:Int)-k) n=(Q3,((n+nE k e:Nat):Int))
 |_,0,_,_,_,_,h,_=>by cases h
 |0,k+1,_,_,_,h,_,_=>absurd h ow
 | N+1,k+1,e,n,S,E,h,F=>by
  rw[il];unfold AZ;have w1:Γ Δ ((n:Int)+1)=((n+1:Nat):Int):=zr n um;have H:Γ Δ ((13:Int)-((k+1:Nat):Int)+1)=(13:Int)-(k:Int):=by rw[gr];omega
  have I:Q0 ((13:Int)-((k+1:Nat):Int)>12)=Q4:=aq ow;have G:=zh4 h;have J:Q0 (((n+1:Nat):Int)>60)=Q4:=aq ow;rw[w1,I,J];cases dr h with
  |lit v M=>simp[zf.op,zf.l,zf.s,zf.v,cY,Ay,Rb,M,nE]
  |col s O E=>simp[zf.op,zf.l,zf.s,zf.v,cY,Ay,Rb,O,E,nE,aT]
  | one D a z o=>
   have u:n+1+nE k a<=60:=by simp[nE]at F;omega
   have C:=rC N k a (n+1) ow ow o u;have B:((n+nE (k+1) (.mk D (0,0,[]) [] [a]):Nat):Int)=((n+1+nE k a:Nat):Int):=by simp[nE];omega
   rw[B]
   push_cast at*
   rcases z with rfl|rfl<;>simp[zf.op,zf.l,zf.s,zf.v,cY,Ay,Rb,aT,pz,H,C]
  | two D a b z o L=>
   have u:n+1+nE k a+nE k b<=60:=by simp[nE]at F;omega
   have C:=rC N k a (n+1) ow ow o ow;have kb:=rC N k b (n+1+nE k a) ow ow L u;have B:((n+nE (k+1) (.mk D (0,0,[]) [] [a,b]):Nat):Int)=((n+1+nE k a+nE k b:Nat):Int):=by simp[nE];omega
   rw[B]
   push_cast at*
   rcases z with rfl|rfl|rfl|rfl|rfl|rfl<;>simp[zf.op,zf.l,zf.s,zf.v,cY,Ay,Rb,aT,pz,H,C,kb]
theorem nf{α:Type}{p:α->Bool}{d:α}:∀(l:List α)(k i:Nat),i<Io l->p (l.getD i d)=Q3->(∀j,j<i->p (l.getD j d)=Q4)->zW p l k=((k+i:Nat):Int)
 |[],_,_,h,_,_=>by simp at h
 | x::r,k,0,_,hp,_=>by
  rw[zW,if_pos (by simpa using hp)];rfl
 | x::r,k,i+1,h,hp,hj=>by
  have o:=hj 0 ow;rw[zW,if_neg (by rw[show p x=Q4 by simpa using o];simp),nf r (k+1) i (by simpa using h) (by simpa using hp) (λj u=>by simpa using hj (j+1) ow)];congr 1;omega
theorem ng{α:Type}{p:α->Bool}{d:α}:∀(l:List α)(k:Nat),(∀j,j<Io l->p (l.getD j d)=Q4)->zW p l k=-1
 |[],_,_=>rfl
 | x::r,k,hj=>by
  have o:=hj 0 sw;rw[zW,if_neg (by rw[show p x=Q4 by simpa using o];simp)];exact ng (d:=d) r (k+1) (λj h=>by simpa using hj (j+1) (by simpa using h))
theorem Ej{o:List (Sem zj)}{s:zD}(F:Io o<=1000000):Ei o s=Q1 (ap o s,()):=by
 have D:=mI (t:=O7) (Φ:=λr=>r=(.int .i64 (ap o s),[])) 1 (λi=>.h2 o s (i:Int)) (λi=>((getD o i (zi zj)).1==s)=Q4) (Io o) (by
  intro i u E;have C:(O7 (.h2 o s (i:Int))).val=if((getD o i (zi zj)).1==s)=Q3 then Q1 (.inr (.int .i64 i,[]))else Q1 (.inl (.h2 o s ((i+1:Nat):Int))):=by
   simp only[O7,O8,J2,Q8,zF u,zt u,aD,if_true];rw[zr i um]
  rcases zN ((getD o i (zi zj)).1==s)with h|h
  ·refine .inr ⟨by rw[h];simp,_,zV.of (by rw[C,if_pos h]),?_⟩;have:=nf (p:=λc:Sem zj=>c.1==s) (d:=zi zj) o 0 i u h E;rw[show ap o s=(i:Int) by unfold ap;rw[this];simp]
  ·exact .inl ⟨h,zL.of (by rw[C,if_neg (by rw[h];simp)])⟩)
 have u:(zaN o s).val=Q1 (.inl (.h2 o s ((0:Nat):Int))):=rfl;rcases D with⟨B,z⟩|⟨B,r,z,rfl⟩
 ·have:=ng (p:=λc:Sem zj=>c.1==s) (d:=zi zj) o 0 B;rw[show ap o s=(-1:Int)from this];refine zy u (z.ends (zV.of (r:=(.int .i64 (-1),[])) ?_)) ow rfl;simp only[O7,O8,J2,Q8,zB];rfl
 ·exact zy u z ow rfl
theorem ju{h:List (Sem zj)}{s:zD}(o:Io h<=1000000):dM h s=Q3:=by unfold dM;rw[Ej o];rfl
theorem kT{h:List (Sem zj)}{s:zD}(o:Io h<=1000000):eR h s=ap h s:=by unfold eR;rw[Ej o];rfl
theorem T9(t u:Int):mA [t] u=!(cond (t !=u) (t !=0) Q4):=by
 unfold mA;simp only[zW];rcases zN (cond (t !=u) (t !=0) Q4)with h|h<;>simp[h]
theorem uL(t o u:Int):mA [t,o] u=!(cond (cond (t !=u) (t !=0) Q4) Q3 (cond (o !=u) (o !=0) Q4)):=by
 unfold mA;simp only[zW];rcases zN (cond (t !=u) (t !=0) Q4)with h|h<;>rcases zN (cond (o !=u) (o !=0) Q4)with z|z<;>simp[h,z]
theorem OJ{g c}{cols:List (Sem zj)}{e:zf}(F:Io cols<=1000000):∃r k,zV (M1 g c) k (.h5 cols ((0:Nat):Int) (e,())) r/\k<=100000000/\aI r.2 [zg,zg] r.1=Q1 (if Q0 (LT.lt (α:=Int) (ap cols (zf.s e)) 0)=Q3 then((0:Int),(4:Int),())else((getD cols (toNat (ap cols (zf.s e))) (zi zj)).2.1,(0:Int),())):=by
 have D:=mI (t:=M1 g c) (Φ:=λr=>aI r.2 [zg,zg] r.1=Q1 (if Q0 (LT.lt (α:=Int) (ap cols (zf.s e)) 0)=Q3 then((0:Int),(4:Int),())else((getD cols (toNat (ap cols (zf.s e))) (zi zj)).2.1,(0:Int),()))) 1 (λi=>.h5 cols (i:Int) (e,())) (λi=>((getD cols i (zi zj)).1==zf.s e)=Q4) (Io cols) (by
  intro i u E;have B:(M1 g c (.h5 cols (i:Int) (e,()))).val=if((getD cols i (zi zj)).1==zf.s e)=Q3 then Q1 (.inr (.tup [.int .i64 (getD cols i (zi zj)).2.1,.int .i64 0],[]))else Q1 (.inl (.h5 cols ((i+1:Nat):Int) (e,()))):=by
   simp only[M1,Q8,zF u,zt u,aD,if_true];rw[zr i um]
  rcases zN ((getD cols i (zi zj)).1==zf.s e)with h|h
  ·refine .inr ⟨by rw[h];simp,_,zV.of (by rw[B,if_pos h]),?_⟩;have:=nf (p:=λc:Sem zj=>c.1==zf.s e) (d:=zi zj) cols 0 i u h E;rw[show ap cols (zf.s e)=(i:Int) by unfold ap;rw[this];simp,if_neg (by rw[aQ];omega),aD];rfl
  ·exact .inl ⟨h,zL.of (by rw[B,if_neg (by rw[h];simp)])⟩)
 rcases D with⟨z,o⟩|⟨z,r,o,C⟩
 ·have:=ng (p:=λc:Sem zj=>c.1==zf.s e) (d:=zi zj) cols 0 z;refine⟨(.tup [.int .i64 0,.int .i64 4],[]),_,o.ends (zV.of ?_),ow,?_⟩
  ·simp only[M1,Q8,zB];rfl
  ·rw[show ap cols (zf.s e)=(-1:Int)from this];rfl
 ·exact⟨r,_,o,ow,C⟩
theorem rW{cols:List (Sem zj)}(X:Io cols<=1000000):∀(N d M:Nat)(e:zf),d<=N->d<=M->bE d e=Q3->ce N e cols=Q1 ((zS M e cols).1,(zS M e cols).2,())
 |_,0,_,_,_,_,h=>by cases h
 |0,d+1,_,_,h,_,_=>absurd h ow
 |_,d+1,0,_,_,h,_=>absurd h ow
 | N+1,d+1,M+1,e,h1,h2,h=>by
  rw[ce,zS];unfold QL yP;cases dr h with
  |lit v hv=>rfl
  | col s hw hr=>
   obtain⟨r,k,o,z,B⟩:=OJ (g:=λH I=>fX (ce N H I)) (c:=λH I=>(ce N H I).isSome) (cols:=cols) (e:=.mk cX (0,0,[]) s []) X;refine zy JK o z (B.trans ?_);have C:aJ (zS M) (bj M) cols cX (0:Int) (0:Int) [] s [] [] 0 []=if Q0 (LT.lt (α:=Int) (ap cols s) 0)=Q3 then((0:Int),(4:Int))else((getD cols (toNat (ap cols s)) (zi zj)).2.1,(0:Int)):=rfl
   show _=Q1 ((aJ (zS M) (bj M) cols cX (0:Int) (0:Int) [] s [] [] 0 []).1,(aJ (zS M) (bj M) cols cX (0:Int) (0:Int) [] s [] [] 0 []).2,());rw[C];show Q1 (if Q0 (LT.lt (α:=Int) (ap cols s) 0)=Q3 then((0:Int),(4:Int),())else((getD cols (toNat (ap cols s)) (zi zj)).2.1,(0:Int),()))=_;rcases zN (Q0 (LT.lt (α:=Int) (ap cols s) 0))with c|c
   ·rw[if_pos c,if_pos c]
   ·rw[if_neg (by rw[c];simp),if_neg (by rw[c];simp)]
  | one op a Z Y=>
   have T:=rW X N d M a ow ow Y;unfold al dd;generalize W:(λH I=>fX (ce N H I))=g;generalize U:(λH I=>(ce N H I).isSome)=c;have L:g a cols=zS M a cols:=by rw[<-W];show fX (ce N a cols)=_;rw[T];rfl
   have J:c a cols=Q3:=by rw[<-U];show(ce N a cols).isSome=_;rw[T];rfl
   rcases Z with rfl|rfl
   ·have C:aJ (zS M) (bj M) cols mS (0:Int) (0:Int) [] [] [a] [a] 0 []=if((zS M a cols).2!=0)=Q3 then((0:Int),(zS M a cols).2)else if(!mA [(zS M a cols).1] 3)=Q3 then((0:Int),(5:Int))else((3:Int),(0:Int)):=rfl
    show _=Q1 ((aJ (zS M) (bj M) cols mS (0:Int) (0:Int) [] [] [a] [a] 0 []).1,(aJ (zS M) (bj M) cols mS (0:Int) (0:Int) [] [] [a] [a] 0 []).2,());rw[C,T9];have F:(Dt g c (.mk mS (0,0,[]) [] [a]) cols).val=if c (zm a) cols=Q3 then(ite (((g (zm a) cols).2!=0)=Q3) (Q1 (.inr (.tup [.int .i64 0,.int .i64 (g (zm a) cols).2],[]))) (ite ((cond ((g (zm a) cols).1!=0) (cond ((g (zm a) cols).1!=3) Q3 (cond ((g (zm a) cols).1!=0) ((g (zm a) cols).1!=3) Q4)) (cond ((g (zm a) cols).1!=0) ((g (zm a) cols).1!=3) Q4))=Q3) (Q1 (.inr (.tup [.int .i64 0,.int .i64 5],[]))) (Q1 (.inr (.tup [.int .i64 3,.int .i64 0],[])))))else Q2:=rfl
    rw[F,zk,J,L];generalize zS M a cols=t;rcases zN (t.2!=0)with o|o<;>rcases zN (t.1!=0)with z|z<;>rcases zN (t.1!=3)with B|B<;>(simp only[o,z,B,af,ao,if_true,if_false,zA,bA,cA];rfl)
   ·have C:aJ (zS M) (bj M) cols pb (0:Int) (0:Int) [] [] [a] [a] 0 []=if((zS M a cols).2!=0)=Q3 then((0:Int),(zS M a cols).2)else((3:Int),(0:Int)):=rfl
    show _=Q1 ((aJ (zS M) (bj M) cols pb (0:Int) (0:Int) [] [] [a] [a] 0 []).1,(aJ (zS M) (bj M) cols pb (0:Int) (0:Int) [] [] [a] [a] 0 []).2,());rw[C];have F:(Dt g c (.mk pb (0,0,[]) [] [a]) cols).val=if c (zm a) cols=Q3 then(ite (((g (zm a) cols).2!=0)=Q3) (Q1 (.inr (.tup [.int .i64 0,.int .i64 (g (zm a) cols).2],[]))) (Q1 (.inr (.tup [.int .i64 3,.int .i64 0],[]))))else Q2:=rfl
    rw[F,zk,J,L];generalize zS M a cols=t;rcases zN (t.2!=0)with o|o<;>(simp only[o,if_true,if_false,zA];rfl)
  | two op a b Z Y hb=>
   have T:=rW X N d M a ow ow Y;have kb:=rW X N d M b ow ow hb;unfold al dd;generalize W:(λH I=>fX (ce N H I))=g;generalize U:(λH I=>(ce N H I).isSome)=c;have L:g a cols=zS M a cols:=by rw[<-W];show fX (ce N a cols)=_;rw[T];rfl
   have J:c a cols=Q3:=by rw[<-U];show(ce N a cols).isSome=_;rw[T];rfl
   have S:g b cols=zS M b cols:=by rw[<-W];show fX (ce N b cols)=_;rw[kb];rfl
   have O:c b cols=Q3:=by rw[<-U];show(ce N b cols).isSome=_;rw[kb];rfl
   rcases Z with rfl|rfl|rfl|rfl|rfl|rfl
   ·have C:aJ (zS M) (bj M) cols em (0:Int) (0:Int) [] [] [a,b] [a,b] 0 []=if((zS M a cols).2!=0)=Q3 then((0:Int),(zS M a cols).2)else if((zS M b cols).2!=0)=Q3 then((0:Int),(zS M b cols).2)else if(!mA [(zS M a cols).1,(zS M b cols).1] 3)=Q3 then((0:Int),(5:Int))else((3:Int),(0:Int)):=rfl
    show _=Q1 ((aJ (zS M) (bj M) cols em (0:Int) (0:Int) [] [] [a,b] [a,b] 0 []).1,(aJ (zS M) (bj M) cols em (0:Int) (0:Int) [] [] [a,b] [a,b] 0 []).2,());rw[C,uL];have F:(Dt g c (.mk em (0,0,[]) [] [a,b]) cols).val=if c (zm a) cols=Q3 then(ite (((g (zm a) cols).2!=0)=Q3) (Q1 (.inr (.tup [.int .i64 0,.int .i64 (g (zm a) cols).2],[]))) (ite (c (zm b) cols=Q3) (ite (((g (zm b) cols).2!=0)=Q3) (Q1 (.inr (.tup [.int .i64 0,.int .i64 (g (zm b) cols).2],[]))) (ite ((cond ((g (zm a) cols).1!=0) (cond ((g (zm a) cols).1!=3) Q3 (cond ((g (zm b) cols).1!=0) ((g (zm b) cols).1!=3) Q4)) (cond ((g (zm b) cols).1!=0) ((g (zm b) cols).1!=3) Q4))=Q3) (Q1 (.inr (.tup [.int .i64 0,.int .i64 5],[]))) (Q1 (.inr (.tup [.int .i64 3,.int .i64 0],[]))))) Q2))else Q2:=rfl
    rw[F,zk,zk,J,O,L,S];generalize zS M a cols=t;generalize zS M b cols=u;rcases zN (t.2!=0)with o|o<;>rcases zN (u.2!=0)with z|z<;>rcases zN (t.1!=0)with B|B<;>rcases zN (u.1!=0)with D|D<;>rcases zN (t.1!=3)with E|E<;>rcases zN (u.1!=3)with G|G<;>(simp only[o,z,B,D,E,G,af,ao,if_true,if_false,zA,bA,cA];rfl)
   ·have C:aJ (zS M) (bj M) cols uQ (0:Int) (0:Int) [] [] [a,b] [a,b] 0 []=if((zS M a cols).2!=0)=Q3 then((0:Int),(zS M a cols).2)else if((zS M b cols).2!=0)=Q3 then((0:Int),(zS M b cols).2)else if(!mA [(zS M a cols).1,(zS M b cols).1] 3)=Q3 then((0:Int),(5:Int))else((3:Int),(0:Int)):=rfl
    show _=Q1 ((aJ (zS M) (bj M) cols uQ (0:Int) (0:Int) [] [] [a,b] [a,b] 0 []).1,(aJ (zS M) (bj M) cols uQ (0:Int) (0:Int) [] [] [a,b] [a,b] 0 []).2,());rw[C,uL];have F:(Dt g c (.mk uQ (0,0,[]) [] [a,b]) cols).val=if c (zm a) cols=Q3 then(ite (((g (zm a) cols).2!=0)=Q3) (Q1 (.inr (.tup [.int .i64 0,.int .i64 (g (zm a) cols).2],[]))) (ite (c (zm b) cols=Q3) (ite (((g (zm b) cols).2!=0)=Q3) (Q1 (.inr (.tup [.int .i64 0,.int .i64 (g (zm b) cols).2],[]))) (ite ((cond ((g (zm a) cols).1!=0) (cond ((g (zm a) cols).1!=3) Q3 (cond ((g (zm b) cols).1!=0) ((g (zm b) cols).1!=3) Q4)) (cond ((g (zm b) cols).1!=0) ((g (zm b) cols).1!=3) Q4))=Q3) (Q1 (.inr (.tup [.int .i64 0,.int .i64 5],[]))) (Q1 (.inr (.tup [.int .i64 3,.int .i64 0],[]))))) Q2))else Q2:=rfl
    rw[F,zk,zk,J,O,L,S];generalize zS M a cols=t;generalize zS M b cols=u;rcases zN (t.2!=0)with o|o<;>rcases zN (u.2!=0)with z|z<;>rcases zN (t.1!=0)with B|B<;>rcases zN (u.1!=0)with D|D<;>rcases zN (t.1!=3)with E|E<;>rcases zN (u.1!=3)with G|G<;>(simp only[o,z,B,D,E,G,af,ao,if_true,if_false,zA,bA,cA];rfl)
   ·have C:aJ (zS M) (bj M) cols [61] (0:Int) (0:Int) [] [] [a,b] [a,b] 0 []=if((zS M a cols).2!=0)=Q3 then((0:Int),(zS M a cols).2)else if((zS M b cols).2!=0)=Q3 then((0:Int),(zS M b cols).2)else if(!bif (zS M a cols).1==(zS M b cols).1 then Q3 else bif (zS M a cols).1==0 then Q3 else(zS M b cols).1==0)=Q3 then((0:Int),(5:Int))else((3:Int),(0:Int)):=rfl
    show _=Q1 ((aJ (zS M) (bj M) cols [61] (0:Int) (0:Int) [] [] [a,b] [a,b] 0 []).1,(aJ (zS M) (bj M) cols [61] (0:Int) (0:Int) [] [] [a,b] [a,b] 0 []).2,());rw[C];have F:(Dt g c (.mk [61] (0,0,[]) [] [a,b]) cols).val=if c (zm a) cols=Q3 then(ite (((g (zm a) cols).2!=0)=Q3) (Q1 (.inr (.tup [.int .i64 0,.int .i64 (g (zm a) cols).2],[]))) (ite (c (zm b) cols=Q3) (ite (((g (zm b) cols).2!=0)=Q3) (Q1 (.inr (.tup [.int .i64 0,.int .i64 (g (zm b) cols).2],[]))) (ite ((cond ((g (zm a) cols).1!=0) (cond ((g (zm b) cols).1!=0) ((g (zm a) cols).1!=(g (zm b) cols).1) Q4) Q4)=Q3) (Q1 (.inr (.tup [.int .i64 0,.int .i64 5],[]))) (Q1 (.inr (.tup [.int .i64 3,.int .i64 0],[]))))) Q2))else Q2:=rfl
    rw[F,zk,zk,J,O,L,S];generalize zS M a cols=t;generalize zS M b cols=u;simp only[bne];rcases zN (t.2==0)with o|o<;>rcases zN (u.2==0)with z|z<;>rcases zN (t.1==0)with B|B<;>rcases zN (u.1==0)with D|D<;>rcases zN (t.1==u.1)with E|E<;>(simp only[o,z,B,D,E,af,ao,if_true,if_false,zA,bA,cA];rfl)
   ·have C:aJ (zS M) (bj M) cols [60] (0:Int) (0:Int) [] [] [a,b] [a,b] 0 []=if((zS M a cols).2!=0)=Q3 then((0:Int),(zS M a cols).2)else if((zS M b cols).2!=0)=Q3 then((0:Int),(zS M b cols).2)else if(!bif (zS M a cols).1==(zS M b cols).1 then Q3 else bif (zS M a cols).1==0 then Q3 else(zS M b cols).1==0)=Q3 then((0:Int),(5:Int))else((3:Int),(0:Int)):=rfl
    show _=Q1 ((aJ (zS M) (bj M) cols [60] (0:Int) (0:Int) [] [] [a,b] [a,b] 0 []).1,(aJ (zS M) (bj M) cols [60] (0:Int) (0:Int) [] [] [a,b] [a,b] 0 []).2,());rw[C];have F:(Dt g c (.mk [60] (0,0,[]) [] [a,b]) cols).val=if c (zm a) cols=Q3 then(ite (((g (zm a) cols).2!=0)=Q3) (Q1 (.inr (.tup [.int .i64 0,.int .i64 (g (zm a) cols).2],[]))) (ite (c (zm b) cols=Q3) (ite (((g (zm b) cols).2!=0)=Q3) (Q1 (.inr (.tup [.int .i64 0,.int .i64 (g (zm b) cols).2],[]))) (ite ((cond ((g (zm a) cols).1!=0) (cond ((g (zm b) cols).1!=0) ((g (zm a) cols).1!=(g (zm b) cols).1) Q4) Q4)=Q3) (Q1 (.inr (.tup [.int .i64 0,.int .i64 5],[]))) (Q1 (.inr (.tup [.int .i64 3,.int .i64 0],[]))))) Q2))else Q2:=rfl
    rw[F,zk,zk,J,O,L,S];generalize zS M a cols=t;generalize zS M b cols=u;simp only[bne];rcases zN (t.2==0)with o|o<;>rcases zN (u.2==0)with z|z<;>rcases zN (t.1==0)with B|B<;>rcases zN (u.1==0)with D|D<;>rcases zN (t.1==u.1)with E|E<;>(simp only[o,z,B,D,E,af,ao,if_true,if_false,zA,bA,cA];rfl)
   ·have C:aJ (zS M) (bj M) cols [43] (0:Int) (0:Int) [] [] [a,b] [a,b] 0 []=if((zS M a cols).2!=0)=Q3 then((0:Int),(zS M a cols).2)else if((zS M b cols).2!=0)=Q3 then((0:Int),(zS M b cols).2)else if(!mA [(zS M a cols).1,(zS M b cols).1] 1)=Q3 then((0:Int),(5:Int))else((1:Int),(0:Int)):=rfl
    show _=Q1 ((aJ (zS M) (bj M) cols [43] (0:Int) (0:Int) [] [] [a,b] [a,b] 0 []).1,(aJ (zS M) (bj M) cols [43] (0:Int) (0:Int) [] [] [a,b] [a,b] 0 []).2,());rw[C,uL];have F:(Dt g c (.mk [43] (0,0,[]) [] [a,b]) cols).val=if c (zm a) cols=Q3 then(ite (((g (zm a) cols).2!=0)=Q3) (Q1 (.inr (.tup [.int .i64 0,.int .i64 (g (zm a) cols).2],[]))) (ite (c (zm b) cols=Q3) (ite (((g (zm b) cols).2!=0)=Q3) (Q1 (.inr (.tup [.int .i64 0,.int .i64 (g (zm b) cols).2],[]))) (ite ((cond ((g (zm a) cols).1!=0) (cond ((g (zm a) cols).1!=1) Q3 (cond ((g (zm b) cols).1!=0) ((g (zm b) cols).1!=1) Q4)) (cond ((g (zm b) cols).1!=0) ((g (zm b) cols).1!=1) Q4))=Q3) (Q1 (.inr (.tup [.int .i64 0,.int .i64 5],[]))) (Q1 (.inr (.tup [.int .i64 1,.int .i64 0],[]))))) Q2))else Q2:=rfl
    rw[F,zk,zk,J,O,L,S];generalize zS M a cols=t;generalize zS M b cols=u;rcases zN (t.2!=0)with o|o<;>rcases zN (u.2!=0)with z|z<;>rcases zN (t.1!=0)with B|B<;>rcases zN (u.1!=0)with D|D<;>rcases zN (t.1!=1)with E|E<;>rcases zN (u.1!=1)with G|G<;>(simp only[o,z,B,D,E,G,af,ao,if_true,if_false,zA,bA,cA];rfl)
   ·have C:aJ (zS M) (bj M) cols [45] (0:Int) (0:Int) [] [] [a,b] [a,b] 0 []=if((zS M a cols).2!=0)=Q3 then((0:Int),(zS M a cols).2)else if((zS M b cols).2!=0)=Q3 then((0:Int),(zS M b cols).2)else if(!mA [(zS M a cols).1,(zS M b cols).1] 1)=Q3 then((0:Int),(5:Int))else((1:Int),(0:Int)):=rfl
    show _=Q1 ((aJ (zS M) (bj M) cols [45] (0:Int) (0:Int) [] [] [a,b] [a,b] 0 []).1,(aJ (zS M) (bj M) cols [45] (0:Int) (0:Int) [] [] [a,b] [a,b] 0 []).2,());rw[C,uL];have F:(Dt g c (.mk [45] (0,0,[]) [] [a,b]) cols).val=if c (zm a) cols=Q3 then(ite (((g (zm a) cols).2!=0)=Q3) (Q1 (.inr (.tup [.int .i64 0,.int .i64 (g (zm a) cols).2],[]))) (ite (c (zm b) cols=Q3) (ite (((g (zm b) cols).2!=0)=Q3) (Q1 (.inr (.tup [.int .i64 0,.int .i64 (g (zm b) cols).2],[]))) (ite ((cond ((g (zm a) cols).1!=0) (cond ((g (zm a) cols).1!=1) Q3 (cond ((g (zm b) cols).1!=0) ((g (zm b) cols).1!=1) Q4)) (cond ((g (zm b) cols).1!=0) ((g (zm b) cols).1!=1) Q4))=Q3) (Q1 (.inr (.tup [.int .i64 0,.int .i64 5],[]))) (Q1 (.inr (.tup [.int .i64 1,.int .i64 0],[]))))) Q2))else Q2:=rfl
    rw[F,zk,zk,J,O,L,S];generalize zS M a cols=t;generalize zS M b cols=u;rcases zN (t.2!=0)with o|o<;>rcases zN (u.2!=0)with z|z<;>rcases zN (t.1!=0)with B|B<;>rcases zN (u.1!=0)with D|D<;>rcases zN (t.1!=1)with E|E<;>rcases zN (u.1!=1)with G|G<;>(simp only[o,z,B,D,E,G,af,ao,if_true,if_false,zA,bA,cA];rfl)
theorem io:kd (0,0,[]):=⟨by decide,by decide,sw⟩
theorem mN(b:Bool):kd (yO b):=by cases b<;>exact⟨by decide,by decide,by simp[yO]⟩
theorem T4:kd (3,0,[]):=mN Q4
theorem T5:kd (3,1,[]):=mN Q3
theorem ZL(a b:Sem ze):kd (A3 a b):=by
 unfold A3;rw[lP,iS,lQ];split;exact T4;split;exact T5;exact io
theorem zgy(a b:Sem ze):kd (YF a b):=by
 unfold YF;rw[lP,iS,lQ];split;exact T5;split;exact T4;exact io
theorem ZN(a:Sem ze):kd (A4 a):=by
 unfold A4;rw[lP,iS,lQ];split;exact T4;split;exact T5;exact io
theorem zgx(a b:Sem ze):kd (km a b):=by
 unfold km;split;exact io;rw[jA];exact mN _
theorem T6(a b:Sem ze):kd (tq a b):=by
 unfold tq;split;exact io;rw[jA];exact mN _
theorem No(a:Sem ze):kd (jH a):=by
 unfold jH;rw[jA];exact mN _
theorem Kx(n:Int):kd (1,Γ Δ n,[]):=by
 refine⟨?_,?_,sw⟩
 ·show(-9223372036854775808:Int)<=Γ Δ n;rw[gr];omega
 ·show Γ Δ n<=(9223372036854775807:Int);rw[gr];omega
theorem Ce(a b:Sem ze):kd (qS a b):=by
 unfold qS;split;exact io;split;exact io;exact Kx _
theorem RI(a b:Sem ze):kd (mG a b):=by
 unfold mG;split;exact io;split;exact io;exact Kx _
def mH(h:List (Sem zj))(o:List (Sem ze))(s:zD):Sem ze:=if(cond (Q0 (ap h s<0)) Q3 (Q0 (ap h s>=(↑o.length:Int))))=Q3 then(0,0,[])else o.getD (toNat (ap h s)) (zi ze)
theorem OH{g c}{cols:List (Sem zj)}{row:List (Sem ze)}{e:zf}(G:Io cols<=1000000):∃r k,zV (AG g c) k (.h6 cols row ((0:Nat):Int) (e,()) ((0,0,[]),())) r/\k<=100000000/\aI r.2 [ze] r.1=Q1 (mH cols row (zf.s e),()):=by
 have E:=mI (t:=AG g c) (Φ:=λr=>aI r.2 [ze] r.1=Q1 (mH cols row (zf.s e),())) 1 (λi=>.h6 cols row (i:Int) (e,()) ((0,0,[]),())) (λi=>((getD cols i (zi zj)).1==zf.s e)=Q4) (Io cols) (by
  intro i u F;have z:(AG g c (.h6 cols row (i:Int) (e,()) ((0,0,[]),()))).val=if((getD cols i (zi zj)).1==zf.s e)=Q3 then(ite (Q0 ((i:Int)<(Io row:Int))=Q3) (ite (zJ (i:Int) (Io row)=Q3) (Q1 (.inr (.agg [.int .i64 (getD row i (zi ze)).1,.int .i64 (getD row i (zi ze)).2.1,.str (getD row i (zi ze)).2.2],[]))) Q2) (Q1 (.inr (.agg [.int .i64 0,.int .i64 0,.str []],[]))))else Q1 (.inl (.h6 cols row ((i+1:Nat):Int) (e,()) ((0,0,[]),()))):=by
   simp only[AG,Q8,zF u,zt u,aD,if_true];rw[zr i um]
  rcases zN ((getD cols i (zi zj)).1==zf.s e)with h|h
  ·have hp:=nf (p:=λc:Sem zj=>c.1==zf.s e) (d:=zi zj) cols 0 i u h F;have hp:ap cols (zf.s e)=(i:Int):=by unfold ap;rw[hp];simp
   by_cases C:i<Io row
   ·refine .inr ⟨by rw[h];simp,_,zV.of (by rw[z,if_pos h,if_pos (zF C),if_pos (zt C)]),?_⟩;unfold mH;rw[hp,if_neg (by rw[aq (by omega:¬(i:Int)<0),aq (by omega:¬(i:Int)>=(Io row:Int))];simp),aD];rfl
   ·refine .inr ⟨by rw[h];simp,_,zV.of (by rw[z,if_pos h,if_neg (by rw[aQ];omega)]),?_⟩;unfold mH;rw[hp,if_pos (by rw[aq (by omega:¬(i:Int)<0),zx (by omega:(i:Int)>=(Io row:Int))];rfl)];rfl
  ·exact .inl ⟨h,zL.of (by rw[z,if_neg (by rw[h];simp)])⟩)
 rcases E with⟨B,o⟩|⟨B,r,o,D⟩
 ·have hp:=ng (p:=λc:Sem zj=>c.1==zf.s e) (d:=zi zj) cols 0 B;refine⟨(.agg [.int .i64 0,.int .i64 0,.str []],[]),_,o.ends (zV.of ?_),ow,?_⟩
  ·simp only[AG,Q8,zB];rfl
  ·unfold mH;rw[show ap cols (zf.s e)=(-1:Int)from hp];rfl
 ·exact⟨r,_,o,ow,D⟩
theorem ZM{o:List (Sem zj)}{u:List (Sem ze)}{s:zD}(z:∀v∈u,kd v):kd (mH o u s):=by
 unfold mH;split
 ·exact io
 ·by_cases h:toNat (ap o s)<Io u
  ·exact z _ (bN h)
  ·rw[aS,eC ow];exact io
theorem rR{o:List (Sem zj)}{u:List (Sem ze)}(W:Io o<=1000000)(X:∀v∈u,kd v):∀(N d M:Nat)(e:zf),d<=N->d<=M->bE d e=Q3->tz e->cu N e o u=Q1 (cW M o u e,())/\kd (cW M o u e)
 |_,0,_,_,_,_,h,_=>by cases h
 |0,d+1,_,_,h,_,_,_=>absurd h ow
 |_,d+1,0,_,_,h,_,_=>absurd h ow
 | N+1,d+1,M+1,e,h1,h2,h,J=>by
  rw[cu,cW];unfold QJ;cases dr h with
  | lit v hv=>
   rw[tz]at J;exact⟨rfl,J.1⟩
  | col s h3 h0=>
   obtain⟨r,k,k1,k2,k3⟩:=OH (g:=λD E F=>gN (cu N D E F)) (c:=λD E F=>(cu N D E F).isSome) (cols:=o) (row:=u) (e:=.mk cX (0,0,[]) s []) W;exact⟨zy JK k1 k2 k3,ZM X⟩
  | one op a Z Y=>
   rw[tz,kv]at J;obtain⟨S,C⟩:=rR W X N d M a ow ow Y J.2.2.1;unfold al dd;generalize U:(λD E F=>gN (cu N D E F))=g;generalize T:(λD E F=>(cu N D E F).isSome)=c;have H:g a o u=cW M o u a:=by rw[<-U];show gN (cu N a o u)=_;rw[S];rfl
   have G:c a o u=Q3:=by rw[<-T];show(cu N a o u).isSome=_;rw[S];rfl
   rcases Z with rfl|rfl
   ·have z:sM (cW M) o u (.mk mS (0,0,[]) [] [a])=A4 (cW M o u a):=rfl;have B:(qi g c (.mk mS (0,0,[]) [] [a]) o u).val=if c (zm a) o u=Q3 then(ite (Ja (g (zm a) o u)=Q3) (Q1 (.inr (.agg [.int .i64 (Hu (g (zm a) o u)).1,.int .i64 (Hu (g (zm a) o u)).2.1,.str (Hu (g (zm a) o u)).2.2],[]))) Q2)else Q2:=rfl
    rw[z,B,zk,G,H];generalize cW M o u a=x at*;rw[XJ,zbm];exact⟨rfl,ZN _⟩
   ·have z:sM (cW M) o u (.mk pb (0,0,[]) [] [a])=jH (cW M o u a):=rfl;have B:(qi g c (.mk pb (0,0,[]) [] [a]) o u).val=if c (zm a) o u=Q3 then(ite (mC (g (zm a) o u)=Q3) (ite ((!tj (g (zm a) o u))=Q3) (Q1 (.inr (.agg [.int .i64 (bc Q3).1,.int .i64 (bc Q3).2.1,.str (bc Q3).2.2],[]))) (ite (lG ((g (zm a) o u).1==0)=Q3) (Q1 (.inr (.agg [.int .i64 (bc ((g (zm a) o u).1==0)).1,.int .i64 (bc ((g (zm a) o u).1==0)).2.1,.str (bc ((g (zm a) o u).1==0)).2.2],[]))) Q2)) Q2)else Q2:=rfl
    rw[z,B,zk,G,H];generalize cW M o u a=x at*;refine⟨?_,No _⟩;rw[lD C.2.2,oE C.2.2,oH,ic,ic];unfold jH an;rw[jA];cases aU x
    ·rfl
    ·rfl
  | two op a b Z Y hb=>
   rw[tz,kv,kv]at J;obtain⟨S,C⟩:=rR W X N d M a ow ow Y J.2.2.1;obtain⟨kb,I⟩:=rR W X N d M b ow ow hb J.2.2.2.1;unfold al dd;generalize U:(λD E F=>gN (cu N D E F))=g;generalize T:(λD E F=>(cu N D E F).isSome)=c;have H:g a o u=cW M o u a:=by rw[<-U];show gN (cu N a o u)=_;rw[S];rfl
   have G:c a o u=Q3:=by rw[<-T];show(cu N a o u).isSome=_;rw[S];rfl
   have O:g b o u=cW M o u b:=by rw[<-U];show gN (cu N b o u)=_;rw[kb];rfl
   have L:c b o u=Q3:=by rw[<-T];show(cu N b o u).isSome=_;rw[kb];rfl
   rcases Z with rfl|rfl|rfl|rfl|rfl|rfl
   ·have z:sM (cW M) o u (.mk em (0,0,[]) [] [a,b])=A3 (cW M o u a) (cW M o u b):=rfl;have B:(qi g c (.mk em (0,0,[]) [] [a,b]) o u).val=if c (zm a) o u=Q3 then(ite (c (zm b) o u=Q3) (ite (I7 (g (zm a) o u) (g (zm b) o u)=Q3) (Q1 (.inr (.agg [.int .i64 (Hs (g (zm a) o u) (g (zm b) o u)).1,.int .i64 (Hs (g (zm a) o u) (g (zm b) o u)).2.1,.str (Hs (g (zm a) o u) (g (zm b) o u)).2.2],[]))) Q2) Q2)else Q2:=rfl
    rw[z,B,zk,zk,G,L,H,O];generalize cW M o u a=x at*;generalize cW M o u b=y at*;rw[XH,zbl];exact⟨rfl,ZL _ _⟩
   ·have z:sM (cW M) o u (.mk uQ (0,0,[]) [] [a,b])=YF (cW M o u a) (cW M o u b):=rfl;have B:(qi g c (.mk uQ (0,0,[]) [] [a,b]) o u).val=if c (zm a) o u=Q3 then(ite (c (zm b) o u=Q3) (ite (QH (g (zm a) o u) (g (zm b) o u)=Q3) (Q1 (.inr (.agg [.int .i64 (S5 (g (zm a) o u) (g (zm b) o u)).1,.int .i64 (S5 (g (zm a) o u) (g (zm b) o u)).2.1,.str (S5 (g (zm a) o u) (g (zm b) o u)).2.2],[]))) Q2) Q2)else Q2:=rfl
    rw[z,B,zk,zk,G,L,H,O];generalize cW M o u a=x at*;generalize cW M o u b=y at*;rw[zbn,ziy];exact⟨rfl,zgy _ _⟩
   ·have z:sM (cW M) o u (.mk [61] (0,0,[]) [] [a,b])=km (cW M o u a) (cW M o u b):=rfl;have B:(qi g c (.mk [61] (0,0,[]) [] [a,b]) o u).val=if c (zm a) o u=Q3 then(ite (c (zm b) o u=Q3) (ite (vW (g (zm a) o u) (g (zm b) o u)=Q3) (Q1 (.inr (.agg [.int .i64 (rI (g (zm a) o u) (g (zm b) o u)).1,.int .i64 (rI (g (zm a) o u) (g (zm b) o u)).2.1,.str (rI (g (zm a) o u) (g (zm b) o u)).2.2],[]))) Q2) Q2)else Q2:=rfl
    rw[z,B,zk,zk,G,L,H,O];generalize cW M o u a=x at*;generalize cW M o u b=y at*;rw[OF C.2.2 I.2.2,S2 C.2.2 I.2.2];exact⟨rfl,zgx _ _⟩
   ·have z:sM (cW M) o u (.mk [60] (0,0,[]) [] [a,b])=tq (cW M o u a) (cW M o u b):=rfl;have B:(qi g c (.mk [60] (0,0,[]) [] [a,b]) o u).val=if c (zm a) o u=Q3 then(ite (c (zm b) o u=Q3) (ite (Bz (g (zm a) o u) (g (zm b) o u)=Q3) (Q1 (.inr (.agg [.int .i64 (yv (g (zm a) o u) (g (zm b) o u)).1,.int .i64 (yv (g (zm a) o u) (g (zm b) o u)).2.1,.str (yv (g (zm a) o u) (g (zm b) o u)).2.2],[]))) Q2) Q2)else Q2:=rfl
    rw[z,B,zk,zk,G,L,H,O];generalize cW M o u a=x at*;generalize cW M o u b=y at*;rw[S3 C.2.2 I.2.2,XI C.2.2 I.2.2];exact⟨rfl,T6 _ _⟩
   ·have z:sM (cW M) o u (.mk [43] (0,0,[]) [] [a,b])=qS (cW M o u a) (cW M o u b):=rfl;have B:(qi g c (.mk [43] (0,0,[]) [] [a,b]) o u).val=if c (zm a) o u=Q3 then(ite (c (zm b) o u=Q3) (ite (wa (g (zm a) o u) (g (zm b) o u)=Q3) (Q1 (.inr (.agg [.int .i64 (yx (g (zm a) o u) (g (zm b) o u)).1,.int .i64 (yx (g (zm a) o u) (g (zm b) o u)).2.1,.str (yx (g (zm a) o u) (g (zm b) o u)).2.2],[]))) Q2) Q2)else Q2:=rfl
    rw[z,B,zk,zk,G,L,H,O];generalize cW M o u a=x at*;generalize cW M o u b=y at*;rw[Hv C I,XK C I];exact⟨rfl,Ce _ _⟩
   ·have z:sM (cW M) o u (.mk [45] (0,0,[]) [] [a,b])=mG (cW M o u a) (cW M o u b):=rfl;have B:(qi g c (.mk [45] (0,0,[]) [] [a,b]) o u).val=if c (zm a) o u=Q3 then(ite (c (zm b) o u=Q3) (ite (vY (g (zm a) o u) (g (zm b) o u)=Q3) (Q1 (.inr (.agg [.int .i64 (rJ (g (zm a) o u) (g (zm b) o u)).1,.int .i64 (rJ (g (zm a) o u) (g (zm b) o u)).2.1,.str (rJ (g (zm a) o u) (g (zm b) o u)).2.2],[]))) Q2) Q2)else Q2:=rfl
    rw[z,B,zk,zk,G,L,H,O];generalize cW M o u a=x at*;generalize cW M o u b=y at*;rw[OG C I,S4 C I];exact⟨rfl,RI _ _⟩
theorem rB:∀(N k:Nat)(e:zf)(n:Nat),k<=12->n<=60->(il N e ((13:Int)-k) n).1=Q3->bE k e=Q3/\(il N e ((13:Int)-k) n).2=((n+nE k e:Nat):Int)/\n+nE k e<=60
 |0,_,_,_,_,_,h=>by cases h
 | N+1,0,e,n,_,_,h=>by
  rw[il]at h;unfold AZ at h;rw[if_pos JK]at h;cases h
 | N + 1,k+1,.mk o v s l,n,X,Y,h=>by
  have w1:Γ Δ ((n:Int)+1)=((n+1:Nat):Int):=zr n um;have I:Γ Δ ((13:Int)-((k+1:Nat):Int)+1)=(13:Int)-(k:Int):=by rw[gr];omega
  have O:Q0 ((13:Int)-((k+1:Nat):Int)>12)=Q4:=aq ow;rw[il]at h⊢
  have e0:∀m:Int,AZ (il N) (.mk o v s l) m n=if(cond (Q0 (m>12)) Q3 (cond (Q0 (((n+1:Nat):Int)>60)) Q3 ((↑l.length:Int)!=cY o)))=Q3 then(Q4,((n+1:Nat):Int))else
    if(o==kH)=Q3 then(cond (s==[]) (aU v) Q4,((n+1:Nat):Int))else
    if(o==cX)=Q3 then(cond (aT v) (cond (ei s) (!jw s) Q4) Q4,((n+1:Nat):Int))else
    if(cond (!aT v) Q3 (!s==[]))=Q3 then(Q4,((n+1:Nat):Int))else pz (il N) m l ((n+1:Nat):Int):=by
   intro m;unfold AZ;rw[w1];rfl
  rw[e0,O]at h⊢;rcases zN (Q0 (((n+1:Nat):Int)>60))with D|D
  ·rw[D,if_pos JK]at h;cases h
  rcases zN ((↑l.length:Int)!=cY o)with E|E
  ·rw[D,E,if_pos JK]at h;cases h
  have J:n+1<=60:=by simp at D;omega
  have hp:(Io l:Int)=cY o:=by simpa using E
  rw[D,E,if_neg sw]at h⊢;rcases mj o with⟨p,z⟩|⟨p,z⟩|⟨p,z⟩|p
  ·have S:l=[]:=AQ ow;subst S;rcases z with rfl|rfl
   ·rw[if_pos JK]at h⊢;obtain⟨a,b⟩:=ck h;refine⟨?_,by simp[nE],by simp[nE];omega⟩;simp[bE,b,bG a]
   ·rw[if_neg (by decide),if_pos JK]at h⊢;obtain⟨a,b⟩:=ck h;obtain⟨b,c⟩:=ck b;refine⟨?_,by simp[nE],by simp[nE];omega⟩;have M:jw s=Q4:=by simpa using c
    simp[bE,a,b,M]
  ·obtain⟨a,rfl⟩:∃a,l=[a]:=List.length_eq_one_iff.1 ow;have o1:(o==kH)=Q4:=by rcases z with rfl|rfl<;>rfl
   have o2:(o==cX)=Q4:=by rcases z with rfl|rfl<;>rfl
   have o3:(cond (o==mS) Q3 (o==pb))=Q3:=by rcases z with rfl|rfl<;>rfl
   rw[if_neg (by rw[o1];simp),if_neg (by rw[o2];simp)]at h⊢;rcases zN (aT v)with u|u
   ·rcases zN (s==[])with B|B
    ·rw[u,B,if_neg sw]at h⊢;rw[pz,I]at h⊢;rcases zN (il N a ((13:Int)-(k:Int)) ((n+1:Nat):Int)).1 with C|C
     ·obtain⟨G,H,L⟩:=rB N k a (n+1) ow J C;rw[C,if_neg sw];refine⟨by simp[bE,o1,o2,o3,u,B,G],?_,by simp[nE];omega⟩;rw[pz];show(il N a ((13:Int)-(k:Int)) ((n+1:Nat):Int)).2=_;rw[H];simp[nE];omega
     ·rw[C,if_pos JK]at h;cases h
    ·rw[u,B,if_pos JK]at h;cases h
   ·rw[u,if_pos JK]at h;cases h
  ·obtain⟨a,b,rfl⟩:∃a b,l=[a,b]:=by
    match l,hp with
    |[a,b],_=>exact⟨a,b,rfl⟩
    |[],hp=>exact absurd hp (by rw[p];simp)
    |[_],hp=>exact absurd hp (by rw[p];simp)
    |_::_::_::_,hp=>exact absurd hp (by rw[p];simp;omega)
   have o1:(o==kH)=Q4:=by rcases z with rfl|rfl|rfl|rfl|rfl|rfl<;>rfl
   have o2:(o==cX)=Q4:=by rcases z with rfl|rfl|rfl|rfl|rfl|rfl<;>rfl
   have o3:(cond (o==mS) Q3 (o==pb))=Q4:=by rcases z with rfl|rfl|rfl|rfl|rfl|rfl<;>rfl
   have W:FL o=Q3:=by rcases z with rfl|rfl|rfl|rfl|rfl|rfl<;>rfl
   rw[if_neg (by rw[o1];simp),if_neg (by rw[o2];simp)]at h⊢;rcases zN (aT v)with u|u
   ·rcases zN (s==[])with B|B
    ·rw[u,B,if_neg sw]at h⊢;rw[pz,I]at h⊢;rcases zN (il N a ((13:Int)-(k:Int)) ((n+1:Nat):Int)).1 with C|C
     ·obtain⟨G,H,L⟩:=rB N k a (n+1) ow J C;rw[C,if_neg sw]at h⊢;rw[H,pz,I]at h⊢;rcases zN (il N b ((13:Int)-(k:Int)) ((n+1+nE k a:Nat):Int)).1 with F|F
      ·obtain⟨T,U,Z⟩:=rB N k b (n+1+nE k a) ow L F;rw[F,if_neg sw];refine⟨by simp[bE,o1,o2,o3,W,u,B,G,T],?_,by simp[nE];omega⟩;rw[pz];show(il N b ((13:Int)-(k:Int)) ((n+1+nE k a:Nat):Int)).2=_;rw[U];simp[nE];omega
      ·rw[F,if_pos JK]at h;cases h
     ·rw[C,if_pos JK]at h;cases h
    ·rw[u,B,if_pos JK]at h;cases h
   ·rw[u,if_pos JK]at h;cases h
  ·omega
theorem xu(e:zf):cG e=(cond (bE 12 e) (Q0 (nE 12 e<=60)) Q4):=by
 unfold cG;rcases zN (il 16 e 1 0).1 with c|c
 ·obtain⟨u,_,B⟩:=rB 16 12 e 0 ow ow c;rw[c,u,zx ow];rfl
 ·rw[c];rcases zN (bE 12 e)with g|g
  ·rw[g];by_cases h:nE 12 e<=60
   ·have:=rC 16 12 e 0 ow ow g ow;have z:(il 16 e 1 0).1=Q3:=by
     have o:il 16 e 1 0=(Q3,((0+nE 12 e:Nat):Int)):=this;rw[o]
    rw[z]at c;cases c
   ·rw[aq h];rfl
  ·rw[g];rfl
theorem Mo{e:zf}(E:tz e):Ee e=Q1 (cG e,()):=by
 have C:Jf e 12=Q1 (bE 12 e,()):=Hz 16 12 e ow ow E;have o:BG e 12=Q3:=by unfold BG;rw[C];rfl
 have u:Je e 12=bE 12 e:=by unfold Je;rw[C];rfl
 unfold Ee al dd;simp only[znr,Q8,zk,o,u];rw[xu];rcases zN (bE 12 e)with g|g
 ·have D:Eh e=Q1 ((nE 12 e:Int),()):=oM 16 12 e ow ow g;have z:wh e=Q3:=by unfold wh;rw[D];rfl
  have B:BH e=(nE 12 e:Int):=by unfold BH;rw[D];rfl
  rw[g,z,B];have:Q0 (((nE 12 e:Nat):Int)<=60)=Q0 (nE 12 e<=60):=by
   by_cases h:nE 12 e<=60
   ·rw[zx h,zx ow]
   ·rw[aq h,aq ow]
  rw[this];rfl
 ·rw[g];rfl
theorem nt{e:zf}(h:tz e):ut e=Q3:=by unfold ut;rw[Mo h];rfl
theorem rS{e:zf}(h:tz e):Ed e=cG e:=by unfold Ed;rw[Mo h];rfl
theorem ji{e:zf}(h:cG e=Q3):bE 12 e=Q3:=by
 rw[xu]at h;exact(ck h).1
theorem Mq{e:zf}{cols:List (Sem zj)}(o:Io cols<=1000000)(h:cG e=Q3):BF e cols=Q1 ((bM e cols).1,(bM e cols).2,()):=by
 have:=rW o 16 12 16 e ow ow (ji h);unfold BF bM;rw[this,h];rfl
theorem XL{e:zf}{cols:List (Sem zj)}{row:List (Sem ze)}(o:Io cols<=1000000)(u:∀v∈row,kd v)(z:tz e)(h:cG e=Q3):BD e cols row=Q1 (kr e cols row,()):=by
 have:=(rR o u 16 12 16 e ow ow (ji h) z).1;unfold BD kr;rw[this,h];rfl
theorem EQ(e:zf):fE 16 e yk=(e.op==[]&&(aT e.v&&(e.s==[]&&e.l.length==0))):=by
 show MR (fE 15) e yk=_;unfold MR NR YD aT;obtain⟨o,v,s,l⟩:=e;simp only[zf.op,zf.v,zf.s,zf.l];cases l with
 | nil=>
  simp only[iq,eqL];cases(o==[])<;>cases(v.1==0&&(v.2.1==0&&(v.2.2==[]&&Q3)))<;>cases(s==[])<;>rfl
 | cons x r=>
  have:(((x::r).length:Int)!=(([]:List zf).length:Int))=Q3:=by simp;omega
  simp only[this];cases(o==[])<;>cases(v.1==0&&(v.2.1==0&&(v.2.2==[]&&Q3)))<;>cases(s==[])<;>rfl
theorem OI(e:zf):BE e yk=Q1 (fE 16 e yk,()):=by
 rw[EQ];show bS 16 e yk=_;rw[bS];unfold Jc;rcases zN (e.op==[])with o|o
 ·rcases zN (aT e.v)with h|h
  ·rcases zN (e.s==[])with u|u
   ·by_cases B:e.l.length=0
    ·refine zy (s:=.h4 0 (e,()) (yk,())) (k:=1) (r:=(.kb Q3,[])) ?_ (zV.of ?_) ow ?_
     ·unfold aT at h;simp only[Ds,Q8];have z:(((zf.l e).length:Int)!=(([]:List zf).length:Int))=Q4:=by simp[B]
      show(ite ((cond (!(e.op==[])) Q3 (cond (!(e.v.1==0&&(e.v.2.1==0&&(e.v.2.2==[]&&Q3)))) Q3 (cond (!(e.s==[])) Q3 (((zf.l e).length:Int)!=(([]:List zf).length:Int)))))=Q3) _ _)=_;rw[o,h,u,z];rfl
     ·have C:Q0 ((0:Int)<((zf.l e).length:Int))=Q4:=aq (by rw[B];omega);simp only[J6,J7,B5,Q8];rw[C];rfl
     ·rw[o,h,u,B];rfl
    ·have z:(((zf.l e).length:Int)!=(([]:List zf).length:Int))=Q3:=bne_iff_ne.2 (by show((zf.l e).length:Int)≠0;omega);have C:((zf.l e).length==0)=Q4:=cd.2 B;refine zM (r:=(.kb Q4,[])) ?_ ?_
     ·unfold aT at h;simp only[Ds,Q8];show(ite ((cond (!(e.op==[])) Q3 (cond (!(e.v.1==0&&(e.v.2.1==0&&(e.v.2.2==[]&&Q3)))) Q3 (cond (!(e.s==[])) Q3 (((zf.l e).length:Int)!=(([]:List zf).length:Int)))))=Q3) _ _)=_;rw[o,h,u,z];rfl
     ·rw[o,h,u,C];rfl
   ·refine zM (r:=(.kb Q4,[])) ?_ ?_
    ·unfold aT at h;simp only[Ds,Q8];show(ite ((cond (!(e.op==[])) Q3 (cond (!(e.v.1==0&&(e.v.2.1==0&&(e.v.2.2==[]&&Q3)))) Q3 (cond (!(e.s==[])) Q3 (((zf.l e).length:Int)!=(([]:List zf).length:Int)))))=Q3) _ _)=_;rw[o,h,u];rfl
    ·rw[o,h,u];rfl
  ·refine zM (r:=(.kb Q4,[])) ?_ ?_
   ·unfold aT at h;simp only[Ds,Q8];show(ite ((cond (!(e.op==[])) Q3 (cond (!(e.v.1==0&&(e.v.2.1==0&&(e.v.2.2==[]&&Q3)))) Q3 (cond (!(e.s==[])) Q3 (((zf.l e).length:Int)!=(([]:List zf).length:Int)))))=Q3) _ _)=_;rw[o,h];rfl
   ·rw[o,h];rfl
 ·refine zM (r:=(.kb Q4,[])) ?_ ?_
  ·simp only[Ds,Q8];show(ite ((cond (!(e.op==[])) Q3 (cond (!(e.v.1==0&&(e.v.2.1==0&&(e.v.2.2==[]&&Q3)))) Q3 (cond (!(e.s==[])) Q3 (((zf.l e).length:Int)!=(([]:List zf).length:Int)))))=Q3) _ _)=_;rw[o];rfl
  ·rw[o];rfl
theorem PG{e:zf}(h:cG e=Q3):(e.op==[])=Q4:=by
 have z:=ji h;cases dr z with
 |lit v E=>rfl
 |col s F D=>rfl
 |one B a o u=>rcases o with rfl|rfl<;>rfl
 |two B a b o u C=>rcases o with rfl|rfl|rfl|rfl|rfl|rfl<;>rfl
theorem El{e:zf}{o:List (Sem zj)}(G:tz e)(J:Io o<=1000000):qF e o=Q1 (iO e o,()):=by
 have F:=OI e;have z:gO e yk=Q3:=by unfold gO;rw[F];rfl
 have B:ft e yk=fE 16 e yk:=by unfold ft;rw[F];rfl
 unfold qF al dd;simp only[zdH,Q8,zk,nt G,rS G];unfold iO;rcases zN (e.op==[])with c|c
 ·have L:cG e=Q4:=by
   rcases zN (cG e)with h|h
   ·rw[PG h]at c;cases c
   ·exact h
  have u:bM e o=(0,1):=by unfold bM;rw[L];rfl
  rw[c,z,B,u];rcases zN (fE 16 e yk)with h|h<;>rw[h]<;>rfl
 ·have M:fE 16 e yk=Q4:=by rw[EQ,c];rfl
  rw[c,M];rcases zN (cG e)with h|h
  ·have u:=Mq (cols:=o) J h;have C:oJ e o=Q3:=by unfold oJ;rw[u];rfl
   have D:iJ e o=bM e o:=by unfold iJ;rw[u];rfl
   rw[h,C,D];generalize bM e o=t;obtain⟨t,r⟩:=t;rcases zN (r==0)with E|E
   ·have e0:r=0:=bG E;subst e0;rcases zN (t==0)with H|H<;>rcases zN (t==3)with I|I<;>(simp only[bne,H,I];rfl)
   ·simp only[bne,E];rfl
  ·have u:bM e o=(0,1):=by unfold bM;rw[h];rfl
   rw[h,u];rfl
structure o6 (t:Sem zo):Prop where
 name:zQ t.1=Q3
 n1:1<=Io t.2.1
 n8:Io t.2.1<=8
 cols:∀i,i<Io t.2.1->zQ (getD t.2.1 i (zi zj)).1=Q3/\LE.le (α:=Int) 1 (getD t.2.1 i (zi zj)).2.1/\LE.le (α:=Int) (getD t.2.1 i (zi zj)).2.1 3/\ap t.2.1 (getD t.2.1 i (zi zj)).1=(i:Int)
 uniq:∀u∈t.2.2.2.1,Fi u (Io t.2.1)
 refs:∀f∈t.t.1,Fi f.1 (Io t.2.1)/\zQ f.2=Q3
 key:Fi t.2.2.1 (Io t.2.1)
 nn:(getD t.2.1 (toNat t.2.2.1) (zi zj)).2.2=Q3
 chk:iO t.t.2 t.2.1=(0:Int)
theorem KN{t:Sem zo}{i:Nat}:Nz t i=Q3↔(zQ (getD t.2.1 i (zi zj)).1=Q3/\LE.le (α:=Int) 1 (getD t.2.1 i (zi zj)).2.1/\LE.le (α:=Int) (getD t.2.1 i (zi zj)).2.1 3/\ap t.2.1 (getD t.2.1 i (zi zj)).1=(i:Int)):=by
 unfold Nz;have z:zR t (getD t.2.1 i (zi zj)).1=ap t.2.1 (getD t.2.1 i (zi zj)).1:=rfl;rw[z];generalize getD t.2.1 i (zi zj)=c;cases zQ c.1
 ·simp
 ·by_cases o:LT.lt (α:=Int) c.2.1 1
  ·rw[zx o];simp;intro h;omega
  ·rw[aq o];by_cases u:GT.gt (α:=Int) c.2.1 3
   ·rw[zx u];simp;intro _ h;omega
   ·rw[aq u];exact⟨λh=>⟨rfl,ow,ow,by simpa using h⟩,λh=>by simpa using h.2.2.2⟩
theorem iR(t:Sem zo):dp t=Q3↔o6 t:=by
 have B:=yF (l:=t.2.2.2.1) (d:=zi zg) (p:=λu=>xX u (Io t.2.1));simp only[qj]at B;have C:(!(cond (!zQ t.1) Q3 (cond (Q0 ((↑(Io t.2.1):Int)<1)) Q3 (Q0 ((↑(Io t.2.1):Int)>8)))))=Q3↔(zQ t.1=Q3/\1<=Io t.2.1/\Io t.2.1<=8):=by
  cases zQ t.1
  ·simp
  ·by_cases o:(↑(Io t.2.1):Int)<1
   ·rw[zx o];simp;omega
   ·rw[aq o];simp;omega
 have o:(List.range (Io t.2.1)).all (Nz t)=Q3↔∀i,i<Io t.2.1->Nz t i=Q3:=by
  rw[ep];simp only[pL]
 unfold dp;rw[aE,C,aE,o,aE,B,aE,MK,aE,qj,aE,bh];exact⟨λ⟨⟨a,b,c⟩,d,e,f,g,i,j⟩=>⟨a,b,c,λk z=>KN.1 (d k z),e,f,g,i,j⟩,λh=>⟨⟨h.name,h.n1,h.n8⟩,λk z=>KN.2 (h.cols k z),h.uniq,h.refs,h.key,h.nn,h.chk⟩⟩
structure AP (t:Sem zo):Prop where
 name:Io t.1<=1000000
 cols:∀c∈t.2.1,Io c.1<=1000000
 ncols:Io t.2.1<=1000
 nuq:Io t.2.2.2.1<=1000
 nrf:Io t.t.1<=1000
 refs:∀f∈t.t.1,Io f.2<=1000000
 chk:tz t.t.2
theorem PD{b:Bool}{x p i:Int}:(cond (!b) Q3 (cond (Q0 (x<1)) Q3 (cond (Q0 (x>3)) Q3 (p !=i))))=Q4↔(b=Q3/\1<=x/\x<=3/\p=i):=by
 cases b
 ·simp
 ·by_cases o:x<1
  ·rw[zx o];simp;omega
  ·rw[aq o];by_cases u:x>3
   ·rw[zx u];simp;omega
   ·rw[aq u];exact⟨λh=>⟨rfl,ow,ow,by simpa using h⟩,λh=>by simpa using h.2.2.2⟩
theorem Qy{x:Int}{n:Nat}:(cond (Q0 (x<0)) Q3 (Q0 (x>=(n:Int))))=Q3↔¬Fi x n:=by
 unfold Fi;by_cases h:x<0
 ·rw[zx h];simp;omega
 ·rw[aq h];simp;omega
theorem Mv{t:Sem zo}(F:AP t):Jj t=Q1 (dp t,()):=by
 have G:=iR t;have h4:=F.ncols;have h6:=F.nuq;have h7:=F.nrf;have S:∀r:aw,r=(.kb Q4,[])->¬o6 t->aI r.2 [Sh.bool] r.1=Q1 (dp t,()):=by
  intro r H h;have:dp t=Q4:=by
   rcases zN (dp t)with c|c
   ·exact absurd (G.1 c) h
   ·exact c
  rw[H,this];rfl
 have o:(zhA t).val=if(bif !zQ t.1 then true else bif decide ((Io t.2.1:Int)<1)then true else bif decide ((Io t.2.1:Int)>8)then true else bif decide (LT.lt (α:=Int) t.2.2.1 0)then true else bif decide (GE.ge (α:=Int) t.2.2.1 (Io t.2.1:Int))then true else !(getD t.2.1 (toNat t.2.2.1) (zi zj)).2.2)=true then some (.inr (.kb false,[]))else some (.inl (.h5 (Io t.2.1:Int) ((0:Nat):Int) (t,()))):=by
  simp only[zhA,Q8,bB F.name,fb F.name];rw[if_pos]
  ·rfl
  ·rcases zN (zQ t.1)with c|c
   ·rw[c];by_cases k1:LT.lt (α:=Int) t.2.2.1 0
    ·rw[zx k1];cases Q0 ((Io t.2.1:Int)<1)<;>cases Q0 ((Io t.2.1:Int)>8)<;>rfl
    ·by_cases k2:GE.ge (α:=Int) t.2.2.1 (Io t.2.1:Int)
     ·rw[zx k2];cases Q0 ((Io t.2.1:Int)<1)<;>cases Q0 ((Io t.2.1:Int)>8)<;>cases Q0 (LT.lt (α:=Int) t.2.2.1 0)<;>rfl
     ·have:zJ t.2.2.1 (Io t.2.1)=Q3:=mg ⟨ow,ow⟩;rw[this];cases Q0 ((Io t.2.1:Int)<1)<;>cases Q0 ((Io t.2.1:Int)>8)<;>cases Q0 (LT.lt (α:=Int) t.2.2.1 0)<;>cases Q0 (GE.ge (α:=Int) t.2.2.1 (Io t.2.1:Int))<;>rfl
   ·rw[c];rfl
 rcases zN (bif !zQ t.1 then Q3 else bif Q0 ((Io t.2.1:Int)<1)then Q3 else bif Q0 ((Io t.2.1:Int)>8)then Q3 else bif Q0 (LT.lt (α:=Int) t.2.2.1 0)then Q3 else bif Q0 (GE.ge (α:=Int) t.2.2.1 (Io t.2.1:Int))then Q3 else !(getD t.2.1 (toNat t.2.2.1) (zi zj)).2.2)with c|c
 ·rw[if_pos c]at o;refine zM o (S _ rfl λh=>?_);obtain⟨k1,k2⟩:=h.key;have e1:=h.n1;have e2:=h.n8;rw[h.name,aq ow,aq ow,aq ow,aq ow,h.nn]at c;cases c
 rw[if_neg (by rw[c];simp)]at o;have D:zQ t.1=Q3:=by
  rcases zN (zQ t.1)with k|k
  ·exact k
  ·rw[k]at c;cases c
 rw[D]at c;have h1:1<=Io t.2.1:=by
  by_cases k:(Io t.2.1:Int)<1
  ·rw[zx k]at c;cases c
  ·omega
 rw[aq (by omega:¬(Io t.2.1:Int)<1)]at c;have h8:Io t.2.1<=8:=by
  by_cases k:(Io t.2.1:Int)>8
  ·rw[zx k]at c;cases c
  ·omega
 rw[aq (by omega:¬(Io t.2.1:Int)>8)]at c;have X:LE.le (α:=Int) 0 t.2.2.1:=by
  by_cases k:LT.lt (α:=Int) t.2.2.1 0
  ·rw[zx k]at c;cases c
  ·omega
 rw[aq (by omega:¬LT.lt (α:=Int) t.2.2.1 0)]at c;have Y:LT.lt (α:=Int) t.2.2.1 (Io t.2.1:Int):=by
  by_cases k:GE.ge (α:=Int) t.2.2.1 (Io t.2.1:Int)
  ·rw[zx k]at c;cases c
  ·omega
 rw[aq (by omega:¬GE.ge (α:=Int) t.2.2.1 (Io t.2.1:Int))]at c;have Z:(getD t.2.1 (toNat t.2.2.1) (zi zj)).2.2=Q3:=by simpa using c
 have L:=mI (t:=sL) (Φ:=λr=>r=(.kb Q4,[])) 1 (λi=>.h5 (Io t.2.1:Int) (i:Int) (t,())) (λi=>zQ (getD t.2.1 i (zi zj)).1=Q3/\LE.le (α:=Int) 1 (getD t.2.1 i (zi zj)).2.1/\LE.le (α:=Int) (getD t.2.1 i (zi zj)).2.1 3/\ap t.2.1 (getD t.2.1 i (zi zj)).1=(i:Int)) (Io t.2.1) (by
  intro i o _;have C:=F.cols _ (bN (d:=zi zj) o);have E:(sL (.h5 (Io t.2.1:Int) (i:Int) (t,()))).val=if(bif !zQ (getD t.2.1 i (zi zj)).1 then Q3 else bif Q0 (LT.lt (α:=Int) (getD t.2.1 i (zi zj)).2.1 1)then Q3 else bif Q0 (GT.gt (α:=Int) (getD t.2.1 i (zi zj)).2.1 3)then Q3 else ap t.2.1 (getD t.2.1 i (zi zj)).1!=(i:Int))=Q3 then Q1 (.inr (.kb Q4,[]))else Q1 (.inl (.h5 (Io t.2.1:Int) ((i+1:Nat):Int) (t,()))):=by
   simp only[sL,Q8,zF o,zt o,aD,bB C,fb C,ju (show Io t.2.1<=1000000 by omega),kT (show Io t.2.1<=1000000 by omega),if_true];rw[if_pos,zr i um];cases zQ (getD t.2.1 i (zi zj)).1<;>cases Q0 (LT.lt (α:=Int) (getD t.2.1 i (zi zj)).2.1 1)<;>cases Q0 (GT.gt (α:=Int) (getD t.2.1 i (zi zj)).2.1 3)<;>rfl
  rcases zN (bif !zQ (getD t.2.1 i (zi zj)).1 then Q3 else bif Q0 (LT.lt (α:=Int) (getD t.2.1 i (zi zj)).2.1 1)then Q3 else bif Q0 (GT.gt (α:=Int) (getD t.2.1 i (zi zj)).2.1 3)then Q3 else ap t.2.1 (getD t.2.1 i (zi zj)).1!=(i:Int))with c|c
  ·refine .inr ⟨λh=>?_,_,zV.of (by rw[E,if_pos c]),rfl⟩;rw[PD.2 h]at c;cases c
  ·exact .inl ⟨PD.1 c,zL.of (by rw[E,if_neg (by rw[c];simp)])⟩)
 rcases L with⟨p5,L⟩|⟨p5,r,L,H⟩
 case inr=>exact zy o L ow (S _ H λh=>p5 h.cols)
 have v5:(sL (.h5 (Io t.2.1:Int) (Io t.2.1:Int) (t,()))).val=Q1 (.inl (.h11 (Io t.2.1:Int) ((0:Nat):Int) (t,()))):=by
  simp only[sL,Q8,zB];rfl
 have M:=L.trans (zL.of v5);have z:=mI (t:=sL) (Φ:=λr=>r=(.kb Q4,[])) 1 (λi=>.h11 (Io t.2.1:Int) (i:Int) (t,())) (λi=>Fi (getD t.2.2.2.1 i (zi zg)) (Io t.2.1)) (Io t.2.2.2.1) (by
  intro i o _;have E:(sL (.h11 (Io t.2.1:Int) (i:Int) (t,()))).val=if(bif Q0 (LT.lt (α:=Int) (getD t.2.2.2.1 i (zi zg)) 0)then Q3 else Q0 (GE.ge (α:=Int) (getD t.2.2.2.1 i (zi zg)) (Io t.2.1:Int)))=Q3 then Q1 (.inr (.kb Q4,[]))else Q1 (.inl (.h11 (Io t.2.1:Int) ((i+1:Nat):Int) (t,()))):=by
   simp only[sL,Q8,zF o,zt o,aD,if_true];rw[if_pos,zr i um];cases Q0 (LT.lt (α:=Int) (getD t.2.2.2.1 i (zi zg)) 0)<;>rfl
  by_cases h:Fi (getD t.2.2.2.1 i (zi zg)) (Io t.2.1)
  ·exact .inl ⟨h,zL.of (by rw[E,if_neg (by rw[aq (by have:=h.1;omega),aq (by have:=h.2;omega)];simp)])⟩
  ·refine .inr ⟨h,_,zV.of (by rw[E,if_pos (Qy.2 h)]),rfl⟩)
 rcases z with⟨I,z⟩|⟨I,r,z,H⟩
 case inr=>exact zy o (M.ends z) ow (S _ H λh=>I ((az (Q:=λu=>Fi u (Io t.2.1))).2 h.uniq))
 have h0:(sL (.h11 (Io t.2.1:Int) (Io t.2.2.2.1:Int) (t,()))).val=Q1 (.inl (.h16 (Io t.2.1:Int) ((0:Nat):Int) (t,()))):=by
  simp only[sL,Q8,zB];rfl
 have O:=(M.trans z).trans (zL.of h0);have B:=mI (t:=sL) (Φ:=λr=>r=(.kb Q4,[])) 1 (λi=>.h16 (Io t.2.1:Int) (i:Int) (t,())) (λi=>Fi (getD t.t.1 i (zi zp)).1 (Io t.2.1)/\zQ (getD t.t.1 i (zi zp)).2=Q3) (Io t.t.1) (by
  intro i o _;have C:=F.refs _ (bN (d:=zi zp) o);have E:(sL (.h16 (Io t.2.1:Int) (i:Int) (t,()))).val=if(bif Q0 (LT.lt (α:=Int) (getD t.t.1 i (zi zp)).1 0)then Q3 else bif Q0 (GE.ge (α:=Int) (getD t.t.1 i (zi zp)).1 (Io t.2.1:Int))then Q3 else !zQ (getD t.t.1 i (zi zp)).2)=Q3 then Q1 (.inr (.kb Q4,[]))else Q1 (.inl (.h16 (Io t.2.1:Int) ((i+1:Nat):Int) (t,()))):=by
   simp only[sL,Q8,zF o,zt o,aD,bB C,fb C,if_true];rw[if_pos,zr i um];cases Q0 (LT.lt (α:=Int) (getD t.t.1 i (zi zp)).1 0)<;>cases Q0 (GE.ge (α:=Int) (getD t.t.1 i (zi zp)).1 (Io t.2.1:Int))<;>rfl
  by_cases h:Fi (getD t.t.1 i (zi zp)).1 (Io t.2.1)
  ·rcases zN (zQ (getD t.t.1 i (zi zp)).2)with c|c
   ·exact .inl ⟨⟨h,c⟩,zL.of (by rw[E,c,if_neg (by rw[aq (by have:=h.1;omega),aq (by have:=h.2;omega)];simp)])⟩
   ·exact .inr ⟨λT=>(by rw[T.2]at c;cases c),_,zV.of (by rw[E,c,if_pos (by rw[aq (by have:=h.1;omega),aq (by have:=h.2;omega)];rfl)]),rfl⟩
  ·have hb:(bif Q0 (LT.lt (α:=Int) (getD t.t.1 i (zi zp)).1 0)then Q3 else bif Q0 (GE.ge (α:=Int) (getD t.t.1 i (zi zp)).1 (Io t.2.1:Int))then Q3 else !zQ (getD t.t.1 i (zi zp)).2)=Q3:=by
    have:=Qy.2 h;rcases zN (Q0 (LT.lt (α:=Int) (getD t.t.1 i (zi zp)).1 0))with k|k
    ·rw[k];rfl
    ·rw[k]at this⊢;rw[show Q0 (GE.ge (α:=Int) (getD t.t.1 i (zi zp)).1 (Io t.2.1:Int))=Q3 from this];rfl
   exact .inr ⟨λT=>h T.1,_,zV.of (by rw[E,if_pos hb]),rfl⟩)
 rcases B with⟨J,B⟩|⟨J,r,B,H⟩
 case inr=>exact zy o (O.ends B) ow (S _ H λh=>J ((az (Q:=λf:Sem zp=>Fi f.1 (Io t.2.1)/\zQ f.2=Q3)).2 h.refs))
 have U:Ek t.t.2 t.2.1=Q3:=by unfold Ek;rw[El F.chk ow];rfl
 have W:Jk t.t.2 t.2.1=iO t.t.2 t.2.1:=by unfold Jk;rw[El F.chk ow];rfl
 have h3:(sL (.h16 (Io t.2.1:Int) (Io t.t.1:Int) (t,()))).val=Q1 (.inr (.bool (iO t.t.2 t.2.1==(0:Int)),[])):=by
  simp only[sL,Q8,zB,zk,U,W];rfl
 refine zy o (O.ends (B.ends (zV.of h3))) ow ?_;have:dp t=(iO t.t.2 t.2.1==(0:Int)):=by
  apply iY.2;rw[G];constructor
  ·intro h;rw[h.chk];rfl
  ·intro h;exact⟨D,h1,h8,p5,(az (Q:=λu=>Fi u (Io t.2.1))).1 I,(az (Q:=λf:Sem zp=>Fi f.1 (Io t.2.1)/\zQ f.2=Q3)).1 J,⟨X,Y⟩,Z,bG h⟩
 rw[this];rfl
theorem nv{t:Sem zo}(h:AP t):yA t=Q3:=by unfold yA;rw[Mv h];rfl
theorem rY{t:Sem zo}(h:AP t):HC t=dp t:=by unfold HC;rw[Mv h];rfl
theorem o6.may{t:Sem zo}(h:o6 t)(z:(t.t.2.op==[])=Q4):cG t.t.2=Q3:=by
 have o:=h.chk;unfold iO at o;have u:fE 16 t.t.2 yk=Q4:=by rw[EQ,z];rfl
 rw[u,if_neg sw]at o;rcases zN (cG t.t.2)with c|c
 ·exact c
 ·have B:bM t.t.2 t.2.1=(0,1):=by unfold bM;rw[c];rfl
  rw[B]at o;cases o
theorem N0(t:Sem zo)(row:List (Sem ze))(i:Int):eH t row [] i=if Dx (kr t.t.2 t.2.1 row) 0=Q3 then(9:Int)else 0:=by rw[eH];rfl
theorem Am(t:Sem zo)(h:List (Sem ze))(x:Sem ze)(r:List (Sem ze))(i:Nat):eH t h (x::r) (i:Int)=if(cond (x.1==0) ((getD t.2.1 i (zi zj)).2.2) Q4)=Q3 then(8:Int)else if(cond (x.1!=0) (x.1!=(getD t.2.1 i (zi zj)).2.1) Q4)=Q3 then 5 else eH t h r ((i+1:Nat):Int):=by
 rw[eH];simp only[aD];rfl
theorem Di{t:Sem zo}{o:List (Sem ze)}(I:AP t)(E:o6 t)(J:∀v∈o,kd v)(T:Io o=Io t.2.1):∀(m i:Nat),Io o-i=m->i<=Io o->zV E4 (m+1) (.h9 o (i:Int) (t,())) (.int .i64 (eH t o (o.drop i) (i:Int)),[])
 | 0,i,D,S=>by
  obtain rfl:i=Io o:=by omega
  have M:=I.ncols;rw[jK,N0];refine zV.of ?_;have L:=E.n8;rcases zN (t.t.2.op==[])with c|c
  ·have D:cG t.t.2=Q4:=by
    rcases zN (cG t.t.2)with h|h
    ·rw[PG h]at c;cases c
    ·exact h
   have z:kr t.t.2 t.2.1 o=(0,0,[]):=by unfold kr;rw[D];rfl
   rw[z];simp only[E4,Q8,zB,zk];rw[c];rfl
  ·have D:=E.may c;have B:=XL (cols:=t.2.1) (row:=o) ow J I.chk D;have G:wg t.t.2 t.2.1 o=Q3:=by unfold wg;rw[B];rfl
   have C:Ec t.t.2 t.2.1 o=kr t.t.2 t.2.1 o:=by unfold Ec;rw[B];rfl
   simp only[E4,Q8,zB,zk,G,C,By,I8];rw[c];show(ite (Q3=Q3) (ite (Dx (kr t.t.2 t.2.1 o) 0=Q3) (Q1 (Sum.inr (ai 9,[]))) (Q1 (Sum.inr (ai 0,[])))) Q2:Option (HZ⊕aw))=_;rcases zN (Dx (kr t.t.2 t.2.1 o) 0)with k|k<;>rw[k]<;>rfl
 | m+1,i,D,S=>by
  have u:i<Io o:=by omega
  have L:=E.n8;have U:=Di I E J T m (i+1) ow ow;have O:o.drop i=getD o i (zi ze)::o.drop (i+1):=by
   rw[fj u,aS,zU u];rfl
  rw[O,Am];have H:zJ (i:Int) (Io t.2.1)=Q3:=zt ow;have z:(E4 (.h9 o (i:Int) (t,()))).val=if(cond ((getD o i (zi ze)).1==0) ((getD t.2.1 i (zi zj)).2.2) Q4)=Q3 then Q1 (.inr (.int .i64 8,[]))else if(cond ((getD o i (zi ze)).1!=0) ((getD o i (zi ze)).1!=(getD t.2.1 i (zi zj)).2.1) Q4)=Q3 then Q1 (.inr (.int .i64 5,[]))else Q1 (.inl (.h9 o ((i+1:Nat):Int) (t,()))):=by
   simp only[E4,Q8,zF u,zt u,H,aD,if_true];rw[zr i um];cases((getD o i (zi ze)).1==0)<;>cases((getD o i (zi ze)).1!=0)<;>rfl
  rcases zN (cond ((getD o i (zi ze)).1==0) ((getD t.2.1 i (zi zj)).2.2) Q4)with c|c
  ·rw[c,if_pos JK]at z⊢;exact(zV.of z).mono ow
  ·rw[c,if_neg sw]at z⊢;rcases zN (cond ((getD o i (zi ze)).1!=0) ((getD o i (zi ze)).1!=(getD t.2.1 i (zi zj)).2.1) Q4)with F|F
   ·rw[F,if_pos JK]at z⊢;exact(zV.of z).mono ow
   ·rw[F,if_neg sw]at z⊢;exact(zL.of z).ends U
theorem Dh{t:Sem zo}{h:List (Sem ze)}(E:AP t)(B:o6 t)(C:∀v∈h,kd v)(D:Io h=Io t.2.1):∀(m i:Nat),Io h-i=m->i<=Io h->zV E4 (m+2+Io h) (.h4 h (i:Int) (t,())) (.int .i64 (gu t h (h.drop i) (i:Int)),[])
 | 0,i,I,H=>by
  obtain rfl:i=Io h:=by omega
  rw[jK];have u:(E4 (.h4 h (Io h:Int) (t,()))).val=Q1 (.inl (.h9 h ((0:Nat):Int) (t,()))):=by
   simp only[E4,Q8,zB];rfl
  have F:=Di E B C D (Io h) 0 ow ow;have e:gu t h [] (Io h:Int)=eH t h (h.drop 0) ((0:Nat):Int):=by
   rw[gu];rfl
  rw[e];exact((zL.of u).ends F).mono ow
 | m+1,i,I,H=>by
  have o:i<Io h:=by omega
  have L:=B.n8;have J:=Dh E B C D m (i+1) ow ow;have G:h.drop i=getD h i (zi ze)::h.drop (i+1):=by
   rw[fj o,aS,zU o];rfl
  have z:=(C _ (bN (d:=zi ze) o)).2.2;have e:gu t h (h.drop i) (i:Int)=if(!aU (getD h i (zi ze)))=Q3 then(1:Int)else gu t h (h.drop (i+1)) ((i+1:Nat):Int):=by
   rw[G];rw[gu];rfl
  rw[e];have u:(E4 (.h4 h (i:Int) (t,()))).val=if(!aU (getD h i (zi ze)))=Q3 then Q1 (.inr (.int .i64 1,[]))else Q1 (.inl (.h4 h ((i+1:Nat):Int) (t,()))):=by
   simp only[E4,Q8,zF o,zt o,aD,if_true,lD z,oE z];rw[zr i um]
  rcases zN (!aU (getD h i (zi ze)))with c|c
  ·rw[c,if_pos JK]at u⊢;exact(zV.of u).mono ow
  ·rw[c,if_neg sw]at u⊢;exact((zL.of u).ends J).mono ow
theorem HB{t:Sem zo}{h:List (Sem ze)}(u:AP t)(D:∀v∈h,kd v):BJ t h=Q1 (dc t h,()):=by
 unfold dc;have o:(zhB t h).val=if(cond (!dp t) Q3 ((Io h:Int)!=(Io t.2.1:Int)))=Q3 then Q1 (.inr (.int .i64 1,[]))else Q1 (.inl (.h4 h ((0:Nat):Int) (t,()))):=by
  simp only[zhB,Q8,zk,nv u,rY u,if_true];rfl
 rcases zN (cond (!dp t) Q3 ((Io h:Int)!=(Io t.2.1:Int)))with c|c
 ·rw[if_pos c]at o⊢;exact zM o rfl
 ·rw[if_neg (by rw[c];simp)]at o⊢;have B:dp t=Q3:=by
   rcases zN (dp t)with k|k
   ·exact k
   ·rw[k]at c;cases c
  rw[B]at c;have C:Io h=Io t.2.1:=by
   have:((Io h:Int)!=(Io t.2.1:Int))=Q4:=c;simp at this;omega
  have z:=(iR t).1 B;have E:=z.n8;exact zy o (Dh u z D C (Io h) 0 ow ow) ow rfl
theorem HA{t:Sem zo}{h:List (Sem ze)}(u:AP t)(o:∀v∈h,kd v):BI t h=Q3:=by unfold BI;rw[HB u o];rfl
theorem Mu{t:Sem zo}{h:List (Sem ze)}(u:AP t)(o:∀v∈h,kd v):Ji t h=dc t h:=by unfold Ji;rw[HB u o];rfl
theorem eq3(a b:Sem ze):(a.1==b.1&&(a.2.1==b.2.1&&(a.2.2==b.2.2&&Q3)))=Q3↔a=b:=by
 obtain⟨k,n,s⟩:=a;obtain⟨h,o,u⟩:=b;simp
theorem wj{rows:List (List (Sem ze))}{c:Int}(W:∀r∈rows,zJ c (Io r)=Q3)(hl:Io rows<=1000):∃b,wi rows c=Q1 (b,())/\(b=Q4↔sD rows c):=by
 have B:=mI (t:=FJ) (Φ:=λr=>r=(.kb Q3,[])) 1002 (λi=>.h2 rows c (i:Int)) (λi=>∀k,k<i->¬((zE c (getD rows i (zi ze.sl))).1≠0/\zE c (getD rows i (zi ze.sl))=zE c (getD rows k (zi ze.sl)))) (Io rows) (by
  intro i o _;have C:(FJ (.h2 rows c (i:Int))).val=Q1 (.inl (.h5 rows c (i:Int) ((0:Nat):Int))):=by
   simp only[FJ,Q8,zF o];rfl
  have h5:=mI (t:=FJ) (Φ:=λr=>r=(.kb Q3,[])) 1 (λk=>.h5 rows c (i:Int) (k:Int)) (λk=>¬((zE c (getD rows i (zi ze.sl))).1≠0/\zE c (getD rows i (zi ze.sl))=zE c (getD rows k (zi ze.sl)))) i (by
   intro k J _;have E:k<Io rows:=by omega
   have C:(FJ (.h5 rows c (i:Int) (k:Int))).val=if(cond ((zE c (getD rows i (zi ze.sl))).1!=0) ((zE c (getD rows i (zi ze.sl))).1==(zE c (getD rows k (zi ze.sl))).1&&((zE c (getD rows i (zi ze.sl))).2.1==(zE c (getD rows k (zi ze.sl))).2.1&&((zE c (getD rows i (zi ze.sl))).2.2==(zE c (getD rows k (zi ze.sl))).2.2&&Q3))) Q4)=Q3 then Q1 (.inr (.kb Q3,[]))else Q1 (.inl (.h5 rows c (i:Int) ((k+1:Nat):Int))):=by
    simp only[FJ,Q8,zF J,zt o,zt E,W _ (bN (d:=zi ze.sl) o),W _ (bN (d:=zi ze.sl) E),aD,if_true];rw[if_pos,zr k um];cases((getD (getD rows i (zi ze.sl)) (toNat c) (zi ze)).1!=0)<;>rfl
   have X:=eq3 (zE c (getD rows i (zi ze.sl))) (zE c (getD rows k (zi ze.sl)));rcases zN ((zE c (getD rows i (zi ze.sl))).1!=0)with u|u
   ·have F:(zE c (getD rows i (zi ze.sl))).1≠0:=bne_iff_ne.1 u;rcases zN ((zE c (getD rows i (zi ze.sl))).1==(zE c (getD rows k (zi ze.sl))).1&&((zE c (getD rows i (zi ze.sl))).2.1==(zE c (getD rows k (zi ze.sl))).2.1&&((zE c (getD rows i (zi ze.sl))).2.2==(zE c (getD rows k (zi ze.sl))).2.2&&Q3)))with z|z
    ·exact .inr ⟨λh=>h ⟨F,X.1 z⟩,_,zV.of (by rw[C,u,z,if_pos JK]),rfl⟩
    ·exact .inl ⟨λh=>(by rw[X.2 h.2]at z;cases z),zL.of (by rw[C,u,z,if_neg sw])⟩
   ·refine .inl ⟨λh=>h.1 (by simpa using u),zL.of (by rw[C,u,if_neg sw])⟩)
  rcases h5 with⟨T,H⟩|⟨T,r,H,M⟩
  ·have O:(FJ (.h5 rows c (i:Int) (i:Int))).val=Q1 (.inl (.h2 rows c ((i+1:Nat):Int))):=by
    simp only[FJ,Q8,zB];rw[zr i um];rfl
   exact .inl ⟨T,(((zL.of C).trans H).trans (zL.of O)).mono ow⟩
  ·exact .inr ⟨T,r,((zL.of C).ends H).mono ow,M⟩)
 have Z:(∀i,i<Io rows->∀k,k<i->¬((zE c (getD rows i (zi ze.sl))).1≠0/\zE c (getD rows i (zi ze.sl))=zE c (getD rows k (zi ze.sl))))↔sD rows c:=by
  unfold sD;rw[List.pairwise_iff_getElem];have e:∀i(o:i<Io rows),getD rows i (zi ze.sl)=rows[i]:=λi o=>by rw[aS,zU o,dv]
  constructor
  ·intro h i j o Y I L D;have:=h j Y i I;rw[e i o,e j Y]at this;exact this ⟨by rw[<-D];exact L,D.symm⟩
  ·rintro h i o k J ⟨U,B⟩;rw[e i o]at U B;rw[e k ow]at B;exact h k i ow o J (by rw[<-B];exact U) B.symm
 have o:(znj rows c).val=Q1 (.inl (.h2 rows c ((0:Nat):Int))):=rfl;rcases B with⟨S,G⟩|⟨S,r,G,M⟩
 ·refine⟨Q4,zy o (G.ends (zV.of (r:=(.kb Q4,[])) ?_)) ow rfl,⟨λ_=>Z.1 S,λ_=>rfl⟩⟩;simp only[FJ,Q8,zB];rfl
 ·subst M;exact⟨Q3,zy o G ow rfl,⟨λh=>(by cases h),λh=>absurd (Z.2 h) S⟩⟩
theorem Mw{t:Sem zo}{h:List (Sem ze)}(u:AP t)(B:dp t=Q3)(o:zJ t.2.2.1 (Io h)=Q3):Eo t h=Q1 (zE t.2.2.1 h,()):=by
 unfold Eo al dd;have z:Q0 (LT.lt (α:=Int) t.2.2.1 (Io h:Int))=Q3:=by
  unfold zJ at o;simp only[aE]at o;exact o.2
 simp only[znl,Q8,zk,nv u,rY u,B,o,z];rfl
theorem nA{t:Sem zo}{row:List (Sem ze)}(u:AP t)(o:dp t=Q3)(h:zJ t.2.2.1 (Io row)=Q3):yB t row=Q3:=by unfold yB;rw[Mw u o h];rfl
theorem r7{t:Sem zo}{row:List (Sem ze)}(u:AP t)(o:dp t=Q3)(h:zJ t.2.2.1 (Io row)=Q3):HD t row=zE t.2.2.1 row:=by unfold HD;rw[Mw u o h];rfl
theorem rZ{x:Sem zh}{v:Sem ze}(F:AP x.1)(J:dp x.1=Q3)(D:∀r∈x.2,zJ x.1.2.2.1 (Io r)=Q3)(M:Io x.2<=1000):BL x v=Q1 (zW (λr=>bf r x.1.2.2.1 v) x.2 0,()):=by
 have H:∀r∈x.2,bf r x.1.2.2.1 v=((zE x.1.2.2.1 r).1==v.1&&((zE x.1.2.2.1 r).2.1==v.2.1&&((zE x.1.2.2.1 r).2.2==v.2.2&&Q3))):=by
  intro r L;have:=D r L;unfold zJ at this;simp only[aE]at this;unfold bf;rw[show Q0 (GE.ge (α:=Int) x.1.2.2.1 0)=Q3 from this.1,this.2];rfl
 have G:=mI (t:=Yg) (Φ:=λr=>r=(.int .i64 (zW (λr=>bf r x.1.2.2.1 v) x.2 0),[])) 1 (λi=>.h2 (i:Int) (x,()) (v,())) (λi=>bf (getD x.2 i (zi ze.sl)) x.1.2.2.1 v=Q4) (Io x.2) (by
  intro i z I;have u:=bN (d:=zi ze.sl) z;have o:=D _ u;have B:Q0 (LT.lt (α:=Int) x.1.2.2.1 ((getD x.2 i (zi ze.sl)).length:Int))=Q3:=by
   unfold zJ at o;simp only[aE]at o;exact o.2
  have E:(Yg (.h2 (i:Int) (x,()) (v,()))).val=if bf (getD x.2 i (zi ze.sl)) x.1.2.2.1 v=Q3 then Q1 (.inr (.int .i64 i,[]))else Q1 (.inl (.h2 ((i+1:Nat):Int) (x,()) (v,()))):=by
   rw[H _ u];simp only[Yg,Q8,zk,zF z,zt z,o,B,nv F,rY F,J,aD,af,if_true,sU];rw[zr i um]
  rcases zN (bf (getD x.2 i (zi ze.sl)) x.1.2.2.1 v)with h|h
  ·have hp:=nf (p:=λr=>bf r x.1.2.2.1 v) (d:=zi ze.sl) x.2 0 i z h I;refine .inr ⟨by rw[h];simp,_,zV.of (by rw[E,if_pos h]),?_⟩;show _=(ai (zW (λr=>bf r x.1.2.2.1 v) x.2 0),[]);rw[hp];simp
  ·exact .inl ⟨h,zL.of (by rw[E,if_neg (by rw[h];simp)])⟩)
 have z:(znm x v).val=Q1 (.inl (.h2 ((0:Nat):Int) (x,()) (v,()))):=rfl;rcases G with⟨C,B⟩|⟨C,r,B,rfl⟩
 ·have hp:=ng (p:=λr=>bf r x.1.2.2.1 v) (d:=zi ze.sl) x.2 0 C;rw[hp];refine zy z (B.ends (zV.of (r:=(.int .i64 (-1),[])) ?_)) ow rfl;simp only[Yg,Q8,zB];rfl
 ·exact zy z B ow rfl
theorem S8{x:Sem zh}{v:Sem ze}(z:AP x.1)(u:dp x.1=Q3)(h:∀r∈x.2,zJ x.1.2.2.1 (Io r)=Q3)(o:Io x.2<=1000):kD x v=Q3:=by unfold kD;rw[rZ z u h o];rfl
theorem XN{x:Sem zh}{v:Sem ze}(z:AP x.1)(u:dp x.1=Q3)(h:∀r∈x.2,zJ x.1.2.2.1 (Io r)=Q3)(o:Io x.2<=1000):oO x v=zW (λr=>bf r x.1.2.2.1 v) x.2 0:=by unfold oO;rw[rZ z u h o];rfl
structure F1 (x:Sem zh):Prop where
 t:AP x.1
 rows:Io x.2<=1000
 vals:∀r∈x.2,∀v∈(r:List (Sem ze)),kd v
theorem F1.short{x:Sem zh}(h:F1 x):gS x:=⟨h.t.nuq,h.t.nrf,h.rows⟩
theorem G4{t:Sem zo}{z:List (Sem ze)}:∀(r:List (Sem ze))(i:Nat),eH t z r (i:Int)=(0:Int)->∀j,j<Io r->(getD t.2.1 (i+j) (zi zj)).2.2=Q3->(getD r j (zi ze)).1≠0
 |[],_,_,j,u,_=>by simp at u
 | x::r,i,h,j,u,hn=>by
  rw[Am]at h;split at h
  ·cases h
  rename_i c;split at h
  ·cases h
  cases j with
  | zero=>
   intro B;have o:(x.1==0)=Q3:=by simpa using B
   rw[o]at c;exact c hn
  | succ j=>
   have:=G4 r (i+1) h j (by simpa using u) (by rw[show i+1+j=i+(j+1) by omega];exact hn);exact this
theorem G6{t:Sem zo}{row:List (Sem ze)}:∀(r:List (Sem ze))(i:Nat),gu t row r (i:Int)=(0:Int)->(∀v∈r,aU v=Q3)/\eH t row row ((0:Nat):Int)=(0:Int)
 | [],i,h=>by
  rw[gu]at h;exact⟨λv o=>(by cases o),h⟩
 | x::r,i,h=>by
  have e:gu t row (x::r) (i:Int)=if(!aU x)=Q3 then(1:Int)else gu t row r ((i+1:Nat):Int):=by
   rw[gu];rfl
  rw[e]at h;split at h
  ·cases h
  rename_i c;obtain⟨u,z⟩:=G6 r (i+1) h;refine⟨λv o=>?_,z⟩;rcases bL.1 o with rfl|o
  ·simpa using c
  ·exact u v o
theorem cL{t:Sem zo}{row:List (Sem ze)}(h:dc t row=(0:Int)):Io row=Io t.2.1/\(∀v∈row,aU v=Q3)/\∀j,j<Io row->(getD t.2.1 j (zi zj)).2.2=Q3->(getD row j (zi ze)).1≠0:=by
 have B:=Dj (t:=t) (row:=row) (by simpa using h);unfold dc at h;split at h
 ·cases h
 obtain⟨o,u⟩:=G6 row 0 h;refine⟨B,o,λj z C=>?_⟩;have:=G4 row 0 u j z (by rwa [ek]);exact this
theorem uj{a b:Sem ze}(o:aU a=Q3)(u:aU b=Q3)(h:aX a b=(0:Int)):a=b:=by
 unfold aX an at h;rw[o,u]at h;have h:FG [pR a.1 b.1,jM a.2.1 b.2.1,mU a.2.2 b.2.2]=(0:Int):=h;rw[<-IK]at h;rcases zN (a.1==b.1&&(a.2.1==b.2.1&&(a.2.2==b.2.2&&Q3)))with c|c
 ·exact(eq3 a b).1 c
 ·rw[if_neg (by rw[c];simp)]at h;split at h<;>cases h
theorem Jm{x:Sem zh}(B:F1 x):∃e:Int,nz x=Q1 (e,())/\(e=0↔dH x):=by
 have h8:=B.rows;have x8:=B.t.nuq;by_cases G:dp x.1=Q3
 case neg=>
  have x5:dp x.1=Q4:=by simpa using G
  refine⟨1,?_,λh=>(by cases h),λh=>absurd h.may G⟩;unfold nz al dd;simp only[VO,Q8,zk,nv B.t,rY B.t,x5];rfl
 by_cases x3:Io x.2<=200
 case neg=>
  refine⟨13,?_,λh=>(by cases h),λh=>absurd h.few x3⟩;unfold nz al dd;simp only[VO,Q8,zk,nv B.t,rY B.t,G];rw[if_pos trivial,if_neg sw,if_pos sg];rfl
 have C:(VO x).val=Q1 (.inl (.h6 ((0:Nat):Int) (x,()))):=by
  simp only[VO,Q8,zk,nv B.t,rY B.t,G];rw[if_pos trivial,if_neg sw,if_neg sg];rfl
 obtain⟨X,x7,x6,_,_⟩:=fi G;have h6:=mI (t:=qL) (Φ:=YA) 1 (λi=>.h6 (i:Int) (x,())) (λi=>dc x.1 (getD x.2 i (zi ze.sl))=(0:Int)) (Io x.2) (by
  intro i C _;have x2:=B.vals _ (bN (d:=zi ze.sl) C);have T:(qL (.h6 (i:Int) (x,()))).val=if(dc x.1 (getD x.2 i (zi ze.sl))!=0)=Q3 then Q1 (.inr (.int .i64 (dc x.1 (getD x.2 i (zi ze.sl))),[]))else Q1 (.inl (.h6 ((i+1:Nat):Int) (x,()))):=by
   simp only[qL,Q8,zk,zF C,zt C,aD,HA B.t x2,Mu B.t x2,if_true];rw[zr i um]
  by_cases h:dc x.1 (getD x.2 i (zi ze.sl))=(0:Int)
  ·refine .inl ⟨h,zL.of ?_⟩;rw[T,if_neg (by rw[h];simp)]
  ·refine .inr ⟨h,_,zV.of (by rw[T,if_pos (by simpa using h)]),_,rfl,h⟩)
 rcases h6 with⟨hf,h6⟩|⟨hf,r,h6,e,L,z⟩
 case inr=>
  subst L;exact⟨e,zy C h6 ow rfl,λh=>absurd h z,λh=>absurd ((az (Q:=λr=>dc x.1 r=(0:Int))).2 h.fits) hf⟩
 have o:=(az (Q:=λr=>dc x.1 r=(0:Int))).1 hf;have h7:∀r∈x.2,Io r=Io x.1.2.1:=λr O=>(cL (o r O)).1
 have M:∀c,Fi c (Io x.1.2.1)->∀r∈x.2,zJ c (Io r)=Q3:=λc hc r O=>by
  rw[h7 r O];exact mg hc
 obtain⟨b,hb,F⟩:=wj (rows:=x.2) (c:=x.1.2.2.1) (M _ X) h8;have U:nB x.2 x.1.2.2.1=Q3:=by unfold nB;rw[hb];rfl
 have W:r8 x.2 x.1.2.2.1=b:=by unfold r8;rw[hb];rfl
 have x1:(qL (.h6 (Io x.2:Int) (x,()))).val=if b=Q3 then Q1 (.inr (.int .i64 7,[]))else Q1 (.inl (.h14 ((0:Nat):Int) (x,()))):=by
  simp only[qL,Q8,zB,U,W];rfl
 by_cases J:b=Q3
 ·refine⟨7,zy C (h6.ends (zV.of (by rw[x1,if_pos J]))) ow rfl,λh=>(by cases h),λh=>?_⟩;have:=F.2 h.key;rw[J]at this;cases this
 have S:sD x.2 x.1.2.2.1:=F.1 (by simpa using J);have h3:zL qL _ (.h6 ((0:Nat):Int) (x,())) _:=h6.trans (zL.of (by rw[x1,if_neg J]));have D:=mI (t:=qL) (Φ:=YA) 1 (λi=>.h14 (i:Int) (x,())) (λi=>sD x.2 (getD x.1.2.2.2.1 i (zi zg))) (Io x.1.2.2.2.1) (by
  intro i C _;obtain⟨b,hb,F⟩:=wj (rows:=x.2) (c:=getD x.1.2.2.2.1 i (zi zg)) (M _ (x6 _ (bN C))) h8;have U:nB x.2 (getD x.1.2.2.2.1 i (zi zg))=Q3:=by unfold nB;rw[hb];rfl
  have W:r8 x.2 (getD x.1.2.2.2.1 i (zi zg))=b:=by unfold r8;rw[hb];rfl
  have T:(qL (.h14 (i:Int) (x,()))).val=if b=Q3 then Q1 (.inr (.int .i64 7,[]))else Q1 (.inl (.h14 ((i+1:Nat):Int) (x,()))):=by
   simp only[qL,Q8,zF C,zt C,if_true,aD,U,W];rw[zr i um]
  by_cases h:b=Q3
  ·refine .inr ⟨λhu=>?_,_,zV.of (by rw[T,if_pos h]),7,rfl,by decide⟩;have:=F.2 hu;rw[h]at this;cases this
  ·exact .inl ⟨F.1 (by simpa using h),zL.of (by rw[T,if_neg h])⟩)
 rcases D with⟨hq,D⟩|⟨hq,r,D,e,L,z⟩
 case inr=>
  subst L;exact⟨e,zy C (h3.ends D) ow rfl,λh=>absurd h z,λh=>absurd ((az (Q:=λu=>sD x.2 u)).2 h.uniq) hq⟩
 have Y:=(az (Q:=λu=>sD x.2 u)).1 hq;have h9:(qL (.h14 (Io x.1.2.2.2.1:Int) (x,()))).val=Q1 (.inl (.h19 ((0+1:Nat):Int) (x,()))):=by
  simp only[qL,Q8,zB];rfl
 have h4:=(h3.trans D).trans (zL.of h9);have H:∀i,i+1<Io x.2->(xf (zE x.1.2.2.1 (getD x.2 i (zi ze.sl))) (zE x.1.2.2.1 (getD x.2 (i+1) (zi ze.sl)))↔Q0 (GT.gt (α:=Int) (aX (zE x.1.2.2.1 (getD x.2 i (zi ze.sl))) (zE x.1.2.2.1 (getD x.2 (i+1) (zi ze.sl)))) 0)=Q4):=by
  intro i I;have Z:i<Io x.2:=by omega
  have m1:=bN (d:=zi ze.sl) Z;have m2:=bN (d:=zi ze.sl) I;obtain⟨l1,f1,n1⟩:=cL (o _ m1);obtain⟨l2,f2,_⟩:=cL (o _ m2);have hT:=(iR x.1).1 G;obtain⟨k1,k2⟩:=hT.key;have h5:toNat x.1.2.2.1<(getD x.2 i (zi ze.sl)).length:=by rw[l1];omega
  have x4:toNat x.1.2.2.1<(getD x.2 (i+1) (zi ze.sl)).length:=by rw[l2];omega
  unfold xf;constructor
  ·intro h;exact aq ow
  ·intro h;have h:¬GT.gt (α:=Int) (aX (zE x.1.2.2.1 (getD x.2 i (zi ze.sl))) (zE x.1.2.2.1 (getD x.2 (i+1) (zi ze.sl)))) 0:=of_decide_eq_false h;by_cases h0:@Eq Int (aX (zE x.1.2.2.1 (getD x.2 i (zi ze.sl))) (zE x.1.2.2.1 (getD x.2 (i+1) (zi ze.sl)))) 0
   ·exfalso;have L:=uj (f1 _ (bN h5)) (f2 _ (bN x4)) h0;have z:=n1 _ h5 hT.nn;have hp:=(List.pairwise_iff_getElem.1 S) i (i+1) Z I ow;have e1:getD x.2 i (zi ze.sl)=x.2[i]:=by rw[aS,zU Z,dv]
    have e2:getD x.2 (i+1) (zi ze.sl)=x.2[i+1]:=by rw[aS,zU I,dv]
    rw[e1]at z L;rw[e2]at L;exact hp z L
   ·omega
 have E:=mI (t:=qL) (Φ:=YA) 1 (λi=>.h19 ((i+1:Nat):Int) (x,())) (λi=>xf (zE x.1.2.2.1 (getD x.2 i (zi ze.sl))) (zE x.1.2.2.1 (getD x.2 (i+1) (zi ze.sl)))) (Io x.2-1) (by
  intro i C _;have Z:i<Io x.2:=by omega
  have I:i+1<Io x.2:=by omega
  have m1:=bN (d:=zi ze.sl) Z;have m2:=bN (d:=zi ze.sl) I;have k1:=M _ X _ m1;have k2:=M _ X _ m2;have o1:∀r∈x.2,(zE x.1.2.2.1 r).2.2.length<=1000000:=by
   intro r O;by_cases h:toNat x.1.2.2.1<Io r
   ·exact(B.vals r O _ (bN h)).2.2
   ·unfold zE;rw[aS,eC ow];simp[zi]
  have T:(qL (.h19 ((i+1:Nat):Int) (x,()))).val=if Q0 (GT.gt (α:=Int) (aX (zE x.1.2.2.1 (getD x.2 i (zi ze.sl))) (zE x.1.2.2.1 (getD x.2 (i+1) (zi ze.sl)))) 0)=Q3 then Q1 (.inr (.int .i64 15,[]))else Q1 (.inl (.h19 ((i+1+1:Nat):Int) (x,()))):=by
   simp only[qL,zk,lV i um];simp only[Q8,zF I,zt I,zt Z,aD,Prod.eta,nA B.t G k1,nA B.t G k2,r7 B.t G k1,r7 B.t G k2,lF (o1 _ m1) (o1 _ m2),np (o1 _ m1) (o1 _ m2),if_true];rw[zr (i+1) um]
  rcases zN (Q0 (GT.gt (α:=Int) (aX (zE x.1.2.2.1 (getD x.2 i (zi ze.sl))) (zE x.1.2.2.1 (getD x.2 (i+1) (zi ze.sl)))) 0))with c|c
  ·exact .inr ⟨λh=>(by rw[(H i I).1 h]at c;cases c),_,zV.of (by rw[T,if_pos c]),15,rfl,by decide⟩
  ·exact .inl ⟨(H i I).2 c,zL.of (by rw[T,if_neg (by rw[c];simp)])⟩)
 rcases E with⟨O,E⟩|⟨O,r,E,e,L,z⟩
 case inr=>
  subst L;exact⟨e,zy C (h4.ends E) ow rfl,λh=>absurd h z,λh=>absurd h.rise O⟩
 have x0:(qL (.h19 ((Io x.2-1+1:Nat):Int) (x,()))).val=Q1 (.inr (.int .i64 0,[])):=by
  simp only[qL,Q8];rw[if_neg sg]
 exact⟨0,zy C (h4.ends (E.ends (zV.of x0))) ow rfl,λ_=>⟨G,x3,o,S,Y,O⟩,λ_=>rfl⟩
end Cad
