/- The document's expressions that may be are the program's. -/
import Derived.Test.YtjfdpfapcmcncaaGreatDoorH18
namespace Cad
open Go Go.Proofs
open List renaming length→Io
open IntKind renaming wrap→Γ,i64→Δ
open Tr renaming val→Q8
open Bool renaming false→Q4,true→Q3
open Option renaming none→Q2,some→Q1
open Decidable renaming decide→Q0
open Int (toNat)
open List (getD)
open Tr (chk br re)
open AV (nils agg tup ptr kb str sl)
set_option maxHeartbeats 4000000
mutual
def sD:zf->Prop
 |.mk _ v s l=>jL v/\Io s<=1000000/\kr l
def kr:List zf->Prop
 |[]=>True
 |e::r=>sD e/\kr r
end
theorem kr.mem:∀{l:List zf},kr l->∀e∈l,sD e
 |[],_,e,h=>by simp at h
 | x::r,h,e,o=>by
  rw[kr]at h;rcases bL.1 o with rfl|o
  ·exact h.1
  ·exact kr.mem h.2 e o
def FI(o:zD):Bool:=bif o==ej then Q3 else bif o==uM then Q3 else bif o==[61]then Q3 else bif o==[60]then Q3 else bif o==[43]then Q3 else o==[45]
theorem Mz(s:zD):OS s=Q1 (FI s,()):=rfl
theorem XO(s:zD):Jk s=Q3:=by unfold Jk;rw[Mz];rfl
theorem zbr(s:zD):QS s=FI s:=by unfold QS;rw[Mz];rfl
def bE:Nat->zf->Bool
 |0,_=>Q4
 | d+1,.mk o v s l=>
  if(o==kF)=Q3 then(cond (aR v) (cond (s==[]) ((Io l:Int)==0) Q4) Q4)else
  if(o==cW)=Q3 then(cond (aT v) (cond (eh s) (cond (!jy s) ((Io l:Int)==0) Q4) Q4) Q4)else
  if(cond (o==mU) Q3 (o==pf))=Q3 then(cond (aT v) (cond (s==[]) (match l with|[a]=>bE d a|_=>Q4) Q4) Q4)else
  if FI o=Q3 then(cond (aT v) (cond (s==[]) (match l with|[a,b]=>bif bE d a then bE d b else Q4|_=>Q4) Q4) Q4)else Q4
def nE:Nat->zf->Nat
 |0,_=>0
 |d+1,.mk _ _ _ l=>1+(l.map (nE d)).sum
theorem TH(d:Nat)(h:d<=1000):Γ Δ (((d+1:Nat):Int)-1)=(d:Int):=lW d um
theorem Hz:∀(N d:Nat)(e:zf),d<=12->d<N->sD e->fY N e (d:Int)=Q1 (bE d e,())
 |0,_,_,_,h,_=>absurd h ow
 | N+1,0,e,_,_,_=>by
  rw[fY];unfold Jj an dd;rfl
 | N+1,d+1,.mk D v s l,X,Y,M=>by
  rw[sD]at M;obtain⟨L,J,U⟩:=M;have G:∀a∈l,fY N a (d:Int)=Q1 (bE d a,()):=λa I=>Hz N d a ow ow (U.mem a I)
  rw[fY];unfold Jj an dd;have W:(((d+1:Nat):Int)==0)=Q4:=bZ.2 ow;simp only[P5,Q8,zk,zf.op,zf.v,zf.s,zf.l,lC L.2.2,oH L.2.2,yE J,Es J,MJ,QU,XO,zbr,TH d ow,if_true,W]
  match l,G with
  | [],_=>
   simp only[bE,aT];rcases zM (D==kF)with z|z
   ·rcases zM (aR v)with o|o<;>rcases zM (s==[])with u|u<;>(simp only[z,o,u,zY,al,if_true,if_false,zA,dT];rfl)
   rcases zM (D==cW)with B|B
   ·rcases zM (aT v)with o|o<;>rcases zM (eh s)with u|u<;>rcases zM (jy s)with C|C<;>(simp only[aT]at o;simp only[z,B,o,u,C,zY,al,if_true,if_false,zA,dT,bA,cw];rfl)
   rcases zM (cond (D==mU) Q3 (D==pf))with E|E
   ·rcases zM (aT v)with o|o<;>rcases zM (s==[])with u|u<;>(simp only[aT]at o;simp only[z,B,E,o,u,zY,al,if_true,if_false,zA,dT];rfl)
   rcases zM (FI D)with F|F
   ·rcases zM (aT v)with o|o<;>rcases zM (s==[])with u|u<;>(simp only[aT]at o;simp only[z,B,E,F,o,u,zY,al,if_true,if_false,zA,dT];rfl)
   ·simp only[z,B,E,F,if_false,zA,dT];rfl
  | [a],G=>
   have I:=G a sw;simp only[bE,aT,show getD [a] (toNat 0) (zi Sh.expr)=a from rfl,I,show zJ 0 [a].length=Q3 from rfl,F3,show∀x,oQ (Q1 (x,()))=x from λ_=>rfl];rcases zM (D==kF)with z|z
   ·rcases zM (aR v)with o|o<;>rcases zM (s==[])with u|u<;>(simp only[z,o,u,zY,al,if_true,if_false,zA,dT];rfl)
   rcases zM (D==cW)with B|B
   ·rcases zM (aT v)with o|o<;>rcases zM (eh s)with u|u<;>rcases zM (jy s)with C|C<;>(simp only[aT]at o;simp only[z,B,o,u,C,zY,al,if_true,if_false,zA,dT,bA,cw];rfl)
   rcases zM (cond (D==mU) Q3 (D==pf))with E|E
   ·rcases zM (aT v)with o|o<;>rcases zM (s==[])with u|u<;>rcases zM (bE d a)with C|C<;>(simp only[aT]at o;simp only[z,B,E,o,u,C,zY,al,if_true,if_false,zA,dT];rfl)
   rcases zM (FI D)with F|F
   ·rcases zM (aT v)with o|o<;>rcases zM (s==[])with u|u<;>rcases zM (bE d a)with C|C<;>(simp only[aT]at o;simp only[z,B,E,F,o,u,C,zY,al,if_true,if_false,zA,dT];rfl)
   ·simp only[z,B,E,F,if_false,zA,dT];rfl
  | [a,b],G=>
   have I:=G a sw;have T:=G b sw;simp only[bE,aT,show getD [a,b] (toNat 0) (zi Sh.expr)=a from rfl,show getD [a,b] (toNat 1) (zi Sh.expr)=b from rfl,I,T,show zJ 0 [a,b].length=Q3 from rfl,show zJ 1 [a,b].length=Q3 from rfl,F3,show∀x,oQ (Q1 (x,()))=x from λ_=>rfl];rcases zM (D==kF)with z|z
   ·rcases zM (aR v)with o|o<;>rcases zM (s==[])with u|u<;>(simp only[z,o,u,zY,al,if_true,if_false,zA,dT];rfl)
   rcases zM (D==cW)with B|B
   ·rcases zM (aT v)with o|o<;>rcases zM (eh s)with u|u<;>rcases zM (jy s)with C|C<;>(simp only[aT]at o;simp only[z,B,o,u,C,zY,al,if_true,if_false,zA,dT,bA,cw];rfl)
   rcases zM (cond (D==mU) Q3 (D==pf))with E|E
   ·rcases zM (aT v)with o|o<;>rcases zM (s==[])with u|u<;>rcases zM (bE d a)with C|C<;>rcases zM (bE d b)with H|H<;>(simp only[aT]at o;simp only[z,B,E,o,u,C,H,zY,al,if_true,if_false,zA,dT];rfl)
   rcases zM (FI D)with F|F
   ·rcases zM (aT v)with o|o<;>rcases zM (s==[])with u|u<;>rcases zM (bE d a)with C|C<;>rcases zM (bE d b)with H|H<;>(simp only[aT]at o;simp only[z,B,E,F,o,u,C,H,zY,al,if_true,if_false,zA,dT];rfl)
   ·simp only[z,B,E,F,if_false,zA,dT];rfl
  | a::b::c::r,_=>
   have e0:((((a::b::c::r).length:Nat):Int)==0)=Q4:=bZ.2 sg;have O:((((a::b::c::r).length:Nat):Int)==1)=Q4:=bZ.2 sg;have S:((((a::b::c::r).length:Nat):Int)==2)=Q4:=bZ.2 sg;simp only[bE,aT,e0,O,S];rcases zM (D==kF)with z|z
   ·rcases zM (aR v)with o|o<;>rcases zM (s==[])with u|u<;>(simp only[z,o,u,zY,al,if_true,if_false,zA,dT];rfl)
   rcases zM (D==cW)with B|B
   ·rcases zM (aT v)with o|o<;>rcases zM (eh s)with u|u<;>rcases zM (jy s)with C|C<;>(simp only[aT]at o;simp only[z,B,o,u,C,zY,al,if_true,if_false,zA,dT,bA,cw];rfl)
   rcases zM (cond (D==mU) Q3 (D==pf))with E|E
   ·rcases zM (aT v)with o|o<;>rcases zM (s==[])with u|u<;>(simp only[aT]at o;simp only[z,B,E,o,u,zY,al,if_true,if_false,zA,dT];rfl)
   rcases zM (FI D)with F|F
   ·rcases zM (aT v)with o|o<;>rcases zM (s==[])with u|u<;>(simp only[aT]at o;simp only[z,B,E,F,o,u,zY,al,if_true,if_false,zA,dT];rfl)
   ·simp only[z,B,E,F,al,if_false,zA,dT];rfl
theorem Tu{o:zD}(h:FI o=Q3):o=ej\/o=uM\/o=[61]\/o=[60]\/o=[43]\/o=[45]:=by
 unfold FI at h;rcases zM (o==ej)with c|c
 ·exact .inl (bG c)
 rcases zM (o==uM)with u|u
 ·exact .inr (.inl (bG u))
 rcases zM (o==[61])with z|z
 ·exact .inr (.inr (.inl (bG z)))
 rcases zM (o==[60])with B|B
 ·exact .inr (.inr (.inr (.inl (bG B))))
 rcases zM (o==[43])with C|C
 ·exact .inr (.inr (.inr (.inr (.inl (bG C)))))
 rcases zM (o==[45])with D|D
 ·exact .inr (.inr (.inr (.inr (.inr (bG D)))))
 rw[c,u,z,B,C,D]at h;cases h
inductive T4 (d:Nat):zf->Prop
 |lit (v:Int×Int×zD) (h:aR v=Q3):T4 d (.mk kF v [] [])
 |col (s:zD) (h:eh s=Q3) (h2:jy s=Q4):T4 d (.mk cW (0,0,[]) s [])
 |one (op:zD) (a:zf) (h:op=mU\/op=pf) (ha:bE d a=Q3):T4 d (.mk op (0,0,[]) [] [a])
 |two (op:zD) (a b:zf) (h:op=ej\/op=uM\/op=[61]\/op=[60]\/op=[43]\/op=[45]) (ha:bE d a=Q3) (hb:bE d b=Q3):T4 d (.mk op (0,0,[]) [] [a,b])
theorem Dw{v:Int×Int×zD}(h:aT v=Q3):v=(0,0,[]):=by
 obtain⟨a,b,c⟩:=v;unfold aT at h;simp at h;obtain⟨rfl,rfl,rfl⟩:=h;rfl
theorem ck{a b:Bool}(h:(cond a b Q4)=Q3):a=Q3/\b=Q3:=by
 cases a<;>cases b<;>simp_all
theorem S0{o:zD}(h:(cond (o==mU) Q3 (o==pf))=Q3):o=mU\/o=pf:=by
 rcases zM (o==mU)with k|k
 ·exact .inl (bG k)
 ·rw[k]at h;exact .inr (bG h)
theorem dr{d:Nat}:∀{e:zf},bE (d+1) e=Q3->T4 d e
 | .mk F v s [],h=>by
  simp only[bE]at h;split at h
  ·rename_i c;obtain⟨z,B⟩:=ck h;obtain⟨C,D⟩:=ck B;rw[bG c,bG C];exact .lit v z
  split at h
  ·rename_i c;obtain⟨z,B⟩:=ck h;obtain⟨C,D⟩:=ck B;obtain⟨G,J⟩:=ck D;rw[bG c,Dw z];exact .col s C (by simpa using G)
  split at h
  ·cases o:aT v<;>cases u:(s==[])<;>simp[o,u]at h
  split at h
  ·cases o:aT v<;>cases u:(s==[])<;>simp[o,u]at h
  ·cases h
 | .mk F v s [a],h=>by
  simp only[bE]at h;split at h
  ·cases o:aR v<;>cases u:(s==[])<;>simp[o,u]at h
  split at h
  ·cases o:aT v<;>cases u:eh s<;>cases E:jy s<;>simp[o,u,E]at h
  split at h
  ·rename_i c;obtain⟨z,B⟩:=ck h;obtain⟨C,D⟩:=ck B;rw[bG C,Dw z];exact .one F a (S0 c) D
  split at h
  ·cases o:aT v<;>cases u:(s==[])<;>simp[o,u]at h
  ·cases h
 | .mk F v s [a,b],h=>by
  simp only[bE]at h;split at h
  ·cases o:aR v<;>cases u:(s==[])<;>simp[o,u]at h
  split at h
  ·cases o:aT v<;>cases u:eh s<;>cases E:jy s<;>simp[o,u,E]at h
  split at h
  ·cases o:aT v<;>cases u:(s==[])<;>simp[o,u]at h
  split at h
  ·rename_i c;obtain⟨z,B⟩:=ck h;obtain⟨C,D⟩:=ck B;obtain⟨H,I⟩:=ck D;rw[bG C,Dw z];exact .two F a b (Tu c) H I
  ·cases h
 | .mk F v s (a::b::c::r),h=>by
  have e0:((((a::b::c::r).length:Nat):Int)==0)=Q4:=bZ.2 sg;simp only[bE,e0]at h;split at h
  ·cases o:aR v<;>cases u:(s==[])<;>simp[o,u]at h
  split at h
  ·cases o:aT v<;>cases u:eh s<;>cases E:jy s<;>simp[o,u,E]at h
  split at h
  ·cases o:aT v<;>cases u:(s==[])<;>simp[o,u]at h
  split at h
  ·cases o:aT v<;>cases u:(s==[])<;>simp[o,u]at h
  ·cases h
theorem tg:∀(d:Nat)(e:zf),bE d e=Q3->nE d e+1<=2^d
 |0,_,h=>by cases h
 | d+1,e,h=>by
  have u:0<2^d:=Nat.two_pow_pos d;cases dr h with
  |lit v h=>simp[nE,tA];omega
  |col s h u=>simp[nE,tA];omega
  |one B a h o=>have:=tg d a o;simp[nE,tA];omega
  |two B a b h o z=>have:=tg d a o;have:=tg d b z;simp[nE,tA];omega
theorem zia{d:Nat}{e:zf}(h:bE d e=Q3):1<=nE d e:=by
 cases d with
 |zero=>cases h
 | succ d=>
  obtain⟨o,v,s,l⟩:=e;rw[nE];omega
theorem YA{n:Nat}(h:n<=1000000):Γ Δ (n:Int)=(n:Int):=by
 rw[gr];omega
theorem oR:∀(N d:Nat)(e:zf),d<=12->d<=N->bE d e=Q3->cD N e=Q1 ((nE d e:Int),())
 |_,0,_,_,_,h=>by cases h
 |0,d+1,_,_,h,_=>absurd h ow
 | N+1,d+1,e,T,I,h=>by
  have hp:2^(d+1)<=2^12:=F1 ow ow;have J:=tg (d+1) e h
  have o:∀(e:zf)(i:Nat)(n k:Nat)(E:i<(zf.l e).length),cD N (zf.l e)[i]=Q1 ((k:Int),())->n+k<=1000000->i<=1000->
    (EW (λz=>iL (cD N z)) (λz=>(cD N z).isSome) (.h3 (n:Int) (i:Int) (e,()))).val=Q1 (.inl (.h3 ((n+k:Nat):Int) ((i+1:Nat):Int) (e,()))):=by
   intro e i n k E L M U;have H:getD (zf.l e) (i:Int).toNat (zi Sh.expr)=(zf.l e)[i]:=zG _ _ E;simp only[EW,J3,EX,Q8,H,zk,L,zE E,zt E,F3,if_true];show Q1 (Sum.inl (uC.h3 (Γ Δ ((n:Int)+(k:Int))) _ _))=_;rw[zr i um,<-uG,YA M]
  have u:∀(e:zf)(n:Nat),(EW (λz=>iL (cD N z)) (λz=>(cD N z).isSome) (.h3 (n:Int) ((zf.l e).length:Int) (e,()))).val=Q1 (.inr (.int .i64 n,[])):=by
   intro e n;simp only[EW,J3,EX,Q8,zB];rfl
  have B:∀e,(P6 (λz=>iL (cD N z)) (λz=>(cD N z).isSome) e).val=Q1 (.inl (.h3 ((1:Nat):Int) ((0:Nat):Int) (e,()))):=λ_=>rfl
  rw[cD];unfold My;cases dr h with
  |lit v h=>exact zy (B _) (zV.of (u _ 1)) ow rfl
  |col s h I=>exact zy (B _) (zV.of (u _ 1)) ow rfl
  | one C a h D=>
   have F:=oR N d a ow ow D;have O:=tg d a D;have S:2^d<=2^12:=F1 ow ow;refine zy (B _) ((zL.of (o (.mk C (0,0,[]) [] [a]) 0 1 (nE d a) (by simp[zf.l]) F ow ow)).ends (zV.of (u (.mk C (0,0,[]) [] [a]) _))) ow ?_;simp[nE];rfl
  | two C a b h D G=>
   have F:=oR N d a ow ow D;have kb:=oR N d b ow ow G;have O:=tg d a D;have W:=tg d b G;have S:2^d<=2^12:=F1 ow ow;refine zy (B _) ((zL.of (o (.mk C (0,0,[]) [] [a,b]) 0 1 (nE d a) (by simp[zf.l]) F ow ow)).ends ((zL.of (o (.mk C (0,0,[]) [] [a,b]) 1 (1+nE d a) (nE d b) (by simp[zf.l]) kb ow ow)).ends (zV.of (u (.mk C (0,0,[]) [] [a,b]) _)))) ow ?_;simp[nE,Nat.add_assoc];rfl
theorem rC:∀(N k:Nat)(e:zf)(n:Nat),k<=12->k<=N->bE k e=Q3->n+nE k e<=60->io N e ((13:Int)-k) n=(Q3,((n+nE k e:Nat):Int))
 |_,0,_,_,_,_,h,_=>by cases h
 |0,k+1,_,_,_,h,_,_=>absurd h ow
 | N+1,k+1,e,n,S,E,h,F=>by
  rw[io];unfold A4;have w1:Γ Δ ((n:Int)+1)=((n+1:Nat):Int):=zr n um;have H:Γ Δ ((13:Int)-((k+1:Nat):Int)+1)=(13:Int)-(k:Int):=by rw[gr];omega
  have I:Q0 ((13:Int)-((k+1:Nat):Int)>12)=Q4:=aq ow;have G:=zia h;have J:Q0 (((n+1:Nat):Int)>60)=Q4:=aq ow;rw[w1,I,J];cases dr h with
  |lit v M=>simp[zf.op,zf.l,zf.s,zf.v,cY,AD,Ri,M,nE]
  |col s O E=>simp[zf.op,zf.l,zf.s,zf.v,cY,AD,Ri,O,E,nE,aT]
  | one D a z o=>
   have u:n+1+nE k a<=60:=by simp[nE]at F;omega
   have C:=rC N k a (n+1) ow ow o u;have B:((n+nE (k+1) (.mk D (0,0,[]) [] [a]):Nat):Int)=((n+1+nE k a:Nat):Int):=by simp[nE];omega
   rw[B]
   push_cast at*
   rcases z with rfl|rfl<;>simp[zf.op,zf.l,zf.s,zf.v,cY,AD,Ri,aT,pB,H,C]
  | two D a b z o L=>
   have u:n+1+nE k a+nE k b<=60:=by simp[nE]at F;omega
   have C:=rC N k a (n+1) ow ow o ow;have kb:=rC N k b (n+1+nE k a) ow ow L u;have B:((n+nE (k+1) (.mk D (0,0,[]) [] [a,b]):Nat):Int)=((n+1+nE k a+nE k b:Nat):Int):=by simp[nE];omega
   rw[B]
   push_cast at*
   rcases z with rfl|rfl|rfl|rfl|rfl|rfl<;>simp[zf.op,zf.l,zf.s,zf.v,cY,AD,Ri,aT,pB,H,C,kb]
theorem ni{α:Type}{p:α->Bool}{d:α}:∀(l:List α)(k i:Nat),i<Io l->p (l.getD i d)=Q3->(∀j,j<i->p (l.getD j d)=Q4)->zW p l k=((k+i:Nat):Int)
 |[],_,_,h,_,_=>by simp at h
 | x::r,k,0,_,hp,_=>by
  rw[zW,if_pos (by simpa using hp)];rfl
 | x::r,k,i+1,h,hp,hj=>by
  have o:=hj 0 ow;rw[zW,if_neg (by rw[show p x=Q4 by simpa using o];simp),ni r (k+1) i (by simpa using h) (by simpa using hp) (λj u=>by simpa using hj (j+1) ow)];congr 1;omega
theorem nj{α:Type}{p:α->Bool}{d:α}:∀(l:List α)(k:Nat),(∀j,j<Io l->p (l.getD j d)=Q4)->zW p l k=-1
 |[],_,_=>rfl
 | x::r,k,hj=>by
  have o:=hj 0 sw;rw[zW,if_neg (by rw[show p x=Q4 by simpa using o];simp)];exact nj (d:=d) r (k+1) (λj h=>by simpa using hj (j+1) (by simpa using h))
theorem Ej{o:List (Sem zj)}{s:zD}(F:Io o<=1000000):Ei o s=Q1 (ap o s,()):=by
 have D:=mK (t:=Pg) (Φ:=λr=>r=(.int .i64 (ap o s),[])) 1 (λi=>.h2 o s (i:Int)) (λi=>((getD o i (zi zj)).1==s)=Q4) (Io o) (by
  intro i u E;have C:(Pg (.h2 o s (i:Int))).val=if((getD o i (zi zj)).1==s)=Q3 then Q1 (.inr (.int .i64 i,[]))else Q1 (.inl (.h2 o s ((i+1:Nat):Int))):=by
   simp only[Pg,Ph,J8,Q8,zE u,zt u,aD,if_true];rw[zr i um]
  rcases zM ((getD o i (zi zj)).1==s)with h|h
  ·refine .inr ⟨by rw[h];simp,_,zV.of (by rw[C,if_pos h]),?_⟩;have:=ni (p:=λc:Sem zj=>c.1==s) (d:=zi zj) o 0 i u h E;rw[show ap o s=(i:Int) by unfold ap;rw[this];simp]
  ·exact .inl ⟨h,zL.of (by rw[C,if_neg (by rw[h];simp)])⟩)
 have u:(zaR o s).val=Q1 (.inl (.h2 o s ((0:Nat):Int))):=rfl;rcases D with⟨B,z⟩|⟨B,r,z,rfl⟩
 ·have:=nj (p:=λc:Sem zj=>c.1==s) (d:=zi zj) o 0 B;rw[show ap o s=(-1:Int)from this];refine zy u (z.ends (zV.of (r:=(.int .i64 (-1),[])) ?_)) ow rfl;simp only[Pg,Ph,J8,Q8,zB];rfl
 ·exact zy u z ow rfl
theorem jw{h:List (Sem zj)}{s:zD}(o:Io h<=1000000):dJ h s=Q3:=by unfold dJ;rw[Ej o];rfl
theorem kP{h:List (Sem zj)}{s:zD}(o:Io h<=1000000):eP h s=ap h s:=by unfold eP;rw[Ej o];rfl
theorem Uc(t u:Int):mC [t] u=!(cond (t !=u) (t !=0) Q4):=by
 unfold mC;simp only[zW];rcases zM (cond (t !=u) (t !=0) Q4)with h|h<;>simp[h]
theorem uH(t o u:Int):mC [t,o] u=!(cond (cond (t !=u) (t !=0) Q4) Q3 (cond (o !=u) (o !=0) Q4)):=by
 unfold mC;simp only[zW];rcases zM (cond (t !=u) (t !=0) Q4)with h|h<;>rcases zM (cond (o !=u) (o !=0) Q4)with z|z<;>simp[h,z]
theorem OR{g c}{cols:List (Sem zj)}{e:zf}(F:Io cols<=1000000):∃r k,zV (M9 g c) k (.h5 cols ((0:Nat):Int) (e,())) r/\k<=100000000/\aI r.2 [zg,zg] r.1=Q1 (if Q0 (LT.lt (α:=Int) (ap cols (zf.s e)) 0)=Q3 then((0:Int),(4:Int),())else((getD cols (toNat (ap cols (zf.s e))) (zi zj)).2.1,(0:Int),())):=by
 have D:=mK (t:=M9 g c) (Φ:=λr=>aI r.2 [zg,zg] r.1=Q1 (if Q0 (LT.lt (α:=Int) (ap cols (zf.s e)) 0)=Q3 then((0:Int),(4:Int),())else((getD cols (toNat (ap cols (zf.s e))) (zi zj)).2.1,(0:Int),()))) 1 (λi=>.h5 cols (i:Int) (e,())) (λi=>((getD cols i (zi zj)).1==zf.s e)=Q4) (Io cols) (by
  intro i u E;have B:(M9 g c (.h5 cols (i:Int) (e,()))).val=if((getD cols i (zi zj)).1==zf.s e)=Q3 then Q1 (.inr (.tup [.int .i64 (getD cols i (zi zj)).2.1,.int .i64 0],[]))else Q1 (.inl (.h5 cols ((i+1:Nat):Int) (e,()))):=by
   simp only[M9,Q8,zE u,zt u,aD,if_true];rw[zr i um]
  rcases zM ((getD cols i (zi zj)).1==zf.s e)with h|h
  ·refine .inr ⟨by rw[h];simp,_,zV.of (by rw[B,if_pos h]),?_⟩;have:=ni (p:=λc:Sem zj=>c.1==zf.s e) (d:=zi zj) cols 0 i u h E;rw[show ap cols (zf.s e)=(i:Int) by unfold ap;rw[this];simp,if_neg (by rw[aN];omega),aD];rfl
  ·exact .inl ⟨h,zL.of (by rw[B,if_neg (by rw[h];simp)])⟩)
 rcases D with⟨z,o⟩|⟨z,r,o,C⟩
 ·have:=nj (p:=λc:Sem zj=>c.1==zf.s e) (d:=zi zj) cols 0 z;refine⟨(.tup [.int .i64 0,.int .i64 4],[]),_,o.ends (zV.of ?_),ow,?_⟩
  ·simp only[M9,Q8,zB];rfl
  ·rw[show ap cols (zf.s e)=(-1:Int)from this];rfl
 ·exact⟨r,_,o,ow,C⟩
theorem rV{cols:List (Sem zj)}(X:Io cols<=1000000):∀(N d M:Nat)(e:zf),d<=N->d<=M->bE d e=Q3->cd N e cols=Q1 ((zS M e cols).1,(zS M e cols).2,())
 |_,0,_,_,_,_,h=>by cases h
 |0,d+1,_,_,h,_,_=>absurd h ow
 |_,d+1,0,_,_,h,_=>absurd h ow
 | N+1,d+1,M+1,e,h1,h2,h=>by
  rw[cd,zS];unfold QR yR;cases dr h with
  |lit v hv=>rfl
  | col s hw hr=>
   obtain⟨r,k,o,z,B⟩:=OR (g:=λH I=>fX (cd N H I)) (c:=λH I=>(cd N H I).isSome) (cols:=cols) (e:=.mk cW (0,0,[]) s []) X;refine zy JQ o z (B.trans ?_);have C:aJ (zS M) (bh M) cols cW (0:Int) (0:Int) [] s [] [] 0 []=if Q0 (LT.lt (α:=Int) (ap cols s) 0)=Q3 then((0:Int),(4:Int))else((getD cols (toNat (ap cols s)) (zi zj)).2.1,(0:Int)):=rfl
   show _=Q1 ((aJ (zS M) (bh M) cols cW (0:Int) (0:Int) [] s [] [] 0 []).1,(aJ (zS M) (bh M) cols cW (0:Int) (0:Int) [] s [] [] 0 []).2,());rw[C];show Q1 (if Q0 (LT.lt (α:=Int) (ap cols s) 0)=Q3 then((0:Int),(4:Int),())else((getD cols (toNat (ap cols s)) (zi zj)).2.1,(0:Int),()))=_;rcases zM (Q0 (LT.lt (α:=Int) (ap cols s) 0))with c|c
   ·rw[if_pos c,if_pos c]
   ·rw[if_neg (by rw[c];simp),if_neg (by rw[c];simp)]
  | one op a Z Y=>
   have T:=rV X N d M a ow ow Y;unfold an dd;generalize W:(λH I=>fX (cd N H I))=g;generalize U:(λH I=>(cd N H I).isSome)=c;have L:g a cols=zS M a cols:=by rw[<-W];show fX (cd N a cols)=_;rw[T];rfl
   have J:c a cols=Q3:=by rw[<-U];show(cd N a cols).isSome=_;rw[T];rfl
   rcases Z with rfl|rfl
   ·have C:aJ (zS M) (bh M) cols mU (0:Int) (0:Int) [] [] [a] [a] 0 []=if((zS M a cols).2!=0)=Q3 then((0:Int),(zS M a cols).2)else if(!mC [(zS M a cols).1] 3)=Q3 then((0:Int),(5:Int))else((3:Int),(0:Int)):=rfl
    show _=Q1 ((aJ (zS M) (bh M) cols mU (0:Int) (0:Int) [] [] [a] [a] 0 []).1,(aJ (zS M) (bh M) cols mU (0:Int) (0:Int) [] [] [a] [a] 0 []).2,());rw[C,Uc];have F:(Dv g c (.mk mU (0,0,[]) [] [a]) cols).val=if c (zl a) cols=Q3 then(ite (((g (zl a) cols).2!=0)=Q3) (Q1 (.inr (.tup [.int .i64 0,.int .i64 (g (zl a) cols).2],[]))) (ite ((cond ((g (zl a) cols).1!=0) (cond ((g (zl a) cols).1!=3) Q3 (cond ((g (zl a) cols).1!=0) ((g (zl a) cols).1!=3) Q4)) (cond ((g (zl a) cols).1!=0) ((g (zl a) cols).1!=3) Q4))=Q3) (Q1 (.inr (.tup [.int .i64 0,.int .i64 5],[]))) (Q1 (.inr (.tup [.int .i64 3,.int .i64 0],[])))))else Q2:=rfl
    rw[F,zk,J,L];generalize zS M a cols=t;rcases zM (t.2!=0)with o|o<;>rcases zM (t.1!=0)with z|z<;>rcases zM (t.1!=3)with B|B<;>(simp only[o,z,B,zY,al,if_true,if_false,zA,bA,cw];rfl)
   ·have C:aJ (zS M) (bh M) cols pf (0:Int) (0:Int) [] [] [a] [a] 0 []=if((zS M a cols).2!=0)=Q3 then((0:Int),(zS M a cols).2)else((3:Int),(0:Int)):=rfl
    show _=Q1 ((aJ (zS M) (bh M) cols pf (0:Int) (0:Int) [] [] [a] [a] 0 []).1,(aJ (zS M) (bh M) cols pf (0:Int) (0:Int) [] [] [a] [a] 0 []).2,());rw[C];have F:(Dv g c (.mk pf (0,0,[]) [] [a]) cols).val=if c (zl a) cols=Q3 then(ite (((g (zl a) cols).2!=0)=Q3) (Q1 (.inr (.tup [.int .i64 0,.int .i64 (g (zl a) cols).2],[]))) (Q1 (.inr (.tup [.int .i64 3,.int .i64 0],[]))))else Q2:=rfl
    rw[F,zk,J,L];generalize zS M a cols=t;rcases zM (t.2!=0)with o|o<;>(simp only[o,if_true,if_false,zA];rfl)
  | two op a b Z Y hb=>
   have T:=rV X N d M a ow ow Y;have kb:=rV X N d M b ow ow hb;unfold an dd;generalize W:(λH I=>fX (cd N H I))=g;generalize U:(λH I=>(cd N H I).isSome)=c;have L:g a cols=zS M a cols:=by rw[<-W];show fX (cd N a cols)=_;rw[T];rfl
   have J:c a cols=Q3:=by rw[<-U];show(cd N a cols).isSome=_;rw[T];rfl
   have S:g b cols=zS M b cols:=by rw[<-W];show fX (cd N b cols)=_;rw[kb];rfl
   have O:c b cols=Q3:=by rw[<-U];show(cd N b cols).isSome=_;rw[kb];rfl
   rcases Z with rfl|rfl|rfl|rfl|rfl|rfl
   ·have C:aJ (zS M) (bh M) cols ej (0:Int) (0:Int) [] [] [a,b] [a,b] 0 []=if((zS M a cols).2!=0)=Q3 then((0:Int),(zS M a cols).2)else if((zS M b cols).2!=0)=Q3 then((0:Int),(zS M b cols).2)else if(!mC [(zS M a cols).1,(zS M b cols).1] 3)=Q3 then((0:Int),(5:Int))else((3:Int),(0:Int)):=rfl
    show _=Q1 ((aJ (zS M) (bh M) cols ej (0:Int) (0:Int) [] [] [a,b] [a,b] 0 []).1,(aJ (zS M) (bh M) cols ej (0:Int) (0:Int) [] [] [a,b] [a,b] 0 []).2,());rw[C,uH];have F:(Dv g c (.mk ej (0,0,[]) [] [a,b]) cols).val=if c (zl a) cols=Q3 then(ite (((g (zl a) cols).2!=0)=Q3) (Q1 (.inr (.tup [.int .i64 0,.int .i64 (g (zl a) cols).2],[]))) (ite (c (zl b) cols=Q3) (ite (((g (zl b) cols).2!=0)=Q3) (Q1 (.inr (.tup [.int .i64 0,.int .i64 (g (zl b) cols).2],[]))) (ite ((cond ((g (zl a) cols).1!=0) (cond ((g (zl a) cols).1!=3) Q3 (cond ((g (zl b) cols).1!=0) ((g (zl b) cols).1!=3) Q4)) (cond ((g (zl b) cols).1!=0) ((g (zl b) cols).1!=3) Q4))=Q3) (Q1 (.inr (.tup [.int .i64 0,.int .i64 5],[]))) (Q1 (.inr (.tup [.int .i64 3,.int .i64 0],[]))))) Q2))else Q2:=rfl
    rw[F,zk,zk,J,O,L,S];generalize zS M a cols=t;generalize zS M b cols=u;rcases zM (t.2!=0)with o|o<;>rcases zM (u.2!=0)with z|z<;>rcases zM (t.1!=0)with B|B<;>rcases zM (u.1!=0)with D|D<;>rcases zM (t.1!=3)with E|E<;>rcases zM (u.1!=3)with G|G<;>(simp only[o,z,B,D,E,G,zY,al,if_true,if_false,zA,bA,cw];rfl)
   ·have C:aJ (zS M) (bh M) cols uM (0:Int) (0:Int) [] [] [a,b] [a,b] 0 []=if((zS M a cols).2!=0)=Q3 then((0:Int),(zS M a cols).2)else if((zS M b cols).2!=0)=Q3 then((0:Int),(zS M b cols).2)else if(!mC [(zS M a cols).1,(zS M b cols).1] 3)=Q3 then((0:Int),(5:Int))else((3:Int),(0:Int)):=rfl
    show _=Q1 ((aJ (zS M) (bh M) cols uM (0:Int) (0:Int) [] [] [a,b] [a,b] 0 []).1,(aJ (zS M) (bh M) cols uM (0:Int) (0:Int) [] [] [a,b] [a,b] 0 []).2,());rw[C,uH];have F:(Dv g c (.mk uM (0,0,[]) [] [a,b]) cols).val=if c (zl a) cols=Q3 then(ite (((g (zl a) cols).2!=0)=Q3) (Q1 (.inr (.tup [.int .i64 0,.int .i64 (g (zl a) cols).2],[]))) (ite (c (zl b) cols=Q3) (ite (((g (zl b) cols).2!=0)=Q3) (Q1 (.inr (.tup [.int .i64 0,.int .i64 (g (zl b) cols).2],[]))) (ite ((cond ((g (zl a) cols).1!=0) (cond ((g (zl a) cols).1!=3) Q3 (cond ((g (zl b) cols).1!=0) ((g (zl b) cols).1!=3) Q4)) (cond ((g (zl b) cols).1!=0) ((g (zl b) cols).1!=3) Q4))=Q3) (Q1 (.inr (.tup [.int .i64 0,.int .i64 5],[]))) (Q1 (.inr (.tup [.int .i64 3,.int .i64 0],[]))))) Q2))else Q2:=rfl
    rw[F,zk,zk,J,O,L,S];generalize zS M a cols=t;generalize zS M b cols=u;rcases zM (t.2!=0)with o|o<;>rcases zM (u.2!=0)with z|z<;>rcases zM (t.1!=0)with B|B<;>rcases zM (u.1!=0)with D|D<;>rcases zM (t.1!=3)with E|E<;>rcases zM (u.1!=3)with G|G<;>(simp only[o,z,B,D,E,G,zY,al,if_true,if_false,zA,bA,cw];rfl)
   ·have C:aJ (zS M) (bh M) cols [61] (0:Int) (0:Int) [] [] [a,b] [a,b] 0 []=if((zS M a cols).2!=0)=Q3 then((0:Int),(zS M a cols).2)else if((zS M b cols).2!=0)=Q3 then((0:Int),(zS M b cols).2)else if(!bif (zS M a cols).1==(zS M b cols).1 then Q3 else bif (zS M a cols).1==0 then Q3 else(zS M b cols).1==0)=Q3 then((0:Int),(5:Int))else((3:Int),(0:Int)):=rfl
    show _=Q1 ((aJ (zS M) (bh M) cols [61] (0:Int) (0:Int) [] [] [a,b] [a,b] 0 []).1,(aJ (zS M) (bh M) cols [61] (0:Int) (0:Int) [] [] [a,b] [a,b] 0 []).2,());rw[C];have F:(Dv g c (.mk [61] (0,0,[]) [] [a,b]) cols).val=if c (zl a) cols=Q3 then(ite (((g (zl a) cols).2!=0)=Q3) (Q1 (.inr (.tup [.int .i64 0,.int .i64 (g (zl a) cols).2],[]))) (ite (c (zl b) cols=Q3) (ite (((g (zl b) cols).2!=0)=Q3) (Q1 (.inr (.tup [.int .i64 0,.int .i64 (g (zl b) cols).2],[]))) (ite ((cond ((g (zl a) cols).1!=0) (cond ((g (zl b) cols).1!=0) ((g (zl a) cols).1!=(g (zl b) cols).1) Q4) Q4)=Q3) (Q1 (.inr (.tup [.int .i64 0,.int .i64 5],[]))) (Q1 (.inr (.tup [.int .i64 3,.int .i64 0],[]))))) Q2))else Q2:=rfl
    rw[F,zk,zk,J,O,L,S];generalize zS M a cols=t;generalize zS M b cols=u;simp only[bne];rcases zM (t.2==0)with o|o<;>rcases zM (u.2==0)with z|z<;>rcases zM (t.1==0)with B|B<;>rcases zM (u.1==0)with D|D<;>rcases zM (t.1==u.1)with E|E<;>(simp only[o,z,B,D,E,zY,al,if_true,if_false,zA,bA,cw];rfl)
   ·have C:aJ (zS M) (bh M) cols [60] (0:Int) (0:Int) [] [] [a,b] [a,b] 0 []=if((zS M a cols).2!=0)=Q3 then((0:Int),(zS M a cols).2)else if((zS M b cols).2!=0)=Q3 then((0:Int),(zS M b cols).2)else if(!bif (zS M a cols).1==(zS M b cols).1 then Q3 else bif (zS M a cols).1==0 then Q3 else(zS M b cols).1==0)=Q3 then((0:Int),(5:Int))else((3:Int),(0:Int)):=rfl
    show _=Q1 ((aJ (zS M) (bh M) cols [60] (0:Int) (0:Int) [] [] [a,b] [a,b] 0 []).1,(aJ (zS M) (bh M) cols [60] (0:Int) (0:Int) [] [] [a,b] [a,b] 0 []).2,());rw[C];have F:(Dv g c (.mk [60] (0,0,[]) [] [a,b]) cols).val=if c (zl a) cols=Q3 then(ite (((g (zl a) cols).2!=0)=Q3) (Q1 (.inr (.tup [.int .i64 0,.int .i64 (g (zl a) cols).2],[]))) (ite (c (zl b) cols=Q3) (ite (((g (zl b) cols).2!=0)=Q3) (Q1 (.inr (.tup [.int .i64 0,.int .i64 (g (zl b) cols).2],[]))) (ite ((cond ((g (zl a) cols).1!=0) (cond ((g (zl b) cols).1!=0) ((g (zl a) cols).1!=(g (zl b) cols).1) Q4) Q4)=Q3) (Q1 (.inr (.tup [.int .i64 0,.int .i64 5],[]))) (Q1 (.inr (.tup [.int .i64 3,.int .i64 0],[]))))) Q2))else Q2:=rfl
    rw[F,zk,zk,J,O,L,S];generalize zS M a cols=t;generalize zS M b cols=u;simp only[bne];rcases zM (t.2==0)with o|o<;>rcases zM (u.2==0)with z|z<;>rcases zM (t.1==0)with B|B<;>rcases zM (u.1==0)with D|D<;>rcases zM (t.1==u.1)with E|E<;>(simp only[o,z,B,D,E,zY,al,if_true,if_false,zA,bA,cw];rfl)
   ·have C:aJ (zS M) (bh M) cols [43] (0:Int) (0:Int) [] [] [a,b] [a,b] 0 []=if((zS M a cols).2!=0)=Q3 then((0:Int),(zS M a cols).2)else if((zS M b cols).2!=0)=Q3 then((0:Int),(zS M b cols).2)else if(!mC [(zS M a cols).1,(zS M b cols).1] 1)=Q3 then((0:Int),(5:Int))else((1:Int),(0:Int)):=rfl
    show _=Q1 ((aJ (zS M) (bh M) cols [43] (0:Int) (0:Int) [] [] [a,b] [a,b] 0 []).1,(aJ (zS M) (bh M) cols [43] (0:Int) (0:Int) [] [] [a,b] [a,b] 0 []).2,());rw[C,uH];have F:(Dv g c (.mk [43] (0,0,[]) [] [a,b]) cols).val=if c (zl a) cols=Q3 then(ite (((g (zl a) cols).2!=0)=Q3) (Q1 (.inr (.tup [.int .i64 0,.int .i64 (g (zl a) cols).2],[]))) (ite (c (zl b) cols=Q3) (ite (((g (zl b) cols).2!=0)=Q3) (Q1 (.inr (.tup [.int .i64 0,.int .i64 (g (zl b) cols).2],[]))) (ite ((cond ((g (zl a) cols).1!=0) (cond ((g (zl a) cols).1!=1) Q3 (cond ((g (zl b) cols).1!=0) ((g (zl b) cols).1!=1) Q4)) (cond ((g (zl b) cols).1!=0) ((g (zl b) cols).1!=1) Q4))=Q3) (Q1 (.inr (.tup [.int .i64 0,.int .i64 5],[]))) (Q1 (.inr (.tup [.int .i64 1,.int .i64 0],[]))))) Q2))else Q2:=rfl
    rw[F,zk,zk,J,O,L,S];generalize zS M a cols=t;generalize zS M b cols=u;rcases zM (t.2!=0)with o|o<;>rcases zM (u.2!=0)with z|z<;>rcases zM (t.1!=0)with B|B<;>rcases zM (u.1!=0)with D|D<;>rcases zM (t.1!=1)with E|E<;>rcases zM (u.1!=1)with G|G<;>(simp only[o,z,B,D,E,G,zY,al,if_true,if_false,zA,bA,cw];rfl)
   ·have C:aJ (zS M) (bh M) cols [45] (0:Int) (0:Int) [] [] [a,b] [a,b] 0 []=if((zS M a cols).2!=0)=Q3 then((0:Int),(zS M a cols).2)else if((zS M b cols).2!=0)=Q3 then((0:Int),(zS M b cols).2)else if(!mC [(zS M a cols).1,(zS M b cols).1] 1)=Q3 then((0:Int),(5:Int))else((1:Int),(0:Int)):=rfl
    show _=Q1 ((aJ (zS M) (bh M) cols [45] (0:Int) (0:Int) [] [] [a,b] [a,b] 0 []).1,(aJ (zS M) (bh M) cols [45] (0:Int) (0:Int) [] [] [a,b] [a,b] 0 []).2,());rw[C,uH];have F:(Dv g c (.mk [45] (0,0,[]) [] [a,b]) cols).val=if c (zl a) cols=Q3 then(ite (((g (zl a) cols).2!=0)=Q3) (Q1 (.inr (.tup [.int .i64 0,.int .i64 (g (zl a) cols).2],[]))) (ite (c (zl b) cols=Q3) (ite (((g (zl b) cols).2!=0)=Q3) (Q1 (.inr (.tup [.int .i64 0,.int .i64 (g (zl b) cols).2],[]))) (ite ((cond ((g (zl a) cols).1!=0) (cond ((g (zl a) cols).1!=1) Q3 (cond ((g (zl b) cols).1!=0) ((g (zl b) cols).1!=1) Q4)) (cond ((g (zl b) cols).1!=0) ((g (zl b) cols).1!=1) Q4))=Q3) (Q1 (.inr (.tup [.int .i64 0,.int .i64 5],[]))) (Q1 (.inr (.tup [.int .i64 1,.int .i64 0],[]))))) Q2))else Q2:=rfl
    rw[F,zk,zk,J,O,L,S];generalize zS M a cols=t;generalize zS M b cols=u;rcases zM (t.2!=0)with o|o<;>rcases zM (u.2!=0)with z|z<;>rcases zM (t.1!=0)with B|B<;>rcases zM (u.1!=0)with D|D<;>rcases zM (t.1!=1)with E|E<;>rcases zM (u.1!=1)with G|G<;>(simp only[o,z,B,D,E,G,zY,al,if_true,if_false,zA,bA,cw];rfl)
theorem iq:jL (0,0,[]):=⟨by decide,by decide,sw⟩
theorem mP(b:Bool):jL (yQ b):=by cases b<;>exact⟨by decide,by decide,by simp[yQ]⟩
theorem T8:jL (3,0,[]):=mP Q4
theorem T9:jL (3,1,[]):=mP Q3
theorem ZN(a b:Sem ze):jL (A8 a b):=by
 unfold A8;rw[lP,iT,lQ];split;exact T8;split;exact T9;exact iq
theorem zgB(a b:Sem ze):jL (YH a b):=by
 unfold YH;rw[lP,iT,lQ];split;exact T9;split;exact T8;exact iq
theorem ZP(a:Sem ze):jL (A9 a):=by
 unfold A9;rw[lP,iT,lQ];split;exact T8;split;exact T9;exact iq
theorem zgA(a b:Sem ze):jL (km a b):=by
 unfold km;split;exact iq;rw[jC];exact mP _
theorem Ua(a b:Sem ze):jL (tr a b):=by
 unfold tr;split;exact iq;rw[jC];exact mP _
theorem Nw(a:Sem ze):jL (jJ a):=by
 unfold jJ;rw[jC];exact mP _
theorem KD(n:Int):jL (1,Γ Δ n,[]):=by
 refine⟨?_,?_,sw⟩
 ·show(-9223372036854775808:Int)<=Γ Δ n;rw[gr];omega
 ·show Γ Δ n<=(9223372036854775807:Int);rw[gr];omega
theorem Cf(a b:Sem ze):jL (qR a b):=by
 unfold qR;split;exact iq;split;exact iq;exact KD _
theorem RQ(a b:Sem ze):jL (mJ a b):=by
 unfold mJ;split;exact iq;split;exact iq;exact KD _
def lR(h:List (Sem zj))(o:List (Sem ze))(s:zD):Sem ze:=if(cond (Q0 (ap h s<0)) Q3 (Q0 (ap h s>=(↑o.length:Int))))=Q3 then(0,0,[])else o.getD (toNat (ap h s)) (zi ze)
theorem OP{g c}{cols:List (Sem zj)}{row:List (Sem ze)}{e:zf}(G:Io cols<=1000000):∃r k,zV (AM g c) k (.h6 cols row ((0:Nat):Int) (e,()) ((0,0,[]),())) r/\k<=100000000/\aI r.2 [ze] r.1=Q1 (lR cols row (zf.s e),()):=by
 have E:=mK (t:=AM g c) (Φ:=λr=>aI r.2 [ze] r.1=Q1 (lR cols row (zf.s e),())) 1 (λi=>.h6 cols row (i:Int) (e,()) ((0,0,[]),())) (λi=>((getD cols i (zi zj)).1==zf.s e)=Q4) (Io cols) (by
  intro i u F;have z:(AM g c (.h6 cols row (i:Int) (e,()) ((0,0,[]),()))).val=if((getD cols i (zi zj)).1==zf.s e)=Q3 then(ite (Q0 ((i:Int)<(Io row:Int))=Q3) (ite (zJ (i:Int) (Io row)=Q3) (Q1 (.inr (.agg [.int .i64 (getD row i (zi ze)).1,.int .i64 (getD row i (zi ze)).2.1,.str (getD row i (zi ze)).2.2],[]))) Q2) (Q1 (.inr (.agg [.int .i64 0,.int .i64 0,.str []],[]))))else Q1 (.inl (.h6 cols row ((i+1:Nat):Int) (e,()) ((0,0,[]),()))):=by
   simp only[AM,Q8,zE u,zt u,aD,if_true];rw[zr i um]
  rcases zM ((getD cols i (zi zj)).1==zf.s e)with h|h
  ·have hp:=ni (p:=λc:Sem zj=>c.1==zf.s e) (d:=zi zj) cols 0 i u h F;have hp:ap cols (zf.s e)=(i:Int):=by unfold ap;rw[hp];simp
   by_cases C:i<Io row
   ·refine .inr ⟨by rw[h];simp,_,zV.of (by rw[z,if_pos h,if_pos (zE C),if_pos (zt C)]),?_⟩;unfold lR;rw[hp,if_neg (by rw[aq (by omega:¬(i:Int)<0),aq (by omega:¬(i:Int)>=(Io row:Int))];simp),aD];rfl
   ·refine .inr ⟨by rw[h];simp,_,zV.of (by rw[z,if_pos h,if_neg (by rw[aN];omega)]),?_⟩;unfold lR;rw[hp,if_pos (by rw[aq (by omega:¬(i:Int)<0),zx (by omega:(i:Int)>=(Io row:Int))];rfl)];rfl
  ·exact .inl ⟨h,zL.of (by rw[z,if_neg (by rw[h];simp)])⟩)
 rcases E with⟨B,o⟩|⟨B,r,o,D⟩
 ·have hp:=nj (p:=λc:Sem zj=>c.1==zf.s e) (d:=zi zj) cols 0 B;refine⟨(.agg [.int .i64 0,.int .i64 0,.str []],[]),_,o.ends (zV.of ?_),ow,?_⟩
  ·simp only[AM,Q8,zB];rfl
  ·unfold lR;rw[show ap cols (zf.s e)=(-1:Int)from hp];rfl
 ·exact⟨r,_,o,ow,D⟩
theorem ZO{o:List (Sem zj)}{u:List (Sem ze)}{s:zD}(z:∀v∈u,jL v):jL (lR o u s):=by
 unfold lR;split
 ·exact iq
 ·by_cases h:toNat (ap o s)<Io u
  ·exact z _ (bN h)
  ·rw[aU,eB ow];exact iq
theorem rR{o:List (Sem zj)}{u:List (Sem ze)}(W:Io o<=1000000)(X:∀v∈u,jL v):∀(N d M:Nat)(e:zf),d<=N->d<=M->bE d e=Q3->sD e->cv N e o u=Q1 (cR M o u e,())/\jL (cR M o u e)
 |_,0,_,_,_,_,h,_=>by cases h
 |0,d+1,_,_,h,_,_,_=>absurd h ow
 |_,d+1,0,_,_,h,_,_=>absurd h ow
 | N+1,d+1,M+1,e,h1,h2,h,J=>by
  rw[cv,cR];unfold QP;cases dr h with
  | lit v hv=>
   rw[sD]at J;exact⟨rfl,J.1⟩
  | col s h3 h0=>
   obtain⟨r,k,k1,k2,k3⟩:=OP (g:=λD E F=>gN (cv N D E F)) (c:=λD E F=>(cv N D E F).isSome) (cols:=o) (row:=u) (e:=.mk cW (0,0,[]) s []) W;exact⟨zy JQ k1 k2 k3,ZO X⟩
  | one op a Z Y=>
   rw[sD,kr]at J;obtain⟨S,C⟩:=rR W X N d M a ow ow Y J.2.2.1;unfold an dd;generalize U:(λD E F=>gN (cv N D E F))=g;generalize T:(λD E F=>(cv N D E F).isSome)=c;have H:g a o u=cR M o u a:=by rw[<-U];show gN (cv N a o u)=_;rw[S];rfl
   have G:c a o u=Q3:=by rw[<-T];show(cv N a o u).isSome=_;rw[S];rfl
   rcases Z with rfl|rfl
   ·have z:sM (cR M) o u (.mk mU (0,0,[]) [] [a])=A9 (cR M o u a):=rfl;have B:(qi g c (.mk mU (0,0,[]) [] [a]) o u).val=if c (zl a) o u=Q3 then(ite (Jd (g (zl a) o u)=Q3) (Q1 (.inr (.agg [.int .i64 (Hu (g (zl a) o u)).1,.int .i64 (Hu (g (zl a) o u)).2.1,.str (Hu (g (zl a) o u)).2.2],[]))) Q2)else Q2:=rfl
    rw[z,B,zk,G,H];generalize cR M o u a=x at*;rw[XM,zbp];exact⟨rfl,ZP _⟩
   ·have z:sM (cR M) o u (.mk pf (0,0,[]) [] [a])=jJ (cR M o u a):=rfl;have B:(qi g c (.mk pf (0,0,[]) [] [a]) o u).val=if c (zl a) o u=Q3 then(ite (mF (g (zl a) o u)=Q3) (ite ((!tk (g (zl a) o u))=Q3) (Q1 (.inr (.agg [.int .i64 (bb Q3).1,.int .i64 (bb Q3).2.1,.str (bb Q3).2.2],[]))) (ite (lF ((g (zl a) o u).1==0)=Q3) (Q1 (.inr (.agg [.int .i64 (bb ((g (zl a) o u).1==0)).1,.int .i64 (bb ((g (zl a) o u).1==0)).2.1,.str (bb ((g (zl a) o u).1==0)).2.2],[]))) Q2)) Q2)else Q2:=rfl
    rw[z,B,zk,G,H];generalize cR M o u a=x at*;refine⟨?_,Nw _⟩;rw[lC C.2.2,oH C.2.2,oK,ig,ig];unfold jJ ao;rw[jC];cases aR x
    ·rfl
    ·rfl
  | two op a b Z Y hb=>
   rw[sD,kr,kr]at J;obtain⟨S,C⟩:=rR W X N d M a ow ow Y J.2.2.1;obtain⟨kb,I⟩:=rR W X N d M b ow ow hb J.2.2.2.1;unfold an dd;generalize U:(λD E F=>gN (cv N D E F))=g;generalize T:(λD E F=>(cv N D E F).isSome)=c;have H:g a o u=cR M o u a:=by rw[<-U];show gN (cv N a o u)=_;rw[S];rfl
   have G:c a o u=Q3:=by rw[<-T];show(cv N a o u).isSome=_;rw[S];rfl
   have O:g b o u=cR M o u b:=by rw[<-U];show gN (cv N b o u)=_;rw[kb];rfl
   have L:c b o u=Q3:=by rw[<-T];show(cv N b o u).isSome=_;rw[kb];rfl
   rcases Z with rfl|rfl|rfl|rfl|rfl|rfl
   ·have z:sM (cR M) o u (.mk ej (0,0,[]) [] [a,b])=A8 (cR M o u a) (cR M o u b):=rfl;have B:(qi g c (.mk ej (0,0,[]) [] [a,b]) o u).val=if c (zl a) o u=Q3 then(ite (c (zl b) o u=Q3) (ite (Jb (g (zl a) o u) (g (zl b) o u)=Q3) (Q1 (.inr (.agg [.int .i64 (Hs (g (zl a) o u) (g (zl b) o u)).1,.int .i64 (Hs (g (zl a) o u) (g (zl b) o u)).2.1,.str (Hs (g (zl a) o u) (g (zl b) o u)).2.2],[]))) Q2) Q2)else Q2:=rfl
    rw[z,B,zk,zk,G,L,H,O];generalize cR M o u a=x at*;generalize cR M o u b=y at*;rw[XK,zbo];exact⟨rfl,ZN _ _⟩
   ·have z:sM (cR M) o u (.mk uM (0,0,[]) [] [a,b])=YH (cR M o u a) (cR M o u b):=rfl;have B:(qi g c (.mk uM (0,0,[]) [] [a,b]) o u).val=if c (zl a) o u=Q3 then(ite (c (zl b) o u=Q3) (ite (QN (g (zl a) o u) (g (zl b) o u)=Q3) (Q1 (.inr (.agg [.int .i64 (Tb (g (zl a) o u) (g (zl b) o u)).1,.int .i64 (Tb (g (zl a) o u) (g (zl b) o u)).2.1,.str (Tb (g (zl a) o u) (g (zl b) o u)).2.2],[]))) Q2) Q2)else Q2:=rfl
    rw[z,B,zk,zk,G,L,H,O];generalize cR M o u a=x at*;generalize cR M o u b=y at*;rw[zbq,ziE];exact⟨rfl,zgB _ _⟩
   ·have z:sM (cR M) o u (.mk [61] (0,0,[]) [] [a,b])=km (cR M o u a) (cR M o u b):=rfl;have B:(qi g c (.mk [61] (0,0,[]) [] [a,b]) o u).val=if c (zl a) o u=Q3 then(ite (c (zl b) o u=Q3) (ite (vT (g (zl a) o u) (g (zl b) o u)=Q3) (Q1 (.inr (.agg [.int .i64 (rI (g (zl a) o u) (g (zl b) o u)).1,.int .i64 (rI (g (zl a) o u) (g (zl b) o u)).2.1,.str (rI (g (zl a) o u) (g (zl b) o u)).2.2],[]))) Q2) Q2)else Q2:=rfl
    rw[z,B,zk,zk,G,L,H,O];generalize cR M o u a=x at*;generalize cR M o u b=y at*;rw[OM C.2.2 I.2.2,S8 C.2.2 I.2.2];exact⟨rfl,zgA _ _⟩
   ·have z:sM (cR M) o u (.mk [60] (0,0,[]) [] [a,b])=tr (cR M o u a) (cR M o u b):=rfl;have B:(qi g c (.mk [60] (0,0,[]) [] [a,b]) o u).val=if c (zl a) o u=Q3 then(ite (c (zl b) o u=Q3) (ite (BA (g (zl a) o u) (g (zl b) o u)=Q3) (Q1 (.inr (.agg [.int .i64 (yv (g (zl a) o u) (g (zl b) o u)).1,.int .i64 (yv (g (zl a) o u) (g (zl b) o u)).2.1,.str (yv (g (zl a) o u) (g (zl b) o u)).2.2],[]))) Q2) Q2)else Q2:=rfl
    rw[z,B,zk,zk,G,L,H,O];generalize cR M o u a=x at*;generalize cR M o u b=y at*;rw[S9 C.2.2 I.2.2,XL C.2.2 I.2.2];exact⟨rfl,Ua _ _⟩
   ·have z:sM (cR M) o u (.mk [43] (0,0,[]) [] [a,b])=qR (cR M o u a) (cR M o u b):=rfl;have B:(qi g c (.mk [43] (0,0,[]) [] [a,b]) o u).val=if c (zl a) o u=Q3 then(ite (c (zl b) o u=Q3) (ite (vY (g (zl a) o u) (g (zl b) o u)=Q3) (Q1 (.inr (.agg [.int .i64 (yx (g (zl a) o u) (g (zl b) o u)).1,.int .i64 (yx (g (zl a) o u) (g (zl b) o u)).2.1,.str (yx (g (zl a) o u) (g (zl b) o u)).2.2],[]))) Q2) Q2)else Q2:=rfl
    rw[z,B,zk,zk,G,L,H,O];generalize cR M o u a=x at*;generalize cR M o u b=y at*;rw[Hv C I,XN C I];exact⟨rfl,Cf _ _⟩
   ·have z:sM (cR M) o u (.mk [45] (0,0,[]) [] [a,b])=mJ (cR M o u a) (cR M o u b):=rfl;have B:(qi g c (.mk [45] (0,0,[]) [] [a,b]) o u).val=if c (zl a) o u=Q3 then(ite (c (zl b) o u=Q3) (ite (vW (g (zl a) o u) (g (zl b) o u)=Q3) (Q1 (.inr (.agg [.int .i64 (rJ (g (zl a) o u) (g (zl b) o u)).1,.int .i64 (rJ (g (zl a) o u) (g (zl b) o u)).2.1,.str (rJ (g (zl a) o u) (g (zl b) o u)).2.2],[]))) Q2) Q2)else Q2:=rfl
    rw[z,B,zk,zk,G,L,H,O];generalize cR M o u a=x at*;generalize cR M o u b=y at*;rw[ON C I,Ta C I];exact⟨rfl,RQ _ _⟩
theorem rB:∀(N k:Nat)(e:zf)(n:Nat),k<=12->n<=60->(io N e ((13:Int)-k) n).1=Q3->bE k e=Q3/\(io N e ((13:Int)-k) n).2=((n+nE k e:Nat):Int)/\n+nE k e<=60
 |0,_,_,_,_,_,h=>by cases h
 | N+1,0,e,n,_,_,h=>by
  rw[io]at h;unfold A4 at h;rw[if_pos JQ]at h;cases h
 | N + 1,k+1,.mk o v s l,n,X,Y,h=>by
  have w1:Γ Δ ((n:Int)+1)=((n+1:Nat):Int):=zr n um;have I:Γ Δ ((13:Int)-((k+1:Nat):Int)+1)=(13:Int)-(k:Int):=by rw[gr];omega
  have O:Q0 ((13:Int)-((k+1:Nat):Int)>12)=Q4:=aq ow;rw[io]at h⊢
  have e0:∀m:Int,A4 (io N) (.mk o v s l) m n=if(cond (Q0 (m>12)) Q3 (cond (Q0 (((n+1:Nat):Int)>60)) Q3 ((↑l.length:Int)!=cY o)))=Q3 then(Q4,((n+1:Nat):Int))else
    if(o==kF)=Q3 then(cond (s==[]) (aR v) Q4,((n+1:Nat):Int))else
    if(o==cW)=Q3 then(cond (aT v) (cond (eh s) (!jy s) Q4) Q4,((n+1:Nat):Int))else
    if(cond (!aT v) Q3 (!s==[]))=Q3 then(Q4,((n+1:Nat):Int))else pB (io N) m l ((n+1:Nat):Int):=by
   intro m;unfold A4;rw[w1];rfl
  rw[e0,O]at h⊢;rcases zM (Q0 (((n+1:Nat):Int)>60))with D|D
  ·rw[D,if_pos JQ]at h;cases h
  rcases zM ((↑l.length:Int)!=cY o)with E|E
  ·rw[D,E,if_pos JQ]at h;cases h
  have J:n+1<=60:=by simp at D;omega
  have hp:(Io l:Int)=cY o:=by simpa using E
  rw[D,E,if_neg sw]at h⊢;rcases ml o with⟨p,z⟩|⟨p,z⟩|⟨p,z⟩|p
  ·have S:l=[]:=AW ow;subst S;rcases z with rfl|rfl
   ·rw[if_pos JQ]at h⊢;obtain⟨a,b⟩:=ck h;refine⟨?_,by simp[nE],by simp[nE];omega⟩;simp[bE,b,bG a]
   ·rw[if_neg (by decide),if_pos JQ]at h⊢;obtain⟨a,b⟩:=ck h;obtain⟨b,c⟩:=ck b;refine⟨?_,by simp[nE],by simp[nE];omega⟩;have M:jy s=Q4:=by simpa using c
    simp[bE,a,b,M]
  ·obtain⟨a,rfl⟩:∃a,l=[a]:=List.length_eq_one_iff.1 ow;have o1:(o==kF)=Q4:=by rcases z with rfl|rfl<;>rfl
   have o2:(o==cW)=Q4:=by rcases z with rfl|rfl<;>rfl
   have o3:(cond (o==mU) Q3 (o==pf))=Q3:=by rcases z with rfl|rfl<;>rfl
   rw[if_neg (by rw[o1];simp),if_neg (by rw[o2];simp)]at h⊢;rcases zM (aT v)with u|u
   ·rcases zM (s==[])with B|B
    ·rw[u,B,if_neg sw]at h⊢;rw[pB,I]at h⊢;rcases zM (io N a ((13:Int)-(k:Int)) ((n+1:Nat):Int)).1 with C|C
     ·obtain⟨G,H,L⟩:=rB N k a (n+1) ow J C;rw[C,if_neg sw];refine⟨by simp[bE,o1,o2,o3,u,B,G],?_,by simp[nE];omega⟩;rw[pB];show(io N a ((13:Int)-(k:Int)) ((n+1:Nat):Int)).2=_;rw[H];simp[nE];omega
     ·rw[C,if_pos JQ]at h;cases h
    ·rw[u,B,if_pos JQ]at h;cases h
   ·rw[u,if_pos JQ]at h;cases h
  ·obtain⟨a,b,rfl⟩:∃a b,l=[a,b]:=by
    match l,hp with
    |[a,b],_=>exact⟨a,b,rfl⟩
    |[],hp=>exact absurd hp (by rw[p];simp)
    |[_],hp=>exact absurd hp (by rw[p];simp)
    |_::_::_::_,hp=>exact absurd hp (by rw[p];simp;omega)
   have o1:(o==kF)=Q4:=by rcases z with rfl|rfl|rfl|rfl|rfl|rfl<;>rfl
   have o2:(o==cW)=Q4:=by rcases z with rfl|rfl|rfl|rfl|rfl|rfl<;>rfl
   have o3:(cond (o==mU) Q3 (o==pf))=Q4:=by rcases z with rfl|rfl|rfl|rfl|rfl|rfl<;>rfl
   have W:FI o=Q3:=by rcases z with rfl|rfl|rfl|rfl|rfl|rfl<;>rfl
   rw[if_neg (by rw[o1];simp),if_neg (by rw[o2];simp)]at h⊢;rcases zM (aT v)with u|u
   ·rcases zM (s==[])with B|B
    ·rw[u,B,if_neg sw]at h⊢;rw[pB,I]at h⊢;rcases zM (io N a ((13:Int)-(k:Int)) ((n+1:Nat):Int)).1 with C|C
     ·obtain⟨G,H,L⟩:=rB N k a (n+1) ow J C;rw[C,if_neg sw]at h⊢;rw[H,pB,I]at h⊢;rcases zM (io N b ((13:Int)-(k:Int)) ((n+1+nE k a:Nat):Int)).1 with F|F
      ·obtain⟨T,U,Z⟩:=rB N k b (n+1+nE k a) ow L F;rw[F,if_neg sw];refine⟨by simp[bE,o1,o2,o3,W,u,B,G,T],?_,by simp[nE];omega⟩;rw[pB];show(io N b ((13:Int)-(k:Int)) ((n+1+nE k a:Nat):Int)).2=_;rw[U];simp[nE];omega
      ·rw[F,if_pos JQ]at h;cases h
     ·rw[C,if_pos JQ]at h;cases h
    ·rw[u,B,if_pos JQ]at h;cases h
   ·rw[u,if_pos JQ]at h;cases h
  ·omega
theorem xt(e:zf):cm e=(cond (bE 12 e) (Q0 (nE 12 e<=60)) Q4):=by
 unfold cm;rcases zM (io 16 e 1 0).1 with c|c
 ·obtain⟨u,_,B⟩:=rB 16 12 e 0 ow ow c;rw[c,u,zx ow];rfl
 ·rw[c];rcases zM (bE 12 e)with g|g
  ·rw[g];by_cases h:nE 12 e<=60
   ·have:=rC 16 12 e 0 ow ow g ow;have z:(io 16 e 1 0).1=Q3:=by
     have o:io 16 e 1 0=(Q3,((0+nE 12 e:Nat):Int)):=this;rw[o]
    rw[z]at c;cases c
   ·rw[aq h];rfl
  ·rw[g];rfl
theorem Mv{e:zf}(E:sD e):Ee e=Q1 (cm e,()):=by
 have C:Ji e 12=Q1 (bE 12 e,()):=Hz 16 12 e ow ow E;have o:BG e 12=Q3:=by unfold BG;rw[C];rfl
 have u:Jh e 12=bE 12 e:=by unfold Jh;rw[C];rfl
 unfold Ee an dd;simp only[znv,Q8,zk,o,u];rw[xt];rcases zM (bE 12 e)with g|g
 ·have D:Eh e=Q1 ((nE 12 e:Int),()):=oR 16 12 e ow ow g;have z:wc e=Q3:=by unfold wc;rw[D];rfl
  have B:BH e=(nE 12 e:Int):=by unfold BH;rw[D];rfl
  rw[g,z,B];have:Q0 (((nE 12 e:Nat):Int)<=60)=Q0 (nE 12 e<=60):=by
   by_cases h:nE 12 e<=60
   ·rw[zx h,zx ow]
   ·rw[aq h,aq ow]
  rw[this];rfl
 ·rw[g];rfl
theorem lH{e:zf}(h:sD e):ut e=Q3:=by unfold ut;rw[Mv h];rfl
theorem oO{e:zf}(h:sD e):Ed e=cm e:=by unfold Ed;rw[Mv h];rfl
theorem gV{e:zf}(h:cm e=Q3):bE 12 e=Q3:=by
 rw[xt]at h;exact(ck h).1
theorem Mx{e:zf}{cols:List (Sem zj)}(o:Io cols<=1000000)(h:cm e=Q3):BF e cols=Q1 ((bM e cols).1,(bM e cols).2,()):=by
 have:=rV o 16 12 16 e ow ow (gV h);unfold BF bM;rw[this,h];rfl
theorem Mu{e:zf}{cols:List (Sem zj)}{row:List (Sem ze)}(o:Io cols<=1000000)(u:∀v∈row,jL v)(z:sD e)(h:cm e=Q3):BD e cols row=Q1 (ia e cols row,()):=by
 have:=(rR o u 16 12 16 e ow ow (gV h) z).1;unfold BD ia;rw[this,h];rfl
theorem EP(e:zf):fE 16 e yk=(e.op==[]&&(aT e.v&&(e.s==[]&&e.l.length==0))):=by
 show MZ (fE 15) e yk=_;unfold MZ NY YF aT;obtain⟨o,v,s,l⟩:=e;simp only[zf.op,zf.v,zf.s,zf.l];cases l with
 | nil=>
  simp only[jc,eqL];cases(o==[])<;>cases(v.1==0&&(v.2.1==0&&(v.2.2==[]&&Q3)))<;>cases(s==[])<;>rfl
 | cons x r=>
  have:(((x::r).length:Int)!=(([]:List zf).length:Int))=Q3:=by simp;omega
  simp only[this];cases(o==[])<;>cases(v.1==0&&(v.2.1==0&&(v.2.2==[]&&Q3)))<;>cases(s==[])<;>rfl
theorem OQ(e:zf):BE e yk=Q1 (fE 16 e yk,()):=by
 rw[EP];show bS 16 e yk=_;rw[bS];unfold Jf;rcases zM (e.op==[])with o|o
 ·rcases zM (aT e.v)with h|h
  ·rcases zM (e.s==[])with u|u
   ·by_cases B:e.l.length=0
    ·refine zy (s:=.h4 0 (e,()) (yk,())) (k:=1) (r:=(.kb Q3,[])) ?_ (zV.of ?_) ow ?_
     ·unfold aT at h;simp only[Du,Q8];have z:(((zf.l e).length:Int)!=(([]:List zf).length:Int))=Q4:=by simp[B]
      show(ite ((cond (!(e.op==[])) Q3 (cond (!(e.v.1==0&&(e.v.2.1==0&&(e.v.2.2==[]&&Q3)))) Q3 (cond (!(e.s==[])) Q3 (((zf.l e).length:Int)!=(([]:List zf).length:Int)))))=Q3) _ _)=_;rw[o,h,u,z];rfl
     ·have C:Q0 ((0:Int)<((zf.l e).length:Int))=Q4:=aq (by rw[B];omega);simp only[Kc,Kd,B5,Q8];rw[C];rfl
     ·rw[o,h,u,B];rfl
    ·have z:(((zf.l e).length:Int)!=(([]:List zf).length:Int))=Q3:=bne_iff_ne.2 (by show((zf.l e).length:Int)≠0;omega);have C:((zf.l e).length==0)=Q4:=bZ.2 B;refine zH (r:=(.kb Q4,[])) ?_ ?_
     ·unfold aT at h;simp only[Du,Q8];show(ite ((cond (!(e.op==[])) Q3 (cond (!(e.v.1==0&&(e.v.2.1==0&&(e.v.2.2==[]&&Q3)))) Q3 (cond (!(e.s==[])) Q3 (((zf.l e).length:Int)!=(([]:List zf).length:Int)))))=Q3) _ _)=_;rw[o,h,u,z];rfl
     ·rw[o,h,u,C];rfl
   ·refine zH (r:=(.kb Q4,[])) ?_ ?_
    ·unfold aT at h;simp only[Du,Q8];show(ite ((cond (!(e.op==[])) Q3 (cond (!(e.v.1==0&&(e.v.2.1==0&&(e.v.2.2==[]&&Q3)))) Q3 (cond (!(e.s==[])) Q3 (((zf.l e).length:Int)!=(([]:List zf).length:Int)))))=Q3) _ _)=_;rw[o,h,u];rfl
    ·rw[o,h,u];rfl
  ·refine zH (r:=(.kb Q4,[])) ?_ ?_
   ·unfold aT at h;simp only[Du,Q8];show(ite ((cond (!(e.op==[])) Q3 (cond (!(e.v.1==0&&(e.v.2.1==0&&(e.v.2.2==[]&&Q3)))) Q3 (cond (!(e.s==[])) Q3 (((zf.l e).length:Int)!=(([]:List zf).length:Int)))))=Q3) _ _)=_;rw[o,h];rfl
   ·rw[o,h];rfl
 ·refine zH (r:=(.kb Q4,[])) ?_ ?_
  ·simp only[Du,Q8];show(ite ((cond (!(e.op==[])) Q3 (cond (!(e.v.1==0&&(e.v.2.1==0&&(e.v.2.2==[]&&Q3)))) Q3 (cond (!(e.s==[])) Q3 (((zf.l e).length:Int)!=(([]:List zf).length:Int)))))=Q3) _ _)=_;rw[o];rfl
  ·rw[o];rfl
theorem Ii{e:zf}(h:cm e=Q3):(e.op==[])=Q4:=by
 have z:=gV h;cases dr z with
 |lit v E=>rfl
 |col s F D=>rfl
 |one B a o u=>rcases o with rfl|rfl<;>rfl
 |two B a b o u C=>rcases o with rfl|rfl|rfl|rfl|rfl|rfl<;>rfl
theorem El{e:zf}{o:List (Sem zj)}(G:sD e)(J:Io o<=1000000):qE e o=Q1 (iP e o,()):=by
 have F:=OQ e;have z:gO e yk=Q3:=by unfold gO;rw[F];rfl
 have B:fu e yk=fE 16 e yk:=by unfold fu;rw[F];rfl
 unfold qE an dd;simp only[zdK,Q8,zk,lH G,oO G];unfold iP;rcases zM (e.op==[])with c|c
 ·have L:cm e=Q4:=by
   rcases zM (cm e)with h|h
   ·rw[Ii h]at c;cases c
   ·exact h
  have u:bM e o=(0,1):=by unfold bM;rw[L];rfl
  rw[c,z,B,u];rcases zM (fE 16 e yk)with h|h<;>rw[h]<;>rfl
 ·have M:fE 16 e yk=Q4:=by rw[EP,c];rfl
  rw[c,M];rcases zM (cm e)with h|h
  ·have u:=Mx (cols:=o) J h;have C:oP e o=Q3:=by unfold oP;rw[u];rfl
   have D:iK e o=bM e o:=by unfold iK;rw[u];rfl
   rw[h,C,D];generalize bM e o=t;obtain⟨t,r⟩:=t;rcases zM (r==0)with E|E
   ·have e0:r=0:=bG E;subst e0;rcases zM (t==0)with H|H<;>rcases zM (t==3)with I|I<;>(simp only[bne,H,I];rfl)
   ·simp only[bne,E];rfl
  ·have u:bM e o=(0,1):=by unfold bM;rw[h];rfl
   rw[h,u];rfl
structure o8 (t:Sem zo):Prop where
 name:zQ t.1=Q3
 n1:1<=Io t.2.1
 n8:Io t.2.1<=8
 cols:∀i,i<Io t.2.1->zQ (getD t.2.1 i (zi zj)).1=Q3/\LE.le (α:=Int) 1 (getD t.2.1 i (zi zj)).2.1/\LE.le (α:=Int) (getD t.2.1 i (zi zj)).2.1 3/\ap t.2.1 (getD t.2.1 i (zi zj)).1=(i:Int)
 uniq:∀u∈t.2.2.2.1,Fg u (Io t.2.1)
 refs:∀f∈t.t.1,Fg f.1 (Io t.2.1)/\zQ f.2=Q3
 key:Fg t.2.2.1 (Io t.2.1)
 nn:(getD t.2.1 (toNat t.2.2.1) (zi zj)).2.2=Q3
 chk:iP t.t.2 t.2.1=(0:Int)
theorem KU{t:Sem zo}{i:Nat}:NF t i=Q3↔(zQ (getD t.2.1 i (zi zj)).1=Q3/\LE.le (α:=Int) 1 (getD t.2.1 i (zi zj)).2.1/\LE.le (α:=Int) (getD t.2.1 i (zi zj)).2.1 3/\ap t.2.1 (getD t.2.1 i (zi zj)).1=(i:Int)):=by
 unfold NF;have z:zR t (getD t.2.1 i (zi zj)).1=ap t.2.1 (getD t.2.1 i (zi zj)).1:=rfl;rw[z];generalize getD t.2.1 i (zi zj)=c;cases zQ c.1
 ·simp
 ·by_cases o:LT.lt (α:=Int) c.2.1 1
  ·rw[zx o];simp;intro h;omega
  ·rw[aq o];by_cases u:GT.gt (α:=Int) c.2.1 3
   ·rw[zx u];simp;intro _ h;omega
   ·rw[aq u];exact⟨λh=>⟨rfl,ow,ow,by simpa using h⟩,λh=>by simpa using h.2.2.2⟩
theorem iS(t:Sem zo):dA t=Q3↔o8 t:=by
 have B:=yH (l:=t.2.2.2.1) (d:=zi zg) (p:=λu=>xX u (Io t.2.1));simp only[qj]at B;have C:(!(cond (!zQ t.1) Q3 (cond (Q0 ((↑(Io t.2.1):Int)<1)) Q3 (Q0 ((↑(Io t.2.1):Int)>8)))))=Q3↔(zQ t.1=Q3/\1<=Io t.2.1/\Io t.2.1<=8):=by
  cases zQ t.1
  ·simp
  ·by_cases o:(↑(Io t.2.1):Int)<1
   ·rw[zx o];simp;omega
   ·rw[aq o];simp;omega
 have o:(List.range (Io t.2.1)).all (NF t)=Q3↔∀i,i<Io t.2.1->NF t i=Q3:=by
  rw[en];simp only[pL]
 unfold dA;rw[aE,C,aE,o,aE,B,aE,MS,aE,qj,aE,bg];exact⟨λ⟨⟨a,b,c⟩,d,e,f,g,i,j⟩=>⟨a,b,c,λk z=>KU.1 (d k z),e,f,g,i,j⟩,λh=>⟨⟨h.name,h.n1,h.n8⟩,λk z=>KU.2 (h.cols k z),h.uniq,h.refs,h.key,h.nn,h.chk⟩⟩
structure Cg (t:Sem zo):Prop where
 name:Io t.1<=1000000
 cols:∀c∈t.2.1,Io c.1<=1000000
 ncols:Io t.2.1<=1000
 nuq:Io t.2.2.2.1<=1000
 nrf:Io t.t.1<=1000
 refs:∀f∈t.t.1,Io f.2<=1000000
 chk:sD t.t.2
theorem PM{b:Bool}{x p i:Int}:(cond (!b) Q3 (cond (Q0 (x<1)) Q3 (cond (Q0 (x>3)) Q3 (p !=i))))=Q4↔(b=Q3/\1<=x/\x<=3/\p=i):=by
 cases b
 ·simp
 ·by_cases o:x<1
  ·rw[zx o];simp;omega
  ·rw[aq o];by_cases u:x>3
   ·rw[zx u];simp;omega
   ·rw[aq u];exact⟨λh=>⟨rfl,ow,ow,by simpa using h⟩,λh=>by simpa using h.2.2.2⟩
theorem QE{x:Int}{n:Nat}:(cond (Q0 (x<0)) Q3 (Q0 (x>=(n:Int))))=Q3↔¬Fg x n:=by
 unfold Fg;by_cases h:x<0
 ·rw[zx h];simp;omega
 ·rw[aq h];simp;omega
theorem MC{t:Sem zo}(F:Cg t):Jm t=Q1 (dA t,()):=by
 have G:=iS t;have h4:=F.ncols;have h6:=F.nuq;have h7:=F.nrf;have S:∀r:aw,r=(.kb Q4,[])->¬o8 t->aI r.2 [Sh.bool] r.1=Q1 (dA t,()):=by
  intro r H h;have:dA t=Q4:=by
   rcases zM (dA t)with c|c
   ·exact absurd (G.1 c) h
   ·exact c
  rw[H,this];rfl
 have o:(zhF t).val=if(bif !zQ t.1 then true else bif decide ((Io t.2.1:Int)<1)then true else bif decide ((Io t.2.1:Int)>8)then true else bif decide (LT.lt (α:=Int) t.2.2.1 0)then true else bif decide (GE.ge (α:=Int) t.2.2.1 (Io t.2.1:Int))then true else !(getD t.2.1 (toNat t.2.2.1) (zi zj)).2.2)=true then some (.inr (.kb false,[]))else some (.inl (.h5 (Io t.2.1:Int) ((0:Nat):Int) (t,()))):=by
  simp only[zhF,Q8,bB F.name,fe F.name];rw[if_pos]
  ·rfl
  ·rcases zM (zQ t.1)with c|c
   ·rw[c];by_cases k1:LT.lt (α:=Int) t.2.2.1 0
    ·rw[zx k1];cases Q0 ((Io t.2.1:Int)<1)<;>cases Q0 ((Io t.2.1:Int)>8)<;>rfl
    ·by_cases k2:GE.ge (α:=Int) t.2.2.1 (Io t.2.1:Int)
     ·rw[zx k2];cases Q0 ((Io t.2.1:Int)<1)<;>cases Q0 ((Io t.2.1:Int)>8)<;>cases Q0 (LT.lt (α:=Int) t.2.2.1 0)<;>rfl
     ·have:zJ t.2.2.1 (Io t.2.1)=Q3:=mh ⟨ow,ow⟩;rw[this];cases Q0 ((Io t.2.1:Int)<1)<;>cases Q0 ((Io t.2.1:Int)>8)<;>cases Q0 (LT.lt (α:=Int) t.2.2.1 0)<;>cases Q0 (GE.ge (α:=Int) t.2.2.1 (Io t.2.1:Int))<;>rfl
   ·rw[c];rfl
 rcases zM (bif !zQ t.1 then Q3 else bif Q0 ((Io t.2.1:Int)<1)then Q3 else bif Q0 ((Io t.2.1:Int)>8)then Q3 else bif Q0 (LT.lt (α:=Int) t.2.2.1 0)then Q3 else bif Q0 (GE.ge (α:=Int) t.2.2.1 (Io t.2.1:Int))then Q3 else !(getD t.2.1 (toNat t.2.2.1) (zi zj)).2.2)with c|c
 ·rw[if_pos c]at o;refine zH o (S _ rfl λh=>?_);obtain⟨k1,k2⟩:=h.key;have e1:=h.n1;have e2:=h.n8;rw[h.name,aq ow,aq ow,aq ow,aq ow,h.nn]at c;cases c
 rw[if_neg (by rw[c];simp)]at o;have D:zQ t.1=Q3:=by
  rcases zM (zQ t.1)with k|k
  ·exact k
  ·rw[k]at c;cases c
 rw[D]at c;have h1:1<=Io t.2.1:=by
  by_cases k:(Io t.2.1:Int)<1
  ·rw[zx k]at c;cases c
  ·omega
 rw[aq (by omega:¬(Io t.2.1:Int)<1)]at c;have h8:Io t.2.1<=8:=by
  by_cases k:(Io t.2.1:Int)>8
  ·rw[zx k]at c;cases c
  ·omega
 rw[aq (by omega:¬(Io t.2.1:Int)>8)]at c;have X:LE.le (α:=Int) 0 t.2.2.1:=by
  by_cases k:LT.lt (α:=Int) t.2.2.1 0
  ·rw[zx k]at c;cases c
  ·omega
 rw[aq (by omega:¬LT.lt (α:=Int) t.2.2.1 0)]at c;have Y:LT.lt (α:=Int) t.2.2.1 (Io t.2.1:Int):=by
  by_cases k:GE.ge (α:=Int) t.2.2.1 (Io t.2.1:Int)
  ·rw[zx k]at c;cases c
  ·omega
 rw[aq (by omega:¬GE.ge (α:=Int) t.2.2.1 (Io t.2.1:Int))]at c;have Z:(getD t.2.1 (toNat t.2.2.1) (zi zj)).2.2=Q3:=by simpa using c
 have L:=mK (t:=sL) (Φ:=λr=>r=(.kb Q4,[])) 1 (λi=>.h5 (Io t.2.1:Int) (i:Int) (t,())) (λi=>zQ (getD t.2.1 i (zi zj)).1=Q3/\LE.le (α:=Int) 1 (getD t.2.1 i (zi zj)).2.1/\LE.le (α:=Int) (getD t.2.1 i (zi zj)).2.1 3/\ap t.2.1 (getD t.2.1 i (zi zj)).1=(i:Int)) (Io t.2.1) (by
  intro i o _;have C:=F.cols _ (bN (d:=zi zj) o);have E:(sL (.h5 (Io t.2.1:Int) (i:Int) (t,()))).val=if(bif !zQ (getD t.2.1 i (zi zj)).1 then Q3 else bif Q0 (LT.lt (α:=Int) (getD t.2.1 i (zi zj)).2.1 1)then Q3 else bif Q0 (GT.gt (α:=Int) (getD t.2.1 i (zi zj)).2.1 3)then Q3 else ap t.2.1 (getD t.2.1 i (zi zj)).1!=(i:Int))=Q3 then Q1 (.inr (.kb Q4,[]))else Q1 (.inl (.h5 (Io t.2.1:Int) ((i+1:Nat):Int) (t,()))):=by
   simp only[sL,Q8,zE o,zt o,aD,bB C,fe C,jw (show Io t.2.1<=1000000 by omega),kP (show Io t.2.1<=1000000 by omega),if_true];rw[if_pos,zr i um];cases zQ (getD t.2.1 i (zi zj)).1<;>cases Q0 (LT.lt (α:=Int) (getD t.2.1 i (zi zj)).2.1 1)<;>cases Q0 (GT.gt (α:=Int) (getD t.2.1 i (zi zj)).2.1 3)<;>rfl
  rcases zM (bif !zQ (getD t.2.1 i (zi zj)).1 then Q3 else bif Q0 (LT.lt (α:=Int) (getD t.2.1 i (zi zj)).2.1 1)then Q3 else bif Q0 (GT.gt (α:=Int) (getD t.2.1 i (zi zj)).2.1 3)then Q3 else ap t.2.1 (getD t.2.1 i (zi zj)).1!=(i:Int))with c|c
  ·refine .inr ⟨λh=>?_,_,zV.of (by rw[E,if_pos c]),rfl⟩;rw[PM.2 h]at c;cases c
  ·exact .inl ⟨PM.1 c,zL.of (by rw[E,if_neg (by rw[c];simp)])⟩)
 rcases L with⟨p5,L⟩|⟨p5,r,L,H⟩
 case inr=>exact zy o L ow (S _ H λh=>p5 h.cols)
 have v5:(sL (.h5 (Io t.2.1:Int) (Io t.2.1:Int) (t,()))).val=Q1 (.inl (.h11 (Io t.2.1:Int) ((0:Nat):Int) (t,()))):=by
  simp only[sL,Q8,zB];rfl
 have M:=L.trans (zL.of v5);have z:=mK (t:=sL) (Φ:=λr=>r=(.kb Q4,[])) 1 (λi=>.h11 (Io t.2.1:Int) (i:Int) (t,())) (λi=>Fg (getD t.2.2.2.1 i (zi zg)) (Io t.2.1)) (Io t.2.2.2.1) (by
  intro i o _;have E:(sL (.h11 (Io t.2.1:Int) (i:Int) (t,()))).val=if(bif Q0 (LT.lt (α:=Int) (getD t.2.2.2.1 i (zi zg)) 0)then Q3 else Q0 (GE.ge (α:=Int) (getD t.2.2.2.1 i (zi zg)) (Io t.2.1:Int)))=Q3 then Q1 (.inr (.kb Q4,[]))else Q1 (.inl (.h11 (Io t.2.1:Int) ((i+1:Nat):Int) (t,()))):=by
   simp only[sL,Q8,zE o,zt o,aD,if_true];rw[if_pos,zr i um];cases Q0 (LT.lt (α:=Int) (getD t.2.2.2.1 i (zi zg)) 0)<;>rfl
  by_cases h:Fg (getD t.2.2.2.1 i (zi zg)) (Io t.2.1)
  ·exact .inl ⟨h,zL.of (by rw[E,if_neg (by rw[aq (by have:=h.1;omega),aq (by have:=h.2;omega)];simp)])⟩
  ·refine .inr ⟨h,_,zV.of (by rw[E,if_pos (QE.2 h)]),rfl⟩)
 rcases z with⟨I,z⟩|⟨I,r,z,H⟩
 case inr=>exact zy o (M.ends z) ow (S _ H λh=>I ((az (Q:=λu=>Fg u (Io t.2.1))).2 h.uniq))
 have h0:(sL (.h11 (Io t.2.1:Int) (Io t.2.2.2.1:Int) (t,()))).val=Q1 (.inl (.h16 (Io t.2.1:Int) ((0:Nat):Int) (t,()))):=by
  simp only[sL,Q8,zB];rfl
 have O:=(M.trans z).trans (zL.of h0);have B:=mK (t:=sL) (Φ:=λr=>r=(.kb Q4,[])) 1 (λi=>.h16 (Io t.2.1:Int) (i:Int) (t,())) (λi=>Fg (getD t.t.1 i (zi zp)).1 (Io t.2.1)/\zQ (getD t.t.1 i (zi zp)).2=Q3) (Io t.t.1) (by
  intro i o _;have C:=F.refs _ (bN (d:=zi zp) o);have E:(sL (.h16 (Io t.2.1:Int) (i:Int) (t,()))).val=if(bif Q0 (LT.lt (α:=Int) (getD t.t.1 i (zi zp)).1 0)then Q3 else bif Q0 (GE.ge (α:=Int) (getD t.t.1 i (zi zp)).1 (Io t.2.1:Int))then Q3 else !zQ (getD t.t.1 i (zi zp)).2)=Q3 then Q1 (.inr (.kb Q4,[]))else Q1 (.inl (.h16 (Io t.2.1:Int) ((i+1:Nat):Int) (t,()))):=by
   simp only[sL,Q8,zE o,zt o,aD,bB C,fe C,if_true];rw[if_pos,zr i um];cases Q0 (LT.lt (α:=Int) (getD t.t.1 i (zi zp)).1 0)<;>cases Q0 (GE.ge (α:=Int) (getD t.t.1 i (zi zp)).1 (Io t.2.1:Int))<;>rfl
  by_cases h:Fg (getD t.t.1 i (zi zp)).1 (Io t.2.1)
  ·rcases zM (zQ (getD t.t.1 i (zi zp)).2)with c|c
   ·exact .inl ⟨⟨h,c⟩,zL.of (by rw[E,c,if_neg (by rw[aq (by have:=h.1;omega),aq (by have:=h.2;omega)];simp)])⟩
   ·exact .inr ⟨λT=>(by rw[T.2]at c;cases c),_,zV.of (by rw[E,c,if_pos (by rw[aq (by have:=h.1;omega),aq (by have:=h.2;omega)];rfl)]),rfl⟩
  ·have hb:(bif Q0 (LT.lt (α:=Int) (getD t.t.1 i (zi zp)).1 0)then Q3 else bif Q0 (GE.ge (α:=Int) (getD t.t.1 i (zi zp)).1 (Io t.2.1:Int))then Q3 else !zQ (getD t.t.1 i (zi zp)).2)=Q3:=by
    have:=QE.2 h;rcases zM (Q0 (LT.lt (α:=Int) (getD t.t.1 i (zi zp)).1 0))with k|k
    ·rw[k];rfl
    ·rw[k]at this⊢;rw[show Q0 (GE.ge (α:=Int) (getD t.t.1 i (zi zp)).1 (Io t.2.1:Int))=Q3 from this];rfl
   exact .inr ⟨λT=>h T.1,_,zV.of (by rw[E,if_pos hb]),rfl⟩)
 rcases B with⟨J,B⟩|⟨J,r,B,H⟩
 case inr=>exact zy o (O.ends B) ow (S _ H λh=>J ((az (Q:=λf:Sem zp=>Fg f.1 (Io t.2.1)/\zQ f.2=Q3)).2 h.refs))
 have U:Ek t.t.2 t.2.1=Q3:=by unfold Ek;rw[El F.chk ow];rfl
 have W:Jn t.t.2 t.2.1=iP t.t.2 t.2.1:=by unfold Jn;rw[El F.chk ow];rfl
 have h3:(sL (.h16 (Io t.2.1:Int) (Io t.t.1:Int) (t,()))).val=Q1 (.inr (.bool (iP t.t.2 t.2.1==(0:Int)),[])):=by
  simp only[sL,Q8,zB,zk,U,W];rfl
 refine zy o (O.ends (B.ends (zV.of h3))) ow ?_;have:dA t=(iP t.t.2 t.2.1==(0:Int)):=by
  apply jb.2;rw[G];constructor
  ·intro h;rw[h.chk];rfl
  ·intro h;exact⟨D,h1,h8,p5,(az (Q:=λu=>Fg u (Io t.2.1))).1 I,(az (Q:=λf:Sem zp=>Fg f.1 (Io t.2.1)/\zQ f.2=Q3)).1 J,⟨X,Y⟩,Z,bG h⟩
 rw[this];rfl
theorem nA{t:Sem zo}(h:Cg t):yA t=Q3:=by unfold yA;rw[MC h];rfl
theorem rX{t:Sem zo}(h:Cg t):HC t=dA t:=by unfold HC;rw[MC h];rfl
theorem o8.may{t:Sem zo}(h:o8 t)(z:(t.t.2.op==[])=Q4):cm t.t.2=Q3:=by
 have o:=h.chk;unfold iP at o;have u:fE 16 t.t.2 yk=Q4:=by rw[EP,z];rfl
 rw[u,if_neg sw]at o;rcases zM (cm t.t.2)with c|c
 ·exact c
 ·have B:bM t.t.2 t.2.1=(0,1):=by unfold bM;rw[c];rfl
  rw[B]at o;cases o
theorem N7(t:Sem zo)(row:List (Sem ze))(i:Int):eG t row [] i=if Av (ia t.t.2 t.2.1 row) 0=Q3 then(9:Int)else 0:=by rw[eG];rfl
theorem Aq(t:Sem zo)(h:List (Sem ze))(x:Sem ze)(r:List (Sem ze))(i:Nat):eG t h (x::r) (i:Int)=if(cond (x.1==0) ((getD t.2.1 i (zi zj)).2.2) Q4)=Q3 then(8:Int)else if(cond (x.1!=0) (x.1!=(getD t.2.1 i (zi zj)).2.1) Q4)=Q3 then 5 else eG t h r ((i+1:Nat):Int):=by
 rw[eG];simp only[aD];rfl
theorem Dk{t:Sem zo}{o:List (Sem ze)}(I:Cg t)(E:o8 t)(J:∀v∈o,jL v)(T:Io o=Io t.2.1):∀(m i:Nat),Io o-i=m->i<=Io o->zV E3 (m+1) (.h9 o (i:Int) (t,())) (.int .i64 (eG t o (o.drop i) (i:Int)),[])
 | 0,i,D,S=>by
  obtain rfl:i=Io o:=by omega
  have M:=I.ncols;rw[jM,N7];refine zV.of ?_;have L:=E.n8;rcases zM (t.t.2.op==[])with c|c
  ·have D:cm t.t.2=Q4:=by
    rcases zM (cm t.t.2)with h|h
    ·rw[Ii h]at c;cases c
    ·exact h
   have z:ia t.t.2 t.2.1 o=(0,0,[]):=by unfold ia;rw[D];rfl
   rw[z];simp only[E3,Q8,zB,zk];rw[c];rfl
  ·have D:=E.may c;have B:=Mu (cols:=t.2.1) (row:=o) ow J I.chk D;have G:mo t.t.2 t.2.1 o=Q3:=by unfold mo;rw[B];rfl
   have C:oN t.t.2 t.2.1 o=ia t.t.2 t.2.1 o:=by unfold oN;rw[B];rfl
   simp only[E3,Q8,zB,zk,G,C,vU,D6];rw[c];show(ite (Q3=Q3) (ite (Av (ia t.t.2 t.2.1 o) 0=Q3) (Q1 (Sum.inr (ai 9,[]))) (Q1 (Sum.inr (ai 0,[])))) Q2:Option (HZ⊕aw))=_;rcases zM (Av (ia t.t.2 t.2.1 o) 0)with k|k<;>rw[k]<;>rfl
 | m+1,i,D,S=>by
  have u:i<Io o:=by omega
  have L:=E.n8;have U:=Dk I E J T m (i+1) ow ow;have O:o.drop i=getD o i (zi ze)::o.drop (i+1):=by
   rw[fk u,aU,zU u];rfl
  rw[O,Aq];have H:zJ (i:Int) (Io t.2.1)=Q3:=zt ow;have z:(E3 (.h9 o (i:Int) (t,()))).val=if(cond ((getD o i (zi ze)).1==0) ((getD t.2.1 i (zi zj)).2.2) Q4)=Q3 then Q1 (.inr (.int .i64 8,[]))else if(cond ((getD o i (zi ze)).1!=0) ((getD o i (zi ze)).1!=(getD t.2.1 i (zi zj)).2.1) Q4)=Q3 then Q1 (.inr (.int .i64 5,[]))else Q1 (.inl (.h9 o ((i+1:Nat):Int) (t,()))):=by
   simp only[E3,Q8,zE u,zt u,H,aD,if_true];rw[zr i um];cases((getD o i (zi ze)).1==0)<;>cases((getD o i (zi ze)).1!=0)<;>rfl
  rcases zM (cond ((getD o i (zi ze)).1==0) ((getD t.2.1 i (zi zj)).2.2) Q4)with c|c
  ·rw[c,if_pos JQ]at z⊢;exact(zV.of z).mono ow
  ·rw[c,if_neg sw]at z⊢;rcases zM (cond ((getD o i (zi ze)).1!=0) ((getD o i (zi ze)).1!=(getD t.2.1 i (zi zj)).2.1) Q4)with F|F
   ·rw[F,if_pos JQ]at z⊢;exact(zV.of z).mono ow
   ·rw[F,if_neg sw]at z⊢;exact(zL.of z).ends U
theorem Dj{t:Sem zo}{h:List (Sem ze)}(E:Cg t)(B:o8 t)(C:∀v∈h,jL v)(D:Io h=Io t.2.1):∀(m i:Nat),Io h-i=m->i<=Io h->zV E3 (m+2+Io h) (.h4 h (i:Int) (t,())) (.int .i64 (gu t h (h.drop i) (i:Int)),[])
 | 0,i,I,H=>by
  obtain rfl:i=Io h:=by omega
  rw[jM];have u:(E3 (.h4 h (Io h:Int) (t,()))).val=Q1 (.inl (.h9 h ((0:Nat):Int) (t,()))):=by
   simp only[E3,Q8,zB];rfl
  have F:=Dk E B C D (Io h) 0 ow ow;have e:gu t h [] (Io h:Int)=eG t h (h.drop 0) ((0:Nat):Int):=by
   rw[gu];rfl
  rw[e];exact((zL.of u).ends F).mono ow
 | m+1,i,I,H=>by
  have o:i<Io h:=by omega
  have L:=B.n8;have J:=Dj E B C D m (i+1) ow ow;have G:h.drop i=getD h i (zi ze)::h.drop (i+1):=by
   rw[fk o,aU,zU o];rfl
  have z:=(C _ (bN (d:=zi ze) o)).2.2;have e:gu t h (h.drop i) (i:Int)=if(!aR (getD h i (zi ze)))=Q3 then(1:Int)else gu t h (h.drop (i+1)) ((i+1:Nat):Int):=by
   rw[G];rw[gu];rfl
  rw[e];have u:(E3 (.h4 h (i:Int) (t,()))).val=if(!aR (getD h i (zi ze)))=Q3 then Q1 (.inr (.int .i64 1,[]))else Q1 (.inl (.h4 h ((i+1:Nat):Int) (t,()))):=by
   simp only[E3,Q8,zE o,zt o,aD,if_true,lC z,oH z];rw[zr i um]
  rcases zM (!aR (getD h i (zi ze)))with c|c
  ·rw[c,if_pos JQ]at u⊢;exact(zV.of u).mono ow
  ·rw[c,if_neg sw]at u⊢;exact((zL.of u).ends J).mono ow
theorem HB{t:Sem zo}{h:List (Sem ze)}(u:Cg t)(D:∀v∈h,jL v):BJ t h=Q1 (dc t h,()):=by
 unfold dc;have o:(zhG t h).val=if(cond (!dA t) Q3 ((Io h:Int)!=(Io t.2.1:Int)))=Q3 then Q1 (.inr (.int .i64 1,[]))else Q1 (.inl (.h4 h ((0:Nat):Int) (t,()))):=by
  simp only[zhG,Q8,zk,nA u,rX u,if_true];rfl
 rcases zM (cond (!dA t) Q3 ((Io h:Int)!=(Io t.2.1:Int)))with c|c
 ·rw[if_pos c]at o⊢;exact zH o rfl
 ·rw[if_neg (by rw[c];simp)]at o⊢;have B:dA t=Q3:=by
   rcases zM (dA t)with k|k
   ·exact k
   ·rw[k]at c;cases c
  rw[B]at c;have C:Io h=Io t.2.1:=by
   have:((Io h:Int)!=(Io t.2.1:Int))=Q4:=c;simp at this;omega
  have z:=(iS t).1 B;have E:=z.n8;exact zy o (Dj u z D C (Io h) 0 ow ow) ow rfl
theorem HA{t:Sem zo}{h:List (Sem ze)}(u:Cg t)(o:∀v∈h,jL v):BI t h=Q3:=by unfold BI;rw[HB u o];rfl
theorem MB{t:Sem zo}{h:List (Sem ze)}(u:Cg t)(o:∀v∈h,jL v):Jl t h=dc t h:=by unfold Jl;rw[HB u o];rfl
theorem eq3(a b:Sem ze):(a.1==b.1&&(a.2.1==b.2.1&&(a.2.2==b.2.2&&Q3)))=Q3↔a=b:=by
 obtain⟨k,n,s⟩:=a;obtain⟨h,o,u⟩:=b;simp
theorem wi{rows:List (List (Sem ze))}{c:Int}(W:∀r∈rows,zJ c (Io r)=Q3)(hl:Io rows<=1000):∃b,wh rows c=Q1 (b,())/\(b=Q4↔sC rows c):=by
 have B:=mK (t:=FH) (Φ:=λr=>r=(.kb Q3,[])) 1002 (λi=>.h2 rows c (i:Int)) (λi=>∀k,k<i->¬((zN c (getD rows i (zi ze.sl))).1≠0/\zN c (getD rows i (zi ze.sl))=zN c (getD rows k (zi ze.sl)))) (Io rows) (by
  intro i o _;have C:(FH (.h2 rows c (i:Int))).val=Q1 (.inl (.h5 rows c (i:Int) ((0:Nat):Int))):=by
   simp only[FH,Q8,zE o];rfl
  have h5:=mK (t:=FH) (Φ:=λr=>r=(.kb Q3,[])) 1 (λk=>.h5 rows c (i:Int) (k:Int)) (λk=>¬((zN c (getD rows i (zi ze.sl))).1≠0/\zN c (getD rows i (zi ze.sl))=zN c (getD rows k (zi ze.sl)))) i (by
   intro k J _;have E:k<Io rows:=by omega
   have C:(FH (.h5 rows c (i:Int) (k:Int))).val=if(cond ((zN c (getD rows i (zi ze.sl))).1!=0) ((zN c (getD rows i (zi ze.sl))).1==(zN c (getD rows k (zi ze.sl))).1&&((zN c (getD rows i (zi ze.sl))).2.1==(zN c (getD rows k (zi ze.sl))).2.1&&((zN c (getD rows i (zi ze.sl))).2.2==(zN c (getD rows k (zi ze.sl))).2.2&&Q3))) Q4)=Q3 then Q1 (.inr (.kb Q3,[]))else Q1 (.inl (.h5 rows c (i:Int) ((k+1:Nat):Int))):=by
    simp only[FH,Q8,zE J,zt o,zt E,W _ (bN (d:=zi ze.sl) o),W _ (bN (d:=zi ze.sl) E),aD,if_true];rw[if_pos,zr k um];cases((getD (getD rows i (zi ze.sl)) (toNat c) (zi ze)).1!=0)<;>rfl
   have X:=eq3 (zN c (getD rows i (zi ze.sl))) (zN c (getD rows k (zi ze.sl)));rcases zM ((zN c (getD rows i (zi ze.sl))).1!=0)with u|u
   ·have F:(zN c (getD rows i (zi ze.sl))).1≠0:=bne_iff_ne.1 u;rcases zM ((zN c (getD rows i (zi ze.sl))).1==(zN c (getD rows k (zi ze.sl))).1&&((zN c (getD rows i (zi ze.sl))).2.1==(zN c (getD rows k (zi ze.sl))).2.1&&((zN c (getD rows i (zi ze.sl))).2.2==(zN c (getD rows k (zi ze.sl))).2.2&&Q3)))with z|z
    ·exact .inr ⟨λh=>h ⟨F,X.1 z⟩,_,zV.of (by rw[C,u,z,if_pos JQ]),rfl⟩
    ·exact .inl ⟨λh=>(by rw[X.2 h.2]at z;cases z),zL.of (by rw[C,u,z,if_neg sw])⟩
   ·refine .inl ⟨λh=>h.1 (by simpa using u),zL.of (by rw[C,u,if_neg sw])⟩)
  rcases h5 with⟨T,H⟩|⟨T,r,H,M⟩
  ·have O:(FH (.h5 rows c (i:Int) (i:Int))).val=Q1 (.inl (.h2 rows c ((i+1:Nat):Int))):=by
    simp only[FH,Q8,zB];rw[zr i um];rfl
   exact .inl ⟨T,(((zL.of C).trans H).trans (zL.of O)).mono ow⟩
  ·exact .inr ⟨T,r,((zL.of C).ends H).mono ow,M⟩)
 have Z:(∀i,i<Io rows->∀k,k<i->¬((zN c (getD rows i (zi ze.sl))).1≠0/\zN c (getD rows i (zi ze.sl))=zN c (getD rows k (zi ze.sl))))↔sC rows c:=by
  unfold sC;rw[List.pairwise_iff_getElem];have e:∀i(o:i<Io rows),getD rows i (zi ze.sl)=rows[i]:=λi o=>by rw[aU,zU o,dv]
  constructor
  ·intro h i j o Y I L D;have:=h j Y i I;rw[e i o,e j Y]at this;exact this ⟨by rw[<-D];exact L,D.symm⟩
  ·rintro h i o k J ⟨U,B⟩;rw[e i o]at U B;rw[e k ow]at B;exact h k i ow o J (by rw[<-B];exact U) B.symm
 have o:(znn rows c).val=Q1 (.inl (.h2 rows c ((0:Nat):Int))):=rfl;rcases B with⟨S,G⟩|⟨S,r,G,M⟩
 ·refine⟨Q4,zy o (G.ends (zV.of (r:=(.kb Q4,[])) ?_)) ow rfl,⟨λ_=>Z.1 S,λ_=>rfl⟩⟩;simp only[FH,Q8,zB];rfl
 ·subst M;exact⟨Q3,zy o G ow rfl,⟨λh=>(by cases h),λh=>absurd (Z.2 h) S⟩⟩
theorem ME{t:Sem zo}{h:List (Sem ze)}(u:Cg t)(B:dA t=Q3)(o:zJ t.2.2.1 (Io h)=Q3):En t h=Q1 (zN t.2.2.1 h,()):=by
 unfold En an dd;have z:Q0 (LT.lt (α:=Int) t.2.2.1 (Io h:Int))=Q3:=by
  unfold zJ at o;simp only[aE]at o;exact o.2
 simp only[znp,Q8,zk,nA u,rX u,B,o,z];rfl
theorem nC{t:Sem zo}{row:List (Sem ze)}(u:Cg t)(o:dA t=Q3)(h:zJ t.2.2.1 (Io row)=Q3):yD t row=Q3:=by unfold yD;rw[ME u o h];rfl
theorem rZ{t:Sem zo}{row:List (Sem ze)}(u:Cg t)(o:dA t=Q3)(h:zJ t.2.2.1 (Io row)=Q3):HD t row=zN t.2.2.1 row:=by unfold HD;rw[ME u o h];rfl
theorem yC{x:Sem zh}{v:Sem ze}(F:Cg x.1)(J:dA x.1=Q3)(D:∀r∈x.2,zJ x.1.2.2.1 (Io r)=Q3)(M:Io x.2<=1000):BK x v=Q1 (zW (λr=>bl r x.1.2.2.1 v) x.2 0,()):=by
 have H:∀r∈x.2,bl r x.1.2.2.1 v=((zN x.1.2.2.1 r).1==v.1&&((zN x.1.2.2.1 r).2.1==v.2.1&&((zN x.1.2.2.1 r).2.2==v.2.2&&Q3))):=by
  intro r L;have:=D r L;unfold zJ at this;simp only[aE]at this;unfold bl;rw[show Q0 (GE.ge (α:=Int) x.1.2.2.1 0)=Q3 from this.1,this.2];rfl
 have G:=mK (t:=Yi) (Φ:=λr=>r=(.int .i64 (zW (λr=>bl r x.1.2.2.1 v) x.2 0),[])) 1 (λi=>.h2 (i:Int) (x,()) (v,())) (λi=>bl (getD x.2 i (zi ze.sl)) x.1.2.2.1 v=Q4) (Io x.2) (by
  intro i z I;have u:=bN (d:=zi ze.sl) z;have o:=D _ u;have B:Q0 (LT.lt (α:=Int) x.1.2.2.1 ((getD x.2 i (zi ze.sl)).length:Int))=Q3:=by
   unfold zJ at o;simp only[aE]at o;exact o.2
  have E:(Yi (.h2 (i:Int) (x,()) (v,()))).val=if bl (getD x.2 i (zi ze.sl)) x.1.2.2.1 v=Q3 then Q1 (.inr (.int .i64 i,[]))else Q1 (.inl (.h2 ((i+1:Nat):Int) (x,()) (v,()))):=by
   rw[H _ u];simp only[Yi,Q8,zk,zE z,zt z,o,B,nA F,rX F,J,aD,zY,if_true,sU];rw[zr i um]
  rcases zM (bl (getD x.2 i (zi ze.sl)) x.1.2.2.1 v)with h|h
  ·have hp:=ni (p:=λr=>bl r x.1.2.2.1 v) (d:=zi ze.sl) x.2 0 i z h I;refine .inr ⟨by rw[h];simp,_,zV.of (by rw[E,if_pos h]),?_⟩;show _=(ai (zW (λr=>bl r x.1.2.2.1 v) x.2 0),[]);rw[hp];simp
  ·exact .inl ⟨h,zL.of (by rw[E,if_neg (by rw[h];simp)])⟩)
 have z:(znq x v).val=Q1 (.inl (.h2 ((0:Nat):Int) (x,()) (v,()))):=rfl;rcases G with⟨C,B⟩|⟨C,r,B,rfl⟩
 ·have hp:=nj (p:=λr=>bl r x.1.2.2.1 v) (d:=zi ze.sl) x.2 0 C;rw[hp];refine zy z (B.ends (zV.of (r:=(.int .i64 (-1),[])) ?_)) ow rfl;simp only[Yi,Q8,zB];rfl
 ·exact zy z B ow rfl
theorem Te{x:Sem zh}{v:Sem ze}(z:Cg x.1)(u:dA x.1=Q3)(h:∀r∈x.2,zJ x.1.2.2.1 (Io r)=Q3)(o:Io x.2<=1000):rY x v=Q3:=by unfold rY;rw[yC z u h o];rfl
theorem XP{x:Sem zh}{v:Sem ze}(z:Cg x.1)(u:dA x.1=Q3)(h:∀r∈x.2,zJ x.1.2.2.1 (Io r)=Q3)(o:Io x.2<=1000):yB x v=zW (λr=>bl r x.1.2.2.1 v) x.2 0:=by unfold yB;rw[yC z u h o];rfl
structure FZ (x:Sem zh):Prop where
 t:Cg x.1
 rows:Io x.2<=1000
 vals:∀r∈x.2,∀v∈(r:List (Sem ze)),jL v
theorem FZ.short{x:Sem zh}(h:FZ x):gS x:=⟨h.t.nuq,h.t.nrf,h.rows⟩
theorem G2{t:Sem zo}{z:List (Sem ze)}:∀(r:List (Sem ze))(i:Nat),eG t z r (i:Int)=(0:Int)->∀j,j<Io r->(getD t.2.1 (i+j) (zi zj)).2.2=Q3->(getD r j (zi ze)).1≠0
 |[],_,_,j,u,_=>by simp at u
 | x::r,i,h,j,u,hn=>by
  rw[Aq]at h;split at h
  ·cases h
  rename_i c;split at h
  ·cases h
  cases j with
  | zero=>
   intro B;have o:(x.1==0)=Q3:=by simpa using B
   rw[o]at c;exact c hn
  | succ j=>
   have:=G2 r (i+1) h j (by simpa using u) (by rw[show i+1+j=i+(j+1) by omega];exact hn);exact this
theorem G4{t:Sem zo}{row:List (Sem ze)}:∀(r:List (Sem ze))(i:Nat),gu t row r (i:Int)=(0:Int)->(∀v∈r,aR v=Q3)/\eG t row row ((0:Nat):Int)=(0:Int)
 | [],i,h=>by
  rw[gu]at h;exact⟨λv o=>(by cases o),h⟩
 | x::r,i,h=>by
  have e:gu t row (x::r) (i:Int)=if(!aR x)=Q3 then(1:Int)else gu t row r ((i+1:Nat):Int):=by
   rw[gu];rfl
  rw[e]at h;split at h
  ·cases h
  rename_i c;obtain⟨u,z⟩:=G4 r (i+1) h;refine⟨λv o=>?_,z⟩;rcases bL.1 o with rfl|o
  ·simpa using c
  ·exact u v o
theorem cX{t:Sem zo}{row:List (Sem ze)}(h:dc t row=(0:Int)):Io row=Io t.2.1/\(∀v∈row,aR v=Q3)/\∀j,j<Io row->(getD t.2.1 j (zi zj)).2.2=Q3->(getD row j (zi ze)).1≠0:=by
 have B:=Dl (t:=t) (row:=row) (by simpa using h);unfold dc at h;split at h
 ·cases h
 obtain⟨o,u⟩:=G4 row 0 h;refine⟨B,o,λj z C=>?_⟩;have:=G2 row 0 u j z (by rwa [ez]);exact this
theorem uj{a b:Sem ze}(o:aR a=Q3)(u:aR b=Q3)(h:aX a b=(0:Int)):a=b:=by
 unfold aX ao at h;rw[o,u]at h;have h:FE [pR a.1 b.1,jO a.2.1 b.2.1,mW a.2.2 b.2.2]=(0:Int):=h;rw[<-IP]at h;rcases zM (a.1==b.1&&(a.2.1==b.2.1&&(a.2.2==b.2.2&&Q3)))with c|c
 ·exact(eq3 a b).1 c
 ·rw[if_neg (by rw[c];simp)]at h;split at h<;>cases h
theorem Jp{x:Sem zh}(B:FZ x):∃e:Int,nB x=Q1 (e,())/\(e=0↔dQ x):=by
 have h8:=B.rows;have x8:=B.t.nuq;by_cases G:dA x.1=Q3
 case neg=>
  have x5:dA x.1=Q4:=by simpa using G
  refine⟨1,?_,λh=>(by cases h),λh=>absurd h.may G⟩;unfold nB an dd;simp only[VS,Q8,zk,nA B.t,rX B.t,x5];rfl
 by_cases x3:Io x.2<=200
 case neg=>
  refine⟨13,?_,λh=>(by cases h),λh=>absurd h.few x3⟩;unfold nB an dd;simp only[VS,Q8,zk,nA B.t,rX B.t,G];rw[if_pos trivial,if_neg sw,if_pos sg];rfl
 have C:(VS x).val=Q1 (.inl (.h6 ((0:Nat):Int) (x,()))):=by
  simp only[VS,Q8,zk,nA B.t,rX B.t,G];rw[if_pos trivial,if_neg sw,if_neg sg];rfl
 obtain⟨X,x7,x6,_,_⟩:=fj G;have h6:=mK (t:=qK) (Φ:=YC) 1 (λi=>.h6 (i:Int) (x,())) (λi=>dc x.1 (getD x.2 i (zi ze.sl))=(0:Int)) (Io x.2) (by
  intro i C _;have x2:=B.vals _ (bN (d:=zi ze.sl) C);have T:(qK (.h6 (i:Int) (x,()))).val=if(dc x.1 (getD x.2 i (zi ze.sl))!=0)=Q3 then Q1 (.inr (.int .i64 (dc x.1 (getD x.2 i (zi ze.sl))),[]))else Q1 (.inl (.h6 ((i+1:Nat):Int) (x,()))):=by
   simp only[qK,Q8,zk,zE C,zt C,aD,HA B.t x2,MB B.t x2,if_true];rw[zr i um]
  by_cases h:dc x.1 (getD x.2 i (zi ze.sl))=(0:Int)
  ·refine .inl ⟨h,zL.of ?_⟩;rw[T,if_neg (by rw[h];simp)]
  ·refine .inr ⟨h,_,zV.of (by rw[T,if_pos (by simpa using h)]),_,rfl,h⟩)
 rcases h6 with⟨hf,h6⟩|⟨hf,r,h6,e,L,z⟩
 case inr=>
  subst L;exact⟨e,zy C h6 ow rfl,λh=>absurd h z,λh=>absurd ((az (Q:=λr=>dc x.1 r=(0:Int))).2 h.fits) hf⟩
 have o:=(az (Q:=λr=>dc x.1 r=(0:Int))).1 hf;have h7:∀r∈x.2,Io r=Io x.1.2.1:=λr O=>(cX (o r O)).1
 have M:∀c,Fg c (Io x.1.2.1)->∀r∈x.2,zJ c (Io r)=Q3:=λc hc r O=>by
  rw[h7 r O];exact mh hc
 obtain⟨b,hb,F⟩:=wi (rows:=x.2) (c:=x.1.2.2.1) (M _ X) h8;have U:nD x.2 x.1.2.2.1=Q3:=by unfold nD;rw[hb];rfl
 have W:r7 x.2 x.1.2.2.1=b:=by unfold r7;rw[hb];rfl
 have x1:(qK (.h6 (Io x.2:Int) (x,()))).val=if b=Q3 then Q1 (.inr (.int .i64 7,[]))else Q1 (.inl (.h14 ((0:Nat):Int) (x,()))):=by
  simp only[qK,Q8,zB,U,W];rfl
 by_cases J:b=Q3
 ·refine⟨7,zy C (h6.ends (zV.of (by rw[x1,if_pos J]))) ow rfl,λh=>(by cases h),λh=>?_⟩;have:=F.2 h.key;rw[J]at this;cases this
 have S:sC x.2 x.1.2.2.1:=F.1 (by simpa using J);have h3:zL qK _ (.h6 ((0:Nat):Int) (x,())) _:=h6.trans (zL.of (by rw[x1,if_neg J]));have D:=mK (t:=qK) (Φ:=YC) 1 (λi=>.h14 (i:Int) (x,())) (λi=>sC x.2 (getD x.1.2.2.2.1 i (zi zg))) (Io x.1.2.2.2.1) (by
  intro i C _;obtain⟨b,hb,F⟩:=wi (rows:=x.2) (c:=getD x.1.2.2.2.1 i (zi zg)) (M _ (x6 _ (bN C))) h8;have U:nD x.2 (getD x.1.2.2.2.1 i (zi zg))=Q3:=by unfold nD;rw[hb];rfl
  have W:r7 x.2 (getD x.1.2.2.2.1 i (zi zg))=b:=by unfold r7;rw[hb];rfl
  have T:(qK (.h14 (i:Int) (x,()))).val=if b=Q3 then Q1 (.inr (.int .i64 7,[]))else Q1 (.inl (.h14 ((i+1:Nat):Int) (x,()))):=by
   simp only[qK,Q8,zE C,zt C,if_true,aD,U,W];rw[zr i um]
  by_cases h:b=Q3
  ·refine .inr ⟨λhu=>?_,_,zV.of (by rw[T,if_pos h]),7,rfl,by decide⟩;have:=F.2 hu;rw[h]at this;cases this
  ·exact .inl ⟨F.1 (by simpa using h),zL.of (by rw[T,if_neg h])⟩)
 rcases D with⟨hq,D⟩|⟨hq,r,D,e,L,z⟩
 case inr=>
  subst L;exact⟨e,zy C (h3.ends D) ow rfl,λh=>absurd h z,λh=>absurd ((az (Q:=λu=>sC x.2 u)).2 h.uniq) hq⟩
 have Y:=(az (Q:=λu=>sC x.2 u)).1 hq;have h9:(qK (.h14 (Io x.1.2.2.2.1:Int) (x,()))).val=Q1 (.inl (.h19 ((0+1:Nat):Int) (x,()))):=by
  simp only[qK,Q8,zB];rfl
 have h4:=(h3.trans D).trans (zL.of h9);have H:∀i,i+1<Io x.2->(xf (zN x.1.2.2.1 (getD x.2 i (zi ze.sl))) (zN x.1.2.2.1 (getD x.2 (i+1) (zi ze.sl)))↔Q0 (GT.gt (α:=Int) (aX (zN x.1.2.2.1 (getD x.2 i (zi ze.sl))) (zN x.1.2.2.1 (getD x.2 (i+1) (zi ze.sl)))) 0)=Q4):=by
  intro i I;have Z:i<Io x.2:=by omega
  have m1:=bN (d:=zi ze.sl) Z;have m2:=bN (d:=zi ze.sl) I;obtain⟨l1,f1,n1⟩:=cX (o _ m1);obtain⟨l2,f2,_⟩:=cX (o _ m2);have hT:=(iS x.1).1 G;obtain⟨k1,k2⟩:=hT.key;have h5:toNat x.1.2.2.1<(getD x.2 i (zi ze.sl)).length:=by rw[l1];omega
  have x4:toNat x.1.2.2.1<(getD x.2 (i+1) (zi ze.sl)).length:=by rw[l2];omega
  unfold xf;constructor
  ·intro h;exact aq ow
  ·intro h;have h:¬GT.gt (α:=Int) (aX (zN x.1.2.2.1 (getD x.2 i (zi ze.sl))) (zN x.1.2.2.1 (getD x.2 (i+1) (zi ze.sl)))) 0:=of_decide_eq_false h;by_cases h0:@Eq Int (aX (zN x.1.2.2.1 (getD x.2 i (zi ze.sl))) (zN x.1.2.2.1 (getD x.2 (i+1) (zi ze.sl)))) 0
   ·exfalso;have L:=uj (f1 _ (bN h5)) (f2 _ (bN x4)) h0;have z:=n1 _ h5 hT.nn;have hp:=(List.pairwise_iff_getElem.1 S) i (i+1) Z I ow;have e1:getD x.2 i (zi ze.sl)=x.2[i]:=by rw[aU,zU Z,dv]
    have e2:getD x.2 (i+1) (zi ze.sl)=x.2[i+1]:=by rw[aU,zU I,dv]
    rw[e1]at z L;rw[e2]at L;exact hp z L
   ·omega
 have E:=mK (t:=qK) (Φ:=YC) 1 (λi=>.h19 ((i+1:Nat):Int) (x,())) (λi=>xf (zN x.1.2.2.1 (getD x.2 i (zi ze.sl))) (zN x.1.2.2.1 (getD x.2 (i+1) (zi ze.sl)))) (Io x.2-1) (by
  intro i C _;have Z:i<Io x.2:=by omega
  have I:i+1<Io x.2:=by omega
  have m1:=bN (d:=zi ze.sl) Z;have m2:=bN (d:=zi ze.sl) I;have k1:=M _ X _ m1;have k2:=M _ X _ m2;have o1:∀r∈x.2,(zN x.1.2.2.1 r).2.2.length<=1000000:=by
   intro r O;by_cases h:toNat x.1.2.2.1<Io r
   ·exact(B.vals r O _ (bN h)).2.2
   ·unfold zN;rw[aU,eB ow];simp[zi]
  have T:(qK (.h19 ((i+1:Nat):Int) (x,()))).val=if Q0 (GT.gt (α:=Int) (aX (zN x.1.2.2.1 (getD x.2 i (zi ze.sl))) (zN x.1.2.2.1 (getD x.2 (i+1) (zi ze.sl)))) 0)=Q3 then Q1 (.inr (.int .i64 15,[]))else Q1 (.inl (.h19 ((i+1+1:Nat):Int) (x,()))):=by
   simp only[qK,zk,lW i um];simp only[Q8,zE I,zt I,zt Z,aD,Prod.eta,nC B.t G k1,nC B.t G k2,rZ B.t G k1,rZ B.t G k2,lE (o1 _ m1) (o1 _ m2),nu (o1 _ m1) (o1 _ m2),if_true];rw[zr (i+1) um]
  rcases zM (Q0 (GT.gt (α:=Int) (aX (zN x.1.2.2.1 (getD x.2 i (zi ze.sl))) (zN x.1.2.2.1 (getD x.2 (i+1) (zi ze.sl)))) 0))with c|c
  ·exact .inr ⟨λh=>(by rw[(H i I).1 h]at c;cases c),_,zV.of (by rw[T,if_pos c]),15,rfl,by decide⟩
  ·exact .inl ⟨(H i I).2 c,zL.of (by rw[T,if_neg (by rw[c];simp)])⟩)
 rcases E with⟨O,E⟩|⟨O,r,E,e,L,z⟩
 case inr=>
  subst L;exact⟨e,zy C (h4.ends E) ow rfl,λh=>absurd h z,λh=>absurd h.rise O⟩
 have x0:(qK (.h19 ((Io x.2-1+1:Nat):Int) (x,()))).val=Q1 (.inr (.int .i64 0,[])):=by
  simp only[qK,Q8];rw[if_neg sg]
 exact⟨0,zy C (h4.ends (E.ends (zV.of x0))) ow rfl,λ_=>⟨G,x3,o,S,Y,O⟩,λ_=>rfl⟩
end Cad
