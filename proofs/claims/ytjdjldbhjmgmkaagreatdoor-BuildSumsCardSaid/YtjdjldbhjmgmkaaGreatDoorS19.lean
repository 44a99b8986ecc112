/- The document's values of expressions are the program's. -/
import Derived.Test.YtjdjldbhjmgmkaaGreatDoorS18
namespace Cad
open Go Go.Proofs
open List renaming length→Io
open IntKind renaming wrap→Γ,i64→Δ
open Tr renaming val→Q8
open Bool renaming false→Q4,true→Q3
open Option renaming none→Q2,some→Q1
open Decidable renaming decide→Q0
open Int (toNat)
open List (getD)
open Tr (chk br re)
open AV (nils agg tup ptr kb str sl)
set_option maxHeartbeats 4000000
theorem iB:mb (0,0,[]):=⟨by decide,by decide,sw⟩
theorem mY(b:Bool):mb (yv b):=by cases b<;>exact⟨by decide,by decide,by simp[yv]⟩
theorem Vv:mb (3,0,[]):=mY Q4
theorem Vw:mb (3,1,[]):=mY Q3
theorem zbP(a b:zp):mb (FI a b):=by unfold FI;rw[nZ,lU,lV];split;exact Vv;split;exact Vw;exact iB
theorem zjq(a b:zp):mb (vOr a b):=by unfold vOr;rw[nZ,lU,lV];split;exact Vw;split;exact Vv;exact iB
theorem zbR(a:zp):mb (AS a):=by unfold AS;rw[nZ,lU,lV];split;exact Vv;split;exact Vw;exact iB
theorem zjp(a b:zp):mb (mS a b):=by unfold mS;split;exact iB;rw[jC];exact mY _
theorem Vx(a b:zp):mb (te a b):=by unfold te;split;exact iB;rw[jC];exact mY _
theorem N0(a:zp):mb (jK a):=by unfold jK;rw[jC];exact mY _
theorem KP(n:Int):mb (1,Γ Δ n,[]):=by
 refine⟨?_,?_,sw⟩
 .show(-9223372036854775808:Int)<=Γ Δ n;rw[dP];omega
 .show Γ Δ n<=(9223372036854775807:Int);rw[dP];omega
theorem KO(a b:zp):mb (mD a b):=by unfold mD;split;exact iB;split;exact iB;exact KP _
theorem Tc(a b:zp):mb (mT a b):=by unfold mT;split;exact iB;split;exact iB;exact KP _
def ui(c:aN)(h:zt)(s:zH):zp:=if(cond (Q0 (ay c s<0)) Q3 (Q0 (ay c s>=(↑h.length:Int))))=Q3 then(0,0,[])else h.getD (toNat (ay c s)) (zi zf)
variable {cols:aN}{row:zt}{e:za}
theorem PD{g c}(u:Io cols<=1000000):∃r k,zY (Az g c) k (.h6 cols row ((0:Nat):Int) (e,()) ((0,0,[]),())) r/\k<=100000000/\aU r.2 [zf] r.1=Q1 (ui cols row (za.s e),()):=by
 have o:=mF (t:=Az g c) (Φ:=λr=>aU r.2 [zf] r.1=Q1 (ui cols row (za.s e),())) 1 (λi=>.h6 cols row (i:Int) (e,()) ((0,0,[]),())) (λi=>((getD cols i (zi zl)).1==za.s e)=Q4) (Io cols) (by
  intro i b q;have j:(Az g c (.h6 cols row (i:Int) (e,()) ((0,0,[]),()))).val=if((getD cols i (zi zl)).1==za.s e)=Q3 then(ite (Q0 ((i:Int)<(Io row:Int))=Q3) (ite (zK (i:Int) (Io row)=Q3) (Q1 (.inr (.agg [.int .i64 (getD row i (zi zf)).1,.int .i64 (getD row i (zi zf)).2.1,.str (getD row i (zi zf)).2.2],[]))) Q2) (Q1 (.inr (.agg [.int .i64 0,.int .i64 0,.str []],[]))))else Q1 (.inl (.h6 cols row ((i+1:Nat):Int) (e,()) ((0,0,[]),()))):=by
   simp only[Az,Q8,zI b,zx b,aJ,zh];rw[zu i um]
  rcases zQ ((getD cols i (zi zl)).1==za.s e)with h|h
  .have x:=nz (p:=λc:bR=>c.1==za.s e) (d:=zi zl) cols 0 i b h q;have x:ay cols (za.s e)=(i:Int):=by unfold ay;rw[x];simp
   by_cases m:i<Io row
   .refine .inr ⟨by rw[h];simp,_,zY.of (by rw[j,ze h,ze (zI m),ze (zx m)]),?_⟩;unfold ui;rw[x,zg (by rw[z7 (by omega:¬(i:Int)<0),z7 (by omega:¬(i:Int)>=(Io row:Int))];simp),aJ];rfl
   .refine .inr ⟨by rw[h];simp,_,zY.of (by rw[j,ze h,zg (by rw[aQ];omega)]),?_⟩;unfold ui;rw[x,ze (by rw[z7 (by omega:¬(i:Int)<0),zy (by omega:(i:Int)>=(Io row:Int))];rfl)];rfl
  .exact .inl ⟨h,zJ.of (by rw[j,zg (by rw[h];simp)])⟩)
 rcases o with⟨l,a⟩|⟨l,r,a,n⟩
 .have x:=nA (p:=λc:bR=>c.1==za.s e) (d:=zi zl) cols 0 l;refine⟨(.agg [.int .i64 0,.int .i64 0,.str []],[]),_,a.ends (zY.of ?_),ow,?_⟩
  .simp only[Az,Q8,zG];rfl
  .unfold ui;rw[show ay cols (za.s e)=(-1:Int)from x];rfl
 .exact⟨r,_,a,ow,n⟩
variable {h:zt}{s:zH}
theorem zbQ{c:aN}(a:∀v∈h,mb v):mb (ui c h s):=by
 unfold ui;split
 .exact iB
 .by_cases x:toNat (ay c s)<Io h
  .exact a _ (ch x)
  .rw[aY,eZ ow];exact iB
theorem rR{cols:aN}{h:zt}(F:Io cols<=1000000)(G:∀v∈h,mb v):∀(N d M:Nat)(e:za),d<=N->d<=M->cH d e=Q3->ut e->cG N e cols h=Q1 (dO M cols h e,())/\mb (dO M cols h e)
 |_,0,_,_,_,_,i,_=>by cases i
 |0,d+1,_,_,i,_,_,_=>zC i ow
 |_,d+1,0,_,_,i,_,_=>zC i ow
 | N+1,d+1,M+1,e,W,X,i,z=>by
  rw[cG,dO];unfold Sk;cases fX i with
  | lit v Y=>
   rw[ut]at z;exact⟨rfl,z.1⟩
  | col s O L=>
   obtain⟨r,k,P,S,T⟩:=PD (g:=λn o p=>g9 (cG N n o p)) (c:=λn o p=>(cG N n o p).isSome) (cols:=cols) (row:=h) (e:=.mk eL (0,0,[]) s []) F;exact⟨zA EB P S T,zbQ G⟩
  | one U a I H=>
   rw[ut,lm]at z;obtain⟨C,m⟩:=rR F G N d M a ow ow H z.2.2.1;unfold an bY;generalize E:(λn o p=>g9 (cG N n o p))=g;generalize D:(λn o p=>(cG N n o p).isSome)=c;have u:g a cols h=dO M cols h a:=by rw[<-E];show g9 (cG N a cols h)=_;rw[C];rfl
   have q:c a cols h=Q3:=by rw[<-D];show(cG N a cols h).isSome=_;rw[C];rfl
   rcases I with rfl|rfl
   .have j:sG (dO M) cols h (.mk ni (0,0,[]) [] [a])=AS (dO M cols h a):=rfl;have l:(qj g c (.mk ni (0,0,[]) [] [a]) cols h).val=if c (zr a) cols h=Q3 then(ite (Je (g (zr a) cols h)=Q3) (Q1 (.inr (.agg [.int .i64 (Hs (g (zr a) cols h)).1,.int .i64 (Hs (g (zr a) cols h)).2.1,.str (Hs (g (zr a) cols h)).2.2],[]))) Q2)else Q2:=rfl
    rw[j,l,zn,q,u];generalize dO M cols h a=x at*;rw[Zr,zdL];exact⟨rfl,zbR _⟩
   .have j:sG (dO M) cols h (.mk po (0,0,[]) [] [a])=jK (dO M cols h a):=rfl;have l:(qj g c (.mk po (0,0,[]) [] [a]) cols h).val=if c (zr a) cols h=Q3 then(ite (mK (g (zr a) cols h)=Q3) (ite ((!sY (g (zr a) cols h))=Q3) (Q1 (.inr (.agg [.int .i64 (bn Q3).1,.int .i64 (bn Q3).2.1,.str (bn Q3).2.2],[]))) (ite (lJ ((g (zr a) cols h).1==0)=Q3) (Q1 (.inr (.agg [.int .i64 (bn ((g (zr a) cols h).1==0)).1,.int .i64 (bn ((g (zr a) cols h).1==0)).2.1,.str (bn ((g (zr a) cols h).1==0)).2.2],[]))) Q2)) Q2)else Q2:=rfl
    rw[j,l,zn,q,u];generalize dO M cols h a=x at*;refine⟨?_,N0 _⟩;rw[lI m.2.2,oS m.2.2,oU,iq,iq];unfold jK aA;rw[jC];cases bf x
    .rfl
    .rfl
  | two U a b I H J=>
   rw[ut,lm,lm]at z;obtain⟨C,m⟩:=rR F G N d M a ow ow H z.2.2.1;obtain⟨kb,w⟩:=rR F G N d M b ow ow J z.2.2.2.1;unfold an bY;generalize E:(λn o p=>g9 (cG N n o p))=g;generalize D:(λn o p=>(cG N n o p).isSome)=c;have u:g a cols h=dO M cols h a:=by rw[<-E];show g9 (cG N a cols h)=_;rw[C];rfl
   have q:c a cols h=Q3:=by rw[<-D];show(cG N a cols h).isSome=_;rw[C];rfl
   have B:g b cols h=dO M cols h b:=by rw[<-E];show g9 (cG N b cols h)=_;rw[kb];rfl
   have A:c b cols h=Q3:=by rw[<-D];show(cG N b cols h).isSome=_;rw[kb];rfl
   rcases I with rfl|rfl|rfl|rfl|rfl|rfl
   .have j:sG (dO M) cols h (.mk iw (0,0,[]) [] [a,b])=FI (dO M cols h a) (dO M cols h b):=rfl;have l:(qj g c (.mk iw (0,0,[]) [] [a,b]) cols h).val=if c (zr a) cols h=Q3 then(ite (c (zr b) cols h=Q3) (ite (Jb (g (zr a) cols h) (g (zr b) cols h)=Q3) (Q1 (.inr (.agg [.int .i64 (Hq (g (zr a) cols h) (g (zr b) cols h)).1,.int .i64 (Hq (g (zr a) cols h) (g (zr b) cols h)).2.1,.str (Hq (g (zr a) cols h) (g (zr b) cols h)).2.2],[]))) Q2) Q2)else Q2:=rfl
    rw[j,l,zn,zn,q,A,u,B];generalize dO M cols h a=x at*;generalize dO M cols h b=y at*;rw[Zp,zdK];exact⟨rfl,zbP _ _⟩
   .have j:sG (dO M) cols h (.mk uD (0,0,[]) [] [a,b])=vOr (dO M cols h a) (dO M cols h b):=rfl;have l:(qj g c (.mk uD (0,0,[]) [] [a,b]) cols h).val=if c (zr a) cols h=Q3 then(ite (c (zr b) cols h=Q3) (ite (Si (g (zr a) cols h) (g (zr b) cols h)=Q3) (Q1 (.inr (.agg [.int .i64 (Uy (g (zr a) cols h) (g (zr b) cols h)).1,.int .i64 (Uy (g (zr a) cols h) (g (zr b) cols h)).2.1,.str (Uy (g (zr a) cols h) (g (zr b) cols h)).2.2],[]))) Q2) Q2)else Q2:=rfl
    rw[j,l,zn,zn,q,A,u,B];generalize dO M cols h a=x at*;generalize dO M cols h b=y at*;rw[zdM,zl2];exact⟨rfl,zjq _ _⟩
   .have j:sG (dO M) cols h (.mk [61] (0,0,[]) [] [a,b])=mS (dO M cols h a) (dO M cols h b):=rfl;have l:(qj g c (.mk [61] (0,0,[]) [] [a,b]) cols h).val=if c (zr a) cols h=Q3 then(ite (c (zr b) cols h=Q3) (ite (vF (g (zr a) cols h) (g (zr b) cols h)=Q3) (Q1 (.inr (.agg [.int .i64 (rJ (g (zr a) cols h) (g (zr b) cols h)).1,.int .i64 (rJ (g (zr a) cols h) (g (zr b) cols h)).2.1,.str (rJ (g (zr a) cols h) (g (zr b) cols h)).2.2],[]))) Q2) Q2)else Q2:=rfl
    rw[j,l,zn,zn,q,A,u,B];generalize dO M cols h a=x at*;generalize dO M cols h b=y at*;rw[PA m.2.2 w.2.2,Uv m.2.2 w.2.2];exact⟨rfl,zjp _ _⟩
   .have j:sG (dO M) cols h (.mk [60] (0,0,[]) [] [a,b])=te (dO M cols h a) (dO M cols h b):=rfl;have l:(qj g c (.mk [60] (0,0,[]) [] [a,b]) cols h).val=if c (zr a) cols h=Q3 then(ite (c (zr b) cols h=Q3) (ite (Bg (g (zr a) cols h) (g (zr b) cols h)=Q3) (Q1 (.inr (.agg [.int .i64 (xW (g (zr a) cols h) (g (zr b) cols h)).1,.int .i64 (xW (g (zr a) cols h) (g (zr b) cols h)).2.1,.str (xW (g (zr a) cols h) (g (zr b) cols h)).2.2],[]))) Q2) Q2)else Q2:=rfl
    rw[j,l,zn,zn,q,A,u,B];generalize dO M cols h a=x at*;generalize dO M cols h b=y at*;rw[Uw m.2.2 w.2.2,Zq m.2.2 w.2.2];exact⟨rfl,Vx _ _⟩
   .have j:sG (dO M) cols h (.mk [43] (0,0,[]) [] [a,b])=mD (dO M cols h a) (dO M cols h b):=rfl;have l:(qj g c (.mk [43] (0,0,[]) [] [a,b]) cols h).val=if c (zr a) cols h=Q3 then(ite (c (zr b) cols h=Q3) (ite (Bh (g (zr a) cols h) (g (zr b) cols h)=Q3) (Q1 (.inr (.agg [.int .i64 (xX (g (zr a) cols h) (g (zr b) cols h)).1,.int .i64 (xX (g (zr a) cols h) (g (zr b) cols h)).2.1,.str (xX (g (zr a) cols h) (g (zr b) cols h)).2.2],[]))) Q2) Q2)else Q2:=rfl
    rw[j,l,zn,zn,q,A,u,B];generalize dO M cols h a=x at*;generalize dO M cols h b=y at*;rw[UA m w,Zs m w];exact⟨rfl,KO _ _⟩
   .have j:sG (dO M) cols h (.mk [45] (0,0,[]) [] [a,b])=mT (dO M cols h a) (dO M cols h b):=rfl;have l:(qj g c (.mk [45] (0,0,[]) [] [a,b]) cols h).val=if c (zr a) cols h=Q3 then(ite (c (zr b) cols h=Q3) (ite (vH (g (zr a) cols h) (g (zr b) cols h)=Q3) (Q1 (.inr (.agg [.int .i64 (rK (g (zr a) cols h) (g (zr b) cols h)).1,.int .i64 (rK (g (zr a) cols h) (g (zr b) cols h)).2.1,.str (rK (g (zr a) cols h) (g (zr b) cols h)).2.2],[]))) Q2) Q2)else Q2:=rfl
    rw[j,l,zn,zn,q,A,u,B];generalize dO M cols h a=x at*;generalize dO M cols h b=y at*;rw[PB m w,Ux m w];exact⟨rfl,Tc _ _⟩
theorem rC:∀(N k:Nat)(e:za)(n:Nat),k<=12->n<=60->(iy N e ((13:Int)-k) n).1=Q3->cH k e=Q3/\(iy N e ((13:Int)-k) n).2=((n+nE k e:Nat):Int)/\n+nE k e<=60
 |0,_,_,_,_,_,h=>by cases h
 | N+1,0,e,n,_,_,h=>by
  rw[iy]at h;unfold AQ at h;rw[ze EB]at h;cases h
 | N + 1,k+1,.mk o v s l,n,L,M,h=>by
  have J:Γ Δ ((n:Int)+1)=((n+1:Nat):Int):=zu n um;have A:Γ Δ ((13:Int)-((k+1:Nat):Int)+1)=(13:Int)-(k:Int):=by rw[dP];omega
  have E:Q0 ((13:Int)-((k+1:Nat):Int)>12)=Q4:=z7 ow;rw[iy]at h|-
  have e0:∀m:Int,AQ (iy N) (.mk o v s l) m n=if(cond (Q0 (m>12)) Q3 (cond (Q0 (((n+1:Nat):Int)>60)) Q3 ((↑l.length:Int)!=dp o)))=Q3 then(Q4,((n+1:Nat):Int))else
    if(o==ou)=Q3 then(cond (s==[]) (bf v) Q4,((n+1:Nat):Int))else
    if(o==eL)=Q3 then(cond (bu v) (cond (er s) (!jy s) Q4) Q4,((n+1:Nat):Int))else
    if(cond (!bu v) Q3 (!s==[]))=Q3 then(Q4,((n+1:Nat):Int))else pH (iy N) m l ((n+1:Nat):Int):=by
   intro m;unfold AQ;rw[J];rfl
  rw[e0,E]at h|-;rcases zQ (Q0 (((n+1:Nat):Int)>60))with q|q
  .rw[q,ze EB]at h;cases h
  rcases zQ ((↑l.length:Int)!=dp o)with u|u
  .rw[q,u,ze EB]at h;cases h
  have B:n+1<=60:=by simp at q;omega
  have j:(Io l:Int)=dp o:=by simpa using u
  rw[q,u,zg sw]at h|-;rcases mv o with⟨p,d⟩|⟨p,d⟩|⟨p,d⟩|p
  .have F:l=[]:=AG ow;subst F;rcases d with rfl|rfl
   .rw[ze EB]at h|-;obtain⟨a,b⟩:=cK h;refine⟨?_,by simp[nE],by simp[nE];omega⟩;simp[cH,b,bF a]
   .rw[zg (by decide),ze EB]at h|-;obtain⟨a,b⟩:=cK h;obtain⟨b,c⟩:=cK b;refine⟨?_,by simp[nE],by simp[nE];omega⟩;have D:jy s=Q4:=by simpa using c
    simp[cH,a,b,D]
  .obtain⟨a,rfl⟩:∃a,l=[a]:=List.length_eq_one_iff.1 ow;have o1:(o==ou)=Q4:=by rcases d with rfl|rfl<;>rfl
   have o2:(o==eL)=Q4:=by rcases d with rfl|rfl<;>rfl
   have o3:(cond (o==ni) Q3 (o==po))=Q3:=by rcases d with rfl|rfl<;>rfl
   rw[zg (by rw[o1];simp),zg (by rw[o2];simp)]at h|-;rcases zQ (bu v)with x|x
   .rcases zQ (s==[])with g|g
    .rw[x,g,zg sw]at h|-;rw[pH,A]at h|-;rcases zQ (iy N a ((13:Int)-(k:Int)) ((n+1:Nat):Int)).1 with i|i
     .obtain⟨y,z,C⟩:=rC N k a (n+1) ow B i;rw[i,zg sw];refine⟨by simp[cH,o1,o2,o3,x,g,y],?_,by simp[nE];omega⟩;rw[pH];show(iy N a ((13:Int)-(k:Int)) ((n+1:Nat):Int)).2=_;rw[z];simp[nE];omega
     .rw[i,ze EB]at h;cases h
    .rw[x,g,ze EB]at h;cases h
   .rw[x,ze EB]at h;cases h
  .obtain⟨a,b,rfl⟩:∃a b,l=[a,b]:=by
    match l,j with
    |[a,b],_=>exact⟨a,b,rfl⟩
    |[],j=>exact zC j (by rw[p];simp)
    |[_],j=>exact zC j (by rw[p];simp)
    |_::_::_::_,j=>exact zC j (by rw[p];simp;omega)
   have o1:(o==ou)=Q4:=by rcases d with rfl|rfl|rfl|rfl|rfl|rfl<;>rfl
   have o2:(o==eL)=Q4:=by rcases d with rfl|rfl|rfl|rfl|rfl|rfl<;>rfl
   have o3:(cond (o==ni) Q3 (o==po))=Q4:=by rcases d with rfl|rfl|rfl|rfl|rfl|rfl<;>rfl
   have I:FG o=Q3:=by rcases d with rfl|rfl|rfl|rfl|rfl|rfl<;>rfl
   rw[zg (by rw[o1];simp),zg (by rw[o2];simp)]at h|-;rcases zQ (bu v)with x|x
   .rcases zQ (s==[])with g|g
    .rw[x,g,zg sw]at h|-;rw[pH,A]at h|-;rcases zQ (iy N a ((13:Int)-(k:Int)) ((n+1:Nat):Int)).1 with i|i
     .obtain⟨y,z,C⟩:=rC N k a (n+1) ow B i;rw[i,zg sw]at h|-;rw[z,pH,A]at h|-;rcases zQ (iy N b ((13:Int)-(k:Int)) ((n+1+nE k a:Nat):Int)).1 with w|w
      .obtain⟨G,H,O⟩:=rC N k b (n+1+nE k a) ow C w;rw[w,zg sw];refine⟨by simp[cH,o1,o2,o3,I,x,g,y,G],?_,by simp[nE];omega⟩;rw[pH];show(iy N b ((13:Int)-(k:Int)) ((n+1+nE k a:Nat):Int)).2=_;rw[H];simp[nE];omega
      .rw[w,ze EB]at h;cases h
     .rw[i,ze EB]at h;cases h
    .rw[x,g,ze EB]at h;cases h
   .rw[x,ze EB]at h;cases h
  .omega
theorem wV(e:za):dD e=(cond (cH 12 e) (Q0 (nE 12 e<=60)) Q4):=by
 unfold dD;rcases zQ (iy 16 e 1 0).1 with c|c
 .obtain⟨a,_,d⟩:=rC 16 12 e 0 ow ow c;rw[c,a,zy ow];rfl
 .rw[c];rcases zQ (cH 12 e)with g|g
  .rw[g];by_cases h:nE 12 e<=60
   .have:=rD 16 12 e 0 ow ow g ow;have b:(iy 16 e 1 0).1=Q3:=by
     have x:iy 16 e 1 0=(Q3,((0+nE 12 e:Nat):Int)):=this;rw[x]
    rw[b]at c;cases c
   .rw[z7 h];rfl
  .rw[g];rfl
theorem MT(j:ut e):D2 e=Q1 (dD e,()):=by
 have d:Jk e 12=Q1 (cH 12 e,()):=Hx 16 12 e ow ow j;have x:Bn e 12=Q3:=by unfold Bn;rw[d];rfl
 have a:Jj e 12=cH 12 e:=by unfold Jj;rw[d];rfl
 unfold D2 an bY;simp only[zre,Q8,zn,x,a];rw[wV];rcases zQ (cH 12 e)with g|g
 .have i:D4 e=Q1 ((nE 12 e:Int),()):=oY 16 12 e ow ow g;have b:vN e=Q3:=by unfold vN;rw[i];rfl
  have c:Bo e=(nE 12 e:Int):=by unfold Bo;rw[i];rfl
  rw[g,b,c];have:Q0 (((nE 12 e:Nat):Int)<=60)=Q0 (nE 12 e<=60):=by
   by_cases h:nE 12 e<=60
   .rw[zy h,zy ow]
   .rw[z7 h,z7 ow]
  rw[this];rfl
 .rw[g];rfl
theorem nK(h:ut e):tY e=Q3:=by unfold tY;rw[MT h];rfl
theorem rS(h:ut e):D1 e=dD e:=by unfold D1;rw[MT h];rfl
theorem lu(h:dD e=Q3):cH 12 e=Q3:=by rw[wV]at h;exact(cK h).1
theorem MV(x:Io cols<=1000000)(h:dD e=Q3):Bm e cols=Q1 ((ce e cols).1,(ce e cols).2,()):=by have:=rW x 16 12 16 e ow ow (lu h);unfold Bm ce;rw[this,h];rfl
theorem Zt(x:Io cols<=1000000)(a:∀v∈row,mb v)(b:ut e)(h:dD e=Q3):Bk e cols row=Q1 (kx e cols row,()):=by have:=(rR x a 16 12 16 e ow ow (lu h) b).1;unfold Bk kx;rw[this,h];rfl
theorem EJ(e:za):fK 16 e xP=(e.op==[]&&(bu e.v&&(e.s==[]&&Io e.l==0))):=by
 show Nr (fK 15) e xP=_;unfold Nr ON eqV bu;obtain⟨o,v,s,l⟩:=e;simp only[za.op,za.v,za.s,za.l];cases l with
 | nil=>
  simp only[pn,eqL];cases(o==[])<;>cases(v.1==0&&(v.2.1==0&&(v.2.2==[]&&Q3)))<;>cases(s==[])<;>rfl
 | cons x r=>
  have:(((x::r).length:Int)!=(([]:List za).length:Int))=Q3:=by simp;omega
  simp only[this];cases(o==[])<;>cases(v.1==0&&(v.2.1==0&&(v.2.2==[]&&Q3)))<;>cases(s==[])<;>rfl
theorem PE(e:za):Bl e xP=Q1 (fK 16 e xP,()):=by
 rw[EJ];show cr 16 e xP=_;rw[cr];unfold Jh;rcases zQ (e.op==[])with h|h
 .rcases zQ (bu e.v)with c|c
  .rcases zQ (e.s==[])with x|x
   .by_cases b:Io e.l=0
    .refine zA (s:=.h4 0 (e,()) (xP,())) (k:=1) (r:=(.kb Q3,[])) ?_ (zY.of ?_) ow ?_
     .unfold bu at c;simp only[Dk,Q8];have a:(((za.l e).length:Int)!=(([]:List za).length:Int))=Q4:=by simp[b]
      show(ite ((cond (!(e.op==[])) Q3 (cond (!(e.v.1==0&&(e.v.2.1==0&&(e.v.2.2==[]&&Q3)))) Q3 (cond (!(e.s==[])) Q3 (((za.l e).length:Int)!=(([]:List za).length:Int)))))=Q3) _ _)=_;rw[h,c,x,a];rfl
     .have d:Q0 ((0:Int)<((za.l e).length:Int))=Q4:=z7 (by rw[b];omega);simp only[Kj,Kk,BL,Q8];rw[d];rfl
     .rw[h,c,x,b];rfl
    .have a:(((za.l e).length:Int)!=(([]:List za).length:Int))=Q3:=bne_iff_ne.2 (by show((za.l e).length:Int)≠0;omega);have d:((za.l e).length==0)=Q4:=dB.2 b;refine zP (r:=(.kb Q4,[])) ?_ ?_
     .unfold bu at c;simp only[Dk,Q8];show(ite ((cond (!(e.op==[])) Q3 (cond (!(e.v.1==0&&(e.v.2.1==0&&(e.v.2.2==[]&&Q3)))) Q3 (cond (!(e.s==[])) Q3 (((za.l e).length:Int)!=(([]:List za).length:Int)))))=Q3) _ _)=_;rw[h,c,x,a];rfl
     .rw[h,c,x,d];rfl
   .refine zP (r:=(.kb Q4,[])) ?_ ?_
    .unfold bu at c;simp only[Dk,Q8];show(ite ((cond (!(e.op==[])) Q3 (cond (!(e.v.1==0&&(e.v.2.1==0&&(e.v.2.2==[]&&Q3)))) Q3 (cond (!(e.s==[])) Q3 (((za.l e).length:Int)!=(([]:List za).length:Int)))))=Q3) _ _)=_;rw[h,c,x];rfl
    .rw[h,c,x];rfl
  .refine zP (r:=(.kb Q4,[])) ?_ ?_
   .unfold bu at c;simp only[Dk,Q8];show(ite ((cond (!(e.op==[])) Q3 (cond (!(e.v.1==0&&(e.v.2.1==0&&(e.v.2.2==[]&&Q3)))) Q3 (cond (!(e.s==[])) Q3 (((za.l e).length:Int)!=(([]:List za).length:Int)))))=Q3) _ _)=_;rw[h,c];rfl
   .rw[h,c];rfl
 .refine zP (r:=(.kb Q4,[])) ?_ ?_
  .simp only[Dk,Q8];show(ite ((cond (!(e.op==[])) Q3 (cond (!(e.v.1==0&&(e.v.2.1==0&&(e.v.2.2==[]&&Q3)))) Q3 (cond (!(e.s==[])) Q3 (((za.l e).length:Int)!=(([]:List za).length:Int)))))=Q3) _ _)=_;rw[h];rfl
  .rw[h];rfl
theorem QY(h:dD e=Q3):(e.op==[])=Q4:=by
 have d:=lu h;cases fX d with
 |lit v j=>rfl
 |col s k i=>rfl
 |one o a x c=>rcases x with rfl|rfl<;>rfl
 |two o a b x c g=>rcases x with rfl|rfl|rfl|rfl|rfl|rfl<;>rfl
theorem D8{c:aN}(l:ut e)(o:Io c<=1000000):qD e c=Q1 (iU e c,()):=by
 have j:=PE e;have b:hA e xP=Q3:=by unfold hA;rw[j];rfl
 have d:fB e xP=fK 16 e xP:=by unfold fB;rw[j];rfl
 unfold qD an bY;simp only[zgr,Q8,zn,nK l,rS l];unfold iU;rcases zQ (e.op==[])with x|x
 .have p:dD e=Q4:=by
   rcases zQ (dD e)with h|h
   .rw[QY h]at x;cases x
   .exact h
  have a:ce e c=(0,1):=by unfold ce;rw[p];rfl
  rw[x,b,d,a];rcases zQ (fK 16 e xP)with h|h<;>rw[h]<;>rfl
 .have q:fK 16 e xP=Q4:=by rw[EJ,x];rfl
  rw[x,q];rcases zQ (dD e)with h|h
  .have a:=MV (cols:=c) o h;have g:oW e c=Q3:=by unfold oW;rw[a];rfl
   have i:iQ e c=ce e c:=by unfold iQ;rw[a];rfl
   rw[h,g,i];generalize ce e c=t;obtain⟨t,r⟩:=t;rcases zQ (r==0)with k|k
   .have e0:r=0:=bF k;subst e0;rcases zQ (t==0)with m|m<;>rcases zQ (t==3)with n|n<;>(simp only[bne,m,n];rfl)
   .simp only[bne,k];rfl
  .have a:ce e c=(0,1):=by unfold ce;rw[h];rfl
   rw[h,a];rfl
structure pk (t:ao):Prop where
 name:zU t.1=Q3
 n1:1<=Io t.2.1
 n8:Io t.2.1<=8
 cols:∀i,i<Io t.2.1->zU (getD t.2.1 i (zi zl)).1=Q3/\LE.le (α:=Int) 1 (getD t.2.1 i (zi zl)).2.1/\LE.le (α:=Int) (getD t.2.1 i (zi zl)).2.1 3/\ay t.2.1 (getD t.2.1 i (zi zl)).1=(i:Int)
 uniq:∀u∈t.2.2.2.1,Fi u (Io t.2.1)
 refs:∀f∈t.t.1,Fi f.1 (Io t.2.1)/\zU f.2=Q3
 key:Fi t.2.2.1 (Io t.2.1)
 nn:(getD t.2.1 (toNat t.2.2.1) (zi zl)).2.2=Q3
 chk:iU t.t.2 t.2.1=(0:Int)
variable {t:ao}{i:Nat}
theorem K8:Oh t i=Q3↔(zU (getD t.2.1 i (zi zl)).1=Q3/\LE.le (α:=Int) 1 (getD t.2.1 i (zi zl)).2.1/\LE.le (α:=Int) (getD t.2.1 i (zi zl)).2.1 3/\ay t.2.1 (getD t.2.1 i (zi zl)).1=(i:Int)):=by
 unfold Oh;have e:zV t (getD t.2.1 i (zi zl)).1=ay t.2.1 (getD t.2.1 i (zi zl)).1:=rfl;rw[e];generalize getD t.2.1 i (zi zl)=c;cases zU c.1
 .simp
 .by_cases x:LT.lt (α:=Int) c.2.1 1
  .rw[zy x];simp;intro h;omega
  .rw[z7 x];by_cases a:GT.gt (α:=Int) c.2.1 3
   .rw[zy a];simp;intro _ h;omega
   .rw[z7 a];exact⟨λh=>⟨rfl,ow,ow,by simpa using h⟩,λh=>by simpa using h.2.2.2⟩
theorem lT(t:ao):dM t=Q3↔pk t:=by
 have n:=yg (l:=t.2.2.2.1) (d:=zi zj) (p:=λu=>xF u (Io t.2.1));simp only[qk]at n;have o:(!(cond (!zU t.1) Q3 (cond (Q0 ((↑(Io t.2.1):Int)<1)) Q3 (Q0 ((↑(Io t.2.1):Int)>8)))))=Q3↔(zU t.1=Q3/\1<=Io t.2.1/\Io t.2.1<=8):=by
  cases zU t.1
  .simp
  .by_cases x:(↑(Io t.2.1):Int)<1
   .rw[zy x];simp;omega
   .rw[z7 x];simp;omega
 have x:(List.range (Io t.2.1)).all (Oh t)=Q3↔∀i,i<Io t.2.1->Oh t i=Q3:=by
  rw[dQ];simp only[pS]
 unfold dM;rw[aE,o,aE,x,aE,n,aE,Ng,aE,qk,aE,bd];exact⟨λ⟨⟨a,b,c⟩,d,e,f,g,i,j⟩=>⟨a,b,c,λk m=>K8.1 (d k m),e,f,g,i,j⟩,λh=>⟨⟨h.name,h.n1,h.n8⟩,λk m=>K8.2 (h.cols k m),h.uniq,h.refs,h.key,h.nn,h.chk⟩⟩
structure H5 (t:ao):Prop where
 name:Io t.1<=1000000
 cols:∀c∈t.2.1,Io c.1<=1000000
 ncols:Io t.2.1<=1000
 nuq:Io t.2.2.2.1<=1000
 nrf:Io t.t.1<=1000
 refs:∀f∈t.t.1,Io f.2<=1000000
 chk:ut t.t.2
theorem QT{b:Bool}{d p i:Int}:(cond (!b) Q3 (cond (Q0 (d<1)) Q3 (cond (Q0 (d>3)) Q3 (p !=i))))=Q4↔(b=Q3/\1<=d/\d<=3/\p=i):=by
 cases b
 .simp
 .by_cases x:d<1
  .rw[zy x];simp;omega
  .rw[z7 x];by_cases a:d>3
   .rw[zy a];simp;omega
   .rw[z7 a];exact⟨λh=>⟨rfl,ow,ow,by simpa using h⟩,λh=>by simpa using h.2.2.2⟩
theorem R8{d:Int}:(cond (Q0 (d<0)) Q3 (Q0 (d>=(i:Int))))=Q3↔¬Fi d i:=by
 unfold Fi;by_cases h:d<0
 .rw[zy h];simp;omega
 .rw[z7 h];simp;omega
theorem MZ(l:H5 t):Jo t=Q1 (dM t,()):=by
 have m:=lT t;have N:=l.ncols;have O:=l.nuq;have P:=l.nrf;have w:∀r:au,r=(.kb Q4,[])->¬pk t->aU r.2 [Sh.bool] r.1=Q1 (dM t,()):=by
  intro r n h;have:dM t=Q4:=by
   rcases zQ (dM t)with c|c
   .exact zC (m.1 c) h
   .exact c
  rw[n,this];rfl
 have x:(zkF t).val=if(bif !zU t.1 then true else bif decide ((Io t.2.1:Int)<1)then true else bif decide ((Io t.2.1:Int)>8)then true else bif decide (LT.lt (α:=Int) t.2.2.1 0)then true else bif decide (GE.ge (α:=Int) t.2.2.1 (Io t.2.1:Int))then true else !(getD t.2.1 (toNat t.2.2.1) (zi zl)).2.2)=true then some (.inr (.kb false,[]))else some (.inl (.h5 (Io t.2.1:Int) ((0:Nat):Int) (t,()))):=by
  simp only[zkF,Q8,ct l.name,fq l.name];rw[ze]
  .rfl
  .rcases zQ (zU t.1)with c|c
   .rw[c];by_cases H:LT.lt (α:=Int) t.2.2.1 0
    .rw[zy H];cases Q0 ((Io t.2.1:Int)<1)<;>cases Q0 ((Io t.2.1:Int)>8)<;>rfl
    .by_cases I:GE.ge (α:=Int) t.2.2.1 (Io t.2.1:Int)
     .rw[zy I];cases Q0 ((Io t.2.1:Int)<1)<;>cases Q0 ((Io t.2.1:Int)>8)<;>cases Q0 (LT.lt (α:=Int) t.2.2.1 0)<;>rfl
     .have:zK t.2.2.1 (Io t.2.1)=Q3:=oJ ⟨ow,ow⟩;rw[this];cases Q0 ((Io t.2.1:Int)<1)<;>cases Q0 ((Io t.2.1:Int)>8)<;>cases Q0 (LT.lt (α:=Int) t.2.2.1 0)<;>cases Q0 (GE.ge (α:=Int) t.2.2.1 (Io t.2.1:Int))<;>rfl
   .rw[c];rfl
 rcases zQ (bif !zU t.1 then Q3 else bif Q0 ((Io t.2.1:Int)<1)then Q3 else bif Q0 ((Io t.2.1:Int)>8)then Q3 else bif Q0 (LT.lt (α:=Int) t.2.2.1 0)then Q3 else bif Q0 (GE.ge (α:=Int) t.2.2.1 (Io t.2.1:Int))then Q3 else !(getD t.2.1 (toNat t.2.2.1) (zi zl)).2.2)with c|c
 .rw[ze c]at x;refine zP x (w _ rfl λh=>?_);obtain⟨H,I⟩:=h.key;have T:=h.n1;have U:=h.n8;rw[h.name,z7 ow,z7 ow,z7 ow,z7 ow,h.nn]at c;cases c
 rw[zg (by rw[c];simp)]at x;have g:zU t.1=Q3:=by
  rcases zQ (zU t.1)with k|k
  .exact k
  .rw[k]at c;cases c
 rw[g]at c;have J:1<=Io t.2.1:=by
  by_cases k:(Io t.2.1:Int)<1
  .rw[zy k]at c;cases c
  .omega
 rw[z7 (by omega:¬(Io t.2.1:Int)<1)]at c;have L:Io t.2.1<=8:=by
  by_cases k:(Io t.2.1:Int)>8
  .rw[zy k]at c;cases c
  .omega
 rw[z7 (by omega:¬(Io t.2.1:Int)>8)]at c;have B:LE.le (α:=Int) 0 t.2.2.1:=by
  by_cases k:LT.lt (α:=Int) t.2.2.1 0
  .rw[zy k]at c;cases c
  .omega
 rw[z7 (by omega:¬LT.lt (α:=Int) t.2.2.1 0)]at c;have C:LT.lt (α:=Int) t.2.2.1 (Io t.2.1:Int):=by
  by_cases k:GE.ge (α:=Int) t.2.2.1 (Io t.2.1:Int)
  .rw[zy k]at c;cases c
  .omega
 rw[z7 (by omega:¬GE.ge (α:=Int) t.2.2.1 (Io t.2.1:Int))]at c;have D:(getD t.2.1 (toNat t.2.2.1) (zi zl)).2.2=Q3:=by simpa using c
 have q:=mF (t:=sF) (Φ:=λr=>r=(.kb Q4,[])) 1 (λi=>.h5 (Io t.2.1:Int) (i:Int) (t,())) (λi=>zU (getD t.2.1 i (zi zl)).1=Q3/\LE.le (α:=Int) 1 (getD t.2.1 i (zi zl)).2.1/\LE.le (α:=Int) (getD t.2.1 i (zi zl)).2.1 3/\ay t.2.1 (getD t.2.1 i (zi zl)).1=(i:Int)) (Io t.2.1) (by
  intro i x _;have e:=l.cols _ (ch (d:=zi zl) x);have j:(sF (.h5 (Io t.2.1:Int) (i:Int) (t,()))).val=if(bif !zU (getD t.2.1 i (zi zl)).1 then Q3 else bif Q0 (LT.lt (α:=Int) (getD t.2.1 i (zi zl)).2.1 1)then Q3 else bif Q0 (GT.gt (α:=Int) (getD t.2.1 i (zi zl)).2.1 3)then Q3 else ay t.2.1 (getD t.2.1 i (zi zl)).1!=(i:Int))=Q3 then Q1 (.inr (.kb Q4,[]))else Q1 (.inl (.h5 (Io t.2.1:Int) ((i+1:Nat):Int) (t,()))):=by
   simp only[sF,Q8,zI x,zx x,aJ,ct e,fq e,oZ (show Io t.2.1<=1000000 by omega),rZ (show Io t.2.1<=1000000 by omega),zh];rw[ze,zu i um];cases zU (getD t.2.1 i (zi zl)).1<;>cases Q0 (LT.lt (α:=Int) (getD t.2.1 i (zi zl)).2.1 1)<;>cases Q0 (GT.gt (α:=Int) (getD t.2.1 i (zi zl)).2.1 3)<;>rfl
  rcases zQ (bif !zU (getD t.2.1 i (zi zl)).1 then Q3 else bif Q0 (LT.lt (α:=Int) (getD t.2.1 i (zi zl)).2.1 1)then Q3 else bif Q0 (GT.gt (α:=Int) (getD t.2.1 i (zi zl)).2.1 3)then Q3 else ay t.2.1 (getD t.2.1 i (zi zl)).1!=(i:Int))with c|c
  .refine .inr ⟨λh=>?_,_,zY.of (by rw[j,ze c]),rfl⟩;rw[QT.2 h]at c;cases c
  .exact .inl ⟨QT.1 c,zJ.of (by rw[j,zg (by rw[c];simp)])⟩)
 rcases q with⟨E,q⟩|⟨E,r,q,n⟩
 case inr=>exact zA x q ow (w _ n λh=>E h.cols)
 have S:(sF (.h5 (Io t.2.1:Int) (Io t.2.1:Int) (t,()))).val=Q1 (.inl (.h11 (Io t.2.1:Int) ((0:Nat):Int) (t,()))):=by
  simp only[sF,Q8,zG];rfl
 have s:=q.trans (zJ.of S);have a:=mF (t:=sF) (Φ:=λr=>r=(.kb Q4,[])) 1 (λi=>.h11 (Io t.2.1:Int) (i:Int) (t,())) (λi=>Fi (getD t.2.2.2.1 i (zi zj)) (Io t.2.1)) (Io t.2.2.2.1) (by
  intro i x _;have j:(sF (.h11 (Io t.2.1:Int) (i:Int) (t,()))).val=if(bif Q0 (LT.lt (α:=Int) (getD t.2.2.2.1 i (zi zj)) 0)then Q3 else Q0 (GE.ge (α:=Int) (getD t.2.2.2.1 i (zi zj)) (Io t.2.1:Int)))=Q3 then Q1 (.inr (.kb Q4,[]))else Q1 (.inl (.h11 (Io t.2.1:Int) ((i+1:Nat):Int) (t,()))):=by
   simp only[sF,Q8,zI x,zx x,aJ,zh];rw[ze,zu i um];cases Q0 (LT.lt (α:=Int) (getD t.2.2.2.1 i (zi zj)) 0)<;>rfl
  by_cases h:Fi (getD t.2.2.2.1 i (zi zj)) (Io t.2.1)
  .exact .inl ⟨h,zJ.of (by rw[j,zg (by rw[z7 (by have:=h.1;omega),z7 (by have:=h.2;omega)];simp)])⟩
  .refine .inr ⟨h,_,zY.of (by rw[j,ze (R8.2 h)]),rfl⟩)
 rcases a with⟨p,a⟩|⟨p,r,a,n⟩
 case inr=>exact zA x (s.ends a) ow (w _ n λh=>p ((aD (Q:=λu=>Fi u (Io t.2.1))).2 h.uniq))
 have F:(sF (.h11 (Io t.2.1:Int) (Io t.2.2.2.1:Int) (t,()))).val=Q1 (.inl (.h16 (Io t.2.1:Int) ((0:Nat):Int) (t,()))):=by
  simp only[sF,Q8,zG];rfl
 have v:=(s.trans a).trans (zJ.of F);have b:=mF (t:=sF) (Φ:=λr=>r=(.kb Q4,[])) 1 (λi=>.h16 (Io t.2.1:Int) (i:Int) (t,())) (λi=>Fi (getD t.t.1 i (zi zB)).1 (Io t.2.1)/\zU (getD t.t.1 i (zi zB)).2=Q3) (Io t.t.1) (by
  intro i x _;have e:=l.refs _ (ch (d:=zi zB) x);have j:(sF (.h16 (Io t.2.1:Int) (i:Int) (t,()))).val=if(bif Q0 (LT.lt (α:=Int) (getD t.t.1 i (zi zB)).1 0)then Q3 else bif Q0 (GE.ge (α:=Int) (getD t.t.1 i (zi zB)).1 (Io t.2.1:Int))then Q3 else !zU (getD t.t.1 i (zi zB)).2)=Q3 then Q1 (.inr (.kb Q4,[]))else Q1 (.inl (.h16 (Io t.2.1:Int) ((i+1:Nat):Int) (t,()))):=by
   simp only[sF,Q8,zI x,zx x,aJ,ct e,fq e,zh];rw[ze,zu i um];cases Q0 (LT.lt (α:=Int) (getD t.t.1 i (zi zB)).1 0)<;>cases Q0 (GE.ge (α:=Int) (getD t.t.1 i (zi zB)).1 (Io t.2.1:Int))<;>rfl
  by_cases h:Fi (getD t.t.1 i (zi zB)).1 (Io t.2.1)
  .rcases zQ (zU (getD t.t.1 i (zi zB)).2)with c|c
   .exact .inl ⟨⟨h,c⟩,zJ.of (by rw[j,c,zg (by rw[z7 (by have:=h.1;omega),z7 (by have:=h.2;omega)];simp)])⟩
   .exact .inr ⟨λy=>(by rw[y.2]at c;cases c),_,zY.of (by rw[j,c,ze (by rw[z7 (by have:=h.1;omega),z7 (by have:=h.2;omega)];rfl)]),rfl⟩
  .have M:(bif Q0 (LT.lt (α:=Int) (getD t.t.1 i (zi zB)).1 0)then Q3 else bif Q0 (GE.ge (α:=Int) (getD t.t.1 i (zi zB)).1 (Io t.2.1:Int))then Q3 else !zU (getD t.t.1 i (zi zB)).2)=Q3:=by
    have:=R8.2 h;rcases zQ (Q0 (LT.lt (α:=Int) (getD t.t.1 i (zi zB)).1 0))with k|k
    .rw[k];rfl
    .rw[k]at this|-;rw[show Q0 (GE.ge (α:=Int) (getD t.t.1 i (zi zB)).1 (Io t.2.1:Int))=Q3 from this];rfl
   exact .inr ⟨λy=>h y.1,_,zY.of (by rw[j,ze M]),rfl⟩)
 rcases b with⟨o,b⟩|⟨o,r,b,n⟩
 case inr=>exact zA x (v.ends b) ow (w _ n λh=>o ((aD (Q:=λf:bW=>Fi f.1 (Io t.2.1)/\zU f.2=Q3)).2 h.refs))
 have z:D7 t.t.2 t.2.1=Q3:=by unfold D7;rw[D8 l.chk ow];rfl
 have A:Jp t.t.2 t.2.1=iU t.t.2 t.2.1:=by unfold Jp;rw[D8 l.chk ow];rfl
 have G:(sF (.h16 (Io t.2.1:Int) (Io t.t.1:Int) (t,()))).val=Q1 (.inr (.bool (iU t.t.2 t.2.1==(0:Int)),[])):=by
  simp only[sF,Q8,zG,zn,z,A];rfl
 refine zA x (v.ends (b.ends (zY.of G))) ow ?_;have:dM t=(iU t.t.2 t.2.1==(0:Int)):=by
  apply gU.2;rw[m];constructor
  .intro h;rw[h.chk];rfl
  .intro h;exact⟨g,J,L,E,(aD (Q:=λu=>Fi u (Io t.2.1))).1 p,(aD (Q:=λf:bW=>Fi f.1 (Io t.2.1)/\zU f.2=Q3)).1 o,⟨B,C⟩,D,bF h⟩
 rw[this];rfl
theorem nM(h:H5 t):xY t=Q3:=by unfold xY;rw[MZ h];rfl
theorem rY(h:H5 t):Hz t=dM t:=by unfold Hz;rw[MZ h];rfl
theorem pk.may(h:pk t)(b:(t.t.2.op==[])=Q4):dD t.t.2=Q3:=by
 have x:=h.chk;unfold iU at x;have a:fK 16 t.t.2 xP=Q4:=by rw[EJ,b];rfl
 rw[a,zg sw]at x;rcases zQ (dD t.t.2)with c|c
 .exact c
 .have d:ce t.t.2 t.2.1=(0,1):=by unfold ce;rw[c];rfl
  rw[d]at x;cases x
theorem OV(t:ao)(row:zt)(i:Int):eO t row [] i=if Kw (kx t.t.2 t.2.1 row) 0=Q3 then(9:Int)else 0:=by rw[eO];rfl
theorem Ad(t:ao)(h:zt)(x:zp)(r:zt)(i:Nat):eO t h (x::r) (i:Int)=if(cond (x.1==0) ((getD t.2.1 i (zi zl)).2.2) Q4)=Q3 then(8:Int)else if(cond (x.1!=0) (x.1!=(getD t.2.1 i (zi zl)).2.1) Q4)=Q3 then 5 else eO t h r ((i+1:Nat):Int):=by rw[eO];simp only[aJ];rfl
theorem C9{t:ao}{h:zt}(p:H5 t)(j:pk t)(q:∀v∈h,mb v)(z:Io h=Io t.2.1):∀(m i:Nat),Io h-i=m->i<=Io h->zY E4 (m+1) (.h9 h (i:Int) (t,())) (.int .i64 (eO t h (h.drop i) (i:Int)),[])
 | 0,i,g,y=>by
  obtain rfl:i=Io h:=by omega
  have u:=p.ncols;rw[jO,OV];refine zY.of ?_;have s:=j.n8;rcases zQ (t.t.2.op==[])with c|c
  .have g:dD t.t.2=Q4:=by
    rcases zQ (dD t.t.2)with x|x
    .rw[QY x]at c;cases c
    .exact x
   have b:kx t.t.2 t.2.1 h=(0,0,[]):=by unfold kx;rw[g];rfl
   rw[b];simp only[E4,Q8,zG,zn];rw[c];rfl
  .have g:=j.may c;have d:=Zt (cols:=t.2.1) (row:=h) ow q p.chk g;have n:Bj t.t.2 t.2.1 h=Q3:=by unfold Bj;rw[d];rfl
   have e:Jg t.t.2 t.2.1 h=kx t.t.2 t.2.1 h:=by unfold Jg;rw[d];rfl
   simp only[E4,Q8,zG,zn,n,e,Bf,Jc];rw[c];show(ite (Q3=Q3) (ite (Kw (kx t.t.2 t.2.1 h) 0=Q3) (Q1 (Sum.inr (ai 9,[]))) (Q1 (Sum.inr (ai 0,[])))) Q2:Option (H2⊕au))=_;rcases zQ (Kw (kx t.t.2 t.2.1 h) 0)with k|k<;>rw[k]<;>rfl
 | m+1,i,g,y=>by
  have a:i<Io h:=by omega
  have s:=j.n8;have A:=C9 p j q z m (i+1) ow ow;have w:h.drop i=getD h i (zi zf)::h.drop (i+1):=by
   rw[fR a,aY,z6 a];rfl
  rw[w,Ad];have o:zK (i:Int) (Io t.2.1)=Q3:=zx ow;have b:(E4 (.h9 h (i:Int) (t,()))).val=if(cond ((getD h i (zi zf)).1==0) ((getD t.2.1 i (zi zl)).2.2) Q4)=Q3 then Q1 (.inr (.int .i64 8,[]))else if(cond ((getD h i (zi zf)).1!=0) ((getD h i (zi zf)).1!=(getD t.2.1 i (zi zl)).2.1) Q4)=Q3 then Q1 (.inr (.int .i64 5,[]))else Q1 (.inl (.h9 h ((i+1:Nat):Int) (t,()))):=by
   simp only[E4,Q8,zI a,zx a,o,aJ,zh];rw[zu i um];cases((getD h i (zi zf)).1==0)<;>cases((getD h i (zi zf)).1!=0)<;>rfl
  rcases zQ (cond ((getD h i (zi zf)).1==0) ((getD t.2.1 i (zi zl)).2.2) Q4)with c|c
  .rw[c,ze EB]at b|-;exact(zY.of b).mono ow
  .rw[c,zg sw]at b|-;rcases zQ (cond ((getD h i (zi zf)).1!=0) ((getD h i (zi zf)).1!=(getD t.2.1 i (zi zl)).2.1) Q4)with l|l
   .rw[l,ze EB]at b|-;exact(zY.of b).mono ow
   .rw[l,zg sw]at b|-;exact(zJ.of b).ends A
theorem C8{t:ao}{h:zt}(l:H5 t)(g:pk t)(j:∀v∈h,mb v)(k:Io h=Io t.2.1):∀(m i:Nat),Io h-i=m->i<=Io h->zY E4 (m+2+Io h) (.h4 h (i:Int) (t,())) (.int .i64 (gG t h (h.drop i) (i:Int)),[])
 | 0,i,q,p=>by
  obtain rfl:i=Io h:=by omega
  rw[jO];have a:(E4 (.h4 h (Io h:Int) (t,()))).val=Q1 (.inl (.h9 h ((0:Nat):Int) (t,()))):=by
   simp only[E4,Q8,zG];rfl
  have n:=C9 l g j k (Io h) 0 ow ow;have e:gG t h [] (Io h:Int)=eO t h (h.drop 0) ((0:Nat):Int):=by
   rw[gG];rfl
  rw[e];exact((zJ.of a).ends n).mono ow
 | m+1,i,q,p=>by
  have x:i<Io h:=by omega
  have u:=g.n8;have s:=C8 l g j k m (i+1) ow ow;have o:h.drop i=getD h i (zi zf)::h.drop (i+1):=by
   rw[fR x,aY,z6 x];rfl
  have b:=(j _ (ch (d:=zi zf) x)).2.2;have e:gG t h (h.drop i) (i:Int)=if(!bf (getD h i (zi zf)))=Q3 then(1:Int)else gG t h (h.drop (i+1)) ((i+1:Nat):Int):=by
   rw[o];rw[gG];rfl
  rw[e];have a:(E4 (.h4 h (i:Int) (t,()))).val=if(!bf (getD h i (zi zf)))=Q3 then Q1 (.inr (.int .i64 1,[]))else Q1 (.inl (.h4 h ((i+1:Nat):Int) (t,()))):=by
   simp only[E4,Q8,zI x,zx x,aJ,zh,lI b,oS b];rw[zu i um]
  rcases zQ (!bf (getD h i (zi zf)))with c|c
  .rw[c,ze EB]at a|-;exact(zY.of a).mono ow
  .rw[c,zg sw]at a|-;exact((zJ.of a).ends s).mono ow
theorem Hy(a:H5 t)(g:∀v∈h,mb v):Bp t h=Q1 (cf t h,()):=by
 unfold cf;have x:(zkG t h).val=if(cond (!dM t) Q3 ((Io h:Int)!=(Io t.2.1:Int)))=Q3 then Q1 (.inr (.int .i64 1,[]))else Q1 (.inl (.h4 h ((0:Nat):Int) (t,()))):=by
  simp only[zkG,Q8,zn,nM a,rY a,zh];rfl
 rcases zQ (cond (!dM t) Q3 ((Io h:Int)!=(Io t.2.1:Int)))with c|c
 .rw[ze c]at x|-;exact zP x rfl
 .rw[zg (by rw[c];simp)]at x|-;have d:dM t=Q3:=by
   rcases zQ (dM t)with k|k
   .exact k
   .rw[k]at c;cases c
  rw[d]at c;have e:Io h=Io t.2.1:=by
   have:((Io h:Int)!=(Io t.2.1:Int))=Q4:=c;simp at this;omega
  have b:=(lT t).1 d;have i:=b.n8;exact zA x (C8 a b g e (Io h) 0 ow ow) ow rfl
theorem UB(a:H5 t)(x:∀v∈h,mb v):Jn t h=Q3:=by unfold Jn;rw[Hy a x];rfl
theorem Zv(a:H5 t)(x:∀v∈h,mb v):PI t h=cf t h:=by unfold PI;rw[Hy a x];rfl
theorem eq3(a b:zp):(a.1==b.1&&(a.2.1==b.2.1&&(a.2.2==b.2.2&&Q3)))=Q3↔a=b:=by obtain⟨k,n,s⟩:=a;obtain⟨h,x,c⟩:=b;simp
theorem vP{rows:List zt}{c:Int}(D:∀r∈rows,zK c (Io r)=Q3)(I:Io rows<=1000):∃b,vO rows c=Q1 (b,())/\(b=Q4↔sy rows c):=by
 have l:=mF (t:=FF) (Φ:=λr=>r=(.kb Q3,[])) 1002 (λi=>.h2 rows c (i:Int)) (λi=>∀k,k<i->¬((zS c (getD rows i (zi zf.sl))).1≠0/\zS c (getD rows i (zi zf.sl))=zS c (getD rows k (zi zf.sl)))) (Io rows) (by
  intro i x _;have m:(FF (.h2 rows c (i:Int))).val=Q1 (.inl (.h5 rows c (i:Int) ((0:Nat):Int))):=by
   simp only[FF,Q8,zI x];rfl
  have H:=mF (t:=FF) (Φ:=λr=>r=(.kb Q3,[])) 1 (λk=>.h5 rows c (i:Int) (k:Int)) (λk=>¬((zS c (getD rows i (zi zf.sl))).1≠0/\zS c (getD rows i (zi zf.sl))=zS c (getD rows k (zi zf.sl)))) i (by
   intro k v _;have o:k<Io rows:=by omega
   have m:(FF (.h5 rows c (i:Int) (k:Int))).val=if(cond ((zS c (getD rows i (zi zf.sl))).1!=0) ((zS c (getD rows i (zi zf.sl))).1==(zS c (getD rows k (zi zf.sl))).1&&((zS c (getD rows i (zi zf.sl))).2.1==(zS c (getD rows k (zi zf.sl))).2.1&&((zS c (getD rows i (zi zf.sl))).2.2==(zS c (getD rows k (zi zf.sl))).2.2&&Q3))) Q4)=Q3 then Q1 (.inr (.kb Q3,[]))else Q1 (.inl (.h5 rows c (i:Int) ((k+1:Nat):Int))):=by
    simp only[FF,Q8,zI v,zx x,zx o,D _ (ch (d:=zi zf.sl) x),D _ (ch (d:=zi zf.sl) o),aJ,zh];rw[ze,zu k um];cases((getD (getD rows i (zi zf.sl)) (toNat c) (zi zf)).1!=0)<;>rfl
   have E:=eq3 (zS c (getD rows i (zi zf.sl))) (zS c (getD rows k (zi zf.sl)));rcases zQ ((zS c (getD rows i (zi zf.sl))).1!=0)with a|a
   .have p:(zS c (getD rows i (zi zf.sl))).1≠0:=bne_iff_ne.1 a;rcases zQ ((zS c (getD rows i (zi zf.sl))).1==(zS c (getD rows k (zi zf.sl))).1&&((zS c (getD rows i (zi zf.sl))).2.1==(zS c (getD rows k (zi zf.sl))).2.1&&((zS c (getD rows i (zi zf.sl))).2.2==(zS c (getD rows k (zi zf.sl))).2.2&&Q3)))with g|g
    .exact .inr ⟨λh=>h ⟨p,E.1 g⟩,_,zY.of (by rw[m,a,g,ze EB]),rfl⟩
    .exact .inl ⟨λh=>(by rw[E.2 h.2]at g;cases g),zJ.of (by rw[m,a,g,zg sw])⟩
   .refine .inl ⟨λh=>h.1 (by simpa using a),zJ.of (by rw[m,a,zg sw])⟩)
  rcases H with⟨B,s⟩|⟨B,r,s,y⟩
  .have z:(FF (.h5 rows c (i:Int) (i:Int))).val=Q1 (.inl (.h2 rows c ((i+1:Nat):Int))):=by
    simp only[FF,Q8,zG];rw[zu i um];rfl
   exact .inl ⟨B,(((zJ.of m).trans s).trans (zJ.of z)).mono ow⟩
  .exact .inr ⟨B,r,((zJ.of m).ends s).mono ow,y⟩)
 have G:(∀i,i<Io rows->∀k,k<i->¬((zS c (getD rows i (zi zf.sl))).1≠0/\zS c (getD rows i (zi zf.sl))=zS c (getD rows k (zi zf.sl))))↔sy rows c:=by
  unfold sy;rw[List.pairwise_iff_getElem];have e:∀i(x:i<Io rows),getD rows i (zi zf.sl)=rows[i]:=λi x=>by rw[aY,z6 x,bT]
  constructor
  .intro h i j x F u w n;have:=h j F i u;rw[e i x,e j F]at this;exact this ⟨by rw[<-n];exact w,n.symm⟩
  .rintro h i x k v ⟨C,l⟩;rw[e i x]at C l;rw[e k ow]at l;exact h k i ow x v (by rw[<-l];exact C) l.symm
 have x:(zq7 rows c).val=Q1 (.inl (.h2 rows c ((0:Nat):Int))):=rfl;rcases l with⟨A,q⟩|⟨A,r,q,y⟩
 .refine⟨Q4,zA x (q.ends (zY.of (r:=(.kb Q4,[])) ?_)) ow rfl,⟨λ_=>G.1 A,λ_=>rfl⟩⟩;simp only[FF,Q8,zG];rfl
 .subst y;exact⟨Q3,zA x q ow rfl,⟨λh=>(by cases h),λh=>zC (G.2 h) A⟩⟩
theorem M1(a:H5 t)(c:dM t=Q3)(x:zK t.2.2.1 (Io h)=Q3):Ea t h=Q1 (zS t.2.2.1 h,()):=by
 unfold Ea an bY;have b:Q0 (LT.lt (α:=Int) t.2.2.1 (Io h:Int))=Q3:=by
  unfold zK at x;simp only[aE]at x;exact x.2
 simp only[zq9,Q8,zn,nM a,rY a,c,x,b];rfl
theorem M0(b:H5 t)(a:dM t=Q3)(x:zK t.2.2.1 (Io h)=Q3):Jt t h=Q3:=by unfold Jt;rw[M1 b a x];rfl
theorem Sp(b:H5 t)(a:dM t=Q3)(x:zK t.2.2.1 (Io h)=Q3):So t h=zS t.2.2.1 h:=by unfold So;rw[M1 b a x];rfl
variable {x:am}{v:zp}
theorem HA(m:H5 x.1)(s:dM x.1=Q3)(k:∀r∈x.2,zK x.1.2.2.1 (Io r)=Q3)(w:Io x.2<=1000):Br x v=Q1 (ac (λr=>bC r x.1.2.2.1 v) x.2 0,()):=by
 have o:∀r∈x.2,bC r x.1.2.2.1 v=((zS x.1.2.2.1 r).1==v.1&&((zS x.1.2.2.1 r).2.1==v.2.1&&((zS x.1.2.2.1 r).2.2==v.2.2&&Q3))):=by
  intro r u;have:=k r u;unfold zK at this;simp only[aE]at this;unfold bC;rw[show Q0 (GE.ge (α:=Int) x.1.2.2.1 0)=Q3 from this.1,this.2];rfl
 have n:=mF (t:=Z8) (Φ:=λr=>r=(.int .i64 (ac (λr=>bC r x.1.2.2.1 v) x.2 0),[])) 1 (λi=>.h2 (i:Int) (x,()) (v,())) (λi=>bC (getD x.2 i (zi zf.sl)) x.1.2.2.1 v=Q4) (Io x.2) (by
  intro i c q;have b:=ch (d:=zi zf.sl) c;have a:=k _ b;have e:Q0 (LT.lt (α:=Int) x.1.2.2.1 ((getD x.2 i (zi zf.sl)).length:Int))=Q3:=by
   unfold zK at a;simp only[aE]at a;exact a.2
  have l:(Z8 (.h2 (i:Int) (x,()) (v,()))).val=if bC (getD x.2 i (zi zf.sl)) x.1.2.2.1 v=Q3 then Q1 (.inr (.int .i64 i,[]))else Q1 (.inl (.h2 ((i+1:Nat):Int) (x,()) (v,()))):=by
   rw[o _ b];simp only[Z8,Q8,zn,zI c,zx c,a,e,nM m,rY m,s,aJ,aw,zh,pT];rw[zu i um]
  rcases zQ (bC (getD x.2 i (zi zf.sl)) x.1.2.2.1 v)with h|h
  .have g:=nz (p:=λr=>bC r x.1.2.2.1 v) (d:=zi zf.sl) x.2 0 i c h q;refine .inr ⟨by rw[h];simp,_,zY.of (by rw[l,ze h]),?_⟩;show _=(ai (ac (λr=>bC r x.1.2.2.1 v) x.2 0),[]);rw[g];simp
  .exact .inl ⟨h,zJ.of (by rw[l,zg (by rw[h];simp)])⟩)
 have c:(zra x v).val=Q1 (.inl (.h2 ((0:Nat):Int) (x,()) (v,()))):=rfl;rcases n with⟨j,e⟩|⟨j,r,e,rfl⟩
 .have g:=nA (p:=λr=>bC r x.1.2.2.1 v) (d:=zi zf.sl) x.2 0 j;rw[g];refine zA c (e.ends (zY.of (r:=(.int .i64 (-1),[])) ?_)) ow rfl;simp only[Z8,Q8,zG];rfl
 .exact zA c e ow rfl
theorem UD(c:H5 x.1)(b:dM x.1=Q3)(h:∀r∈x.2,zK x.1.2.2.1 (Io r)=Q3)(a:Io x.2<=1000):Js x v=Q3:=by unfold Js;rw[HA c b h a];rfl
theorem Zx(c:H5 x.1)(b:dM x.1=Q3)(h:∀r∈x.2,zK x.1.2.2.1 (Io r)=Q3)(a:Io x.2<=1000):PJ x v=ac (λr=>bC r x.1.2.2.1 v) x.2 0:=by unfold PJ;rw[HA c b h a];rfl
structure KQ (x:am):Prop where
 t:H5 x.1
 rows:Io x.2<=1000
 vals:∀r∈x.2,∀v∈(r:zt),mb v
theorem KQ.short(h:KQ x):gL x:=⟨h.t.nuq,h.t.nrf,h.rows⟩
theorem G0{t:ao}{d:zt}:∀(r:zt)(i:Nat),eO t d r (i:Int)=(0:Int)->∀j,j<Io r->(getD t.2.1 (i+j) (zi zl)).2.2=Q3->(getD r j (zi zf)).1≠0
 |[],_,_,j,b,_=>by simp at b
 | x::r,i,h,j,b,hn=>by
  rw[Ad]at h;split at h
  .cases h
  rename_i c;split at h
  .cases h
  cases j with
  | zero=>
   intro e;have a:(x.1==0)=Q3:=by simpa using e
   rw[a]at c;exact c hn
  | succ j=>
   have:=G0 r (i+1) h j (by simpa using b) (by rw[show i+1+j=i+(j+1) by omega];exact hn);exact this
theorem G4{t:ao}{row:zt}:∀(r:zt)(i:Nat),gG t row r (i:Int)=(0:Int)->(∀v∈r,bf v=Q3)/\eO t row row ((0:Nat):Int)=(0:Int)
 | [],i,h=>by
  rw[gG]at h;exact⟨λv a=>(by cases a),h⟩
 | x::r,i,h=>by
  have e:gG t row (x::r) (i:Int)=if(!bf x)=Q3 then(1:Int)else gG t row r ((i+1:Nat):Int):=by
   rw[gG];rfl
  rw[e]at h;split at h
  .cases h
  rename_i c;obtain⟨b,d⟩:=G4 r (i+1) h;refine⟨λv a=>?_,d⟩;rcases b8.1 a with rfl|a
  .simpa using c
  .exact b v a
theorem dn(h:cf t row=(0:Int)):Io row=Io t.2.1/\(∀v∈row,bf v=Q3)/\∀j,j<Io row->(getD t.2.1 j (zi zl)).2.2=Q3->(getD row j (zi zf)).1≠0:=by
 have c:=Da (t:=t) (row:=row) (by simpa using h);unfold cf at h;split at h
 .cases h
 obtain⟨x,a⟩:=G4 row 0 h;refine⟨c,x,λj b d=>?_⟩;have:=G0 row 0 a j b (by rwa [ew]);exact this
theorem Pt{b:zp}(x:bf v=Q3)(a:bf b=Q3)(h:aO v b=(0:Int)):v=b:=by
 unfold aO aA at h;rw[x,a]at h;have h:Hm [sB v.1 b.1,jd v.2.1 b.2.1,ox v.2.2 b.2.2]=(0:Int):=h;rw[<-Ym]at h;rcases zQ (v.1==b.1&&(v.2.1==b.2.1&&(v.2.2==b.2.2&&Q3)))with c|c
 .exact(eq3 v b).1 c
 .rw[zg (by rw[c];simp)]at h;split at h<;>cases h
theorem Jr(j:KQ x):∃e:Int,nN x=Q1 (e,())/\(e=0↔ed x):=by
 have N:=j.rows;have h7:=j.t.nuq;by_cases o:dM x.1=Q3
 case neg=>
  have h3:dM x.1=Q4:=by simpa using o
  refine⟨1,?_,λh=>(by cases h),λh=>zC h.may o⟩;unfold nN an bY;simp only[Xv,Q8,zn,nM j.t,rY j.t,h3];rfl
 by_cases U:Io x.2<=200
 case neg=>
  refine⟨13,?_,λh=>(by cases h),λh=>zC h.few U⟩;unfold nN an bY;simp only[Xv,Q8,zn,nM j.t,rY j.t,o];rw[ze trivial,zg sw,ze sg];rfl
 have k:(Xv x).val=Q1 (.inl (.h6 ((0:Nat):Int) (x,()))):=by
  simp only[Xv,Q8,zn,nM j.t,rY j.t,o];rw[ze trivial,zg sw,zg sg];rfl
 obtain⟨D,h5,h4,_,_⟩:=gq o;have G:=mF (t:=qM) (Φ:=Err) 1 (λi=>.h6 (i:Int) (x,())) (λi=>cf x.1 (getD x.2 i (zi zf.sl))=(0:Int)) (Io x.2) (by
  intro i k _;have T:=j.vals _ (ch (d:=zi zf.sl) k);have A:(qM (.h6 (i:Int) (x,()))).val=if(cf x.1 (getD x.2 i (zi zf.sl))!=0)=Q3 then Q1 (.inr (.int .i64 (cf x.1 (getD x.2 i (zi zf.sl))),[]))else Q1 (.inl (.h6 ((i+1:Nat):Int) (x,()))):=by
   simp only[qM,Q8,zn,zI k,zx k,aJ,UB j.t T,Zv j.t T,zh];rw[zu i um]
  by_cases h:cf x.1 (getD x.2 i (zi zf.sl))=(0:Int)
  .refine .inl ⟨h,zJ.of ?_⟩;rw[A,zg (by rw[h];simp)]
  .refine .inr ⟨h,_,zY.of (by rw[A,ze (by simpa using h)]),_,rfl,h⟩)
 rcases G with⟨Y,G⟩|⟨Y,r,G,e,v,g⟩
 case inr=>
  subst v;exact⟨e,zA k G ow rfl,λh=>zC h g,λh=>zC ((aD (Q:=λr=>cf x.1 r=(0:Int))).2 h.fits) Y⟩
 have a:=(aD (Q:=λr=>cf x.1 r=(0:Int))).1 Y;have M:∀r∈x.2,Io r=Io x.1.2.1:=λr y=>(dn (a r y)).1
 have w:∀c,Fi c (Io x.1.2.1)->∀r∈x.2,zK c (Io r)=Q3:=λc hc r y=>by
  rw[M r y];exact oJ hc
 obtain⟨b,J,n⟩:=vP (rows:=x.2) (c:=x.1.2.2.1) (w _ D) N;have B:nO x.2 x.1.2.2.1=Q3:=by unfold nO;rw[J];rfl
 have C:r7 x.2 x.1.2.2.1=b:=by unfold r7;rw[J];rfl
 have S:(qM (.h6 (Io x.2:Int) (x,()))).val=if b=Q3 then Q1 (.inr (.int .i64 7,[]))else Q1 (.inl (.h14 ((0:Nat):Int) (x,()))):=by
  simp only[qM,Q8,zG,B,C];rfl
 by_cases s:b=Q3
 .refine⟨7,zA k (G.ends (zY.of (by rw[S,ze s]))) ow rfl,λh=>(by cases h),λh=>?_⟩;have:=n.2 h.key;rw[s]at this;cases this
 have z:sy x.2 x.1.2.2.1:=n.1 (by simpa using s);have H:zJ qM _ (.h6 ((0:Nat):Int) (x,())) _:=G.trans (zJ.of (by rw[S,zg s]));have l:=mF (t:=qM) (Φ:=Err) 1 (λi=>.h14 (i:Int) (x,())) (λi=>sy x.2 (getD x.1.2.2.2.1 i (zi zj))) (Io x.1.2.2.2.1) (by
  intro i k _;obtain⟨b,J,n⟩:=vP (rows:=x.2) (c:=getD x.1.2.2.2.1 i (zi zj)) (w _ (h4 _ (ch k))) N;have B:nO x.2 (getD x.1.2.2.2.1 i (zi zj))=Q3:=by unfold nO;rw[J];rfl
  have C:r7 x.2 (getD x.1.2.2.2.1 i (zi zj))=b:=by unfold r7;rw[J];rfl
  have A:(qM (.h14 (i:Int) (x,()))).val=if b=Q3 then Q1 (.inr (.int .i64 7,[]))else Q1 (.inl (.h14 ((i+1:Nat):Int) (x,()))):=by
   simp only[qM,Q8,zI k,zx k,zh,aJ,B,C];rw[zu i um]
  by_cases h:b=Q3
  .refine .inr ⟨λhu=>?_,_,zY.of (by rw[A,ze h]),7,rfl,by decide⟩;have:=n.2 hu;rw[h]at this;cases this
  .exact .inl ⟨n.1 (by simpa using h),zJ.of (by rw[A,zg h])⟩)
 rcases l with⟨hq,l⟩|⟨hq,r,l,e,v,g⟩
 case inr=>
  subst v;exact⟨e,zA k (H.ends l) ow rfl,λh=>zC h g,λh=>zC ((aD (Q:=λu=>sy x.2 u)).2 h.uniq) hq⟩
 have E:=(aD (Q:=λu=>sy x.2 u)).1 hq;have O:(qM (.h14 (Io x.1.2.2.2.1:Int) (x,()))).val=Q1 (.inl (.h19 ((0+1:Nat):Int) (x,()))):=by
  simp only[qM,Q8,zG];rfl
 have I:=(H.trans l).trans (zJ.of O);have p:∀i,i+1<Io x.2->(uk (zS x.1.2.2.1 (getD x.2 i (zi zf.sl))) (zS x.1.2.2.1 (getD x.2 (i+1) (zi zf.sl)))↔Q0 (GT.gt (α:=Int) (aO (zS x.1.2.2.1 (getD x.2 i (zi zf.sl))) (zS x.1.2.2.1 (getD x.2 (i+1) (zi zf.sl)))) 0)=Q4):=by
  intro i q;have F:i<Io x.2:=by omega
  have W:=ch (d:=zi zf.sl) F;have X:=ch (d:=zi zf.sl) q;obtain⟨l1,f1,n1⟩:=dn (a _ W);obtain⟨l2,f2,_⟩:=dn (a _ X);have hT:=(lT x.1).1 o;obtain⟨k1,k2⟩:=hT.key;have L:toNat x.1.2.2.1<(getD x.2 i (zi zf.sl)).length:=by rw[l1];omega
  have Z:toNat x.1.2.2.1<(getD x.2 (i+1) (zi zf.sl)).length:=by rw[l2];omega
  unfold uk;constructor
  .intro h;exact z7 ow
  .intro h;have h:¬GT.gt (α:=Int) (aO (zS x.1.2.2.1 (getD x.2 i (zi zf.sl))) (zS x.1.2.2.1 (getD x.2 (i+1) (zi zf.sl)))) 0:=of_decide_eq_false h;by_cases h0:@Eq Int (aO (zS x.1.2.2.1 (getD x.2 i (zi zf.sl))) (zS x.1.2.2.1 (getD x.2 (i+1) (zi zf.sl)))) 0
   .exfalso;have v:=Pt (f1 _ (ch L)) (f2 _ (ch Z)) h0;have g:=n1 _ L hT.nn;have hp:=(List.pairwise_iff_getElem.1 z) i (i+1) F q ow;have e1:getD x.2 i (zi zf.sl)=x.2[i]:=by rw[aY,z6 F,bT]
    have e2:getD x.2 (i+1) (zi zf.sl)=x.2[i+1]:=by rw[aY,z6 q,bT]
    rw[e1]at g v;rw[e2]at v;exact hp g v
   .omega
 have m:=mF (t:=qM) (Φ:=Err) 1 (λi=>.h19 ((i+1:Nat):Int) (x,())) (λi=>uk (zS x.1.2.2.1 (getD x.2 i (zi zf.sl))) (zS x.1.2.2.1 (getD x.2 (i+1) (zi zf.sl)))) (Io x.2-1) (by
  intro i k _;have F:i<Io x.2:=by omega
  have q:i+1<Io x.2:=by omega
  have W:=ch (d:=zi zf.sl) F;have X:=ch (d:=zi zf.sl) q;have k1:=w _ D _ W;have k2:=w _ D _ X;have o1:∀r∈x.2,(zS x.1.2.2.1 r).2.2.length<=1000000:=by
   intro r y;by_cases h:toNat x.1.2.2.1<Io r
   .exact(j.vals r y _ (ch h)).2.2
   .unfold zS;rw[aY,eZ ow];simp[zi]
  have A:(qM (.h19 ((i+1:Nat):Int) (x,()))).val=if Q0 (GT.gt (α:=Int) (aO (zS x.1.2.2.1 (getD x.2 i (zi zf.sl))) (zS x.1.2.2.1 (getD x.2 (i+1) (zi zf.sl)))) 0)=Q3 then Q1 (.inr (.int .i64 15,[]))else Q1 (.inl (.h19 ((i+1+1:Nat):Int) (x,()))):=by
   simp only[qM,zn,ma i um];simp only[Q8,zI q,zx q,zx F,aJ,aX,M0 j.t o k1,M0 j.t o k2,Sp j.t o k1,Sp j.t o k2,PC (o1 _ W) (o1 _ X),Uz (o1 _ W) (o1 _ X),zh];rw[zu (i+1) um]
  rcases zQ (Q0 (GT.gt (α:=Int) (aO (zS x.1.2.2.1 (getD x.2 i (zi zf.sl))) (zS x.1.2.2.1 (getD x.2 (i+1) (zi zf.sl)))) 0))with c|c
  .exact .inr ⟨λh=>(by rw[(p i q).1 h]at c;cases c),_,zY.of (by rw[A,ze c]),15,rfl,by decide⟩
  .exact .inl ⟨(p i q).2 c,zJ.of (by rw[A,zg (by rw[c];simp)])⟩)
 rcases m with⟨y,m⟩|⟨y,r,m,e,v,g⟩
 case inr=>
  subst v;exact⟨e,zA k (I.ends m) ow rfl,λh=>zC h g,λh=>zC h.rise y⟩
 have P:(qM (.h19 ((Io x.2-1+1:Nat):Int) (x,()))).val=Q1 (.inr (.int .i64 0,[])):=by
  simp only[qM,Q8];rw[zg sg]
 exact⟨0,zA k (I.ends (m.ends (zY.of P))) ow rfl,λ_=>⟨o,U,a,z,E,y⟩,λ_=>rfl⟩
theorem tQ(c:UInt8)(s o:zH):Lib.index (c::s) o=if o.isPrefixOf (c::s)=Q3 then 0 else if Lib.index s o=-1 then -1 else Lib.index s o+1:=by rw[Lib.index];simp only[bd]
variable {l n:zH}
theorem yj(x:(l==n)=Q4)(h:Lib.index s l=-1):Lib.replaceAll s l n=s:=by unfold Lib.replaceAll Lib.replace Lib.replaceNum;rw[x,ze (Or.inl (by decide)),Lib.count_miss h];rfl
theorem Eu(a:l≠[])(x:(l==n)=Q4)(h:Lib.index s l=i):Lib.replaceAll s l n=s.take i++n++Lib.replaceAll (s.drop (i+Io l)) l n:=by unfold Lib.replaceAll Lib.replace Lib.replaceNum;rw[x,ze (Or.inl (by decide)),ze (Or.inl (by decide)),Lib.count_hit a h,kf 1];exact Lib.replaceK_hit l n _ s i h
theorem Ev(b:s≠[])(x:(s==l)=Q4):Lib.replaceAll [] s l=[]:=by
 refine yj x ?_;cases s with
 |nil=>exact zC rfl b
 |cons a h=>rfl
variable {a:UInt8}
theorem Nk(x:l≠[])(h:(l==n)=Q4)(b:l.isPrefixOf (a::s)=Q3):Lib.replaceAll (a::s) l n=n++Lib.replaceAll ((a::s).drop (Io l)) l n:=by have:=Eu (i:=0) x h (s:=a::s) (by rw[tQ,ze b];rfl);simpa using this
theorem HH(b:l≠[])(x:(l==n)=Q4)(d:l.isPrefixOf (a::s)=Q4):Lib.replaceAll (a::s) l n=a::Lib.replaceAll s l n:=by
 by_cases h:Lib.index s l=-1
 .rw[yj x h,yj x (by rw[tQ,zg (by simp[d]),ze h])]
 .obtain⟨i,c⟩:∃i:Nat,Lib.index s l=i:=⟨(Lib.index s l).toNat,by have:=Lib.index_ge s l;omega⟩;rw[Eu b x c,Eu (i:=i+1) b x (by rw[tQ,zg (by simp[d]),zg h,c];simp)];simp[Nat.add_right_comm]
theorem Zg{x:UInt8}{r:zH}(h:a≠x):(x::l).isPrefixOf (a::r)=Q4:=by rw[List.isPrefixOf,dB.2 (Ne.symm h)];rfl
def ls:zH->zH
 |[]=>[]
 |c::r=>if c=39 then 39::39::ls r else c::ls r
theorem Et:∀s:zH,Lib.replaceAll s [39] ot=ls s
 |[]=>Ev sw rfl
 | c::r=>by
  rw[ls];split
  next h=>subst h;rw[Nk sw rfl sw];simp[Et r]
  next h=>rw[HH sw rfl (Zg h),Et r]
def ft:zH->Option (zH×Nat)
 |[]=>Q2
 |[c]=>if c=39 then Q1 ([],1)else Q2
 |c::d::r=>if c=39 then(if d=39 then(ft r).map λx=>(39::x.1,x.2+2)else Q1 ([],1))else(ft (d::r)).map λx=>(c::x.1,x.2+1)
theorem sf:∀(n:Nat)(s t:zH)(k:Nat),Io s<=n->ft s=Q1 (t,k)->1<=k/\k<=Io s/\Lib.replaceAll (s.take (k-1)) ot [39]=t
 |_,[],_,_,_,h=>by simp[ft]at h
 | _,[c],t,k,_,h=>by
  rw[ft]at h;split at h
  .simp at h;obtain⟨rfl,rfl⟩:=h;exact⟨sw,sw,by simpa using Ev sw rfl⟩
  .simp at h
 |0,_::_::_,_,_,hn,_=>by simp at hn
 | n+1,c::d::r,t,k,hn,h=>by
  rw[ft]at h;split at h
  .rename_i g;split at h
   next m=>simp only[dt]at h;obtain⟨⟨i,x⟩,e,a⟩:=h;simp only[cd]at a;obtain⟨rfl,rfl⟩:=a;obtain⟨l,j,b⟩:=sf n r i x (by simp at hn;omega) e;refine⟨ow,sg,?_⟩;subst g;subst m;rw[show x+2-1=(x-1)+2 by omega,List.take_succ_cons,List.take_succ_cons,Nk sw rfl sw];simp[b]
   .simp at h;obtain⟨rfl,rfl⟩:=h;exact⟨sw,sw,by simpa using Ev sw rfl⟩
  next g=>simp only[dt]at h;obtain⟨⟨i,x⟩,e,a⟩:=h;simp only[cd]at a;obtain⟨rfl,rfl⟩:=a;obtain⟨l,j,b⟩:=sf n (d::r) i x (by simp at hn|-;omega) e;refine⟨ow,by simp at j|-;omega,?_⟩;rw[show x+1-1=(x-1)+1 by omega,List.take_succ_cons,HH sw rfl (Zg g),b]
theorem HL(h:a≠39):∀r:zH,ft (a::r)=(ft r).map λx=>(a::x.1,x.2+1)
 |[]=>by simp[ft,h]
 |d::r=>by rw[ft,zg h]
theorem Nt(r:zH):ft (39::39::r)=(ft r).map λx=>(39::x.1,x.2+2):=by rw[ft,ze rfl,ze rfl]
theorem EK:∀r:zH,r.head?≠Q1 39->ft (39::r)=Q1 ([],1)
 |[],_=>by rw[ft,ze rfl]
 |d::r,h=>by rw[ft,ze rfl,zg (by simpa using h)]
theorem ei(s:zH)(h:i<Io s):s.getD ((i:Int).toNat) 0=s[i]:=by rw[aJ,aY,z6 h,bT]
theorem sC:((a.toNat:Int)==39)=Q3↔a=39:=by
 rw[bd];constructor
 .intro h;exact UInt8.toNat_inj.1 (by show a.toNat=39;omega)
 .rintro rfl;rfl
theorem qG:∀(n:Nat)(s:zH)(i:Nat)(a:Int)(b:zH),1<=i->i<=Io s->Io s+2<=n+i->Io s<=1000000000->
  fk n s (i:Int) a b=(match ft (s.drop i)with
   |none=>((0,[]),0)
   |some x=>((3,Lib.replaceAll (List.take (i+x.2-2) (List.drop 1 s)) ot [39]),((i+x.2:Nat):Int)))
 |0,s,i,a,b,k,l,m,e=>by omega
 | n + 1,s,i,a,b,k,l,m,e=>by
  rw[fk];by_cases g:i<Io s
  .rw[ze (zy (show(i:Int)<(Io s:Int) by omega)),ei s g,qV i ow,fR g];by_cases d:s[i]=39
   .rw[zg (by simp[bne,sC.2 d]),d];by_cases j:i+1<Io s
    .rw[fR j,ei s j,zy (show((i+1:Nat):Int)<(Io s:Int) by omega)];by_cases c:s[i+1]=39
     .rw[ze (by simpa using sC.2 c),qV (i+1) ow,qG n s (i+1+1) a b ow ow ow e,c,Nt];cases ft (s.drop (i+1+1))with
      |none=>rfl
      | some x=>
       simp only[B3];rw[show i+1+1+x.2=i+(x.2+2) by omega]
     .rw[zg (by simpa using λh=>c (sC.1 (by simpa using h))),EK _ (by rw[List.head?_cons];exact λh=>c (Option.some.inj h))];simp
    .rw[BV (by omega:Io s<=i+1),z7 (show¬((i+1:Nat):Int)<(Io s:Int) by omega),EK _ sw];simp
   .rw[ze (by simpa[bne]using λh=>d (sC.1 (by simpa using h))),HL d,qG n s (i+1) a b ow ow ow e];cases ft (s.drop (i+1))with
    |none=>rfl
    | some x=>
     simp only[B3];rw[show i+1+x.2=i+(x.2+1) by omega]
  .rw[zg sg,BV ow];rfl
def qe(c:UInt8)(r:zH):dd×Nat:=
 if ba c.toNat=Q3 then((1,(c::r).take (cY bQ r+1)),cY bQ r+1)
 else if ap c.toNat=Q3 then((2,(c::r).take (cY ap r+1)),cY ap r+1)
 else if c=39 then(match ft r with|none=>((0,[]),0)|some x=>((3,x.1),x.2+1))
 else((4,[c]),1)
theorem xA(c:UInt8)(r:zH)(n:(c::r).length<=1000000000):bP (c::r)=((qe c r).1,((qe c r).2:Int)):=by
 have e:bw ba bQ (c::r)=if ba c.toNat=Q3 then cY bQ r+1 else 0:=rfl
 have b:bw ap ap (c::r)=if ap c.toNat=Q3 then cY ap r+1 else 0:=rfl
 unfold bP qe;by_cases g:ba c.toNat=Q3
 .rw[ze g]at e;simp[e,g]
 .rw[zg g]at e;by_cases i:ap c.toNat=Q3
  .rw[ze i]at b;simp[e,b,g,i]
  .rw[zg i]at b;by_cases j:c=39
   .have o:=qG ((c::r).length+1) (c::r) 1 0 [] ow sw ow n;have a:ig (c::r)=_:=o;subst j;have l:ba 39=Q4:=rfl;have d:ap 39=Q4:=rfl;cases k:ft r with
    | none=>
     simp only[List.drop_succ_cons,List.drop_zero,k]at a;simp[e,b,l,d,a]
    | some x=>
     obtain⟨q,s,p⟩:=sf (Io r) r x.1 x.2 (ah _) k;simp only[List.drop_succ_cons,List.drop_zero,k]at a;rw[show 1+x.2-2=x.2-1 by omega,p,kf 1]at a;simp[e,b,l,d,a]
   .have m:¬(c.toNat:Int)=39:=λh=>j (sC.1 (by simpa using h))
    simp[e,b,g,i,j,m]
def wR:Nat->zH->Nat->Bool
 |0,_,_=>Q4
 |_+1,[],k=>Q0 (k<=400)
 | n+1,c::r,k=>
  if(cond ((c.toNat:Int)==32) Q3 ((c.toNat:Int)==10))=Q3 then wR n r k
  else if cU (qe c r).1=Q3 then wR n ((c::r).drop (qe c r).2) (k+1)else Q4
theorem wS:∀(n:Nat)(s:zH)(k:Nat),400<k->wR n s k=Q4
 |0,_,_,_=>rfl
 |_+1,[],k,h=>by rw[wR];exact z7 ow
 | n+1,c::r,k,h=>by
  rw[wR];split
  .exact wS n r k h
  .split
   .exact wS n _ (k+1) ow
   .rfl
theorem Cl:∀(n:Nat)(s:zH)(i:Nat)(l:dr),i<=Io s->Io s+1<=n+i->Io s<=1000000000->Io l<=400->((uM n s (i:Int) l).2==(0:Int))=wR n (s.drop i) (Io l)
 |0,s,i,l,o,p,d,e=>by omega
 | n + 1,s,i,l,o,p,d,e=>by
  rw[uM];by_cases x:i<Io s
  .have m:List.take ((Io s:Int).toNat-(i:Int).toNat) (List.drop (i:Int).toNat s)=s.drop i:=by
    simp only[aJ];exact QG sw
   have h:(s.drop i).length<=1000000000:=by simp;omega
   rw[ze (zy (show(i:Int)<(Io s:Int) by omega)),m,ei s x,qV i ow];rw[fR x]at h|-;rw[wR];split
   .exact Cl n s (i+1) l ow ow d e
   .rw[xA _ _ h];simp only;by_cases a:cU (qe s[i] (s.drop (i+1))).1=Q3
    .rw[ze a];by_cases j:Io l=400
     .rw[ze (by rw[a,j];rfl),j,wS n _ _ ow];rfl
     .rw[zg (by rw[a];simp;omega)];have g:cU (bP (s[i]::s.drop (i+1))).1=Q3:=by rw[xA _ _ h];exact a
      obtain⟨k,c,q,b⟩:=wB _ (List.cons_ne_nil _ _) h g;rw[xA _ _ h]at c;have c:(qe s[i] (s.drop (i+1))).2=k:=Int.ofNat.inj c;have u:k<=Io s-i:=by rw[<-fR x]at b;simpa using b
      rw[c,show((i:Int)+(k:Int))=((i+k:Nat):Int) by omega,zaq (i+k) ow,Cl n s (i+k) _ ow ow d sg,<-fR x,F2];simp
    .rw[zg a,ze (by simp[a])];rfl
  .rw[zg sg,BV ow];rw[wR];exact(zy e).symm
theorem V6(m:Nat):jh [IntKind.u8.wrap (Γ Δ (48-Γ Δ (Int.tmod (-(m:Int)) 10)))]=[UInt8.ofNat (48+m%10)]:=by
 have e:Int.tmod (-(m:Int)) 10=-((m%10:Nat):Int):=by rw[Int.neg_tmod];rfl
 have b:m%10<10:=Nat.mod_lt _ ow;have h:Γ Δ (-((m%10:Nat):Int))=-((m%10:Nat):Int):=by rw[dP];omega
 have x:Γ Δ (48- -((m%10:Nat):Int))=((48+m%10:Nat):Int):=by rw[dP];omega
 have a:IntKind.u8.wrap ((48+m%10:Nat):Int)=((48+m%10:Nat):Int):=by rw[IntKind.wrap_u8];omega
 rw[e,h,x,a];rfl
theorem zcD(m:Nat)(h:m<=9223372036854775808):Γ Δ (Int.tdiv (-(m:Int)) 10)=-((m/10:Nat):Int):=by
 have e:Int.tdiv (-(m:Int)) 10=-((m/10:Nat):Int):=by rw[Int.neg_tdiv];rfl
 have:m/10<=m:=Nat.div_le_self _ _;rw[e,dP];omega
theorem V5:∀(f m:Nat)(s:zH),m<10^f->0<f->m<=9223372036854775808->(0<m\/s=[])->Io s+f<=1000->zY EY (f+1) (.h2 (-(m:Int)) s) (.str (oy f m++s),[])
 |0,_,_,_,h,_,_,_=>by omega
 | f+1,m,s,d,_,i,g,l=>by
  have b:(EY (.h2 (-(m:Int)) s)).val=Q1 (.inl (.h2 (-((m/10:Nat):Int)) ([UInt8.ofNat (48+m%10)]++s))):=by
   show(EY (.h2 _ _)).val=_;have c:(bif Q0 (LT.lt (α:=Int) (-(m:Int)) 0)then Q3 else s==[])=Q3:=by
    rcases g with h|h
    .rw[zy ow];rfl
    .subst h;cases Q0 (LT.lt (α:=Int) (-(m:Int)) 0)<;>rfl
   simp only[EY,Q8,V6 m,zcD m i,zh];rw[ze c,ze (zy sg)]
  by_cases x:m<10
  .have e0:m/10=0:=by omega
   have e:m%10=m:=by omega
   rw[e0,e]at b;have a:oy (f+1) m=[UInt8.ofNat (48+m)]:=by rw[oy,ze x]
   rw[a];refine((zJ.of b).ends (k:=1) (zY.of ?_)).mono ow;show(EY (.h2 _ _)).val=_;simp[EY,Q8]
  .have j:0<f:=by
    cases f with
    |zero=>simp at d;omega
    |succ f=>omega
   have:=V5 f (m/10) ([UInt8.ofNat (48+m%10)]++s) (by rw[pN]at d;omega) j ow (.inl ow) sg;have a:oy (f+1) m=oy f (m/10)++[UInt8.ofNat (48+m%10)]:=by rw[oy,zg x]
   rw[a,B1];exact(zJ.of b).ends this
theorem Ar{m:Nat}(h:m<=9223372036854775808):rO (-(m:Int))=Q1 (oy 20 m,()):=by refine zA (s:=.h2 (-(m:Int)) []) rfl (V5 20 m [] ow ow h (.inr rfl) sw) ow ?_;rw[pR];rfl
theorem Cr:∀s:zH,(ls s).length<=2*Io s
 |[]=>by simp[ls]
 | c::r=>by
  have:=Cr r;rw[ls];split<;>simp<;>omega
theorem Gb(c:UInt8):∀s:zH,ls (s++[c])=ls s++(ite (c=39) ot [c])
 | []=>by
  show ls [c]=_;rw[ls,ls,ls];split<;>rfl
 | d::r=>by
  have:=Gb c r;show ls (d::(r++[c]))=_;rw[ls,ls,this];split<;>rfl
variable {α:Type}
theorem zhf{l:List α}(h:i<Io l):l.take (i+1)=l.take i++[l[i]]:=by rw[List.take_add_one,z6 h];rfl
theorem zl3(k:Io v.2.2<=1000000):zY wq (Io v.2.2*1+1) (.h13 [39] 0 (v,())) (.str ([39]++ls v.2.2++[39]),[]):=by
 have d:=zJ.all (t:=wq) 1 (λi=>.h13 ([39]++ls (v.2.2.take i)) (i:Int) (v,())) (Io v.2.2) (by
  intro i x;refine zJ.of ?_;have a:=Cr (v.2.2.take i);have c:(ls (v.2.2.take i)).length<=2000000:=by simp at a;omega
  have w:Γ Δ ((i:Int)+1)=((i+1:Nat):Int):=zu i um;have g:(Q0 (0<=(i:Int))&&Q0 ((i:Int)<=((i+1:Nat):Int))&&Q0 (((i+1:Nat):Int)<=(↑(Io v.2.2):Int)))=Q3:=by simp;omega
  have e:List.take (((i+1:Nat):Int).toNat-(i:Int).toNat) (List.drop (i:Int).toNat v.2.2)=[v.2.2[i]]:=by
   rw[aJ,aJ,show i+1-i=1 by omega,fR x];rfl
  show(wq (.h13 _ _ _)).val=_;simp only[wq,Q8,w,g,e,zI x,zx x,zh,ei v.2.2 x];rw[zhf x,Gb,ze (zy sg)];by_cases h:v.2.2[i]=39
  .rw[ze (sC.2 h),ze h,ze (zy sg),h];simp
  .rw[zg (λb=>h (sC.1 b)),zg h];simp)
 have a:=Cr v.2.2;have j:(wq (.h13 ([39]++ls (v.2.2.take (Io v.2.2))) (Io v.2.2:Int) (v,()))).val=Q1 (.inr (.str ([39]++ls v.2.2++[39]),[])):=by
  show(wq (.h13 _ _ _)).val=_;simp only[wq,Q8,zG,fQ];simp;omega
 have:=d.ends (zY.of j);rw[kf]at this;exact this
theorem zd1(x:bf v=Q3)(j:v.1≠(0:Int))(l:v.1≠(1:Int))(m:v.1≠(2:Int)):(v.1==3)=Q3/\((ep v==2)=(v.2.1==1)):=by
 have e:(v.1==0)=Q4:=dB.2 j;have g:(v.1==1)=Q4:=dB.2 l;have i:(v.1==2)=Q4:=dB.2 m;have c:=x;unfold bf at x;rw[e,g,i]at x;simp only[zE,zm]at x;cases b:(v.1==3)
 .rw[b]at x;simp at x
 .rw[b]at x;refine⟨rfl,?_⟩;have a:v.2.1=(0:Int)\/v.2.1=(1:Int):=by
   simp at x;by_cases k:v.2.1=(0:Int)
   .exact .inl k
   .by_cases d:v.2.1=(1:Int)
    .exact .inr d
    .simp[k,d]at x
  unfold ep;rw[show(v.1!=3)=Q4 by simp[bne,b],c];rcases a with h|h<;>rw[h]<;>rfl
theorem Hv(D:mb v):Bi v=Q1 (iu v,()):=by
 obtain⟨B,A,a⟩:=D;have h:=lI (v:=v) a;have e:=oS (v:=v) a;by_cases g:bf v=Q3
 .have c:(!bf v)=Q4:=by rw[g];rfl
  by_cases n:v.1=(0:Int)
  .have d:(v.1==0)=Q3:=bd.2 n;refine zP (r:=(.str Fs,[])) ?_ ?_
   .simp only[Ai,Q8,h,e,c,d,zh];rfl
   .unfold iu;rw[n,g];rfl
  have d:(v.1==0)=Q4:=dB.2 n;by_cases q:v.1=(1:Int)
  .have b:(v.1==1)=Q3:=bd.2 q;have l:iu v=sR v.2.1:=by
    unfold iu;rw[c,zg sw,ze b]
   rw[l];unfold sR;by_cases x:LT.lt (α:=Int) v.2.1 0
   .have k:=Ar (m:=v.2.1.natAbs) ow;rw[show -((v.2.1.natAbs:Nat):Int)=v.2.1 by omega]at k;have o:lc v.2.1=Q3:=by unfold lc;rw[k];rfl
    have p:lK v.2.1=oy 20 v.2.1.natAbs:=by unfold lK;rw[k];rfl
    have y:=Cq 20 v.2.1.natAbs;rw[ze x];refine zP (r:=(.str ([45]++oy 20 v.2.1.natAbs),[])) ?_ rfl;simp only[Ai,Q8,h,e,c,d,b,zy x,o,p,zh];rw[zg sw,zg sw,ze (zy sg)]
   .have k:=Ar (m:=v.2.1.natAbs) ow;have E:Γ Δ (0-v.2.1)=-((v.2.1.natAbs:Nat):Int):=by rw[dP];omega
    have o:lc (-((v.2.1.natAbs:Nat):Int))=Q3:=by unfold lc;rw[k];rfl
    have p:lK (-((v.2.1.natAbs:Nat):Int))=oy 20 v.2.1.natAbs:=by unfold lK;rw[k];rfl
    rw[zg x];refine zP (r:=(.str (oy 20 v.2.1.natAbs),[])) ?_ rfl;simp only[Ai,Q8,h,e,c,d,b,z7 x,E,o,p,zh];rw[zg sw,zg sw,zg sw]
  have b:(v.1==1)=Q4:=dB.2 q;by_cases u:v.1=(2:Int)
  .have i:(v.1==2)=Q3:=bd.2 u;have l:iu v=[39]++ls v.2.2++[39]:=by
    unfold iu;rw[c,zg sw,zg (by rw[b];simp),ze i,Et]
   rw[l];have z:zY wq (Io v.2.2*1+1) (.h13 [39] 0 (v,())) (.str ([39]++ls v.2.2++[39]),[]):=zl3 (v:=v) a;refine zA (s:=.h13 [39] 0 (v,())) ?_ z ow rfl;simp only[Ai,Q8,h,e,c,d,b,i,zh];rfl
  .have i:(v.1==2)=Q4:=dB.2 u;obtain⟨w,C⟩:=zd1 g n q u;have l:iu v=if(v.2.1==1)=Q3 then Ii else Ih:=by
    unfold iu;rw[c,zg sw,zg (by rw[b];simp),zg (by rw[i];simp),ze w,C]
   rw[l];by_cases j:(v.2.1==1)=Q3
   .rw[ze j];refine zP (r:=(.str Ii,[])) ?_ rfl;simp only[Ai,Q8,h,e,c,d,b,i,j,zh];rfl
   .rw[zg j];refine zP (r:=(.str Ih,[])) ?_ rfl;have j:(v.2.1==1)=Q4:=by simpa using j
    simp only[Ai,Q8,h,e,c,d,b,i,j,zh];rfl
 .have g:bf v=Q4:=by simpa using g
  refine zP (r:=(.str [],[])) ?_ ?_
  .simp only[Ai,Q8,h,e,g,zh];rfl
  .unfold iu;rw[g];rfl
theorem Hu(h:mb v):kN v=Q3:=by unfold kN;rw[Hv h];rfl
theorem MS(h:mb v):oT v=iu v:=by unfold oT;rw[Hv h];rfl
theorem rV:∀(N d M:Nat)(e:za),d<=12->d<=N->d<=M->cH d e=Q3->ut e->cR N e=Q1 (aZ M e,())/\(aZ M e).length<=400*nE d e
 |_,0,_,_,_,_,_,h,_=>by cases h
 |0,d+1,_,_,_,h,_,_,_=>zC h ow
 |_,d+1,0,_,_,_,h,_,_=>zC h ow
 | N+1,d+1,M+1,e,J,L,O,h,m=>by
  rw[cR];unfold Sl;cases fX h with
  | lit v S=>
   rw[ut]at m;have i:aZ (M+1) (.mk ou v [] [])=iu v:=rfl;have F:=yC v;rw[i];refine⟨zP (r:=(.str (iu v),[])) ?_ rfl,by simp[nE];omega⟩;have x:(pt (λj=>iP (cR N j)) (λj=>(cR N j).isSome) (.mk ou v [] [])).val=if kN v=Q3 then Q1 (.inr (.str (oT v),[]))else Q2:=rfl
   rw[x,Hu m.1,MS m.1];rfl
  | col s G P=>
   have F:=HY G;have i:aZ (M+1) (.mk eL (0,0,[]) s [])=s:=rfl;rw[i];exact⟨zP (r:=(.str s,[])) rfl rfl,by simp[nE];omega⟩
  | one o a A q=>
   rw[ut,lm]at m;obtain⟨u,la⟩:=rV N d M a ow ow ow q m.2.2.1;have B:=sU d a q;have I:2^d<=2^12:=F0 ow ow;have C:nE (d+1) (.mk o (0,0,[]) [] [a])=1+nE d a:=by simp[nE]
   rw[C];generalize z:(λj=>iP (cR N j))=g;generalize y:(λj=>(cR N j).isSome)=c;have l:g a=aZ M a:=by rw[<-z];show iP (cR N a)=_;rw[u];rfl
   have k:c a=Q3:=by rw[<-y];show(cR N a).isSome=_;rw[u];rfl
   rcases A with rfl|rfl
   .have i:aZ (M+1) (.mk ni (0,0,[]) [] [a])=uB++aZ M a++[41]:=rfl;rw[i];refine⟨zP (r:=(.str (uB++aZ M a++[41]),[])) ?_ rfl,sg⟩;have x:(pt g c (.mk ni (0,0,[]) [] [a])).val=if c (zr a)=Q3 then(ite (Q0 (Io uB+Io (g (zr a))<=1099511627776)=Q3) (ite (Q0 ((uB++g (zr a)).length+[41].length<=1099511627776)=Q3) (Q1 (.inr (.str (uB++g (zr a)++[41]),[]))) Q2) Q2)else Q2:=rfl
    rw[x,zn,k,l,ze rfl,ze (zy sg),ze (zy sg)]
   .have i:aZ (M+1) (.mk po (0,0,[]) [] [a])=[40]++aZ M a++Cc:=rfl;rw[i];refine⟨zP (r:=(.str ([40]++aZ M a++Cc),[])) ?_ rfl,sg⟩;have x:(pt g c (.mk po (0,0,[]) [] [a])).val=if c (zr a)=Q3 then(ite (Q0 ([40].length+Io (g (zr a))<=1099511627776)=Q3) (ite (Q0 (([40]++g (zr a)).length+Io Cc<=1099511627776)=Q3) (Q1 (.inr (.str ([40]++g (zr a)++Cc),[]))) Q2) Q2)else Q2:=rfl
    rw[x,zn,k,l,ze rfl,ze (zy sg),ze (zy sg)]
  | two o a b A q B=>
   rw[ut,lm,lm]at m;obtain⟨u,la⟩:=rV N d M a ow ow ow q m.2.2.1;obtain⟨kb,lb⟩:=rV N d M b ow ow ow B m.2.2.2.1;have D:=sU d a q;have E:=sU d b B;have I:2^d<=2^12:=F0 ow ow;have C:nE (d+1) (.mk o (0,0,[]) [] [a,b])=1+(nE d a+nE d b):=by simp[nE]
   rw[C];generalize z:(λj=>iP (cR N j))=g;generalize y:(λj=>(cR N j).isSome)=c;have l:g a=aZ M a:=by rw[<-z];show iP (cR N a)=_;rw[u];rfl
   have k:c a=Q3:=by rw[<-y];show(cR N a).isSome=_;rw[u];rfl
   have p:g b=aZ M b:=by rw[<-z];show iP (cR N b)=_;rw[kb];rfl
   have n:c b=Q3:=by rw[<-y];show(cR N b).isSome=_;rw[kb];rfl
   have i:∀w:zH,Lib.toUpperA o=w->tv (aZ M) (g6 M) (.mk o (0,0,[]) [] [a,b])=[40]++aZ M a++[32]++w++[32]++aZ M b++[41]:=by
    rintro w rfl;rcases A with rfl|rfl|rfl|rfl|rfl|rfl<;>rfl
   have H:aZ (M+1) (.mk o (0,0,[]) [] [a,b])=tv (aZ M) (g6 M) (.mk o (0,0,[]) [] [a,b]):=rfl;rw[H];rcases A with rfl|rfl|rfl|rfl|rfl|rfl
   .rw[i VP rfl];refine⟨zP (r:=(.str ([40]++aZ M a++Ob++aZ M b++[41]),[])) ?_ (by simp[aU];rfl),sg⟩;have x:(pt g c (.mk iw (0,0,[]) [] [a,b])).val=if c (zr a)=Q3 then(ite (Q0 ([40].length+Io (g (zr a))<=1099511627776)=Q3) (ite (Q0 (([40]++g (zr a)).length+Io Ob<=1099511627776)=Q3) (ite (c (zr b)=Q3) (ite (Q0 (([40]++g (zr a)++Ob).length+Io (g (zr b))<=1099511627776)=Q3) (ite (Q0 (([40]++g (zr a)++Ob++g (zr b)).length+[41].length<=1099511627776)=Q3) (Q1 (.inr (.str ([40]++g (zr a)++Ob++g (zr b)++[41]),[]))) Q2) Q2) Q2) Q2) Q2)else Q2:=rfl
    rw[x,zn,zn,k,n,l,p,ze rfl,ze (zy sg),ze (zy sg),ze rfl,ze (zy sg),ze (zy sg)]
   .rw[i [79,82] rfl];refine⟨zP (r:=(.str ([40]++aZ M a++Oc++aZ M b++[41]),[])) ?_ (by simp[aU];rfl),sg⟩;have x:(pt g c (.mk uD (0,0,[]) [] [a,b])).val=if c (zr a)=Q3 then(ite (Q0 ([40].length+Io (g (zr a))<=1099511627776)=Q3) (ite (Q0 (([40]++g (zr a)).length+Io Oc<=1099511627776)=Q3) (ite (c (zr b)=Q3) (ite (Q0 (([40]++g (zr a)++Oc).length+Io (g (zr b))<=1099511627776)=Q3) (ite (Q0 (([40]++g (zr a)++Oc++g (zr b)).length+[41].length<=1099511627776)=Q3) (Q1 (.inr (.str ([40]++g (zr a)++Oc++g (zr b)++[41]),[]))) Q2) Q2) Q2) Q2) Q2)else Q2:=rfl
    rw[x,zn,zn,k,n,l,p,ze rfl,ze (zy sg),ze (zy sg),ze rfl,ze (zy sg),ze (zy sg)]
   .rw[i [61] rfl];refine⟨zP (r:=(.str ([40]++aZ M a++[32]++[61]++[32]++aZ M b++[41]),[])) ?_ rfl,sg⟩;have x:(pt g c (.mk [61] (0,0,[]) [] [a,b])).val=if c (zr a)=Q3 then(ite (Q0 ([40].length+Io (g (zr a))<=1099511627776)=Q3) (ite (Q0 (([40]++g (zr a)).length+[32].length<=1099511627776)=Q3) (ite (Q0 (([40]++g (zr a)++[32]).length+Io [61]<=1099511627776)=Q3) (ite (Q0 (([40]++g (zr a)++[32]++[61]).length+[32].length<=1099511627776)=Q3) (ite (c (zr b)=Q3) (ite (Q0 (([40]++g (zr a)++[32]++[61]++[32]).length+Io (g (zr b))<=1099511627776)=Q3) (ite (Q0 (([40]++g (zr a)++[32]++[61]++[32]++g (zr b)).length+[41].length<=1099511627776)=Q3) (Q1 (.inr (.str ([40]++g (zr a)++[32]++[61]++[32]++g (zr b)++[41]),[]))) Q2) Q2) Q2) Q2) Q2) Q2) Q2)else Q2:=rfl
    rw[x,zn,zn,k,n,l,p,ze rfl,ze (zy sg),ze (zy sg),ze (zy sg),ze (zy sg),ze rfl,ze (zy sg),ze (zy sg)]
   .rw[i [60] rfl];refine⟨zP (r:=(.str ([40]++aZ M a++[32]++[60]++[32]++aZ M b++[41]),[])) ?_ rfl,sg⟩;have x:(pt g c (.mk [60] (0,0,[]) [] [a,b])).val=if c (zr a)=Q3 then(ite (Q0 ([40].length+Io (g (zr a))<=1099511627776)=Q3) (ite (Q0 (([40]++g (zr a)).length+[32].length<=1099511627776)=Q3) (ite (Q0 (([40]++g (zr a)++[32]).length+Io [60]<=1099511627776)=Q3) (ite (Q0 (([40]++g (zr a)++[32]++[60]).length+[32].length<=1099511627776)=Q3) (ite (c (zr b)=Q3) (ite (Q0 (([40]++g (zr a)++[32]++[60]++[32]).length+Io (g (zr b))<=1099511627776)=Q3) (ite (Q0 (([40]++g (zr a)++[32]++[60]++[32]++g (zr b)).length+[41].length<=1099511627776)=Q3) (Q1 (.inr (.str ([40]++g (zr a)++[32]++[60]++[32]++g (zr b)++[41]),[]))) Q2) Q2) Q2) Q2) Q2) Q2) Q2)else Q2:=rfl
    rw[x,zn,zn,k,n,l,p,ze rfl,ze (zy sg),ze (zy sg),ze (zy sg),ze (zy sg),ze rfl,ze (zy sg),ze (zy sg)]
   .rw[i [43] rfl];refine⟨zP (r:=(.str ([40]++aZ M a++[32]++[43]++[32]++aZ M b++[41]),[])) ?_ rfl,sg⟩;have x:(pt g c (.mk [43] (0,0,[]) [] [a,b])).val=if c (zr a)=Q3 then(ite (Q0 ([40].length+Io (g (zr a))<=1099511627776)=Q3) (ite (Q0 (([40]++g (zr a)).length+[32].length<=1099511627776)=Q3) (ite (Q0 (([40]++g (zr a)++[32]).length+Io [43]<=1099511627776)=Q3) (ite (Q0 (([40]++g (zr a)++[32]++[43]).length+[32].length<=1099511627776)=Q3) (ite (c (zr b)=Q3) (ite (Q0 (([40]++g (zr a)++[32]++[43]++[32]).length+Io (g (zr b))<=1099511627776)=Q3) (ite (Q0 (([40]++g (zr a)++[32]++[43]++[32]++g (zr b)).length+[41].length<=1099511627776)=Q3) (Q1 (.inr (.str ([40]++g (zr a)++[32]++[43]++[32]++g (zr b)++[41]),[]))) Q2) Q2) Q2) Q2) Q2) Q2) Q2)else Q2:=rfl
    rw[x,zn,zn,k,n,l,p,ze rfl,ze (zy sg),ze (zy sg),ze (zy sg),ze (zy sg),ze rfl,ze (zy sg),ze (zy sg)]
   .rw[i [45] rfl];refine⟨zP (r:=(.str ([40]++aZ M a++[32]++[45]++[32]++aZ M b++[41]),[])) ?_ rfl,sg⟩;have x:(pt g c (.mk [45] (0,0,[]) [] [a,b])).val=if c (zr a)=Q3 then(ite (Q0 ([40].length+Io (g (zr a))<=1099511627776)=Q3) (ite (Q0 (([40]++g (zr a)).length+[32].length<=1099511627776)=Q3) (ite (Q0 (([40]++g (zr a)++[32]).length+Io [45]<=1099511627776)=Q3) (ite (Q0 (([40]++g (zr a)++[32]++[45]).length+[32].length<=1099511627776)=Q3) (ite (c (zr b)=Q3) (ite (Q0 (([40]++g (zr a)++[32]++[45]++[32]).length+Io (g (zr b))<=1099511627776)=Q3) (ite (Q0 (([40]++g (zr a)++[32]++[45]++[32]++g (zr b)).length+[41].length<=1099511627776)=Q3) (Q1 (.inr (.str ([40]++g (zr a)++[32]++[45]++[32]++g (zr b)++[41]),[]))) Q2) Q2) Q2) Q2) Q2) Q2) Q2)else Q2:=rfl
    rw[x,zn,zn,k,n,l,p,ze rfl,ze (zy sg),ze (zy sg),ze (zy sg),ze (zy sg),ze rfl,ze (zy sg),ze (zy sg)]
section
variable {σ:Type} {t:σ->Tr (σ⊕au)}
abbrev HF:au:=(.kb Q4,[])
theorem OM{α:Type}{la lb:List α}(s:Nat->σ)(d:Io la=Io lb)(g:∀i(j:i<Io la)(c:i<Io lb),(la[i]=lb[i]->(t (s i)).val=Q1 (.inl (s (i+1))))/\(la[i]≠lb[i]->(t (s i)).val=Q1 (.inr HF))):
  (la=lb/\zJ t (Io la) (s 0) (s (Io la)))\/(la≠lb/\zY t (Io la) (s 0) HF):=by
 rcases mF (t:=t) (Φ:=λr=>r=HF) 1 s (λi=>la[i]?=lb[i]?) (Io la) (λi b _=>by
  have c:i<Io lb:=by omega
  obtain⟨a,x⟩:=g i b c;rw[z6 b,z6 c];by_cases h:la[i]=lb[i]
  .exact .inl ⟨by rw[h],zJ.of (a h)⟩
  .exact .inr ⟨λe=>h (Option.some.inj e),HF,zY.of (x h),rfl⟩)with⟨a,x⟩|⟨a,r,x,rfl⟩
 .rw[Nat.mul_one]at x;refine .inl ⟨pm λi=>?_,x⟩;by_cases b:i<Io la
  .exact a i b
  .rw[eZ ow,eZ ow]
 .rw[Nat.mul_one]at x;exact .inr ⟨λh=>a λi _=>by rw[h],x⟩
end
theorem jD{a b:List α}:((Io a:Int)!=(Io b:Int))=Q3↔Io a≠Io b:=by simp[bne];omega
theorem D3:∀(N:Nat)(a b:za),pZ N a=Q3->∃r,cr N a b=Q1 (r,())/\(r=Q3↔a=b)
 |0,_,_,h=>by cases h
 | N + 1,.mk g v s l,.mk o e k j,h=>by
  rw[pZ]at h;simp only[aE,aQ,dQ]at h;obtain⟨I,G⟩:=h;rw[cr];unfold Jh
  have z:(Dk (λx d=>hI (cr N x d)) (λx d=>(cr N x d).isSome) (.mk g v s l) (.mk o e k j)).val=Q1 (.inr HF)->¬(za.mk g v s l=za.mk o e k j)->
    ∃r,an [Sh.bool] (Kj (λx d=>hI (cr N x d)) (λx d=>(cr N x d).isSome)) 3000000000 (Dk (λx d=>hI (cr N x d)) (λx d=>(cr N x d).isSome) (.mk g v s l) (.mk o e k j))=Q1 (r,())/\(r=Q3↔za.mk g v s l=za.mk o e k j):=by
   intro q D;exact⟨Q4,zP q rfl,by simp[D]⟩
  have n:∀c:Bool,(cond (!g==o) Q3 (cond (!(v.1==e.1&&(v.2.1==e.2.1&&(v.2.2==e.2.2&&Q3)))) Q3 (cond (!s==k) Q3 ((↑l.length:Int)!=(↑j.length:Int)))))=c->
    (Dk (λx d=>hI (cr N x d)) (λx d=>(cr N x d).isSome) (.mk g v s l) (.mk o e k j)).val=if c=Q3 then Q1 (.inr HF)else Q1 (.inl (.h4 ((0:Nat):Int) (.mk g v s l,()) (.mk o e k j,()))):=by
   rintro c rfl;rfl
  by_cases A:g=o;rotate_left
  .exact z (by rw[n Q3 (by rw[dB.2 A];rfl)];rfl) (λh=>A (by injection h))
  by_cases B:v=e;rotate_left
  .refine z ?_ (λh=>B (by injection h));rw[n Q3 ?_]
   .rfl
   .have:(v.1==e.1&&(v.2.1==e.2.1&&(v.2.2==e.2.2&&Q3)))=Q4:=by
     rw[<-gT];intro h;simp at h;exact B (Prod.ext h.1 (Prod.ext h.2.1 h.2.2))
    rw[this];cases(g==o)<;>rfl
  by_cases C:s=k;rotate_left
  .refine z ?_ (λh=>C (by injection h));rw[n Q3 ?_]
   .rfl
   .rw[dB.2 C];cases(g==o)<;>cases(v.1==e.1&&(v.2.1==e.2.1&&(v.2.2==e.2.2&&Q3)))<;>rfl
  by_cases w:Io l=Io j;rotate_left
  .refine z ?_ (λh=>w (by injection h with _ _ _ h;rw[h]));rw[n Q3 ?_]
   .rfl
   .rw[jD.2 w];cases(g==o)<;>cases(v.1==e.1&&(v.2.1==e.2.1&&(v.2.2==e.2.2&&Q3)))<;>cases(s==k)<;>rfl
  subst A;subst B;subst C;have q:=n Q4 (by
   have:((↑l.length:Int)!=(↑j.length:Int))=Q4:=by rw[<-gT,jD];exact λh=>h w
   rw[this];simp)
  rw[zg sw]at q
  rcases OM (t:=Kj (λx d=>hI (cr N x d)) (λx d=>(cr N x d).isSome)) (la:=l) (lb:=j) (λi=>.h4 (i:Int) (.mk g v s l,()) (.mk g v s j,())) w (by
   intro i y p;obtain⟨r,H,m⟩:=D3 N l[i] j[i] (G _ (bp y));have E:getD l (i:Int).toNat (zi Sh.expr)=l[i]:=zX _ _ y;have F:getD j (i:Int).toNat (zi Sh.expr)=j[i]:=zX _ _ p;have u:(Kj (λx d=>hI (cr N x d)) (λx d=>(cr N x d).isSome) (.h4 (i:Int) (.mk g v s l,()) (.mk g v s j,()))).val=if(!r)=Q3 then Q1 (.inr HF)else Q1 (.inl (.h4 ((i+1:Nat):Int) (.mk g v s l,()) (.mk g v s j,()))):=by
    simp only[Kj,Kk,BL,Q8,za.l,zn,E,F,zx y,zx p,H,fG,zh];rw[zu i um];show(ite (Q0 ((i:Int)<(Io l:Int))=Q3) _ _)=_;rw[ze (zy ow)];rfl
   rw[u];refine⟨λh=>?_,λh=>?_⟩
   .rw[zg (by rw[m.2 h];simp)]
   .rw[ze];cases r
    .rfl
    .exact zC (m.1 rfl) h)with⟨h1,h2⟩|⟨h1,h2⟩
  .subst h1;refine⟨Q3,zA q (h2.ends (zY.of (r:=(.kb Q3,[])) ?_)) ow rfl,sw⟩;simp only[Kj,Kk,BL,Q8,za.l];exact zg sw
  .exact⟨Q4,zA q h2 ow rfl,by simp[h1]⟩
theorem rT{a b:za}(h:pZ 16 a=Q3):hA a b=Q3/\(fB a b=Q3↔a=b):=by
 obtain⟨r,x,c⟩:=D3 16 a b h;have x:Bl a b=Q1 (r,()):=x;refine⟨by unfold hA;rw[x];rfl,?_⟩;have:fB a b=r:=by unfold fB;rw[x];rfl
 rw[this];exact c
section
variable {σ:Type} {t:σ->Tr (σ⊕au)}
def Vc(t:σ->Tr (σ⊕au))(K:Nat)(n:σ⊕au)(r:au):Prop:=match n with
 |.inl h=>zY t K h r
 |.inr x=>x=r
theorem mn{α:Type}{la lb:List α}(s:Int->σ)(n:σ⊕au)(e:Nat->Bool)(x:∀i:Nat,i<=Io la->(t (s i)).val=if Q0 (LT.lt (α:=Int) (i:Int) (Io la:Int))=Q3 then(ite (zK (i:Int) (Io la)=Q3) (ite (zK (i:Int) (Io lb)=Q3) (ite ((!e i)=Q3) (Q1 (.inr HF)) (Q1 (.inl (s (Γ Δ ((i:Int)+1)))))) Q2) Q2)else Q1 n)
  (l:∀i(_:i<Io la)(d:i<Io la)(j:i<Io lb),e i=Q3↔la[i]=lb[i]) (b:Io la=Io lb) (o:Io la<=1000000):
  (la=lb/\∀K r,Vc t K n r->zY t (K+Io la+1) (s 0) r)\/(la≠lb/\zY t (Io la) (s 0) HF):=by
 rcases OM (t:=t) (la:=la) (lb:=lb) (λi=>s (i:Int)) b (λi d j=>by
  have a:=x i ow;rw[ze (zy ow),ze (zx d),ze (zx j),zu i um]at a;have:=l i d d j;refine⟨λh=>?_,λh=>?_⟩
  .rw[a,zg (by rw[this.2 h];simp)]
  .rw[a,ze];cases m:e i
   .rfl
   .exact zC (this.1 m) h)with⟨g,c⟩|⟨g,c⟩
 .refine .inl ⟨g,λK r k=>?_⟩;have a:=x (Io la) (ah _);rw[zg sw]at a;unfold Vc at k;cases n with
  |inl h=>exact(c.ends ((zJ.of a).ends k)).mono ow
  |inr p=>cases k;exact(c.ends (zY.of a)).mono ow
 .exact .inr ⟨g,c⟩
end
theorem VY(a b:bR):(a.1==b.1&&(a.2.1==b.2.1&&(a.2.2==b.2.2&&Q3)))=Q3↔a=b:=by simp[Prod.ext_iff]
theorem ztr(a b:Sem kC):(a.1==b.1&&(a.2==b.2&&Q3))=Q3↔a=b:=by simp[Prod.ext_iff]
theorem zj0(a b:bW):(a.1==b.1&&(a.2==b.2&&Q3))=Q3↔a=b:=by simp[Prod.ext_iff]
theorem zmp(a b:zp):(a.1==b.1&&(a.2.1==b.2.1&&(a.2.2==b.2.2&&Q3)))=Q3↔a=b:=by simp[Prod.ext_iff]
end Cad
