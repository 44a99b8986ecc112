/- The document's expressions that may be are the program's. -/
import Derived.Test.YtjdjldbhjmgmkaaGreatDoorN18
namespace Cad
open Go Go.Proofs
open List renaming length->Io,length->N
open IntKind renaming wrap->Γ,i64->Δ
open Tr renaming val->Q8
open Bool renaming true->Q3,true->Z,false->M
open Option renaming none->Q2,some->Y
open Decidable renaming decide->K
open Int renaming toNat->W
open List renaming getD->T
open Tr (chk br re)
open AV (nils agg tup ptr kb str sl)
open Cad renaming ow->S,zj->Q,ai->J,ze->R
set_option maxHeartbeats 4000000
variable {s:zN}
theorem Xx(h:H1 s=Z):s=jf\/s=wS\/s=[61]\/s=[60]\/s=[43]\/s=[45]:=by
 unfold H1 at h;rcases zW (s==jf)with c|c
 .exact .inl (bV c)
 rcases zW (s==wS)with x|x
 .exact .inr (.inl (bV x))
 rcases zW (s==[61])with a|a
 .exact .inr (.inr (.inl (bV a)))
 rcases zW (s==[60])with b|b
 .exact .inr (.inr (.inr (.inl (bV b))))
 rcases zW (s==[43])with d|d
 .exact .inr (.inr (.inr (.inr (.inl (bV d)))))
 rcases zW (s==[45])with e|e
 .exact .inr (.inr (.inr (.inr (.inr (bV e)))))
 rw[c,x,a,b,d,e]at h;cases h
inductive X0 (d:Nat):zg->Prop
 |lit (v:Int×Int×zN) (h:bg v=Z):X0 d (.mk pI v [] [])
 |col (s:zN) (h:eS s=Z) (h2:kh s=M):X0 d (.mk fh (0,0,[]) s [])
 |one (op:zN) (a:zg) (h:op=oH\/op=qM) (ha:cZ d a=Z):X0 d (.mk op (0,0,[]) [] [a])
 |two (op:zN) (a b:zg) (h:op=jf\/op=wS\/op=[61]\/op=[60]\/op=[43]\/op=[45]) (ha:cZ d a=Z) (hb:cZ d b=Z):X0 d (.mk op (0,0,[]) [] [a,b])
theorem Fr{v:Int×Int×zN}(h:bF v=Z):v=(0,0,[]):=by have⟨a,b,c⟩:=v;unfold bF at h;simp at h;obtain⟨rfl,rfl,rfl⟩:=h;rfl
theorem de{a b:Bool}(h:(cond a b M)=Z):a=Z/\b=Z:=by cases a<;>cases b<;>simp_all
theorem WY(h:(cond (s==oH) Z (s==qM))=Z):s=oH\/s=qM:=by
 rcases zW (s==oH)with k|k
 .exact .inl (bV k)
 .rw[k]at h;exact .inr (bV h)
variable {i:Nat}
theorem gK:∀{e:zg},cZ (i+1) e=Z->X0 i e
 | .mk o v s [],h=>by
  simp only[cZ]at h;split at h
  next c=>have⟨g,j⟩:=de h;have⟨k,l⟩:=de j;rw[bV c,bV k];exact .lit v g
  split at h
  next c=>have⟨g,j⟩:=de h;have⟨k,l⟩:=de j;have⟨n,t⟩:=de l;rw[bV c,Fr g];exact .col s k (by simpa using n)
  split at h
  .cases x:bF v<;>cases d:(s==[])<;>simp[x,d]at h
  split at h
  .cases x:bF v<;>cases d:(s==[])<;>simp[x,d]at h
  .cases h
 | .mk o v s [a],h=>by
  simp only[cZ]at h;split at h
  .cases x:bg v<;>cases d:(s==[])<;>simp[x,d]at h
  split at h
  .cases x:bF v<;>cases d:eS s<;>cases m:kh s<;>simp[x,d,m]at h
  split at h
  next c=>have⟨g,j⟩:=de h;have⟨k,l⟩:=de j;rw[bV k,Fr g];exact .one o a (WY c) l
  split at h
  .cases x:bF v<;>cases d:(s==[])<;>simp[x,d]at h
  .cases h
 | .mk o v s [a,b],h=>by
  simp only[cZ]at h;split at h
  .cases x:bg v<;>cases d:(s==[])<;>simp[x,d]at h
  split at h
  .cases x:bF v<;>cases d:eS s<;>cases m:kh s<;>simp[x,d,m]at h
  split at h
  .cases x:bF v<;>cases d:(s==[])<;>simp[x,d]at h
  split at h
  next c=>have⟨g,j⟩:=de h;have⟨k,l⟩:=de j;have⟨p,q⟩:=de l;rw[bV k,Fr g];exact .two o a b (Xx c) p q
  .cases h
 | .mk o v s (a::b::c::r),h=>by
  have e0:((((a::b::c::r).length:Nat):Int)==0)=M:=dM.2 sg;simp only[cZ,e0]at h;split at h
  .cases x:bg v<;>cases d:(s==[])<;>simp[x,d]at h
  split at h
  .cases x:bF v<;>cases d:eS s<;>cases m:kh s<;>simp[x,d,m]at h
  split at h
  .cases x:bF v<;>cases d:(s==[])<;>simp[x,d]at h
  split at h
  .cases x:bF v<;>cases d:(s==[])<;>simp[x,d]at h
  .cases h
theorem ve:∀(d:Nat)(e:zg),cZ d e=Z->nE d e+1<=2^d
 |0,_,h=>by cases h
 | d+1,e,h=>by
  have c:0<2^d:=Nat.two_pow_pos d;cases gK h with
  |lit v h=>simp[nE,pD];omega
  |col s h c=>simp[nE,pD];omega
  |one o a h x=>have:=ve d a x;simp[nE,pD];omega
  |two o a b h x g=>have:=ve d a x;have:=ve d b g;simp[nE,pD];omega
variable {e:zg}
theorem zof(h:cZ i e=Z):1<=nE i e:=by
 cases i with
 |zero=>cases h
 | succ i=>
  have⟨o,v,s,l⟩:=e;rw[nE];omega
theorem zcD(h:i<=1000000):Γ Δ (i:Int)=(i:Int):=by rw[fe];omega
theorem qq:∀(x d:Nat)(e:zg),d<=12->d<=x->cZ d e=Z->di x e=Y ((nE d e:Int),())
 |_,0,_,_,_,h=>by cases h
 |0,d+1,_,_,h,_=>zB h S
 | x+1,d+1,e,E,y,h=>by
  have F:2^(d+1)<=2^12:=Il S S;have z:=ve (d+1) e h
  have c:∀(e:zg)(i:Nat)(n k:Nat)(q:i<(zg.l e).length),di x (zg.l e)[i]=Y ((k:Int),())->n+k<=1000000->i<=1000->
    (Ki (λj=>jx (di x j)) (λj=>(di x j).isSome) (.h3 (n:Int) (i:Int) (e,()))).val=Y (.inl (.h3 ((n+k:Nat):Int) ((i+1:Nat):Int) (e,()))):=by
   intro e i n k q A B G;have w:T (zg.l e) (i:Int).toNat (Q Sh.expr)=(zg.l e)[i]:=zP _ _ q;simp only[Ki,MM,Hg,Q8,w,zn,A,zM q,zu q,dz,zi];show Y (Sum.inl (wF.h3 (Γ Δ ((n:Int)+(k:Int))) _ _))=_;rw[zt i um,<-wK,zcD B]
  have g:∀(e:zg)(n:Nat),(Ki (λj=>jx (di x j)) (λj=>(di x j).isSome) (.h3 (n:Int) ((zg.l e).length:Int) (e,()))).val=Y (.inr (J n,[])):=by
   intro e n;simp only[Ki,MM,Hg,Q8,zJ];rfl
  have m:∀e,(ZT (λj=>jx (di x j)) (λj=>(di x j).isSome) e).val=Y (.inl (.h3 ((1:Nat):Int) ((0:Nat):Int) (e,()))):=λ_=>rfl
  rw[di];unfold Pv;cases gK h with
  |lit v h=>exact zz (m _) (zV.of (g _ 1)) S rfl
  |col s h y=>exact zz (m _) (zV.of (g _ 1)) S rfl
  | one o a h p=>
   have t:=qq x d a S S p;have C:=ve d a p;have D:2^d<=2^12:=Il S S;refine zz (m _) ((zG.of (c (.mk o (0,0,[]) [] [a]) 0 1 (nE d a) (by simp[zg.l]) t S S)).ends (zV.of (g (.mk o (0,0,[]) [] [a]) _))) S ?_;simp[nE];rfl
  | two o a b h p u=>
   have t:=qq x d a S S p;have kb:=qq x d b S S u;have C:=ve d a p;have H:=ve d b u;have D:2^d<=2^12:=Il S S;refine zz (m _) ((zG.of (c (.mk o (0,0,[]) [] [a,b]) 0 1 (nE d a) (by simp[zg.l]) t S S)).ends ((zG.of (c (.mk o (0,0,[]) [] [a,b]) 1 (1+nE d a) (nE d b) (by simp[zg.l]) kb S S)).ends (zV.of (g (.mk o (0,0,[]) [] [a,b]) _)))) S ?_;simp[nE,Nat.add_assoc];rfl
theorem tE:∀(x k:Nat)(e:zg)(n:Nat),k<=12->k<=x->cZ k e=Z->n+nE k e<=60->jg x e ((13:Int)-k) n=(Z,((n+nE k e:Nat):Int))
 |_,0,_,_,_,_,h,_=>by cases h
 |0,k+1,_,_,_,h,_,_=>zB h S
 | x+1,k+1,e,n,C,m,h,p=>by
  rw[jg];unfold CG;have B:Γ Δ ((n:Int)+1)=((n+1:Nat):Int):=zt n um;have w:Γ Δ ((13:Int)-((k+1:Nat):Int)+1)=(13:Int)-(k:Int):=by rw[fe];omega
  have t:K ((13:Int)-((k+1:Nat):Int)>12)=M:=aC S;have q:=zof h;have u:K (((n+1:Nat):Int)>60)=M:=aC S;rw[B,t,u];cases gK h with
  |lit v z=>simp[zg.op,zg.l,zg.s,zg.v,dU,Cd,U9,z,nE]
  |col s A m=>simp[zg.op,zg.l,zg.s,zg.v,dU,Cd,U9,A,m,nE,bF]
  | one o a g c=>
   have d:n+1+nE k a<=60:=by simp[nE]at p;omega
   have j:=tE x k a (n+1) S S c d;have i:((n+nE (k+1) (.mk o (0,0,[]) [] [a]):Nat):Int)=((n+1+nE k a:Nat):Int):=by simp[nE];omega
   rw[i]
   push_cast at*
   rcases g with rfl|rfl<;>simp[zg.op,zg.l,zg.s,zg.v,dU,Cd,U9,bF,rg,w,j]
  | two o a b g c y=>
   have d:n+1+nE k a+nE k b<=60:=by simp[nE]at p;omega
   have j:=tE x k a (n+1) S S c S;have kb:=tE x k b (n+1+nE k a) S S y d;have i:((n+nE (k+1) (.mk o (0,0,[]) [] [a,b]):Nat):Int)=((n+1+nE k a+nE k b:Nat):Int):=by simp[nE];omega
   rw[i]
   push_cast at*
   rcases g with rfl|rfl|rfl|rfl|rfl|rfl<;>simp[zg.op,zg.l,zg.s,zg.v,dU,Cd,U9,bF,rg,w,j,kb]
theorem oT{α:Type}{p:α->Bool}{d:α}:∀(l:List α)(k i:Nat),i<N l->p (l.getD i d)=Z->(∀j,j<i->p (l.getD j d)=M)->al p l k=((k+i:Nat):Int)
 |[],_,_,h,_,_=>by simp at h
 | x::r,k,0,_,hp,_=>by
  rw[al,zf (by simpa using hp)];rfl
 | x::r,k,i+1,h,hp,hj=>by
  have b:=hj 0 S;rw[al,zh (by simp_all),oT r (k+1) i (by simpa using h) (by simpa using hp) (λj a=>by simpa using hj (j+1) S)];congr 1;omega
theorem oU{α:Type}{p:α->Bool}{d:α}:∀(l:List α)(k:Nat),(∀j,j<N l->p (l.getD j d)=M)->al p l k=-1
 |[],_,_=>rfl
 | x::r,k,hj=>by
  have a:=hj 0 sw;rw[al,zh (by simp_all)];exact oU (d:=d) r (k+1) (λj h=>by simpa using hj (j+1) (by simpa using h))
variable {c:aZ}
theorem Gq(g:N c<=1000000):Gp c s=Y (aL c s,()):=by
 have e:=nP (t:=zci) (Φ:=λr=>r=(J (aL c s),[])) 1 (λi=>.h2 c s (i:Int)) (λi=>((T c i (Q zp)).1==s)=M) (N c) (by
  grind[Q8,zci,SS,MS,zu,zt,aF,zV.of,oT,aL,zG.of])
 have b:(znq c s).val=Y (.inl (.h2 c s ((0:Nat):Int))):=rfl;rcases e with⟨a,x⟩|⟨a,r,x,rfl⟩
 .have:=oU (p:=λh:cK=>h.1==s) (d:=Q zp) c 0 a;rw[show aL c s=(-1:Int)from this];refine zz b (x.ends (zV.of (r:=(J (-1),[])) ?_)) S rfl;simp only[zci,SS,MS,Q8,zJ];rfl
 .exact zz b x S rfl
variable {cols:aZ}
theorem qr(h:N cols<=1000000):fq cols s=Z:=by unfold fq;rw[Gq h];rfl
theorem uc(h:N cols<=1000000):gZ cols s=aL cols s:=by unfold gZ;rw[Gq h];rfl
theorem Ya(t u:Int):qY [t] u=!(cond (t !=u) (t !=0) M):=by grind[qY,al]
theorem wL(t h u:Int):qY [t,h] u=!(cond (cond (t !=u) (t !=0) M) Z (cond (h !=u) (h !=0) M)):=by grind[qY,al]
theorem Sl{g c}(o:N cols<=1000000):∃r k,zV (SV g c) k (.h5 cols ((0:Nat):Int) (e,())) r/\k<=100000000/\aX r.2 [zk,zk] r.1=Y (if K (LT.lt (α:=Int) (aL cols (zg.s e)) 0)=Z then((0:Int),(4:Int),())else((T cols (W (aL cols (zg.s e))) (Q zp)).2.1,(0:Int),())):=by
 have l:=nP (t:=SV g c) (Φ:=λr=>aX r.2 [zk,zk] r.1=Y (if K (LT.lt (α:=Int) (aL cols (zg.s e)) 0)=Z then((0:Int),(4:Int),())else((T cols (W (aL cols (zg.s e))) (Q zp)).2.1,(0:Int),()))) 1 (λi=>.h5 cols (i:Int) (e,())) (λi=>((T cols i (Q zp)).1==zg.s e)=M) (N cols) (by
  intro i a m;have n:(SV g c (.h5 cols (i:Int) (e,()))).val=if((T cols i (Q zp)).1==zg.s e)=Z then Y (.inr (.tup [J (T cols i (Q zp)).2.1,J 0],[]))else Y (.inl (.h5 cols ((i+1:Nat):Int) (e,()))):=by
   simp only[SV,Q8,zM a,zu a,aI,zi];rw[zt i um]
  rcases zW ((T cols i (Q zp)).1==zg.s e)with h|h
  .refine .inr ⟨by rw[h];simp,_,zV.of (by rw[n,zf h]),?_⟩;have:=oT (p:=λc:cK=>c.1==zg.s e) (d:=Q zp) cols 0 i a h m;rw[show aL cols (zg.s e)=(i:Int) by unfold aL;rw[this];simp,zh (by rw[bc];omega),aI];rfl
  grind[zG.of])
 rcases l with⟨b,x⟩|⟨b,r,x,j⟩
 .have:=oU (p:=λc:cK=>c.1==zg.s e) (d:=Q zp) cols 0 b;refine⟨(.tup [J 0,J 4],[]),_,x.ends (zV.of ?_),S,?_⟩
  .simp only[SV,Q8,zJ];rfl
  .rw[show aL cols (zg.s e)=(-1:Int)from this];rfl
 .exact⟨r,_,x,S,j⟩
theorem tY{cols:aZ}(H:N cols<=1000000):∀(i d x:Nat)(e:zg),d<=i->d<=x->cZ d e=Z->cP i e cols=Y ((ac x e cols).1,(ac x e cols).2,())
 |_,0,_,_,_,_,h=>by cases h
 |0,d+1,_,_,h,_,_=>zB h S
 |_,d+1,0,_,_,h,_=>zB h S
 | i+1,d+1,x+1,e,h1,h2,h=>by
  rw[cP,ac];unfold UJ Bu;cases gK h with
  |lit v hv=>rfl
  | col s hw hr=>
   have⟨r,k,j,l,m⟩:=Sl (g:=λy z=>gX (cP i y z)) (c:=λy z=>(cP i y z).isSome) (cols:=cols) (e:=.mk fh (0,0,[]) s []) H;refine zz Mw j l (m.trans ?_);have n:bf (ac x) (bL x) cols fh (0:Int) (0:Int) [] s [] [] 0 []=if K (LT.lt (α:=Int) (aL cols s) 0)=Z then((0:Int),(4:Int))else((T cols (W (aL cols s)) (Q zp)).2.1,(0:Int)):=rfl
   show _=Y ((bf (ac x) (bL x) cols fh (0:Int) (0:Int) [] s [] [] 0 []).1,(bf (ac x) (bL x) cols fh (0:Int) (0:Int) [] s [] [] 0 []).2,());rw[n];show Y (if K (LT.lt (α:=Int) (aL cols s) 0)=Z then((0:Int),(4:Int),())else((T cols (W (aL cols s)) (Q zp)).2.1,(0:Int),()))=_;grind
  | one op a U P=>
   have E:=tY H i d x a S S P;unfold am bT;generalize G:(λy z=>gX (cP i y z))=g;generalize F:(λy z=>(cP i y z).isSome)=c;have B:g a cols=ac x a cols:=by rw[<-G];show gX (cP i a cols)=_;rw[E];rfl
   have A:c a cols=Z:=by rw[<-F];show(cP i a cols).isSome=_;rw[E];rfl
   rcases U with rfl|rfl
   .have n:bf (ac x) (bL x) cols oH (0:Int) (0:Int) [] [] [a] [a] 0 []=if((ac x a cols).2!=0)=Z then((0:Int),(ac x a cols).2)else if(!qY [(ac x a cols).1] 3)=Z then((0:Int),(5:Int))else((3:Int),(0:Int)):=rfl
    show _=Y ((bf (ac x) (bL x) cols oH (0:Int) (0:Int) [] [] [a] [a] 0 []).1,(bf (ac x) (bL x) cols oH (0:Int) (0:Int) [] [] [a] [a] 0 []).2,());rw[n,Ya];have q:(HS g c (.mk oH (0,0,[]) [] [a]) cols).val=if c (zw a) cols=Z then(ite (((g (zw a) cols).2!=0)=Z) (Y (.inr (.tup [J 0,J (g (zw a) cols).2],[]))) (ite ((cond ((g (zw a) cols).1!=0) (cond ((g (zw a) cols).1!=3) Z (cond ((g (zw a) cols).1!=0) ((g (zw a) cols).1!=3) M)) (cond ((g (zw a) cols).1!=0) ((g (zw a) cols).1!=3) M))=Z) (Y (.inr (.tup [J 0,J 5],[]))) (Y (.inr (.tup [J 3,J 0],[])))))else Q2:=rfl
    rw[q,zn,A,B];generalize ac x a cols=t;rcases zW (t.2!=0)with j|j<;>rcases zW (t.1!=0)with l|l<;>rcases zW (t.1!=3)with m|m<;>(simp only[j,l,m,aG,aJ,zi,zm,zA,bW,dd];rfl)
   .have n:bf (ac x) (bL x) cols qM (0:Int) (0:Int) [] [] [a] [a] 0 []=if((ac x a cols).2!=0)=Z then((0:Int),(ac x a cols).2)else((3:Int),(0:Int)):=rfl
    show _=Y ((bf (ac x) (bL x) cols qM (0:Int) (0:Int) [] [] [a] [a] 0 []).1,(bf (ac x) (bL x) cols qM (0:Int) (0:Int) [] [] [a] [a] 0 []).2,());rw[n];have q:(HS g c (.mk qM (0,0,[]) [] [a]) cols).val=if c (zw a) cols=Z then(ite (((g (zw a) cols).2!=0)=Z) (Y (.inr (.tup [J 0,J (g (zw a) cols).2],[]))) (Y (.inr (.tup [J 3,J 0],[]))))else Q2:=rfl
    rw[q,zn,A,B];generalize ac x a cols=t;rcases zW (t.2!=0)with j|j<;>(simp only[j,zi,zm,zA];rfl)
  | two op a b U P hb=>
   have E:=tY H i d x a S S P;have kb:=tY H i d x b S S hb;unfold am bT;generalize G:(λy z=>gX (cP i y z))=g;generalize F:(λy z=>(cP i y z).isSome)=c;have B:g a cols=ac x a cols:=by rw[<-G];show gX (cP i a cols)=_;rw[E];rfl
   have A:c a cols=Z:=by rw[<-F];show(cP i a cols).isSome=_;rw[E];rfl
   have D:g b cols=ac x b cols:=by rw[<-G];show gX (cP i b cols)=_;rw[kb];rfl
   have C:c b cols=Z:=by rw[<-F];show(cP i b cols).isSome=_;rw[kb];rfl
   rcases U with rfl|rfl|rfl|rfl|rfl|rfl
   .have n:bf (ac x) (bL x) cols jf (0:Int) (0:Int) [] [] [a,b] [a,b] 0 []=if((ac x a cols).2!=0)=Z then((0:Int),(ac x a cols).2)else if((ac x b cols).2!=0)=Z then((0:Int),(ac x b cols).2)else if(!qY [(ac x a cols).1,(ac x b cols).1] 3)=Z then((0:Int),(5:Int))else((3:Int),(0:Int)):=rfl
    show _=Y ((bf (ac x) (bL x) cols jf (0:Int) (0:Int) [] [] [a,b] [a,b] 0 []).1,(bf (ac x) (bL x) cols jf (0:Int) (0:Int) [] [] [a,b] [a,b] 0 []).2,());rw[n,wL];have q:(HS g c (.mk jf (0,0,[]) [] [a,b]) cols).val=if c (zw a) cols=Z then(ite (((g (zw a) cols).2!=0)=Z) (Y (.inr (.tup [J 0,J (g (zw a) cols).2],[]))) (ite (c (zw b) cols=Z) (ite (((g (zw b) cols).2!=0)=Z) (Y (.inr (.tup [J 0,J (g (zw b) cols).2],[]))) (ite ((cond ((g (zw a) cols).1!=0) (cond ((g (zw a) cols).1!=3) Z (cond ((g (zw b) cols).1!=0) ((g (zw b) cols).1!=3) M)) (cond ((g (zw b) cols).1!=0) ((g (zw b) cols).1!=3) M))=Z) (Y (.inr (.tup [J 0,J 5],[]))) (Y (.inr (.tup [J 3,J 0],[]))))) Q2))else Q2:=rfl
    rw[q,zn,zn,A,C,B,D];generalize ac x a cols=t;generalize ac x b cols=u;rcases zW (t.2!=0)with j|j<;>rcases zW (u.2!=0)with l|l<;>rcases zW (t.1!=0)with m|m<;>rcases zW (u.1!=0)with o|o<;>rcases zW (t.1!=3)with p|p<;>rcases zW (u.1!=3)with w|w<;>(simp only[j,l,m,o,p,w,aG,aJ,zi,zm,zA,bW,dd];rfl)
   .have n:bf (ac x) (bL x) cols wS (0:Int) (0:Int) [] [] [a,b] [a,b] 0 []=if((ac x a cols).2!=0)=Z then((0:Int),(ac x a cols).2)else if((ac x b cols).2!=0)=Z then((0:Int),(ac x b cols).2)else if(!qY [(ac x a cols).1,(ac x b cols).1] 3)=Z then((0:Int),(5:Int))else((3:Int),(0:Int)):=rfl
    show _=Y ((bf (ac x) (bL x) cols wS (0:Int) (0:Int) [] [] [a,b] [a,b] 0 []).1,(bf (ac x) (bL x) cols wS (0:Int) (0:Int) [] [] [a,b] [a,b] 0 []).2,());rw[n,wL];have q:(HS g c (.mk wS (0,0,[]) [] [a,b]) cols).val=if c (zw a) cols=Z then(ite (((g (zw a) cols).2!=0)=Z) (Y (.inr (.tup [J 0,J (g (zw a) cols).2],[]))) (ite (c (zw b) cols=Z) (ite (((g (zw b) cols).2!=0)=Z) (Y (.inr (.tup [J 0,J (g (zw b) cols).2],[]))) (ite ((cond ((g (zw a) cols).1!=0) (cond ((g (zw a) cols).1!=3) Z (cond ((g (zw b) cols).1!=0) ((g (zw b) cols).1!=3) M)) (cond ((g (zw b) cols).1!=0) ((g (zw b) cols).1!=3) M))=Z) (Y (.inr (.tup [J 0,J 5],[]))) (Y (.inr (.tup [J 3,J 0],[]))))) Q2))else Q2:=rfl
    rw[q,zn,zn,A,C,B,D];generalize ac x a cols=t;generalize ac x b cols=u;rcases zW (t.2!=0)with j|j<;>rcases zW (u.2!=0)with l|l<;>rcases zW (t.1!=0)with m|m<;>rcases zW (u.1!=0)with o|o<;>rcases zW (t.1!=3)with p|p<;>rcases zW (u.1!=3)with w|w<;>(simp only[j,l,m,o,p,w,aG,aJ,zi,zm,zA,bW,dd];rfl)
   .have n:bf (ac x) (bL x) cols [61] (0:Int) (0:Int) [] [] [a,b] [a,b] 0 []=if((ac x a cols).2!=0)=Z then((0:Int),(ac x a cols).2)else if((ac x b cols).2!=0)=Z then((0:Int),(ac x b cols).2)else if(!bif (ac x a cols).1==(ac x b cols).1 then Z else bif (ac x a cols).1==0 then Z else(ac x b cols).1==0)=Z then((0:Int),(5:Int))else((3:Int),(0:Int)):=rfl
    show _=Y ((bf (ac x) (bL x) cols [61] (0:Int) (0:Int) [] [] [a,b] [a,b] 0 []).1,(bf (ac x) (bL x) cols [61] (0:Int) (0:Int) [] [] [a,b] [a,b] 0 []).2,());rw[n];have q:(HS g c (.mk [61] (0,0,[]) [] [a,b]) cols).val=if c (zw a) cols=Z then(ite (((g (zw a) cols).2!=0)=Z) (Y (.inr (.tup [J 0,J (g (zw a) cols).2],[]))) (ite (c (zw b) cols=Z) (ite (((g (zw b) cols).2!=0)=Z) (Y (.inr (.tup [J 0,J (g (zw b) cols).2],[]))) (ite ((cond ((g (zw a) cols).1!=0) (cond ((g (zw b) cols).1!=0) ((g (zw a) cols).1!=(g (zw b) cols).1) M) M)=Z) (Y (.inr (.tup [J 0,J 5],[]))) (Y (.inr (.tup [J 3,J 0],[]))))) Q2))else Q2:=rfl
    rw[q,zn,zn,A,C,B,D];generalize ac x a cols=t;generalize ac x b cols=u;simp only[bne];rcases zW (t.2==0)with j|j<;>rcases zW (u.2==0)with l|l<;>rcases zW (t.1==0)with m|m<;>rcases zW (u.1==0)with o|o<;>rcases zW (t.1==u.1)with p|p<;>(simp only[j,l,m,o,p,aG,aJ,zi,zm,zA,bW,dd];rfl)
   .have n:bf (ac x) (bL x) cols [60] (0:Int) (0:Int) [] [] [a,b] [a,b] 0 []=if((ac x a cols).2!=0)=Z then((0:Int),(ac x a cols).2)else if((ac x b cols).2!=0)=Z then((0:Int),(ac x b cols).2)else if(!bif (ac x a cols).1==(ac x b cols).1 then Z else bif (ac x a cols).1==0 then Z else(ac x b cols).1==0)=Z then((0:Int),(5:Int))else((3:Int),(0:Int)):=rfl
    show _=Y ((bf (ac x) (bL x) cols [60] (0:Int) (0:Int) [] [] [a,b] [a,b] 0 []).1,(bf (ac x) (bL x) cols [60] (0:Int) (0:Int) [] [] [a,b] [a,b] 0 []).2,());rw[n];have q:(HS g c (.mk [60] (0,0,[]) [] [a,b]) cols).val=if c (zw a) cols=Z then(ite (((g (zw a) cols).2!=0)=Z) (Y (.inr (.tup [J 0,J (g (zw a) cols).2],[]))) (ite (c (zw b) cols=Z) (ite (((g (zw b) cols).2!=0)=Z) (Y (.inr (.tup [J 0,J (g (zw b) cols).2],[]))) (ite ((cond ((g (zw a) cols).1!=0) (cond ((g (zw b) cols).1!=0) ((g (zw a) cols).1!=(g (zw b) cols).1) M) M)=Z) (Y (.inr (.tup [J 0,J 5],[]))) (Y (.inr (.tup [J 3,J 0],[]))))) Q2))else Q2:=rfl
    rw[q,zn,zn,A,C,B,D];generalize ac x a cols=t;generalize ac x b cols=u;simp only[bne];rcases zW (t.2==0)with j|j<;>rcases zW (u.2==0)with l|l<;>rcases zW (t.1==0)with m|m<;>rcases zW (u.1==0)with o|o<;>rcases zW (t.1==u.1)with p|p<;>(simp only[j,l,m,o,p,aG,aJ,zi,zm,zA,bW,dd];rfl)
   .have n:bf (ac x) (bL x) cols [43] (0:Int) (0:Int) [] [] [a,b] [a,b] 0 []=if((ac x a cols).2!=0)=Z then((0:Int),(ac x a cols).2)else if((ac x b cols).2!=0)=Z then((0:Int),(ac x b cols).2)else if(!qY [(ac x a cols).1,(ac x b cols).1] 1)=Z then((0:Int),(5:Int))else((1:Int),(0:Int)):=rfl
    show _=Y ((bf (ac x) (bL x) cols [43] (0:Int) (0:Int) [] [] [a,b] [a,b] 0 []).1,(bf (ac x) (bL x) cols [43] (0:Int) (0:Int) [] [] [a,b] [a,b] 0 []).2,());rw[n,wL];have q:(HS g c (.mk [43] (0,0,[]) [] [a,b]) cols).val=if c (zw a) cols=Z then(ite (((g (zw a) cols).2!=0)=Z) (Y (.inr (.tup [J 0,J (g (zw a) cols).2],[]))) (ite (c (zw b) cols=Z) (ite (((g (zw b) cols).2!=0)=Z) (Y (.inr (.tup [J 0,J (g (zw b) cols).2],[]))) (ite ((cond ((g (zw a) cols).1!=0) (cond ((g (zw a) cols).1!=1) Z (cond ((g (zw b) cols).1!=0) ((g (zw b) cols).1!=1) M)) (cond ((g (zw b) cols).1!=0) ((g (zw b) cols).1!=1) M))=Z) (Y (.inr (.tup [J 0,J 5],[]))) (Y (.inr (.tup [J 1,J 0],[]))))) Q2))else Q2:=rfl
    rw[q,zn,zn,A,C,B,D];generalize ac x a cols=t;generalize ac x b cols=u;rcases zW (t.2!=0)with j|j<;>rcases zW (u.2!=0)with l|l<;>rcases zW (t.1!=0)with m|m<;>rcases zW (u.1!=0)with o|o<;>rcases zW (t.1!=1)with p|p<;>rcases zW (u.1!=1)with w|w<;>(simp only[j,l,m,o,p,w,aG,aJ,zi,zm,zA,bW,dd];rfl)
   .have n:bf (ac x) (bL x) cols [45] (0:Int) (0:Int) [] [] [a,b] [a,b] 0 []=if((ac x a cols).2!=0)=Z then((0:Int),(ac x a cols).2)else if((ac x b cols).2!=0)=Z then((0:Int),(ac x b cols).2)else if(!qY [(ac x a cols).1,(ac x b cols).1] 1)=Z then((0:Int),(5:Int))else((1:Int),(0:Int)):=rfl
    show _=Y ((bf (ac x) (bL x) cols [45] (0:Int) (0:Int) [] [] [a,b] [a,b] 0 []).1,(bf (ac x) (bL x) cols [45] (0:Int) (0:Int) [] [] [a,b] [a,b] 0 []).2,());rw[n,wL];have q:(HS g c (.mk [45] (0,0,[]) [] [a,b]) cols).val=if c (zw a) cols=Z then(ite (((g (zw a) cols).2!=0)=Z) (Y (.inr (.tup [J 0,J (g (zw a) cols).2],[]))) (ite (c (zw b) cols=Z) (ite (((g (zw b) cols).2!=0)=Z) (Y (.inr (.tup [J 0,J (g (zw b) cols).2],[]))) (ite ((cond ((g (zw a) cols).1!=0) (cond ((g (zw a) cols).1!=1) Z (cond ((g (zw b) cols).1!=0) ((g (zw b) cols).1!=1) M)) (cond ((g (zw b) cols).1!=0) ((g (zw b) cols).1!=1) M))=Z) (Y (.inr (.tup [J 0,J 5],[]))) (Y (.inr (.tup [J 1,J 0],[]))))) Q2))else Q2:=rfl
    rw[q,zn,zn,A,C,B,D];generalize ac x a cols=t;generalize ac x b cols=u;rcases zW (t.2!=0)with j|j<;>rcases zW (u.2!=0)with l|l<;>rcases zW (t.1!=0)with m|m<;>rcases zW (u.1!=0)with o|o<;>rcases zW (t.1!=1)with p|p<;>rcases zW (u.1!=1)with w|w<;>(simp only[j,l,m,o,p,w,aG,aJ,zi,zm,zA,bW,dd];rfl)
theorem nl:kX (0,0,[]):=⟨by decide,by decide,aK _⟩
theorem oz(b:Bool):kX (Hr b):=by cases b<;>exact⟨by decide,by decide,aK _⟩
theorem X5:kX (3,0,[]):=oz M
theorem X6:kX (3,1,[]):=oz Z
theorem zd1(a b:zo):kX (H2 a b):=by grind[H2,py,mT,mU,X5,X6,nl]
theorem zmk(a b:zo):kX (vOr a b):=by grind[vOr,py,mT,mU,X6,X5,nl]
theorem zd3(a:zo):kX (CL a):=by grind[CL,py,mT,mU,X5,X6,nl]
theorem zmj(a b:zo):kX (oo a b):=by grind[oo,nl,kk,oz]
theorem X7(a b:zo):kX (vw a b):=by grind[vw,nl,kk,oz]
theorem QJ(a:zo):kX (kB a):=by unfold kB;rw[kk];exact oz _
theorem Ns(n:Int):kX (1,Γ Δ n,[]):=by
 refine⟨?_,?_,aK _⟩
 .grind[IntKind.wrap_i64]
 grind[IntKind.wrap_i64]
theorem DW(a b:zo):kX (qW a b):=by grind[qW,nl,Ns]
theorem VH(a b:zo):kX (oq a b):=by grind[oq,nl,Ns]
def wC(c:aZ)(h:zr)(s:zN):zo:=if(cond (K (aL c s<0)) Z (K (aL c s>=(N h:Int))))=Z then(0,0,[])else h.getD (W (aL c s)) (Q R)
variable {row:zr}
theorem Sj{g c}(v:N cols<=1000000):∃r k,zV (Hd g c) k (.h6 cols row ((0:Nat):Int) (e,()) ((0,0,[]),())) r/\k<=100000000/\aX r.2 [R] r.1=Y (wC cols row (zg.s e),()):=by
 have o:=nP (t:=Hd g c) (Φ:=λr=>aX r.2 [R] r.1=Y (wC cols row (zg.s e),())) 1 (λi=>.h6 cols row (i:Int) (e,()) ((0,0,[]),())) (λi=>((T cols i (Q zp)).1==zg.s e)=M) (N cols) (by
  intro i b u;have m:(Hd g c (.h6 cols row (i:Int) (e,()) ((0,0,[]),()))).val=if((T cols i (Q zp)).1==zg.s e)=Z then(ite (K ((i:Int)<(N row:Int))=Z) (ite (zK (i:Int) (N row)=Z) (Y (.inr (.agg [J (T row i (Q R)).1,J (T row i (Q R)).2.1,.str (T row i (Q R)).q],[]))) Q2) (Y (.inr (.agg [J 0,J 0,.str []],[]))))else Y (.inl (.h6 cols row ((i+1:Nat):Int) (e,()) ((0,0,[]),()))):=by
   simp only[Hd,Q8,zM b,zu b,aI,zi];rw[zt i um]
  rcases zW ((T cols i (Q zp)).1==zg.s e)with h|h
  .have x:=oT (p:=λc:cK=>c.1==zg.s e) (d:=Q zp) cols 0 i b h u;have x:aL cols (zg.s e)=(i:Int):=by unfold aL;rw[x];simp
   by_cases l:i<N row
   .refine .inr ⟨by rw[h];simp,_,zV.of (by rw[m,zf h,zf (zM l),zf (zu l)]),?_⟩;unfold wC;rw[x,zh (by simp_all),aI];rfl
   .refine .inr ⟨by rw[h];simp,_,zV.of (by rw[m,zf h,zh (by rw[bc];omega)]),?_⟩;unfold wC;rw[x,zf (by simp_all)];rfl
  grind[zG.of])
 rcases o with⟨j,a⟩|⟨j,r,a,n⟩
 .have x:=oU (p:=λc:cK=>c.1==zg.s e) (d:=Q zp) cols 0 j;refine⟨(.agg [J 0,J 0,.str []],[]),_,a.ends (zV.of ?_),S,?_⟩
  .simp only[Hd,Q8,zJ];rfl
  .unfold wC;rw[show aL cols (zg.s e)=(-1:Int)from x];rfl
 .exact⟨r,_,a,S,n⟩
variable {h:zr}
theorem zd2(x:∀v∈h,kX v):kX (wC c h s):=by grind[wC,nl]
theorem tU{cols:aZ}{h:zr}(H:N cols<=1000000)(P:∀v∈h,kX v):∀(l d j:Nat)(e:zg),d<=l->d<=j->cZ d e=Z->vB e->cX l e cols h=Y (ef j cols h e,())/\kX (ef j cols h e)
 |_,0,_,_,_,_,i,_=>by cases i
 |0,d+1,_,_,i,_,_,_=>zB i S
 |_,d+1,0,_,_,i,_,_=>zB i S
 | l+1,d+1,j+1,e,h1,h2,i,B=>by
  rw[cX,ef];unfold UH;cases gK i with
  | lit v hv=>
   rw[vB]at B;exact⟨rfl,B.1⟩
  | col s h3 h0=>
   obtain⟨r,k,k1,k2,k3⟩:=Sj (g:=λp t u=>iJ (cX l p t u)) (c:=λp t u=>(cX l p t u).isSome) (cols:=cols) (row:=h) (e:=.mk fh (0,0,[]) s []) H;exact⟨zz Mw k1 k2 k3,zd2 P⟩
  | one op a ho U=>
   rw[vB,lB]at B;obtain⟨E,o⟩:=tU H P l d j a S S U B.q.1;unfold am bT;generalize G:(λp t u=>iJ (cX l p t u))=g;generalize F:(λp t u=>(cX l p t u).isSome)=c;have z:g a cols h=ef j cols h a:=by rw[<-G];show iJ (cX l a cols h)=_;rw[E];rfl
   have w:c a cols h=Z:=by rw[<-F];show(cX l a cols h).isSome=_;rw[E];rfl
   rcases ho with rfl|rfl
   .have m:uK (ef j) cols h (.mk oH (0,0,[]) [] [a])=CL (ef j cols h a):=rfl;have n:(uX g c (.mk oH (0,0,[]) [] [a]) cols h).val=if c (zw a) cols h=Z then(ite (LN (g (zw a) cols h)=Z) (Y (.inr (.agg [J (JU (g (zw a) cols h)).1,J (JU (g (zw a) cols h)).2.1,.str (JU (g (zw a) cols h)).q],[]))) Q2)else Q2:=rfl
    rw[m,n,zn,w,z];generalize ef j cols h a=x at*;rw[zby,zfZ];exact⟨rfl,zd3 _⟩
   .have m:uK (ef j) cols h (.mk qM (0,0,[]) [] [a])=kB (ef j cols h a):=rfl;have n:(uX g c (.mk qM (0,0,[]) [] [a]) cols h).val=if c (zw a) cols h=Z then(ite (nZ (g (zw a) cols h)=Z) (ite ((!vn (g (zw a) cols h))=Z) (Y (.inr (.agg [J (bC Z).1,J (bC Z).2.1,.str (bC Z).q],[]))) (ite (mK ((g (zw a) cols h).1==0)=Z) (Y (.inr (.agg [J (bC ((g (zw a) cols h).1==0)).1,J (bC ((g (zw a) cols h).1==0)).2.1,.str (bC ((g (zw a) cols h).1==0)).q],[]))) Q2)) Q2)else Q2:=rfl
    rw[m,n,zn,w,z];generalize ef j cols h a=x at*;refine⟨?_,QJ _⟩;rw[mH o.q,qi o.q,ql,iZ,iZ];unfold kB ah;rw[kk];cases bg x
    .rfl
    .rfl
  | two op a b ho U hb=>
   rw[vB,lB,lB]at B;obtain⟨E,o⟩:=tU H P l d j a S S U B.q.1;obtain⟨kb,A⟩:=tU H P l d j b S S hb B.r.1;unfold am bT;generalize G:(λp t u=>iJ (cX l p t u))=g;generalize F:(λp t u=>(cX l p t u).isSome)=c;have z:g a cols h=ef j cols h a:=by rw[<-G];show iJ (cX l a cols h)=_;rw[E];rfl
   have w:c a cols h=Z:=by rw[<-F];show(cX l a cols h).isSome=_;rw[E];rfl
   have D:g b cols h=ef j cols h b:=by rw[<-G];show iJ (cX l b cols h)=_;rw[kb];rfl
   have C:c b cols h=Z:=by rw[<-F];show(cX l b cols h).isSome=_;rw[kb];rfl
   rcases ho with rfl|rfl|rfl|rfl|rfl|rfl
   .have m:uK (ef j) cols h (.mk jf (0,0,[]) [] [a,b])=H2 (ef j cols h a) (ef j cols h b):=rfl;have n:(uX g c (.mk jf (0,0,[]) [] [a,b]) cols h).val=if c (zw a) cols h=Z then(ite (c (zw b) cols h=Z) (ite (LK (g (zw a) cols h) (g (zw b) cols h)=Z) (Y (.inr (.agg [J (JS (g (zw a) cols h) (g (zw b) cols h)).1,J (JS (g (zw a) cols h) (g (zw b) cols h)).2.1,.str (JS (g (zw a) cols h) (g (zw b) cols h)).q],[]))) Q2) Q2)else Q2:=rfl
    rw[m,n,zn,zn,w,C,z,D];generalize ef j cols h a=x at*;generalize ef j cols h b=y at*;rw[zbw,zfY];exact⟨rfl,zd1 _ _⟩
   .have m:uK (ef j) cols h (.mk wS (0,0,[]) [] [a,b])=vOr (ef j cols h a) (ef j cols h b):=rfl;have n:(uX g c (.mk wS (0,0,[]) [] [a,b]) cols h).val=if c (zw a) cols h=Z then(ite (c (zw b) cols h=Z) (ite (UF (g (zw a) cols h) (g (zw b) cols h)=Z) (Y (.inr (.agg [J (Xc (g (zw a) cols h) (g (zw b) cols h)).1,J (Xc (g (zw a) cols h) (g (zw b) cols h)).2.1,.str (Xc (g (zw a) cols h) (g (zw b) cols h)).q],[]))) Q2) Q2)else Q2:=rfl
    rw[m,n,zn,zn,w,C,z,D];generalize ef j cols h a=x at*;generalize ef j cols h b=y at*;rw[zf0,zoM];exact⟨rfl,zmk _ _⟩
   .have m:uK (ef j) cols h (.mk [61] (0,0,[]) [] [a,b])=oo (ef j cols h a) (ef j cols h b):=rfl;have n:(uX g c (.mk [61] (0,0,[]) [] [a,b]) cols h).val=if c (zw a) cols h=Z then(ite (c (zw b) cols h=Z) (ite (xO (g (zw a) cols h) (g (zw b) cols h)=Z) (Y (.inr (.agg [J (tM (g (zw a) cols h) (g (zw b) cols h)).1,J (tM (g (zw a) cols h) (g (zw b) cols h)).2.1,.str (tM (g (zw a) cols h) (g (zw b) cols h)).q],[]))) Q2) Q2)else Q2:=rfl
    rw[m,n,zn,zn,w,C,z,D];generalize ef j cols h a=x at*;generalize ef j cols h b=y at*;rw[Sf o.q A.q,W9 o.q A.q];exact⟨rfl,zmj _ _⟩
   .have m:uK (ef j) cols h (.mk [60] (0,0,[]) [] [a,b])=vw (ef j cols h a) (ef j cols h b):=rfl;have n:(uX g c (.mk [60] (0,0,[]) [] [a,b]) cols h).val=if c (zw a) cols h=Z then(ite (c (zw b) cols h=Z) (ite (Db (g (zw a) cols h) (g (zw b) cols h)=Z) (Y (.inr (.agg [J (A9 (g (zw a) cols h) (g (zw b) cols h)).1,J (A9 (g (zw a) cols h) (g (zw b) cols h)).2.1,.str (A9 (g (zw a) cols h) (g (zw b) cols h)).q],[]))) Q2) Q2)else Q2:=rfl
    rw[m,n,zn,zn,w,C,z,D];generalize ef j cols h a=x at*;generalize ef j cols h b=y at*;rw[Xa o.q A.q,zbx o.q A.q];exact⟨rfl,X7 _ _⟩
   .have m:uK (ef j) cols h (.mk [43] (0,0,[]) [] [a,b])=qW (ef j cols h a) (ef j cols h b):=rfl;have n:(uX g c (.mk [43] (0,0,[]) [] [a,b]) cols h).val=if c (zw a) cols h=Z then(ite (c (zw b) cols h=Z) (ite (xS (g (zw a) cols h) (g (zw b) cols h)=Z) (Y (.inr (.agg [J (Ba (g (zw a) cols h) (g (zw b) cols h)).1,J (Ba (g (zw a) cols h) (g (zw b) cols h)).2.1,.str (Ba (g (zw a) cols h) (g (zw b) cols h)).q],[]))) Q2) Q2)else Q2:=rfl
    rw[m,n,zn,zn,w,C,z,D];generalize ef j cols h a=x at*;generalize ef j cols h b=y at*;rw[JV o A,zbz o A];exact⟨rfl,DW _ _⟩
   .have m:uK (ef j) cols h (.mk [45] (0,0,[]) [] [a,b])=oq (ef j cols h a) (ef j cols h b):=rfl;have n:(uX g c (.mk [45] (0,0,[]) [] [a,b]) cols h).val=if c (zw a) cols h=Z then(ite (c (zw b) cols h=Z) (ite (xQ (g (zw a) cols h) (g (zw b) cols h)=Z) (Y (.inr (.agg [J (tN (g (zw a) cols h) (g (zw b) cols h)).1,J (tN (g (zw a) cols h) (g (zw b) cols h)).2.1,.str (tN (g (zw a) cols h) (g (zw b) cols h)).q],[]))) Q2) Q2)else Q2:=rfl
    rw[m,n,zn,zn,w,C,z,D];generalize ef j cols h a=x at*;generalize ef j cols h b=y at*;rw[Sg o A,Xb o A];exact⟨rfl,VH _ _⟩
theorem tD:∀(x k:Nat)(e:zg)(n:Nat),k<=12->n<=60->(jg x e ((13:Int)-k) n).1=Z->cZ k e=Z/\(jg x e ((13:Int)-k) n).2=((n+nE k e:Nat):Int)/\n+nE k e<=60
 |0,_,_,_,_,_,h=>by cases h
 | x+1,0,e,n,_,_,h=>by
  rw[jg]at h;unfold CG at h;rw[zf Mw]at h;cases h
 | x + 1,k+1,.mk o v s l,n,h1,h2,h=>by
  have U:Γ Δ ((n:Int)+1)=((n+1:Nat):Int):=zt n um;have A:Γ Δ ((13:Int)-((k+1:Nat):Int)+1)=(13:Int)-(k:Int):=by rw[fe];omega
  have E:K ((13:Int)-((k+1:Nat):Int)>12)=M:=aC S;rw[jg]at h|-
  have e0:∀m:Int,CG (jg x) (.mk o v s l) m n=if(cond (K (m>12)) Z (cond (K (((n+1:Nat):Int)>60)) Z ((N l:Int)!=dU o)))=Z then(M,((n+1:Nat):Int))else
    if(o==pI)=Z then(cond (s==[]) (bg v) M,((n+1:Nat):Int))else
    if(o==fh)=Z then(cond (bF v) (cond (eS s) (!kh s) M) M,((n+1:Nat):Int))else
    if(cond (!bF v) Z (!s==[]))=Z then(M,((n+1:Nat):Int))else rg (jg x) m l ((n+1:Nat):Int):=by
   intro m;unfold CG;rw[U];rfl
  rw[e0,E]at h|-;rcases zW (K (((n+1:Nat):Int)>60))with t|t
  .rw[t,zf Mw]at h;cases h
  rcases zW ((N l:Int)!=dU o)with u|u
  .rw[t,u,zf Mw]at h;cases h
  have B:n+1<=60:=by simp at t;omega
  have q:(N l:Int)=dU o:=by simpa using u
  rw[t,u,zh sw]at h|-;rcases nH o with⟨p,g⟩|⟨p,g⟩|⟨p,g⟩|p
  .have F:l=[]:=DY S;subst F;rcases g with rfl|rfl
   .rw[zf Mw]at h|-;have⟨a,b⟩:=de h;refine⟨?_,by simp[nE],by simp[nE];omega⟩;simp[cZ,b,bV a]
   .rw[zh (by decide),zf Mw]at h|-;have⟨a,b⟩:=de h;have⟨b,c⟩:=de b;refine⟨?_,by simp[nE],by simp[nE];omega⟩;have D:kh s=M:=by simpa using c
    simp[cZ,a,b,D]
  .obtain⟨a,rfl⟩:∃a,l=[a]:=List.length_eq_one_iff.1 S;have o1:(o==pI)=M:=by rcases g with rfl|rfl<;>rfl
   have o2:(o==fh)=M:=by rcases g with rfl|rfl<;>rfl
   have o3:(cond (o==oH) Z (o==qM))=Z:=by rcases g with rfl|rfl<;>rfl
   rw[zh (by rw[o1];simp),zh (by rw[o2];simp)]at h|-;rcases zW (bF v)with d|d
   .rcases zW (s==[])with i|i
    .rw[d,i,zh sw]at h|-;rw[rg,A]at h|-;rcases zW (jg x a ((13:Int)-(k:Int)) ((n+1:Nat):Int)).1 with j|j
     .have⟨y,z,C⟩:=tD x k a (n+1) S B j;rw[j,zh sw];refine⟨by simp[cZ,o1,o2,o3,d,i,y],?_,by simp[nE];omega⟩;rw[rg];show(jg x a ((13:Int)-(k:Int)) ((n+1:Nat):Int)).2=_;rw[z];simp[nE];omega
     .rw[j,zf Mw]at h;cases h
    .rw[d,i,zf Mw]at h;cases h
   .rw[d,zf Mw]at h;cases h
  .obtain⟨a,b,rfl⟩:∃a b,l=[a,b]:=by
    match l,q with
    |[a,b],_=>exact⟨a,b,rfl⟩
    |[],q=>exact zB q (by rw[p];simp)
    |[_],q=>exact zB q (by rw[p];simp)
    |_::_::_::_,q=>exact zB q (by rw[p];simp;omega)
   have o1:(o==pI)=M:=by rcases g with rfl|rfl|rfl|rfl|rfl|rfl<;>rfl
   have o2:(o==fh)=M:=by rcases g with rfl|rfl|rfl|rfl|rfl|rfl<;>rfl
   have o3:(cond (o==oH) Z (o==qM))=M:=by rcases g with rfl|rfl|rfl|rfl|rfl|rfl<;>rfl
   have P:H1 o=Z:=by rcases g with rfl|rfl|rfl|rfl|rfl|rfl<;>rfl
   rw[zh (by rw[o1];simp),zh (by rw[o2];simp)]at h|-;rcases zW (bF v)with d|d
   .rcases zW (s==[])with i|i
    .rw[d,i,zh sw]at h|-;rw[rg,A]at h|-;rcases zW (jg x a ((13:Int)-(k:Int)) ((n+1:Nat):Int)).1 with j|j
     .have⟨y,z,C⟩:=tD x k a (n+1) S B j;rw[j,zh sw]at h|-;rw[z,rg,A]at h|-;rcases zW (jg x b ((13:Int)-(k:Int)) ((n+1+nE k a:Nat):Int)).1 with w|w
      .have⟨G,H,j3⟩:=tD x k b (n+1+nE k a) S C w;rw[w,zh sw];refine⟨by simp[cZ,o1,o2,o3,P,d,i,y,G],?_,by simp[nE];omega⟩;rw[rg];show(jg x b ((13:Int)-(k:Int)) ((n+1+nE k a:Nat):Int)).2=_;rw[H];simp[nE];omega
      .rw[w,zf Mw]at h;cases h
     .rw[j,zf Mw]at h;cases h
    .rw[d,i,zf Mw]at h;cases h
   .rw[d,zf Mw]at h;cases h
  .omega
theorem Ai(e:zg):dW e=(cond (cZ 12 e) (K (nE 12 e<=60)) M):=by
 unfold dW;rcases zW (jg 16 e 1 0).1 with c|c
 .have⟨a,_,d⟩:=tD 16 12 e 0 S S c;rw[c,a,zC S];rfl
 .rw[c];rcases zW (cZ 12 e)with g|g
  .rw[g];by_cases h:nE 12 e<=60
   .have:=tE 16 12 e 0 S S g S;have b:(jg 16 e 1 0).1=Z:=by
     have x:jg 16 e 1 0=(Z,((0+nE 12 e:Nat):Int)):=this;rw[x]
    rw[b]at c;cases c
   .rw[aC h];rfl
  .rw[g];rfl
theorem Ps(j:vB e):Gl e=Y (dW e,()):=by
 have d:LW e 12=Y (cZ 12 e,()):=JZ 16 12 e S S j;have x:Di e 12=Z:=by unfold Di;rw[d];rfl
 have a:LU e 12=cZ 12 e:=by unfold LU;rw[d];rfl
 unfold Gl am bT;simp only[zud,Q8,zn,x,a];rw[Ai];rcases zW (cZ 12 e)with g|g
 .have i:Gn e=Y ((nE 12 e:Int),()):=qq 16 12 e S S g;have b:xW e=Z:=by unfold xW;rw[i];rfl
  have c:Dj e=(nE 12 e:Int):=by unfold Dj;rw[i];rfl
  rw[g,b,c];have:K (((nE 12 e:Nat):Int)<=60)=K (nE 12 e<=60):=by
   by_cases h:nE 12 e<=60
   .rw[zC h,zC S]
   .rw[aC h,aC S]
  rw[this];rfl
 .rw[g];rfl
theorem pd(h:vB e):ws e=Z:=by unfold ws;rw[Ps h];rfl
theorem tV(h:vB e):Gk e=dW e:=by unfold Gk;rw[Ps h];rfl
theorem mn(h:dW e=Z):cZ 12 e=Z:=by rw[Ai]at h;exact(de h).1
theorem Pu(x:N cols<=1000000)(h:dW e=Z):Dh e cols=Y ((cz e cols).1,(cz e cols).2,()):=by have:=tY x 16 12 16 e S S (mn h);unfold Dh cz;rw[this,h];rfl
theorem zbA(x:N cols<=1000000)(a:∀v∈row,kX v)(b:vB e)(h:dW e=Z):Df e cols row=Y (lr e cols row,()):=by have:=(tU x a 16 12 16 e S S (mn h) b).1;unfold Df lr;rw[this,h];rfl
theorem G5(e:zg):gP 16 e A3=(e.op==[]&&(bF e.v&&(e.s==[]&&e.l.length==0))):=by
 show P2 (gP 15) e A3=_;unfold P2 Ry eqV bF;have⟨o,v,s,l⟩:=e;simp only[zg.op,zg.v,zg.s,zg.l];cases l with
 | nil=>
  simp only[qK,eqL];cases(o==[])<;>cases(v.1==0&&(v.2.1==0&&(v.q==[]&&Z)))<;>cases(s==[])<;>rfl
 | cons x r=>
  have:(((x::r).length:Int)!=(([]:List zg).length:Int))=Z:=by simp;omega
  simp only[this];cases(o==[])<;>cases(v.1==0&&(v.2.1==0&&(v.q==[]&&Z)))<;>cases(s==[])<;>rfl
theorem Sk(e:zg):Dg e A3=Y (gP 16 e A3,()):=by
 rw[G5];show cH 16 e A3=_;rw[cH];unfold LQ;rcases zW (e.op==[])with h|h
 .rcases zW (bF e.v)with c|c
  .rcases zW (e.s==[])with x|x
   .by_cases b:e.l.length=0
    .refine zz (s:=.h4 0 (e,()) (A3,())) (k:=1) (r:=(.kb Z,[])) ?_ (zV.of ?_) S ?_
     .unfold bF at c;simp only[HR,Q8];have a:(((zg.l e).length:Int)!=(([]:List zg).length:Int))=M:=by simp[b]
      show(ite ((cond (!(e.op==[])) Z (cond (!(e.v.1==0&&(e.v.2.1==0&&(e.v.q==[]&&Z)))) Z (cond (!(e.s==[])) Z (((zg.l e).length:Int)!=(([]:List zg).length:Int)))))=Z) _ _)=_;rw[h,c,x,a];rfl
     .have d:K ((0:Int)<((zg.l e).length:Int))=M:=aC (by rw[b];omega);simp only[Qm,MW,DK,Q8];rw[d];rfl
     .rw[h,c,x,b];rfl
    .have a:(((zg.l e).length:Int)!=(([]:List zg).length:Int))=Z:=bne_iff_ne.2 (by show((zg.l e).length:Int)≠0;omega);have d:((zg.l e).length==0)=M:=dM.2 b;refine zQ (r:=(.kb M,[])) ?_ ?_
     .unfold bF at c;simp only[HR,Q8];show(ite ((cond (!(e.op==[])) Z (cond (!(e.v.1==0&&(e.v.2.1==0&&(e.v.q==[]&&Z)))) Z (cond (!(e.s==[])) Z (((zg.l e).length:Int)!=(([]:List zg).length:Int)))))=Z) _ _)=_;rw[h,c,x,a];rfl
     .rw[h,c,x,d];rfl
   .refine zQ (r:=(.kb M,[])) ?_ ?_
    .unfold bF at c;simp only[HR,Q8];show(ite ((cond (!(e.op==[])) Z (cond (!(e.v.1==0&&(e.v.2.1==0&&(e.v.q==[]&&Z)))) Z (cond (!(e.s==[])) Z (((zg.l e).length:Int)!=(([]:List zg).length:Int)))))=Z) _ _)=_;rw[h,c,x];rfl
    .rw[h,c,x];rfl
  .refine zQ (r:=(.kb M,[])) ?_ ?_
   .unfold bF at c;simp only[HR,Q8];show(ite ((cond (!(e.op==[])) Z (cond (!(e.v.1==0&&(e.v.2.1==0&&(e.v.q==[]&&Z)))) Z (cond (!(e.s==[])) Z (((zg.l e).length:Int)!=(([]:List zg).length:Int)))))=Z) _ _)=_;rw[h,c];rfl
   .rw[h,c];rfl
 .refine zQ (r:=(.kb M,[])) ?_ ?_
  .simp only[HR,Q8];show(ite ((cond (!(e.op==[])) Z (cond (!(e.v.1==0&&(e.v.2.1==0&&(e.v.q==[]&&Z)))) Z (cond (!(e.s==[])) Z (((zg.l e).length:Int)!=(([]:List zg).length:Int)))))=Z) _ _)=_;rw[h];rfl
  .rw[h];rfl
theorem Ty(h:dW e=Z):(e.op==[])=M:=by
 have d:=mn h;cases gK d with
 |lit v j=>rfl
 |col s k i=>rfl
 |one o a x c=>rcases x with rfl|rfl<;>rfl
 |two o a b x c g=>rcases x with rfl|rfl|rfl|rfl|rfl|rfl<;>rfl
theorem Gt(l:vB e)(o:N c<=1000000):sv e c=Y (jB e c,()):=by
 have j:=Sk e;have b:gW e A3=Z:=by unfold gW;rw[j];rfl
 have d:fH e A3=gP 16 e A3:=by unfold fH;rw[j];rfl
 unfold sv am bT;simp only[zi4,Q8,zn,pd l,tV l];unfold jB;rcases zW (e.op==[])with x|x
 .have p:dW e=M:=by
   rcases zW (dW e)with h|h
   .rw[Ty h]at x;cases x
   .exact h
  have a:cz e c=(0,1):=by unfold cz;rw[p];rfl
  rw[x,b,d,a];rcases zW (gP 16 e A3)with h|h<;>rw[h]<;>rfl
 .have q:gP 16 e A3=M:=by rw[G5,x];rfl
  rw[x,q];rcases zW (dW e)with h|h
  .have a:=Pu (cols:=c) o h;have g:qn e c=Z:=by unfold qn;rw[a];rfl
   have i:jw e c=cz e c:=by unfold jw;rw[a];rfl
   rw[h,g,i];generalize cz e c=t;have⟨t,r⟩:=t;rcases zW (r==0)with k|k
   .have e0:r=0:=bV k;subst e0;rcases zW (t==0)with m|m<;>rcases zW (t==3)with n|n<;>(simp only[bne,m,n];rfl)
   .simp only[bne,k];rfl
  .have a:cz e c=(0,1):=by unfold cz;rw[h];rfl
   rw[h,a];rfl
structure mg (t:ap):Prop where
 name:aD t.1=Z
 n1:1<=N t.2.1
 n8:N t.2.1<=8
 cols:∀i,i<N t.2.1->aD (T t.2.1 i (Q zp)).1=Z/\LE.le (α:=Int) 1 (T t.2.1 i (Q zp)).2.1/\LE.le (α:=Int) (T t.2.1 i (Q zp)).2.1 3/\aL t.2.1 (T t.2.1 i (Q zp)).1=(i:Int)
 uniq:∀u∈t.r.1,Jv u (N t.2.1)
 refs:∀f∈t.t.1,Jv f.1 (N t.2.1)/\aD f.2=Z
 key:Jv t.q.1 (N t.2.1)
 nn:(T t.2.1 (W t.q.1) (Q zp)).q=Z
 chk:jB t.u t.2.1=(0:Int)
variable {t:ap}
theorem NI:Ra t i=Z↔(aD (T t.2.1 i (Q zp)).1=Z/\LE.le (α:=Int) 1 (T t.2.1 i (Q zp)).2.1/\LE.le (α:=Int) (T t.2.1 i (Q zp)).2.1 3/\aL t.2.1 (T t.2.1 i (Q zp)).1=(i:Int)):=by
 unfold Ra;have e:ab t (T t.2.1 i (Q zp)).1=aL t.2.1 (T t.2.1 i (Q zp)).1:=rfl;rw[e];generalize T t.2.1 i (Q zp)=c;cases aD c.1
 .simp
 .by_cases x:LT.lt (α:=Int) c.2.1 1
  .rw[zC x];simp;intro h;omega
  .rw[aC x];by_cases a:GT.gt (α:=Int) c.2.1 3
   .rw[zC a];simp;intro _ h;omega
   .rw[aC a];exact⟨λh=>⟨rfl,S,S,by simpa using h⟩,λh=>by simpa using h.r⟩
theorem jD(t:ap):dI t=Z↔mg t:=by
 have n:=Bk (l:=t.r.1) (d:=Q zk) (p:=λu=>AP u (N t.2.1));simp only[rU]at n;have o:(!(cond (!aD t.1) Z (cond (K ((N t.2.1:Int)<1)) Z (K ((N t.2.1:Int)>8)))))=Z↔(aD t.1=Z/\1<=N t.2.1/\N t.2.1<=8):=by
  cases aD t.1
  .simp
  .by_cases x:(N t.2.1:Int)<1
   .rw[zC x];simp;omega
   .rw[aC x];simp;omega
 have x:(List.range (N t.2.1)).all (Ra t)=Z↔∀i,i<N t.2.1->Ra t i=Z:=by
  rw[ep];simp only[ry]
 unfold dI;rw[aO,o,aO,x,aO,n,aO,PQ,aO,rU,aO,bX];exact⟨λ⟨⟨a,b,c⟩,d,e,f,g,i,j⟩=>⟨a,b,c,λk m=>NI.1 (d k m),e,f,g,i,j⟩,λh=>⟨⟨h.name,h.n1,h.n8⟩,λk m=>NI.2 (h.cols k m),h.uniq,h.refs,h.key,h.nn,h.chk⟩⟩
structure DX (t:ap):Prop where
 name:N t.1<=1000000
 cols:∀c∈t.2.1,N c.1<=1000000
 ncols:N t.2.1<=1000
 nuq:N t.r.1<=1000
 nrf:N t.t.1<=1000
 refs:∀f∈t.t.1,N f.2<=1000000
 chk:vB t.u
theorem Pz(j:DX t):L1 t=Y (dI t,()):=by
 have l:=jD t;have U:=j.ncols;have h0:=j.nuq;have h2:=j.nrf;have w:∀r:ay,r=(.kb M,[])->¬mg t->aX r.2 [Sh.bool] r.1=Y (dI t,()):=by
  intro r m h;have:dI t=M:=by
   rcases zW (dI t)with c|c
   .exact zB (l.1 c) h
   .exact c
  rw[m,this];rfl
 have x:(znt t).val=if(bif !aD t.1 then Z else bif K ((N t.2.1:Int)<1)then Z else bif K ((N t.2.1:Int)>8)then Z else bif K (LT.lt (α:=Int) t.q.1 0)then Z else bif K (GE.ge (α:=Int) t.q.1 (N t.2.1:Int))then Z else !(T t.2.1 (W t.q.1) (zj zp)).q)=Z then Y (.inr (.kb M,[]))else Y (.inl (.h5 (N t.2.1:Int) ((0:Nat):Int) (t,()))):=by
  simp only[znt,Q8,cI j.name,fS j.name];rw[zf]
  .rfl
  .grind[zK]
 rcases zW (bif !aD t.1 then Z else bif K ((N t.2.1:Int)<1)then Z else bif K ((N t.2.1:Int)>8)then Z else bif K (LT.lt (α:=Int) t.q.1 0)then Z else bif K (GE.ge (α:=Int) t.q.1 (N t.2.1:Int))then Z else !(T t.2.1 (W t.q.1) (zj zp)).q)with c|c
 .rw[zf c]at x;refine zQ x (w _ rfl λh=>?_);have⟨k1,k2⟩:=h.key;have e1:=h.n1;grind[mg.n8,mg.name,mg.nn]
 rw[zh (by rw[c];simp)]at x;have g:aD t.1=Z:=by
  rcases zW (aD t.1)with k|k
  .exact k
  .rw[k]at c;cases c
 rw[g]at c;have H:1<=N t.2.1:=by
  by_cases k:(N t.2.1:Int)<1
  .rw[zC k]at c;cases c
  .omega
 rw[aC (by omega:¬(N t.2.1:Int)<1)]at c;have P:N t.2.1<=8:=by
  by_cases k:(N t.2.1:Int)>8
  .rw[zC k]at c;cases c
  .omega
 rw[aC (by omega:¬(N t.2.1:Int)>8)]at c;have A:LE.le (α:=Int) 0 t.q.1:=by
  by_cases k:LT.lt (α:=Int) t.q.1 0
  .rw[zC k]at c;cases c
  .omega
 rw[aC (by omega:¬LT.lt (α:=Int) t.q.1 0)]at c;have B:LT.lt (α:=Int) t.q.1 (N t.2.1:Int):=by
  by_cases k:GE.ge (α:=Int) t.q.1 (N t.2.1:Int)
  .rw[zC k]at c;cases c
  .omega
 rw[aC (by omega:¬GE.ge (α:=Int) t.q.1 (N t.2.1:Int))]at c;have C:(T t.2.1 (W t.q.1) (zj zp)).q=Z:=by simpa using c
 have o:=nP (t:=uI) (Φ:=λr=>r=(.kb M,[])) 1 (λi=>.h5 (N t.2.1:Int) (i:Int) (t,())) (λi=>aD (T t.2.1 i (zj zp)).1=Z/\LE.le (α:=Int) 1 (T t.2.1 i (zj zp)).2.1/\LE.le (α:=Int) (T t.2.1 i (zj zp)).2.1 3/\aL t.2.1 (T t.2.1 i (zj zp)).1=(i:Int)) (N t.2.1) (by
  intro i x _;have e:=j.cols _ (cG (d:=zj zp) x);have G:(uI (.h5 (N t.2.1:Int) (i:Int) (t,()))).val=if(bif !aD (T t.2.1 i (zj zp)).1 then Z else bif K (LT.lt (α:=Int) (T t.2.1 i (zj zp)).2.1 1)then Z else bif K (GT.gt (α:=Int) (T t.2.1 i (zj zp)).2.1 3)then Z else aL t.2.1 (T t.2.1 i (zj zp)).1!=(i:Int))=Z then Y (.inr (.kb M,[]))else Y (.inl (.h5 (N t.2.1:Int) ((i+1:Nat):Int) (t,()))):=by
   simp only[uI,Q8,zM x,zu x,aI,cI e,fS e,qr (show N t.2.1<=1000000 by omega),uc (show N t.2.1<=1000000 by omega),zi];rw[zf,zt i um];cases aD (T t.2.1 i (zj zp)).1<;>cases K (LT.lt (α:=Int) (T t.2.1 i (zj zp)).2.1 1)<;>cases K (GT.gt (α:=Int) (T t.2.1 i (zj zp)).2.1 3)<;>rfl
  grind[zV.of,zG.of])
 rcases o with⟨D,o⟩|⟨D,r,o,m⟩
 case inr=>exact zz x o S (w _ m λh=>D h.cols)
 have v5:(uI (.h5 (N t.2.1:Int) (N t.2.1:Int) (t,()))).val=Y (.inl (.h11 (N t.2.1:Int) ((0:Nat):Int) (t,()))):=by
  simp only[uI,Q8,zJ];rfl
 have s:=o.trans (zG.of v5);have a:=nP (t:=uI) (Φ:=λr=>r=(.kb M,[])) 1 (λi=>.h11 (N t.2.1:Int) (i:Int) (t,())) (λi=>Jv (T t.r.1 i (zj zk)) (N t.2.1)) (N t.r.1) (by
  intro i x _;have G:(uI (.h11 (N t.2.1:Int) (i:Int) (t,()))).val=if(bif K (LT.lt (α:=Int) (T t.r.1 i (zj zk)) 0)then Z else K (GE.ge (α:=Int) (T t.r.1 i (zj zk)) (N t.2.1:Int)))=Z then Y (.inr (.kb M,[]))else Y (.inl (.h11 (N t.2.1:Int) ((i+1:Nat):Int) (t,()))):=by
   simp only[uI,Q8,zM x,zu x,aI,zi];rw[zf,zt i um];cases K (LT.lt (α:=Int) (T t.r.1 i (zj zk)) 0)<;>rfl
  grind[Jv,zG.of,zV.of])
 rcases a with⟨p,a⟩|⟨p,r,a,m⟩
 case inr=>exact zz x (s.ends a) S (w _ m λh=>p ((aT (Q:=λu=>Jv u (N t.2.1))).2 h.uniq))
 have E:(uI (.h11 (N t.2.1:Int) (N t.r.1:Int) (t,()))).val=Y (.inl (.h16 (N t.2.1:Int) ((0:Nat):Int) (t,()))):=by
  simp only[uI,Q8,zJ];rfl
 have v:=(s.trans a).trans (zG.of E);have b:=nP (t:=uI) (Φ:=λr=>r=(.kb M,[])) 1 (λi=>.h16 (N t.2.1:Int) (i:Int) (t,())) (λi=>Jv (T t.t.1 i (zj zI)).1 (N t.2.1)/\aD (T t.t.1 i (zj zI)).2=Z) (N t.t.1) (by
  intro i x _;have e:=j.refs _ (cG (d:=zj zI) x);have G:(uI (.h16 (N t.2.1:Int) (i:Int) (t,()))).val=if(bif K (LT.lt (α:=Int) (T t.t.1 i (zj zI)).1 0)then Z else bif K (GE.ge (α:=Int) (T t.t.1 i (zj zI)).1 (N t.2.1:Int))then Z else !aD (T t.t.1 i (zj zI)).2)=Z then Y (.inr (.kb M,[]))else Y (.inl (.h16 (N t.2.1:Int) ((i+1:Nat):Int) (t,()))):=by
   simp only[uI,Q8,zM x,zu x,aI,cI e,fS e,zi];rw[zf,zt i um];cases K (LT.lt (α:=Int) (T t.t.1 i (zj zI)).1 0)<;>cases K (GE.ge (α:=Int) (T t.t.1 i (zj zI)).1 (N t.2.1:Int))<;>rfl
  grind[Jv,zG.of,zV.of])
 rcases b with⟨n,b⟩|⟨n,r,b,m⟩
 case inr=>exact zz x (v.ends b) S (w _ m λh=>n ((aT (Q:=λf:cC=>Jv f.1 (N t.2.1)/\aD f.2=Z)).2 h.refs))
 have y:Gr t.u t.2.1=Z:=by unfold Gr;rw[Gt j.chk S];rfl
 have z:L3 t.u t.2.1=jB t.u t.2.1:=by unfold L3;rw[Gt j.chk S];rfl
 have F:(uI (.h16 (N t.2.1:Int) (N t.t.1:Int) (t,()))).val=Y (.inr (.bool (jB t.u t.2.1==(0:Int)),[])):=by
  simp only[uI,Q8,zJ,zn,y,z];rfl
 refine zz x (v.ends (b.ends (zV.of F))) S ?_;have:dI t=(jB t.u t.2.1==(0:Int)):=by
  apply oE.2;rw[l];constructor
  .intro h;rw[h.chk];rfl
  .intro h;exact⟨g,H,P,D,(aT (Q:=λu=>Jv u (N t.2.1))).1 p,(aT (Q:=λf:cC=>Jv f.1 (N t.2.1)/\aD f.2=Z)).1 n,⟨A,B⟩,C,bV h⟩
 rw[this];rfl
theorem pg(h:DX t):Bc t=Z:=by unfold Bc;rw[Pz h];rfl
theorem t7(h:DX t):J2 t=dI t:=by unfold J2;rw[Pz h];rfl
theorem mg.may(h:mg t)(b:(t.u.op==[])=M):dW t.u=Z:=by
 have x:=h.chk;unfold jB at x;have a:gP 16 t.u A3=M:=by rw[G5,b];rfl
 rw[a,zh sw]at x;rcases zW (dW t.u)with c|c
 .exact c
 .have d:cz t.u t.2.1=(0,1):=by unfold cz;rw[c];rfl
  rw[d]at x;cases x
theorem RG(t:ap)(row:zr)(i:Int):fk t row [] i=if M6 (lr t.u t.2.1 row) 0=Z then(9:Int)else 0:=by rw[fk];rfl
theorem BY(t:ap)(h:zr)(x:zo)(r:zr)(i:Nat):fk t h (x::r) (i:Int)=if(cond (x.1==0) ((T t.2.1 i (Q zp)).q) M)=Z then(8:Int)else if(cond (x.1!=0) (x.1!=(T t.2.1 i (Q zp)).2.1) M)=Z then 5 else fk t h r ((i+1:Nat):Int):=by rw[fk];simp only[aI];rfl
theorem Fb{t:ap}{h:zr}(p:DX t)(j:mg t)(s:∀v∈h,kX v)(B:N h=N t.2.1):∀(m i:Nat),N h-i=m->i<=N h->zV Hk (m+1) (.h9 h (i:Int) (t,())) (J (fk t h (h.drop i) (i:Int)),[])
 | 0,i,g,A=>by
  obtain rfl:i=N h:=by omega
  have y:=p.ncols;rw[kE,RG];refine zV.of ?_;have w:=j.n8;rcases zW (t.u.op==[])with c|c
  .have g:dW t.u=M:=by
    rcases zW (dW t.u)with x|x
    .rw[Ty x]at c;cases c
    .exact x
   have b:lr t.u t.2.1 h=(0,0,[]):=by unfold lr;rw[g];rfl
   rw[b];simp only[Hk,Q8,zJ,zn];rw[c];rfl
  .have g:=j.may c;have d:=zbA (cols:=t.2.1) (row:=h) S s p.chk g;have n:De t.u t.2.1 h=Z:=by unfold De;rw[d];rfl
   have e:LP t.u t.2.1 h=lr t.u t.2.1 h:=by unfold LP;rw[d];rfl
   simp only[Hk,Q8,zJ,zn,n,e,Da,LL];rw[c];show(ite (Z=Z) (ite (M6 (lr t.u t.2.1 h) 0=Z) (Y (Sum.inr (J 9,[]))) (Y (Sum.inr (J 0,[])))) Q2:Option (Kw⊕ay))=_;rcases zW (M6 (lr t.u t.2.1 h) 0)with k|k<;>rw[k]<;>rfl
 | m+1,i,g,A=>by
  have a:i<N h:=by omega
  have w:=j.n8;have C:=Fb p j s B m (i+1) S S;have z:h.drop i=T h i (Q R)::h.drop (i+1):=by
   rw[gF a,bD,aj a];rfl
  rw[z,BY];have o:zK (i:Int) (N t.2.1)=Z:=zu S;have b:(Hk (.h9 h (i:Int) (t,()))).val=if(cond ((T h i (Q R)).1==0) ((T t.2.1 i (Q zp)).q) M)=Z then Y (.inr (J 8,[]))else if(cond ((T h i (Q R)).1!=0) ((T h i (Q R)).1!=(T t.2.1 i (Q zp)).2.1) M)=Z then Y (.inr (J 5,[]))else Y (.inl (.h9 h ((i+1:Nat):Int) (t,()))):=by
   simp only[Hk,Q8,zM a,zu a,o,aI,zi];rw[zt i um];cases((T h i (Q R)).1==0)<;>cases((T h i (Q R)).1!=0)<;>rfl
  rcases zW (cond ((T h i (Q R)).1==0) ((T t.2.1 i (Q zp)).q) M)with c|c
  .rw[c,zf Mw]at b|-;exact(zV.of b).mono S
  .rw[c,zh sw]at b|-;rcases zW (cond ((T h i (Q R)).1!=0) ((T h i (Q R)).1!=(T t.2.1 i (Q zp)).2.1) M)with l|l
   .rw[l,zf Mw]at b|-;exact(zV.of b).mono S
   .rw[l,zh sw]at b|-;exact(zG.of b).ends C
theorem Fa{t:ap}{h:zr}(l:DX t)(g:mg t)(j:∀v∈h,kX v)(k:N h=N t.2.1):∀(m i:Nat),N h-i=m->i<=N h->zV Hk (m+2+N h) (.h4 h (i:Int) (t,())) (J (ig t h (h.drop i) (i:Int)),[])
 | 0,i,s,p=>by
  obtain rfl:i=N h:=by omega
  rw[kE];have a:(Hk (.h4 h (N h:Int) (t,()))).val=Y (.inl (.h9 h ((0:Nat):Int) (t,()))):=by
   simp only[Hk,Q8,zJ];rfl
  have n:=Fb l g j k (N h) 0 S S;have e:ig t h [] (N h:Int)=fk t h (h.drop 0) ((0:Nat):Int):=by
   rw[ig];rfl
  rw[e];exact((zG.of a).ends n).mono S
 | m+1,i,s,p=>by
  have x:i<N h:=by omega
  have w:=g.n8;have u:=Fa l g j k m (i+1) S S;have o:h.drop i=T h i (Q R)::h.drop (i+1):=by
   rw[gF x,bD,aj x];rfl
  have b:=(j _ (cG (d:=Q R) x)).q;have e:ig t h (h.drop i) (i:Int)=if(!bg (T h i (Q R)))=Z then(1:Int)else ig t h (h.drop (i+1)) ((i+1:Nat):Int):=by
   rw[o];rw[ig];rfl
  rw[e];have a:(Hk (.h4 h (i:Int) (t,()))).val=if(!bg (T h i (Q R)))=Z then Y (.inr (J 1,[]))else Y (.inl (.h4 h ((i+1:Nat):Int) (t,()))):=by
   simp only[Hk,Q8,zM x,zu x,aI,zi,mH b,qi b];rw[zt i um]
  rcases zW (!bg (T h i (Q R)))with c|c
  .rw[c,zf Mw]at a|-;exact(zV.of a).mono S
  .rw[c,zh sw]at a|-;exact((zG.of a).ends u).mono S
theorem J1(a:DX t)(g:∀v∈h,kX v):Dl t h=Y (cm t h,()):=by
 unfold cm;have x:(znu t h).val=if(cond (!dI t) Z ((N h:Int)!=(N t.2.1:Int)))=Z then Y (.inr (J 1,[]))else Y (.inl (.h4 h ((0:Nat):Int) (t,()))):=by
  simp only[znu,Q8,zn,pg a,t7 a,zi];rfl
 rcases zW (cond (!dI t) Z ((N h:Int)!=(N t.2.1:Int)))with c|c
 .rw[zf c]at x|-;exact zQ x rfl
 .rw[zh (by rw[c];simp)]at x|-;have d:dI t=Z:=by
   rcases zW (dI t)with k|k
   .exact k
   .rw[k]at c;cases c
  rw[d]at c;have e:N h=N t.2.1:=by
   have:((N h:Int)!=(N t.2.1:Int))=M:=c;simp at this;omega
  have b:=(jD t).1 d;have i:=b.n8;exact zz x (Fa a b g e (N h) 0 S S) S rfl
theorem J0(a:DX t)(x:∀v∈h,kX v):Dk t h=Z:=by unfold Dk;rw[J1 a x];rfl
theorem Py(a:DX t)(x:∀v∈h,kX v):L0 t h=cm t h:=by unfold L0;rw[J1 a x];rfl
theorem eq3(a b:zo):(a.1==b.1&&(a.2.1==b.2.1&&(a.q==b.q&&Z)))=Z↔a=b:=by have⟨k,n,s⟩:=a;have⟨h,x,c⟩:=b;simp
theorem xZ{rows:List zr}{c:Int}(E:∀r∈rows,zK c (N r)=Z)(U:N rows<=1000):∃b,xY rows c=Y (b,())/\(b=M↔uC rows c):=by
 have l:=nP (t:=H0) (Φ:=λr=>r=(.kb Z,[])) 1002 (λi=>.h2 rows c (i:Int)) (λi=>∀k,k<i->¬((zO c (T rows i (Q ze.sl))).1≠0/\zO c (T rows i (Q ze.sl))=zO c (T rows k (Q ze.sl)))) (N rows) (by
  intro i x _;have m:(H0 (.h2 rows c (i:Int))).val=Y (.inl (.h5 rows c (i:Int) ((0:Nat):Int))):=by
   simp only[H0,Q8,zM x];rfl
  have P:=nP (t:=H0) (Φ:=λr=>r=(.kb Z,[])) 1 (λk=>.h5 rows c (i:Int) (k:Int)) (λk=>¬((zO c (T rows i (Q ze.sl))).1≠0/\zO c (T rows i (Q ze.sl))=zO c (T rows k (Q ze.sl)))) i (by
   intro k w _;have o:k<N rows:=by omega
   have m:(H0 (.h5 rows c (i:Int) (k:Int))).val=if(cond ((zO c (T rows i (Q ze.sl))).1!=0) ((zO c (T rows i (Q ze.sl))).1==(zO c (T rows k (Q ze.sl))).1&&((zO c (T rows i (Q ze.sl))).2.1==(zO c (T rows k (Q ze.sl))).2.1&&((zO c (T rows i (Q ze.sl))).q==(zO c (T rows k (Q ze.sl))).q&&Z))) M)=Z then Y (.inr (.kb Z,[]))else Y (.inl (.h5 rows c (i:Int) ((k+1:Nat):Int))):=by
    simp only[H0,Q8,zM w,zu x,zu o,E _ (cG (d:=Q ze.sl) x),E _ (cG (d:=Q ze.sl) o),aI,zi];rw[zf,zt k um];cases((T (T rows i (Q ze.sl)) (W c) (Q R)).1!=0)<;>rfl
   have F:=eq3 (zO c (T rows i (Q ze.sl))) (zO c (T rows k (Q ze.sl)));rcases zW ((zO c (T rows i (Q ze.sl))).1!=0)with a|a
   .have p:(zO c (T rows i (Q ze.sl))).1≠0:=bne_iff_ne.1 a;rcases zW ((zO c (T rows i (Q ze.sl))).1==(zO c (T rows k (Q ze.sl))).1&&((zO c (T rows i (Q ze.sl))).2.1==(zO c (T rows k (Q ze.sl))).2.1&&((zO c (T rows i (Q ze.sl))).q==(zO c (T rows k (Q ze.sl))).q&&Z)))with g|g
    .exact .inr ⟨λh=>h ⟨p,F.1 g⟩,_,zV.of (by rw[m,a,g,zf Mw]),rfl⟩
    .exact .inl ⟨λh=>(by rw[F.2 h.2]at g;cases g),zG.of (by rw[m,a,g,zh sw])⟩
   .refine .inl ⟨λh=>h.1 (by simpa using a),zG.of (by rw[m,a,zh sw])⟩)
  rcases P with⟨C,u⟩|⟨C,r,u,z⟩
  .have A:(H0 (.h5 rows c (i:Int) (i:Int))).val=Y (.inl (.h2 rows c ((i+1:Nat):Int))):=by
    simp only[H0,Q8,zJ];rw[zt i um];rfl
   exact .inl ⟨C,(((zG.of m).trans u).trans (zG.of A)).mono S⟩
  .exact .inr ⟨C,r,((zG.of m).ends u).mono S,z⟩)
 have H:(∀i,i<N rows->∀k,k<i->¬((zO c (T rows i (Q ze.sl))).1≠0/\zO c (T rows i (Q ze.sl))=zO c (T rows k (Q ze.sl))))↔uC rows c:=by
  unfold uC;rw[List.pairwise_iff_getElem];have e:∀i(x:i<N rows),T rows i (Q ze.sl)=rows[i]:=λi x=>by rw[bD,aj x,bK]
  constructor
  .intro h i j x G v y n;have:=h j G i v;rw[e i x,e j G]at this;exact this ⟨by rw[<-n];exact y,n.symm⟩
  .rintro h i x k w ⟨D,l⟩;rw[e i x]at D l;rw[e k S]at l;exact h k i S x w (by rw[<-l];exact D) l.symm
 have x:(zt5 rows c).val=Y (.inl (.h2 rows c ((0:Nat):Int))):=rfl;rcases l with⟨B,s⟩|⟨B,r,s,z⟩
 .refine⟨M,zz x (s.ends (zV.of (r:=(.kb M,[])) ?_)) S rfl,⟨λ_=>H.1 B,λ_=>rfl⟩⟩;simp only[H0,Q8,zJ];rfl
 .subst z;exact⟨Z,zz x s S rfl,⟨λh=>(by cases h),λh=>zB (H.2 h) B⟩⟩
theorem PC(a:DX t)(c:dI t=Z)(x:zK t.q.1 (N h)=Z):Gw t h=Y (zO t.q.1 h,()):=by
 unfold Gw am bT;have b:K (LT.lt (α:=Int) t.q.1 (N h:Int))=Z:=by
  unfold zK at x;simp only[aO]at x;exact x.2
 simp only[zt7,Q8,zn,pg a,t7 a,c,x,b];rfl
theorem pi(a:DX t)(x:dI t=Z)(h:zK t.q.1 (N row)=Z):Bf t row=Z:=by unfold Bf;rw[PC a x h];rfl
theorem ue(a:DX t)(x:dI t=Z)(h:zK t.q.1 (N row)=Z):J3 t row=zO t.q.1 row:=by unfold J3;rw[PC a x h];rfl
variable {x:ag}{v:zo}
theorem Be(m:DX x.1)(u:dI x.1=Z)(k:∀r∈x.2,zK x.1.q.1 (N r)=Z)(y:N x.2<=1000):Do x v=Y (al (λr=>bG r x.1.q.1 v) x.2 0,()):=by
 have o:∀r∈x.2,bG r x.1.q.1 v=((zO x.1.q.1 r).1==v.1&&((zO x.1.q.1 r).2.1==v.2.1&&((zO x.1.q.1 r).q==v.q&&Z))):=by
  intro r w;have:=k r w;unfold zK at this;simp only[aO]at this;unfold bG;rw[show K (GE.ge (α:=Int) x.1.q.1 0)=Z from this.1,this.2];rfl
 have n:=nP (t:=zcj) (Φ:=λr=>r=(J (al (λr=>bG r x.1.q.1 v) x.2 0),[])) 1 (λi=>.h2 (i:Int) (x,()) (v,())) (λi=>bG (T x.2 i (Q ze.sl)) x.1.q.1 v=M) (N x.2) (by
  intro i c s;have b:=cG (d:=Q ze.sl) c;have a:=k _ b;have e:K (LT.lt (α:=Int) x.1.q.1 ((T x.2 i (Q ze.sl)).length:Int))=Z:=by
   unfold zK at a;simp only[aO]at a;exact a.2
  have l:(zcj (.h2 (i:Int) (x,()) (v,()))).val=if bG (T x.2 i (Q ze.sl)) x.1.q.1 v=Z then Y (.inr (J i,[]))else Y (.inl (.h2 ((i+1:Nat):Int) (x,()) (v,()))):=by
   rw[o _ b];simp only[zcj,Q8,zn,zM c,zu c,a,e,pg m,t7 m,u,aI,aG,zi,nu];rw[zt i um]
  rcases zW (bG (T x.2 i (Q ze.sl)) x.1.q.1 v)with h|h
  .have g:=oT (p:=λr=>bG r x.1.q.1 v) (d:=Q ze.sl) x.2 0 i c h s;refine .inr ⟨by rw[h];simp,_,zV.of (by rw[l,zf h]),?_⟩;show _=(J (al (λr=>bG r x.1.q.1 v) x.2 0),[]);rw[g];simp
  .exact .inl ⟨h,zG.of (by rw[l,zh (by rw[h];simp)])⟩)
 have c:(zt8 x v).val=Y (.inl (.h2 ((0:Nat):Int) (x,()) (v,()))):=rfl;rcases n with⟨j,e⟩|⟨j,r,e,rfl⟩
 .have g:=oU (p:=λr=>bG r x.1.q.1 v) (d:=Q ze.sl) x.2 0 j;rw[g];refine zz c (e.ends (zV.of (r:=(J (-1),[])) ?_)) S rfl;simp only[zcj,Q8,zJ];rfl
 .exact zz c e S rfl
theorem Xf(c:DX x.1)(b:dI x.1=Z)(h:∀r∈x.2,zK x.1.q.1 (N r)=Z)(a:N x.2<=1000):ud x v=Z:=by unfold ud;rw[Be c b h a];rfl
theorem zbD(c:DX x.1)(b:dI x.1=Z)(h:∀r∈x.2,zK x.1.q.1 (N r)=Z)(a:N x.2<=1000):Bd x v=al (λr=>bG r x.1.q.1 v) x.2 0:=by unfold Bd;rw[Be c b h a];rfl
structure Ii (x:ag):Prop where
 t:DX x.1
 rows:N x.2<=1000
 vals:∀r∈x.2,∀v∈(r:zr),kX v
theorem Ii.short(h:Ii x):il x:=⟨h.t.nuq,h.t.nrf,h.rows⟩
theorem Jq{t:ap}{d:zr}:∀(r:zr)(i:Nat),fk t d r (i:Int)=(0:Int)->∀j,j<N r->(T t.2.1 (i+j) (Q zp)).q=Z->(T r j (Q R)).1≠0
 |[],_,_,j,b,_=>by simp at b
 | x::r,i,h,j,b,hn=>by
  rw[BY]at h;split at h
  .cases h
  rename_i c;split at h
  .cases h
  cases j with
  | zero=>
   intro e;have a:(x.1==0)=Z:=by simpa using e
   rw[a]at c;exact c hn
  | succ j=>
   have:=Jq r (i+1) h j (by simpa using b) (by rw[show i+1+j=i+(j+1) by omega];exact hn);exact this
theorem Js{t:ap}{row:zr}:∀(r:zr)(i:Nat),ig t row r (i:Int)=(0:Int)->(∀v∈r,bg v=Z)/\fk t row row ((0:Nat):Int)=(0:Int)
 | [],i,h=>by
  rw[ig]at h;exact⟨λv a=>(by cases a),h⟩
 | x::r,i,h=>by
  have e:ig t row (x::r) (i:Int)=if(!bg x)=Z then(1:Int)else ig t row r ((i+1:Nat):Int):=by
   rw[ig];rfl
  rw[e]at h;split at h
  .cases h
  rename_i c;have⟨b,d⟩:=Js r (i+1) h;refine⟨λv a=>?_,d⟩;rcases ce.1 a with rfl|a
  .simpa using c
  .exact b v a
theorem cq(h:cm t row=(0:Int)):N row=N t.2.1/\(∀v∈row,bg v=Z)/\∀j,j<N row->(T t.2.1 j (Q zp)).q=Z->(T row j (Q R)).1≠0:=by
 have c:=Fc (t:=t) (row:=row) (by simpa using h);unfold cm at h;split at h
 .cases h
 have⟨x,a⟩:=Js row 0 h;refine⟨c,x,λj b d=>?_⟩;have:=Jq row 0 a j b (by rwa [eI]);exact this
theorem wk{b:zo}(x:bg v=Z)(a:bg b=Z)(h:an v b=(0:Int)):v=b:=by
 unfold an ah at h;rw[x,a]at h;have h:HW [rF v.1 b.1,kH v.2.1 b.2.1,oI v.q b.q]=(0:Int):=h;rw[<-Lk]at h;rcases zW (v.1==b.1&&(v.2.1==b.2.1&&(v.q==b.q&&Z)))with c|c
 .exact(eq3 v b).1 c
 .rw[zh (by rw[c];simp)]at h;split at h<;>cases h
theorem L5(j:Ii x):∃e:Int,ph x=Y (e,())/\(e=0↔eb x):=by
 have h5:=j.rows;have x6:=j.t.nuq;by_cases o:dI x.1=Z
 case neg=>
  have x3:dI x.1=M:=by simpa using o
  refine⟨1,?_,λh=>(by cases h),λh=>zB h.may o⟩;unfold ph am bT;simp only[ZX,Q8,zn,pg j.t,t7 j.t,x3];rfl
 by_cases x1:N x.2<=200
 case neg=>
  refine⟨13,?_,λh=>(by cases h),λh=>zB h.few x1⟩;unfold ph am bT;simp only[ZX,Q8,zn,pg j.t,t7 j.t,o];rw[zf trivial,zh sw,zf sg];rfl
 have k:(ZX x).val=Y (.inl (.h6 ((0:Nat):Int) (x,()))):=by
  simp only[ZX,Q8,zn,pg j.t,t7 j.t,o];rw[zf trivial,zh sw,zh sg];rfl
 have⟨E,x5,x4,_,_⟩:=fX o;have H:=nP (t:=sL) (Φ:=Err) 1 (λi=>.h6 (i:Int) (x,())) (λi=>cm x.1 (T x.2 i (zj ze.sl))=(0:Int)) (N x.2) (by
  intro i k _;have x0:=j.vals _ (cG (d:=zj ze.sl) k);have B:(sL (.h6 (i:Int) (x,()))).val=if(cm x.1 (T x.2 i (zj ze.sl))!=0)=Z then Y (.inr (J (cm x.1 (T x.2 i (zj ze.sl))),[]))else Y (.inl (.h6 ((i+1:Nat):Int) (x,()))):=by
   simp only[sL,Q8,zn,zM k,zu k,aI,J0 j.t x0,Py j.t x0,zi];rw[zt i um]
  by_cases h:cm x.1 (T x.2 i (zj ze.sl))=(0:Int)
  .refine .inl ⟨h,zG.of ?_⟩;rw[B,zh (by rw[h];simp)]
  .refine .inr ⟨h,_,zV.of (by rw[B,zf (by simpa using h)]),_,rfl,h⟩)
 rcases H with⟨hf,H⟩|⟨hf,r,H,e,w,g⟩
 case inr=>
  subst w;exact⟨e,zz k H S rfl,λh=>zB h g,λh=>zB ((aT (Q:=λr=>cm x.1 r=(0:Int))).2 h.fits) hf⟩
 have a:=(aT (Q:=λr=>cm x.1 r=(0:Int))).1 hf;have h4:∀r∈x.2,N r=N x.1.2.1:=λr z=>(cq (a r z)).1
 have y:∀c,Jv c (N x.1.2.1)->∀r∈x.2,zK c (N r)=Z:=λc hc r z=>by
  rw[h4 r z];exact pW hc
 have⟨b,hb,n⟩:=xZ (rows:=x.2) (c:=x.1.q.1) (y _ E) h5;have C:pj x.2 x.1.q.1=Z:=by unfold pj;rw[hb];rfl
 have D:uf x.2 x.1.q.1=b:=by unfold uf;rw[hb];rfl
 have h9:(sL (.h6 (N x.2:Int) (x,()))).val=if b=Z then Y (.inr (J 7,[]))else Y (.inl (.h14 ((0:Nat):Int) (x,()))):=by
  simp only[sL,Q8,zJ,C,D];rfl
 by_cases v:b=Z
 .refine⟨7,zz k (H.ends (zV.of (by rw[h9,zf v]))) S rfl,λh=>(by cases h),λh=>?_⟩;have:=n.2 h.key;rw[v]at this;cases this
 have A:uC x.2 x.1.q.1:=n.1 (by simpa using v);have P:zG sL _ (.h6 ((0:Nat):Int) (x,())) _:=H.trans (zG.of (by rw[h9,zh v]));have l:=nP (t:=sL) (Φ:=Err) 1 (λi=>.h14 (i:Int) (x,())) (λi=>uC x.2 (T x.1.r.1 i (zj zk))) (N x.1.r.1) (by
  intro i k _;have⟨b,hb,n⟩:=xZ (rows:=x.2) (c:=T x.1.r.1 i (zj zk)) (y _ (x4 _ (cG k))) h5;have C:pj x.2 (T x.1.r.1 i (zj zk))=Z:=by unfold pj;rw[hb];rfl
  have D:uf x.2 (T x.1.r.1 i (zj zk))=b:=by unfold uf;rw[hb];rfl
  have B:(sL (.h14 (i:Int) (x,()))).val=if b=Z then Y (.inr (J 7,[]))else Y (.inl (.h14 ((i+1:Nat):Int) (x,()))):=by
   simp only[sL,Q8,zM k,zu k,zi,aI,C,D];rw[zt i um]
  by_cases h:b=Z
  .refine .inr ⟨λhu=>?_,_,zV.of (by rw[B,zf h]),7,rfl,by decide⟩;have:=n.2 hu;rw[h]at this;cases this
  .exact .inl ⟨n.1 (by simpa using h),zG.of (by rw[B,zh h])⟩)
 rcases l with⟨hq,l⟩|⟨hq,r,l,e,w,g⟩
 case inr=>
  subst w;exact⟨e,zz k (P.ends l) S rfl,λh=>zB h g,λh=>zB ((aT (Q:=λu=>uC x.2 u)).2 h.uniq) hq⟩
 have F:=(aT (Q:=λu=>uC x.2 u)).1 hq;have h7:(sL (.h14 (N x.1.r.1:Int) (x,()))).val=Y (.inl (.h19 ((0+1:Nat):Int) (x,()))):=by
  simp only[sL,Q8,zJ];rfl
 have U:=(P.trans l).trans (zG.of h7);have p:∀i,i+1<N x.2->(qE (zO x.1.q.1 (T x.2 i (zj ze.sl))) (zO x.1.q.1 (T x.2 (i+1) (zj ze.sl)))↔K (GT.gt (α:=Int) (an (zO x.1.q.1 (T x.2 i (zj ze.sl))) (zO x.1.q.1 (T x.2 (i+1) (zj ze.sl)))) 0)=M):=by
  intro i s;have G:i<N x.2:=by omega
  have m1:=cG (d:=zj ze.sl) G;have m2:=cG (d:=zj ze.sl) s;have⟨l1,f1,n1⟩:=cq (a _ m1);have⟨l2,f2,_⟩:=cq (a _ m2);have hT:=(jD x.1).1 o;have⟨k1,k2⟩:=hT.key;have h3:W x.1.q.1<(T x.2 i (zj ze.sl)).length:=by rw[l1];omega
  have x2:W x.1.q.1<(T x.2 (i+1) (zj ze.sl)).length:=by rw[l2];omega
  unfold qE;constructor
  .intro h;exact aC S
  .intro h;have h:¬GT.gt (α:=Int) (an (zO x.1.q.1 (T x.2 i (zj ze.sl))) (zO x.1.q.1 (T x.2 (i+1) (zj ze.sl)))) 0:=of_decide_eq_false h;by_cases h0:@Eq Int (an (zO x.1.q.1 (T x.2 i (zj ze.sl))) (zO x.1.q.1 (T x.2 (i+1) (zj ze.sl)))) 0
   .exfalso;have w:=wk (f1 _ (cG h3)) (f2 _ (cG x2)) h0;have g:=n1 _ h3 hT.nn;have hp:=(List.pairwise_iff_getElem.1 A) i (i+1) G s S;have e1:T x.2 i (zj ze.sl)=x.2[i]:=by rw[bD,aj G,bK]
    have e2:T x.2 (i+1) (zj ze.sl)=x.2[i+1]:=by rw[bD,aj s,bK]
    rw[e1]at g w;rw[e2]at w;exact hp g w
   .omega
 have m:=nP (t:=sL) (Φ:=Err) 1 (λi=>.h19 ((i+1:Nat):Int) (x,())) (λi=>qE (zO x.1.q.1 (T x.2 i (zj ze.sl))) (zO x.1.q.1 (T x.2 (i+1) (zj ze.sl)))) (N x.2-1) (by
  intro i k _;have G:i<N x.2:=by omega
  have s:i+1<N x.2:=by omega
  have m1:=cG (d:=zj ze.sl) G;have m2:=cG (d:=zj ze.sl) s;have k1:=y _ E _ m1;have k2:=y _ E _ m2;have o1:∀r∈x.2,(zO x.1.q.1 r).q.length<=1000000:=by
   intro r z;by_cases h:W x.1.q.1<N r
   .exact(j.vals r z _ (cG h)).q
   .unfold zO;rw[bD,fa S];exact aK _
  have B:(sL (.h19 ((i+1:Nat):Int) (x,()))).val=if K (GT.gt (α:=Int) (an (zO x.1.q.1 (T x.2 i (zj ze.sl))) (zO x.1.q.1 (T x.2 (i+1) (zj ze.sl)))) 0)=Z then Y (.inr (J 15,[]))else Y (.inl (.h19 ((i+1+1:Nat):Int) (x,()))):=by
   simp only[sL,zn,gS i um];simp only[Q8,zM s,zu s,zu G,aI,aN,pi j.t o k1,pi j.t o k2,ue j.t o k1,ue j.t o k2,mJ (o1 _ m1) (o1 _ m2),o9 (o1 _ m1) (o1 _ m2),zi];rw[zt (i+1) um]
  rcases zW (K (GT.gt (α:=Int) (an (zO x.1.q.1 (T x.2 i (zj ze.sl))) (zO x.1.q.1 (T x.2 (i+1) (zj ze.sl)))) 0))with c|c
  .exact .inr ⟨λh=>(by rw[(p i s).1 h]at c;cases c),_,zV.of (by rw[B,zf c]),15,rfl,by decide⟩
  .exact .inl ⟨(p i s).2 c,zG.of (by rw[B,zh (by rw[c];simp)])⟩)
 rcases m with⟨z,m⟩|⟨z,r,m,e,w,g⟩
 case inr=>
  subst w;exact⟨e,zz k (U.ends m) S rfl,λh=>zB h g,λh=>zB h.rise z⟩
 have h8:(sL (.h19 ((N x.2-1+1:Nat):Int) (x,()))).val=Y (.inr (J 0,[])):=by
  simp only[sL,Q8];rw[zh sg]
 exact⟨0,zz k (U.ends (m.ends (zV.of h8))) S rfl,λ_=>⟨o,x1,a,A,F,z⟩,λ_=>rfl⟩
theorem wh(c:UInt8)(s o:zN):Lib.index (c::s) o=if o.isPrefixOf (c::s)=Z then 0 else if Lib.index s o=-1 then -1 else Lib.index s o+1:=by rw[Lib.index];simp only[bX]
variable {l n:zN}
theorem Bn(x:(l==n)=M)(h:Lib.index s l=-1):Lib.replaceAll s l n=s:=by unfold Lib.replaceAll Lib.replace Lib.replaceNum;rw[x,zf (Or.inl (by decide)),Lib.count_miss h];rfl
theorem GO(a:l≠[])(x:(l==n)=M)(h:Lib.index s l=i):Lib.replaceAll s l n=s.take i++n++Lib.replaceAll (s.drop (i+N l)) l n:=by unfold Lib.replaceAll Lib.replace Lib.replaceNum;rw[x,zf (Or.inl (by decide)),zf (Or.inl (by decide)),Lib.count_hit a h,kY 1];exact Lib.replaceK_hit l n _ s i h
theorem GP(b:s≠[])(x:(s==l)=M):Lib.replaceAll [] s l=[]:=by
 refine Bn x ?_;cases s with
 |nil=>exact zB rfl b
 |cons a h=>rfl
variable {a:UInt8}
theorem PU(x:l≠[])(h:(l==n)=M)(b:l.isPrefixOf (a::s)=Z):Lib.replaceAll (a::s) l n=n++Lib.replaceAll ((a::s).drop (N l)) l n:=by have:=GO (i:=0) x h (s:=a::s) (by rw[wh,zf b];rfl);simpa using this
theorem Ka(b:l≠[])(x:(l==n)=M)(d:l.isPrefixOf (a::s)=M):Lib.replaceAll (a::s) l n=a::Lib.replaceAll s l n:=by
 by_cases h:Lib.index s l=-1
 .rw[Bn x h,Bn x (by rw[wh,zh (by simp[d]),zf h])]
 .obtain⟨i,c⟩:∃i:Nat,Lib.index s l=i:=⟨(Lib.index s l).toNat,by have:=Lib.index_ge s l;omega⟩;rw[GO b x c,GO (i:=i+1) b x (by rw[wh,zh (by simp[d]),zh h,c];simp)];simp[Nat.add_right_comm]
theorem zbn{x:UInt8}{r:zN}(h:a≠x):(x::l).isPrefixOf (a::r)=M:=by rw[List.isPrefixOf,dM.2 (Ne.symm h)];rfl
def mm:zN->zN
 |[]=>[]
 |c::r=>if c=39 then 39::39::mm r else c::mm r
theorem GN:∀s:zN,Lib.replaceAll s [39] pH=mm s
 |[]=>GP sw rfl
 | c::r=>by
  rw[mm];split
  next h=>subst h;rw[PU sw rfl sw];simp[GN r]
  next h=>rw[Ka sw rfl (zbn h),GN r]
def fT:zN->Option (zN×Nat)
 |[]=>Q2
 |[c]=>if c=39 then Y ([],1)else Q2
 |c::d::r=>if c=39 then(if d=39 then(fT r).map λx=>(39::x.1,x.2+2)else Y ([],1))else(fT (d::r)).map λx=>(c::x.1,x.2+1)
theorem uo:∀(n:Nat)(s t:zN)(k:Nat),N s<=n->fT s=Y (t,k)->1<=k/\k<=N s/\Lib.replaceAll (s.take (k-1)) pH [39]=t
 |_,[],_,_,_,h=>by simp[fT]at h
 | _,[c],t,k,_,h=>by
  rw[fT]at h;split at h
  .simp at h;obtain⟨rfl,rfl⟩:=h;exact⟨sw,sw,by simpa using GP sw rfl⟩
  .simp at h
 |0,_::_::_,_,_,hn,_=>by simp at hn
 | n+1,c::d::r,t,k,hn,h=>by
  rw[fT]at h;split at h
  .rename_i g;split at h
   next m=>simp only[dV]at h;have⟨⟨i,x⟩,e,a⟩:=h;simp only[cQ]at a;obtain⟨rfl,rfl⟩:=a;have⟨l,j,b⟩:=uo n r i x (by simp at hn;omega) e;refine⟨S,sg,?_⟩;subst g;subst m;rw[show x+2-1=(x-1)+2 by omega,List.take_succ_cons,List.take_succ_cons,PU sw rfl sw];simp[b]
   .simp at h;obtain⟨rfl,rfl⟩:=h;exact⟨sw,sw,by simpa using GP sw rfl⟩
  next g=>simp only[dV]at h;have⟨⟨i,x⟩,e,a⟩:=h;simp only[cQ]at a;obtain⟨rfl,rfl⟩:=a;have⟨l,j,b⟩:=uo n (d::r) i x (by simp at hn|-;omega) e;refine⟨S,by simp at j|-;omega,?_⟩;rw[show x+1-1=(x-1)+1 by omega,List.take_succ_cons,Ka sw rfl (zbn g),b]
theorem Ke(h:a≠39):∀r:zN,fT (a::r)=(fT r).map λx=>(a::x.1,x.2+1)
 |[]=>by simp[fT,h]
 |d::r=>by rw[fT,zh h]
theorem P4(r:zN):fT (39::39::r)=(fT r).map λx=>(39::x.1,x.2+2):=by rw[fT,zf rfl,zf rfl]
theorem G6:∀r:zN,r.head?≠Y 39->fT (39::r)=Y ([],1)
 |[],_=>by rw[fT,zf rfl]
 |d::r,h=>by rw[fT,zf rfl,zh (by simpa using h)]
theorem iz(s:zN)(h:i<N s):s.getD ((i:Int).toNat) 0=s[i]:=by rw[aI,bD,aj h,bK]
theorem uF:((a.toNat:Int)==39)=Z↔a=39:=by
 rw[bX];constructor
 .intro h;exact UInt8.toNat_inj.1 (by show a.toNat=39;omega)
 .rintro rfl;rfl
theorem sB:∀(n:Nat)(s:zN)(i:Nat)(a:Int)(b:zN),1<=i->i<=N s->N s+2<=n+i->N s<=1000000000->
  fQ n s (i:Int) a b=(match fT (s.drop i)with
   |none=>((0,[]),0)
   |some x=>((3,Lib.replaceAll (List.take (i+x.2-2) (List.drop 1 s)) pH [39]),((i+x.2:Nat):Int)))
 |0,s,i,a,b,k,l,m,e=>by omega
 | n + 1,s,i,a,b,k,l,m,e=>by
  rw[fQ];by_cases g:i<N s
  .rw[zf (zC (show(i:Int)<(Io s:Int) by omega)),iz s g,sV i ow,gF g];by_cases d:s[i]=39
   .rw[zh (by simp[bne,uF.2 d]),d];by_cases j:i+1<Io s
    .rw[gF j,iz s j,zC (show((i+1:Nat):Int)<(N s:Int) by omega)];by_cases c:s[i+1]=39
     .rw[zf (by simpa using uF.2 c),sV (i+1) S,sB n s (i+1+1) a b S S S e,c,P4];cases fT (s.drop (i+1+1))with
      |none=>rfl
      | some x=>
       simp only[Ir];rw[show i+1+1+x.2=i+(x.2+2) by omega]
     .rw[zh (by simpa using λh=>c (uF.1 (by simpa using h))),G6 _ (by rw[List.head?_cons];exact λh=>c (Option.some.inj h))];simp
    .rw[Ij (by omega:N s<=i+1),aC (show¬((i+1:Nat):Int)<(N s:Int) by omega),G6 _ sw];simp
   .rw[zf (by simpa[bne]using λh=>d (uF.1 (by simpa using h))),Ke d,sB n s (i+1) a b S S S e];cases fT (s.drop (i+1))with
    |none=>rfl
    | some x=>
     simp only[Ir];rw[show i+1+x.2=i+(x.2+1) by omega]
  .rw[zh sg,Ij S];rfl
def rP(c:UInt8)(r:zN):dC×Nat:=
 if bq c.toNat=Z then((1,(c::r).take (dR cB r+1)),dR cB r+1)
 else if aE c.toNat=Z then((2,(c::r).take (dR aE r+1)),dR aE r+1)
 else if c=39 then(match fT r with|none=>((0,[]),0)|some x=>((3,x.1),x.2+1))
 else((4,[c]),1)
theorem AJ(c:UInt8)(r:zN)(n:(c::r).length<=1000000000):cj (c::r)=((rP c r).1,((rP c r).2:Int)):=by
 have e:bJ bq cB (c::r)=if bq c.toNat=Z then dR cB r+1 else 0:=rfl
 have b:bJ aE aE (c::r)=if aE c.toNat=Z then dR aE r+1 else 0:=rfl
 unfold cj rP;by_cases g:bq c.toNat=Z
 .rw[zf g]at e;simp[e,g]
 .rw[zh g]at e;by_cases i:aE c.toNat=Q3
  .rw[zf i]at b;simp[e,b,g,i]
  .rw[zh i]at b;by_cases j:c=39
   .have o:=sB ((c::r).length+1) (c::r) 1 0 [] S sw S n;have a:iT (c::r)=_:=o;subst j;have l:bq 39=M:=rfl;have d:aE 39=M:=rfl;cases k:fT r with
    | none=>
     simp only[List.drop_succ_cons,List.drop_zero,k]at a;simp[e,b,l,d,a]
    | some x=>
     have⟨q,s,p⟩:=uo (N r) r x.1 x.2 (zR _) k;simp only[List.drop_succ_cons,List.drop_zero,k]at a;rw[show 1+x.2-2=x.2-1 by omega,p,kY 1]at a;simp[e,b,l,d,a]
   .have m:¬(c.toNat:Int)=39:=λh=>j (uF.1 (by simpa using h))
    simp[e,b,g,i,j,m]
def Af:Nat->zN->Nat->Bool
 |0,_,_=>M
 |_+1,[],k=>K (k<=400)
 | n+1,c::r,k=>
  if(cond ((c.toNat:Int)==32) Z ((c.toNat:Int)==10))=Z then Af n r k
  else if dJ (rP c r).1=Z then Af n ((c::r).drop (rP c r).2) (k+1)else M
theorem Ag:∀(n:Nat)(s:zN)(k:Nat),400<k->Af n s k=M
 |0,_,_,_=>rfl
 |_+1,[],k,h=>by rw[Af];exact aC S
 | n+1,c::r,k,h=>by
  rw[Af];split
  .exact Ag n r k h
  .split
   .exact Ag n _ (k+1) S
   .rfl
theorem En:∀(n:Nat)(s:zN)(i:Nat)(l:dK),i<=N s->N s+1<=n+i->N s<=1000000000->N l<=400->((w7 n s (i:Int) l).2==(0:Int))=Af n (s.drop i) (N l)
 |0,s,i,l,o,p,d,e=>by omega
 | n + 1,s,i,l,o,p,d,e=>by
  rw[w7];by_cases x:i<N s
  .have m:List.take ((N s:Int).toNat-(i:Int).toNat) (List.drop (i:Int).toNat s)=s.drop i:=by
    simp only[aI];exact DZ sw
   have h:(s.drop i).length<=1000000000:=by simp;omega
   rw[zf (zC (show(i:Int)<(N s:Int) by omega)),m,iz s x,sV i S];rw[gF x]at h|-;rw[Af];split
   .exact En n s (i+1) l S S d e
   .rw[AJ _ _ h];simp only;by_cases a:dJ (rP s[i] (s.drop (i+1))).1=Z
    .rw[zf a];by_cases j:N l=400
     .rw[zf (by rw[a,j];rfl),j,Ag n _ _ S];rfl
     .rw[zh (by rw[a];simp;omega)];have g:dJ (cj (s[i]::s.drop (i+1))).1=Z:=by rw[AJ _ _ h];exact a
      have⟨k,c,q,b⟩:=yR _ (List.cons_ne_nil _ _) h g;rw[AJ _ _ h]at c;have c:(rP s[i] (s.drop (i+1))).2=k:=Int.ofNat.inj c;have t:k<=N s-i:=by rw[<-gF x]at b;simpa using b
      rw[c,show((i:Int)+(k:Int))=((i+k:Nat):Int) by omega,zcC (i+k) S,En n s (i+k) _ S S d sg,<-gF x,List.drop_drop];simp
    .rw[zh a,zf (by simp[a])];rfl
  .rw[zh sg,Ij S];rw[Af];exact(zC e).symm
end Cad
