/- The document's texts of values and expressions. -/
import Derived.Test.YtgcekmmgphhofaaGreatDoorR21
namespace Cad
open Go Go.Proofs
open List renaming length->M
open IntKind renaming wrap->Γ,i64->Δ
open Tr renaming val->Q9
open Bool renaming true->Z,false->J
open Option renaming none->Q2,some->Y
open Decidable renaming decide->L
open List renaming getD->W
open Tr (chk br re)
open AV (nils agg tup ptr kb str sl)
open Cad renaming ow->S,Tr->K,Sem->N
set_option maxHeartbeats 4000000
theorem UC(m:Nat):aL [IntKind.u8.wrap (Γ Δ (48-Γ Δ (Int.tmod (-(m:Int)) 10)))]=[UInt8.ofNat (48+m%10)]:=by
 have e:Int.tmod (-(m:Int)) 10=-((m%10:Nat):Int):=by rw[Int.neg_tmod];rfl
 have b:m%10<10:=Nat.mod_lt _ S;have h:Γ Δ (-((m%10:Nat):Int))=-((m%10:Nat):Int):=by rw[lz];omega
 have x:Γ Δ (48- -((m%10:Nat):Int))=((48+m%10:Nat):Int):=by rw[lz];omega
 have a:IntKind.u8.wrap ((48+m%10:Nat):Int)=((48+m%10:Nat):Int):=by rw[IntKind.wrap_u8];omega
 rw[e,h,x,a];rfl
theorem ZR(m:Nat)(h:m<=9223372036854775808):Γ Δ (Int.tdiv (-(m:Int)) 10)=-((m/10:Nat):Int):=by
 have e:Int.tdiv (-(m:Int)) 10=-((m/10:Nat):Int):=by rw[Int.neg_tdiv];rfl
 have:m/10<=m:=Nat.div_le_self _ _;rw[e,lz];omega
theorem UB:∀(f m:Nat)(s:zD),m<10^f->0<f->m<=9223372036854775808->(0<m\/s=[])->M s+f<=1000->aF CT (f+1) (.h2 (-(m:Int)) s) (.str (nl f m++s),[])
 |0,_,_,_,h,_,_,_=>by omega
 | f+1,m,s,d,_,i,g,l=>by
  have b:(CT (.h2 (-(m:Int)) s)).val=Y (.inl (.h2 (-((m/10:Nat):Int)) ([UInt8.ofNat (48+m%10)]++s))):=by
   show(CT (.h2 _ _)).val=_;have c:(bif L (LT.lt (α:=Int) (-(m:Int)) 0)then Z else s==[])=Z:=by
    rcases g with h|h
    .rw[zL S];rfl
    .subst h;cases L (LT.lt (α:=Int) (-(m:Int)) 0)<;>rfl
   simp only[CT,Q9,UC m,ZR m i,zj];rw[zf c,zf (zL sg)]
  by_cases x:m<10
  .have e0:m/10=0:=by omega
   have e:m%10=m:=by omega
   rw[e0,e]at b;have a:nl (f+1) m=[UInt8.ofNat (48+m)]:=by rw[nl,zf x]
   rw[a];refine((z8.of b).ends (k:=1) (aF.of ?_)).mono S;show(CT (.h2 _ _)).val=_;simp[CT,Q9]
  .have j:0<f:=by
    cases f with
    |zero=>simp at d;omega
    |succ f=>omega
   have:=UB f (m/10) ([UInt8.ofNat (48+m%10)]++s) (by rw[sD]at d;omega) j S (.inl S) sg;have a:nl (f+1) m=nl f (m/10)++[UInt8.ofNat (48+m%10)]:=by rw[nl,zh x]
   rw[a,iI];exact(z8.of b).ends this
theorem xH{m:Nat}(h:m<=9223372036854775808):wm (-(m:Int))=Y (nl 20 m,()):=by refine zF (s:=.h2 (-(m:Int)) []) rfl (UB 20 m [] S S h (.inr rfl) sw) S ?_;rw[D3];rfl
theorem AM:∀s:zD,(fP s).length<=2*M s
 |[]=>by simp[fP]
 | c::r=>by
  have:=AM r;rw[fP];split<;>simp<;>omega
theorem Eb(c:UInt8):∀s:zD,fP (s++[c])=fP s++(ite (c=39) oY [c])
 | []=>by
  show fP [c]=_;rw[fP,fP,fP];split<;>rfl
 | d::r=>by
  have:=Eb c r;show fP (d::(r++[c]))=_;rw[fP,fP,this];split<;>rfl
variable {α:Type}{i:Nat}
theorem zqZ{l:List α}(h:i<M l):l.take (i+1)=l.take i++[l[i]]:=by rw[List.take_add_one,zQ h];rfl
variable {v:zw}
theorem ziF(k:M v.q<=1000000):aF uo (M v.q*1+1) (.h13 [39] 0 (v,())) (.str ([39]++fP v.q++[39]),[]):=by
 have d:=z8.all (t:=uo) 1 (λi=>.h13 ([39]++fP (v.q.take i)) (i:Int) (v,())) (M v.q) (by
  intro i x;refine z8.of ?_;have a:=AM (v.q.take i);have c:(fP (v.q.take i)).length<=2000000:=by simp at a;omega
  have w:Γ Δ ((i:Int)+1)=((i+1:Nat):Int):=zz i um;have g:(L (0<=(i:Int))&&L ((i:Int)<=((i+1:Nat):Int))&&L (((i+1:Nat):Int)<=(M v.q:Int)))=Z:=by simp;omega
  have e:List.take (((i+1:Nat):Int).toNat-(i:Int).toNat) (List.drop (i:Int).toNat v.q)=[v.q[i]]:=by
   rw[bB,bB,show i+1-i=1 by omega,mj x];rfl
  show(uo (.h13 _ _ _)).val=_;simp only[uo,Q9,w,g,e,z6 x,zx x,zj,kO v.q x];rw[zqZ x,Eb,zf (zL sg)];by_cases h:v.q[i]=39
  .rw[zf (GK.2 h),zf h,zf (zL sg),h];simp
  .rw[zh (λb=>h (GK.1 b)),zh h];simp)
 have a:=AM v.q;have j:(uo (.h13 ([39]++fP (v.q.take (M v.q))) (M v.q:Int) (v,()))).val=Y (.inr (.str ([39]++fP v.q++[39]),[])):=by
  show(uo (.h13 _ _ _)).val=_;simp only[uo,Q9,aw,jg];simp;omega
 have:=d.ends (aF.of j);rw[oV]at this;exact this
theorem zbd(x:aP v=Z)(j:v.1≠(0:Int))(l:v.1≠(1:Int))(m:v.1≠(2:Int)):(v.1==3)=Z/\((eV v==2)=(v.2.1==1)):=by
 have e:(v.1==0)=J:=fH.2 j;have g:(v.1==1)=J:=fH.2 l;have i:(v.1==2)=J:=fH.2 m;have c:=x;unfold aP at x;rw[e,g,i]at x;simp only[zO,zr]at x;cases b:(v.1==3)
 .rw[b]at x;simp at x
 .rw[b]at x;refine⟨rfl,?_⟩;have a:v.2.1=(0:Int)\/v.2.1=(1:Int):=by
   simp at x;by_cases k:v.2.1=(0:Int)
   .exact .inl k
   .by_cases d:v.2.1=(1:Int)
    .exact .inr d
    .simp[k,d]at x
  unfold eV;rw[show(v.1!=3)=J by simp[bne,b],c];rcases a with h|h<;>rw[h]<;>rfl
theorem Fs(F:Ap v):Hi v=Y (fN v,()):=by
 have⟨D,C,a⟩:=F;have h:=KP (v:=v) a;have e:=PX (v:=v) a;by_cases g:aP v=Z
 .have c:(!aP v)=J:=by rw[g];rfl
  by_cases n:v.1=(0:Int)
  .have d:(v.1==0)=Z:=be.2 n;refine zG (r:=(.str L6,[])) ?_ ?_
   .simp only[xu,Q9,h,e,c,d,zj];rfl
   .unfold fN;rw[n,g];rfl
  have d:(v.1==0)=J:=fH.2 n;by_cases u:v.1=(1:Int)
  .have b:(v.1==1)=Z:=be.2 u;have l:fN v=rm v.2.1:=by
    unfold fN;rw[c,zh sw,zf b]
   rw[l];unfold rm;by_cases x:LT.lt (α:=Int) v.2.1 0
   .have k:=xH (m:=v.2.1.natAbs) S;rw[show -((v.2.1.natAbs:Nat):Int)=v.2.1 by omega]at k;have o:kq v.2.1=Z:=by unfold kq;rw[k];rfl
    have p:kV v.2.1=nl 20 v.2.1.natAbs:=by unfold kV;rw[k];rfl
    have z:=AL 20 v.2.1.natAbs;rw[zf x];refine zG (r:=(.str ([45]++nl 20 v.2.1.natAbs),[])) ?_ rfl;simp only[xu,Q9,h,e,c,d,b,zL x,o,p,zj];rw[zh sw,zh sw,zf (zL sg)]
   .have k:=xH (m:=v.2.1.natAbs) S;have G:Γ Δ (0-v.2.1)=-((v.2.1.natAbs:Nat):Int):=by rw[lz];omega
    have o:kq (-((v.2.1.natAbs:Nat):Int))=Z:=by unfold kq;rw[k];rfl
    have p:kV (-((v.2.1.natAbs:Nat):Int))=nl 20 v.2.1.natAbs:=by unfold kV;rw[k];rfl
    rw[zh x];refine zG (r:=(.str (nl 20 v.2.1.natAbs),[])) ?_ rfl;simp only[xu,Q9,h,e,c,d,b,aQ x,G,o,p,zj];rw[zh sw,zh sw,zh sw]
  have b:(v.1==1)=J:=fH.2 u;by_cases w:v.1=(2:Int)
  .have i:(v.1==2)=Z:=be.2 w;have l:fN v=[39]++fP v.q++[39]:=by
    unfold fN;rw[c,zh sw,zh (by rw[b];simp),zf i,t8]
   rw[l];have A:aF uo (M v.q*1+1) (.h13 [39] 0 (v,())) (.str ([39]++fP v.q++[39]),[]):=ziF (v:=v) a;refine zF (s:=.h13 [39] 0 (v,())) ?_ A S rfl;simp only[xu,Q9,h,e,c,d,b,i,zj];rfl
  .have i:(v.1==2)=J:=fH.2 w;have⟨y,E⟩:=zbd g n u w;have l:fN v=if(v.2.1==1)=Z then I3 else I2:=by
    unfold fN;rw[c,zh sw,zh (by rw[b];simp),zh (by rw[i];simp),zf y,E]
   rw[l];by_cases j:(v.2.1==1)=Z
   .rw[zf j];refine zG (r:=(.str I3,[])) ?_ rfl;simp only[xu,Q9,h,e,c,d,b,i,j,zj];rfl
   .rw[zh j];refine zG (r:=(.str I2,[])) ?_ rfl;have j:(v.2.1==1)=J:=by simpa using j
    simp only[xu,Q9,h,e,c,d,b,i,j,zj];rfl
 .have g:aP v=J:=by simpa using g
  refine zG (r:=(.str [],[])) ?_ ?_
  .simp only[xu,Q9,h,e,g,zj];rfl
  .unfold fN;rw[g];rfl
theorem SI(h:Ap v):yM v=Z:=by unfold yM;rw[Fs h];rfl
theorem XH(h:Ap v):Hh v=fN v:=by unfold Hh;rw[Fs h];rfl
theorem qv:∀(i d x:Nat)(e:zg),d<=12->d<=i->d<=x->cA d e=Z->mh e->ei i e=Y (aq x e,())/\(aq x e).length<=400*nE d e
 |_,0,_,_,_,_,_,h,_=>by cases h
 |0,d+1,_,_,_,h,_,_,_=>zp h S
 |_,d+1,0,_,_,_,h,_,_=>zp h S
 | i+1,d+1,x+1,e,h0,h1,h2,h,o=>by
  rw[ei];unfold P0;cases gL h with
  | lit v hv=>
   rw[mh]at o;have k:aq (x+1) (.mk sJ v [] [])=fN v:=rfl;have U:=FN v;rw[k];refine⟨zG (r:=(.str (fN v),[])) ?_ rfl,by simp[nE];omega⟩;have j:(rl (λl=>lO (ei i l)) (λl=>(ei i l).isSome) (.mk sJ v [] [])).val=if yM v=Z then Y (.inr (.str (Hh v),[]))else Q2:=rfl
   rw[j,SI o.1,XH o.1];rfl
  | col s hs hr=>
   have U:=FS hs;have k:aq (x+1) (.mk ic (0,0,[]) s [])=s:=rfl;rw[k];exact⟨zG (r:=(.str s,[])) rfl rfl,by simp[nE];omega⟩
  | one p a E z=>
   rw[mh,g8]at o;obtain⟨A,la⟩:=qv i d x a S S S z o.q.1;have F:=Fq d a z;have p1:2^d<=2^12:=Ov S S;have G:nE (d+1) (.mk p (0,0,[]) [] [a])=1+nE d a:=by simp[nE]
   rw[G];generalize D:(λl=>lO (ei i l))=g;generalize C:(λl=>(ei i l).isSome)=c;have n:g a=aq x a:=by rw[<-D];show lO (ei i a)=_;rw[A];rfl
   have m:c a=Z:=by rw[<-C];show(ei i a).isSome=_;rw[A];rfl
   rcases E with rfl|rfl
   .have k:aq (x+1) (.mk sK (0,0,[]) [] [a])=sI++aq x a++[41]:=rfl;rw[k];refine⟨zG (r:=(.str (sI++aq x a++[41]),[])) ?_ rfl,sg⟩;have j:(rl g c (.mk sK (0,0,[]) [] [a])).val=if c (zP a)=Z then(ite (L (M sI+M (g (zP a))<=1099511627776)=Z) (ite (L ((sI++g (zP a)).length+[41].length<=1099511627776)=Z) (Y (.inr (.str (sI++g (zP a)++[41]),[]))) Q2) Q2)else Q2:=rfl
    rw[j,zt,m,n,zf rfl,zf (zL sg),zf (zL sg)]
   .have k:aq (x+1) (.mk xY (0,0,[]) [] [a])=[40]++aq x a++xX:=rfl;rw[k];refine⟨zG (r:=(.str ([40]++aq x a++xX),[])) ?_ rfl,sg⟩;have j:(rl g c (.mk xY (0,0,[]) [] [a])).val=if c (zP a)=Z then(ite (L ([40].length+M (g (zP a))<=1099511627776)=Z) (ite (L (([40]++g (zP a)).length+M xX<=1099511627776)=Z) (Y (.inr (.str ([40]++g (zP a)++xX),[]))) Q2) Q2)else Q2:=rfl
    rw[j,zt,m,n,zf rfl,zf (zL sg),zf (zL sg)]
  | two p a b E z F=>
   rw[mh,g8,g8]at o;obtain⟨A,la⟩:=qv i d x a S S S z o.q.1;obtain⟨kb,lb⟩:=qv i d x b S S S F o.r.1;have H:=Fq d a z;have P:=Fq d b F;have p1:2^d<=2^12:=Ov S S;have G:nE (d+1) (.mk p (0,0,[]) [] [a,b])=1+(nE d a+nE d b):=by simp[nE]
   rw[G];generalize D:(λl=>lO (ei i l))=g;generalize C:(λl=>(ei i l).isSome)=c;have n:g a=aq x a:=by rw[<-D];show lO (ei i a)=_;rw[A];rfl
   have m:c a=Z:=by rw[<-C];show(ei i a).isSome=_;rw[A];rfl
   have y:g b=aq x b:=by rw[<-D];show lO (ei i b)=_;rw[kb];rfl
   have u:c b=Z:=by rw[<-C];show(ei i b).isSome=_;rw[kb];rfl
   have k:∀w:zD,Lib.toUpperA p=w->rJ (aq x) (gF x) (.mk p (0,0,[]) [] [a,b])=[40]++aq x a++[32]++w++[32]++aq x b++[41]:=by
    rintro w rfl;rcases E with rfl|rfl|rfl|rfl|rfl|rfl<;>rfl
   have hx:aq (x+1) (.mk p (0,0,[]) [] [a,b])=rJ (aq x) (gF x) (.mk p (0,0,[]) [] [a,b]):=rfl;rw[hx];rcases E with rfl|rfl|rfl|rfl|rfl|rfl
   .rw[k [65,78,68] rfl];refine⟨zG (r:=(.str ([40]++aq x a++L4++aq x b++[41]),[])) ?_ (by simp[bc];rfl),sg⟩;have j:(rl g c (.mk lq (0,0,[]) [] [a,b])).val=if c (zP a)=Z then(ite (L ([40].length+M (g (zP a))<=1099511627776)=Z) (ite (L (([40]++g (zP a)).length+M L4<=1099511627776)=Z) (ite (c (zP b)=Z) (ite (L (([40]++g (zP a)++L4).length+M (g (zP b))<=1099511627776)=Z) (ite (L (([40]++g (zP a)++L4++g (zP b)).length+[41].length<=1099511627776)=Z) (Y (.inr (.str ([40]++g (zP a)++L4++g (zP b)++[41]),[]))) Q2) Q2) Q2) Q2) Q2)else Q2:=rfl
    rw[j,zt,zt,m,u,n,y,zf rfl,zf (zL sg),zf (zL sg),zf rfl,zf (zL sg),zf (zL sg)]
   .rw[k [79,82] rfl];refine⟨zG (r:=(.str ([40]++aq x a++L5++aq x b++[41]),[])) ?_ (by simp[bc];rfl),sg⟩;have j:(rl g c (.mk Dg (0,0,[]) [] [a,b])).val=if c (zP a)=Z then(ite (L ([40].length+M (g (zP a))<=1099511627776)=Z) (ite (L (([40]++g (zP a)).length+M L5<=1099511627776)=Z) (ite (c (zP b)=Z) (ite (L (([40]++g (zP a)++L5).length+M (g (zP b))<=1099511627776)=Z) (ite (L (([40]++g (zP a)++L5++g (zP b)).length+[41].length<=1099511627776)=Z) (Y (.inr (.str ([40]++g (zP a)++L5++g (zP b)++[41]),[]))) Q2) Q2) Q2) Q2) Q2)else Q2:=rfl
    rw[j,zt,zt,m,u,n,y,zf rfl,zf (zL sg),zf (zL sg),zf rfl,zf (zL sg),zf (zL sg)]
   .rw[k [61] rfl];refine⟨zG (r:=(.str ([40]++aq x a++[32]++[61]++[32]++aq x b++[41]),[])) ?_ rfl,sg⟩;have j:(rl g c (.mk [61] (0,0,[]) [] [a,b])).val=if c (zP a)=Z then(ite (L ([40].length+M (g (zP a))<=1099511627776)=Z) (ite (L (([40]++g (zP a)).length+[32].length<=1099511627776)=Z) (ite (L (([40]++g (zP a)++[32]).length+M [61]<=1099511627776)=Z) (ite (L (([40]++g (zP a)++[32]++[61]).length+[32].length<=1099511627776)=Z) (ite (c (zP b)=Z) (ite (L (([40]++g (zP a)++[32]++[61]++[32]).length+M (g (zP b))<=1099511627776)=Z) (ite (L (([40]++g (zP a)++[32]++[61]++[32]++g (zP b)).length+[41].length<=1099511627776)=Z) (Y (.inr (.str ([40]++g (zP a)++[32]++[61]++[32]++g (zP b)++[41]),[]))) Q2) Q2) Q2) Q2) Q2) Q2) Q2)else Q2:=rfl
    rw[j,zt,zt,m,u,n,y,zf rfl,zf (zL sg),zf (zL sg),zf (zL sg),zf (zL sg),zf rfl,zf (zL sg),zf (zL sg)]
   .rw[k [60] rfl];refine⟨zG (r:=(.str ([40]++aq x a++[32]++[60]++[32]++aq x b++[41]),[])) ?_ rfl,sg⟩;have j:(rl g c (.mk [60] (0,0,[]) [] [a,b])).val=if c (zP a)=Z then(ite (L ([40].length+M (g (zP a))<=1099511627776)=Z) (ite (L (([40]++g (zP a)).length+[32].length<=1099511627776)=Z) (ite (L (([40]++g (zP a)++[32]).length+M [60]<=1099511627776)=Z) (ite (L (([40]++g (zP a)++[32]++[60]).length+[32].length<=1099511627776)=Z) (ite (c (zP b)=Z) (ite (L (([40]++g (zP a)++[32]++[60]++[32]).length+M (g (zP b))<=1099511627776)=Z) (ite (L (([40]++g (zP a)++[32]++[60]++[32]++g (zP b)).length+[41].length<=1099511627776)=Z) (Y (.inr (.str ([40]++g (zP a)++[32]++[60]++[32]++g (zP b)++[41]),[]))) Q2) Q2) Q2) Q2) Q2) Q2) Q2)else Q2:=rfl
    rw[j,zt,zt,m,u,n,y,zf rfl,zf (zL sg),zf (zL sg),zf (zL sg),zf (zL sg),zf rfl,zf (zL sg),zf (zL sg)]
   .rw[k [43] rfl];refine⟨zG (r:=(.str ([40]++aq x a++[32]++[43]++[32]++aq x b++[41]),[])) ?_ rfl,sg⟩;have j:(rl g c (.mk [43] (0,0,[]) [] [a,b])).val=if c (zP a)=Z then(ite (L ([40].length+M (g (zP a))<=1099511627776)=Z) (ite (L (([40]++g (zP a)).length+[32].length<=1099511627776)=Z) (ite (L (([40]++g (zP a)++[32]).length+M [43]<=1099511627776)=Z) (ite (L (([40]++g (zP a)++[32]++[43]).length+[32].length<=1099511627776)=Z) (ite (c (zP b)=Z) (ite (L (([40]++g (zP a)++[32]++[43]++[32]).length+M (g (zP b))<=1099511627776)=Z) (ite (L (([40]++g (zP a)++[32]++[43]++[32]++g (zP b)).length+[41].length<=1099511627776)=Z) (Y (.inr (.str ([40]++g (zP a)++[32]++[43]++[32]++g (zP b)++[41]),[]))) Q2) Q2) Q2) Q2) Q2) Q2) Q2)else Q2:=rfl
    rw[j,zt,zt,m,u,n,y,zf rfl,zf (zL sg),zf (zL sg),zf (zL sg),zf (zL sg),zf rfl,zf (zL sg),zf (zL sg)]
   .rw[k [45] rfl];refine⟨zG (r:=(.str ([40]++aq x a++[32]++[45]++[32]++aq x b++[41]),[])) ?_ rfl,sg⟩;have j:(rl g c (.mk [45] (0,0,[]) [] [a,b])).val=if c (zP a)=Z then(ite (L ([40].length+M (g (zP a))<=1099511627776)=Z) (ite (L (([40]++g (zP a)).length+[32].length<=1099511627776)=Z) (ite (L (([40]++g (zP a)++[32]).length+M [45]<=1099511627776)=Z) (ite (L (([40]++g (zP a)++[32]++[45]).length+[32].length<=1099511627776)=Z) (ite (c (zP b)=Z) (ite (L (([40]++g (zP a)++[32]++[45]++[32]).length+M (g (zP b))<=1099511627776)=Z) (ite (L (([40]++g (zP a)++[32]++[45]++[32]++g (zP b)).length+[41].length<=1099511627776)=Z) (Y (.inr (.str ([40]++g (zP a)++[32]++[45]++[32]++g (zP b)++[41]),[]))) Q2) Q2) Q2) Q2) Q2) Q2) Q2)else Q2:=rfl
    rw[j,zt,zt,m,u,n,y,zf rfl,zf (zL sg),zf (zL sg),zf (zL sg),zf (zL sg),zf rfl,zf (zL sg),zf (zL sg)]
theorem Zq:Ap (0,0,[]):=⟨by decide,by decide,zU _⟩
theorem TW(n:Int):Ap (1,Γ Δ n,[]):=by
 refine⟨?_,?_,zU _⟩
 .grind[IntKind.wrap_i64]
 grind[IntKind.wrap_i64]
theorem TV(a b:zw):Ap (xS a b):=by grind[xS,Zq,TW]
theorem qo:∀(x k:Nat)(e:zg)(n:Nat),k<=12->n<=60->(gZ x e ((13:Int)-k) n).1=Z->cA k e=Z/\(gZ x e ((13:Int)-k) n).2=((n+nE k e:Nat):Int)/\n+nE k e<=60
 |0,_,_,_,_,_,h=>by cases h
 | x+1,0,e,n,_,_,h=>by
  rw[gZ]at h;unfold yj at h;rw[zf S0]at h;cases h
 | x + 1,k+1,.mk o v s l,n,h1,h2,h=>by
  have w1:Γ Δ ((n:Int)+1)=((n+1:Nat):Int):=zz n um;have C:Γ Δ ((13:Int)-((k+1:Nat):Int)+1)=(13:Int)-(k:Int):=by rw[lz];omega
  have G:L ((13:Int)-((k+1:Nat):Int)>12)=J:=aQ S;rw[gZ]at h|-
  have e0:∀m:Int,yj (gZ x) (.mk o v s l) m n=if(cond (L (m>12)) Z (cond (L (((n+1:Nat):Int)>60)) Z ((M l:Int)!=dl o)))=Z then(J,((n+1:Nat):Int))else
    if(o==sJ)=Z then(cond (s==[]) (aP v) J,((n+1:Nat):Int))else
    if(o==ic)=Z then(cond (ec v) (cond (fg s) (!mM s) J) J,((n+1:Nat):Int))else
    if(cond (!ec v) Z (!s==[]))=Z then(J,((n+1:Nat):Int))else oH (gZ x) m l ((n+1:Nat):Int):=by
   intro m;unfold yj;rw[w1];rfl
  rw[e0,G]at h|-;rcases fU (L (((n+1:Nat):Int)>60))with u|u
  .rw[u,zf S0]at h;cases h
  rcases fU ((M l:Int)!=dl o)with w|w
  .rw[u,w,zf S0]at h;cases h
  have D:n+1<=60:=by simp at u;omega
  have q:(M l:Int)=dl o:=by simpa using w
  rw[u,w,zh sw]at h|-;rcases lM o with⟨p,g⟩|⟨p,g⟩|⟨p,g⟩|p
  .have H:l=[]:=Do S;subst H;rcases g with rfl|rfl
   .rw[zf S0]at h|-;have⟨a,b⟩:=ap h;refine⟨?_,by simp[nE],by simp[nE];omega⟩;simp[cA,b,aY a]
   .rw[zh (by decide),zf S0]at h|-;have⟨a,b⟩:=ap h;have⟨b,c⟩:=ap b;refine⟨?_,by simp[nE],by simp[nE];omega⟩;have F:mM s=J:=by simpa using c
    simp[cA,a,b,F]
  .obtain⟨a,rfl⟩:∃a,l=[a]:=List.length_eq_one_iff.1 S;have o1:(o==sJ)=J:=by rcases g with rfl|rfl<;>rfl
   have o2:(o==ic)=J:=by rcases g with rfl|rfl<;>rfl
   have o3:(cond (o==sK) Z (o==xY))=Z:=by rcases g with rfl|rfl<;>rfl
   rw[zh (by rw[o1];simp),zh (by rw[o2];simp)]at h|-;rcases fU (ec v)with d|d
   .rcases fU (s==[])with i|i
    .rw[d,i,zh sw]at h|-;rw[oH,C]at h|-;rcases fU (gZ x a ((13:Int)-(k:Int)) ((n+1:Nat):Int)).1 with j|j
     .have⟨z,A,E⟩:=qo x k a (n+1) S D j;rw[j,zh sw];refine⟨by simp[cA,o1,o2,o3,d,i,z],?_,by simp[nE];omega⟩;rw[oH];show(gZ x a ((13:Int)-(k:Int)) ((n+1:Nat):Int)).2=_;rw[A];simp[nE];omega
     .rw[j,zf S0]at h;cases h
    .rw[d,i,zf S0]at h;cases h
   .rw[d,zf S0]at h;cases h
  .obtain⟨a,b,rfl⟩:∃a b,l=[a,b]:=by
    match l,q with
    |[a,b],_=>exact⟨a,b,rfl⟩
    |[],q=>exact zp q (by rw[p];simp)
    |[_],q=>exact zp q (by rw[p];simp)
    |_::_::_::_,q=>exact zp q (by rw[p];simp;omega)
   have o1:(o==sJ)=J:=by rcases g with rfl|rfl|rfl|rfl|rfl|rfl<;>rfl
   have o2:(o==ic)=J:=by rcases g with rfl|rfl|rfl|rfl|rfl|rfl<;>rfl
   have o3:(cond (o==sK) Z (o==xY))=J:=by rcases g with rfl|rfl|rfl|rfl|rfl|rfl<;>rfl
   have o4:zbv o=Z:=by rcases g with rfl|rfl|rfl|rfl|rfl|rfl<;>rfl
   rw[zh (by rw[o1];simp),zh (by rw[o2];simp)]at h|-;rcases fU (ec v)with d|d
   .rcases fU (s==[])with i|i
    .rw[d,i,zh sw]at h|-;rw[oH,C]at h|-;rcases fU (gZ x a ((13:Int)-(k:Int)) ((n+1:Nat):Int)).1 with j|j
     .have⟨z,A,E⟩:=qo x k a (n+1) S D j;rw[j,zh sw]at h|-;rw[A,oH,C]at h|-;rcases fU (gZ x b ((13:Int)-(k:Int)) ((n+1+nE k a:Nat):Int)).1 with y|y
      .have⟨P,U,j3⟩:=qo x k b (n+1+nE k a) S E y;rw[y,zh sw];refine⟨by simp[cA,o1,o2,o3,o4,d,i,z,P],?_,by simp[nE];omega⟩;rw[oH];show(gZ x b ((13:Int)-(k:Int)) ((n+1+nE k a:Nat):Int)).2=_;rw[U];simp[nE];omega
      .rw[y,zf S0]at h;cases h
     .rw[j,zf S0]at h;cases h
    .rw[d,i,zf S0]at h;cases h
   .rw[d,zf S0]at h;cases h
  .omega
theorem Ee(e:zg):gY e=(cond (cA 12 e) (L (nE 12 e<=60)) J):=by
 unfold gY;rcases fU (gZ 16 e 1 0).1 with c|c
 .have⟨a,_,d⟩:=qo 16 12 e 0 S S c;rw[c,a,zL S];rfl
 .rw[c];rcases fU (cA 12 e)with g|g
  .rw[g];by_cases h:nE 12 e<=60
   .have:=qq 16 12 e 0 S S g S;have b:(gZ 16 e 1 0).1=Z:=by
     have x:gZ 16 e 1 0=(Z,((0+nE 12 e:Nat):Int)):=this;rw[x]
    rw[b]at c;cases c
   .rw[aQ h];rfl
  .rw[g];rfl
variable {e:zg}
theorem rI(h:gY e=Z):cA 12 e=Z:=by rw[Ee]at h;exact(ap h).1
theorem Lc(e:zg):gz 16 e Nc=(e.op==[]&&(ec e.v&&(e.s==[]&&e.l.length==0))):=by
 show La (gz 15) e Nc=_;unfold La MJ eqV ec;have⟨o,v,s,l⟩:=e;simp only[zg.op,zg.v,zg.s,zg.l];cases l with
 | nil=>
  simp only[cE,ZX];cases(o==[])<;>cases(v.1==0&&(v.2.1==0&&(v.q==[]&&Z)))<;>cases(s==[])<;>rfl
 | cons x r=>
  have:(((x::r).length:Int)!=(([]:List zg).length:Int))=Z:=by simp;omega
  simp only[this];cases(o==[])<;>cases(v.1==0&&(v.2.1==0&&(v.q==[]&&Z)))<;>cases(s==[])<;>rfl
structure sx (t:am):Prop where
 name:dI t.1=Z
 n1:1<=M t.2.1
 n8:M t.2.1<=8
 cols:∀i,i<M t.2.1->dI (W t.2.1 i (zk zu)).1=Z/\LE.le (α:=Int) 1 (W t.2.1 i (zk zu)).2.1/\LE.le (α:=Int) (W t.2.1 i (zk zu)).2.1 3/\bE t.2.1 (W t.2.1 i (zk zu)).1=(i:Int)
 uniq:∀u∈t.r.1,Sm u (M t.2.1)
 refs:∀f∈t.t.1,Sm f.1 (M t.2.1)/\dI f.2=Z
 key:Sm t.q.1 (M t.2.1)
 nn:(W t.2.1 (Int.toNat t.q.1) (zk zu)).q=Z
 chk:lX t.u t.2.1=(0:Int)
theorem Jb{t:am}:L9 t i=Z↔(dI (W t.2.1 i (zk zu)).1=Z/\LE.le (α:=Int) 1 (W t.2.1 i (zk zu)).2.1/\LE.le (α:=Int) (W t.2.1 i (zk zu)).2.1 3/\bE t.2.1 (W t.2.1 i (zk zu)).1=(i:Int)):=by
 unfold L9;have e:ah t (W t.2.1 i (zk zu)).1=bE t.2.1 (W t.2.1 i (zk zu)).1:=rfl;rw[e];generalize W t.2.1 i (zk zu)=c;cases dI c.1
 .simp
 .by_cases x:LT.lt (α:=Int) c.2.1 1
  .rw[zL x];simp;intro h;omega
  .rw[aQ x];by_cases a:GT.gt (α:=Int) c.2.1 3
   .rw[zL a];simp;intro _ h;omega
   .rw[aQ a];exact⟨λh=>⟨rfl,S,S,by simpa using h⟩,λh=>by simpa using h.r⟩
theorem jr(t:am):gO t=Z↔sx t:=by
 have n:=ws (l:=t.r.1) (d:=zk zi) (p:=λu=>vU u (M t.2.1));simp only[pn]at n;have o:(!(cond (!dI t.1) Z (cond (L ((M t.2.1:Int)<1)) Z (L ((M t.2.1:Int)>8)))))=Z↔(dI t.1=Z/\1<=M t.2.1/\M t.2.1<=8):=by
  cases dI t.1
  .simp
  .by_cases x:(M t.2.1:Int)<1
   .rw[zL x];simp;omega
   .rw[aQ x];simp;omega
 have x:(List.range (M t.2.1)).all (L9 t)=Z↔∀i,i<M t.2.1->L9 t i=Z:=by
  rw[dg];simp only[jF]
 unfold gO;rw[ar,o,ar,x,ar,n,ar,K0,ar,pn,ar,be];exact⟨λ⟨⟨a,b,c⟩,d,e,f,g,i,j⟩=>⟨a,b,c,λk m=>Jb.1 (d k m),e,f,g,i,j⟩,λh=>⟨⟨h.name,h.n1,h.n8⟩,λk m=>Jb.2 (h.cols k m),h.uniq,h.refs,h.key,h.nn,h.chk⟩⟩
structure WfT (t:am):Prop where
 name:M t.1<=1000000
 cols:∀c∈t.2.1,M c.1<=1000000
 ncols:M t.2.1<=1000
 nuq:M t.r.1<=1000
 nrf:M t.t.1<=1000
 refs:∀f∈t.t.1,M f.2<=1000000
 chk:mh t.u
section
variable {σ:Type} {t:σ->K (σ⊕ac)}
abbrev sm:ac:=(.kb J,[])
theorem Bh{α:Type}{la lb:List α}(s:Nat->σ)(d:M la=M lb)(g:∀i(j:i<M la)(c:i<M lb),(la[i]=lb[i]->(t (s i)).val=Y (.inl (s (i+1))))/\(la[i]≠lb[i]->(t (s i)).val=Y (.inr sm))):
  (la=lb/\z8 t (M la) (s 0) (s (M la)))\/(la≠lb/\aF t (M la) (s 0) sm):=by
 rcases LN (t:=t) (Φ:=λr=>r=sm) 1 s (λi=>la[i]?=lb[i]?) (M la) (λi b _=>by
  have c:i<M lb:=by omega
  have⟨a,x⟩:=g i b c;rw[zQ b,zQ c];by_cases h:la[i]=lb[i]
  .exact .inl ⟨by rw[h],z8.of (a h)⟩
  .exact .inr ⟨λe=>h (Option.some.inj e),sm,aF.of (x h),rfl⟩)with⟨a,x⟩|⟨a,r,x,rfl⟩
 .rw[Nat.mul_one]at x;refine .inl ⟨kE λi=>?_,x⟩;by_cases b:i<M la
  .exact a i b
  .rw[eA S,eA S]
 .rw[Nat.mul_one]at x;exact .inr ⟨λh=>a λi _=>by rw[h],x⟩
end
theorem dV{a b:List α}:((M a:Int)!=(M b:Int))=Z↔M a≠M b:=by simp[bne];omega
theorem Cm:∀(x:Nat)(a b:zg),oI x a=Z->∃r,cf x a b=Y (r,())/\(r=Z↔a=b)
 |0,_,_,h=>by cases h
 | x + 1,.mk j v s l,.mk o g m k,h=>by
  rw[oI]at h;simp only[ar,aT,dg]at h;have⟨hl,U⟩:=h;rw[cf];unfold PY
  have C:(V5 (λd e=>gH (cf x d e)) (λd e=>(cf x d e).isSome) (.mk j v s l) (.mk o g m k)).val=Y (.inr sm)->¬(zg.mk j v s l=zg.mk o g m k)->
    ∃r,aA [Sh.bool] (NV (λd e=>gH (cf x d e)) (λd e=>(cf x d e).isSome)) 3000000000 (V5 (λd e=>gH (cf x d e)) (λd e=>(cf x d e).isSome) (.mk j v s l) (.mk o g m k))=Y (r,())/\(r=Z↔zg.mk j v s l=zg.mk o g m k):=by
   intro w G;exact⟨J,zG w rfl,by simp[G]⟩
  have p:∀c:Bool,(cond (!j==o) Z (cond (!(v.1==g.1&&(v.2.1==g.2.1&&(v.q==g.q&&Z)))) Z (cond (!s==m) Z ((M l:Int)!=(M k:Int)))))=c->
    (V5 (λd e=>gH (cf x d e)) (λd e=>(cf x d e).isSome) (.mk j v s l) (.mk o g m k)).val=if c=Z then Y (.inr sm)else Y (.inl (.h4 ((0:Nat):Int) (.mk j v s l,()) (.mk o g m k,()))):=by
   rintro c rfl;rfl
  by_cases D:j=o;rotate_left
  .exact C (by rw[p Z (by rw[fH.2 D];rfl)];rfl) (λh=>D (by injection h))
  by_cases E:v=g;rotate_left
  .refine C ?_ (λh=>E (by injection h));rw[p Z ?_]
   .rfl
   .have:(v.1==g.1&&(v.2.1==g.2.1&&(v.q==g.q&&Z)))=J:=by
     rw[<-g9];intro h;simp at h;exact E (Prod.ext h.1 (Prod.ext h.2.1 h.q))
    rw[this];cases(j==o)<;>rfl
  by_cases F:s=m;rotate_left
  .refine C ?_ (λh=>F (by injection h));rw[p Z ?_]
   .rfl
   .rw[fH.2 F];cases(j==o)<;>cases(v.1==g.1&&(v.2.1==g.2.1&&(v.q==g.q&&Z)))<;>rfl
  by_cases z:M l=M k;rotate_left
  .refine C ?_ (λh=>z (by injection h with _ _ _ h;rw[h]));rw[p Z ?_]
   .rfl
   .rw[dV.2 z];cases(j==o)<;>cases(v.1==g.1&&(v.2.1==g.2.1&&(v.q==g.q&&Z)))<;>cases(s==m)<;>rfl
  subst D;subst E;subst F;have w:=p J (by
   have:((M l:Int)!=(M k:Int))=J:=by rw[<-g9,dV];exact λh=>h z
   rw[this];simp)
  rw[zh sw]at w
  rcases Bh (t:=NV (λd e=>gH (cf x d e)) (λd e=>(cf x d e).isSome)) (la:=l) (lb:=k) (λi=>.h4 (i:Int) (.mk j v s l,()) (.mk j v s k,())) z (by
   intro i A u;have⟨r,hr,n⟩:=Cm x l[i] k[i] (U _ (bN A));have H:W l (i:Int).toNat (zk Sh.expr)=l[i]:=aa _ _ A;have P:W k (i:Int).toNat (zk Sh.expr)=k[i]:=aa _ _ u;have y:(NV (λd e=>gH (cf x d e)) (λd e=>(cf x d e).isSome) (.h4 (i:Int) (.mk j v s l,()) (.mk j v s k,()))).val=if(!r)=Z then Y (.inr sm)else Y (.inl (.h4 ((i+1:Nat):Int) (.mk j v s l,()) (.mk j v s k,()))):=by
    simp only[NV,NW,H9,Q9,zg.l,zt,H,P,zx A,zx u,hr,iH,zj];rw[zz i um];show(ite (L ((i:Int)<(M l:Int))=Z) _ _)=_;rw[zf (zL S)];rfl
   rw[y];refine⟨λh=>?_,λh=>?_⟩
   .rw[zh (by rw[n.2 h];simp)]
   .rw[zf];cases r
    .rfl
    .exact zp (n.1 rfl) h)with⟨h1,h2⟩|⟨h1,h2⟩
  .subst h1;refine⟨Z,zF w (h2.ends (aF.of (r:=(.kb Z,[])) ?_)) S rfl,sw⟩;simp only[NV,NW,H9,Q9,zg.l];exact zh sw
  .exact⟨J,zF w h2 S rfl,by simp[h1]⟩
theorem SK{b:zg}(h:oI 16 e=Z):yO e b=Z/\(r8 e b=Z↔e=b):=by
 have⟨r,x,a⟩:=Cm 16 e b h;have x:Hl e b=Y (r,()):=x;refine⟨by unfold yO;rw[x];rfl,?_⟩;have:r8 e b=r:=by unfold r8;rw[x];rfl
 rw[this];exact a
section
variable {σ:Type} {t:σ->K (σ⊕ac)}
def Tv(t:σ->Tr (σ⊕ac))(K:Nat)(n:σ⊕ac)(r:ac):Prop:=match n with
 |.inl h=>aF t K h r
 |.inr x=>x=r
theorem iZ{α:Type}{la lb:List α}(s:Int->σ)(n:σ⊕ac)(e:Nat->Bool)(x:∀i:Nat,i<=M la->(t (s i)).val=if L (LT.lt (α:=Int) (i:Int) (M la:Int))=Z then(ite (zT (i:Int) (M la)=Z) (ite (zT (i:Int) (M lb)=Z) (ite ((!e i)=Z) (Y (.inr sm)) (Y (.inl (s (Γ Δ ((i:Int)+1)))))) Q2) Q2)else Y n)
  (l:∀i(_:i<M la)(d:i<M la)(j:i<M lb),e i=Z↔la[i]=lb[i]) (b:M la=M lb) (o:M la<=2000000):
  (la=lb/\∀K r,Tv t K n r->aF t (K+M la+1) (s 0) r)\/(la≠lb/\aF t (M la) (s 0) sm):=by
 rcases Bh (t:=t) (la:=la) (lb:=lb) (λi=>s (i:Int)) b (λi d j=>by
  have a:=x i S;rw[zf (zL S),zf (zx d),zf (zx j),zz i um]at a;have:=l i d d j;refine⟨λh=>?_,λh=>?_⟩
  .rw[a,zh (by rw[this.2 h];simp)]
  .rw[a,zf];cases m:e i
   .rfl
   .exact zp (this.1 m) h)with⟨g,c⟩|⟨g,c⟩
 .refine .inl ⟨g,λK r k=>?_⟩;have a:=x (M la) (zK _);rw[zh sw]at a;unfold Tv at k;cases n with
  |inl h=>exact(c.ends ((z8.of a).ends k)).mono S
  |inr p=>cases k;exact(c.ends (aF.of a)).mono S
 .exact .inr ⟨g,c⟩
end
theorem Us(a b:ci):(a.1==b.1&&(a.2.1==b.2.1&&(a.q==b.q&&Z)))=Z↔a=b:=by simp[Prod.ext_iff]
theorem zgU(a b:bV):(a.1==b.1&&(a.2==b.2&&Z))=Z↔a=b:=by simp[Prod.ext_iff]
structure zvM (a:aG):Prop where
 names:M a.r.1<=1000
 cols:M a.t.1<=1000
 uniques:M a.v.1<=1000
 refs:M a.w.1<=1000
 row:M a.y.1<=1000
 sets:M a.z.1<=1000
 chk:oI 16 a.x.1=Z
 whr:oI 16 a.s.1=Z
 ex:∀x∈a.z.1,oI 16 (x:N pM).2=Z
theorem uV:jI e=Z↔e=.mk [] (0,0,[]) [] []:=by
 have⟨o,⟨k,i,t⟩,s,l⟩:=e;unfold jI;show(cond (o==[]) (cond (k==0&&(i==0&&(t==[]&&Z))) (cond (s==[]) ((M l:Int)==0) J) J) J)=Z↔_;simp only[zg.mk.injEq,cz];constructor
 .intro h;have⟨x,h⟩:=ap h;have⟨a,h⟩:=ap h;have⟨b,h⟩:=ap h;simp at x a b h;exact⟨x,a,b,h⟩
 .rintro⟨rfl,⟨rfl,rfl,rfl⟩,rfl,rfl⟩;rfl
theorem UE(h:gY e=Z):nE 12 e<=60:=by
 rw[Ee]at h;by_cases k:nE 12 e<=60
 .exact k
 .exfalso;rw[aQ k]at h;cases cA 12 e<;>simp at h
theorem XJ(a:mh e)(h:gY e=Z):PZ e=Z/\XI e=aq 16 e/\(aq 16 e).length<=24000:=by have⟨x,b⟩:=qv 16 12 16 e S S S (rI h) a;have x:Hm e=Y (aq 16 e,()):=x;have c:=UE h;refine⟨by unfold PZ;rw[x];rfl,by unfold XI;rw[x];rfl,S⟩
structure WfS (s:aG):Prop where
 sh:kB s
 chk:mh s.x.1
 whr:mh s.s.1
 cchk:oI 16 s.x.1=Z
 cwhr:oI 16 s.s.1=Z
 row:∀v∈s.y.1,Ap v
 sets:∀x∈s.z.1,mh (x:N pM).2/\oI 16 (x:N pM).2=Z
abbrev B2:zg:=.mk [] (0,0,[]) [] []
theorem Nf:oI 16 B2=Z:=by decide+kernel
theorem zdP(p:Int->Bool):∀s:zD,kS p s=M s↔∀c∈s,p c.toNat=Z
 |[]=>by simp[kS]
 | c::r=>by
  have a:=yG p r;have x:=zdP p r;rw[kS];by_cases h:p c.toNat=Z
  .rw[zf h];simp[h,x]
  .rw[zh h];simp[h]
theorem zua(p:Int->Bool)(s:zD):bn p p s=M s↔∀c∈s,p c.toNat=Z:=by
 cases s with
 |nil=>simp[bn]
 | cons c r=>
  have a:=yG p r;have x:=zdP p r;rw[bn];by_cases h:p c.toNat=Z
  .rw[zf h];simp[h,x]
  .rw[zh h];simp[h]
theorem zbf:∀s:zD,(cond ((M s:Int)==1) (L (0<=Lib.indexByte zgA (List.headD s 0))) J)=
  (cond (s==[40]) Z (cond (s==[41]) Z (cond (s==[44]) Z (cond (s==[61]) Z (cond (s==[60]) Z (cond (s==[43]) Z (cond (s==[45]) Z (s==[42]))))))))
 |[]=>rfl
 | a::b::r=>by
  have e:((((a::b::r).length:Nat):Int)==1)=J:=fH.2 sg;rw[e];simp
 | [c]=>by
  by_cases h:c=40
  .subst h;rfl
  by_cases x:c=41
  .subst x;rfl
  by_cases d:c=44
  .subst d;rfl
  by_cases g:c=61
  .subst g;rfl
  by_cases i:c=60
  .subst i;rfl
  by_cases j:c=43
  .subst j;rfl
  by_cases k:c=45
  .subst k;rfl
  by_cases l:c=42
  .subst l;rfl
  simp[Lib.indexByte,h,x,d,g,i,j,k,l,Ne.symm h,Ne.symm x,Ne.symm d,Ne.symm g,Ne.symm i,Ne.symm j,Ne.symm k,Ne.symm l]
variable {t:ew}
theorem KV(x:M t.2<=1000000):Nu t=Y (e9 t,()):=by
 have⟨k,s⟩:=t;have x:M s<=1000000:=x;by_cases m:k=(1:Int)
 .subst m;refine zG (r:=(.bool (fg s),[])) ?_ ?_
  .simp only[J5,Q9,SO x,XK x];rfl
  .rfl
 by_cases n:k=(2:Int)
 .subst n;have a:(J5 ((2,s):ew)).val=Y (.inl (.h6 ((0:Nat):Int) ((2,s),()))):=rfl;have F:=LN (t:=ut) (Φ:=λr=>r=(.kb J,[])) 1 (λi=>.h6 (i:Int) ((2,s),())) (λi=>aM (W s i 0).toNat=Z) (M s) (by
   intro i a _;have w:(ut (.h6 (i:Int) ((2,s),()))).val=if(!aM (W s i 0).toNat)=Z then Y (.inr (.kb J,[]))else Y (.inl (.h6 ((i+1:Nat):Int) ((2,s),()))):=by
    show(ut (.h6 _ _)).val=_;unfold ut;simp only[Q9,z6 a,zx a,bB,sb,wn,zj];rw[zz i um]
   by_cases h:aM (W s i 0).toNat=Z
   .exact .inl ⟨h,z8.of (by rw[w,zh (by rw[h];simp)])⟩
   .exact .inr ⟨h,_,aF.of (by rw[w,zf (by simpa using h)]),rfl⟩)
  have q:=cO (l:=s) (d:=0) (Q:=λc=>aM c.toNat=Z);have u:=zua aM s;have j:e9 ((2,s):ew)=(cond (L ((M s:Int)>=1)) (cond (L ((M s:Int)<=19)) ((bn aM aM s:Int)==(M s:Int)) J) J):=rfl;rw[j];rcases F with⟨b,g⟩|⟨b,r,g,rfl⟩
  .have e:((bn aM aM s:Int)==(M s:Int))=Z:=by rw[u.2 (q.1 b)];simp
   rw[e];refine zF a (g.ends (aF.of (r:=(.bool (cond (L (1<=(M s:Int))) (L ((M s:Int)<=19)) J),[])) ?_)) S ?_
   .show(ut (.h6 _ _)).val=_;unfold ut;simp only[Q9,aw];rfl
   .show Y _=Y _;rw[show L ((M s:Int)>=1)=L (1<=(M s:Int))from rfl];cases L ((M s:Int)<=19)<;>rfl
  .have e:((bn aM aM s:Int)==(M s:Int))=J:=by
    rw[fH];intro h;exact b (q.2 (u.1 S))
   rw[e];refine zF a g S ?_;show Y _=Y _;cases L ((M s:Int)>=1)<;>cases L ((M s:Int)<=19)<;>rfl
 by_cases y:k=(3:Int)
 .subst y;refine zG (r:=(.bool (aP (2,0,s)),[])) ?_ ?_
  .simp only[J5,Q9,KP (v:=(2,0,s)) x,PX (v:=(2,0,s)) x];rfl
  .rfl
 by_cases z:k=(4:Int)
 .subst z;have G:=zbf s;refine zG (r:=(.bool _,[])) rfl ?_;show Y _=Y _;rw[show e9 ((4,s):ew)=_ from G]
 have A:(k==1)=J:=fH.2 m;have C:(k==2)=J:=fH.2 n;have o:(k==3)=J:=fH.2 y;have p:(k==4)=J:=fH.2 z;have D:((1:Int)==k)=J:=fH.2 (Ne.symm m);have E:((2:Int)==k)=J:=fH.2 (Ne.symm n);have j:e9 ((k,s):ew)=J:=by
  unfold e9;simp[o,p,D,E]
 rw[j];refine zG (r:=(.kb J,[])) ?_ rfl;simp only[J5,Q9,A,C,o,p];rfl
theorem KU(h:M t.2<=1000000):pI t=Z:=by unfold pI;rw[KV h];rfl
theorem P3(h:M t.2<=1000000):xI t=e9 t:=by unfold xI;rw[KV h];rfl
abbrev LW:=eu
abbrev hd3(s:zD)(i:Int)(o:LW):lp:=.h3 s i o
abbrev ztf(s:zD)(i c f:Int)(z:zn [CP.d zW])(o:LW):lp:=.h11 s i c f z o
abbrev ztg(s:zD)(i c f:Int)(z:zn [CP.d zW])(o:LW):lp:=.h15 s i c f z o
abbrev zaf(s:zD)(i:Int)(z:zn [CP.d zW])(o:LW):lp:=.h20 s i z o
abbrev rNo:ac:=(.tup [.nils,.kb J],[])
def aft(s:zD)(j:Nat)(t:ew)(o:LW):lp⊕ac:=if e9 t=Z then .inl (hd3 s (j:Int) (o++[t]))else .inr rNo
theorem uz(s:zD)(h:i<M s):List.take (((i+1:Nat):Int).toNat-(i:Int).toNat) (List.drop (i:Int).toNat s)=[s[i]]:=by rw[bB,bB,show i+1-i=1 by omega,mj h];rfl
theorem v20{s:zD}{a:zD}(G:M s<=1000000)(b:i<M s)(u:M a<=1000000):∀{o:LW},M o<=1000000->(DI (zaf s (i:Int) ((3,a),()) o)).val=Y (
  if s[i]≠39 then .inl (zaf s ((i+1:Nat):Int) ((3,a++[s[i]]),()) o)
  else if s[i+1]?=Y 39 then .inl (zaf s ((i+2:Nat):Int) ((3,a++[39]),()) o)
  else aft s (i+1) (3,a) o):=by
 intro o E;have w:Γ Δ ((i:Int)+1)=((i+1:Nat):Int):=zz i um;have n:Γ Δ (((i+1:Nat):Int)+1)=((i+2:Nat):Int):=zz (i+1) um;have p:(L (0<=(i:Int))&&L ((i:Int)<=((i+1:Nat):Int))&&L (((i+1:Nat):Int)<=(M s:Int)))=Z:=by simp;omega
 have F:L ((M s:Int)<=(i:Int))=J:=aQ S;have C:L ((i:Int)>=(M s:Int))=J:=aQ S;have D:xI ((3,a):bV)=e9 ((3,a):ew):=P3 (t:=((3,a):ew)) u;have k:pI ((3,a):bV)=Z:=KU (t:=((3,a):ew)) u;have q:(M a+[s[i]].length<=1099511627776):=by simp;omega
 by_cases c:s[i]=39
 .have d:((↑s[i].toNat:Int)!=39)=J:=by simp[bne,GK.2 c]
  have g:((↑s[i].toNat:Int)==39)=Z:=GK.2 c;by_cases j:s[i+1]?=Y 39
  .have⟨x,y⟩:=cQ.1 j;have v:((↑s[i+1].toNat:Int)==39)=Z:=GK.2 y;have z:L (((i+1:Nat):Int)<(M s:Int))=Z:=zL S;rw[zh (by simpa using c),zf j];show(DI (.h20 _ _ _ _)).val=_;simp only[DI,w,n,kO s b,uz s b,z6 b,zx b,zx x,z,d,g,v,kO s x,Q9,bU,bT,oT,zj,p,zL q];rw[c]
  .rw[zh (by simpa using c),zh j];have e:(cond (L (((i+1:Nat):Int)<(M s:Int))) ((↑(W s ((i+1:Nat):Int).toNat 0).toNat:Int)==39) J)=J:=by
    by_cases x:i+1<M s
    .rw[zL S,kO s x];simp only[bU];rw[<-g9,GK];intro h;exact j (cQ.2 ⟨x,h⟩)
    .rw[aQ S];rfl
   have A:(cond (L (((i+1:Nat):Int)<(M s:Int))) (zT ((i+1:Nat):Int) (M s)) Z)=Z:=by
    by_cases x:i+1<M s
    .rw[zx x];cases L (((i+1:Nat):Int)<(M s:Int))<;>rfl
    .rw[aQ S];rfl
   unfold aft;have l:(M o+[((3,a):bV)].length<=1073741824):=by have:M o<=1000000:=E;simp;omega
   show(DI (.h20 _ _ _ _)).val=_;simp only[DI,w,n,kO s b,uz s b,z6 b,zx b,d,g,e,A,Q9,bU,bT,oT,zj,zO,zr,C,k,D,zL l];by_cases m:e9 ((3,a):ew)=Z
   .simp[m]
   .simp[m]
 .have d:((↑s[i].toNat:Int)!=39)=Z:=by simp only[bne,wX];rw[<-g9,GK];exact c
  have g:((↑s[i].toNat:Int)==39)=J:=by rw[<-g9,GK];exact c
  rw[zf c];show(DI (.h20 _ _ _ _)).val=_;simp only[DI,w,n,kO s b,uz s b,z6 b,zx b,d,g,Q9,bU,oT,zj,zO,zr,p,zL q]
end Cad
