/- The document's texts of values and expressions. -/
import Derived.Test.YtjdjldbhjmgmkaaGreatDoorN19
namespace Cad
open Go Go.Proofs
open List renaming length->Io,drop->Qh,take->Qg,length->N
open IntKind renaming wrap->Γ,i64->Δ
open Tr renaming val->Q8
open Sh renaming bool->Q7,str->Q6
open Bool renaming false->Q4,true->Q3,true->Z,false->M
open Option renaming none->Q2,some->Y
open Decidable renaming decide->Q0,decide->K
open Int renaming toNat->W
open List renaming getD->T
open Tr (chk br re)
open AV (nils agg tup ptr kb sl)
open AV renaming str->X
open Cad renaming ow->S,zj->Q,Sem->L,ze->R,ai->J
set_option maxHeartbeats 4000000
theorem YI(m:Nat):nT [IntKind.u8.wrap (Γ Δ (48-Γ Δ (Int.tmod (-(m:Int)) 10)))]=[UInt8.ofNat (48+m%10)]:=by
 have e:Int.tmod (-(m:Int)) 10=-((m%10:Nat):Int):=by rw[Int.neg_tmod];rfl
 have b:m%10<10:=Nat.mod_lt _ S;have h:Γ Δ (-((m%10:Nat):Int))=-((m%10:Nat):Int):=by rw[fe];omega
 have x:Γ Δ (48- -((m%10:Nat):Int))=((48+m%10:Nat):Int):=by rw[fe];omega
 have a:IntKind.u8.wrap ((48+m%10:Nat):Int)=((48+m%10:Nat):Int):=by rw[IntKind.wrap_u8];omega
 rw[e,h,x,a];rfl
theorem zeP(m:Nat)(h:m<=9223372036854775808):Γ Δ (Int.tdiv (-(m:Int)) 10)=-((m/10:Nat):Int):=by
 have e:Int.tdiv (-(m:Int)) 10=-((m/10:Nat):Int):=by rw[Int.neg_tdiv];rfl
 have:m/10<=m:=Nat.div_le_self _ _;rw[e,fe];omega
theorem YH:∀(f m:Nat)(s:zN),m<10^f->0<f->m<=9223372036854775808->(0<m\/s=[])->N s+f<=1000->zV Hh (f+1) (.h2 (-(m:Int)) s) (.str (pK f m++s),[])
 |0,_,_,_,h,_,_,_=>by omega
 | f+1,m,s,d,_,i,g,l=>by
  have b:(Hh (.h2 (-(m:Int)) s)).val=Y (.inl (.h2 (-((m/10:Nat):Int)) ([UInt8.ofNat (48+m%10)]++s))):=by
   show(Hh (.h2 _ _)).val=_;have c:(bif K (LT.lt (α:=Int) (-(m:Int)) 0)then Z else s==[])=Z:=by
    rcases g with h|h
    .rw[zC S];rfl
    .subst h;cases K (LT.lt (α:=Int) (-(m:Int)) 0)<;>rfl
   simp only[Hh,Q8,YI m,zeP m i,zi];rw[zf c,zf (zC sg)]
  by_cases x:m<10
  .have e0:m/10=0:=by omega
   have e:m%10=m:=by omega
   rw[e0,e]at b;have a:pK (f+1) m=[UInt8.ofNat (48+m)]:=by rw[pK,zf x]
   rw[a];refine((zG.of b).ends (k:=1) (zV.of ?_)).mono S;show(Hh (.h2 _ _)).val=_;simp[Hh,Q8]
  .have j:0<f:=by
    cases f with
    |zero=>simp at d;omega
    |succ f=>omega
   have:=YH f (m/10) ([UInt8.ofNat (48+m%10)]++s) (by rw[pD]at d;omega) j S (.inl S) sg;have a:pK (f+1) m=pK f (m/10)++[UInt8.ofNat (48+m%10)]:=by rw[pK,zh x]
   rw[a,D4];exact(zG.of b).ends this
theorem Ce{m:Nat}(h:m<=9223372036854775808):tR (-(m:Int))=Y (pK 20 m,()):=by refine zz (s:=.h2 (-(m:Int)) []) rfl (YH 20 m [] S S h (.inr rfl) sw) S ?_;rw[rx];rfl
theorem Et:∀s:zN,(mm s).length<=2*N s
 |[]=>by simp[mm]
 | c::r=>by
  have:=Et r;rw[mm];split<;>simp<;>omega
theorem IB(c:UInt8):∀s:zN,mm (s++[c])=mm s++(ite (c=39) pH [c])
 | []=>by
  show mm [c]=_;rw[mm,mm,mm];split<;>rfl
 | d::r=>by
  have:=IB c r;show mm (d::(r++[c]))=_;rw[mm,mm,this];split<;>rfl
variable {α:Type}{j:Nat}
theorem zjZ{l:List α}(h:j<N l):l.take (j+1)=l.take j++[l[j]]:=by rw[List.take_add_one,aj h];rfl
variable {v:zo}
theorem zoN(k:N v.q<=1000000):zV yH (N v.q*1+1) (.h13 [39] 0 (v,())) (.str ([39]++mm v.q++[39]),[]):=by
 have d:=zG.all (t:=yH) 1 (λi=>.h13 ([39]++mm (v.q.take i)) (i:Int) (v,())) (N v.q) (by
  intro i x;refine zG.of ?_;have a:=Et (v.q.take i);have c:(mm (v.q.take i)).length<=2000000:=by simp at a;omega
  have w:Γ Δ ((i:Int)+1)=((i+1:Nat):Int):=zt i um;have g:(K (0<=(i:Int))&&K ((i:Int)<=((i+1:Nat):Int))&&K (((i+1:Nat):Int)<=(N v.q:Int)))=Z:=by simp;omega
  have e:Qg (((i+1:Nat):Int).toNat-(i:Int).toNat) (Qh (i:Int).toNat v.q)=[v.q[i]]:=by
   rw[aI,aI,show i+1-i=1 by omega,gF x];rfl
  show(yH (.h13 _ _ _)).val=_;simp only[yH,Q8,w,g,e,zM x,zu x,zi,iz v.q x];rw[zjZ x,IB,zf (zC sg)];by_cases h:v.q[i]=39
  .rw[zf (uF.2 h),zf h,zf (zC sg),h];simp
  .rw[zh (λb=>h (uF.1 b)),zh h];simp)
 have a:=Et v.q;have j:(yH (.h13 ([39]++mm (v.q.take (N v.q))) (N v.q:Int) (v,()))).val=Y (.inr (.str ([39]++mm v.q++[39]),[])):=by
  show(yH (.h13 _ _ _)).val=_;simp only[yH,Q8,zJ,eF];simp;omega
 have:=d.ends (zV.of j);rw[kY]at this;exact this
theorem zgj(x:bg v=Z)(j:v.1≠(0:Int))(l:v.1≠(1:Int))(m:v.1≠(2:Int)):(v.1==3)=Z/\((eR v==2)=(v.2.1==1)):=by
 have e:(v.1==0)=M:=dM.2 j;have g:(v.1==1)=M:=dM.2 l;have i:(v.1==2)=M:=dM.2 m;have c:=x;unfold bg at x;rw[e,g,i]at x;simp only[zA,zm]at x;cases b:(v.1==3)
 .rw[b]at x;simp at x
 .rw[b]at x;refine⟨rfl,?_⟩;have a:v.2.1=(0:Int)\/v.2.1=(1:Int):=by
   simp at x;by_cases k:v.2.1=(0:Int)
   .exact .inl k
   .by_cases d:v.2.1=(1:Int)
    .exact .inr d
    .simp[k,d]at x
  unfold eR;rw[show(v.1!=3)=M by simp[bne,b],c];rcases a with h|h<;>rw[h]<;>rfl
theorem JX(E:kX v):Dc v=Y (jd v,()):=by
 have⟨C,B,a⟩:=E;have h:=mH (v:=v) a;have e:=qi (v:=v) a;by_cases g:bg v=Z
 .have c:(!bg v)=M:=by rw[g];rfl
  by_cases n:v.1=(0:Int)
  .have d:(v.1==0)=Z:=bX.2 n;refine zQ (r:=(.str HH,[])) ?_ ?_
   .simp only[B5,Q8,h,e,c,d,zi];rfl
   .unfold jd;rw[n,g];rfl
  have d:(v.1==0)=M:=dM.2 n;by_cases u:v.1=(1:Int)
  .have b:(v.1==1)=Z:=bX.2 u;have l:jd v=uY v.2.1:=by
    unfold jd;rw[c,zh sw,zf b]
   rw[l];unfold uY;by_cases x:LT.lt (α:=Int) v.2.1 0
   .have k:=Ce (m:=v.2.1.natAbs) S;rw[show -((v.2.1.natAbs:Nat):Int)=v.2.1 by omega]at k;have o:lX v.2.1=Z:=by unfold lX;rw[k];rfl
    have p:mL v.2.1=pK 20 v.2.1.natAbs:=by unfold mL;rw[k];rfl
    have z:=Es 20 v.2.1.natAbs;rw[zf x];refine zQ (r:=(.str ([45]++pK 20 v.2.1.natAbs),[])) ?_ rfl;simp only[B5,Q8,h,e,c,d,b,zC x,o,p,zi];rw[zh sw,zh sw,zf (zC sg)]
   .have k:=Ce (m:=v.2.1.natAbs) S;have F:Γ Δ (0-v.2.1)=-((v.2.1.natAbs:Nat):Int):=by rw[fe];omega
    have o:lX (-((v.2.1.natAbs:Nat):Int))=Z:=by unfold lX;rw[k];rfl
    have p:mL (-((v.2.1.natAbs:Nat):Int))=pK 20 v.2.1.natAbs:=by unfold mL;rw[k];rfl
    rw[zh x];refine zQ (r:=(.str (pK 20 v.2.1.natAbs),[])) ?_ rfl;simp only[B5,Q8,h,e,c,d,b,aC x,F,o,p,zi];rw[zh sw,zh sw,zh sw]
  have b:(v.1==1)=M:=dM.2 u;by_cases w:v.1=(2:Int)
  .have i:(v.1==2)=Z:=bX.2 w;have l:jd v=[39]++mm v.q++[39]:=by
    unfold jd;rw[c,zh sw,zh (by rw[b];simp),zf i,GN]
   rw[l];have A:zV yH (N v.q*1+1) (.h13 [39] 0 (v,())) (.str ([39]++mm v.q++[39]),[]):=zoN (v:=v) a;refine zz (s:=.h13 [39] 0 (v,())) ?_ A S rfl;simp only[B5,Q8,h,e,c,d,b,i,zi];rfl
  .have i:(v.1==2)=M:=dM.2 w;have⟨y,D⟩:=zgj g n u w;have l:jd v=if(v.2.1==1)=Z then KL else KK:=by
    unfold jd;rw[c,zh sw,zh (by rw[b];simp),zh (by rw[i];simp),zf y,D]
   rw[l];by_cases j:(v.2.1==1)=Z
   .rw[zf j];refine zQ (r:=(.str KL,[])) ?_ rfl;simp only[B5,Q8,h,e,c,d,b,i,j,zi];rfl
   .rw[zh j];refine zQ (r:=(.str KK,[])) ?_ rfl;have j:(v.2.1==1)=M:=by simpa using j
    simp only[B5,Q8,h,e,c,d,b,i,j,zi];rfl
 .have g:bg v=M:=by simpa using g
  refine zQ (r:=(.str [],[])) ?_ ?_
  .simp only[B5,Q8,h,e,g,zi];rfl
  .unfold jd;rw[g];rfl
theorem JW(h:kX v):lJ v=Z:=by unfold lJ;rw[JX h];rfl
theorem Pr(h:kX v):qk v=jd v:=by unfold qk;rw[JX h];rfl
theorem tX:∀(i d x:Nat)(e:zg),d<=12->d<=i->d<=x->cZ d e=Z->vB e->dr i e=Y (bn x e,())/\(bn x e).length<=400*nE d e
 |_,0,_,_,_,_,_,h,_=>by cases h
 |0,d+1,_,_,_,h,_,_,_=>zB h S
 |_,d+1,0,_,_,_,h,_,_=>zB h S
 | i+1,d+1,x+1,e,h0,h1,h2,h,o=>by
  rw[dr];unfold UI;cases gK h with
  | lit v hv=>
   rw[vB]at o;have k:bn (x+1) (.mk pI v [] [])=jd v:=rfl;have P:=Bw v;rw[k];refine⟨zQ (r:=(.str (jd v),[])) ?_ rfl,by simp[nE];omega⟩;have j:(rT (λl=>jv (dr i l)) (λl=>(dr i l).isSome) (.mk pI v [] [])).val=if lJ v=Z then Y (.inr (.str (qk v),[]))else Q2:=rfl
   rw[j,JW o.1,Pr o.1];rfl
  | col s U hr=>
   have P:=Kr U;have k:bn (x+1) (.mk fh (0,0,[]) s [])=s:=rfl;rw[k];exact⟨zQ (r:=(.str s,[])) rfl rfl,by simp[nE];omega⟩
  | one p a D z=>
   rw[vB,lB]at o;obtain⟨A,la⟩:=tX i d x a S S S z o.q.1;have E:=ve d a z;have p1:2^d<=2^12:=Il S S;have F:nE (d+1) (.mk p (0,0,[]) [] [a])=1+nE d a:=by simp[nE]
   rw[F];generalize C:(λl=>jv (dr i l))=g;generalize B:(λl=>(dr i l).isSome)=c;have n:g a=bn x a:=by rw[<-C];show jv (dr i a)=_;rw[A];rfl
   have m:c a=Z:=by rw[<-B];show(dr i a).isSome=_;rw[A];rfl
   rcases D with rfl|rfl
   .have k:bn (x+1) (.mk oH (0,0,[]) [] [a])=wQ++bn x a++[41]:=rfl;rw[k];refine⟨zQ (r:=(.str (wQ++bn x a++[41]),[])) ?_ rfl,sg⟩;have j:(rT g c (.mk oH (0,0,[]) [] [a])).val=if c (zw a)=Z then(ite (K (N wQ+N (g (zw a))<=1099511627776)=Z) (ite (K ((wQ++g (zw a)).length+[41].length<=1099511627776)=Z) (Y (.inr (.str (wQ++g (zw a)++[41]),[]))) Q2) Q2)else Q2:=rfl
    rw[j,zn,m,n,zf rfl,zf (zC sg),zf (zC sg)]
   .have k:bn (x+1) (.mk qM (0,0,[]) [] [a])=[40]++bn x a++Ed:=rfl;rw[k];refine⟨zQ (r:=(.str ([40]++bn x a++Ed),[])) ?_ rfl,sg⟩;have j:(rT g c (.mk qM (0,0,[]) [] [a])).val=if c (zw a)=Z then(ite (K ([40].length+N (g (zw a))<=1099511627776)=Z) (ite (K (([40]++g (zw a)).length+N Ed<=1099511627776)=Z) (Y (.inr (.str ([40]++g (zw a)++Ed),[]))) Q2) Q2)else Q2:=rfl
    rw[j,zn,m,n,zf rfl,zf (zC sg),zf (zC sg)]
  | two p a b D z E=>
   rw[vB,lB,lB]at o;obtain⟨A,la⟩:=tX i d x a S S S z o.q.1;obtain⟨kb,lb⟩:=tX i d x b S S S E o.r.1;have G:=ve d a z;have H:=ve d b E;have p1:2^d<=2^12:=Il S S;have F:nE (d+1) (.mk p (0,0,[]) [] [a,b])=1+(nE d a+nE d b):=by simp[nE]
   rw[F];generalize C:(λl=>jv (dr i l))=g;generalize B:(λl=>(dr i l).isSome)=c;have n:g a=bn x a:=by rw[<-C];show jv (dr i a)=_;rw[A];rfl
   have m:c a=Z:=by rw[<-B];show(dr i a).isSome=_;rw[A];rfl
   have y:g b=bn x b:=by rw[<-C];show jv (dr i b)=_;rw[kb];rfl
   have u:c b=Z:=by rw[<-B];show(dr i b).isSome=_;rw[kb];rfl
   have k:∀w:zN,Lib.toUpperA p=w->vM (bn x) (iG x) (.mk p (0,0,[]) [] [a,b])=[40]++bn x a++[32]++w++[32]++bn x b++[41]:=by
    rintro w rfl;rcases D with rfl|rfl|rfl|rfl|rfl|rfl<;>rfl
   have hx:bn (x+1) (.mk p (0,0,[]) [] [a,b])=vM (bn x) (iG x) (.mk p (0,0,[]) [] [a,b]):=rfl;rw[hx];rcases D with rfl|rfl|rfl|rfl|rfl|rfl
   .rw[k Yp rfl];refine⟨zQ (r:=(.str ([40]++bn x a++QT++bn x b++[41]),[])) ?_ (by simp[aX];rfl),sg⟩;have j:(rT g c (.mk jf (0,0,[]) [] [a,b])).val=if c (zw a)=Z then(ite (K ([40].length+N (g (zw a))<=1099511627776)=Z) (ite (K (([40]++g (zw a)).length+N QT<=1099511627776)=Z) (ite (c (zw b)=Z) (ite (K (([40]++g (zw a)++QT).length+N (g (zw b))<=1099511627776)=Z) (ite (K (([40]++g (zw a)++QT++g (zw b)).length+[41].length<=1099511627776)=Z) (Y (.inr (.str ([40]++g (zw a)++QT++g (zw b)++[41]),[]))) Q2) Q2) Q2) Q2) Q2)else Q2:=rfl
    rw[j,zn,zn,m,u,n,y,zf rfl,zf (zC sg),zf (zC sg),zf rfl,zf (zC sg),zf (zC sg)]
   .rw[k [79,82] rfl];refine⟨zQ (r:=(.str ([40]++bn x a++QU++bn x b++[41]),[])) ?_ (by simp[aX];rfl),sg⟩;have j:(rT g c (.mk wS (0,0,[]) [] [a,b])).val=if c (zw a)=Z then(ite (K ([40].length+N (g (zw a))<=1099511627776)=Z) (ite (K (([40]++g (zw a)).length+N QU<=1099511627776)=Z) (ite (c (zw b)=Z) (ite (K (([40]++g (zw a)++QU).length+N (g (zw b))<=1099511627776)=Z) (ite (K (([40]++g (zw a)++QU++g (zw b)).length+[41].length<=1099511627776)=Z) (Y (.inr (.str ([40]++g (zw a)++QU++g (zw b)++[41]),[]))) Q2) Q2) Q2) Q2) Q2)else Q2:=rfl
    rw[j,zn,zn,m,u,n,y,zf rfl,zf (zC sg),zf (zC sg),zf rfl,zf (zC sg),zf (zC sg)]
   .rw[k [61] rfl];refine⟨zQ (r:=(.str ([40]++bn x a++[32]++[61]++[32]++bn x b++[41]),[])) ?_ rfl,sg⟩;have j:(rT g c (.mk [61] (0,0,[]) [] [a,b])).val=if c (zw a)=Z then(ite (K ([40].length+N (g (zw a))<=1099511627776)=Z) (ite (K (([40]++g (zw a)).length+[32].length<=1099511627776)=Z) (ite (K (([40]++g (zw a)++[32]).length+N [61]<=1099511627776)=Z) (ite (K (([40]++g (zw a)++[32]++[61]).length+[32].length<=1099511627776)=Z) (ite (c (zw b)=Z) (ite (K (([40]++g (zw a)++[32]++[61]++[32]).length+N (g (zw b))<=1099511627776)=Z) (ite (K (([40]++g (zw a)++[32]++[61]++[32]++g (zw b)).length+[41].length<=1099511627776)=Z) (Y (.inr (.str ([40]++g (zw a)++[32]++[61]++[32]++g (zw b)++[41]),[]))) Q2) Q2) Q2) Q2) Q2) Q2) Q2)else Q2:=rfl
    rw[j,zn,zn,m,u,n,y,zf rfl,zf (zC sg),zf (zC sg),zf (zC sg),zf (zC sg),zf rfl,zf (zC sg),zf (zC sg)]
   .rw[k [60] rfl];refine⟨zQ (r:=(.str ([40]++bn x a++[32]++[60]++[32]++bn x b++[41]),[])) ?_ rfl,sg⟩;have j:(rT g c (.mk [60] (0,0,[]) [] [a,b])).val=if c (zw a)=Z then(ite (K ([40].length+N (g (zw a))<=1099511627776)=Z) (ite (K (([40]++g (zw a)).length+[32].length<=1099511627776)=Z) (ite (K (([40]++g (zw a)++[32]).length+N [60]<=1099511627776)=Z) (ite (K (([40]++g (zw a)++[32]++[60]).length+[32].length<=1099511627776)=Z) (ite (c (zw b)=Z) (ite (K (([40]++g (zw a)++[32]++[60]++[32]).length+N (g (zw b))<=1099511627776)=Z) (ite (K (([40]++g (zw a)++[32]++[60]++[32]++g (zw b)).length+[41].length<=1099511627776)=Z) (Y (.inr (.str ([40]++g (zw a)++[32]++[60]++[32]++g (zw b)++[41]),[]))) Q2) Q2) Q2) Q2) Q2) Q2) Q2)else Q2:=rfl
    rw[j,zn,zn,m,u,n,y,zf rfl,zf (zC sg),zf (zC sg),zf (zC sg),zf (zC sg),zf rfl,zf (zC sg),zf (zC sg)]
   .rw[k [43] rfl];refine⟨zQ (r:=(.str ([40]++bn x a++[32]++[43]++[32]++bn x b++[41]),[])) ?_ rfl,sg⟩;have j:(rT g c (.mk [43] (0,0,[]) [] [a,b])).val=if c (zw a)=Z then(ite (K ([40].length+N (g (zw a))<=1099511627776)=Z) (ite (K (([40]++g (zw a)).length+[32].length<=1099511627776)=Z) (ite (K (([40]++g (zw a)++[32]).length+N [43]<=1099511627776)=Z) (ite (K (([40]++g (zw a)++[32]++[43]).length+[32].length<=1099511627776)=Z) (ite (c (zw b)=Z) (ite (K (([40]++g (zw a)++[32]++[43]++[32]).length+N (g (zw b))<=1099511627776)=Z) (ite (K (([40]++g (zw a)++[32]++[43]++[32]++g (zw b)).length+[41].length<=1099511627776)=Z) (Y (.inr (.str ([40]++g (zw a)++[32]++[43]++[32]++g (zw b)++[41]),[]))) Q2) Q2) Q2) Q2) Q2) Q2) Q2)else Q2:=rfl
    rw[j,zn,zn,m,u,n,y,zf rfl,zf (zC sg),zf (zC sg),zf (zC sg),zf (zC sg),zf rfl,zf (zC sg),zf (zC sg)]
   .rw[k [45] rfl];refine⟨zQ (r:=(.str ([40]++bn x a++[32]++[45]++[32]++bn x b++[41]),[])) ?_ rfl,sg⟩;have j:(rT g c (.mk [45] (0,0,[]) [] [a,b])).val=if c (zw a)=Z then(ite (K ([40].length+N (g (zw a))<=1099511627776)=Z) (ite (K (([40]++g (zw a)).length+[32].length<=1099511627776)=Z) (ite (K (([40]++g (zw a)++[32]).length+N [45]<=1099511627776)=Z) (ite (K (([40]++g (zw a)++[32]++[45]).length+[32].length<=1099511627776)=Z) (ite (c (zw b)=Z) (ite (K (([40]++g (zw a)++[32]++[45]++[32]).length+N (g (zw b))<=1099511627776)=Z) (ite (K (([40]++g (zw a)++[32]++[45]++[32]++g (zw b)).length+[41].length<=1099511627776)=Z) (Y (.inr (.str ([40]++g (zw a)++[32]++[45]++[32]++g (zw b)++[41]),[]))) Q2) Q2) Q2) Q2) Q2) Q2) Q2)else Q2:=rfl
    rw[j,zn,zn,m,u,n,y,zf rfl,zf (zC sg),zf (zC sg),zf (zC sg),zf (zC sg),zf rfl,zf (zC sg),zf (zC sg)]
section
variable {σ:Type} {t:σ->Tr (σ⊕ay)}
abbrev J8:ay:=(.kb M,[])
theorem Rx{α:Type}{la lb:List α}(s:Nat->σ)(d:N la=N lb)(g:∀i(j:i<N la)(c:i<N lb),(la[i]=lb[i]->(t (s i)).val=Y (.inl (s (i+1))))/\(la[i]≠lb[i]->(t (s i)).val=Y (.inr J8))):
  (la=lb/\zG t (N la) (s 0) (s (N la)))\/(la≠lb/\zV t (N la) (s 0) J8):=by
 rcases nP (t:=t) (Φ:=λr=>r=J8) 1 s (λi=>la[i]?=lb[i]?) (N la) (λi b _=>by
  have c:i<N lb:=by omega
  have⟨a,x⟩:=g i b c;rw[aj b,aj c];by_cases h:la[i]=lb[i]
  .exact .inl ⟨by rw[h],zG.of (a h)⟩
  .exact .inr ⟨λe=>h (Option.some.inj e),J8,zV.of (x h),rfl⟩)with⟨a,x⟩|⟨a,r,x,rfl⟩
 .rw[Nat.mul_one]at x;refine .inl ⟨oB λi=>?_,x⟩;by_cases b:i<N la
  .exact a i b
  .rw[fa S,fa S]
 .rw[Nat.mul_one]at x;exact .inr ⟨λh=>a λi _=>by rw[h],x⟩
end
theorem kl{a b:List α}:((N a:Int)!=(N b:Int))=Z↔N a≠N b:=by simp[bne];omega
theorem Gm:∀(x:Nat)(a b:zg),ot x a=Z->∃r,cH x a b=Y (r,())/\(r=Z↔a=b)
 |0,_,_,h=>by cases h
 | x + 1,.mk j v s l,.mk o g m k,h=>by
  rw[ot]at h;simp only[aO,bc,ep]at h;have⟨hl,P⟩:=h;rw[cH];unfold LQ
  have B:(HR (λd e=>iK (cH x d e)) (λd e=>(cH x d e).isSome) (.mk j v s l) (.mk o g m k)).val=Y (.inr J8)->¬(zg.mk j v s l=zg.mk o g m k)->
    ∃r,am [Q7] (Qm (λd e=>iK (cH x d e)) (λd e=>(cH x d e).isSome)) 3000000000 (HR (λd e=>iK (cH x d e)) (λd e=>(cH x d e).isSome) (.mk j v s l) (.mk o g m k))=Y (r,())/\(r=Z↔zg.mk j v s l=zg.mk o g m k):=by
   intro w F;exact⟨M,zQ w rfl,by simp[F]⟩
  have p:∀c:Bool,(cond (!j==o) Z (cond (!(v.1==g.1&&(v.2.1==g.2.1&&(v.q==g.q&&Z)))) Z (cond (!s==m) Z ((N l:Int)!=(N k:Int)))))=c->
    (HR (λd e=>iK (cH x d e)) (λd e=>(cH x d e).isSome) (.mk j v s l) (.mk o g m k)).val=if c=Z then Y (.inr J8)else Y (.inl (.h4 ((0:Nat):Int) (.mk j v s l,()) (.mk o g m k,()))):=by
   rintro c rfl;rfl
  by_cases C:j=o;rotate_left
  .exact B (by rw[p Z (by rw[dM.2 C];rfl)];rfl) (λh=>C (by injection h))
  by_cases D:v=g;rotate_left
  .refine B ?_ (λh=>D (by injection h));rw[p Z ?_]
   .rfl
   .have:(v.1==g.1&&(v.2.1==g.2.1&&(v.q==g.q&&Z)))=M:=by
     rw[<-iW];intro h;simp at h;exact D (Prod.ext h.1 (Prod.ext h.2.1 h.q))
    rw[this];cases(j==o)<;>rfl
  by_cases E:s=m;rotate_left
  .refine B ?_ (λh=>E (by injection h));rw[p Z ?_]
   .rfl
   .rw[dM.2 E];cases(j==o)<;>cases(v.1==g.1&&(v.2.1==g.2.1&&(v.q==g.q&&Z)))<;>rfl
  by_cases z:N l=N k;rotate_left
  .refine B ?_ (λh=>z (by injection h with _ _ _ h;rw[h]));rw[p Z ?_]
   .rfl
   .rw[kl.2 z];cases(j==o)<;>cases(v.1==g.1&&(v.2.1==g.2.1&&(v.q==g.q&&Z)))<;>cases(s==m)<;>rfl
  subst C;subst D;subst E;have w:=p M (by
   have:((N l:Int)!=(N k:Int))=M:=by rw[<-iW,kl];exact λh=>h z
   rw[this];simp)
  rw[zh sw]at w
  rcases Rx (t:=Qm (λd e=>iK (cH x d e)) (λd e=>(cH x d e).isSome)) (la:=l) (lb:=k) (λi=>.h4 (i:Int) (.mk j v s l,()) (.mk j v s k,())) z (by
   intro i A u;have⟨r,U,n⟩:=Gm x l[i] k[i] (P _ (bh A));have G:T l (i:Int).toNat (Q Sh.expr)=l[i]:=zP _ _ A;have H:T k (i:Int).toNat (Q Sh.expr)=k[i]:=zP _ _ u;have y:(Qm (λd e=>iK (cH x d e)) (λd e=>(cH x d e).isSome) (.h4 (i:Int) (.mk j v s l,()) (.mk j v s k,()))).val=if(!r)=Z then Y (.inr J8)else Y (.inl (.h4 ((i+1:Nat):Int) (.mk j v s l,()) (.mk j v s k,()))):=by
    simp only[Qm,MW,DK,Q8,zg.l,zn,G,H,zu A,zu u,U,dz,zi];rw[zt i um];show(ite (K ((i:Int)<(N l:Int))=Z) _ _)=_;rw[zf (zC S)];rfl
   rw[y];refine⟨λh=>?_,λh=>?_⟩
   .rw[zh (by rw[n.2 h];simp)]
   .rw[zf];cases r
    .rfl
    .exact zB (n.1 rfl) h)with⟨h1,h2⟩|⟨h1,h2⟩
  .subst h1;refine⟨Z,zz w (h2.ends (zV.of (r:=(.kb Z,[])) ?_)) S rfl,sw⟩;simp only[Qm,MW,DK,Q8,zg.l];exact zh sw
  .exact⟨M,zz w h2 S rfl,by simp[h1]⟩
theorem pe{a b:zg}(h:ot 16 a=Z):gW a b=Z/\(fH a b=Z↔a=b):=by
 have⟨r,x,c⟩:=Gm 16 a b h;have x:Dg a b=Y (r,()):=x;refine⟨by unfold gW;rw[x];rfl,?_⟩;have:fH a b=r:=by unfold fH;rw[x];rfl
 rw[this];exact c
section
variable {σ:Type} {t:σ->Tr (σ⊕ay)}
def XL(t:σ->Tr (σ⊕ay))(K:Nat)(n:σ⊕ay)(r:ay):Prop:=match n with
 |.inl h=>zV t K h r
 |.inr x=>x=r
theorem nB{α:Type}{la lb:List α}(s:Int->σ)(n:σ⊕ay)(e:Nat->Bool)(x:∀i:Nat,i<=N la->(t (s i)).val=if Q0 (LT.lt (α:=Int) (i:Int) (N la:Int))=Z then(ite (zK (i:Int) (N la)=Z) (ite (zK (i:Int) (N lb)=Z) (ite ((!e i)=Z) (Y (.inr J8)) (Y (.inl (s (Γ Δ ((i:Int)+1)))))) Q2) Q2)else Y n)
  (l:∀i(_:i<N la)(d:i<N la)(j:i<N lb),e i=Z↔la[i]=lb[i]) (b:N la=N lb) (o:N la<=1000000):
  (la=lb/\∀K r,XL t K n r->zV t (K+N la+1) (s 0) r)\/(la≠lb/\zV t (N la) (s 0) J8):=by
 rcases Rx (t:=t) (la:=la) (lb:=lb) (λi=>s (i:Int)) b (λi d j=>by
  have a:=x i S;rw[zf (zC S),zf (zu d),zf (zu j),zt i um]at a;have:=l i d d j;refine⟨λh=>?_,λh=>?_⟩
  .rw[a,zh (by rw[this.2 h];simp)]
  .rw[a,zf];cases m:e i
   .rfl
   .exact zB (this.1 m) h)with⟨g,c⟩|⟨g,c⟩
 .refine .inl ⟨g,λK r k=>?_⟩;have a:=x (N la) (zR _);rw[zh sw]at a;unfold XL at k;cases n with
  |inl h=>exact(c.ends ((zG.of a).ends k)).mono S
  |inr p=>cases k;exact(c.ends (zV.of a)).mono S
 .exact .inr ⟨g,c⟩
end
theorem Yx(a b:cK):(a.1==b.1&&(a.2.1==b.2.1&&(a.q==b.q&&Z)))=Z↔a=b:=by simp[Prod.ext_iff]
theorem zwv(a b:L jM):(a.1==b.1&&(a.2==b.2&&Z))=Z↔a=b:=by simp[Prod.ext_iff]
theorem zmS(a b:cC):(a.1==b.1&&(a.2==b.2&&Z))=Z↔a=b:=by simp[Prod.ext_iff]
theorem zpd(a b:zo):(a.1==b.1&&(a.2.1==b.2.1&&(a.q==b.q&&Z)))=Z↔a=b:=by simp[Prod.ext_iff]
theorem orF{x y:Bool}(h:(cond x Z y)=M):x=M/\y=M:=by
 cases x
 .exact⟨rfl,h⟩
 .cases h
theorem zaH[BEq α][LawfulBEq α]{a b:α}(h:(!a==b)=M):a=b:=by
 cases x:(a==b)
 .rw[x]at h;cases h
 .simpa using x
theorem WW{a b:List α}(h:((N a:Int)!=(N b:Int))=M):N a=N b:=by simp[bne]at h;omega
structure DN (a:zS):Prop where
 names:N a.r.1<=1000
 cols:N a.t.1<=1000
 uniques:N a.v.1<=1000
 refs:N a.w.1<=1000
 row:N a.y.1<=1000
 sets:N a.z.1<=1000
 chk:ot 16 a.x.1=Z
 whr:ot 16 a.s.1=Z
 ex:∀x∈a.z.1,ot 16 (x:L jb).2=Z
variable {s b:zS}
theorem Sr(h:DN s):∃r,ug s b=Y (r,())/\(r=Z↔s=b):=by
 have⟨a1,a2,a3,a4,P,a6,a7,a8,a9,j,e,D,E⟩:=s;have⟨b1,b2,b3,b4,b5,b6,b7,b8,b9,o,g,F,G⟩:=b;have⟨h4,h5,h7,h8,x2,x3,h9,x7,hx⟩:=h;have h4:N a4<=1000:=h4;have h5:N P<=1000:=h5;have h7:N a7<=1000:=h7;have h8:N a8<=1000:=h8;have x2:N j<=1000:=x2;have x3:N e<=1000:=x3;have hx:∀x∈e,ot 16 (x:L jb).2=Z:=hx;have⟨s1,s2⟩:=pe (b:=b9) (show ot 16 a9=Z from h9);have⟨u1,u2⟩:=pe (b:=F) (show ot 16 D=Z from x7);generalize l:((a1,a2,a3,a4,P,a6,a7,a8,a9,j,e,D,E):zS)=A;generalize m:((b1,b2,b3,b4,b5,b6,b7,b8,b9,o,g,F,G):zS)=B;have x8:∀r:ay,∀{k a},(zfr A B).val=Y (.inl a)->A≠B->zV wA k a J8->k<=100000000->∃r,ug A B=Y (r,())/\(r=Z↔A=B):=by
  intro _ k a h1 h h2 h3;exact⟨M,zz h1 h2 h3 rfl,by simp[h]⟩
 have hv:∀c d:Bool,(cond (!a1==b1) Z (cond (!a2==b2) Z (cond (!a3==b3) Z (cond (!a6==b6) Z (cond (!E==G) Z (cond (!fH a9 b9) Z (!fH D F)))))))=c->
   (cond ((N a4:Int)!=(N b4:Int)) Z (cond ((N P:Int)!=(N b5:Int)) Z (cond ((N a7:Int)!=(N b7:Int)) Z (cond ((N a8:Int)!=(N b8:Int)) Z (cond ((N j:Int)!=(N o:Int)) Z ((N e:Int)!=(N g:Int)))))))=d->
   (zfr A B).val=if c=Z then Y (.inr J8)else if d=Z then Y (.inr J8)else Y (.inl (.h6 0 (A,()) (B,()))):=by
  rintro c d rfl rfl;subst l;subst m;have hg:∀x:Bool,(cond (!a1==b1) Z (cond (!a2==b2) Z (cond (!a3==b3) Z (cond (!a6==b6) Z (cond (!E==G) Z (gW a9 b9&&bif x then Z else gW D F))))))=Z:=by
   intro x;rw[s1,u1];cases(!a1==b1)<;>cases(!a2==b2)<;>cases(!a3==b3)<;>cases(!a6==b6)<;>cases(!E==G)<;>cases x<;>rfl
  simp only[zfr,Q8,zn];rw[zf (hg _)]
 cases n:(cond (!a1==b1) Z (cond (!a2==b2) Z (cond (!a3==b3) Z (cond (!a6==b6) Z (cond (!E==G) Z (cond (!fH a9 b9) Z (!fH D F)))))));rotate_left
 .refine⟨M,zQ (r:=J8) (by rw[hv Z _ n rfl];rfl) rfl,?_⟩;constructor
  .intro h;cases h
  .intro h;rw[<-l,<-m]at h;simp only[cQ]at h;obtain⟨rfl,rfl,rfl,rfl,rfl,rfl,rfl,rfl,rfl,rfl,rfl,rfl,rfl⟩:=h;have k1:=s2.2 rfl;have k2:=u2.2 rfl;rw[k1,k2]at n;simp at n
 cases C:(cond ((N a4:Int)!=(N b4:Int)) Z (cond ((N P:Int)!=(N b5:Int)) Z (cond ((N a7:Int)!=(N b7:Int)) Z (cond ((N a8:Int)!=(N b8:Int)) Z (cond ((N j:Int)!=(N o:Int)) Z ((N e:Int)!=(N g:Int)))))));rotate_left
 .refine⟨M,zQ (r:=J8) (by rw[hv M Z n C];rfl) rfl,?_⟩;constructor
  .intro h;cases h
  .intro h;rw[<-l,<-m]at h;simp only[cQ]at h;obtain⟨rfl,rfl,rfl,rfl,rfl,rfl,rfl,rfl,rfl,rfl,rfl,rfl,rfl⟩:=h;simp at C
 have hi:=hv M M n C;rw[zh sw,zh sw]at hi;have⟨m1,n⟩:=orF n;have⟨m2,n⟩:=orF n;have⟨m3,n⟩:=orF n;have⟨m6,n⟩:=orF n;have⟨i0,n⟩:=orF n;have⟨m9,a0⟩:=orF n;have⟨n4,C⟩:=orF C;have⟨n5,C⟩:=orF C;have⟨n7,C⟩:=orF C;have⟨n8,C⟩:=orF C;have⟨i1,i2⟩:=orF C;have e1:=zaH m1;have e2:=zaH m2;have e3:=zaH m3;have e6:=zaH m6;have x6:=zaH i0;have e9:=s2.1 (by simpa using m9);have x5:=u2.1 (by simpa using a0);subst e1;subst e2;subst e3;subst e6;subst x6;subst e9;subst x5;have no:∀{k},A≠B->zV wA k (.h6 0 (A,()) (B,())) J8->k<=100000000->∃r,ug A B=Y (r,())/\(r=Z↔A=B):=λh1 h2 h3=>x8 J8 hi h1 h2 h3
 rcases nB (t:=wA) (la:=a4) (lb:=b4) (λi=>.h6 i (A,()) (B,())) (.inl (.h11 0 (A,()) (B,()))) (λi=>T a4 (i:Int).toNat (Q Q6)==T b4 (i:Int).toNat (Q Q6)) (λ_ _=>by subst l;subst m;rfl) (λi _ p u=>by rw[bX,zP _ _ p,zP _ _ u]) (WW n4) S with⟨q4,k4⟩|⟨q4,k4⟩;rotate_left
 .exact no (λh=>q4 (by rw[<-l,<-m]at h;simp only[cQ]at h;exact h.r.1)) k4 S
 rcases nB (t:=wA) (la:=P) (lb:=b5) (λi=>.h11 i (A,()) (B,())) (.inl (.h16 0 (A,()) (B,()))) (λi=>((T P (i:Int).toNat (Q zp)).1==(T b5 (i:Int).toNat (Q zp)).1&&((T P (i:Int).toNat (Q zp)).2.1==(T b5 (i:Int).toNat (Q zp)).2.1&&((T P (i:Int).toNat (Q zp)).q==(T b5 (i:Int).toNat (Q zp)).q&&Z)))) (λ_ _=>by subst l;subst m;rfl) (λi _ p u=>by rw[Yx,zP _ _ p,zP _ _ u]) (WW n5) S with⟨q5,k5⟩|⟨q5,k5⟩;rotate_left
 .exact no (λh=>q5 (by rw[<-l,<-m]at h;simp only[cQ]at h;exact h.t.1)) (k4 _ _ k5) S
 rcases nB (t:=wA) (la:=a7) (lb:=b7) (λi=>.h16 i (A,()) (B,())) (.inl (.h21 0 (A,()) (B,()))) (λi=>T a7 (i:Int).toNat (Q Q6)==T b7 (i:Int).toNat (Q Q6)) (λ_ _=>by subst l;subst m;rfl) (λi _ p u=>by rw[bX,zP _ _ p,zP _ _ u]) (WW n7) S with⟨q7,k7⟩|⟨q7,k7⟩;rotate_left
 .exact no (λh=>q7 (by rw[<-l,<-m]at h;simp only[cQ]at h;exact h.v.1)) (k4 _ _ (k5 _ _ k7)) S
 rcases nB (t:=wA) (la:=a8) (lb:=b8) (λi=>.h21 i (A,()) (B,())) (.inl (.h26 0 (A,()) (B,()))) (λi=>((T a8 (i:Int).toNat (Q jM)).1==(T b8 (i:Int).toNat (Q jM)).1&&((T a8 (i:Int).toNat (Q jM)).2==(T b8 (i:Int).toNat (Q jM)).2&&Z))) (λ_ _=>by subst l;subst m;rfl) (λi _ p u=>by rw[zwv,zP _ _ p,zP _ _ u]) (WW n8) S with⟨q8,k8⟩|⟨q8,k8⟩;rotate_left
 .exact no (λh=>q8 (by rw[<-l,<-m]at h;simp only[cQ]at h;exact h.w.1)) (k4 _ _ (k5 _ _ (k7 _ _ k8))) S
 rcases nB (t:=wA) (la:=j) (lb:=o) (λi=>.h26 i (A,()) (B,())) (.inl (.h31 0 (A,()) (B,()))) (λi=>((T j (i:Int).toNat (Q R)).1==(T o (i:Int).toNat (Q R)).1&&((T j (i:Int).toNat (Q R)).2.1==(T o (i:Int).toNat (Q R)).2.1&&((T j (i:Int).toNat (Q R)).q==(T o (i:Int).toNat (Q R)).q&&Z)))) (λ_ _=>by subst l;subst m;rfl) (λi _ p u=>by rw[zpd,zP _ _ p,zP _ _ u]) (WW i1) S with⟨x0,H⟩|⟨x0,H⟩;rotate_left
 .exact no (λh=>x0 (by rw[<-l,<-m]at h;simp only[cQ]at h;exact h.y.1)) (k4 _ _ (k5 _ _ (k7 _ _ (k8 _ _ H)))) S
 have x9:=WW i2
 rcases Rx (t:=wA) (la:=e) (lb:=g) (λi=>.h31 (i:Int) (A,()) (B,())) x9 (λi p u=>by
  have⟨w1,w2⟩:=pe (a:=e[i].2) (b:=g[i].2) (hx _ (bh p));have U:(wA (.h31 (i:Int) (A,()) (B,()))).val=if(cond (!e[i].1==g[i].1) Z (!fH e[i].2 g[i].2))=Z then Y (.inr J8)else Y (.inl (.h31 ((i+1:Nat):Int) (A,()) (B,()))):=by
   subst l;subst m;show(wA (.h31 _ _ _)).val=_;simp only[wA,Q8,zn,zP _ _ p,zP _ _ u,zM p,zu p,zu u,w1,zi,eW];rw[zt i um];cases(!e[i].1==g[i].1)<;>rfl
  refine⟨λh=>?_,λh=>?_⟩
  .have k:=w2.2 (by rw[h]);rw[U,zh (by rw[k,h];simp)]
  .rw[U,zf];cases hh:(e[i].1==g[i].1)
   .rfl
   .cases hw:fH e[i].2 g[i].2
    .rfl
    .exact zB (Prod.ext (by simpa using hh) (w2.1 hw)) h)with⟨x1,h0⟩|⟨x1,h0⟩
 rotate_left
 .exact no (λh=>x1 (by rw[<-l,<-m]at h;simp only[cQ]at h;exact h.z.1)) (k4 _ _ (k5 _ _ (k7 _ _ (k8 _ _ (H _ _ h0))))) S
 have x4:(wA (.h31 (N e:Int) (A,()) (B,()))).val=Y (.inr (.kb Z,[])):=by
  subst l;subst m;show(wA (.h31 _ _ _)).val=_;simp only[wA,Q8,zJ];rfl
 refine⟨Z,zz hi (k4 _ _ (k5 _ _ (k7 _ _ (k8 _ _ (H _ _ (h0.ends (zV.of x4))))))) S rfl,?_⟩;subst q4;subst q5;subst q7;subst q8;subst x0;subst x1;rw[<-l,<-m];simp
theorem uh{a:zS}(h:DN a):Dv a b=Z/\(ir a b=Z↔a=b):=by
 have⟨r,x,c⟩:=Sr (b:=b) h;refine⟨by unfold Dv;rw[x];rfl,?_⟩;have:ir a b=r:=by unfold ir;rw[x];rfl
 rw[this];exact c
variable {e:zg}
theorem oK:iX e=Z↔e=.mk [] (0,0,[]) [] []:=by
 have⟨o,⟨k,i,t⟩,s,l⟩:=e;unfold iX;show(cond (o==[]) (cond (k==0&&(i==0&&(t==[]&&Z))) (cond (s==[]) ((N l:Int)==0) M) M) M)=Z↔_;simp only[zg.mk.injEq,cQ];constructor
 .intro h;have⟨x,h⟩:=de h;have⟨a,h⟩:=de h;have⟨b,h⟩:=de h;simp at x a b h;exact⟨x,a,b,h⟩
 .rintro⟨rfl,⟨rfl,rfl,rfl⟩,rfl,rfl⟩;rfl
theorem YM(h:dW e=Z):(e.op==[])=M:=by
 have f:=gK (mn h);clear h;cases f with
 |lit v j=>rfl
 |col s i g=>rfl
 |one o a x c=>rcases x with rfl|rfl<;>rfl
 |two o a b x c d=>rcases x with rfl|rfl|rfl|rfl|rfl|rfl<;>rfl
theorem YN(h:dW e=Z):nE 12 e<=60:=by
 rw[Ai]at h;by_cases k:nE 12 e<=60
 .exact k
 .exfalso;rw[aC k]at h;cases cZ 12 e<;>simp at h
theorem Pt(a:vB e)(h:dW e=Z):tW e=Z/\sr e=bn 16 e/\(bn 16 e).length<=24000:=by have⟨x,b⟩:=tX 16 12 16 e S S S (mn h) a;have x:LR e=Y (bn 16 e,()):=x;have c:=YN h;refine⟨by unfold tW;rw[x];rfl,by unfold sr;rw[x];rfl,S⟩
def nU(w:zN)(e:zg):zN:=if(e.op==[])=Z then[]else if dW e=Z then(ite ((w==nc)=Z) (zep++bn 16 e) (w++zem++bn 16 e++jm))else[]
variable {w:zN}
theorem Xh(d:vB e)(k:ot 16 e=Z)(o:N w<=1000):Dw e w=Y (nU w e,da e,())/\(nU w e).length<=30000:=by
 unfold nU;by_cases a:(e.op==[])=Z
 .rw[zf a];have⟨s,n⟩:=pe (b:=.mk [] (0,0,[]) [] []) k;have c:dW e=M:=by
   cases h:dW e
   .rfl
   .rw[YM h]at a;cases a
  have l:fH e (.mk [] (0,0,[]) [] [])=da e:=by
   unfold da;rw[c];apply oE.2;rw[n,<-oK];cases iX e<;>simp
  refine⟨zQ (r:=(.tup [.str [],.bool (da e)],[])) ?_ rfl,sw⟩;simp only[Ox,Q8,zn,a,s,l,zi]
 .rw[zh a];have m:iX e=M:=by
   cases h:iX e
   .rfl
   .rw[oK.1 h]at a;exact zB rfl a
  have g:da e=dW e:=by unfold da;rw[m];rfl
  have a:(e.op==[])=M:=by simpa using a
  rw[g];by_cases c:dW e=Z
  .have⟨i,j,p⟩:=Pt d c;rw[zf c,c];by_cases x:(w==nc)=Z
   .rw[zf x];refine⟨zQ (r:=(.tup [.str (zep++bn 16 e),.kb Z],[])) ?_ rfl,sg⟩;simp only[Ox,Q8,zn,a,pd d,tV d,c,x,i,j,zi];rw[zh sw,zh sw,zf (zC sg)]
   .rw[zh x];have x:(w==nc)=M:=by simpa using x
    refine⟨zQ (r:=(.tup [.str (w++zem++bn 16 e++jm),.kb Z],[])) ?_ rfl,sg⟩;simp only[Ox,Q8,zn,a,pd d,tV d,c,x,i,j,zi];rw[zh sw,zh sw,zh sw,zf (zC sg),zf (zC sg),zf (zC sg)]
  .rw[zh c];have c:dW e=M:=by simpa using c
   rw[c];refine⟨zQ (r:=(.tup [.str [],.kb M],[])) ?_ rfl,sw⟩;simp only[Ox,Q8,zn,a,pd d,tV d,c,zi];rfl
theorem GI(c:vB e)(a:ot 16 e=Z)(b:N w<=1000):qx e w=Z/\ww e w=(nU w e,da e)/\(nU w e).length<=30000:=by have⟨h,x⟩:=Xh c a b;exact⟨by unfold qx;rw[h];rfl,by unfold ww;rw[h];rfl,x⟩
theorem El(h:da e=Z):ml [32] e=nU [] e:=by
 unfold ml nU;unfold da at h;cases a:iX e
 .rw[a]at h;have x:dW e=Z:=h;rw[zh sw,zh (by rw[YM x];simp),zf x];unfold jF pQ;rw[x];rfl
 .rw[zf rfl];rw[oK.1 a];rfl
theorem JB(s x:zN):∀l:List zN,Lib.join (l++[x]) s=if l=[]then x else Lib.join l s++s++x
 |[]=>by rw[zf rfl];exact Lib.join_one x s
 |[a]=>by simp[Lib.join,List.intercalate,List.intersperse]
 | a::b::r=>by
  have i:=JB s x (b::r);rw[zh sw]at i|-;have e:∀(c:zN)(q:List zN),Lib.join (a::c::q) s=a++s++Lib.join (c::q) s:=λc q=>by simp[Lib.join,List.intercalate,List.intersperse]
  show Lib.join (a::b::(r++[x])) s=_;rw[e,e];rw[show b::(r++[x])=(b::r)++[x]from rfl,i];simp
theorem Sv{l:List zN}(y:N l<=100)(q:∀x∈l,N x<=1000):∃t,ym l=Y (t,(K (∀x∈l,aD x=Z)&&(K (1<=N l)&&K (N l<=8))),())/\N t<=200000/\((∀x∈l,aD x=Z)->t=Lib.join l fO):=by
 have k:∀i,i<=N l->(Lib.join (l.take i) fO).length<=110000:=by
  intro i a;have:=xy fO 1000 (l.take i) (λx n=>q x (List.mem_of_mem_take n));have d:(l.take i).length<=100:=by simp;omega
  have w:=fM (1000+(fO:zN).length) d;simp at this w|-;omega
 have b:∀i(a:i<N l),(He (.h3 l (Lib.join (l.take i) fO) (i:Int))).val=if aD l[i]=Z then Y (.inl (.h3 l (Lib.join (l.take (i+1)) fO) ((i+1:Nat):Int)))else Y (.inr (.tup [.str [],.kb M],[])):=by
  intro i a;have n:=q _ (bh a);have g:=k i S;show(He (.h3 _ _ _)).val=_;simp only[He,Q8,zP _ _ a,zM a,zu a,cI (s:=l[i]) S,fS (s:=l[i]) S,zi];rw[zt i um,zjZ a,JB];by_cases c:aD l[i]=Z
  .rw[zh (by rw[c];simp),zf c];by_cases p:i=0
   .subst p;rw[zh sw,zf (zC (by simp[Lib.join_nil];omega)),zf sw];rfl
   .rw[zf (zC S),zf (zC sg),zf (zC sg),zh (by
     intro h;have:=congrArg N h;simp at this;rcases this with h|h
     .exact p h
     .rw[h]at a;simp at a)]
  .rw[zf (by simpa using c),zh c]
 rcases nP (t:=He) (Φ:=λr=>r=(.tup [.str [],.kb M],[])) 1 (λi=>.h3 l (Lib.join (l.take i) fO) (i:Int)) (λi=>∀h:i<N l,aD l[i]=Z) (N l) (λi a _=>by
  by_cases c:aD l[i]=Z
  .exact .inl ⟨λ_=>c,zG.of (by rw[b i a,zf c])⟩
  .exact .inr ⟨λh=>c (h a),_,zV.of (by rw[b i a,zh c]),rfl⟩)with⟨o,d⟩|⟨o,r,d,rfl⟩
 .have e:∀x∈l,aD x=Z:=by
   intro x n;obtain⟨j,g,rfl⟩:=fN n;exact o j g g
  rw[eF]at d;have g:=k (N l) (zR _);rw[eF]at g;refine⟨Lib.join l fO,zz (s:=.h3 l [] 0) rfl (d.ends (zV.of (r:=(.tup [.str (Lib.join l fO),.bool (cond (K (1<=(N l:Int))) (K ((N l:Int)<=8)) M)],[])) ?_)) S ?_,S,λ_=>rfl⟩
  .show(He (.h3 _ _ _)).val=_;simp only[He,Q8,zJ];cases K (1<=(N l:Int))<;>rfl
  .rw[zC e];have u:K (1<=(N l:Int))=K (1<=N l):=by
    by_cases h:1<=N l
    .rw[zC h];exact zC S
    .rw[aC h];exact aC S
   have v:K ((N l:Int)<=8)=K (N l<=8):=by
    by_cases h:N l<=8
    .rw[zC h];exact zC S
    .rw[aC h];exact aC S
   rw[u,v];cases K (1<=N l)<;>cases K (N l<=8)<;>rfl
 .have m:¬∀x∈l,aD x=Z:=λh=>o λi _ a=>h _ (bh a)
  refine⟨[],zz (s:=.h3 l [] 0) rfl d S ?_,sw,λh=>zB h m⟩;rw[aC m];rfl
structure yX (s:zS):Prop where
 sh:nR s
 chk:vB s.x.1
 whr:vB s.s.1
 cchk:ot 16 s.x.1=Z
 cwhr:ot 16 s.s.1=Z
 row:∀v∈s.y.1,kX v
 sets:∀x∈s.z.1,vB (x:L jb).2/\ot 16 (x:L jb).2=Z
def zmi(B:Nat)(r:ay):Prop:=∃(h:zN)(b:Bool),aX r.2 [Q6,Q7] r.1=Y (h,b,())/\N h<=B
theorem zxp(h:yX s)(e:Bool)(d:zN)(o:N d<=60000)(n:Nat)(m:30<=n):∃r,eh gy n (.h20 e d 0 (s,()))=Y r/\zmi 200000 r:=by
 have y:=h.sh.refs.1;refine dP (t:=gy) (β:=Bool×zN) (N s.w.1) (λb i=>.h20 b.1 b.2 (i:Int) (s,())) (λb i=>N b.2<=60000+2100*i) _ 1 ?_ ?_ (N s.w.1) 0 (e,d) n rfl (aK _) (by simpa using o) S
 .rintro⟨b,x⟩ i c a;have a:N x<=60000+2100*i:=a;have⟨q,u⟩:=h.sh.refs.2 _ (bh c);have g:T s.w.1 (i:Int).toNat (Q jM)=s.w.1[i]:=zP _ _ c;generalize s.w.1[i]=f at g q u;refine .inl ⟨(cond b (cond (cg f.1) (cg f.2) M) M,x++(zmx++f.1++zmw++f.2)),sg,?_⟩;show(gy (.h20 _ _ _ _)).val=_;simp only[gy,Q8,g,zM c,zu c,cI (s:=f.1) S,cI (s:=f.2) S,zi];rw[zt i um,zf (by cases b<;>cases cg f.1<;>rfl),zf (zC sg),zf (zC sg),zf (zC sg),zf (zC sg)]
 .rintro⟨b,x⟩ n a m;have a:N x<=60000+2100*N s.w.1:=a;obtain⟨n,rfl⟩:∃k,n=k+1:=⟨n-1,S⟩;have⟨j,l,v⟩:=GI h.chk h.cchk (w:=[32,44]) sw;have p:(gy (.h20 b x (N s.w.1:Int) (s,()))).val=Y (.inr (.tup [.str (x++nU [32,44] s.x.1++jm),.bool (cond b (da s.x.1) M)],[])):=by
   show(gy (.h20 _ _ _ _)).val=_;simp only[gy,Q8,zn,zJ,j,l,zi]
   rw[zh sw,zf (by
    have:N x+(nU [32,44] s.x.1).length<=200000:=by omega
    simp;omega)]
   cases b<;>rfl
  rw[dg,p];exact⟨_,rfl,_,_,rfl,sg⟩
theorem zxo(h:yX s)(e:Bool)(d:zN)(l:N d<=30000)(n:Nat)(j:60<=n):∃r,eh gy n (.h15 e d 0 (s,()))=Y r/\zmi 200000 r:=by
 have p:=h.sh.uniques.1;refine dP (t:=gy) (β:=Bool×zN) (N s.v.1) (λb i=>.h15 b.1 b.2 (i:Int) (s,())) (λb i=>N b.2<=30000+1100*i) _ 31 ?_ ?_ (N s.v.1) 0 (e,d) n rfl (aK _) (by simpa using l) S
 .rintro⟨b,x⟩ i c a;have a:N x<=30000+1100*i:=a;have o:=h.sh.uniques.2 _ (bh c);have g:T s.v.1 (i:Int).toNat (Q Q6)=s.v.1[i]:=zP _ _ c;generalize s.v.1[i]=f at g o;refine .inl ⟨(cond b (cg f) M,x++(zmy++f++jm)),sg,?_⟩;show(gy (.h15 _ _ _ _)).val=_;simp only[gy,Q8,g,zM c,zu c,cI (s:=f) S,zi];rw[zt i um,zf (by cases b<;>rfl),zf (zC sg),zf (zC sg),zf (zC sg)]
 .rintro⟨b,x⟩ n a j;have a:N x<=30000+1100*N s.v.1:=a;obtain⟨n,rfl⟩:∃k,n=k+1:=⟨n-1,S⟩;have m:(gy (.h15 b x (N s.v.1:Int) (s,()))).val=Y (.inl (.h20 b x 0 (s,()))):=by
   show(gy (.h15 _ _ _ _)).val=_;simp only[gy,Q8,zJ];rfl
  rw[dg,m];exact zxp h b x S n S
theorem cr4(h:yX s)(d:Bool)(w:zN)(z:N w<=2000)(n:Nat)(j:100<=n):∃r,eh gy n (.h4 d w 0 (s,()))=Y r/\zmi 200000 r:=by
 have G:=h.sh.cols.1;have F:=h.sh.key;refine dP (t:=gy) (β:=zN) (N s.t.1) (λb i=>.h4 d b (i:Int) (s,())) (λb i=>N b<=2000+1100*i) _ 61 ?_ ?_ (N s.t.1) 0 w n rfl (aK _) (by simpa using z) S
 .intro x i o y;have C:=h.sh.cols.2 _ (bh o);have g:T s.t.1 (i:Int).toNat (Q zp)=s.t.1[i]:=zP _ _ o;generalize s.t.1[i]=f at g C
  have c:((gy (.h4 d x (i:Int) (s,()))).val=if(bif !cg f.1 then Z else bif K (LT.lt (α:=Int) f.2.1 1)then Z else K (GT.gt (α:=Int) f.2.1 3))=Z then Y (.inr (.tup [.str [],.kb M],[]))else
    Y (.inl (.h4 d ((ite (f.q=Z) (x++(f.1++[32]++[[],Eg,Eh,Ee].getD (W f.2.1) (Q Q6))++zmA) (x++(f.1++[32]++[[],Eg,Eh,Ee].getD (W f.2.1) (Q Q6))))++fO) ((i+1:Nat):Int) (s,()))))/\
    (¬(bif !cg f.1 then Z else bif K (LT.lt (α:=Int) f.2.1 1)then Z else K (GT.gt (α:=Int) f.2.1 3))=Z->([[],Eg,Eh,Ee].getD (W f.2.1) (Q Q6)).length<=4):=by
   have l:¬(bif !cg f.1 then Z else bif K (LT.lt (α:=Int) f.2.1 1)then Z else K (GT.gt (α:=Int) f.2.1 3))=Z->zK f.2.1 4=Z/\([[],Eg,Eh,Ee].getD (W f.2.1) (Q Q6)).length<=4:=by
    intro a;have m:¬LT.lt (α:=Int) f.2.1 1:=by
     intro m;rw[zC m]at a;cases p:(!cg f.1)<;>rw[p]at a<;>exact a rfl
    have E:¬GT.gt (α:=Int) f.2.1 3:=by
     intro m;rw[zC m]at a;cases p:(!cg f.1)<;>rw[p]at a<;>cases e:K (LT.lt (α:=Int) f.2.1 1)<;>rw[e]at a<;>exact a rfl
    have e:@Eq Int f.2.1 1\/@Eq Int f.2.1 2\/@Eq Int f.2.1 3:=by omega
    rcases e with e|e|e<;>rw[e]<;>exact⟨rfl,by decide⟩
   refine⟨?_,λa=>(l a).2⟩;show(gy (.h4 _ _ _ _)).val=_;simp only[gy,Q8,g,zM o,zu o,cI (s:=f.1) S,zi];by_cases a:(bif !cg f.1 then Z else bif K (LT.lt (α:=Int) f.2.1 1)then Z else K (GT.gt (α:=Int) f.2.1 3))=Z
   .rw[zf a,zf a]
   .have⟨A,B⟩:=l a;rw[zh a,zh a,zf (zC sg)];refine(zf A).trans ?_;generalize[[],Eg,Eh,Ee].getD (W f.2.1) (Q Q6)=D at B;rw[zf (zC sg),zf (zC sg),zt i um];by_cases j:f.q=Z
    .rw[zf j,zf j,zf (zC sg),zf (zC sg)]
    .rw[zh j,zh j,zf (zC sg)]
  have⟨c,v⟩:=c;by_cases a:(bif !cg f.1 then Z else bif K (LT.lt (α:=Int) f.2.1 1)then Z else K (GT.gt (α:=Int) f.2.1 3))=Z
  .rw[zf a]at c;exact .inr ⟨_,c,[],M,rfl,sw⟩
  .rw[zh a]at c;have:=v a;generalize[[],Eg,Eh,Ee].getD (W f.2.1) (Q Q6)=D at c this;refine .inl ⟨_,?_,c⟩;split<;>simp<;>omega
 .intro x n y j;obtain⟨n,rfl⟩:∃k,n=k+1:=⟨n-1,S⟩;have c:(gy (.h4 d x (N s.t.1:Int) (s,()))).val=Y (.inl (.h15 d (x++(zmD++s.u.1++jm)) 0 (s,()))):=by
   show(gy (.h4 _ _ _ _)).val=_;simp only[gy,Q8,zJ];rw[zh sw,zf (zC sg),zf (zC sg),zf (zC sg)]
  rw[dg,c];exact zxo h d _ sg n S
theorem Px(h:yX s):∃(x:zN)(b:Bool),pf s=Y (x,b,())/\N x<=200000:=by
 have j:=h.sh.table;have i:=h.sh.key;have c:∃a,(ZQ s).val=Y (.inl (.h4 a (zeq++s.2.1++Cy) 0 (s,()))):=by
  refine⟨(cond (cg s.u.1) (cond (K (1<=(N s.t.1:Int))) (cond (K ((N s.t.1:Int)<=8)) (cond (K ((N s.v.1:Int)<=8)) (K ((N s.w.1:Int)<=8)) M) M) M) M),?_⟩;simp only[ZQ,Q8,cI (s:=s.u.1) S,zi];rw[zf (zC sg),zf (zC sg)]
 have⟨a,c⟩:=c;have⟨r,d,x,b,e,g⟩:=cr4 h a (zeq++s.2.1++Cy) sg 100000000 S;refine⟨x,b,?_,g⟩;unfold pf am bT;rw[c];show(eh gy 100000000 _).bind _=_;rw[d];exact e
theorem Sn(h:yX s):tZ s=Z/\(su s).1.length<=200000:=by have⟨c,b,x,a⟩:=Px h;exact⟨by unfold tZ;rw[x];rfl,by unfold su;rw[x];exact a⟩
def zd4(o:Option (zH (List.map Y [Q6,aB,Q7]))):Prop:=∃(t:zN)(h:zS)(x:Bool),o=Y (t,h,x,())/\N t<=900000/\DN h
theorem zwV{r:ay}{t:zN}{x:Bool}(d:(pT s).val=Y (.inr r))(c:aX r.2 [Q6,aB,Q7] r.1=Y (t,b,x,()))(a:N t<=900000)(h:DN b):zd4 (ft s):=
 ⟨t,b,x,zQ d c,a,h⟩
abbrev gz:zg:=.mk [] (0,0,[]) [] []
theorem zaI:ot 16 gz=Z:=by decide+kernel
theorem gG{a:zS}(h:yX s)(g:a.r.1=s.r.1\/a.r.1=[])(i:a.t.1=s.t.1\/a.t.1=[])(j:a.v.1=s.v.1\/a.v.1=[])
  (l:a.w.1=s.w.1\/a.w.1=[]) (m:a.x.1=s.x.1\/a.x.1=gz) (c:a.y.1=s.y.1\/a.y.1=[])
  (b:a.z.1=s.z.1\/a.z.1=[]) (d:a.s.1=s.s.1\/a.s.1=gz):DN a where
 names:=by have:=h.sh.names.1;rcases g with h|h<;>rw[h]<;>first|omega|simp
 cols:=by have:=h.sh.cols.1;rcases i with h|h<;>rw[h]<;>first|omega|simp
 uniques:=by have:=h.sh.uniques.1;rcases j with h|h<;>rw[h]<;>first|omega|simp
 refs:=by have:=h.sh.refs.1;rcases l with h|h<;>rw[h]<;>first|omega|simp
 row:=by have:=h.sh.row;rcases c with h|h<;>rw[h]<;>first|omega|simp
 sets:=by have:=h.sh.sets.1;rcases b with h|h<;>rw[h]<;>first|omega|simp
 chk:=by rcases m with k|k<;>rw[k];exact h.cchk;exact zaI
 whr:=by rcases d with k|k<;>rw[k];exact h.cwhr;exact zaI
 ex:=by
  rcases b with k|k<;>rw[k]
  .exact λx e=>(h.sets x e).2
  .intro x e;cases e
def VF(r:ay):Prop:=∃(t:zN)(o:zS)(h:Bool),aX r.2 [Q6,aB,Q7] r.1=Y (t,o,h,())/\N t<=900000/\DN o
theorem Ft{r:ay}(t:zN)(o:zS)(h:Bool)(x:aX r.2 [Q6,aB,Q7] r.1=Y (t,o,h,()))(a:N t<=900000)(b:DN o):VF r:=⟨t,o,h,x,a,b⟩
theorem zzY(h:yX s):∃r,eh pu 100000000 (.h15 [] 0 (s,()) ([],[],[],[],[],0,0,[],[],[],0,0,[],[],[],()) (s.1,s.2.1,[],[],[],0,0,[],[],s.y.1,[],0,0,[],[],[],()))=Y r/\VF r:=by
 have w:=h.sh.row;have A:=h.sh.table;have a:DN (s.1,s.2.1,[],[],[],[],[],[],gz,s.y.1,[],gz,[]):=gG h (.inr rfl) (.inr rfl) (.inr rfl) (.inr rfl) (.inr rfl) (.inl rfl) (.inr rfl) (.inr rfl);refine dP (t:=pu) (β:=zN) (N s.y.1) (λb i=>.h15 b (i:Int) (s,()) ([],[],[],[],[],0,0,[],[],[],0,0,[],[],[],()) (s.1,s.2.1,[],[],[],0,0,[],[],s.y.1,[],0,0,[],[],[],())) (λb i=>N b<=400*i) _ 1 ?_ ?_ (N s.y.1) 0 [] 100000000 rfl (aK _) sw S
 .intro x i l o;have d:=h.row _ (bh l);have u:=Bw s.y.1[i];have g:T s.y.1 (i:Int).toNat (Q R)=s.y.1[i]:=zP _ _ l;generalize s.y.1[i]=v at g d u
  have e:(pu (.h15 x (i:Int) (s,()) ([],[],[],[],[],0,0,[],[],[],0,0,[],[],[],()) (s.1,s.2.1,[],[],[],0,0,[],[],s.y.1,[],0,0,[],[],[],()))).val=if bg v=Z then Y (.inl (.h15 ((ite ((i:Int)>0) (x++fO) x)++jd v) ((i+1:Nat):Int) (s,()) ([],[],[],[],[],0,0,[],[],[],0,0,[],[],[],()) (s.1,s.2.1,[],[],[],0,0,[],[],s.y.1,[],0,0,[],[],[],())))else
    Y (.inr (.tup [.str [],aS s.1 s.2.1 [] .nils .nils [] .nils .nils zE (.sl R s.y.1) .nils zE [],.kb M],[])):=by
   show(pu (.h15 _ _ _ _ _)).val=_;simp only[pu,Q8,g,zM l,zu l,mH d.q,qi d.q,JW d,Pr d,zi];rw[zt i um];by_cases m:bg v=Z
   .rw[zh (by rw[m];simp),zf m];by_cases j:(i:Int)>0
    .rw[zf (zC j),zf j,zf (zC sg),zf (zC sg)]
    .rw[zh (by simpa using j),zh j,zf (zC S)]
   .rw[zf (by simpa using m),zh m];rfl
  by_cases m:bg v=Z
  .rw[zf m]at e;refine .inl ⟨_,?_,e⟩;split<;>simp<;>omega
  .rw[zh m]at e;exact .inr ⟨_,e,Ft [] _ M rfl sw a⟩
 .intro x n o z;obtain⟨n,rfl⟩:∃k,n=k+1:=⟨n-1,S⟩
  have e:∃b,(pu (.h15 x (N s.y.1:Int) (s,()) ([],[],[],[],[],0,0,[],[],[],0,0,[],[],[],()) (s.1,s.2.1,[],[],[],0,0,[],[],s.y.1,[],0,0,[],[],[],()))).val=
    Y (.inr (.tup [.str (Yq++s.2.1++zeo++x++jm),aS s.1 s.2.1 [] .nils .nils [] .nils .nils zE (.sl R s.y.1) .nils zE [],b],[]))/\(b=.kb M\/∃c,b=.bool c):=by
   show∃b,(pu (.h15 _ _ _ _ _)).val=_/\_;simp only[pu,Q8,zJ];rw[zh sw,zf (zC sg),zf (zC sg),zf (zC sg),zf (zC sg)];split
   .exact⟨_,rfl,.inr ⟨_,rfl⟩⟩
   .exact⟨_,rfl,.inl rfl⟩
  have⟨b,e,p⟩:=e;rw[dg,e];rcases p with rfl|⟨c,rfl⟩
  .exact⟨_,rfl,Ft _ _ M rfl sg a⟩
  .exact⟨_,rfl,Ft _ _ c rfl sg a⟩
theorem zzZ(h:yX s)(c:zN)(j:Bool)(h8:N c<=30000):∃r,eh pu 100000000 (.h27 c j [] 0 (s,()) ([],[],[],[],[],0,0,[],[],[],0,0,[],[],[],()) (s.1,s.2.1,[],[],[],0,0,[],[],s.z.1,s.s.1,[],()))=Y r/\VF r:=by
 have hl:=h.sh.sets.1;have ht:=h.sh.table;have d:DN (s.1,s.2.1,[],[],[],[],[],[],gz,[],s.z.1,s.s.1,[]):=gG h (.inr rfl) (.inr rfl) (.inr rfl) (.inr rfl) (.inr rfl) (.inr rfl) (.inl rfl) (.inl rfl);generalize hZ:(([],[],[],[],[],0,0,[],[],[],0,0,[],[],[],()):zq jR)=a;generalize hU:((s.1,s.2.1,[],[],[],0,0,[],[],s.z.1,s.s.1,[],()):zq Rc)=V
 have p:∀(t:zN)(o:Bool)(b:AV),(b=.bool o\/(b=.kb M/\o=M))->aX [] [Q6,aB,Q7] (.tup [.str t,aS V.1 V.2.1 V.q.1 .nils .nils V.r.1 .nils .nils [X V.t.1,J V.u.1,J V.v.1,X V.w.1,X V.x.1,nils] .nils (.sl (Sh.str.pr Sh.expr) V.y.1) (xE V.z.1) V.s.1,b])=
   Y (t,(s.1,s.2.1,[],[],[],[],[],[],gz,[],s.z.1,s.s.1,[]),o,()):=by
  intro t o b E;subst hU;have⟨s1,s2,s3,s4,s5,s6,s7,c,s9,h3,h4,⟨d1,d2,d3,d4⟩,h5⟩:=s;rcases E with rfl|⟨rfl,rfl⟩<;>rfl
 refine dP (t:=pu) (β:=zN) (N s.z.1) (λb i=>.h27 c j b (i:Int) (s,()) a V) (λb i=>N b<=26000*i) _ 1 ?_ ?_ (N s.z.1) 0 [] 100000000 rfl (aK _) sw S
 .intro x i l hI;have⟨C,F⟩:=h.sets _ (bh l);have G:=h.sh.sets.2 _ (bh l);have g:T s.z.1 (i:Int).toNat (Q jb)=s.z.1[i]:=zP _ _ l;generalize s.z.1[i]=v at g C F G;have e:(¬(cg v.1=Z/\dW v.2=Z)/\∃r,(pu (.h27 c j x (i:Int) (s,()) a V)).val=Y (.inr r)/\VF r)\/∃A:zN,N A<=N x+26000/\(pu (.h27 c j x (i:Int) (s,()) a V)).val=Y (.inl (.h27 c j A ((i+1:Nat):Int) (s,()) a V)):=by
   show(_/\∃r,(pu (.h27 _ _ _ _ _ _ _)).val=_/\_)\/∃A:zN,_/\(pu (.h27 _ _ _ _ _ _ _)).val=_;simp only[pu,Q8,g,zn,zM l,zu l,cI (s:=v.1) S,pd C,tV C,zi,eW];have hg:(cond (!cg v.1) Z Z)=Z:=by cases cg v.1<;>rfl
   rw[hg];by_cases m:cg v.1=Z/\dW v.2=Z
   .have⟨m1,P⟩:=m;have⟨t1,t2,t3⟩:=Pt C P;refine .inr ⟨(ite ((i:Int)>0) (x++fO) x)++(v.1++zmz++bn 16 v.2),by split<;>simp<;>omega,?_⟩;simp only[m1,P,t1,t2,zi,bW,aJ,zA,zm];rw[zt i um];by_cases B:(i:Int)>0
    .rw[zf (zC B),zf B,zf (zC sg),zf (zC sg),zf (zC sg),zf (zC sg)]
    .rw[zh (by simpa using B),zh B,zf (zC sg),zf (zC sg),zf (zC sg)]
   .refine .inl ⟨m,?_⟩;have hc:(cond (!cg v.1) Z (!dW v.2))=Z:=by
     cases U:cg v.1
     .rfl
     .cases h2:dW v.2
      .rfl
      .exact zB ⟨U,h2⟩ m
    rw[zf rfl,zf hc];exact⟨_,rfl,Ft [] _ M (p [] M _ (.inr ⟨rfl,rfl⟩)) sw d⟩
  rcases e with⟨_,r,H,D⟩|⟨A,H,D⟩
  .exact .inr ⟨r,H,D⟩
  .exact .inl ⟨A,S,D⟩
 .intro x n hI hn;obtain⟨n,rfl⟩:∃k,n=k+1:=⟨n-1,S⟩
  have e:∃b o,(pu (.h27 c j x (N s.z.1:Int) (s,()) a V)).val=
    Y (.inr (.tup [.str (Yt++s.2.1++zen++x++c),aS V.1 V.2.1 V.q.1 .nils .nils V.r.1 .nils .nils [X V.t.1,J V.u.1,J V.v.1,X V.w.1,X V.x.1,nils] .nils (.sl (Sh.str.pr Sh.expr) V.y.1) (xE V.z.1) V.s.1,b],[]))/\(b=.bool o\/(b=.kb M/\o=M)):=by
   show∃b o,(pu (.h27 _ _ _ _ _ _ _)).val=_/\_;simp only[pu,Q8,zJ];rw[zh sw,zf (zC sg),zf (zC sg),zf (zC sg),zf (zC sg)];split
   .split
    .exact⟨_,_,rfl,.inl rfl⟩
    .exact⟨_,M,rfl,.inr ⟨rfl,rfl⟩⟩
   .exact⟨_,M,rfl,.inr ⟨rfl,rfl⟩⟩
  have⟨b,o,e,E⟩:=e;rw[dg,e];exact⟨_,rfl,Ft _ _ o (p _ o b E) sg d⟩
theorem wrP(h:yX s):(qx s.x.1 []=Z/\ww s.x.1 []=(nU [] s.x.1,da s.x.1)/\(nU [] s.x.1).length<=30000)/\
  (qx s.s.1 nc=Z/\ww s.s.1 nc=(nU nc s.s.1,da s.s.1)/\(nU nc s.s.1).length<=30000)/\
  s.2.1.length<=1000/\N s.p<=1000/\N s.q.1<=1000/\N s.u.1<=1000:=
 ⟨GI h.chk h.cchk sw,GI h.whr h.cwhr sw,h.sh.table,h.sh.role,h.sh.other,h.sh.key⟩
def SW(s:zS):zN:=Yr++s.2.1++mj++s.q.1++Cy++Lib.join s.r.1 fO++jm++nU [] s.x.1
def mC(s:zS):Bool:=(K (∀x∈s.r.1,aD x=Z)&&(K (1<=N s.r.1)&&K (N s.r.1<=8)))&&(da s.x.1&&aD s.q.1)
theorem Vl(h:yX s)(o:s.1=dp):∃t,ft s=Y (t,(s.1,s.2.1,s.q.1,s.r.1,[],[],[],[],s.x.1,[],[],gz,[]),mC s,())/\N t<=900000/\(mC s=Z->t=SW s):=by
 have⟨⟨j,k,U⟩,⟨m,d2,d3⟩,ht,hr,ho,c⟩:=wrP h;have⟨w,y,z,A,B,C,_,_,_,_,D⟩:=zfR o;have⟨t,n,n2,p⟩:=Sv (l:=s.r.1) (by have:=h.sh.names.1;omega) h.sh.names.2;have u:GJ s.r.1=Z:=by unfold GJ;rw[n];rfl
 have v:Mj s.r.1=(t,(K (∀x∈s.r.1,aD x=Z)&&(K (1<=N s.r.1)&&K (N s.r.1<=8)))):=by unfold Mj;rw[n];rfl
 have H:=cI (s:=s.q.1) S;have P:=fS (s:=s.q.1) S;refine⟨Yr++s.2.1++mj++s.q.1++Cy++t++jm++nU [] s.x.1,?_,sg,?_⟩
 .have d:∃b,(pT s).val=Y (.inr (.tup [.str (Yr++s.2.1++mj++s.q.1++Cy++t++jm++nU [] s.x.1),aM s (.sl Q6 s.r.1) [] [],b],[]))/\(b=.bool (mC s)\/(b=.kb M/\mC s=M)):=by
   unfold mC;simp only[pT,Q8,zn,j,m,w,y,z,A,B,C,D,u,v,k,H,P,zi,zA,zm]
   iterate 7 rw[zf (zC sg)]
   generalize(K (∀x∈s.r.1,aD x=Z)&&(K (1<=N s.r.1)&&K (N s.r.1<=8)))=g;generalize da s.x.1=i;cases g
   .exact⟨_,rfl,.inr ⟨rfl,rfl⟩⟩
   .cases i
    .exact⟨_,rfl,.inr ⟨rfl,rfl⟩⟩
    .exact⟨_,rfl,.inl rfl⟩
  have⟨b,d,e⟩:=d;refine zQ d ?_;clear d;have⟨s1,s2,s3,s4,s5,s6,s7,s8,⟨f1,f2,f3,f4⟩,E,F,⟨g1,g2,g3,g4⟩,G⟩:=s;rcases e with rfl|⟨rfl,e⟩
  .rfl
  .rw[e];rfl
 .intro c;have a:∀x∈s.r.1,aD x=Z:=by
   unfold mC at c;simp only[aO,bc]at c;exact c.1.1
  rw[p a];rfl
def sP(s:zS):zN:=zmF++s.2.1++mj++s.q.1++fO++s.p++Cz++s.u.1++nU [] s.x.1
def qc(s:zS):Bool:=da s.x.1&&(aD s.q.1&&(aD s.p&&aD s.u.1))
theorem Vm(h:yX s)(o:s.1=fD):ft s=Y (sP s,(s.1,s.2.1,s.q.1,[],[],s.u.1,[],[],s.x.1,[],[],gz,s.p),qc s,())/\(sP s).length<=900000:=by
 have⟨⟨i,j,c3⟩,⟨k,d2,d3⟩,ht,hr,ho,hk⟩:=wrP h;have⟨l,m,n,v,w,y,_,_,_,_,z,A⟩:=zfS o;have E:=cI (s:=s.q.1) S;have F:=fS (s:=s.q.1) S;have G:=cI (s:=s.p) S;have H:=fS (s:=s.p) S;have P:=cI (s:=s.u.1) S;have U:=fS (s:=s.u.1) S;refine⟨?_,by unfold sP;simp;omega⟩;have a:∃b,(pT s).val=Y (.inr (.tup [.str (sP s),aM s .nils s.u.1 s.p,b],[]))/\(b=.bool (qc s)\/(b=.kb M/\qc s=M)):=by
  unfold qc sP;simp only[pT,Q8,zn,i,k,l,m,n,v,w,y,z,A,j,E,F,G,H,P,U,zi,zA,zm]
  iterate 8 rw[zf (zC sg)]
  generalize da s.x.1=d;generalize aD s.q.1=e;generalize aD s.p=g;cases d
  .exact⟨_,rfl,.inr ⟨rfl,rfl⟩⟩
  .cases e
   .exact⟨_,rfl,.inr ⟨rfl,rfl⟩⟩
   .cases g
    .exact⟨_,rfl,.inr ⟨rfl,rfl⟩⟩
    .exact⟨_,rfl,.inl rfl⟩
 have⟨b,a,c⟩:=a;refine zQ a ?_;clear a;generalize sP s=tx;have⟨s1,s2,s3,s4,s5,s6,s7,s8,⟨f1,f2,f3,f4⟩,B,C,⟨g1,g2,g3,g4⟩,D⟩:=s;rcases c with rfl|⟨rfl,c⟩
 .rfl
 .rw[c];rfl
def nN(s:zS):zN:=zmE++s.2.1++mj++s.q.1++VP++s.r.1.getD 0 []++VQ++s.r.1.getD 1 []++nU [] s.x.1
def iI(s:zS):Bool:=K (N s.r.1=2)&&(da s.x.1&&(aD s.q.1&&(aD (s.r.1.getD 0 [])&&aD (s.r.1.getD 1 []))))
theorem Qu(h:yX s)(o:s.1=na):∃t,ft s=Y (t,(s.1,s.2.1,s.q.1,s.r.1,[],[],[],[],s.x.1,[],[],gz,[]),iI s,())/\N t<=900000/\(iI s=Z->t=nN s):=by
 have⟨⟨F,G,c3⟩,⟨H,d2,d3⟩,ht,hr,ho,hk⟩:=wrP h;have⟨q0,q1,q2,q3,q4,q5,_,_,_,_,q6,q7,q8⟩:=za8 o;have w1:=cI (s:=s.q.1) S;have w2:=fS (s:=s.q.1) S;by_cases a:N s.r.1=2
 .have v:((N s.r.1:Int)!=2)=M:=by rw[a];rfl
  have n0:(s.r.1.getD 0 []).length<=1000:=by
   rw[bD,aj S,bK];exact h.sh.names.2 _ (bh _)
  have n:(s.r.1.getD 1 []).length<=1000:=by
   rw[bD,aj S,bK];exact h.sh.names.2 _ (bh _)
  have p:zK 0 (N s.r.1)=Z:=by rw[a];rfl
  have u:zK 1 (N s.r.1)=Z:=by rw[a];rfl
  have l:T s.r.1 (W 0) (Q Q6)=s.r.1.getD 0 []:=rfl;have g:T s.r.1 (W 1) (Q Q6)=s.r.1.getD 1 []:=rfl;have w:=cI (s:=s.r.1.getD 0 []) S;have y:=fS (s:=s.r.1.getD 0 []) S;have z:=cI (s:=s.r.1.getD 1 []) S;have A:=fS (s:=s.r.1.getD 1 []) S;refine⟨nN s,?_,by unfold nN;simp at n0 n|-;omega,λ_=>rfl⟩;have d:∃b,(pT s).val=Y (.inr (.tup [.str (nN s),aM s (.sl Q6 s.r.1) [] [],b],[]))/\(b=.bool (iI s)\/(b=.kb M/\iI s=M)):=by
   unfold iI nN;rw[zC a];simp only[pT,Q8,zn,F,H,q0,q1,q2,q3,q4,q5,q6,q7,q8,G,w1,w2,l,g,w,y,z,A,v,p,u,zi,zA,zm];generalize s.r.1.getD 0 []=B at n0;generalize s.r.1.getD 1 []=a1 at n
   iterate 8 rw[zf (zC sg)]
   generalize da s.x.1=C;generalize aD s.q.1=D;generalize aD B=E;cases C
   .exact⟨_,rfl,.inr ⟨rfl,rfl⟩⟩
   .cases D
    .exact⟨_,rfl,.inr ⟨rfl,rfl⟩⟩
    .cases E
     .exact⟨_,rfl,.inr ⟨rfl,rfl⟩⟩
     .exact⟨_,rfl,.inl rfl⟩
  have⟨b,d,e⟩:=d;refine zQ d ?_;clear d;generalize nN s=tx;clear n0 n p u l g w y z A;have⟨s1,s2,s3,s4,s5,s6,s7,s8,⟨P,U,f3,f4⟩,i,j,⟨g,g2,g3,g4⟩,k⟩:=s;rcases e with rfl|⟨rfl,e⟩
  .rfl
  .rw[e];rfl
 .have v:((N s.r.1:Int)!=2)=Z:=by
   simp only[bne_iff_ne];omega
  have c:iI s=M:=by unfold iI;rw[aC a];rfl
  refine⟨[],?_,sw,λm=>by rw[c]at m;cases m⟩;rw[c];refine zQ (r:=(.tup [.str [],aM s (.sl Q6 s.r.1) [] [],.kb M],[])) ?_ ?_
  .simp_all[pT,Q8,zn]
  .have⟨s1,s2,s3,s4,s5,s6,s7,s8,⟨P,U,f3,f4⟩,i,j,⟨g,g2,g3,g4⟩,k⟩:=s;rfl
theorem md(h:∃r,(pT s).val=Y (.inr r)/\VF r):zd4 (ft s):=by have⟨r,x,t,o,d,a,b,c⟩:=h;exact zwV x a b c
theorem Hw{x:DU}(d:(pT s).val=Y (.inl x))(h:∃r,eh pu 100000000 x=Y r/\VF r):zd4 (ft s):=by have⟨r,h,t,o,c,e,a,b⟩:=h;refine⟨t,o,c,?_,a,b⟩;grind[ft,am,bT]
theorem Sw(h:yX s):zd4 (ft s):=by
 by_cases n6:s.1=dp
 .have⟨t,a,b,_⟩:=Vl h n6;exact⟨t,_,_,a,b,gG h (.inl rfl) (.inr rfl) (.inr rfl) (.inr rfl) (.inl rfl) (.inr rfl) (.inr rfl) (.inr rfl)⟩
 by_cases n7:s.1=fD
 .have⟨a,b⟩:=Vm h n7;exact⟨_,_,_,a,b,gG h (.inr rfl) (.inr rfl) (.inr rfl) (.inr rfl) (.inl rfl) (.inr rfl) (.inr rfl) (.inr rfl)⟩
 by_cases n8:s.1=na
 .have⟨t,a,b,_⟩:=Qu h n8;exact⟨t,_,_,a,b,gG h (.inl rfl) (.inr rfl) (.inr rfl) (.inr rfl) (.inl rfl) (.inr rfl) (.inr rfl) (.inr rfl)⟩
 have⟨⟨c,c2,c3⟩,⟨d,D,d3⟩,ht,hr,ho,hk⟩:=wrP h;have q6:¬(s.1==dp)=Z:=λe=>n6 (bV e)
 have q7:¬(s.1==fD)=Z:=λe=>n7 (bV e)
 have q8:¬(s.1==na)=Z:=λe=>n8 (bV e)
 by_cases g:(s.1==QW)=Z
 .refine md ?_;simp only[pT,Q8,zn,c,d,g,zi];have⟨e1,e2⟩:=Sn h;have es:tZ (s.1,s.2.1,s.q.1,s.r.1,s.t.1,s.u.1,s.v.1,s.w.1,s.x.1,s.y.1,s.z.1,s.s.1,s.p)=Z:=e1;rw[zf es];refine⟨_,rfl,Ft (su s).1 (s.1,s.2.1,[],[],s.t.1,s.u.1,s.v.1,s.w.1,s.x.1,[],[],gz,[]) (su s).2 ?_ S (gG h (.inr rfl) (.inl rfl) (.inl rfl) (.inl rfl) (.inl rfl) (.inr rfl) (.inr rfl) (.inr rfl))⟩;have⟨s1,s2,s3,s4,s5,s6,s7,s8,⟨E,F,G,H⟩,i,j,⟨P,U,g3,g4⟩,k⟩:=s;rfl
 by_cases l:(s.1==bl1)=Z
 .refine md ?_;simp only[pT,Q8,zn,c,d,g,l,zi,zA,zm];rw[zf (zC sg)];exact⟨_,rfl,Ft _ (s.1,s.2.1,[],[],[],[],[],[],gz,[],[],gz,[]) Z rfl sg (gG h (.inr rfl) (.inr rfl) (.inr rfl) (.inr rfl) (.inr rfl) (.inr rfl) (.inr rfl) (.inr rfl))⟩
 by_cases A:(s.1==bl3)=Z
 .refine Hw ?_ (zzY h);simp_all[pT,Q8,zn]
 by_cases B:(s.1==ND)=Z
 .refine Hw ?_ (zzZ h (nU nc s.s.1) (da s.s.1) d3);simp_all[pT,Q8,zn]
 by_cases C:(s.1==bl0)=Z
 .refine md ?_;simp only[pT,Q8,zn,c,d,g,l,A,B,C,zi,zA,zm];rw[D,zf (zC sg),zf (zC sg)];refine⟨_,rfl,Ft (zes++s.2.1++nU nc s.s.1) (s.1,s.2.1,[],[],[],[],[],[],gz,[],[],s.s.1,[]) (da s.s.1) ?_ ?_ (gG h (.inr rfl) (.inr rfl) (.inr rfl) (.inr rfl) (.inr rfl) (.inr rfl) (.inr rfl) (.inl rfl))⟩;rotate_left 2
  .have⟨s1,s2,s3,s4,s5,s6,s7,s8,⟨E,F,G,H⟩,i,j,⟨P,U,g3,g4⟩,k⟩:=s;rfl
  .simp;omega
 by_cases q5:(s.1==KJ)=Z
 .refine md ?_;simp only[pT,Q8,zn,c,d,g,l,A,B,C,q5,zi,zA,zm];rw[D,zf (zC sg),zf (zC sg)];refine⟨_,rfl,Ft (zeB++s.2.1++nU nc s.s.1) (s.1,s.2.1,[],[],[],[],[],[],gz,[],[],s.s.1,[]) (da s.s.1) ?_ ?_ (gG h (.inr rfl) (.inr rfl) (.inr rfl) (.inr rfl) (.inr rfl) (.inr rfl) (.inr rfl) (.inl rfl))⟩;rotate_left 2
  .have⟨s1,s2,s3,s4,s5,s6,s7,s8,⟨E,F,G,H⟩,i,j,⟨P,U,g3,g4⟩,k⟩:=s;rfl
  .simp;omega
 by_cases q9:(s.1==bl9)=Z;rotate_left;by_cases m:(s.1==QS)=Z;rotate_left;by_cases n:(s.1==QQ)=Z;rotate_left;by_cases o:(s.1==QR)=Z;rotate_left
 .refine md ?_;simp only[pT,Q8,zn,c,d,g,l,A,B,C,q5,q6,q7,q8,q9,m,n,o,zi,zA,zm];exact⟨_,rfl,Ft _ (s.1,s.2.1,[],[],[],[],[],[],gz,[],[],gz,[]) M rfl sw (gG h (.inr rfl) (.inr rfl) (.inr rfl) (.inr rfl) (.inr rfl) (.inr rfl) (.inr rfl) (.inr rfl))⟩
 all_goals
  refine md ?_;simp only[pT,Q8,zn, *,zi,zA,zm];rw[zf (zC sg),zf (zC sg),zf (zC sg),zf (cI (s:=s.p) S)];exact⟨_,rfl,Ft _ (s.1,s.2.1,[],[],[],[],[],[],gz,[],[],gz,s.p) (cg s.p) rfl sg (gG h (.inr rfl) (.inr rfl) (.inr rfl) (.inr rfl) (.inr rfl) (.inr rfl) (.inr rfl) (.inr rfl))⟩
theorem zjF(p:Int->Bool):∀s:zN,dR p s=N s↔∀c∈s,p c.toNat=Z
 |[]=>by simp[dR]
 | c::r=>by
  have a:=C4 p r;have x:=zjF p r;rw[dR];by_cases h:p c.toNat=Z
  .rw[zf h];simp[h,x]
  .rw[zh h];simp[h]
theorem zzL(p:Int->Bool)(s:zN):bJ p p s=N s↔∀c∈s,p c.toNat=Z:=by
 cases s with
 |nil=>simp[bJ]
 | cons c r=>
  have a:=C4 p r;have x:=zjF p r;rw[bJ];by_cases h:p c.toNat=Z
  .rw[zf h];simp[h,x]
  .rw[zh h];simp[h]
theorem zgl:∀s:zN,(cond ((N s:Int)==1) (K (0<=Lib.indexByte zmB (List.headD s 0))) M)=
  (cond (s==[40]) Z (cond (s==[41]) Z (cond (s==[44]) Z (cond (s==[61]) Z (cond (s==[60]) Z (cond (s==[43]) Z (cond (s==[45]) Z (s==[42]))))))))
 |[]=>rfl
 | a::b::r=>by
  have e:((((a::b::r).length:Nat):Int)==1)=M:=dM.2 sg;rw[e];simp
 | [c]=>by
  by_cases h:c=40
  .subst h;rfl
  by_cases x:c=41
  .subst x;rfl
  by_cases d:c=44
  .subst d;rfl
  by_cases g:c=61
  .subst g;rfl
  by_cases i:c=60
  .subst i;rfl
  by_cases j:c=43
  .subst j;rfl
  by_cases k:c=45
  .subst k;rfl
  by_cases l:c=42
  .subst l;rfl
  simp[Lib.indexByte,h,x,d,g,i,j,k,l,Ne.symm h,Ne.symm x,Ne.symm d,Ne.symm g,Ne.symm i,Ne.symm j,Ne.symm k,Ne.symm l]
variable {t:dC}
theorem PF(x:N t.2<=1000000):Me t=Y (dJ t,()):=by
 have⟨k,s⟩:=t;have x:N s<=1000000:=x;by_cases m:k=(1:Int)
 .subst m;refine zQ (r:=(.bool (eS s),[])) ?_ ?_
  .simp only[Oz,Q8,Bg x,GA x];rfl
  .rfl
 by_cases n:k=(2:Int)
 .subst n;have a:(Oz ((2,s):dC)).val=Y (.inl (.h6 ((0:Nat):Int) ((2,s),()))):=rfl;have E:=nP (t:=yJ) (Φ:=λr=>r=(.kb M,[])) 1 (λi=>.h6 (i:Int) ((2,s),())) (λi=>aE (T s i 0).toNat=Z) (N s) (by
   intro i a _;have w:(yJ (.h6 (i:Int) ((2,s),()))).val=if(!aE (T s i 0).toNat)=Z then Y (.inr (.kb M,[]))else Y (.inl (.h6 ((i+1:Nat):Int) ((2,s),()))):=by
    show(yJ (.h6 _ _)).val=_;unfold yJ;simp only[Q8,zM a,zu a,aI,kg,lY,zi];rw[zt i um]
   by_cases h:aE (T s i 0).toNat=Z
   .exact .inl ⟨h,zG.of (by rw[w,zh (by rw[h];simp)])⟩
   .exact .inr ⟨h,_,zV.of (by rw[w,zf (by simpa using h)]),rfl⟩)
  have q:=aT (l:=s) (d:=0) (Q:=λc=>aE c.toNat=Z);have u:=zzL aE s;have j:dJ ((2,s):dC)=(cond (K ((N s:Int)>=1)) (cond (K ((N s:Int)<=19)) ((bJ aE aE s:Int)==(N s:Int)) M) M):=rfl;rw[j];rcases E with⟨b,g⟩|⟨b,r,g,rfl⟩
  .have e:((bJ aE aE s:Int)==(N s:Int))=Z:=by rw[u.2 (q.1 b)];simp
   rw[e];refine zz a (g.ends (zV.of (r:=(.bool (cond (K (1<=(N s:Int))) (K ((N s:Int)<=19)) M),[])) ?_)) S ?_
   .show(yJ (.h6 _ _)).val=_;unfold yJ;simp only[Q8,zJ];rfl
   .show Y _=Y _;rw[show K ((N s:Int)>=1)=K (1<=(N s:Int))from rfl];cases K ((N s:Int)<=19)<;>rfl
  .have e:((bJ aE aE s:Int)==(N s:Int))=M:=by
    rw[dM];intro h;exact b (q.2 (u.1 S))
   rw[e];refine zz a g S ?_;show Y _=Y _;cases K ((N s:Int)>=1)<;>cases K ((N s:Int)<=19)<;>rfl
 by_cases y:k=(3:Int)
 .subst y;refine zQ (r:=(.bool (bg (2,0,s)),[])) ?_ ?_
  .simp only[Oz,Q8,mH (v:=(2,0,s)) x,qi (v:=(2,0,s)) x];rfl
  .rfl
 by_cases z:k=(4:Int)
 .subst z;have F:=zgl s;refine zQ (r:=(.bool _,[])) rfl ?_;show Y _=Y _;rw[show dJ ((4,s):dC)=_ from F]
 have A:(k==1)=M:=dM.2 m;have B:(k==2)=M:=dM.2 n;have o:(k==3)=M:=dM.2 y;have p:(k==4)=M:=dM.2 z;have C:((1:Int)==k)=M:=dM.2 (Ne.symm m);have D:((2:Int)==k)=M:=dM.2 (Ne.symm n);have j:dJ ((k,s):dC)=M:=by
  unfold dJ;simp[o,p,C,D]
 rw[j];refine zQ (r:=(.kb M,[])) ?_ rfl;simp only[Oz,Q8,A,B,o,p];rfl
theorem yf(h:N t.2<=1000000):oe t=Z:=by unfold oe;rw[PF h];rfl
theorem Dt(h:N t.2<=1000000):vo t=dJ t:=by unfold vo;rw[PF h];rfl
abbrev wH:=dK
abbrev hd3(s:zN)(i:Int)(o:wH):kC:=.h3 s i o
abbrev ZM(s:zN)(i c f:Int)(z:zq [CP.d zI])(o:wH):kC:=.h11 s i c f z o
abbrev ZN(s:zN)(i c f:Int)(z:zq [CP.d zI])(o:wH):kC:=.h15 s i c f z o
abbrev RO(s:zN)(i:Int)(z:zq [CP.d zI])(o:wH):kC:=.h20 s i z o
abbrev rNo:ay:=(.tup [.nils,.kb M],[])
def X3(r:ay)(b:Bool):Prop:=∃l,aX r.2 [Sh.sl zI,Q7] r.1=Y (l,b,())
theorem zbM:X3 rNo M:=⟨[],rfl⟩
def QK(s:zN)(j:Nat)(t:dC)(o:wH):kC⊕ay:=if dJ t=Z then .inl (hd3 s (j:Int) (o++[t]))else .inr rNo
theorem yP(s:zN)(h:j<N s):Qg (((j+1:Nat):Int).toNat-(j:Int).toNat) (Qh (j:Int).toNat s)=[s[j]]:=by rw[aI,aI,show j+1-j=1 by omega,gF h];rfl
theorem v20{acc:zN}(E:N w<=1000000)(a:j<N w)(s:N acc<=1000000):∀{o:wH},N o<=1000000->(iE (RO w (j:Int) ((3,acc),()) o)).val=Y (
  if w[j]≠39 then .inl (RO w ((j+1:Nat):Int) ((3,acc++[w[j]]),()) o)
  else if w[j+1]?=Y 39 then .inl (RO w ((j+2:Nat):Int) ((3,acc++[39]),()) o)
  else QK w (j+1) (3,acc) o):=by
 intro o C;have l:Γ Δ ((j:Int)+1)=((j+1:Nat):Int):=zt j um;have n:Γ Δ (((j+1:Nat):Int)+1)=((j+2:Nat):Int):=zt (j+1) um;have p:(K (0<=(j:Int))&&K ((j:Int)<=((j+1:Nat):Int))&&K (((j+1:Nat):Int)<=(N w:Int)))=Z:=by simp;omega
 have D:K ((N w:Int)<=(j:Int))=M:=aC S;have A:K ((j:Int)>=(N w:Int))=M:=aC S;have B:vo ((3,acc):cC)=dJ ((3,acc):dC):=Dt (t:=((3,acc):dC)) s;have i:oe ((3,acc):cC)=Z:=yf (t:=((3,acc):dC)) s;have q:(N acc+[w[j]].length<=1099511627776):=by simp;omega
 by_cases c:w[j]=39
 .have b:((↑w[j].toNat:Int)!=39)=M:=by simp[bne,uF.2 c]
  have d:((↑w[j].toNat:Int)==39)=Z:=uF.2 c;by_cases g:w[j+1]?=Y 39
  .have⟨x,v⟩:=dF.1 g;have u:((↑w[j+1].toNat:Int)==39)=Z:=uF.2 v;have y:K (((j+1:Nat):Int)<(N w:Int))=Z:=zC S;rw[zh (by simpa using c),zf g];show(iE (.h20 _ _ _ _)).val=_;simp only[iE,l,n,iz w a,yP w a,zM a,zu a,zu x,y,b,d,u,iz w x,Q8,aG,aJ,eW,zi,p,zC q];rw[c]
  .rw[zh (by simpa using c),zh g];have e:(cond (K (((j+1:Nat):Int)<(N w:Int))) ((↑(T w ((j+1:Nat):Int).toNat 0).toNat:Int)==39) M)=M:=by
    by_cases x:j+1<N w
    .rw[zC S,iz w x];simp only[aG];rw[<-iW,uF];intro h;exact g (dF.2 ⟨x,h⟩)
    .rw[aC S];rfl
   have z:(cond (K (((j+1:Nat):Int)<(N w:Int))) (zK ((j+1:Nat):Int) (N w)) Z)=Z:=by
    by_cases x:j+1<N w
    .rw[zu x];cases K (((j+1:Nat):Int)<(N w:Int))<;>rfl
    .rw[aC S];rfl
   unfold QK;have k:(N o+[((3,acc):cC)].length<=1073741824):=by have:N o<=1000000:=C;simp;omega
   show(iE (.h20 _ _ _ _)).val=_;simp only[iE,l,n,iz w a,yP w a,zM a,zu a,b,d,e,z,Q8,aG,aJ,eW,zi,zA,zm,A,i,B,zC k];by_cases m:dJ ((3,acc):dC)=Z
   .simp[m]
   .simp[m]
 .have b:((↑w[j].toNat:Int)!=39)=Z:=by simp only[bne,uP];rw[<-iW,uF];exact c
  have d:((↑w[j].toNat:Int)==39)=M:=by rw[<-iW,uF];exact c
  rw[zf c];show(iE (.h20 _ _ _ _)).val=_;simp only[iE,l,n,iz w a,yP w a,zM a,zu a,b,d,Q8,aG,eW,zi,zA,zm,p,zC q]
theorem zzX{d:zN}:∀{o:wH},(iE (RO w (N w:Int) ((3,d),()) o)).val=Y (.inr rNo):=by intro o;have g:K ((N w:Int)>=(N w:Int))=Z:=zC (Int.le_refl _);show(iE (.h20 _ _ _ _)).val=_;simp only[iE,zJ,Q8,aJ,zi,zA,zm,g]
theorem l20{w:zN}{o:wH}(p:N w<=1000000)(q:N o<=1000000):∀(n j:Nat)(acc:zN),N w-j<=n->j<=N w->N acc<=j->
  (fT (w.drop j)=Q2->zV iE (n+1) (RO w (j:Int) ((3,acc),()) o) rNo)/\
  (∀t k,fT (w.drop j)=Y (t,k)->∀K r,(match QK w (j+k) (3,acc++t) o with|.inl h=>zV iE K h r|.inr y=>y=r)->zV iE (K+k) (RO w (j:Int) ((3,acc),()) o) r)
 | n, j,acc,C,B,A=>by
  by_cases e:j<N w
  .have x:=v20 (o:=o) (acc:=acc) p e S q;rw[gF e];by_cases c:w[j]=39
   .rw[zh (by simpa using c)]at x;by_cases g:w[j+1]?=Y 39
    .rw[zf g]at x;have⟨l,z⟩:=dF.1 g;obtain⟨n,rfl⟩:∃m,n=m+1:=⟨n-1,S⟩;have⟨s,u⟩:=l20 p q n (j+2) (acc++[39]) S S sg;rw[gF l,c,z,P4,show j+1+1=j+2 from rfl];refine⟨λh=>?_,λt k h K r a=>?_⟩
     .rw[Option.map_eq_none_iff]at h;exact((zG.of x).ends (s h))
     .rw[dV]at h;have⟨⟨v,b⟩,i,d⟩:=h;simp only[cQ]at d;obtain⟨rfl,rfl⟩:=d;have:=u v b i K r (by rw[D4];rw[show j+2+b=j+(b+2) by omega];exact a);exact((zG.of x).ends this).mono S
    .rw[zh g]at x;rw[c,G6 _ (by rw[List.head?_drop];exact g)];refine⟨λh=>(by cases h),λt k h K r a=>?_⟩;simp only[bH,cQ]at h;obtain⟨rfl,rfl⟩:=h;rw[rx]at a;revert x a;cases QK w (j+1) (3,acc) o with
     |inl h=>intro x a;exact(zG.of x).ends a
     |inr y=>intro x a;cases a;exact(zV.of x).mono S
   .rw[zf c]at x;obtain⟨n,rfl⟩:∃m,n=m+1:=⟨n-1,S⟩;have⟨s,u⟩:=l20 p q n (j+1) (acc++[w[j]]) S S sg;rw[Ke c];refine⟨λh=>?_,λt k h K r a=>?_⟩
    .rw[Option.map_eq_none_iff]at h;exact((zG.of x).ends (s h))
    .rw[dV]at h;have⟨⟨v,b⟩,i,d⟩:=h;simp only[cQ]at d;obtain⟨rfl,rfl⟩:=d;have:=u v b i K r (by rw[D4];rw[show j+1+b=j+(b+1) by omega];exact a);exact((zG.of x).ends this).mono S
  .obtain rfl:j=N w:=by omega
   rw[kE];exact⟨λ_=>(zV.of zzX).mono S,λt k h=>(by simp[fT]at h)⟩
variable {z:zq [CP.d zI]}
theorem zzU{c f:Int}(x:N w<=1000000)(h:j<N w)(a:cB w[j].toNat=Z):∀{o:wH},(iE (ZM w (j:Int) c f z o)).val=Y (.inl (ZM w ((j+1:Nat):Int) c f z o)):=by grind[zt,aF,Q8,iE,Bh,GD,zu]
variable {c:UInt8}
theorem zzT{f:Nat}(u:N w<=1000000)(s:j<=N w)(q:f<=j)(v:∀h:j<N w,cB w[j].toNat=M)(i:aE c.toNat=M)(k:c≠39):
  ∀{o:wH},N o<=1000000->(iE (ZM w (j:Int) (c.toNat:Int) (f:Int) z o)).val=Y (QK w j (1,Qg (j-f) (Qh f w)) o):=by
 intro o n;have e:(cond (K ((j:Int)<(N w:Int))) (zK (j:Int) (N w)&&yi (↑(T w (j:Int).toNat 0).toNat:Int)) Z)=Z:=by
  by_cases h:j<N w
  .grind[zu,Bh]
  .rw[aC S];rfl
 have a:(cond (K ((j:Int)<(N w:Int))) (GC (↑(T w (j:Int).toNat 0).toNat:Int)) M)=M:=by
  by_cases h:j<N w
  .grind[GD]
  .rw[aC S];rfl
 have g:(K (0<=(f:Int))&&K ((f:Int)<=(j:Int))&&K ((j:Int)<=(N w:Int)))=Z:=by simp;omega
 have b:((c.toNat:Int)==39)=M:=by rw[<-iW,uF];exact k
 have x:(Qg (j-f) (Qh f w)).length<=1000000:=by simp;omega
 have p:vo ((1,Qg (j-f) (Qh f w)):cC)=dJ (1,Qg (j-f) (Qh f w)):=Dt (t:=((1,Qg (j-f) (Qh f w)):dC)) x;have l:oe ((1,Qg (j-f) (Qh f w)):cC)=Z:=yf (t:=((1,Qg (j-f) (Qh f w)):dC)) x;unfold QK;have m:(N o+[((1,Qg (j-f) (Qh f w)):cC)].length<=1073741824):=by have:N o<=1000000:=n;simp;omega
 show(iE (.h11 _ _ _ _ _ _)).val=_;simp only[iE,e,a,g,kg,lY,i,b,Q8,zi,zA,zm];grind
theorem zzW{c f:Int}(x:N w<=1000000)(h:j<N w)(a:aE w[j].toNat=Z):∀{o:wH},(iE (ZN w (j:Int) c f z o)).val=Y (.inl (ZN w ((j+1:Nat):Int) c f z o)):=by grind[zt,aF,Q8,iE,kg,lY,zu]
theorem zzV{f:Nat}(s:N w<=1000000)(q:j<=N w)(p:f<=j)(u:∀h:j<N w,aE w[j].toNat=M)(l:c≠39):
  ∀{o:wH},N o<=1000000->(iE (ZN w (j:Int) (c.toNat:Int) (f:Int) z o)).val=Y (QK w j (2,Qg (j-f) (Qh f w)) o):=by
 intro o n;have g:(cond (K ((j:Int)<(N w:Int))) (zK (j:Int) (N w)&&kP (↑(T w (j:Int).toNat 0).toNat:Int)) Z)=Z:=by
  by_cases h:j<N w
  .grind[zu,kg]
  .rw[aC S];rfl
 have i:(cond (K ((j:Int)<(N w:Int))) (lK (↑(T w (j:Int).toNat 0).toNat:Int)) M)=M:=by
  by_cases h:j<N w
  .grind[lY]
  .rw[aC S];rfl
 have k:(K (0<=(f:Int))&&K ((f:Int)<=(j:Int))&&K ((j:Int)<=(N w:Int)))=Z:=by simp;omega
 have e:((c.toNat:Int)==39)=M:=by rw[<-iW,uF];exact l
 have x:(Qg (j-f) (Qh f w)).length<=1000000:=by simp;omega
 have m:vo ((2,Qg (j-f) (Qh f w)):cC)=dJ (2,Qg (j-f) (Qh f w)):=Dt (t:=((2,Qg (j-f) (Qh f w)):dC)) x;have a:oe ((2,Qg (j-f) (Qh f w)):cC)=Z:=yf (t:=((2,Qg (j-f) (Qh f w)):dC)) x;unfold QK;have b:(N o+[((2,Qg (j-f) (Qh f w)):cC)].length<=1073741824):=by have:N o<=1000000:=n;simp;omega
 show(iE (.h15 _ _ _ _ _ _)).val=_;simp only[iE,g,i,k,e,Q8,zi,zA,zm];simp only[aI,a,m,zC b,zi];grind
theorem Lj{p:Int->Bool}{s:zN}(a:Nat->kC)(c:∀j(g:j<N s),p s[j].toNat=Z->(iE (a j)).val=Y (.inl (a (j+1)))):∀(n j:Nat),N s-j<=n->j<=N s->
  zG iE (dR p (s.drop j)) (a j) (a (j+dR p (s.drop j)))/\j+dR p (s.drop j)<=N s/\∀h:j+dR p (s.drop j)<N s,p s[j+dR p (s.drop j)].toNat=M
 | n,j,k,g=>by
  by_cases x:j<N s
  .by_cases b:p s[j].toNat=Z
   .obtain⟨n,rfl⟩:∃m,n=m+1:=⟨n-1,S⟩;have e:dR p (s.drop j)=dR p (s.drop (j+1))+1:=by rw[gF x,dR,zf b]
    have⟨i,l,o⟩:=Lj a c n (j+1) S S;have d:j+dR p (s.drop j)=j+1+dR p (s.drop (j+1)):=by omega
    refine⟨?_,S,?_⟩
    .rw[d,e];exact((zG.of (c j x b)).trans i).mono S
    simp_all
   grind[dR,List.drop_eq_getElem_cons,zG.refl]
  grind[dR,zG.refl]
theorem v3(i:N w<=1000000)(h:j<N w):∀{o:wH},N o<=1000000->∃z,(iE (hd3 w (j:Int) o)).val=Y (
  if(cond ((w[j].toNat:Int)==32) Z ((w[j].toNat:Int)==10))=Z then .inl (hd3 w ((j+1:Nat):Int) o)
  else if bq w[j].toNat=Z then .inl (ZM w ((j+1:Nat):Int) w[j].toNat j z o)
  else if aE w[j].toNat=Z then .inl (ZN w ((j+1:Nat):Int) w[j].toNat j z o)
  else if w[j]=39 then .inl (RO w ((j+1:Nat):Int) ((3,[]),()) o)
  else QK w (j+1) (4,[w[j]]) o):=by
 intro o d;refine⟨((4,[w[j]]),()),?_⟩;have e:Γ Δ ((j:Int)+1)=((j+1:Nat):Int):=zt j um;have g:(K (0<=(j:Int))&&K ((j:Int)<=((j+1:Nat):Int))&&K (((j+1:Nat):Int)<=(N w:Int)))=Z:=by simp;omega
 have c:vo ((4,[w[j]]):cC)=dJ (4,[w[j]]):=Dt (t:=((4,[w[j]]):dC)) sw;have a:oe ((4,[w[j]]):cC)=Z:=yf (t:=((4,[w[j]]):dC)) sw;have x:w[j]=39↔((w[j].toNat:Int)==39)=Z:=uF.symm;unfold QK;simp only[x];have b:(N o+[((4,[w[j]]):cC)].length<=1073741824):=by have:N o<=1000000:=d;simp;omega
 show(iE (.h3 _ _ _)).val=_;simp only[iE,e,iz w h,yP w h,zM h,zu h,g,sD,wv,kg,lY,Q8,zi,a,c,zC b];repeat' split
 all_goals first|rfl|simp_all
theorem WN(h:bq c.toNat=Z):aE c.toNat=M/\c≠39:=by
 have x:bq ((39:UInt8).toNat:Int)=M:=rfl;constructor
 .grind[bq,aE]
 .rintro rfl;rw[x]at h;cases h
theorem YJ(h:aE c.toNat=Z):c≠39:=by have x:aE ((39:UInt8).toNat:Int)=M:=rfl;rintro rfl;rw[x]at h;cases h
theorem Gz{s:zN}(l:Io s<=1000000):∀(n i:Nat)(o:wH),Io s+1<=n+i->i<=Io s->Io o<=i->∃r,zV iE (3*(Io s-i)+3) (hd3 s (i:Int) o) r/\X3 r (Af n (s.drop i) (Io o))
 |0,i,o,h1,h2,h3=>by omega
 | n + 1,i,o,h1,h2,h3=>by
  by_cases C:i<N s
  .have⟨z,b⟩:=v3 (o:=o) l C ow;rw[gF C,Af];have g:Qh i s=s[i]::Qh (i+1) s:=gF C;have next:∀(j:Nat)(t:dC),i<j->j<=Io s->∃r,(match QK s j t o with|.inl h=>zV iE (3*(Io s-j)+3) h r|.inr w=>w=r)/\X3 r (ite (dJ t=Q3) (Af n (s.drop j) (Io o+1)) Q4):=by
    intro j t h0 E;unfold QK;by_cases m:dJ t=Z
    .rw[zf m,zf m];have⟨r,a,q⟩:=Gz l n j (o++[t]) S E sg;grind
    .grind[zbM]
   by_cases P:(cond ((s[i].toNat:Int)==32) Z ((s[i].toNat:Int)==10))=Z
   .rw[zf P]at b|-;have⟨r,a,q⟩:=Gz l n (i+1) o S S S;exact⟨r,((zG.of b).ends a).mono S,q⟩
   .rw[zh P]at b|-;unfold rP;by_cases A:bq s[i].toNat=Q3
    .rw[zf A]at b|-;have⟨b1,y⟩:=WN A;have⟨u,v,H⟩:=Lj (p:=cB) (s:=s) (λj=>ZM s (j:Int) (s[i].toNat:Int) (i:Int) z o) (λj D F=>zzU l D F) (N s) (i+1) S S;have d:=zzT (z:=z) (c:=s[i]) (f:=i) l v S H b1 y (o:=o) S;rw[show i+1+dR cB (Qh (i+1) s)-i=dR cB (Qh (i+1) s)+1 by omega,g]at d;have⟨r,a,q⟩:=next (i+1+dR cB (Qh (i+1) s)) (1,(s[i]::Qh (i+1) s).take (dR cB (Qh (i+1) s)+1)) S v
     refine⟨r,?_,?_⟩
     .revert d a;cases QK s (i+1+dR cB (Qh (i+1) s)) (1,(s[i]::Qh (i+1) s).take (dR cB (Qh (i+1) s)+1)) o with
      |inl h=>intro d a;exact(((zG.of b).trans u).ends ((zG.of d).ends a)).mono S
      |inr w=>intro d a;cases a;exact(((zG.of b).trans u).ends (zV.of d)).mono S
     grind[List.drop_drop]
    .rw[zh A]at b|-;by_cases B:aE s[i].toNat=Q3
     .rw[zf B]at b|-;have y:=YJ B;have⟨u,v,H⟩:=Lj (p:=aE) (s:=s) (λj=>ZN s (j:Int) (s[i].toNat:Int) (i:Int) z o) (λj D F=>zzW l D F) (N s) (i+1) S S;have d:=zzV (z:=z) (c:=s[i]) (f:=i) l v S H y (o:=o) S;rw[show i+1+dR aE (Qh (i+1) s)-i=dR aE (Qh (i+1) s)+1 by omega,g]at d;have⟨r,a,q⟩:=next (i+1+dR aE (Qh (i+1) s)) (2,(s[i]::Qh (i+1) s).take (dR aE (Qh (i+1) s)+1)) S v
      refine⟨r,?_,?_⟩
      .revert d a;cases QK s (i+1+dR aE (Qh (i+1) s)) (2,(s[i]::Qh (i+1) s).take (dR aE (Qh (i+1) s)+1)) o with
       |inl h=>intro d a;exact(((zG.of b).trans u).ends ((zG.of d).ends a)).mono S
       |inr w=>intro d a;cases a;exact(((zG.of b).trans u).ends (zV.of d)).mono S
      grind[List.drop_drop]
     .rw[zh B]at b|-;by_cases U:s[i]=39
      .rw[zf U]at b|-;have⟨q1,q2⟩:=l20 (o:=o) l S (N s-(i+1)) (i+1) [] (zR _) S sw;cases G:fT (Qh (i+1) s)with
       | none=>
        have hm:dJ ((0,[]):dC)=M:=rfl;simp only[hm,zA,zm];exact⟨rNo,((zG.of b).ends (q1 G)).mono S,zbM⟩
       | some x=>
        have⟨t,k⟩:=x;have⟨k1,k2,_⟩:=uo _ _ _ _ (zR _) G;have k2:k<=N s-(i+1):=by simpa using k2
        have⟨r,a,q⟩:=next (i+1+k) (3,t) S S
        refine⟨r,((zG.of b).ends (q2 t k G _ r a)).mono S,?_⟩;simp_all
      .rw[zh U]at b|-;have⟨r,a,q⟩:=next (i+1) (4,[s[i]]) S S
       refine⟨r,?_,q⟩;revert b a;cases QK s (i+1) (4,[s[i]]) o with
       |inl h=>intro b a;exact((zG.of b).ends a).mono S
       |inr w=>intro b a;cases a;exact(zV.of b).mono S
  .obtain rfl:i=N s:=by omega
   rw[kE,Af];refine⟨(.tup [.vec 0,.bool (K ((N o:Int)<=400))],[.vec zI o]),(zV.of ?_).mono S,o,?_⟩
   .grind[Q8,iE]
   .have e:K ((N o:Int)<=400)=K (N o<=400):=by
     by_cases h:N o<=400
     .rw[zC h];exact zC S
     .rw[aC h];exact aC S
    rw[e];rfl
theorem PE{s:zN}(c:N s<=1000000):∃l,Md s=Y (l,(cut s).2==(0:Int),()):=by have⟨r,h,l,x⟩:=Gz c (N s+1) 0 [] S S sw;have a:=En (N s+1) s 0 [] S S S sw;have b:((cut s).2==(0:Int))=Af (N s+1) (s.drop 0) ([]:dK).length:=a;refine⟨l,?_⟩;rw[b];exact zz (s:=hd3 s ((0:Nat):Int) []) rfl h S x
theorem zbF{s:zN}(x:N s<=1000000):Mc s=Z:=by have⟨l,h⟩:=PE x;unfold Mc;rw[h];rfl
theorem zf2{s:zN}(x:N s<=1000000):(Cg s).2=((cut s).2==(0:Int)):=by have⟨l,h⟩:=PE x;unfold Cg;rw[h];rfl
end Cad
