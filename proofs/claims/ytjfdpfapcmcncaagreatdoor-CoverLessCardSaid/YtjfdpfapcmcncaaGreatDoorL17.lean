/- Few of anything: always an answer, and a short one. Bases that may be. Plans: the whole: always an answer, and what one that is made has. -/
import Derived.Test.YtjfdpfapcmcncaaGreatDoorL16
import Derived.Test.YtjfdpfapcmcncaaGreatDoorL08
import Derived.Test.YtjfdpfapcmcncaaGreatDoorL09
import Derived.Test.YtjfdpfapcmcncaaGreatDoorL14
import Derived.Maps.RangeWalk
import Derived.LoopTactic
import Derived.Shelf.SlSortCmp.NoneTotal
namespace Cad
open Go Go.Proofs
open Tr renaming chk→Qc,«to»→Q9,val→Q8
open AV renaming nils→Qb
open AO renaming box→Qa
open Sh renaming str→Q6,expr→Q5
open Bool renaming false→Q4,true→Q3
open Option renaming some→Q1
open Decidable renaming decide→Q0
open Int (toNat)
open List (getD length)
open Tr (chk br re)
open AV (nils agg tup ptr kb str sl)
noncomputable section
set_option maxHeartbeats 4000000
def GY(l rows:List (Sem (.sl zf))):Prop:=rows.length<=201/\∀r∈rows,∃r0∈l,r=lX r0
theorem zoJ(n:Nat)(i4:Int)(hi4:i4<=201)(h0:0<=i4)(z0:zn cpR)(z1:zn zfc)(t:Sem zp)(hn:300<=n):∃rows:List (Sem (.sl zf)),GY z0.1.2 rows/\∃r,da RX n (.h6 i4 0 z0 z1 (t,[],()))=Q1 r/\aM r.2 [zh] r.1=Q1 (((t,rows):Sem zh),()):=by
 obtain⟨N,hN⟩:∃N:Nat,i4=(N:Int):=⟨toNat i4,ow⟩;have h:=dr (t:=RX) (β:=List (Sem (.sl zf))) (min N (length z0.1.2)) (λb i=>.h6 i4 (i:Int) z0 z1 (t,b,())) (λb i=>b.length=i/\∀r∈b,∃r0∈z0.1.2,r=lX r0) (λr=>∃rows:List (Sem (.sl zf)),GY z0.1.2 rows/\aM r.2 [zh] r.1=Q1 (((t,rows):Sem zh),())) 1 (by
   intro b i hi hb;have h1:(i:Int)<(length z0.1.2:Int):=by omega
   have h2:(i:Int)<i4:=by omega
   have h3:zO (i:Int) (length z0.1.2)=Q3:=zw ow;refine Or.inl ⟨b++[lX (getD z0.1.2 (i:Int).toNat (zj zf.sl))],⟨by simp[hb.1],λr hr=>?_⟩,?_⟩
   ·rcases cQ.1 hr with hr|hr
    ·exact hb.2 r hr
    ·rw[gn]at hr;refine⟨_,?_,hr⟩;rw[aK,ba,zQ ow,dp];exact bG _
   simp only[RX,Q8,zu h1,zu h2,zZ,if_true,h3];rw[zr i um,if_pos sg]) (by
   intro b n hb hn;obtain⟨n,rfl⟩:∃k,n=k+1:=⟨n-1,ow⟩;rw[cL];have hf:(bif Q0 (((min N (length z0.1.2):Nat):Int)<(length z0.1.2:Int))then Q0 (((min N (length z0.1.2):Nat):Int)<i4)else Q4)=Q4:=by
    by_cases h:N<=length z0.1.2
    ·rw[Fd h,hN];simp
    ·rw[Fc ow];simp
   simp only[RX,Q8,hf];refine⟨_,rfl,b,⟨by have:=hb.1;omega,hb.2⟩,?_⟩;obtain⟨t0,t1,t2,t3,t4,t5⟩:=t;cases t5;rfl) (min N (length z0.1.2)) 0 [] n rfl (aY _) ⟨rfl,sw⟩ ow
 obtain⟨r,h1,rows,h2,h3⟩:=h;exact⟨rows,h2,r,h1,h3⟩
theorem KE(x:Sem zh):∃rows:List (Sem (.sl zf)),GY x.2 rows/\CO x=Q1 (((Eh x.1,rows):Sem zh),()):=by
 have e:Eh (x.1.1,x.1.2.1,x.1.2.2.1,x.1.2.2.2.1,x.1.t.1,zm x.1.t.2)=Eh x.1:=by rw[zk]
 have hv:∃k:Int,0<=k/\k<=201/\(zfH x).val=Q1 (.inl (.h6 k 0 (x,()) ([],0,[],0,0,[],[],()) (Eh x.1,[],()))):=by
  simp only[zfH,Q8,e];split
  ·exact⟨201,ow,ow,rfl⟩
  ·exact⟨40,ow,ow,rfl⟩
 obtain⟨k,k1,k2,hv⟩:=hv;obtain⟨rows,h1,r,h2,h3⟩:=zoJ 100000000 k k2 k1 (x,()) ([],0,[],0,0,[],[],()) (Eh x.1) ow;refine⟨rows,h1,?_⟩;unfold CO ah de;rw[hv];show(da RX 100000000 _).bind _=_;rw[h2];exact h3
theorem KD(x:Sem zh):M7 x=Q3:=by
 obtain⟨rows,h1,h2⟩:=KE x;unfold M7;rw[h2];rfl
theorem UZ(db:List (Sem zh)):∃db':List (Sem zh),CQ db=Q1 (db',())/\db'.length<=13/\∀x∈db',∃y∈db,x=yS y:=by
 have h:=dr (t:=t7p) (β:=List (Sem zh)) (min 13 db.length) (λb i=>.h3 db (i:Int) b) (λb i=>b.length=i/\∀x∈b,∃y∈db,x=yS y) (λr=>∃db':List (Sem zh),aM r.2 [zh.sl] r.1=Q1 (db',())/\db'.length<=13/\∀x∈db',∃y∈db,x=yS y) 1 (by
   intro b i hi hb;have h1:(i:Int)<(db.length:Int):=by omega
   have h2:(i:Int)<13:=by omega
   have h3:zO (i:Int) db.length=Q3:=zw ow;refine Or.inl ⟨b++[yS (db.getD (i:Int).toNat (zj zh))],⟨by simp[hb.1],?_⟩,?_⟩
   ·intro x hx;rcases cQ.1 hx with hx|hx
    ·exact hb.2 x hx
    ·rw[gn]at hx;refine⟨_,?_,hx⟩;rw[aK,ba,zQ ow,dp];exact bG _
   ·simp only[t7p,Q8,zu h1,zu h2,zZ,if_true,h3,zk,Prod.eta,KD];rw[zr i um,if_pos sg]) (by
   intro b n hb hn;obtain⟨n,rfl⟩:∃k,n=k+1:=⟨n-1,ow⟩;rw[cL];have hf:(bif Q0 (((min 13 db.length:Nat):Int)<(db.length:Int))then Q0 (((min 13 db.length:Nat):Int)<13)else Q4)=Q4:=by
    by_cases h:13<=db.length
    ·rw[Fd h];simp
    ·rw[Fc ow];simp
   simp only[t7p,Q8,hf];exact⟨_,rfl,b,rfl,ow,hb.2⟩) (min 13 db.length) 0 [] 100000000 rfl (aY _) ⟨rfl,sw⟩ ow
 obtain⟨r,h1,db',h2,h3,h4⟩:=h;refine⟨db',?_,h3,h4⟩;unfold CQ ah de;simp only[i7p,Q8];have h1':da t7p 100000000 (.h3 db 0 [])=Q1 r:=h1;rw[h1'];exact h2
theorem kj(s:zB):fC s=Q3:=by
 unfold fC;split
 ·rename_i h;have:20<s.length:=by simp at h;omega
  rw[if_pos sg]
 ·rfl
theorem eQ(s:zB):(dc s).length<=20:=by
 unfold dc;split
 ·simp;omega
 ·rename_i h;have:¬20<s.length:=by simp at h;omega
  omega
theorem oT:∀(l:List zB)(i:Int)(acc:List zB),(acc.length:Int)<=i->fO l i acc=Q3
 |[],_,_,_=>rfl
 | x::r,i,acc,h=>by
  rw[fO];split
  ·rename_i hi;simp only[aO]at hi;rw[if_pos (kj x),if_pos sg];exact oT r (i+1) _ sg
  ·rfl
theorem EN(l:List zB):pT l=Q3:=oT l 0 [] sw
theorem sJ:∀(l:List zB)(i:Int)(acc:List zB),(acc.length:Int)<=i->acc.length<=10->(∀x∈acc,length x<=20)->length (eJ l i acc)<=10/\∀x∈eJ l i acc,length x<=20
 |[],_,acc,_,h,ha=>⟨h,ha⟩
 | x::r,i,acc,h,hl,ha=>by
  rw[eJ];split
  ·rename_i hi;simp only[aO]at hi;refine sJ r (i+1) _ sg sg (λy hy=>?_);rcases cQ.1 hy with hy|hy
   ·exact ha y hy
   ·rw[gn]at hy;rw[hy];exact eQ x
  ·exact⟨hl,ha⟩
theorem yR(l:List zB):length (ki l)<=10/\∀x∈ki l,length x<=20:=sJ l 0 [] sw sw sw
theorem zac(s:zB):(jt s).length<=20:=by
 unfold jt;split
 ·simp;omega
 ·rename_i h;simp at h;omega
theorem Rm(l:List (Sem zi)):length (jN l)<=10/\∀x∈jN l,length x.1<=20:=by
 refine⟨by show((List.take 9 l).map _).length<=10;rw[di,pn];omega,λc hc=>?_⟩;obtain⟨x,_,rfl⟩:=bn.1 hc;exact zac x.1
theorem Ro(l:List (Sem zf)):length (lX l)<=14:=by
 show((List.take 14 l).map _).length<=14;rw[di,pn];omega
theorem Hh(e:ze):si 16 (fK e)=Q3:=by
 obtain⟨r,m,h1,h2⟩:=HA (P:=λN _ r=>si N r=Q3) (λN e o t s l hl h3 _ _=>by
  show(Q0 (l.length<=1073741824)&&l.all (si N))=Q3;rw[ei.2 λy hy=>by obtain⟨_,_,h⟩:=hl y hy;exact h];simp;omega) 16 e 14 80 ow ow ow
 unfold fK;rw[ze.eta,show sj 16 e 14 80=(r,m) by unfold sj;rw[h1];rfl];exact h2
structure Mb (s:Sem zl):Prop where
 sh:mi s
 cp:si 16 s.t.t.1=Q3
def F3I(z0:zn pg)(i:Nat)(z:zn S7):Prop:=z.1.length<=20/\z.2.1.length<=20/\z.2.2.1.length<=20/\(length z.2.2.2.1<=10/\∀x∈z.2.2.2.1,length x<=20)/\(length z.t.1<=10/\∀x∈z.t.1,length x.1<=20)/\z.t.2.1.length<=20/\
 (length z.t.q.1<=10/\∀x∈z.t.q.1,length x<=20)/\(length z.t.q.2.1=i/\∀x∈z.t.q.2.1,length x.1<=20/\length x.2<=20)/\si 16 z.t.t.1=Q3/\length z.t.t.2.1<=14/\z.t.t.q.2.1.length<=20/\
 z.t.t.1=fK z0.1.t.t.1/\z.t.t.2.1=lX z0.1.t.t.2.1/\z.t.t.q.1=fK z0.1.t.t.q.2.1
def F7I(z0:zn pg)(i:Nat)(z:zn S8):Prop:=z.1.length<=20/\z.2.1.length<=20/\z.2.2.1.length<=20/\(length z.2.2.2.1<=10/\∀x∈z.2.2.2.1,length x<=20)/\(length z.t.1<=10/\∀x∈z.t.1,length x.1<=20)/\z.t.2.1.length<=20/\
 (length z.t.q.1<=10/\∀x∈z.t.q.1,length x<=20)/\(length z.t.q.2.1<=10/\∀x∈z.t.q.2.1,length x.1<=20/\length x.2<=20)/\si 16 z.t.t.1=Q3/\length z.t.t.2.1<=14/\
 (length z.t.t.q.1=i/\∀x∈z.t.t.q.1,length x.1<=20/\∃y∈z0.1.t.t.q.1,x.2=fK y.2)/\z.t.t.t.1.length<=20/\
 z.t.t.1=fK z0.1.t.t.1/\z.t.t.2.1=lX z0.1.t.t.2.1/\z.t.t.q.2.1=fK z0.1.t.t.q.2.1
structure zbv (s0 s:Sem zl):Prop where
 chk:s.t.t.1=fK s0.t.t.1
 row:s.t.t.2.1=lX s0.t.t.2.1
 whr:s.t.t.q.2.1=fK s0.t.t.q.2.1
 sets:∀x∈s.t.t.q.1,∃y∈s0.t.t.q.1,(x:Sem iq).2=fK (y:Sem iq).2
def Yh(s0:Sem zl)(r:az):Prop:=∃s:Sem zl,aM r.2 [zl] r.1=Q1 (s,())/\Mb s/\zbv s0 s
theorem fs7(z0:zn pg)(z1:zn jf)(z:zn S8)(hz:F7I z0 0 z)(n:Nat)(hn:20<=n):∃r,da t8p n (.h7 0 z0 z1 z)=Q1 r/\Yh z0.1 r:=by
 refine dr (t:=t8p) (β:=zn S8) (min 10 (length z0.1.t.t.q.1)) (λz i=>.h7 (i:Int) z0 z1 z) (λz i=>F7I z0 i z) (Yh z0.1) 1 ?_ ?_ (min 10 (length z0.1.t.t.q.1)) 0 z n rfl (aY _) hz ow
 ·intro z i hi hb;obtain⟨h0,h1,h2,h3,h4,h5,h6,h7,h8,h9,h10,h11,h12⟩:=hb;have k1:(i:Int)<(length z0.1.t.t.q.1:Int):=by omega
  have k2:(i:Int)<10:=by omega
  have k3:zO (i:Int) (length z0.1.t.t.q.1)=Q3:=zw ow;refine Or.inl ⟨(z.1,z.2.1,z.2.2.1,z.2.2.2.1,z.t.1,z.t.2.1,z.t.q.1,z.t.q.2.1,z.t.t.1,z.t.t.2.1,z.t.t.q.1++[(dc (getD z0.1.t.t.q.1 (i:Int).toNat (zj iq)).1,zm (fK (zm (getD z0.1.t.t.q.1 (i:Int).toNat (zj iq)).2)))],z.t.t.q.2),⟨h0,h1,h2,h3,h4,h5,h6,h7,h8,h9,?_,h11,h12⟩,?_⟩;rotate_left 1
  ·simp only[t8p,Q8,zu k1,zu k2,zZ,if_true,k3,kj];rw[zr i um,if_pos (by have:=h10.1;simp;omega)]
  ·refine⟨?_,λx hx=>?_⟩
   ·simp[h10.1]
   ·rcases cQ.1 hx with hx|hx
    ·exact h10.2 x hx
    ·rw[gn]at hx;rw[hx];exact⟨eQ _,_,uO _ (zj iq) (by simpa using(show i<_ by omega)),by simp only[zk,aK]⟩
 ·intro z n hb hn;obtain⟨n,rfl⟩:∃k,n=k+1:=⟨n-1,ow⟩;obtain⟨h0,h1,h2,h3,h4,h5,h6,h7,h8,h9,h10,h11,h12⟩:=hb;rw[cL];have hf:(bif Q0 (((min 10 (length z0.1.t.t.q.1):Nat):Int)<(length z0.1.t.t.q.1:Int))then Q0 (((min 10 (length z0.1.t.t.q.1):Nat):Int)<10)else Q4)=Q4:=by
   by_cases h:10<=length z0.1.t.t.q.1
   ·rw[Fd h];simp
   ·rw[Fc ow];simp
  simp only[t8p,Q8,hf];refine⟨_,rfl,(z.1,z.2.1,z.2.2.1,z.2.2.2.1,z.t.1,z.t.2.1,z.t.q.1,z.t.q.2.1,z.t.t.1,z.t.t.2.1,z.t.t.q.1,z.t.t.q.2.1,z.t.t.t.1),?_,⟨?_,h8⟩,⟨h12.1,h12.2.1,h12.2.2,λx hx=>(h10.2 x hx).2⟩⟩
  ·obtain⟨z0,z1,z2,z3,z4,z5,z6,z7,z8,z9,z10,z11,z12,z13⟩:=z;cases z8;cases z11;rfl
  ·refine⟨by show z.1.length<=_;omega,by show z.2.1.length<=_;omega,by show z.2.2.1.length<=_;omega,⟨by have:=h3.1;show length z.2.2.2.1<=_;omega,λx hx=>by have:=h3.2 x hx;omega⟩,⟨by have:=h4.1;show length z.t.1<=_;omega,λx hx=>by have:=h4.2 x hx;omega⟩,by show z.t.2.1.length<=_;omega,⟨by have:=h6.1;show length z.t.q.1<=_;omega,λx hx=>by have:=h6.2 x hx;omega⟩,⟨by have:=h7.1;show length z.t.q.2.1<=_;omega,λx hx=>by have:=h7.2 x hx;omega⟩,by show length z.t.t.2.1<=_;omega,⟨by have:=h10.1;show length z.t.t.q.1<=_;omega,λx hx=>by have:=(h10.2 x hx).1;omega⟩,by show z.t.t.t.1.length<=_;omega⟩
theorem fs3(z0:zn pg)(z1:zn jf)(z:zn S7)(hz:F3I z0 0 z)(n:Nat)(hn:40<=n):∃r,da t8p n (.h3 0 z0 z1 z)=Q1 r/\Yh z0.1 r:=by
 refine dr (t:=t8p) (β:=zn S7) (min 10 (length z0.1.t.q.2.1)) (λz i=>.h3 (i:Int) z0 z1 z) (λz i=>F3I z0 i z) (Yh z0.1) 21 ?_ ?_ (min 10 (length z0.1.t.q.2.1)) 0 z n rfl (aY _) hz ow
 ·intro z i hi hb;obtain⟨h0,h1,h2,h3,h4,h5,h6,h7,h8⟩:=hb;have k1:(i:Int)<(length z0.1.t.q.2.1:Int):=by omega
  have k2:(i:Int)<10:=by omega
  have k3:zO (i:Int) (length z0.1.t.q.2.1)=Q3:=zw ow;refine Or.inl ⟨(z.1,z.2.1,z.2.2.1,z.2.2.2.1,z.t.1,z.t.2.1,z.t.q.1,z.t.q.2.1++[(dc (getD z0.1.t.q.2.1 (i:Int).toNat (zj jb)).1,dc (getD z0.1.t.q.2.1 (i:Int).toNat (zj jb)).2)],z.t.t),⟨h0,h1,h2,h3,h4,h5,h6,?_,h8⟩,?_⟩;rotate_left 1
  ·simp only[t8p,Q8,zu k1,zu k2,zZ,if_true,k3,kj];rw[zr i um,if_pos (by have:=h7.1;simp;omega)]
  ·refine⟨?_,λx hx=>?_⟩
   ·simp[h7.1]
   ·rcases cQ.1 hx with hx|hx
    ·exact h7.2 x hx
    ·rw[gn]at hx;rw[hx];exact⟨eQ _,eQ _⟩
 ·intro z n hb hn;obtain⟨n,rfl⟩:∃k,n=k+1:=⟨n-1,ow⟩;obtain⟨h0,h1,h2,h3,h4,h5,h6,h7,h8,h9,h10,h11⟩:=hb;rw[cL];have hf:(bif Q0 (((min 10 (length z0.1.t.q.2.1):Nat):Int)<(length z0.1.t.q.2.1:Int))then Q0 (((min 10 (length z0.1.t.q.2.1):Nat):Int)<10)else Q4)=Q4:=by
   by_cases h:10<=length z0.1.t.q.2.1
   ·rw[Fd h];simp
   ·rw[Fc ow];simp
  simp only[t8p,Q8,hf];exact fs7 z0 z1 _ ⟨h0,h1,h2,h3,h4,h5,h6,⟨by have:=h7.1;show length z.t.q.2.1<=_;omega,h7.2⟩,h8,h9,⟨rfl,sw⟩,h10,h11⟩ n ow
theorem M6(s:Sem zl):∃s':Sem zl,xy s=Q1 (s',())/\Mb s'/\zbv s s':=by
 unfold xy ah de;simp only[i8p,Q8,kj,EN,if_true]
 obtain⟨r,h1,s',h2,h3⟩:=fs3 (s,()) ([],[],[],[],[],0,0,[],[],[],0,0,[],[],[],()) (dc s.1,dc s.2.1,dc s.2.2.1,ki s.2.2.2.1,jN s.t.1,
  dc s.t.2.1,ki s.t.q.1,[],fK (zm s.t.t.1),lX s.t.t.2.1,fK (zm s.t.t.q.2.1),dc s.t.t.t,())
  ⟨eQ _,eQ _,eQ _,yR _,Rm _,eQ _,yR _,⟨rfl,sw⟩,Hh _,Ro _,eQ _,by simp only[zk],rfl,by simp only[zk]⟩ 100000000 ow
 refine⟨s',?_,h3⟩;rw[h1];exact h2
abbrev aD(db:List (Sem zh))(s:zB):Sem zh:=getD db (toNat (zS db s)) (zj zh)
def EX(db:List (Sem zh)):Prop:=∀x∈db,∀f∈x.1.t.1,LE.le (α:=Int) 0 (zS db f.2)/\∀row∈x.2,(al f.1 row).1≠0->gZ (aD db f.2) (aD db f.2).1.2.2.1 (al f.1 row)=Q3
def Xb(r:az):Prop:=r=(.kb Q4,[])
theorem Yw{db:List (Sem zh)}{x:Sem zh}{f:Sem zo}{i k:Nat}(hf:LE.le (α:=Int) 0 (zS db f.2))(hc:∀row∈x.2,zO f.1 (length row)=Q3)(hl:x.2.length<=1000):
  ((∀j,j<x.2.length->(al f.1 (getD x.2 j (zj zf.sl))).1≠0->gZ (aD db f.2) (aD db f.2).1.2.2.1 (al f.1 (getD x.2 j (zj zf.sl)))=Q3)/\
   zT gJ (x.2.length*1) (.h11 db (zS db f.2) db (db.length:Int) (i:Int) x.1.t.1 (x.1.t.1.length:Int) (k:Int) x.2 (x.2.length:Int) ((0:Nat):Int) (x,()) (f,()))
    (.h11 db (zS db f.2) db (db.length:Int) (i:Int) x.1.t.1 (x.1.t.1.length:Int) (k:Int) x.2 (x.2.length:Int) (x.2.length:Int) (x,()) (f,())))\/
  ((¬∀j,j<x.2.length->(al f.1 (getD x.2 j (zj zf.sl))).1≠0->gZ (aD db f.2) (aD db f.2).1.2.2.1 (al f.1 (getD x.2 j (zj zf.sl)))=Q3)/\
   ∃r,zX gJ (x.2.length*1) (.h11 db (zS db f.2) db (db.length:Int) (i:Int) x.1.t.1 (x.1.t.1.length:Int) (k:Int) x.2 (x.2.length:Int) ((0:Nat):Int) (x,()) (f,())) r/\Xb r):=by
 refine my (t:=gJ) (Φ:=Xb) 1 (λj=>.h11 db (zS db f.2) db (db.length:Int) (i:Int) x.1.t.1 (x.1.t.1.length:Int) (k:Int) x.2 (x.2.length:Int) (j:Int) (x,()) (f,())) (λj=>(al f.1 (getD x.2 j (zj zf.sl))).1≠0->gZ (aD db f.2) (aD db f.2).1.2.2.1 (al f.1 (getD x.2 j (zj zf.sl)))=Q3) x.2.length ?_;intro j hj _
 have hv:(gJ (.h11 db (zS db f.2) db (db.length:Int) (i:Int) x.1.t.1 (x.1.t.1.length:Int) (k:Int) x.2 (x.2.length:Int) (j:Int) (x,()) (f,()))).val=
   if(bif (al f.1 (getD x.2 j (zj zf.sl))).1!=0 then !gZ (aD db f.2) (aD db f.2).1.2.2.1 (al f.1 (getD x.2 j (zj zf.sl)))else Q4)=Q3 then Q1 (.inr (.kb Q4,[]))else
   Q1 (.inl (.h11 db (zS db f.2) db (db.length:Int) (i:Int) x.1.t.1 (x.1.t.1.length:Int) (k:Int) x.2 (x.2.length:Int) ((j+1:Nat):Int) (x,()) (f,()))):=by
  show(gJ (.h11 _ _ _ _ _ _ _ _ _ _ _ _ _)).val=_;unfold gJ;simp only[zk,Q8,zJ hj,zw hj,hc _ (bK hj),dF hf,aK,if_true,yv];rw[if_pos (by cases((getD (getD x.2 j (zj zf.sl)) (toNat f.1) (zj zf)).1!=0)<;>rfl)];rw[zr j um]
 by_cases h1:(al f.1 (getD x.2 j (zj zf.sl))).1=0
 ·exact .inl ⟨λh=>absurd h1 h,zT.of (by rw[hv,if_neg (by rw[h1];simp)])⟩
 ·have h1':((al f.1 (getD x.2 j (zj zf.sl))).1!=0)=Q3:=by simpa using h1
  by_cases h2:gZ (aD db f.2) (aD db f.2).1.2.2.1 (al f.1 (getD x.2 j (zj zf.sl)))=Q3
  ·exact .inl ⟨λ_=>h2,zT.of (by rw[hv,if_neg (by rw[h2,h1'];simp)])⟩
  ·exact .inr ⟨λh=>h2 (h h1),_,zX.of (by rw[hv,if_pos (by rw[h1'];simpa using h2)]),rfl⟩
theorem zeS{db:List (Sem zh)}{x:Sem zh}{i:Nat}(hc:∀f∈x.1.t.1,∀row∈x.2,zO f.1 (length row)=Q3)(hl:x.2.length<=1000)(hr:x.1.t.1.length<=1000):
  let P:Nat->Prop:=λk=>LE.le (α:=Int) 0 (zS db (getD x.1.t.1 k (zj zo)).2)/\∀row∈x.2,(al (getD x.1.t.1 k (zj zo)).1 row).1≠0->gZ (aD db (getD x.1.t.1 k (zj zo)).2) (aD db (getD x.1.t.1 k (zj zo)).2).1.2.2.1 (al (getD x.1.t.1 k (zj zo)).1 row)=Q3
  ((∀k,k<x.1.t.1.length->P k)/\zT gJ (x.1.t.1.length*1002) (.h5 db db (db.length:Int) (i:Int) x.1.t.1 (x.1.t.1.length:Int) ((0:Nat):Int) (x,())) (.h5 db db (db.length:Int) (i:Int) x.1.t.1 (x.1.t.1.length:Int) (x.1.t.1.length:Int) (x,())))\/
  ((¬∀k,k<x.1.t.1.length->P k)/\∃r,zX gJ (x.1.t.1.length*1002) (.h5 db db (db.length:Int) (i:Int) x.1.t.1 (x.1.t.1.length:Int) ((0:Nat):Int) (x,())) r/\Xb r):=by
 intro P;refine my (t:=gJ) (Φ:=Xb) 1002 (λk=>.h5 db db (db.length:Int) (i:Int) x.1.t.1 (x.1.t.1.length:Int) (k:Int) (x,())) P x.1.t.1.length ?_;intro k hk _
 have hv:(gJ (.h5 db db (db.length:Int) (i:Int) x.1.t.1 (x.1.t.1.length:Int) (k:Int) (x,()))).val=
   if Q0 (LT.lt (α:=Int) (zS db (getD x.1.t.1 k (zj zo)).2) 0)=Q3 then Q1 (.inr (.kb Q4,[]))else
   Q1 (.inl (.h11 db (zS db (getD x.1.t.1 k (zj zo)).2) db (db.length:Int) (i:Int) x.1.t.1 (x.1.t.1.length:Int) (k:Int) x.2 (x.2.length:Int) ((0:Nat):Int) (x,()) (getD x.1.t.1 k (zj zo),()))):=by
  show(gJ (.h5 _ _ _ _ _ _ _ _)).val=_;unfold gJ;simp only[Q8,zJ hk,zw hk,aK,if_true];rfl
 by_cases h1:LE.le (α:=Int) 0 (zS db (getD x.1.t.1 k (zj zo)).2)
 ·have g1:=zT.of (t:=gJ) (s:=.h5 db db (db.length:Int) (i:Int) x.1.t.1 (x.1.t.1.length:Int) (k:Int) (x,())) (by rw[hv,if_neg (by rw[aO];omega)]);rcases Yw (db:=db) (x:=x) (f:=getD x.1.t.1 k (zj zo)) (i:=i) (k:=k) h1 (hc _ (bK hk)) hl with⟨h2,h3⟩|⟨h2,r,h3,h4⟩
  ·have hv2:(gJ (.h11 db (zS db (getD x.1.t.1 k (zj zo)).2) db (db.length:Int) (i:Int) x.1.t.1 (x.1.t.1.length:Int) (k:Int) x.2 (x.2.length:Int) (x.2.length:Int) (x,()) (getD x.1.t.1 k (zj zo),()))).val=
     Q1 (.inl (.h5 db db (db.length:Int) (i:Int) x.1.t.1 (x.1.t.1.length:Int) ((k+1:Nat):Int) (x,()))):=by
    show(gJ (.h11 _ _ _ _ _ _ _ _ _ _ _ _ _)).val=_;unfold gJ;simp only[Q8,zC];rw[zr k um];rfl
   refine .inl ⟨⟨h1,?_⟩,((g1.trans h3).trans (zT.of hv2)).mono ow⟩;exact(aw (Q:=λrow=>(al (getD x.1.t.1 k (zj zo)).1 row).1≠0->gZ (aD db (getD x.1.t.1 k (zj zo)).2) (aD db (getD x.1.t.1 k (zj zo)).2).1.2.2.1 (al (getD x.1.t.1 k (zj zo)).1 row)=Q3)).1 h2
  ·refine .inr ⟨λh=>h2 ?_,r,(g1.ends h3).mono ow,h4⟩;exact(aw (Q:=λrow=>(al (getD x.1.t.1 k (zj zo)).1 row).1≠0->gZ (aD db (getD x.1.t.1 k (zj zo)).2) (aD db (getD x.1.t.1 k (zj zo)).2).1.2.2.1 (al (getD x.1.t.1 k (zj zo)).1 row)=Q3)).2 h.2
 ·exact .inr ⟨λh=>h1 h.1,_,(zX.of (by rw[hv,if_pos (by rw[aO];omega)])).mono ow,rfl⟩
theorem JI{db:List (Sem zh)}(hc:∀x∈db,∀f∈x.1.t.1,∀row∈x.2,zO f.1 (length row)=Q3)(hs:∀x∈db,gS x)(hl:db.length<=13):∃b,AB db=Q1 (b,())/\(b=Q3↔EX db):=by
 have h2:=my (t:=gJ) (Φ:=Xb) 1010000 (λi=>.h2 db db (db.length:Int) (i:Int)) (λi=>∀f∈(getD db i (zj zh)).1.t.1,LE.le (α:=Int) 0 (zS db f.2)/\∀row∈(getD db i (zj zh)).2,(al f.1 row).1≠0->gZ (aD db f.2) (aD db f.2).1.2.2.1 (al f.1 row)=Q3) db.length (by
  intro i hi _;have hm:=bK (d:=zj zh) hi;have hS:=hs _ hm;have s1:=hS.rf;have s2:=hS.rw;have hv:(gJ (.h2 db db (db.length:Int) (i:Int))).val=Q1 (.inl (.h5 db db (db.length:Int) (i:Int) (getD db i (zj zh)).1.t.1 ((getD db i (zj zh)).1.t.1.length:Int) ((0:Nat):Int) (getD db i (zj zh),()))):=by
   show(gJ (.h2 _ _ _ _)).val=_;unfold gJ;simp only[Q8,zJ hi,zw hi,aK,if_true];rfl
  have g1:=zT.of hv;rcases zeS (db:=db) (x:=getD db i (zj zh)) (i:=i) (hc _ hm) s2 s1 with⟨h2,h3⟩|⟨h2,r,h3,h4⟩
  ·have hv2:(gJ (.h5 db db (db.length:Int) (i:Int) (getD db i (zj zh)).1.t.1 ((getD db i (zj zh)).1.t.1.length:Int) ((getD db i (zj zh)).1.t.1.length:Int) (getD db i (zj zh),()))).val=Q1 (.inl (.h2 db db (db.length:Int) ((i+1:Nat):Int))):=by
    show(gJ (.h5 _ _ _ _ _ _ _ _)).val=_;unfold gJ;simp only[Q8,zC];rw[zr i um];rfl
   refine .inl ⟨?_,((g1.trans h3).trans (zT.of hv2)).mono ow⟩;exact(aw (Q:=λf:Sem zo=>LE.le (α:=Int) 0 (zS db f.2)/\∀row∈(getD db i (zj zh)).2,(al f.1 row).1≠0->gZ (aD db f.2) (aD db f.2).1.2.2.1 (al f.1 row)=Q3)).1 h2
  ·refine .inr ⟨λh=>h2 ?_,r,(g1.ends h3).mono ow,h4⟩;exact(aw (Q:=λf:Sem zo=>LE.le (α:=Int) 0 (zS db f.2)/\∀row∈(getD db i (zj zh)).2,(al f.1 row).1≠0->gZ (aD db f.2) (aD db f.2).1.2.2.1 (al f.1 row)=Q3)).2 h)
 have hb:(∀i,i<db.length->∀f∈(getD db i (zj zh)).1.t.1,LE.le (α:=Int) 0 (zS db f.2)/\∀row∈(getD db i (zj zh)).2,(al f.1 row).1≠0->gZ (aD db f.2) (aD db f.2).1.2.2.1 (al f.1 row)=Q3)↔EX db:=
  aw (Q:=λx:Sem zh=>∀f∈x.1.t.1,LE.le (α:=Int) 0 (zS db f.2)/\∀row∈x.2,(al f.1 row).1≠0->gZ (aD db f.2) (aD db f.2).1.2.2.1 (al f.1 row)=Q3)
 have hi:(zll db).val=Q1 (.inl (.h2 db db (db.length:Int) ((0:Nat):Int))):=rfl;rcases h2 with⟨h2,h3⟩|⟨h2,r,h3,h4⟩
 ·refine⟨Q3,zy hi (h3.ends (zX.of (r:=(.kb Q3,[])) ?_)) ow rfl,λ_=>hb.1 h2,λ_=>rfl⟩;show(gJ (.h2 _ _ _ _)).val=_;unfold gJ;simp only[Q8,zC];rfl
 ·unfold Xb at h4;subst h4;exact⟨Q4,zy hi h3 ow rfl,λh=>(by cases h),λh=>absurd (hb.2 h) h2⟩
structure jd (db:List (Sem zh)):Prop where
 few:db.length<=12
 names:∀i,i<db.length-1->Op.bytesLess (getD db i (zj zh)).1.1 (getD db (i+1) (zj zh)).1.1=Q3
 rels:∀x∈db,eC x
 bound:EX db
theorem eC.cols{x:Sem zh}(h:eC x):∀f∈x.1.t.1,∀row∈x.2,zO f.1 (length row)=Q3:=by
 intro f hf row hr;obtain⟨_,h1,_,_,_⟩:=im h.may;rw[CB (by simpa using h.fits row hr)];exact uT (h1 f hf)
theorem yA{db:List (Sem zh)}(hs:∀x∈db,gS x):∃e:Int,ur db=Q1 (e,())/\(e=0↔jd db):=by
 by_cases hw:db.length<=12
 case neg=>
  refine⟨13,?_,λh=>(by cases h),λh=>absurd h.few hw⟩;unfold ur ah de;simp only[Zj,Q8];rw[if_pos sg];rfl
 have hi:(Zj db).val=Q1 (.inl (.h4 db ((0+1:Nat):Int))):=by
  simp only[Zj,Q8];rw[if_neg sg];rfl
 have h4:=my (t:=oJ) (Φ:=Xa) 1 (λi=>.h4 db ((i+1:Nat):Int)) (λi=>Op.bytesLess (getD db i (zj zh)).1.1 (getD db (i+1) (zj zh)).1.1=Q3) (db.length-1) (by
  intro i hi _;have h1:i<db.length:=by omega
  have h2:i+1<db.length:=by omega
  have hv:(oJ (.h4 db ((i+1:Nat):Int))).val=if(!Op.bytesLess (getD db i (zj zh)).1.1 (getD db (i+1) (zj zh)).1.1)=Q3 then Q1 (.inr (.int .i64 15,[]))else Q1 (.inl (.h4 db ((i+1+1:Nat):Int))):=by
   show(oJ (.h4 _ _)).val=_;unfold oJ;simp only[qE i um];simp only[Q8,zJ h2,zw h2,zw h1,aK,if_true];rw[zr (i+1) um]
  by_cases h:Op.bytesLess (getD db i (zj zh)).1.1 (getD db (i+1) (zj zh)).1.1=Q3
  ·exact .inl ⟨h,zT.of (by rw[hv,if_neg (by rw[h];simp)])⟩
  ·exact .inr ⟨h,_,zX.of (by rw[hv,if_pos (by simpa using h)]),15,rfl,by decide⟩)
 rcases h4 with⟨hn,h4⟩|⟨hn,r,h4,e,he,hne⟩
 case inr=>
  subst he;exact⟨e,zy hi h4 ow rfl,λh=>absurd h hne,λh=>absurd h.names hn⟩
 have hv4:(oJ (.h4 db ((db.length-1+1:Nat):Int))).val=Q1 (.inl (.h9 db db (db.length:Int) ((0:Nat):Int))):=by
  show(oJ (.h4 _ _)).val=_;unfold oJ;simp only[Q8];rw[if_neg sg];rfl
 have g9:=h4.trans (zT.of hv4);have h9:=my (t:=oJ) (Φ:=Xa) 1 (λi=>.h9 db db (db.length:Int) (i:Int)) (λi=>eC (getD db i (zj zh))) db.length (by
  intro i hi _;obtain⟨e,he,heq⟩:=Lr (hs _ (bK (d:=zj zh) hi));have hc:Iz (getD db i (zj zh))=Q3:=by unfold Iz;rw[he];rfl
  have hv0:NH (getD db i (zj zh))=e:=by unfold NH;rw[he];rfl
  have hv:(oJ (.h9 db db (db.length:Int) (i:Int))).val=if(e !=0)=Q3 then Q1 (.inr (.int .i64 e,[]))else Q1 (.inl (.h9 db db (db.length:Int) ((i+1:Nat):Int))):=by
   show(oJ (.h9 _ _ _ _)).val=_;unfold oJ;simp only[zk,Q8,zJ hi,zw hi,aK,if_true,Prod.eta,hc,hv0];rw[zr i um]
  by_cases h:e=0
  ·exact .inl ⟨heq.1 h,zT.of (by rw[hv,if_neg (by rw[h];simp)])⟩
  ·exact .inr ⟨λhr=>h (heq.2 hr),_,zX.of (by rw[hv,if_pos (by simpa using h)]),e,rfl,h⟩)
 rcases h9 with⟨hr,h9⟩|⟨hr,r,h9,e,he,hne⟩
 case inr=>
  subst he;exact⟨e,zy hi (g9.ends h9) ow rfl,λh=>absurd h hne,λh=>absurd ((aw (Q:=eC)).2 h.rels) hr⟩
 have hrels:=(aw (Q:=eC)).1 hr;obtain⟨b,hb,hbb⟩:=JI (db:=db) (λx hx=>(hrels x hx).cols) hs ow;have hc:G5 db=Q3:=by unfold G5;rw[hb];rfl
 have hv0:Mj db=b:=by unfold Mj;rw[hb];rfl
 have hv9:(oJ (.h9 db db (db.length:Int) (db.length:Int))).val=if(!b)=Q3 then Q1 (.inr (.int .i64 10,[]))else Q1 (.inr (.int .i64 0,[])):=by
  show(oJ (.h9 _ _ _ _)).val=_;unfold oJ;simp only[Q8,zC,hc,hv0,if_true];rfl
 by_cases h:b=Q3
 ·exact⟨0,zy hi (g9.ends (h9.ends (zX.of (by rw[hv9,if_neg (by rw[h];simp)])))) ow rfl,λ_=>⟨hw,hn,hrels,hbb.1 h⟩,λ_=>rfl⟩
 ·exact⟨10,zy hi (g9.ends (h9.ends (zX.of (by rw[hv9,if_pos (by simpa using h)])))) ow rfl,λh=>(by cases h),λhB=>absurd (hbb.2 hB.bound) h⟩
theorem G6{db:List (Sem zh)}(hs:∀x∈db,gS x):nH db=Q3:=by
 obtain⟨e,h,_⟩:=yA hs;unfold nH;rw[h];rfl
theorem kv{db:List (Sem zh)}(hs:∀x∈db,gS x):kO db=(0:Int)↔jd db:=by
 obtain⟨e,h,h2⟩:=yA hs;unfold kO;rw[h];exact h2
abbrev y11(x0:Sem zh.sl)(x1:Sem zl):zn be:=(x0,x1,([],[],0,[],[],ze.mk [] (0,0,[]) [] []),([],[],0,[],[],ze.mk [] (0,0,[]) [] []),x1.1,x1.2.2.1,x1.t.t.t,x1.2.1,0,x1.t.t.1,0,())
theorem MW(x0:Sem zh.sl)(x1:Sem zl):zfF x0 x1=(let a8:=mT (y11 x0 x1)
  let a11:=Gh a8.2
  let a14:=Gi a8.2
  let a17:=xA a8.2
  Ks x0 x1 x1.t.t.1 x1 (!eo x1) (oI x1&&bif !eo x1 then Q3 else nH x0) (bif !eo x1 then Q3 else kO x0 !=0) (si 16 x1.t.t.1) (y11 x0 x1) (mU (y11 x0 x1)) a8 (a8.1==0) a8.2 a11 a11.2 (fD a11.2) a14 a14.2 (fD a14.2) a17 a17.2 (fD a17.2)):=by
 unfold zfF;simp only[Rc,OI,zk]
abbrev VW(z:zn ap):Sem zA:=(z.t.1,z.t.2.1,z.t.q.1,(z.t.q.2.1,z.t.t.1,z.t.t.2.1,[],[],z.t.t.q.1),z.t.t.q.2.1,z.t.t.t.1)
abbrev jP:Sem zA:=([],[],[],([],[],0,[],[],ze.mk [] (0,0,[]) [] []),[],0)
def aA(db:List (Sem zh))(n:zB):Sem zp:=(getD db (toNat (zS db n)) (zj zh)).1
abbrev zp8:Sem zp:=([],[],0,[],[],ze.mk [] (0,0,[]) [] [])
def gu(db:List (Sem zh))(n:zB):Sem zp:=if n=[]then zp8 else aA db n
def jL(e:Int)(p:Sem zA):Int×Sem zA:=if e=0 then(if wu p.2.2.2.1=0 then(0,p)else(wu p.2.2.2.1,jP))else(e,jP)
def dq(db:List (Sem zh))(s:Sem zl):Int×Sem zA:=
 if(s.1==dv)=Q3 then
  jL (wK (aA db s.2.2.1) s.2.2.2.1) (s.1,s.2.2.1,s.t.t.t,(s.2.1,gE (aA db s.2.2.1) s.2.2.2.1,ij (lh (aA db s.2.2.1) s.2.2.2.1) (aA db s.2.2.1).2.2.1,[],[],s.t.t.1),lh (aA db s.2.2.1) s.2.2.2.1,0)
 else if(s.1==gK)=Q3 then
  jL (il (aA db s.2.2.1) (gu db s.t.t.t) s.t.2.1 s.t.t.t)
   (s.1,s.2.2.1,s.t.t.t,(s.2.1,(aA db s.2.2.1).2.1++gG (gu db s.t.t.t) (length (gu db s.t.t.t).2.1),(aA db s.2.2.1).2.2.1,[],[],s.t.t.1),
    kl (gu db s.t.t.t).2.2.1 (length (gu db s.t.t.t).2.1),zP (aA db s.2.2.1) s.t.2.1)
 else if(s.1==nA)=Q3 then
  jL (tK (aA db s.2.2.1) s.2.2.2.1) (s.1,s.2.2.1,s.t.t.t,(s.2.1,EM (aA db s.2.2.1) s.2.2.2.1,0,[],[],s.t.t.1),lh (aA db s.2.2.1) s.2.2.2.1,0)
 else(1,jP)
def aV(db:List (Sem zh))(s:Sem zl):Int×Sem zA:=
 if jM s.1/\eo s=Q3/\kO db=(0:Int)then(if oH db s.2.2.1 s.t.t.t s.2.1=0 then dq db s else(oH db s.2.2.1 s.t.t.t s.2.1,jP))else(1,jP)
theorem me{s:Sem zl}(h:eo s=Q3):fw s=Q3:=by
 unfold eo qm at h;by_cases hp:fw s=Q3
 ·exact hp
 ·exfalso;simp only[ib]at hp;simp[hp]at h
theorem mQ{db:List (Sem zh)}{s:zB}(h:(0:Int)<=zS db s):db.getD (toNat (zS db s)) (zj zh)∈db:=by
 have:=dF h;simp only[zO,aE,aO]at this;exact uO _ _ ow
theorem DP(e:Int):aM [] [zA,zg] (tup [agg [str [],str [],str [],str [],Qb,ai 0,Qb,Qb,str [],ai 0,ai 0,str [],str [],Qb,Qb,ai 0],ai e])=Q1 (jP,e,()):=rfl
theorem zgM(z:zn ap):aM [AO.vec zi z.t.t.1] [zA,zg] (tup [agg [str z.t.1,str z.t.2.1,str z.t.q.1,str z.t.q.2.1,AV.vec 0,
  ai z.t.t.2.1,Qb,Qb,str (ze.op z.t.t.q.1),ai (ze.v z.t.t.q.1).1,ai (ze.v z.t.t.q.1).2.1,str (ze.v z.t.t.q.1).2.2,str (ze.s z.t.t.q.1),sl Q5 (ze.l z.t.t.q.1),
  sl zg z.t.t.q.2.1,ai z.t.t.t.1],ai 0])=Q1 (VW z,0,()):=by
 obtain⟨z0,z1,z2,z3,z4,z5,z6,z7,z8,z9,z10,z11,z12,z13⟩:=z;cases z10;rfl
def PlS(x0:Sem zh.sl)(x1:Sem zl):Prop:=KU x0 x1=Q1 ((aV x0 x1).2,(aV x0 x1).1,())
theorem xH{x0:Sem zh.sl}{x1:Sem zl}{o:Option (zx (List.map Q1 [zA,zg]))}{e:Int}(h:o=Q1 (jP,e,()))(hp:aV x0 x1=(e,jP)):o=Q1 ((aV x0 x1).2,(aV x0 x1).1,()):=by rw[hp];exact h
theorem ZV{x0:Sem zh.sl}{x1:Sem zl}(hM:oI x1=Q3)(hB:nH x0=Q3)(hmay:(bif !eo x1 then Q3 else kO x0 !=0)=Q3):PlS x0 x1:=by
 have h3:(oI x1&&bif !eo x1 then Q3 else nH x0)=Q3:=by rw[hM,hB];cases eo x1<;>rfl
 have hp:aV x0 x1=(1,jP):=by
  unfold aV;rw[if_neg];rintro⟨_,h1,h2⟩;rw[h1]at hmay;simp[h2]at hmay
 refine xH ?_ hp;unfold KU ah de;rw[MW];simp only[Ks,Q8,h3,hmay,if_true];by_cases o1:(x1.1==dv)=Q3
 ·simp only[o1,if_true];rfl
 ·by_cases o2:(x1.1==gK)=Q3
  ·simp only[o1,o2,if_true];rfl
  ·by_cases o3:(x1.1==nA)=Q3
   ·simp only[o1,o2,o3,if_true];rfl
   ·simp only[o1,o2,o3];rfl
theorem zgH{x0:Sem zh.sl}{x1:Sem zl}{y:zn be}{z:zn ap}{cols:List (Sem zi)}{key:Int}{ix:List Int}{on:Int}(k3:y.t=(y11 x0 x1).t)(hk:nB y z)
  (hch:z.t.t.q.1=y.t.t.2.1) (hA:EW z cols key ix on):VW z=(x1.1,x1.2.2.1,x1.t.t.t,(x1.2.1,cols,key,[],[],x1.t.t.1),ix,on):=by
 obtain⟨_,_,_,_,a4,a5,a6,a7⟩:=hk;have e4:z.t.1=x1.1:=by rw[a4,k3]
 have e5:z.t.2.1=x1.2.2.1:=by rw[a5,k3]
 have e6:z.t.q.1=x1.t.t.t:=by rw[a6,k3]
 have e7:z.t.q.2.1=x1.2.1:=by rw[a7,k3]
 have e8:z.t.t.q.1=x1.t.t.1:=by rw[hch,k3]
 show(z.t.1,z.t.2.1,z.t.q.1,(z.t.q.2.1,z.t.t.1,z.t.t.2.1,[],[],z.t.t.q.1),z.t.t.q.2.1,z.t.t.t.1)=_;rw[e4,e5,e6,e7,e8,hA.cols,hA.key,hA.ix,hA.on]
theorem zgG{x0:Sem zh.sl}{x1:Sem zl}(hdb:∀x∈x0,gS x)(hl:length x0<=13)(hs:Mb x1):PlS x0 x1:=by
 by_cases hg:jM x1.1;rotate_left
 ·have o1:(x1.1==dv)=Q4:=by simpa using λk=>hg (.inl k)
  have o2:(x1.1==gK)=Q4:=by simpa using λk=>hg (.inr (.inl k))
  have o3:(x1.1==nA)=Q4:=by simpa using λk=>hg (.inr (.inr k))
  refine xH (e:=1) ?_ (by unfold aV;rw[if_neg λh=>hg h.1]);unfold KU ah de;rw[MW];simp only[Ks,Q8,o1,o2,o3];rfl
 have hM:=LN hs.sh hg;have hB:=G6 hdb;by_cases hmay:(bif !eo x1 then Q3 else kO x0 !=0)=Q3
 ·exact ZV hM hB hmay
 have h3:(oI x1&&bif !eo x1 then Q3 else nH x0)=Q3:=by rw[hM,hB];cases eo x1<;>rfl
 have hm1:eo x1=Q3:=by
  cases h:eo x1
  ·rw[h]at hmay;simp at hmay
  ·rfl
 have hb1:kO x0=(0:Int):=by
  rw[hm1]at hmay;simpa using hmay
 have hparts:=me hm1;have hrels:=((kv hdb).1 hb1).rels;obtain⟨e8,y8,h8,k1,k2,k3,k5,k4⟩:=KL (y11 x0 x1) (by show length x0<=_;omega);have s8:mT (y11 x0 x1)=(e8,y8):=by unfold mT;rw[h8];rfl
 have c8:mU (y11 x0 x1)=Q3:=by unfold mU;rw[h8];rfl
 have k5:e8=oH x0 x1.2.2.1 x1.t.t.t x1.2.1:=k5;have hS:jM x1.1->aV x0 x1=if e8=0 then dq x0 x1 else(e8,jP):=by
  intro h;unfold aV;rw[if_pos ⟨h,hm1,hb1⟩,k5]
 unfold PlS KU ah de;rw[MW];simp only[Ks,Q8,h3,hmay,hs.cp,s8,c8,if_true];by_cases e80:e8=0
 ·have hsrc:=k4 e80;have n2:y8.2.1=x1:=k2;have n1:y8.1=x0:=k1;have nk:y8.t.t.1=(0:Int):=by rw[k3]
  have non:y8.t.t.q.1=(0:Int):=by rw[k3]
  have nw:y8.t.q.1=x1.t.t.t:=by rw[k3]
  have hfrom:y8.2.2.1=aA x0 x1.2.2.1:=hsrc.t.1;have hwith:y8.2.2.2.1=gu x0 x1.t.t.t:=hsrc.t.2;have mayf:=im (hrels _ (mQ (db:=x0) (s:=x1.2.2.1) hsrc.1)).may;rw[show(getD x0 (toNat (zS x0 x1.2.2.1)) (zj zh)).1=y8.2.2.1 from hfrom.symm]at mayf;have hwl:length y8.2.2.2.1.2.1<=100:=by
   rw[hwith];unfold gu;split
   ·simp
   ·rename_i hw;have:=(im (hrels _ (mQ (db:=x0) (s:=x1.t.t.t) (hsrc.2.1.resolve_left hw))).may).2.2.2.1;unfold aA;omega
  have e8b:(e8==0)=Q3:=by simpa using e80
  simp only[e8b,if_true];by_cases o1:(x1.1==dv)=Q3
  ·have hmg:jM x1.1:=Or.inl (bI o1);obtain⟨z,h11,hk,hch,hlen,hA⟩:=Vb y8 (by rw[n2];have:=hs.sh.names.1;omega);rw[n2,hfrom,non]at hA;rw[n2,hfrom]at h11;generalize hce:wK (aA x0 x1.2.2.1) x1.2.2.2.1=e11 at h11 hA;have s11:Gh y8=(e11,z):=by unfold Gh;rw[h11];rfl
   have c11:HL y8=Q3:=by unfold HL;rw[h11];rfl
   have hP:=hS hmg;rw[if_pos e80]at hP;unfold dq at hP;rw[if_pos o1,hce]at hP;simp only[o1,s11,c11,if_true];by_cases e0:e11=0
   ·have hz:=zgH k3 hk hch (hA e0);have h13:=tS z hlen;have hT:PM z=(VW z).2.2.2.1:=rfl;rw[hT,hz]at h13;unfold jL at hP;rw[if_pos e0]at hP;generalize he13:wu _=e13 at h13 hP;have s13:fD z=(e13,z):=by unfold fD;rw[h13];rfl
    have c13:gF z=Q3:=by unfold gF;rw[h13];rfl
    have e0b:(e11==0)=Q3:=by simpa using e0
    simp only[e0b,s13,c13,if_true];by_cases f0:e13=0
    ·have f0c:(e13 !=0)=Q4:=by simp[f0]
     simp only[f0c];rw[if_pos f0]at hP;rw[hP];exact(zgM z).trans (by rw[hz])
    ·have f0c:(e13 !=0)=Q3:=by simpa using f0
     simp only[f0c,if_true];rw[if_neg f0]at hP;exact xH (DP e13) hP
   ·have e0b:(e11==0)=Q4:=by simpa using e0
    have e0c:(e11 !=0)=Q3:=by simpa using e0
    unfold jL at hP;rw[if_neg e0]at hP;simp only[e0b,e0c,if_true];exact xH (DP e11) hP
  ·by_cases o2:(x1.1==gK)=Q3
   ·have hmg:jM x1.1:=Or.inr (Or.inl (bI o2));obtain⟨z,h11,hk,hch,hlen,hA⟩:=Vc y8 (by have:=mayf.2.2.2.1;omega) hwl;rw[n2,nw,hfrom,hwith]at hA;rw[n2,nw,hfrom,hwith]at h11;generalize hce:il (aA x0 x1.2.2.1) (gu x0 x1.t.t.t) x1.t.2.1 x1.t.t.t=e11 at h11 hA;have s11:Gi y8=(e11,z):=by unfold Gi;rw[h11];rfl
    have c11:HN y8=Q3:=by unfold HN;rw[h11];rfl
    have hP:=hS hmg;rw[if_pos e80]at hP;unfold dq at hP;rw[if_neg o1,if_pos o2,hce]at hP;simp only[o1,o2,s11,c11,if_true];by_cases e0:e11=0
    ·have hz:=zgH k3 hk hch (hA e0);have h13:=tS z hlen;have hT:PM z=(VW z).2.2.2.1:=rfl;rw[hT,hz]at h13;unfold jL at hP;rw[if_pos e0]at hP;generalize he13:wu _=e13 at h13 hP;have s13:fD z=(e13,z):=by unfold fD;rw[h13];rfl
     have c13:gF z=Q3:=by unfold gF;rw[h13];rfl
     have e0b:(e11==0)=Q3:=by simpa using e0
     simp only[e0b,s13,c13,if_true];by_cases f0:e13=0
     ·have f0c:(e13 !=0)=Q4:=by simp[f0]
      simp only[f0c];rw[if_pos f0]at hP;rw[hP];exact(zgM z).trans (by rw[hz])
     ·have f0c:(e13 !=0)=Q3:=by simpa using f0
      simp only[f0c,if_true];rw[if_neg f0]at hP;exact xH (DP e13) hP
    ·have e0b:(e11==0)=Q4:=by simpa using e0
     have e0c:(e11 !=0)=Q3:=by simpa using e0
     unfold jL at hP;rw[if_neg e0]at hP;simp only[e0b,e0c,if_true];exact xH (DP e11) hP
   ·by_cases o3:(x1.1==nA)=Q3
    ·have hmg:jM x1.1:=Or.inr (Or.inr (bI o3));obtain⟨z,h11,hk,hch,hlen,hA⟩:=Rt y8 (by rw[n2];exact lU hparts (bI o3));rw[n2,hfrom,non,nk]at hA;rw[n2,hfrom]at h11;generalize hce:tK (aA x0 x1.2.2.1) x1.2.2.2.1=e11 at h11 hA;have s11:xA y8=(e11,z):=by unfold xA;rw[h11];rfl
     have c11:AQ y8=Q3:=by unfold AQ;rw[h11];rfl
     have hP:=hS hmg;rw[if_pos e80]at hP;unfold dq at hP;rw[if_neg o1,if_neg o2,if_pos o3,hce]at hP;simp only[o1,o2,o3,s11,c11,if_true];by_cases e0:e11=0
     ·have hz:=zgH k3 hk hch (hA e0);have h13:=tS z hlen;have hT:PM z=(VW z).2.2.2.1:=rfl;rw[hT,hz]at h13;unfold jL at hP;rw[if_pos e0]at hP;generalize he13:wu _=e13 at h13 hP;have s13:fD z=(e13,z):=by unfold fD;rw[h13];rfl
      have c13:gF z=Q3:=by unfold gF;rw[h13];rfl
      have e0b:(e11==0)=Q3:=by simpa using e0
      simp only[e0b,s13,c13,if_true];by_cases f0:e13=0
      ·have f0c:(e13 !=0)=Q4:=by simp[f0]
       simp only[f0c];rw[if_pos f0]at hP;rw[hP];exact(zgM z).trans (by rw[hz])
      ·have f0c:(e13 !=0)=Q3:=by simpa using f0
       simp only[f0c,if_true];rw[if_neg f0]at hP;exact xH (DP e13) hP
     ·have e0b:(e11==0)=Q4:=by simpa using e0
      have e0c:(e11 !=0)=Q3:=by simpa using e0
      unfold jL at hP;rw[if_neg e0]at hP;simp only[e0b,e0c,if_true];exact xH (DP e11) hP
    ·simp only[o1,o2,o3];refine xH (DP 1) ?_;unfold aV;rw[if_neg];rintro⟨h|h|h,_⟩
     ·exact o1 (aZ.2 h)
     ·exact o2 (aZ.2 h)
     ·exact o3 (aZ.2 h)
 ·have e8b:(e8==0)=Q4:=by simpa using e80
  have e8c:(e8 !=0)=Q3:=by simpa using e80
  have hP:jM x1.1->aV x0 x1=(e8,jP):=λh=>by rw[hS h,if_neg e80]
  simp only[e8b,e8c,if_true];by_cases o1:(x1.1==dv)=Q3
  ·simp only[o1,if_true];exact xH (DP e8) (hP (Or.inl (bI o1)))
  ·by_cases o2:(x1.1==gK)=Q3
   ·simp only[o1,o2,if_true];exact xH (DP e8) (hP (Or.inr (Or.inl (bI o2))))
   ·by_cases o3:(x1.1==nA)=Q3
    ·simp only[o1,o2,o3,if_true];exact xH (DP e8) (hP (Or.inr (Or.inr (bI o3))))
    ·simp only[o1,o2,o3];refine xH (DP 1) ?_;unfold aV;rw[if_neg];rintro⟨h|h|h,_⟩
     ·exact o1 (aZ.2 h)
     ·exact o2 (aZ.2 h)
     ·exact o3 (aZ.2 h)
set_option maxHeartbeats 1000000
theorem gL:∀{a b c:zB},Op.bytesLess a b=Q3->Op.bytesLess b c=Q3->Op.bytesLess a c=Q3
 |_,[],_,h,_=>by cases‹zB›<;>simp[Op.bytesLess]at h
 |_,_::_,[],_,h=>by simp[Op.bytesLess]at h
 |[],_::_,_::_,_,_=>rfl
 | a::x,b::y,c::z,h,g=>by
  simp only[Op.bytesLess,mE,aO,aE,aZ]at h g⊢;rcases h with h|⟨rfl,h⟩
  ·rcases g with g|⟨rfl,g⟩
   ·exact .inl (UInt8.lt_trans h g)
   ·exact .inl h
  ·rcases g with g|⟨rfl,g⟩
   ·exact .inl g
   ·exact .inr ⟨rfl,gL h g⟩
def Lx(p q:Int×Int×zB):Prop:=p.1<q.1\/(p.1=q.1/\(p.2.1<q.2.1\/(p.2.1=q.2.1/\Op.bytesLess p.2.2 q.2.2=Q3)))
theorem Lx.trans{p q r:Int×Int×zB}(h:Lx p q)(g:Lx q r):Lx p r:=by
 unfold Lx at*;rcases h with h|⟨h1,h|⟨h2,h⟩⟩<;>rcases g with g|⟨g1,g|⟨g2,g⟩⟩
 ·exact .inl ow
 ·exact .inl ow
 ·exact .inl ow
 ·exact .inl ow
 ·exact .inr ⟨ow,.inl ow⟩
 ·exact .inr ⟨ow,.inl ow⟩
 ·exact .inl ow
 ·exact .inr ⟨ow,.inl ow⟩
 ·exact .inr ⟨ow,.inr ⟨ow,gL h g⟩⟩
theorem Lx.irrefl{p:Int×Int×zB}:¬Lx p p:=by
 unfold Lx;rw[bN];rintro(h|⟨_,h|⟨_,h⟩⟩)
 ·omega
 ·omega
 ·cases h
theorem Oq(a b:Int):tn a b=if a<b then -1 else if b<a then 1 else 0:=by
 show(if(a !=a)=Q3 then _ else if(b !=b)=Q3 then(1:Int)else if Q0 (a<b)=Q3 then -1 else if Q0 (a>b)=Q3 then 1 else 0)=_;simp
theorem S2(a b:Int):kR a b=if a<b then -1 else if b<a then 1 else 0:=Oq a b
theorem YY(a b:zB):(o7 a b=-1/\Op.bytesLess a b=Q3)\/(o7 a b=0/\a=b)\/(o7 a b=1/\Op.bytesLess a b=Q4):=by
 have:o7 a b=if Op.bytesLess a b=Q3 then -1 else if(!(Op.bytesLess a b||a==b))=Q3 then 1 else 0:=by
  show(if(!a==a)=Q3 then _ else if(!b==b)=Q3 then(1:Int)else if Op.bytesLess a b=Q3 then -1 else if(!(Op.bytesLess a b||a==b))=Q3 then 1 else 0)=_;simp
 rw[this];cases h:Op.bytesLess a b with
 |true=>exact .inl ⟨rfl,rfl⟩
 | false=>
  by_cases e:a=b
  ·exact .inr (.inl ⟨by simp[e],e⟩)
  ·exact .inr (.inr ⟨by simp[e],rfl⟩)
theorem zgE(k n k' n':Int)(s s':zB):(HQ [tn k k',kR n n',o7 s s']<0)↔Lx (k,n,s) (k',n',s'):=by
 show _↔(k<k'\/(k=k'/\(n<n'\/(n=n'/\Op.bytesLess s s'=Q3))));rw[Oq,S2];simp only[HQ];have irr:=bN s';rcases BF k k' with h|h|h
 ·simp[h]
 ·subst h;rcases BF n n' with g|g|g
  ·simp[g]
  ·subst g;rcases YY s s' with⟨e,f⟩|⟨e,f⟩|⟨e,f⟩
   ·simp[e,f]
   ·subst f;simp[e,irr]
   ·simp[e,f]
  ·have:¬n<n':=by omega
   have:n≠n':=by omega
   simp[*]
 ·have:¬k<k':=by omega
  have:k≠k':=by omega
  simp[*]
theorem wA{a b:Sem zf}:As a b↔Lx (au a) (au b):=zgE (au a).1 (au a).2.1 (au b).1 (au b).2.1 (au a).2.2 (au b).2.2
theorem ir{a b c:Sem zf}(h:As a b)(g:As b c):As a c:=wA.2 ((wA.1 h).trans (wA.1 g))
theorem jv{a:Sem zf}:¬As a a:=λh=>Lx.irrefl (wA.1 h)
theorem wa{α:Type}{R:α->α->Prop}(ht:∀{a b c},R a b->R b c->R a c){d:α}:∀{l:List α},(∀i,i<l.length-1->R (l.getD i d) (l.getD (i+1) d))↔l.Pairwise R
 |[]=>by simp
 |[a]=>by simp
 | a::b::r=>by
  have IH:=wa (R:=R) ht (d:=d) (l:=b::r);constructor
  ·intro h;have h0:=h 0 sw;have h1:(b::r).Pairwise R:=IH.1 λi hi=>h (i+1) (by simp only[eE]at hi⊢;omega)
   refine List.pairwise_cons.2 ⟨λx hx=>?_,h1⟩;rcases cr.1 hx with rfl|hx
   ·exact h0
   ·exact ht h0 ((List.pairwise_cons.1 h1).1 x hx)
  ·intro h i hi;obtain⟨h0,h1⟩:=List.pairwise_cons.1 h;cases i with
   |zero=>exact h0 b sw
   |succ i=>exact IH.2 h1 i (by simp only[eE]at hi⊢;omega)
def kLt(k:Int)(a b:List (Sem zf)):Prop:=As (al k a) (al k b)
theorem eC.pw{x:Sem zh}(h:eC x):x.2.Pairwise (kLt x.1.2.2.1):=(wa (R:=kLt x.1.2.2.1) ir).1 h.rise
theorem eC.sub{t:Sem zp}{l l':List (List (Sem zf))}(h:eC (t,l))(hs:List.Sublist l' l):eC (t,l') where
 may:=h.may
 few:=cC hs.length_le h.few
 fits:=λr hr=>h.fits r (hs.subset hr)
 key:=List.Pairwise.sublist hs h.key
 uniq:=λu hu=>List.Pairwise.sublist hs (h.uniq u hu)
 rise:=(wa (R:=kLt t.2.2.1) ir).2 (List.Pairwise.sublist hs h.pw)
theorem Gk(db:List (Sem zh))(i:Nat):(db.getD i (zj zh)).1=(db.map (·.1)).getD i (zj zh).1:=by
 rw[ba,ba,fA];cases db[i]?<;>rfl
theorem Vd{db:List (Sem zh)}{i:Nat}{x:Sem zh}(h:(db.getD i (zj zh)).1=x.1):(db.set i x).map (·.1)=db.map (·.1):=by
 rw[List.map_set];refine Fb λj=>?_
 rw[yp];by_cases e:i=j
 ·subst e;rw[if_pos rfl];by_cases hi:i<(db.map (·.1)).length
  ·rw[if_pos hi,zQ hi,<-h];congr 1;have hi':i<db.length:=by simpa using hi
   rw[ba,zQ hi',List.getElem_map];rfl
  ·rw[if_neg hi,fy ow]
 ·rw[if_neg e]
theorem jd.put{db:List (Sem zh)}{i:Nat}{x:Sem zh}(h:jd db)(ht:(db.getD i (zj zh)).1=x.1)(hx:eC x)(hb:EX (db.set i x)):jd (db.set i x) where
 few:=by rw[List.length_set];exact h.few
 names:=λj hj=>by
  rw[List.length_set]at hj;have:=h.names j hj;rw[Gk,Gk]at this⊢
  rwa [Vd ht]
 rels:=λy hy=>by
  rcases List.mem_or_eq_of_mem_set hy with hy|rfl
  ·exact h.rels y hy
  ·exact hx
 bound:=hb
theorem OQ{c:Int}{l:List (List (Sem zf))}(h:l.Pairwise (kLt c)):(l.map (al c)).Pairwise (·≠·):=by
 rw[List.pairwise_map];exact h.imp λ{a b} hab(e:al c a=al c b)=>jv (a:=al c b) (by have:=hab;unfold kLt at this;rwa [e]at this)
theorem jY:∀{a b:zB},Op.bytesLess a b=Q4->a≠b->Op.bytesLess b a=Q3
 |[],[],_,h=>absurd rfl h
 |[],_::_,h,_=>by simp[Op.bytesLess]at h
 |_::_,[],_,_=>rfl
 | a::x,b::y,h,hn=>by
  simp only[Op.bytesLess,Bool.or_eq_false_iff,decide_eq_false_iff_not,Bool.and_eq_false_iff,bX,mE,aO,aE,aZ]at h⊢;by_cases e:a=b
  ·subst e;refine .inr ⟨rfl,jY (h.2.resolve_left λg=>g rfl) λg=>hn (by rw[g])⟩
  ·exact .inl (UInt8.lt_of_le_of_ne (UInt8.not_lt.1 h.1) (Ne.symm e))
def tQ(u:Sem zf):List (Sem zf)->List (Sem zf)
 |[]=>[u]
 |o::r=>if LT.lt (α:=Int) (cW o u) 0 then o::tQ u r else if(o==u)=Q3 then o::r else u::o::r
def pt(l:List (Sem zf)):List (Sem zf):=l.foldl (λacc u=>if((u:Sem zf).1==0)=Q3 then acc else tQ u acc) []
theorem nt{a b:Sem zf}(ha:bg a=Q3)(hb:bg b=Q3)(h:¬As a b):a=b\/As b a:=by
 have ka:au a=a:=by unfold au;rw[ha];rfl
 have kb:au b=b:=by unfold au;rw[hb];rfl
 rw[wA,ka,kb]at h⊢;obtain⟨k,n,s⟩:=a;obtain⟨k',n',s'⟩:=b;unfold Lx at h⊢;simp only at h⊢;have h1:¬k<k':=λe=>h (.inl e)
 rcases Int.lt_or_eq_of_le (Int.not_lt.1 h1)with e|e
 ·exact .inr (.inl e)
 have h2:¬n<n':=λg=>h (.inr ⟨e.symm,.inl g⟩)
 rcases Int.lt_or_eq_of_le (Int.not_lt.1 h2)with g|g
 ·exact .inr (.inr ⟨e,.inl g⟩)
 by_cases hs:s=s'
 ·exact .inl (by rw[e,g,hs])
 ·refine .inr (.inr ⟨e,.inr ⟨g,jY ?_ hs⟩⟩);cases hx:Op.bytesLess s s'
  ·rfl
  ·exact absurd (.inr ⟨e.symm,.inr ⟨g.symm,hx⟩⟩) h
theorem vg{u:Sem zf}:∀{l:List (Sem zf)}{x:Sem zf},x∈tQ u l↔x=u\/x∈l
 |[],x=>by simp[tQ]
 | o::r,x=>by
  unfold tQ;split
  ·rw[cr,vg,cr];exact⟨λh=>by rcases h with h|h|h<;>simp[h],λh=>by rcases h with h|h|h<;>simp[h]⟩
  ·split
   ·rename_i h;have h:=bI h;subst h;simp
   ·simp
theorem GM{u:Sem zf}(hu:bg u=Q3):∀{l:List (Sem zf)},(∀x∈l,bg x=Q3)->l.Pairwise As->(tQ u l).Pairwise As
 |[],_,_=>by simp[tQ]
 | o :: r,hl,h=>by
  obtain⟨h1,h2⟩:=List.pairwise_cons.1 h;unfold tQ;split
  ·rename_i hlt;refine List.pairwise_cons.2 ⟨λx hx=>?_,GM hu (λx hx=>hl x (by simp[hx])) h2⟩;rcases vg.1 hx with rfl|hx
   ·exact hlt
   ·exact h1 x hx
  ·rename_i hn;split
   ·exact h
   ·rename_i hne;have ho:As u o:=by
     rcases nt (hl o sw) hu hn with e|e
     ·exact absurd (by rw[e];simp) hne
     ·exact e
    refine List.pairwise_cons.2 ⟨λx hx=>?_,h⟩;rcases cr.1 hx with rfl|hx
    ·exact ho
    ·exact ir ho (h1 x hx)
theorem xt:∀(l acc:List (Sem zf)),(∀x∈l,bg x=Q3)->(∀x∈acc,bg x=Q3)->acc.Pairwise As->
  (l.foldl (λacc u=>if((u:Sem zf).1==0)=Q3 then acc else tQ u acc) acc).Pairwise As/\∀x,x∈l.foldl (λacc u=>if((u:Sem zf).1==0)=Q3 then acc else tQ u acc) acc↔x∈acc\/(x∈l/\x.1≠0)
 |[],acc,_,_,h=>⟨h,λx=>by simp⟩
 | u::r,acc,hl,ha,h=>by
  rw[List.foldl_cons];by_cases hu:(u.1==0)=Q3
  ·rw[if_pos hu];obtain⟨h1,h2⟩:=xt r acc (λx hx=>hl x (by simp[hx])) ha h;refine⟨h1,λx=>(h2 x).trans ⟨λh=>h.imp id λh=>⟨by simp[h.1],h.2⟩,λh=>h.imp id λh=>⟨?_,h.2⟩⟩⟩;rcases cr.1 h.1 with rfl|h'
   ·exact absurd (bI hu) h.2
   ·exact h'
  ·rw[if_neg hu];have hm:=hl u sw;obtain⟨h1,h2⟩:=xt r (tQ u acc) (λx hx=>hl x (by simp[hx])) (λx hx=>by
    rcases vg.1 hx with rfl|hx
    ·exact hm
    ·exact ha x hx) (GM hm ha h)
   refine⟨h1,λx=>(h2 x).trans ?_⟩;rw[vg,cr];refine⟨λh=>?_,λh=>?_⟩
   ·rcases h with(rfl|h)|h
    ·exact .inr ⟨.inl rfl,λe=>hu (by rw[e];rfl)⟩
    ·exact .inl h
    ·exact .inr ⟨.inr h.1,h.2⟩
   ·rcases h with h|⟨rfl|h,h'⟩
    ·exact .inl (.inr h)
    ·exact .inl (.inl rfl)
    ·exact .inr ⟨h,h'⟩
theorem Aw{l:List (Sem zf)}(h:∀x∈l,bg x=Q3):(pt l).Pairwise As/\∀x,x∈pt l↔x∈l/\x.1≠0:=by
 obtain⟨h1,h2⟩:=xt l [] h sw sw;exact⟨h1,λx=>(h2 x).trans sw⟩
theorem II:∀{l m:List (Sem zf)},l.Pairwise As->m.Pairwise As->(∀x,x∈l↔x∈m)->l=m
 |[],[],_,_,_=>rfl
 |[],b::m,_,_,h=>by have:=(h b).2 sw;simp at this
 |a::l,[],_,_,h=>by have:=(h a).1 sw;simp at this
 | a::l,b::m,h1,h2,h=>by
  obtain⟨a1,a2⟩:=List.pairwise_cons.1 h1;obtain⟨b1,b2⟩:=List.pairwise_cons.1 h2;have e:a=b:=by
   rcases cr.1 ((h a).1 sw)with e|e
   ·exact e
   ·rcases cr.1 ((h b).2 sw)with g|g
    ·exact g.symm
    ·exact absurd (ir (a1 _ g) (b1 _ e)) jv
  subst e;rw[II a2 b2 λx=>⟨λhx=>?_,λhx=>?_⟩]
  ·rcases cr.1 ((h x).1 (by simp[hx]))with rfl|hx'
   ·exact absurd (a1 _ hx) jv
   ·exact hx'
  ·rcases cr.1 ((h x).2 (by simp[hx]))with rfl|hx'
   ·exact absurd (b1 _ hx) jv
   ·exact hx'
open Go Go.Proofs Go.Sort
def qJ(l:List (Sem zf)):Bool:=l.all (λv=>bg v&&(v.1!=0))&&decide l.Nodup&&!l.isEmpty
theorem WI{l l':List (Sem zf)}(h:qJ l=Q3)(hp:List.Perm l' l)(hs:l'.Pairwise λx y:Sem zf=>¬LT.lt (α:=Int) (cW y x) 0):l'=pt l:=by
 simp only[qJ,aE,ei,aO,bne_iff_ne,ne_eq]at h;obtain⟨⟨hm,hn⟩,_⟩:=h;obtain⟨a1,a2⟩:=Aw λx hx=>(hm x hx).1
 have hn':l'.Nodup:=hp.nodup_iff.2 hn;refine II ?_ a1 λx=>?_
 ·refine(hs.and hn').imp_of_mem λ{x y} hx hy h=>?_
  rcases nt (hm y (hp.mem_iff.1 hy)).1 (hm x (hp.mem_iff.1 hx)).1 h.1 with e|e
  ·exact absurd e.symm h.2
  ·exact e
 ·rw[a2 x,hp.mem_iff];exact⟨λhx=>⟨hx,(hm x hx).2⟩,λhx=>hx.1⟩
@[match_pattern] abbrev zqe:Sh:=.pr (.int .i64) (.pr (.int .i64) .str)
def zrP:zV:=λargs hp _=>match args with
 | [.vec id,.clo (.func 122) [] []]=>match hp id with
  |.vec zqe l=>(.chk (Q0 (length l<=1000000)) (.chk (qJ l) (.ok {val:=.tup [],wr:=[(id,.vec zf (pt l))]})))
  |_=>.err
 |_=>.err
theorem zoI:Go.Proofs.Enters Tryz.prog 122:=by
  cases hb:Tryz.f122.body with
  | none => have:Tryz.f122.body.isNone=false:=by kernel_rfl
            rw[hb]at this;cases this
  |some c=>exact Go.Proofs.enters_of (fn:=Tryz.f122) kw kw hb
def Zi(x0:Sem zA)(x1:Sem zh.sl):Tr (Empty⊕az):=
 let a0:=getD x1 (toNat 0) (zj zh)
 br (x0.1==dv) (Qc (zO 0 (length x1)) (re (ai a0.1.2.2.1) []))
 (br (x0.1==gK) (re (ai x0.t.2) [])
  (Qc (zO 0 (length x0.t.1)) (re (ai (getD x0.t.1 (toNat 0) (zj zg))) [])))
def wz(x0:Sem zA)(x1:Sem zh.sl):=ah [zg] t0 100000000 (Zi x0 x1)
def rZ(x0:Sem zA)(x1:Sem zh.sl):=(wz x0 x1).isSome
def fx(x0:Sem zA)(x1:Sem zh.sl):=o1 (wz x0 x1)
def zhT:=FT [zA,zh.sl] [zg] λx=>wz x.1 x.2.1
theorem zdJ:FK 120 zhT:=qO.T1 (f:=Tryz.f120) (keep:=k0) (e:=e0)
abbrev zlR:=lW [(7,[4,5,52,53,54])]
inductive Jt where
 |h7 (l52:List (Sem zi)) (i53:Int) (i54:Int) (ja0:List UInt8) (ja1:List UInt8) (ja2:List UInt8) (ja5:List UInt8) (ja8:List UInt8) (ja9:Int) (ja10:Int) (ja11:List UInt8) (ja12:List UInt8) (ja16:List UInt8) (ja17:Int) (ja18:Int) (ja19:List UInt8) (ja20:List UInt8) (ja22:List UInt8) (jb0:Sem Q6) (jb1:Sem Q6) (jb2:Sem Q6) (jb5:List UInt8) (jb8:zB) (jb9:Int) (jb10:Int) (jb11:zB) (jb12:zB) (jb13:List (Sem Q5)) (jb16:List UInt8) (jb17:Int) (jb18:Int) (jb19:List UInt8) (jb20:List UInt8) (jb22:Sem Q6)
 |h7b (l52:List (Sem zi)) (i53:Int) (i54:Int) (ja0:List UInt8) (ja1:List UInt8) (ja2:List UInt8) (ja5:List UInt8) (ja8:List UInt8) (ja9:Int) (ja10:Int) (ja11:List UInt8) (ja12:List UInt8) (ja16:List UInt8) (ja17:Int) (ja18:Int) (ja19:List UInt8) (ja20:List UInt8) (ja22:List UInt8) (jb0:Sem Q6) (jb1:Sem Q6) (jb2:Sem Q6) (jb5:List UInt8) (jb8:zB) (jb9:Int) (jb10:Int) (jb11:zB) (jb12:zB) (jb13:List (Sem Q5)) (jb16:List UInt8) (jb17:Int) (jb18:Int) (jb19:List UInt8) (jb20:List UInt8) (jb22:Sem Q6) (lh_2:List (Sem Q6))
abbrev zor:Jt->Nat×St
 |.h7 l52 i53 i54 ja0 ja1 ja2 ja5 ja8 ja9 ja10 ja11 ja12 ja16 ja17 ja18 ja19 ja20 ja22 jb0 jb1 jb2 jb5 jb8 jb9 jb10 jb11 jb12 jb13 jb16 jb17 jb18 jb19 jb20 jb22=>(7,⟨tm 67 [(4,ptr 0 0),(5,ptr 1 0),(52,sl zi l52),(53,ai i53),(54,ai i54)],[Qa [str ja0,str ja1,str ja2,Qb,Qb,str ja5,Qb,Qb,str ja8,ai ja9,ai ja10,str ja11,str ja12,Qb,Qb,Qb,str ja16,ai ja17,ai ja18,str ja19,str ja20,Qb,str ja22],Qa [str jb0,str jb1,str jb2,Qb,Qb,str jb5,Qb,Qb,str jb8,ai jb9,ai jb10,str jb11,str jb12,sl Q5 jb13,Qb,Qb,str jb16,ai jb17,ai jb18,str jb19,str jb20,Qb,str jb22]]⟩)
 |.h7b l52 i53 i54 ja0 ja1 ja2 ja5 ja8 ja9 ja10 ja11 ja12 ja16 ja17 ja18 ja19 ja20 ja22 jb0 jb1 jb2 jb5 jb8 jb9 jb10 jb11 jb12 jb13 jb16 jb17 jb18 jb19 jb20 jb22 lh_2=>(7,⟨tm 67 [(4,ptr 0 0),(5,ptr 1 0),(52,sl zi l52),(53,ai i53),(54,ai i54)],[Qa [str ja0,str ja1,str ja2,Qb,Qb,str ja5,Qb,Qb,str ja8,ai ja9,ai ja10,str ja11,str ja12,Qb,Qb,Qb,str ja16,ai ja17,ai ja18,str ja19,str ja20,Qb,str ja22],Qa [str jb0,str jb1,str jb2,AV.vec 2,Qb,str jb5,Qb,Qb,str jb8,ai jb9,ai jb10,str jb11,str jb12,sl Q5 jb13,Qb,Qb,str jb16,ai jb17,ai jb18,str jb19,str jb20,Qb,str jb22],AO.vec Q6 lh_2]⟩)
def Zq(x0:Sem zA)(x1:Sem zh.sl):Tr (Jt⊕az):=
 let a0:=Q0 (x0.t.2>=0)
 let a1:=zO 0 (length x1)
 let a2:=getD x1 (toNat 0) (zj zh)
 let a3:=(↑(length a2.1.2.1):Int)
 let a4:=getD a2.1.2.1 (toNat x0.t.2) (zj zi)
 br (x0.1==gK)
 (Qc (bif a0 then a1 else Q3)
  (br (bif a0 then Q0 (x0.t.2<a3)else Q4) (Qc a1 (Qc (zO x0.t.2 (length a2.1.2.1)) (re (agg [str x0.1,str x0.2.2.2.1.1,str x0.2.1,Qb,Qb,str a4.1,Qb,Qb,str (ze.op x0.2.2.2.1.t.2),ai (ze.v x0.2.2.2.1.t.2).1,
  ai (ze.v x0.2.2.2.1.t.2).2.1,str (ze.v x0.2.2.2.1.t.2).2.2,str (ze.s x0.2.2.2.1.t.2),sl Q5 (ze.l x0.2.2.2.1.t.2),Qb,Qb,str [],ai 0,ai 0,str [],str [],Qb,str x0.2.2.1]) []))) (re (agg
  [str x0.1,str x0.2.2.2.1.1,str x0.2.1,Qb,Qb,str [],Qb,Qb,str (ze.op x0.2.2.2.1.t.2),ai (ze.v x0.2.2.2.1.t.2).1,ai (ze.v x0.2.2.2.1.t.2).2.1,str (ze.v x0.2.2.2.1.t.2).2.2,str (ze.s x0.2.2.2.1.t.2),sl Q5 (ze.l x0.2.2.2.1.t.2),Qb,Qb,
  str [],ai 0,ai 0,str [],str [],Qb,str x0.2.2.1]) [])))
 (Q9
  (Jt.h7 x0.2.2.2.1.2.1 (↑(length x0.2.2.2.1.2.1):Int) 0 [] [] [] [] [] 0 0 [] [] [] 0 0 [] [] [] x0.1 x0.2.2.2.1.1 x0.2.1 [] (ze.op x0.2.2.2.1.t.2) (ze.v x0.2.2.2.1.t.2).1 (ze.v x0.2.2.2.1.t.2).2.1 (ze.v x0.2.2.2.1.t.2).2.2 (ze.s x0.2.2.2.1.t.2) (ze.l x0.2.2.2.1.t.2) [] 0 0 [] [] x0.2.2.1))
def Ar:Jt->Tr (Jt⊕az)
 | .h7 l52 i53 i54 ja0 ja1 ja2 ja5 ja8 ja9 ja10 ja11 ja12 ja16 ja17 ja18 ja19 ja20 ja22 jb0 jb1 jb2 jb5 jb8 jb9 jb10 jb11 jb12 jb13 jb16 jb17 jb18 jb19 jb20 jb22=>
  let a0:=l52.getD i54.toNat (zj zi)
  let a1:=[a0.1]
  br (Q0 (i54<i53))
  (Qc (zO i54 l52.length) (Qc (Q0 (a1.length<=1073741824)) (Q9 (Jt.h7b l52 i53 (IntKind.i64.wrap (i54+1)) ja0 ja1 ja2 ja5 ja8 ja9 ja10 ja11 ja12 ja16 ja17 ja18 ja19 ja20 ja22 jb0 jb1 jb2 jb5 jb8 jb9 jb10 jb11 jb12 jb13 jb16 jb17 jb18 jb19 jb20 jb22 a1))))
  (re (agg [str jb0,str jb1,str jb2,Qb,Qb,str jb5,Qb,Qb,str jb8,ai jb9,ai jb10,str jb11,str jb12,sl Q5 jb13,Qb,Qb,str jb16,ai jb17,ai jb18,str jb19,str jb20,Qb,str jb22]) [])
 | .h7b l52 i53 i54 ja0 ja1 ja2 ja5 ja8 ja9 ja10 ja11 ja12 ja16 ja17 ja18 ja19 ja20 ja22 jb0 jb1 jb2 jb5 jb8 jb9 jb10 jb11 jb12 jb13 jb16 jb17 jb18 jb19 jb20 jb22 lh_2=>
  let a0:=l52.getD i54.toNat (zj zi)
  let a1:=[a0.1]
  br (Q0 (i54<i53))
  (Qc (zO i54 l52.length) (Qc (Q0 (lh_2.length+a1.length<=1073741824)) (Q9 (Jt.h7b l52 i53 (IntKind.i64.wrap (i54+1)) ja0 ja1 ja2 ja5 ja8 ja9 ja10 ja11 ja12 ja16 ja17 ja18 ja19 ja20 ja22 jb0 jb1 jb2 jb5 jb8 jb9 jb10 jb11 jb12 jb13 jb16 jb17 jb18 jb19 jb20 jb22 (lh_2++a1)))))
  (re (agg [str jb0,str jb1,str jb2,AV.vec 0,Qb,str jb5,Qb,Qb,str jb8,ai jb9,ai jb10,str jb11,str jb12,sl Q5 jb13,Qb,Qb,str jb16,ai jb17,ai jb18,str jb19,str jb20,Qb,str jb22]) [AO.vec Q6 lh_2])
def HV(x0:Sem zA)(x1:Sem zh.sl):=ah [zl] Ar 100000000 (Zq x0 x1)
def Nk(x0:Sem zA)(x1:Sem zh.sl):=(HV x0 x1).isSome
def VU(x0:Sem zA)(x1:Sem zh.sl):=o1 (HV x0 x1)
def zie:=FT [zA,zh.sl] [zl] λx=>HV x.1 x.2.1
theorem zd7:FK 75 zie:=qO.T1 (f:=Tryz.f75) (keep:=zlR) (e:=zor)
def TN:=zbX.addL [(120,zhT),(75,zie)]
theorem ME:zt TN:=qO.addL<|fc zdJ<|fc zd7<|ja
def zpK(x0:Sem zh):Tr (Empty⊕az):=
 re (str x0.1.1) []
def Wy(x0:Sem zh):=ah [Q6] t0 100000000 (zpK x0)
def znV:=FT [zh] [Q6] λx=>Wy x.1
theorem zd3:FK 68 znV:=qO.T1 (f:=Tryz.f68) (keep:=k0) (e:=e0)
theorem zd4:FK 68 (aG [zh] [.str] λx=>(x.1.1.1,())):=g6 zd3 λ_=>rfl
def zbZ:=((((TN.add 68 (aG [zh] [.str] λx=>(x.1.1.1,()))).add 107 zcW).aut 70 Tryz.f70 2).aut 71 Tryz.f71 1)
theorem FR:zt zbZ:=iB (iB ((ME.add zd4).add zeC) (bR kw)) (bR kw)
abbrev zlD:=lW [(6,[1,2,5,6,19,20,21])]
inductive P0 where
 |h6 (l1:List (Sem zh)) (l6:List (Sem Q6)) (l19:List (Sem zh)) (i20:Int) (i21:Int) (z0:zn [CP.d zA])
abbrev zoj:P0->Nat×St
 |.h6 l1 l6 l19 i20 i21 z0=>(6,⟨tm 55 [(1,sl zh l1),(2,ptr 0 0),(5,ptr 1 0),(6,sl Q6 l6),(19,sl zh l19),(20,ai i20),(21,ai i21)],[Qa (bF [] [CP.d zA] z0),Qa [AV.clo (Fn.func 68) [] []]]⟩)
def zlb(x0:Sem zA)(x1:Sem zh.sl):Tr (P0⊕az):=
 let a0:=lm (x0.1,x0.2.1,x0.2.2.1,(x0.2.2.2.1.1,x0.2.2.2.1.2.1,x0.2.2.2.1.2.2.1,x0.2.2.2.1.2.2.2.1,x0.2.2.2.1.t.1,zm x0.2.2.2.1.t.2),x0.t)
 br ((↑(length x1):Int)!=(↑(length a0):Int)) (re (ai 1) []) (Q9 (P0.h6 x1 a0 x1 (↑(length x1):Int) 0 (x0,())))
def zah:P0->Tr (P0⊕az)
 | .h6 l1 l6 l19 i20 i21 z0=>
  let a0:=l19.getD i21.toNat (zj zh)
  let a1:=(z0.1.1,z0.1.2.1,z0.1.2.2.1,(z0.1.2.2.2.1.1,z0.1.2.2.2.1.2.1,z0.1.2.2.2.1.2.2.1,z0.1.2.2.2.1.2.2.2.1,z0.1.2.2.2.1.t.1,zm z0.1.2.2.2.1.t.2),z0.1.t)
  let a2:=VU a1 l1
  let a3:=(a2.1,a2.2.1,a2.2.2.1,a2.2.2.2.1,a2.t.1,a2.t.2.1,a2.t.q.1,a2.t.q.2.1,zm a2.t.t.1,a2.t.t.2.1,a2.t.t.q.1,zm a2.t.t.q.2.1,a2.t.t.t)
  let a4:=pOf (fQ l1) a3
  let a5:=a4.2!=0
  let a6:=(a4.1.1,a4.1.2.1,a4.1.2.2.1,(a4.1.2.2.2.1.1,a4.1.2.2.2.1.2.1,a4.1.2.2.2.1.2.2.1,a4.1.2.2.2.1.2.2.2.1,a4.1.2.2.2.1.t.1,zm a4.1.2.2.2.1.t.2),a4.1.t)
  br (Q0 (i21<i20))
  (Qc (zO i21 l19.length) (Qc (zO i21 l6.length) (br (!a0.1.1==l6.getD i21.toNat (zj Q6)) (re (ai 1) []) (Q9 (P0.h6 l1 l6 l19 i20 (IntKind.i64.wrap (i21+1)) z0)))))
  (Qc (Q0 (0<l1.length)) (Qc (Q0 (l1.length<=1000)) (Qc (two l1) (Qc (Nk a1 l1) (Qc (zgF (fQ l1) a3) (Qc (bif a5 then Q3 else HT a1 a6) (br (bif a5 then Q3 else !KV a1 a6) (re (ai 1) []) (re (ai 0) []))))))))
def Pd(x0:Sem zA)(x1:Sem zh.sl):=ah [zg] zah 100000000 (zlb x0 x1)
def KT(x0:Sem zA)(x1:Sem zh.sl):=(Pd x0 x1).isSome
def VS(x0:Sem zA)(x1:Sem zh.sl):=o1 (Pd x0 x1)
def zhO:=FT [zA,zh.sl] [zg] λx=>Pd x.1 x.2.1
theorem zdE:FK 32 zhO:=FR.T1 (f:=Tryz.f32) (keep:=zlD) (e:=zoj)
def zb0:=zbZ.add 32 zhO
theorem FS:zt zb0:=FR.add zdE
abbrev zlO:=lW [(4,[1,6,7,8]),(12,[1,6,7,8,10,11,12])]
inductive mh where
 |h4 (l1:List (Sem zh)) (l6:List (Sem Q6)) (i8:Int)
 |h12 (l1:List (Sem zh)) (l6:List (Sem Q6)) (i8:Int) (i12:Int) (z0:zn [CP.d zh])
 |h12b (l1:List (Sem zh)) (l6:List (Sem Q6)) (i8:Int) (i12:Int) (z0:zn [CP.d zh]) (lh_1:List (Sem zo))
 |h4b (l1:List (Sem zh)) (l6:List (Sem Q6)) (i8:Int) (lh_0:List (Sem zh))
 |h12bb (l1:List (Sem zh)) (l6:List (Sem Q6)) (i8:Int) (i12:Int) (z1:zn [CP.d zh]) (lh_0:List (Sem zh))
 |h12bbb (l1:List (Sem zh)) (l6:List (Sem Q6)) (i8:Int) (i12:Int) (z1:zn [CP.d zh]) (lh_0:List (Sem zh)) (lh_2:List (Sem zo))
abbrev zop:mh->Nat×St
 |.h4 l1 l6 i8=>(4,⟨tm 67 [(1,sl zh l1),(6,sl Q6 l6),(7,Qb),(8,ai i8)],[]⟩)
 |.h12 l1 l6 i8 i12 z0=>(12,⟨tm 67 [(1,sl zh l1),(6,sl Q6 l6),(7,Qb),(8,ai i8),(10,ptr 0 0),(11,Qb),(12,ai i12)],[Qa (bF [] [CP.d zh] z0)]⟩)
 |.h12b l1 l6 i8 i12 z0 lh_1=>(12,⟨tm 67 [(1,sl zh l1),(6,sl Q6 l6),(7,Qb),(8,ai i8),(10,ptr 0 0),(11,AV.vec 1),(12,ai i12)],[Qa (bF [] [CP.d zh] z0),AO.vec zo lh_1]⟩)
 |.h4b l1 l6 i8 lh_0=>(4,⟨tm 67 [(1,sl zh l1),(6,sl Q6 l6),(7,AV.vec 0),(8,ai i8)],[AO.vec zh lh_0]⟩)
 |.h12bb l1 l6 i8 i12 z1 lh_0=>(12,⟨tm 67 [(1,sl zh l1),(6,sl Q6 l6),(7,AV.vec 0),(8,ai i8),(10,ptr 1 0),(11,Qb),(12,ai i12)],[AO.vec zh lh_0,Qa (bF [] [CP.d zh] z1)]⟩)
 |.h12bbb l1 l6 i8 i12 z1 lh_0 lh_2=>(12,⟨tm 67 [(1,sl zh l1),(6,sl Q6 l6),(7,AV.vec 0),(8,ai i8),(10,ptr 1 0),(11,AV.vec 2),(12,ai i12)],[AO.vec zh lh_0,Qa (bF [] [CP.d zh] z1),AO.vec zo lh_2]⟩)
def zfN(x0:Sem zA)(x1:Sem zh.sl):Tr (mh⊕az):=
 let a0:=(x0.1,x0.2.1,x0.2.2.1,(x0.2.2.2.1.1,x0.2.2.2.1.2.1,x0.2.2.2.1.2.2.1,x0.2.2.2.1.2.2.2.1,x0.2.2.2.1.t.1,zm x0.2.2.2.1.t.2),x0.t)
 Qc (jQ a0) (Q9 (mh.h4 x1 (lp a0) 0))
def gA:mh->Tr (mh⊕az)
 | .h4 l1 l6 i8=>
  let a0:=lw l1 (l6.getD i8.toNat (zj Q6))
  br (Q0 (i8<(↑l6.length:Int)))
  (Qc (zO i8 l6.length) (br (Q0 (a0<0)) (re (tup [Qb,kb Q4]) []) (Qc (zO a0 l1.length) (Q9 (mh.h12 l1 l6 i8 0 (l1.getD (toNat a0) (zj zh),()))))))
  (re (tup [Qb,kb Q3]) [])
 | .h12 l1 l6 i8 i12 z0=>
  let a0:=(↑(length z0.1.1.t.1):Int)
  let a1:=zO i12 (length z0.1.1.t.1)
  let a2:=getD z0.1.1.t.1 i12.toNat (zj zo)
  let a3:=[a2]
  let a4:=IntKind.i64.wrap (i12+1)
  let a5:=[((z0.1.1.1,z0.1.1.2.1,z0.1.1.2.2.1,z0.1.1.2.2.2.1,[],zm z0.1.1.t.2),z0.1.2)]
  br (Q0 (i12<a0))
  (Qc a1 (Qc (yY l6 a2.2) (br (Lo l6 a2.2) (Qc a1 (Qc (Q0 (a3.length<=1073741824)) (Q9 (mh.h12b l1 l6 i8 a4 z0 a3)))) (Q9 (mh.h12 l1 l6 i8 a4 z0)))))
  (Qc (Q0 (a5.length<=1073741824)) (Q9 (mh.h4b l1 l6 (IntKind.i64.wrap (i8+1)) a5)))
 | .h12b l1 l6 i8 i12 z0 lh_1=>
  let a0:=(↑(length z0.1.1.t.1):Int)
  let a1:=zO i12 (length z0.1.1.t.1)
  let a2:=getD z0.1.1.t.1 i12.toNat (zj zo)
  let a3:=[a2]
  let a4:=IntKind.i64.wrap (i12+1)
  let a5:=[((z0.1.1.1,z0.1.1.2.1,z0.1.1.2.2.1,z0.1.1.2.2.2.1,lh_1,zm z0.1.1.t.2),z0.1.2)]
  br (Q0 (i12<a0))
  (Qc a1 (Qc (yY l6 a2.2) (br (Lo l6 a2.2) (Qc a1 (Qc (Q0 (lh_1.length+a3.length<=1073741824)) (Q9 (mh.h12b l1 l6 i8 a4 z0 (lh_1++a3))))) (Q9 (mh.h12b l1 l6 i8 a4 z0 lh_1)))))
  (Qc (Q0 (a5.length<=1073741824)) (Q9 (mh.h4b l1 l6 (IntKind.i64.wrap (i8+1)) a5)))
 | .h4b l1 l6 i8 lh_0=>
  let a0:=lw l1 (l6.getD i8.toNat (zj Q6))
  br (Q0 (i8<(↑l6.length:Int)))
  (Qc (zO i8 l6.length) (br (Q0 (a0<0)) (re (tup [Qb,kb Q4]) []) (Qc (zO a0 l1.length) (Q9 (mh.h12bb l1 l6 i8 0 (l1.getD (toNat a0) (zj zh),()) lh_0)))))
  (re (tup [AV.vec 0,kb Q3]) [AO.vec zh lh_0])
 | .h12bb l1 l6 i8 i12 z1 lh_0=>
  let a0:=(↑(length z1.1.1.t.1):Int)
  let a1:=zO i12 (length z1.1.1.t.1)
  let a2:=getD z1.1.1.t.1 i12.toNat (zj zo)
  let a3:=[a2]
  let a4:=IntKind.i64.wrap (i12+1)
  let a5:=[((z1.1.1.1,z1.1.1.2.1,z1.1.1.2.2.1,z1.1.1.2.2.2.1,[],zm z1.1.1.t.2),z1.1.2)]
  br (Q0 (i12<a0))
  (Qc a1 (Qc (yY l6 a2.2) (br (Lo l6 a2.2) (Qc a1 (Qc (Q0 (a3.length<=1073741824)) (Q9 (mh.h12bbb l1 l6 i8 a4 z1 lh_0 a3)))) (Q9 (mh.h12bb l1 l6 i8 a4 z1 lh_0)))))
  (Qc (Q0 (lh_0.length+a5.length<=1073741824)) (Q9 (mh.h4b l1 l6 (IntKind.i64.wrap (i8+1)) (lh_0++a5))))
 | .h12bbb l1 l6 i8 i12 z1 lh_0 lh_2=>
  let a0:=(↑(length z1.1.1.t.1):Int)
  let a1:=zO i12 (length z1.1.1.t.1)
  let a2:=getD z1.1.1.t.1 i12.toNat (zj zo)
  let a3:=[a2]
  let a4:=IntKind.i64.wrap (i12+1)
  let a5:=[((z1.1.1.1,z1.1.1.2.1,z1.1.1.2.2.1,z1.1.1.2.2.2.1,lh_2,zm z1.1.1.t.2),z1.1.2)]
  br (Q0 (i12<a0))
  (Qc a1 (Qc (yY l6 a2.2) (br (Lo l6 a2.2) (Qc a1 (Qc (Q0 (lh_2.length+a3.length<=1073741824)) (Q9 (mh.h12bbb l1 l6 i8 a4 z1 lh_0 (lh_2++a3))))) (Q9 (mh.h12bbb l1 l6 i8 a4 z1 lh_0 lh_2)))))
  (Qc (Q0 (lh_0.length+a5.length<=1073741824)) (Q9 (mh.h4b l1 l6 (IntKind.i64.wrap (i8+1)) (lh_0++a5))))
def Df(x0:Sem zA)(x1:Sem zh.sl):=ah [zh.sl,Sh.bool] gA 100000000 (zfN x0 x1)
def Nq(x0:Sem zA)(x1:Sem zh.sl):=(Df x0 x1).isSome
def V9(x0:Sem zA)(x1:Sem zh.sl):=o2 (Df x0 x1)
def zia:=FT [zA,zh.sl] [zh.sl,Sh.bool] λx=>Df x.1 x.2.1
theorem zd0:FK 51 zia:=FS.T1 (f:=Tryz.f51) (keep:=zlO) (e:=zop)
def yF:=zb0.add 51 zia
theorem xm:zt yF:=FS.add zd0
abbrev zcu:=lW [(4,[5,6,18,19,20]),(11,[9,34])]
inductive P1 where
 |h4 (i5:Sem zg) (l18:List (Sem zf.sl)) (i19:Int) (i20:Int) (mh_0:List ((Int×Int×zB)×Int))
abbrev Ms:P1->Nat×St
 |.h4 i5 l18 i19 i20 mh_0=>(4,⟨tm 46 [(5,ai i5),(6,AV.mp 0),(18,sl zf.sl l18),(19,ai i19),(20,ai i20)],[AO.vmap Q3 mh_0]⟩)
def zfK(x0:Sem zA)(x1:Sem zh.sl):Tr (P1⊕az):=
 let a0:=(x0.1,x0.2.1,x0.2.2.1,(x0.2.2.2.1.1,x0.2.2.2.1.2.1,x0.2.2.2.1.2.2.1,x0.2.2.2.1.2.2.2.1,x0.2.2.2.1.t.1,zm x0.2.2.2.1.t.2),x0.t)
 let a1:=getD x1 (toNat 0) (zj zh)
 Qc (rZ a0 x1) (Qc (zO 0 (length x1)) (Q9 (P1.h4 (fx a0 x1) a1.2 (↑(length a1.2):Int) 0 [])))
def znF:P1->Tr (P1⊕az)
 | .h4 i5 l18 i19 i20 mh_0=>
  let a0:=l18.getD i20.toNat (zj zf.sl)
  br (Q0 (i20<i19))
  (Qc (zO i20 l18.length) (Qc (zO i5 (length a0)) (Q9 (P1.h4 i5 l18 i19 (IntKind.i64.wrap (i20+1)) (kr mh_0 (getD a0 (toNat i5) (zj zf)) 0)))))
  Tr.err
set_option maxRecDepth 100000
def wO(es:List ((Int×Int×zB)×Int))(k:Int×Int×zB):List ((Int×Int×zB)×Int):=match cn es k 0 with
 |some q=>es.eraseIdx q.1
 |none=>es
theorem xB{α β:Type}(f:α->β):∀(l:List α)(i:Nat),(l.eraseIdx i).map f=(l.map f).eraseIdx i
 |[],_=>rfl
 |_::_,0=>rfl
 | x::r,i+1=>by
  show f x::(r.eraseIdx i).map f=f x::(r.map f).eraseIdx i;rw[xB f r i]
theorem Y1{P:Program}{mt kt et:TypeId}(hm:P.underlying mt=Q1 (.map kt et))(hvk:nr P kt=Q3){w:World}{r:Nat}{ents:Array MapEntry}{clock:Nat}{es:List ((Int×Int×zB)×Int)}{k:Int×Int×zB}(hko:iX k)
  (hb:w.heap[r]?=Q1 (.map ents clock)) (he:(ents.toList.map λe=>(e.key,e.val))=Ce Q3 es) (ho:∀p∈es,cq .i64 p.2/\iX p.1) (hs:lL ents clock):
  ∃ents':Array MapEntry,(∀ty,(Builtin.delete_ #[mt,kt] ty #[.map (Q1 r),dN k]).run P w=.ok (.tuple #[]) {w with heap:=w.heap.setIfInBounds r (.map ents' clock)})/\
   (ents'.toList.map λe=>(e.key,e.val))=Ce Q3 (wO es k)/\(∀x∈ents'.toList,x.born<clock)/\(ents'.toList.map (·.born)).Nodup:=by
 have hfk:=jB (P:=P) (w:=w) hvk hko Q3 es ents.toList he ho;have hborn:∀x∈ents.toList,x.born<clock:=λx hx=>by
  obtain⟨i,hi,rfl⟩:=g8 hx;have:=hs.2 i ents.toList[i] (by rw[<-sA];exact zQ hi);rw[this,hs.1];simpa using hi
 have hnd:(ents.toList.map (·.born)).Nodup:=by
  have:ents.toList.map (·.born)=List.range ents.size:=by
   apply List.ext_getElem
   ·simp
   ·intro i h1 h2;have hi:i<ents.size:=by simpa using h1
    simp only[List.getElem_map,List.getElem_range];exact hs.2 i _ (by rw[<-sA];exact zQ (by simpa using hi))
  rw[this];exact List.nodup_range
 unfold wO;cases hfi:cn es k 0 with
 | none=>
  rw[hfi]at hfk;refine⟨ents,λty=>?_,he,hborn,hnd⟩;simp[Builtin.delete_,bz hm,kM hb,dg hvk,hfk,yl _ hb,Result.andThen]
 | some q=>
  rw[hfi]at hfk;have hsub:((ents.eraseIdxIfInBounds q.1).toList)=ents.toList.eraseIdx q.1:=by simp
  refine⟨ents.eraseIdxIfInBounds q.1,λty=>?_,?_,λx hx=>?_,?_⟩
  ·simp[Builtin.delete_,bz hm,kM hb,dg hvk,hfk,yl _ hb,Result.andThen]
  ·rw[hsub,xB,he];exact(xB _ es q.1).symm
  ·rw[hsub]at hx;exact hborn x (List.mem_of_mem_eraseIdx hx)
  ·rw[hsub];exact hnd.sublist ((List.eraseIdx_sublist _ _).map _)
def DQ:Code:=match Tryz.f77.body with
 |some (.seq _ (.seq _ (.seq _ (.seq _ r))))=>r
 |_=>.skip
def CS:Code:=match Tryz.f77.body with
 |some (.seq _ (.seq _ (.seq _ (.seq (.seq _ (.block _ (.loop c))) _))))=>c
 |_=>.skip
theorem zfC:ac Tryz.f77 4=[.code CS,.inLoop CS,.inBlock 0,.code DQ]:=kw
theorem zfS:(Tryz.prog.info? 27).map (λi=>(i.zero,i.size,i.bytes))=Q1 (Q1 (.agg #[.int .i64 0,.int .i64 0,.string ⟨#[]⟩]),3,32):=kw
def Kn(l:List ((Int×Int×zB)×MapEntry)):List Value:=l.flatMap λp=>[.int .i64 p.1.1,.int .i64 p.1.2.1,.string ⟨p.1.2.2.toArray⟩]
structure zcU (w1:World) (r clock:Nat) (ents':Array MapEntry) (v:Value) (wr:World) (seen:Array Nat) (E:List ((Int×Int×zB)×MapEntry)):Prop where
 it:∃c0,wr.heap[w1.heap.size]?=Q1 (.mapIter (Q1 r) clock seen c0)/\clock<=c0
 mp:wr.heap[r]?=Q1 (.map ents' clock)
 sub:∀p∈E,p.2∈ents'.toList/\p.2.key=dN p.1
 sn:seen.toList=E.map λp=>p.2.born
 nd:(E.map λp=>p.2.born).Nodup
 row:wr.ownsRow w1.heap.size 27 3 v E.length (Kn E)
 bel:RowKit.Below w1.heap.size w1 wr
 cnt:E.length+(leftOf ents' seen).size<=ents'.size
theorem QC(w:World)(l:List Value)(t:TypeId):∀j u,l[j]?=Q1 u->(w.alloc (.cells l.toArray t)).cell? ((⟨w.heap.size,0,none⟩:Addr).add j)=Q1 u:=by
 intro j u h;unfold Addr.add;split
 ·rename_i e;subst e;simp[h]
 ·simp[h]
theorem Z8(Q:Exit->Act->World->Prop)(S:Value->World->Prop)(r:Nat)(ents':Array MapEntry)(clock:Nat)(w w1:World)(hdel:∀ty,(Builtin.delete_ #[181,27] ty #[.map (Q1 r),.agg #[.int .i64 0,.int .i64 0,.string ⟨#[]⟩]]).run Tryz.prog w=.ok (.tuple #[]) w1)(hm:w1.heap[r]?=Q1 (.map ents' clock))(hborn:∀x∈ents'.toList,x.born<clock)(hnd:(ents'.toList.map (·.born)).Nodup) (hkeys:∀x∈ents'.toList,∃k,x.key=dN k) (hsz:ents'.size<=1000)
  (hsort:∀v wr seen E,zcU w1 r clock ents' v wr seen E->(leftOf ents' seen).size=0->Calls Tryz.prog 121 #[v,.func (.func 122) #[] #[]] wr λe w'=>e=.returned (.tuple #[])/\S v w')
  (hQ:∀v w'(a:Act),S v w'->a.tmps[4]?=Q1 v->a.defers=[]->Q Exit.ret a w')
  (v0 v1 v2 v3 v4 v5 v7 v8 v9 v10 v11 v12 v13 v14 v15 v16 v17 v18 v19 v20 v21 v22 v23 v24 v25 v26 v27 v28 v29 v30 v31 v32 v33 v34 v35 v36 v37 v38 v39 v40 v41 v42 v43 v44 v45:Value):
  DQ.wp Tryz.prog Q {tmps:=#[v0,v1,v2,v3,v4,v5,(Value.map (Q1 r)),v7,v8,v9,v10,v11,v12,v13,v14,v15,v16,v17,v18,v19,v20,v21,v22,v23,v24,v25,v26,v27,v28,v29,v30,v31,v32,v33,v34,v35,v36,v37,v38,v39,v40,v41,v42,v43,v44,v45],defers:=[]} w:=by
 have hrg:=run_range_map (P:=Tryz.prog) w1 181 27 182 r ents' clock Tryz.underlying181 hm;simp only[DQ,Tryz.f77]
 go_wp2
 obtain⟨i0,hi,hz0,hz1,hz2⟩:=info_parts zfS
 go_loopw [9] (λv wr=>∃seen E,zcU w1 r clock ents' v wr seen E)
  (λ_ wr=>(leftOf ents' (wr.iterSeen w1.heap.size)).size)
 case atStart=>
  exact⟨#[],[],⟨⟨clock,heap_alloc_new _ _,ae _⟩,by rw[heap_alloc_old _ _ (dU.1 hm).1];exact hm,sw,sw,sw,World.ownsRow_nil _ _ _ _,(RowKit.Below.refl _ _).alloc (ae _) _,by simpa[leftOf]using Array.size_filter_le⟩⟩
 case round=>
  obtain⟨seen,E,hC⟩:=hrel;obtain⟨c0,hit,hsc⟩:=hC.it;have hrlt:r<w1.heap.size:=(dU.1 hm).1;rcases run_next_at (P:=Tryz.prog) wr 0 w1.heap.size r clock c0 seen ents' clock hit hC.mp hborn hsc with⟨hz,hnx⟩|⟨e,he,wd,hwd,hnx⟩
  ·have hC':=hsort _ _ _ _ hC (by simpa using hz);clear hC
   go_wp2_with (go_at_call 121;refine hC'.mono ?_;rintro e w' ⟨rfl,hS⟩)
   exact hQ _ _ _ hS rfl rfl
  ·have hem:e∈ents'.toList:=by simp[leftOf]at he⊢;exact he.1
   have hes:e.born∉E.map λp=>p.2.born:=by
    rw[<-hC.sn];simp[leftOf]at he⊢;exact he.2
   obtain⟨k,hk⟩:=hkeys e hem;have hleft:0<(leftOf ents' seen).size:=by
    have:=List.length_pos_of_mem he;simpa using this
   have hcnt:=hC.cnt;have hEl:E.length<1000:=by omega
   obtain⟨W3,hW3⟩:∃W3,ChangeMaps.setBlock wd w1.heap.size (.mapIter (Q1 r) clock (seen.push e.born) clock)=W3:=⟨_,rfl⟩;rw[hW3]at hnx;have hwh:wd.heap=wr.heap:=by rcases hwd with rfl|rfl<;>rfl
   have hilt:w1.heap.size<wr.heap.size:=(dU.1 hit).1;have hit3:W3.heap[w1.heap.size]?=Q1 (.mapIter (Q1 r) clock (seen.push e.born) clock):=by
    rw[<-hW3];show(wd.heap.setIfInBounds _ _)[_]?=_;rw[hwh];simp[hilt]
   have hoth:∀j,j≠w1.heap.size->W3.heap[j]?=wr.heap[j]?:=λj hj=>by
    rw[<-hW3];show(wd.heap.setIfInBounds _ _)[_]?=_;rw[hwh,Array.getElem?_setIfInBounds_ne (λe=>hj e.symm)]
   have hsz3:W3.heap.size=wr.heap.size:=by
    rw[<-hW3];show(wd.heap.setIfInBounds _ _).size=_;rw[hwh];simp
   have hgr:wr.grownBy W3 (Q1 w1.heap.size):=⟨by rw[<-hW3];rcases hwd with rfl|rfl<;>rfl,by rw[<-hW3];rcases hwd with rfl|rfl<;>rfl,by rw[<-hW3];rcases hwd with rfl|rfl<;>rfl,by rw[hsz3];exact ae _,λj _ hj=>hoth j λe=>hj (by rw[e])⟩;have hmp3:W3.heap[r]?=Q1 (.map ents' clock):=(hoth r ow).trans hC.mp;have hen:=run_entry_at (P:=Tryz.prog) W3 w1.heap.size r clock seen ents' clock e hit3 hmp3 hem hnd;have hrow3:=hC.row.kept hgr (by
    rcases hC.row.2 with⟨rfl,_⟩|⟨g,cap,cur,rfl,_,hgb,_⟩
    ·exact .inl rfl
    ·refine .inr λe'=>?_
     have:g=w1.heap.size:=by simpa[Value.ownBlock]using e'
     subst this;rw[hit]at hgb;cases hgb)
   have hbel3:RowKit.Below w1.heap.size w1 W3:=hC.bel.grown hgr hC.bel.size (λj e=>by cases e;exact ae _);rw[hk]at hnx hen;obtain⟨k1,k2,k3⟩:=k;simp only[dN]at hnx hen;have hsub:=hC.sub;have hsn:=hC.sn;have hndE:=hC.nd;clear hW3 hwd hwh hsz3 hgr hC
   go_wp2_with (at_builtin;refine wpList_append_own _ rfl _ _ 31 rfl w1.heap.size 27 i0 _ 3 32 Tryz.underlying31 hi hz0 hz1 hz2 rfl (by decide) _ _ _ rfl ((hrow3.alloc _).alloc _) ⟨W3.heap.size+1,0,none⟩ 1 1 [.int .i64 k1,.int .i64 k2,.string ⟨k3.toArray⟩] rfl rfl (by have:=QC (W3.alloc (.cells #[.int .i64 k1,.int .i64 k2,.string ⟨k3.toArray⟩] 27)) [.int .i64 k1,.int .i64 k2,.string ⟨k3.toArray⟩] 27;simpa using this) (by simp[Value.oneCell']) (by unfold maxLen;omega) ow (by have:=hbel3.size;simp;omega) ?_;intro v' w3 hown' hgr3 hnil3;go_frame)
   obtain⟨o3,ho3⟩:∃o:Obj,o=.cells #[.int .i64 k1,.int .i64 k2,.string ⟨k3.toArray⟩] 27:=⟨_,rfl⟩;have hgr4:World.grownBy ((W3.alloc o3).alloc o3) w3 u9.ownBlock:=by rw[ho3];exact hgr3
   clear hgr3 hnil3;have hown9:∀j,u9.ownBlock=Q1 j->w1.heap.size<=j/\j≠w1.heap.size:=by
    intro j hj;rcases hrow3.2 with⟨rfl,_⟩|⟨g,cap,cur,rfl,hbg,hgb,_⟩
    ·simp[Value.ownBlock]at hj
    ·have:g=j:=by simpa[Value.ownBlock]using hj
     subst this;exact⟨hbg,λe'=>by subst e';rw[hit3]at hgb;cases hgb⟩
   have hs3:w1.heap.size<W3.heap.size:=(dU.1 hit3).1;have hold:∀j,j<=w1.heap.size->w3.heap[j]?=W3.heap[j]?:=λj hj=>by
    rw[hgr4.block j sg (λe'=>by obtain⟨a,b⟩:=hown9 j e'.symm;omega),heap_alloc_old _ _ sg,heap_alloc_old _ _ ow]
   have hnew:w3.heap[w1.heap.size]?=Q1 (Obj.mapIter (Q1 r) clock (seen.push e.born) clock):=(hold _ (ae _)).trans hit3;have hfl:Kn (E++[((k1,k2,k3),e)])=Kn E++[.int .i64 k1,.int .i64 k2,.string ⟨k3.toArray⟩]:=by simp[Kn]
   refine⟨⟨seen.push e.born,E++[((k1,k2,k3),e)],⟨⟨clock,hnew,ae _⟩,(hold r ow).trans hmp3,?_,?_,?_,?_,?_,?_⟩⟩,?_⟩
   ·intro p hp;rcases cQ.1 hp with h|h
    ·exact hsub p h
    ·obtain rfl:=gn.1 h;exact⟨hem,hk⟩
   ·simp[hsn]
   ·rw[iA];refine List.nodup_append.2 ⟨hndE,sw,λa ha b hb=>?_⟩;have:b=e.born:=by simpa using hb
    rintro rfl;exact hes (this▸ha)
   ·rw[hfl,j9];exact hown'
   ·exact((hbel3.alloc ow _).alloc sg _).grown hgr4 sg (λj hj=>(hown9 j hj).1)
   ·have:=left_shrinks _ _ _ he;rw[j9];simp only[eE,jI];omega
   ·have e1:wr.iterSeen w1.heap.size=seen:=by simp[World.iterSeen,hit]
    have e2:w3.iterSeen w1.heap.size=seen.push e.born:=by simp[World.iterSeen,hnew]
    rw[e1,e2];exact left_shrinks _ _ _ he
abbrev V3:={x:Sem zf//bg x=Q3}
def j0(p:V3):List Value:=[.int .i64 p.1.1,.int .i64 p.1.2.1,.string ⟨(p.1.2.2:zB).toArray⟩]
def JL(p q:V3):Int:=cW p.1 q.1
theorem zgQ[Inhabited V3](d:Array V3)(B cap:Nat)(w:World)(hH:HoldsK j0 3 w B 0 d)(hB:B<w.heap.size)(h:d.size<4611686018427387904):
  Calls Tryz.prog 121 #[.slice (Q1 ⟨B,0,none⟩) d.size cap,.func (.func 122) #[] #[]] w λe w'=>e=.returned (.tuple #[])/\∃n os,w'=sortWorldK j0 3 w B 0 n (d.toList.mergeSort λx y=>!(ltOf JL) y x).toArray os:=by
 refine AnyQ.slices_SortFunc_total Tryz.sortVal 3 Tryz.isAgg27 Tryz.sizeOf27 j0 (λ_=>rfl) ?_ JL ?_ 122 #[] B 0 cap d w zoI ?_ hH hB h ?_
 ·intro x v hv;simp only[j0,cr,List.not_mem_nil,or_false]at hv;rcases hv with rfl|rfl|rfl<;>rfl
 ·refine⟨λx=>?_,λx y z h g=>?_,λx y z h g=>?_⟩
  ·exact ao (jv (a:=x.1))
  ·simp only[ltOf,aO]at h g⊢;exact ir (a:=x.1) (b:=y.1) (c:=z.1) h g
  ·simp only[ltOf,decide_eq_false_iff_not]at h g⊢;intro hxz;rcases nt x.2 y.2 h with e|e
   ·unfold JL at hxz;rw[e]at hxz;exact g hxz
   ·exact g (ir (a:=y.1) (b:=x.1) (c:=z.1) e hxz)
 ·intro m os dk hdk x y;show Calls Tryz.prog 122 (#[Value.agg (j0 x).toArray,Value.agg (j0 y).toArray]++#[]) _ _;refine(ZT x.1.1 x.1.2.1 x.1.2.2 y.1.1 y.1.2.1 y.1.2.2 _).mono ?_;rintro e' w' ⟨rfl,h1,h2⟩;exact⟨rfl,gd_of h1 h2⟩
 ·intro x y h g;simp only[ltOf,decide_eq_false_iff_not]at h g;rcases nt x.2 y.2 h with e|e
  ·exact Subtype.ext e
  ·exact absurd e g
theorem uM[Inhabited V3]:∀(l:List V3)(t:Nat),t<l.length*3->(l.flatMap j0)[t]?=Q1 (j0 (l[t/3]!))[t%3]!
 |[],t,h=>by simp at h
 | a::l,t,h=>by
  rw[List.flatMap_cons];by_cases h3:t<3
  ·have e0:t/3=0:=by omega
   have e1:t%3=t:=by omega
   rw[mG (by simpa[j0]using h3),e0,e1];rw[List.getElem!_cons_zero,zQ (by simpa[j0]using h3),getElem!_pos]
  ·obtain⟨s,rfl⟩:∃s,t=s+3:=⟨t-3,ow⟩;have e0:(s+3)/3=s/3+1:=by omega
   have e1:(s+3)%3=s%3:=by omega
   rw[nG (by simp[j0]),e0,e1,List.getElem!_cons_succ];have:=uM l s (by simp at h;omega);simpa[j0]using this
theorem CD:∀l:List V3,(l.flatMap j0).length=l.length*3
 |[]=>rfl
 | a::l=>by
  rw[List.flatMap_cons,j9,CD l,eE];simp[j0];omega
theorem VR[Inhabited V3]{w:World}{base:Nat}{v:Value}{l:List V3}(hown:w.ownsRow base 27 3 v l.length (l.flatMap j0))(hbig:l.length<4611686018427387904)(hne:l≠[]):
  Calls Tryz.prog 121 #[v,.func (.func 122) #[] #[]] w λe w'=>e=.returned (.tuple #[])/\w'.ownsRow base 27 3 v l.length ((l.mergeSort λx y=>!(ltOf JL) y x).flatMap j0)/\w.grownBy w' v.ownBlock:=by
 rcases hown.2 with⟨_,h0⟩|⟨g,cap,cur,rfl,hbg,hgb,hnc,hcm,hcs,htk⟩
 ·exact absurd (List.length_eq_zero_iff.1 h0) hne
 have hH:HoldsK j0 3 w g 0 l.toArray:=by
  intro t ht;rw[size_flatK]at ht;have ht':t<l.length*3:=by simpa using ht
  have hc:cur.toList[t]?=Q1 (j0 (l[t/3]!))[t%3]!:=by
   rw[<-uM l t ht',<-htk,List.getElem?_take_of_lt ht']
  refine⟨?_,by simp[World.frozen?,hgb]⟩;rw[get_flatK _ _ _ _ ht];simp[World.cell?,hgb];simpa using hc
 have hs:=zgQ l.toArray g cap w hH (dU.1 hgb).1 (by simpa using hbig);have hsz:l.toArray.size=l.length:=by simp
 rw[hsz]at hs;refine hs.mono ?_;rintro e w' ⟨rfl,m,os,rfl⟩;have hl':(l.mergeSort λx y=>!(ltOf JL) y x).length=l.length:=List.length_mergeSort _;simp only[];generalize(l.mergeSort λx y=>!(ltOf JL) y x)=l' at hl';have hB':=uQ (enc:=j0) (k:=3) (n:=m) (os:=os) l'.toArray hgb;have hoth:∀b,b<w.heap.size->b≠g->(sortWorldK j0 3 w g 0 m l'.toArray os).heap[b]?=w.heap[b]?:=λb hb hn=>gX l'.toArray hb hn
 refine⟨by first|trivial|rfl,⟨by rw[CD,hl'],.inr ⟨g,cap,_,rfl,hbg,hB',hnc,hcm,by simp[putCells,hcs],?_⟩⟩,⟨rfl,rfl,rfl,?_,λk hk hn=>hoth k hk λe=>hn (by rw[e];rfl)⟩⟩
 ·apply Fb;intro t;by_cases ht:t<l.length*3
  ·rw[List.getElem?_take_of_lt ht,uM l' t (by rw[hl'];exact ht),sA];have hcl:t<cur.size:=by rw[hcs];exact ia ht (g7 3 hnc)
   have hfk:=get_flatK j0 3 l'.toArray t (by simpa[hl']using ht);have hfs:(flatK j0 3 l'.toArray).size=l.length*3:=by simp[hl']
   unfold putCells;rw[Array.getElem?_mapIdx,td hcl];simp only[yu,aY,jJ,hfs,ht,and_self,if_true,Nat.sub_zero,hfk,id_eq];simp
  ·rw[fy sg,fy (by rw[CD,hl'];omega)]
 ·unfold sortWorldK grow putRowK;simp[Sort.ahead]
theorem Rx(p:Option Addr)(c:Nat)(fv:Value)(w:World):Calls Tryz.prog 121 #[.slice p 0 c,fv] w λe w'=>e=.returned (.tuple #[])/\w'=w:=
 AnyF.slices_SortFunc_none {Tryz.sortVal with} p c fv w
theorem zcB:∀E:List ((Int×Int×zB)×MapEntry),(∀p∈E,bg p.1=Q3)->∃l:List V3,l.map (·.1)=E.map (·.1)/\l.flatMap j0=Kn E
 |[],_=>⟨[],rfl,rfl⟩
 | p::E,h=>by
  obtain⟨l,h1,h2⟩:=zcB E λq hq=>h q (sB _ hq)
  refine⟨⟨p.1,h p yn⟩::l,by simp[h1],?_⟩;rw[List.flatMap_cons,h2];rfl
def Yi(w1:World)(ents':Array MapEntry)(v:Value)(w':World):Prop:=
 ∃(E:List ((Int×Int×zB)×MapEntry))(l:List V3),(∀p∈E,p.2∈ents'.toList/\p.2.key=dN p.1)/\(∀x∈ents'.toList,x.born∈E.map λp=>p.2.born)/\(E.map λp=>p.2.born).Nodup/\l.map (·.1)=E.map (·.1)/\
  w'.ownsRow w1.heap.size 27 3 v l.length ((l.mergeSort λx y=>!(ltOf JL) y x).flatMap j0)/\RowKit.Below w1.heap.size w1 w'
theorem QE[Inhabited V3]{w1 wr:World}{r clock:Nat}{ents':Array MapEntry}{v:Value}{seen:Array Nat}{E:List ((Int×Int×zB)×MapEntry)}(hC:zcU w1 r clock ents' v wr seen E)(h0:(leftOf ents' seen).size=0)(hm:∀p∈E,bg p.1=Q3)(hsz:ents'.size<=1000):
  Calls Tryz.prog 121 #[v,.func (.func 122) #[] #[]] wr λe w'=>e=.returned (.tuple #[])/\Yi w1 ents' v w':=by
 obtain⟨l,hl,hf⟩:=zcB E hm;have hlen:l.length=E.length:=by simpa using congrArg length hl
 have hall:∀x∈ents'.toList,x.born∈E.map λp=>p.2.born:=λx hx=>by
  have:=all_seen ents' seen h0 x hx;rw[<-hC.sn];simpa using this
 have hrow:=hC.row;rw[<-hf,<-hlen]at hrow;obtain⟨c0,hit,_⟩:=hC.it;have hsw:w1.heap.size<=wr.heap.size:=hC.bel.size;by_cases hne:l=[]
 ·subst hne;have hv:∃p c,v=.slice p 0 c:=by
   rcases hrow.2 with⟨rfl,_⟩|⟨g,cap,cur,rfl,_⟩
   ·exact⟨_,_,rfl⟩
   ·exact⟨_,_,rfl⟩
  obtain⟨p,c,rfl⟩:=hv;refine(Rx p c _ wr).mono ?_;rintro e w' ⟨rfl,rfl⟩;exact⟨rfl,E,[],hC.sub,hall,hC.nd,hl,by simpa using hrow,hC.bel⟩
 ·refine(VR hrow (by have:=hC.cnt;omega) hne).mono ?_;rintro e w' ⟨rfl,h1,h2⟩;refine⟨rfl,E,l,hC.sub,hall,hC.nd,hl,h1,hC.bel.grown h2 hsw λk hk=>?_⟩;rcases hrow.2 with⟨rfl,_⟩|⟨g,cap,cur,rfl,hbg,_⟩
  ·simp[Value.ownBlock]at hk
  ·have:g=k:=by simpa[Value.ownBlock]using hk
   exact this▸hbg
theorem Rs(x y z:V3)(h:ltOf JL x y=Q4)(g:ltOf JL y z=Q4):ltOf JL x z=Q4:=by
 simp only[ltOf,decide_eq_false_iff_not]at h g⊢;intro hxz;rcases nt x.2 y.2 h with e|e
 ·unfold JL at hxz;rw[e]at hxz;exact g hxz
 ·exact g (ir (a:=y.1) (b:=x.1) (c:=z.1) e hxz)
theorem Rr(x y:V3):(!(ltOf JL y x)||!(ltOf JL x y))=Q3:=by
 by_cases h:As y.1 x.1
 ·have:ltOf JL x y=Q4:=by
   simp only[ltOf,decide_eq_false_iff_not];exact λg=>jv (a:=y.1) (ir (a:=y.1) (b:=x.1) (c:=y.1) h g)
  simp[this]
 ·have:ltOf JL y x=Q4:=by
   simp only[ltOf,decide_eq_false_iff_not];exact h
  simp[this]
theorem NQ(l:List V3)(hn:(l.map (·.1)).Nodup) (h0:∀x∈l,x.1.1≠0):(l.mergeSort λx y=>!(ltOf JL) y x).map (·.1)=pt (l.map (·.1)):=by
 by_cases hne:l=[]
 ·subst hne;simp[pt]
 ·refine WI ?_ ((List.mergeSort_perm l _).map _) ?_
  ·have hne':l.map (·.1)≠[]:=by simpa using hne
   simp only[qJ,aE,ei,aO,bne_iff_ne,ne_eq];refine⟨⟨λx hx=>?_,hn⟩,by simpa using hne⟩;obtain⟨y,hy,rfl⟩:=bn.1 hx;exact⟨y.2,h0 y hy⟩
  ·rw[List.pairwise_map];refine(List.pairwise_mergeSort (λa b c h g=>?_) (λa b=>Rr a b) l).imp λ{x y} h=>?_
   ·simp only[yo]at h g⊢;exact Rs c b a g h
   ·simp only[ltOf,yo,decide_eq_false_iff_not]at h;exact h
theorem JR(es:List ((Int×Int×zB)×Int))(k:Int×Int×zB):List.Sublist (wO es k) es:=by
 unfold wO;split
 ·exact List.eraseIdx_sublist _ _
 ·exact List.Sublist.refl _
theorem yi(k:Int×Int×zB):∀(es:List ((Int×Int×zB)×Int))(i:Nat),(cn es k i).map (·.1)=(cn es k 0).map (λq=>q.1+i)
 |[],_=>rfl
 | p::r,i=>by
  unfold cn;cases k==p.1 with
  |true=>simp
  | false=>
   simp only[aq];have h1:=yi k r (i+1);have h2:=yi k r 1;rw[h1];cases h:cn r k 0 with
   |none=>rw[h]at h2;cases h3:cn r k (0+1)<;>simp_all
   | some q=>
    rw[h]at h2;cases h3:cn r k (0+1)with
    |none=>simp_all
    |some q'=>simp_all;omega
theorem QH(p:(Int×Int×zB)×Int)(r:List ((Int×Int×zB)×Int))(k:Int×Int×zB):wO (p::r) k=if k=p.1 then r else p::wO r k:=by
 unfold wO;by_cases h:k=p.1
 ·simp[cn,h]
 ·have hb:(k==p.1)=Q4:=by simpa using h
  rw[if_neg h];simp only[cn,hb,aq];have:=yi k r 1;cases h1:cn r k (0+1)with
  | none=>
   rw[h1]at this;cases h2:cn r k 0 with
   |none=>rfl
   |some q=>rw[h2]at this;simp at this
  | some q=>
   rw[h1]at this;cases h2:cn r k 0 with
   |none=>rw[h2]at this;simp at this
   | some q'=>
    rw[h2]at this;have e:q.1=q'.1+1:=by simpa using this
    simp[e]
theorem B2(k:Int×Int×zB):∀{es:List ((Int×Int×zB)×Int)},(es.map (·.1)).Nodup->∀x,x∈(wO es k).map (·.1)↔x∈es.map (·.1)/\x≠k
 |[],_,x=>by simp[wO,cn]
 | p::r,hn,x=>by
  rw[kc,List.nodup_cons]at hn;rw[QH];split
  ·rename_i h;subst h;rw[kc,cr];refine⟨λhx=>⟨.inr hx,λe=>hn.1 (e▸hx)⟩,λ⟨h,hne⟩=>h.resolve_left hne⟩
  ·rename_i h;rw[kc,cr,kc,cr,B2 k hn.2 x];refine⟨λhx=>?_,λ⟨hx,hne⟩=>hx.imp id λhx=>⟨hx,hne⟩⟩;rcases hx with rfl|hx
   ·exact⟨.inl rfl,λe=>h e.symm⟩
   ·exact⟨.inr hx.1,hx.2⟩
theorem xE{α β:Type}{f:α->β}:∀{l:List α},(l.map f).Nodup->∀{a b:α},a∈l->b∈l->f a=f b->a=b
 |[],_,_,_,ha,_,_=>by cases ha
 | x::r,hn,a,b,ha,hb,e=>by
  rw[kc,List.nodup_cons]at hn;rcases cr.1 ha with ha1|ha1
  ·rcases cr.1 hb with hb1|hb1
   ·rw[ha1,hb1]
   ·exact absurd (show f x∈r.map f from bn.2 ⟨b,hb1,by rw[<-e,ha1]⟩) hn.1
  ·rcases cr.1 hb with hb1|hb1
   ·exact absurd (show f x∈r.map f from bn.2 ⟨a,ha1,by rw[e,hb1]⟩) hn.1
   ·exact xE hn.2 ha1 hb1 e
theorem KQ:∀{l m:List Nat},l.Nodup->(∀x∈l,x∈m)->l.length<=m.length
 |[],m,_,_=>by simp
 | a::r,m,hn,h=>by
  rw[List.nodup_cons]at hn;have ha:=h a yn;have h1:=KQ (l:=r) (m:=m.erase a) hn.2 λx hx=>(List.mem_erase_of_ne (λe:x=a=>hn.1 (e▸hx))).2 (h x (sB _ hx))
  have h2:=List.length_erase_of_mem ha;have h3:=List.length_pos_of_mem ha;rw[eE];omega
theorem Vg{v:Sem zf}(h:bg v=Q3)(h0:v.1=0):v=(0,0,[]):=by
 obtain⟨k,n,s⟩:=v;subst h0;unfold bg at h;simp at h;simp[h]
theorem pD{a b:Int×Int×zB}(h:dN a=dN b):a=b:=by
 obtain⟨a1,a2,a3⟩:=a;obtain⟨b1,b2,b3⟩:=b;simpa[dN]using h
theorem KW{ents':Array MapEntry}{es':List ((Int×Int×zB)×Int)}(he:(ents'.toList.map λe=>(e.key,e.val))=Ce Q3 es'):ents'.toList.map (·.key)=(es'.map (·.1)).map dN:=by
 have:=congrArg (List.map Prod.fst) he;simpa[Ce,pq,uk]using this
theorem tf{l m:List (Sem zf)}(hl:∀x∈l,bg x=Q3)(hm:∀x∈m,bg x=Q3)(h:∀x,x.1≠0->(x∈l↔x∈m)):pt l=pt m:=by
 obtain⟨l1,l2⟩:=Aw hl;obtain⟨m1,m2⟩:=Aw hm;refine II l1 m1 λx=>?_
 rw[l2,m2];exact⟨λhx=>⟨(h x hx.2).1 hx.1,hx.2⟩,λhx=>⟨(h x hx.2).2 hx.1,hx.2⟩⟩
theorem Rk{ents':Array MapEntry}{es':List ((Int×Int×zB)×Int)}(he:(ents'.toList.map λe=>(e.key,e.val))=Ce Q3 es')(hn:(es'.map (·.1)).Nodup) (hm:∀p∈es',bg p.1=Q3) (h0:∀p∈es',p.1.1≠0)
  {E:List ((Int×Int×zB)×MapEntry)} (sub:∀p∈E,p.2∈ents'.toList/\p.2.key=dN p.1) (all:∀x∈ents'.toList,x.born∈E.map λp=>p.2.born) (nd:(E.map λp=>p.2.born).Nodup) (hbn:(ents'.toList.map (·.born)).Nodup) {l:List V3} (hl:l.map (·.1)=E.map (·.1)):
  (l.mergeSort λx y=>!(ltOf JL) y x).map (·.1)=pt (es'.map (·.1)):=by
 have hk:=KW he;have hkn:(ents'.toList.map (·.key)).Nodup:=by
  rw[hk];exact List.Pairwise.map _ (λa b h e=>h (pD e)) hn
 have mem:∀p∈E,p.1∈es'.map (·.1):=λp hp=>by
  obtain⟨h1,h2⟩:=sub p hp;have:p.2.key∈ents'.toList.map (·.key):=bn.2 ⟨_,h1,rfl⟩;rw[hk,h2]at this;obtain⟨k,hk1,hk2⟩:=bn.1 this;exact pD hk2▸hk1
 have hnd:(E.map (·.1)).Nodup:=by
  unfold List.Nodup at nd⊢;rw[List.pairwise_map]at nd⊢;refine nd.imp_of_mem λ{p q} hp hq h e=>h ?_
  obtain⟨p1,p2⟩:=sub p hp;obtain⟨q1,q2⟩:=sub q hq;have:p.2.key=q.2.key:=by rw[p2,q2,e]
  rw[xE hkn p1 q1 this]
 rw[NQ l (by rw[hl];exact hnd) (λx hx=>by
  have:x.1∈E.map (·.1):=by rw[<-hl];exact bn.2 ⟨x,hx,rfl⟩
  obtain⟨p,hp,e⟩:=bn.1 this;obtain⟨q,hq,e'⟩:=bn.1 (mem p hp);rw[<-e,<-e'];exact h0 q hq),hl]
 refine tf (λx hx=>?_) (λx hx=>?_) λx _=>⟨λhx=>?_,λhx=>?_⟩
 ·obtain⟨p,hp,rfl⟩:=bn.1 hx;obtain⟨q,hq,e'⟩:=bn.1 (mem p hp);exact e'▸hm q hq
 ·obtain⟨p,hp,rfl⟩:=bn.1 hx;exact hm p hp
 ·obtain⟨p,hp,rfl⟩:=bn.1 hx;exact mem p hp
 ·have:dN x∈ents'.toList.map (·.key):=by rw[hk];exact bn.2 ⟨x,hx,rfl⟩
  obtain⟨e,he1,he2⟩:=bn.1 this;obtain⟨p,hp,hb⟩:=bn.1 (all e he1);obtain⟨p1,p2⟩:=sub p hp;have:p.2=e:=xE hbn p1 he1 hb;rw[this,he2]at p2;exact bn.2 ⟨p,hp,(pD p2).symm⟩
end
end Cad
