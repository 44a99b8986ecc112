/- Bases from whose tables rows are taken. Names: total. The document's comparisons and sums are the program's. The document's names are the program's. -/
import Derived.Test.YtkmcdhahdadkpaaGreatDoorP13
import Derived.Test.YtkmcdhahdadkpaaGreatDoorP12
import Derived.Test.YtkmcdhahdadkpaaGreatDoorP11
namespace Cad
open Go Go.Proofs
open Tr renaming val→Q8
open Sh renaming expr→Q5
open Bool renaming false→Q4,true→Q3
open Option renaming none→Q2,some→Q1
open Decidable renaming decide→Q0
open Int (toNat)
open List (getD length)
open Tr (chk br re)
open AV (nils agg tup ptr kb str sl)
set_option maxHeartbeats 1000000
theorem gr:∀{a b c:zB},Op.bytesLess a b=Q3->Op.bytesLess b c=Q3->Op.bytesLess a c=Q3
 |_,[],_,h,_=>by cases‹zB›<;>simp[Op.bytesLess]at h
 |_,_::_,[],_,h=>by simp[Op.bytesLess]at h
 |[],_::_,_::_,_,_=>rfl
 | a::x,b::y,c::z,h,g=>by
  simp only[Op.bytesLess,lY,aP,aD,aZ]at h g⊢;rcases h with h|⟨rfl,h⟩
  ·rcases g with g|⟨rfl,g⟩
   ·exact .inl (UInt8.lt_trans h g)
   ·exact .inl h
  ·rcases g with g|⟨rfl,g⟩
   ·exact .inl g
   ·exact .inr ⟨rfl,gr h g⟩
def Lx(p q:Int×Int×zB):Prop:=p.1<q.1\/(p.1=q.1/\(p.2.1<q.2.1\/(p.2.1=q.2.1/\Op.bytesLess p.2.2 q.2.2=Q3)))
theorem Lx.trans{p q r:Int×Int×zB}(h:Lx p q)(g:Lx q r):Lx p r:=by
 unfold Lx at*;rcases h with h|⟨h1,h|⟨h2,h⟩⟩<;>rcases g with g|⟨g1,g|⟨g2,g⟩⟩
 ·exact .inl ow
 ·exact .inl ow
 ·exact .inl ow
 ·exact .inl ow
 ·exact .inr ⟨ow,.inl ow⟩
 ·exact .inr ⟨ow,.inl ow⟩
 ·exact .inl ow
 ·exact .inr ⟨ow,.inl ow⟩
 ·exact .inr ⟨ow,.inr ⟨ow,gr h g⟩⟩
theorem Lx.irrefl{p:Int×Int×zB}:¬Lx p p:=by
 unfold Lx;rw[bK];rintro(h|⟨_,h|⟨_,h⟩⟩)
 ·omega
 ·omega
 ·cases h
theorem Mc(a b:Int):rP a b=if a<b then -1 else if b<a then 1 else 0:=by
 show(if(a !=a)=Q3 then _ else if(b !=b)=Q3 then(1:Int)else if Q0 (a<b)=Q3 then -1 else if Q0 (a>b)=Q3 then 1 else 0)=_;simp
theorem PX(a b:Int):kk a b=if a<b then -1 else if b<a then 1 else 0:=Mc a b
theorem Vm(a b:zB):(nY a b=-1/\Op.bytesLess a b=Q3)\/(nY a b=0/\a=b)\/(nY a b=1/\Op.bytesLess a b=Q4):=by
 have:nY a b=if Op.bytesLess a b=Q3 then -1 else if(!(Op.bytesLess a b||a==b))=Q3 then 1 else 0:=by
  show(if(!a==a)=Q3 then _ else if(!b==b)=Q3 then(1:Int)else if Op.bytesLess a b=Q3 then -1 else if(!(Op.bytesLess a b||a==b))=Q3 then 1 else 0)=_;simp
 rw[this];cases h:Op.bytesLess a b with
 |true=>exact .inl ⟨rfl,rfl⟩
 | false=>
  by_cases e:a=b
  ·exact .inr (.inl ⟨by simp[e],e⟩)
  ·exact .inr (.inr ⟨by simp[e],rfl⟩)
theorem zcv(k n k' n':Int)(s s':zB):(F1 [rP k k',kk n n',nY s s']<0)↔Lx (k,n,s) (k',n',s'):=by
 show _↔(k<k'\/(k=k'/\(n<n'\/(n=n'/\Op.bytesLess s s'=Q3))));rw[Mc,PX];simp only[F1];have irr:=bK s';rcases Ae k k' with h|h|h
 ·simp[h]
 ·subst h;rcases Ae n n' with g|g|g
  ·simp[g]
  ·subst g;rcases Vm s s' with⟨e,f⟩|⟨e,f⟩|⟨e,f⟩
   ·simp[e,f]
   ·subst f;simp[e,irr]
   ·simp[e,f]
  ·have:¬n<n':=by omega
   have:n≠n':=by omega
   simp[*]
 ·have:¬k<k':=by omega
  have:k≠k':=by omega
  simp[*]
theorem uN{a b:Sem zf}:xA a b↔Lx (ap a) (ap b):=zcv (ap a).1 (ap a).2.1 (ap b).1 (ap b).2.1 (ap a).2.2 (ap b).2.2
theorem gV{a b c:Sem zf}(h:xA a b)(g:xA b c):xA a c:=uN.2 ((uN.1 h).trans (uN.1 g))
theorem gI{a:Sem zf}:¬xA a a:=λh=>Lx.irrefl (uN.1 h)
theorem ut{α:Type}{R:α->α->Prop}(ht:∀{a b c},R a b->R b c->R a c){d:α}:∀{l:List α},(∀i,i<l.length-1->R (l.getD i d) (l.getD (i+1) d))↔l.Pairwise R
 |[]=>by simp
 |[a]=>by simp
 | a::b::r=>by
  have IH:=ut (R:=R) ht (d:=d) (l:=b::r);constructor
  ·intro h;have h0:=h 0 sw;have h1:(b::r).Pairwise R:=IH.1 λi hi=>h (i+1) (by simp only[eZ]at hi⊢;omega)
   refine List.pairwise_cons.2 ⟨λx hx=>?_,h1⟩;rcases cj.1 hx with rfl|hx
   ·exact h0
   ·exact ht h0 ((List.pairwise_cons.1 h1).1 x hx)
  ·intro h i hi;obtain⟨h0,h1⟩:=List.pairwise_cons.1 h;cases i with
   |zero=>exact h0 b sw
   |succ i=>exact IH.2 h1 i (by simp only[eZ]at hi⊢;omega)
def kLt(k:Int)(a b:List (Sem zf)):Prop:=xA (ao k a) (ao k b)
theorem eI.pw{x:Sem zh}(h:eI x):x.2.Pairwise (kLt x.1.2.2.1):=(ut (R:=kLt x.1.2.2.1) gV).1 h.rise
theorem eI.sub{t:Sem zo}{l l':List (List (Sem zf))}(h:eI (t,l))(hs:List.Sublist l' l):eI (t,l') where
 may:=h.may
 few:=cy hs.length_le h.few
 fits:=λr hr=>h.fits r (hs.subset hr)
 key:=List.Pairwise.sublist hs h.key
 uniq:=λu hu=>List.Pairwise.sublist hs (h.uniq u hu)
 rise:=(ut (R:=kLt t.2.2.1) gV).2 (List.Pairwise.sublist hs h.pw)
theorem EC(db:List (Sem zh))(i:Nat):(db.getD i (zi zh)).1=(db.map (·.1)).getD i (zi zh).1:=by
 rw[ba,ba,eY];cases db[i]?<;>rfl
theorem Sd{db:List (Sem zh)}{i:Nat}{x:Sem zh}(h:(db.getD i (zi zh)).1=x.1):(db.set i x).map (·.1)=db.map (·.1):=by
 rw[List.map_set];refine DA λj=>?_
 rw[wL];by_cases e:i=j
 ·subst e;rw[if_pos rfl];by_cases hi:i<(db.map (·.1)).length
  ·rw[if_pos hi,zR hi,<-h];congr 1;have hi':i<db.length:=by simpa using hi
   rw[ba,zR hi',List.getElem_map];rfl
  ·rw[if_neg hi,eX ow]
 ·rw[if_neg e]
theorem iF.put{db:List (Sem zh)}{i:Nat}{x:Sem zh}(h:iF db)(ht:(db.getD i (zi zh)).1=x.1)(hx:eI x)(hb:Do (db.set i x)):iF (db.set i x) where
 few:=by rw[List.length_set];exact h.few
 names:=λj hj=>by
  rw[List.length_set]at hj;have:=h.names j hj;rw[EC,EC]at this⊢
  rwa [Sd ht]
 rels:=λy hy=>by
  rcases List.mem_or_eq_of_mem_set hy with hy|rfl
  ·exact h.rels y hy
  ·exact hx
 bound:=hb
theorem VT{c:Int}{l:List (List (Sem zf))}(h:l.Pairwise (kLt c)):(l.map (ao c)).Pairwise (·≠·):=by
 rw[List.pairwise_map];exact h.imp λ{a b} hab(e:ao c a=ao c b)=>gI (a:=ao c b) (by have:=hab;unfold kLt at this;rwa [e]at this)
theorem jA:∀{a b:zB},Op.bytesLess a b=Q4->a≠b->Op.bytesLess b a=Q3
 |[],[],_,h=>absurd rfl h
 |[],_::_,h,_=>by simp[Op.bytesLess]at h
 |_::_,[],_,_=>rfl
 | a::x,b::y,h,hn=>by
  simp only[Op.bytesLess,Bool.or_eq_false_iff,decide_eq_false_iff_not,Bool.and_eq_false_iff,bN,lY,aP,aD,aZ]at h⊢;by_cases e:a=b
  ·subst e;refine .inr ⟨rfl,jA (h.2.resolve_left λg=>g rfl) λg=>hn (by rw[g])⟩
  ·exact .inl (UInt8.lt_of_le_of_ne (UInt8.not_lt.1 h.1) (Ne.symm e))
set_option maxHeartbeats 4000000
theorem BF{a b:Sem zf}(ha:a.2.2.length<=1000000)(hb:b.2.2.length<=1000000):pd a b=Q3:=by unfold pd;rw[BG ha hb];rfl
theorem EK{a b:Sem zf}(ha:a.2.2.length<=1000000)(hb:b.2.2.length<=1000000):tU a b=cD a b:=by unfold tU;rw[BG ha hb];rfl
theorem Ta(a b:Sem zf):Gc a b=Q3:=by unfold Gc;rw[I6];rfl
theorem Wk(a b:Sem zf):EH a b=Dk a b:=by unfold EH;rw[I6];rfl
theorem Wm(a b:Sem zf):M2 a b=Q3:=by unfold M2;rw[M3];rfl
theorem zcA(a b:Sem zf):OQ a b=T3 a b:=by unfold OQ;rw[M3];rfl
theorem Tc(a:Sem zf):Gf a=Q3:=by unfold Gf;rw[I9];rfl
theorem Wl(a:Sem zf):EJ a=xL a:=by unfold EJ;rw[I9];rfl
theorem BJ{a b:Sem zf}(ha:a.2.2.length<=1000000)(hb:b.2.2.length<=1000000):pf a b=Q1 (!eH a b,()):=by
 unfold pf al cU;simp only[YB,Q8,qj ha,qj hb,tZ ha,tZ hb,if_true,eH];generalize ap a=x;generalize ap b=y;obtain⟨k,n,s⟩:=x;obtain⟨k',n',s'⟩:=y;simp only;by_cases h:k=0
 ·subst h;rfl
 ·have e:(k==0)=Q4:=by simpa using h
  have e2:(k !=0)=Q3:=by simpa using h
  rw[e,e2];by_cases h':k'=0
  ·subst h';have e3:(k==0)=Q4:=e;simp[e3];rfl
  ·have e3:(k'==0)=Q4:=by simpa using h'
   rw[e3];rfl
theorem np{a b:Sem zf}(ha:a.2.2.length<=1000000)(hb:b.2.2.length<=1000000):mq a b=Q3:=by unfold mq;rw[BJ ha hb];rfl
theorem qf{a b:Sem zf}(ha:a.2.2.length<=1000000)(hb:b.2.2.length<=1000000):qe a b=!eH a b:=by unfold qe;rw[BJ ha hb];rfl
theorem iV(b:Bool):dg b=wB b:=by
 unfold dg wB;rw[kS,kT]
theorem BC{a b:Sem zf}(ha:a.2.2.length<=1000000)(hb:b.2.2.length<=1000000):o8 a b=Q1 (lT a b,()):=by
 unfold o8 al cU;simp only[Yx,Q8,np ha hb,qf ha hb,nl,gS,if_true,lT,iV];cases eH a b<;>rfl
theorem La{a b:Sem zf}(ha:a.2.2.length<=1000000)(hb:b.2.2.length<=1000000):tR a b=Q3:=by unfold tR;rw[BC ha hb];rfl
theorem ON{a b:Sem zf}(ha:a.2.2.length<=1000000)(hb:b.2.2.length<=1000000):qc a b=lT a b:=by unfold qc;rw[BC ha hb];rfl
theorem HH{a b:Sem zf}(h:eH a b=Q3):aW a=Q3/\aW b=Q3/\a.1=b.1/\a.1≠0/\ap a=a/\ap b=b:=by
 unfold eH ap at h;unfold ap;cases ha:aW a with
 |false=>simp[ha]at h
 | true=>
  cases hb:aW b with
  | false=>
   simp[ha,hb]at h
  | true=>
   simp[ha,hb]at h;exact⟨rfl,rfl,h.2,h.1,sw,sw⟩
theorem ED{v:Sem zf}(h:aW v=Q3)(h0:v.1≠0):(v.1=1/\v.2.2=[])\/(v.1=2/\v.2.1=0)\/(v.1=3/\v.2.2=[]):=by
 obtain⟨k,n,s⟩:=v;unfold aW at h;simp only at h h0⊢;have e0:(k==0)=Q4:=by simpa using h0
 rw[e0]at h;by_cases h1:k=1
 ·subst h1;exact .inl ⟨rfl,by simpa using h⟩
 ·have e1:(k==1)=Q4:=by simpa using h1
  rw[e1]at h;by_cases h2:k=2
  ·subst h2;refine .inr (.inl ⟨rfl,?_⟩);simp at h;exact h.1
  ·have e2:(k==2)=Q4:=by simpa using h2
   rw[e2]at h;by_cases h3:k=3
   ·subst h3;refine .inr (.inr ⟨rfl,?_⟩);cases hn:(n==0)with
    |true=>simp[hn]at h;exact h
    |false=>simp[hn]at h;exact h.2
   ·have e3:(k==3)=Q4:=by simpa using h3
    rw[e3]at h;cases h
theorem VW(k n n':Int)(s s':zB)(hd:(s=[]/\s'=[])\/(n=0/\n'=0)):Q0 (F1 [rP k k,kk n n',nY s s']<0)=(bif Q0 (n<n')then Q3 else Op.bytesLess s s'):=by
 simp only[F1,rP,kk,nY];rcases hd with⟨rfl,rfl⟩|⟨rfl,rfl⟩
 ·rcases Ae n n' with h|h|h
  ·simp[h]
  ·subst h;simp[bK]
  ·have c1:¬n<n':=by omega
   simp[h,c1,bK]
 ·by_cases hl:Op.bytesLess s s'=Q3
  ·simp[hl]
  ·by_cases he:s=s'
   ·subst he;simp[bK]
   ·have c1:(s==s')=Q4:=bN.2 he;simp[hl,c1]
theorem EI{a b:Sem zf}(ha:a.2.2.length<=1000000)(hb:b.2.2.length<=1000000):tS a b=Q1 (rB a b,()):=by
 unfold tS al cU;simp only[Yy,Q8,np ha hb,qf ha hb,nl,gS,if_true,rB,iV];cases hal:eH a b with
 |false=>rfl
 | true=>
  obtain⟨h1,h2,h3,h4,h5,h6⟩:=HH hal;have k1:=ED h1 h4;have k2:=ED h2 (by rw[<-h3];exact h4);obtain⟨k,n,s⟩:=a;obtain⟨k',n',s'⟩:=b;simp only at h3 h4 k1 k2;subst h3;have hd:(s=[]/\s'=[])\/(n=0/\n'=0):=by
   rcases k1 with⟨e1,e2⟩|⟨e1,e2⟩|⟨e1,e2⟩<;>rcases k2 with⟨f1,f2⟩|⟨f1,f2⟩|⟨f1,f2⟩<;>first|exact .inl ⟨e2,f2⟩|exact .inr ⟨e2,f2⟩|exact absurd (e1.symm.trans f1) (by decide)
  have ho:Q0 (LT.lt (α:=Int) (cD (k,n,s) (k,n',s')) 0)=(bif Q0 (n<n')then Q3 else Op.bytesLess s s'):=by
   unfold cD;rw[h5,h6];exact VW k n n' s s' hd
  rw[ho];by_cases h:n<n'
  ·have e:Q0 (n<n')=Q3:=zt h;simp only[e];rfl
  ·have e:Q0 (n<n')=Q4:=af h;simp only[e];rfl
theorem OO{a b:Sem zf}(ha:a.2.2.length<=1000000)(hb:b.2.2.length<=1000000):yk a b=Q3:=by unfold yk;rw[EI ha hb];rfl
theorem Tb{a b:Sem zf}(ha:a.2.2.length<=1000000)(hb:b.2.2.length<=1000000):wh a b=rB a b:=by unfold wh;rw[EI ha hb];rfl
theorem OM{a b:Int}(a1:-9223372036854775808<=a)(a2:a<=9223372036854775807)(b1:-9223372036854775808<=b)(b2:b<=9223372036854775807):
  (bif Q0 (b>0)then bif Q0 (a>IntKind.i64.wrap (9223372036854775807-b))then Q3 else bif Q0 (b<0)then Q0 (a<IntKind.i64.wrap (-9223372036854775808-b))else Q4 else bif Q0 (b<0)then Q0 (a<IntKind.i64.wrap (-9223372036854775808-b))else Q4)=
  (bif Q0 (b>0)then bif Q0 (IntKind.i64.wrap (a+b)<a)then Q3 else bif Q0 (b<0)then Q0 (IntKind.i64.wrap (a+b)>a)else Q4 else bif Q0 (b<0)then Q0 (IntKind.i64.wrap (a+b)>a)else Q4):=by
 rcases Ae b 0 with h|h|h
 ·have e1:Q0 (b>0)=Q4:=af ow;have e2:Q0 (b<0)=Q3:=zt h;simp only[e1,e2,aN,ay];rw[fM,fM];apply iB.2;rw[aP,aP];omega
 ·subst h;rfl
 ·have e1:Q0 (b>0)=Q3:=zt h;have e2:Q0 (b<0)=Q4:=af ow;simp only[e1,e2,aN,ay];have:Q0 (a>IntKind.i64.wrap (9223372036854775807-b))=Q0 (IntKind.i64.wrap (a+b)<a):=by
   rw[fM,fM];apply iB.2;rw[aP,aP];omega
  rw[this]
theorem KV{a b:Int}(a1:-9223372036854775808<=a)(a2:a<=9223372036854775807)(b1:-9223372036854775808<=b)(b2:b<=9223372036854775807):
  (bif Q0 (b>0)then bif Q0 (a<IntKind.i64.wrap (-9223372036854775808+b))then Q3 else bif Q0 (b<0)then Q0 (a>IntKind.i64.wrap (9223372036854775807+b))else Q4 else bif Q0 (b<0)then Q0 (a>IntKind.i64.wrap (9223372036854775807+b))else Q4)=
  (bif Q0 (b>0)then bif Q0 (IntKind.i64.wrap (a-b)>a)then Q3 else bif Q0 (b<0)then Q0 (IntKind.i64.wrap (a-b)<a)else Q4 else bif Q0 (b<0)then Q0 (IntKind.i64.wrap (a-b)<a)else Q4):=by
 rcases Ae b 0 with h|h|h
 ·have e1:Q0 (b>0)=Q4:=af ow;have e2:Q0 (b<0)=Q3:=zt h;simp only[e1,e2,aN,ay];rw[fM,fM];apply iB.2;rw[aP,aP];omega
 ·subst h;rfl
 ·have e1:Q0 (b>0)=Q3:=zt h;have e2:Q0 (b<0)=Q4:=af ow;simp only[e1,e2,aN,ay];have:Q0 (a<IntKind.i64.wrap (-9223372036854775808+b))=Q0 (IntKind.i64.wrap (a-b)>a):=by
   rw[fM,fM];apply iB.2;rw[aP,aP];omega
  rw[this]
theorem EL{a b:Sem zf}(ha:lK a)(hb:lK b):tV a b=Q1 (rC a b,()):=by
 unfold tV al cU;simp only[Yz,Q8,np ha.2.2 hb.2.2,qf ha.2.2 hb.2.2,if_true,rC];rw[OM ha.1 ha.2.1 hb.1 hb.2.1];cases(bif !eH a b then Q3 else a.1!=1)
 ·cases(bif Q0 (b.2.1>0)then bif Q0 (IntKind.i64.wrap (a.2.1+b.2.1)<a.2.1)then Q3 else bif Q0 (b.2.1<0)then Q0 (IntKind.i64.wrap (a.2.1+b.2.1)>a.2.1)else Q4 else bif Q0 (b.2.1<0)then Q0 (IntKind.i64.wrap (a.2.1+b.2.1)>a.2.1)else Q4)<;>rfl
 ·rfl
theorem OR{a b:Sem zf}(ha:lK a)(hb:lK b):yl a b=Q3:=by unfold yl;rw[EL ha hb];rfl
theorem Td{a b:Sem zf}(ha:lK a)(hb:lK b):wi a b=rC a b:=by unfold wi;rw[EL ha hb];rfl
theorem BD{a b:Sem zf}(ha:lK a)(hb:lK b):pb a b=Q1 (lU a b,()):=by
 unfold pb al cU;simp only[YA,Q8,np ha.2.2 hb.2.2,qf ha.2.2 hb.2.2,if_true,lU];rw[KV ha.1 ha.2.1 hb.1 hb.2.1];cases(bif !eH a b then Q3 else a.1!=1)
 ·cases(bif Q0 (b.2.1>0)then bif Q0 (IntKind.i64.wrap (a.2.1-b.2.1)>a.2.1)then Q3 else bif Q0 (b.2.1<0)then Q0 (IntKind.i64.wrap (a.2.1-b.2.1)<a.2.1)else Q4 else bif Q0 (b.2.1<0)then Q0 (IntKind.i64.wrap (a.2.1-b.2.1)<a.2.1)else Q4)<;>rfl
 ·rfl
theorem Lb{a b:Sem zf}(ha:lK a)(hb:lK b):tT a b=Q3:=by unfold tT;rw[BD ha hb];rfl
theorem OP{a b:Sem zf}(ha:lK a)(hb:lK b):qd a b=lU a b:=by unfold qd;rw[BD ha hb];rfl
theorem xr(c:Int):mz c=Q1 (aH c,()):=by
 unfold mz al cU;simp only[Ys,Q8,aH];by_cases h1:97<=c
 ·have e1:Q0 (97<=c)=Q3:=zt h1;have e2:Q0 (c<=90)=Q4:=af ow;have e3:Q0 (65<=c)=Q3:=zt ow;simp[e1,e2,e3];rfl
 ·have e1:Q0 (97<=c)=Q4:=af h1;simp[e1];rfl
theorem lB(c:Int):j9 c=Q3:=by unfold j9;rw[xr];rfl
theorem nz(c:Int):my c=aH c:=by unfold my;rw[xr];rfl
theorem BY(c:Int):ug c=Q1 (zU c,()):=rfl
theorem eC(c:Int):fx c=Q3:=by unfold fx;rw[BY];rfl
theorem fG(c:Int):gA c=zU c:=by unfold gA;rw[BY];rfl
theorem EV(c:Int):uh c=Q1 (bt c,()):=by
 unfold uh al cU;simp only[Yt,Q8,eC,fG,lB,nz,bt];cases zU c<;>cases aH c<;>rfl
theorem qy(c:Int):qw c=Q3:=by unfold qw;rw[EV];rfl
theorem ui(c:Int):wn c=bt c:=by unfold wn;rw[EV];rfl
theorem IL(p:Int->Bool):∀s:zB,cG p s=s.length↔∀c∈s,p c.toNat=Q3
 |[]=>by simp[cG]
 | c::r=>by
  have ih:=IL p r;rw[cG];by_cases h:p c.toNat=Q3
  ·rw[if_pos h];simp only[eZ,cj,forall_eq_or_imp];constructor
   ·intro h2;exact⟨h,ih.1 ow⟩
   ·intro h2;rw[ih.2 h2.2]
  ·rw[if_neg h];simp only[eZ,cj,forall_eq_or_imp];exact⟨λh2=>absurd h2 ow,λh2=>absurd h2.1 h⟩
theorem IM{c:Int}(h:aH c=Q3):bt c=Q3:=by
 unfold bt;rw[h];rfl
theorem Pc(s:zB):pB s=Q3↔(1<=s.length/\s.length<=16/\aH (getD s 0 0).toNat=Q3/\∀c∈s,bt c.toNat=Q3):=by
 unfold pB;cases s with
 |nil=>simp
 | cons c r=>
  have e1:Q0 (((c::r).length:Int)>=1)=Q3:=zt sg;rw[e1];by_cases h:(c::r).length<=16
  ·have e2:Q0 (((c::r).length:Int)<=16)=Q3:=zt ow;rw[e2];simp only[ay];have ha:=IL bt r;by_cases hl:aH c.toNat=Q3
   ·have er:aK aH bt (c::r)=cG bt r+1:=by rw[aK,if_pos hl]
    rw[er];constructor
    ·intro h2;have:cG bt r=r.length:=by simp at h2;omega
     refine⟨sw,h,hl,?_⟩;intro x hx;rcases cj.1 hx with rfl|hx
     ·exact IM hl
     ·exact ha.1 this x hx
    ·rintro⟨_,_,_,h3⟩;have:=ha.2 (λx hx=>h3 x (sL _ hx));simp[this]
   ·have er:aK aH bt (c::r)=0:=by rw[aK,if_neg hl]
    rw[er];constructor
    ·intro h2;simp at h2;omega
    ·rintro⟨_,_,h2,_⟩;exact absurd h2 hl
  ·have e2:Q0 (((c::r).length:Int)<=16)=Q4:=af ow;rw[e2];simp only[ay,aN];exact⟨λh=>(by cases h),λh2=>absurd h2.2.1 h⟩
theorem EU{s:zB}(hl:s.length<=1000000):yA s=Q1 (dP s,()):=by
 have hf:=lH (t:=Cv) (Φ:=λr=>r=(.kb Q4,[])) 1 (λi=>.h2 s (i:Int)) (λi=>bt (getD s i 0).toNat=Q3) s.length (by
  intro i hi _;have hv:(Cv (.h2 s (i:Int))).val=if(!bt (getD s i 0).toNat)=Q3 then Q1 (.inr (.kb Q4,[]))else Q1 (.inl (.h2 s ((i+1:Nat):Int))):=by
   show(Cv (.h2 _ _)).val=_;unfold Cv;simp only[Q8,zH hi,zu hi,aJ,qy,ui,if_true];rw[zp i um]
  by_cases h:bt (getD s i 0).toNat=Q3
  ·exact .inl ⟨h,zQ.of (by rw[hv,if_neg (by rw[h];simp)])⟩
  ·exact .inr ⟨h,_,zT.of (by rw[hv,if_pos (by simpa using h)]),rfl⟩)
 have hi:(Yr s).val=Q1 (.inl (.h2 s ((0:Nat):Int))):=rfl;have hq:=aq (l:=s) (d:=0) (Q:=λc=>bt c.toNat=Q3);have hw:=Pc s;rcases hf with⟨h1,h2⟩|⟨h1,r,h2,rfl⟩
 ·refine zx hi (h2.ends (zT.of (r:=(.bool (dP s),[])) ?_)) ow rfl;show(Cv (.h2 _ _)).val=_;unfold Cv;simp only[Q8,zA,lB,nz];have e:dP s=(bif Q0 (1<=(s.length:Int))then bif Q0 ((s.length:Int)<=16)then aH (getD s (toNat 0) 0).toNat else Q4 else Q4):=by
   apply iB.2;unfold dP;rw[hw];by_cases k1:1<=s.length
   ·have e1:Q0 (1<=(s.length:Int))=Q3:=zt ow;rw[e1];by_cases k2:s.length<=16
    ·have e2:Q0 ((s.length:Int)<=16)=Q3:=zt ow;rw[e2];exact⟨λh=>h.2.2.1,λh=>⟨k1,k2,h,hq.1 h1⟩⟩
    ·have e2:Q0 ((s.length:Int)<=16)=Q4:=af ow;rw[e2];exact⟨λh=>absurd h.2.1 k2,λh=>(by cases h)⟩
   ·have e1:Q0 (1<=(s.length:Int))=Q4:=af ow;rw[e1];exact⟨λh=>absurd h.1 k1,λh=>(by cases h)⟩
  rw[e];by_cases k1:1<=s.length
  ·have e0:zM 0 s.length=Q3:=zu (i:=0) ow;rw[e0];cases Q0 (1<=(s.length:Int))<;>cases Q0 ((s.length:Int)<=16)<;>rfl
  ·have e1:Q0 (1<=(s.length:Int))=Q4:=af ow;rw[e1];rfl
 ·have e:dP s=Q4:=by
   cases hh:dP s with
   |false=>rfl
   |true=>exact absurd (hq.2 (hw.1 hh).2.2.2) h1
  rw[e];exact zx hi h2 ow rfl
theorem wm{s:zB}(hl:s.length<=1000000):uf s=Q3:=by unfold uf;rw[EU hl];rfl
theorem BX{s:zB}(hl:s.length<=1000000):sC s=dP s:=by unfold sC;rw[EU hl];rfl
noncomputable def wv:List zB:=match(Rp []).val with
 |some (.inl (.h3 _ l _))=>l
 |_=>[]
theorem Tp:wv.length=38:=kw
theorem Tq:(wv.all λw=>(CR.map (·.1)).contains w)=Q3:=kw
theorem Ts:(CR.all λw=>wv.contains w.1)=Q3:=kw
theorem LO:(CR.all λw=>w.2)=Q3:=kw
theorem Np(s:zB):∀l:List (zB×Bool),(l.all λw=>w.2)=Q3->(No s l Q4=Q3↔s∈l.map (·.1))
 |[],_=>by simp[No]
 | (w,b)::r,h=>by
  simp only[List.all_cons,aD]at h;obtain⟨rfl,h⟩:=h;rw[No];by_cases e:(s==w)=Q3
  ·have:s=w:=bF e;rw[if_pos e];simp[this]
  ·rw[if_neg e,Np s r h];have:s≠w:=λh=>e (by rw[h];simp)
   simp[this]
theorem Ni(s:zB):iR s=Q3↔s∈wv:=by
 unfold iR;rw[Np s CR LO];constructor
 ·intro h;obtain⟨w,hw,rfl⟩:=bl.1 h;have:=dT.1 Ts w hw;simpa using this
 ·intro h;have:=dT.1 Tq s h;simpa using this
theorem Jq(s:zB):GD s=Q1 (iR s,()):=by
 have hn:=Tp;have hf:=lH (t:=Cw) (Φ:=λr=>r=(.kb Q3,[])) 1 (λi=>.h3 s wv (i:Int)) (λi=>getD wv i (zi Sh.str)≠s) wv.length (by
  intro i hi _;have hv:(Cw (.h3 s wv (i:Int))).val=if(getD wv i (zi Sh.str)==s)=Q3 then Q1 (.inr (.kb Q3,[]))else Q1 (.inl (.h3 s wv ((i+1:Nat):Int))):=by
   show(Cw (.h3 _ _ _)).val=_;unfold Cw;simp only[Q8,zH hi,zu hi,aJ,if_true];rw[zp i um]
  by_cases h:getD wv i (zi Sh.str)=s
  ·exact .inr ⟨λh2=>h2 h,_,zT.of (by rw[hv,if_pos (by rw[h];simp)]),rfl⟩
  ·exact .inl ⟨h,zQ.of (by rw[hv,if_neg (λh2=>h (bF h2))])⟩)
 have hi:(Rp s).val=Q1 (.inl (.h3 s wv ((0:Nat):Int))):=rfl;have hq:=aq (l:=wv) (d:=zi Sh.str) (Q:=λw=>w≠s);rcases hf with⟨h1,h2⟩|⟨h1,r,h2,rfl⟩
 ·have e:iR s=Q4:=by
   cases hh:iR s with
   |false=>rfl
   |true=>exact absurd rfl (hq.1 h1 s ((Ni s).1 hh))
  rw[e];refine zx hi (h2.ends (zT.of (r:=(.kb Q4,[])) ?_)) ow rfl;show(Cw (.h3 _ _ _)).val=_;unfold Cw;simp only[Q8,zA];rfl
 ·have e:iR s=Q3:=by
   cases hh:iR s with
   |true=>rfl
   |false=>exact absurd (hq.2 λw hw hws=>by rw[hws]at hw;rw[(Ni s).2 hw]at hh;cases hh) h1
  rw[e];exact zx hi h2 ow rfl
theorem Jp(s:zB):BZ s=Q3:=by unfold BZ;rw[Jq];rfl
theorem Na(s:zB):Jo s=iR s:=by unfold Jo;rw[Jq];rfl
theorem EW{s:zB}(hl:s.length<=1000000):uj s=Q1 (zK s,()):=by
 unfold uj al cU;simp only[zgK,Q8,wm hl,BX hl,Jp,Na,zK];cases dP s<;>rfl
theorem bv{s:zB}(hl:s.length<=1000000):dB s=Q3:=by unfold dB;rw[EW hl];rfl
theorem eM{s:zB}(hl:s.length<=1000000):bp s=zK s:=by unfold bp;rw[EW hl];rfl
noncomputable section
def Ax(g:Sem Q5->Sem (Sh.sl zj)->Sem (Sh.sl zf)->Sem zf)(c:Sem Q5->Sem (Sh.sl zj)->Sem (Sh.sl zf)->Bool):bX:=Fy.add 174 (zP [Q5,Sh.sl zj,Sh.sl zf] [zf] (λx=>c x.1 x.2.1 x.2.2.1) λx=>(g x.1 x.2.1 x.2.2.1,()))
theorem Kj{g:Sem Q5->Sem (Sh.sl zj)->Sem (Sh.sl zf)->Sem zf}{c:Sem Q5->Sem (Sh.sl zj)->Sem (Sh.sl zf)->Bool}(hg:FK 174 (zP [Q5,Sh.sl zj,Sh.sl zf] [zf] (λx=>c x.1 x.2.1 x.2.2.1) λx=>(g x.1 x.2.1 x.2.2.1,()))):zw (Ax g c):=rU.add hg
abbrev KM:Nat->aM:=λj=>if j=6 then{slots:=[1,2,3,6,7]}else{ }
inductive Dp where
 |h6 (l1:LC) (l2:LV) (i7:Int) (z0:zn [CP.d Q5]) (z1:zn [CP.d zf])
abbrev HS:Dp->Nat×St
 |.h6 l1 l2 i7 z0 z1=>(6,⟨tm 103 [(1,sl zj l1),(2,sl zf l2),(3,ptr 0 0),(6,ptr 1 0),(7,ai i7)],[AO.box (bC [] [CP.d Q5] z0),AO.box (bC [] [CP.d zf] z1)]⟩)
theorem zcc(g:Sem Q5->Sem zj.sl->Sem zf.sl->Sem zf)(c:Sem Q5->Sem zj.sl->Sem zf.sl->Bool):zI (Ax g c).P 174 Tryz.f174 3:=bU kw
def oQ(g:Sem Q5->Sem zj.sl->Sem zf.sl->Sem zf)(c:Sem Q5->Sem zj.sl->Sem zf.sl->Bool)(x0:Sem Q5)(x1:Sem zj.sl)(x2:Sem zf.sl):Tr (Dp⊕aw):=
 let a0:=zm ((ze.l x0).getD (toNat 0) (zi Q5))
 let a1:=g a0 x1 x2
 let a2:=EJ a1
 let a3:=a1.1==0
 let a4:=aU a3
 let a5:=zm ((ze.l x0).getD (toNat 1) (zi Q5))
 let a6:=g a5 x1 x2
 let a7:=EH a1 a6
 let a8:=OQ a1 a6
 let a9:=qc a1 a6
 let a10:=wh a1 a6
 let a11:=wi a1 a6
 let a12:=qd a1 a6
 br (ze.op x0==[108,105,116])
 (re (agg [ai (ze.v x0).1,ai (ze.v x0).2.1,str (ze.v x0).2.2]) [])
 (br (ze.op x0==[99,111,108]) (Tr.to (Dp.h6 x1 x2 0 (x0,()) ((0,0,[]),())))
  (chk (zM 0 (ze.l x0).length) (chk (c a0 x1 x2) (br (ze.op x0==[110,111,116]) (chk (Gf a1) (re (agg [ai a2.1,ai a2.2.1,str a2.2.2]) [])) (br (ze.op x0==[110,117,108,108]) (chk (lO a1) (br (!ry a1) (chk Q3
  (re (agg [ai (aU Q3).1,ai (aU Q3).2.1,str (aU Q3).2.2]) [])) (chk (kI a3) (re (agg [ai a4.1,ai a4.2.1,str a4.2.2]) [])))) (chk (zM 1 (ze.l x0).length) (chk (c a5 x1 x2) (br (ze.op x0==[97,110,100])
  (chk (Gc a1 a6) (re (agg [ai a7.1,ai a7.2.1,str a7.2.2]) [])) (br (ze.op x0==[111,114]) (chk (M2 a1 a6) (re (agg [ai a8.1,ai a8.2.1,str a8.2.2]) [])) (br (ze.op x0==[61]) (chk (tR a1 a6) (re (agg [ai a9.1,ai a9.2.1,str a9.2.2]) [])) (br (ze.op x0==[60])
  (chk (yk a1 a6) (re (agg [ai a10.1,ai a10.2.1,str a10.2.2]) [])) (br (ze.op x0==[43]) (chk (yl a1 a6) (re (agg [ai a11.1,ai a11.2.1,str a11.2.2]) [])) (chk (tT a1 a6) (re (agg [ai a12.1,ai a12.2.1,str a12.2.2]) []))))))))))))))
theorem zbd(g:Sem Q5->Sem zj.sl->Sem zf.sl->Sem zf)(c:Sem Q5->Sem zj.sl->Sem zf.sl->Bool)(x0:Sem Q5)(x1:Sem zj.sl)(x2:Sem zf.sl):rn (Ax g c) 0 KM Tryz.f174 [zE Q5 x0,zE zj.sl x1,zE zf.sl x2] []=(oQ g c x0 x1 x2).map (lf Tryz.f174 HS):=kw
def xy(_:Sem Q5->Sem zj.sl->Sem zf.sl->Sem zf)(_:Sem Q5->Sem zj.sl->Sem zf.sl->Bool):Dp->Tr (Dp⊕aw)
 | .h6 l1 l2 i7 z0 z1=>
  let a0:=l1.getD i7.toNat (zi zj)
  let a1:=l2.getD i7.toNat (zi zf)
  br (Q0 (i7<(↑l1.length:Int)))
  (chk (zM i7 l1.length)
   (br (a0.1==ze.s z0.1) (br (Q0 (i7<(↑l2.length:Int))) (chk (zM i7 l2.length) (re (agg [ai a1.1,ai a1.2.1,str a1.2.2]) [])) (re (agg [ai 0,ai 0,str []]) [])) (Tr.to (Dp.h6 l1 l2 (IntKind.i64.wrap (i7+1)) z0 z1))))
  (re (agg [ai 0,ai 0,str []]) [])
theorem zcp(g:Sem Q5->Sem zj.sl->Sem zf.sl->Sem zf)(c:Sem Q5->Sem zj.sl->Sem zf.sl->Bool):∀s,run (Ax g c) 0 KM (Func.results Tryz.f174).toList 400 (ac Tryz.f174 (HS s).1) (HS s).2=(xy g c s).map (lf Tryz.f174 HS)
 |.h6 l1 l2 i7 z0 z1=>by kernel_rfl
def gw(o:Option (zy (List.map Q1 [zf]))):Sem zf:=(λr:zy (List.map Q1 [zf])=>r.1) (o.getD (cu [zf]))
def M4(g:Sem Q5->Sem zj.sl->Sem zf.sl->Sem zf)(c:Sem Q5->Sem zj.sl->Sem zf.sl->Bool)(x0:Sem Q5)(x1:Sem zj.sl)(x2:Sem zf.sl):Option (zy (List.map Q1 [zf])):=al [zf] (xy g c) 100000000 (oQ g c x0 x1 x2)
def ce:Nat->Sem Q5->Sem zj.sl->Sem zf.sl->Option (zy (List.map Q1 [zf]))
 |0=>λ_ _ _=>Q2
 |n+1=>M4 (λx0 x1 x2=>gw (ce n x0 x1 x2)) λx0 x1 x2=>(ce n x0 x1 x2).isSome
theorem RF:zI Fy.P 174 Tryz.f174 3:=bU kw
theorem Hn:∀n,FK 174 (zP [Q5,zj.sl,zf.sl] [zf] (λx=>(ce n x.1 x.2.1 x.2.2.1).isSome) λx=>(gw (ce n x.1 x.2.1 x.2.2.1),()))
 |0=>fj ⟨Tryz.f174,RF.1,RF.2.1,RF.2.2.1⟩ (λ_=>rfl)
 |n+1=>lG (E:=Ax (λx0 x1 x2=>gw (ce n x0 x1 x2)) (λx0 x1 x2=>(ce n x0 x1 x2).isSome)) (ks:=[Q5,zj.sl,zf.sl]) (outs:=[zf]) (keep:=KM) (gas:=400) (n:=100000000) (e:=HS) (t:=xy (λx0 x1 x2=>gw (ce n x0 x1 x2)) (λx0 x1 x2=>(ce n x0 x1 x2).isSome)) (i:=λx=>oQ (λx0 x1 x2=>gw (ce n x0 x1 x2)) (λx0 x1 x2=>(ce n x0 x1 x2).isSome) x.1 x.2.1 x.2.2.1) (Kj (Hn n)) (zcc _ _) (λx=>zbd _ _ x.1 x.2.1 x.2.2.1) (zcp _ _) (λ_=>by kernel_rfl) (λ_=>by kernel_rfl)
def yo(x0:Sem Q5)(x1:Sem zj.sl)(x2:Sem zf.sl):Option (zy (List.map Q1 [zf])):=ce 16 x0 x1 x2
def yn(x0:Sem Q5)(x1:Sem zj.sl)(x2:Sem zf.sl):Bool:=(yo x0 x1 x2).isSome
def Gg(x0:Sem Q5)(x1:Sem zj.sl)(x2:Sem zf.sl):Sem zf:=gw (yo x0 x1 x2)
def WW:zX:=zP [Q5,zj.sl,zf.sl] [zf] (λx=>yn x.1 x.2.1 x.2.2.1) λx=>(Gg x.1 x.2.1 x.2.2.1,())
theorem T9:FK 174 WW:=Hn 16
abbrev zhe:=mM [(5,[1,3,4]),(11,[1,3,6]),(16,[1,3,7])]
inductive C2 where
 |h5 (i3:Int) (i4:Int) (z0:zn [CP.d zo])
 |h11 (i3:Int) (i6:Int) (z0:zn [CP.d zo])
 |h16 (i3:Int) (i7:Int) (z0:zn [CP.d zo])
abbrev zjN:C2->Nat×St
 |.h5 i3 i4 z0=>(5,⟨tm 139 [(1,ptr 0 0),(3,ai i3),(4,ai i4)],[AO.box (bC [] [CP.d zo] z0)]⟩)
 |.h11 i3 i6 z0=>(11,⟨tm 139 [(1,ptr 0 0),(3,ai i3),(6,ai i6)],[AO.box (bC [] [CP.d zo] z0)]⟩)
 |.h16 i3 i7 z0=>(16,⟨tm 139 [(1,ptr 0 0),(3,ai i3),(7,ai i7)],[AO.box (bC [] [CP.d zo] z0)]⟩)
def zbJ(x0:Sem zo):Tr (C2⊕aw):=
 let a0:=(↑(length x0.2.1):Int)
 let a1:=Q0 (a0<1)
 let a2:=Q0 (a0>8)
 let a3:=Q0 (x0.2.2.1<0)
 let a4:=Q0 (x0.2.2.1>=a0)
 let a5:=getD x0.2.1 (toNat x0.2.2.1) (zi zj)
 chk
 (dB x0.1&&
  bif !bp x0.1 then Q3
  else bif a1 then Q3 else bif a2 then Q3 else bif a3 then Q3 else bif a4 then Q3 else zM x0.2.2.1 (length x0.2.1))
 (br (bif !bp x0.1 then Q3 else bif a1 then Q3 else bif a2 then Q3 else bif a3 then Q3 else bif a4 then Q3 else !a5.2.2)
  (re (kb Q4) []) (Tr.to (C2.h5 a0 0 (x0,()))))
def qV:C2->Tr (C2⊕aw)
 | .h5 i3 i4 z0=>
  let a0:=getD z0.1.2.1 i4.toNat (zi zj)
  let a1:=!bp a0.1
  let a2:=Q0 (a0.2.1<1)
  let a3:=Q0 (a0.2.1>3)
  br (Q0 (i4<i3))
  (chk (zM i4 (length z0.1.2.1))
   (chk (dB a0.1&&bif a1 then Q3 else bif a2 then Q3 else bif a3 then Q3 else du z0.1.2.1 a0.1) (br (bif a1 then Q3 else bif a2 then Q3 else bif a3 then Q3 else eB z0.1.2.1 a0.1!=i4) (re (kb Q4) []) (Tr.to (C2.h5 i3 (IntKind.i64.wrap (i4+1)) z0)))))
  (Tr.to (C2.h11 i3 0 z0))
 | .h11 i3 i6 z0=>
  let a0:=(↑(length z0.1.2.2.2.1):Int)
  let a1:=zM i6 (length z0.1.2.2.2.1)
  let a2:=getD z0.1.2.2.2.1 i6.toNat (zi zg)
  let a3:=Q0 (a2<0)
  br (Q0 (i6<a0))
  (chk (a1&&bif a3 then Q3 else a1)
   (br (bif a3 then Q3 else Q0 (a2>=i3)) (re (kb Q4) []) (Tr.to (C2.h11 i3 (IntKind.i64.wrap (i6+1)) z0))))
  (Tr.to (C2.h16 i3 0 z0))
 | .h16 i3 i7 z0=>
  let a0:=(↑(length z0.1.t.1):Int)
  let a1:=zM i7 (length z0.1.t.1)
  let a2:=getD z0.1.t.1 i7.toNat (zi zr)
  let a3:=Q0 (a2.1<0)
  let a4:=Q0 (a2.1>=i3)
  let a5:=zm z0.1.t.2
  br (Q0 (i7<a0))
  (chk (a1&&bif a3 then Q3 else a1&&bif a4 then Q3 else a1&&dB a2.2)
   (br (bif a3 then Q3 else bif a4 then Q3 else !bp a2.2) (re (kb Q4) []) (Tr.to (C2.h16 i3 (IntKind.i64.wrap (i7+1)) z0))))
  (chk (BP a5 z0.1.2.1) (re (AV.bool (Gq a5 z0.1.2.1==0)) []))
def Gp(x0:Sem zo):=al [Sh.bool] qV 100000000 (zbJ x0)
def wk(x0:Sem zo):=(Gp x0).isSome
def ES(x0:Sem zo):=o1 (Gp x0)
def zdY:=FT [zo] [Sh.bool] λx=>Gp x.1
theorem zah:FK 127 zdY:=rU.T1 (f:=Tryz.f127) (keep:=zhe) (e:=zjN)
def Qw:=Fy.addL [(174,WW),(127,zdY)]
theorem kr:zw Qw:=rU.addL<|fc T9<|fc zah jm
end
mutual
def rH:ze->Prop
 |.mk _ v s l=>lK v/\s.length<=1000000/\jL l
def jL:List ze->Prop
 |[]=>True
 |e::r=>rH e/\jL r
end
theorem jL.mem:∀{l:List ze},jL l->∀e∈l,rH e
 |[],_,e,h=>by simp at h
 | x::r,h,e,he=>by
  rw[jL]at h;rcases cj.1 he with rfl|he
  ·exact h.1
  ·exact jL.mem h.2 e he
def Di(op:zB):Bool:=bif op==[97,110,100]then Q3 else bif op==[111,114]then Q3 else bif op==[61]then Q3 else bif op==[60]then Q3 else bif op==[43]then Q3 else op==[45]
theorem Jg(s:zB):Lf s=Q1 (Di s,()):=rfl
theorem Tf(s:zB):Gm s=Q3:=by unfold Gm;rw[Jg];rfl
theorem Wn(s:zB):M7 s=Di s:=by unfold M7;rw[Jg];rfl
def cg:Nat->ze->Bool
 |0,_=>Q4
 | d+1,.mk op v s l=>
  if(op==[108,105,116])=Q3 then(bif aW v then bif s==[]then(l.length:Int)==0 else Q4 else Q4)else
  if(op==[99,111,108])=Q3 then(bif aY v then bif dP s then bif !iR s then(l.length:Int)==0 else Q4 else Q4 else Q4)else
  if(bif op==[110,111,116]then Q3 else op==[110,117,108,108])=Q3 then(bif aY v then bif s==[]then(match l with|[a]=>cg d a|_=>Q4)else Q4 else Q4)else
  if Di op=Q3 then(bif aY v then bif s==[]then(match l with|[a,b]=>bif cg d a then cg d b else Q4|_=>Q4)else Q4 else Q4)else Q4
def nE:Nat->ze->Nat
 |0,_=>0
 |d+1,.mk _ _ _ l=>1+(l.map (nE d)).sum
theorem Pj(d:Nat)(h:d<=1000):IntKind.i64.wrap (((d+1:Nat):Int)-1)=(d:Int):=mL d um
theorem EQ:∀(N d:Nat)(e:ze),d<=12->d<N->rH e->fF N e (d:Int)=Q1 (cg d e,())
 |0,_,_,_,h,_=>absurd h ow
 | N+1,0,e,_,_,_=>by
  rw[fF];unfold Gl al cU;rfl
 | N+1,d+1,.mk op v s l,h1,h2,hw=>by
  rw[rH]at hw;obtain⟨hv,hs,hl⟩:=hw;have hN:∀a∈l,fF N a (d:Int)=Q1 (cg d a,()):=λa ha=>EQ N d a ow ow (hl.mem a ha)
  rw[fF];unfold Gl al cU;have hx:(((d+1:Nat):Int)==0)=Q4:=bN.2 ow;simp only[Mt,Q8,zl,ze.op,ze.v,ze.s,ze.l,kH hv.2.2,nj hv.2.2,wm hs,BX hs,Jp,Na,Tf,Wn,Pj d ow,if_true,hx]
  match l,hN with
  | [],_=>
   simp only[cg,aY];rcases zF (op==[108,105,116])with c1|c1
   ·rcases zF (aW v)with c5|c5<;>rcases zF (s==[])with c6|c6<;>(simp only[c1,c5,c6,ay,aN,if_true,if_false,zG,dl];rfl)
   rcases zF (op==[99,111,108])with c2|c2
   ·rcases zF (aY v)with c5|c5<;>rcases zF (dP s)with c6|c6<;>rcases zF (iR s)with c7|c7<;>(simp only[aY]at c5;simp only[c1,c2,c5,c6,c7,ay,aN,if_true,if_false,zG,dl,fa,jI];rfl)
   rcases zF (bif op==[110,111,116]then Q3 else op==[110,117,108,108])with c3|c3
   ·rcases zF (aY v)with c5|c5<;>rcases zF (s==[])with c6|c6<;>(simp only[aY]at c5;simp only[c1,c2,c3,c5,c6,ay,aN,if_true,if_false,zG,dl];rfl)
   rcases zF (Di op)with c4|c4
   ·rcases zF (aY v)with c5|c5<;>rcases zF (s==[])with c6|c6<;>(simp only[aY]at c5;simp only[c1,c2,c3,c4,c5,c6,ay,aN,if_true,if_false,zG,dl];rfl)
   ·simp only[c1,c2,c3,c4,if_false,zG,dl];rfl
  | [a],hN=>
   have ha:=hN a sw;simp only[cg,aY,show getD [a] (toNat 0) (zi Q5)=a from rfl,ha,show zM 0 [a].length=Q3 from rfl,Dz,show∀x,nt (Q1 (x,()))=x from λ_=>rfl];rcases zF (op==[108,105,116])with c1|c1
   ·rcases zF (aW v)with c5|c5<;>rcases zF (s==[])with c6|c6<;>(simp only[c1,c5,c6,ay,aN,if_true,if_false,zG,dl];rfl)
   rcases zF (op==[99,111,108])with c2|c2
   ·rcases zF (aY v)with c5|c5<;>rcases zF (dP s)with c6|c6<;>rcases zF (iR s)with c7|c7<;>(simp only[aY]at c5;simp only[c1,c2,c5,c6,c7,ay,aN,if_true,if_false,zG,dl,fa,jI];rfl)
   rcases zF (bif op==[110,111,116]then Q3 else op==[110,117,108,108])with c3|c3
   ·rcases zF (aY v)with c5|c5<;>rcases zF (s==[])with c6|c6<;>rcases zF (cg d a)with c7|c7<;>(simp only[aY]at c5;simp only[c1,c2,c3,c5,c6,c7,ay,aN,if_true,if_false,zG,dl];rfl)
   rcases zF (Di op)with c4|c4
   ·rcases zF (aY v)with c5|c5<;>rcases zF (s==[])with c6|c6<;>rcases zF (cg d a)with c7|c7<;>(simp only[aY]at c5;simp only[c1,c2,c3,c4,c5,c6,c7,ay,aN,if_true,if_false,zG,dl];rfl)
   ·simp only[c1,c2,c3,c4,if_false,zG,dl];rfl
  | [a,b],hN=>
   have ha:=hN a sw;have hb:=hN b sw;simp only[cg,aY,show getD [a,b] (toNat 0) (zi Q5)=a from rfl,show getD [a,b] (toNat 1) (zi Q5)=b from rfl,ha,hb,show zM 0 [a,b].length=Q3 from rfl,show zM 1 [a,b].length=Q3 from rfl,Dz,show∀x,nt (Q1 (x,()))=x from λ_=>rfl];rcases zF (op==[108,105,116])with c1|c1
   ·rcases zF (aW v)with c5|c5<;>rcases zF (s==[])with c6|c6<;>(simp only[c1,c5,c6,ay,aN,if_true,if_false,zG,dl];rfl)
   rcases zF (op==[99,111,108])with c2|c2
   ·rcases zF (aY v)with c5|c5<;>rcases zF (dP s)with c6|c6<;>rcases zF (iR s)with c7|c7<;>(simp only[aY]at c5;simp only[c1,c2,c5,c6,c7,ay,aN,if_true,if_false,zG,dl,fa,jI];rfl)
   rcases zF (bif op==[110,111,116]then Q3 else op==[110,117,108,108])with c3|c3
   ·rcases zF (aY v)with c5|c5<;>rcases zF (s==[])with c6|c6<;>rcases zF (cg d a)with c7|c7<;>rcases zF (cg d b)with c8|c8<;>(simp only[aY]at c5;simp only[c1,c2,c3,c5,c6,c7,c8,ay,aN,if_true,if_false,zG,dl];rfl)
   rcases zF (Di op)with c4|c4
   ·rcases zF (aY v)with c5|c5<;>rcases zF (s==[])with c6|c6<;>rcases zF (cg d a)with c7|c7<;>rcases zF (cg d b)with c8|c8<;>(simp only[aY]at c5;simp only[c1,c2,c3,c4,c5,c6,c7,c8,ay,aN,if_true,if_false,zG,dl];rfl)
   ·simp only[c1,c2,c3,c4,if_false,zG,dl];rfl
  | a::b::c::r,_=>
   have e0:((((a::b::c::r).length:Nat):Int)==0)=Q4:=bN.2 sg;have e1:((((a::b::c::r).length:Nat):Int)==1)=Q4:=bN.2 sg;have e2:((((a::b::c::r).length:Nat):Int)==2)=Q4:=bN.2 sg;simp only[cg,aY,e0,e1,e2];rcases zF (op==[108,105,116])with c1|c1
   ·rcases zF (aW v)with c5|c5<;>rcases zF (s==[])with c6|c6<;>(simp only[c1,c5,c6,ay,aN,if_true,if_false,zG,dl];rfl)
   rcases zF (op==[99,111,108])with c2|c2
   ·rcases zF (aY v)with c5|c5<;>rcases zF (dP s)with c6|c6<;>rcases zF (iR s)with c7|c7<;>(simp only[aY]at c5;simp only[c1,c2,c5,c6,c7,ay,aN,if_true,if_false,zG,dl,fa,jI];rfl)
   rcases zF (bif op==[110,111,116]then Q3 else op==[110,117,108,108])with c3|c3
   ·rcases zF (aY v)with c5|c5<;>rcases zF (s==[])with c6|c6<;>(simp only[aY]at c5;simp only[c1,c2,c3,c5,c6,ay,aN,if_true,if_false,zG,dl];rfl)
   rcases zF (Di op)with c4|c4
   ·rcases zF (aY v)with c5|c5<;>rcases zF (s==[])with c6|c6<;>(simp only[aY]at c5;simp only[c1,c2,c3,c4,c5,c6,ay,aN,if_true,if_false,zG,dl];rfl)
   ·simp only[c1,c2,c3,c4,aN,if_false,zG,dl];rfl
theorem O7{op:zB}(h:Di op=Q3):op=[97,110,100]\/op=[111,114]\/op=[61]\/op=[60]\/op=[43]\/op=[45]:=by
 unfold Di at h;rcases zF (op==[97,110,100])with c|c
 ·exact .inl (bF c)
 rcases zF (op==[111,114])with c2|c2
 ·exact .inr (.inl (bF c2))
 rcases zF (op==[61])with c3|c3
 ·exact .inr (.inr (.inl (bF c3)))
 rcases zF (op==[60])with c4|c4
 ·exact .inr (.inr (.inr (.inl (bF c4))))
 rcases zF (op==[43])with c5|c5
 ·exact .inr (.inr (.inr (.inr (.inl (bF c5)))))
 rcases zF (op==[45])with c6|c6
 ·exact .inr (.inr (.inr (.inr (.inr (bF c6)))))
 rw[c,c2,c3,c4,c5,c6]at h;cases h
inductive PB (d:Nat):ze->Prop
 |lit (v:Int×Int×zB) (h:aW v=Q3):PB d (.mk [108,105,116] v [] [])
 |col (s:zB) (h:dP s=Q3) (h2:iR s=Q4):PB d (.mk [99,111,108] (0,0,[]) s [])
 |one (op:zB) (a:ze) (h:op=[110,111,116]\/op=[110,117,108,108]) (ha:cg d a=Q3):PB d (.mk op (0,0,[]) [] [a])
 |two (op:zB) (a b:ze) (h:op=[97,110,100]\/op=[111,114]\/op=[61]\/op=[60]\/op=[43]\/op=[45]) (ha:cg d a=Q3) (hb:cg d b=Q3):PB d (.mk op (0,0,[]) [] [a,b])
theorem A7{v:Int×Int×zB}(h:aY v=Q3):v=(0,0,[]):=by
 obtain⟨a,b,c⟩:=v;unfold aY at h;simp at h;obtain⟨rfl,rfl,rfl⟩:=h;rfl
theorem ck{a b:Bool}(h:(bif a then b else Q4)=Q3):a=Q3/\b=Q3:=by
 cases a<;>cases b<;>simp_all
theorem OG{op:zB}(h:(bif op==[110,111,116]then Q3 else op==[110,117,108,108])=Q3):op=[110,111,116]\/op=[110,117,108,108]:=by
 rcases zF (op==[110,111,116])with k|k
 ·exact .inl (bF k)
 ·rw[k]at h;exact .inr (bF h)
theorem fu{d:Nat}:∀{e:ze},cg (d+1) e=Q3->PB d e
 | .mk op v s [],h=>by
  simp only[cg]at h;split at h
  ·rename_i c;obtain⟨h1,h2⟩:=ck h;obtain⟨h3,h4⟩:=ck h2;rw[bF c,bF h3];exact .lit v h1
  split at h
  ·rename_i c;obtain⟨h1,h2⟩:=ck h;obtain⟨h3,h4⟩:=ck h2;obtain⟨h5,h6⟩:=ck h4;rw[bF c,A7 h1];exact .col s h3 (by simpa using h5)
  split at h
  ·cases hh:aY v<;>cases hs:(s==[])<;>simp[hh,hs]at h
  split at h
  ·cases hh:aY v<;>cases hs:(s==[])<;>simp[hh,hs]at h
  ·cases h
 | .mk op v s [a],h=>by
  simp only[cg]at h;split at h
  ·cases hh:aW v<;>cases hs:(s==[])<;>simp[hh,hs]at h
  split at h
  ·cases hh:aY v<;>cases hs:dP s<;>cases hr:iR s<;>simp[hh,hs,hr]at h
  split at h
  ·rename_i c;obtain⟨h1,h2⟩:=ck h;obtain⟨h3,h4⟩:=ck h2;rw[bF h3,A7 h1];exact .one op a (OG c) h4
  split at h
  ·cases hh:aY v<;>cases hs:(s==[])<;>simp[hh,hs]at h
  ·cases h
 | .mk op v s [a,b],h=>by
  simp only[cg]at h;split at h
  ·cases hh:aW v<;>cases hs:(s==[])<;>simp[hh,hs]at h
  split at h
  ·cases hh:aY v<;>cases hs:dP s<;>cases hr:iR s<;>simp[hh,hs,hr]at h
  split at h
  ·cases hh:aY v<;>cases hs:(s==[])<;>simp[hh,hs]at h
  split at h
  ·rename_i c;obtain⟨h1,h2⟩:=ck h;obtain⟨h3,h4⟩:=ck h2;obtain⟨ha,hb⟩:=ck h4;rw[bF h3,A7 h1];exact .two op a b (O7 c) ha hb
  ·cases h
 | .mk op v s (a::b::c::r),h=>by
  have e0:((((a::b::c::r).length:Nat):Int)==0)=Q4:=bN.2 sg;simp only[cg,e0]at h;split at h
  ·cases hh:aW v<;>cases hs:(s==[])<;>simp[hh,hs]at h
  split at h
  ·cases hh:aY v<;>cases hs:dP s<;>cases hr:iR s<;>simp[hh,hs,hr]at h
  split at h
  ·cases hh:aY v<;>cases hs:(s==[])<;>simp[hh,hs]at h
  split at h
  ·cases hh:aY v<;>cases hs:(s==[])<;>simp[hh,hs]at h
  ·cases h
theorem rr:∀(d:Nat)(e:ze),cg d e=Q3->nE d e+1<=2^d
 |0,_,h=>by cases h
 | d+1,e,h=>by
  have h2:0<2^d:=Nat.two_pow_pos d;cases fu h with
  |lit v h=>simp[nE,Ah];omega
  |col s h h2=>simp[nE,Ah];omega
  |one op a h ha=>have:=rr d a ha;simp[nE,Ah];omega
  |two op a b h ha hb=>have:=rr d a ha;have:=rr d b hb;simp[nE,Ah];omega
theorem zb9{d:Nat}{e:ze}(h:cg d e=Q3):1<=nE d e:=by
 cases d with
 |zero=>cases h
 | succ d=>
  obtain⟨op,v,s,l⟩:=e;rw[nE];omega
theorem CT{n:Nat}(h:n<=1000000):IntKind.i64.wrap (n:Int)=(n:Int):=by
 rw[fM];omega
theorem nu:∀(N d:Nat)(e:ze),d<=12->d<=N->cg d e=Q3->cn N e=Q1 ((nE d e:Int),())
 |_,0,_,_,_,h=>by cases h
 |0,d+1,_,_,h,_=>absurd h ow
 | N+1,d+1,e,h1,h2,h=>by
  have hp:2^(d+1)<=2^12:=Dx ow ow;have hle:=rr (d+1) e h
  have hstep:∀(e:ze)(i:Nat)(n k:Nat)(hi:i<(ze.l e).length),cn N (ze.l e)[i]=Q1 ((k:Int),())->n+k<=1000000->i<=1000->
    (Cy (λx0=>im (cn N x0)) (λx0=>(cn N x0).isSome) (.h3 (n:Int) (i:Int) (e,()))).val=Q1 (.inl (.h3 ((n+k:Nat):Int) ((i+1:Nat):Int) (e,()))):=by
   intro e i n k hi k1 k2 k3;have g0:getD (ze.l e) (i:Int).toNat (zi Q5)=(ze.l e)[i]:=zY _ _ hi;simp only[Cy,G1,Cz,Q8,g0,zl,k1,zH hi,zu hi,Dz,if_true];show Q1 (Sum.inl (sJ.h3 (IntKind.i64.wrap ((n:Int)+(k:Int))) _ _))=_;rw[zp i um,<-sP,CT k2]
  have hend:∀(e:ze)(n:Nat),(Cy (λx0=>im (cn N x0)) (λx0=>(cn N x0).isSome) (.h3 (n:Int) ((ze.l e).length:Int) (e,()))).val=Q1 (.inr (.int .i64 n,[])):=by
   intro e n;simp only[Cy,G1,Cz,Q8,zA];rfl
  have hgo:∀e,(Mu (λx0=>im (cn N x0)) (λx0=>(cn N x0).isSome) e).val=Q1 (.inl (.h3 ((1:Nat):Int) ((0:Nat):Int) (e,()))):=λ_=>rfl
  rw[cn];unfold Jf;cases fu h with
  |lit v h=>exact zx (hgo _) (zT.of (hend _ 1)) ow rfl
  |col s h h2=>exact zx (hgo _) (zT.of (hend _ 1)) ow rfl
  | one op a h ha=>
   have ka:=nu N d a ow ow ha;have l1:=rr d a ha;have p1:2^d<=2^12:=Dx ow ow;refine zx (hgo _) ((zQ.of (hstep (.mk op (0,0,[]) [] [a]) 0 1 (nE d a) (by simp[ze.l]) ka ow ow)).ends (zT.of (hend (.mk op (0,0,[]) [] [a]) _))) ow ?_;simp[nE];rfl
  | two op a b h ha hb=>
   have ka:=nu N d a ow ow ha;have kb:=nu N d b ow ow hb;have l1:=rr d a ha;have l2:=rr d b hb;have p1:2^d<=2^12:=Dx ow ow;refine zx (hgo _) ((zQ.of (hstep (.mk op (0,0,[]) [] [a,b]) 0 1 (nE d a) (by simp[ze.l]) ka ow ow)).ends ((zQ.of (hstep (.mk op (0,0,[]) [] [a,b]) 1 (1+nE d a) (nE d b) (by simp[ze.l]) kb ow ow)).ends (zT.of (hend (.mk op (0,0,[]) [] [a,b]) _)))) ow ?_;simp[nE,Nat.add_assoc];rfl
theorem pX:∀(N k:Nat)(e:ze)(n:Nat),k<=12->k<=N->cg k e=Q3->n+nE k e<=60->gX N e ((13:Int)-k) n=(Q3,((n+nE k e:Nat):Int))
 |_,0,_,_,_,_,h,_=>by cases h
 |0,k+1,_,_,_,h,_,_=>absurd h ow
 | N+1,k+1,e,n,h1,h2,h,h3=>by
  rw[gX];unfold xH;have w1:IntKind.i64.wrap ((n:Int)+1)=((n+1:Nat):Int):=zp n um;have w2:IntKind.i64.wrap ((13:Int)-((k+1:Nat):Int)+1)=(13:Int)-(k:Int):=by rw[fM];omega
  have d1:Q0 ((13:Int)-((k+1:Nat):Int)>12)=Q4:=af ow;have hpos:=zb9 h;have d2:Q0 (((n+1:Nat):Int)>60)=Q4:=af ow;rw[w1,d1,d2];cases fu h with
  |lit v hv=>simp[ze.op,ze.l,ze.s,ze.v,cK,xn,No,hv,nE]
  |col s hw h2=>simp[ze.op,ze.l,ze.s,ze.v,cK,xn,No,hw,h2,nE,aY]
  | one op a ho ha=>
   have hn:n+1+nE k a<=60:=by simp[nE]at h3;omega
   have ka:=pX N k a (n+1) ow ow ha hn;have hs:((n+nE (k+1) (.mk op (0,0,[]) [] [a]):Nat):Int)=((n+1+nE k a:Nat):Int):=by simp[nE];omega
   rw[hs]
   push_cast at*
   rcases ho with rfl|rfl<;>simp[ze.op,ze.l,ze.s,ze.v,cK,xn,No,aY,oh,w2,ka]
  | two op a b ho ha hb=>
   have hn:n+1+nE k a+nE k b<=60:=by simp[nE]at h3;omega
   have ka:=pX N k a (n+1) ow ow ha ow;have kb:=pX N k b (n+1+nE k a) ow ow hb hn;have hs:((n+nE (k+1) (.mk op (0,0,[]) [] [a,b]):Nat):Int)=((n+1+nE k a+nE k b:Nat):Int):=by simp[nE];omega
   rw[hs]
   push_cast at*
   rcases ho with rfl|rfl|rfl|rfl|rfl|rfl<;>simp[ze.op,ze.l,ze.s,ze.v,cK,xn,No,aY,oh,w2,ka,kb]
theorem mg{α:Type}{p:α->Bool}{d:α}:∀(l:List α)(k i:Nat),i<l.length->p (l.getD i d)=Q3->(∀j,j<i->p (l.getD j d)=Q4)->ae p l k=((k+i:Nat):Int)
 |[],_,_,h,_,_=>by simp at h
 | x::r,k,0,_,hp,_=>by
  rw[ae,if_pos (by simpa using hp)];rfl
 | x::r,k,i+1,h,hp,hj=>by
  have h0:=hj 0 ow;rw[ae,if_neg (by rw[show p x=Q4 by simpa using h0];simp),mg r (k+1) i (by simpa using h) (by simpa using hp) (λj hj2=>by simpa using hj (j+1) ow)];congr 1;omega
theorem mh{α:Type}{p:α->Bool}{d:α}:∀(l:List α)(k:Nat),(∀j,j<l.length->p (l.getD j d)=Q4)->ae p l k=-1
 |[],_,_=>rfl
 | x::r,k,hj=>by
  have h0:=hj 0 sw;rw[ae,if_neg (by rw[show p x=Q4 by simpa using h0];simp)];exact mh (d:=d) r (k+1) (λj h=>by simpa using hj (j+1) (by simpa using h))
theorem BO{cols:List (Sem zj)}{s:zB}(hl:cols.length<=1000000):BN cols s=Q1 (zZ cols s,()):=by
 have hf:=lH (t:=LD) (Φ:=λr=>r=(.int .i64 (zZ cols s),[])) 1 (λi=>.h2 cols s (i:Int)) (λi=>((getD cols i (zi zj)).1==s)=Q4) cols.length (by
  intro i hi hj;have hv:(LD (.h2 cols s (i:Int))).val=if((getD cols i (zi zj)).1==s)=Q3 then Q1 (.inr (.int .i64 i,[]))else Q1 (.inl (.h2 cols s ((i+1:Nat):Int))):=by
   simp only[LD,LG,G6,Q8,zH hi,zu hi,aJ,if_true];rw[zp i um]
  rcases zF ((getD cols i (zi zj)).1==s)with h|h
  ·refine .inr ⟨by rw[h];simp,_,zT.of (by rw[hv,if_pos h]),?_⟩;have:=mg (p:=λc:Sem zj=>c.1==s) (d:=zi zj) cols 0 i hi h hj;rw[show zZ cols s=(i:Int) by unfold zZ;rw[this];simp]
  ·exact .inl ⟨h,zQ.of (by rw[hv,if_neg (by rw[h];simp)])⟩)
 have hi:(VK cols s).val=Q1 (.inl (.h2 cols s ((0:Nat):Int))):=rfl;rcases hf with⟨h1,h2⟩|⟨h1,r,h2,rfl⟩
 ·have:=mh (p:=λc:Sem zj=>c.1==s) (d:=zi zj) cols 0 h1;rw[show zZ cols s=(-1:Int)from this];refine zx hi (h2.ends (zT.of (r:=(.int .i64 (-1),[])) ?_)) ow rfl;simp only[LD,LG,G6,Q8,zA];rfl
 ·exact zx hi h2 ow rfl
theorem iP{cols:List (Sem zj)}{s:zB}(hl:cols.length<=1000000):du cols s=Q3:=by unfold du;rw[BO hl];rfl
theorem j8{cols:List (Sem zj)}{s:zB}(hl:cols.length<=1000000):eB cols s=zZ cols s:=by unfold eB;rw[BO hl];rfl
theorem PN(t u:Int):lM [t] u=!(bif t !=u then t !=0 else Q4):=by
 unfold lM;simp only[ae];rcases zF (bif t !=u then t !=0 else Q4)with h|h<;>simp[h]
theorem sQ(t t' u:Int):lM [t,t'] u=!(bif (bif t !=u then t !=0 else Q4)then Q3 else(bif t' !=u then t' !=0 else Q4)):=by
 unfold lM;simp only[ae];rcases zF (bif t !=u then t !=0 else Q4)with h|h<;>rcases zF (bif t' !=u then t' !=0 else Q4)with h'|h'<;>simp[h,h']
theorem Le{g c}{cols:List (Sem zj)}{e:ze}(hl:cols.length<=1000000):∃r k,zT (JO g c) k (.h5 cols ((0:Nat):Int) (e,())) r/\k<=100000000/\aL r.2 [zg,zg] r.1=Q1 (if Q0 (LT.lt (α:=Int) (zZ cols (ze.s e)) 0)=Q3 then((0:Int),(4:Int),())else((getD cols (toNat (zZ cols (ze.s e))) (zi zj)).2.1,(0:Int),())):=by
 have hf:=lH (t:=JO g c) (Φ:=λr=>aL r.2 [zg,zg] r.1=Q1 (if Q0 (LT.lt (α:=Int) (zZ cols (ze.s e)) 0)=Q3 then((0:Int),(4:Int),())else((getD cols (toNat (zZ cols (ze.s e))) (zi zj)).2.1,(0:Int),()))) 1 (λi=>.h5 cols (i:Int) (e,())) (λi=>((getD cols i (zi zj)).1==ze.s e)=Q4) cols.length (by
  intro i hi hj;have hv:(JO g c (.h5 cols (i:Int) (e,()))).val=if((getD cols i (zi zj)).1==ze.s e)=Q3 then Q1 (.inr (.tup [.int .i64 (getD cols i (zi zj)).2.1,.int .i64 0],[]))else Q1 (.inl (.h5 cols ((i+1:Nat):Int) (e,()))):=by
   simp only[JO,Q8,zH hi,zu hi,aJ,if_true];rw[zp i um]
  rcases zF ((getD cols i (zi zj)).1==ze.s e)with h|h
  ·refine .inr ⟨by rw[h];simp,_,zT.of (by rw[hv,if_pos h]),?_⟩;have:=mg (p:=λc:Sem zj=>c.1==ze.s e) (d:=zi zj) cols 0 i hi h hj;rw[show zZ cols (ze.s e)=(i:Int) by unfold zZ;rw[this];simp,if_neg (by rw[aP];omega),aJ];rfl
  ·exact .inl ⟨h,zQ.of (by rw[hv,if_neg (by rw[h];simp)])⟩)
 rcases hf with⟨h1,h2⟩|⟨h1,r,h2,h3⟩
 ·have:=mh (p:=λc:Sem zj=>c.1==ze.s e) (d:=zi zj) cols 0 h1;refine⟨(.tup [.int .i64 0,.int .i64 4],[]),_,h2.ends (zT.of ?_),ow,?_⟩
  ·simp only[JO,Q8,zA];rfl
  ·rw[show zZ cols (ze.s e)=(-1:Int)from this];rfl
 ·exact⟨r,_,h2,ow,h3⟩
theorem qq{cols:List (Sem zj)}(hl:cols.length<=1000000):∀(N d M:Nat)(e:ze),d<=N->d<=M->cg d e=Q3->bV N e cols=Q1 ((zL M e cols).1,(zL M e cols).2,())
 |_,0,_,_,_,_,h=>by cases h
 |0,d+1,_,_,h,_,_=>absurd h ow
 |_,d+1,0,_,_,h,_=>absurd h ow
 | N+1,d+1,M+1,e,h1,h2,h=>by
  rw[bV,zL];unfold M6 wC;cases fu h with
  |lit v hv=>rfl
  | col s hw hr=>
   obtain⟨r,k,k1,k2,k3⟩:=Le (g:=λx0 x1=>fE (bV N x0 x1)) (c:=λx0 x1=>(bV N x0 x1).isSome) (cols:=cols) (e:=.mk [99,111,108] (0,0,[]) s []) hl;refine zx GM k1 k2 (k3.trans ?_);have e1:aF (zL M) (bc M) cols [99,111,108] (0:Int) (0:Int) [] s [] [] 0 []=if Q0 (LT.lt (α:=Int) (zZ cols s) 0)=Q3 then((0:Int),(4:Int))else((getD cols (toNat (zZ cols s)) (zi zj)).2.1,(0:Int)):=rfl
   show _=Q1 ((aF (zL M) (bc M) cols [99,111,108] (0:Int) (0:Int) [] s [] [] 0 []).1,(aF (zL M) (bc M) cols [99,111,108] (0:Int) (0:Int) [] s [] [] 0 []).2,());rw[e1];show Q1 (if Q0 (LT.lt (α:=Int) (zZ cols s) 0)=Q3 then((0:Int),(4:Int),())else((getD cols (toNat (zZ cols s)) (zi zj)).2.1,(0:Int),()))=_;rcases zF (Q0 (LT.lt (α:=Int) (zZ cols s) 0))with c|c
   ·rw[if_pos c,if_pos c]
   ·rw[if_neg (by rw[c];simp),if_neg (by rw[c];simp)]
  | one op a ho ha=>
   have ka:=qq hl N d M a ow ow ha;unfold al cU;generalize hg:(λx0 x1=>fE (bV N x0 x1))=g;generalize hc:(λx0 x1=>(bV N x0 x1).isSome)=c;have g1:g a cols=zL M a cols:=by rw[<-hg];show fE (bV N a cols)=_;rw[ka];rfl
   have c1:c a cols=Q3:=by rw[<-hc];show(bV N a cols).isSome=_;rw[ka];rfl
   rcases ho with rfl|rfl
   ·have e1:aF (zL M) (bc M) cols [110,111,116] (0:Int) (0:Int) [] [] [a] [a] 0 []=if((zL M a cols).2!=0)=Q3 then((0:Int),(zL M a cols).2)else if(!lM [(zL M a cols).1] 3)=Q3 then((0:Int),(5:Int))else((3:Int),(0:Int)):=rfl
    show _=Q1 ((aF (zL M) (bc M) cols [110,111,116] (0:Int) (0:Int) [] [] [a] [a] 0 []).1,(aF (zL M) (bc M) cols [110,111,116] (0:Int) (0:Int) [] [] [a] [a] 0 []).2,());rw[e1,PN];have e2:(A6 g c (.mk [110,111,116] (0,0,[]) [] [a]) cols).val=if c (zm a) cols=Q3 then(if((g (zm a) cols).2!=0)=Q3 then Q1 (.inr (.tup [.int .i64 0,.int .i64 (g (zm a) cols).2],[]))else if(bif (g (zm a) cols).1!=0 then bif (g (zm a) cols).1!=3 then Q3 else(bif (g (zm a) cols).1!=0 then(g (zm a) cols).1!=3 else Q4)else(bif (g (zm a) cols).1!=0 then(g (zm a) cols).1!=3 else Q4))=Q3 then Q1 (.inr (.tup [.int .i64 0,.int .i64 5],[]))else Q1 (.inr (.tup [.int .i64 3,.int .i64 0],[])))else Q2:=rfl
    rw[e2,zl,c1,g1];generalize zL M a cols=t;rcases zF (t.2!=0)with k1|k1<;>rcases zF (t.1!=0)with k2|k2<;>rcases zF (t.1!=3)with k3|k3<;>(simp only[k1,k2,k3,ay,aN,if_true,if_false,zG,fa,jI];rfl)
   ·have e1:aF (zL M) (bc M) cols [110,117,108,108] (0:Int) (0:Int) [] [] [a] [a] 0 []=if((zL M a cols).2!=0)=Q3 then((0:Int),(zL M a cols).2)else((3:Int),(0:Int)):=rfl
    show _=Q1 ((aF (zL M) (bc M) cols [110,117,108,108] (0:Int) (0:Int) [] [] [a] [a] 0 []).1,(aF (zL M) (bc M) cols [110,117,108,108] (0:Int) (0:Int) [] [] [a] [a] 0 []).2,());rw[e1];have e2:(A6 g c (.mk [110,117,108,108] (0,0,[]) [] [a]) cols).val=if c (zm a) cols=Q3 then(if((g (zm a) cols).2!=0)=Q3 then Q1 (.inr (.tup [.int .i64 0,.int .i64 (g (zm a) cols).2],[]))else Q1 (.inr (.tup [.int .i64 3,.int .i64 0],[])))else Q2:=rfl
    rw[e2,zl,c1,g1];generalize zL M a cols=t;rcases zF (t.2!=0)with k1|k1<;>(simp only[k1,if_true,if_false,zG];rfl)
  | two op a b ho ha hb=>
   have ka:=qq hl N d M a ow ow ha;have kb:=qq hl N d M b ow ow hb;unfold al cU;generalize hg:(λx0 x1=>fE (bV N x0 x1))=g;generalize hc:(λx0 x1=>(bV N x0 x1).isSome)=c;have g1:g a cols=zL M a cols:=by rw[<-hg];show fE (bV N a cols)=_;rw[ka];rfl
   have c1:c a cols=Q3:=by rw[<-hc];show(bV N a cols).isSome=_;rw[ka];rfl
   have g2:g b cols=zL M b cols:=by rw[<-hg];show fE (bV N b cols)=_;rw[kb];rfl
   have c2:c b cols=Q3:=by rw[<-hc];show(bV N b cols).isSome=_;rw[kb];rfl
   rcases ho with rfl|rfl|rfl|rfl|rfl|rfl
   ·have e1:aF (zL M) (bc M) cols [97,110,100] (0:Int) (0:Int) [] [] [a,b] [a,b] 0 []=if((zL M a cols).2!=0)=Q3 then((0:Int),(zL M a cols).2)else if((zL M b cols).2!=0)=Q3 then((0:Int),(zL M b cols).2)else if(!lM [(zL M a cols).1,(zL M b cols).1] 3)=Q3 then((0:Int),(5:Int))else((3:Int),(0:Int)):=rfl
    show _=Q1 ((aF (zL M) (bc M) cols [97,110,100] (0:Int) (0:Int) [] [] [a,b] [a,b] 0 []).1,(aF (zL M) (bc M) cols [97,110,100] (0:Int) (0:Int) [] [] [a,b] [a,b] 0 []).2,());rw[e1,sQ];have e2:(A6 g c (.mk [97,110,100] (0,0,[]) [] [a,b]) cols).val=if c (zm a) cols=Q3 then(if((g (zm a) cols).2!=0)=Q3 then Q1 (.inr (.tup [.int .i64 0,.int .i64 (g (zm a) cols).2],[]))else if c (zm b) cols=Q3 then(if((g (zm b) cols).2!=0)=Q3 then Q1 (.inr (.tup [.int .i64 0,.int .i64 (g (zm b) cols).2],[]))else if(bif (g (zm a) cols).1!=0 then bif (g (zm a) cols).1!=3 then Q3 else(bif (g (zm b) cols).1!=0 then(g (zm b) cols).1!=3 else Q4)else(bif (g (zm b) cols).1!=0 then(g (zm b) cols).1!=3 else Q4))=Q3 then Q1 (.inr (.tup [.int .i64 0,.int .i64 5],[]))else Q1 (.inr (.tup [.int .i64 3,.int .i64 0],[])))else Q2)else Q2:=rfl
    rw[e2,zl,zl,c1,c2,g1,g2];generalize zL M a cols=t;generalize zL M b cols=u;rcases zF (t.2!=0)with k1|k1<;>rcases zF (u.2!=0)with k2|k2<;>rcases zF (t.1!=0)with k3|k3<;>rcases zF (u.1!=0)with k4|k4<;>rcases zF (t.1!=3)with k5|k5<;>rcases zF (u.1!=3)with k6|k6<;>(simp only[k1,k2,k3,k4,k5,k6,ay,aN,if_true,if_false,zG,fa,jI];rfl)
   ·have e1:aF (zL M) (bc M) cols [111,114] (0:Int) (0:Int) [] [] [a,b] [a,b] 0 []=if((zL M a cols).2!=0)=Q3 then((0:Int),(zL M a cols).2)else if((zL M b cols).2!=0)=Q3 then((0:Int),(zL M b cols).2)else if(!lM [(zL M a cols).1,(zL M b cols).1] 3)=Q3 then((0:Int),(5:Int))else((3:Int),(0:Int)):=rfl
    show _=Q1 ((aF (zL M) (bc M) cols [111,114] (0:Int) (0:Int) [] [] [a,b] [a,b] 0 []).1,(aF (zL M) (bc M) cols [111,114] (0:Int) (0:Int) [] [] [a,b] [a,b] 0 []).2,());rw[e1,sQ];have e2:(A6 g c (.mk [111,114] (0,0,[]) [] [a,b]) cols).val=if c (zm a) cols=Q3 then(if((g (zm a) cols).2!=0)=Q3 then Q1 (.inr (.tup [.int .i64 0,.int .i64 (g (zm a) cols).2],[]))else if c (zm b) cols=Q3 then(if((g (zm b) cols).2!=0)=Q3 then Q1 (.inr (.tup [.int .i64 0,.int .i64 (g (zm b) cols).2],[]))else if(bif (g (zm a) cols).1!=0 then bif (g (zm a) cols).1!=3 then Q3 else(bif (g (zm b) cols).1!=0 then(g (zm b) cols).1!=3 else Q4)else(bif (g (zm b) cols).1!=0 then(g (zm b) cols).1!=3 else Q4))=Q3 then Q1 (.inr (.tup [.int .i64 0,.int .i64 5],[]))else Q1 (.inr (.tup [.int .i64 3,.int .i64 0],[])))else Q2)else Q2:=rfl
    rw[e2,zl,zl,c1,c2,g1,g2];generalize zL M a cols=t;generalize zL M b cols=u;rcases zF (t.2!=0)with k1|k1<;>rcases zF (u.2!=0)with k2|k2<;>rcases zF (t.1!=0)with k3|k3<;>rcases zF (u.1!=0)with k4|k4<;>rcases zF (t.1!=3)with k5|k5<;>rcases zF (u.1!=3)with k6|k6<;>(simp only[k1,k2,k3,k4,k5,k6,ay,aN,if_true,if_false,zG,fa,jI];rfl)
   ·have e1:aF (zL M) (bc M) cols [61] (0:Int) (0:Int) [] [] [a,b] [a,b] 0 []=if((zL M a cols).2!=0)=Q3 then((0:Int),(zL M a cols).2)else if((zL M b cols).2!=0)=Q3 then((0:Int),(zL M b cols).2)else if(!bif (zL M a cols).1==(zL M b cols).1 then Q3 else bif (zL M a cols).1==0 then Q3 else(zL M b cols).1==0)=Q3 then((0:Int),(5:Int))else((3:Int),(0:Int)):=rfl
    show _=Q1 ((aF (zL M) (bc M) cols [61] (0:Int) (0:Int) [] [] [a,b] [a,b] 0 []).1,(aF (zL M) (bc M) cols [61] (0:Int) (0:Int) [] [] [a,b] [a,b] 0 []).2,());rw[e1];have e2:(A6 g c (.mk [61] (0,0,[]) [] [a,b]) cols).val=if c (zm a) cols=Q3 then(if((g (zm a) cols).2!=0)=Q3 then Q1 (.inr (.tup [.int .i64 0,.int .i64 (g (zm a) cols).2],[]))else if c (zm b) cols=Q3 then(if((g (zm b) cols).2!=0)=Q3 then Q1 (.inr (.tup [.int .i64 0,.int .i64 (g (zm b) cols).2],[]))else if(bif (g (zm a) cols).1!=0 then bif (g (zm b) cols).1!=0 then(g (zm a) cols).1!=(g (zm b) cols).1 else Q4 else Q4)=Q3 then Q1 (.inr (.tup [.int .i64 0,.int .i64 5],[]))else Q1 (.inr (.tup [.int .i64 3,.int .i64 0],[])))else Q2)else Q2:=rfl
    rw[e2,zl,zl,c1,c2,g1,g2];generalize zL M a cols=t;generalize zL M b cols=u;simp only[bne];rcases zF (t.2==0)with k1|k1<;>rcases zF (u.2==0)with k2|k2<;>rcases zF (t.1==0)with k3|k3<;>rcases zF (u.1==0)with k4|k4<;>rcases zF (t.1==u.1)with k5|k5<;>(simp only[k1,k2,k3,k4,k5,ay,aN,if_true,if_false,zG,fa,jI];rfl)
   ·have e1:aF (zL M) (bc M) cols [60] (0:Int) (0:Int) [] [] [a,b] [a,b] 0 []=if((zL M a cols).2!=0)=Q3 then((0:Int),(zL M a cols).2)else if((zL M b cols).2!=0)=Q3 then((0:Int),(zL M b cols).2)else if(!bif (zL M a cols).1==(zL M b cols).1 then Q3 else bif (zL M a cols).1==0 then Q3 else(zL M b cols).1==0)=Q3 then((0:Int),(5:Int))else((3:Int),(0:Int)):=rfl
    show _=Q1 ((aF (zL M) (bc M) cols [60] (0:Int) (0:Int) [] [] [a,b] [a,b] 0 []).1,(aF (zL M) (bc M) cols [60] (0:Int) (0:Int) [] [] [a,b] [a,b] 0 []).2,());rw[e1];have e2:(A6 g c (.mk [60] (0,0,[]) [] [a,b]) cols).val=if c (zm a) cols=Q3 then(if((g (zm a) cols).2!=0)=Q3 then Q1 (.inr (.tup [.int .i64 0,.int .i64 (g (zm a) cols).2],[]))else if c (zm b) cols=Q3 then(if((g (zm b) cols).2!=0)=Q3 then Q1 (.inr (.tup [.int .i64 0,.int .i64 (g (zm b) cols).2],[]))else if(bif (g (zm a) cols).1!=0 then bif (g (zm b) cols).1!=0 then(g (zm a) cols).1!=(g (zm b) cols).1 else Q4 else Q4)=Q3 then Q1 (.inr (.tup [.int .i64 0,.int .i64 5],[]))else Q1 (.inr (.tup [.int .i64 3,.int .i64 0],[])))else Q2)else Q2:=rfl
    rw[e2,zl,zl,c1,c2,g1,g2];generalize zL M a cols=t;generalize zL M b cols=u;simp only[bne];rcases zF (t.2==0)with k1|k1<;>rcases zF (u.2==0)with k2|k2<;>rcases zF (t.1==0)with k3|k3<;>rcases zF (u.1==0)with k4|k4<;>rcases zF (t.1==u.1)with k5|k5<;>(simp only[k1,k2,k3,k4,k5,ay,aN,if_true,if_false,zG,fa,jI];rfl)
   ·have e1:aF (zL M) (bc M) cols [43] (0:Int) (0:Int) [] [] [a,b] [a,b] 0 []=if((zL M a cols).2!=0)=Q3 then((0:Int),(zL M a cols).2)else if((zL M b cols).2!=0)=Q3 then((0:Int),(zL M b cols).2)else if(!lM [(zL M a cols).1,(zL M b cols).1] 1)=Q3 then((0:Int),(5:Int))else((1:Int),(0:Int)):=rfl
    show _=Q1 ((aF (zL M) (bc M) cols [43] (0:Int) (0:Int) [] [] [a,b] [a,b] 0 []).1,(aF (zL M) (bc M) cols [43] (0:Int) (0:Int) [] [] [a,b] [a,b] 0 []).2,());rw[e1,sQ];have e2:(A6 g c (.mk [43] (0,0,[]) [] [a,b]) cols).val=if c (zm a) cols=Q3 then(if((g (zm a) cols).2!=0)=Q3 then Q1 (.inr (.tup [.int .i64 0,.int .i64 (g (zm a) cols).2],[]))else if c (zm b) cols=Q3 then(if((g (zm b) cols).2!=0)=Q3 then Q1 (.inr (.tup [.int .i64 0,.int .i64 (g (zm b) cols).2],[]))else if(bif (g (zm a) cols).1!=0 then bif (g (zm a) cols).1!=1 then Q3 else(bif (g (zm b) cols).1!=0 then(g (zm b) cols).1!=1 else Q4)else(bif (g (zm b) cols).1!=0 then(g (zm b) cols).1!=1 else Q4))=Q3 then Q1 (.inr (.tup [.int .i64 0,.int .i64 5],[]))else Q1 (.inr (.tup [.int .i64 1,.int .i64 0],[])))else Q2)else Q2:=rfl
    rw[e2,zl,zl,c1,c2,g1,g2];generalize zL M a cols=t;generalize zL M b cols=u;rcases zF (t.2!=0)with k1|k1<;>rcases zF (u.2!=0)with k2|k2<;>rcases zF (t.1!=0)with k3|k3<;>rcases zF (u.1!=0)with k4|k4<;>rcases zF (t.1!=1)with k5|k5<;>rcases zF (u.1!=1)with k6|k6<;>(simp only[k1,k2,k3,k4,k5,k6,ay,aN,if_true,if_false,zG,fa,jI];rfl)
   ·have e1:aF (zL M) (bc M) cols [45] (0:Int) (0:Int) [] [] [a,b] [a,b] 0 []=if((zL M a cols).2!=0)=Q3 then((0:Int),(zL M a cols).2)else if((zL M b cols).2!=0)=Q3 then((0:Int),(zL M b cols).2)else if(!lM [(zL M a cols).1,(zL M b cols).1] 1)=Q3 then((0:Int),(5:Int))else((1:Int),(0:Int)):=rfl
    show _=Q1 ((aF (zL M) (bc M) cols [45] (0:Int) (0:Int) [] [] [a,b] [a,b] 0 []).1,(aF (zL M) (bc M) cols [45] (0:Int) (0:Int) [] [] [a,b] [a,b] 0 []).2,());rw[e1,sQ];have e2:(A6 g c (.mk [45] (0,0,[]) [] [a,b]) cols).val=if c (zm a) cols=Q3 then(if((g (zm a) cols).2!=0)=Q3 then Q1 (.inr (.tup [.int .i64 0,.int .i64 (g (zm a) cols).2],[]))else if c (zm b) cols=Q3 then(if((g (zm b) cols).2!=0)=Q3 then Q1 (.inr (.tup [.int .i64 0,.int .i64 (g (zm b) cols).2],[]))else if(bif (g (zm a) cols).1!=0 then bif (g (zm a) cols).1!=1 then Q3 else(bif (g (zm b) cols).1!=0 then(g (zm b) cols).1!=1 else Q4)else(bif (g (zm b) cols).1!=0 then(g (zm b) cols).1!=1 else Q4))=Q3 then Q1 (.inr (.tup [.int .i64 0,.int .i64 5],[]))else Q1 (.inr (.tup [.int .i64 1,.int .i64 0],[])))else Q2)else Q2:=rfl
    rw[e2,zl,zl,c1,c2,g1,g2];generalize zL M a cols=t;generalize zL M b cols=u;rcases zF (t.2!=0)with k1|k1<;>rcases zF (u.2!=0)with k2|k2<;>rcases zF (t.1!=0)with k3|k3<;>rcases zF (u.1!=0)with k4|k4<;>rcases zF (t.1!=1)with k5|k5<;>rcases zF (u.1!=1)with k6|k6<;>(simp only[k1,k2,k3,k4,k5,k6,ay,aN,if_true,if_false,zG,fa,jI];rfl)
theorem sm(c:UInt8)(s old:zB):Lib.index (c::s) old=if old.isPrefixOf (c::s)=Q3 then 0 else if Lib.index s old=-1 then -1 else Lib.index s old+1:=by
 rw[Lib.index];simp only[aZ]
theorem wu{s old new:zB}(hne:(old==new)=Q4)(h:Lib.index s old=-1):Lib.replaceAll s old new=s:=by
 unfold Lib.replaceAll Lib.replace Lib.replaceNum;rw[hne,if_pos (Or.inl (by decide)),Lib.count_miss h];rfl
theorem B7{s old new:zB}{i:Nat}(h0:old≠[])(hne:(old==new)=Q4)(h:Lib.index s old=i):Lib.replaceAll s old new=s.take i++new++Lib.replaceAll (s.drop (i+old.length)) old new:=by
 unfold Lib.replaceAll Lib.replace Lib.replaceNum;rw[hne,if_pos (Or.inl (by decide)),if_pos (Or.inl (by decide)),Lib.count_hit h0 h,nL 1];exact Lib.replaceK_hit old new _ s i h
theorem B8{old new:zB}(h0:old≠[])(hne:(old==new)=Q4):Lib.replaceAll [] old new=[]:=by
 refine wu hne ?_;cases old with
 |nil=>exact absurd rfl h0
 |cons a l=>rfl
theorem Jz{c:UInt8}{s old new:zB}(h0:old≠[])(hne:(old==new)=Q4)(hp:old.isPrefixOf (c::s)=Q3):Lib.replaceAll (c::s) old new=new++Lib.replaceAll ((c::s).drop old.length) old new:=by
 have:=B7 (i:=0) h0 hne (s:=c::s) (by rw[sm,if_pos hp];rfl);simpa using this
theorem E1{c:UInt8}{s old new:zB}(h0:old≠[])(hne:(old==new)=Q4)(hp:old.isPrefixOf (c::s)=Q4):Lib.replaceAll (c::s) old new=c::Lib.replaceAll s old new:=by
 by_cases h:Lib.index s old=-1
 ·rw[wu hne h,wu hne (by rw[sm,if_neg (by simp[hp]),if_pos h])]
 ·obtain⟨i,hi⟩:∃i:Nat,Lib.index s old=i:=⟨(Lib.index s old).toNat,by have:=Lib.index_ge s old;omega⟩;rw[B7 h0 hne hi,B7 (i:=i+1) h0 hne (by rw[sm,if_neg (by simp[hp]),if_neg h,hi];simp)];simp[Nat.add_right_comm]
theorem S2{c a:UInt8}{r l:zB}(h:c≠a):(a::l).isPrefixOf (c::r)=Q4:=by
 rw[List.isPrefixOf,bN.2 (Ne.symm h)];rfl
def km:zB->zB
 |[]=>[]
 |c::r=>if c=39 then 39::39::km r else c::km r
theorem B6:∀s:zB,Lib.replaceAll s [39] [39,39]=km s
 |[]=>B8 sw rfl
 | c::r=>by
  rw[km];split
  ·rename_i h;subst h;rw[Jz sw rfl sw];simp[B6 r]
  ·rename_i h;rw[E1 sw rfl (S2 h),B6 r]
def eO:zB->Option (zB×Nat)
 |[]=>Q2
 |[c]=>if c=39 then Q1 ([],1)else Q2
 |c::d::r=>if c=39 then(if d=39 then(eO r).map λx=>(39::x.1,x.2+2)else Q1 ([],1))else(eO (d::r)).map λx=>(c::x.1,x.2+1)
theorem qG:∀(n:Nat)(s t:zB)(k:Nat),s.length<=n->eO s=Q1 (t,k)->1<=k/\k<=s.length/\Lib.replaceAll (s.take (k-1)) [39,39] [39]=t
 |_,[],_,_,_,h=>by simp[eO]at h
 | _,[c],t,k,_,h=>by
  rw[eO]at h;split at h
  ·simp at h;obtain⟨rfl,rfl⟩:=h;exact⟨sw,sw,by simpa using B8 sw rfl⟩
  ·simp at h
 |0,_::_::_,_,_,hn,_=>by simp at hn
 | n+1,c::d::r,t,k,hn,h=>by
  rw[eO]at h;split at h
  ·rename_i hc;split at h
   ·rename_i hd;simp only[dZ]at h;obtain⟨⟨t',k'⟩,h1,h2⟩:=h;simp only[cr]at h2;obtain⟨rfl,rfl⟩:=h2;obtain⟨a1,a2,a3⟩:=qG n r t' k' (by simp at hn;omega) h1;refine⟨ow,sg,?_⟩;subst hc;subst hd;rw[show k'+2-1=(k'-1)+2 by omega,List.take_succ_cons,List.take_succ_cons,Jz sw rfl sw];simp[a3]
   ·simp at h;obtain⟨rfl,rfl⟩:=h;exact⟨sw,sw,by simpa using B8 sw rfl⟩
  ·rename_i hc;simp only[dZ]at h;obtain⟨⟨t',k'⟩,h1,h2⟩:=h;simp only[cr]at h2;obtain⟨rfl,rfl⟩:=h2;obtain⟨a1,a2,a3⟩:=qG n (d::r) t' k' (by simp at hn⊢;omega) h1;refine⟨ow,by simp at a2⊢;omega,?_⟩;rw[show k'+1-1=(k'-1)+1 by omega,List.take_succ_cons,E1 sw rfl (S2 hc),a3]
theorem E5{c:UInt8}(hc:c≠39):∀r:zB,eO (c::r)=(eO r).map λx=>(c::x.1,x.2+1)
 |[]=>by simp[eO,hc]
 |d::r=>by rw[eO,if_neg hc]
theorem JG(r:zB):eO (39::39::r)=(eO r).map λx=>(39::x.1,x.2+2):=by
 rw[eO,if_pos rfl,if_pos rfl]
theorem Co:∀r:zB,r.head?≠Q1 39->eO (39::r)=Q1 ([],1)
 |[],_=>by rw[eO,if_pos rfl]
 |d::r,h=>by rw[eO,if_pos rfl,if_neg (by simpa using h)]
theorem bY(s:zB){i:Nat}(h:i<s.length):s.getD ((i:Int).toNat) 0=s[i]:=by
 rw[aJ,ba,zR h,dq]
theorem qT{c:UInt8}:((c.toNat:Int)==39)=Q3↔c=39:=by
 rw[aZ];constructor
 ·intro h;exact UInt8.toNat_inj.1 (by show c.toNat=39;omega)
 ·rintro rfl;rfl
theorem pk:∀(n:Nat)(s:zB)(i:Nat)(a:Int)(b:zB),1<=i->i<=s.length->s.length+2<=n+i->s.length<=1000000000->
  eL n s (i:Int) a b=(match eO (s.drop i)with
   |none=>((0,[]),0)
   |some x=>((3,Lib.replaceAll (List.take (i+x.2-2) (List.drop 1 s)) [39,39] [39]),((i+x.2:Nat):Int)))
 |0,s,i,a,b,h1,h2,h3,h4=>by omega
 | n + 1,s,i,a,b,h1,h2,h3,h4=>by
  rw[eL];by_cases hi:i<s.length
  ·rw[if_pos (zt (show(i:Int)<(s.length:Int) by omega)),bY s hi,pC i ow,fk hi];by_cases hq:s[i]=39
   ·rw[if_neg (by simp[bne,qT.2 hq]),hq];by_cases hj:i+1<s.length
    ·rw[fk hj,bY s hj,zt (show((i+1:Nat):Int)<(s.length:Int) by omega)];by_cases hq2:s[i+1]=39
     ·rw[if_pos (by simpa using qT.2 hq2),pC (i+1) ow,pk n s (i+1+1) a b ow ow ow h4,hq2,JG];cases eO (s.drop (i+1+1))with
      |none=>rfl
      | some x=>
       simp only[DE];rw[show i+1+1+x.2=i+(x.2+2) by omega]
     ·rw[if_neg (by simpa using λh=>hq2 (qT.1 (by simpa using h))),Co _ (by rw[List.head?_cons];exact λh=>hq2 (Option.some.inj h))];simp
    ·rw[Aa (by omega:s.length<=i+1),af (show¬((i+1:Nat):Int)<(s.length:Int) by omega),Co _ sw];simp
   ·rw[if_pos (by simpa[bne]using λh=>hq (qT.1 (by simpa using h))),E5 hq,pk n s (i+1) a b ow ow ow h4];cases eO (s.drop (i+1))with
    |none=>rfl
    | some x=>
     simp only[DE];rw[show i+1+x.2=i+(x.2+1) by omega]
  ·rw[if_neg sg,Aa ow];rfl
def oN(c:UInt8)(r:zB):Sem bW×Nat:=
 if aH c.toNat=Q3 then((1,(c::r).take (cG bt r+1)),cG bt r+1)
 else if zU c.toNat=Q3 then((2,(c::r).take (cG zU r+1)),cG zU r+1)
 else if c=39 then(match eO r with|none=>((0,[]),0)|some x=>((3,x.1),x.2+1))
 else((4,[c]),1)
theorem vO(c:UInt8)(r:zB)(hl:(c::r).length<=1000000000):bA (c::r)=((oN c r).1,((oN c r).2:Int)):=by
 have e1:aK aH bt (c::r)=if aH c.toNat=Q3 then cG bt r+1 else 0:=rfl
 have e2:aK zU zU (c::r)=if zU c.toNat=Q3 then cG zU r+1 else 0:=rfl
 unfold bA oN;by_cases h1:aH c.toNat=Q3
 ·rw[if_pos h1]at e1;simp[e1,h1]
 ·rw[if_neg h1]at e1;by_cases h2:zU c.toNat=Q3
  ·rw[if_pos h2]at e2;simp[e1,e2,h1,h2]
  ·rw[if_neg h2]at e2;by_cases h3:c=39
   ·have hq:=pk ((c::r).length+1) (c::r) 1 0 [] ow sw ow hl;have hqq:dR (c::r)=_:=hq;subst h3;have l39:aH 39=Q4:=rfl;have d39:zU 39=Q4:=rfl;cases hs:eO r with
    | none=>
     simp only[List.drop_succ_cons,List.drop_zero,hs]at hqq;simp[e1,e2,l39,d39,hqq]
    | some x=>
     obtain⟨k1,k2,k3⟩:=qG r.length r x.1 x.2 (aB _) hs;simp only[List.drop_succ_cons,List.drop_zero,hs]at hqq;rw[show 1+x.2-2=x.2-1 by omega,k3,nL 1]at hqq;simp[e1,e2,l39,d39,hqq]
   ·have h4:¬(c.toNat:Int)=39:=λh=>h3 (qT.1 (by simpa using h))
    simp[e1,e2,h1,h2,h3,h4]
def uZ:Nat->zB->Nat->Bool
 |0,_,_=>Q4
 |_+1,[],k=>Q0 (k<=400)
 | n+1,c::r,k=>
  if(bif (c.toNat:Int)==32 then Q3 else(c.toNat:Int)==10)=Q3 then uZ n r k
  else if bZ (oN c r).1=Q3 then uZ n ((c::r).drop (oN c r).2) (k+1)else Q4
theorem vd:∀(n:Nat)(s:zB)(k:Nat),400<k->uZ n s k=Q4
 |0,_,_,_=>rfl
 |_+1,[],k,h=>by rw[uZ];exact af ow
 | n+1,c::r,k,h=>by
  rw[uZ];split
  ·exact vd n r k h
  ·split
   ·exact vd n _ (k+1) ow
   ·rfl
theorem Aq:∀(n:Nat)(s:zB)(i:Nat)(l:List (Sem zr)),i<=s.length->s.length+1<=n+i->s.length<=1000000000->l.length<=400->((ta n s (i:Int) l).2==(0:Int))=uZ n (s.drop i) l.length
 |0,s,i,l,h1,h2,h3,h4=>by omega
 | n + 1,s,i,l,h1,h2,h3,h4=>by
  rw[ta];by_cases hlt:i<s.length
  ·have e1:List.take ((s.length:Int).toNat-(i:Int).toNat) (List.drop (i:Int).toNat s)=s.drop i:=by
    simp only[aJ];exact L4 sw
   have hdl:(s.drop i).length<=1000000000:=by simp;omega
   rw[if_pos (zt (show(i:Int)<(s.length:Int) by omega)),e1,bY s hlt,pC i ow];rw[fk hlt]at hdl⊢;rw[uZ];split
   ·exact Aq n s (i+1) l ow ow h3 h4
   ·rw[vO _ _ hdl];simp only;by_cases hm:bZ (oN s[i] (s.drop (i+1))).1=Q3
    ·rw[if_pos hm];by_cases h5:l.length=400
     ·rw[if_pos (by rw[hm,h5];rfl),h5,vd n _ _ ow];rfl
     ·rw[if_neg (by rw[hm];simp;omega)];have hm':bZ (bA (s[i]::s.drop (i+1))).1=Q3:=by rw[vO _ _ hdl];exact hm
      obtain⟨k,hk,hk1,hk2⟩:=uJ _ (List.cons_ne_nil _ _) hdl hm';rw[vO _ _ hdl]at hk;have hk:(oN s[i] (s.drop (i+1))).2=k:=Int.ofNat.inj hk;have hk3:k<=s.length-i:=by rw[<-fk hlt]at hk2;simpa using hk2
      rw[hk,show((i:Int)+(k:Int))=((i+k:Nat):Int) by omega,TU (i+k) ow,Aq n s (i+k) _ ow ow h3 sg,<-fk hlt,DF];simp
    ·rw[if_neg hm,if_pos (by simp[hm])];rfl
  ·rw[if_neg sg,Aa ow];rw[uZ];exact(zt h4).symm
theorem P7(m:Nat):iG [IntKind.u8.wrap (IntKind.i64.wrap (48-IntKind.i64.wrap (Int.tmod (-(m:Int)) 10)))]=[UInt8.ofNat (48+m%10)]:=by
 have e1:Int.tmod (-(m:Int)) 10=-((m%10:Nat):Int):=by rw[Int.neg_tmod];rfl
 have hlt:m%10<10:=Nat.mod_lt _ ow;have e2:IntKind.i64.wrap (-((m%10:Nat):Int))=-((m%10:Nat):Int):=by rw[fM];omega
 have e3:IntKind.i64.wrap (48- -((m%10:Nat):Int))=((48+m%10:Nat):Int):=by rw[fM];omega
 have e4:IntKind.u8.wrap ((48+m%10:Nat):Int)=((48+m%10:Nat):Int):=by rw[IntKind.wrap_u8];omega
 rw[e1,e2,e3,e4];rfl
theorem Vq(m:Nat)(h:m<=9223372036854775808):IntKind.i64.wrap (Int.tdiv (-(m:Int)) 10)=-((m/10:Nat):Int):=by
 have e1:Int.tdiv (-(m:Int)) 10=-((m/10:Nat):Int):=by rw[Int.neg_tdiv];rfl
 have:m/10<=m:=Nat.div_le_self _ _;rw[e1,fM];omega
theorem P6:∀(f m:Nat)(s:zB),m<10^f->0<f->m<=9223372036854775808->(0<m\/s=[])->s.length+f<=1000->zT CA (f+1) (.h2 (-(m:Int)) s) (.str (mT f m++s),[])
 |0,_,_,_,h,_,_,_=>by omega
 | f+1,m,s,hm,_,hb,h0,hs=>by
  have hv:(CA (.h2 (-(m:Int)) s)).val=Q1 (.inl (.h2 (-((m/10:Nat):Int)) ([UInt8.ofNat (48+m%10)]++s))):=by
   show(CA (.h2 _ _)).val=_;have c:(bif Q0 (LT.lt (α:=Int) (-(m:Int)) 0)then Q3 else s==[])=Q3:=by
    rcases h0 with h|h
    ·rw[zt ow];rfl
    ·subst h;cases Q0 (LT.lt (α:=Int) (-(m:Int)) 0)<;>rfl
   simp only[CA,Q8,P7 m,Vq m hb,if_true];rw[if_pos c,if_pos (zt sg)]
  by_cases h10:m<10
  ·have e0:m/10=0:=by omega
   have e1:m%10=m:=by omega
   rw[e0,e1]at hv;have hd:mT (f+1) m=[UInt8.ofNat (48+m)]:=by rw[mT,if_pos h10]
   rw[hd];refine((zQ.of hv).ends (k:=1) (zT.of ?_)).mono ow;show(CA (.h2 _ _)).val=_;simp[CA,Q8]
  ·have hf:0<f:=by
    cases f with
    |zero=>simp at hm;omega
    |succ f=>omega
   have:=P6 f (m/10) ([UInt8.ofNat (48+m%10)]++s) (by rw[Ah]at hm;omega) hf ow (.inl ow) sg;have hd:mT (f+1) m=mT f (m/10)++[UInt8.ofNat (48+m%10)]:=by rw[mT,if_neg h10]
   rw[hd,Af];exact(zQ.of hv).ends this
theorem xp{m:Nat}(h:m<=9223372036854775808):qh (-(m:Int))=Q1 (mT 20 m,()):=by
 refine zx (s:=.h2 (-(m:Int)) []) rfl (P6 20 m [] ow ow h (.inr rfl) sw) ow ?_;rw[wN];rfl
theorem Av:∀s:zB,(km s).length<=2*s.length
 |[]=>by simp[km]
 | c::r=>by
  have:=Av r;rw[km];split<;>simp<;>omega
theorem DL(c:UInt8):∀s:zB,km (s++[c])=km s++(if c=39 then[39,39]else[c])
 | []=>by
  show km [c]=_;rw[km,km,km];split<;>rfl
 | d::r=>by
  have:=DL c r;show km (d::(r++[c]))=_;rw[km,km,this];split<;>rfl
theorem Y5{α:Type}{l:List α}{i:Nat}(h:i<l.length):l.take (i+1)=l.take i++[l[i]]:=by
 rw[List.take_add_one,zR h];rfl
theorem zcB{v:Sem zf}(hl:v.2.2.length<=1000000):zT uD (v.2.2.length*1+1) (.h13 [39] 0 (v,())) (.str ([39]++km v.2.2++[39]),[]):=by
 have hg:=zQ.all (t:=uD) 1 (λi=>.h13 ([39]++km (v.2.2.take i)) (i:Int) (v,())) v.2.2.length (by
  intro i hi;refine zQ.of ?_;have hd:=Av (v.2.2.take i);have hd2:(km (v.2.2.take i)).length<=2000000:=by simp at hd;omega
  have w1:IntKind.i64.wrap ((i:Int)+1)=((i+1:Nat):Int):=zp i um;have g1:(Q0 (0<=(i:Int))&&Q0 ((i:Int)<=((i+1:Nat):Int))&&Q0 (((i+1:Nat):Int)<=(↑(length v.2.2):Int)))=Q3:=by simp;omega
  have ht:List.take (((i+1:Nat):Int).toNat-(i:Int).toNat) (List.drop (i:Int).toNat v.2.2)=[v.2.2[i]]:=by
   rw[aJ,aJ,show i+1-i=1 by omega,fk hi];rfl
  show(uD (.h13 _ _ _)).val=_;simp only[uD,Q8,w1,g1,ht,zH hi,zu hi,if_true,bY v.2.2 hi];rw[Y5 hi,DL,if_pos (zt sg)];by_cases h:v.2.2[i]=39
  ·rw[if_pos (qT.2 h),if_pos h,if_pos (zt sg),h];simp
  ·rw[if_neg (λh2=>h (qT.1 h2)),if_neg h];simp)
 have hd:=Av v.2.2;have hv:(uD (.h13 ([39]++km (v.2.2.take v.2.2.length)) (v.2.2.length:Int) (v,()))).val=Q1 (.inr (.str ([39]++km v.2.2++[39]),[])):=by
  show(uD (.h13 _ _ _)).val=_;simp only[uD,Q8,zA,ji];simp;omega
 have:=hg.ends (zT.of hv);rw[nL]at this;exact this
theorem Wy{v:Sem zf}(hm:aW v=Q3)(h0:v.1≠(0:Int))(h1:v.1≠(1:Int))(h2:v.1≠(2:Int)):(v.1==3)=Q3/\((dO v==2)=(v.2.1==1)):=by
 have b0:(v.1==0)=Q4:=bN.2 h0;have b1:(v.1==1)=Q4:=bN.2 h1;have b2:(v.1==2)=Q4:=bN.2 h2;have hm2:=hm;unfold aW at hm;rw[b0,b1,b2]at hm;simp only[zG,if_false]at hm;cases b3:(v.1==3)
 ·rw[b3]at hm;simp at hm
 ·rw[b3]at hm;refine⟨rfl,?_⟩;have h01:v.2.1=(0:Int)\/v.2.1=(1:Int):=by
   simp at hm;by_cases k:v.2.1=(0:Int)
   ·exact .inl k
   ·by_cases k2:v.2.1=(1:Int)
    ·exact .inr k2
    ·simp[k,k2]at hm
  unfold dO;rw[show(v.1!=3)=Q4 by simp[bne,b3],hm2];rcases h01 with h|h<;>rw[h]<;>rfl
theorem EN{v:Sem zf}(hv:lK v):ym v=Q1 (gW v,()):=by
 obtain⟨hlo,hhi,hlen⟩:=hv;have hMC:=kH (v:=v) hlen;have hM:=nj (v:=v) hlen;by_cases hm:aW v=Q3
 ·have hn:(!aW v)=Q4:=by rw[hm];rfl
  by_cases h0:v.1=(0:Int)
  ·have b0:(v.1==0)=Q3:=aZ.2 h0;refine zN (r:=(.str [78,85,76,76],[])) ?_ ?_
   ·simp only[xf,Q8,hMC,hM,hn,b0,if_true];rfl
   ·unfold gW;rw[h0,hm];rfl
  have b0:(v.1==0)=Q4:=bN.2 h0;by_cases h1:v.1=(1:Int)
  ·have b1:(v.1==1)=Q3:=aZ.2 h1;have ht:gW v=ro v.2.1:=by
    unfold gW;rw[hn,if_neg sw,if_pos b1]
   rw[ht];unfold ro;by_cases hneg:LT.lt (α:=Int) v.2.1 0
   ·have hd:=xp (m:=v.2.1.natAbs) ow;rw[show -((v.2.1.natAbs:Nat):Int)=v.2.1 by omega]at hd;have c1:j7 v.2.1=Q3:=by unfold j7;rw[hd];rfl
    have c2:kJ v.2.1=mT 20 v.2.1.natAbs:=by unfold kJ;rw[hd];rfl
    have hdl:=Au 20 v.2.1.natAbs;rw[if_pos hneg];refine zN (r:=(.str ([45]++mT 20 v.2.1.natAbs),[])) ?_ rfl;simp only[xf,Q8,hMC,hM,hn,b0,b1,zt hneg,c1,c2,if_true];rw[if_neg sw,if_neg sw,if_pos (zt sg)]
   ·have hd:=xp (m:=v.2.1.natAbs) ow;have hw:IntKind.i64.wrap (0-v.2.1)=-((v.2.1.natAbs:Nat):Int):=by rw[fM];omega
    have c1:j7 (-((v.2.1.natAbs:Nat):Int))=Q3:=by unfold j7;rw[hd];rfl
    have c2:kJ (-((v.2.1.natAbs:Nat):Int))=mT 20 v.2.1.natAbs:=by unfold kJ;rw[hd];rfl
    rw[if_neg hneg];refine zN (r:=(.str (mT 20 v.2.1.natAbs),[])) ?_ rfl;simp only[xf,Q8,hMC,hM,hn,b0,b1,af hneg,hw,c1,c2,if_true];rw[if_neg sw,if_neg sw,if_neg sw]
  have b1:(v.1==1)=Q4:=bN.2 h1;by_cases h2:v.1=(2:Int)
  ·have b2:(v.1==2)=Q3:=aZ.2 h2;have ht:gW v=[39]++km v.2.2++[39]:=by
    unfold gW;rw[hn,if_neg sw,if_neg (by rw[b1];simp),if_pos b2,B6]
   rw[ht];have hg:zT uD (v.2.2.length*1+1) (.h13 [39] 0 (v,())) (.str ([39]++km v.2.2++[39]),[]):=zcB (v:=v) hlen;refine zx (s:=.h13 [39] 0 (v,())) ?_ hg ow rfl;simp only[xf,Q8,hMC,hM,hn,b0,b1,b2,if_true];rfl
  ·have b2:(v.1==2)=Q4:=bN.2 h2;obtain⟨b3,hs⟩:=Wy hm h0 h1 h2;have ht:gW v=if(v.2.1==1)=Q3 then[84,82,85,69]else[70,65,76,83,69]:=by
    unfold gW;rw[hn,if_neg sw,if_neg (by rw[b1];simp),if_neg (by rw[b2];simp),if_pos b3,hs]
   rw[ht];by_cases h3:(v.2.1==1)=Q3
   ·rw[if_pos h3];refine zN (r:=(.str [84,82,85,69],[])) ?_ rfl;simp only[xf,Q8,hMC,hM,hn,b0,b1,b2,h3,if_true];rfl
   ·rw[if_neg h3];refine zN (r:=(.str [70,65,76,83,69],[])) ?_ rfl;have h3:(v.2.1==1)=Q4:=by simpa using h3
    simp only[xf,Q8,hMC,hM,hn,b0,b1,b2,h3,if_true];rfl
 ·have hm:aW v=Q4:=by simpa using hm
  refine zN (r:=(.str [],[])) ?_ ?_
  ·simp only[xf,Q8,hMC,hM,hm,if_true];rfl
  ·unfold gW;rw[hm];rfl
theorem EM{v:Sem zf}(hv:lK v):tW v=Q3:=by unfold tW;rw[EN hv];rfl
theorem Jb{v:Sem zf}(hv:lK v):BH v=gW v:=by unfold BH;rw[EN hv];rfl
theorem qo:∀(N d M:Nat)(e:ze),d<=12->d<=N->d<=M->cg d e=Q3->rH e->cB N e=Q1 (aO M e,())/\(aO M e).length<=400*nE d e
 |_,0,_,_,_,_,_,h,_=>by cases h
 |0,d+1,_,_,_,h,_,_,_=>absurd h ow
 |_,d+1,0,_,_,_,h,_,_=>absurd h ow
 | N+1,d+1,M+1,e,h0,h1,h2,h,hw=>by
  rw[cB];unfold M5;cases fu h with
  | lit v hv=>
   rw[rH]at hw;have ht:aO (M+1) (.mk [108,105,116] v [] [])=gW v:=rfl;have hl:=wE v;rw[ht];refine⟨zN (r:=(.str (gW v),[])) ?_ rfl,by simp[nE];omega⟩;have e2:(nO (λx0=>ij (cB N x0)) (λx0=>(cB N x0).isSome) (.mk [108,105,116] v [] [])).val=if tW v=Q3 then Q1 (.inr (.str (BH v),[]))else Q2:=rfl
   rw[e2,EM hw.1,Jb hw.1];rfl
  | col s hs hr=>
   have hl:=Fc hs;have ht:aO (M+1) (.mk [99,111,108] (0,0,[]) s [])=s:=rfl;rw[ht];exact⟨zN (r:=(.str s,[])) rfl rfl,by simp[nE];omega⟩
  | one op a ho ha=>
   rw[rH,jL]at hw;obtain⟨ka,la⟩:=qo N d M a ow ow ow ha hw.2.2.1;have hb:=rr d a ha;have p1:2^d<=2^12:=Dx ow ow;have hn:nE (d+1) (.mk op (0,0,[]) [] [a])=1+nE d a:=by simp[nE]
   rw[hn];generalize hg:(λx0=>ij (cB N x0))=g;generalize hc:(λx0=>(cB N x0).isSome)=c;have g1:g a=aO M a:=by rw[<-hg];show ij (cB N a)=_;rw[ka];rfl
   have c1:c a=Q3:=by rw[<-hc];show(cB N a).isSome=_;rw[ka];rfl
   rcases ho with rfl|rfl
   ·have ht:aO (M+1) (.mk [110,111,116] (0,0,[]) [] [a])=[40,78,79,84,32]++aO M a++[41]:=rfl;rw[ht];refine⟨zN (r:=(.str ([40,78,79,84,32]++aO M a++[41]),[])) ?_ rfl,sg⟩;have e2:(nO g c (.mk [110,111,116] (0,0,[]) [] [a])).val=if c (zm a)=Q3 then(if Q0 ([40,78,79,84,32].length+length (g (zm a))<=1099511627776)=Q3 then(if Q0 (([40,78,79,84,32]++g (zm a)).length+[41].length<=1099511627776)=Q3 then Q1 (.inr (.str ([40,78,79,84,32]++g (zm a)++[41]),[]))else Q2)else Q2)else Q2:=rfl
    rw[e2,zl,c1,g1,if_pos rfl,if_pos (zt sg),if_pos (zt sg)]
   ·have ht:aO (M+1) (.mk [110,117,108,108] (0,0,[]) [] [a])=[40]++aO M a++[32,73,83,32,78,85,76,76,41]:=rfl;rw[ht];refine⟨zN (r:=(.str ([40]++aO M a++[32,73,83,32,78,85,76,76,41]),[])) ?_ rfl,sg⟩;have e2:(nO g c (.mk [110,117,108,108] (0,0,[]) [] [a])).val=if c (zm a)=Q3 then(if Q0 ([40].length+length (g (zm a))<=1099511627776)=Q3 then(if Q0 (([40]++g (zm a)).length+[32,73,83,32,78,85,76,76,41].length<=1099511627776)=Q3 then Q1 (.inr (.str ([40]++g (zm a)++[32,73,83,32,78,85,76,76,41]),[]))else Q2)else Q2)else Q2:=rfl
    rw[e2,zl,c1,g1,if_pos rfl,if_pos (zt sg),if_pos (zt sg)]
  | two op a b ho ha hb=>
   rw[rH,jL,jL]at hw;obtain⟨ka,la⟩:=qo N d M a ow ow ow ha hw.2.2.1;obtain⟨kb,lb⟩:=qo N d M b ow ow ow hb hw.2.2.2.1;have ha2:=rr d a ha;have hb2:=rr d b hb;have p1:2^d<=2^12:=Dx ow ow;have hn:nE (d+1) (.mk op (0,0,[]) [] [a,b])=1+(nE d a+nE d b):=by simp[nE]
   rw[hn];generalize hg:(λx0=>ij (cB N x0))=g;generalize hc:(λx0=>(cB N x0).isSome)=c;have g1:g a=aO M a:=by rw[<-hg];show ij (cB N a)=_;rw[ka];rfl
   have c1:c a=Q3:=by rw[<-hc];show(cB N a).isSome=_;rw[ka];rfl
   have g2:g b=aO M b:=by rw[<-hg];show ij (cB N b)=_;rw[kb];rfl
   have c2:c b=Q3:=by rw[<-hc];show(cB N b).isSome=_;rw[kb];rfl
   have ht:∀w:zB,Lib.toUpperA op=w->rT (aO M) (gu M) (.mk op (0,0,[]) [] [a,b])=[40]++aO M a++[32]++w++[32]++aO M b++[41]:=by
    rintro w rfl;rcases ho with rfl|rfl|rfl|rfl|rfl|rfl<;>rfl
   have hx:aO (M+1) (.mk op (0,0,[]) [] [a,b])=rT (aO M) (gu M) (.mk op (0,0,[]) [] [a,b]):=rfl;rw[hx];rcases ho with rfl|rfl|rfl|rfl|rfl|rfl
   ·rw[ht [65,78,68] rfl];refine⟨zN (r:=(.str ([40]++aO M a++[32,65,78,68,32]++aO M b++[41]),[])) ?_ (by simp[aL];rfl),sg⟩;have e2:(nO g c (.mk [97,110,100] (0,0,[]) [] [a,b])).val=if c (zm a)=Q3 then(if Q0 ([40].length+length (g (zm a))<=1099511627776)=Q3 then(if Q0 (([40]++g (zm a)).length+[32,65,78,68,32].length<=1099511627776)=Q3 then(if c (zm b)=Q3 then(if Q0 (([40]++g (zm a)++[32,65,78,68,32]).length+length (g (zm b))<=1099511627776)=Q3 then(if Q0 (([40]++g (zm a)++[32,65,78,68,32]++g (zm b)).length+[41].length<=1099511627776)=Q3 then Q1 (.inr (.str ([40]++g (zm a)++[32,65,78,68,32]++g (zm b)++[41]),[]))else Q2)else Q2)else Q2)else Q2)else Q2)else Q2:=rfl
    rw[e2,zl,zl,c1,c2,g1,g2,if_pos rfl,if_pos (zt sg),if_pos (zt sg),if_pos rfl,if_pos (zt sg),if_pos (zt sg)]
   ·rw[ht [79,82] rfl];refine⟨zN (r:=(.str ([40]++aO M a++[32,79,82,32]++aO M b++[41]),[])) ?_ (by simp[aL];rfl),sg⟩;have e2:(nO g c (.mk [111,114] (0,0,[]) [] [a,b])).val=if c (zm a)=Q3 then(if Q0 ([40].length+length (g (zm a))<=1099511627776)=Q3 then(if Q0 (([40]++g (zm a)).length+[32,79,82,32].length<=1099511627776)=Q3 then(if c (zm b)=Q3 then(if Q0 (([40]++g (zm a)++[32,79,82,32]).length+length (g (zm b))<=1099511627776)=Q3 then(if Q0 (([40]++g (zm a)++[32,79,82,32]++g (zm b)).length+[41].length<=1099511627776)=Q3 then Q1 (.inr (.str ([40]++g (zm a)++[32,79,82,32]++g (zm b)++[41]),[]))else Q2)else Q2)else Q2)else Q2)else Q2)else Q2:=rfl
    rw[e2,zl,zl,c1,c2,g1,g2,if_pos rfl,if_pos (zt sg),if_pos (zt sg),if_pos rfl,if_pos (zt sg),if_pos (zt sg)]
   ·rw[ht [61] rfl];refine⟨zN (r:=(.str ([40]++aO M a++[32]++[61]++[32]++aO M b++[41]),[])) ?_ rfl,sg⟩;have e2:(nO g c (.mk [61] (0,0,[]) [] [a,b])).val=if c (zm a)=Q3 then(if Q0 ([40].length+length (g (zm a))<=1099511627776)=Q3 then(if Q0 (([40]++g (zm a)).length+[32].length<=1099511627776)=Q3 then(if Q0 (([40]++g (zm a)++[32]).length+length [61]<=1099511627776)=Q3 then(if Q0 (([40]++g (zm a)++[32]++[61]).length+[32].length<=1099511627776)=Q3 then(if c (zm b)=Q3 then(if Q0 (([40]++g (zm a)++[32]++[61]++[32]).length+length (g (zm b))<=1099511627776)=Q3 then(if Q0 (([40]++g (zm a)++[32]++[61]++[32]++g (zm b)).length+[41].length<=1099511627776)=Q3 then Q1 (.inr (.str ([40]++g (zm a)++[32]++[61]++[32]++g (zm b)++[41]),[]))else Q2)else Q2)else Q2)else Q2)else Q2)else Q2)else Q2)else Q2:=rfl
    rw[e2,zl,zl,c1,c2,g1,g2,if_pos rfl,if_pos (zt sg),if_pos (zt sg),if_pos (zt sg),if_pos (zt sg),if_pos rfl,if_pos (zt sg),if_pos (zt sg)]
   ·rw[ht [60] rfl];refine⟨zN (r:=(.str ([40]++aO M a++[32]++[60]++[32]++aO M b++[41]),[])) ?_ rfl,sg⟩;have e2:(nO g c (.mk [60] (0,0,[]) [] [a,b])).val=if c (zm a)=Q3 then(if Q0 ([40].length+length (g (zm a))<=1099511627776)=Q3 then(if Q0 (([40]++g (zm a)).length+[32].length<=1099511627776)=Q3 then(if Q0 (([40]++g (zm a)++[32]).length+length [60]<=1099511627776)=Q3 then(if Q0 (([40]++g (zm a)++[32]++[60]).length+[32].length<=1099511627776)=Q3 then(if c (zm b)=Q3 then(if Q0 (([40]++g (zm a)++[32]++[60]++[32]).length+length (g (zm b))<=1099511627776)=Q3 then(if Q0 (([40]++g (zm a)++[32]++[60]++[32]++g (zm b)).length+[41].length<=1099511627776)=Q3 then Q1 (.inr (.str ([40]++g (zm a)++[32]++[60]++[32]++g (zm b)++[41]),[]))else Q2)else Q2)else Q2)else Q2)else Q2)else Q2)else Q2)else Q2:=rfl
    rw[e2,zl,zl,c1,c2,g1,g2,if_pos rfl,if_pos (zt sg),if_pos (zt sg),if_pos (zt sg),if_pos (zt sg),if_pos rfl,if_pos (zt sg),if_pos (zt sg)]
   ·rw[ht [43] rfl];refine⟨zN (r:=(.str ([40]++aO M a++[32]++[43]++[32]++aO M b++[41]),[])) ?_ rfl,sg⟩;have e2:(nO g c (.mk [43] (0,0,[]) [] [a,b])).val=if c (zm a)=Q3 then(if Q0 ([40].length+length (g (zm a))<=1099511627776)=Q3 then(if Q0 (([40]++g (zm a)).length+[32].length<=1099511627776)=Q3 then(if Q0 (([40]++g (zm a)++[32]).length+length [43]<=1099511627776)=Q3 then(if Q0 (([40]++g (zm a)++[32]++[43]).length+[32].length<=1099511627776)=Q3 then(if c (zm b)=Q3 then(if Q0 (([40]++g (zm a)++[32]++[43]++[32]).length+length (g (zm b))<=1099511627776)=Q3 then(if Q0 (([40]++g (zm a)++[32]++[43]++[32]++g (zm b)).length+[41].length<=1099511627776)=Q3 then Q1 (.inr (.str ([40]++g (zm a)++[32]++[43]++[32]++g (zm b)++[41]),[]))else Q2)else Q2)else Q2)else Q2)else Q2)else Q2)else Q2)else Q2:=rfl
    rw[e2,zl,zl,c1,c2,g1,g2,if_pos rfl,if_pos (zt sg),if_pos (zt sg),if_pos (zt sg),if_pos (zt sg),if_pos rfl,if_pos (zt sg),if_pos (zt sg)]
   ·rw[ht [45] rfl];refine⟨zN (r:=(.str ([40]++aO M a++[32]++[45]++[32]++aO M b++[41]),[])) ?_ rfl,sg⟩;have e2:(nO g c (.mk [45] (0,0,[]) [] [a,b])).val=if c (zm a)=Q3 then(if Q0 ([40].length+length (g (zm a))<=1099511627776)=Q3 then(if Q0 (([40]++g (zm a)).length+[32].length<=1099511627776)=Q3 then(if Q0 (([40]++g (zm a)++[32]).length+length [45]<=1099511627776)=Q3 then(if Q0 (([40]++g (zm a)++[32]++[45]).length+[32].length<=1099511627776)=Q3 then(if c (zm b)=Q3 then(if Q0 (([40]++g (zm a)++[32]++[45]++[32]).length+length (g (zm b))<=1099511627776)=Q3 then(if Q0 (([40]++g (zm a)++[32]++[45]++[32]++g (zm b)).length+[41].length<=1099511627776)=Q3 then Q1 (.inr (.str ([40]++g (zm a)++[32]++[45]++[32]++g (zm b)++[41]),[]))else Q2)else Q2)else Q2)else Q2)else Q2)else Q2)else Q2)else Q2:=rfl
    rw[e2,zl,zl,c1,c2,g1,g2,if_pos rfl,if_pos (zt sg),if_pos (zt sg),if_pos (zt sg),if_pos (zt sg),if_pos rfl,if_pos (zt sg),if_pos (zt sg)]
end Cad
