/- Bases from whose tables rows are taken. Names: total. The document's comparisons and sums are the program's. The document's names are the program's. -/
import Derived.Test.YtkmcdhahdadkpaaGreatDoorF13
import Derived.Test.YtkmcdhahdadkpaaGreatDoorF12
import Derived.Test.YtkmcdhahdadkpaaGreatDoorF11
namespace Cad
open Go Go.Proofs
open Tr renaming val→Q8
open Sh renaming expr→Q5
open Bool renaming false→Q4,true→Q3
open Option renaming none→Q2,some→Q1
open Decidable renaming decide→Q0
open Int (toNat)
open List (getD length)
open Tr (chk br re)
open AV (nils agg tup ptr kb str sl)
set_option maxHeartbeats 1000000
theorem gp:∀{a b c:zA},Op.bytesLess a b=Q3->Op.bytesLess b c=Q3->Op.bytesLess a c=Q3
 |_,[],_,h,_=>by cases‹zA›<;>simp[Op.bytesLess]at h
 |_,_::_,[],_,h=>by simp[Op.bytesLess]at h
 |[],_::_,_::_,_,_=>rfl
 | a::x,b::y,c::z,h,g=>by
  simp only[Op.bytesLess,lR,aN,aD,aX]at h g⊢;rcases h with h|⟨rfl,h⟩
  ·rcases g with g|⟨rfl,g⟩
   ·exact .inl (UInt8.lt_trans h g)
   ·exact .inl h
  ·rcases g with g|⟨rfl,g⟩
   ·exact .inl g
   ·exact .inr ⟨rfl,gp h g⟩
def Lx(p q:Int×Int×zA):Prop:=p.1<q.1\/(p.1=q.1/\(p.2.1<q.2.1\/(p.2.1=q.2.1/\Op.bytesLess p.2.2 q.2.2=Q3)))
theorem Lx.trans{p q r:Int×Int×zA}(h:Lx p q)(g:Lx q r):Lx p r:=by
 unfold Lx at*;rcases h with h|⟨h1,h|⟨h2,h⟩⟩<;>rcases g with g|⟨g1,g|⟨g2,g⟩⟩
 ·exact .inl ow
 ·exact .inl ow
 ·exact .inl ow
 ·exact .inl ow
 ·exact .inr ⟨ow,.inl ow⟩
 ·exact .inr ⟨ow,.inl ow⟩
 ·exact .inl ow
 ·exact .inr ⟨ow,.inl ow⟩
 ·exact .inr ⟨ow,.inr ⟨ow,gp h g⟩⟩
theorem Lx.irrefl{p:Int×Int×zA}:¬Lx p p:=by
 unfold Lx;rw[bH];rintro(h|⟨_,h|⟨_,h⟩⟩)
 ·omega
 ·omega
 ·cases h
theorem L6(a b:Int):rL a b=if a<b then -1 else if b<a then 1 else 0:=by
 show(if(a !=a)=Q3 then _ else if(b !=b)=Q3 then(1:Int)else if Q0 (a<b)=Q3 then -1 else if Q0 (a>b)=Q3 then 1 else 0)=_;simp
theorem PQ(a b:Int):kg a b=if a<b then -1 else if b<a then 1 else 0:=L6 a b
theorem Vd(a b:zA):(nS a b=-1/\Op.bytesLess a b=Q3)\/(nS a b=0/\a=b)\/(nS a b=1/\Op.bytesLess a b=Q4):=by
 have:nS a b=if Op.bytesLess a b=Q3 then -1 else if(!(Op.bytesLess a b||a==b))=Q3 then 1 else 0:=by
  show(if(!a==a)=Q3 then _ else if(!b==b)=Q3 then(1:Int)else if Op.bytesLess a b=Q3 then -1 else if(!(Op.bytesLess a b||a==b))=Q3 then 1 else 0)=_;simp
 rw[this];cases h:Op.bytesLess a b with
 |true=>exact .inl ⟨rfl,rfl⟩
 | false=>
  by_cases e:a=b
  ·exact .inr (.inl ⟨by simp[e],e⟩)
  ·exact .inr (.inr ⟨by simp[e],rfl⟩)
theorem zch(k n k' n':Int)(s s':zA):(FW [rL k k',kg n n',nS s s']<0)↔Lx (k,n,s) (k',n',s'):=by
 show _↔(k<k'\/(k=k'/\(n<n'\/(n=n'/\Op.bytesLess s s'=Q3))));rw[L6,PQ];simp only[FW];have irr:=bH s';rcases Ad k k' with h|h|h
 ·simp[h]
 ·subst h;rcases Ad n n' with g|g|g
  ·simp[g]
  ·subst g;rcases Vd s s' with⟨e,f⟩|⟨e,f⟩|⟨e,f⟩
   ·simp[e,f]
   ·subst f;simp[e,irr]
   ·simp[e,f]
  ·have:¬n<n':=by omega
   have:n≠n':=by omega
   simp[*]
 ·have:¬k<k':=by omega
  have:k≠k':=by omega
  simp[*]
theorem uO{a b:Sem zf}:xL a b↔Lx (ap a) (ap b):=zch (ap a).1 (ap a).2.1 (ap b).1 (ap b).2.1 (ap a).2.2 (ap b).2.2
theorem gT{a b c:Sem zf}(h:xL a b)(g:xL b c):xL a c:=uO.2 ((uO.1 h).trans (uO.1 g))
theorem iV{a:Sem zf}:¬xL a a:=λh=>Lx.irrefl (uO.1 h)
theorem ur{α:Type}{R:α->α->Prop}(ht:∀{a b c},R a b->R b c->R a c){d:α}:∀{l:List α},(∀i,i<l.length-1->R (l.getD i d) (l.getD (i+1) d))↔l.Pairwise R
 |[]=>by simp
 |[a]=>by simp
 | a::b::r=>by
  have IH:=ur (R:=R) ht (d:=d) (l:=b::r);constructor
  ·intro h;have h0:=h 0 sw;have h1:(b::r).Pairwise R:=IH.1 λi hi=>h (i+1) (by simp only[fi]at hi⊢;omega)
   refine List.pairwise_cons.2 ⟨λx hx=>?_,h1⟩;rcases ce.1 hx with rfl|hx
   ·exact h0
   ·exact ht h0 ((List.pairwise_cons.1 h1).1 x hx)
  ·intro h i hi;obtain⟨h0,h1⟩:=List.pairwise_cons.1 h;cases i with
   |zero=>exact h0 b sw
   |succ i=>exact IH.2 h1 i (by simp only[fi]at hi⊢;omega)
def kLt(k:Int)(a b:List (Sem zf)):Prop:=xL (ao k a) (ao k b)
theorem eJ.pw{x:Sem zh}(h:eJ x):x.2.Pairwise (kLt x.1.2.2.1):=(ur (R:=kLt x.1.2.2.1) gT).1 h.rise
theorem eJ.sub{t:Sem zo}{l l':List (List (Sem zf))}(h:eJ (t,l))(hs:List.Sublist l' l):eJ (t,l') where
 may:=h.may
 few:=cL hs.length_le h.few
 fits:=λr hr=>h.fits r (hs.subset hr)
 key:=List.Pairwise.sublist hs h.key
 uniq:=λu hu=>List.Pairwise.sublist hs (h.uniq u hu)
 rise:=(ur (R:=kLt t.2.2.1) gT).2 (List.Pairwise.sublist hs h.pw)
theorem Ew(db:List (Sem zh))(i:Nat):(db.getD i (zi zh)).1=(db.map (·.1)).getD i (zi zh).1:=by
 rw[aY,aY,eY];cases db[i]?<;>rfl
theorem R5{db:List (Sem zh)}{i:Nat}{x:Sem zh}(h:(db.getD i (zi zh)).1=x.1):(db.set i x).map (·.1)=db.map (·.1):=by
 rw[List.map_set];refine Du λj=>?_
 rw[wL];by_cases e:i=j
 ·subst e;rw[if_pos rfl];by_cases hi:i<(db.map (·.1)).length
  ·rw[if_pos hi,zQ hi,<-h];congr 1;have hi':i<db.length:=by simpa using hi
   rw[aY,zQ hi',List.getElem_map];rfl
  ·rw[if_neg hi,eX ow]
 ·rw[if_neg e]
theorem iF.put{db:List (Sem zh)}{i:Nat}{x:Sem zh}(h:iF db)(ht:(db.getD i (zi zh)).1=x.1)(hx:eJ x)(hb:Di (db.set i x)):iF (db.set i x) where
 few:=by rw[List.length_set];exact h.few
 names:=λj hj=>by
  rw[List.length_set]at hj;have:=h.names j hj;rw[Ew,Ew]at this⊢
  rwa [R5 ht]
 rels:=λy hy=>by
  rcases List.mem_or_eq_of_mem_set hy with hy|rfl
  ·exact h.rels y hy
  ·exact hx
 bound:=hb
theorem VK{c:Int}{l:List (List (Sem zf))}(h:l.Pairwise (kLt c)):(l.map (ao c)).Pairwise (·≠·):=by
 rw[List.pairwise_map];exact h.imp λ{a b} hab(e:ao c a=ao c b)=>iV (a:=ao c b) (by have:=hab;unfold kLt at this;rwa [e]at this)
theorem jv:∀{a b:zA},Op.bytesLess a b=Q4->a≠b->Op.bytesLess b a=Q3
 |[],[],_,h=>absurd rfl h
 |[],_::_,h,_=>by simp[Op.bytesLess]at h
 |_::_,[],_,_=>rfl
 | a::x,b::y,h,hn=>by
  simp only[Op.bytesLess,Bool.or_eq_false_iff,decide_eq_false_iff_not,Bool.and_eq_false_iff,bP,lR,aN,aD,aX]at h⊢;by_cases e:a=b
  ·subst e;refine .inr ⟨rfl,jv (h.2.resolve_left λg=>g rfl) λg=>hn (by rw[g])⟩
  ·exact .inl (UInt8.lt_of_le_of_ne (UInt8.not_lt.1 h.1) (Ne.symm e))
set_option maxHeartbeats 4000000
theorem K4{a b:Sem zf}(ha:a.2.2.length<=1000000)(hb:b.2.2.length<=1000000):BE a b=Q3:=by unfold BE;rw[BF ha hb];rfl
theorem OL{a b:Sem zf}(ha:a.2.2.length<=1000000)(hb:b.2.2.length<=1000000):Ga a b=cJ a b:=by unfold Ga;rw[BF ha hb];rfl
theorem S0(a b:Sem zf):F5 a b=Q3:=by unfold F5;rw[IX];rfl
theorem Wb(a b:Sem zf):EC a b=Df a b:=by unfold EC;rw[IX];rfl
theorem We(a b:Sem zf):MZ a b=Q3:=by unfold MZ;rw[M0];rfl
theorem zcm(a b:Sem zf):OK a b=TR a b:=by unfold OK;rw[M0];rfl
theorem S2(a:Sem zf):F9 a=Q3:=by unfold F9;rw[I0];rfl
theorem Wc(a:Sem zf):EE a=xM a:=by unfold EE;rw[I0];rfl
theorem BI{a b:Sem zf}(ha:a.2.2.length<=1000000)(hb:b.2.2.length<=1000000):o8 a b=Q1 (!eI a b,()):=by
 unfold o8 al cT;simp only[Yp,Q8,qe ha,qe hb,tX ha,tX hb,if_true,eI];generalize ap a=x;generalize ap b=y;obtain⟨k,n,s⟩:=x;obtain⟨k',n',s'⟩:=y;simp only;by_cases h:k=0
 ·subst h;rfl
 ·have e:(k==0)=Q4:=by simpa using h
  have e2:(k !=0)=Q3:=by simpa using h
  rw[e,e2];by_cases h':k'=0
  ·subst h';have e3:(k==0)=Q4:=e;simp[e3];rfl
  ·have e3:(k'==0)=Q4:=by simpa using h'
   rw[e3];rfl
theorem na{a b:Sem zf}(ha:a.2.2.length<=1000000)(hb:b.2.2.length<=1000000):mg a b=Q3:=by unfold mg;rw[BI ha hb];rfl
theorem qb{a b:Sem zf}(ha:a.2.2.length<=1000000)(hb:b.2.2.length<=1000000):qa a b=!eI a b:=by unfold qa;rw[BI ha hb];rfl
theorem iW(b:Bool):dd b=wB b:=by
 unfold dd wB;rw[kN,kO]
theorem BB{a b:Sem zf}(ha:a.2.2.length<=1000000)(hb:b.2.2.length<=1000000):oZ a b=Q1 (lL a b,()):=by
 unfold oZ al cT;simp only[Yl,Q8,na ha hb,qb ha hb,m8,gQ,if_true,lL,iW];cases eI a b<;>rfl
theorem K2{a b:Sem zf}(ha:a.2.2.length<=1000000)(hb:b.2.2.length<=1000000):tQ a b=Q3:=by unfold tQ;rw[BB ha hb];rfl
theorem OH{a b:Sem zf}(ha:a.2.2.length<=1000000)(hb:b.2.2.length<=1000000):pY a b=lL a b:=by unfold pY;rw[BB ha hb];rfl
theorem HA{a b:Sem zf}(h:eI a b=Q3):bd a=Q3/\bd b=Q3/\a.1=b.1/\a.1≠0/\ap a=a/\ap b=b:=by
 unfold eI ap at h;unfold ap;cases ha:bd a with
 |false=>simp[ha]at h
 | true=>
  cases hb:bd b with
  | false=>
   simp[ha,hb]at h
  | true=>
   simp[ha,hb]at h;exact⟨rfl,rfl,h.2,h.1,sw,sw⟩
theorem Ex{v:Sem zf}(h:bd v=Q3)(h0:v.1≠0):(v.1=1/\v.2.2=[])\/(v.1=2/\v.2.1=0)\/(v.1=3/\v.2.2=[]):=by
 obtain⟨k,n,s⟩:=v;unfold bd at h;simp only at h h0⊢;have e0:(k==0)=Q4:=by simpa using h0
 rw[e0]at h;by_cases h1:k=1
 ·subst h1;exact .inl ⟨rfl,by simpa using h⟩
 ·have e1:(k==1)=Q4:=by simpa using h1
  rw[e1]at h;by_cases h2:k=2
  ·subst h2;refine .inr (.inl ⟨rfl,?_⟩);simp at h;exact h.1
  ·have e2:(k==2)=Q4:=by simpa using h2
   rw[e2]at h;by_cases h3:k=3
   ·subst h3;refine .inr (.inr ⟨rfl,?_⟩);cases hn:(n==0)with
    |true=>simp[hn]at h;exact h
    |false=>simp[hn]at h;exact h.2
   ·have e3:(k==3)=Q4:=by simpa using h3
    rw[e3]at h;cases h
theorem VN(k n n':Int)(s s':zA)(hd:(s=[]/\s'=[])\/(n=0/\n'=0)):Q0 (FW [rL k k,kg n n',nS s s']<0)=(bif Q0 (n<n')then Q3 else Op.bytesLess s s'):=by
 simp only[FW,rL,kg,nS];rcases hd with⟨rfl,rfl⟩|⟨rfl,rfl⟩
 ·rcases Ad n n' with h|h|h
  ·simp[h]
  ·subst h;simp[bH]
  ·have c1:¬n<n':=by omega
   simp[h,c1,bH]
 ·by_cases hl:Op.bytesLess s s'=Q3
  ·simp[hl]
  ·by_cases he:s=s'
   ·subst he;simp[bH]
   ·have c1:(s==s')=Q4:=bP.2 he;simp[hl,c1]
theorem ED{a b:Sem zf}(ha:a.2.2.length<=1000000)(hb:b.2.2.length<=1000000):tR a b=Q1 (ry a b,()):=by
 unfold tR al cT;simp only[Ym,Q8,na ha hb,qb ha hb,m8,gQ,if_true,ry,iW];cases hal:eI a b with
 |false=>rfl
 | true=>
  obtain⟨h1,h2,h3,h4,h5,h6⟩:=HA hal;have k1:=Ex h1 h4;have k2:=Ex h2 (by rw[<-h3];exact h4);obtain⟨k,n,s⟩:=a;obtain⟨k',n',s'⟩:=b;simp only at h3 h4 k1 k2;subst h3;have hd:(s=[]/\s'=[])\/(n=0/\n'=0):=by
   rcases k1 with⟨e1,e2⟩|⟨e1,e2⟩|⟨e1,e2⟩<;>rcases k2 with⟨f1,f2⟩|⟨f1,f2⟩|⟨f1,f2⟩<;>first|exact .inl ⟨e2,f2⟩|exact .inr ⟨e2,f2⟩|exact absurd (e1.symm.trans f1) (by decide)
  have ho:Q0 (LT.lt (α:=Int) (cJ (k,n,s) (k,n',s')) 0)=(bif Q0 (n<n')then Q3 else Op.bytesLess s s'):=by
   unfold cJ;rw[h5,h6];exact VN k n n' s s' hd
  rw[ho];by_cases h:n<n'
  ·have e:Q0 (n<n')=Q3:=zt h;simp only[e];rfl
  ·have e:Q0 (n<n')=Q4:=ah h;simp only[e];rfl
theorem OI{a b:Sem zf}(ha:a.2.2.length<=1000000)(hb:b.2.2.length<=1000000):yk a b=Q3:=by unfold yk;rw[ED ha hb];rfl
theorem S1{a b:Sem zf}(ha:a.2.2.length<=1000000)(hb:b.2.2.length<=1000000):wi a b=ry a b:=by unfold wi;rw[ED ha hb];rfl
theorem OG{a b:Int}(a1:-9223372036854775808<=a)(a2:a<=9223372036854775807)(b1:-9223372036854775808<=b)(b2:b<=9223372036854775807):
  (bif Q0 (b>0)then bif Q0 (a>IntKind.i64.wrap (9223372036854775807-b))then Q3 else bif Q0 (b<0)then Q0 (a<IntKind.i64.wrap (-9223372036854775808-b))else Q4 else bif Q0 (b<0)then Q0 (a<IntKind.i64.wrap (-9223372036854775808-b))else Q4)=
  (bif Q0 (b>0)then bif Q0 (IntKind.i64.wrap (a+b)<a)then Q3 else bif Q0 (b<0)then Q0 (IntKind.i64.wrap (a+b)>a)else Q4 else bif Q0 (b<0)then Q0 (IntKind.i64.wrap (a+b)>a)else Q4):=by
 rcases Ad b 0 with h|h|h
 ·have e1:Q0 (b>0)=Q4:=ah ow;have e2:Q0 (b<0)=Q3:=zt h;simp only[e1,e2,ay,ag];rw[fK,fK];apply iA.2;rw[aN,aN];omega
 ·subst h;rfl
 ·have e1:Q0 (b>0)=Q3:=zt h;have e2:Q0 (b<0)=Q4:=ah ow;simp only[e1,e2,ay,ag];have:Q0 (a>IntKind.i64.wrap (9223372036854775807-b))=Q0 (IntKind.i64.wrap (a+b)<a):=by
   rw[fK,fK];apply iA.2;rw[aN,aN];omega
  rw[this]
theorem KN{a b:Int}(a1:-9223372036854775808<=a)(a2:a<=9223372036854775807)(b1:-9223372036854775808<=b)(b2:b<=9223372036854775807):
  (bif Q0 (b>0)then bif Q0 (a<IntKind.i64.wrap (-9223372036854775808+b))then Q3 else bif Q0 (b<0)then Q0 (a>IntKind.i64.wrap (9223372036854775807+b))else Q4 else bif Q0 (b<0)then Q0 (a>IntKind.i64.wrap (9223372036854775807+b))else Q4)=
  (bif Q0 (b>0)then bif Q0 (IntKind.i64.wrap (a-b)>a)then Q3 else bif Q0 (b<0)then Q0 (IntKind.i64.wrap (a-b)<a)else Q4 else bif Q0 (b<0)then Q0 (IntKind.i64.wrap (a-b)<a)else Q4):=by
 rcases Ad b 0 with h|h|h
 ·have e1:Q0 (b>0)=Q4:=ah ow;have e2:Q0 (b<0)=Q3:=zt h;simp only[e1,e2,ay,ag];rw[fK,fK];apply iA.2;rw[aN,aN];omega
 ·subst h;rfl
 ·have e1:Q0 (b>0)=Q3:=zt h;have e2:Q0 (b<0)=Q4:=ah ow;simp only[e1,e2,ay,ag];have:Q0 (a<IntKind.i64.wrap (-9223372036854775808+b))=Q0 (IntKind.i64.wrap (a-b)>a):=by
   rw[fK,fK];apply iA.2;rw[aN,aN];omega
  rw[this]
theorem EF{a b:Sem zf}(ha:lD a)(hb:lD b):tT a b=Q1 (rz a b,()):=by
 unfold tT al cT;simp only[Yn,Q8,na ha.2.2 hb.2.2,qb ha.2.2 hb.2.2,if_true,rz];rw[OG ha.1 ha.2.1 hb.1 hb.2.1];cases(bif !eI a b then Q3 else a.1!=1)
 ·cases(bif Q0 (b.2.1>0)then bif Q0 (IntKind.i64.wrap (a.2.1+b.2.1)<a.2.1)then Q3 else bif Q0 (b.2.1<0)then Q0 (IntKind.i64.wrap (a.2.1+b.2.1)>a.2.1)else Q4 else bif Q0 (b.2.1<0)then Q0 (IntKind.i64.wrap (a.2.1+b.2.1)>a.2.1)else Q4)<;>rfl
 ·rfl
theorem OM{a b:Sem zf}(ha:lD a)(hb:lD b):yl a b=Q3:=by unfold yl;rw[EF ha hb];rfl
theorem S3{a b:Sem zf}(ha:lD a)(hb:lD b):wj a b=rz a b:=by unfold wj;rw[EF ha hb];rfl
theorem BC{a b:Sem zf}(ha:lD a)(hb:lD b):o6 a b=Q1 (lM a b,()):=by
 unfold o6 al cT;simp only[Yo,Q8,na ha.2.2 hb.2.2,qb ha.2.2 hb.2.2,if_true,lM];rw[KN ha.1 ha.2.1 hb.1 hb.2.1];cases(bif !eI a b then Q3 else a.1!=1)
 ·cases(bif Q0 (b.2.1>0)then bif Q0 (IntKind.i64.wrap (a.2.1-b.2.1)>a.2.1)then Q3 else bif Q0 (b.2.1<0)then Q0 (IntKind.i64.wrap (a.2.1-b.2.1)<a.2.1)else Q4 else bif Q0 (b.2.1<0)then Q0 (IntKind.i64.wrap (a.2.1-b.2.1)<a.2.1)else Q4)<;>rfl
 ·rfl
theorem K3{a b:Sem zf}(ha:lD a)(hb:lD b):tS a b=Q3:=by unfold tS;rw[BC ha hb];rfl
theorem OJ{a b:Sem zf}(ha:lD a)(hb:lD b):pZ a b=lM a b:=by unfold pZ;rw[BC ha hb];rfl
theorem xt(c:Int):mq c=Q1 (aH c,()):=by
 unfold mq al cT;simp only[Yg,Q8,aH];by_cases h1:97<=c
 ·have e1:Q0 (97<=c)=Q3:=zt h1;have e2:Q0 (c<=90)=Q4:=ah ow;have e3:Q0 (65<=c)=Q3:=zt ow;simp[e1,e2,e3];rfl
 ·have e1:Q0 (97<=c)=Q4:=ah h1;simp[e1];rfl
theorem lu(c:Int):j5 c=Q3:=by unfold j5;rw[xt];rfl
theorem ni(c:Int):mo c=aH c:=by unfold mo;rw[xt];rfl
theorem BX(c:Int):ue c=Q1 (zT c,()):=rfl
theorem eD(c:Int):fu c=Q3:=by unfold fu;rw[BX];rfl
theorem fE(c:Int):gy c=zT c:=by unfold gy;rw[BX];rfl
theorem EP(c:Int):uf c=Q1 (bn c,()):=by
 unfold uf al cT;simp only[Yh,Q8,eD,fE,lu,ni,bn];cases zT c<;>cases aH c<;>rfl
theorem qt(c:Int):qr c=Q3:=by unfold qr;rw[EP];rfl
theorem ug(c:Int):wo c=bn c:=by unfold wo;rw[EP];rfl
theorem ID(p:Int->Bool):∀s:zA,cC p s=s.length↔∀c∈s,p c.toNat=Q3
 |[]=>by simp[cC]
 | c::r=>by
  have ih:=ID p r;rw[cC];by_cases h:p c.toNat=Q3
  ·rw[if_pos h];simp only[fi,ce,forall_eq_or_imp];constructor
   ·intro h2;exact⟨h,ih.1 ow⟩
   ·intro h2;rw[ih.2 h2.2]
  ·rw[if_neg h];simp only[fi,ce,forall_eq_or_imp];exact⟨λh2=>absurd h2 ow,λh2=>absurd h2.1 h⟩
theorem IE{c:Int}(h:aH c=Q3):bn c=Q3:=by
 unfold bn;rw[h];rfl
theorem O7(s:zA):pu s=Q3↔(1<=s.length/\s.length<=16/\aH (getD s 0 0).toNat=Q3/\∀c∈s,bn c.toNat=Q3):=by
 unfold pu;cases s with
 |nil=>simp
 | cons c r=>
  have e1:Q0 (((c::r).length:Int)>=1)=Q3:=zt sg;rw[e1];by_cases h:(c::r).length<=16
  ·have e2:Q0 (((c::r).length:Int)<=16)=Q3:=zt ow;rw[e2];simp only[ag];have ha:=ID bn r;by_cases hl:aH c.toNat=Q3
   ·have er:aK aH bn (c::r)=cC bn r+1:=by rw[aK,if_pos hl]
    rw[er];constructor
    ·intro h2;have:cC bn r=r.length:=by simp at h2;omega
     refine⟨sw,h,hl,?_⟩;intro x hx;rcases ce.1 hx with rfl|hx
     ·exact IE hl
     ·exact ha.1 this x hx
    ·rintro⟨_,_,_,h3⟩;have:=ha.2 (λx hx=>h3 x (sI _ hx));simp[this]
   ·have er:aK aH bn (c::r)=0:=by rw[aK,if_neg hl]
    rw[er];constructor
    ·intro h2;simp at h2;omega
    ·rintro⟨_,_,h2,_⟩;exact absurd h2 hl
  ·have e2:Q0 (((c::r).length:Int)<=16)=Q4:=ah ow;rw[e2];simp only[ag,ay];exact⟨λh=>(by cases h),λh2=>absurd h2.2.1 h⟩
theorem EO{s:zA}(hl:s.length<=1000000):yA s=Q1 (dQ s,()):=by
 have hf:=lN (t:=uC) (Φ:=λr=>r=(.kb Q4,[])) 1 (λi=>.h2 s (i:Int)) (λi=>bn (getD s i 0).toNat=Q3) s.length (by
  intro i hi _;have hv:(uC (.h2 s (i:Int))).val=if(!bn (getD s i 0).toNat)=Q3 then Q1 (.inr (.kb Q4,[]))else Q1 (.inl (.h2 s ((i+1:Nat):Int))):=by
   show(uC (.h2 _ _)).val=_;unfold uC;simp only[Q8,zH hi,zu hi,aJ,qt,ug,if_true];rw[zq i um]
  by_cases h:bn (getD s i 0).toNat=Q3
  ·exact .inl ⟨h,zR.of (by rw[hv,if_neg (by rw[h];simp)])⟩
  ·exact .inr ⟨h,_,zV.of (by rw[hv,if_pos (by simpa using h)]),rfl⟩)
 have hi:(Yf s).val=Q1 (.inl (.h2 s ((0:Nat):Int))):=rfl;have hq:=aq (l:=s) (d:=0) (Q:=λc=>bn c.toNat=Q3);have hw:=O7 s;rcases hf with⟨h1,h2⟩|⟨h1,r,h2,rfl⟩
 ·refine zx hi (h2.ends (zV.of (r:=(.bool (dQ s),[])) ?_)) ow rfl;show(uC (.h2 _ _)).val=_;unfold uC;simp only[Q8,zz,lu,ni];have e:dQ s=(bif Q0 (1<=(s.length:Int))then bif Q0 ((s.length:Int)<=16)then aH (getD s (toNat 0) 0).toNat else Q4 else Q4):=by
   apply iA.2;unfold dQ;rw[hw];by_cases k1:1<=s.length
   ·have e1:Q0 (1<=(s.length:Int))=Q3:=zt ow;rw[e1];by_cases k2:s.length<=16
    ·have e2:Q0 ((s.length:Int)<=16)=Q3:=zt ow;rw[e2];exact⟨λh=>h.2.2.1,λh=>⟨k1,k2,h,hq.1 h1⟩⟩
    ·have e2:Q0 ((s.length:Int)<=16)=Q4:=ah ow;rw[e2];exact⟨λh=>absurd h.2.1 k2,λh=>(by cases h)⟩
   ·have e1:Q0 (1<=(s.length:Int))=Q4:=ah ow;rw[e1];exact⟨λh=>absurd h.1 k1,λh=>(by cases h)⟩
  rw[e];by_cases k1:1<=s.length
  ·have e0:zP 0 s.length=Q3:=zu (i:=0) ow;rw[e0];cases Q0 (1<=(s.length:Int))<;>cases Q0 ((s.length:Int)<=16)<;>rfl
  ·have e1:Q0 (1<=(s.length:Int))=Q4:=ah ow;rw[e1];rfl
 ·have e:dQ s=Q4:=by
   cases hh:dQ s with
   |false=>rfl
   |true=>exact absurd (hq.2 (hw.1 hh).2.2.2) h1
  rw[e];exact zx hi h2 ow rfl
theorem wn{s:zA}(hl:s.length<=1000000):ud s=Q3:=by unfold ud;rw[EO hl];rfl
theorem BW{s:zA}(hl:s.length<=1000000):sy s=dQ s:=by unfold sy;rw[EO hl];rfl
noncomputable def ww:List zA:=match(Rh []).val with
 |some (.inl (.h3 _ l _))=>l
 |_=>[]
theorem Tf:ww.length=38:=kw
theorem Tg:(ww.all λw=>(CN.map (·.1)).contains w)=Q3:=kw
theorem Th:(CN.all λw=>ww.contains w.1)=Q3:=kw
theorem LG:(CN.all λw=>w.2)=Q3:=kw
theorem Nl(s:zA):∀l:List (zA×Bool),(l.all λw=>w.2)=Q3->(Nk s l Q4=Q3↔s∈l.map (·.1))
 |[],_=>by simp[Nk]
 | (w,b)::r,h=>by
  simp only[List.all_cons,aD]at h;obtain⟨rfl,h⟩:=h;rw[Nk];by_cases e:(s==w)=Q3
  ·have:s=w:=bA e;rw[if_pos e];simp[this]
  ·rw[if_neg e,Nl s r h];have:s≠w:=λh=>e (by rw[h];simp)
   simp[this]
theorem Nf(s:zA):iR s=Q3↔s∈ww:=by
 unfold iR;rw[Nl s CN LG];constructor
 ·intro h;obtain⟨w,hw,rfl⟩:=bm.1 h;have:=dU.1 Th w hw;simpa using this
 ·intro h;have:=dU.1 Tg s h;simpa using this
theorem Jh(s:zA):Gy s=Q1 (iR s,()):=by
 have hn:=Tf;have hf:=lN (t:=Ct) (Φ:=λr=>r=(.kb Q3,[])) 1 (λi=>.h3 s ww (i:Int)) (λi=>getD ww i (zi Sh.str)≠s) ww.length (by
  intro i hi _;have hv:(Ct (.h3 s ww (i:Int))).val=if(getD ww i (zi Sh.str)==s)=Q3 then Q1 (.inr (.kb Q3,[]))else Q1 (.inl (.h3 s ww ((i+1:Nat):Int))):=by
   show(Ct (.h3 _ _ _)).val=_;unfold Ct;simp only[Q8,zH hi,zu hi,aJ,if_true];rw[zq i um]
  by_cases h:getD ww i (zi Sh.str)=s
  ·exact .inr ⟨λh2=>h2 h,_,zV.of (by rw[hv,if_pos (by rw[h];simp)]),rfl⟩
  ·exact .inl ⟨h,zR.of (by rw[hv,if_neg (λh2=>h (bA h2))])⟩)
 have hi:(Rh s).val=Q1 (.inl (.h3 s ww ((0:Nat):Int))):=rfl;have hq:=aq (l:=ww) (d:=zi Sh.str) (Q:=λw=>w≠s);rcases hf with⟨h1,h2⟩|⟨h1,r,h2,rfl⟩
 ·have e:iR s=Q4:=by
   cases hh:iR s with
   |false=>rfl
   |true=>exact absurd rfl (hq.1 h1 s ((Nf s).1 hh))
  rw[e];refine zx hi (h2.ends (zV.of (r:=(.kb Q4,[])) ?_)) ow rfl;show(Ct (.h3 _ _ _)).val=_;unfold Ct;simp only[Q8,zz];rfl
 ·have e:iR s=Q3:=by
   cases hh:iR s with
   |true=>rfl
   |false=>exact absurd (hq.2 λw hw hws=>by rw[hws]at hw;rw[(Nf s).2 hw]at hh;cases hh) h1
  rw[e];exact zx hi h2 ow rfl
theorem Jg(s:zA):BY s=Q3:=by unfold BY;rw[Jh];rfl
theorem M7(s:zA):Jf s=iR s:=by unfold Jf;rw[Jh];rfl
theorem EQ{s:zA}(hl:s.length<=1000000):uh s=Q1 (zK s,()):=by
 unfold uh al cT;simp only[zgv,Q8,wn hl,BW hl,Jg,M7,zK];cases dQ s<;>rfl
theorem bp{s:zA}(hl:s.length<=1000000):dB s=Q3:=by unfold dB;rw[EQ hl];rfl
theorem eM{s:zA}(hl:s.length<=1000000):bl s=zK s:=by unfold bl;rw[EQ hl];rfl
noncomputable section
def Aw(g:Sem Q5->Sem (Sh.sl zj)->Sem (Sh.sl zf)->Sem zf)(c:Sem Q5->Sem (Sh.sl zj)->Sem (Sh.sl zf)->Bool):bT:=Fs.add 174 (zO [Q5,Sh.sl zj,Sh.sl zf] [zf] (λx=>c x.1 x.2.1 x.2.2.1) λx=>(g x.1 x.2.1 x.2.2.1,()))
theorem Ka{g:Sem Q5->Sem (Sh.sl zj)->Sem (Sh.sl zf)->Sem zf}{c:Sem Q5->Sem (Sh.sl zj)->Sem (Sh.sl zf)->Bool}(hg:FK 174 (zO [Q5,Sh.sl zj,Sh.sl zf] [zf] (λx=>c x.1 x.2.1 x.2.2.1) λx=>(g x.1 x.2.1 x.2.2.1,()))):zw (Aw g c):=rR.add hg
abbrev KE:Nat->aM:=λj=>if j=6 then{slots:=[1,2,3,6,7]}else{ }
inductive Dj where
 |h6 (l1:LC) (l2:LV) (i7:Int) (z0:zn [CP.d Q5]) (z1:zn [CP.d zf])
abbrev HM:Dj->Nat×St
 |.h6 l1 l2 i7 z0 z1=>(6,⟨tm 103 [(1,sl zj l1),(2,sl zf l2),(3,ptr 0 0),(6,ptr 1 0),(7,ai i7)],[AO.box (bx [] [CP.d Q5] z0),AO.box (bx [] [CP.d zf] z1)]⟩)
theorem zbY(g:Sem Q5->Sem zj.sl->Sem zf.sl->Sem zf)(c:Sem Q5->Sem zj.sl->Sem zf.sl->Bool):zI (Aw g c).P 174 Tryz.f174 3:=bQ kw
def oM(g:Sem Q5->Sem zj.sl->Sem zf.sl->Sem zf)(c:Sem Q5->Sem zj.sl->Sem zf.sl->Bool)(x0:Sem Q5)(x1:Sem zj.sl)(x2:Sem zf.sl):Tr (Dj⊕aw):=
 let a0:=zm ((ze.l x0).getD (toNat 0) (zi Q5))
 let a1:=g a0 x1 x2
 let a2:=EE a1
 let a3:=a1.1==0
 let a4:=aT a3
 let a5:=zm ((ze.l x0).getD (toNat 1) (zi Q5))
 let a6:=g a5 x1 x2
 let a7:=EC a1 a6
 let a8:=OK a1 a6
 let a9:=pY a1 a6
 let a10:=wi a1 a6
 let a11:=wj a1 a6
 let a12:=pZ a1 a6
 br (ze.op x0==[108,105,116])
 (re (agg [ai (ze.v x0).1,ai (ze.v x0).2.1,str (ze.v x0).2.2]) [])
 (br (ze.op x0==[99,111,108]) (Tr.to (Dj.h6 x1 x2 0 (x0,()) ((0,0,[]),())))
  (chk (zP 0 (ze.l x0).length) (chk (c a0 x1 x2) (br (ze.op x0==[110,111,116]) (chk (F9 a1) (re (agg [ai a2.1,ai a2.2.1,str a2.2.2]) [])) (br (ze.op x0==[110,117,108,108]) (chk (lH a1) (br (!rr a1) (chk Q3
  (re (agg [ai (aT Q3).1,ai (aT Q3).2.1,str (aT Q3).2.2]) [])) (chk (kE a3) (re (agg [ai a4.1,ai a4.2.1,str a4.2.2]) [])))) (chk (zP 1 (ze.l x0).length) (chk (c a5 x1 x2) (br (ze.op x0==[97,110,100])
  (chk (F5 a1 a6) (re (agg [ai a7.1,ai a7.2.1,str a7.2.2]) [])) (br (ze.op x0==[111,114]) (chk (MZ a1 a6) (re (agg [ai a8.1,ai a8.2.1,str a8.2.2]) [])) (br (ze.op x0==[61]) (chk (tQ a1 a6) (re (agg [ai a9.1,ai a9.2.1,str a9.2.2]) [])) (br (ze.op x0==[60])
  (chk (yk a1 a6) (re (agg [ai a10.1,ai a10.2.1,str a10.2.2]) [])) (br (ze.op x0==[43]) (chk (yl a1 a6) (re (agg [ai a11.1,ai a11.2.1,str a11.2.2]) [])) (chk (tS a1 a6) (re (agg [ai a12.1,ai a12.2.1,str a12.2.2]) []))))))))))))))
theorem zaZ(g:Sem Q5->Sem zj.sl->Sem zf.sl->Sem zf)(c:Sem Q5->Sem zj.sl->Sem zf.sl->Bool)(x0:Sem Q5)(x1:Sem zj.sl)(x2:Sem zf.sl):rn (Aw g c) 0 KE Tryz.f174 [zC Q5 x0,zC zj.sl x1,zC zf.sl x2] []=(oM g c x0 x1 x2).map (lf Tryz.f174 HM):=kw
def xy(_:Sem Q5->Sem zj.sl->Sem zf.sl->Sem zf)(_:Sem Q5->Sem zj.sl->Sem zf.sl->Bool):Dj->Tr (Dj⊕aw)
 | .h6 l1 l2 i7 z0 z1=>
  let a0:=l1.getD i7.toNat (zi zj)
  let a1:=l2.getD i7.toNat (zi zf)
  br (Q0 (i7<(↑l1.length:Int)))
  (chk (zP i7 l1.length)
   (br (a0.1==ze.s z0.1) (br (Q0 (i7<(↑l2.length:Int))) (chk (zP i7 l2.length) (re (agg [ai a1.1,ai a1.2.1,str a1.2.2]) [])) (re (agg [ai 0,ai 0,str []]) [])) (Tr.to (Dj.h6 l1 l2 (IntKind.i64.wrap (i7+1)) z0 z1))))
  (re (agg [ai 0,ai 0,str []]) [])
theorem zcb(g:Sem Q5->Sem zj.sl->Sem zf.sl->Sem zf)(c:Sem Q5->Sem zj.sl->Sem zf.sl->Bool):∀s,run (Aw g c) 0 KE (Func.results Tryz.f174).toList 400 (zZ Tryz.f174 (HM s).1) (HM s).2=(xy g c s).map (lf Tryz.f174 HM)
 |.h6 l1 l2 i7 z0 z1=>by kernel_rfl
def gu(o:Option (zy (List.map Q1 [zf]))):Sem zf:=(λr:zy (List.map Q1 [zf])=>r.1) (o.getD (cn [zf]))
def M1(g:Sem Q5->Sem zj.sl->Sem zf.sl->Sem zf)(c:Sem Q5->Sem zj.sl->Sem zf.sl->Bool)(x0:Sem Q5)(x1:Sem zj.sl)(x2:Sem zf.sl):Option (zy (List.map Q1 [zf])):=al [zf] (xy g c) 100000000 (oM g c x0 x1 x2)
def bX:Nat->Sem Q5->Sem zj.sl->Sem zf.sl->Option (zy (List.map Q1 [zf]))
 |0=>λ_ _ _=>Q2
 |n+1=>M1 (λx0 x1 x2=>gu (bX n x0 x1 x2)) λx0 x1 x2=>(bX n x0 x1 x2).isSome
theorem Rx:zI Fs.P 174 Tryz.f174 3:=bQ kw
theorem Hh:∀n,FK 174 (zO [Q5,zj.sl,zf.sl] [zf] (λx=>(bX n x.1 x.2.1 x.2.2.1).isSome) λx=>(gu (bX n x.1 x.2.1 x.2.2.1),()))
 |0=>fh ⟨Tryz.f174,Rx.1,Rx.2.1,Rx.2.2.1⟩ (λ_=>rfl)
 |n+1=>lA (E:=Aw (λx0 x1 x2=>gu (bX n x0 x1 x2)) (λx0 x1 x2=>(bX n x0 x1 x2).isSome)) (ks:=[Q5,zj.sl,zf.sl]) (outs:=[zf]) (keep:=KE) (gas:=400) (n:=100000000) (e:=HM) (t:=xy (λx0 x1 x2=>gu (bX n x0 x1 x2)) (λx0 x1 x2=>(bX n x0 x1 x2).isSome)) (i:=λx=>oM (λx0 x1 x2=>gu (bX n x0 x1 x2)) (λx0 x1 x2=>(bX n x0 x1 x2).isSome) x.1 x.2.1 x.2.2.1) (Ka (Hh n)) (zbY _ _) (λx=>zaZ _ _ x.1 x.2.1 x.2.2.1) (zcb _ _) (λ_=>by kernel_rfl) (λ_=>by kernel_rfl)
def yo(x0:Sem Q5)(x1:Sem zj.sl)(x2:Sem zf.sl):Option (zy (List.map Q1 [zf])):=bX 16 x0 x1 x2
def yn(x0:Sem Q5)(x1:Sem zj.sl)(x2:Sem zf.sl):Bool:=(yo x0 x1 x2).isSome
def Gb(x0:Sem Q5)(x1:Sem zj.sl)(x2:Sem zf.sl):Sem zf:=gu (yo x0 x1 x2)
def WK:zX:=zO [Q5,zj.sl,zf.sl] [zf] (λx=>yn x.1 x.2.1 x.2.2.1) λx=>(Gb x.1 x.2.1 x.2.2.1,())
theorem TY:FK 174 WK:=Hh 16
abbrev zgY:=mV [(5,[1,3,4]),(11,[1,3,6]),(16,[1,3,7])]
inductive CY where
 |h5 (i3:Int) (i4:Int) (z0:zn [CP.d zo])
 |h11 (i3:Int) (i6:Int) (z0:zn [CP.d zo])
 |h16 (i3:Int) (i7:Int) (z0:zn [CP.d zo])
abbrev zju:CY->Nat×St
 |.h5 i3 i4 z0=>(5,⟨tm 139 [(1,ptr 0 0),(3,ai i3),(4,ai i4)],[AO.box (bx [] [CP.d zo] z0)]⟩)
 |.h11 i3 i6 z0=>(11,⟨tm 139 [(1,ptr 0 0),(3,ai i3),(6,ai i6)],[AO.box (bx [] [CP.d zo] z0)]⟩)
 |.h16 i3 i7 z0=>(16,⟨tm 139 [(1,ptr 0 0),(3,ai i3),(7,ai i7)],[AO.box (bx [] [CP.d zo] z0)]⟩)
def zbv(x0:Sem zo):Tr (CY⊕aw):=
 let a0:=(↑(length x0.2.1):Int)
 let a1:=Q0 (a0<1)
 let a2:=Q0 (a0>8)
 let a3:=Q0 (x0.2.2.1<0)
 let a4:=Q0 (x0.2.2.1>=a0)
 let a5:=getD x0.2.1 (toNat x0.2.2.1) (zi zj)
 chk
 (dB x0.1&&
  bif !bl x0.1 then Q3
  else bif a1 then Q3 else bif a2 then Q3 else bif a3 then Q3 else bif a4 then Q3 else zP x0.2.2.1 (length x0.2.1))
 (br (bif !bl x0.1 then Q3 else bif a1 then Q3 else bif a2 then Q3 else bif a3 then Q3 else bif a4 then Q3 else !a5.2.2)
  (re (kb Q4) []) (Tr.to (CY.h5 a0 0 (x0,()))))
def qQ:CY->Tr (CY⊕aw)
 | .h5 i3 i4 z0=>
  let a0:=getD z0.1.2.1 i4.toNat (zi zj)
  let a1:=!bl a0.1
  let a2:=Q0 (a0.2.1<1)
  let a3:=Q0 (a0.2.1>3)
  br (Q0 (i4<i3))
  (chk (zP i4 (length z0.1.2.1))
   (chk (dB a0.1&&bif a1 then Q3 else bif a2 then Q3 else bif a3 then Q3 else dt z0.1.2.1 a0.1) (br (bif a1 then Q3 else bif a2 then Q3 else bif a3 then Q3 else eC z0.1.2.1 a0.1!=i4) (re (kb Q4) []) (Tr.to (CY.h5 i3 (IntKind.i64.wrap (i4+1)) z0)))))
  (Tr.to (CY.h11 i3 0 z0))
 | .h11 i3 i6 z0=>
  let a0:=(↑(length z0.1.2.2.2.1):Int)
  let a1:=zP i6 (length z0.1.2.2.2.1)
  let a2:=getD z0.1.2.2.2.1 i6.toNat (zi zg)
  let a3:=Q0 (a2<0)
  br (Q0 (i6<a0))
  (chk (a1&&bif a3 then Q3 else a1)
   (br (bif a3 then Q3 else Q0 (a2>=i3)) (re (kb Q4) []) (Tr.to (CY.h11 i3 (IntKind.i64.wrap (i6+1)) z0))))
  (Tr.to (CY.h16 i3 0 z0))
 | .h16 i3 i7 z0=>
  let a0:=(↑(length z0.1.t.1):Int)
  let a1:=zP i7 (length z0.1.t.1)
  let a2:=getD z0.1.t.1 i7.toNat (zi zr)
  let a3:=Q0 (a2.1<0)
  let a4:=Q0 (a2.1>=i3)
  let a5:=zm z0.1.t.2
  br (Q0 (i7<a0))
  (chk (a1&&bif a3 then Q3 else a1&&bif a4 then Q3 else a1&&dB a2.2)
   (br (bif a3 then Q3 else bif a4 then Q3 else !bl a2.2) (re (kb Q4) []) (Tr.to (CY.h16 i3 (IntKind.i64.wrap (i7+1)) z0))))
  (chk (BO a5 z0.1.2.1) (re (AV.bool (Gk a5 z0.1.2.1==0)) []))
def Gj(x0:Sem zo):=al [Sh.bool] qQ 100000000 (zbv x0)
def wl(x0:Sem zo):=(Gj x0).isSome
def EM(x0:Sem zo):=o1 (Gj x0)
def zdI:=FT [zo] [Sh.bool] λx=>Gj x.1
theorem Z3:FK 127 zdI:=rR.T1 (f:=Tryz.f127) (keep:=zgY) (e:=zju)
def Qp:=Fs.addL [(174,WK),(127,zdI)]
theorem kl:zw Qp:=rR.addL<|fc TY<|fc Z3 jj
end
mutual
def rD:ze->Prop
 |.mk _ v s l=>lD v/\s.length<=1000000/\jI l
def jI:List ze->Prop
 |[]=>True
 |e::r=>rD e/\jI r
end
theorem jI.mem:∀{l:List ze},jI l->∀e∈l,rD e
 |[],_,e,h=>by simp at h
 | x::r,h,e,he=>by
  rw[jI]at h;rcases ce.1 he with rfl|he
  ·exact h.1
  ·exact jI.mem h.2 e he
def De(op:zA):Bool:=bif op==[97,110,100]then Q3 else bif op==[111,114]then Q3 else bif op==[61]then Q3 else bif op==[60]then Q3 else bif op==[43]then Q3 else op==[45]
theorem I7(s:zA):K8 s=Q1 (De s,()):=rfl
theorem S5(s:zA):Gh s=Q3:=by unfold Gh;rw[I7];rfl
theorem Wf(s:zA):M4 s=De s:=by unfold M4;rw[I7];rfl
def bY:Nat->ze->Bool
 |0,_=>Q4
 | d+1,.mk op v s l=>
  if(op==[108,105,116])=Q3 then(bif bd v then bif s==[]then(l.length:Int)==0 else Q4 else Q4)else
  if(op==[99,111,108])=Q3 then(bif aW v then bif dQ s then bif !iR s then(l.length:Int)==0 else Q4 else Q4 else Q4)else
  if(bif op==[110,111,116]then Q3 else op==[110,117,108,108])=Q3 then(bif aW v then bif s==[]then(match l with|[a]=>bY d a|_=>Q4)else Q4 else Q4)else
  if De op=Q3 then(bif aW v then bif s==[]then(match l with|[a,b]=>bif bY d a then bY d b else Q4|_=>Q4)else Q4 else Q4)else Q4
def nE:Nat->ze->Nat
 |0,_=>0
 |d+1,.mk _ _ _ l=>1+(l.map (nE d)).sum
theorem Pe(d:Nat)(h:d<=1000):IntKind.i64.wrap (((d+1:Nat):Int)-1)=(d:Int):=pz d um
theorem EK:∀(N d:Nat)(e:ze),d<=12->d<N->rD e->fD N e (d:Int)=Q1 (bY d e,())
 |0,_,_,_,h,_=>absurd h ow
 | N+1,0,e,_,_,_=>by
  rw[fD];unfold Gg al cT;rfl
 | N+1,d+1,.mk op v s l,h1,h2,hw=>by
  rw[rD]at hw;obtain⟨hv,hs,hl⟩:=hw;have hN:∀a∈l,fD N a (d:Int)=Q1 (bY d a,()):=λa ha=>EK N d a ow ow (hl.mem a ha)
  rw[fD];unfold Gg al cT;have hx:(((d+1:Nat):Int)==0)=Q4:=bP.2 ow;simp only[Mn,Q8,zl,ze.op,ze.v,ze.s,ze.l,kD hv.2.2,m7 hv.2.2,wn hs,BW hs,Jg,M7,S5,Wf,Pe d ow,if_true,hx]
  match l,hN with
  | [],_=>
   simp only[bY,aW];rcases zF (op==[108,105,116])with c1|c1
   ·rcases zF (bd v)with c5|c5<;>rcases zF (s==[])with c6|c6<;>(simp only[c1,c5,c6,ag,ay,if_true,if_false,zG,dF];rfl)
   rcases zF (op==[99,111,108])with c2|c2
   ·rcases zF (aW v)with c5|c5<;>rcases zF (dQ s)with c6|c6<;>rcases zF (iR s)with c7|c7<;>(simp only[aW]at c5;simp only[c1,c2,c5,c6,c7,ag,ay,if_true,if_false,zG,dF,cu,dp];rfl)
   rcases zF (bif op==[110,111,116]then Q3 else op==[110,117,108,108])with c3|c3
   ·rcases zF (aW v)with c5|c5<;>rcases zF (s==[])with c6|c6<;>(simp only[aW]at c5;simp only[c1,c2,c3,c5,c6,ag,ay,if_true,if_false,zG,dF];rfl)
   rcases zF (De op)with c4|c4
   ·rcases zF (aW v)with c5|c5<;>rcases zF (s==[])with c6|c6<;>(simp only[aW]at c5;simp only[c1,c2,c3,c4,c5,c6,ag,ay,if_true,if_false,zG,dF];rfl)
   ·simp only[c1,c2,c3,c4,if_false,zG,dF];rfl
  | [a],hN=>
   have ha:=hN a sw;simp only[bY,aW,show getD [a] (toNat 0) (zi Q5)=a from rfl,ha,show zP 0 [a].length=Q3 from rfl,Dt,show∀x,nf (Q1 (x,()))=x from λ_=>rfl];rcases zF (op==[108,105,116])with c1|c1
   ·rcases zF (bd v)with c5|c5<;>rcases zF (s==[])with c6|c6<;>(simp only[c1,c5,c6,ag,ay,if_true,if_false,zG,dF];rfl)
   rcases zF (op==[99,111,108])with c2|c2
   ·rcases zF (aW v)with c5|c5<;>rcases zF (dQ s)with c6|c6<;>rcases zF (iR s)with c7|c7<;>(simp only[aW]at c5;simp only[c1,c2,c5,c6,c7,ag,ay,if_true,if_false,zG,dF,cu,dp];rfl)
   rcases zF (bif op==[110,111,116]then Q3 else op==[110,117,108,108])with c3|c3
   ·rcases zF (aW v)with c5|c5<;>rcases zF (s==[])with c6|c6<;>rcases zF (bY d a)with c7|c7<;>(simp only[aW]at c5;simp only[c1,c2,c3,c5,c6,c7,ag,ay,if_true,if_false,zG,dF];rfl)
   rcases zF (De op)with c4|c4
   ·rcases zF (aW v)with c5|c5<;>rcases zF (s==[])with c6|c6<;>rcases zF (bY d a)with c7|c7<;>(simp only[aW]at c5;simp only[c1,c2,c3,c4,c5,c6,c7,ag,ay,if_true,if_false,zG,dF];rfl)
   ·simp only[c1,c2,c3,c4,if_false,zG,dF];rfl
  | [a,b],hN=>
   have ha:=hN a sw;have hb:=hN b sw;simp only[bY,aW,show getD [a,b] (toNat 0) (zi Q5)=a from rfl,show getD [a,b] (toNat 1) (zi Q5)=b from rfl,ha,hb,show zP 0 [a,b].length=Q3 from rfl,show zP 1 [a,b].length=Q3 from rfl,Dt,show∀x,nf (Q1 (x,()))=x from λ_=>rfl];rcases zF (op==[108,105,116])with c1|c1
   ·rcases zF (bd v)with c5|c5<;>rcases zF (s==[])with c6|c6<;>(simp only[c1,c5,c6,ag,ay,if_true,if_false,zG,dF];rfl)
   rcases zF (op==[99,111,108])with c2|c2
   ·rcases zF (aW v)with c5|c5<;>rcases zF (dQ s)with c6|c6<;>rcases zF (iR s)with c7|c7<;>(simp only[aW]at c5;simp only[c1,c2,c5,c6,c7,ag,ay,if_true,if_false,zG,dF,cu,dp];rfl)
   rcases zF (bif op==[110,111,116]then Q3 else op==[110,117,108,108])with c3|c3
   ·rcases zF (aW v)with c5|c5<;>rcases zF (s==[])with c6|c6<;>rcases zF (bY d a)with c7|c7<;>rcases zF (bY d b)with c8|c8<;>(simp only[aW]at c5;simp only[c1,c2,c3,c5,c6,c7,c8,ag,ay,if_true,if_false,zG,dF];rfl)
   rcases zF (De op)with c4|c4
   ·rcases zF (aW v)with c5|c5<;>rcases zF (s==[])with c6|c6<;>rcases zF (bY d a)with c7|c7<;>rcases zF (bY d b)with c8|c8<;>(simp only[aW]at c5;simp only[c1,c2,c3,c4,c5,c6,c7,c8,ag,ay,if_true,if_false,zG,dF];rfl)
   ·simp only[c1,c2,c3,c4,if_false,zG,dF];rfl
  | a::b::c::r,_=>
   have e0:((((a::b::c::r).length:Nat):Int)==0)=Q4:=bP.2 sg;have e1:((((a::b::c::r).length:Nat):Int)==1)=Q4:=bP.2 sg;have e2:((((a::b::c::r).length:Nat):Int)==2)=Q4:=bP.2 sg;simp only[bY,aW,e0,e1,e2];rcases zF (op==[108,105,116])with c1|c1
   ·rcases zF (bd v)with c5|c5<;>rcases zF (s==[])with c6|c6<;>(simp only[c1,c5,c6,ag,ay,if_true,if_false,zG,dF];rfl)
   rcases zF (op==[99,111,108])with c2|c2
   ·rcases zF (aW v)with c5|c5<;>rcases zF (dQ s)with c6|c6<;>rcases zF (iR s)with c7|c7<;>(simp only[aW]at c5;simp only[c1,c2,c5,c6,c7,ag,ay,if_true,if_false,zG,dF,cu,dp];rfl)
   rcases zF (bif op==[110,111,116]then Q3 else op==[110,117,108,108])with c3|c3
   ·rcases zF (aW v)with c5|c5<;>rcases zF (s==[])with c6|c6<;>(simp only[aW]at c5;simp only[c1,c2,c3,c5,c6,ag,ay,if_true,if_false,zG,dF];rfl)
   rcases zF (De op)with c4|c4
   ·rcases zF (aW v)with c5|c5<;>rcases zF (s==[])with c6|c6<;>(simp only[aW]at c5;simp only[c1,c2,c3,c4,c5,c6,ag,ay,if_true,if_false,zG,dF];rfl)
   ·simp only[c1,c2,c3,c4,ay,if_false,zG,dF];rfl
theorem O1{op:zA}(h:De op=Q3):op=[97,110,100]\/op=[111,114]\/op=[61]\/op=[60]\/op=[43]\/op=[45]:=by
 unfold De at h;rcases zF (op==[97,110,100])with c|c
 ·exact .inl (bA c)
 rcases zF (op==[111,114])with c2|c2
 ·exact .inr (.inl (bA c2))
 rcases zF (op==[61])with c3|c3
 ·exact .inr (.inr (.inl (bA c3)))
 rcases zF (op==[60])with c4|c4
 ·exact .inr (.inr (.inr (.inl (bA c4))))
 rcases zF (op==[43])with c5|c5
 ·exact .inr (.inr (.inr (.inr (.inl (bA c5)))))
 rcases zF (op==[45])with c6|c6
 ·exact .inr (.inr (.inr (.inr (.inr (bA c6)))))
 rw[c,c2,c3,c4,c5,c6]at h;cases h
inductive Px (d:Nat):ze->Prop
 |lit (v:Int×Int×zA) (h:bd v=Q3):Px d (.mk [108,105,116] v [] [])
 |col (s:zA) (h:dQ s=Q3) (h2:iR s=Q4):Px d (.mk [99,111,108] (0,0,[]) s [])
 |one (op:zA) (a:ze) (h:op=[110,111,116]\/op=[110,117,108,108]) (ha:bY d a=Q3):Px d (.mk op (0,0,[]) [] [a])
 |two (op:zA) (a b:ze) (h:op=[97,110,100]\/op=[111,114]\/op=[61]\/op=[60]\/op=[43]\/op=[45]) (ha:bY d a=Q3) (hb:bY d b=Q3):Px d (.mk op (0,0,[]) [] [a,b])
theorem A6{v:Int×Int×zA}(h:aW v=Q3):v=(0,0,[]):=by
 obtain⟨a,b,c⟩:=v;unfold aW at h;simp at h;obtain⟨rfl,rfl,rfl⟩:=h;rfl
theorem cg{a b:Bool}(h:(bif a then b else Q4)=Q3):a=Q3/\b=Q3:=by
 cases a<;>cases b<;>simp_all
theorem OB{op:zA}(h:(bif op==[110,111,116]then Q3 else op==[110,117,108,108])=Q3):op=[110,111,116]\/op=[110,117,108,108]:=by
 rcases zF (op==[110,111,116])with k|k
 ·exact .inl (bA k)
 ·rw[k]at h;exact .inr (bA h)
theorem fq{d:Nat}:∀{e:ze},bY (d+1) e=Q3->Px d e
 | .mk op v s [],h=>by
  simp only[bY]at h;split at h
  ·rename_i c;obtain⟨h1,h2⟩:=cg h;obtain⟨h3,h4⟩:=cg h2;rw[bA c,bA h3];exact .lit v h1
  split at h
  ·rename_i c;obtain⟨h1,h2⟩:=cg h;obtain⟨h3,h4⟩:=cg h2;obtain⟨h5,h6⟩:=cg h4;rw[bA c,A6 h1];exact .col s h3 (by simpa using h5)
  split at h
  ·cases hh:aW v<;>cases hs:(s==[])<;>simp[hh,hs]at h
  split at h
  ·cases hh:aW v<;>cases hs:(s==[])<;>simp[hh,hs]at h
  ·cases h
 | .mk op v s [a],h=>by
  simp only[bY]at h;split at h
  ·cases hh:bd v<;>cases hs:(s==[])<;>simp[hh,hs]at h
  split at h
  ·cases hh:aW v<;>cases hs:dQ s<;>cases hr:iR s<;>simp[hh,hs,hr]at h
  split at h
  ·rename_i c;obtain⟨h1,h2⟩:=cg h;obtain⟨h3,h4⟩:=cg h2;rw[bA h3,A6 h1];exact .one op a (OB c) h4
  split at h
  ·cases hh:aW v<;>cases hs:(s==[])<;>simp[hh,hs]at h
  ·cases h
 | .mk op v s [a,b],h=>by
  simp only[bY]at h;split at h
  ·cases hh:bd v<;>cases hs:(s==[])<;>simp[hh,hs]at h
  split at h
  ·cases hh:aW v<;>cases hs:dQ s<;>cases hr:iR s<;>simp[hh,hs,hr]at h
  split at h
  ·cases hh:aW v<;>cases hs:(s==[])<;>simp[hh,hs]at h
  split at h
  ·rename_i c;obtain⟨h1,h2⟩:=cg h;obtain⟨h3,h4⟩:=cg h2;obtain⟨ha,hb⟩:=cg h4;rw[bA h3,A6 h1];exact .two op a b (O1 c) ha hb
  ·cases h
 | .mk op v s (a::b::c::r),h=>by
  have e0:((((a::b::c::r).length:Nat):Int)==0)=Q4:=bP.2 sg;simp only[bY,e0]at h;split at h
  ·cases hh:bd v<;>cases hs:(s==[])<;>simp[hh,hs]at h
  split at h
  ·cases hh:aW v<;>cases hs:dQ s<;>cases hr:iR s<;>simp[hh,hs,hr]at h
  split at h
  ·cases hh:aW v<;>cases hs:(s==[])<;>simp[hh,hs]at h
  split at h
  ·cases hh:aW v<;>cases hs:(s==[])<;>simp[hh,hs]at h
  ·cases h
theorem rm:∀(d:Nat)(e:ze),bY d e=Q3->nE d e+1<=2^d
 |0,_,h=>by cases h
 | d+1,e,h=>by
  have h2:0<2^d:=Nat.two_pow_pos d;cases fq h with
  |lit v h=>simp[nE,Ag];omega
  |col s h h2=>simp[nE,Ag];omega
  |one op a h ha=>have:=rm d a ha;simp[nE,Ag];omega
  |two op a b h ha hb=>have:=rm d a ha;have:=rm d b hb;simp[nE,Ag];omega
theorem zbV{d:Nat}{e:ze}(h:bY d e=Q3):1<=nE d e:=by
 cases d with
 |zero=>cases h
 | succ d=>
  obtain⟨op,v,s,l⟩:=e;rw[nE];omega
theorem TJ{n:Nat}(h:n<=1000000):IntKind.i64.wrap (n:Int)=(n:Int):=by
 rw[fK];omega
theorem ng:∀(N d:Nat)(e:ze),d<=12->d<=N->bY d e=Q3->cj N e=Q1 ((nE d e:Int),())
 |_,0,_,_,_,h=>by cases h
 |0,d+1,_,_,h,_=>absurd h ow
 | N+1,d+1,e,h1,h2,h=>by
  have hp:2^(d+1)<=2^12:=Dr ow ow;have hle:=rm (d+1) e h
  have hstep:∀(e:ze)(i:Nat)(n k:Nat)(hi:i<(ze.l e).length),cj N (ze.l e)[i]=Q1 ((k:Int),())->n+k<=1000000->i<=1000->
    (Cu (λx0=>il (cj N x0)) (λx0=>(cj N x0).isSome) (.h3 (n:Int) (i:Int) (e,()))).val=Q1 (.inl (.h3 ((n+k:Nat):Int) ((i+1:Nat):Int) (e,()))):=by
   intro e i n k hi k1 k2 k3;have g0:getD (ze.l e) (i:Int).toNat (zi Q5)=(ze.l e)[i]:=ac _ _ hi;simp only[Cu,GV,Cv,Q8,g0,zl,k1,zH hi,zu hi,Dt,if_true];show Q1 (Sum.inl (sG.h3 (IntKind.i64.wrap ((n:Int)+(k:Int))) _ _))=_;rw[zq i um,<-sM,TJ k2]
  have hend:∀(e:ze)(n:Nat),(Cu (λx0=>il (cj N x0)) (λx0=>(cj N x0).isSome) (.h3 (n:Int) ((ze.l e).length:Int) (e,()))).val=Q1 (.inr (.int .i64 n,[])):=by
   intro e n;simp only[Cu,GV,Cv,Q8,zz];rfl
  have hgo:∀e,(Mo (λx0=>il (cj N x0)) (λx0=>(cj N x0).isSome) e).val=Q1 (.inl (.h3 ((1:Nat):Int) ((0:Nat):Int) (e,()))):=λ_=>rfl
  rw[cj];unfold I6;cases fq h with
  |lit v h=>exact zx (hgo _) (zV.of (hend _ 1)) ow rfl
  |col s h h2=>exact zx (hgo _) (zV.of (hend _ 1)) ow rfl
  | one op a h ha=>
   have ka:=ng N d a ow ow ha;have l1:=rm d a ha;have p1:2^d<=2^12:=Dr ow ow;refine zx (hgo _) ((zR.of (hstep (.mk op (0,0,[]) [] [a]) 0 1 (nE d a) (by simp[ze.l]) ka ow ow)).ends (zV.of (hend (.mk op (0,0,[]) [] [a]) _))) ow ?_;simp[nE];rfl
  | two op a b h ha hb=>
   have ka:=ng N d a ow ow ha;have kb:=ng N d b ow ow hb;have l1:=rm d a ha;have l2:=rm d b hb;have p1:2^d<=2^12:=Dr ow ow;refine zx (hgo _) ((zR.of (hstep (.mk op (0,0,[]) [] [a,b]) 0 1 (nE d a) (by simp[ze.l]) ka ow ow)).ends ((zR.of (hstep (.mk op (0,0,[]) [] [a,b]) 1 (1+nE d a) (nE d b) (by simp[ze.l]) kb ow ow)).ends (zV.of (hend (.mk op (0,0,[]) [] [a,b]) _)))) ow ?_;simp[nE,Nat.add_assoc];rfl
theorem pT:∀(N k:Nat)(e:ze)(n:Nat),k<=12->k<=N->bY k e=Q3->n+nE k e<=60->gV N e ((13:Int)-k) n=(Q3,((n+nE k e:Nat):Int))
 |_,0,_,_,_,_,h,_=>by cases h
 |0,k+1,_,_,_,h,_,_=>absurd h ow
 | N+1,k+1,e,n,h1,h2,h,h3=>by
  rw[gV];unfold xI;have w1:IntKind.i64.wrap ((n:Int)+1)=((n+1:Nat):Int):=zq n um;have w2:IntKind.i64.wrap ((13:Int)-((k+1:Nat):Int)+1)=(13:Int)-(k:Int):=by rw[fK];omega
  have d1:Q0 ((13:Int)-((k+1:Nat):Int)>12)=Q4:=ah ow;have hpos:=zbV h;have d2:Q0 (((n+1:Nat):Int)>60)=Q4:=ah ow;rw[w1,d1,d2];cases fq h with
  |lit v hv=>simp[ze.op,ze.l,ze.s,ze.v,cG,xp,Nk,hv,nE]
  |col s hw h2=>simp[ze.op,ze.l,ze.s,ze.v,cG,xp,Nk,hw,h2,nE,aW]
  | one op a ho ha=>
   have hn:n+1+nE k a<=60:=by simp[nE]at h3;omega
   have ka:=pT N k a (n+1) ow ow ha hn;have hs:((n+nE (k+1) (.mk op (0,0,[]) [] [a]):Nat):Int)=((n+1+nE k a:Nat):Int):=by simp[nE];omega
   rw[hs]
   push_cast at*
   rcases ho with rfl|rfl<;>simp[ze.op,ze.l,ze.s,ze.v,cG,xp,Nk,aW,nW,w2,ka]
  | two op a b ho ha hb=>
   have hn:n+1+nE k a+nE k b<=60:=by simp[nE]at h3;omega
   have ka:=pT N k a (n+1) ow ow ha ow;have kb:=pT N k b (n+1+nE k a) ow ow hb hn;have hs:((n+nE (k+1) (.mk op (0,0,[]) [] [a,b]):Nat):Int)=((n+1+nE k a+nE k b:Nat):Int):=by simp[nE];omega
   rw[hs]
   push_cast at*
   rcases ho with rfl|rfl|rfl|rfl|rfl|rfl<;>simp[ze.op,ze.l,ze.s,ze.v,cG,xp,Nk,aW,nW,w2,ka,kb]
theorem l7{α:Type}{p:α->Bool}{d:α}:∀(l:List α)(k i:Nat),i<l.length->p (l.getD i d)=Q3->(∀j,j<i->p (l.getD j d)=Q4)->ae p l k=((k+i:Nat):Int)
 |[],_,_,h,_,_=>by simp at h
 | x::r,k,0,_,hp,_=>by
  rw[ae,if_pos (by simpa using hp)];rfl
 | x::r,k,i+1,h,hp,hj=>by
  have h0:=hj 0 ow;rw[ae,if_neg (by rw[show p x=Q4 by simpa using h0];simp),l7 r (k+1) i (by simpa using h) (by simpa using hp) (λj hj2=>by simpa using hj (j+1) ow)];congr 1;omega
theorem ma{α:Type}{p:α->Bool}{d:α}:∀(l:List α)(k:Nat),(∀j,j<l.length->p (l.getD j d)=Q4)->ae p l k=-1
 |[],_,_=>rfl
 | x::r,k,hj=>by
  have h0:=hj 0 sw;rw[ae,if_neg (by rw[show p x=Q4 by simpa using h0];simp)];exact ma (d:=d) r (k+1) (λj h=>by simpa using hj (j+1) (by simpa using h))
theorem BN{cols:List (Sem zj)}{s:zA}(hl:cols.length<=1000000):BM cols s=Q1 (zY cols s,()):=by
 have hf:=lN (t:=Lu) (Φ:=λr=>r=(.int .i64 (zY cols s),[])) 1 (λi=>.h2 cols s (i:Int)) (λi=>((getD cols i (zi zj)).1==s)=Q4) cols.length (by
  intro i hi hj;have hv:(Lu (.h2 cols s (i:Int))).val=if((getD cols i (zi zj)).1==s)=Q3 then Q1 (.inr (.int .i64 i,[]))else Q1 (.inl (.h2 cols s ((i+1:Nat):Int))):=by
   simp only[Lu,Lv,G0,Q8,zH hi,zu hi,aJ,if_true];rw[zq i um]
  rcases zF ((getD cols i (zi zj)).1==s)with h|h
  ·refine .inr ⟨by rw[h];simp,_,zV.of (by rw[hv,if_pos h]),?_⟩;have:=l7 (p:=λc:Sem zj=>c.1==s) (d:=zi zj) cols 0 i hi h hj;rw[show zY cols s=(i:Int) by unfold zY;rw[this];simp]
  ·exact .inl ⟨h,zR.of (by rw[hv,if_neg (by rw[h];simp)])⟩)
 have hi:(VB cols s).val=Q1 (.inl (.h2 cols s ((0:Nat):Int))):=rfl;rcases hf with⟨h1,h2⟩|⟨h1,r,h2,rfl⟩
 ·have:=ma (p:=λc:Sem zj=>c.1==s) (d:=zi zj) cols 0 h1;rw[show zY cols s=(-1:Int)from this];refine zx hi (h2.ends (zV.of (r:=(.int .i64 (-1),[])) ?_)) ow rfl;simp only[Lu,Lv,G0,Q8,zz];rfl
 ·exact zx hi h2 ow rfl
theorem iP{cols:List (Sem zj)}{s:zA}(hl:cols.length<=1000000):dt cols s=Q3:=by unfold dt;rw[BN hl];rfl
theorem j4{cols:List (Sem zj)}{s:zA}(hl:cols.length<=1000000):eC cols s=zY cols s:=by unfold eC;rw[BN hl];rfl
theorem PH(t u:Int):lF [t] u=!(bif t !=u then t !=0 else Q4):=by
 unfold lF;simp only[ae];rcases zF (bif t !=u then t !=0 else Q4)with h|h<;>simp[h]
theorem sO(t t' u:Int):lF [t,t'] u=!(bif (bif t !=u then t !=0 else Q4)then Q3 else(bif t' !=u then t' !=0 else Q4)):=by
 unfold lF;simp only[ae];rcases zF (bif t !=u then t !=0 else Q4)with h|h<;>rcases zF (bif t' !=u then t' !=0 else Q4)with h'|h'<;>simp[h,h']
theorem K7{g c}{cols:List (Sem zj)}{e:ze}(hl:cols.length<=1000000):∃r k,zV (JF g c) k (.h5 cols ((0:Nat):Int) (e,())) r/\k<=100000000/\aL r.2 [zg,zg] r.1=Q1 (if Q0 (LT.lt (α:=Int) (zY cols (ze.s e)) 0)=Q3 then((0:Int),(4:Int),())else((getD cols (toNat (zY cols (ze.s e))) (zi zj)).2.1,(0:Int),())):=by
 have hf:=lN (t:=JF g c) (Φ:=λr=>aL r.2 [zg,zg] r.1=Q1 (if Q0 (LT.lt (α:=Int) (zY cols (ze.s e)) 0)=Q3 then((0:Int),(4:Int),())else((getD cols (toNat (zY cols (ze.s e))) (zi zj)).2.1,(0:Int),()))) 1 (λi=>.h5 cols (i:Int) (e,())) (λi=>((getD cols i (zi zj)).1==ze.s e)=Q4) cols.length (by
  intro i hi hj;have hv:(JF g c (.h5 cols (i:Int) (e,()))).val=if((getD cols i (zi zj)).1==ze.s e)=Q3 then Q1 (.inr (.tup [.int .i64 (getD cols i (zi zj)).2.1,.int .i64 0],[]))else Q1 (.inl (.h5 cols ((i+1:Nat):Int) (e,()))):=by
   simp only[JF,Q8,zH hi,zu hi,aJ,if_true];rw[zq i um]
  rcases zF ((getD cols i (zi zj)).1==ze.s e)with h|h
  ·refine .inr ⟨by rw[h];simp,_,zV.of (by rw[hv,if_pos h]),?_⟩;have:=l7 (p:=λc:Sem zj=>c.1==ze.s e) (d:=zi zj) cols 0 i hi h hj;rw[show zY cols (ze.s e)=(i:Int) by unfold zY;rw[this];simp,if_neg (by rw[aN];omega),aJ];rfl
  ·exact .inl ⟨h,zR.of (by rw[hv,if_neg (by rw[h];simp)])⟩)
 rcases hf with⟨h1,h2⟩|⟨h1,r,h2,h3⟩
 ·have:=ma (p:=λc:Sem zj=>c.1==ze.s e) (d:=zi zj) cols 0 h1;refine⟨(.tup [.int .i64 0,.int .i64 4],[]),_,h2.ends (zV.of ?_),ow,?_⟩
  ·simp only[JF,Q8,zz];rfl
  ·rw[show zY cols (ze.s e)=(-1:Int)from this];rfl
 ·exact⟨r,_,h2,ow,h3⟩
theorem ql{cols:List (Sem zj)}(hl:cols.length<=1000000):∀(N d M:Nat)(e:ze),d<=N->d<=M->bY d e=Q3->bR N e cols=Q1 ((zL M e cols).1,(zL M e cols).2,())
 |_,0,_,_,_,_,h=>by cases h
 |0,d+1,_,_,h,_,_=>absurd h ow
 |_,d+1,0,_,_,h,_=>absurd h ow
 | N+1,d+1,M+1,e,h1,h2,h=>by
  rw[bR,zL];unfold M3 wC;cases fq h with
  |lit v hv=>rfl
  | col s hw hr=>
   obtain⟨r,k,k1,k2,k3⟩:=K7 (g:=λx0 x1=>fC (bR N x0 x1)) (c:=λx0 x1=>(bR N x0 x1).isSome) (cols:=cols) (e:=.mk [99,111,108] (0,0,[]) s []) hl;refine zx Hg k1 k2 (k3.trans ?_);have e1:aF (zL M) (aZ M) cols [99,111,108] (0:Int) (0:Int) [] s [] [] 0 []=if Q0 (LT.lt (α:=Int) (zY cols s) 0)=Q3 then((0:Int),(4:Int))else((getD cols (toNat (zY cols s)) (zi zj)).2.1,(0:Int)):=rfl
   show _=Q1 ((aF (zL M) (aZ M) cols [99,111,108] (0:Int) (0:Int) [] s [] [] 0 []).1,(aF (zL M) (aZ M) cols [99,111,108] (0:Int) (0:Int) [] s [] [] 0 []).2,());rw[e1];show Q1 (if Q0 (LT.lt (α:=Int) (zY cols s) 0)=Q3 then((0:Int),(4:Int),())else((getD cols (toNat (zY cols s)) (zi zj)).2.1,(0:Int),()))=_;rcases zF (Q0 (LT.lt (α:=Int) (zY cols s) 0))with c|c
   ·rw[if_pos c,if_pos c]
   ·rw[if_neg (by rw[c];simp),if_neg (by rw[c];simp)]
  | one op a ho ha=>
   have ka:=ql hl N d M a ow ow ha;unfold al cT;generalize hg:(λx0 x1=>fC (bR N x0 x1))=g;generalize hc:(λx0 x1=>(bR N x0 x1).isSome)=c;have g1:g a cols=zL M a cols:=by rw[<-hg];show fC (bR N a cols)=_;rw[ka];rfl
   have c1:c a cols=Q3:=by rw[<-hc];show(bR N a cols).isSome=_;rw[ka];rfl
   rcases ho with rfl|rfl
   ·have e1:aF (zL M) (aZ M) cols [110,111,116] (0:Int) (0:Int) [] [] [a] [a] 0 []=if((zL M a cols).2!=0)=Q3 then((0:Int),(zL M a cols).2)else if(!lF [(zL M a cols).1] 3)=Q3 then((0:Int),(5:Int))else((3:Int),(0:Int)):=rfl
    show _=Q1 ((aF (zL M) (aZ M) cols [110,111,116] (0:Int) (0:Int) [] [] [a] [a] 0 []).1,(aF (zL M) (aZ M) cols [110,111,116] (0:Int) (0:Int) [] [] [a] [a] 0 []).2,());rw[e1,PH];have e2:(A5 g c (.mk [110,111,116] (0,0,[]) [] [a]) cols).val=if c (zm a) cols=Q3 then(if((g (zm a) cols).2!=0)=Q3 then Q1 (.inr (.tup [.int .i64 0,.int .i64 (g (zm a) cols).2],[]))else if(bif (g (zm a) cols).1!=0 then bif (g (zm a) cols).1!=3 then Q3 else(bif (g (zm a) cols).1!=0 then(g (zm a) cols).1!=3 else Q4)else(bif (g (zm a) cols).1!=0 then(g (zm a) cols).1!=3 else Q4))=Q3 then Q1 (.inr (.tup [.int .i64 0,.int .i64 5],[]))else Q1 (.inr (.tup [.int .i64 3,.int .i64 0],[])))else Q2:=rfl
    rw[e2,zl,c1,g1];generalize zL M a cols=t;rcases zF (t.2!=0)with k1|k1<;>rcases zF (t.1!=0)with k2|k2<;>rcases zF (t.1!=3)with k3|k3<;>(simp only[k1,k2,k3,ag,ay,if_true,if_false,zG,cu,dp];rfl)
   ·have e1:aF (zL M) (aZ M) cols [110,117,108,108] (0:Int) (0:Int) [] [] [a] [a] 0 []=if((zL M a cols).2!=0)=Q3 then((0:Int),(zL M a cols).2)else((3:Int),(0:Int)):=rfl
    show _=Q1 ((aF (zL M) (aZ M) cols [110,117,108,108] (0:Int) (0:Int) [] [] [a] [a] 0 []).1,(aF (zL M) (aZ M) cols [110,117,108,108] (0:Int) (0:Int) [] [] [a] [a] 0 []).2,());rw[e1];have e2:(A5 g c (.mk [110,117,108,108] (0,0,[]) [] [a]) cols).val=if c (zm a) cols=Q3 then(if((g (zm a) cols).2!=0)=Q3 then Q1 (.inr (.tup [.int .i64 0,.int .i64 (g (zm a) cols).2],[]))else Q1 (.inr (.tup [.int .i64 3,.int .i64 0],[])))else Q2:=rfl
    rw[e2,zl,c1,g1];generalize zL M a cols=t;rcases zF (t.2!=0)with k1|k1<;>(simp only[k1,if_true,if_false,zG];rfl)
  | two op a b ho ha hb=>
   have ka:=ql hl N d M a ow ow ha;have kb:=ql hl N d M b ow ow hb;unfold al cT;generalize hg:(λx0 x1=>fC (bR N x0 x1))=g;generalize hc:(λx0 x1=>(bR N x0 x1).isSome)=c;have g1:g a cols=zL M a cols:=by rw[<-hg];show fC (bR N a cols)=_;rw[ka];rfl
   have c1:c a cols=Q3:=by rw[<-hc];show(bR N a cols).isSome=_;rw[ka];rfl
   have g2:g b cols=zL M b cols:=by rw[<-hg];show fC (bR N b cols)=_;rw[kb];rfl
   have c2:c b cols=Q3:=by rw[<-hc];show(bR N b cols).isSome=_;rw[kb];rfl
   rcases ho with rfl|rfl|rfl|rfl|rfl|rfl
   ·have e1:aF (zL M) (aZ M) cols [97,110,100] (0:Int) (0:Int) [] [] [a,b] [a,b] 0 []=if((zL M a cols).2!=0)=Q3 then((0:Int),(zL M a cols).2)else if((zL M b cols).2!=0)=Q3 then((0:Int),(zL M b cols).2)else if(!lF [(zL M a cols).1,(zL M b cols).1] 3)=Q3 then((0:Int),(5:Int))else((3:Int),(0:Int)):=rfl
    show _=Q1 ((aF (zL M) (aZ M) cols [97,110,100] (0:Int) (0:Int) [] [] [a,b] [a,b] 0 []).1,(aF (zL M) (aZ M) cols [97,110,100] (0:Int) (0:Int) [] [] [a,b] [a,b] 0 []).2,());rw[e1,sO];have e2:(A5 g c (.mk [97,110,100] (0,0,[]) [] [a,b]) cols).val=if c (zm a) cols=Q3 then(if((g (zm a) cols).2!=0)=Q3 then Q1 (.inr (.tup [.int .i64 0,.int .i64 (g (zm a) cols).2],[]))else if c (zm b) cols=Q3 then(if((g (zm b) cols).2!=0)=Q3 then Q1 (.inr (.tup [.int .i64 0,.int .i64 (g (zm b) cols).2],[]))else if(bif (g (zm a) cols).1!=0 then bif (g (zm a) cols).1!=3 then Q3 else(bif (g (zm b) cols).1!=0 then(g (zm b) cols).1!=3 else Q4)else(bif (g (zm b) cols).1!=0 then(g (zm b) cols).1!=3 else Q4))=Q3 then Q1 (.inr (.tup [.int .i64 0,.int .i64 5],[]))else Q1 (.inr (.tup [.int .i64 3,.int .i64 0],[])))else Q2)else Q2:=rfl
    rw[e2,zl,zl,c1,c2,g1,g2];generalize zL M a cols=t;generalize zL M b cols=u;rcases zF (t.2!=0)with k1|k1<;>rcases zF (u.2!=0)with k2|k2<;>rcases zF (t.1!=0)with k3|k3<;>rcases zF (u.1!=0)with k4|k4<;>rcases zF (t.1!=3)with k5|k5<;>rcases zF (u.1!=3)with k6|k6<;>(simp only[k1,k2,k3,k4,k5,k6,ag,ay,if_true,if_false,zG,cu,dp];rfl)
   ·have e1:aF (zL M) (aZ M) cols [111,114] (0:Int) (0:Int) [] [] [a,b] [a,b] 0 []=if((zL M a cols).2!=0)=Q3 then((0:Int),(zL M a cols).2)else if((zL M b cols).2!=0)=Q3 then((0:Int),(zL M b cols).2)else if(!lF [(zL M a cols).1,(zL M b cols).1] 3)=Q3 then((0:Int),(5:Int))else((3:Int),(0:Int)):=rfl
    show _=Q1 ((aF (zL M) (aZ M) cols [111,114] (0:Int) (0:Int) [] [] [a,b] [a,b] 0 []).1,(aF (zL M) (aZ M) cols [111,114] (0:Int) (0:Int) [] [] [a,b] [a,b] 0 []).2,());rw[e1,sO];have e2:(A5 g c (.mk [111,114] (0,0,[]) [] [a,b]) cols).val=if c (zm a) cols=Q3 then(if((g (zm a) cols).2!=0)=Q3 then Q1 (.inr (.tup [.int .i64 0,.int .i64 (g (zm a) cols).2],[]))else if c (zm b) cols=Q3 then(if((g (zm b) cols).2!=0)=Q3 then Q1 (.inr (.tup [.int .i64 0,.int .i64 (g (zm b) cols).2],[]))else if(bif (g (zm a) cols).1!=0 then bif (g (zm a) cols).1!=3 then Q3 else(bif (g (zm b) cols).1!=0 then(g (zm b) cols).1!=3 else Q4)else(bif (g (zm b) cols).1!=0 then(g (zm b) cols).1!=3 else Q4))=Q3 then Q1 (.inr (.tup [.int .i64 0,.int .i64 5],[]))else Q1 (.inr (.tup [.int .i64 3,.int .i64 0],[])))else Q2)else Q2:=rfl
    rw[e2,zl,zl,c1,c2,g1,g2];generalize zL M a cols=t;generalize zL M b cols=u;rcases zF (t.2!=0)with k1|k1<;>rcases zF (u.2!=0)with k2|k2<;>rcases zF (t.1!=0)with k3|k3<;>rcases zF (u.1!=0)with k4|k4<;>rcases zF (t.1!=3)with k5|k5<;>rcases zF (u.1!=3)with k6|k6<;>(simp only[k1,k2,k3,k4,k5,k6,ag,ay,if_true,if_false,zG,cu,dp];rfl)
   ·have e1:aF (zL M) (aZ M) cols [61] (0:Int) (0:Int) [] [] [a,b] [a,b] 0 []=if((zL M a cols).2!=0)=Q3 then((0:Int),(zL M a cols).2)else if((zL M b cols).2!=0)=Q3 then((0:Int),(zL M b cols).2)else if(!bif (zL M a cols).1==(zL M b cols).1 then Q3 else bif (zL M a cols).1==0 then Q3 else(zL M b cols).1==0)=Q3 then((0:Int),(5:Int))else((3:Int),(0:Int)):=rfl
    show _=Q1 ((aF (zL M) (aZ M) cols [61] (0:Int) (0:Int) [] [] [a,b] [a,b] 0 []).1,(aF (zL M) (aZ M) cols [61] (0:Int) (0:Int) [] [] [a,b] [a,b] 0 []).2,());rw[e1];have e2:(A5 g c (.mk [61] (0,0,[]) [] [a,b]) cols).val=if c (zm a) cols=Q3 then(if((g (zm a) cols).2!=0)=Q3 then Q1 (.inr (.tup [.int .i64 0,.int .i64 (g (zm a) cols).2],[]))else if c (zm b) cols=Q3 then(if((g (zm b) cols).2!=0)=Q3 then Q1 (.inr (.tup [.int .i64 0,.int .i64 (g (zm b) cols).2],[]))else if(bif (g (zm a) cols).1!=0 then bif (g (zm b) cols).1!=0 then(g (zm a) cols).1!=(g (zm b) cols).1 else Q4 else Q4)=Q3 then Q1 (.inr (.tup [.int .i64 0,.int .i64 5],[]))else Q1 (.inr (.tup [.int .i64 3,.int .i64 0],[])))else Q2)else Q2:=rfl
    rw[e2,zl,zl,c1,c2,g1,g2];generalize zL M a cols=t;generalize zL M b cols=u;simp only[bne];rcases zF (t.2==0)with k1|k1<;>rcases zF (u.2==0)with k2|k2<;>rcases zF (t.1==0)with k3|k3<;>rcases zF (u.1==0)with k4|k4<;>rcases zF (t.1==u.1)with k5|k5<;>(simp only[k1,k2,k3,k4,k5,ag,ay,if_true,if_false,zG,cu,dp];rfl)
   ·have e1:aF (zL M) (aZ M) cols [60] (0:Int) (0:Int) [] [] [a,b] [a,b] 0 []=if((zL M a cols).2!=0)=Q3 then((0:Int),(zL M a cols).2)else if((zL M b cols).2!=0)=Q3 then((0:Int),(zL M b cols).2)else if(!bif (zL M a cols).1==(zL M b cols).1 then Q3 else bif (zL M a cols).1==0 then Q3 else(zL M b cols).1==0)=Q3 then((0:Int),(5:Int))else((3:Int),(0:Int)):=rfl
    show _=Q1 ((aF (zL M) (aZ M) cols [60] (0:Int) (0:Int) [] [] [a,b] [a,b] 0 []).1,(aF (zL M) (aZ M) cols [60] (0:Int) (0:Int) [] [] [a,b] [a,b] 0 []).2,());rw[e1];have e2:(A5 g c (.mk [60] (0,0,[]) [] [a,b]) cols).val=if c (zm a) cols=Q3 then(if((g (zm a) cols).2!=0)=Q3 then Q1 (.inr (.tup [.int .i64 0,.int .i64 (g (zm a) cols).2],[]))else if c (zm b) cols=Q3 then(if((g (zm b) cols).2!=0)=Q3 then Q1 (.inr (.tup [.int .i64 0,.int .i64 (g (zm b) cols).2],[]))else if(bif (g (zm a) cols).1!=0 then bif (g (zm b) cols).1!=0 then(g (zm a) cols).1!=(g (zm b) cols).1 else Q4 else Q4)=Q3 then Q1 (.inr (.tup [.int .i64 0,.int .i64 5],[]))else Q1 (.inr (.tup [.int .i64 3,.int .i64 0],[])))else Q2)else Q2:=rfl
    rw[e2,zl,zl,c1,c2,g1,g2];generalize zL M a cols=t;generalize zL M b cols=u;simp only[bne];rcases zF (t.2==0)with k1|k1<;>rcases zF (u.2==0)with k2|k2<;>rcases zF (t.1==0)with k3|k3<;>rcases zF (u.1==0)with k4|k4<;>rcases zF (t.1==u.1)with k5|k5<;>(simp only[k1,k2,k3,k4,k5,ag,ay,if_true,if_false,zG,cu,dp];rfl)
   ·have e1:aF (zL M) (aZ M) cols [43] (0:Int) (0:Int) [] [] [a,b] [a,b] 0 []=if((zL M a cols).2!=0)=Q3 then((0:Int),(zL M a cols).2)else if((zL M b cols).2!=0)=Q3 then((0:Int),(zL M b cols).2)else if(!lF [(zL M a cols).1,(zL M b cols).1] 1)=Q3 then((0:Int),(5:Int))else((1:Int),(0:Int)):=rfl
    show _=Q1 ((aF (zL M) (aZ M) cols [43] (0:Int) (0:Int) [] [] [a,b] [a,b] 0 []).1,(aF (zL M) (aZ M) cols [43] (0:Int) (0:Int) [] [] [a,b] [a,b] 0 []).2,());rw[e1,sO];have e2:(A5 g c (.mk [43] (0,0,[]) [] [a,b]) cols).val=if c (zm a) cols=Q3 then(if((g (zm a) cols).2!=0)=Q3 then Q1 (.inr (.tup [.int .i64 0,.int .i64 (g (zm a) cols).2],[]))else if c (zm b) cols=Q3 then(if((g (zm b) cols).2!=0)=Q3 then Q1 (.inr (.tup [.int .i64 0,.int .i64 (g (zm b) cols).2],[]))else if(bif (g (zm a) cols).1!=0 then bif (g (zm a) cols).1!=1 then Q3 else(bif (g (zm b) cols).1!=0 then(g (zm b) cols).1!=1 else Q4)else(bif (g (zm b) cols).1!=0 then(g (zm b) cols).1!=1 else Q4))=Q3 then Q1 (.inr (.tup [.int .i64 0,.int .i64 5],[]))else Q1 (.inr (.tup [.int .i64 1,.int .i64 0],[])))else Q2)else Q2:=rfl
    rw[e2,zl,zl,c1,c2,g1,g2];generalize zL M a cols=t;generalize zL M b cols=u;rcases zF (t.2!=0)with k1|k1<;>rcases zF (u.2!=0)with k2|k2<;>rcases zF (t.1!=0)with k3|k3<;>rcases zF (u.1!=0)with k4|k4<;>rcases zF (t.1!=1)with k5|k5<;>rcases zF (u.1!=1)with k6|k6<;>(simp only[k1,k2,k3,k4,k5,k6,ag,ay,if_true,if_false,zG,cu,dp];rfl)
   ·have e1:aF (zL M) (aZ M) cols [45] (0:Int) (0:Int) [] [] [a,b] [a,b] 0 []=if((zL M a cols).2!=0)=Q3 then((0:Int),(zL M a cols).2)else if((zL M b cols).2!=0)=Q3 then((0:Int),(zL M b cols).2)else if(!lF [(zL M a cols).1,(zL M b cols).1] 1)=Q3 then((0:Int),(5:Int))else((1:Int),(0:Int)):=rfl
    show _=Q1 ((aF (zL M) (aZ M) cols [45] (0:Int) (0:Int) [] [] [a,b] [a,b] 0 []).1,(aF (zL M) (aZ M) cols [45] (0:Int) (0:Int) [] [] [a,b] [a,b] 0 []).2,());rw[e1,sO];have e2:(A5 g c (.mk [45] (0,0,[]) [] [a,b]) cols).val=if c (zm a) cols=Q3 then(if((g (zm a) cols).2!=0)=Q3 then Q1 (.inr (.tup [.int .i64 0,.int .i64 (g (zm a) cols).2],[]))else if c (zm b) cols=Q3 then(if((g (zm b) cols).2!=0)=Q3 then Q1 (.inr (.tup [.int .i64 0,.int .i64 (g (zm b) cols).2],[]))else if(bif (g (zm a) cols).1!=0 then bif (g (zm a) cols).1!=1 then Q3 else(bif (g (zm b) cols).1!=0 then(g (zm b) cols).1!=1 else Q4)else(bif (g (zm b) cols).1!=0 then(g (zm b) cols).1!=1 else Q4))=Q3 then Q1 (.inr (.tup [.int .i64 0,.int .i64 5],[]))else Q1 (.inr (.tup [.int .i64 1,.int .i64 0],[])))else Q2)else Q2:=rfl
    rw[e2,zl,zl,c1,c2,g1,g2];generalize zL M a cols=t;generalize zL M b cols=u;rcases zF (t.2!=0)with k1|k1<;>rcases zF (u.2!=0)with k2|k2<;>rcases zF (t.1!=0)with k3|k3<;>rcases zF (u.1!=0)with k4|k4<;>rcases zF (t.1!=1)with k5|k5<;>rcases zF (u.1!=1)with k6|k6<;>(simp only[k1,k2,k3,k4,k5,k6,ag,ay,if_true,if_false,zG,cu,dp];rfl)
theorem si(c:UInt8)(s old:zA):Lib.index (c::s) old=if old.isPrefixOf (c::s)=Q3 then 0 else if Lib.index s old=-1 then -1 else Lib.index s old+1:=by
 rw[Lib.index];simp only[aX]
theorem wv{s old new:zA}(hne:(old==new)=Q4)(h:Lib.index s old=-1):Lib.replaceAll s old new=s:=by
 unfold Lib.replaceAll Lib.replace Lib.replaceNum;rw[hne,if_pos (Or.inl (by decide)),Lib.count_miss h];rfl
theorem B6{s old new:zA}{i:Nat}(h0:old≠[])(hne:(old==new)=Q4)(h:Lib.index s old=i):Lib.replaceAll s old new=s.take i++new++Lib.replaceAll (s.drop (i+old.length)) old new:=by
 unfold Lib.replaceAll Lib.replace Lib.replaceNum;rw[hne,if_pos (Or.inl (by decide)),if_pos (Or.inl (by decide)),Lib.count_hit h0 h,nD 1];exact Lib.replaceK_hit old new _ s i h
theorem B7{old new:zA}(h0:old≠[])(hne:(old==new)=Q4):Lib.replaceAll [] old new=[]:=by
 refine wv hne ?_;cases old with
 |nil=>exact absurd rfl h0
 |cons a l=>rfl
theorem Jp{c:UInt8}{s old new:zA}(h0:old≠[])(hne:(old==new)=Q4)(hp:old.isPrefixOf (c::s)=Q3):Lib.replaceAll (c::s) old new=new++Lib.replaceAll ((c::s).drop old.length) old new:=by
 have:=B6 (i:=0) h0 hne (s:=c::s) (by rw[si,if_pos hp];rfl);simpa using this
theorem EU{c:UInt8}{s old new:zA}(h0:old≠[])(hne:(old==new)=Q4)(hp:old.isPrefixOf (c::s)=Q4):Lib.replaceAll (c::s) old new=c::Lib.replaceAll s old new:=by
 by_cases h:Lib.index s old=-1
 ·rw[wv hne h,wv hne (by rw[si,if_neg (by simp[hp]),if_pos h])]
 ·obtain⟨i,hi⟩:∃i:Nat,Lib.index s old=i:=⟨(Lib.index s old).toNat,by have:=Lib.index_ge s old;omega⟩;rw[B6 h0 hne hi,B6 (i:=i+1) h0 hne (by rw[si,if_neg (by simp[hp]),if_neg h,hi];simp)];simp[Nat.add_right_comm]
theorem SS{c a:UInt8}{r l:zA}(h:c≠a):(a::l).isPrefixOf (c::r)=Q4:=by
 rw[List.isPrefixOf,bP.2 (Ne.symm h)];rfl
def ki:zA->zA
 |[]=>[]
 |c::r=>if c=39 then 39::39::ki r else c::ki r
theorem B5:∀s:zA,Lib.replaceAll s [39] [39,39]=ki s
 |[]=>B7 sw rfl
 | c::r=>by
  rw[ki];split
  ·rename_i h;subst h;rw[Jp sw rfl sw];simp[B5 r]
  ·rename_i h;rw[EU sw rfl (SS h),B5 r]
def eO:zA->Option (zA×Nat)
 |[]=>Q2
 |[c]=>if c=39 then Q1 ([],1)else Q2
 |c::d::r=>if c=39 then(if d=39 then(eO r).map λx=>(39::x.1,x.2+2)else Q1 ([],1))else(eO (d::r)).map λx=>(c::x.1,x.2+1)
theorem qC:∀(n:Nat)(s t:zA)(k:Nat),s.length<=n->eO s=Q1 (t,k)->1<=k/\k<=s.length/\Lib.replaceAll (s.take (k-1)) [39,39] [39]=t
 |_,[],_,_,_,h=>by simp[eO]at h
 | _,[c],t,k,_,h=>by
  rw[eO]at h;split at h
  ·simp at h;obtain⟨rfl,rfl⟩:=h;exact⟨sw,sw,by simpa using B7 sw rfl⟩
  ·simp at h
 |0,_::_::_,_,_,hn,_=>by simp at hn
 | n+1,c::d::r,t,k,hn,h=>by
  rw[eO]at h;split at h
  ·rename_i hc;split at h
   ·rename_i hd;simp only[ea]at h;obtain⟨⟨t',k'⟩,h1,h2⟩:=h;simp only[cm]at h2;obtain⟨rfl,rfl⟩:=h2;obtain⟨a1,a2,a3⟩:=qC n r t' k' (by simp at hn;omega) h1;refine⟨ow,sg,?_⟩;subst hc;subst hd;rw[show k'+2-1=(k'-1)+2 by omega,List.take_succ_cons,List.take_succ_cons,Jp sw rfl sw];simp[a3]
   ·simp at h;obtain⟨rfl,rfl⟩:=h;exact⟨sw,sw,by simpa using B7 sw rfl⟩
  ·rename_i hc;simp only[ea]at h;obtain⟨⟨t',k'⟩,h1,h2⟩:=h;simp only[cm]at h2;obtain⟨rfl,rfl⟩:=h2;obtain⟨a1,a2,a3⟩:=qC n (d::r) t' k' (by simp at hn⊢;omega) h1;refine⟨ow,by simp at a2⊢;omega,?_⟩;rw[show k'+1-1=(k'-1)+1 by omega,List.take_succ_cons,EU sw rfl (SS hc),a3]
theorem EY{c:UInt8}(hc:c≠39):∀r:zA,eO (c::r)=(eO r).map λx=>(c::x.1,x.2+1)
 |[]=>by simp[eO,hc]
 |d::r=>by rw[eO,if_neg hc]
theorem Jw(r:zA):eO (39::39::r)=(eO r).map λx=>(39::x.1,x.2+2):=by
 rw[eO,if_pos rfl,if_pos rfl]
theorem Cm:∀r:zA,r.head?≠Q1 39->eO (39::r)=Q1 ([],1)
 |[],_=>by rw[eO,if_pos rfl]
 |d::r,h=>by rw[eO,if_pos rfl,if_neg (by simpa using h)]
theorem bU(s:zA){i:Nat}(h:i<s.length):s.getD ((i:Int).toNat) 0=s[i]:=by
 rw[aJ,aY,zQ h,dn]
theorem qO{c:UInt8}:((c.toNat:Int)==39)=Q3↔c=39:=by
 rw[aX];constructor
 ·intro h;exact UInt8.toNat_inj.1 (by show c.toNat=39;omega)
 ·rintro rfl;rfl
theorem pf:∀(n:Nat)(s:zA)(i:Nat)(a:Int)(b:zA),1<=i->i<=s.length->s.length+2<=n+i->s.length<=1000000000->
  eL n s (i:Int) a b=(match eO (s.drop i)with
   |none=>((0,[]),0)
   |some x=>((3,Lib.replaceAll (List.take (i+x.2-2) (List.drop 1 s)) [39,39] [39]),((i+x.2:Nat):Int)))
 |0,s,i,a,b,h1,h2,h3,h4=>by omega
 | n + 1,s,i,a,b,h1,h2,h3,h4=>by
  rw[eL];by_cases hi:i<s.length
  ·rw[if_pos (zt (show(i:Int)<(s.length:Int) by omega)),bU s hi,py i ow,fj hi];by_cases hq:s[i]=39
   ·rw[if_neg (by simp[bne,qO.2 hq]),hq];by_cases hj:i+1<s.length
    ·rw[fj hj,bU s hj,zt (show((i+1:Nat):Int)<(s.length:Int) by omega)];by_cases hq2:s[i+1]=39
     ·rw[if_pos (by simpa using qO.2 hq2),py (i+1) ow,pf n s (i+1+1) a b ow ow ow h4,hq2,Jw];cases eO (s.drop (i+1+1))with
      |none=>rfl
      | some x=>
       simp only[Dy];rw[show i+1+1+x.2=i+(x.2+2) by omega]
     ·rw[if_neg (by simpa using λh=>hq2 (qO.1 (by simpa using h))),Cm _ (by rw[List.head?_cons];exact λh=>hq2 (Option.some.inj h))];simp
    ·rw[Aa (by omega:s.length<=i+1),ah (show¬((i+1:Nat):Int)<(s.length:Int) by omega),Cm _ sw];simp
   ·rw[if_pos (by simpa[bne]using λh=>hq (qO.1 (by simpa using h))),EY hq,pf n s (i+1) a b ow ow ow h4];cases eO (s.drop (i+1))with
    |none=>rfl
    | some x=>
     simp only[Dy];rw[show i+1+x.2=i+(x.2+1) by omega]
  ·rw[if_neg sg,Aa ow];rfl
def oI(c:UInt8)(r:zA):Sem bS×Nat:=
 if aH c.toNat=Q3 then((1,(c::r).take (cC bn r+1)),cC bn r+1)
 else if zT c.toNat=Q3 then((2,(c::r).take (cC zT r+1)),cC zT r+1)
 else if c=39 then(match eO r with|none=>((0,[]),0)|some x=>((3,x.1),x.2+1))
 else((4,[c]),1)
theorem vP(c:UInt8)(r:zA)(hl:(c::r).length<=1000000000):bv (c::r)=((oI c r).1,((oI c r).2:Int)):=by
 have e1:aK aH bn (c::r)=if aH c.toNat=Q3 then cC bn r+1 else 0:=rfl
 have e2:aK zT zT (c::r)=if zT c.toNat=Q3 then cC zT r+1 else 0:=rfl
 unfold bv oI;by_cases h1:aH c.toNat=Q3
 ·rw[if_pos h1]at e1;simp[e1,h1]
 ·rw[if_neg h1]at e1;by_cases h2:zT c.toNat=Q3
  ·rw[if_pos h2]at e2;simp[e1,e2,h1,h2]
  ·rw[if_neg h2]at e2;by_cases h3:c=39
   ·have hq:=pf ((c::r).length+1) (c::r) 1 0 [] ow sw ow hl;have hqq:dT (c::r)=_:=hq;subst h3;have l39:aH 39=Q4:=rfl;have d39:zT 39=Q4:=rfl;cases hs:eO r with
    | none=>
     simp only[List.drop_succ_cons,List.drop_zero,hs]at hqq;simp[e1,e2,l39,d39,hqq]
    | some x=>
     obtain⟨k1,k2,k3⟩:=qC r.length r x.1 x.2 (aB _) hs;simp only[List.drop_succ_cons,List.drop_zero,hs]at hqq;rw[show 1+x.2-2=x.2-1 by omega,k3,nD 1]at hqq;simp[e1,e2,l39,d39,hqq]
   ·have h4:¬(c.toNat:Int)=39:=λh=>h3 (qO.1 (by simpa using h))
    simp[e1,e2,h1,h2,h3,h4]
def uZ:Nat->zA->Nat->Bool
 |0,_,_=>Q4
 |_+1,[],k=>Q0 (k<=400)
 | n+1,c::r,k=>
  if(bif (c.toNat:Int)==32 then Q3 else(c.toNat:Int)==10)=Q3 then uZ n r k
  else if bV (oI c r).1=Q3 then uZ n ((c::r).drop (oI c r).2) (k+1)else Q4
theorem vd:∀(n:Nat)(s:zA)(k:Nat),400<k->uZ n s k=Q4
 |0,_,_,_=>rfl
 |_+1,[],k,h=>by rw[uZ];exact ah ow
 | n+1,c::r,k,h=>by
  rw[uZ];split
  ·exact vd n r k h
  ·split
   ·exact vd n _ (k+1) ow
   ·rfl
theorem Ap:∀(n:Nat)(s:zA)(i:Nat)(l:List (Sem zr)),i<=s.length->s.length+1<=n+i->s.length<=1000000000->l.length<=400->((sZ n s (i:Int) l).2==(0:Int))=uZ n (s.drop i) l.length
 |0,s,i,l,h1,h2,h3,h4=>by omega
 | n + 1,s,i,l,h1,h2,h3,h4=>by
  rw[sZ];by_cases hlt:i<s.length
  ·have e1:List.take ((s.length:Int).toNat-(i:Int).toNat) (List.drop (i:Int).toNat s)=s.drop i:=by
    simp only[aJ];exact LY sw
   have hdl:(s.drop i).length<=1000000000:=by simp;omega
   rw[if_pos (zt (show(i:Int)<(s.length:Int) by omega)),e1,bU s hlt,py i ow];rw[fj hlt]at hdl⊢;rw[uZ];split
   ·exact Ap n s (i+1) l ow ow h3 h4
   ·rw[vP _ _ hdl];simp only;by_cases hm:bV (oI s[i] (s.drop (i+1))).1=Q3
    ·rw[if_pos hm];by_cases h5:l.length=400
     ·rw[if_pos (by rw[hm,h5];rfl),h5,vd n _ _ ow];rfl
     ·rw[if_neg (by rw[hm];simp;omega)];have hm':bV (bv (s[i]::s.drop (i+1))).1=Q3:=by rw[vP _ _ hdl];exact hm
      obtain⟨k,hk,hk1,hk2⟩:=uJ _ (List.cons_ne_nil _ _) hdl hm';rw[vP _ _ hdl]at hk;have hk:(oI s[i] (s.drop (i+1))).2=k:=Int.ofNat.inj hk;have hk3:k<=s.length-i:=by rw[<-fj hlt]at hk2;simpa using hk2
      rw[hk,show((i:Int)+(k:Int))=((i+k:Nat):Int) by omega,TI (i+k) ow,Ap n s (i+k) _ ow ow h3 sg,<-fj hlt,Dz];simp
    ·rw[if_neg hm,if_pos (by simp[hm])];rfl
  ·rw[if_neg sg,Aa ow];rw[uZ];exact(zt h4).symm
theorem P0(m:Nat):iG [IntKind.u8.wrap (IntKind.i64.wrap (48-IntKind.i64.wrap (Int.tmod (-(m:Int)) 10)))]=[UInt8.ofNat (48+m%10)]:=by
 have e1:Int.tmod (-(m:Int)) 10=-((m%10:Nat):Int):=by rw[Int.neg_tmod];rfl
 have hlt:m%10<10:=Nat.mod_lt _ ow;have e2:IntKind.i64.wrap (-((m%10:Nat):Int))=-((m%10:Nat):Int):=by rw[fK];omega
 have e3:IntKind.i64.wrap (48- -((m%10:Nat):Int))=((48+m%10:Nat):Int):=by rw[fK];omega
 have e4:IntKind.u8.wrap ((48+m%10:Nat):Int)=((48+m%10:Nat):Int):=by rw[IntKind.wrap_u8];omega
 rw[e1,e2,e3,e4];rfl
theorem Vh(m:Nat)(h:m<=9223372036854775808):IntKind.i64.wrap (Int.tdiv (-(m:Int)) 10)=-((m/10:Nat):Int):=by
 have e1:Int.tdiv (-(m:Int)) 10=-((m/10:Nat):Int):=by rw[Int.neg_tdiv];rfl
 have:m/10<=m:=Nat.div_le_self _ _;rw[e1,fK];omega
theorem PZ:∀(f m:Nat)(s:zA),m<10^f->0<f->m<=9223372036854775808->(0<m\/s=[])->s.length+f<=1000->zV Cw (f+1) (.h2 (-(m:Int)) s) (.str (mL f m++s),[])
 |0,_,_,_,h,_,_,_=>by omega
 | f+1,m,s,hm,_,hb,h0,hs=>by
  have hv:(Cw (.h2 (-(m:Int)) s)).val=Q1 (.inl (.h2 (-((m/10:Nat):Int)) ([UInt8.ofNat (48+m%10)]++s))):=by
   show(Cw (.h2 _ _)).val=_;have c:(bif Q0 (LT.lt (α:=Int) (-(m:Int)) 0)then Q3 else s==[])=Q3:=by
    rcases h0 with h|h
    ·rw[zt ow];rfl
    ·subst h;cases Q0 (LT.lt (α:=Int) (-(m:Int)) 0)<;>rfl
   simp only[Cw,Q8,P0 m,Vh m hb,if_true];rw[if_pos c,if_pos (zt sg)]
  by_cases h10:m<10
  ·have e0:m/10=0:=by omega
   have e1:m%10=m:=by omega
   rw[e0,e1]at hv;have hd:mL (f+1) m=[UInt8.ofNat (48+m)]:=by rw[mL,if_pos h10]
   rw[hd];refine((zR.of hv).ends (k:=1) (zV.of ?_)).mono ow;show(Cw (.h2 _ _)).val=_;simp[Cw,Q8]
  ·have hf:0<f:=by
    cases f with
    |zero=>simp at hm;omega
    |succ f=>omega
   have:=PZ f (m/10) ([UInt8.ofNat (48+m%10)]++s) (by rw[Ag]at hm;omega) hf ow (.inl ow) sg;have hd:mL (f+1) m=mL f (m/10)++[UInt8.ofNat (48+m%10)]:=by rw[mL,if_neg h10]
   rw[hd,Ae];exact(zR.of hv).ends this
theorem xq{m:Nat}(h:m<=9223372036854775808):qc (-(m:Int))=Q1 (mL 20 m,()):=by
 refine zx (s:=.h2 (-(m:Int)) []) rfl (PZ 20 m [] ow ow h (.inr rfl) sw) ow ?_;rw[wN];rfl
theorem Au:∀s:zA,(ki s).length<=2*s.length
 |[]=>by simp[ki]
 | c::r=>by
  have:=Au r;rw[ki];split<;>simp<;>omega
theorem DF(c:UInt8):∀s:zA,ki (s++[c])=ki s++(if c=39 then[39,39]else[c])
 | []=>by
  show ki [c]=_;rw[ki,ki,ki];split<;>rfl
 | d::r=>by
  have:=DF c r;show ki (d::(r++[c]))=_;rw[ki,ki,this];split<;>rfl
theorem YS{α:Type}{l:List α}{i:Nat}(h:i<l.length):l.take (i+1)=l.take i++[l[i]]:=by
 rw[List.take_add_one,zQ h];rfl
theorem zcn{v:Sem zf}(hl:v.2.2.length<=1000000):zV uB (v.2.2.length*1+1) (.h13 [39] 0 (v,())) (.str ([39]++ki v.2.2++[39]),[]):=by
 have hg:=zR.all (t:=uB) 1 (λi=>.h13 ([39]++ki (v.2.2.take i)) (i:Int) (v,())) v.2.2.length (by
  intro i hi;refine zR.of ?_;have hd:=Au (v.2.2.take i);have hd2:(ki (v.2.2.take i)).length<=2000000:=by simp at hd;omega
  have w1:IntKind.i64.wrap ((i:Int)+1)=((i+1:Nat):Int):=zq i um;have g1:(Q0 (0<=(i:Int))&&Q0 ((i:Int)<=((i+1:Nat):Int))&&Q0 (((i+1:Nat):Int)<=(↑(length v.2.2):Int)))=Q3:=by simp;omega
  have ht:List.take (((i+1:Nat):Int).toNat-(i:Int).toNat) (List.drop (i:Int).toNat v.2.2)=[v.2.2[i]]:=by
   rw[aJ,aJ,show i+1-i=1 by omega,fj hi];rfl
  show(uB (.h13 _ _ _)).val=_;simp only[uB,Q8,w1,g1,ht,zH hi,zu hi,if_true,bU v.2.2 hi];rw[YS hi,DF,if_pos (zt sg)];by_cases h:v.2.2[i]=39
  ·rw[if_pos (qO.2 h),if_pos h,if_pos (zt sg),h];simp
  ·rw[if_neg (λh2=>h (qO.1 h2)),if_neg h];simp)
 have hd:=Au v.2.2;have hv:(uB (.h13 ([39]++ki (v.2.2.take v.2.2.length)) (v.2.2.length:Int) (v,()))).val=Q1 (.inr (.str ([39]++ki v.2.2++[39]),[])):=by
  show(uB (.h13 _ _ _)).val=_;simp only[uB,Q8,zz,jE];simp;omega
 have:=hg.ends (zV.of hv);rw[nD]at this;exact this
theorem Wq{v:Sem zf}(hm:bd v=Q3)(h0:v.1≠(0:Int))(h1:v.1≠(1:Int))(h2:v.1≠(2:Int)):(v.1==3)=Q3/\((dP v==2)=(v.2.1==1)):=by
 have b0:(v.1==0)=Q4:=bP.2 h0;have b1:(v.1==1)=Q4:=bP.2 h1;have b2:(v.1==2)=Q4:=bP.2 h2;have hm2:=hm;unfold bd at hm;rw[b0,b1,b2]at hm;simp only[zG,if_false]at hm;cases b3:(v.1==3)
 ·rw[b3]at hm;simp at hm
 ·rw[b3]at hm;refine⟨rfl,?_⟩;have h01:v.2.1=(0:Int)\/v.2.1=(1:Int):=by
   simp at hm;by_cases k:v.2.1=(0:Int)
   ·exact .inl k
   ·by_cases k2:v.2.1=(1:Int)
    ·exact .inr k2
    ·simp[k,k2]at hm
  unfold dP;rw[show(v.1!=3)=Q4 by simp[bne,b3],hm2];rcases h01 with h|h<;>rw[h]<;>rfl
theorem EH{v:Sem zf}(hv:lD v):ym v=Q1 (gU v,()):=by
 obtain⟨hlo,hhi,hlen⟩:=hv;have hMC:=kD (v:=v) hlen;have hM:=m7 (v:=v) hlen;by_cases hm:bd v=Q3
 ·have hn:(!bd v)=Q4:=by rw[hm];rfl
  by_cases h0:v.1=(0:Int)
  ·have b0:(v.1==0)=Q3:=aX.2 h0;refine zM (r:=(.str [78,85,76,76],[])) ?_ ?_
   ·simp only[xg,Q8,hMC,hM,hn,b0,if_true];rfl
   ·unfold gU;rw[h0,hm];rfl
  have b0:(v.1==0)=Q4:=bP.2 h0;by_cases h1:v.1=(1:Int)
  ·have b1:(v.1==1)=Q3:=aX.2 h1;have ht:gU v=rc v.2.1:=by
    unfold gU;rw[hn,if_neg sw,if_pos b1]
   rw[ht];unfold rc;by_cases hneg:LT.lt (α:=Int) v.2.1 0
   ·have hd:=xq (m:=v.2.1.natAbs) ow;rw[show -((v.2.1.natAbs:Nat):Int)=v.2.1 by omega]at hd;have c1:j0 v.2.1=Q3:=by unfold j0;rw[hd];rfl
    have c2:kF v.2.1=mL 20 v.2.1.natAbs:=by unfold kF;rw[hd];rfl
    have hdl:=At 20 v.2.1.natAbs;rw[if_pos hneg];refine zM (r:=(.str ([45]++mL 20 v.2.1.natAbs),[])) ?_ rfl;simp only[xg,Q8,hMC,hM,hn,b0,b1,zt hneg,c1,c2,if_true];rw[if_neg sw,if_neg sw,if_pos (zt sg)]
   ·have hd:=xq (m:=v.2.1.natAbs) ow;have hw:IntKind.i64.wrap (0-v.2.1)=-((v.2.1.natAbs:Nat):Int):=by rw[fK];omega
    have c1:j0 (-((v.2.1.natAbs:Nat):Int))=Q3:=by unfold j0;rw[hd];rfl
    have c2:kF (-((v.2.1.natAbs:Nat):Int))=mL 20 v.2.1.natAbs:=by unfold kF;rw[hd];rfl
    rw[if_neg hneg];refine zM (r:=(.str (mL 20 v.2.1.natAbs),[])) ?_ rfl;simp only[xg,Q8,hMC,hM,hn,b0,b1,ah hneg,hw,c1,c2,if_true];rw[if_neg sw,if_neg sw,if_neg sw]
  have b1:(v.1==1)=Q4:=bP.2 h1;by_cases h2:v.1=(2:Int)
  ·have b2:(v.1==2)=Q3:=aX.2 h2;have ht:gU v=[39]++ki v.2.2++[39]:=by
    unfold gU;rw[hn,if_neg sw,if_neg (by rw[b1];simp),if_pos b2,B5]
   rw[ht];have hg:zV uB (v.2.2.length*1+1) (.h13 [39] 0 (v,())) (.str ([39]++ki v.2.2++[39]),[]):=zcn (v:=v) hlen;refine zx (s:=.h13 [39] 0 (v,())) ?_ hg ow rfl;simp only[xg,Q8,hMC,hM,hn,b0,b1,b2,if_true];rfl
  ·have b2:(v.1==2)=Q4:=bP.2 h2;obtain⟨b3,hs⟩:=Wq hm h0 h1 h2;have ht:gU v=if(v.2.1==1)=Q3 then[84,82,85,69]else[70,65,76,83,69]:=by
    unfold gU;rw[hn,if_neg sw,if_neg (by rw[b1];simp),if_neg (by rw[b2];simp),if_pos b3,hs]
   rw[ht];by_cases h3:(v.2.1==1)=Q3
   ·rw[if_pos h3];refine zM (r:=(.str [84,82,85,69],[])) ?_ rfl;simp only[xg,Q8,hMC,hM,hn,b0,b1,b2,h3,if_true];rfl
   ·rw[if_neg h3];refine zM (r:=(.str [70,65,76,83,69],[])) ?_ rfl;have h3:(v.2.1==1)=Q4:=by simpa using h3
    simp only[xg,Q8,hMC,hM,hn,b0,b1,b2,h3,if_true];rfl
 ·have hm:bd v=Q4:=by simpa using hm
  refine zM (r:=(.str [],[])) ?_ ?_
  ·simp only[xg,Q8,hMC,hM,hm,if_true];rfl
  ·unfold gU;rw[hm];rfl
theorem EG{v:Sem zf}(hv:lD v):tU v=Q3:=by unfold tU;rw[EH hv];rfl
theorem I2{v:Sem zf}(hv:lD v):BG v=gU v:=by unfold BG;rw[EH hv];rfl
theorem qk:∀(N d M:Nat)(e:ze),d<=12->d<=N->d<=M->bY d e=Q3->rD e->cy N e=Q1 (aO M e,())/\(aO M e).length<=400*nE d e
 |_,0,_,_,_,_,_,h,_=>by cases h
 |0,d+1,_,_,_,h,_,_,_=>absurd h ow
 |_,d+1,0,_,_,_,h,_,_=>absurd h ow
 | N+1,d+1,M+1,e,h0,h1,h2,h,hw=>by
  rw[cy];unfold M2;cases fq h with
  | lit v hv=>
   rw[rD]at hw;have ht:aO (M+1) (.mk [108,105,116] v [] [])=gU v:=rfl;have hl:=wE v;rw[ht];refine⟨zM (r:=(.str (gU v),[])) ?_ rfl,by simp[nE];omega⟩;have e2:(nH (λx0=>ii (cy N x0)) (λx0=>(cy N x0).isSome) (.mk [108,105,116] v [] [])).val=if tU v=Q3 then Q1 (.inr (.str (BG v),[]))else Q2:=rfl
   rw[e2,EG hw.1,I2 hw.1];rfl
  | col s hs hr=>
   have hl:=E6 hs;have ht:aO (M+1) (.mk [99,111,108] (0,0,[]) s [])=s:=rfl;rw[ht];exact⟨zM (r:=(.str s,[])) rfl rfl,by simp[nE];omega⟩
  | one op a ho ha=>
   rw[rD,jI]at hw;obtain⟨ka,la⟩:=qk N d M a ow ow ow ha hw.2.2.1;have hb:=rm d a ha;have p1:2^d<=2^12:=Dr ow ow;have hn:nE (d+1) (.mk op (0,0,[]) [] [a])=1+nE d a:=by simp[nE]
   rw[hn];generalize hg:(λx0=>ii (cy N x0))=g;generalize hc:(λx0=>(cy N x0).isSome)=c;have g1:g a=aO M a:=by rw[<-hg];show ii (cy N a)=_;rw[ka];rfl
   have c1:c a=Q3:=by rw[<-hc];show(cy N a).isSome=_;rw[ka];rfl
   rcases ho with rfl|rfl
   ·have ht:aO (M+1) (.mk [110,111,116] (0,0,[]) [] [a])=[40,78,79,84,32]++aO M a++[41]:=rfl;rw[ht];refine⟨zM (r:=(.str ([40,78,79,84,32]++aO M a++[41]),[])) ?_ rfl,sg⟩;have e2:(nH g c (.mk [110,111,116] (0,0,[]) [] [a])).val=if c (zm a)=Q3 then(if Q0 ([40,78,79,84,32].length+length (g (zm a))<=1099511627776)=Q3 then(if Q0 (([40,78,79,84,32]++g (zm a)).length+[41].length<=1099511627776)=Q3 then Q1 (.inr (.str ([40,78,79,84,32]++g (zm a)++[41]),[]))else Q2)else Q2)else Q2:=rfl
    rw[e2,zl,c1,g1,if_pos rfl,if_pos (zt sg),if_pos (zt sg)]
   ·have ht:aO (M+1) (.mk [110,117,108,108] (0,0,[]) [] [a])=[40]++aO M a++[32,73,83,32,78,85,76,76,41]:=rfl;rw[ht];refine⟨zM (r:=(.str ([40]++aO M a++[32,73,83,32,78,85,76,76,41]),[])) ?_ rfl,sg⟩;have e2:(nH g c (.mk [110,117,108,108] (0,0,[]) [] [a])).val=if c (zm a)=Q3 then(if Q0 ([40].length+length (g (zm a))<=1099511627776)=Q3 then(if Q0 (([40]++g (zm a)).length+[32,73,83,32,78,85,76,76,41].length<=1099511627776)=Q3 then Q1 (.inr (.str ([40]++g (zm a)++[32,73,83,32,78,85,76,76,41]),[]))else Q2)else Q2)else Q2:=rfl
    rw[e2,zl,c1,g1,if_pos rfl,if_pos (zt sg),if_pos (zt sg)]
  | two op a b ho ha hb=>
   rw[rD,jI,jI]at hw;obtain⟨ka,la⟩:=qk N d M a ow ow ow ha hw.2.2.1;obtain⟨kb,lb⟩:=qk N d M b ow ow ow hb hw.2.2.2.1;have ha2:=rm d a ha;have hb2:=rm d b hb;have p1:2^d<=2^12:=Dr ow ow;have hn:nE (d+1) (.mk op (0,0,[]) [] [a,b])=1+(nE d a+nE d b):=by simp[nE]
   rw[hn];generalize hg:(λx0=>ii (cy N x0))=g;generalize hc:(λx0=>(cy N x0).isSome)=c;have g1:g a=aO M a:=by rw[<-hg];show ii (cy N a)=_;rw[ka];rfl
   have c1:c a=Q3:=by rw[<-hc];show(cy N a).isSome=_;rw[ka];rfl
   have g2:g b=aO M b:=by rw[<-hg];show ii (cy N b)=_;rw[kb];rfl
   have c2:c b=Q3:=by rw[<-hc];show(cy N b).isSome=_;rw[kb];rfl
   have ht:∀w:zA,Lib.toUpperA op=w->rQ (aO M) (gq M) (.mk op (0,0,[]) [] [a,b])=[40]++aO M a++[32]++w++[32]++aO M b++[41]:=by
    rintro w rfl;rcases ho with rfl|rfl|rfl|rfl|rfl|rfl<;>rfl
   have hx:aO (M+1) (.mk op (0,0,[]) [] [a,b])=rQ (aO M) (gq M) (.mk op (0,0,[]) [] [a,b]):=rfl;rw[hx];rcases ho with rfl|rfl|rfl|rfl|rfl|rfl
   ·rw[ht [65,78,68] rfl];refine⟨zM (r:=(.str ([40]++aO M a++[32,65,78,68,32]++aO M b++[41]),[])) ?_ (by simp[aL];rfl),sg⟩;have e2:(nH g c (.mk [97,110,100] (0,0,[]) [] [a,b])).val=if c (zm a)=Q3 then(if Q0 ([40].length+length (g (zm a))<=1099511627776)=Q3 then(if Q0 (([40]++g (zm a)).length+[32,65,78,68,32].length<=1099511627776)=Q3 then(if c (zm b)=Q3 then(if Q0 (([40]++g (zm a)++[32,65,78,68,32]).length+length (g (zm b))<=1099511627776)=Q3 then(if Q0 (([40]++g (zm a)++[32,65,78,68,32]++g (zm b)).length+[41].length<=1099511627776)=Q3 then Q1 (.inr (.str ([40]++g (zm a)++[32,65,78,68,32]++g (zm b)++[41]),[]))else Q2)else Q2)else Q2)else Q2)else Q2)else Q2:=rfl
    rw[e2,zl,zl,c1,c2,g1,g2,if_pos rfl,if_pos (zt sg),if_pos (zt sg),if_pos rfl,if_pos (zt sg),if_pos (zt sg)]
   ·rw[ht [79,82] rfl];refine⟨zM (r:=(.str ([40]++aO M a++[32,79,82,32]++aO M b++[41]),[])) ?_ (by simp[aL];rfl),sg⟩;have e2:(nH g c (.mk [111,114] (0,0,[]) [] [a,b])).val=if c (zm a)=Q3 then(if Q0 ([40].length+length (g (zm a))<=1099511627776)=Q3 then(if Q0 (([40]++g (zm a)).length+[32,79,82,32].length<=1099511627776)=Q3 then(if c (zm b)=Q3 then(if Q0 (([40]++g (zm a)++[32,79,82,32]).length+length (g (zm b))<=1099511627776)=Q3 then(if Q0 (([40]++g (zm a)++[32,79,82,32]++g (zm b)).length+[41].length<=1099511627776)=Q3 then Q1 (.inr (.str ([40]++g (zm a)++[32,79,82,32]++g (zm b)++[41]),[]))else Q2)else Q2)else Q2)else Q2)else Q2)else Q2:=rfl
    rw[e2,zl,zl,c1,c2,g1,g2,if_pos rfl,if_pos (zt sg),if_pos (zt sg),if_pos rfl,if_pos (zt sg),if_pos (zt sg)]
   ·rw[ht [61] rfl];refine⟨zM (r:=(.str ([40]++aO M a++[32]++[61]++[32]++aO M b++[41]),[])) ?_ rfl,sg⟩;have e2:(nH g c (.mk [61] (0,0,[]) [] [a,b])).val=if c (zm a)=Q3 then(if Q0 ([40].length+length (g (zm a))<=1099511627776)=Q3 then(if Q0 (([40]++g (zm a)).length+[32].length<=1099511627776)=Q3 then(if Q0 (([40]++g (zm a)++[32]).length+length [61]<=1099511627776)=Q3 then(if Q0 (([40]++g (zm a)++[32]++[61]).length+[32].length<=1099511627776)=Q3 then(if c (zm b)=Q3 then(if Q0 (([40]++g (zm a)++[32]++[61]++[32]).length+length (g (zm b))<=1099511627776)=Q3 then(if Q0 (([40]++g (zm a)++[32]++[61]++[32]++g (zm b)).length+[41].length<=1099511627776)=Q3 then Q1 (.inr (.str ([40]++g (zm a)++[32]++[61]++[32]++g (zm b)++[41]),[]))else Q2)else Q2)else Q2)else Q2)else Q2)else Q2)else Q2)else Q2:=rfl
    rw[e2,zl,zl,c1,c2,g1,g2,if_pos rfl,if_pos (zt sg),if_pos (zt sg),if_pos (zt sg),if_pos (zt sg),if_pos rfl,if_pos (zt sg),if_pos (zt sg)]
   ·rw[ht [60] rfl];refine⟨zM (r:=(.str ([40]++aO M a++[32]++[60]++[32]++aO M b++[41]),[])) ?_ rfl,sg⟩;have e2:(nH g c (.mk [60] (0,0,[]) [] [a,b])).val=if c (zm a)=Q3 then(if Q0 ([40].length+length (g (zm a))<=1099511627776)=Q3 then(if Q0 (([40]++g (zm a)).length+[32].length<=1099511627776)=Q3 then(if Q0 (([40]++g (zm a)++[32]).length+length [60]<=1099511627776)=Q3 then(if Q0 (([40]++g (zm a)++[32]++[60]).length+[32].length<=1099511627776)=Q3 then(if c (zm b)=Q3 then(if Q0 (([40]++g (zm a)++[32]++[60]++[32]).length+length (g (zm b))<=1099511627776)=Q3 then(if Q0 (([40]++g (zm a)++[32]++[60]++[32]++g (zm b)).length+[41].length<=1099511627776)=Q3 then Q1 (.inr (.str ([40]++g (zm a)++[32]++[60]++[32]++g (zm b)++[41]),[]))else Q2)else Q2)else Q2)else Q2)else Q2)else Q2)else Q2)else Q2:=rfl
    rw[e2,zl,zl,c1,c2,g1,g2,if_pos rfl,if_pos (zt sg),if_pos (zt sg),if_pos (zt sg),if_pos (zt sg),if_pos rfl,if_pos (zt sg),if_pos (zt sg)]
   ·rw[ht [43] rfl];refine⟨zM (r:=(.str ([40]++aO M a++[32]++[43]++[32]++aO M b++[41]),[])) ?_ rfl,sg⟩;have e2:(nH g c (.mk [43] (0,0,[]) [] [a,b])).val=if c (zm a)=Q3 then(if Q0 ([40].length+length (g (zm a))<=1099511627776)=Q3 then(if Q0 (([40]++g (zm a)).length+[32].length<=1099511627776)=Q3 then(if Q0 (([40]++g (zm a)++[32]).length+length [43]<=1099511627776)=Q3 then(if Q0 (([40]++g (zm a)++[32]++[43]).length+[32].length<=1099511627776)=Q3 then(if c (zm b)=Q3 then(if Q0 (([40]++g (zm a)++[32]++[43]++[32]).length+length (g (zm b))<=1099511627776)=Q3 then(if Q0 (([40]++g (zm a)++[32]++[43]++[32]++g (zm b)).length+[41].length<=1099511627776)=Q3 then Q1 (.inr (.str ([40]++g (zm a)++[32]++[43]++[32]++g (zm b)++[41]),[]))else Q2)else Q2)else Q2)else Q2)else Q2)else Q2)else Q2)else Q2:=rfl
    rw[e2,zl,zl,c1,c2,g1,g2,if_pos rfl,if_pos (zt sg),if_pos (zt sg),if_pos (zt sg),if_pos (zt sg),if_pos rfl,if_pos (zt sg),if_pos (zt sg)]
   ·rw[ht [45] rfl];refine⟨zM (r:=(.str ([40]++aO M a++[32]++[45]++[32]++aO M b++[41]),[])) ?_ rfl,sg⟩;have e2:(nH g c (.mk [45] (0,0,[]) [] [a,b])).val=if c (zm a)=Q3 then(if Q0 ([40].length+length (g (zm a))<=1099511627776)=Q3 then(if Q0 (([40]++g (zm a)).length+[32].length<=1099511627776)=Q3 then(if Q0 (([40]++g (zm a)++[32]).length+length [45]<=1099511627776)=Q3 then(if Q0 (([40]++g (zm a)++[32]++[45]).length+[32].length<=1099511627776)=Q3 then(if c (zm b)=Q3 then(if Q0 (([40]++g (zm a)++[32]++[45]++[32]).length+length (g (zm b))<=1099511627776)=Q3 then(if Q0 (([40]++g (zm a)++[32]++[45]++[32]++g (zm b)).length+[41].length<=1099511627776)=Q3 then Q1 (.inr (.str ([40]++g (zm a)++[32]++[45]++[32]++g (zm b)++[41]),[]))else Q2)else Q2)else Q2)else Q2)else Q2)else Q2)else Q2)else Q2:=rfl
    rw[e2,zl,zl,c1,c2,g1,g2,if_pos rfl,if_pos (zt sg),if_pos (zt sg),if_pos (zt sg),if_pos (zt sg),if_pos rfl,if_pos (zt sg),if_pos (zt sg)]
end Cad
