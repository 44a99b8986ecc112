/- Bases from whose tables rows are taken. Names: total. The document's comparisons and sums are the program's. The document's names are the program's. -/
import Derived.Test.YtkmcdhahdadkpaaGreatDoorK13
import Derived.Test.YtkmcdhahdadkpaaGreatDoorK12
import Derived.Test.YtkmcdhahdadkpaaGreatDoorK11
namespace Cad
open Go Go.Proofs
open Tr renaming val→Q8
open Sh renaming expr→Q5
open Bool renaming false→Q4,true→Q3
open Option renaming none→Q2,some→Q1
open Decidable renaming decide→Q0
open Int (toNat)
open List (getD length)
open Tr (chk br re)
open AV (nils agg tup ptr kb str sl)
set_option maxHeartbeats 1000000
theorem gA:∀{a b c:zB},Op.bytesLess a b=Q3->Op.bytesLess b c=Q3->Op.bytesLess a c=Q3
 |_,[],_,h,_=>by cases‹zB›<;>simp[Op.bytesLess]at h
 |_,_::_,[],_,h=>by simp[Op.bytesLess]at h
 |[],_::_,_::_,_,_=>rfl
 | a::x,b::y,c::z,h,g=>by
  simp only[Op.bytesLess,lZ,aO,aD,ba]at h g⊢;rcases h with h|⟨rfl,h⟩
  ·rcases g with g|⟨rfl,g⟩
   ·exact .inl (UInt8.lt_trans h g)
   ·exact .inl h
  ·rcases g with g|⟨rfl,g⟩
   ·exact .inl g
   ·exact .inr ⟨rfl,gA h g⟩
def Lx(p q:Int×Int×zB):Prop:=p.1<q.1\/(p.1=q.1/\(p.2.1<q.2.1\/(p.2.1=q.2.1/\Op.bytesLess p.2.2 q.2.2=Q3)))
theorem Lx.trans{p q r:Int×Int×zB}(h:Lx p q)(g:Lx q r):Lx p r:=by
 unfold Lx at*;rcases h with h|⟨h1,h|⟨h2,h⟩⟩<;>rcases g with g|⟨g1,g|⟨g2,g⟩⟩
 ·exact .inl ow
 ·exact .inl ow
 ·exact .inl ow
 ·exact .inl ow
 ·exact .inr ⟨ow,.inl ow⟩
 ·exact .inr ⟨ow,.inl ow⟩
 ·exact .inl ow
 ·exact .inr ⟨ow,.inl ow⟩
 ·exact .inr ⟨ow,.inr ⟨ow,gA h g⟩⟩
theorem Lx.irrefl{p:Int×Int×zB}:¬Lx p p:=by
 unfold Lx;rw[bL];rintro(h|⟨_,h|⟨_,h⟩⟩)
 ·omega
 ·omega
 ·cases h
theorem Mr(a b:Int):rS a b=if a<b then -1 else if b<a then 1 else 0:=by
 show(if(a !=a)=Q3 then _ else if(b !=b)=Q3 then(1:Int)else if Q0 (a<b)=Q3 then -1 else if Q0 (a>b)=Q3 then 1 else 0)=_;simp
theorem Qv(a b:Int):kq a b=if a<b then -1 else if b<a then 1 else 0:=Mr a b
theorem VS(a b:zB):(oe a b=-1/\Op.bytesLess a b=Q3)\/(oe a b=0/\a=b)\/(oe a b=1/\Op.bytesLess a b=Q4):=by
 have:oe a b=if Op.bytesLess a b=Q3 then -1 else if(!(Op.bytesLess a b||a==b))=Q3 then 1 else 0:=by
  show(if(!a==a)=Q3 then _ else if(!b==b)=Q3 then(1:Int)else if Op.bytesLess a b=Q3 then -1 else if(!(Op.bytesLess a b||a==b))=Q3 then 1 else 0)=_;simp
 rw[this];cases h:Op.bytesLess a b with
 |true=>exact .inl ⟨rfl,rfl⟩
 | false=>
  by_cases e:a=b
  ·exact .inr (.inl ⟨by simp[e],e⟩)
  ·exact .inr (.inr ⟨by simp[e],rfl⟩)
theorem zc8(k n k' n':Int)(s s':zB):(Ga [rS k k',kq n n',oe s s']<0)↔Lx (k,n,s) (k',n',s'):=by
 show _↔(k<k'\/(k=k'/\(n<n'\/(n=n'/\Op.bytesLess s s'=Q3))));rw[Mr,Qv];simp only[Ga];have irr:=bL s';rcases Am k k' with h|h|h
 ·simp[h]
 ·subst h;rcases Am n n' with g|g|g
  ·simp[g]
  ·subst g;rcases VS s s' with⟨e,f⟩|⟨e,f⟩|⟨e,f⟩
   ·simp[e,f]
   ·subst f;simp[e,irr]
   ·simp[e,f]
  ·have:¬n<n':=by omega
   have:n≠n':=by omega
   simp[*]
 ·have:¬k<k':=by omega
  have:k≠k':=by omega
  simp[*]
theorem uR{a b:Sem ze}:xF a b↔Lx (ap a) (ap b):=zc8 (ap a).1 (ap a).2.1 (ap b).1 (ap b).2.1 (ap a).2.2 (ap b).2.2
theorem g7{a b c:Sem ze}(h:xF a b)(g:xF b c):xF a c:=uR.2 ((uR.1 h).trans (uR.1 g))
theorem gO{a:Sem ze}:¬xF a a:=λh=>Lx.irrefl (uR.1 h)
theorem uv{α:Type}{R:α->α->Prop}(ht:∀{a b c},R a b->R b c->R a c){d:α}:∀{l:List α},(∀i,i<l.length-1->R (l.getD i d) (l.getD (i+1) d))↔l.Pairwise R
 |[]=>by simp
 |[a]=>by simp
 | a::b::r=>by
  have IH:=uv (R:=R) ht (d:=d) (l:=b::r);constructor
  ·intro h;have h0:=h 0 sw;have h1:(b::r).Pairwise R:=IH.1 λi hi=>h (i+1) (by simp only[fb]at hi⊢;omega)
   refine List.pairwise_cons.2 ⟨λx hx=>?_,h1⟩;rcases cm.1 hx with rfl|hx
   ·exact h0
   ·exact ht h0 ((List.pairwise_cons.1 h1).1 x hx)
  ·intro h i hi;obtain⟨h0,h1⟩:=List.pairwise_cons.1 h;cases i with
   |zero=>exact h0 b sw
   |succ i=>exact IH.2 h1 i (by simp only[fb]at hi⊢;omega)
def kLt(k:Int)(a b:List (Sem ze)):Prop:=xF (ac k a) (ac k b)
theorem ee.pw{x:Sem zh}(h:ee x):x.2.Pairwise (kLt x.1.2.2.1):=(uv (R:=kLt x.1.2.2.1) g7).1 h.rise
theorem ee.sub{t:Sem zo}{l l':List (List (Sem ze))}(h:ee (t,l))(hs:List.Sublist l' l):ee (t,l') where
 may:=h.may
 few:=cG hs.length_le h.few
 fits:=λr hr=>h.fits r (hs.subset hr)
 key:=List.Pairwise.sublist hs h.key
 uniq:=λu hu=>List.Pairwise.sublist hs (h.uniq u hu)
 rise:=(uv (R:=kLt t.2.2.1) g7).2 (List.Pairwise.sublist hs h.pw)
theorem EH(db:List (Sem zh))(i:Nat):(db.getD i (zi zh)).1=(db.map (·.1)).getD i (zi zh).1:=by
 rw[bd,bd,fa];cases db[i]?<;>rfl
theorem SG{db:List (Sem zh)}{i:Nat}{x:Sem zh}(h:(db.getD i (zi zh)).1=x.1):(db.set i x).map (·.1)=db.map (·.1):=by
 rw[List.map_set];refine Ao λj=>?_
 rw[wQ];by_cases e:i=j
 ·subst e;rw[if_pos rfl];by_cases hi:i<(db.map (·.1)).length
  ·rw[if_pos hi,zS hi,<-h];congr 1;have hi':i<db.length:=by simpa using hi
   rw[bd,zS hi',List.getElem_map];rfl
  ·rw[if_neg hi,eC ow]
 ·rw[if_neg e]
theorem iM.put{db:List (Sem zh)}{i:Nat}{x:Sem zh}(h:iM db)(ht:(db.getD i (zi zh)).1=x.1)(hx:ee x)(hb:Du (db.set i x)):iM (db.set i x) where
 few:=by rw[List.length_set];exact h.few
 names:=λj hj=>by
  rw[List.length_set]at hj;have:=h.names j hj;rw[EH,EH]at this⊢
  rwa [SG ht]
 rels:=λy hy=>by
  rcases List.mem_or_eq_of_mem_set hy with hy|rfl
  ·exact h.rels y hy
  ·exact hx
 bound:=hb
theorem MM{c:Int}{l:List (List (Sem ze))}(h:l.Pairwise (kLt c)):(l.map (ac c)).Pairwise (·≠·):=by
 rw[List.pairwise_map];exact h.imp λ{a b} hab(e:ac c a=ac c b)=>gO (a:=ac c b) (by have:=hab;unfold kLt at this;rwa [e]at this)
theorem jE:∀{a b:zB},Op.bytesLess a b=Q4->a≠b->Op.bytesLess b a=Q3
 |[],[],_,h=>absurd rfl h
 |[],_::_,h,_=>by simp[Op.bytesLess]at h
 |_::_,[],_,_=>rfl
 | a::x,b::y,h,hn=>by
  simp only[Op.bytesLess,Bool.or_eq_false_iff,decide_eq_false_iff_not,Bool.and_eq_false_iff,bU,lZ,aO,aD,ba]at h⊢;by_cases e:a=b
  ·subst e;refine .inr ⟨rfl,jE (h.2.resolve_left λg=>g rfl) λg=>hn (by rw[g])⟩
  ·exact .inl (UInt8.lt_of_le_of_ne (UInt8.not_lt.1 h.1) (Ne.symm e))
set_option maxHeartbeats 4000000
theorem Lq{a b:Sem ze}(ha:a.2.2.length<=1000000)(hb:b.2.2.length<=1000000):BR a b=Q3:=by unfold BR;rw[BS ha hb];rfl
theorem Pd{a b:Sem ze}(ha:a.2.2.length<=1000000)(hb:b.2.2.length<=1000000):Gp a b=cO a b:=by unfold Gp;rw[BS ha hb];rfl
theorem TC(a b:Sem ze):Gk a b=Q3:=by unfold Gk;rw[Jg];rfl
theorem WQ(a b:Sem ze):EN a b=Dq a b:=by unfold EN;rw[Jg];rfl
theorem WS(a b:Sem ze):Nj a b=Q3:=by unfold Nj;rw[Nk];rfl
theorem zdd(a b:Sem ze):Pc a b=Uz a b:=by unfold Pc;rw[Nk];rfl
theorem TE(a:Sem ze):Gn a=Q3:=by unfold Gn;rw[Jj];rfl
theorem WR(a:Sem ze):EP a=xQ a:=by unfold EP;rw[Jj];rfl
theorem BV{a b:Sem ze}(ha:a.2.2.length<=1000000)(hb:b.2.2.length<=1000000):ph a b=Q1 (!eM a b,()):=by
 unfold ph ao cX;simp only[Y5,Q8,qm ha,qm hb,ua ha,ua hb,if_true,eM];generalize ap a=x;generalize ap b=y;obtain⟨k,n,s⟩:=x;obtain⟨k',n',s'⟩:=y;simp only;by_cases h:k=0
 ·subst h;rfl
 ·have e:(k==0)=Q4:=by simpa using h
  have e2:(k !=0)=Q3:=by simpa using h
  rw[e,e2];by_cases h':k'=0
  ·subst h';have e3:(k==0)=Q4:=e;simp[e3];rfl
  ·have e3:(k'==0)=Q4:=by simpa using h'
   rw[e3];rfl
theorem nr{a b:Sem ze}(ha:a.2.2.length<=1000000)(hb:b.2.2.length<=1000000):mr a b=Q3:=by unfold mr;rw[BV ha hb];rfl
theorem qj{a b:Sem ze}(ha:a.2.2.length<=1000000)(hb:b.2.2.length<=1000000):qi a b=!eM a b:=by unfold qi;rw[BV ha hb];rfl
theorem jd(b:Bool):dj b=wF b:=by
 unfold dj wF;rw[kV,kW]
theorem BO{a b:Sem ze}(ha:a.2.2.length<=1000000)(hb:b.2.2.length<=1000000):pd a b=Q1 (lT a b,()):=by
 unfold pd ao cX;simp only[Y1,Q8,nr ha hb,qj ha hb,np,gY,if_true,lT,jd];cases eM a b<;>rfl
theorem Lo{a b:Sem ze}(ha:a.2.2.length<=1000000)(hb:b.2.2.length<=1000000):tU a b=Q3:=by unfold tU;rw[BO ha hb];rfl
theorem O9{a b:Sem ze}(ha:a.2.2.length<=1000000)(hb:b.2.2.length<=1000000):qf a b=lT a b:=by unfold qf;rw[BO ha hb];rfl
theorem HT{a b:Sem ze}(h:eM a b=Q3):aW a=Q3/\aW b=Q3/\a.1=b.1/\a.1≠0/\ap a=a/\ap b=b:=by
 unfold eM ap at h;unfold ap;cases ha:aW a with
 |false=>simp[ha]at h
 | true=>
  cases hb:aW b with
  | false=>
   simp[ha,hb]at h
  | true=>
   simp[ha,hb]at h;exact⟨rfl,rfl,h.2,h.1,sw,sw⟩
theorem EI{v:Sem ze}(h:aW v=Q3)(h0:v.1≠0):(v.1=1/\v.2.2=[])\/(v.1=2/\v.2.1=0)\/(v.1=3/\v.2.2=[]):=by
 obtain⟨k,n,s⟩:=v;unfold aW at h;simp only at h h0⊢;have e0:(k==0)=Q4:=by simpa using h0
 rw[e0]at h;by_cases h1:k=1
 ·subst h1;exact .inl ⟨rfl,by simpa using h⟩
 ·have e1:(k==1)=Q4:=by simpa using h1
  rw[e1]at h;by_cases h2:k=2
  ·subst h2;refine .inr (.inl ⟨rfl,?_⟩);simp at h;exact h.1
  ·have e2:(k==2)=Q4:=by simpa using h2
   rw[e2]at h;by_cases h3:k=3
   ·subst h3;refine .inr (.inr ⟨rfl,?_⟩);cases hn:(n==0)with
    |true=>simp[hn]at h;exact h
    |false=>simp[hn]at h;exact h.2
   ·have e3:(k==3)=Q4:=by simpa using h3
    rw[e3]at h;cases h
theorem Wu(k n n':Int)(s s':zB)(hd:(s=[]/\s'=[])\/(n=0/\n'=0)):Q0 (Ga [rS k k,kq n n',oe s s']<0)=(bif Q0 (n<n')then Q3 else Op.bytesLess s s'):=by
 simp only[Ga,rS,kq,oe];rcases hd with⟨rfl,rfl⟩|⟨rfl,rfl⟩
 ·rcases Am n n' with h|h|h
  ·simp[h]
  ·subst h;simp[bL]
  ·have c1:¬n<n':=by omega
   simp[h,c1,bL]
 ·by_cases hl:Op.bytesLess s s'=Q3
  ·simp[hl]
  ·by_cases he:s=s'
   ·subst he;simp[bL]
   ·have c1:(s==s')=Q4:=bU.2 he;simp[hl,c1]
theorem EO{a b:Sem ze}(ha:a.2.2.length<=1000000)(hb:b.2.2.length<=1000000):tV a b=Q1 (rG a b,()):=by
 unfold tV ao cX;simp only[Y2,Q8,nr ha hb,qj ha hb,np,gY,if_true,rG,jd];cases hal:eM a b with
 |false=>rfl
 | true=>
  obtain⟨h1,h2,h3,h4,h5,h6⟩:=HT hal;have k1:=EI h1 h4;have k2:=EI h2 (by rw[<-h3];exact h4);obtain⟨k,n,s⟩:=a;obtain⟨k',n',s'⟩:=b;simp only at h3 h4 k1 k2;subst h3;have hd:(s=[]/\s'=[])\/(n=0/\n'=0):=by
   rcases k1 with⟨e1,e2⟩|⟨e1,e2⟩|⟨e1,e2⟩<;>rcases k2 with⟨f1,f2⟩|⟨f1,f2⟩|⟨f1,f2⟩<;>first|exact .inl ⟨e2,f2⟩|exact .inr ⟨e2,f2⟩|exact absurd (e1.symm.trans f1) (by decide)
  have ho:Q0 (LT.lt (α:=Int) (cO (k,n,s) (k,n',s')) 0)=(bif Q0 (n<n')then Q3 else Op.bytesLess s s'):=by
   unfold cO;rw[h5,h6];exact Wu k n n' s s' hd
  rw[ho];by_cases h:n<n'
  ·have e:Q0 (n<n')=Q3:=zu h;simp only[e];rfl
  ·have e:Q0 (n<n')=Q4:=aj h;simp only[e];rfl
theorem Pa{a b:Sem ze}(ha:a.2.2.length<=1000000)(hb:b.2.2.length<=1000000):yq a b=Q3:=by unfold yq;rw[EO ha hb];rfl
theorem TD{a b:Sem ze}(ha:a.2.2.length<=1000000)(hb:b.2.2.length<=1000000):wm a b=rG a b:=by unfold wm;rw[EO ha hb];rfl
theorem O8{a b:Int}(a1:-9223372036854775808<=a)(a2:a<=9223372036854775807)(b1:-9223372036854775808<=b)(b2:b<=9223372036854775807):
  (bif Q0 (b>0)then bif Q0 (a>IntKind.i64.wrap (9223372036854775807-b))then Q3 else bif Q0 (b<0)then Q0 (a<IntKind.i64.wrap (-9223372036854775808-b))else Q4 else bif Q0 (b<0)then Q0 (a<IntKind.i64.wrap (-9223372036854775808-b))else Q4)=
  (bif Q0 (b>0)then bif Q0 (IntKind.i64.wrap (a+b)<a)then Q3 else bif Q0 (b<0)then Q0 (IntKind.i64.wrap (a+b)>a)else Q4 else bif Q0 (b<0)then Q0 (IntKind.i64.wrap (a+b)>a)else Q4):=by
 rcases Am b 0 with h|h|h
 ·have e1:Q0 (b>0)=Q4:=aj ow;have e2:Q0 (b<0)=Q3:=zu h;simp only[e1,e2,ay,ah];rw[fR,fR];apply ig.2;rw[aO,aO];omega
 ·subst h;rfl
 ·have e1:Q0 (b>0)=Q3:=zu h;have e2:Q0 (b<0)=Q4:=aj ow;simp only[e1,e2,ay,ah];have:Q0 (a>IntKind.i64.wrap (9223372036854775807-b))=Q0 (IntKind.i64.wrap (a+b)<a):=by
   rw[fR,fR];apply ig.2;rw[aO,aO];omega
  rw[this]
theorem K9{a b:Int}(a1:-9223372036854775808<=a)(a2:a<=9223372036854775807)(b1:-9223372036854775808<=b)(b2:b<=9223372036854775807):
  (bif Q0 (b>0)then bif Q0 (a<IntKind.i64.wrap (-9223372036854775808+b))then Q3 else bif Q0 (b<0)then Q0 (a>IntKind.i64.wrap (9223372036854775807+b))else Q4 else bif Q0 (b<0)then Q0 (a>IntKind.i64.wrap (9223372036854775807+b))else Q4)=
  (bif Q0 (b>0)then bif Q0 (IntKind.i64.wrap (a-b)>a)then Q3 else bif Q0 (b<0)then Q0 (IntKind.i64.wrap (a-b)<a)else Q4 else bif Q0 (b<0)then Q0 (IntKind.i64.wrap (a-b)<a)else Q4):=by
 rcases Am b 0 with h|h|h
 ·have e1:Q0 (b>0)=Q4:=aj ow;have e2:Q0 (b<0)=Q3:=zu h;simp only[e1,e2,ay,ah];rw[fR,fR];apply ig.2;rw[aO,aO];omega
 ·subst h;rfl
 ·have e1:Q0 (b>0)=Q3:=zu h;have e2:Q0 (b<0)=Q4:=aj ow;simp only[e1,e2,ay,ah];have:Q0 (a<IntKind.i64.wrap (-9223372036854775808+b))=Q0 (IntKind.i64.wrap (a-b)>a):=by
   rw[fR,fR];apply ig.2;rw[aO,aO];omega
  rw[this]
theorem EQ{a b:Sem ze}(ha:lL a)(hb:lL b):tX a b=Q1 (rH a b,()):=by
 unfold tX ao cX;simp only[Y3,Q8,nr ha.2.2 hb.2.2,qj ha.2.2 hb.2.2,if_true,rH];rw[O8 ha.1 ha.2.1 hb.1 hb.2.1];cases(bif !eM a b then Q3 else a.1!=1)
 ·cases(bif Q0 (b.2.1>0)then bif Q0 (IntKind.i64.wrap (a.2.1+b.2.1)<a.2.1)then Q3 else bif Q0 (b.2.1<0)then Q0 (IntKind.i64.wrap (a.2.1+b.2.1)>a.2.1)else Q4 else bif Q0 (b.2.1<0)then Q0 (IntKind.i64.wrap (a.2.1+b.2.1)>a.2.1)else Q4)<;>rfl
 ·rfl
theorem Pe{a b:Sem ze}(ha:lL a)(hb:lL b):yr a b=Q3:=by unfold yr;rw[EQ ha hb];rfl
theorem TF{a b:Sem ze}(ha:lL a)(hb:lL b):wn a b=rH a b:=by unfold wn;rw[EQ ha hb];rfl
theorem BP{a b:Sem ze}(ha:lL a)(hb:lL b):pf a b=Q1 (lU a b,()):=by
 unfold pf ao cX;simp only[Y4,Q8,nr ha.2.2 hb.2.2,qj ha.2.2 hb.2.2,if_true,lU];rw[K9 ha.1 ha.2.1 hb.1 hb.2.1];cases(bif !eM a b then Q3 else a.1!=1)
 ·cases(bif Q0 (b.2.1>0)then bif Q0 (IntKind.i64.wrap (a.2.1-b.2.1)>a.2.1)then Q3 else bif Q0 (b.2.1<0)then Q0 (IntKind.i64.wrap (a.2.1-b.2.1)<a.2.1)else Q4 else bif Q0 (b.2.1<0)then Q0 (IntKind.i64.wrap (a.2.1-b.2.1)<a.2.1)else Q4)<;>rfl
 ·rfl
theorem Lp{a b:Sem ze}(ha:lL a)(hb:lL b):tW a b=Q3:=by unfold tW;rw[BP ha hb];rfl
theorem Pb{a b:Sem ze}(ha:lL a)(hb:lL b):qh a b=lU a b:=by unfold qh;rw[BP ha hb];rfl
theorem xx(c:Int):mA c=Q1 (aI c,()):=by
 unfold mA ao cX;simp only[YW,Q8,aI];by_cases h1:97<=c
 ·have e1:Q0 (97<=c)=Q3:=zu h1;have e2:Q0 (c<=90)=Q4:=aj ow;have e3:Q0 (65<=c)=Q3:=zu ow;simp[e1,e2,e3];rfl
 ·have e1:Q0 (97<=c)=Q4:=aj h1;simp[e1];rfl
theorem lC(c:Int):kf c=Q3:=by unfold kf;rw[xx];rfl
theorem nA(c:Int):mz c=aI c:=by unfold mz;rw[xx];rfl
theorem Cb(c:Int):ui c=Q1 (zW c,()):=rfl
theorem eI(c:Int):fC c=Q3:=by unfold fC;rw[Cb];rfl
theorem fL(c:Int):gG c=zW c:=by unfold gG;rw[Cb];rfl
theorem E1(c:Int):uj c=Q1 (bq c,()):=by
 unfold uj ao cX;simp only[YX,Q8,eI,fL,lC,nA,bq];cases zW c<;>cases aI c<;>rfl
theorem qB(c:Int):qA c=Q3:=by unfold qA;rw[E1];rfl
theorem uk(c:Int):wu c=bq c:=by unfold wu;rw[E1];rfl
theorem IX(p:Int->Bool):∀s:zB,cF p s=s.length↔∀c∈s,p c.toNat=Q3
 |[]=>by simp[cF]
 | c::r=>by
  have ih:=IX p r;rw[cF];by_cases h:p c.toNat=Q3
  ·rw[if_pos h];simp only[fb,cm,forall_eq_or_imp];constructor
   ·intro h2;exact⟨h,ih.1 ow⟩
   ·intro h2;rw[ih.2 h2.2]
  ·rw[if_neg h];simp only[fb,cm,forall_eq_or_imp];exact⟨λh2=>absurd h2 ow,λh2=>absurd h2.1 h⟩
theorem IY{c:Int}(h:aI c=Q3):bq c=Q3:=by
 unfold bq;rw[h];rfl
theorem PD(s:zB):pD s=Q3↔(1<=s.length/\s.length<=16/\aI (getD s 0 0).toNat=Q3/\∀c∈s,bq c.toNat=Q3):=by
 unfold pD;cases s with
 |nil=>simp
 | cons c r=>
  have e1:Q0 (((c::r).length:Int)>=1)=Q3:=zu sg;rw[e1];by_cases h:(c::r).length<=16
  ·have e2:Q0 (((c::r).length:Int)<=16)=Q3:=zu ow;rw[e2];simp only[ah];have ha:=IX bq r;by_cases hl:aI c.toNat=Q3
   ·have er:aL aI bq (c::r)=cF bq r+1:=by rw[aL,if_pos hl]
    rw[er];constructor
    ·intro h2;have:cF bq r=r.length:=by simp at h2;omega
     refine⟨sw,h,hl,?_⟩;intro x hx;rcases cm.1 hx with rfl|hx
     ·exact IY hl
     ·exact ha.1 this x hx
    ·rintro⟨_,_,_,h3⟩;have:=ha.2 (λx hx=>h3 x (sP _ hx));simp[this]
   ·have er:aL aI bq (c::r)=0:=by rw[aL,if_neg hl]
    rw[er];constructor
    ·intro h2;simp at h2;omega
    ·rintro⟨_,_,h2,_⟩;exact absurd h2 hl
  ·have e2:Q0 (((c::r).length:Int)<=16)=Q4:=aj ow;rw[e2];simp only[ah,ay];exact⟨λh=>(by cases h),λh2=>absurd h2.2.1 h⟩
theorem EZ{s:zB}(hl:s.length<=1000000):yI s=Q1 (dT s,()):=by
 have hf:=lI (t:=uG) (Φ:=λr=>r=(.kb Q4,[])) 1 (λi=>.h2 s (i:Int)) (λi=>bq (getD s i 0).toNat=Q3) s.length (by
  intro i hi _;have hv:(uG (.h2 s (i:Int))).val=if(!bq (getD s i 0).toNat)=Q3 then Q1 (.inr (.kb Q4,[]))else Q1 (.inl (.h2 s ((i+1:Nat):Int))):=by
   show(uG (.h2 _ _)).val=_;unfold uG;simp only[Q8,zH hi,zt hi,aK,qB,uk,if_true];rw[zp i um]
  by_cases h:bq (getD s i 0).toNat=Q3
  ·exact .inl ⟨h,zP.of (by rw[hv,if_neg (by rw[h];simp)])⟩
  ·exact .inr ⟨h,_,zT.of (by rw[hv,if_pos (by simpa using h)]),rfl⟩)
 have hi:(YV s).val=Q1 (.inl (.h2 s ((0:Nat):Int))):=rfl;have hq:=aq (l:=s) (d:=0) (Q:=λc=>bq c.toNat=Q3);have hw:=PD s;rcases hf with⟨h1,h2⟩|⟨h1,r,h2,rfl⟩
 ·refine zw hi (h2.ends (zT.of (r:=(.bool (dT s),[])) ?_)) ow rfl;show(uG (.h2 _ _)).val=_;unfold uG;simp only[Q8,zA,lC,nA];have e:dT s=(bif Q0 (1<=(s.length:Int))then bif Q0 ((s.length:Int)<=16)then aI (getD s (toNat 0) 0).toNat else Q4 else Q4):=by
   apply ig.2;unfold dT;rw[hw];by_cases k1:1<=s.length
   ·have e1:Q0 (1<=(s.length:Int))=Q3:=zu ow;rw[e1];by_cases k2:s.length<=16
    ·have e2:Q0 ((s.length:Int)<=16)=Q3:=zu ow;rw[e2];exact⟨λh=>h.2.2.1,λh=>⟨k1,k2,h,hq.1 h1⟩⟩
    ·have e2:Q0 ((s.length:Int)<=16)=Q4:=aj ow;rw[e2];exact⟨λh=>absurd h.2.1 k2,λh=>(by cases h)⟩
   ·have e1:Q0 (1<=(s.length:Int))=Q4:=aj ow;rw[e1];exact⟨λh=>absurd h.1 k1,λh=>(by cases h)⟩
  rw[e];by_cases k1:1<=s.length
  ·have e0:zN 0 s.length=Q3:=zt (i:=0) ow;rw[e0];cases Q0 (1<=(s.length:Int))<;>cases Q0 ((s.length:Int)<=16)<;>rfl
  ·have e1:Q0 (1<=(s.length:Int))=Q4:=aj ow;rw[e1];rfl
 ·have e:dT s=Q4:=by
   cases hh:dT s with
   |false=>rfl
   |true=>exact absurd (hq.2 (hw.1 hh).2.2.2) h1
  rw[e];exact zw hi h2 ow rfl
theorem wt{s:zB}(hl:s.length<=1000000):uh s=Q3:=by unfold uh;rw[EZ hl];rfl
theorem Ca{s:zB}(hl:s.length<=1000000):sF s=dT s:=by unfold sF;rw[EZ hl];rfl
noncomputable def wB:List zB:=match(RR []).val with
 |some (.inl (.h3 _ l _))=>l
 |_=>[]
theorem TU:wB.length=38:=kw
theorem TV:(wB.all λw=>(CZ.map (·.1)).contains w)=Q3:=kw
theorem TW:(CZ.all λw=>wB.contains w.1)=Q3:=kw
theorem L7:(CZ.all λw=>w.2)=Q3:=kw
theorem NE(s:zB):∀l:List (zB×Bool),(l.all λw=>w.2)=Q3->(ND s l Q4=Q3↔s∈l.map (·.1))
 |[],_=>by simp[ND]
 | (w,b)::r,h=>by
  simp only[List.all_cons,aD]at h;obtain⟨rfl,h⟩:=h;rw[ND];by_cases e:(s==w)=Q3
  ·have:s=w:=bE e;rw[if_pos e];simp[this]
  ·rw[if_neg e,NE s r h];have:s≠w:=λh=>e (by rw[h];simp)
   simp[this]
theorem Ny(s:zB):iZ s=Q3↔s∈wB:=by
 unfold iZ;rw[NE s CZ L7];constructor
 ·intro h;obtain⟨w,hw,rfl⟩:=bn.1 h;have:=dW.1 TW w hw;simpa using this
 ·intro h;have:=dW.1 TV s h;simpa using this
theorem JB(s:zB):GO s=Q1 (iZ s,()):=by
 have hn:=TU;have hf:=lI (t:=CG) (Φ:=λr=>r=(.kb Q3,[])) 1 (λi=>.h3 s wB (i:Int)) (λi=>getD wB i (zi Sh.str)≠s) wB.length (by
  intro i hi _;have hv:(CG (.h3 s wB (i:Int))).val=if(getD wB i (zi Sh.str)==s)=Q3 then Q1 (.inr (.kb Q3,[]))else Q1 (.inl (.h3 s wB ((i+1:Nat):Int))):=by
   show(CG (.h3 _ _ _)).val=_;unfold CG;simp only[Q8,zH hi,zt hi,aK,if_true];rw[zp i um]
  by_cases h:getD wB i (zi Sh.str)=s
  ·exact .inr ⟨λh2=>h2 h,_,zT.of (by rw[hv,if_pos (by rw[h];simp)]),rfl⟩
  ·exact .inl ⟨h,zP.of (by rw[hv,if_neg (λh2=>h (bE h2))])⟩)
 have hi:(RR s).val=Q1 (.inl (.h3 s wB ((0:Nat):Int))):=rfl;have hq:=aq (l:=wB) (d:=zi Sh.str) (Q:=λw=>w≠s);rcases hf with⟨h1,h2⟩|⟨h1,r,h2,rfl⟩
 ·have e:iZ s=Q4:=by
   cases hh:iZ s with
   |false=>rfl
   |true=>exact absurd rfl (hq.1 h1 s ((Ny s).1 hh))
  rw[e];refine zw hi (h2.ends (zT.of (r:=(.kb Q4,[])) ?_)) ow rfl;show(CG (.h3 _ _ _)).val=_;unfold CG;simp only[Q8,zA];rfl
 ·have e:iZ s=Q3:=by
   cases hh:iZ s with
   |true=>rfl
   |false=>exact absurd (hq.2 λw hw hws=>by rw[hws]at hw;rw[(Ny s).2 hw]at hh;cases hh) h1
  rw[e];exact zw hi h2 ow rfl
theorem JA(s:zB):Cc s=Q3:=by unfold Cc;rw[JB];rfl
theorem Nr(s:zB):Jz s=iZ s:=by unfold Jz;rw[JB];rfl
theorem E2{s:zB}(hl:s.length<=1000000):ul s=Q1 (zL s,()):=by
 unfold ul ao cX;simp only[zhC,Q8,wt hl,Ca hl,JA,Nr,zL];cases dT s<;>rfl
theorem bv{s:zB}(hl:s.length<=1000000):dD s=Q3:=by unfold dD;rw[E2 hl];rfl
theorem eQ{s:zB}(hl:s.length<=1000000):bp s=zL s:=by unfold bp;rw[E2 hl];rfl
noncomputable section
def AG(g:Sem Q5->Sem (Sh.sl zj)->Sem (Sh.sl ze)->Sem ze)(c:Sem Q5->Sem (Sh.sl zj)->Sem (Sh.sl ze)->Bool):bX:=FF.add 174 (zR [Q5,Sh.sl zj,Sh.sl ze] [ze] (λx=>c x.1 x.2.1 x.2.2.1) λx=>(g x.1 x.2.1 x.2.2.1,()))
theorem Ku{g:Sem Q5->Sem (Sh.sl zj)->Sem (Sh.sl ze)->Sem ze}{c:Sem Q5->Sem (Sh.sl zj)->Sem (Sh.sl ze)->Bool}(hg:FK 174 (zR [Q5,Sh.sl zj,Sh.sl ze] [ze] (λx=>c x.1 x.2.1 x.2.2.1) λx=>(g x.1 x.2.1 x.2.2.1,()))):zx (AG g c):=rX.add hg
abbrev K0:Nat->aN:=λj=>if j=6 then{slots:=[1,2,3,6,7]}else{ }
inductive Dv where
 |h6 (l1:LC) (l2:LV) (i7:Int) (z0:zn [CP.d Q5]) (z1:zn [CP.d ze])
abbrev H4:Dv->Nat×St
 |.h6 l1 l2 i7 z0 z1=>(6,⟨tm 103 [(1,sl zj l1),(2,sl ze l2),(3,ptr 0 0),(6,ptr 1 0),(7,ai i7)],[AO.box (bC [] [CP.d Q5] z0),AO.box (bC [] [CP.d ze] z1)]⟩)
theorem zcP(g:Sem Q5->Sem zj.sl->Sem ze.sl->Sem ze)(c:Sem Q5->Sem zj.sl->Sem ze.sl->Bool):zJ (AG g c).P 174 Tryz.f174 3:=bQ kw
def oU(g:Sem Q5->Sem zj.sl->Sem ze.sl->Sem ze)(c:Sem Q5->Sem zj.sl->Sem ze.sl->Bool)(x0:Sem Q5)(x1:Sem zj.sl)(x2:Sem ze.sl):Tr (Dv⊕ar):=
 let a0:=zm ((zf.l x0).getD (toNat 0) (zi Q5))
 let a1:=g a0 x1 x2
 let a2:=EP a1
 let a3:=a1.1==0
 let a4:=aU a3
 let a5:=zm ((zf.l x0).getD (toNat 1) (zi Q5))
 let a6:=g a5 x1 x2
 let a7:=EN a1 a6
 let a8:=Pc a1 a6
 let a9:=qf a1 a6
 let a10:=wm a1 a6
 let a11:=wn a1 a6
 let a12:=qh a1 a6
 br (zf.op x0==[108,105,116])
 (re (agg [ai (zf.v x0).1,ai (zf.v x0).2.1,str (zf.v x0).2.2]) [])
 (br (zf.op x0==[99,111,108]) (Tr.to (Dv.h6 x1 x2 0 (x0,()) ((0,0,[]),())))
  (chk (zN 0 (zf.l x0).length) (chk (c a0 x1 x2) (br (zf.op x0==[110,111,116]) (chk (Gn a1) (re (agg [ai a2.1,ai a2.2.1,str a2.2.2]) [])) (br (zf.op x0==[110,117,108,108]) (chk (lP a1) (br (!rB a1) (chk Q3
  (re (agg [ai (aU Q3).1,ai (aU Q3).2.1,str (aU Q3).2.2]) [])) (chk (kM a3) (re (agg [ai a4.1,ai a4.2.1,str a4.2.2]) [])))) (chk (zN 1 (zf.l x0).length) (chk (c a5 x1 x2) (br (zf.op x0==[97,110,100])
  (chk (Gk a1 a6) (re (agg [ai a7.1,ai a7.2.1,str a7.2.2]) [])) (br (zf.op x0==[111,114]) (chk (Nj a1 a6) (re (agg [ai a8.1,ai a8.2.1,str a8.2.2]) [])) (br (zf.op x0==[61]) (chk (tU a1 a6) (re (agg [ai a9.1,ai a9.2.1,str a9.2.2]) [])) (br (zf.op x0==[60])
  (chk (yq a1 a6) (re (agg [ai a10.1,ai a10.2.1,str a10.2.2]) [])) (br (zf.op x0==[43]) (chk (yr a1 a6) (re (agg [ai a11.1,ai a11.2.1,str a11.2.2]) [])) (chk (tW a1 a6) (re (agg [ai a12.1,ai a12.2.1,str a12.2.2]) []))))))))))))))
theorem zbQ(g:Sem Q5->Sem zj.sl->Sem ze.sl->Sem ze)(c:Sem Q5->Sem zj.sl->Sem ze.sl->Bool)(x0:Sem Q5)(x1:Sem zj.sl)(x2:Sem ze.sl):rn (AG g c) 0 K0 Tryz.f174 [zF Q5 x0,zF zj.sl x1,zF ze.sl x2] []=(oU g c x0 x1 x2).map (lf Tryz.f174 H4):=kw
def xC(_:Sem Q5->Sem zj.sl->Sem ze.sl->Sem ze)(_:Sem Q5->Sem zj.sl->Sem ze.sl->Bool):Dv->Tr (Dv⊕ar)
 | .h6 l1 l2 i7 z0 z1=>
  let a0:=l1.getD i7.toNat (zi zj)
  let a1:=l2.getD i7.toNat (zi ze)
  br (Q0 (i7<(↑l1.length:Int)))
  (chk (zN i7 l1.length)
   (br (a0.1==zf.s z0.1) (br (Q0 (i7<(↑l2.length:Int))) (chk (zN i7 l2.length) (re (agg [ai a1.1,ai a1.2.1,str a1.2.2]) [])) (re (agg [ai 0,ai 0,str []]) [])) (Tr.to (Dv.h6 l1 l2 (IntKind.i64.wrap (i7+1)) z0 z1))))
  (re (agg [ai 0,ai 0,str []]) [])
theorem zc2(g:Sem Q5->Sem zj.sl->Sem ze.sl->Sem ze)(c:Sem Q5->Sem zj.sl->Sem ze.sl->Bool):∀s,run (AG g c) 0 K0 (Func.results Tryz.f174).toList 400 (ae Tryz.f174 (H4 s).1) (H4 s).2=(xC g c s).map (lf Tryz.f174 H4)
 |.h6 l1 l2 i7 z0 z1=>by kernel_rfl
def gD(o:Option (zy (List.map Q1 [ze]))):Sem ze:=(λr:zy (List.map Q1 [ze])=>r.1) (o.getD (cw [ze]))
def Nl(g:Sem Q5->Sem zj.sl->Sem ze.sl->Sem ze)(c:Sem Q5->Sem zj.sl->Sem ze.sl->Bool)(x0:Sem Q5)(x1:Sem zj.sl)(x2:Sem ze.sl):Option (zy (List.map Q1 [ze])):=ao [ze] (xC g c) 100000000 (oU g c x0 x1 x2)
def cg:Nat->Sem Q5->Sem zj.sl->Sem ze.sl->Option (zy (List.map Q1 [ze]))
 |0=>λ_ _ _=>Q2
 |n+1=>Nl (λx0 x1 x2=>gD (cg n x0 x1 x2)) λx0 x1 x2=>(cg n x0 x1 x2).isSome
theorem R7:zJ FF.P 174 Tryz.f174 3:=bQ kw
theorem Hy:∀n,FK 174 (zR [Q5,zj.sl,ze.sl] [ze] (λx=>(cg n x.1 x.2.1 x.2.2.1).isSome) λx=>(gD (cg n x.1 x.2.1 x.2.2.1),()))
 |0=>fq ⟨Tryz.f174,R7.1,R7.2.1,R7.2.2.1⟩ (λ_=>rfl)
 |n+1=>lH (E:=AG (λx0 x1 x2=>gD (cg n x0 x1 x2)) (λx0 x1 x2=>(cg n x0 x1 x2).isSome)) (ks:=[Q5,zj.sl,ze.sl]) (outs:=[ze]) (keep:=K0) (gas:=400) (n:=100000000) (e:=H4) (t:=xC (λx0 x1 x2=>gD (cg n x0 x1 x2)) (λx0 x1 x2=>(cg n x0 x1 x2).isSome)) (i:=λx=>oU (λx0 x1 x2=>gD (cg n x0 x1 x2)) (λx0 x1 x2=>(cg n x0 x1 x2).isSome) x.1 x.2.1 x.2.2.1) (Ku (Hy n)) (zcP _ _) (λx=>zbQ _ _ x.1 x.2.1 x.2.2.1) (zc2 _ _) (λ_=>by kernel_rfl) (λ_=>by kernel_rfl)
def yz(x0:Sem Q5)(x1:Sem zj.sl)(x2:Sem ze.sl):Option (zy (List.map Q1 [ze])):=cg 16 x0 x1 x2
def yx(x0:Sem Q5)(x1:Sem zj.sl)(x2:Sem ze.sl):Bool:=(yz x0 x1 x2).isSome
def Gr(x0:Sem Q5)(x1:Sem zj.sl)(x2:Sem ze.sl):Sem ze:=gD (yz x0 x1 x2)
def Xt:zY:=zR [Q5,zj.sl,ze.sl] [ze] (λx=>yx x.1 x.2.1 x.2.2.1) λx=>(Gr x.1 x.2.1 x.2.2.1,())
theorem UF:FK 174 Xt:=Hy 16
abbrev zh7:=lV [(5,[1,3,4]),(11,[1,3,6]),(16,[1,3,7])]
inductive C9 where
 |h5 (i3:Int) (i4:Int) (z0:zn [CP.d zo])
 |h11 (i3:Int) (i6:Int) (z0:zn [CP.d zo])
 |h16 (i3:Int) (i7:Int) (z0:zn [CP.d zo])
abbrev zkG:C9->Nat×St
 |.h5 i3 i4 z0=>(5,⟨tm 139 [(1,ptr 0 0),(3,ai i3),(4,ai i4)],[AO.box (bC [] [CP.d zo] z0)]⟩)
 |.h11 i3 i6 z0=>(11,⟨tm 139 [(1,ptr 0 0),(3,ai i3),(6,ai i6)],[AO.box (bC [] [CP.d zo] z0)]⟩)
 |.h16 i3 i7 z0=>(16,⟨tm 139 [(1,ptr 0 0),(3,ai i3),(7,ai i7)],[AO.box (bC [] [CP.d zo] z0)]⟩)
def zcm(x0:Sem zo):Tr (C9⊕ar):=
 let a0:=(↑(length x0.2.1):Int)
 let a1:=Q0 (a0<1)
 let a2:=Q0 (a0>8)
 let a3:=Q0 (x0.2.2.1<0)
 let a4:=Q0 (x0.2.2.1>=a0)
 let a5:=getD x0.2.1 (toNat x0.2.2.1) (zi zj)
 chk
 (dD x0.1&&
  bif !bp x0.1 then Q3
  else bif a1 then Q3 else bif a2 then Q3 else bif a3 then Q3 else bif a4 then Q3 else zN x0.2.2.1 (length x0.2.1))
 (br (bif !bp x0.1 then Q3 else bif a1 then Q3 else bif a2 then Q3 else bif a3 then Q3 else bif a4 then Q3 else !a5.2.2)
  (re (kb Q4) []) (Tr.to (C9.h5 a0 0 (x0,()))))
def qY:C9->Tr (C9⊕ar)
 | .h5 i3 i4 z0=>
  let a0:=getD z0.1.2.1 i4.toNat (zi zj)
  let a1:=!bp a0.1
  let a2:=Q0 (a0.2.1<1)
  let a3:=Q0 (a0.2.1>3)
  br (Q0 (i4<i3))
  (chk (zN i4 (length z0.1.2.1))
   (chk (dD a0.1&&bif a1 then Q3 else bif a2 then Q3 else bif a3 then Q3 else dz z0.1.2.1 a0.1) (br (bif a1 then Q3 else bif a2 then Q3 else bif a3 then Q3 else eH z0.1.2.1 a0.1!=i4) (re (kb Q4) []) (Tr.to (C9.h5 i3 (IntKind.i64.wrap (i4+1)) z0)))))
  (Tr.to (C9.h11 i3 0 z0))
 | .h11 i3 i6 z0=>
  let a0:=(↑(length z0.1.2.2.2.1):Int)
  let a1:=zN i6 (length z0.1.2.2.2.1)
  let a2:=getD z0.1.2.2.2.1 i6.toNat (zi zg)
  let a3:=Q0 (a2<0)
  br (Q0 (i6<a0))
  (chk (a1&&bif a3 then Q3 else a1)
   (br (bif a3 then Q3 else Q0 (a2>=i3)) (re (kb Q4) []) (Tr.to (C9.h11 i3 (IntKind.i64.wrap (i6+1)) z0))))
  (Tr.to (C9.h16 i3 0 z0))
 | .h16 i3 i7 z0=>
  let a0:=(↑(length z0.1.t.1):Int)
  let a1:=zN i7 (length z0.1.t.1)
  let a2:=getD z0.1.t.1 i7.toNat (zi zr)
  let a3:=Q0 (a2.1<0)
  let a4:=Q0 (a2.1>=i3)
  let a5:=zm z0.1.t.2
  br (Q0 (i7<a0))
  (chk (a1&&bif a3 then Q3 else a1&&bif a4 then Q3 else a1&&dD a2.2)
   (br (bif a3 then Q3 else bif a4 then Q3 else !bp a2.2) (re (kb Q4) []) (Tr.to (C9.h16 i3 (IntKind.i64.wrap (i7+1)) z0))))
  (chk (B2 a5 z0.1.2.1) (re (AV.bool (GB a5 z0.1.2.1==0)) []))
def GA(x0:Sem zo):=ao [Sh.bool] qY 100000000 (zcm x0)
def wq(x0:Sem zo):=(GA x0).isSome
def EX(x0:Sem zo):=o1 (GA x0)
def zeJ:=FT [zo] [Sh.bool] λx=>GA x.1
theorem zaP:FK 127 zeJ:=rX.T1 (f:=Tryz.f127) (keep:=zh7) (e:=zkG)
def QV:=FF.addL [(174,Xt),(127,zeJ)]
theorem kz:zx QV:=rX.addL<|fc UF<|fc zaP iV
end
mutual
def rL:zf->Prop
 |.mk _ v s l=>lL v/\s.length<=1000000/\jQ l
def jQ:List zf->Prop
 |[]=>True
 |e::r=>rL e/\jQ r
end
theorem jQ.mem:∀{l:List zf},jQ l->∀e∈l,rL e
 |[],_,e,h=>by simp at h
 | x::r,h,e,he=>by
  rw[jQ]at h;rcases cm.1 he with rfl|he
  ·exact h.1
  ·exact jQ.mem h.2 e he
def Do(op:zB):Bool:=bif op==[97,110,100]then Q3 else bif op==[111,114]then Q3 else bif op==[61]then Q3 else bif op==[60]then Q3 else bif op==[43]then Q3 else op==[45]
theorem Jq(s:zB):Lu s=Q1 (Do s,()):=rfl
theorem TH(s:zB):Gy s=Q3:=by unfold Gy;rw[Jq];rfl
theorem WT(s:zB):No s=Do s:=by unfold No;rw[Jq];rfl
def ch:Nat->zf->Bool
 |0,_=>Q4
 | d+1,.mk op v s l=>
  if(op==[108,105,116])=Q3 then(bif aW v then bif s==[]then(l.length:Int)==0 else Q4 else Q4)else
  if(op==[99,111,108])=Q3 then(bif aY v then bif dT s then bif !iZ s then(l.length:Int)==0 else Q4 else Q4 else Q4)else
  if(bif op==[110,111,116]then Q3 else op==[110,117,108,108])=Q3 then(bif aY v then bif s==[]then(match l with|[a]=>ch d a|_=>Q4)else Q4 else Q4)else
  if Do op=Q3 then(bif aY v then bif s==[]then(match l with|[a,b]=>bif ch d a then ch d b else Q4|_=>Q4)else Q4 else Q4)else Q4
def nE:Nat->zf->Nat
 |0,_=>0
 |d+1,.mk _ _ _ l=>1+(l.map (nE d)).sum
theorem PK(d:Nat)(h:d<=1000):IntKind.i64.wrap (((d+1:Nat):Int)-1)=(d:Int):=pF d um
theorem EV:∀(N d:Nat)(e:zf),d<=12->d<N->rL e->fK N e (d:Int)=Q1 (ch d e,())
 |0,_,_,_,h,_=>absurd h ow
 | N+1,0,e,_,_,_=>by
  rw[fK];unfold Gx ao cX;rfl
 | N+1,d+1,.mk op v s l,h1,h2,hw=>by
  rw[rL]at hw;obtain⟨hv,hs,hl⟩:=hw;have hN:∀a∈l,fK N a (d:Int)=Q1 (ch d a,()):=λa ha=>EV N d a ow ow (hl.mem a ha)
  rw[fK];unfold Gx ao cX;have hx:(((d+1:Nat):Int)==0)=Q4:=bU.2 ow;simp only[MI,Q8,zk,zf.op,zf.v,zf.s,zf.l,kL hv.2.2,nl hv.2.2,wt hs,Ca hs,JA,Nr,TH,WT,PK d ow,if_true,hx]
  match l,hN with
  | [],_=>
   simp only[ch,aY];rcases zG (op==[108,105,116])with c1|c1
   ·rcases zG (aW v)with c5|c5<;>rcases zG (s==[])with c6|c6<;>(simp only[c1,c5,c6,ah,ay,if_true,if_false,zE,dH];rfl)
   rcases zG (op==[99,111,108])with c2|c2
   ·rcases zG (aY v)with c5|c5<;>rcases zG (dT s)with c6|c6<;>rcases zG (iZ s)with c7|c7<;>(simp only[aY]at c5;simp only[c1,c2,c5,c6,c7,ah,ay,if_true,if_false,zE,dH,bK,cQ];rfl)
   rcases zG (bif op==[110,111,116]then Q3 else op==[110,117,108,108])with c3|c3
   ·rcases zG (aY v)with c5|c5<;>rcases zG (s==[])with c6|c6<;>(simp only[aY]at c5;simp only[c1,c2,c3,c5,c6,ah,ay,if_true,if_false,zE,dH];rfl)
   rcases zG (Do op)with c4|c4
   ·rcases zG (aY v)with c5|c5<;>rcases zG (s==[])with c6|c6<;>(simp only[aY]at c5;simp only[c1,c2,c3,c4,c5,c6,ah,ay,if_true,if_false,zE,dH];rfl)
   ·simp only[c1,c2,c3,c4,if_false,zE,dH];rfl
  | [a],hN=>
   have ha:=hN a sw;simp only[ch,aY,show getD [a] (toNat 0) (zi Q5)=a from rfl,ha,show zN 0 [a].length=Q3 from rfl,DF,show∀x,nu (Q1 (x,()))=x from λ_=>rfl];rcases zG (op==[108,105,116])with c1|c1
   ·rcases zG (aW v)with c5|c5<;>rcases zG (s==[])with c6|c6<;>(simp only[c1,c5,c6,ah,ay,if_true,if_false,zE,dH];rfl)
   rcases zG (op==[99,111,108])with c2|c2
   ·rcases zG (aY v)with c5|c5<;>rcases zG (dT s)with c6|c6<;>rcases zG (iZ s)with c7|c7<;>(simp only[aY]at c5;simp only[c1,c2,c5,c6,c7,ah,ay,if_true,if_false,zE,dH,bK,cQ];rfl)
   rcases zG (bif op==[110,111,116]then Q3 else op==[110,117,108,108])with c3|c3
   ·rcases zG (aY v)with c5|c5<;>rcases zG (s==[])with c6|c6<;>rcases zG (ch d a)with c7|c7<;>(simp only[aY]at c5;simp only[c1,c2,c3,c5,c6,c7,ah,ay,if_true,if_false,zE,dH];rfl)
   rcases zG (Do op)with c4|c4
   ·rcases zG (aY v)with c5|c5<;>rcases zG (s==[])with c6|c6<;>rcases zG (ch d a)with c7|c7<;>(simp only[aY]at c5;simp only[c1,c2,c3,c4,c5,c6,c7,ah,ay,if_true,if_false,zE,dH];rfl)
   ·simp only[c1,c2,c3,c4,if_false,zE,dH];rfl
  | [a,b],hN=>
   have ha:=hN a sw;have hb:=hN b sw;simp only[ch,aY,show getD [a,b] (toNat 0) (zi Q5)=a from rfl,show getD [a,b] (toNat 1) (zi Q5)=b from rfl,ha,hb,show zN 0 [a,b].length=Q3 from rfl,show zN 1 [a,b].length=Q3 from rfl,DF,show∀x,nu (Q1 (x,()))=x from λ_=>rfl];rcases zG (op==[108,105,116])with c1|c1
   ·rcases zG (aW v)with c5|c5<;>rcases zG (s==[])with c6|c6<;>(simp only[c1,c5,c6,ah,ay,if_true,if_false,zE,dH];rfl)
   rcases zG (op==[99,111,108])with c2|c2
   ·rcases zG (aY v)with c5|c5<;>rcases zG (dT s)with c6|c6<;>rcases zG (iZ s)with c7|c7<;>(simp only[aY]at c5;simp only[c1,c2,c5,c6,c7,ah,ay,if_true,if_false,zE,dH,bK,cQ];rfl)
   rcases zG (bif op==[110,111,116]then Q3 else op==[110,117,108,108])with c3|c3
   ·rcases zG (aY v)with c5|c5<;>rcases zG (s==[])with c6|c6<;>rcases zG (ch d a)with c7|c7<;>rcases zG (ch d b)with c8|c8<;>(simp only[aY]at c5;simp only[c1,c2,c3,c5,c6,c7,c8,ah,ay,if_true,if_false,zE,dH];rfl)
   rcases zG (Do op)with c4|c4
   ·rcases zG (aY v)with c5|c5<;>rcases zG (s==[])with c6|c6<;>rcases zG (ch d a)with c7|c7<;>rcases zG (ch d b)with c8|c8<;>(simp only[aY]at c5;simp only[c1,c2,c3,c4,c5,c6,c7,c8,ah,ay,if_true,if_false,zE,dH];rfl)
   ·simp only[c1,c2,c3,c4,if_false,zE,dH];rfl
  | a::b::c::r,_=>
   have e0:((((a::b::c::r).length:Nat):Int)==0)=Q4:=bU.2 sg;have e1:((((a::b::c::r).length:Nat):Int)==1)=Q4:=bU.2 sg;have e2:((((a::b::c::r).length:Nat):Int)==2)=Q4:=bU.2 sg;simp only[ch,aY,e0,e1,e2];rcases zG (op==[108,105,116])with c1|c1
   ·rcases zG (aW v)with c5|c5<;>rcases zG (s==[])with c6|c6<;>(simp only[c1,c5,c6,ah,ay,if_true,if_false,zE,dH];rfl)
   rcases zG (op==[99,111,108])with c2|c2
   ·rcases zG (aY v)with c5|c5<;>rcases zG (dT s)with c6|c6<;>rcases zG (iZ s)with c7|c7<;>(simp only[aY]at c5;simp only[c1,c2,c5,c6,c7,ah,ay,if_true,if_false,zE,dH,bK,cQ];rfl)
   rcases zG (bif op==[110,111,116]then Q3 else op==[110,117,108,108])with c3|c3
   ·rcases zG (aY v)with c5|c5<;>rcases zG (s==[])with c6|c6<;>(simp only[aY]at c5;simp only[c1,c2,c3,c5,c6,ah,ay,if_true,if_false,zE,dH];rfl)
   rcases zG (Do op)with c4|c4
   ·rcases zG (aY v)with c5|c5<;>rcases zG (s==[])with c6|c6<;>(simp only[aY]at c5;simp only[c1,c2,c3,c4,c5,c6,ah,ay,if_true,if_false,zE,dH];rfl)
   ·simp only[c1,c2,c3,c4,ay,if_false,zE,dH];rfl
theorem Py{op:zB}(h:Do op=Q3):op=[97,110,100]\/op=[111,114]\/op=[61]\/op=[60]\/op=[43]\/op=[45]:=by
 unfold Do at h;rcases zG (op==[97,110,100])with c|c
 ·exact .inl (bE c)
 rcases zG (op==[111,114])with c2|c2
 ·exact .inr (.inl (bE c2))
 rcases zG (op==[61])with c3|c3
 ·exact .inr (.inr (.inl (bE c3)))
 rcases zG (op==[60])with c4|c4
 ·exact .inr (.inr (.inr (.inl (bE c4))))
 rcases zG (op==[43])with c5|c5
 ·exact .inr (.inr (.inr (.inr (.inl (bE c5)))))
 rcases zG (op==[45])with c6|c6
 ·exact .inr (.inr (.inr (.inr (.inr (bE c6)))))
 rw[c,c2,c3,c4,c5,c6]at h;cases h
inductive P2 (d:Nat):zf->Prop
 |lit (v:Int×Int×zB) (h:aW v=Q3):P2 d (.mk [108,105,116] v [] [])
 |col (s:zB) (h:dT s=Q3) (h2:iZ s=Q4):P2 d (.mk [99,111,108] (0,0,[]) s [])
 |one (op:zB) (a:zf) (h:op=[110,111,116]\/op=[110,117,108,108]) (ha:ch d a=Q3):P2 d (.mk op (0,0,[]) [] [a])
 |two (op:zB) (a b:zf) (h:op=[97,110,100]\/op=[111,114]\/op=[61]\/op=[60]\/op=[43]\/op=[45]) (ha:ch d a=Q3) (hb:ch d b=Q3):P2 d (.mk op (0,0,[]) [] [a,b])
theorem Bj{v:Int×Int×zB}(h:aY v=Q3):v=(0,0,[]):=by
 obtain⟨a,b,c⟩:=v;unfold aY at h;simp at h;obtain⟨rfl,rfl,rfl⟩:=h;rfl
theorem cn{a b:Bool}(h:(bif a then b else Q4)=Q3):a=Q3/\b=Q3:=by
 cases a<;>cases b<;>simp_all
theorem O2{op:zB}(h:(bif op==[110,111,116]then Q3 else op==[110,117,108,108])=Q3):op=[110,111,116]\/op=[110,117,108,108]:=by
 rcases zG (op==[110,111,116])with k|k
 ·exact .inl (bE k)
 ·rw[k]at h;exact .inr (bE h)
theorem fA{d:Nat}:∀{e:zf},ch (d+1) e=Q3->P2 d e
 | .mk op v s [],h=>by
  simp only[ch]at h;split at h
  ·rename_i c;obtain⟨h1,h2⟩:=cn h;obtain⟨h3,h4⟩:=cn h2;rw[bE c,bE h3];exact .lit v h1
  split at h
  ·rename_i c;obtain⟨h1,h2⟩:=cn h;obtain⟨h3,h4⟩:=cn h2;obtain⟨h5,h6⟩:=cn h4;rw[bE c,Bj h1];exact .col s h3 (by simpa using h5)
  split at h
  ·cases hh:aY v<;>cases hs:(s==[])<;>simp[hh,hs]at h
  split at h
  ·cases hh:aY v<;>cases hs:(s==[])<;>simp[hh,hs]at h
  ·cases h
 | .mk op v s [a],h=>by
  simp only[ch]at h;split at h
  ·cases hh:aW v<;>cases hs:(s==[])<;>simp[hh,hs]at h
  split at h
  ·cases hh:aY v<;>cases hs:dT s<;>cases hr:iZ s<;>simp[hh,hs,hr]at h
  split at h
  ·rename_i c;obtain⟨h1,h2⟩:=cn h;obtain⟨h3,h4⟩:=cn h2;rw[bE h3,Bj h1];exact .one op a (O2 c) h4
  split at h
  ·cases hh:aY v<;>cases hs:(s==[])<;>simp[hh,hs]at h
  ·cases h
 | .mk op v s [a,b],h=>by
  simp only[ch]at h;split at h
  ·cases hh:aW v<;>cases hs:(s==[])<;>simp[hh,hs]at h
  split at h
  ·cases hh:aY v<;>cases hs:dT s<;>cases hr:iZ s<;>simp[hh,hs,hr]at h
  split at h
  ·cases hh:aY v<;>cases hs:(s==[])<;>simp[hh,hs]at h
  split at h
  ·rename_i c;obtain⟨h1,h2⟩:=cn h;obtain⟨h3,h4⟩:=cn h2;obtain⟨ha,hb⟩:=cn h4;rw[bE h3,Bj h1];exact .two op a b (Py c) ha hb
  ·cases h
 | .mk op v s (a::b::c::r),h=>by
  have e0:((((a::b::c::r).length:Nat):Int)==0)=Q4:=bU.2 sg;simp only[ch,e0]at h;split at h
  ·cases hh:aW v<;>cases hs:(s==[])<;>simp[hh,hs]at h
  split at h
  ·cases hh:aY v<;>cases hs:dT s<;>cases hr:iZ s<;>simp[hh,hs,hr]at h
  split at h
  ·cases hh:aY v<;>cases hs:(s==[])<;>simp[hh,hs]at h
  split at h
  ·cases hh:aY v<;>cases hs:(s==[])<;>simp[hh,hs]at h
  ·cases h
theorem rx:∀(d:Nat)(e:zf),ch d e=Q3->nE d e+1<=2^d
 |0,_,h=>by cases h
 | d+1,e,h=>by
  have h2:0<2^d:=Nat.two_pow_pos d;cases fA h with
  |lit v h=>simp[nE,Aq];omega
  |col s h h2=>simp[nE,Aq];omega
  |one op a h ha=>have:=rx d a ha;simp[nE,Aq];omega
  |two op a b h ha hb=>have:=rx d a ha;have:=rx d b hb;simp[nE,Aq];omega
theorem zcM{d:Nat}{e:zf}(h:ch d e=Q3):1<=nE d e:=by
 cases d with
 |zero=>cases h
 | succ d=>
  obtain⟨op,v,s,l⟩:=e;rw[nE];omega
theorem Ur{n:Nat}(h:n<=1000000):IntKind.i64.wrap (n:Int)=(n:Int):=by
 rw[fR];omega
theorem nv:∀(N d:Nat)(e:zf),d<=12->d<=N->ch d e=Q3->cr N e=Q1 ((nE d e:Int),())
 |_,0,_,_,_,h=>by cases h
 |0,d+1,_,_,h,_=>absurd h ow
 | N+1,d+1,e,h1,h2,h=>by
  have hp:2^(d+1)<=2^12:=DD ow ow;have hle:=rx (d+1) e h
  have hstep:∀(e:zf)(i:Nat)(n k:Nat)(hi:i<(zf.l e).length),cr N (zf.l e)[i]=Q1 ((k:Int),())->n+k<=1000000->i<=1000->
    (CH (λx0=>iw (cr N x0)) (λx0=>(cr N x0).isSome) (.h3 (n:Int) (i:Int) (e,()))).val=Q1 (.inl (.h3 ((n+k:Nat):Int) ((i+1:Nat):Int) (e,()))):=by
   intro e i n k hi k1 k2 k3;have g0:getD (zf.l e) (i:Int).toNat (zi Q5)=(zf.l e)[i]:=zO _ _ hi;simp only[CH,Hb,CI,Q8,g0,zk,k1,zH hi,zt hi,DF,if_true];show Q1 (Sum.inl (sM.h3 (IntKind.i64.wrap ((n:Int)+(k:Int))) _ _))=_;rw[zp i um,<-sT,Ur k2]
  have hend:∀(e:zf)(n:Nat),(CH (λx0=>iw (cr N x0)) (λx0=>(cr N x0).isSome) (.h3 (n:Int) ((zf.l e).length:Int) (e,()))).val=Q1 (.inr (.int .i64 n,[])):=by
   intro e n;simp only[CH,Hb,CI,Q8,zA];rfl
  have hgo:∀e,(MJ (λx0=>iw (cr N x0)) (λx0=>(cr N x0).isSome) e).val=Q1 (.inl (.h3 ((1:Nat):Int) ((0:Nat):Int) (e,()))):=λ_=>rfl
  rw[cr];unfold Jp;cases fA h with
  |lit v h=>exact zw (hgo _) (zT.of (hend _ 1)) ow rfl
  |col s h h2=>exact zw (hgo _) (zT.of (hend _ 1)) ow rfl
  | one op a h ha=>
   have ka:=nv N d a ow ow ha;have l1:=rx d a ha;have p1:2^d<=2^12:=DD ow ow;refine zw (hgo _) ((zP.of (hstep (.mk op (0,0,[]) [] [a]) 0 1 (nE d a) (by simp[zf.l]) ka ow ow)).ends (zT.of (hend (.mk op (0,0,[]) [] [a]) _))) ow ?_;simp[nE];rfl
  | two op a b h ha hb=>
   have ka:=nv N d a ow ow ha;have kb:=nv N d b ow ow hb;have l1:=rx d a ha;have l2:=rx d b hb;have p1:2^d<=2^12:=DD ow ow;refine zw (hgo _) ((zP.of (hstep (.mk op (0,0,[]) [] [a,b]) 0 1 (nE d a) (by simp[zf.l]) ka ow ow)).ends ((zP.of (hstep (.mk op (0,0,[]) [] [a,b]) 1 (1+nE d a) (nE d b) (by simp[zf.l]) kb ow ow)).ends (zT.of (hend (.mk op (0,0,[]) [] [a,b]) _)))) ow ?_;simp[nE,Nat.add_assoc];rfl
theorem qa:∀(N k:Nat)(e:zf)(n:Nat),k<=12->k<=N->ch k e=Q3->n+nE k e<=60->ia N e ((13:Int)-k) n=(Q3,((n+nE k e:Nat):Int))
 |_,0,_,_,_,_,h,_=>by cases h
 |0,k+1,_,_,_,h,_,_=>absurd h ow
 | N+1,k+1,e,n,h1,h2,h,h3=>by
  rw[ia];unfold xN;have w1:IntKind.i64.wrap ((n:Int)+1)=((n+1:Nat):Int):=zp n um;have w2:IntKind.i64.wrap ((13:Int)-((k+1:Nat):Int)+1)=(13:Int)-(k:Int):=by rw[fR];omega
  have d1:Q0 ((13:Int)-((k+1:Nat):Int)>12)=Q4:=aj ow;have hpos:=zcM h;have d2:Q0 (((n+1:Nat):Int)>60)=Q4:=aj ow;rw[w1,d1,d2];cases fA h with
  |lit v hv=>simp[zf.op,zf.l,zf.s,zf.v,cK,xu,ND,hv,nE]
  |col s hw h2=>simp[zf.op,zf.l,zf.s,zf.v,cK,xu,ND,hw,h2,nE,aY]
  | one op a ho ha=>
   have hn:n+1+nE k a<=60:=by simp[nE]at h3;omega
   have ka:=qa N k a (n+1) ow ow ha hn;have hs:((n+nE (k+1) (.mk op (0,0,[]) [] [a]):Nat):Int)=((n+1+nE k a:Nat):Int):=by simp[nE];omega
   rw[hs]
   push_cast at*
   rcases ho with rfl|rfl<;>simp[zf.op,zf.l,zf.s,zf.v,cK,xu,ND,aY,om,w2,ka]
  | two op a b ho ha hb=>
   have hn:n+1+nE k a+nE k b<=60:=by simp[nE]at h3;omega
   have ka:=qa N k a (n+1) ow ow ha ow;have kb:=qa N k b (n+1+nE k a) ow ow hb hn;have hs:((n+nE (k+1) (.mk op (0,0,[]) [] [a,b]):Nat):Int)=((n+1+nE k a+nE k b:Nat):Int):=by simp[nE];omega
   rw[hs]
   push_cast at*
   rcases ho with rfl|rfl|rfl|rfl|rfl|rfl<;>simp[zf.op,zf.l,zf.s,zf.v,cK,xu,ND,aY,om,w2,ka,kb]
theorem mh{α:Type}{p:α->Bool}{d:α}:∀(l:List α)(k i:Nat),i<l.length->p (l.getD i d)=Q3->(∀j,j<i->p (l.getD j d)=Q4)->zU p l k=((k+i:Nat):Int)
 |[],_,_,h,_,_=>by simp at h
 | x::r,k,0,_,hp,_=>by
  rw[zU,if_pos (by simpa using hp)];rfl
 | x::r,k,i+1,h,hp,hj=>by
  have h0:=hj 0 ow;rw[zU,if_neg (by rw[show p x=Q4 by simpa using h0];simp),mh r (k+1) i (by simpa using h) (by simpa using hp) (λj hj2=>by simpa using hj (j+1) ow)];congr 1;omega
theorem mi{α:Type}{p:α->Bool}{d:α}:∀(l:List α)(k:Nat),(∀j,j<l.length->p (l.getD j d)=Q4)->zU p l k=-1
 |[],_,_=>rfl
 | x::r,k,hj=>by
  have h0:=hj 0 sw;rw[zU,if_neg (by rw[show p x=Q4 by simpa using h0];simp)];exact mi (d:=d) r (k+1) (λj h=>by simpa using hj (j+1) (by simpa using h))
theorem B1{cols:List (Sem zj)}{s:zB}(hl:cols.length<=1000000):BZ cols s=Q1 (af cols s,()):=by
 have hf:=lI (t:=L0) (Φ:=λr=>r=(.int .i64 (af cols s),[])) 1 (λi=>.h2 cols s (i:Int)) (λi=>((getD cols i (zi zj)).1==s)=Q4) cols.length (by
  intro i hi hj;have hv:(L0 (.h2 cols s (i:Int))).val=if((getD cols i (zi zj)).1==s)=Q3 then Q1 (.inr (.int .i64 i,[]))else Q1 (.inl (.h2 cols s ((i+1:Nat):Int))):=by
   simp only[L0,L1,Hg,Q8,zH hi,zt hi,aK,if_true];rw[zp i um]
  rcases zG ((getD cols i (zi zj)).1==s)with h|h
  ·refine .inr ⟨by rw[h];simp,_,zT.of (by rw[hv,if_pos h]),?_⟩;have:=mh (p:=λc:Sem zj=>c.1==s) (d:=zi zj) cols 0 i hi h hj;rw[show af cols s=(i:Int) by unfold af;rw[this];simp]
  ·exact .inl ⟨h,zP.of (by rw[hv,if_neg (by rw[h];simp)])⟩)
 have hi:(Wi cols s).val=Q1 (.inl (.h2 cols s ((0:Nat):Int))):=rfl;rcases hf with⟨h1,h2⟩|⟨h1,r,h2,rfl⟩
 ·have:=mi (p:=λc:Sem zj=>c.1==s) (d:=zi zj) cols 0 h1;rw[show af cols s=(-1:Int)from this];refine zw hi (h2.ends (zT.of (r:=(.int .i64 (-1),[])) ?_)) ow rfl;simp only[L0,L1,Hg,Q8,zA];rfl
 ·exact zw hi h2 ow rfl
theorem iX{cols:List (Sem zj)}{s:zB}(hl:cols.length<=1000000):dz cols s=Q3:=by unfold dz;rw[B1 hl];rfl
theorem ke{cols:List (Sem zj)}{s:zB}(hl:cols.length<=1000000):eH cols s=af cols s:=by unfold eH;rw[B1 hl];rfl
theorem Ql(t u:Int):lN [t] u=!(bif t !=u then t !=0 else Q4):=by
 unfold lN;simp only[zU];rcases zG (bif t !=u then t !=0 else Q4)with h|h<;>simp[h]
theorem sU(t t' u:Int):lN [t,t'] u=!(bif (bif t !=u then t !=0 else Q4)then Q3 else(bif t' !=u then t' !=0 else Q4)):=by
 unfold lN;simp only[zU];rcases zG (bif t !=u then t !=0 else Q4)with h|h<;>rcases zG (bif t' !=u then t' !=0 else Q4)with h'|h'<;>simp[h,h']
theorem Lt{g c}{cols:List (Sem zj)}{e:zf}(hl:cols.length<=1000000):∃r k,zT (JY g c) k (.h5 cols ((0:Nat):Int) (e,())) r/\k<=100000000/\aM r.2 [zg,zg] r.1=Q1 (if Q0 (LT.lt (α:=Int) (af cols (zf.s e)) 0)=Q3 then((0:Int),(4:Int),())else((getD cols (toNat (af cols (zf.s e))) (zi zj)).2.1,(0:Int),())):=by
 have hf:=lI (t:=JY g c) (Φ:=λr=>aM r.2 [zg,zg] r.1=Q1 (if Q0 (LT.lt (α:=Int) (af cols (zf.s e)) 0)=Q3 then((0:Int),(4:Int),())else((getD cols (toNat (af cols (zf.s e))) (zi zj)).2.1,(0:Int),()))) 1 (λi=>.h5 cols (i:Int) (e,())) (λi=>((getD cols i (zi zj)).1==zf.s e)=Q4) cols.length (by
  intro i hi hj;have hv:(JY g c (.h5 cols (i:Int) (e,()))).val=if((getD cols i (zi zj)).1==zf.s e)=Q3 then Q1 (.inr (.tup [.int .i64 (getD cols i (zi zj)).2.1,.int .i64 0],[]))else Q1 (.inl (.h5 cols ((i+1:Nat):Int) (e,()))):=by
   simp only[JY,Q8,zH hi,zt hi,aK,if_true];rw[zp i um]
  rcases zG ((getD cols i (zi zj)).1==zf.s e)with h|h
  ·refine .inr ⟨by rw[h];simp,_,zT.of (by rw[hv,if_pos h]),?_⟩;have:=mh (p:=λc:Sem zj=>c.1==zf.s e) (d:=zi zj) cols 0 i hi h hj;rw[show af cols (zf.s e)=(i:Int) by unfold af;rw[this];simp,if_neg (by rw[aO];omega),aK];rfl
  ·exact .inl ⟨h,zP.of (by rw[hv,if_neg (by rw[h];simp)])⟩)
 rcases hf with⟨h1,h2⟩|⟨h1,r,h2,h3⟩
 ·have:=mi (p:=λc:Sem zj=>c.1==zf.s e) (d:=zi zj) cols 0 h1;refine⟨(.tup [.int .i64 0,.int .i64 4],[]),_,h2.ends (zT.of ?_),ow,?_⟩
  ·simp only[JY,Q8,zA];rfl
  ·rw[show af cols (zf.s e)=(-1:Int)from this];rfl
 ·exact⟨r,_,h2,ow,h3⟩
theorem qu{cols:List (Sem zj)}(hl:cols.length<=1000000):∀(N d M:Nat)(e:zf),d<=N->d<=M->ch d e=Q3->bV N e cols=Q1 ((zM M e cols).1,(zM M e cols).2,())
 |_,0,_,_,_,_,h=>by cases h
 |0,d+1,_,_,h,_,_=>absurd h ow
 |_,d+1,0,_,_,h,_=>absurd h ow
 | N+1,d+1,M+1,e,h1,h2,h=>by
  rw[bV,zM];unfold Nn wG;cases fA h with
  |lit v hv=>rfl
  | col s hw hr=>
   obtain⟨r,k,k1,k2,k3⟩:=Lt (g:=λx0 x1=>fJ (bV N x0 x1)) (c:=λx0 x1=>(bV N x0 x1).isSome) (cols:=cols) (e:=.mk [99,111,108] (0,0,[]) s []) hl;refine zw Hw k1 k2 (k3.trans ?_);have e1:aG (zM M) (be M) cols [99,111,108] (0:Int) (0:Int) [] s [] [] 0 []=if Q0 (LT.lt (α:=Int) (af cols s) 0)=Q3 then((0:Int),(4:Int))else((getD cols (toNat (af cols s)) (zi zj)).2.1,(0:Int)):=rfl
   show _=Q1 ((aG (zM M) (be M) cols [99,111,108] (0:Int) (0:Int) [] s [] [] 0 []).1,(aG (zM M) (be M) cols [99,111,108] (0:Int) (0:Int) [] s [] [] 0 []).2,());rw[e1];show Q1 (if Q0 (LT.lt (α:=Int) (af cols s) 0)=Q3 then((0:Int),(4:Int),())else((getD cols (toNat (af cols s)) (zi zj)).2.1,(0:Int),()))=_;rcases zG (Q0 (LT.lt (α:=Int) (af cols s) 0))with c|c
   ·rw[if_pos c,if_pos c]
   ·rw[if_neg (by rw[c];simp),if_neg (by rw[c];simp)]
  | one op a ho ha=>
   have ka:=qu hl N d M a ow ow ha;unfold ao cX;generalize hg:(λx0 x1=>fJ (bV N x0 x1))=g;generalize hc:(λx0 x1=>(bV N x0 x1).isSome)=c;have g1:g a cols=zM M a cols:=by rw[<-hg];show fJ (bV N a cols)=_;rw[ka];rfl
   have c1:c a cols=Q3:=by rw[<-hc];show(bV N a cols).isSome=_;rw[ka];rfl
   rcases ho with rfl|rfl
   ·have e1:aG (zM M) (be M) cols [110,111,116] (0:Int) (0:Int) [] [] [a] [a] 0 []=if((zM M a cols).2!=0)=Q3 then((0:Int),(zM M a cols).2)else if(!lN [(zM M a cols).1] 3)=Q3 then((0:Int),(5:Int))else((3:Int),(0:Int)):=rfl
    show _=Q1 ((aG (zM M) (be M) cols [110,111,116] (0:Int) (0:Int) [] [] [a] [a] 0 []).1,(aG (zM M) (be M) cols [110,111,116] (0:Int) (0:Int) [] [] [a] [a] 0 []).2,());rw[e1,Ql];have e2:(Bi g c (.mk [110,111,116] (0,0,[]) [] [a]) cols).val=if c (zm a) cols=Q3 then(if((g (zm a) cols).2!=0)=Q3 then Q1 (.inr (.tup [.int .i64 0,.int .i64 (g (zm a) cols).2],[]))else if(bif (g (zm a) cols).1!=0 then bif (g (zm a) cols).1!=3 then Q3 else(bif (g (zm a) cols).1!=0 then(g (zm a) cols).1!=3 else Q4)else(bif (g (zm a) cols).1!=0 then(g (zm a) cols).1!=3 else Q4))=Q3 then Q1 (.inr (.tup [.int .i64 0,.int .i64 5],[]))else Q1 (.inr (.tup [.int .i64 3,.int .i64 0],[])))else Q2:=rfl
    rw[e2,zk,c1,g1];generalize zM M a cols=t;rcases zG (t.2!=0)with k1|k1<;>rcases zG (t.1!=0)with k2|k2<;>rcases zG (t.1!=3)with k3|k3<;>(simp only[k1,k2,k3,ah,ay,if_true,if_false,zE,bK,cQ];rfl)
   ·have e1:aG (zM M) (be M) cols [110,117,108,108] (0:Int) (0:Int) [] [] [a] [a] 0 []=if((zM M a cols).2!=0)=Q3 then((0:Int),(zM M a cols).2)else((3:Int),(0:Int)):=rfl
    show _=Q1 ((aG (zM M) (be M) cols [110,117,108,108] (0:Int) (0:Int) [] [] [a] [a] 0 []).1,(aG (zM M) (be M) cols [110,117,108,108] (0:Int) (0:Int) [] [] [a] [a] 0 []).2,());rw[e1];have e2:(Bi g c (.mk [110,117,108,108] (0,0,[]) [] [a]) cols).val=if c (zm a) cols=Q3 then(if((g (zm a) cols).2!=0)=Q3 then Q1 (.inr (.tup [.int .i64 0,.int .i64 (g (zm a) cols).2],[]))else Q1 (.inr (.tup [.int .i64 3,.int .i64 0],[])))else Q2:=rfl
    rw[e2,zk,c1,g1];generalize zM M a cols=t;rcases zG (t.2!=0)with k1|k1<;>(simp only[k1,if_true,if_false,zE];rfl)
  | two op a b ho ha hb=>
   have ka:=qu hl N d M a ow ow ha;have kb:=qu hl N d M b ow ow hb;unfold ao cX;generalize hg:(λx0 x1=>fJ (bV N x0 x1))=g;generalize hc:(λx0 x1=>(bV N x0 x1).isSome)=c;have g1:g a cols=zM M a cols:=by rw[<-hg];show fJ (bV N a cols)=_;rw[ka];rfl
   have c1:c a cols=Q3:=by rw[<-hc];show(bV N a cols).isSome=_;rw[ka];rfl
   have g2:g b cols=zM M b cols:=by rw[<-hg];show fJ (bV N b cols)=_;rw[kb];rfl
   have c2:c b cols=Q3:=by rw[<-hc];show(bV N b cols).isSome=_;rw[kb];rfl
   rcases ho with rfl|rfl|rfl|rfl|rfl|rfl
   ·have e1:aG (zM M) (be M) cols [97,110,100] (0:Int) (0:Int) [] [] [a,b] [a,b] 0 []=if((zM M a cols).2!=0)=Q3 then((0:Int),(zM M a cols).2)else if((zM M b cols).2!=0)=Q3 then((0:Int),(zM M b cols).2)else if(!lN [(zM M a cols).1,(zM M b cols).1] 3)=Q3 then((0:Int),(5:Int))else((3:Int),(0:Int)):=rfl
    show _=Q1 ((aG (zM M) (be M) cols [97,110,100] (0:Int) (0:Int) [] [] [a,b] [a,b] 0 []).1,(aG (zM M) (be M) cols [97,110,100] (0:Int) (0:Int) [] [] [a,b] [a,b] 0 []).2,());rw[e1,sU];have e2:(Bi g c (.mk [97,110,100] (0,0,[]) [] [a,b]) cols).val=if c (zm a) cols=Q3 then(if((g (zm a) cols).2!=0)=Q3 then Q1 (.inr (.tup [.int .i64 0,.int .i64 (g (zm a) cols).2],[]))else if c (zm b) cols=Q3 then(if((g (zm b) cols).2!=0)=Q3 then Q1 (.inr (.tup [.int .i64 0,.int .i64 (g (zm b) cols).2],[]))else if(bif (g (zm a) cols).1!=0 then bif (g (zm a) cols).1!=3 then Q3 else(bif (g (zm b) cols).1!=0 then(g (zm b) cols).1!=3 else Q4)else(bif (g (zm b) cols).1!=0 then(g (zm b) cols).1!=3 else Q4))=Q3 then Q1 (.inr (.tup [.int .i64 0,.int .i64 5],[]))else Q1 (.inr (.tup [.int .i64 3,.int .i64 0],[])))else Q2)else Q2:=rfl
    rw[e2,zk,zk,c1,c2,g1,g2];generalize zM M a cols=t;generalize zM M b cols=u;rcases zG (t.2!=0)with k1|k1<;>rcases zG (u.2!=0)with k2|k2<;>rcases zG (t.1!=0)with k3|k3<;>rcases zG (u.1!=0)with k4|k4<;>rcases zG (t.1!=3)with k5|k5<;>rcases zG (u.1!=3)with k6|k6<;>(simp only[k1,k2,k3,k4,k5,k6,ah,ay,if_true,if_false,zE,bK,cQ];rfl)
   ·have e1:aG (zM M) (be M) cols [111,114] (0:Int) (0:Int) [] [] [a,b] [a,b] 0 []=if((zM M a cols).2!=0)=Q3 then((0:Int),(zM M a cols).2)else if((zM M b cols).2!=0)=Q3 then((0:Int),(zM M b cols).2)else if(!lN [(zM M a cols).1,(zM M b cols).1] 3)=Q3 then((0:Int),(5:Int))else((3:Int),(0:Int)):=rfl
    show _=Q1 ((aG (zM M) (be M) cols [111,114] (0:Int) (0:Int) [] [] [a,b] [a,b] 0 []).1,(aG (zM M) (be M) cols [111,114] (0:Int) (0:Int) [] [] [a,b] [a,b] 0 []).2,());rw[e1,sU];have e2:(Bi g c (.mk [111,114] (0,0,[]) [] [a,b]) cols).val=if c (zm a) cols=Q3 then(if((g (zm a) cols).2!=0)=Q3 then Q1 (.inr (.tup [.int .i64 0,.int .i64 (g (zm a) cols).2],[]))else if c (zm b) cols=Q3 then(if((g (zm b) cols).2!=0)=Q3 then Q1 (.inr (.tup [.int .i64 0,.int .i64 (g (zm b) cols).2],[]))else if(bif (g (zm a) cols).1!=0 then bif (g (zm a) cols).1!=3 then Q3 else(bif (g (zm b) cols).1!=0 then(g (zm b) cols).1!=3 else Q4)else(bif (g (zm b) cols).1!=0 then(g (zm b) cols).1!=3 else Q4))=Q3 then Q1 (.inr (.tup [.int .i64 0,.int .i64 5],[]))else Q1 (.inr (.tup [.int .i64 3,.int .i64 0],[])))else Q2)else Q2:=rfl
    rw[e2,zk,zk,c1,c2,g1,g2];generalize zM M a cols=t;generalize zM M b cols=u;rcases zG (t.2!=0)with k1|k1<;>rcases zG (u.2!=0)with k2|k2<;>rcases zG (t.1!=0)with k3|k3<;>rcases zG (u.1!=0)with k4|k4<;>rcases zG (t.1!=3)with k5|k5<;>rcases zG (u.1!=3)with k6|k6<;>(simp only[k1,k2,k3,k4,k5,k6,ah,ay,if_true,if_false,zE,bK,cQ];rfl)
   ·have e1:aG (zM M) (be M) cols [61] (0:Int) (0:Int) [] [] [a,b] [a,b] 0 []=if((zM M a cols).2!=0)=Q3 then((0:Int),(zM M a cols).2)else if((zM M b cols).2!=0)=Q3 then((0:Int),(zM M b cols).2)else if(!bif (zM M a cols).1==(zM M b cols).1 then Q3 else bif (zM M a cols).1==0 then Q3 else(zM M b cols).1==0)=Q3 then((0:Int),(5:Int))else((3:Int),(0:Int)):=rfl
    show _=Q1 ((aG (zM M) (be M) cols [61] (0:Int) (0:Int) [] [] [a,b] [a,b] 0 []).1,(aG (zM M) (be M) cols [61] (0:Int) (0:Int) [] [] [a,b] [a,b] 0 []).2,());rw[e1];have e2:(Bi g c (.mk [61] (0,0,[]) [] [a,b]) cols).val=if c (zm a) cols=Q3 then(if((g (zm a) cols).2!=0)=Q3 then Q1 (.inr (.tup [.int .i64 0,.int .i64 (g (zm a) cols).2],[]))else if c (zm b) cols=Q3 then(if((g (zm b) cols).2!=0)=Q3 then Q1 (.inr (.tup [.int .i64 0,.int .i64 (g (zm b) cols).2],[]))else if(bif (g (zm a) cols).1!=0 then bif (g (zm b) cols).1!=0 then(g (zm a) cols).1!=(g (zm b) cols).1 else Q4 else Q4)=Q3 then Q1 (.inr (.tup [.int .i64 0,.int .i64 5],[]))else Q1 (.inr (.tup [.int .i64 3,.int .i64 0],[])))else Q2)else Q2:=rfl
    rw[e2,zk,zk,c1,c2,g1,g2];generalize zM M a cols=t;generalize zM M b cols=u;simp only[bne];rcases zG (t.2==0)with k1|k1<;>rcases zG (u.2==0)with k2|k2<;>rcases zG (t.1==0)with k3|k3<;>rcases zG (u.1==0)with k4|k4<;>rcases zG (t.1==u.1)with k5|k5<;>(simp only[k1,k2,k3,k4,k5,ah,ay,if_true,if_false,zE,bK,cQ];rfl)
   ·have e1:aG (zM M) (be M) cols [60] (0:Int) (0:Int) [] [] [a,b] [a,b] 0 []=if((zM M a cols).2!=0)=Q3 then((0:Int),(zM M a cols).2)else if((zM M b cols).2!=0)=Q3 then((0:Int),(zM M b cols).2)else if(!bif (zM M a cols).1==(zM M b cols).1 then Q3 else bif (zM M a cols).1==0 then Q3 else(zM M b cols).1==0)=Q3 then((0:Int),(5:Int))else((3:Int),(0:Int)):=rfl
    show _=Q1 ((aG (zM M) (be M) cols [60] (0:Int) (0:Int) [] [] [a,b] [a,b] 0 []).1,(aG (zM M) (be M) cols [60] (0:Int) (0:Int) [] [] [a,b] [a,b] 0 []).2,());rw[e1];have e2:(Bi g c (.mk [60] (0,0,[]) [] [a,b]) cols).val=if c (zm a) cols=Q3 then(if((g (zm a) cols).2!=0)=Q3 then Q1 (.inr (.tup [.int .i64 0,.int .i64 (g (zm a) cols).2],[]))else if c (zm b) cols=Q3 then(if((g (zm b) cols).2!=0)=Q3 then Q1 (.inr (.tup [.int .i64 0,.int .i64 (g (zm b) cols).2],[]))else if(bif (g (zm a) cols).1!=0 then bif (g (zm b) cols).1!=0 then(g (zm a) cols).1!=(g (zm b) cols).1 else Q4 else Q4)=Q3 then Q1 (.inr (.tup [.int .i64 0,.int .i64 5],[]))else Q1 (.inr (.tup [.int .i64 3,.int .i64 0],[])))else Q2)else Q2:=rfl
    rw[e2,zk,zk,c1,c2,g1,g2];generalize zM M a cols=t;generalize zM M b cols=u;simp only[bne];rcases zG (t.2==0)with k1|k1<;>rcases zG (u.2==0)with k2|k2<;>rcases zG (t.1==0)with k3|k3<;>rcases zG (u.1==0)with k4|k4<;>rcases zG (t.1==u.1)with k5|k5<;>(simp only[k1,k2,k3,k4,k5,ah,ay,if_true,if_false,zE,bK,cQ];rfl)
   ·have e1:aG (zM M) (be M) cols [43] (0:Int) (0:Int) [] [] [a,b] [a,b] 0 []=if((zM M a cols).2!=0)=Q3 then((0:Int),(zM M a cols).2)else if((zM M b cols).2!=0)=Q3 then((0:Int),(zM M b cols).2)else if(!lN [(zM M a cols).1,(zM M b cols).1] 1)=Q3 then((0:Int),(5:Int))else((1:Int),(0:Int)):=rfl
    show _=Q1 ((aG (zM M) (be M) cols [43] (0:Int) (0:Int) [] [] [a,b] [a,b] 0 []).1,(aG (zM M) (be M) cols [43] (0:Int) (0:Int) [] [] [a,b] [a,b] 0 []).2,());rw[e1,sU];have e2:(Bi g c (.mk [43] (0,0,[]) [] [a,b]) cols).val=if c (zm a) cols=Q3 then(if((g (zm a) cols).2!=0)=Q3 then Q1 (.inr (.tup [.int .i64 0,.int .i64 (g (zm a) cols).2],[]))else if c (zm b) cols=Q3 then(if((g (zm b) cols).2!=0)=Q3 then Q1 (.inr (.tup [.int .i64 0,.int .i64 (g (zm b) cols).2],[]))else if(bif (g (zm a) cols).1!=0 then bif (g (zm a) cols).1!=1 then Q3 else(bif (g (zm b) cols).1!=0 then(g (zm b) cols).1!=1 else Q4)else(bif (g (zm b) cols).1!=0 then(g (zm b) cols).1!=1 else Q4))=Q3 then Q1 (.inr (.tup [.int .i64 0,.int .i64 5],[]))else Q1 (.inr (.tup [.int .i64 1,.int .i64 0],[])))else Q2)else Q2:=rfl
    rw[e2,zk,zk,c1,c2,g1,g2];generalize zM M a cols=t;generalize zM M b cols=u;rcases zG (t.2!=0)with k1|k1<;>rcases zG (u.2!=0)with k2|k2<;>rcases zG (t.1!=0)with k3|k3<;>rcases zG (u.1!=0)with k4|k4<;>rcases zG (t.1!=1)with k5|k5<;>rcases zG (u.1!=1)with k6|k6<;>(simp only[k1,k2,k3,k4,k5,k6,ah,ay,if_true,if_false,zE,bK,cQ];rfl)
   ·have e1:aG (zM M) (be M) cols [45] (0:Int) (0:Int) [] [] [a,b] [a,b] 0 []=if((zM M a cols).2!=0)=Q3 then((0:Int),(zM M a cols).2)else if((zM M b cols).2!=0)=Q3 then((0:Int),(zM M b cols).2)else if(!lN [(zM M a cols).1,(zM M b cols).1] 1)=Q3 then((0:Int),(5:Int))else((1:Int),(0:Int)):=rfl
    show _=Q1 ((aG (zM M) (be M) cols [45] (0:Int) (0:Int) [] [] [a,b] [a,b] 0 []).1,(aG (zM M) (be M) cols [45] (0:Int) (0:Int) [] [] [a,b] [a,b] 0 []).2,());rw[e1,sU];have e2:(Bi g c (.mk [45] (0,0,[]) [] [a,b]) cols).val=if c (zm a) cols=Q3 then(if((g (zm a) cols).2!=0)=Q3 then Q1 (.inr (.tup [.int .i64 0,.int .i64 (g (zm a) cols).2],[]))else if c (zm b) cols=Q3 then(if((g (zm b) cols).2!=0)=Q3 then Q1 (.inr (.tup [.int .i64 0,.int .i64 (g (zm b) cols).2],[]))else if(bif (g (zm a) cols).1!=0 then bif (g (zm a) cols).1!=1 then Q3 else(bif (g (zm b) cols).1!=0 then(g (zm b) cols).1!=1 else Q4)else(bif (g (zm b) cols).1!=0 then(g (zm b) cols).1!=1 else Q4))=Q3 then Q1 (.inr (.tup [.int .i64 0,.int .i64 5],[]))else Q1 (.inr (.tup [.int .i64 1,.int .i64 0],[])))else Q2)else Q2:=rfl
    rw[e2,zk,zk,c1,c2,g1,g2];generalize zM M a cols=t;generalize zM M b cols=u;rcases zG (t.2!=0)with k1|k1<;>rcases zG (u.2!=0)with k2|k2<;>rcases zG (t.1!=0)with k3|k3<;>rcases zG (u.1!=0)with k4|k4<;>rcases zG (t.1!=1)with k5|k5<;>rcases zG (u.1!=1)with k6|k6<;>(simp only[k1,k2,k3,k4,k5,k6,ah,ay,if_true,if_false,zE,bK,cQ];rfl)
theorem su(c:UInt8)(s old:zB):Lib.index (c::s) old=if old.isPrefixOf (c::s)=Q3 then 0 else if Lib.index s old=-1 then -1 else Lib.index s old+1:=by
 rw[Lib.index];simp only[ba]
theorem wA{s old new:zB}(hne:(old==new)=Q4)(h:Lib.index s old=-1):Lib.replaceAll s old new=s:=by
 unfold Lib.replaceAll Lib.replace Lib.replaceNum;rw[hne,if_pos (Or.inl (by decide)),Lib.count_miss h];rfl
theorem Cj{s old new:zB}{i:Nat}(h0:old≠[])(hne:(old==new)=Q4)(h:Lib.index s old=i):Lib.replaceAll s old new=s.take i++new++Lib.replaceAll (s.drop (i+old.length)) old new:=by
 unfold Lib.replaceAll Lib.replace Lib.replaceNum;rw[hne,if_pos (Or.inl (by decide)),if_pos (Or.inl (by decide)),Lib.count_hit h0 h,nN 1];exact Lib.replaceK_hit old new _ s i h
theorem Ck{old new:zB}(h0:old≠[])(hne:(old==new)=Q4):Lib.replaceAll [] old new=[]:=by
 refine wA hne ?_;cases old with
 |nil=>exact absurd rfl h0
 |cons a l=>rfl
theorem JJ{c:UInt8}{s old new:zB}(h0:old≠[])(hne:(old==new)=Q4)(hp:old.isPrefixOf (c::s)=Q3):Lib.replaceAll (c::s) old new=new++Lib.replaceAll ((c::s).drop old.length) old new:=by
 have:=Cj (i:=0) h0 hne (s:=c::s) (by rw[su,if_pos hp];rfl);simpa using this
theorem E6{c:UInt8}{s old new:zB}(h0:old≠[])(hne:(old==new)=Q4)(hp:old.isPrefixOf (c::s)=Q4):Lib.replaceAll (c::s) old new=c::Lib.replaceAll s old new:=by
 by_cases h:Lib.index s old=-1
 ·rw[wA hne h,wA hne (by rw[su,if_neg (by simp[hp]),if_pos h])]
 ·obtain⟨i,hi⟩:∃i:Nat,Lib.index s old=i:=⟨(Lib.index s old).toNat,by have:=Lib.index_ge s old;omega⟩;rw[Cj h0 hne hi,Cj (i:=i+1) h0 hne (by rw[su,if_neg (by simp[hp]),if_neg h,hi];simp)];simp[Nat.add_right_comm]
theorem Tu{c a:UInt8}{r l:zB}(h:c≠a):(a::l).isPrefixOf (c::r)=Q4:=by
 rw[List.isPrefixOf,bU.2 (Ne.symm h)];rfl
def kv:zB->zB
 |[]=>[]
 |c::r=>if c=39 then 39::39::kv r else c::kv r
theorem Ci:∀s:zB,Lib.replaceAll s [39] [39,39]=kv s
 |[]=>Ck sw rfl
 | c::r=>by
  rw[kv];split
  ·rename_i h;subst h;rw[JJ sw rfl sw];simp[Ci r]
  ·rename_i h;rw[E6 sw rfl (Tu h),Ci r]
def eR:zB->Option (zB×Nat)
 |[]=>Q2
 |[c]=>if c=39 then Q1 ([],1)else Q2
 |c::d::r=>if c=39 then(if d=39 then(eR r).map λx=>(39::x.1,x.2+2)else Q1 ([],1))else(eR (d::r)).map λx=>(c::x.1,x.2+1)
theorem qJ:∀(n:Nat)(s t:zB)(k:Nat),s.length<=n->eR s=Q1 (t,k)->1<=k/\k<=s.length/\Lib.replaceAll (s.take (k-1)) [39,39] [39]=t
 |_,[],_,_,_,h=>by simp[eR]at h
 | _,[c],t,k,_,h=>by
  rw[eR]at h;split at h
  ·simp at h;obtain⟨rfl,rfl⟩:=h;exact⟨sw,sw,by simpa using Ck sw rfl⟩
  ·simp at h
 |0,_::_::_,_,_,hn,_=>by simp at hn
 | n+1,c::d::r,t,k,hn,h=>by
  rw[eR]at h;split at h
  ·rename_i hc;split at h
   ·rename_i hd;simp only[ef]at h;obtain⟨⟨t',k'⟩,h1,h2⟩:=h;simp only[cv]at h2;obtain⟨rfl,rfl⟩:=h2;obtain⟨a1,a2,a3⟩:=qJ n r t' k' (by simp at hn;omega) h1;refine⟨ow,sg,?_⟩;subst hc;subst hd;rw[show k'+2-1=(k'-1)+2 by omega,List.take_succ_cons,List.take_succ_cons,JJ sw rfl sw];simp[a3]
   ·simp at h;obtain⟨rfl,rfl⟩:=h;exact⟨sw,sw,by simpa using Ck sw rfl⟩
  ·rename_i hc;simp only[ef]at h;obtain⟨⟨t',k'⟩,h1,h2⟩:=h;simp only[cv]at h2;obtain⟨rfl,rfl⟩:=h2;obtain⟨a1,a2,a3⟩:=qJ n (d::r) t' k' (by simp at hn⊢;omega) h1;refine⟨ow,by simp at a2⊢;omega,?_⟩;rw[show k'+1-1=(k'-1)+1 by omega,List.take_succ_cons,E6 sw rfl (Tu hc),a3]
theorem Fa{c:UInt8}(hc:c≠39):∀r:zB,eR (c::r)=(eR r).map λx=>(c::x.1,x.2+1)
 |[]=>by simp[eR,hc]
 |d::r=>by rw[eR,if_neg hc]
theorem JQ(r:zB):eR (39::39::r)=(eR r).map λx=>(39::x.1,x.2+2):=by
 rw[eR,if_pos rfl,if_pos rfl]
theorem CB:∀r:zB,r.head?≠Q1 39->eR (39::r)=Q1 ([],1)
 |[],_=>by rw[eR,if_pos rfl]
 |d::r,h=>by rw[eR,if_pos rfl,if_neg (by simpa using h)]
theorem bZ(s:zB){i:Nat}(h:i<s.length):s.getD ((i:Int).toNat) 0=s[i]:=by
 rw[aK,bd,zS h,du]
theorem qW{c:UInt8}:((c.toNat:Int)==39)=Q3↔c=39:=by
 rw[ba];constructor
 ·intro h;exact UInt8.toNat_inj.1 (by show c.toNat=39;omega)
 ·rintro rfl;rfl
theorem pm:∀(n:Nat)(s:zB)(i:Nat)(a:Int)(b:zB),1<=i->i<=s.length->s.length+2<=n+i->s.length<=1000000000->
  eP n s (i:Int) a b=(match eR (s.drop i)with
   |none=>((0,[]),0)
   |some x=>((3,Lib.replaceAll (List.take (i+x.2-2) (List.drop 1 s)) [39,39] [39]),((i+x.2:Nat):Int)))
 |0,s,i,a,b,h1,h2,h3,h4=>by omega
 | n + 1,s,i,a,b,h1,h2,h3,h4=>by
  rw[eP];by_cases hi:i<s.length
  ·rw[if_pos (zu (show(i:Int)<(s.length:Int) by omega)),bZ s hi,pE i ow,fu hi];by_cases hq:s[i]=39
   ·rw[if_neg (by simp[bne,qW.2 hq]),hq];by_cases hj:i+1<s.length
    ·rw[fu hj,bZ s hj,zu (show((i+1:Nat):Int)<(s.length:Int) by omega)];by_cases hq2:s[i+1]=39
     ·rw[if_pos (by simpa using qW.2 hq2),pE (i+1) ow,pm n s (i+1+1) a b ow ow ow h4,hq2,JQ];cases eR (s.drop (i+1+1))with
      |none=>rfl
      | some x=>
       simp only[DJ];rw[show i+1+1+x.2=i+(x.2+2) by omega]
     ·rw[if_neg (by simpa using λh=>hq2 (qW.1 (by simpa using h))),CB _ (by rw[List.head?_cons];exact λh=>hq2 (Option.some.inj h))];simp
    ·rw[Aj (by omega:s.length<=i+1),aj (show¬((i+1:Nat):Int)<(s.length:Int) by omega),CB _ sw];simp
   ·rw[if_pos (by simpa[bne]using λh=>hq (qW.1 (by simpa using h))),Fa hq,pm n s (i+1) a b ow ow ow h4];cases eR (s.drop (i+1))with
    |none=>rfl
    | some x=>
     simp only[DJ];rw[show i+1+x.2=i+(x.2+1) by omega]
  ·rw[if_neg sg,Aj ow];rfl
def oR(c:UInt8)(r:zB):Sem bW×Nat:=
 if aI c.toNat=Q3 then((1,(c::r).take (cF bq r+1)),cF bq r+1)
 else if zW c.toNat=Q3 then((2,(c::r).take (cF zW r+1)),cF zW r+1)
 else if c=39 then(match eR r with|none=>((0,[]),0)|some x=>((3,x.1),x.2+1))
 else((4,[c]),1)
theorem vS(c:UInt8)(r:zB)(hl:(c::r).length<=1000000000):bB (c::r)=((oR c r).1,((oR c r).2:Int)):=by
 have e1:aL aI bq (c::r)=if aI c.toNat=Q3 then cF bq r+1 else 0:=rfl
 have e2:aL zW zW (c::r)=if zW c.toNat=Q3 then cF zW r+1 else 0:=rfl
 unfold bB oR;by_cases h1:aI c.toNat=Q3
 ·rw[if_pos h1]at e1;simp[e1,h1]
 ·rw[if_neg h1]at e1;by_cases h2:zW c.toNat=Q3
  ·rw[if_pos h2]at e2;simp[e1,e2,h1,h2]
  ·rw[if_neg h2]at e2;by_cases h3:c=39
   ·have hq:=pm ((c::r).length+1) (c::r) 1 0 [] ow sw ow hl;have hqq:dV (c::r)=_:=hq;subst h3;have l39:aI 39=Q4:=rfl;have d39:zW 39=Q4:=rfl;cases hs:eR r with
    | none=>
     simp only[List.drop_succ_cons,List.drop_zero,hs]at hqq;simp[e1,e2,l39,d39,hqq]
    | some x=>
     obtain⟨k1,k2,k3⟩:=qJ r.length r x.1 x.2 (az _) hs;simp only[List.drop_succ_cons,List.drop_zero,hs]at hqq;rw[show 1+x.2-2=x.2-1 by omega,k3,nN 1]at hqq;simp[e1,e2,l39,d39,hqq]
   ·have h4:¬(c.toNat:Int)=39:=λh=>h3 (qW.1 (by simpa using h))
    simp[e1,e2,h1,h2,h3,h4]
def vj:Nat->zB->Nat->Bool
 |0,_,_=>Q4
 |_+1,[],k=>Q0 (k<=400)
 | n+1,c::r,k=>
  if(bif (c.toNat:Int)==32 then Q3 else(c.toNat:Int)==10)=Q3 then vj n r k
  else if cd (oR c r).1=Q3 then vj n ((c::r).drop (oR c r).2) (k+1)else Q4
theorem vl:∀(n:Nat)(s:zB)(k:Nat),400<k->vj n s k=Q4
 |0,_,_,_=>rfl
 |_+1,[],k,h=>by rw[vj];exact aj ow
 | n+1,c::r,k,h=>by
  rw[vj];split
  ·exact vl n r k h
  ·split
   ·exact vl n _ (k+1) ow
   ·rfl
theorem Az:∀(n:Nat)(s:zB)(i:Nat)(l:List (Sem zr)),i<=s.length->s.length+1<=n+i->s.length<=1000000000->l.length<=400->((te n s (i:Int) l).2==(0:Int))=vj n (s.drop i) l.length
 |0,s,i,l,h1,h2,h3,h4=>by omega
 | n + 1,s,i,l,h1,h2,h3,h4=>by
  rw[te];by_cases hlt:i<s.length
  ·have e1:List.take ((s.length:Int).toNat-(i:Int).toNat) (List.drop (i:Int).toNat s)=s.drop i:=by
    simp only[aK];exact Mj sw
   have hdl:(s.drop i).length<=1000000000:=by simp;omega
   rw[if_pos (zu (show(i:Int)<(s.length:Int) by omega)),e1,bZ s hlt,pE i ow];rw[fu hlt]at hdl⊢;rw[vj];split
   ·exact Az n s (i+1) l ow ow h3 h4
   ·rw[vS _ _ hdl];simp only;by_cases hm:cd (oR s[i] (s.drop (i+1))).1=Q3
    ·rw[if_pos hm];by_cases h5:l.length=400
     ·rw[if_pos (by rw[hm,h5];rfl),h5,vl n _ _ ow];rfl
     ·rw[if_neg (by rw[hm];simp;omega)];have hm':cd (bB (s[i]::s.drop (i+1))).1=Q3:=by rw[vS _ _ hdl];exact hm
      obtain⟨k,hk,hk1,hk2⟩:=uN _ (List.cons_ne_nil _ _) hdl hm';rw[vS _ _ hdl]at hk;have hk:(oR s[i] (s.drop (i+1))).2=k:=Int.ofNat.inj hk;have hk3:k<=s.length-i:=by rw[<-fu hlt]at hk2;simpa using hk2
      rw[hk,show((i:Int)+(k:Int))=((i+k:Nat):Int) by omega,Uq (i+k) ow,Az n s (i+k) _ ow ow h3 sg,<-fu hlt,DK];simp
    ·rw[if_neg hm,if_pos (by simp[hm])];rfl
  ·rw[if_neg sg,Aj ow];rw[vj];exact(zu h4).symm
theorem QF(m:Nat):iN [IntKind.u8.wrap (IntKind.i64.wrap (48-IntKind.i64.wrap (Int.tmod (-(m:Int)) 10)))]=[UInt8.ofNat (48+m%10)]:=by
 have e1:Int.tmod (-(m:Int)) 10=-((m%10:Nat):Int):=by rw[Int.neg_tmod];rfl
 have hlt:m%10<10:=Nat.mod_lt _ ow;have e2:IntKind.i64.wrap (-((m%10:Nat):Int))=-((m%10:Nat):Int):=by rw[fR];omega
 have e3:IntKind.i64.wrap (48- -((m%10:Nat):Int))=((48+m%10:Nat):Int):=by rw[fR];omega
 have e4:IntKind.u8.wrap ((48+m%10:Nat):Int)=((48+m%10:Nat):Int):=by rw[IntKind.wrap_u8];omega
 rw[e1,e2,e3,e4];rfl
theorem VW(m:Nat)(h:m<=9223372036854775808):IntKind.i64.wrap (Int.tdiv (-(m:Int)) 10)=-((m/10:Nat):Int):=by
 have e1:Int.tdiv (-(m:Int)) 10=-((m/10:Nat):Int):=by rw[Int.neg_tdiv];rfl
 have:m/10<=m:=Nat.div_le_self _ _;rw[e1,fR];omega
theorem QE:∀(f m:Nat)(s:zB),m<10^f->0<f->m<=9223372036854775808->(0<m\/s=[])->s.length+f<=1000->zT CJ (f+1) (.h2 (-(m:Int)) s) (.str (mT f m++s),[])
 |0,_,_,_,h,_,_,_=>by omega
 | f+1,m,s,hm,_,hb,h0,hs=>by
  have hv:(CJ (.h2 (-(m:Int)) s)).val=Q1 (.inl (.h2 (-((m/10:Nat):Int)) ([UInt8.ofNat (48+m%10)]++s))):=by
   show(CJ (.h2 _ _)).val=_;have c:(bif Q0 (LT.lt (α:=Int) (-(m:Int)) 0)then Q3 else s==[])=Q3:=by
    rcases h0 with h|h
    ·rw[zu ow];rfl
    ·subst h;cases Q0 (LT.lt (α:=Int) (-(m:Int)) 0)<;>rfl
   simp only[CJ,Q8,QF m,VW m hb,if_true];rw[if_pos c,if_pos (zu sg)]
  by_cases h10:m<10
  ·have e0:m/10=0:=by omega
   have e1:m%10=m:=by omega
   rw[e0,e1]at hv;have hd:mT (f+1) m=[UInt8.ofNat (48+m)]:=by rw[mT,if_pos h10]
   rw[hd];refine((zP.of hv).ends (k:=1) (zT.of ?_)).mono ow;show(CJ (.h2 _ _)).val=_;simp[CJ,Q8]
  ·have hf:0<f:=by
    cases f with
    |zero=>simp at hm;omega
    |succ f=>omega
   have:=QE f (m/10) ([UInt8.ofNat (48+m%10)]++s) (by rw[Aq]at hm;omega) hf ow (.inl ow) sg;have hd:mT (f+1) m=mT f (m/10)++[UInt8.ofNat (48+m%10)]:=by rw[mT,if_neg h10]
   rw[hd,An];exact(zP.of hv).ends this
theorem xv{m:Nat}(h:m<=9223372036854775808):qk (-(m:Int))=Q1 (mT 20 m,()):=by
 refine zw (s:=.h2 (-(m:Int)) []) rfl (QE 20 m [] ow ow h (.inr rfl) sw) ow ?_;rw[wS];rfl
theorem AE:∀s:zB,(kv s).length<=2*s.length
 |[]=>by simp[kv]
 | c::r=>by
  have:=AE r;rw[kv];split<;>simp<;>omega
theorem DQ(c:UInt8):∀s:zB,kv (s++[c])=kv s++(if c=39 then[39,39]else[c])
 | []=>by
  show kv [c]=_;rw[kv,kv,kv];split<;>rfl
 | d::r=>by
  have:=DQ c r;show kv (d::(r++[c]))=_;rw[kv,kv,this];split<;>rfl
theorem Zz{α:Type}{l:List α}{i:Nat}(h:i<l.length):l.take (i+1)=l.take i++[l[i]]:=by
 rw[List.take_add_one,zS h];rfl
theorem zde{v:Sem ze}(hl:v.2.2.length<=1000000):zT uF (v.2.2.length*1+1) (.h13 [39] 0 (v,())) (.str ([39]++kv v.2.2++[39]),[]):=by
 have hg:=zP.all (t:=uF) 1 (λi=>.h13 ([39]++kv (v.2.2.take i)) (i:Int) (v,())) v.2.2.length (by
  intro i hi;refine zP.of ?_;have hd:=AE (v.2.2.take i);have hd2:(kv (v.2.2.take i)).length<=2000000:=by simp at hd;omega
  have w1:IntKind.i64.wrap ((i:Int)+1)=((i+1:Nat):Int):=zp i um;have g1:(Q0 (0<=(i:Int))&&Q0 ((i:Int)<=((i+1:Nat):Int))&&Q0 (((i+1:Nat):Int)<=(↑(length v.2.2):Int)))=Q3:=by simp;omega
  have ht:List.take (((i+1:Nat):Int).toNat-(i:Int).toNat) (List.drop (i:Int).toNat v.2.2)=[v.2.2[i]]:=by
   rw[aK,aK,show i+1-i=1 by omega,fu hi];rfl
  show(uF (.h13 _ _ _)).val=_;simp only[uF,Q8,w1,g1,ht,zH hi,zt hi,if_true,bZ v.2.2 hi];rw[Zz hi,DQ,if_pos (zu sg)];by_cases h:v.2.2[i]=39
  ·rw[if_pos (qW.2 h),if_pos h,if_pos (zu sg),h];simp
  ·rw[if_neg (λh2=>h (qW.1 h2)),if_neg h];simp)
 have hd:=AE v.2.2;have hv:(uF (.h13 ([39]++kv (v.2.2.take v.2.2.length)) (v.2.2.length:Int) (v,()))).val=Q1 (.inr (.str ([39]++kv v.2.2++[39]),[])):=by
  show(uF (.h13 _ _ _)).val=_;simp only[uF,Q8,zA,jN];simp;omega
 have:=hg.ends (zT.of hv);rw[nN]at this;exact this
theorem W7{v:Sem ze}(hm:aW v=Q3)(h0:v.1≠(0:Int))(h1:v.1≠(1:Int))(h2:v.1≠(2:Int)):(v.1==3)=Q3/\((dR v==2)=(v.2.1==1)):=by
 have b0:(v.1==0)=Q4:=bU.2 h0;have b1:(v.1==1)=Q4:=bU.2 h1;have b2:(v.1==2)=Q4:=bU.2 h2;have hm2:=hm;unfold aW at hm;rw[b0,b1,b2]at hm;simp only[zE,if_false]at hm;cases b3:(v.1==3)
 ·rw[b3]at hm;simp at hm
 ·rw[b3]at hm;refine⟨rfl,?_⟩;have h01:v.2.1=(0:Int)\/v.2.1=(1:Int):=by
   simp at hm;by_cases k:v.2.1=(0:Int)
   ·exact .inl k
   ·by_cases k2:v.2.1=(1:Int)
    ·exact .inr k2
    ·simp[k,k2]at hm
  unfold dR;rw[show(v.1!=3)=Q4 by simp[bne,b3],hm2];rcases h01 with h|h<;>rw[h]<;>rfl
theorem ES{v:Sem ze}(hv:lL v):yu v=Q1 (g8 v,()):=by
 obtain⟨hlo,hhi,hlen⟩:=hv;have hMC:=kL (v:=v) hlen;have hM:=nl (v:=v) hlen;by_cases hm:aW v=Q3
 ·have hn:(!aW v)=Q4:=by rw[hm];rfl
  by_cases h0:v.1=(0:Int)
  ·have b0:(v.1==0)=Q3:=ba.2 h0;refine zI (r:=(.str [78,85,76,76],[])) ?_ ?_
   ·simp only[xk,Q8,hMC,hM,hn,b0,if_true];rfl
   ·unfold g8;rw[h0,hm];rfl
  have b0:(v.1==0)=Q4:=bU.2 h0;by_cases h1:v.1=(1:Int)
  ·have b1:(v.1==1)=Q3:=ba.2 h1;have ht:g8 v=rr v.2.1:=by
    unfold g8;rw[hn,if_neg sw,if_pos b1]
   rw[ht];unfold rr;by_cases hneg:LT.lt (α:=Int) v.2.1 0
   ·have hd:=xv (m:=v.2.1.natAbs) ow;rw[show -((v.2.1.natAbs:Nat):Int)=v.2.1 by omega]at hd;have c1:kd v.2.1=Q3:=by unfold kd;rw[hd];rfl
    have c2:kN v.2.1=mT 20 v.2.1.natAbs:=by unfold kN;rw[hd];rfl
    have hdl:=AD 20 v.2.1.natAbs;rw[if_pos hneg];refine zI (r:=(.str ([45]++mT 20 v.2.1.natAbs),[])) ?_ rfl;simp only[xk,Q8,hMC,hM,hn,b0,b1,zu hneg,c1,c2,if_true];rw[if_neg sw,if_neg sw,if_pos (zu sg)]
   ·have hd:=xv (m:=v.2.1.natAbs) ow;have hw:IntKind.i64.wrap (0-v.2.1)=-((v.2.1.natAbs:Nat):Int):=by rw[fR];omega
    have c1:kd (-((v.2.1.natAbs:Nat):Int))=Q3:=by unfold kd;rw[hd];rfl
    have c2:kN (-((v.2.1.natAbs:Nat):Int))=mT 20 v.2.1.natAbs:=by unfold kN;rw[hd];rfl
    rw[if_neg hneg];refine zI (r:=(.str (mT 20 v.2.1.natAbs),[])) ?_ rfl;simp only[xk,Q8,hMC,hM,hn,b0,b1,aj hneg,hw,c1,c2,if_true];rw[if_neg sw,if_neg sw,if_neg sw]
  have b1:(v.1==1)=Q4:=bU.2 h1;by_cases h2:v.1=(2:Int)
  ·have b2:(v.1==2)=Q3:=ba.2 h2;have ht:g8 v=[39]++kv v.2.2++[39]:=by
    unfold g8;rw[hn,if_neg sw,if_neg (by rw[b1];simp),if_pos b2,Ci]
   rw[ht];have hg:zT uF (v.2.2.length*1+1) (.h13 [39] 0 (v,())) (.str ([39]++kv v.2.2++[39]),[]):=zde (v:=v) hlen;refine zw (s:=.h13 [39] 0 (v,())) ?_ hg ow rfl;simp only[xk,Q8,hMC,hM,hn,b0,b1,b2,if_true];rfl
  ·have b2:(v.1==2)=Q4:=bU.2 h2;obtain⟨b3,hs⟩:=W7 hm h0 h1 h2;have ht:g8 v=if(v.2.1==1)=Q3 then[84,82,85,69]else[70,65,76,83,69]:=by
    unfold g8;rw[hn,if_neg sw,if_neg (by rw[b1];simp),if_neg (by rw[b2];simp),if_pos b3,hs]
   rw[ht];by_cases h3:(v.2.1==1)=Q3
   ·rw[if_pos h3];refine zI (r:=(.str [84,82,85,69],[])) ?_ rfl;simp only[xk,Q8,hMC,hM,hn,b0,b1,b2,h3,if_true];rfl
   ·rw[if_neg h3];refine zI (r:=(.str [70,65,76,83,69],[])) ?_ rfl;have h3:(v.2.1==1)=Q4:=by simpa using h3
    simp only[xk,Q8,hMC,hM,hn,b0,b1,b2,h3,if_true];rfl
 ·have hm:aW v=Q4:=by simpa using hm
  refine zI (r:=(.str [],[])) ?_ ?_
  ·simp only[xk,Q8,hMC,hM,hm,if_true];rfl
  ·unfold g8;rw[hm];rfl
theorem ER{v:Sem ze}(hv:lL v):tY v=Q3:=by unfold tY;rw[ES hv];rfl
theorem Jl{v:Sem ze}(hv:lL v):BT v=g8 v:=by unfold BT;rw[ES hv];rfl
theorem qt:∀(N d M:Nat)(e:zf),d<=12->d<=N->d<=M->ch d e=Q3->rL e->cB N e=Q1 (aP M e,())/\(aP M e).length<=400*nE d e
 |_,0,_,_,_,_,_,h,_=>by cases h
 |0,d+1,_,_,_,h,_,_,_=>absurd h ow
 |_,d+1,0,_,_,_,h,_,_=>absurd h ow
 | N+1,d+1,M+1,e,h0,h1,h2,h,hw=>by
  rw[cB];unfold Nm;cases fA h with
  | lit v hv=>
   rw[rL]at hw;have ht:aP (M+1) (.mk [108,105,116] v [] [])=g8 v:=rfl;have hl:=wI v;rw[ht];refine⟨zI (r:=(.str (g8 v),[])) ?_ rfl,by simp[nE];omega⟩;have e2:(nQ (λx0=>iu (cB N x0)) (λx0=>(cB N x0).isSome) (.mk [108,105,116] v [] [])).val=if tY v=Q3 then Q1 (.inr (.str (BT v),[]))else Q2:=rfl
   rw[e2,ER hw.1,Jl hw.1];rfl
  | col s hs hr=>
   have hl:=Fj hs;have ht:aP (M+1) (.mk [99,111,108] (0,0,[]) s [])=s:=rfl;rw[ht];exact⟨zI (r:=(.str s,[])) rfl rfl,by simp[nE];omega⟩
  | one op a ho ha=>
   rw[rL,jQ]at hw;obtain⟨ka,la⟩:=qt N d M a ow ow ow ha hw.2.2.1;have hb:=rx d a ha;have p1:2^d<=2^12:=DD ow ow;have hn:nE (d+1) (.mk op (0,0,[]) [] [a])=1+nE d a:=by simp[nE]
   rw[hn];generalize hg:(λx0=>iu (cB N x0))=g;generalize hc:(λx0=>(cB N x0).isSome)=c;have g1:g a=aP M a:=by rw[<-hg];show iu (cB N a)=_;rw[ka];rfl
   have c1:c a=Q3:=by rw[<-hc];show(cB N a).isSome=_;rw[ka];rfl
   rcases ho with rfl|rfl
   ·have ht:aP (M+1) (.mk [110,111,116] (0,0,[]) [] [a])=[40,78,79,84,32]++aP M a++[41]:=rfl;rw[ht];refine⟨zI (r:=(.str ([40,78,79,84,32]++aP M a++[41]),[])) ?_ rfl,sg⟩;have e2:(nQ g c (.mk [110,111,116] (0,0,[]) [] [a])).val=if c (zm a)=Q3 then(if Q0 ([40,78,79,84,32].length+length (g (zm a))<=1099511627776)=Q3 then(if Q0 (([40,78,79,84,32]++g (zm a)).length+[41].length<=1099511627776)=Q3 then Q1 (.inr (.str ([40,78,79,84,32]++g (zm a)++[41]),[]))else Q2)else Q2)else Q2:=rfl
    rw[e2,zk,c1,g1,if_pos rfl,if_pos (zu sg),if_pos (zu sg)]
   ·have ht:aP (M+1) (.mk [110,117,108,108] (0,0,[]) [] [a])=[40]++aP M a++[32,73,83,32,78,85,76,76,41]:=rfl;rw[ht];refine⟨zI (r:=(.str ([40]++aP M a++[32,73,83,32,78,85,76,76,41]),[])) ?_ rfl,sg⟩;have e2:(nQ g c (.mk [110,117,108,108] (0,0,[]) [] [a])).val=if c (zm a)=Q3 then(if Q0 ([40].length+length (g (zm a))<=1099511627776)=Q3 then(if Q0 (([40]++g (zm a)).length+[32,73,83,32,78,85,76,76,41].length<=1099511627776)=Q3 then Q1 (.inr (.str ([40]++g (zm a)++[32,73,83,32,78,85,76,76,41]),[]))else Q2)else Q2)else Q2:=rfl
    rw[e2,zk,c1,g1,if_pos rfl,if_pos (zu sg),if_pos (zu sg)]
  | two op a b ho ha hb=>
   rw[rL,jQ,jQ]at hw;obtain⟨ka,la⟩:=qt N d M a ow ow ow ha hw.2.2.1;obtain⟨kb,lb⟩:=qt N d M b ow ow ow hb hw.2.2.2.1;have ha2:=rx d a ha;have hb2:=rx d b hb;have p1:2^d<=2^12:=DD ow ow;have hn:nE (d+1) (.mk op (0,0,[]) [] [a,b])=1+(nE d a+nE d b):=by simp[nE]
   rw[hn];generalize hg:(λx0=>iu (cB N x0))=g;generalize hc:(λx0=>(cB N x0).isSome)=c;have g1:g a=aP M a:=by rw[<-hg];show iu (cB N a)=_;rw[ka];rfl
   have c1:c a=Q3:=by rw[<-hc];show(cB N a).isSome=_;rw[ka];rfl
   have g2:g b=aP M b:=by rw[<-hg];show iu (cB N b)=_;rw[kb];rfl
   have c2:c b=Q3:=by rw[<-hc];show(cB N b).isSome=_;rw[kb];rfl
   have ht:∀w:zB,Lib.toUpperA op=w->rW (aP M) (gB M) (.mk op (0,0,[]) [] [a,b])=[40]++aP M a++[32]++w++[32]++aP M b++[41]:=by
    rintro w rfl;rcases ho with rfl|rfl|rfl|rfl|rfl|rfl<;>rfl
   have hx:aP (M+1) (.mk op (0,0,[]) [] [a,b])=rW (aP M) (gB M) (.mk op (0,0,[]) [] [a,b]):=rfl;rw[hx];rcases ho with rfl|rfl|rfl|rfl|rfl|rfl
   ·rw[ht [65,78,68] rfl];refine⟨zI (r:=(.str ([40]++aP M a++[32,65,78,68,32]++aP M b++[41]),[])) ?_ (by simp[aM];rfl),sg⟩;have e2:(nQ g c (.mk [97,110,100] (0,0,[]) [] [a,b])).val=if c (zm a)=Q3 then(if Q0 ([40].length+length (g (zm a))<=1099511627776)=Q3 then(if Q0 (([40]++g (zm a)).length+[32,65,78,68,32].length<=1099511627776)=Q3 then(if c (zm b)=Q3 then(if Q0 (([40]++g (zm a)++[32,65,78,68,32]).length+length (g (zm b))<=1099511627776)=Q3 then(if Q0 (([40]++g (zm a)++[32,65,78,68,32]++g (zm b)).length+[41].length<=1099511627776)=Q3 then Q1 (.inr (.str ([40]++g (zm a)++[32,65,78,68,32]++g (zm b)++[41]),[]))else Q2)else Q2)else Q2)else Q2)else Q2)else Q2:=rfl
    rw[e2,zk,zk,c1,c2,g1,g2,if_pos rfl,if_pos (zu sg),if_pos (zu sg),if_pos rfl,if_pos (zu sg),if_pos (zu sg)]
   ·rw[ht [79,82] rfl];refine⟨zI (r:=(.str ([40]++aP M a++[32,79,82,32]++aP M b++[41]),[])) ?_ (by simp[aM];rfl),sg⟩;have e2:(nQ g c (.mk [111,114] (0,0,[]) [] [a,b])).val=if c (zm a)=Q3 then(if Q0 ([40].length+length (g (zm a))<=1099511627776)=Q3 then(if Q0 (([40]++g (zm a)).length+[32,79,82,32].length<=1099511627776)=Q3 then(if c (zm b)=Q3 then(if Q0 (([40]++g (zm a)++[32,79,82,32]).length+length (g (zm b))<=1099511627776)=Q3 then(if Q0 (([40]++g (zm a)++[32,79,82,32]++g (zm b)).length+[41].length<=1099511627776)=Q3 then Q1 (.inr (.str ([40]++g (zm a)++[32,79,82,32]++g (zm b)++[41]),[]))else Q2)else Q2)else Q2)else Q2)else Q2)else Q2:=rfl
    rw[e2,zk,zk,c1,c2,g1,g2,if_pos rfl,if_pos (zu sg),if_pos (zu sg),if_pos rfl,if_pos (zu sg),if_pos (zu sg)]
   ·rw[ht [61] rfl];refine⟨zI (r:=(.str ([40]++aP M a++[32]++[61]++[32]++aP M b++[41]),[])) ?_ rfl,sg⟩;have e2:(nQ g c (.mk [61] (0,0,[]) [] [a,b])).val=if c (zm a)=Q3 then(if Q0 ([40].length+length (g (zm a))<=1099511627776)=Q3 then(if Q0 (([40]++g (zm a)).length+[32].length<=1099511627776)=Q3 then(if Q0 (([40]++g (zm a)++[32]).length+length [61]<=1099511627776)=Q3 then(if Q0 (([40]++g (zm a)++[32]++[61]).length+[32].length<=1099511627776)=Q3 then(if c (zm b)=Q3 then(if Q0 (([40]++g (zm a)++[32]++[61]++[32]).length+length (g (zm b))<=1099511627776)=Q3 then(if Q0 (([40]++g (zm a)++[32]++[61]++[32]++g (zm b)).length+[41].length<=1099511627776)=Q3 then Q1 (.inr (.str ([40]++g (zm a)++[32]++[61]++[32]++g (zm b)++[41]),[]))else Q2)else Q2)else Q2)else Q2)else Q2)else Q2)else Q2)else Q2:=rfl
    rw[e2,zk,zk,c1,c2,g1,g2,if_pos rfl,if_pos (zu sg),if_pos (zu sg),if_pos (zu sg),if_pos (zu sg),if_pos rfl,if_pos (zu sg),if_pos (zu sg)]
   ·rw[ht [60] rfl];refine⟨zI (r:=(.str ([40]++aP M a++[32]++[60]++[32]++aP M b++[41]),[])) ?_ rfl,sg⟩;have e2:(nQ g c (.mk [60] (0,0,[]) [] [a,b])).val=if c (zm a)=Q3 then(if Q0 ([40].length+length (g (zm a))<=1099511627776)=Q3 then(if Q0 (([40]++g (zm a)).length+[32].length<=1099511627776)=Q3 then(if Q0 (([40]++g (zm a)++[32]).length+length [60]<=1099511627776)=Q3 then(if Q0 (([40]++g (zm a)++[32]++[60]).length+[32].length<=1099511627776)=Q3 then(if c (zm b)=Q3 then(if Q0 (([40]++g (zm a)++[32]++[60]++[32]).length+length (g (zm b))<=1099511627776)=Q3 then(if Q0 (([40]++g (zm a)++[32]++[60]++[32]++g (zm b)).length+[41].length<=1099511627776)=Q3 then Q1 (.inr (.str ([40]++g (zm a)++[32]++[60]++[32]++g (zm b)++[41]),[]))else Q2)else Q2)else Q2)else Q2)else Q2)else Q2)else Q2)else Q2:=rfl
    rw[e2,zk,zk,c1,c2,g1,g2,if_pos rfl,if_pos (zu sg),if_pos (zu sg),if_pos (zu sg),if_pos (zu sg),if_pos rfl,if_pos (zu sg),if_pos (zu sg)]
   ·rw[ht [43] rfl];refine⟨zI (r:=(.str ([40]++aP M a++[32]++[43]++[32]++aP M b++[41]),[])) ?_ rfl,sg⟩;have e2:(nQ g c (.mk [43] (0,0,[]) [] [a,b])).val=if c (zm a)=Q3 then(if Q0 ([40].length+length (g (zm a))<=1099511627776)=Q3 then(if Q0 (([40]++g (zm a)).length+[32].length<=1099511627776)=Q3 then(if Q0 (([40]++g (zm a)++[32]).length+length [43]<=1099511627776)=Q3 then(if Q0 (([40]++g (zm a)++[32]++[43]).length+[32].length<=1099511627776)=Q3 then(if c (zm b)=Q3 then(if Q0 (([40]++g (zm a)++[32]++[43]++[32]).length+length (g (zm b))<=1099511627776)=Q3 then(if Q0 (([40]++g (zm a)++[32]++[43]++[32]++g (zm b)).length+[41].length<=1099511627776)=Q3 then Q1 (.inr (.str ([40]++g (zm a)++[32]++[43]++[32]++g (zm b)++[41]),[]))else Q2)else Q2)else Q2)else Q2)else Q2)else Q2)else Q2)else Q2:=rfl
    rw[e2,zk,zk,c1,c2,g1,g2,if_pos rfl,if_pos (zu sg),if_pos (zu sg),if_pos (zu sg),if_pos (zu sg),if_pos rfl,if_pos (zu sg),if_pos (zu sg)]
   ·rw[ht [45] rfl];refine⟨zI (r:=(.str ([40]++aP M a++[32]++[45]++[32]++aP M b++[41]),[])) ?_ rfl,sg⟩;have e2:(nQ g c (.mk [45] (0,0,[]) [] [a,b])).val=if c (zm a)=Q3 then(if Q0 ([40].length+length (g (zm a))<=1099511627776)=Q3 then(if Q0 (([40]++g (zm a)).length+[32].length<=1099511627776)=Q3 then(if Q0 (([40]++g (zm a)++[32]).length+length [45]<=1099511627776)=Q3 then(if Q0 (([40]++g (zm a)++[32]++[45]).length+[32].length<=1099511627776)=Q3 then(if c (zm b)=Q3 then(if Q0 (([40]++g (zm a)++[32]++[45]++[32]).length+length (g (zm b))<=1099511627776)=Q3 then(if Q0 (([40]++g (zm a)++[32]++[45]++[32]++g (zm b)).length+[41].length<=1099511627776)=Q3 then Q1 (.inr (.str ([40]++g (zm a)++[32]++[45]++[32]++g (zm b)++[41]),[]))else Q2)else Q2)else Q2)else Q2)else Q2)else Q2)else Q2)else Q2:=rfl
    rw[e2,zk,zk,c1,c2,g1,g2,if_pos rfl,if_pos (zu sg),if_pos (zu sg),if_pos (zu sg),if_pos (zu sg),if_pos rfl,if_pos (zu sg),if_pos (zu sg)]
end Cad
