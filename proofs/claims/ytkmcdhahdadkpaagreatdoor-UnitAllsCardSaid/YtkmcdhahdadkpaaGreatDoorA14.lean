/- Bases from whose tables rows are taken. Names: total. The document's comparisons and sums are the program's. The document's names are the program's. -/
import Derived.Test.YtkmcdhahdadkpaaGreatDoorA13
import Derived.Test.YtkmcdhahdadkpaaGreatDoorA12
import Derived.Test.YtkmcdhahdadkpaaGreatDoorA11
namespace Cad
open Go Go.Proofs
open Tr renaming val→Q8
open Sh renaming expr→Q5
open Bool renaming false→Q4,true→Q3
open Option renaming none→Q2,some→Q1
open Decidable renaming decide→Q0
open Int (toNat)
open List (getD length)
open Tr (chk br re)
open AV (nils agg tup ptr kb str sl)
set_option maxHeartbeats 1000000
theorem gG:∀{a b c:zD},Op.bytesLess a b=Q3->Op.bytesLess b c=Q3->Op.bytesLess a c=Q3
 |_,[],_,h,_=>by cases‹zD›<;>simp[Op.bytesLess]at h
 |_,_::_,[],_,h=>by simp[Op.bytesLess]at h
 |[],_::_,_::_,_,_=>rfl
 | a::x,b::y,c::z,h,g=>by
  simp only[Op.bytesLess,mo,aP,aC,bf]at h g⊢;rcases h with h|⟨rfl,h⟩
  ·rcases g with g|⟨rfl,g⟩
   ·exact .inl (UInt8.lt_trans h g)
   ·exact .inl h
  ·rcases g with g|⟨rfl,g⟩
   ·exact .inl g
   ·exact .inr ⟨rfl,gG h g⟩
def Lx(p q:Int×Int×zD):Prop:=p.1<q.1\/(p.1=q.1/\(p.2.1<q.2.1\/(p.2.1=q.2.1/\Op.bytesLess p.2.2 q.2.2=Q3)))
theorem Lx.trans{p q r:Int×Int×zD}(h:Lx p q)(g:Lx q r):Lx p r:=by
 unfold Lx at*;rcases h with h|⟨h1,h|⟨h2,h⟩⟩<;>rcases g with g|⟨g1,g|⟨g2,g⟩⟩
 ·exact .inl ow
 ·exact .inl ow
 ·exact .inl ow
 ·exact .inl ow
 ·exact .inr ⟨ow,.inl ow⟩
 ·exact .inr ⟨ow,.inl ow⟩
 ·exact .inl ow
 ·exact .inr ⟨ow,.inl ow⟩
 ·exact .inr ⟨ow,.inr ⟨ow,gG h g⟩⟩
theorem Lx.irrefl{p:Int×Int×zD}:¬Lx p p:=by
 unfold Lx;rw[bN];rintro(h|⟨_,h|⟨_,h⟩⟩)
 ·omega
 ·omega
 ·cases h
theorem MZ(a b:Int):rq a b=if a<b then -1 else if b<a then 1 else 0:=by
 show(if(a !=a)=Q3 then _ else if(b !=b)=Q3 then(1:Int)else if Q0 (a<b)=Q3 then -1 else if Q0 (a>b)=Q3 then 1 else 0)=_;simp
theorem Rc(a b:Int):jX a b=if a<b then -1 else if b<a then 1 else 0:=MZ a b
theorem Wu(a b:zD):(nj a b=-1/\Op.bytesLess a b=Q3)\/(nj a b=0/\a=b)\/(nj a b=1/\Op.bytesLess a b=Q4):=by
 have:nj a b=if Op.bytesLess a b=Q3 then -1 else if(!(Op.bytesLess a b||a==b))=Q3 then 1 else 0:=by
  show(if(!a==a)=Q3 then _ else if(!b==b)=Q3 then(1:Int)else if Op.bytesLess a b=Q3 then -1 else if(!(Op.bytesLess a b||a==b))=Q3 then 1 else 0)=_;simp
 rw[this];cases h:Op.bytesLess a b with
 |true=>exact .inl ⟨rfl,rfl⟩
 | false=>
  by_cases e:a=b
  ·exact .inr (.inl ⟨by simp[e],e⟩)
  ·exact .inr (.inr ⟨by simp[e],rfl⟩)
theorem zdS(k n k' n':Int)(s s':zD):(Fg [rq k k',jX n n',nj s s']<0)↔Lx (k,n,s) (k',n',s'):=by
 show _↔(k<k'\/(k=k'/\(n<n'\/(n=n'/\Op.bytesLess s s'=Q3))));rw[MZ,Rc];simp only[Fg];have irr:=bN s';rcases AP k k' with h|h|h
 ·simp[h]
 ·subst h;rcases AP n n' with g|g|g
  ·simp[g]
  ·subst g;rcases Wu s s' with⟨e,f⟩|⟨e,f⟩|⟨e,f⟩
   ·simp[e,f]
   ·subst f;simp[e,irr]
   ·simp[e,f]
  ·have:¬n<n':=by omega
   have:n≠n':=by omega
   simp[*]
 ·have:¬k<k':=by omega
  have:k≠k':=by omega
  simp[*]
theorem vA{a b:Sem ze}:yg a b↔Lx (ao a) (ao b):=zdS (ao a).1 (ao a).2.1 (ao b).1 (ao b).2.1 (ao a).2.2 (ao b).2.2
theorem ie{a b c:Sem ze}(h:yg a b)(g:yg b c):yg a c:=vA.2 ((vA.1 h).trans (vA.1 g))
theorem gU{a:Sem ze}:¬yg a a:=λh=>Lx.irrefl (vA.1 h)
theorem uO{α:Type}{R:α->α->Prop}(ht:∀{a b c},R a b->R b c->R a c){d:α}:∀{l:List α},(∀i,i<l.length-1->R (l.getD i d) (l.getD (i+1) d))↔l.Pairwise R
 |[]=>by simp
 |[a]=>by simp
 | a::b::r=>by
  have IH:=uO (R:=R) ht (d:=d) (l:=b::r);constructor
  ·intro h;have h0:=h 0 sw;have h1:(b::r).Pairwise R:=IH.1 λi hi=>h (i+1) (by simp only[fj]at hi⊢;omega)
   refine List.pairwise_cons.2 ⟨λx hx=>?_,h1⟩;rcases cu.1 hx with rfl|hx
   ·exact h0
   ·exact ht h0 ((List.pairwise_cons.1 h1).1 x hx)
  ·intro h i hi;obtain⟨h0,h1⟩:=List.pairwise_cons.1 h;cases i with
   |zero=>exact h0 b sw
   |succ i=>exact IH.2 h1 i (by simp only[fj]at hi⊢;omega)
def kLt(k:Int)(a b:List (Sem ze)):Prop:=yg (zR k a) (zR k b)
theorem eh.pw{x:Sem zh}(h:eh x):x.2.Pairwise (kLt x.1.2.2.1):=(uO (R:=kLt x.1.2.2.1) ie).1 h.rise
theorem eh.sub{t:Sem zo}{l l':List (List (Sem ze))}(h:eh (t,l))(hs:List.Sublist l' l):eh (t,l') where
 may:=h.may
 few:=cD hs.length_le h.few
 fits:=λr hr=>h.fits r (hs.subset hr)
 key:=List.Pairwise.sublist hs h.key
 uniq:=λu hu=>List.Pairwise.sublist hs (h.uniq u hu)
 rise:=(uO (R:=kLt t.2.2.1) ie).2 (List.Pairwise.sublist hs h.pw)
theorem Fd(db:List (Sem zh))(i:Nat):(db.getD i (zi zh)).1=(db.map (·.1)).getD i (zi zh).1:=by
 rw[bc,bc,fi];cases db[i]?<;>rfl
theorem Te{db:List (Sem zh)}{i:Nat}{x:Sem zh}(h:(db.getD i (zi zh)).1=x.1):(db.set i x).map (·.1)=db.map (·.1):=by
 rw[List.map_set];refine AQ λj=>?_
 rw[xr];by_cases e:i=j
 ·subst e;rw[if_pos rfl];by_cases hi:i<(db.map (·.1)).length
  ·rw[if_pos hi,zS hi,<-h];congr 1;have hi':i<db.length:=by simpa using hi
   rw[bc,zS hi',List.getElem_map];rfl
  ·rw[if_neg hi,eE ow]
 ·rw[if_neg e]
theorem iU.put{db:List (Sem zh)}{i:Nat}{x:Sem zh}(h:iU db)(ht:(db.getD i (zi zh)).1=x.1)(hx:eh x)(hb:DZ (db.set i x)):iU (db.set i x) where
 few:=by rw[List.length_set];exact h.few
 names:=λj hj=>by
  rw[List.length_set]at hj;have:=h.names j hj;rw[Fd,Fd]at this⊢
  rwa [Te ht]
 rels:=λy hy=>by
  rcases List.mem_or_eq_of_mem_set hy with hy|rfl
  ·exact h.rels y hy
  ·exact hx
 bound:=hb
theorem Nl{c:Int}{l:List (List (Sem ze))}(h:l.Pairwise (kLt c)):(l.map (zR c)).Pairwise (·≠·):=by
 rw[List.pairwise_map];exact h.imp λ{a b} hab(e:zR c a=zR c b)=>gU (a:=zR c b) (by have:=hab;unfold kLt at this;rwa [e]at this)
theorem jO:∀{a b:zD},Op.bytesLess a b=Q4->a≠b->Op.bytesLess b a=Q3
 |[],[],_,h=>absurd rfl h
 |[],_::_,h,_=>by simp[Op.bytesLess]at h
 |_::_,[],_,_=>rfl
 | a::x,b::y,h,hn=>by
  simp only[Op.bytesLess,Bool.or_eq_false_iff,decide_eq_false_iff_not,Bool.and_eq_false_iff,bX,mo,aP,aC,bf]at h⊢;by_cases e:a=b
  ·subst e;refine .inr ⟨rfl,jO (h.2.resolve_left λg=>g rfl) λg=>hn (by rw[g])⟩
  ·exact .inl (UInt8.lt_of_le_of_ne (UInt8.not_lt.1 h.1) (Ne.symm e))
set_option maxHeartbeats 4000000
theorem sX{a b:Sem ze}(ha:a.2.2.length<=1000000)(hb:b.2.2.length<=1000000):mK a b=Q3:=by unfold mK;rw[Co ha hb];rfl
theorem wL{a b:Sem ze}(ha:a.2.2.length<=1000000)(hb:b.2.2.length<=1000000):qA a b=bj a b:=by unfold qA;rw[Co ha hb];rfl
theorem Ud(a b:Sem ze):GW a b=Q3:=by unfold GW;rw[JN];rfl
theorem Xt(a b:Sem ze):Fk a b=DW a b:=by unfold Fk;rw[JN];rfl
theorem Xv(a b:Sem ze):NR a b=Q3:=by unfold NR;rw[NS];rfl
theorem zdX(a b:Sem ze):PL a b=Vb a b:=by unfold PL;rw[NS];rfl
theorem Uf(a:Sem ze):GZ a=Q3:=by unfold GZ;rw[JQ];rfl
theorem Xu(a:Sem ze):Fm a=yv a:=by unfold Fm;rw[JQ];rfl
theorem Cr{a b:Sem ze}(ha:a.2.2.length<=1000000)(hb:b.2.2.length<=1000000):pB a b=Q1 (!eQ a b,()):=by
 unfold pB al cT;simp only[ZH,Q8,qF ha,qF hb,uw ha,uw hb,if_true,eQ];generalize ao a=x;generalize ao b=y;obtain⟨k,n,s⟩:=x;obtain⟨k',n',s'⟩:=y;simp only;by_cases h:k=0
 ·subst h;rfl
 ·have e:(k==0)=Q4:=by simpa using h
  have e2:(k !=0)=Q3:=by simpa using h
  rw[e,e2];by_cases h':k'=0
  ·subst h';have e3:(k==0)=Q4:=e;simp[e3];rfl
  ·have e3:(k'==0)=Q4:=by simpa using h'
   rw[e3];rfl
theorem nN{a b:Sem ze}(ha:a.2.2.length<=1000000)(hb:b.2.2.length<=1000000):mL a b=Q3:=by unfold mL;rw[Cr ha hb];rfl
theorem qC{a b:Sem ze}(ha:a.2.2.length<=1000000)(hb:b.2.2.length<=1000000):qB a b=!eQ a b:=by unfold qB;rw[Cr ha hb];rfl
theorem jk(b:Bool):dm b=w8 b:=by
 unfold dm w8;rw[lq,lr]
theorem Ck{a b:Sem ze}(ha:a.2.2.length<=1000000)(hb:b.2.2.length<=1000000):pt a b=Q1 (mh a b,()):=by
 unfold pt al cT;simp only[ZD,Q8,nN ha hb,qC ha hb,nM,ia,if_true,mh,jk];cases eQ a b<;>rfl
theorem L4{a b:Sem ze}(ha:a.2.2.length<=1000000)(hb:b.2.2.length<=1000000):uo a b=Q3:=by unfold uo;rw[Ck ha hb];rfl
theorem PI{a b:Sem ze}(ha:a.2.2.length<=1000000)(hb:b.2.2.length<=1000000):qy a b=mh a b:=by unfold qy;rw[Ck ha hb];rfl
theorem Iq{a b:Sem ze}(h:eQ a b=Q3):aR a=Q3/\aR b=Q3/\a.1=b.1/\a.1≠0/\ao a=a/\ao b=b:=by
 unfold eQ ao at h;unfold ao;cases ha:aR a with
 |false=>simp[ha]at h
 | true=>
  cases hb:aR b with
  | false=>
   simp[ha,hb]at h
  | true=>
   simp[ha,hb]at h;exact⟨rfl,rfl,h.2,h.1,sw,sw⟩
theorem Fe{v:Sem ze}(h:aR v=Q3)(h0:v.1≠0):(v.1=1/\v.2.2=[])\/(v.1=2/\v.2.1=0)\/(v.1=3/\v.2.2=[]):=by
 obtain⟨k,n,s⟩:=v;unfold aR at h;simp only at h h0⊢;have e0:(k==0)=Q4:=by simpa using h0
 rw[e0]at h;by_cases h1:k=1
 ·subst h1;exact .inl ⟨rfl,by simpa using h⟩
 ·have e1:(k==1)=Q4:=by simpa using h1
  rw[e1]at h;by_cases h2:k=2
  ·subst h2;refine .inr (.inl ⟨rfl,?_⟩);simp at h;exact h.1
  ·have e2:(k==2)=Q4:=by simpa using h2
   rw[e2]at h;by_cases h3:k=3
   ·subst h3;refine .inr (.inr ⟨rfl,?_⟩);cases hn:(n==0)with
    |true=>simp[hn]at h;exact h
    |false=>simp[hn]at h;exact h.2
   ·have e3:(k==3)=Q4:=by simpa using h3
    rw[e3]at h;cases h
theorem W6(k n n':Int)(s s':zD)(hd:(s=[]/\s'=[])\/(n=0/\n'=0)):Q0 (Fg [rq k k,jX n n',nj s s']<0)=(bif Q0 (n<n')then Q3 else Op.bytesLess s s'):=by
 simp only[Fg,rq,jX,nj];rcases hd with⟨rfl,rfl⟩|⟨rfl,rfl⟩
 ·rcases AP n n' with h|h|h
  ·simp[h]
  ·subst h;simp[bN]
  ·have c1:¬n<n':=by omega
   simp[h,c1,bN]
 ·by_cases hl:Op.bytesLess s s'=Q3
  ·simp[hl]
  ·by_cases he:s=s'
   ·subst he;simp[bN]
   ·have c1:(s==s')=Q4:=bX.2 he;simp[hl,c1]
theorem Fl{a b:Sem ze}(ha:a.2.2.length<=1000000)(hb:b.2.2.length<=1000000):up a b=Q1 (rY a b,()):=by
 unfold up al cT;simp only[ZE,Q8,nN ha hb,qC ha hb,nM,ia,if_true,rY,jk];cases hal:eQ a b with
 |false=>rfl
 | true=>
  obtain⟨h1,h2,h3,h4,h5,h6⟩:=Iq hal;have k1:=Fe h1 h4;have k2:=Fe h2 (by rw[<-h3];exact h4);obtain⟨k,n,s⟩:=a;obtain⟨k',n',s'⟩:=b;simp only at h3 h4 k1 k2;subst h3;have hd:(s=[]/\s'=[])\/(n=0/\n'=0):=by
   rcases k1 with⟨e1,e2⟩|⟨e1,e2⟩|⟨e1,e2⟩<;>rcases k2 with⟨f1,f2⟩|⟨f1,f2⟩|⟨f1,f2⟩<;>first|exact .inl ⟨e2,f2⟩|exact .inr ⟨e2,f2⟩|exact absurd (e1.symm.trans f1) (by decide)
  have ho:Q0 (LT.lt (α:=Int) (bj (k,n,s) (k,n',s')) 0)=(bif Q0 (n<n')then Q3 else Op.bytesLess s s'):=by
   unfold bj;rw[h5,h6];exact W6 k n n' s s' hd
  rw[ho];by_cases h:n<n'
  ·have e:Q0 (n<n')=Q3:=zx h;simp only[e];rfl
  ·have e:Q0 (n<n')=Q4:=aj h;simp only[e];rfl
theorem PJ{a b:Sem ze}(ha:a.2.2.length<=1000000)(hb:b.2.2.length<=1000000):yV a b=Q3:=by unfold yV;rw[Fl ha hb];rfl
theorem Ue{a b:Sem ze}(ha:a.2.2.length<=1000000)(hb:b.2.2.length<=1000000):wK a b=rY a b:=by unfold wK;rw[Fl ha hb];rfl
theorem PH{a b:Int}(a1:-9223372036854775808<=a)(a2:a<=9223372036854775807)(b1:-9223372036854775808<=b)(b2:b<=9223372036854775807):
  (bif Q0 (b>0)then bif Q0 (a>IntKind.i64.wrap (9223372036854775807-b))then Q3 else bif Q0 (b<0)then Q0 (a<IntKind.i64.wrap (-9223372036854775808-b))else Q4 else bif Q0 (b<0)then Q0 (a<IntKind.i64.wrap (-9223372036854775808-b))else Q4)=
  (bif Q0 (b>0)then bif Q0 (IntKind.i64.wrap (a+b)<a)then Q3 else bif Q0 (b<0)then Q0 (IntKind.i64.wrap (a+b)>a)else Q4 else bif Q0 (b<0)then Q0 (IntKind.i64.wrap (a+b)>a)else Q4):=by
 rcases AP b 0 with h|h|h
 ·have e1:Q0 (b>0)=Q4:=aj ow;have e2:Q0 (b<0)=Q3:=zx h;simp only[e1,e2,ar,ae];rw[fX,fX];apply ip.2;rw[aP,aP];omega
 ·subst h;rfl
 ·have e1:Q0 (b>0)=Q3:=zx h;have e2:Q0 (b<0)=Q4:=aj ow;simp only[e1,e2,ar,ae];have:Q0 (a>IntKind.i64.wrap (9223372036854775807-b))=Q0 (IntKind.i64.wrap (a+b)<a):=by
   rw[fX,fX];apply ip.2;rw[aP,aP];omega
  rw[this]
theorem LL{a b:Int}(a1:-9223372036854775808<=a)(a2:a<=9223372036854775807)(b1:-9223372036854775808<=b)(b2:b<=9223372036854775807):
  (bif Q0 (b>0)then bif Q0 (a<IntKind.i64.wrap (-9223372036854775808+b))then Q3 else bif Q0 (b<0)then Q0 (a>IntKind.i64.wrap (9223372036854775807+b))else Q4 else bif Q0 (b<0)then Q0 (a>IntKind.i64.wrap (9223372036854775807+b))else Q4)=
  (bif Q0 (b>0)then bif Q0 (IntKind.i64.wrap (a-b)>a)then Q3 else bif Q0 (b<0)then Q0 (IntKind.i64.wrap (a-b)<a)else Q4 else bif Q0 (b<0)then Q0 (IntKind.i64.wrap (a-b)<a)else Q4):=by
 rcases AP b 0 with h|h|h
 ·have e1:Q0 (b>0)=Q4:=aj ow;have e2:Q0 (b<0)=Q3:=zx h;simp only[e1,e2,ar,ae];rw[fX,fX];apply ip.2;rw[aP,aP];omega
 ·subst h;rfl
 ·have e1:Q0 (b>0)=Q3:=zx h;have e2:Q0 (b<0)=Q4:=aj ow;simp only[e1,e2,ar,ae];have:Q0 (a<IntKind.i64.wrap (-9223372036854775808+b))=Q0 (IntKind.i64.wrap (a-b)>a):=by
   rw[fX,fX];apply ip.2;rw[aP,aP];omega
  rw[this]
theorem Fo{a b:Sem ze}(ha:l7 a)(hb:l7 b):us a b=Q1 (rZ a b,()):=by
 unfold us al cT;simp only[ZF,Q8,nN ha.2.2 hb.2.2,qC ha.2.2 hb.2.2,if_true,rZ];rw[PH ha.1 ha.2.1 hb.1 hb.2.1];cases(bif !eQ a b then Q3 else a.1!=1)
 ·cases(bif Q0 (b.2.1>0)then bif Q0 (IntKind.i64.wrap (a.2.1+b.2.1)<a.2.1)then Q3 else bif Q0 (b.2.1<0)then Q0 (IntKind.i64.wrap (a.2.1+b.2.1)>a.2.1)else Q4 else bif Q0 (b.2.1<0)then Q0 (IntKind.i64.wrap (a.2.1+b.2.1)>a.2.1)else Q4)<;>rfl
 ·rfl
theorem PM{a b:Sem ze}(ha:l7 a)(hb:l7 b):yW a b=Q3:=by unfold yW;rw[Fo ha hb];rfl
theorem Ug{a b:Sem ze}(ha:l7 a)(hb:l7 b):wM a b=rZ a b:=by unfold wM;rw[Fo ha hb];rfl
theorem Cl{a b:Sem ze}(ha:l7 a)(hb:l7 b):pz a b=Q1 (mi a b,()):=by
 unfold pz al cT;simp only[ZG,Q8,nN ha.2.2 hb.2.2,qC ha.2.2 hb.2.2,if_true,mi];rw[LL ha.1 ha.2.1 hb.1 hb.2.1];cases(bif !eQ a b then Q3 else a.1!=1)
 ·cases(bif Q0 (b.2.1>0)then bif Q0 (IntKind.i64.wrap (a.2.1-b.2.1)>a.2.1)then Q3 else bif Q0 (b.2.1<0)then Q0 (IntKind.i64.wrap (a.2.1-b.2.1)<a.2.1)else Q4 else bif Q0 (b.2.1<0)then Q0 (IntKind.i64.wrap (a.2.1-b.2.1)<a.2.1)else Q4)<;>rfl
 ·rfl
theorem L5{a b:Sem ze}(ha:l7 a)(hb:l7 b):ur a b=Q3:=by unfold ur;rw[Cl ha hb];rfl
theorem PK{a b:Sem ze}(ha:l7 a)(hb:l7 b):qz a b=mi a b:=by unfold qz;rw[Cl ha hb];rfl
theorem xU(c:Int):mS c=Q1 (aK c,()):=by
 unfold mS al cT;simp only[Zy,Q8,aK];by_cases h1:97<=c
 ·have e1:Q0 (97<=c)=Q3:=zx h1;have e2:Q0 (c<=90)=Q4:=aj ow;have e3:Q0 (65<=c)=Q3:=zx ow;simp[e1,e2,e3];rfl
 ·have e1:Q0 (97<=c)=Q4:=aj h1;simp[e1];rfl
theorem lT(c:Int):kr c=Q3:=by unfold kr;rw[xU];rfl
theorem nS(c:Int):mR c=aK c:=by unfold mR;rw[xU];rfl
theorem CH(c:Int):uD c=Q1 (zY c,()):=rfl
theorem eL(c:Int):fG c=Q3:=by unfold fG;rw[CH];rfl
theorem fP(c:Int):gM c=zY c:=by unfold gM;rw[CH];rfl
theorem Fz(c:Int):uE c=Q1 (bw c,()):=by
 unfold uE al cT;simp only[Zz,Q8,eL,fP,lT,nS,bw];cases zY c<;>cases aK c<;>rfl
theorem qR(c:Int):qQ c=Q3:=by unfold qQ;rw[Fz];rfl
theorem uF(c:Int):wR c=bw c:=by unfold wR;rw[Fz];rfl
theorem Jt(p:Int->Bool):∀s:zD,cK p s=s.length↔∀c∈s,p c.toNat=Q3
 |[]=>by simp[cK]
 | c::r=>by
  have ih:=Jt p r;rw[cK];by_cases h:p c.toNat=Q3
  ·rw[if_pos h];simp only[fj,cu,forall_eq_or_imp];constructor
   ·intro h2;exact⟨h,ih.1 ow⟩
   ·intro h2;rw[ih.2 h2.2]
  ·rw[if_neg h];simp only[fj,cu,forall_eq_or_imp];exact⟨λh2=>absurd h2 ow,λh2=>absurd h2.1 h⟩
theorem Ju{c:Int}(h:aK c=Q3):bw c=Q3:=by
 unfold bw;rw[h];rfl
theorem Qj(s:zD):pS s=Q3↔(1<=s.length/\s.length<=16/\aK (getD s 0 0).toNat=Q3/\∀c∈s,bw c.toNat=Q3):=by
 unfold pS;cases s with
 |nil=>simp
 | cons c r=>
  have e1:Q0 (((c::r).length:Int)>=1)=Q3:=zx sg;rw[e1];by_cases h:(c::r).length<=16
  ·have e2:Q0 (((c::r).length:Int)<=16)=Q3:=zx ow;rw[e2];simp only[ae];have ha:=Jt bw r;by_cases hl:aK c.toNat=Q3
   ·have er:aN aK bw (c::r)=cK bw r+1:=by rw[aN,if_pos hl]
    rw[er];constructor
    ·intro h2;have:cK bw r=r.length:=by simp at h2;omega
     refine⟨sw,h,hl,?_⟩;intro x hx;rcases cu.1 hx with rfl|hx
     ·exact Ju hl
     ·exact ha.1 this x hx
    ·rintro⟨_,_,_,h3⟩;have:=ha.2 (λx hx=>h3 x (tk _ hx));simp[this]
   ·have er:aN aK bw (c::r)=0:=by rw[aN,if_neg hl]
    rw[er];constructor
    ·intro h2;simp at h2;omega
    ·rintro⟨_,_,h2,_⟩;exact absurd h2 hl
  ·have e2:Q0 (((c::r).length:Int)<=16)=Q4:=aj ow;rw[e2];simp only[ae,ar];exact⟨λh=>(by cases h),λh2=>absurd h2.2.1 h⟩
theorem Fy{s:zD}(hl:s.length<=1000000):Al s=Q1 (dU s,()):=by
 have hf:=ly (t:=vd) (Φ:=λr=>r=(.kb Q4,[])) 1 (λi=>.h2 s (i:Int)) (λi=>bw (getD s i 0).toNat=Q3) s.length (by
  intro i hi _;have hv:(vd (.h2 s (i:Int))).val=if(!bw (getD s i 0).toNat)=Q3 then Q1 (.inr (.kb Q4,[]))else Q1 (.inl (.h2 s ((i+1:Nat):Int))):=by
   show(vd (.h2 _ _)).val=_;unfold vd;simp only[Q8,zC hi,zt hi,aG,qR,uF,if_true];rw[zp i um]
  by_cases h:bw (getD s i 0).toNat=Q3
  ·exact .inl ⟨h,zQ.of (by rw[hv,if_neg (by rw[h];simp)])⟩
  ·exact .inr ⟨h,_,zU.of (by rw[hv,if_pos (by simpa using h)]),rfl⟩)
 have hi:(Zx s).val=Q1 (.inl (.h2 s ((0:Nat):Int))):=rfl;have hq:=au (l:=s) (d:=0) (Q:=λc=>bw c.toNat=Q3);have hw:=Qj s;rcases hf with⟨h1,h2⟩|⟨h1,r,h2,rfl⟩
 ·refine zw hi (h2.ends (zU.of (r:=(.bool (dU s),[])) ?_)) ow rfl;show(vd (.h2 _ _)).val=_;unfold vd;simp only[Q8,zA,lT,nS];have e:dU s=(bif Q0 (1<=(s.length:Int))then bif Q0 ((s.length:Int)<=16)then aK (getD s (toNat 0) 0).toNat else Q4 else Q4):=by
   apply ip.2;unfold dU;rw[hw];by_cases k1:1<=s.length
   ·have e1:Q0 (1<=(s.length:Int))=Q3:=zx ow;rw[e1];by_cases k2:s.length<=16
    ·have e2:Q0 ((s.length:Int)<=16)=Q3:=zx ow;rw[e2];exact⟨λh=>h.2.2.1,λh=>⟨k1,k2,h,hq.1 h1⟩⟩
    ·have e2:Q0 ((s.length:Int)<=16)=Q4:=aj ow;rw[e2];exact⟨λh=>absurd h.2.1 k2,λh=>(by cases h)⟩
   ·have e1:Q0 (1<=(s.length:Int))=Q4:=aj ow;rw[e1];exact⟨λh=>absurd h.1 k1,λh=>(by cases h)⟩
  rw[e];by_cases k1:1<=s.length
  ·have e0:zK 0 s.length=Q3:=zt (i:=0) ow;rw[e0];cases Q0 (1<=(s.length:Int))<;>cases Q0 ((s.length:Int)<=16)<;>rfl
  ·have e1:Q0 (1<=(s.length:Int))=Q4:=aj ow;rw[e1];rfl
 ·have e:dU s=Q4:=by
   cases hh:dU s with
   |false=>rfl
   |true=>exact absurd (hq.2 (hw.1 hh).2.2.2) h1
  rw[e];exact zw hi h2 ow rfl
theorem wQ{s:zD}(hl:s.length<=1000000):uC s=Q3:=by unfold uC;rw[Fy hl];rfl
theorem CG{s:zD}(hl:s.length<=1000000):sZ s=dU s:=by unfold sZ;rw[Fy hl];rfl
noncomputable def wX:List zD:=match(Ss []).val with
 |some (.inl (.h3 _ l _))=>l
 |_=>[]
theorem Uu:wX.length=38:=kw
theorem Uv:(wX.all λw=>(Du.map (·.1)).contains w)=Q3:=kw
theorem Uw:(Du.all λw=>wX.contains w.1)=Q3:=kw
theorem MF:(Du.all λw=>w.2)=Q3:=kw
theorem Oc(s:zD):∀l:List (zD×Bool),(l.all λw=>w.2)=Q3->(Ob s l Q4=Q3↔s∈l.map (·.1))
 |[],_=>by simp[Ob]
 | (w,b)::r,h=>by
  simp only[List.all_cons,aC]at h;obtain⟨rfl,h⟩:=h;rw[Ob];by_cases e:(s==w)=Q3
  ·have:s=w:=bC e;rw[if_pos e];simp[this]
  ·rw[if_neg e,Oc s r h];have:s≠w:=λh=>e (by rw[h];simp)
   simp[this]
theorem N6(s:zD):jg s=Q3↔s∈wX:=by
 unfold jg;rw[Oc s Du MF];constructor
 ·intro h;obtain⟨w,hw,rfl⟩:=bq.1 h;have:=dX.1 Uw w hw;simpa using this
 ·intro h;have:=dX.1 Uv s h;simpa using this
theorem J8(s:zD):Hn s=Q1 (jg s,()):=by
 have hn:=Uu;have hf:=ly (t:=Db) (Φ:=λr=>r=(.kb Q3,[])) 1 (λi=>.h3 s wX (i:Int)) (λi=>getD wX i (zi Sh.str)≠s) wX.length (by
  intro i hi _;have hv:(Db (.h3 s wX (i:Int))).val=if(getD wX i (zi Sh.str)==s)=Q3 then Q1 (.inr (.kb Q3,[]))else Q1 (.inl (.h3 s wX ((i+1:Nat):Int))):=by
   show(Db (.h3 _ _ _)).val=_;unfold Db;simp only[Q8,zC hi,zt hi,aG,if_true];rw[zp i um]
  by_cases h:getD wX i (zi Sh.str)=s
  ·exact .inr ⟨λh2=>h2 h,_,zU.of (by rw[hv,if_pos (by rw[h];simp)]),rfl⟩
  ·exact .inl ⟨h,zQ.of (by rw[hv,if_neg (λh2=>h (bC h2))])⟩)
 have hi:(Ss s).val=Q1 (.inl (.h3 s wX ((0:Nat):Int))):=rfl;have hq:=au (l:=wX) (d:=zi Sh.str) (Q:=λw=>w≠s);rcases hf with⟨h1,h2⟩|⟨h1,r,h2,rfl⟩
 ·have e:jg s=Q4:=by
   cases hh:jg s with
   |false=>rfl
   |true=>exact absurd rfl (hq.1 h1 s ((N6 s).1 hh))
  rw[e];refine zw hi (h2.ends (zU.of (r:=(.kb Q4,[])) ?_)) ow rfl;show(Db (.h3 _ _ _)).val=_;unfold Db;simp only[Q8,zA];rfl
 ·have e:jg s=Q3:=by
   cases hh:jg s with
   |true=>rfl
   |false=>exact absurd (hq.2 λw hw hws=>by rw[hws]at hw;rw[(N6 s).2 hw]at hh;cases hh) h1
  rw[e];exact zw hi h2 ow rfl
theorem J7(s:zD):CI s=Q3:=by unfold CI;rw[J8];rfl
theorem NZ(s:zD):J6 s=jg s:=by unfold J6;rw[J8];rfl
theorem FA{s:zD}(hl:s.length<=1000000):uG s=Q1 (zO s,()):=by
 unfold uG al cT;simp only[zix,Q8,wQ hl,CG hl,J7,NZ,zO];cases dU s<;>rfl
theorem bA{s:zD}(hl:s.length<=1000000):dH s=Q3:=by unfold dH;rw[FA hl];rfl
theorem eT{s:zD}(hl:s.length<=1000000):bu s=zO s:=by unfold bu;rw[FA hl];rfl
noncomputable section
def A9(g:Sem Q5->Sem (Sh.sl zj)->Sem (Sh.sl ze)->Sem ze)(c:Sem Q5->Sem (Sh.sl zj)->Sem (Sh.sl ze)->Bool):cd:=Ge.add 174 (zV [Q5,Sh.sl zj,Sh.sl ze] [ze] (λx=>c x.1 x.2.1 x.2.2.1) λx=>(g x.1 x.2.1 x.2.2.1,()))
theorem K0{g:Sem Q5->Sem (Sh.sl zj)->Sem (Sh.sl ze)->Sem ze}{c:Sem Q5->Sem (Sh.sl zj)->Sem (Sh.sl ze)->Bool}(hg:FK 174 (zV [Q5,Sh.sl zj,Sh.sl ze] [ze] (λx=>c x.1 x.2.1 x.2.2.1) λx=>(g x.1 x.2.1 x.2.2.1,()))):zy (A9 g c):=sx.add hg
abbrev Lw:Nat->aO:=λj=>if j=6 then{slots:=[1,2,3,6,7]}else{ }
inductive D0 where
 |h6 (l1:LC) (l2:LV) (i7:Int) (z0:zm [CP.d Q5]) (z1:zm [CP.d ze])
abbrev IC:D0->Nat×St
 |.h6 l1 l2 i7 z0 z1=>(6,⟨tm 103 [(1,sl zj l1),(2,sl ze l2),(3,ptr 0 0),(6,ptr 1 0),(7,ai i7)],[AO.box (bv [] [CP.d Q5] z0),AO.box (bv [] [CP.d ze] z1)]⟩)
theorem zdz(g:Sem Q5->Sem zj.sl->Sem ze.sl->Sem ze)(c:Sem Q5->Sem zj.sl->Sem ze.sl->Bool):zL (A9 g c).P 174 Tryz.f174 3:=bS kw
def pe(g:Sem Q5->Sem zj.sl->Sem ze.sl->Sem ze)(c:Sem Q5->Sem zj.sl->Sem ze.sl->Bool)(x0:Sem Q5)(x1:Sem zj.sl)(x2:Sem ze.sl):Tr (D0⊕aw):=
 let a0:=zn ((zf.l x0).getD (toNat 0) (zi Q5))
 let a1:=g a0 x1 x2
 let a2:=Fm a1
 let a3:=a1.1==0
 let a4:=aX a3
 let a5:=zn ((zf.l x0).getD (toNat 1) (zi Q5))
 let a6:=g a5 x1 x2
 let a7:=Fk a1 a6
 let a8:=PL a1 a6
 let a9:=qy a1 a6
 let a10:=wK a1 a6
 let a11:=wM a1 a6
 let a12:=qz a1 a6
 br (zf.op x0==[108,105,116])
 (re (agg [ai (zf.v x0).1,ai (zf.v x0).2.1,str (zf.v x0).2.2]) [])
 (br (zf.op x0==[99,111,108]) (Tr.to (D0.h6 x1 x2 0 (x0,()) ((0,0,[]),())))
  (chk (zK 0 (zf.l x0).length) (chk (c a0 x1 x2) (br (zf.op x0==[110,111,116]) (chk (GZ a1) (re (agg [ai a2.1,ai a2.2.1,str a2.2.2]) [])) (br (zf.op x0==[110,117,108,108]) (chk (kW a1) (br (!py a1) (chk Q3
  (re (agg [ai (aX Q3).1,ai (aX Q3).2.1,str (aX Q3).2.2]) [])) (chk (kX a3) (re (agg [ai a4.1,ai a4.2.1,str a4.2.2]) [])))) (chk (zK 1 (zf.l x0).length) (chk (c a5 x1 x2) (br (zf.op x0==[97,110,100])
  (chk (GW a1 a6) (re (agg [ai a7.1,ai a7.2.1,str a7.2.2]) [])) (br (zf.op x0==[111,114]) (chk (NR a1 a6) (re (agg [ai a8.1,ai a8.2.1,str a8.2.2]) [])) (br (zf.op x0==[61]) (chk (uo a1 a6) (re (agg [ai a9.1,ai a9.2.1,str a9.2.2]) [])) (br (zf.op x0==[60])
  (chk (yV a1 a6) (re (agg [ai a10.1,ai a10.2.1,str a10.2.2]) [])) (br (zf.op x0==[43]) (chk (yW a1 a6) (re (agg [ai a11.1,ai a11.2.1,str a11.2.2]) [])) (chk (ur a1 a6) (re (agg [ai a12.1,ai a12.2.1,str a12.2.2]) []))))))))))))))
theorem zcy(g:Sem Q5->Sem zj.sl->Sem ze.sl->Sem ze)(c:Sem Q5->Sem zj.sl->Sem ze.sl->Bool)(x0:Sem Q5)(x1:Sem zj.sl)(x2:Sem ze.sl):rn (A9 g c) 0 Lw Tryz.f174 [zH Q5 x0,zH zj.sl x1,zH ze.sl x2] []=(pe g c x0 x1 x2).map (lf Tryz.f174 IC):=kw
def xZ(_:Sem Q5->Sem zj.sl->Sem ze.sl->Sem ze)(_:Sem Q5->Sem zj.sl->Sem ze.sl->Bool):D0->Tr (D0⊕aw)
 | .h6 l1 l2 i7 z0 z1=>
  let a0:=l1.getD i7.toNat (zi zj)
  let a1:=l2.getD i7.toNat (zi ze)
  br (Q0 (i7<(↑l1.length:Int)))
  (chk (zK i7 l1.length)
   (br (a0.1==zf.s z0.1) (br (Q0 (i7<(↑l2.length:Int))) (chk (zK i7 l2.length) (re (agg [ai a1.1,ai a1.2.1,str a1.2.2]) [])) (re (agg [ai 0,ai 0,str []]) [])) (Tr.to (D0.h6 l1 l2 (IntKind.i64.wrap (i7+1)) z0 z1))))
  (re (agg [ai 0,ai 0,str []]) [])
theorem zdM(g:Sem Q5->Sem zj.sl->Sem ze.sl->Sem ze)(c:Sem Q5->Sem zj.sl->Sem ze.sl->Bool):∀s,run (A9 g c) 0 Lw (Func.results Tryz.f174).toList 400 (ag Tryz.f174 (IC s).1) (IC s).2=(xZ g c s).map (lf Tryz.f174 IC)
 |.h6 l1 l2 i7 z0 z1=>by kernel_rfl
def gJ(o:Option (zz (List.map Q1 [ze]))):Sem ze:=(λr:zz (List.map Q1 [ze])=>r.1) (o.getD (cg [ze]))
def NT(g:Sem Q5->Sem zj.sl->Sem ze.sl->Sem ze)(c:Sem Q5->Sem zj.sl->Sem ze.sl->Bool)(x0:Sem Q5)(x1:Sem zj.sl)(x2:Sem ze.sl):Option (zz (List.map Q1 [ze])):=al [ze] (xZ g c) 100000000 (pe g c x0 x1 x2)
def cn:Nat->Sem Q5->Sem zj.sl->Sem ze.sl->Option (zz (List.map Q1 [ze]))
 |0=>λ_ _ _=>Q2
 |n+1=>NT (λx0 x1 x2=>gJ (cn n x0 x1 x2)) λx0 x1 x2=>(cn n x0 x1 x2).isSome
theorem SI:zL Ge.P 174 Tryz.f174 3:=bS kw
theorem H4:∀n,FK 174 (zV [Q5,zj.sl,ze.sl] [ze] (λx=>(cn n x.1 x.2.1 x.2.2.1).isSome) λx=>(gJ (cn n x.1 x.2.1 x.2.2.1),()))
 |0=>fy ⟨Tryz.f174,SI.1,SI.2.1,SI.2.2.1⟩ (λ_=>rfl)
 |n+1=>lY (E:=A9 (λx0 x1 x2=>gJ (cn n x0 x1 x2)) (λx0 x1 x2=>(cn n x0 x1 x2).isSome)) (ks:=[Q5,zj.sl,ze.sl]) (outs:=[ze]) (keep:=Lw) (gas:=400) (n:=100000000) (e:=IC) (t:=xZ (λx0 x1 x2=>gJ (cn n x0 x1 x2)) (λx0 x1 x2=>(cn n x0 x1 x2).isSome)) (i:=λx=>pe (λx0 x1 x2=>gJ (cn n x0 x1 x2)) (λx0 x1 x2=>(cn n x0 x1 x2).isSome) x.1 x.2.1 x.2.2.1) (K0 (H4 n)) (zdz _ _) (λx=>zcy _ _ x.1 x.2.1 x.2.2.1) (zdM _ _) (λ_=>by kernel_rfl) (λ_=>by kernel_rfl)
def Ab(x0:Sem Q5)(x1:Sem zj.sl)(x2:Sem ze.sl):Option (zz (List.map Q1 [ze])):=cn 16 x0 x1 x2
def Aa(x0:Sem Q5)(x1:Sem zj.sl)(x2:Sem ze.sl):Bool:=(Ab x0 x1 x2).isSome
def G1(x0:Sem Q5)(x1:Sem zj.sl)(x2:Sem ze.sl):Sem ze:=gJ (Ab x0 x1 x2)
def X5:ac:=zV [Q5,zj.sl,ze.sl] [ze] (λx=>Aa x.1 x.2.1 x.2.2.1) λx=>(G1 x.1 x.2.1 x.2.2.1,())
theorem Vh:FK 174 X5:=H4 16
abbrev zi6:=lx [(5,[1,3,4]),(11,[1,3,6]),(16,[1,3,7])]
inductive DF where
 |h5 (i3:Int) (i4:Int) (z0:zm [CP.d zo])
 |h11 (i3:Int) (i6:Int) (z0:zm [CP.d zo])
 |h16 (i3:Int) (i7:Int) (z0:zm [CP.d zo])
abbrev zlJ:DF->Nat×St
 |.h5 i3 i4 z0=>(5,⟨tm 139 [(1,ptr 0 0),(3,ai i3),(4,ai i4)],[AO.box (bv [] [CP.d zo] z0)]⟩)
 |.h11 i3 i6 z0=>(11,⟨tm 139 [(1,ptr 0 0),(3,ai i3),(6,ai i6)],[AO.box (bv [] [CP.d zo] z0)]⟩)
 |.h16 i3 i7 z0=>(16,⟨tm 139 [(1,ptr 0 0),(3,ai i3),(7,ai i7)],[AO.box (bv [] [CP.d zo] z0)]⟩)
def zc5(x0:Sem zo):Tr (DF⊕aw):=
 let a0:=(↑(length x0.2.1):Int)
 let a1:=Q0 (a0<1)
 let a2:=Q0 (a0>8)
 let a3:=Q0 (x0.2.2.1<0)
 let a4:=Q0 (x0.2.2.1>=a0)
 let a5:=getD x0.2.1 (toNat x0.2.2.1) (zi zj)
 chk
 (dH x0.1&&
  bif !bu x0.1 then Q3
  else bif a1 then Q3 else bif a2 then Q3 else bif a3 then Q3 else bif a4 then Q3 else zK x0.2.2.1 (length x0.2.1))
 (br (bif !bu x0.1 then Q3 else bif a1 then Q3 else bif a2 then Q3 else bif a3 then Q3 else bif a4 then Q3 else !a5.2.2)
  (re (kb Q4) []) (Tr.to (DF.h5 a0 0 (x0,()))))
def rz:DF->Tr (DF⊕aw)
 | .h5 i3 i4 z0=>
  let a0:=getD z0.1.2.1 i4.toNat (zi zj)
  let a1:=!bu a0.1
  let a2:=Q0 (a0.2.1<1)
  let a3:=Q0 (a0.2.1>3)
  br (Q0 (i4<i3))
  (chk (zK i4 (length z0.1.2.1))
   (chk (dH a0.1&&bif a1 then Q3 else bif a2 then Q3 else bif a3 then Q3 else dC z0.1.2.1 a0.1) (br (bif a1 then Q3 else bif a2 then Q3 else bif a3 then Q3 else eK z0.1.2.1 a0.1!=i4) (re (kb Q4) []) (Tr.to (DF.h5 i3 (IntKind.i64.wrap (i4+1)) z0)))))
  (Tr.to (DF.h11 i3 0 z0))
 | .h11 i3 i6 z0=>
  let a0:=(↑(length z0.1.2.2.2.1):Int)
  let a1:=zK i6 (length z0.1.2.2.2.1)
  let a2:=getD z0.1.2.2.2.1 i6.toNat (zi zg)
  let a3:=Q0 (a2<0)
  br (Q0 (i6<a0))
  (chk (a1&&bif a3 then Q3 else a1)
   (br (bif a3 then Q3 else Q0 (a2>=i3)) (re (kb Q4) []) (Tr.to (DF.h11 i3 (IntKind.i64.wrap (i6+1)) z0))))
  (Tr.to (DF.h16 i3 0 z0))
 | .h16 i3 i7 z0=>
  let a0:=(↑(length z0.1.t.1):Int)
  let a1:=zK i7 (length z0.1.t.1)
  let a2:=getD z0.1.t.1 i7.toNat (zi zu)
  let a3:=Q0 (a2.1<0)
  let a4:=Q0 (a2.1>=i3)
  let a5:=zn z0.1.t.2
  br (Q0 (i7<a0))
  (chk (a1&&bif a3 then Q3 else a1&&bif a4 then Q3 else a1&&dH a2.2)
   (br (bif a3 then Q3 else bif a4 then Q3 else !bu a2.2) (re (kb Q4) []) (Tr.to (DF.h16 i3 (IntKind.i64.wrap (i7+1)) z0))))
  (chk (Cy a5 z0.1.2.1) (re (AV.bool (Ha a5 z0.1.2.1==0)) []))
def G9(x0:Sem zo):=al [Sh.bool] rz 100000000 (zc5 x0)
def wO(x0:Sem zo):=(G9 x0).isSome
def Fw(x0:Sem zo):=o1 (G9 x0)
def zfz:=FT [zo] [Sh.bool] λx=>G9 x.1
theorem zbw:FK 127 zfz:=sx.T1 (f:=Tryz.f127) (keep:=zi6) (e:=zlJ)
def RD:=Ge.addL [(174,X5),(127,zfz)]
theorem kI:zy RD:=sx.addL<|fc Vh<|fc zbw iM
end
mutual
def sb:zf->Prop
 |.mk _ v s l=>l7 v/\s.length<=1000000/\j0 l
def j0:List zf->Prop
 |[]=>True
 |e::r=>sb e/\j0 r
end
theorem j0.mem:∀{l:List zf},j0 l->∀e∈l,sb e
 |[],_,e,h=>by simp at h
 | x::r,h,e,he=>by
  rw[j0]at h;rcases cu.1 he with rfl|he
  ·exact h.1
  ·exact j0.mem h.2 e he
def DV(op:zD):Bool:=bif op==[97,110,100]then Q3 else bif op==[111,114]then Q3 else bif op==[61]then Q3 else bif op==[60]then Q3 else bif op==[43]then Q3 else op==[45]
theorem JX(s:zD):L9 s=Q1 (DV s,()):=rfl
theorem Ui(s:zD):G7 s=Q3:=by unfold G7;rw[JX];rfl
theorem Xw(s:zD):NW s=DV s:=by unfold NW;rw[JX];rfl
def cq:Nat->zf->Bool
 |0,_=>Q4
 | d+1,.mk op v s l=>
  if(op==[108,105,116])=Q3 then(bif aR v then bif s==[]then(l.length:Int)==0 else Q4 else Q4)else
  if(op==[99,111,108])=Q3 then(bif ba v then bif dU s then bif !jg s then(l.length:Int)==0 else Q4 else Q4 else Q4)else
  if(bif op==[110,111,116]then Q3 else op==[110,117,108,108])=Q3 then(bif ba v then bif s==[]then(match l with|[a]=>cq d a|_=>Q4)else Q4 else Q4)else
  if DV op=Q3 then(bif ba v then bif s==[]then(match l with|[a,b]=>bif cq d a then cq d b else Q4|_=>Q4)else Q4 else Q4)else Q4
def nE:Nat->zf->Nat
 |0,_=>0
 |d+1,.mk _ _ _ l=>1+(l.map (nE d)).sum
theorem Qq(d:Nat)(h:d<=1000):IntKind.i64.wrap (((d+1:Nat):Int)-1)=(d:Int):=pU d um
theorem Fu:∀(N d:Nat)(e:zf),d<=12->d<N->sb e->fO N e (d:Int)=Q1 (cq d e,())
 |0,_,_,_,h,_=>absurd h ow
 | N+1,0,e,_,_,_=>by
  rw[fO];unfold G6 al cT;rfl
 | N+1,d+1,.mk op v s l,h1,h2,hw=>by
  rw[sb]at hw;obtain⟨hv,hs,hl⟩:=hw;have hN:∀a∈l,fO N a (d:Int)=Q1 (cq d a,()):=λa ha=>Fu N d a ow ow (hl.mem a ha)
  rw[fO];unfold G6 al cT;have hx:(((d+1:Nat):Int)==0)=Q4:=bX.2 ow;simp only[Nh,Q8,zk,zf.op,zf.v,zf.s,zf.l,jH hv.2.2,lR hv.2.2,wQ hs,CG hs,J7,NZ,Ui,Xw,Qq d ow,if_true,hx]
  match l,hN with
  | [],_=>
   simp only[cq,ba];rcases zI (op==[108,105,116])with c1|c1
   ·rcases zI (aR v)with c5|c5<;>rcases zI (s==[])with c6|c6<;>(simp only[c1,c5,c6,ae,ar,if_true,if_false,zB,dz];rfl)
   rcases zI (op==[99,111,108])with c2|c2
   ·rcases zI (ba v)with c5|c5<;>rcases zI (dU s)with c6|c6<;>rcases zI (jg s)with c7|c7<;>(simp only[ba]at c5;simp only[c1,c2,c5,c6,c7,ae,ar,if_true,if_false,zB,dz,bG,cC];rfl)
   rcases zI (bif op==[110,111,116]then Q3 else op==[110,117,108,108])with c3|c3
   ·rcases zI (ba v)with c5|c5<;>rcases zI (s==[])with c6|c6<;>(simp only[ba]at c5;simp only[c1,c2,c3,c5,c6,ae,ar,if_true,if_false,zB,dz];rfl)
   rcases zI (DV op)with c4|c4
   ·rcases zI (ba v)with c5|c5<;>rcases zI (s==[])with c6|c6<;>(simp only[ba]at c5;simp only[c1,c2,c3,c4,c5,c6,ae,ar,if_true,if_false,zB,dz];rfl)
   ·simp only[c1,c2,c3,c4,if_false,zB,dz];rfl
  | [a],hN=>
   have ha:=hN a sw;simp only[cq,ba,show getD [a] (toNat 0) (zi Q5)=a from rfl,ha,show zK 0 [a].length=Q3 from rfl,Ea,show∀x,nP (Q1 (x,()))=x from λ_=>rfl];rcases zI (op==[108,105,116])with c1|c1
   ·rcases zI (aR v)with c5|c5<;>rcases zI (s==[])with c6|c6<;>(simp only[c1,c5,c6,ae,ar,if_true,if_false,zB,dz];rfl)
   rcases zI (op==[99,111,108])with c2|c2
   ·rcases zI (ba v)with c5|c5<;>rcases zI (dU s)with c6|c6<;>rcases zI (jg s)with c7|c7<;>(simp only[ba]at c5;simp only[c1,c2,c5,c6,c7,ae,ar,if_true,if_false,zB,dz,bG,cC];rfl)
   rcases zI (bif op==[110,111,116]then Q3 else op==[110,117,108,108])with c3|c3
   ·rcases zI (ba v)with c5|c5<;>rcases zI (s==[])with c6|c6<;>rcases zI (cq d a)with c7|c7<;>(simp only[ba]at c5;simp only[c1,c2,c3,c5,c6,c7,ae,ar,if_true,if_false,zB,dz];rfl)
   rcases zI (DV op)with c4|c4
   ·rcases zI (ba v)with c5|c5<;>rcases zI (s==[])with c6|c6<;>rcases zI (cq d a)with c7|c7<;>(simp only[ba]at c5;simp only[c1,c2,c3,c4,c5,c6,c7,ae,ar,if_true,if_false,zB,dz];rfl)
   ·simp only[c1,c2,c3,c4,if_false,zB,dz];rfl
  | [a,b],hN=>
   have ha:=hN a sw;have hb:=hN b sw;simp only[cq,ba,show getD [a,b] (toNat 0) (zi Q5)=a from rfl,show getD [a,b] (toNat 1) (zi Q5)=b from rfl,ha,hb,show zK 0 [a,b].length=Q3 from rfl,show zK 1 [a,b].length=Q3 from rfl,Ea,show∀x,nP (Q1 (x,()))=x from λ_=>rfl];rcases zI (op==[108,105,116])with c1|c1
   ·rcases zI (aR v)with c5|c5<;>rcases zI (s==[])with c6|c6<;>(simp only[c1,c5,c6,ae,ar,if_true,if_false,zB,dz];rfl)
   rcases zI (op==[99,111,108])with c2|c2
   ·rcases zI (ba v)with c5|c5<;>rcases zI (dU s)with c6|c6<;>rcases zI (jg s)with c7|c7<;>(simp only[ba]at c5;simp only[c1,c2,c5,c6,c7,ae,ar,if_true,if_false,zB,dz,bG,cC];rfl)
   rcases zI (bif op==[110,111,116]then Q3 else op==[110,117,108,108])with c3|c3
   ·rcases zI (ba v)with c5|c5<;>rcases zI (s==[])with c6|c6<;>rcases zI (cq d a)with c7|c7<;>rcases zI (cq d b)with c8|c8<;>(simp only[ba]at c5;simp only[c1,c2,c3,c5,c6,c7,c8,ae,ar,if_true,if_false,zB,dz];rfl)
   rcases zI (DV op)with c4|c4
   ·rcases zI (ba v)with c5|c5<;>rcases zI (s==[])with c6|c6<;>rcases zI (cq d a)with c7|c7<;>rcases zI (cq d b)with c8|c8<;>(simp only[ba]at c5;simp only[c1,c2,c3,c4,c5,c6,c7,c8,ae,ar,if_true,if_false,zB,dz];rfl)
   ·simp only[c1,c2,c3,c4,if_false,zB,dz];rfl
  | a::b::c::r,_=>
   have e0:((((a::b::c::r).length:Nat):Int)==0)=Q4:=bX.2 sg;have e1:((((a::b::c::r).length:Nat):Int)==1)=Q4:=bX.2 sg;have e2:((((a::b::c::r).length:Nat):Int)==2)=Q4:=bX.2 sg;simp only[cq,ba,e0,e1,e2];rcases zI (op==[108,105,116])with c1|c1
   ·rcases zI (aR v)with c5|c5<;>rcases zI (s==[])with c6|c6<;>(simp only[c1,c5,c6,ae,ar,if_true,if_false,zB,dz];rfl)
   rcases zI (op==[99,111,108])with c2|c2
   ·rcases zI (ba v)with c5|c5<;>rcases zI (dU s)with c6|c6<;>rcases zI (jg s)with c7|c7<;>(simp only[ba]at c5;simp only[c1,c2,c5,c6,c7,ae,ar,if_true,if_false,zB,dz,bG,cC];rfl)
   rcases zI (bif op==[110,111,116]then Q3 else op==[110,117,108,108])with c3|c3
   ·rcases zI (ba v)with c5|c5<;>rcases zI (s==[])with c6|c6<;>(simp only[ba]at c5;simp only[c1,c2,c3,c5,c6,ae,ar,if_true,if_false,zB,dz];rfl)
   rcases zI (DV op)with c4|c4
   ·rcases zI (ba v)with c5|c5<;>rcases zI (s==[])with c6|c6<;>(simp only[ba]at c5;simp only[c1,c2,c3,c4,c5,c6,ae,ar,if_true,if_false,zB,dz];rfl)
   ·simp only[c1,c2,c3,c4,ar,if_false,zB,dz];rfl
theorem P5{op:zD}(h:DV op=Q3):op=[97,110,100]\/op=[111,114]\/op=[61]\/op=[60]\/op=[43]\/op=[45]:=by
 unfold DV at h;rcases zI (op==[97,110,100])with c|c
 ·exact .inl (bC c)
 rcases zI (op==[111,114])with c2|c2
 ·exact .inr (.inl (bC c2))
 rcases zI (op==[61])with c3|c3
 ·exact .inr (.inr (.inl (bC c3)))
 rcases zI (op==[60])with c4|c4
 ·exact .inr (.inr (.inr (.inl (bC c4))))
 rcases zI (op==[43])with c5|c5
 ·exact .inr (.inr (.inr (.inr (.inl (bC c5)))))
 rcases zI (op==[45])with c6|c6
 ·exact .inr (.inr (.inr (.inr (.inr (bC c6)))))
 rw[c,c2,c3,c4,c5,c6]at h;cases h
inductive QI (d:Nat):zf->Prop
 |lit (v:Int×Int×zD) (h:aR v=Q3):QI d (.mk [108,105,116] v [] [])
 |col (s:zD) (h:dU s=Q3) (h2:jg s=Q4):QI d (.mk [99,111,108] (0,0,[]) s [])
 |one (op:zD) (a:zf) (h:op=[110,111,116]\/op=[110,117,108,108]) (ha:cq d a=Q3):QI d (.mk op (0,0,[]) [] [a])
 |two (op:zD) (a b:zf) (h:op=[97,110,100]\/op=[111,114]\/op=[61]\/op=[60]\/op=[43]\/op=[45]) (ha:cq d a=Q3) (hb:cq d b=Q3):QI d (.mk op (0,0,[]) [] [a,b])
theorem BM{v:Int×Int×zD}(h:ba v=Q3):v=(0,0,[]):=by
 obtain⟨a,b,c⟩:=v;unfold ba at h;simp at h;obtain⟨rfl,rfl,rfl⟩:=h;rfl
theorem cv{a b:Bool}(h:(bif a then b else Q4)=Q3):a=Q3/\b=Q3:=by
 cases a<;>cases b<;>simp_all
theorem PB{op:zD}(h:(bif op==[110,111,116]then Q3 else op==[110,117,108,108])=Q3):op=[110,111,116]\/op=[110,117,108,108]:=by
 rcases zI (op==[110,111,116])with k|k
 ·exact .inl (bC k)
 ·rw[k]at h;exact .inr (bC h)
theorem fE{d:Nat}:∀{e:zf},cq (d+1) e=Q3->QI d e
 | .mk op v s [],h=>by
  simp only[cq]at h;split at h
  ·rename_i c;obtain⟨h1,h2⟩:=cv h;obtain⟨h3,h4⟩:=cv h2;rw[bC c,bC h3];exact .lit v h1
  split at h
  ·rename_i c;obtain⟨h1,h2⟩:=cv h;obtain⟨h3,h4⟩:=cv h2;obtain⟨h5,h6⟩:=cv h4;rw[bC c,BM h1];exact .col s h3 (by simpa using h5)
  split at h
  ·cases hh:ba v<;>cases hs:(s==[])<;>simp[hh,hs]at h
  split at h
  ·cases hh:ba v<;>cases hs:(s==[])<;>simp[hh,hs]at h
  ·cases h
 | .mk op v s [a],h=>by
  simp only[cq]at h;split at h
  ·cases hh:aR v<;>cases hs:(s==[])<;>simp[hh,hs]at h
  split at h
  ·cases hh:ba v<;>cases hs:dU s<;>cases hr:jg s<;>simp[hh,hs,hr]at h
  split at h
  ·rename_i c;obtain⟨h1,h2⟩:=cv h;obtain⟨h3,h4⟩:=cv h2;rw[bC h3,BM h1];exact .one op a (PB c) h4
  split at h
  ·cases hh:ba v<;>cases hs:(s==[])<;>simp[hh,hs]at h
  ·cases h
 | .mk op v s [a,b],h=>by
  simp only[cq]at h;split at h
  ·cases hh:aR v<;>cases hs:(s==[])<;>simp[hh,hs]at h
  split at h
  ·cases hh:ba v<;>cases hs:dU s<;>cases hr:jg s<;>simp[hh,hs,hr]at h
  split at h
  ·cases hh:ba v<;>cases hs:(s==[])<;>simp[hh,hs]at h
  split at h
  ·rename_i c;obtain⟨h1,h2⟩:=cv h;obtain⟨h3,h4⟩:=cv h2;obtain⟨ha,hb⟩:=cv h4;rw[bC h3,BM h1];exact .two op a b (P5 c) ha hb
  ·cases h
 | .mk op v s (a::b::c::r),h=>by
  have e0:((((a::b::c::r).length:Nat):Int)==0)=Q4:=bX.2 sg;simp only[cq,e0]at h;split at h
  ·cases hh:aR v<;>cases hs:(s==[])<;>simp[hh,hs]at h
  split at h
  ·cases hh:ba v<;>cases hs:dU s<;>cases hr:jg s<;>simp[hh,hs,hr]at h
  split at h
  ·cases hh:ba v<;>cases hs:(s==[])<;>simp[hh,hs]at h
  split at h
  ·cases hh:ba v<;>cases hs:(s==[])<;>simp[hh,hs]at h
  ·cases h
theorem rQ:∀(d:Nat)(e:zf),cq d e=Q3->nE d e+1<=2^d
 |0,_,h=>by cases h
 | d+1,e,h=>by
  have h2:0<2^d:=Nat.two_pow_pos d;cases fE h with
  |lit v h=>simp[nE,AS];omega
  |col s h h2=>simp[nE,AS];omega
  |one op a h ha=>have:=rQ d a ha;simp[nE,AS];omega
  |two op a b h ha hb=>have:=rQ d a ha;have:=rQ d b hb;simp[nE,AS];omega
theorem zdw{d:Nat}{e:zf}(h:cq d e=Q3):1<=nE d e:=by
 cases d with
 |zero=>cases h
 | succ d=>
  obtain⟨op,v,s,l⟩:=e;rw[nE];omega
theorem U3{n:Nat}(h:n<=1000000):IntKind.i64.wrap (n:Int)=(n:Int):=by
 rw[fX];omega
theorem nQ:∀(N d:Nat)(e:zf),d<=12->d<=N->cq d e=Q3->cy N e=Q1 ((nE d e:Int),())
 |_,0,_,_,_,h=>by cases h
 |0,d+1,_,_,h,_=>absurd h ow
 | N+1,d+1,e,h1,h2,h=>by
  have hp:2^(d+1)<=2^12:=D8 ow ow;have hle:=rQ (d+1) e h
  have hstep:∀(e:zf)(i:Nat)(n k:Nat)(hi:i<(zf.l e).length),cy N (zf.l e)[i]=Q1 ((k:Int),())->n+k<=1000000->i<=1000->
    (Dc (λx0=>iE (cy N x0)) (λx0=>(cy N x0).isSome) (.h3 (n:Int) (i:Int) (e,()))).val=Q1 (.inl (.h3 ((n+k:Nat):Int) ((i+1:Nat):Int) (e,()))):=by
   intro e i n k hi k1 k2 k3;have g0:getD (zf.l e) (i:Int).toNat (zi Q5)=(zf.l e)[i]:=zM _ _ hi;simp only[Dc,HJ,Dd,Q8,g0,zk,k1,zC hi,zt hi,Ea,if_true];show Q1 (Sum.inl (tg.h3 (IntKind.i64.wrap ((n:Int)+(k:Int))) _ _))=_;rw[zp i um,<-tq,U3 k2]
  have hend:∀(e:zf)(n:Nat),(Dc (λx0=>iE (cy N x0)) (λx0=>(cy N x0).isSome) (.h3 (n:Int) ((zf.l e).length:Int) (e,()))).val=Q1 (.inr (.int .i64 n,[])):=by
   intro e n;simp only[Dc,HJ,Dd,Q8,zA];rfl
  have hgo:∀e,(Ni (λx0=>iE (cy N x0)) (λx0=>(cy N x0).isSome) e).val=Q1 (.inl (.h3 ((1:Nat):Int) ((0:Nat):Int) (e,()))):=λ_=>rfl
  rw[cy];unfold JW;cases fE h with
  |lit v h=>exact zw (hgo _) (zU.of (hend _ 1)) ow rfl
  |col s h h2=>exact zw (hgo _) (zU.of (hend _ 1)) ow rfl
  | one op a h ha=>
   have ka:=nQ N d a ow ow ha;have l1:=rQ d a ha;have p1:2^d<=2^12:=D8 ow ow;refine zw (hgo _) ((zQ.of (hstep (.mk op (0,0,[]) [] [a]) 0 1 (nE d a) (by simp[zf.l]) ka ow ow)).ends (zU.of (hend (.mk op (0,0,[]) [] [a]) _))) ow ?_;simp[nE];rfl
  | two op a b h ha hb=>
   have ka:=nQ N d a ow ow ha;have kb:=nQ N d b ow ow hb;have l1:=rQ d a ha;have l2:=rQ d b hb;have p1:2^d<=2^12:=D8 ow ow;refine zw (hgo _) ((zQ.of (hstep (.mk op (0,0,[]) [] [a,b]) 0 1 (nE d a) (by simp[zf.l]) ka ow ow)).ends ((zQ.of (hstep (.mk op (0,0,[]) [] [a,b]) 1 (1+nE d a) (nE d b) (by simp[zf.l]) kb ow ow)).ends (zU.of (hend (.mk op (0,0,[]) [] [a,b]) _)))) ow ?_;simp[nE,Nat.add_assoc];rfl
theorem qr:∀(N k:Nat)(e:zf)(n:Nat),k<=12->k<=N->cq k e=Q3->n+nE k e<=60->ii N e ((13:Int)-k) n=(Q3,((n+nE k e:Nat):Int))
 |_,0,_,_,_,_,h,_=>by cases h
 |0,k+1,_,_,_,h,_,_=>absurd h ow
 | N+1,k+1,e,n,h1,h2,h,h3=>by
  rw[ii];unfold yp;have w1:IntKind.i64.wrap ((n:Int)+1)=((n+1:Nat):Int):=zp n um;have w2:IntKind.i64.wrap ((13:Int)-((k+1:Nat):Int)+1)=(13:Int)-(k:Int):=by rw[fX];omega
  have d1:Q0 ((13:Int)-((k+1:Nat):Int)>12)=Q4:=aj ow;have hpos:=zdw h;have d2:Q0 (((n+1:Nat):Int)>60)=Q4:=aj ow;rw[w1,d1,d2];cases fE h with
  |lit v hv=>simp[zf.op,zf.l,zf.s,zf.v,cO,xR,Ob,hv,nE]
  |col s hw h2=>simp[zf.op,zf.l,zf.s,zf.v,cO,xR,Ob,hw,h2,nE,ba]
  | one op a ho ha=>
   have hn:n+1+nE k a<=60:=by simp[nE]at h3;omega
   have ka:=qr N k a (n+1) ow ow ha hn;have hs:((n+nE (k+1) (.mk op (0,0,[]) [] [a]):Nat):Int)=((n+1+nE k a:Nat):Int):=by simp[nE];omega
   rw[hs]
   push_cast at*
   rcases ho with rfl|rfl<;>simp[zf.op,zf.l,zf.s,zf.v,cO,xR,Ob,ba,oH,w2,ka]
  | two op a b ho ha hb=>
   have hn:n+1+nE k a+nE k b<=60:=by simp[nE]at h3;omega
   have ka:=qr N k a (n+1) ow ow ha ow;have kb:=qr N k b (n+1+nE k a) ow ow hb hn;have hs:((n+nE (k+1) (.mk op (0,0,[]) [] [a,b]):Nat):Int)=((n+1+nE k a+nE k b:Nat):Int):=by simp[nE];omega
   rw[hs]
   push_cast at*
   rcases ho with rfl|rfl|rfl|rfl|rfl|rfl<;>simp[zf.op,zf.l,zf.s,zf.v,cO,xR,Ob,ba,oH,w2,ka,kb]
theorem mD{α:Type}{p:α->Bool}{d:α}:∀(l:List α)(k i:Nat),i<l.length->p (l.getD i d)=Q3->(∀j,j<i->p (l.getD j d)=Q4)->zW p l k=((k+i:Nat):Int)
 |[],_,_,h,_,_=>by simp at h
 | x::r,k,0,_,hp,_=>by
  rw[zW,if_pos (by simpa using hp)];rfl
 | x::r,k,i+1,h,hp,hj=>by
  have h0:=hj 0 ow;rw[zW,if_neg (by rw[show p x=Q4 by simpa using h0];simp),mD r (k+1) i (by simpa using h) (by simpa using hp) (λj hj2=>by simpa using hj (j+1) ow)];congr 1;omega
theorem mE{α:Type}{p:α->Bool}{d:α}:∀(l:List α)(k:Nat),(∀j,j<l.length->p (l.getD j d)=Q4)->zW p l k=-1
 |[],_,_=>rfl
 | x::r,k,hj=>by
  have h0:=hj 0 sw;rw[zW,if_neg (by rw[show p x=Q4 by simpa using h0];simp)];exact mE (d:=d) r (k+1) (λj h=>by simpa using hj (j+1) (by simpa using h))
theorem Cx{cols:List (Sem zj)}{s:zD}(hl:cols.length<=1000000):Cw cols s=Q1 (ah cols s,()):=by
 have hf:=ly (t:=Mx) (Φ:=λr=>r=(.int .i64 (ah cols s),[])) 1 (λi=>.h2 cols s (i:Int)) (λi=>((getD cols i (zi zj)).1==s)=Q4) cols.length (by
  intro i hi hj;have hv:(Mx (.h2 cols s (i:Int))).val=if((getD cols i (zi zj)).1==s)=Q3 then Q1 (.inr (.int .i64 i,[]))else Q1 (.inl (.h2 cols s ((i+1:Nat):Int))):=by
   simp only[Mx,My,HO,Q8,zC hi,zt hi,aG,if_true];rw[zp i um]
  rcases zI ((getD cols i (zi zj)).1==s)with h|h
  ·refine .inr ⟨by rw[h];simp,_,zU.of (by rw[hv,if_pos h]),?_⟩;have:=mD (p:=λc:Sem zj=>c.1==s) (d:=zi zj) cols 0 i hi h hj;rw[show ah cols s=(i:Int) by unfold ah;rw[this];simp]
  ·exact .inl ⟨h,zQ.of (by rw[hv,if_neg (by rw[h];simp)])⟩)
 have hi:(WS cols s).val=Q1 (.inl (.h2 cols s ((0:Nat):Int))):=rfl;rcases hf with⟨h1,h2⟩|⟨h1,r,h2,rfl⟩
 ·have:=mE (p:=λc:Sem zj=>c.1==s) (d:=zi zj) cols 0 h1;rw[show ah cols s=(-1:Int)from this];refine zw hi (h2.ends (zU.of (r:=(.int .i64 (-1),[])) ?_)) ow rfl;simp only[Mx,My,HO,Q8,zA];rfl
 ·exact zw hi h2 ow rfl
theorem je{cols:List (Sem zj)}{s:zD}(hl:cols.length<=1000000):dC cols s=Q3:=by unfold dC;rw[Cx hl];rfl
theorem kq{cols:List (Sem zj)}{s:zD}(hl:cols.length<=1000000):eK cols s=ah cols s:=by unfold eK;rw[Cx hl];rfl
theorem QS(t u:Int):mb [t] u=!(bif t !=u then t !=0 else Q4):=by
 unfold mb;simp only[zW];rcases zI (bif t !=u then t !=0 else Q4)with h|h<;>simp[h]
theorem tr(t t' u:Int):mb [t,t'] u=!(bif (bif t !=u then t !=0 else Q4)then Q3 else(bif t' !=u then t' !=0 else Q4)):=by
 unfold mb;simp only[zW];rcases zI (bif t !=u then t !=0 else Q4)with h|h<;>rcases zI (bif t' !=u then t' !=0 else Q4)with h'|h'<;>simp[h,h']
theorem L8{g c}{cols:List (Sem zj)}{e:zf}(hl:cols.length<=1000000):∃r k,zU (Kv g c) k (.h5 cols ((0:Nat):Int) (e,())) r/\k<=100000000/\aL r.2 [zg,zg] r.1=Q1 (if Q0 (LT.lt (α:=Int) (ah cols (zf.s e)) 0)=Q3 then((0:Int),(4:Int),())else((getD cols (toNat (ah cols (zf.s e))) (zi zj)).2.1,(0:Int),())):=by
 have hf:=ly (t:=Kv g c) (Φ:=λr=>aL r.2 [zg,zg] r.1=Q1 (if Q0 (LT.lt (α:=Int) (ah cols (zf.s e)) 0)=Q3 then((0:Int),(4:Int),())else((getD cols (toNat (ah cols (zf.s e))) (zi zj)).2.1,(0:Int),()))) 1 (λi=>.h5 cols (i:Int) (e,())) (λi=>((getD cols i (zi zj)).1==zf.s e)=Q4) cols.length (by
  intro i hi hj;have hv:(Kv g c (.h5 cols (i:Int) (e,()))).val=if((getD cols i (zi zj)).1==zf.s e)=Q3 then Q1 (.inr (.tup [.int .i64 (getD cols i (zi zj)).2.1,.int .i64 0],[]))else Q1 (.inl (.h5 cols ((i+1:Nat):Int) (e,()))):=by
   simp only[Kv,Q8,zC hi,zt hi,aG,if_true];rw[zp i um]
  rcases zI ((getD cols i (zi zj)).1==zf.s e)with h|h
  ·refine .inr ⟨by rw[h];simp,_,zU.of (by rw[hv,if_pos h]),?_⟩;have:=mD (p:=λc:Sem zj=>c.1==zf.s e) (d:=zi zj) cols 0 i hi h hj;rw[show ah cols (zf.s e)=(i:Int) by unfold ah;rw[this];simp,if_neg (by rw[aP];omega),aG];rfl
  ·exact .inl ⟨h,zQ.of (by rw[hv,if_neg (by rw[h];simp)])⟩)
 rcases hf with⟨h1,h2⟩|⟨h1,r,h2,h3⟩
 ·have:=mE (p:=λc:Sem zj=>c.1==zf.s e) (d:=zi zj) cols 0 h1;refine⟨(.tup [.int .i64 0,.int .i64 4],[]),_,h2.ends (zU.of ?_),ow,?_⟩
  ·simp only[Kv,Q8,zA];rfl
  ·rw[show ah cols (zf.s e)=(-1:Int)from this];rfl
 ·exact⟨r,_,h2,ow,h3⟩
theorem qL{cols:List (Sem zj)}(hl:cols.length<=1000000):∀(N d M:Nat)(e:zf),d<=N->d<=M->cq d e=Q3->bY N e cols=Q1 ((zP M e cols).1,(zP M e cols).2,())
 |_,0,_,_,_,_,h=>by cases h
 |0,d+1,_,_,h,_,_=>absurd h ow
 |_,d+1,0,_,_,h,_=>absurd h ow
 | N+1,d+1,M+1,e,h1,h2,h=>by
  rw[bY,zP];unfold NV w9;cases fE h with
  |lit v hv=>rfl
  | col s hw hr=>
   obtain⟨r,k,k1,k2,k3⟩:=L8 (g:=λx0 x1=>fN (bY N x0 x1)) (c:=λx0 x1=>(bY N x0 x1).isSome) (cols:=cols) (e:=.mk [99,111,108] (0,0,[]) s []) hl;refine zw H3 k1 k2 (k3.trans ?_);have e1:aI (zP M) (bh M) cols [99,111,108] (0:Int) (0:Int) [] s [] [] 0 []=if Q0 (LT.lt (α:=Int) (ah cols s) 0)=Q3 then((0:Int),(4:Int))else((getD cols (toNat (ah cols s)) (zi zj)).2.1,(0:Int)):=rfl
   show _=Q1 ((aI (zP M) (bh M) cols [99,111,108] (0:Int) (0:Int) [] s [] [] 0 []).1,(aI (zP M) (bh M) cols [99,111,108] (0:Int) (0:Int) [] s [] [] 0 []).2,());rw[e1];show Q1 (if Q0 (LT.lt (α:=Int) (ah cols s) 0)=Q3 then((0:Int),(4:Int),())else((getD cols (toNat (ah cols s)) (zi zj)).2.1,(0:Int),()))=_;rcases zI (Q0 (LT.lt (α:=Int) (ah cols s) 0))with c|c
   ·rw[if_pos c,if_pos c]
   ·rw[if_neg (by rw[c];simp),if_neg (by rw[c];simp)]
  | one op a ho ha=>
   have ka:=qL hl N d M a ow ow ha;unfold al cT;generalize hg:(λx0 x1=>fN (bY N x0 x1))=g;generalize hc:(λx0 x1=>(bY N x0 x1).isSome)=c;have g1:g a cols=zP M a cols:=by rw[<-hg];show fN (bY N a cols)=_;rw[ka];rfl
   have c1:c a cols=Q3:=by rw[<-hc];show(bY N a cols).isSome=_;rw[ka];rfl
   rcases ho with rfl|rfl
   ·have e1:aI (zP M) (bh M) cols [110,111,116] (0:Int) (0:Int) [] [] [a] [a] 0 []=if((zP M a cols).2!=0)=Q3 then((0:Int),(zP M a cols).2)else if(!mb [(zP M a cols).1] 3)=Q3 then((0:Int),(5:Int))else((3:Int),(0:Int)):=rfl
    show _=Q1 ((aI (zP M) (bh M) cols [110,111,116] (0:Int) (0:Int) [] [] [a] [a] 0 []).1,(aI (zP M) (bh M) cols [110,111,116] (0:Int) (0:Int) [] [] [a] [a] 0 []).2,());rw[e1,QS];have e2:(BL g c (.mk [110,111,116] (0,0,[]) [] [a]) cols).val=if c (zn a) cols=Q3 then(if((g (zn a) cols).2!=0)=Q3 then Q1 (.inr (.tup [.int .i64 0,.int .i64 (g (zn a) cols).2],[]))else if(bif (g (zn a) cols).1!=0 then bif (g (zn a) cols).1!=3 then Q3 else(bif (g (zn a) cols).1!=0 then(g (zn a) cols).1!=3 else Q4)else(bif (g (zn a) cols).1!=0 then(g (zn a) cols).1!=3 else Q4))=Q3 then Q1 (.inr (.tup [.int .i64 0,.int .i64 5],[]))else Q1 (.inr (.tup [.int .i64 3,.int .i64 0],[])))else Q2:=rfl
    rw[e2,zk,c1,g1];generalize zP M a cols=t;rcases zI (t.2!=0)with k1|k1<;>rcases zI (t.1!=0)with k2|k2<;>rcases zI (t.1!=3)with k3|k3<;>(simp only[k1,k2,k3,ae,ar,if_true,if_false,zB,bG,cC];rfl)
   ·have e1:aI (zP M) (bh M) cols [110,117,108,108] (0:Int) (0:Int) [] [] [a] [a] 0 []=if((zP M a cols).2!=0)=Q3 then((0:Int),(zP M a cols).2)else((3:Int),(0:Int)):=rfl
    show _=Q1 ((aI (zP M) (bh M) cols [110,117,108,108] (0:Int) (0:Int) [] [] [a] [a] 0 []).1,(aI (zP M) (bh M) cols [110,117,108,108] (0:Int) (0:Int) [] [] [a] [a] 0 []).2,());rw[e1];have e2:(BL g c (.mk [110,117,108,108] (0,0,[]) [] [a]) cols).val=if c (zn a) cols=Q3 then(if((g (zn a) cols).2!=0)=Q3 then Q1 (.inr (.tup [.int .i64 0,.int .i64 (g (zn a) cols).2],[]))else Q1 (.inr (.tup [.int .i64 3,.int .i64 0],[])))else Q2:=rfl
    rw[e2,zk,c1,g1];generalize zP M a cols=t;rcases zI (t.2!=0)with k1|k1<;>(simp only[k1,if_true,if_false,zB];rfl)
  | two op a b ho ha hb=>
   have ka:=qL hl N d M a ow ow ha;have kb:=qL hl N d M b ow ow hb;unfold al cT;generalize hg:(λx0 x1=>fN (bY N x0 x1))=g;generalize hc:(λx0 x1=>(bY N x0 x1).isSome)=c;have g1:g a cols=zP M a cols:=by rw[<-hg];show fN (bY N a cols)=_;rw[ka];rfl
   have c1:c a cols=Q3:=by rw[<-hc];show(bY N a cols).isSome=_;rw[ka];rfl
   have g2:g b cols=zP M b cols:=by rw[<-hg];show fN (bY N b cols)=_;rw[kb];rfl
   have c2:c b cols=Q3:=by rw[<-hc];show(bY N b cols).isSome=_;rw[kb];rfl
   rcases ho with rfl|rfl|rfl|rfl|rfl|rfl
   ·have e1:aI (zP M) (bh M) cols [97,110,100] (0:Int) (0:Int) [] [] [a,b] [a,b] 0 []=if((zP M a cols).2!=0)=Q3 then((0:Int),(zP M a cols).2)else if((zP M b cols).2!=0)=Q3 then((0:Int),(zP M b cols).2)else if(!mb [(zP M a cols).1,(zP M b cols).1] 3)=Q3 then((0:Int),(5:Int))else((3:Int),(0:Int)):=rfl
    show _=Q1 ((aI (zP M) (bh M) cols [97,110,100] (0:Int) (0:Int) [] [] [a,b] [a,b] 0 []).1,(aI (zP M) (bh M) cols [97,110,100] (0:Int) (0:Int) [] [] [a,b] [a,b] 0 []).2,());rw[e1,tr];have e2:(BL g c (.mk [97,110,100] (0,0,[]) [] [a,b]) cols).val=if c (zn a) cols=Q3 then(if((g (zn a) cols).2!=0)=Q3 then Q1 (.inr (.tup [.int .i64 0,.int .i64 (g (zn a) cols).2],[]))else if c (zn b) cols=Q3 then(if((g (zn b) cols).2!=0)=Q3 then Q1 (.inr (.tup [.int .i64 0,.int .i64 (g (zn b) cols).2],[]))else if(bif (g (zn a) cols).1!=0 then bif (g (zn a) cols).1!=3 then Q3 else(bif (g (zn b) cols).1!=0 then(g (zn b) cols).1!=3 else Q4)else(bif (g (zn b) cols).1!=0 then(g (zn b) cols).1!=3 else Q4))=Q3 then Q1 (.inr (.tup [.int .i64 0,.int .i64 5],[]))else Q1 (.inr (.tup [.int .i64 3,.int .i64 0],[])))else Q2)else Q2:=rfl
    rw[e2,zk,zk,c1,c2,g1,g2];generalize zP M a cols=t;generalize zP M b cols=u;rcases zI (t.2!=0)with k1|k1<;>rcases zI (u.2!=0)with k2|k2<;>rcases zI (t.1!=0)with k3|k3<;>rcases zI (u.1!=0)with k4|k4<;>rcases zI (t.1!=3)with k5|k5<;>rcases zI (u.1!=3)with k6|k6<;>(simp only[k1,k2,k3,k4,k5,k6,ae,ar,if_true,if_false,zB,bG,cC];rfl)
   ·have e1:aI (zP M) (bh M) cols [111,114] (0:Int) (0:Int) [] [] [a,b] [a,b] 0 []=if((zP M a cols).2!=0)=Q3 then((0:Int),(zP M a cols).2)else if((zP M b cols).2!=0)=Q3 then((0:Int),(zP M b cols).2)else if(!mb [(zP M a cols).1,(zP M b cols).1] 3)=Q3 then((0:Int),(5:Int))else((3:Int),(0:Int)):=rfl
    show _=Q1 ((aI (zP M) (bh M) cols [111,114] (0:Int) (0:Int) [] [] [a,b] [a,b] 0 []).1,(aI (zP M) (bh M) cols [111,114] (0:Int) (0:Int) [] [] [a,b] [a,b] 0 []).2,());rw[e1,tr];have e2:(BL g c (.mk [111,114] (0,0,[]) [] [a,b]) cols).val=if c (zn a) cols=Q3 then(if((g (zn a) cols).2!=0)=Q3 then Q1 (.inr (.tup [.int .i64 0,.int .i64 (g (zn a) cols).2],[]))else if c (zn b) cols=Q3 then(if((g (zn b) cols).2!=0)=Q3 then Q1 (.inr (.tup [.int .i64 0,.int .i64 (g (zn b) cols).2],[]))else if(bif (g (zn a) cols).1!=0 then bif (g (zn a) cols).1!=3 then Q3 else(bif (g (zn b) cols).1!=0 then(g (zn b) cols).1!=3 else Q4)else(bif (g (zn b) cols).1!=0 then(g (zn b) cols).1!=3 else Q4))=Q3 then Q1 (.inr (.tup [.int .i64 0,.int .i64 5],[]))else Q1 (.inr (.tup [.int .i64 3,.int .i64 0],[])))else Q2)else Q2:=rfl
    rw[e2,zk,zk,c1,c2,g1,g2];generalize zP M a cols=t;generalize zP M b cols=u;rcases zI (t.2!=0)with k1|k1<;>rcases zI (u.2!=0)with k2|k2<;>rcases zI (t.1!=0)with k3|k3<;>rcases zI (u.1!=0)with k4|k4<;>rcases zI (t.1!=3)with k5|k5<;>rcases zI (u.1!=3)with k6|k6<;>(simp only[k1,k2,k3,k4,k5,k6,ae,ar,if_true,if_false,zB,bG,cC];rfl)
   ·have e1:aI (zP M) (bh M) cols [61] (0:Int) (0:Int) [] [] [a,b] [a,b] 0 []=if((zP M a cols).2!=0)=Q3 then((0:Int),(zP M a cols).2)else if((zP M b cols).2!=0)=Q3 then((0:Int),(zP M b cols).2)else if(!bif (zP M a cols).1==(zP M b cols).1 then Q3 else bif (zP M a cols).1==0 then Q3 else(zP M b cols).1==0)=Q3 then((0:Int),(5:Int))else((3:Int),(0:Int)):=rfl
    show _=Q1 ((aI (zP M) (bh M) cols [61] (0:Int) (0:Int) [] [] [a,b] [a,b] 0 []).1,(aI (zP M) (bh M) cols [61] (0:Int) (0:Int) [] [] [a,b] [a,b] 0 []).2,());rw[e1];have e2:(BL g c (.mk [61] (0,0,[]) [] [a,b]) cols).val=if c (zn a) cols=Q3 then(if((g (zn a) cols).2!=0)=Q3 then Q1 (.inr (.tup [.int .i64 0,.int .i64 (g (zn a) cols).2],[]))else if c (zn b) cols=Q3 then(if((g (zn b) cols).2!=0)=Q3 then Q1 (.inr (.tup [.int .i64 0,.int .i64 (g (zn b) cols).2],[]))else if(bif (g (zn a) cols).1!=0 then bif (g (zn b) cols).1!=0 then(g (zn a) cols).1!=(g (zn b) cols).1 else Q4 else Q4)=Q3 then Q1 (.inr (.tup [.int .i64 0,.int .i64 5],[]))else Q1 (.inr (.tup [.int .i64 3,.int .i64 0],[])))else Q2)else Q2:=rfl
    rw[e2,zk,zk,c1,c2,g1,g2];generalize zP M a cols=t;generalize zP M b cols=u;simp only[bne];rcases zI (t.2==0)with k1|k1<;>rcases zI (u.2==0)with k2|k2<;>rcases zI (t.1==0)with k3|k3<;>rcases zI (u.1==0)with k4|k4<;>rcases zI (t.1==u.1)with k5|k5<;>(simp only[k1,k2,k3,k4,k5,ae,ar,if_true,if_false,zB,bG,cC];rfl)
   ·have e1:aI (zP M) (bh M) cols [60] (0:Int) (0:Int) [] [] [a,b] [a,b] 0 []=if((zP M a cols).2!=0)=Q3 then((0:Int),(zP M a cols).2)else if((zP M b cols).2!=0)=Q3 then((0:Int),(zP M b cols).2)else if(!bif (zP M a cols).1==(zP M b cols).1 then Q3 else bif (zP M a cols).1==0 then Q3 else(zP M b cols).1==0)=Q3 then((0:Int),(5:Int))else((3:Int),(0:Int)):=rfl
    show _=Q1 ((aI (zP M) (bh M) cols [60] (0:Int) (0:Int) [] [] [a,b] [a,b] 0 []).1,(aI (zP M) (bh M) cols [60] (0:Int) (0:Int) [] [] [a,b] [a,b] 0 []).2,());rw[e1];have e2:(BL g c (.mk [60] (0,0,[]) [] [a,b]) cols).val=if c (zn a) cols=Q3 then(if((g (zn a) cols).2!=0)=Q3 then Q1 (.inr (.tup [.int .i64 0,.int .i64 (g (zn a) cols).2],[]))else if c (zn b) cols=Q3 then(if((g (zn b) cols).2!=0)=Q3 then Q1 (.inr (.tup [.int .i64 0,.int .i64 (g (zn b) cols).2],[]))else if(bif (g (zn a) cols).1!=0 then bif (g (zn b) cols).1!=0 then(g (zn a) cols).1!=(g (zn b) cols).1 else Q4 else Q4)=Q3 then Q1 (.inr (.tup [.int .i64 0,.int .i64 5],[]))else Q1 (.inr (.tup [.int .i64 3,.int .i64 0],[])))else Q2)else Q2:=rfl
    rw[e2,zk,zk,c1,c2,g1,g2];generalize zP M a cols=t;generalize zP M b cols=u;simp only[bne];rcases zI (t.2==0)with k1|k1<;>rcases zI (u.2==0)with k2|k2<;>rcases zI (t.1==0)with k3|k3<;>rcases zI (u.1==0)with k4|k4<;>rcases zI (t.1==u.1)with k5|k5<;>(simp only[k1,k2,k3,k4,k5,ae,ar,if_true,if_false,zB,bG,cC];rfl)
   ·have e1:aI (zP M) (bh M) cols [43] (0:Int) (0:Int) [] [] [a,b] [a,b] 0 []=if((zP M a cols).2!=0)=Q3 then((0:Int),(zP M a cols).2)else if((zP M b cols).2!=0)=Q3 then((0:Int),(zP M b cols).2)else if(!mb [(zP M a cols).1,(zP M b cols).1] 1)=Q3 then((0:Int),(5:Int))else((1:Int),(0:Int)):=rfl
    show _=Q1 ((aI (zP M) (bh M) cols [43] (0:Int) (0:Int) [] [] [a,b] [a,b] 0 []).1,(aI (zP M) (bh M) cols [43] (0:Int) (0:Int) [] [] [a,b] [a,b] 0 []).2,());rw[e1,tr];have e2:(BL g c (.mk [43] (0,0,[]) [] [a,b]) cols).val=if c (zn a) cols=Q3 then(if((g (zn a) cols).2!=0)=Q3 then Q1 (.inr (.tup [.int .i64 0,.int .i64 (g (zn a) cols).2],[]))else if c (zn b) cols=Q3 then(if((g (zn b) cols).2!=0)=Q3 then Q1 (.inr (.tup [.int .i64 0,.int .i64 (g (zn b) cols).2],[]))else if(bif (g (zn a) cols).1!=0 then bif (g (zn a) cols).1!=1 then Q3 else(bif (g (zn b) cols).1!=0 then(g (zn b) cols).1!=1 else Q4)else(bif (g (zn b) cols).1!=0 then(g (zn b) cols).1!=1 else Q4))=Q3 then Q1 (.inr (.tup [.int .i64 0,.int .i64 5],[]))else Q1 (.inr (.tup [.int .i64 1,.int .i64 0],[])))else Q2)else Q2:=rfl
    rw[e2,zk,zk,c1,c2,g1,g2];generalize zP M a cols=t;generalize zP M b cols=u;rcases zI (t.2!=0)with k1|k1<;>rcases zI (u.2!=0)with k2|k2<;>rcases zI (t.1!=0)with k3|k3<;>rcases zI (u.1!=0)with k4|k4<;>rcases zI (t.1!=1)with k5|k5<;>rcases zI (u.1!=1)with k6|k6<;>(simp only[k1,k2,k3,k4,k5,k6,ae,ar,if_true,if_false,zB,bG,cC];rfl)
   ·have e1:aI (zP M) (bh M) cols [45] (0:Int) (0:Int) [] [] [a,b] [a,b] 0 []=if((zP M a cols).2!=0)=Q3 then((0:Int),(zP M a cols).2)else if((zP M b cols).2!=0)=Q3 then((0:Int),(zP M b cols).2)else if(!mb [(zP M a cols).1,(zP M b cols).1] 1)=Q3 then((0:Int),(5:Int))else((1:Int),(0:Int)):=rfl
    show _=Q1 ((aI (zP M) (bh M) cols [45] (0:Int) (0:Int) [] [] [a,b] [a,b] 0 []).1,(aI (zP M) (bh M) cols [45] (0:Int) (0:Int) [] [] [a,b] [a,b] 0 []).2,());rw[e1,tr];have e2:(BL g c (.mk [45] (0,0,[]) [] [a,b]) cols).val=if c (zn a) cols=Q3 then(if((g (zn a) cols).2!=0)=Q3 then Q1 (.inr (.tup [.int .i64 0,.int .i64 (g (zn a) cols).2],[]))else if c (zn b) cols=Q3 then(if((g (zn b) cols).2!=0)=Q3 then Q1 (.inr (.tup [.int .i64 0,.int .i64 (g (zn b) cols).2],[]))else if(bif (g (zn a) cols).1!=0 then bif (g (zn a) cols).1!=1 then Q3 else(bif (g (zn b) cols).1!=0 then(g (zn b) cols).1!=1 else Q4)else(bif (g (zn b) cols).1!=0 then(g (zn b) cols).1!=1 else Q4))=Q3 then Q1 (.inr (.tup [.int .i64 0,.int .i64 5],[]))else Q1 (.inr (.tup [.int .i64 1,.int .i64 0],[])))else Q2)else Q2:=rfl
    rw[e2,zk,zk,c1,c2,g1,g2];generalize zP M a cols=t;generalize zP M b cols=u;rcases zI (t.2!=0)with k1|k1<;>rcases zI (u.2!=0)with k2|k2<;>rcases zI (t.1!=0)with k3|k3<;>rcases zI (u.1!=0)with k4|k4<;>rcases zI (t.1!=1)with k5|k5<;>rcases zI (u.1!=1)with k6|k6<;>(simp only[k1,k2,k3,k4,k5,k6,ae,ar,if_true,if_false,zB,bG,cC];rfl)
theorem sP(c:UInt8)(s old:zD):Lib.index (c::s) old=if old.isPrefixOf (c::s)=Q3 then 0 else if Lib.index s old=-1 then -1 else Lib.index s old+1:=by
 rw[Lib.index];simp only[bf]
theorem wW{s old new:zD}(hne:(old==new)=Q4)(h:Lib.index s old=-1):Lib.replaceAll s old new=s:=by
 unfold Lib.replaceAll Lib.replace Lib.replaceNum;rw[hne,if_pos (Or.inl (by decide)),Lib.count_miss h];rfl
theorem CQ{s old new:zD}{i:Nat}(h0:old≠[])(hne:(old==new)=Q4)(h:Lib.index s old=i):Lib.replaceAll s old new=s.take i++new++Lib.replaceAll (s.drop (i+old.length)) old new:=by
 unfold Lib.replaceAll Lib.replace Lib.replaceNum;rw[hne,if_pos (Or.inl (by decide)),if_pos (Or.inl (by decide)),Lib.count_hit h0 h,oo 1];exact Lib.replaceK_hit old new _ s i h
theorem CR{old new:zD}(h0:old≠[])(hne:(old==new)=Q4):Lib.replaceAll [] old new=[]:=by
 refine wW hne ?_;cases old with
 |nil=>exact absurd rfl h0
 |cons a l=>rfl
theorem Kg{c:UInt8}{s old new:zD}(h0:old≠[])(hne:(old==new)=Q4)(hp:old.isPrefixOf (c::s)=Q3):Lib.replaceAll (c::s) old new=new++Lib.replaceAll ((c::s).drop old.length) old new:=by
 have:=CQ (i:=0) h0 hne (s:=c::s) (by rw[sP,if_pos hp];rfl);simpa using this
theorem FE{c:UInt8}{s old new:zD}(h0:old≠[])(hne:(old==new)=Q4)(hp:old.isPrefixOf (c::s)=Q4):Lib.replaceAll (c::s) old new=c::Lib.replaceAll s old new:=by
 by_cases h:Lib.index s old=-1
 ·rw[wW hne h,wW hne (by rw[sP,if_neg (by simp[hp]),if_pos h])]
 ·obtain⟨i,hi⟩:∃i:Nat,Lib.index s old=i:=⟨(Lib.index s old).toNat,by have:=Lib.index_ge s old;omega⟩;rw[CQ h0 hne hi,CQ (i:=i+1) h0 hne (by rw[sP,if_neg (by simp[hp]),if_neg h,hi];simp)];simp[Nat.add_right_comm]
theorem T5{c a:UInt8}{r l:zD}(h:c≠a):(a::l).isPrefixOf (c::r)=Q4:=by
 rw[List.isPrefixOf,bX.2 (Ne.symm h)];rfl
def kF:zD->zD
 |[]=>[]
 |c::r=>if c=39 then 39::39::kF r else c::kF r
theorem CO:∀s:zD,Lib.replaceAll s [39] [39,39]=kF s
 |[]=>CR sw rfl
 | c::r=>by
  rw[kF];split
  ·rename_i h;subst h;rw[Kg sw rfl sw];simp[CO r]
  ·rename_i h;rw[FE sw rfl (T5 h),CO r]
def eU:zD->Option (zD×Nat)
 |[]=>Q2
 |[c]=>if c=39 then Q1 ([],1)else Q2
 |c::d::r=>if c=39 then(if d=39 then(eU r).map λx=>(39::x.1,x.2+2)else Q1 ([],1))else(eU (d::r)).map λx=>(c::x.1,x.2+1)
theorem qZ:∀(n:Nat)(s t:zD)(k:Nat),s.length<=n->eU s=Q1 (t,k)->1<=k/\k<=s.length/\Lib.replaceAll (s.take (k-1)) [39,39] [39]=t
 |_,[],_,_,_,h=>by simp[eU]at h
 | _,[c],t,k,_,h=>by
  rw[eU]at h;split at h
  ·simp at h;obtain⟨rfl,rfl⟩:=h;exact⟨sw,sw,by simpa using CR sw rfl⟩
  ·simp at h
 |0,_::_::_,_,_,hn,_=>by simp at hn
 | n+1,c::d::r,t,k,hn,h=>by
  rw[eU]at h;split at h
  ·rename_i hc;split at h
   ·rename_i hd;simp only[ei]at h;obtain⟨⟨t',k'⟩,h1,h2⟩:=h;simp only[cA]at h2;obtain⟨rfl,rfl⟩:=h2;obtain⟨a1,a2,a3⟩:=qZ n r t' k' (by simp at hn;omega) h1;refine⟨ow,sg,?_⟩;subst hc;subst hd;rw[show k'+2-1=(k'-1)+2 by omega,List.take_succ_cons,List.take_succ_cons,Kg sw rfl sw];simp[a3]
   ·simp at h;obtain⟨rfl,rfl⟩:=h;exact⟨sw,sw,by simpa using CR sw rfl⟩
  ·rename_i hc;simp only[ei]at h;obtain⟨⟨t',k'⟩,h1,h2⟩:=h;simp only[cA]at h2;obtain⟨rfl,rfl⟩:=h2;obtain⟨a1,a2,a3⟩:=qZ n (d::r) t' k' (by simp at hn⊢;omega) h1;refine⟨ow,by simp at a2⊢;omega,?_⟩;rw[show k'+1-1=(k'-1)+1 by omega,List.take_succ_cons,FE sw rfl (T5 hc),a3]
theorem FI{c:UInt8}(hc:c≠39):∀r:zD,eU (c::r)=(eU r).map λx=>(c::x.1,x.2+1)
 |[]=>by simp[eU,hc]
 |d::r=>by rw[eU,if_neg hc]
theorem Kn(r:zD):eU (39::39::r)=(eU r).map λx=>(39::x.1,x.2+2):=by
 rw[eU,if_pos rfl,if_pos rfl]
theorem C6:∀r:zD,r.head?≠Q1 39->eU (39::r)=Q1 ([],1)
 |[],_=>by rw[eU,if_pos rfl]
 |d::r,h=>by rw[eU,if_pos rfl,if_neg (by simpa using h)]
theorem cj(s:zD){i:Nat}(h:i<s.length):s.getD ((i:Int).toNat) 0=s[i]:=by
 rw[aG,bc,zS h,dw]
theorem rx{c:UInt8}:((c.toNat:Int)==39)=Q3↔c=39:=by
 rw[bf];constructor
 ·intro h;exact UInt8.toNat_inj.1 (by show c.toNat=39;omega)
 ·rintro rfl;rfl
theorem pG:∀(n:Nat)(s:zD)(i:Nat)(a:Int)(b:zD),1<=i->i<=s.length->s.length+2<=n+i->s.length<=1000000000->
  eS n s (i:Int) a b=(match eU (s.drop i)with
   |none=>((0,[]),0)
   |some x=>((3,Lib.replaceAll (List.take (i+x.2-2) (List.drop 1 s)) [39,39] [39]),((i+x.2:Nat):Int)))
 |0,s,i,a,b,h1,h2,h3,h4=>by omega
 | n + 1,s,i,a,b,h1,h2,h3,h4=>by
  rw[eS];by_cases hi:i<s.length
  ·rw[if_pos (zx (show(i:Int)<(s.length:Int) by omega)),cj s hi,pT i ow,eY hi];by_cases hq:s[i]=39
   ·rw[if_neg (by simp[bne,rx.2 hq]),hq];by_cases hj:i+1<s.length
    ·rw[eY hj,cj s hj,zx (show((i+1:Nat):Int)<(s.length:Int) by omega)];by_cases hq2:s[i+1]=39
     ·rw[if_pos (by simpa using rx.2 hq2),pT (i+1) ow,pG n s (i+1+1) a b ow ow ow h4,hq2,Kn];cases eU (s.drop (i+1+1))with
      |none=>rfl
      | some x=>
       simp only[Ee];rw[show i+1+1+x.2=i+(x.2+2) by omega]
     ·rw[if_neg (by simpa using λh=>hq2 (rx.1 (by simpa using h))),C6 _ (by rw[List.head?_cons];exact λh=>hq2 (Option.some.inj h))];simp
    ·rw[AL (by omega:s.length<=i+1),aj (show¬((i+1:Nat):Int)<(s.length:Int) by omega),C6 _ sw];simp
   ·rw[if_pos (by simpa[bne]using λh=>hq (rx.1 (by simpa using h))),FI hq,pG n s (i+1) a b ow ow ow h4];cases eU (s.drop (i+1))with
    |none=>rfl
    | some x=>
     simp only[Ee];rw[show i+1+x.2=i+(x.2+1) by omega]
  ·rw[if_neg sg,AL ow];rfl
def o9(c:UInt8)(r:zD):Sem bZ×Nat:=
 if aK c.toNat=Q3 then((1,(c::r).take (cK bw r+1)),cK bw r+1)
 else if zY c.toNat=Q3 then((2,(c::r).take (cK zY r+1)),cK zY r+1)
 else if c=39 then(match eU r with|none=>((0,[]),0)|some x=>((3,x.1),x.2+1))
 else((4,[c]),1)
theorem wo(c:UInt8)(r:zD)(hl:(c::r).length<=1000000000):bF (c::r)=((o9 c r).1,((o9 c r).2:Int)):=by
 have e1:aN aK bw (c::r)=if aK c.toNat=Q3 then cK bw r+1 else 0:=rfl
 have e2:aN zY zY (c::r)=if zY c.toNat=Q3 then cK zY r+1 else 0:=rfl
 unfold bF o9;by_cases h1:aK c.toNat=Q3
 ·rw[if_pos h1]at e1;simp[e1,h1]
 ·rw[if_neg h1]at e1;by_cases h2:zY c.toNat=Q3
  ·rw[if_pos h2]at e2;simp[e1,e2,h1,h2]
  ·rw[if_neg h2]at e2;by_cases h3:c=39
   ·have hq:=pG ((c::r).length+1) (c::r) 1 0 [] ow sw ow hl;have hqq:dW (c::r)=_:=hq;subst h3;have l39:aK 39=Q4:=rfl;have d39:zY 39=Q4:=rfl;cases hs:eU r with
    | none=>
     simp only[List.drop_succ_cons,List.drop_zero,hs]at hqq;simp[e1,e2,l39,d39,hqq]
    | some x=>
     obtain⟨k1,k2,k3⟩:=qZ r.length r x.1 x.2 (aA _) hs;simp only[List.drop_succ_cons,List.drop_zero,hs]at hqq;rw[show 1+x.2-2=x.2-1 by omega,k3,oo 1]at hqq;simp[e1,e2,l39,d39,hqq]
   ·have h4:¬(c.toNat:Int)=39:=λh=>h3 (rx.1 (by simpa using h))
    simp[e1,e2,h1,h2,h3,h4]
def vL:Nat->zD->Nat->Bool
 |0,_,_=>Q4
 |_+1,[],k=>Q0 (k<=400)
 | n+1,c::r,k=>
  if(bif (c.toNat:Int)==32 then Q3 else(c.toNat:Int)==10)=Q3 then vL n r k
  else if ck (o9 c r).1=Q3 then vL n ((c::r).drop (o9 c r).2) (k+1)else Q4
theorem vM:∀(n:Nat)(s:zD)(k:Nat),400<k->vL n s k=Q4
 |0,_,_,_=>rfl
 |_+1,[],k,h=>by rw[vL];exact aj ow
 | n+1,c::r,k,h=>by
  rw[vL];split
  ·exact vM n r k h
  ·split
   ·exact vM n _ (k+1) ow
   ·rfl
theorem A2:∀(n:Nat)(s:zD)(i:Nat)(l:List (Sem zu)),i<=s.length->s.length+1<=n+i->s.length<=1000000000->l.length<=400->((tE n s (i:Int) l).2==(0:Int))=vL n (s.drop i) l.length
 |0,s,i,l,h1,h2,h3,h4=>by omega
 | n + 1,s,i,l,h1,h2,h3,h4=>by
  rw[tE];by_cases hlt:i<s.length
  ·have e1:List.take ((s.length:Int).toNat-(i:Int).toNat) (List.drop (i:Int).toNat s)=s.drop i:=by
    simp only[aG];exact MR sw
   have hdl:(s.drop i).length<=1000000000:=by simp;omega
   rw[if_pos (zx (show(i:Int)<(s.length:Int) by omega)),e1,cj s hlt,pT i ow];rw[eY hlt]at hdl⊢;rw[vL];split
   ·exact A2 n s (i+1) l ow ow h3 h4
   ·rw[wo _ _ hdl];simp only;by_cases hm:ck (o9 s[i] (s.drop (i+1))).1=Q3
    ·rw[if_pos hm];by_cases h5:l.length=400
     ·rw[if_pos (by rw[hm,h5];rfl),h5,vM n _ _ ow];rfl
     ·rw[if_neg (by rw[hm];simp;omega)];have hm':ck (bF (s[i]::s.drop (i+1))).1=Q3:=by rw[wo _ _ hdl];exact hm
      obtain⟨k,hk,hk1,hk2⟩:=vp _ (List.cons_ne_nil _ _) hdl hm';rw[wo _ _ hdl]at hk;have hk:(o9 s[i] (s.drop (i+1))).2=k:=Int.ofNat.inj hk;have hk3:k<=s.length-i:=by rw[<-eY hlt]at hk2;simpa using hk2
      rw[hk,show((i:Int)+(k:Int))=((i+k:Nat):Int) by omega,UZ (i+k) ow,A2 n s (i+k) _ ow ow h3 sg,<-eY hlt,Eg];simp
    ·rw[if_neg hm,if_pos (by simp[hm])];rfl
  ·rw[if_neg sg,AL ow];rw[vL];exact(zx h4).symm
theorem Rm(m:Nat):iV [IntKind.u8.wrap (IntKind.i64.wrap (48-IntKind.i64.wrap (Int.tmod (-(m:Int)) 10)))]=[UInt8.ofNat (48+m%10)]:=by
 have e1:Int.tmod (-(m:Int)) 10=-((m%10:Nat):Int):=by rw[Int.neg_tmod];rfl
 have hlt:m%10<10:=Nat.mod_lt _ ow;have e2:IntKind.i64.wrap (-((m%10:Nat):Int))=-((m%10:Nat):Int):=by rw[fX];omega
 have e3:IntKind.i64.wrap (48- -((m%10:Nat):Int))=((48+m%10:Nat):Int):=by rw[fX];omega
 have e4:IntKind.u8.wrap ((48+m%10:Nat):Int)=((48+m%10:Nat):Int):=by rw[IntKind.wrap_u8];omega
 rw[e1,e2,e3,e4];rfl
theorem Wy(m:Nat)(h:m<=9223372036854775808):IntKind.i64.wrap (Int.tdiv (-(m:Int)) 10)=-((m/10:Nat):Int):=by
 have e1:Int.tdiv (-(m:Int)) 10=-((m/10:Nat):Int):=by rw[Int.neg_tdiv];rfl
 have:m/10<=m:=Nat.div_le_self _ _;rw[e1,fX];omega
theorem Rl:∀(f m:Nat)(s:zD),m<10^f->0<f->m<=9223372036854775808->(0<m\/s=[])->s.length+f<=1000->zU De (f+1) (.h2 (-(m:Int)) s) (.str (nl f m++s),[])
 |0,_,_,_,h,_,_,_=>by omega
 | f+1,m,s,hm,_,hb,h0,hs=>by
  have hv:(De (.h2 (-(m:Int)) s)).val=Q1 (.inl (.h2 (-((m/10:Nat):Int)) ([UInt8.ofNat (48+m%10)]++s))):=by
   show(De (.h2 _ _)).val=_;have c:(bif Q0 (LT.lt (α:=Int) (-(m:Int)) 0)then Q3 else s==[])=Q3:=by
    rcases h0 with h|h
    ·rw[zx ow];rfl
    ·subst h;cases Q0 (LT.lt (α:=Int) (-(m:Int)) 0)<;>rfl
   simp only[De,Q8,Rm m,Wy m hb,if_true];rw[if_pos c,if_pos (zx sg)]
  by_cases h10:m<10
  ·have e0:m/10=0:=by omega
   have e1:m%10=m:=by omega
   rw[e0,e1]at hv;have hd:nl (f+1) m=[UInt8.ofNat (48+m)]:=by rw[nl,if_pos h10]
   rw[hd];refine((zQ.of hv).ends (k:=1) (zU.of ?_)).mono ow;show(De (.h2 _ _)).val=_;simp[De,Q8]
  ·have hf:0<f:=by
    cases f with
    |zero=>simp at hm;omega
    |succ f=>omega
   have:=Rl f (m/10) ([UInt8.ofNat (48+m%10)]++s) (by rw[AS]at hm;omega) hf ow (.inl ow) sg;have hd:nl (f+1) m=nl f (m/10)++[UInt8.ofNat (48+m%10)]:=by rw[nl,if_neg h10]
   rw[hd,xq];exact(zQ.of hv).ends this
theorem xS{m:Nat}(h:m<=9223372036854775808):qD (-(m:Int))=Q1 (nl 20 m,()):=by
 refine zw (s:=.h2 (-(m:Int)) []) rfl (Rl 20 m [] ow ow h (.inr rfl) sw) ow ?_;rw[rF];rfl
theorem A7:∀s:zD,(kF s).length<=2*s.length
 |[]=>by simp[kF]
 | c::r=>by
  have:=A7 r;rw[kF];split<;>simp<;>omega
theorem Em(c:UInt8):∀s:zD,kF (s++[c])=kF s++(if c=39 then[39,39]else[c])
 | []=>by
  show kF [c]=_;rw[kF,kF,kF];split<;>rfl
 | d::r=>by
  have:=Em c r;show kF (d::(r++[c]))=_;rw[kF,kF,this];split<;>rfl
theorem zab{α:Type}{l:List α}{i:Nat}(h:i<l.length):l.take (i+1)=l.take i++[l[i]]:=by
 rw[List.take_add_one,zS h];rfl
theorem zdY{v:Sem ze}(hl:v.2.2.length<=1000000):zU uZ (v.2.2.length*1+1) (.h13 [39] 0 (v,())) (.str ([39]++kF v.2.2++[39]),[]):=by
 have hg:=zQ.all (t:=uZ) 1 (λi=>.h13 ([39]++kF (v.2.2.take i)) (i:Int) (v,())) v.2.2.length (by
  intro i hi;refine zQ.of ?_;have hd:=A7 (v.2.2.take i);have hd2:(kF (v.2.2.take i)).length<=2000000:=by simp at hd;omega
  have w1:IntKind.i64.wrap ((i:Int)+1)=((i+1:Nat):Int):=zp i um;have g1:(Q0 (0<=(i:Int))&&Q0 ((i:Int)<=((i+1:Nat):Int))&&Q0 (((i+1:Nat):Int)<=(↑(length v.2.2):Int)))=Q3:=by simp;omega
  have ht:List.take (((i+1:Nat):Int).toNat-(i:Int).toNat) (List.drop (i:Int).toNat v.2.2)=[v.2.2[i]]:=by
   rw[aG,aG,show i+1-i=1 by omega,eY hi];rfl
  show(uZ (.h13 _ _ _)).val=_;simp only[uZ,Q8,w1,g1,ht,zC hi,zt hi,if_true,cj v.2.2 hi];rw[zab hi,Em,if_pos (zx sg)];by_cases h:v.2.2[i]=39
  ·rw[if_pos (rx.2 h),if_pos h,if_pos (zx sg),h];simp
  ·rw[if_neg (λh2=>h (rx.1 h2)),if_neg h];simp)
 have hd:=A7 v.2.2;have hv:(uZ (.h13 ([39]++kF (v.2.2.take v.2.2.length)) (v.2.2.length:Int) (v,()))).val=Q1 (.inr (.str ([39]++kF v.2.2++[39]),[])):=by
  show(uZ (.h13 _ _ _)).val=_;simp only[uZ,Q8,zA,jx];simp;omega
 have:=hg.ends (zU.of hv);rw[oo]at this;exact this
theorem XI{v:Sem ze}(hm:aR v=Q3)(h0:v.1≠(0:Int))(h1:v.1≠(1:Int))(h2:v.1≠(2:Int)):(v.1==3)=Q3/\((dT v==2)=(v.2.1==1)):=by
 have b0:(v.1==0)=Q4:=bX.2 h0;have b1:(v.1==1)=Q4:=bX.2 h1;have b2:(v.1==2)=Q4:=bX.2 h2;have hm2:=hm;unfold aR at hm;rw[b0,b1,b2]at hm;simp only[zB,if_false]at hm;cases b3:(v.1==3)
 ·rw[b3]at hm;simp at hm
 ·rw[b3]at hm;refine⟨rfl,?_⟩;have h01:v.2.1=(0:Int)\/v.2.1=(1:Int):=by
   simp at hm;by_cases k:v.2.1=(0:Int)
   ·exact .inl k
   ·by_cases k2:v.2.1=(1:Int)
    ·exact .inr k2
    ·simp[k,k2]at hm
  unfold dT;rw[show(v.1!=3)=Q4 by simp[bne,b3],hm2];rcases h01 with h|h<;>rw[h]<;>rfl
theorem Fq{v:Sem ze}(hv:l7 v):yX v=Q1 (ig v,()):=by
 obtain⟨hlo,hhi,hlen⟩:=hv;have hMC:=jH (v:=v) hlen;have hM:=lR (v:=v) hlen;by_cases hm:aR v=Q3
 ·have hn:(!aR v)=Q4:=by rw[hm];rfl
  by_cases h0:v.1=(0:Int)
  ·have b0:(v.1==0)=Q3:=bf.2 h0;refine zJ (r:=(.str [78,85,76,76],[])) ?_ ?_
   ·simp only[xK,Q8,hMC,hM,hn,b0,if_true];rfl
   ·unfold ig;rw[h0,hm];rfl
  have b0:(v.1==0)=Q4:=bX.2 h0;by_cases h1:v.1=(1:Int)
  ·have b1:(v.1==1)=Q3:=bf.2 h1;have ht:ig v=rM v.2.1:=by
    unfold ig;rw[hn,if_neg sw,if_pos b1]
   rw[ht];unfold rM;by_cases hneg:LT.lt (α:=Int) v.2.1 0
   ·have hd:=xS (m:=v.2.1.natAbs) ow;rw[show -((v.2.1.natAbs:Nat):Int)=v.2.1 by omega]at hd;have c1:ko v.2.1=Q3:=by unfold ko;rw[hd];rfl
    have c2:kY v.2.1=nl 20 v.2.1.natAbs:=by unfold kY;rw[hd];rfl
    have hdl:=A6 20 v.2.1.natAbs;rw[if_pos hneg];refine zJ (r:=(.str ([45]++nl 20 v.2.1.natAbs),[])) ?_ rfl;simp only[xK,Q8,hMC,hM,hn,b0,b1,zx hneg,c1,c2,if_true];rw[if_neg sw,if_neg sw,if_pos (zx sg)]
   ·have hd:=xS (m:=v.2.1.natAbs) ow;have hw:IntKind.i64.wrap (0-v.2.1)=-((v.2.1.natAbs:Nat):Int):=by rw[fX];omega
    have c1:ko (-((v.2.1.natAbs:Nat):Int))=Q3:=by unfold ko;rw[hd];rfl
    have c2:kY (-((v.2.1.natAbs:Nat):Int))=nl 20 v.2.1.natAbs:=by unfold kY;rw[hd];rfl
    rw[if_neg hneg];refine zJ (r:=(.str (nl 20 v.2.1.natAbs),[])) ?_ rfl;simp only[xK,Q8,hMC,hM,hn,b0,b1,aj hneg,hw,c1,c2,if_true];rw[if_neg sw,if_neg sw,if_neg sw]
  have b1:(v.1==1)=Q4:=bX.2 h1;by_cases h2:v.1=(2:Int)
  ·have b2:(v.1==2)=Q3:=bf.2 h2;have ht:ig v=[39]++kF v.2.2++[39]:=by
    unfold ig;rw[hn,if_neg sw,if_neg (by rw[b1];simp),if_pos b2,CO]
   rw[ht];have hg:zU uZ (v.2.2.length*1+1) (.h13 [39] 0 (v,())) (.str ([39]++kF v.2.2++[39]),[]):=zdY (v:=v) hlen;refine zw (s:=.h13 [39] 0 (v,())) ?_ hg ow rfl;simp only[xK,Q8,hMC,hM,hn,b0,b1,b2,if_true];rfl
  ·have b2:(v.1==2)=Q4:=bX.2 h2;obtain⟨b3,hs⟩:=XI hm h0 h1 h2;have ht:ig v=if(v.2.1==1)=Q3 then[84,82,85,69]else[70,65,76,83,69]:=by
    unfold ig;rw[hn,if_neg sw,if_neg (by rw[b1];simp),if_neg (by rw[b2];simp),if_pos b3,hs]
   rw[ht];by_cases h3:(v.2.1==1)=Q3
   ·rw[if_pos h3];refine zJ (r:=(.str [84,82,85,69],[])) ?_ rfl;simp only[xK,Q8,hMC,hM,hn,b0,b1,b2,h3,if_true];rfl
   ·rw[if_neg h3];refine zJ (r:=(.str [70,65,76,83,69],[])) ?_ rfl;have h3:(v.2.1==1)=Q4:=by simpa using h3
    simp only[xK,Q8,hMC,hM,hn,b0,b1,b2,h3,if_true];rfl
 ·have hm:aR v=Q4:=by simpa using hm
  refine zJ (r:=(.str [],[])) ?_ ?_
  ·simp only[xK,Q8,hMC,hM,hm,if_true];rfl
  ·unfold ig;rw[hm];rfl
theorem Fp{v:Sem ze}(hv:l7 v):ut v=Q3:=by unfold ut;rw[Fq hv];rfl
theorem JS{v:Sem ze}(hv:l7 v):Cp v=ig v:=by unfold Cp;rw[Fq hv];rfl
theorem qK:∀(N d M:Nat)(e:zf),d<=12->d<=N->d<=M->cq d e=Q3->sb e->cG N e=Q1 (aQ M e,())/\(aQ M e).length<=400*nE d e
 |_,0,_,_,_,_,_,h,_=>by cases h
 |0,d+1,_,_,_,h,_,_,_=>absurd h ow
 |_,d+1,0,_,_,_,h,_,_=>absurd h ow
 | N+1,d+1,M+1,e,h0,h1,h2,h,hw=>by
  rw[cG];unfold NU;cases fE h with
  | lit v hv=>
   rw[sb]at hw;have ht:aQ (M+1) (.mk [108,105,116] v [] [])=ig v:=rfl;have hl:=xg v;rw[ht];refine⟨zJ (r:=(.str (ig v),[])) ?_ rfl,by simp[nE];omega⟩;have e2:(ou (λx0=>iC (cG N x0)) (λx0=>(cG N x0).isSome) (.mk [108,105,116] v [] [])).val=if ut v=Q3 then Q1 (.inr (.str (Cp v),[]))else Q2:=rfl
   rw[e2,Fp hw.1,JS hw.1];rfl
  | col s hs hr=>
   have hl:=FR hs;have ht:aQ (M+1) (.mk [99,111,108] (0,0,[]) s [])=s:=rfl;rw[ht];exact⟨zJ (r:=(.str s,[])) rfl rfl,by simp[nE];omega⟩
  | one op a ho ha=>
   rw[sb,j0]at hw;obtain⟨ka,la⟩:=qK N d M a ow ow ow ha hw.2.2.1;have hb:=rQ d a ha;have p1:2^d<=2^12:=D8 ow ow;have hn:nE (d+1) (.mk op (0,0,[]) [] [a])=1+nE d a:=by simp[nE]
   rw[hn];generalize hg:(λx0=>iC (cG N x0))=g;generalize hc:(λx0=>(cG N x0).isSome)=c;have g1:g a=aQ M a:=by rw[<-hg];show iC (cG N a)=_;rw[ka];rfl
   have c1:c a=Q3:=by rw[<-hc];show(cG N a).isSome=_;rw[ka];rfl
   rcases ho with rfl|rfl
   ·have ht:aQ (M+1) (.mk [110,111,116] (0,0,[]) [] [a])=[40,78,79,84,32]++aQ M a++[41]:=rfl;rw[ht];refine⟨zJ (r:=(.str ([40,78,79,84,32]++aQ M a++[41]),[])) ?_ rfl,sg⟩;have e2:(ou g c (.mk [110,111,116] (0,0,[]) [] [a])).val=if c (zn a)=Q3 then(if Q0 ([40,78,79,84,32].length+length (g (zn a))<=1099511627776)=Q3 then(if Q0 (([40,78,79,84,32]++g (zn a)).length+[41].length<=1099511627776)=Q3 then Q1 (.inr (.str ([40,78,79,84,32]++g (zn a)++[41]),[]))else Q2)else Q2)else Q2:=rfl
    rw[e2,zk,c1,g1,if_pos rfl,if_pos (zx sg),if_pos (zx sg)]
   ·have ht:aQ (M+1) (.mk [110,117,108,108] (0,0,[]) [] [a])=[40]++aQ M a++[32,73,83,32,78,85,76,76,41]:=rfl;rw[ht];refine⟨zJ (r:=(.str ([40]++aQ M a++[32,73,83,32,78,85,76,76,41]),[])) ?_ rfl,sg⟩;have e2:(ou g c (.mk [110,117,108,108] (0,0,[]) [] [a])).val=if c (zn a)=Q3 then(if Q0 ([40].length+length (g (zn a))<=1099511627776)=Q3 then(if Q0 (([40]++g (zn a)).length+[32,73,83,32,78,85,76,76,41].length<=1099511627776)=Q3 then Q1 (.inr (.str ([40]++g (zn a)++[32,73,83,32,78,85,76,76,41]),[]))else Q2)else Q2)else Q2:=rfl
    rw[e2,zk,c1,g1,if_pos rfl,if_pos (zx sg),if_pos (zx sg)]
  | two op a b ho ha hb=>
   rw[sb,j0,j0]at hw;obtain⟨ka,la⟩:=qK N d M a ow ow ow ha hw.2.2.1;obtain⟨kb,lb⟩:=qK N d M b ow ow ow hb hw.2.2.2.1;have ha2:=rQ d a ha;have hb2:=rQ d b hb;have p1:2^d<=2^12:=D8 ow ow;have hn:nE (d+1) (.mk op (0,0,[]) [] [a,b])=1+(nE d a+nE d b):=by simp[nE]
   rw[hn];generalize hg:(λx0=>iC (cG N x0))=g;generalize hc:(λx0=>(cG N x0).isSome)=c;have g1:g a=aQ M a:=by rw[<-hg];show iC (cG N a)=_;rw[ka];rfl
   have c1:c a=Q3:=by rw[<-hc];show(cG N a).isSome=_;rw[ka];rfl
   have g2:g b=aQ M b:=by rw[<-hg];show iC (cG N b)=_;rw[kb];rfl
   have c2:c b=Q3:=by rw[<-hc];show(cG N b).isSome=_;rw[kb];rfl
   have ht:∀w:zD,Lib.toUpperA op=w->su (aQ M) (gH M) (.mk op (0,0,[]) [] [a,b])=[40]++aQ M a++[32]++w++[32]++aQ M b++[41]:=by
    rintro w rfl;rcases ho with rfl|rfl|rfl|rfl|rfl|rfl<;>rfl
   have hx:aQ (M+1) (.mk op (0,0,[]) [] [a,b])=su (aQ M) (gH M) (.mk op (0,0,[]) [] [a,b]):=rfl;rw[hx];rcases ho with rfl|rfl|rfl|rfl|rfl|rfl
   ·rw[ht [65,78,68] rfl];refine⟨zJ (r:=(.str ([40]++aQ M a++[32,65,78,68,32]++aQ M b++[41]),[])) ?_ (by simp[aL];rfl),sg⟩;have e2:(ou g c (.mk [97,110,100] (0,0,[]) [] [a,b])).val=if c (zn a)=Q3 then(if Q0 ([40].length+length (g (zn a))<=1099511627776)=Q3 then(if Q0 (([40]++g (zn a)).length+[32,65,78,68,32].length<=1099511627776)=Q3 then(if c (zn b)=Q3 then(if Q0 (([40]++g (zn a)++[32,65,78,68,32]).length+length (g (zn b))<=1099511627776)=Q3 then(if Q0 (([40]++g (zn a)++[32,65,78,68,32]++g (zn b)).length+[41].length<=1099511627776)=Q3 then Q1 (.inr (.str ([40]++g (zn a)++[32,65,78,68,32]++g (zn b)++[41]),[]))else Q2)else Q2)else Q2)else Q2)else Q2)else Q2:=rfl
    rw[e2,zk,zk,c1,c2,g1,g2,if_pos rfl,if_pos (zx sg),if_pos (zx sg),if_pos rfl,if_pos (zx sg),if_pos (zx sg)]
   ·rw[ht [79,82] rfl];refine⟨zJ (r:=(.str ([40]++aQ M a++[32,79,82,32]++aQ M b++[41]),[])) ?_ (by simp[aL];rfl),sg⟩;have e2:(ou g c (.mk [111,114] (0,0,[]) [] [a,b])).val=if c (zn a)=Q3 then(if Q0 ([40].length+length (g (zn a))<=1099511627776)=Q3 then(if Q0 (([40]++g (zn a)).length+[32,79,82,32].length<=1099511627776)=Q3 then(if c (zn b)=Q3 then(if Q0 (([40]++g (zn a)++[32,79,82,32]).length+length (g (zn b))<=1099511627776)=Q3 then(if Q0 (([40]++g (zn a)++[32,79,82,32]++g (zn b)).length+[41].length<=1099511627776)=Q3 then Q1 (.inr (.str ([40]++g (zn a)++[32,79,82,32]++g (zn b)++[41]),[]))else Q2)else Q2)else Q2)else Q2)else Q2)else Q2:=rfl
    rw[e2,zk,zk,c1,c2,g1,g2,if_pos rfl,if_pos (zx sg),if_pos (zx sg),if_pos rfl,if_pos (zx sg),if_pos (zx sg)]
   ·rw[ht [61] rfl];refine⟨zJ (r:=(.str ([40]++aQ M a++[32]++[61]++[32]++aQ M b++[41]),[])) ?_ rfl,sg⟩;have e2:(ou g c (.mk [61] (0,0,[]) [] [a,b])).val=if c (zn a)=Q3 then(if Q0 ([40].length+length (g (zn a))<=1099511627776)=Q3 then(if Q0 (([40]++g (zn a)).length+[32].length<=1099511627776)=Q3 then(if Q0 (([40]++g (zn a)++[32]).length+length [61]<=1099511627776)=Q3 then(if Q0 (([40]++g (zn a)++[32]++[61]).length+[32].length<=1099511627776)=Q3 then(if c (zn b)=Q3 then(if Q0 (([40]++g (zn a)++[32]++[61]++[32]).length+length (g (zn b))<=1099511627776)=Q3 then(if Q0 (([40]++g (zn a)++[32]++[61]++[32]++g (zn b)).length+[41].length<=1099511627776)=Q3 then Q1 (.inr (.str ([40]++g (zn a)++[32]++[61]++[32]++g (zn b)++[41]),[]))else Q2)else Q2)else Q2)else Q2)else Q2)else Q2)else Q2)else Q2:=rfl
    rw[e2,zk,zk,c1,c2,g1,g2,if_pos rfl,if_pos (zx sg),if_pos (zx sg),if_pos (zx sg),if_pos (zx sg),if_pos rfl,if_pos (zx sg),if_pos (zx sg)]
   ·rw[ht [60] rfl];refine⟨zJ (r:=(.str ([40]++aQ M a++[32]++[60]++[32]++aQ M b++[41]),[])) ?_ rfl,sg⟩;have e2:(ou g c (.mk [60] (0,0,[]) [] [a,b])).val=if c (zn a)=Q3 then(if Q0 ([40].length+length (g (zn a))<=1099511627776)=Q3 then(if Q0 (([40]++g (zn a)).length+[32].length<=1099511627776)=Q3 then(if Q0 (([40]++g (zn a)++[32]).length+length [60]<=1099511627776)=Q3 then(if Q0 (([40]++g (zn a)++[32]++[60]).length+[32].length<=1099511627776)=Q3 then(if c (zn b)=Q3 then(if Q0 (([40]++g (zn a)++[32]++[60]++[32]).length+length (g (zn b))<=1099511627776)=Q3 then(if Q0 (([40]++g (zn a)++[32]++[60]++[32]++g (zn b)).length+[41].length<=1099511627776)=Q3 then Q1 (.inr (.str ([40]++g (zn a)++[32]++[60]++[32]++g (zn b)++[41]),[]))else Q2)else Q2)else Q2)else Q2)else Q2)else Q2)else Q2)else Q2:=rfl
    rw[e2,zk,zk,c1,c2,g1,g2,if_pos rfl,if_pos (zx sg),if_pos (zx sg),if_pos (zx sg),if_pos (zx sg),if_pos rfl,if_pos (zx sg),if_pos (zx sg)]
   ·rw[ht [43] rfl];refine⟨zJ (r:=(.str ([40]++aQ M a++[32]++[43]++[32]++aQ M b++[41]),[])) ?_ rfl,sg⟩;have e2:(ou g c (.mk [43] (0,0,[]) [] [a,b])).val=if c (zn a)=Q3 then(if Q0 ([40].length+length (g (zn a))<=1099511627776)=Q3 then(if Q0 (([40]++g (zn a)).length+[32].length<=1099511627776)=Q3 then(if Q0 (([40]++g (zn a)++[32]).length+length [43]<=1099511627776)=Q3 then(if Q0 (([40]++g (zn a)++[32]++[43]).length+[32].length<=1099511627776)=Q3 then(if c (zn b)=Q3 then(if Q0 (([40]++g (zn a)++[32]++[43]++[32]).length+length (g (zn b))<=1099511627776)=Q3 then(if Q0 (([40]++g (zn a)++[32]++[43]++[32]++g (zn b)).length+[41].length<=1099511627776)=Q3 then Q1 (.inr (.str ([40]++g (zn a)++[32]++[43]++[32]++g (zn b)++[41]),[]))else Q2)else Q2)else Q2)else Q2)else Q2)else Q2)else Q2)else Q2:=rfl
    rw[e2,zk,zk,c1,c2,g1,g2,if_pos rfl,if_pos (zx sg),if_pos (zx sg),if_pos (zx sg),if_pos (zx sg),if_pos rfl,if_pos (zx sg),if_pos (zx sg)]
   ·rw[ht [45] rfl];refine⟨zJ (r:=(.str ([40]++aQ M a++[32]++[45]++[32]++aQ M b++[41]),[])) ?_ rfl,sg⟩;have e2:(ou g c (.mk [45] (0,0,[]) [] [a,b])).val=if c (zn a)=Q3 then(if Q0 ([40].length+length (g (zn a))<=1099511627776)=Q3 then(if Q0 (([40]++g (zn a)).length+[32].length<=1099511627776)=Q3 then(if Q0 (([40]++g (zn a)++[32]).length+length [45]<=1099511627776)=Q3 then(if Q0 (([40]++g (zn a)++[32]++[45]).length+[32].length<=1099511627776)=Q3 then(if c (zn b)=Q3 then(if Q0 (([40]++g (zn a)++[32]++[45]++[32]).length+length (g (zn b))<=1099511627776)=Q3 then(if Q0 (([40]++g (zn a)++[32]++[45]++[32]++g (zn b)).length+[41].length<=1099511627776)=Q3 then Q1 (.inr (.str ([40]++g (zn a)++[32]++[45]++[32]++g (zn b)++[41]),[]))else Q2)else Q2)else Q2)else Q2)else Q2)else Q2)else Q2)else Q2:=rfl
    rw[e2,zk,zk,c1,c2,g1,g2,if_pos rfl,if_pos (zx sg),if_pos (zx sg),if_pos (zx sg),if_pos (zx sg),if_pos rfl,if_pos (zx sg),if_pos (zx sg)]
end Cad
