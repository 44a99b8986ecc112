/- Texts. -/
import Derived.Test.YtjfdpfapcmcncaaGreatDoorR19
namespace Cad
open Go Go.Proofs
open List renaming length→Io
open IntKind renaming wrap→Γ,i64→Δ
open Tr renaming val→Q8
open Sh renaming bool→Q7,str→Q6,expr→Q5
open Bool renaming false→Q4,true→Q3
open Option renaming none→Q2,some→Q1
open Decidable renaming decide→Q0
open Int (toNat)
open List (getD)
open Tr (chk br re)
open AV (nils agg tup ptr kb str sl)
theorem ug(c:UInt8)(s o:zD):Lib.index (c::s) o=if o.isPrefixOf (c::s)=Q3 then 0 else if Lib.index s o=-1 then -1 else Lib.index s o+1:=by
 rw[Lib.index];simp only[bh]
theorem yI{s o u:zD}(z:(o==u)=Q4)(h:Lib.index s o=-1):Lib.replaceAll s o u=s:=by
 unfold Lib.replaceAll Lib.replace Lib.replaceNum;rw[z,if_pos (Or.inl (by decide)),Lib.count_miss h];rfl
theorem ED{s o u:zD}{i:Nat}(B:o≠[])(z:(o==u)=Q4)(h:Lib.index s o=i):Lib.replaceAll s o u=s.take i++u++Lib.replaceAll (s.drop (i+Io o)) o u:=by
 unfold Lib.replaceAll Lib.replace Lib.replaceNum;rw[z,if_pos (Or.inl (by decide)),if_pos (Or.inl (by decide)),Lib.count_hit B h,o9 1];exact Lib.replaceK_hit o u _ s i h
theorem EE{o h:zD}(z:o≠[])(u:(o==h)=Q4):Lib.replaceAll [] o h=[]:=by
 refine yI u ?_;cases o with
 |nil=>exact absurd rfl z
 |cons a l=>rfl
theorem MM{c:UInt8}{s o h:zD}(z:o≠[])(u:(o==h)=Q4)(hp:o.isPrefixOf (c::s)=Q3):Lib.replaceAll (c::s) o h=h++Lib.replaceAll ((c::s).drop (Io o)) o h:=by
 have:=ED (i:=0) z u (s:=c::s) (by rw[ug,if_pos hp];rfl);simpa using this
theorem HK{c:UInt8}{s o z:zD}(B:o≠[])(u:(o==z)=Q4)(hp:o.isPrefixOf (c::s)=Q4):Lib.replaceAll (c::s) o z=c::Lib.replaceAll s o z:=by
 by_cases h:Lib.index s o=-1
 ·rw[yI u h,yI u (by rw[ug,if_neg (by simp[hp]),if_pos h])]
 ·obtain⟨i,C⟩:∃i:Nat,Lib.index s o=i:=⟨(Lib.index s o).toNat,by have:=Lib.index_ge s o;omega⟩;rw[ED B u C,ED (i:=i+1) B u (by rw[ug,if_neg (by simp[hp]),if_neg h,C];simp)];simp[Nat.add_right_comm]
theorem Xy{c a:UInt8}{r l:zD}(h:c≠a):(a::l).isPrefixOf (c::r)=Q4:=by
 rw[List.isPrefixOf,cd.2 (Ne.symm h)];rfl
def lk:zD->zD
 |[]=>[]
 |c::r=>if c=39 then 39::39::lk r else c::lk r
theorem EC:∀s:zD,Lib.replaceAll s [39] nU=lk s
 |[]=>EE sw rfl
 | c::r=>by
  rw[lk];split
  ·rename_i h;subst h;rw[MM sw rfl sw];simp[EC r]
  ·rename_i h;rw[HK sw rfl (Xy h),EC r]
def fe:zD->Option (zD×Nat)
 |[]=>Q2
 |[c]=>if c=39 then Q1 ([],1)else Q2
 |c::d::r=>if c=39 then(if d=39 then(fe r).map λx=>(39::x.1,x.2+2)else Q1 ([],1))else(fe (d::r)).map λx=>(c::x.1,x.2+1)
theorem sk:∀(n:Nat)(s t:zD)(k:Nat),Io s<=n->fe s=Q1 (t,k)->1<=k/\k<=Io s/\Lib.replaceAll (s.take (k-1)) nU [39]=t
 |_,[],_,_,_,h=>by simp[fe]at h
 | _,[c],t,k,_,h=>by
  rw[fe]at h;split at h
  ·simp at h;obtain⟨rfl,rfl⟩:=h;exact⟨sw,sw,by simpa using EE sw rfl⟩
  ·simp at h
 |0,_::_::_,_,_,hn,_=>by simp at hn
 | n+1,c::d::r,t,k,hn,h=>by
  rw[fe]at h;split at h
  ·rename_i C;split at h
   ·rename_i G;simp only[eB]at h;obtain⟨⟨D,o⟩,B,u⟩:=h;simp only[cF]at u;obtain⟨rfl,rfl⟩:=u;obtain⟨F,E,z⟩:=sk n r D o (by simp at hn;omega) B;refine⟨ow,sg,?_⟩;subst C;subst G;rw[show o+2-1=(o-1)+2 by omega,List.take_succ_cons,List.take_succ_cons,MM sw rfl sw];simp[z]
   ·simp at h;obtain⟨rfl,rfl⟩:=h;exact⟨sw,sw,by simpa using EE sw rfl⟩
  ·rename_i C;simp only[eB]at h;obtain⟨⟨D,o⟩,B,u⟩:=h;simp only[cF]at u;obtain⟨rfl,rfl⟩:=u;obtain⟨F,E,z⟩:=sk n (d::r) D o (by simp at hn⊢;omega) B;refine⟨ow,by simp at E⊢;omega,?_⟩;rw[show o+1-1=(o-1)+1 by omega,List.take_succ_cons,HK sw rfl (Xy C),z]
theorem HO{c:UInt8}(h:c≠39):∀r:zD,fe (c::r)=(fe r).map λx=>(c::x.1,x.2+1)
 |[]=>by simp[fe,h]
 |d::r=>by rw[fe,if_neg h]
theorem MT(r:zD):fe (39::39::r)=(fe r).map λx=>(39::x.1,x.2+2):=by
 rw[fe,if_pos rfl,if_pos rfl]
theorem ER:∀r:zD,r.head?≠Q1 39->fe (39::r)=Q1 ([],1)
 |[],_=>by rw[fe,if_pos rfl]
 |d::r,h=>by rw[fe,if_pos rfl,if_neg (by simpa using h)]
theorem cm(s:zD){i:Nat}(h:i<Io s):s.getD ((i:Int).toNat) 0=s[i]:=by
 rw[aD,aS,zU h,dv]
theorem sI{c:UInt8}:((c.toNat:Int)==39)=Q3↔c=39:=by
 rw[bh];constructor
 ·intro h;exact UInt8.toNat_inj.1 (by show c.toNat=39;omega)
 ·rintro rfl;rfl
theorem qH:∀(n:Nat)(s:zD)(i:Nat)(a:Int)(b:zD),1<=i->i<=Io s->Io s+2<=n+i->Io s<=1000000000->
  e8 n s (i:Int) a b=(match fe (s.drop i)with
   |none=>((0,[]),0)
   |some x=>((3,Lib.replaceAll (List.take (i+x.2-2) (List.drop 1 s)) nU [39]),((i+x.2:Nat):Int)))
 |0,s,i,a,b,D,E,F,z=>by omega
 | n + 1,s,i,a,b,D,E,F,z=>by
  rw[e8];by_cases B:i<Io s
  ·rw[if_pos (zx (show(i:Int)<(Io s:Int) by omega)),cm s B,qV i ow,fj B];by_cases u:s[i]=39
   ·rw[if_neg (by simp[bne,sI.2 u]),u];by_cases C:i+1<Io s
    ·rw[fj C,cm s C,zx (show((i+1:Nat):Int)<(Io s:Int) by omega)];by_cases o:s[i+1]=39
     ·rw[if_pos (by simpa using sI.2 o),qV (i+1) ow,qH n s (i+1+1) a b ow ow ow z,o,MT];cases fe (s.drop (i+1+1))with
      |none=>rfl
      | some x=>
       simp only[yZ];rw[show i+1+1+x.2=i+(x.2+2) by omega]
     ·rw[if_neg (by simpa using λh=>o (sI.1 (by simpa using h))),ER _ (by rw[List.head?_cons];exact λh=>o (Option.some.inj h))];simp
    ·rw[Cg (by omega:Io s<=i+1),aq (show¬((i+1:Nat):Int)<(Io s:Int) by omega),ER _ sw];simp
   ·rw[if_pos (by simpa[bne]using λh=>u (sI.1 (by simpa using h))),HO u,qH n s (i+1) a b ow ow ow z];cases fe (s.drop (i+1))with
    |none=>rfl
    | some x=>
     simp only[yZ];rw[show i+1+x.2=i+(x.2+1) by omega]
  ·rw[if_neg sg,Cg ow];rfl
def qd(c:UInt8)(r:zD):Sem cg×Nat:=
 if aL c.toNat=Q3 then((1,(c::r).take (cR bz r+1)),cR bz r+1)
 else if zY c.toNat=Q3 then((2,(c::r).take (cR zY r+1)),cR zY r+1)
 else if c=39 then(match fe r with|none=>((0,[]),0)|some x=>((3,x.1),x.2+1))
 else((4,[c]),1)
theorem xU(c:UInt8)(r:zD)(I:(c::r).length<=1000000000):bJ (c::r)=((qd c r).1,((qd c r).2:Int)):=by
 have u:aP aL bz (c::r)=if aL c.toNat=Q3 then cR bz r+1 else 0:=rfl
 have z:aP zY zY (c::r)=if zY c.toNat=Q3 then cR zY r+1 else 0:=rfl
 unfold bJ qd;by_cases C:aL c.toNat=Q3
 ·rw[if_pos C]at u;simp[u,C]
 ·rw[if_neg C]at u;by_cases E:zY c.toNat=Q3
  ·rw[if_pos E]at z;simp[u,z,C,E]
  ·rw[if_neg E]at z;by_cases F:c=39
   ·have J:=qH ((c::r).length+1) (c::r) 1 0 [] ow sw ow I;have o:eo (c::r)=_:=J;subst F;have D:aL 39=Q4:=rfl;have B:zY 39=Q4:=rfl;cases G:fe r with
    | none=>
     simp only[List.drop_succ_cons,List.drop_zero,G]at o;simp[u,z,D,B,o]
    | some x=>
     obtain⟨M,O,L⟩:=sk (Io r) r x.1 x.2 (ae _) G;simp only[List.drop_succ_cons,List.drop_zero,G]at o;rw[show 1+x.2-2=x.2-1 by omega,L,o9 1]at o;simp[u,z,D,B,o]
   ·have H:¬(c.toNat:Int)=39:=λh=>F (sI.1 (by simpa using h))
    simp[u,z,C,E,F,H]
def xq:Nat->zD->Nat->Bool
 |0,_,_=>Q4
 |_+1,[],k=>Q0 (k<=400)
 | n+1,c::r,k=>
  if(cond ((c.toNat:Int)==32) Q3 ((c.toNat:Int)==10))=Q3 then xq n r k
  else if cq (qd c r).1=Q3 then xq n ((c::r).drop (qd c r).2) (k+1)else Q4
theorem xr:∀(n:Nat)(s:zD)(k:Nat),400<k->xq n s k=Q4
 |0,_,_,_=>rfl
 |_+1,[],k,h=>by rw[xq];exact aq ow
 | n+1,c::r,k,h=>by
  rw[xq];split
  ·exact xr n r k h
  ·split
   ·exact xr n _ (k+1) ow
   ·rfl
theorem CI:∀(n:Nat)(s:zD)(i:Nat)(l:List (Sem zp)),i<=Io s->Io s+1<=n+i->Io s<=1000000000->Io l<=400->((uW n s (i:Int) l).2==(0:Int))=xq n (s.drop i) (Io l)
 |0,s,i,l,H,I,C,D=>by omega
 | n + 1,s,i,l,H,I,C,D=>by
  rw[uW];by_cases o:i<Io s
  ·have G:List.take ((Io s:Int).toNat-(i:Int).toNat) (List.drop (i:Int).toNat s)=s.drop i:=by
    simp only[aD];exact Ch sw
   have h:(s.drop i).length<=1000000000:=by simp;omega
   rw[if_pos (zx (show(i:Int)<(Io s:Int) by omega)),G,cm s o,qV i ow];rw[fj o]at h⊢;rw[xq];split
   ·exact CI n s (i+1) l ow ow C D
   ·rw[xU _ _ h];simp only;by_cases u:cq (qd s[i] (s.drop (i+1))).1=Q3
    ·rw[if_pos u];by_cases F:Io l=400
     ·rw[if_pos (by rw[u,F];rfl),F,xr n _ _ ow];rfl
     ·rw[if_neg (by rw[u];simp;omega)];have E:cq (bJ (s[i]::s.drop (i+1))).1=Q3:=by rw[xU _ _ h];exact u
      obtain⟨k,B,J,z⟩:=wV _ (List.cons_ne_nil _ _) h E;rw[xU _ _ h]at B;have B:(qd s[i] (s.drop (i+1))).2=k:=Int.ofNat.inj B;have L:k<=Io s-i:=by rw[<-fj o]at z;simpa using z
      rw[B,show((i:Int)+(k:Int))=((i+k:Nat):Int) by omega,Yx (i+k) ow,CI n s (i+k) _ ow ow C sg,<-fj o,F9];simp
    ·rw[if_neg u,if_pos (by simp[u])];rfl
  ·rw[if_neg sg,Cg ow];rw[xq];exact(zx D).symm
set_option maxHeartbeats 4000000
theorem UA(m:Nat):jf [IntKind.u8.wrap (Γ Δ (48-Γ Δ (Int.tmod (-(m:Int)) 10)))]=[UInt8.ofNat (48+m%10)]:=by
 have h:Int.tmod (-(m:Int)) 10=-((m%10:Nat):Int):=by rw[Int.neg_tmod];rfl
 have B:m%10<10:=Nat.mod_lt _ ow;have o:Γ Δ (-((m%10:Nat):Int))=-((m%10:Nat):Int):=by rw[gr];omega
 have u:Γ Δ (48- -((m%10:Nat):Int))=((48+m%10:Nat):Int):=by rw[gr];omega
 have z:IntKind.u8.wrap ((48+m%10:Nat):Int)=((48+m%10:Nat):Int):=by rw[IntKind.wrap_u8];omega
 rw[h,o,u,z];rfl
theorem zas(m:Nat)(h:m<=9223372036854775808):Γ Δ (Int.tdiv (-(m:Int)) 10)=-((m/10:Nat):Int):=by
 have o:Int.tdiv (-(m:Int)) 10=-((m/10:Nat):Int):=by rw[Int.neg_tdiv];rfl
 have:m/10<=m:=Nat.div_le_self _ _;rw[o,gr];omega
theorem Uz:∀(f m:Nat)(s:zD),m<10^f->0<f->m<=9223372036854775808->(0<m\/s=[])->Io s+f<=1000->zV EZ (f+1) (.h2 (-(m:Int)) s) (.str (nX f m++s),[])
 |0,_,_,_,h,_,_,_=>by omega
 | f+1,m,s,B,_,E,D,G=>by
  have z:(EZ (.h2 (-(m:Int)) s)).val=Q1 (.inl (.h2 (-((m/10:Nat):Int)) ([UInt8.ofNat (48+m%10)]++s))):=by
   show(EZ (.h2 _ _)).val=_;have c:(bif Q0 (LT.lt (α:=Int) (-(m:Int)) 0)then Q3 else s==[])=Q3:=by
    rcases D with h|h
    ·rw[zx ow];rfl
    ·subst h;cases Q0 (LT.lt (α:=Int) (-(m:Int)) 0)<;>rfl
   simp only[EZ,Q8,UA m,zas m E,if_true];rw[if_pos c,if_pos (zx sg)]
  by_cases o:m<10
  ·have e0:m/10=0:=by omega
   have C:m%10=m:=by omega
   rw[e0,C]at z;have u:nX (f+1) m=[UInt8.ofNat (48+m)]:=by rw[nX,if_pos o]
   rw[u];refine((zL.of z).ends (k:=1) (zV.of ?_)).mono ow;show(EZ (.h2 _ _)).val=_;simp[EZ,Q8]
  ·have F:0<f:=by
    cases f with
    |zero=>simp at B;omega
    |succ f=>omega
   have:=Uz f (m/10) ([UInt8.ofNat (48+m%10)]++s) (by rw[tA]at B;omega) F ow (.inl ow) sg;have u:nX (f+1) m=nX f (m/10)++[UInt8.ofNat (48+m%10)]:=by rw[nX,if_neg o]
   rw[u,uI];exact(zL.of z).ends this
theorem AA{m:Nat}(h:m<=9223372036854775808):rO (-(m:Int))=Q1 (nX 20 m,()):=by
 refine zy (s:=.h2 (-(m:Int)) []) rfl (Uz 20 m [] ow ow h (.inr rfl) sw) ow ?_;rw[o8];rfl
theorem CN:∀s:zD,(lk s).length<=2*Io s
 |[]=>by simp[lk]
 | c::r=>by
  have:=CN r;rw[lk];split<;>simp<;>omega
theorem Gg(c:UInt8):∀s:zD,lk (s++[c])=lk s++(ite (c=39) nU [c])
 | []=>by
  show lk [c]=_;rw[lk,lk,lk];split<;>rfl
 | d::r=>by
  have:=Gg c r;show lk (d::(r++[c]))=_;rw[lk,lk,this];split<;>rfl
theorem zet{α:Type}{l:List α}{i:Nat}(h:i<Io l):l.take (i+1)=l.take i++[l[i]]:=by
 rw[List.take_add_one,zU h];rfl
theorem ziA{v:Sem ze}(G:Io v.2.2<=1000000):zV wM (Io v.2.2*1+1) (.h13 [39] 0 (v,())) (.str ([39]++lk v.2.2++[39]),[]):=by
 have D:=zL.all (t:=wM) 1 (λi=>.h13 ([39]++lk (v.2.2.take i)) (i:Int) (v,())) (Io v.2.2) (by
  intro i o;refine zL.of ?_;have u:=CN (v.2.2.take i);have C:(lk (v.2.2.take i)).length<=2000000:=by simp at u;omega
  have w1:Γ Δ ((i:Int)+1)=((i+1:Nat):Int):=zr i um;have z:(Q0 (0<=(i:Int))&&Q0 ((i:Int)<=((i+1:Nat):Int))&&Q0 (((i+1:Nat):Int)<=(↑(Io v.2.2):Int)))=Q3:=by simp;omega
  have E:List.take (((i+1:Nat):Int).toNat-(i:Int).toNat) (List.drop (i:Int).toNat v.2.2)=[v.2.2[i]]:=by
   rw[aD,aD,show i+1-i=1 by omega,fj o];rfl
  show(wM (.h13 _ _ _)).val=_;simp only[wM,Q8,w1,z,E,zF o,zt o,if_true,cm v.2.2 o];rw[zet o,Gg,if_pos (zx sg)];by_cases h:v.2.2[i]=39
  ·rw[if_pos (sI.2 h),if_pos h,if_pos (zx sg),h];simp
  ·rw[if_neg (λB=>h (sI.1 B)),if_neg h];simp)
 have u:=CN v.2.2;have F:(wM (.h13 ([39]++lk (v.2.2.take (Io v.2.2))) (Io v.2.2:Int) (v,()))).val=Q1 (.inr (.str ([39]++lk v.2.2++[39]),[])):=by
  show(wM (.h13 _ _ _)).val=_;simp only[wM,Q8,zB,fI];simp;omega
 have:=D.ends (zV.of F);rw[o9]at this;exact this
theorem zbD{v:Sem ze}(o:aU v=Q3)(G:v.1≠(0:Int))(H:v.1≠(1:Int))(I:v.1≠(2:Int)):(v.1==3)=Q3/\((eh v==2)=(v.2.1==1)):=by
 have D:(v.1==0)=Q4:=cd.2 G;have E:(v.1==1)=Q4:=cd.2 H;have F:(v.1==2)=Q4:=cd.2 I;have B:=o;unfold aU at o;rw[D,E,F]at o;simp only[zA,if_false]at o;cases u:(v.1==3)
 ·rw[u]at o;simp at o
 ·rw[u]at o;refine⟨rfl,?_⟩;have z:v.2.1=(0:Int)\/v.2.1=(1:Int):=by
   simp at o;by_cases k:v.2.1=(0:Int)
   ·exact .inl k
   ·by_cases C:v.2.1=(1:Int)
    ·exact .inr C
    ·simp[k,C]at o
  unfold eh;rw[show(v.1!=3)=Q4 by simp[bne,u],B];rcases z with h|h<;>rw[h]<;>rfl
theorem Hx{v:Sem ze}(hv:kd v):BA v=Q1 (ii v,()):=by
 obtain⟨Y,X,u⟩:=hv;have h:=lD (v:=v) u;have D:=oE (v:=v) u;by_cases E:aU v=Q3
 ·have B:(!aU v)=Q4:=by rw[E];rfl
  by_cases J:v.1=(0:Int)
  ·have C:(v.1==0)=Q3:=bh.2 J;refine zM (r:=(.str Fv,[])) ?_ ?_
   ·simp only[Aq,Q8,h,D,B,C,if_true];rfl
   ·unfold ii;rw[J,E];rfl
  have C:(v.1==0)=Q4:=cd.2 J;by_cases O:v.1=(1:Int)
  ·have z:(v.1==1)=Q3:=bh.2 O;have I:ii v=tc v.2.1:=by
    unfold ii;rw[B,if_neg sw,if_pos z]
   rw[I];unfold tc;by_cases o:LT.lt (α:=Int) v.2.1 0
   ·have H:=AA (m:=v.2.1.natAbs) ow;rw[show -((v.2.1.natAbs:Nat):Int)=v.2.1 by omega]at H;have L:kS v.2.1=Q3:=by unfold kS;rw[H];rfl
    have M:lH v.2.1=nX 20 v.2.1.natAbs:=by unfold lH;rw[H];rfl
    have U:=CM 20 v.2.1.natAbs;rw[if_pos o];refine zM (r:=(.str ([45]++nX 20 v.2.1.natAbs),[])) ?_ rfl;simp only[Aq,Q8,h,D,B,C,z,zx o,L,M,if_true];rw[if_neg sw,if_neg sw,if_pos (zx sg)]
   ·have H:=AA (m:=v.2.1.natAbs) ow;have hw:Γ Δ (0-v.2.1)=-((v.2.1.natAbs:Nat):Int):=by rw[gr];omega
    have L:kS (-((v.2.1.natAbs:Nat):Int))=Q3:=by unfold kS;rw[H];rfl
    have M:lH (-((v.2.1.natAbs:Nat):Int))=nX 20 v.2.1.natAbs:=by unfold lH;rw[H];rfl
    rw[if_neg o];refine zM (r:=(.str (nX 20 v.2.1.natAbs),[])) ?_ rfl;simp only[Aq,Q8,h,D,B,C,z,aq o,hw,L,M,if_true];rw[if_neg sw,if_neg sw,if_neg sw]
  have z:(v.1==1)=Q4:=cd.2 O;by_cases S:v.1=(2:Int)
  ·have F:(v.1==2)=Q3:=bh.2 S;have I:ii v=[39]++lk v.2.2++[39]:=by
    unfold ii;rw[B,if_neg sw,if_neg (by rw[z];simp),if_pos F,EC]
   rw[I];have W:zV wM (Io v.2.2*1+1) (.h13 [39] 0 (v,())) (.str ([39]++lk v.2.2++[39]),[]):=ziA (v:=v) u;refine zy (s:=.h13 [39] 0 (v,())) ?_ W ow rfl;simp only[Aq,Q8,h,D,B,C,z,F,if_true];rfl
  ·have F:(v.1==2)=Q4:=cd.2 S;obtain⟨T,Z⟩:=zbD E J O S;have I:ii v=if(v.2.1==1)=Q3 then H8 else H7:=by
    unfold ii;rw[B,if_neg sw,if_neg (by rw[z];simp),if_neg (by rw[F];simp),if_pos T,Z]
   rw[I];by_cases G:(v.2.1==1)=Q3
   ·rw[if_pos G];refine zM (r:=(.str H8,[])) ?_ rfl;simp only[Aq,Q8,h,D,B,C,z,F,G,if_true];rfl
   ·rw[if_neg G];refine zM (r:=(.str H7,[])) ?_ rfl;have G:(v.2.1==1)=Q4:=by simpa using G
    simp only[Aq,Q8,h,D,B,C,z,F,G,if_true];rfl
 ·have E:aU v=Q4:=by simpa using E
  refine zM (r:=(.str [],[])) ?_ ?_
  ·simp only[Aq,Q8,h,D,E,if_true];rfl
  ·unfold ii;rw[E];rfl
theorem Hw{v:Sem ze}(h:kd v):kC v=Q3:=by unfold kC;rw[Hx h];rfl
theorem Mn{v:Sem ze}(h:kd v):oG v=ii v:=by unfold oG;rw[Hx h];rfl
theorem rV:∀(N d M:Nat)(e:zf),d<=12->d<=N->d<=M->bE d e=Q3->tz e->cN N e=Q1 (aR M e,())/\(aR M e).length<=400*nE d e
 |_,0,_,_,_,_,_,h,_=>by cases h
 |0,d+1,_,_,_,h,_,_,_=>absurd h ow
 |_,d+1,0,_,_,_,h,_,_=>absurd h ow
 | N+1,d+1,M+1,e,h0,h1,h2,h,D=>by
  rw[cN];unfold QK;cases dr h with
  | lit v hv=>
   rw[tz]at D;have u:aR (M+1) (.mk kH v [] [])=ii v:=rfl;have X:=yR v;rw[u];refine⟨zM (r:=(.str (ii v),[])) ?_ rfl,by simp[nE];omega⟩;have o:(pg (λz=>iI (cN N z)) (λz=>(cN N z).isSome) (.mk kH v [] [])).val=if kC v=Q3 then Q1 (.inr (.str (oG v),[]))else Q2:=rfl
   rw[o,Hw D.1,Mn D.1];rfl
  | col s Y hr=>
   have X:=HW Y;have u:aR (M+1) (.mk cX (0,0,[]) s [])=s:=rfl;rw[u];exact⟨zM (r:=(.str s,[])) rfl rfl,by simp[nE];omega⟩
  | one E a O H=>
   rw[tz,kv]at D;obtain⟨I,la⟩:=rV N d M a ow ow ow H D.2.2.1;have S:=tf d a H;have p1:2^d<=2^12:=F3 ow ow;have T:nE (d+1) (.mk E (0,0,[]) [] [a])=1+nE d a:=by simp[nE]
   rw[T];generalize L:(λz=>iI (cN N z))=g;generalize J:(λz=>(cN N z).isSome)=c;have C:g a=aR M a:=by rw[<-L];show iI (cN N a)=_;rw[I];rfl
   have B:c a=Q3:=by rw[<-J];show(cN N a).isSome=_;rw[I];rfl
   rcases O with rfl|rfl
   ·have u:aR (M+1) (.mk mS (0,0,[]) [] [a])=uO++aR M a++[41]:=rfl;rw[u];refine⟨zM (r:=(.str (uO++aR M a++[41]),[])) ?_ rfl,sg⟩;have o:(pg g c (.mk mS (0,0,[]) [] [a])).val=if c (zm a)=Q3 then(ite (Q0 (Io uO+Io (g (zm a))<=1099511627776)=Q3) (ite (Q0 ((uO++g (zm a)).length+[41].length<=1099511627776)=Q3) (Q1 (.inr (.str (uO++g (zm a)++[41]),[]))) Q2) Q2)else Q2:=rfl
    rw[o,zk,B,C,if_pos rfl,if_pos (zx sg),if_pos (zx sg)]
   ·have u:aR (M+1) (.mk pb (0,0,[]) [] [a])=[40]++aR M a++Cw:=rfl;rw[u];refine⟨zM (r:=(.str ([40]++aR M a++Cw),[])) ?_ rfl,sg⟩;have o:(pg g c (.mk pb (0,0,[]) [] [a])).val=if c (zm a)=Q3 then(ite (Q0 ([40].length+Io (g (zm a))<=1099511627776)=Q3) (ite (Q0 (([40]++g (zm a)).length+Io Cw<=1099511627776)=Q3) (Q1 (.inr (.str ([40]++g (zm a)++Cw),[]))) Q2) Q2)else Q2:=rfl
    rw[o,zk,B,C,if_pos rfl,if_pos (zx sg),if_pos (zx sg)]
  | two E a b O H S=>
   rw[tz,kv,kv]at D;obtain⟨I,la⟩:=rV N d M a ow ow ow H D.2.2.1;obtain⟨kb,lb⟩:=rV N d M b ow ow ow S D.2.2.2.1;have U:=tf d a H;have W:=tf d b S;have p1:2^d<=2^12:=F3 ow ow;have T:nE (d+1) (.mk E (0,0,[]) [] [a,b])=1+(nE d a+nE d b):=by simp[nE]
   rw[T];generalize L:(λz=>iI (cN N z))=g;generalize J:(λz=>(cN N z).isSome)=c;have C:g a=aR M a:=by rw[<-L];show iI (cN N a)=_;rw[I];rfl
   have B:c a=Q3:=by rw[<-J];show(cN N a).isSome=_;rw[I];rfl
   have G:g b=aR M b:=by rw[<-L];show iI (cN N b)=_;rw[kb];rfl
   have F:c b=Q3:=by rw[<-J];show(cN N b).isSome=_;rw[kb];rfl
   have u:∀w:zD,Lib.toUpperA E=w->tO (aR M) (gL M) (.mk E (0,0,[]) [] [a,b])=[40]++aR M a++[32]++w++[32]++aR M b++[41]:=by
    rintro w rfl;rcases O with rfl|rfl|rfl|rfl|rfl|rfl<;>rfl
   have Z:aR (M+1) (.mk E (0,0,[]) [] [a,b])=tO (aR M) (gL M) (.mk E (0,0,[]) [] [a,b]):=rfl;rw[Z];rcases O with rfl|rfl|rfl|rfl|rfl|rfl
   ·rw[u Uh rfl];refine⟨zM (r:=(.str ([40]++aR M a++Nt++aR M b++[41]),[])) ?_ (by simp[aI];rfl),sg⟩;have o:(pg g c (.mk em (0,0,[]) [] [a,b])).val=if c (zm a)=Q3 then(ite (Q0 ([40].length+Io (g (zm a))<=1099511627776)=Q3) (ite (Q0 (([40]++g (zm a)).length+Io Nt<=1099511627776)=Q3) (ite (c (zm b)=Q3) (ite (Q0 (([40]++g (zm a)++Nt).length+Io (g (zm b))<=1099511627776)=Q3) (ite (Q0 (([40]++g (zm a)++Nt++g (zm b)).length+[41].length<=1099511627776)=Q3) (Q1 (.inr (.str ([40]++g (zm a)++Nt++g (zm b)++[41]),[]))) Q2) Q2) Q2) Q2) Q2)else Q2:=rfl
    rw[o,zk,zk,B,F,C,G,if_pos rfl,if_pos (zx sg),if_pos (zx sg),if_pos rfl,if_pos (zx sg),if_pos (zx sg)]
   ·rw[u [79,82] rfl];refine⟨zM (r:=(.str ([40]++aR M a++Nu++aR M b++[41]),[])) ?_ (by simp[aI];rfl),sg⟩;have o:(pg g c (.mk uQ (0,0,[]) [] [a,b])).val=if c (zm a)=Q3 then(ite (Q0 ([40].length+Io (g (zm a))<=1099511627776)=Q3) (ite (Q0 (([40]++g (zm a)).length+Io Nu<=1099511627776)=Q3) (ite (c (zm b)=Q3) (ite (Q0 (([40]++g (zm a)++Nu).length+Io (g (zm b))<=1099511627776)=Q3) (ite (Q0 (([40]++g (zm a)++Nu++g (zm b)).length+[41].length<=1099511627776)=Q3) (Q1 (.inr (.str ([40]++g (zm a)++Nu++g (zm b)++[41]),[]))) Q2) Q2) Q2) Q2) Q2)else Q2:=rfl
    rw[o,zk,zk,B,F,C,G,if_pos rfl,if_pos (zx sg),if_pos (zx sg),if_pos rfl,if_pos (zx sg),if_pos (zx sg)]
   ·rw[u [61] rfl];refine⟨zM (r:=(.str ([40]++aR M a++[32]++[61]++[32]++aR M b++[41]),[])) ?_ rfl,sg⟩;have o:(pg g c (.mk [61] (0,0,[]) [] [a,b])).val=if c (zm a)=Q3 then(ite (Q0 ([40].length+Io (g (zm a))<=1099511627776)=Q3) (ite (Q0 (([40]++g (zm a)).length+[32].length<=1099511627776)=Q3) (ite (Q0 (([40]++g (zm a)++[32]).length+Io [61]<=1099511627776)=Q3) (ite (Q0 (([40]++g (zm a)++[32]++[61]).length+[32].length<=1099511627776)=Q3) (ite (c (zm b)=Q3) (ite (Q0 (([40]++g (zm a)++[32]++[61]++[32]).length+Io (g (zm b))<=1099511627776)=Q3) (ite (Q0 (([40]++g (zm a)++[32]++[61]++[32]++g (zm b)).length+[41].length<=1099511627776)=Q3) (Q1 (.inr (.str ([40]++g (zm a)++[32]++[61]++[32]++g (zm b)++[41]),[]))) Q2) Q2) Q2) Q2) Q2) Q2) Q2)else Q2:=rfl
    rw[o,zk,zk,B,F,C,G,if_pos rfl,if_pos (zx sg),if_pos (zx sg),if_pos (zx sg),if_pos (zx sg),if_pos rfl,if_pos (zx sg),if_pos (zx sg)]
   ·rw[u [60] rfl];refine⟨zM (r:=(.str ([40]++aR M a++[32]++[60]++[32]++aR M b++[41]),[])) ?_ rfl,sg⟩;have o:(pg g c (.mk [60] (0,0,[]) [] [a,b])).val=if c (zm a)=Q3 then(ite (Q0 ([40].length+Io (g (zm a))<=1099511627776)=Q3) (ite (Q0 (([40]++g (zm a)).length+[32].length<=1099511627776)=Q3) (ite (Q0 (([40]++g (zm a)++[32]).length+Io [60]<=1099511627776)=Q3) (ite (Q0 (([40]++g (zm a)++[32]++[60]).length+[32].length<=1099511627776)=Q3) (ite (c (zm b)=Q3) (ite (Q0 (([40]++g (zm a)++[32]++[60]++[32]).length+Io (g (zm b))<=1099511627776)=Q3) (ite (Q0 (([40]++g (zm a)++[32]++[60]++[32]++g (zm b)).length+[41].length<=1099511627776)=Q3) (Q1 (.inr (.str ([40]++g (zm a)++[32]++[60]++[32]++g (zm b)++[41]),[]))) Q2) Q2) Q2) Q2) Q2) Q2) Q2)else Q2:=rfl
    rw[o,zk,zk,B,F,C,G,if_pos rfl,if_pos (zx sg),if_pos (zx sg),if_pos (zx sg),if_pos (zx sg),if_pos rfl,if_pos (zx sg),if_pos (zx sg)]
   ·rw[u [43] rfl];refine⟨zM (r:=(.str ([40]++aR M a++[32]++[43]++[32]++aR M b++[41]),[])) ?_ rfl,sg⟩;have o:(pg g c (.mk [43] (0,0,[]) [] [a,b])).val=if c (zm a)=Q3 then(ite (Q0 ([40].length+Io (g (zm a))<=1099511627776)=Q3) (ite (Q0 (([40]++g (zm a)).length+[32].length<=1099511627776)=Q3) (ite (Q0 (([40]++g (zm a)++[32]).length+Io [43]<=1099511627776)=Q3) (ite (Q0 (([40]++g (zm a)++[32]++[43]).length+[32].length<=1099511627776)=Q3) (ite (c (zm b)=Q3) (ite (Q0 (([40]++g (zm a)++[32]++[43]++[32]).length+Io (g (zm b))<=1099511627776)=Q3) (ite (Q0 (([40]++g (zm a)++[32]++[43]++[32]++g (zm b)).length+[41].length<=1099511627776)=Q3) (Q1 (.inr (.str ([40]++g (zm a)++[32]++[43]++[32]++g (zm b)++[41]),[]))) Q2) Q2) Q2) Q2) Q2) Q2) Q2)else Q2:=rfl
    rw[o,zk,zk,B,F,C,G,if_pos rfl,if_pos (zx sg),if_pos (zx sg),if_pos (zx sg),if_pos (zx sg),if_pos rfl,if_pos (zx sg),if_pos (zx sg)]
   ·rw[u [45] rfl];refine⟨zM (r:=(.str ([40]++aR M a++[32]++[45]++[32]++aR M b++[41]),[])) ?_ rfl,sg⟩;have o:(pg g c (.mk [45] (0,0,[]) [] [a,b])).val=if c (zm a)=Q3 then(ite (Q0 ([40].length+Io (g (zm a))<=1099511627776)=Q3) (ite (Q0 (([40]++g (zm a)).length+[32].length<=1099511627776)=Q3) (ite (Q0 (([40]++g (zm a)++[32]).length+Io [45]<=1099511627776)=Q3) (ite (Q0 (([40]++g (zm a)++[32]++[45]).length+[32].length<=1099511627776)=Q3) (ite (c (zm b)=Q3) (ite (Q0 (([40]++g (zm a)++[32]++[45]++[32]).length+Io (g (zm b))<=1099511627776)=Q3) (ite (Q0 (([40]++g (zm a)++[32]++[45]++[32]++g (zm b)).length+[41].length<=1099511627776)=Q3) (Q1 (.inr (.str ([40]++g (zm a)++[32]++[45]++[32]++g (zm b)++[41]),[]))) Q2) Q2) Q2) Q2) Q2) Q2) Q2)else Q2:=rfl
    rw[o,zk,zk,B,F,C,G,if_pos rfl,if_pos (zx sg),if_pos (zx sg),if_pos (zx sg),if_pos (zx sg),if_pos rfl,if_pos (zx sg),if_pos (zx sg)]
section
variable {σ:Type} {t:σ->Tr (σ⊕aw)}
abbrev HI:aw:=(.kb Q4,[])
theorem NQ{α:Type}{la lb:List α}(st:Nat->σ)(C:Io la=Io lb)(E:∀i(F:i<Io la)(B:i<Io lb),(la[i]=lb[i]->(t (st i)).val=Q1 (.inl (st (i+1))))/\(la[i]≠lb[i]->(t (st i)).val=Q1 (.inr HI))):
  (la=lb/\zL t (Io la) (st 0) (st (Io la)))\/(la≠lb/\zV t (Io la) (st 0) HI):=by
 rcases mI (t:=t) (Φ:=λr=>r=HI) 1 st (λi=>la[i]?=lb[i]?) (Io la) (λi z _=>by
  have B:i<Io lb:=by omega
  obtain⟨u,o⟩:=E i z B;rw[zU z,zU B];by_cases h:la[i]=lb[i]
  ·exact .inl ⟨by rw[h],zL.of (u h)⟩
  ·exact .inr ⟨λD=>h (Option.some.inj D),HI,zV.of (o h),rfl⟩)with⟨u,o⟩|⟨u,r,o,rfl⟩
 ·rw[Nat.mul_one]at o;refine .inl ⟨Cl λi=>?_,o⟩;by_cases z:i<Io la
  ·exact u i z
  ·rw[eC ow,eC ow]
 ·rw[Nat.mul_one]at o;exact .inr ⟨λh=>u λi _=>by rw[h],o⟩
end
theorem jC{α:Type}{a b:List α}:((Io a:Int)!=(Io b:Int))=Q3↔Io a≠Io b:=by
 simp[bne];omega
theorem Eg:∀(N:Nat)(a b:zf),sG N a=Q3->∃r,bS N a b=Q1 (r,())/\(r=Q3↔a=b)
 |0,_,_,h=>by cases h
 | N + 1,.mk C v s l,.mk o B E D,h=>by
  rw[sG]at h;simp only[aE,aQ,ep]at h;obtain⟨hl,Z⟩:=h;rw[bS];unfold Jc
  have O:(Ds (λu z=>gP (bS N u z)) (λu z=>(bS N u z).isSome) (.mk C v s l) (.mk o B E D)).val=Q1 (.inr HI)->¬(zf.mk C v s l=zf.mk o B E D)->
    ∃r,al [Q7] (J6 (λu z=>gP (bS N u z)) (λu z=>(bS N u z).isSome)) 3000000000 (Ds (λu z=>gP (bS N u z)) (λu z=>(bS N u z).isSome) (.mk C v s l) (.mk o B E D))=Q1 (r,())/\(r=Q3↔zf.mk C v s l=zf.mk o B E D):=by
   intro I W;exact⟨Q4,zM I rfl,by simp[W]⟩
  have G:∀c:Bool,(cond (!C==o) Q3 (cond (!(v.1==B.1&&(v.2.1==B.2.1&&(v.2.2==B.2.2&&Q3)))) Q3 (cond (!s==E) Q3 ((↑l.length:Int)!=(↑D.length:Int)))))=c->
    (Ds (λu z=>gP (bS N u z)) (λu z=>(bS N u z).isSome) (.mk C v s l) (.mk o B E D)).val=if c=Q3 then Q1 (.inr HI)else Q1 (.inl (.h4 ((0:Nat):Int) (.mk C v s l,()) (.mk o B E D,()))):=by
   rintro c rfl;rfl
  by_cases S:C=o;rotate_left
  ·exact O (by rw[G Q3 (by rw[cd.2 S];rfl)];rfl) (λh=>S (by injection h))
  by_cases T:v=B;rotate_left
  ·refine O ?_ (λh=>T (by injection h));rw[G Q3 ?_]
   ·rfl
   ·have:(v.1==B.1&&(v.2.1==B.2.1&&(v.2.2==B.2.2&&Q3)))=Q4:=by
     rw[<-g8];intro h;simp at h;exact T (Prod.ext h.1 (Prod.ext h.2.1 h.2.2))
    rw[this];cases(C==o)<;>rfl
  by_cases U:s=E;rotate_left
  ·refine O ?_ (λh=>U (by injection h));rw[G Q3 ?_]
   ·rfl
   ·rw[cd.2 U];cases(C==o)<;>cases(v.1==B.1&&(v.2.1==B.2.1&&(v.2.2==B.2.2&&Q3)))<;>rfl
  by_cases L:Io l=Io D;rotate_left
  ·refine O ?_ (λh=>L (by injection h with _ _ _ h;rw[h]));rw[G Q3 ?_]
   ·rfl
   ·rw[jC.2 L];cases(C==o)<;>cases(v.1==B.1&&(v.2.1==B.2.1&&(v.2.2==B.2.2&&Q3)))<;>cases(s==E)<;>rfl
  subst S;subst T;subst U;have I:=G Q4 (by
   have:((↑l.length:Int)!=(↑D.length:Int))=Q4:=by rw[<-g8,jC];exact λh=>h L
   rw[this];simp)
  rw[if_neg sw]at I
  rcases NQ (t:=J6 (λu z=>gP (bS N u z)) (λu z=>(bS N u z).isSome)) (la:=l) (lb:=D) (λi=>.h4 (i:Int) (.mk C v s l,()) (.mk C v s D,())) L (by
   intro i M H;obtain⟨r,hr,F⟩:=Eg N l[i] D[i] (Z _ (aK M));have X:getD l (i:Int).toNat (zi Q5)=l[i]:=zH _ _ M;have Y:getD D (i:Int).toNat (zi Q5)=D[i]:=zH _ _ H;have J:(J6 (λu z=>gP (bS N u z)) (λu z=>(bS N u z).isSome) (.h4 (i:Int) (.mk C v s l,()) (.mk C v s D,()))).val=if(!r)=Q3 then Q1 (.inr HI)else Q1 (.inl (.h4 ((i+1:Nat):Int) (.mk C v s l,()) (.mk C v s D,()))):=by
    simp only[J6,J7,B5,Q8,zf.l,zk,X,Y,zt M,zt H,hr,F5,if_true];rw[zr i um];show(ite (Q0 ((i:Int)<(Io l:Int))=Q3) _ _)=_;rw[if_pos (zx ow)];rfl
   rw[J];refine⟨λh=>?_,λh=>?_⟩
   ·rw[if_neg (by rw[F.2 h];simp)]
   ·rw[if_pos];cases r
    ·rfl
    ·exact absurd (F.1 rfl) h)with⟨h1,h2⟩|⟨h1,h2⟩
  ·subst h1;refine⟨Q3,zy I (h2.ends (zV.of (r:=(.kb Q3,[])) ?_)) ow rfl,sw⟩;simp only[J6,J7,B5,Q8,zf.l];exact if_neg sw
  ·exact⟨Q4,zy I h2 ow rfl,by simp[h1]⟩
theorem rT{a b:zf}(h:sG 16 a=Q3):gO a b=Q3/\(ft a b=Q3↔a=b):=by
 obtain⟨r,o,u⟩:=Eg 16 a b h;have o:BE a b=Q1 (r,()):=o;refine⟨by unfold gO;rw[o];rfl,?_⟩;have:ft a b=r:=by unfold ft;rw[o];rfl
 rw[this];exact u
section
variable {σ:Type} {t:σ->Tr (σ⊕aw)}
def TJ(t:σ->Tr (σ⊕aw))(K:Nat)(o:σ⊕aw)(r:aw):Prop:=match o with
 |.inl h=>zV t K h r
 |.inr u=>u=r
theorem md{α:Type}{la lb:List α}(st:Int->σ)(G:σ⊕aw)(e:Nat->Bool)(o:∀i:Nat,i<=Io la->(t (st i)).val=if Q0 (LT.lt (α:=Int) (i:Int) (Io la:Int))=Q3 then(ite (zJ (i:Int) (Io la)=Q3) (ite (zJ (i:Int) (Io lb)=Q3) (ite ((!e i)=Q3) (Q1 (.inr HI)) (Q1 (.inl (st (Γ Δ ((i:Int)+1)))))) Q2) Q2)else Q1 G)
  (H:∀i(_:i<Io la)(C:i<Io la)(E:i<Io lb),e i=Q3↔la[i]=lb[i]) (z:Io la=Io lb) (J:Io la<=1000000):
  (la=lb/\∀K r,TJ t K G r->zV t (K+Io la+1) (st 0) r)\/(la≠lb/\zV t (Io la) (st 0) HI):=by
 rcases NQ (t:=t) (la:=la) (lb:=lb) (λi=>st (i:Int)) z (λi C E=>by
  have u:=o i ow;rw[if_pos (zx ow),if_pos (zt C),if_pos (zt E),zr i um]at u;have:=H i C C E;refine⟨λh=>?_,λh=>?_⟩
  ·rw[u,if_neg (by rw[this.2 h];simp)]
  ·rw[u,if_pos];cases I:e i
   ·rfl
   ·exact absurd (this.1 I) h)with⟨D,B⟩|⟨D,B⟩
 ·refine .inl ⟨D,λK r F=>?_⟩;have u:=o (Io la) (ae _);rw[if_neg sw]at u;unfold TJ at F;cases G with
  |inl h=>exact(B.ends ((zL.of u).ends F)).mono ow
  |inr L=>cases F;exact(B.ends (zV.of u)).mono ow
 ·exact .inr ⟨D,B⟩
end
theorem Uq(a b:Sem zj):(a.1==b.1&&(a.2.1==b.2.1&&(a.2.2==b.2.2&&Q3)))=Q3↔a=b:=by
 simp[Prod.ext_iff]
theorem zpG(a b:Sem jb):(a.1==b.1&&(a.2==b.2&&Q3))=Q3↔a=b:=by
 simp[Prod.ext_iff]
theorem zg2(a b:Sem zp):(a.1==b.1&&(a.2==b.2&&Q3))=Q3↔a=b:=by
 simp[Prod.ext_iff]
theorem ziM(a b:Sem ze):(a.1==b.1&&(a.2.1==b.2.1&&(a.2.2==b.2.2&&Q3)))=Q3↔a=b:=by
 simp[Prod.ext_iff]
theorem Xj{x y:Bool}(h:(cond x Q3 y)=Q4):x=Q4/\y=Q4:=by
 cases x
 ·exact⟨rfl,h⟩
 ·cases h
theorem WL{α:Type}[BEq α][LawfulBEq α]{a b:α}(h:(!a==b)=Q4):a=b:=by
 cases o:(a==b)
 ·rw[o]at h;cases h
 ·simpa using o
theorem SS{α:Type}{a b:List α}(h:((↑(Io a):Int)!=(↑(Io b):Int))=Q4):Io a=Io b:=by
 simp[bne]at h;omega
structure B8 (a:Sem zn):Prop where
 names:Io a.2.2.2.1<=1000
 cols:Io a.t.1<=1000
 uniques:Io a.t.q.1<=1000
 refs:Io a.t.q.2.1<=1000
 row:Io a.t.t.2.1<=1000
 sets:Io a.t.t.q.1<=1000
 chk:sG 16 a.t.t.1=Q3
 whr:sG 16 a.t.t.q.2.1=Q3
 ex:∀x∈a.t.t.q.1,sG 16 (x:Sem ig).2=Q3
theorem OO{a b:Sem zn}(h:B8 a):∃r,sb a b=Q1 (r,())/\(r=Q3↔a=b):=by
 obtain⟨a1,a2,a3,a4,T,a6,a7,X,a9,z,o,J,L⟩:=a;obtain⟨b1,b2,b3,b4,Y,b6,b7,b8,b9,F,u,M,O⟩:=b;obtain⟨h4,h5,h7,h8,x1,x2,h9,x6,hx⟩:=h;have h4:Io a4<=1000:=h4;have h5:Io T<=1000:=h5;have h7:Io a7<=1000:=h7;have h8:Io X<=1000:=h8;have x1:Io z<=1000:=x1;have x2:Io o<=1000:=x2;have hx:∀x∈o,sG 16 (x:Sem ig).2=Q3:=hx;obtain⟨s1,s2⟩:=rT (b:=b9) (show sG 16 a9=Q3 from h9);obtain⟨u1,u2⟩:=rT (b:=M) (show sG 16 J=Q3 from x6);generalize C:((a1,a2,a3,a4,T,a6,a7,X,a9,z,o,J,L):Sem zn)=A;generalize D:((b1,b2,b3,b4,Y,b6,b7,b8,b9,F,u,M,O):Sem zn)=B;have x7:∀r:aw,∀{k s},(zaS A B).val=Q1 (.inl s)->A≠B->zV uB k s HI->k<=100000000->∃r,sb A B=Q1 (r,())/\(r=Q3↔A=B):=by
  intro _ k s h1 h h2 h3;exact⟨Q4,zy h1 h2 h3 rfl,by simp[h]⟩
 have hv:∀c d:Bool,(cond (!a1==b1) Q3 (cond (!a2==b2) Q3 (cond (!a3==b3) Q3 (cond (!a6==b6) Q3 (cond (!L==O) Q3 (cond (!ft a9 b9) Q3 (!ft J M)))))))=c->
   (cond ((↑(Io a4):Int)!=(↑(Io b4):Int)) Q3 (cond ((↑(Io T):Int)!=(↑(Io Y):Int)) Q3 (cond ((↑(Io a7):Int)!=(↑(Io b7):Int)) Q3 (cond ((↑(Io X):Int)!=(↑(Io b8):Int)) Q3 (cond ((↑(Io z):Int)!=(↑(Io F):Int)) Q3 ((↑(Io o):Int)!=(↑(Io u):Int)))))))=d->
   (zaS A B).val=if c=Q3 then Q1 (.inr HI)else if d=Q3 then Q1 (.inr HI)else Q1 (.inl (.h6 0 (A,()) (B,()))):=by
  rintro c d rfl rfl;subst C;subst D;have hg:∀x:Bool,(cond (!a1==b1) Q3 (cond (!a2==b2) Q3 (cond (!a3==b3) Q3 (cond (!a6==b6) Q3 (cond (!L==O) Q3 (gO a9 b9&&bif x then Q3 else gO J M))))))=Q3:=by
   intro x;rw[s1,u1];cases(!a1==b1)<;>cases(!a2==b2)<;>cases(!a3==b3)<;>cases(!a6==b6)<;>cases(!L==O)<;>cases x<;>rfl
  simp only[zaS,Q8,zk];rw[if_pos (hg _)]
 cases E:(cond (!a1==b1) Q3 (cond (!a2==b2) Q3 (cond (!a3==b3) Q3 (cond (!a6==b6) Q3 (cond (!L==O) Q3 (cond (!ft a9 b9) Q3 (!ft J M)))))));rotate_left
 ·refine⟨Q4,zM (r:=HI) (by rw[hv Q3 _ E rfl];rfl) rfl,?_⟩;constructor
  ·intro h;cases h
  ·intro h;rw[<-C,<-D]at h;simp only[cF]at h;obtain⟨rfl,rfl,rfl,rfl,rfl,rfl,rfl,rfl,rfl,rfl,rfl,rfl,rfl⟩:=h;have k1:=s2.2 rfl;have k2:=u2.2 rfl;rw[k1,k2]at E;simp at E
 cases I:(cond ((↑(Io a4):Int)!=(↑(Io b4):Int)) Q3 (cond ((↑(Io T):Int)!=(↑(Io Y):Int)) Q3 (cond ((↑(Io a7):Int)!=(↑(Io b7):Int)) Q3 (cond ((↑(Io X):Int)!=(↑(Io b8):Int)) Q3 (cond ((↑(Io z):Int)!=(↑(Io F):Int)) Q3 ((↑(Io o):Int)!=(↑(Io u):Int)))))));rotate_left
 ·refine⟨Q4,zM (r:=HI) (by rw[hv Q4 Q3 E I];rfl) rfl,?_⟩;constructor
  ·intro h;cases h
  ·intro h;rw[<-C,<-D]at h;simp only[cF]at h;obtain⟨rfl,rfl,rfl,rfl,rfl,rfl,rfl,rfl,rfl,rfl,rfl,rfl,rfl⟩:=h;simp at I
 have hi:=hv Q4 Q4 E I;rw[if_neg sw,if_neg sw]at hi;obtain⟨m1,E⟩:=Xj E;obtain⟨m2,E⟩:=Xj E;obtain⟨m3,E⟩:=Xj E;obtain⟨m6,E⟩:=Xj E;obtain⟨a0,E⟩:=Xj E;obtain⟨m9,x9⟩:=Xj E;obtain⟨n4,I⟩:=Xj I;obtain⟨n5,I⟩:=Xj I;obtain⟨n7,I⟩:=Xj I;obtain⟨n8,I⟩:=Xj I;obtain⟨i0,i1⟩:=Xj I;have e1:=WL m1;have e2:=WL m2;have e3:=WL m3;have e6:=WL m6;have x5:=WL a0;have e9:=s2.1 (by simpa using m9);have x4:=u2.1 (by simpa using x9);subst e1;subst e2;subst e3;subst e6;subst x5;subst e9;subst x4;have no:∀{k},A≠B->zV uB k (.h6 0 (A,()) (B,())) HI->k<=100000000->∃r,sb A B=Q1 (r,())/\(r=Q3↔A=B):=λh1 h2 h3=>x7 HI hi h1 h2 h3
 rcases md (t:=uB) (la:=a4) (lb:=b4) (λi=>.h6 i (A,()) (B,())) (.inl (.h11 0 (A,()) (B,()))) (λi=>getD a4 (i:Int).toNat (zi Q6)==getD b4 (i:Int).toNat (zi Q6)) (λ_ _=>by subst C;subst D;rfl) (λi _ G H=>by rw[bh,zH _ _ G,zH _ _ H]) (SS n4) ow with⟨q4,W⟩|⟨q4,W⟩;rotate_left
 ·exact no (λh=>q4 (by rw[<-C,<-D]at h;simp only[cF]at h;exact h.2.2.2.1)) W ow
 rcases md (t:=uB) (la:=T) (lb:=Y) (λi=>.h11 i (A,()) (B,())) (.inl (.h16 0 (A,()) (B,()))) (λi=>((getD T (i:Int).toNat (zi zj)).1==(getD Y (i:Int).toNat (zi zj)).1&&((getD T (i:Int).toNat (zi zj)).2.1==(getD Y (i:Int).toNat (zi zj)).2.1&&((getD T (i:Int).toNat (zi zj)).2.2==(getD Y (i:Int).toNat (zi zj)).2.2&&Q3)))) (λ_ _=>by subst C;subst D;rfl) (λi _ G H=>by rw[Uq,zH _ _ G,zH _ _ H]) (SS n5) ow with⟨q5,k5⟩|⟨q5,k5⟩;rotate_left
 ·exact no (λh=>q5 (by rw[<-C,<-D]at h;simp only[cF]at h;exact h.t.1)) (W _ _ k5) ow
 rcases md (t:=uB) (la:=a7) (lb:=b7) (λi=>.h16 i (A,()) (B,())) (.inl (.h21 0 (A,()) (B,()))) (λi=>getD a7 (i:Int).toNat (zi Q6)==getD b7 (i:Int).toNat (zi Q6)) (λ_ _=>by subst C;subst D;rfl) (λi _ G H=>by rw[bh,zH _ _ G,zH _ _ H]) (SS n7) ow with⟨q7,k7⟩|⟨q7,k7⟩;rotate_left
 ·exact no (λh=>q7 (by rw[<-C,<-D]at h;simp only[cF]at h;exact h.t.q.1)) (W _ _ (k5 _ _ k7)) ow
 rcases md (t:=uB) (la:=X) (lb:=b8) (λi=>.h21 i (A,()) (B,())) (.inl (.h26 0 (A,()) (B,()))) (λi=>((getD X (i:Int).toNat (zi jb)).1==(getD b8 (i:Int).toNat (zi jb)).1&&((getD X (i:Int).toNat (zi jb)).2==(getD b8 (i:Int).toNat (zi jb)).2&&Q3))) (λ_ _=>by subst C;subst D;rfl) (λi _ G H=>by rw[zpG,zH _ _ G,zH _ _ H]) (SS n8) ow with⟨q8,k8⟩|⟨q8,k8⟩;rotate_left
 ·exact no (λh=>q8 (by rw[<-C,<-D]at h;simp only[cF]at h;exact h.t.q.2.1)) (W _ _ (k5 _ _ (k7 _ _ k8))) ow
 rcases md (t:=uB) (la:=z) (lb:=F) (λi=>.h26 i (A,()) (B,())) (.inl (.h31 0 (A,()) (B,()))) (λi=>((getD z (i:Int).toNat (zi ze)).1==(getD F (i:Int).toNat (zi ze)).1&&((getD z (i:Int).toNat (zi ze)).2.1==(getD F (i:Int).toNat (zi ze)).2.1&&((getD z (i:Int).toNat (zi ze)).2.2==(getD F (i:Int).toNat (zi ze)).2.2&&Q3)))) (λ_ _=>by subst C;subst D;rfl) (λi _ G H=>by rw[ziM,zH _ _ G,zH _ _ H]) (SS i0) ow with⟨h0,S⟩|⟨h0,S⟩;rotate_left
 ·exact no (λh=>h0 (by rw[<-C,<-D]at h;simp only[cF]at h;exact h.t.t.2.1)) (W _ _ (k5 _ _ (k7 _ _ (k8 _ _ S)))) ow
 have x8:=SS i1
 rcases NQ (t:=uB) (la:=o) (lb:=u) (λi=>.h31 (i:Int) (A,()) (B,())) x8 (λi G H=>by
  obtain⟨w1,w2⟩:=rT (a:=o[i].2) (b:=u[i].2) (hx _ (aK G));have U:(uB (.h31 (i:Int) (A,()) (B,()))).val=if(cond (!o[i].1==u[i].1) Q3 (!ft o[i].2 u[i].2))=Q3 then Q1 (.inr HI)else Q1 (.inl (.h31 ((i+1:Nat):Int) (A,()) (B,()))):=by
   subst C;subst D;show(uB (.h31 _ _ _)).val=_;simp only[uB,Q8,zk,zH _ _ G,zH _ _ H,zF G,zt G,zt H,w1,if_true,dV];rw[zr i um];cases(!o[i].1==u[i].1)<;>rfl
  refine⟨λh=>?_,λh=>?_⟩
  ·have k:=w2.2 (by rw[h]);rw[U,if_neg (by rw[k,h];simp)]
  ·rw[U,if_pos];cases hh:(o[i].1==u[i].1)
   ·rfl
   ·cases hw:ft o[i].2 u[i].2
    ·rfl
    ·exact absurd (Prod.ext (by simpa using hh) (w2.1 hw)) h)with⟨x0,Z⟩|⟨x0,Z⟩
 rotate_left
 ·exact no (λh=>x0 (by rw[<-C,<-D]at h;simp only[cF]at h;exact h.t.t.q.1)) (W _ _ (k5 _ _ (k7 _ _ (k8 _ _ (S _ _ Z))))) ow
 have x3:(uB (.h31 (Io o:Int) (A,()) (B,()))).val=Q1 (.inr (.kb Q3,[])):=by
  subst C;subst D;show(uB (.h31 _ _ _)).val=_;simp only[uB,Q8,zB];rfl
 refine⟨Q3,zy hi (W _ _ (k5 _ _ (k7 _ _ (k8 _ _ (S _ _ (Z.ends (zV.of x3))))))) ow rfl,?_⟩;subst q4;subst q5;subst q7;subst q8;subst h0;subst x0;rw[<-C,<-D];simp
theorem sc{a b:Sem zn}(h:B8 a):BP a b=Q3/\(fu a b=Q3↔a=b):=by
 obtain⟨r,o,u⟩:=OO (b:=b) h;refine⟨by unfold BP;rw[o];rfl,?_⟩;have:fu a b=r:=by unfold fu;rw[o];rfl
 rw[this];exact u
theorem kJ{e:zf}:g9 e=Q3↔e=.mk [] (0,0,[]) [] []:=by
 obtain⟨B,⟨k,i,t⟩,s,l⟩:=e;unfold g9;show(cond (B==[]) (cond (k==0&&(i==0&&(t==[]&&Q3))) (cond (s==[]) ((↑l.length:Int)==0) Q4) Q4) Q4)=Q3↔_;simp only[zf.mk.injEq,cF];constructor
 ·intro h;obtain⟨o,h⟩:=ck h;obtain⟨u,h⟩:=ck h;obtain⟨z,h⟩:=ck h;simp at o u z h;exact⟨o,u,z,h⟩
 ·rintro⟨rfl,⟨rfl,rfl,rfl⟩,rfl,rfl⟩;rfl
theorem UL{e:zf}(h:cG e=Q3):(e.op==[])=Q4:=by
 have f:=dr (ji h);clear h;cases f with
 |lit v E=>rfl
 |col s D C=>rfl
 |one z a o u=>rcases o with rfl|rfl<;>rfl
 |two z a b o u B=>rcases o with rfl|rfl|rfl|rfl|rfl|rfl<;>rfl
theorem UM{e:zf}(h:cG e=Q3):nE 12 e<=60:=by
 rw[xu]at h;by_cases k:nE 12 e<=60
 ·exact k
 ·exfalso;rw[aq k]at h;cases bE 12 e<;>simp at h
theorem Mp{e:zf}(u:tz e)(h:cG e=Q3):rU e=Q3/\qD e=aR 16 e/\(aR 16 e).length<=24000:=by
 obtain⟨o,z⟩:=rV 16 12 16 e ow ow ow (ji h) u;have o:Jd e=Q1 (aR 16 e,()):=o;have B:=UM h;refine⟨by unfold rU;rw[o];rfl,by unfold qD;rw[o];rfl,ow⟩
def pS(w:zD)(e:zf):zD:=if(e.op==[])=Q3 then[]else if cG e=Q3 then(ite ((w==gE)=Q3) (Z5++aR 16 e) (w++Z2++aR 16 e++iv))else[]
theorem Ta{e:zf}(B:tz e)(F:sG 16 e=Q3){w:zD}(L:Io w<=1000):BQ e w=Q1 (pS w e,bW e,())/\(pS w e).length<=30000:=by
 unfold pS;by_cases u:(e.op==[])=Q3
 ·rw[if_pos u];obtain⟨I,J⟩:=rT (b:=.mk [] (0,0,[]) [] []) F;have z:cG e=Q4:=by
   cases h:cG e
   ·rfl
   ·rw[UL h]at u;cases u
  have G:ft e (.mk [] (0,0,[]) [] [])=bW e:=by
   unfold bW;rw[z];apply iY.2;rw[J,<-kJ];cases g9 e<;>simp
  refine⟨zM (r:=(.tup [.str [],.bool (bW e)],[])) ?_ rfl,sw⟩;simp only[Lw,Q8,zk,u,I,G,if_true]
 ·rw[if_neg u];have H:g9 e=Q4:=by
   cases h:g9 e
   ·rfl
   ·rw[kJ.1 h]at u;exact absurd rfl u
  have C:bW e=cG e:=by unfold bW;rw[H];rfl
  have u:(e.op==[])=Q4:=by simpa using u
  rw[C];by_cases z:cG e=Q3
  ·obtain⟨D,E,M⟩:=Mp B z;rw[if_pos z,z];by_cases o:(w==gE)=Q3
   ·rw[if_pos o];refine⟨zM (r:=(.tup [.str (Z5++aR 16 e),.kb Q3],[])) ?_ rfl,sg⟩;simp only[Lw,Q8,zk,u,nt B,rS B,z,o,D,E,if_true];rw[if_neg sw,if_neg sw,if_pos (zx sg)]
   ·rw[if_neg o];have o:(w==gE)=Q4:=by simpa using o
    refine⟨zM (r:=(.tup [.str (w++Z2++aR 16 e++iv),.kb Q3],[])) ?_ rfl,sg⟩;simp only[Lw,Q8,zk,u,nt B,rS B,z,o,D,E,if_true];rw[if_neg sw,if_neg sw,if_neg sw,if_pos (zx sg),if_pos (zx sg),if_pos (zx sg)]
  ·rw[if_neg z];have z:cG e=Q4:=by simpa using z
   rw[z];refine⟨zM (r:=(.tup [.str [],.kb Q4],[])) ?_ rfl,sw⟩;simp only[Lw,Q8,zk,u,nt B,rS B,z,if_true];rfl
theorem bn{e:zf}(B:tz e)(u:sG 16 e=Q3){w:zD}(z:Io w<=1000):wu e w=Q3/\Ey e w=(pS w e,bW e)/\(pS w e).length<=30000:=by
 obtain⟨h,o⟩:=Ta B u z;exact⟨by unfold wu;rw[h];rfl,by unfold Ey;rw[h];rfl,o⟩
theorem CG{e:zf}(h:bW e=Q3):lh [32] e=pS [] e:=by
 unfold lh pS;unfold bW at h;cases u:g9 e
 ·rw[u]at h;have o:cG e=Q3:=h;rw[if_neg sw,if_neg (by rw[UL o];simp),if_pos o];unfold iT om;rw[o];rfl
 ·rw[if_pos rfl];rw[kJ.1 u];rfl
theorem Hb(h x:zD):∀l:List zD,Lib.join (l++[x]) h=if l=[]then x else Lib.join l h++h++x
 |[]=>by rw[if_pos rfl];exact Lib.join_one x h
 |[a]=>by simp[Lib.join,List.intercalate,List.intersperse]
 | a::b::r=>by
  have u:=Hb h x (b::r);rw[if_neg sw]at u⊢;have o:∀(c:zD)(q:List zD),Lib.join (a::c::q) h=a++h++Lib.join (c::q) h:=λc q=>by simp[Lib.join,List.intercalate,List.intersperse]
  show Lib.join (a::b::(r++[x])) h=_;rw[o,o];rw[show b::(r++[x])=(b::r)++[x]from rfl,u];simp
theorem OR{l:List zD}(S:Io l<=100)(J:∀x∈l,Io x<=1000):∃t,wv l=Q1 (t,(Q0 (∀x∈l,zQ x=Q3)&&(Q0 (1<=Io l)&&Q0 (Io l<=8))),())/\Io t<=200000/\((∀x∈l,zQ x=Q3)->t=Lib.join l eZ):=by
 have E:∀i,i<=Io l->(Lib.join (l.take i) eZ).length<=110000:=by
  intro i o;have:=vD eZ 1000 (l.take i) (λx G=>J x (List.mem_of_mem_take G));have B:(l.take i).length<=100:=by simp;omega
  have O:=fH (1000+(eZ:zD).length) B;simp at this O⊢;omega
 have u:∀i(o:i<Io l),(EV (.h3 l (Lib.join (l.take i) eZ) (i:Int))).val=if zQ l[i]=Q3 then Q1 (.inl (.h3 l (Lib.join (l.take (i+1)) eZ) ((i+1:Nat):Int)))else Q1 (.inr (.tup [.str [],.kb Q4],[])):=by
  intro i o;have G:=J _ (aK o);have D:=E i ow;show(EV (.h3 _ _ _)).val=_;simp only[EV,Q8,zH _ _ o,zF o,zt o,bB (s:=l[i]) ow,fb (s:=l[i]) ow,if_true];rw[zr i um,zet o,Hb];by_cases z:zQ l[i]=Q3
  ·rw[if_neg (by rw[z];simp),if_pos z];by_cases I:i=0
   ·subst I;rw[if_neg sw,if_pos (zx (by simp[Lib.join_nil];omega)),if_pos sw];rfl
   ·rw[if_pos (zx ow),if_pos (zx sg),if_pos (zx sg),if_neg (by
     intro h;have:=congrArg Io h;simp at this;rcases this with h|h
     ·exact I h
     ·rw[h]at o;simp at o)]
  ·rw[if_pos (by simpa using z),if_neg z]
 rcases mI (t:=EV) (Φ:=λr=>r=(.tup [.str [],.kb Q4],[])) 1 (λi=>.h3 l (Lib.join (l.take i) eZ) (i:Int)) (λi=>∀h:i<Io l,zQ l[i]=Q3) (Io l) (λi o _=>by
  by_cases z:zQ l[i]=Q3
  ·exact .inl ⟨λ_=>z,zL.of (by rw[u i o,if_pos z])⟩
  ·exact .inr ⟨λh=>z (h o),_,zV.of (by rw[u i o,if_neg z]),rfl⟩)with⟨H,B⟩|⟨H,r,B,rfl⟩
 ·have C:∀x∈l,zQ x=Q3:=by
   intro x G;obtain⟨j,D,rfl⟩:=fz G;exact H j D D
  rw[fI]at B;have D:=E (Io l) (ae _);rw[fI]at D;refine⟨Lib.join l eZ,zy (s:=.h3 l [] 0) rfl (B.ends (zV.of (r:=(.tup [.str (Lib.join l eZ),.bool (cond (Q0 (1<=(↑l.length:Int))) (Q0 ((↑l.length:Int)<=8)) Q4)],[])) ?_)) ow ?_,ow,λ_=>rfl⟩
  ·show(EV (.h3 _ _ _)).val=_;simp only[EV,Q8,zB];cases Q0 (1<=(↑l.length:Int))<;>rfl
  ·rw[zx C];have L:Q0 (1<=(↑l.length:Int))=Q0 (1<=Io l):=by
    by_cases h:1<=Io l
    ·rw[zx h];exact zx ow
    ·rw[aq h];exact aq ow
   have M:Q0 ((↑l.length:Int)<=8)=Q0 (Io l<=8):=by
    by_cases h:Io l<=8
    ·rw[zx h];exact zx ow
    ·rw[aq h];exact aq ow
   rw[L,M];cases Q0 (1<=Io l)<;>cases Q0 (Io l<=8)<;>rfl
 ·have F:¬∀x∈l,zQ x=Q3:=λh=>H λi _ o=>h _ (aK o)
  refine⟨[],zy (s:=.h3 l [] 0) rfl B ow ?_,sw,λh=>absurd h F⟩;rw[aq F];rfl
structure po (s:Sem zn):Prop where
 sh:my s
 chk:tz s.t.t.1
 whr:tz s.t.t.q.2.1
 cchk:sG 16 s.t.t.1=Q3
 cwhr:sG 16 s.t.t.q.2.1=Q3
 row:∀v∈s.t.t.2.1,kd v
 sets:∀x∈s.t.t.q.1,tz (x:Sem ig).2/\sG 16 (x:Sem ig).2=Q3
def zgw(B:Nat)(r:aw):Prop:=∃(h:zD)(b:Bool),aI r.2 [Q6,Q7] r.1=Q1 (h,b,())/\Io h<=B
theorem zqq{s:Sem zn}(h:po s)(B:Bool)(z:zD)(F:Io z<=60000)(n:Nat)(E:30<=n):∃r,dh fF n (.h20 B z 0 (s,()))=Q1 r/\zgw 200000 r:=by
 have L:=h.sh.refs.1;refine dz (t:=fF) (β:=Bool×zD) (Io s.t.q.2.1) (λb i=>.h20 b.1 b.2 (i:Int) (s,())) (λb i=>Io b.2<=60000+2100*i) _ 1 ?_ ?_ (Io s.t.q.2.1) 0 (B,z) n rfl (aO _) (by simpa using F) ow
 ·rintro⟨b,x⟩ i u o;have o:Io x<=60000+2100*i:=o;obtain⟨H,I⟩:=h.sh.refs.2 _ (aK u);have g:getD s.t.q.2.1 (i:Int).toNat (zi jb)=s.t.q.2.1[i]:=zH _ _ u;generalize s.t.q.2.1[i]=f at g H I;refine .inl ⟨(cond b (cond (bv f.1) (bv f.2) Q4) Q4,x++(zgJ++f.1++zgI++f.2)),sg,?_⟩;show(fF (.h20 _ _ _ _)).val=_;simp only[fF,Q8,g,zF u,zt u,bB (s:=f.1) ow,bB (s:=f.2) ow,if_true];rw[zr i um,if_pos (by cases b<;>cases bv f.1<;>rfl),if_pos (zx sg),if_pos (zx sg),if_pos (zx sg),if_pos (zx sg)]
 ·rintro⟨b,x⟩ n o E;have o:Io x<=60000+2100*Io s.t.q.2.1:=o;obtain⟨n,rfl⟩:∃k,n=k+1:=⟨n-1,ow⟩;obtain⟨C,D,J⟩:=bn h.chk h.cchk (w:=[32,44]) sw;have G:(fF (.h20 b x (Io s.t.q.2.1:Int) (s,()))).val=Q1 (.inr (.tup [.str (x++pS [32,44] s.t.t.1++iv),.bool (cond b (bW s.t.t.1) Q4)],[])):=by
   show(fF (.h20 _ _ _ _)).val=_;simp only[fF,Q8,zk,zB,C,D,if_true]
   rw[if_neg sw,if_pos (by
    have:Io x+(pS [32,44] s.t.t.1).length<=200000:=by omega
    simp;omega)]
   cases b<;>rfl
  rw[cP,G];exact⟨_,rfl,_,_,rfl,sg⟩
theorem zqp{s:Sem zn}(h:po s)(B:Bool)(z:zD)(D:Io z<=30000)(n:Nat)(C:60<=n):∃r,dh fF n (.h15 B z 0 (s,()))=Q1 r/\zgw 200000 r:=by
 have G:=h.sh.uniques.1;refine dz (t:=fF) (β:=Bool×zD) (Io s.t.q.1) (λb i=>.h15 b.1 b.2 (i:Int) (s,())) (λb i=>Io b.2<=30000+1100*i) _ 31 ?_ ?_ (Io s.t.q.1) 0 (B,z) n rfl (aO _) (by simpa using D) ow
 ·rintro⟨b,x⟩ i u o;have o:Io x<=30000+1100*i:=o;have F:=h.sh.uniques.2 _ (aK u);have g:getD s.t.q.1 (i:Int).toNat (zi Q6)=s.t.q.1[i]:=zH _ _ u;generalize s.t.q.1[i]=f at g F;refine .inl ⟨(cond b (bv f) Q4,x++(zgK++f++iv)),sg,?_⟩;show(fF (.h15 _ _ _ _)).val=_;simp only[fF,Q8,g,zF u,zt u,bB (s:=f) ow,if_true];rw[zr i um,if_pos (by cases b<;>rfl),if_pos (zx sg),if_pos (zx sg),if_pos (zx sg)]
 ·rintro⟨b,x⟩ n o C;have o:Io x<=30000+1100*Io s.t.q.1:=o;obtain⟨n,rfl⟩:∃k,n=k+1:=⟨n-1,ow⟩;have E:(fF (.h15 b x (Io s.t.q.1:Int) (s,()))).val=Q1 (.inl (.h20 b x 0 (s,()))):=by
   show(fF (.h15 _ _ _ _)).val=_;simp only[fF,Q8,zB];rfl
  rw[cP,E];exact zqq h b x ow n ow
theorem cr4{s:Sem zn}(h:po s)(z:Bool)(I:zD)(L:Io I<=2000)(n:Nat)(C:100<=n):∃r,dh fF n (.h4 z I 0 (s,()))=Q1 r/\zgw 200000 r:=by
 have X:=h.sh.cols.1;have W:=h.sh.key;refine dz (t:=fF) (β:=zD) (Io s.t.1) (λb i=>.h4 z b (i:Int) (s,())) (λb i=>Io b<=2000+1100*i) _ 61 ?_ ?_ (Io s.t.1) 0 I n rfl (aO _) (by simpa using L) ow
 ·intro x i F J;have S:=h.sh.cols.2 _ (aK F);have g:getD s.t.1 (i:Int).toNat (zi zj)=s.t.1[i]:=zH _ _ F;generalize s.t.1[i]=f at g S
  have u:((fF (.h4 z x (i:Int) (s,()))).val=if(bif !bv f.1 then Q3 else bif Q0 (LT.lt (α:=Int) f.2.1 1)then Q3 else Q0 (GT.gt (α:=Int) f.2.1 3))=Q3 then Q1 (.inr (.tup [.str [],.kb Q4],[]))else
    Q1 (.inl (.h4 z ((ite (f.2.2=Q3) (x++(f.1++[32]++[[],Cy,Cz,Cx].getD (toNat f.2.1) (zi Q6))++zgM) (x++(f.1++[32]++[[],Cy,Cz,Cx].getD (toNat f.2.1) (zi Q6))))++eZ) ((i+1:Nat):Int) (s,()))))/\
    (¬(bif !bv f.1 then Q3 else bif Q0 (LT.lt (α:=Int) f.2.1 1)then Q3 else Q0 (GT.gt (α:=Int) f.2.1 3))=Q3->([[],Cy,Cz,Cx].getD (toNat f.2.1) (zi Q6)).length<=4):=by
   have D:¬(bif !bv f.1 then Q3 else bif Q0 (LT.lt (α:=Int) f.2.1 1)then Q3 else Q0 (GT.gt (α:=Int) f.2.1 3))=Q3->zJ f.2.1 4=Q3/\([[],Cy,Cz,Cx].getD (toNat f.2.1) (zi Q6)).length<=4:=by
    intro o;have E:¬LT.lt (α:=Int) f.2.1 1:=by
     intro E;rw[zx E]at o;cases G:(!bv f.1)<;>rw[G]at o<;>exact o rfl
    have U:¬GT.gt (α:=Int) f.2.1 3:=by
     intro E;rw[zx E]at o;cases G:(!bv f.1)<;>rw[G]at o<;>cases B:Q0 (LT.lt (α:=Int) f.2.1 1)<;>rw[B]at o<;>exact o rfl
    have B:@Eq Int f.2.1 1\/@Eq Int f.2.1 2\/@Eq Int f.2.1 3:=by omega
    rcases B with B|B|B<;>rw[B]<;>exact⟨rfl,by decide⟩
   refine⟨?_,λo=>(D o).2⟩;show(fF (.h4 _ _ _ _)).val=_;simp only[fF,Q8,g,zF F,zt F,bB (s:=f.1) ow,if_true];by_cases o:(bif !bv f.1 then Q3 else bif Q0 (LT.lt (α:=Int) f.2.1 1)then Q3 else Q0 (GT.gt (α:=Int) f.2.1 3))=Q3
   ·rw[if_pos o,if_pos o]
   ·obtain⟨M,O⟩:=D o;rw[if_neg o,if_neg o,if_pos (zx sg)];refine(if_pos M).trans ?_;generalize[[],Cy,Cz,Cx].getD (toNat f.2.1) (zi Q6)=T at O;rw[if_pos (zx sg),if_pos (zx sg),zr i um];by_cases C:f.2.2=Q3
    ·rw[if_pos C,if_pos C,if_pos (zx sg),if_pos (zx sg)]
    ·rw[if_neg C,if_neg C,if_pos (zx sg)]
  obtain⟨u,H⟩:=u;by_cases o:(bif !bv f.1 then Q3 else bif Q0 (LT.lt (α:=Int) f.2.1 1)then Q3 else Q0 (GT.gt (α:=Int) f.2.1 3))=Q3
  ·rw[if_pos o]at u;exact .inr ⟨_,u,[],Q4,rfl,sw⟩
  ·rw[if_neg o]at u;have:=H o;generalize[[],Cy,Cz,Cx].getD (toNat f.2.1) (zi Q6)=T at u this;refine .inl ⟨_,?_,u⟩;split<;>simp<;>omega
 ·intro x n J C;obtain⟨n,rfl⟩:∃k,n=k+1:=⟨n-1,ow⟩;have u:(fF (.h4 z x (Io s.t.1:Int) (s,()))).val=Q1 (.inl (.h15 z (x++(zgP++s.t.2.1++iv)) 0 (s,()))):=by
   show(fF (.h4 _ _ _ _)).val=_;simp only[fF,Q8,zB];rw[if_neg sw,if_pos (zx sg),if_pos (zx sg),if_pos (zx sg)]
  rw[cP,u];exact zqp h z _ sg n ow
theorem Mt{s:Sem zn}(h:po s):∃(o:zD)(b:Bool),nu s=Q1 (o,b,())/\Io o<=200000:=by
 have F:=h.sh.table;have E:=h.sh.key;have z:∃u,(VI s).val=Q1 (.inl (.h4 u (Z6++s.2.1++AS) 0 (s,()))):=by
  refine⟨(cond (bv s.t.2.1) (cond (Q0 (1<=(↑(Io s.t.1):Int))) (cond (Q0 ((↑(Io s.t.1):Int)<=8)) (cond (Q0 ((↑(Io s.t.q.1):Int)<=8)) (Q0 ((↑(Io s.t.q.2.1):Int)<=8)) Q4) Q4) Q4) Q4),?_⟩;simp only[VI,Q8,bB (s:=s.t.2.1) ow,if_true];rw[if_pos (zx sg),if_pos (zx sg)]
 obtain⟨u,z⟩:=z;obtain⟨r,B,o,b,C,D⟩:=cr4 h u (Z6++s.2.1++AS) sg 100000000 ow;refine⟨o,b,?_,D⟩;unfold nu al dd;rw[z];show(dh fF 100000000 _).bind _=_;rw[B];exact C
theorem OL{s:Sem zn}(h:po s):rX s=Q3/\(qE s).1.length<=200000:=by
 obtain⟨z,b,o,u⟩:=Mt h;exact⟨by unfold rX;rw[o];rfl,by unfold qE;rw[o];exact u⟩
def RJ(o:Option (zz (List.map Q1 [Q6,zn,Q7]))):Prop:=∃(t:zD)(h:Sem zn)(u:Bool),o=Q1 (t,h,u,())/\Io t<=900000/\B8 h
theorem zpZ{s:Sem zn}{r:aw}{t:zD}{o:Sem zn}{h:Bool}(C:(gX s).val=Q1 (.inr r))(B:aI r.2 [Q6,zn,Q7] r.1=Q1 (t,o,h,()))(z:Io t<=900000)(u:B8 o):RJ (dN s):=
 ⟨t,o,h,zM C B,z,u⟩
abbrev dB:zf:=.mk [] (0,0,[]) [] []
theorem WM:sG 16 dB=Q3:=by decide+kernel
theorem eE{a:Sem zn}{s:Sem zn}(h:po s)(C:a.2.2.2.1=s.2.2.2.1\/a.2.2.2.1=[])(D:a.t.1=s.t.1\/a.t.1=[])(E:a.t.q.1=s.t.q.1\/a.t.q.1=[])
  (F:a.t.q.2.1=s.t.q.2.1\/a.t.q.2.1=[]) (G:a.t.t.1=s.t.t.1\/a.t.t.1=dB) (u:a.t.t.2.1=s.t.t.2.1\/a.t.t.2.1=[])
  (o:a.t.t.q.1=s.t.t.q.1\/a.t.t.q.1=[]) (z:a.t.t.q.2.1=s.t.t.q.2.1\/a.t.t.q.2.1=dB):B8 a where
 names:=by have:=h.sh.names.1;rcases C with h|h<;>rw[h]<;>first|omega|simp
 cols:=by have:=h.sh.cols.1;rcases D with h|h<;>rw[h]<;>first|omega|simp
 uniques:=by have:=h.sh.uniques.1;rcases E with h|h<;>rw[h]<;>first|omega|simp
 refs:=by have:=h.sh.refs.1;rcases F with h|h<;>rw[h]<;>first|omega|simp
 row:=by have:=h.sh.row;rcases u with h|h<;>rw[h]<;>first|omega|simp
 sets:=by have:=h.sh.sets.1;rcases o with h|h<;>rw[h]<;>first|omega|simp
 chk:=by rcases G with k|k<;>rw[k];exact h.cchk;exact WM
 whr:=by rcases z with k|k<;>rw[k];exact h.cwhr;exact WM
 ex:=by
  rcases o with k|k<;>rw[k]
  ·exact λx B=>(h.sets x B).2
  ·intro x B;cases B
def tv(r:aw):Prop:=∃(t:zD)(o:Sem zn)(h:Bool),aI r.2 [Q6,zn,Q7] r.1=Q1 (t,o,h,())/\Io t<=900000/\B8 o
theorem vB{r:aw}(t:zD)(o:Sem zn)(h:Bool)(u:aI r.2 [Q6,zn,Q7] r.1=Q1 (t,o,h,()))(z:Io t<=900000)(B:B8 o):tv r:=⟨t,o,h,u,z,B⟩
theorem zsQ{s:Sem zn}(h:po s):∃r,dh mF 100000000 (.h15 [] 0 (s,()) ([],[],[],[],[],0,0,[],[],[],0,0,[],[],[],()) (s.1,s.2.1,[],[],[],0,0,[],[],s.t.t.2.1,[],0,0,[],[],[],()))=Q1 r/\tv r:=by
 have F:=h.sh.row;have H:=h.sh.table;have o:B8 (s.1,s.2.1,[],[],[],[],[],[],dB,s.t.t.2.1,[],dB,[]):=eE h (.inr rfl) (.inr rfl) (.inr rfl) (.inr rfl) (.inr rfl) (.inl rfl) (.inr rfl) (.inr rfl);refine dz (t:=mF) (β:=zD) (Io s.t.t.2.1) (λb i=>.h15 b (i:Int) (s,()) ([],[],[],[],[],0,0,[],[],[],0,0,[],[],[],()) (s.1,s.2.1,[],[],[],0,0,[],[],s.t.t.2.1,[],0,0,[],[],[],())) (λb i=>Io b<=400*i) _ 1 ?_ ?_ (Io s.t.t.2.1) 0 [] 100000000 rfl (aO _) sw ow
 ·intro x i B C;have u:=h.row _ (aK B);have E:=yR s.t.t.2.1[i];have g:getD s.t.t.2.1 (i:Int).toNat (zi ze)=s.t.t.2.1[i]:=zH _ _ B;generalize s.t.t.2.1[i]=v at g u E
  have e:(mF (.h15 x (i:Int) (s,()) ([],[],[],[],[],0,0,[],[],[],0,0,[],[],[],()) (s.1,s.2.1,[],[],[],0,0,[],[],s.t.t.2.1,[],0,0,[],[],[],()))).val=if aU v=Q3 then Q1 (.inl (.h15 ((ite ((i:Int)>0) (x++eZ) x)++ii v) ((i+1:Nat):Int) (s,()) ([],[],[],[],[],0,0,[],[],[],0,0,[],[],[],()) (s.1,s.2.1,[],[],[],0,0,[],[],s.t.t.2.1,[],0,0,[],[],[],())))else
    Q1 (.inr (.tup [.str [],.agg [.str s.1,.str s.2.1,.str [],.nils,.nils,.str [],.nils,.nils,.str [],.int .i64 0,.int .i64 0,.str [],.str [],.nils,.sl ze s.t.t.2.1,.nils,.str [],.int .i64 0,.int .i64 0,.str [],.str [],.nils,.str []],.kb Q4],[])):=by
   show(mF (.h15 _ _ _ _ _)).val=_;simp only[mF,Q8,g,zF B,zt B,lD u.2.2,oE u.2.2,Hw u,Mn u,if_true];rw[zr i um];by_cases m:aU v=Q3
   ·rw[if_neg (by rw[m];simp),if_pos m];by_cases z:(i:Int)>0
    ·rw[if_pos (zx z),if_pos z,if_pos (zx sg),if_pos (zx sg)]
    ·rw[if_neg (by simpa using z),if_neg z,if_pos (zx ow)]
   ·rw[if_pos (by simpa using m),if_neg m]
  by_cases m:aU v=Q3
  ·rw[if_pos m]at e;refine .inl ⟨_,?_,e⟩;split<;>simp<;>omega
  ·rw[if_neg m]at e;exact .inr ⟨_,e,vB [] _ Q4 rfl sw o⟩
 ·intro x n C G;obtain⟨n,rfl⟩:∃k,n=k+1:=⟨n-1,ow⟩
  have e:∃b,(mF (.h15 x (Io s.t.t.2.1:Int) (s,()) ([],[],[],[],[],0,0,[],[],[],0,0,[],[],[],()) (s.1,s.2.1,[],[],[],0,0,[],[],s.t.t.2.1,[],0,0,[],[],[],()))).val=
    Q1 (.inr (.tup [.str (Ui++s.2.1++Z4++x++iv),.agg [.str s.1,.str s.2.1,.str [],.nils,.nils,.str [],.nils,.nils,.str [],.int .i64 0,.int .i64 0,.str [],.str [],.nils,.sl ze s.t.t.2.1,.nils,.str [],.int .i64 0,.int .i64 0,.str [],.str [],.nils,.str []],b],[]))/\(b=.kb Q4\/∃c,b=.bool c):=by
   show∃b,(mF (.h15 _ _ _ _ _)).val=_/\_;simp only[mF,Q8,zB];rw[if_neg sw,if_pos (zx sg),if_pos (zx sg),if_pos (zx sg),if_pos (zx sg)];split
   ·exact⟨_,rfl,.inr ⟨_,rfl⟩⟩
   ·exact⟨_,rfl,.inl rfl⟩
  obtain⟨b,e,D⟩:=e;rw[cP,e];rcases D with rfl|⟨c,rfl⟩
  ·exact⟨_,rfl,vB _ _ Q4 rfl sg o⟩
  ·exact⟨_,rfl,vB _ _ c rfl sg o⟩
theorem zsR{s:Sem zn}(h:po s)(u:zD)(B:Bool)(h8:Io u<=30000):∃r,dh mF 100000000 (.h27 u B [] 0 (s,()) ([],[],[],[],[],0,0,[],[],[],0,0,[],[],[],()) (s.1,s.2.1,[],[],[],0,0,[],[],s.t.t.q.1,s.t.t.q.2.1,[],()))=Q1 r/\tv r:=by
 have hl:=h.sh.sets.1;have ht:=h.sh.table;have z:B8 (s.1,s.2.1,[],[],[],[],[],[],dB,[],s.t.t.q.1,s.t.t.q.2.1,[]):=eE h (.inr rfl) (.inr rfl) (.inr rfl) (.inr rfl) (.inr rfl) (.inr rfl) (.inl rfl) (.inl rfl);generalize hZ:(([],[],[],[],[],0,0,[],[],[],0,0,[],[],[],()):zl jg)=Z;generalize W:((s.1,s.2.1,[],[],[],0,0,[],[],s.t.t.q.1,s.t.t.q.2.1,[],()):zl zgY)=V
 have D:∀(t:zD)(o:Bool)(b:AV),(b=.bool o\/(b=.kb Q4/\o=Q4))->aI [] [Q6,zn,Q7] (.tup [.str t,.agg [.str V.1,.str V.2.1,.str V.2.2.1,.nils,.nils,.str V.2.2.2.1,.nils,.nils,.str V.t.1,.int .i64 V.t.2.1,.int .i64 V.t.q.1,.str V.t.q.2.1,.str V.t.t.1,.nils,.nils,
   .sl (Sh.str.pr Q5) V.t.t.2.1,.str (zf.op V.t.t.q.1),.int .i64 (zf.v V.t.t.q.1).1,.int .i64 (zf.v V.t.t.q.1).2.1,.str (zf.v V.t.t.q.1).2.2,.str (zf.s V.t.t.q.1),.sl Q5 (zf.l V.t.t.q.1),.str V.t.t.q.2.1],b])=
   Q1 (t,(s.1,s.2.1,[],[],[],[],[],[],dB,[],s.t.t.q.1,s.t.t.q.2.1,[]),o,()):=by
  intro t o b I;subst W;obtain⟨s1,s2,s3,s4,s5,s6,s7,u,s9,h3,h4,⟨d1,d2,d3,d4⟩,h5⟩:=s;rcases I with rfl|⟨rfl,rfl⟩<;>rfl
 refine dz (t:=mF) (β:=zD) (Io s.t.t.q.1) (λb i=>.h27 u B b (i:Int) (s,()) Z V) (λb i=>Io b<=26000*i) _ 1 ?_ ?_ (Io s.t.t.q.1) 0 [] 100000000 rfl (aO _) sw ow
 ·intro x i C U;obtain⟨G,J⟩:=h.sets _ (aK C);have L:=h.sh.sets.2 _ (aK C);have g:getD s.t.t.q.1 (i:Int).toNat (zi ig)=s.t.t.q.1[i]:=zH _ _ C;generalize s.t.t.q.1[i]=v at g G J L;have e:(¬(bv v.1=Q3/\cG v.2=Q3)/\∃r,(mF (.h27 u B x (i:Int) (s,()) Z V)).val=Q1 (.inr r)/\tv r)\/∃E:zD,Io E<=Io x+26000/\(mF (.h27 u B x (i:Int) (s,()) Z V)).val=Q1 (.inl (.h27 u B E ((i+1:Nat):Int) (s,()) Z V)):=by
   show(_/\∃r,(mF (.h27 _ _ _ _ _ _ _)).val=_/\_)\/∃E:zD,_/\(mF (.h27 _ _ _ _ _ _ _)).val=_;simp only[mF,Q8,g,zk,zF C,zt C,bB (s:=v.1) ow,nt G,rS G,if_true,dV];have Y:(cond (!bv v.1) Q3 Q3)=Q3:=by cases bv v.1<;>rfl
   rw[Y];by_cases m:bv v.1=Q3/\cG v.2=Q3
   ·obtain⟨m1,O⟩:=m;obtain⟨t1,t2,t3⟩:=Mp G O;refine .inr ⟨(ite ((i:Int)>0) (x++eZ) x)++(v.1++zgL++aR 16 v.2),by split<;>simp<;>omega,?_⟩;simp only[m1,O,t1,t2,if_true,bA,ao,zA,if_false];rw[zr i um];by_cases F:(i:Int)>0
    ·rw[if_pos (zx F),if_pos F,if_pos (zx sg),if_pos (zx sg),if_pos (zx sg),if_pos (zx sg)]
    ·rw[if_neg (by simpa using F),if_neg F,if_pos (zx sg),if_pos (zx sg),if_pos (zx sg)]
   ·refine .inl ⟨m,?_⟩;have X:(cond (!bv v.1) Q3 (!cG v.2))=Q3:=by
     cases S:bv v.1
     ·rfl
     ·cases T:cG v.2
      ·rfl
      ·exact absurd ⟨S,T⟩ m
    rw[if_pos rfl,if_pos X];exact⟨_,rfl,vB [] _ Q4 (D [] Q4 _ (.inr ⟨rfl,rfl⟩)) sw z⟩
  rcases e with⟨_,r,M,H⟩|⟨E,M,H⟩
  ·exact .inr ⟨r,M,H⟩
  ·exact .inl ⟨E,ow,H⟩
 ·intro x n U hn;obtain⟨n,rfl⟩:∃k,n=k+1:=⟨n-1,ow⟩
  have e:∃b o,(mF (.h27 u B x (Io s.t.t.q.1:Int) (s,()) Z V)).val=
    Q1 (.inr (.tup [.str (Ul++s.2.1++Z3++x++u),.agg [.str V.1,.str V.2.1,.str V.2.2.1,.nils,.nils,.str V.2.2.2.1,.nils,.nils,.str V.t.1,.int .i64 V.t.2.1,.int .i64 V.t.q.1,.str V.t.q.2.1,.str V.t.t.1,.nils,.nils,
   .sl (Sh.str.pr Q5) V.t.t.2.1,.str (zf.op V.t.t.q.1),.int .i64 (zf.v V.t.t.q.1).1,.int .i64 (zf.v V.t.t.q.1).2.1,.str (zf.v V.t.t.q.1).2.2,.str (zf.s V.t.t.q.1),.sl Q5 (zf.l V.t.t.q.1),.str V.t.t.q.2.1],b],[]))/\(b=.bool o\/(b=.kb Q4/\o=Q4)):=by
   show∃b o,(mF (.h27 _ _ _ _ _ _ _)).val=_/\_;simp only[mF,Q8,zB];rw[if_neg sw,if_pos (zx sg),if_pos (zx sg),if_pos (zx sg),if_pos (zx sg)];split
   ·split
    ·exact⟨_,_,rfl,.inl rfl⟩
    ·exact⟨_,Q4,rfl,.inr ⟨rfl,rfl⟩⟩
   ·exact⟨_,Q4,rfl,.inr ⟨rfl,rfl⟩⟩
  obtain⟨b,o,e,I⟩:=e;rw[cP,e];exact⟨_,rfl,vB _ _ o (D _ o b I) sg z⟩
theorem Tw{s:Sem zn}(h:po s)(o:s.1=mT):∃r,(gX s).val=Q1 (.inr r)/\tv r:=by
 obtain⟨u,G,H⟩:=bn h.chk h.cchk (w:=[]) sw;obtain⟨z,I,J⟩:=bn h.whr h.cwhr (w:=gE) sw;have ht:=h.sh.table;have hr:=h.sh.role;have ho:=h.sh.other;have Z:=h.sh.key;have C:(s.1==mT)=Q3:=by rw[o];rfl
 simp only[gX,Q8,zk,u,z,C,if_true];obtain⟨B,L⟩:=OL h;have es:rX (s.1,s.2.1,s.2.2.1,s.2.2.2.1,s.t.1,s.t.2.1,s.t.q.1,s.t.q.2.1,s.t.t.1,s.t.t.2.1,s.t.t.q.1,s.t.t.q.2.1,s.t.t.t)=Q3:=B;rw[if_pos es];refine⟨_,rfl,vB (qE s).1 (s.1,s.2.1,[],[],s.t.1,s.t.2.1,s.t.q.1,s.t.q.2.1,s.t.t.1,[],[],dB,[]) (qE s).2 ?_ ow (eE h (.inr rfl) (.inl rfl) (.inl rfl) (.inl rfl) (.inl rfl) (.inr rfl) (.inr rfl) (.inr rfl))⟩;obtain⟨s1,s2,s3,s4,s5,s6,s7,s8,⟨M,O,S,T⟩,D,E,⟨U,W,X,Y⟩,F⟩:=s;rfl
theorem zbY{s:Sem zn}(h:po s)(o:s.1=Ft):∃r,(gX s).val=Q1 (.inr r)/\tv r:=by
 obtain⟨u,D,E⟩:=bn h.chk h.cchk (w:=[]) sw;obtain⟨z,F,G⟩:=bn h.whr h.cwhr (w:=gE) sw;have L:=h.sh.table;have J:=h.sh.role;have I:=h.sh.other;have H:=h.sh.key;have B:(s.1==mT)=Q4:=by rw[o];rfl
 have C:(s.1==Ft)=Q3:=by rw[o];rfl
 simp only[gX,Q8,zk,u,z,B,C,if_true,zA,if_false];rw[if_pos (zx sg)];exact⟨_,rfl,vB _ (s.1,s.2.1,[],[],[],[],[],[],dB,[],[],dB,[]) Q3 rfl sg (eE h (.inr rfl) (.inr rfl) (.inr rfl) (.inr rfl) (.inr rfl) (.inr rfl) (.inr rfl) (.inr rfl))⟩
theorem Tx{s:Sem zn}(h:po s)(o:s.1=Kh):∃r,(gX s).val=Q1 (.inr r)/\tv r:=by
 obtain⟨u,L,M⟩:=bn h.chk h.cchk (w:=[]) sw;obtain⟨z,B,O⟩:=bn h.whr h.cwhr (w:=gE) sw;have ht:=h.sh.table;have hr:=h.sh.role;have ho:=h.sh.other;have hk:=h.sh.key;have C:(s.1==mT)=Q4:=by rw[o];rfl
 have D:(s.1==Ft)=Q4:=by rw[o];rfl
 have E:(s.1==H6)=Q4:=by rw[o];rfl
 have F:(s.1==pt)=Q4:=by rw[o];rfl
 have G:(s.1==Kh)=Q3:=by rw[o];rfl
 simp only[gX,Q8,zk,u,z,C,D,E,F,G,if_true,zA,if_false];rw[B,if_pos (zx sg),if_pos (zx sg)];refine⟨_,rfl,vB (Z8++s.2.1++pS gE s.t.t.q.2.1) (s.1,s.2.1,[],[],[],[],[],[],dB,[],[],s.t.t.q.2.1,[]) (bW s.t.t.q.2.1) ?_ ?_ (eE h (.inr rfl) (.inr rfl) (.inr rfl) (.inr rfl) (.inr rfl) (.inr rfl) (.inr rfl) (.inl rfl))⟩;rotate_left 2
 ·obtain⟨s1,s2,s3,s4,s5,s6,s7,s8,⟨S,T,U,W⟩,H,I,⟨X,Y,Z,g4⟩,J⟩:=s;rfl
 ·simp;omega
theorem Tz{s:Sem zn}(h:po s)(o:s.1=pO):∃r,(gX s).val=Q1 (.inr r)/\tv r:=by
 obtain⟨u,M,O⟩:=bn h.chk h.cchk (w:=[]) sw;obtain⟨z,B,S⟩:=bn h.whr h.cwhr (w:=gE) sw;have ht:=h.sh.table;have hr:=h.sh.role;have ho:=h.sh.other;have hk:=h.sh.key;have C:(s.1==mT)=Q4:=by rw[o];rfl
 have D:(s.1==Ft)=Q4:=by rw[o];rfl
 have E:(s.1==H6)=Q4:=by rw[o];rfl
 have F:(s.1==pt)=Q4:=by rw[o];rfl
 have G:(s.1==Kh)=Q4:=by rw[o];rfl
 have H:(s.1==pO)=Q3:=by rw[o];rfl
 simp only[gX,Q8,zk,u,z,C,D,E,F,G,H,if_true,zA,if_false];rw[B,if_pos (zx sg),if_pos (zx sg)];refine⟨_,rfl,vB (zah++s.2.1++pS gE s.t.t.q.2.1) (s.1,s.2.1,[],[],[],[],[],[],dB,[],[],s.t.t.q.2.1,[]) (bW s.t.t.q.2.1) ?_ ?_ (eE h (.inr rfl) (.inr rfl) (.inr rfl) (.inr rfl) (.inr rfl) (.inr rfl) (.inr rfl) (.inl rfl))⟩;rotate_left 2
 ·obtain⟨s1,s2,s3,s4,s5,s6,s7,s8,⟨T,U,W,X⟩,I,J,⟨Y,Z,g3,g4⟩,L⟩:=s;rfl
 ·simp;omega
theorem zb0{s:Sem zn}(h:po s)(o:s.1=PA):∃r,(gX s).val=Q1 (.inr r)/\tv r:=by
 obtain⟨u,M,O⟩:=bn h.chk h.cchk (w:=[]) sw;obtain⟨z,S,T⟩:=bn h.whr h.cwhr (w:=gE) sw;have Y:=h.sh.table;have X:=h.sh.role;have W:=h.sh.other;have U:=h.sh.key;have B:(s.1==mT)=Q4:=by rw[o];rfl
 have C:(s.1==Ft)=Q4:=by rw[o];rfl
 have D:(s.1==H6)=Q4:=by rw[o];rfl
 have E:(s.1==pt)=Q4:=by rw[o];rfl
 have F:(s.1==Kh)=Q4:=by rw[o];rfl
 have G:(s.1==pO)=Q4:=by rw[o];rfl
 have H:(s.1==cT)=Q4:=by rw[o];rfl
 have I:(s.1==eX)=Q4:=by rw[o];rfl
 have J:(s.1==kq)=Q4:=by rw[o];rfl
 have L:(s.1==PA)=Q3:=by rw[o];rfl
 simp only[gX,Q8,zk,u,z,B,C,D,E,F,G,H,I,J,L,if_true,zA,if_false];rw[if_pos (zx sg),if_pos (zx sg),if_pos (zx sg),if_pos (bB (s:=s.t.t.t) ow)];exact⟨_,rfl,vB _ (s.1,s.2.1,[],[],[],[],[],[],dB,[],[],dB,s.t.t.t) (bv s.t.t.t) rfl sg (eE h (.inr rfl) (.inr rfl) (.inr rfl) (.inr rfl) (.inr rfl) (.inr rfl) (.inr rfl) (.inr rfl))⟩
theorem Yw{s:Sem zn}(h:po s)(o:s.1=xm):∃r,(gX s).val=Q1 (.inr r)/\tv r:=by
 obtain⟨z,O,S⟩:=bn h.chk h.cchk (w:=[]) sw;obtain⟨B,T,U⟩:=bn h.whr h.cwhr (w:=gE) sw;have Z:=h.sh.table;have Y:=h.sh.role;have X:=h.sh.other;have W:=h.sh.key;have C:(s.1==mT)=Q4:=by rw[o];rfl
 have D:(s.1==Ft)=Q4:=by rw[o];rfl
 have E:(s.1==H6)=Q4:=by rw[o];rfl
 have F:(s.1==pt)=Q4:=by rw[o];rfl
 have G:(s.1==Kh)=Q4:=by rw[o];rfl
 have H:(s.1==pO)=Q4:=by rw[o];rfl
 have I:(s.1==cT)=Q4:=by rw[o];rfl
 have J:(s.1==eX)=Q4:=by rw[o];rfl
 have L:(s.1==kq)=Q4:=by rw[o];rfl
 have M:(s.1==PA)=Q4:=by rw[o];rfl
 have u:(s.1==xm)=Q3:=by rw[o];rfl
 simp only[gX,Q8,zk,z,B,C,D,E,F,G,H,I,J,L,M,u,if_true,zA,if_false];rw[if_pos (zx sg),if_pos (zx sg),if_pos (zx sg),if_pos (bB (s:=s.t.t.t) ow)];exact⟨_,rfl,vB _ (s.1,s.2.1,[],[],[],[],[],[],dB,[],[],dB,s.t.t.t) (bv s.t.t.t) rfl sg (eE h (.inr rfl) (.inr rfl) (.inr rfl) (.inr rfl) (.inr rfl) (.inr rfl) (.inr rfl) (.inr rfl))⟩
theorem TA{s:Sem zn}(h:po s)(o:s.1=AR):∃r,(gX s).val=Q1 (.inr r)/\tv r:=by
 obtain⟨B,S,T⟩:=bn h.chk h.cchk (w:=[]) sw;obtain⟨C,U,W⟩:=bn h.whr h.cwhr (w:=gE) sw;have ht:=h.sh.table;have Z:=h.sh.role;have Y:=h.sh.other;have X:=h.sh.key;have D:(s.1==mT)=Q4:=by rw[o];rfl
 have E:(s.1==Ft)=Q4:=by rw[o];rfl
 have F:(s.1==H6)=Q4:=by rw[o];rfl
 have G:(s.1==pt)=Q4:=by rw[o];rfl
 have H:(s.1==Kh)=Q4:=by rw[o];rfl
 have I:(s.1==pO)=Q4:=by rw[o];rfl
 have J:(s.1==cT)=Q4:=by rw[o];rfl
 have L:(s.1==eX)=Q4:=by rw[o];rfl
 have M:(s.1==kq)=Q4:=by rw[o];rfl
 have O:(s.1==PA)=Q4:=by rw[o];rfl
 have u:(s.1==xm)=Q4:=by rw[o];rfl
 have z:(s.1==AR)=Q3:=by rw[o];rfl
 simp only[gX,Q8,zk,B,C,D,E,F,G,H,I,J,L,M,O,u,z,if_true,zA,if_false];rw[if_pos (zx sg),if_pos (zx sg),if_pos (zx sg),if_pos (bB (s:=s.t.t.t) ow)];exact⟨_,rfl,vB _ (s.1,s.2.1,[],[],[],[],[],[],dB,[],[],dB,s.t.t.t) (bv s.t.t.t) rfl sg (eE h (.inr rfl) (.inr rfl) (.inr rfl) (.inr rfl) (.inr rfl) (.inr rfl) (.inr rfl) (.inr rfl))⟩
theorem Pf{s:Sem zn}(h:po s)(o:s.1=Cv):∃r,(gX s).val=Q1 (.inr r)/\tv r:=by
 obtain⟨C,T,U⟩:=bn h.chk h.cchk (w:=[]) sw;obtain⟨D,W,X⟩:=bn h.whr h.cwhr (w:=gE) sw;have ht:=h.sh.table;have hr:=h.sh.role;have Z:=h.sh.other;have Y:=h.sh.key;have E:(s.1==mT)=Q4:=by rw[o];rfl
 have F:(s.1==Ft)=Q4:=by rw[o];rfl
 have G:(s.1==H6)=Q4:=by rw[o];rfl
 have H:(s.1==pt)=Q4:=by rw[o];rfl
 have I:(s.1==Kh)=Q4:=by rw[o];rfl
 have J:(s.1==pO)=Q4:=by rw[o];rfl
 have L:(s.1==cT)=Q4:=by rw[o];rfl
 have M:(s.1==eX)=Q4:=by rw[o];rfl
 have O:(s.1==kq)=Q4:=by rw[o];rfl
 have S:(s.1==PA)=Q4:=by rw[o];rfl
 have u:(s.1==xm)=Q4:=by rw[o];rfl
 have z:(s.1==AR)=Q4:=by rw[o];rfl
 have B:(s.1==Cv)=Q3:=by rw[o];rfl
 simp only[gX,Q8,zk,C,D,E,F,G,H,I,J,L,M,O,S,u,z,B,if_true,zA,if_false];rw[if_pos (zx sg),if_pos (zx sg),if_pos (zx sg),if_pos (bB (s:=s.t.t.t) ow)];exact⟨_,rfl,vB _ (s.1,s.2.1,[],[],[],[],[],[],dB,[],[],dB,s.t.t.t) (bv s.t.t.t) rfl sg (eE h (.inr rfl) (.inr rfl) (.inr rfl) (.inr rfl) (.inr rfl) (.inr rfl) (.inr rfl) (.inr rfl))⟩
theorem zbZ{s:Sem zn}(h:po s)(n0:s.1≠mT)(G:s.1≠Ft)(H:s.1≠H6)(I:s.1≠pt)(J:s.1≠Kh)(L:s.1≠pO)(M:s.1≠cT)(O:s.1≠eX)(S:s.1≠kq)(T:s.1≠PA)(o:s.1≠xm)(u:s.1≠AR)(z:s.1≠Cv):∃r,(gX s).val=Q1 (.inr r)/\tv r:=by
 obtain⟨E,c2,c3⟩:=bn h.chk h.cchk (w:=[]) sw;obtain⟨F,d2,d3⟩:=bn h.whr h.cwhr (w:=gE) sw;have ht:=h.sh.table;have hr:=h.sh.role;have ho:=h.sh.other;have hk:=h.sh.key;have U:(s.1==mT)=Q4:=cd.2 n0;have W:(s.1==Ft)=Q4:=cd.2 G;have X:(s.1==H6)=Q4:=cd.2 H;have Y:(s.1==pt)=Q4:=cd.2 I;have Z:(s.1==Kh)=Q4:=cd.2 J;have q5:(s.1==pO)=Q4:=cd.2 L;have q6:(s.1==cT)=Q4:=cd.2 M;have q7:(s.1==eX)=Q4:=cd.2 O;have q8:(s.1==kq)=Q4:=cd.2 S;have q9:(s.1==PA)=Q4:=cd.2 T;have B:(s.1==xm)=Q4:=cd.2 o;have C:(s.1==AR)=Q4:=cd.2 u;have D:(s.1==Cv)=Q4:=cd.2 z;simp only[gX,Q8,zk,E,F,U,W,X,Y,Z,q5,q6,q7,q8,q9,B,C,D,if_true,zA,if_false];exact⟨_,rfl,vB _ (s.1,s.2.1,[],[],[],[],[],[],dB,[],[],dB,[]) Q4 rfl sw (eE h (.inr rfl) (.inr rfl) (.inr rfl) (.inr rfl) (.inr rfl) (.inr rfl) (.inr rfl) (.inr rfl))⟩
def Pb(s:Sem zn):zD:=Uj++s.2.1++lg++s.2.2.1++AS++Lib.join s.2.2.2.1 eZ++iv++pS [] s.t.t.1
def lz(s:Sem zn):Bool:=(Q0 (∀x∈s.2.2.2.1,zQ x=Q3)&&(Q0 (1<=Io s.2.2.2.1)&&Q0 (Io s.2.2.2.1<=8)))&&(bW s.t.t.1&&zQ s.2.2.1)
theorem Rp{s:Sem zn}(h:po s)(o:s.1=cT):∃t,dN s=Q1 (t,(s.1,s.2.1,s.2.2.1,s.2.2.2.1,[],[],[],[],s.t.t.1,[],[],dB,[]),lz s,())/\Io t<=900000/\(lz s=Q3->t=Pb s):=by
 obtain⟨G,H,c3⟩:=bn h.chk h.cchk (w:=[]) sw;obtain⟨I,d2,d3⟩:=bn h.whr h.cwhr (w:=gE) sw;have ht:=h.sh.table;have hr:=h.sh.role;have ho:=h.sh.other;have z:=h.sh.key;obtain⟨O,S,T,U,W,X,_,_,_,_,Y⟩:=zbf o;obtain⟨t,D,n2,J⟩:=OR (l:=s.2.2.2.1) (by have:=h.sh.names.1;omega) h.sh.names.2;have L:Ez s.2.2.2.1=Q3:=by unfold Ez;rw[D];rfl
 have M:JA s.2.2.2.1=(t,(Q0 (∀x∈s.2.2.2.1,zQ x=Q3)&&(Q0 (1<=Io s.2.2.2.1)&&Q0 (Io s.2.2.2.1<=8)))):=by unfold JA;rw[D];rfl
 have w1:=bB (s:=s.2.2.1) ow;have w2:=fb (s:=s.2.2.1) ow;refine⟨Uj++s.2.1++lg++s.2.2.1++AS++t++iv++pS [] s.t.t.1,?_,sg,?_⟩
 ·have B:∃b,(gX s).val=Q1 (.inr (.tup [.str (Uj++s.2.1++lg++s.2.2.1++AS++t++iv++pS [] s.t.t.1),.agg [.str s.1,.str s.2.1,.str s.2.2.1,.sl Q6 s.2.2.2.1,.nils,.str [],.nils,.nils,.str (zf.op s.t.t.1),.int .i64 (zf.v s.t.t.1).1,.int .i64 (zf.v s.t.t.1).2.1,.str (zf.v s.t.t.1).2.2,.str (zf.s s.t.t.1),
    .sl Q5 (zf.l s.t.t.1),.nils,.nils,.str [],.int .i64 0,.int .i64 0,.str [],.str [],.nils,.str []],b],[]))/\(b=.bool (lz s)\/(b=.kb Q4/\lz s=Q4)):=by
   unfold lz;simp only[gX,Q8,zk,G,I,O,S,T,U,W,X,Y,L,M,H,w1,w2,if_true,zA,if_false]
   iterate 7 rw[if_pos (zx sg)]
   generalize(Q0 (∀x∈s.2.2.2.1,zQ x=Q3)&&(Q0 (1<=Io s.2.2.2.1)&&Q0 (Io s.2.2.2.1<=8)))=E;generalize bW s.t.t.1=F;cases E
   ·exact⟨_,rfl,.inr ⟨rfl,rfl⟩⟩
   ·cases F
    ·exact⟨_,rfl,.inr ⟨rfl,rfl⟩⟩
    ·exact⟨_,rfl,.inl rfl⟩
  obtain⟨b,B,C⟩:=B;refine zM B ?_;clear B;obtain⟨s1,s2,s3,s4,s5,s6,s7,s8,⟨f1,f2,f3,f4⟩,Z,h0,⟨g1,g2,g3,g4⟩,h1⟩:=s;rcases C with rfl|⟨rfl,C⟩
  ·rfl
  ·rw[C];rfl
 ·intro z;have u:∀x∈s.2.2.2.1,zQ x=Q3:=by
   unfold lz at z;simp only[aE,aQ]at z;exact z.1.1
  rw[J u];rfl
def qQ(s:Sem zn):zD:=zgR++s.2.1++lg++s.2.2.1++eZ++s.t.t.t++AT++s.t.2.1++pS [] s.t.t.1
def oA(s:Sem zn):Bool:=bW s.t.t.1&&(zQ s.2.2.1&&(zQ s.t.t.t&&zQ s.t.2.1))
theorem Rq{s:Sem zn}(h:po s)(o:s.1=eX):dN s=Q1 (qQ s,(s.1,s.2.1,s.2.2.1,[],[],s.t.2.1,[],[],s.t.t.1,[],[],dB,s.t.t.t),oA s,())/\(qQ s).length<=900000:=by
 obtain⟨E,F,c3⟩:=bn h.chk h.cchk (w:=[]) sw;obtain⟨G,d2,d3⟩:=bn h.whr h.cwhr (w:=gE) sw;have ht:=h.sh.table;have hr:=h.sh.role;have ho:=h.sh.other;have hk:=h.sh.key;obtain⟨H,I,J,L,M,O,_,_,_,_,S,T⟩:=zbg o;have w1:=bB (s:=s.2.2.1) ow;have Y:=fb (s:=s.2.2.1) ow;have w3:=bB (s:=s.t.t.t) ow;have Z:=fb (s:=s.t.t.t) ow;have w5:=bB (s:=s.t.2.1) ow;have w6:=fb (s:=s.t.2.1) ow;refine⟨?_,by unfold qQ;simp;omega⟩
 have u:∃b,(gX s).val=Q1 (.inr (.tup [.str (qQ s),.agg [.str s.1,.str s.2.1,.str s.2.2.1,.nils,.nils,.str s.t.2.1,.nils,.nils,.str (zf.op s.t.t.1),.int .i64 (zf.v s.t.t.1).1,.int .i64 (zf.v s.t.t.1).2.1,.str (zf.v s.t.t.1).2.2,.str (zf.s s.t.t.1),
    .sl Q5 (zf.l s.t.t.1),.nils,.nils,.str [],.int .i64 0,.int .i64 0,.str [],.str [],.nils,.str s.t.t.t],b],[]))/\(b=.bool (oA s)\/(b=.kb Q4/\oA s=Q4)):=by
  unfold oA qQ;simp only[gX,Q8,zk,E,G,H,I,J,L,M,O,S,T,F,w1,Y,w3,Z,w5,w6,if_true,zA,if_false]
  iterate 8 rw[if_pos (zx sg)]
  generalize bW s.t.t.1=B;generalize zQ s.2.2.1=C;generalize zQ s.t.t.t=D;cases B
  ·exact⟨_,rfl,.inr ⟨rfl,rfl⟩⟩
  ·cases C
   ·exact⟨_,rfl,.inr ⟨rfl,rfl⟩⟩
   ·cases D
    ·exact⟨_,rfl,.inr ⟨rfl,rfl⟩⟩
    ·exact⟨_,rfl,.inl rfl⟩
 obtain⟨b,u,z⟩:=u;refine zM u ?_;clear u;generalize qQ s=tx;obtain⟨s1,s2,s3,s4,s5,s6,s7,s8,⟨f1,f2,f3,f4⟩,U,W,⟨g1,g2,g3,g4⟩,X⟩:=s;rcases z with rfl|⟨rfl,z⟩
 ·rfl
 ·rw[z];rfl
def mu(s:Sem zn):zD:=zgQ++s.2.1++lg++s.2.2.1++RT++s.2.2.2.1.getD 0 []++RU++s.2.2.2.1.getD 1 []++pS [] s.t.t.1
def gM(s:Sem zn):Bool:=Q0 (Io s.2.2.2.1=2)&&(bW s.t.t.1&&(zQ s.2.2.1&&(zQ (s.2.2.2.1.getD 0 [])&&zQ (s.2.2.2.1.getD 1 []))))
theorem M8{s:Sem zn}(h:po s)(o:s.1=kq):∃t,dN s=Q1 (t,(s.1,s.2.1,s.2.2.1,s.2.2.2.1,[],[],[],[],s.t.t.1,[],[],dB,[]),gM s,())/\Io t<=900000/\(gM s=Q3->t=mu s):=by
 obtain⟨J,c2,c3⟩:=bn h.chk h.cchk (w:=[]) sw;obtain⟨L,d2,d3⟩:=bn h.whr h.cwhr (w:=gE) sw;have ht:=h.sh.table;have hr:=h.sh.role;have ho:=h.sh.other;have hk:=h.sh.key;obtain⟨U,W,X,Y,Z,q5,_,_,_,_,q6,q7,q8⟩:=Xi o;have w1:=bB (s:=s.2.2.1) ow;have w2:=fb (s:=s.2.2.1) ow;by_cases u:Io s.2.2.2.1=2
 ·have E:((↑(Io s.2.2.2.1):Int)!=2)=Q4:=by rw[u];rfl
  have n0:(s.2.2.2.1.getD 0 []).length<=1000:=by
   rw[aS,zU ow,dv];exact h.sh.names.2 _ (aK _)
  have F:(s.2.2.2.1.getD 1 []).length<=1000:=by
   rw[aS,zU ow,dv];exact h.sh.names.2 _ (aK _)
  have S:zJ 0 (Io s.2.2.2.1)=Q3:=by rw[u];rfl
  have T:zJ 1 (Io s.2.2.2.1)=Q3:=by rw[u];rfl
  have M:getD s.2.2.2.1 (toNat 0) (zi Q6)=s.2.2.2.1.getD 0 []:=rfl;have B:getD s.2.2.2.1 (toNat 1) (zi Q6)=s.2.2.2.1.getD 1 []:=rfl;have w3:=bB (s:=s.2.2.2.1.getD 0 []) ow;have w4:=fb (s:=s.2.2.2.1.getD 0 []) ow;have w5:=bB (s:=s.2.2.2.1.getD 1 []) ow;have w6:=fb (s:=s.2.2.2.1.getD 1 []) ow;refine⟨mu s,?_,by unfold mu;simp at n0 F⊢;omega,λ_=>rfl⟩
  have C:∃b,(gX s).val=Q1 (.inr (.tup [.str (mu s),.agg [.str s.1,.str s.2.1,.str s.2.2.1,.sl Q6 s.2.2.2.1,.nils,.str [],.nils,.nils,.str (zf.op s.t.t.1),.int .i64 (zf.v s.t.t.1).1,.int .i64 (zf.v s.t.t.1).2.1,.str (zf.v s.t.t.1).2.2,.str (zf.s s.t.t.1),
    .sl Q5 (zf.l s.t.t.1),.nils,.nils,.str [],.int .i64 0,.int .i64 0,.str [],.str [],.nils,.str []],b],[]))/\(b=.bool (gM s)\/(b=.kb Q4/\gM s=Q4)):=by
   unfold gM mu;rw[zx u];simp only[gX,Q8,zk,J,L,U,W,X,Y,Z,q5,q6,q7,q8,c2,w1,w2,M,B,w3,w4,w5,w6,E,S,T,if_true,zA,if_false];generalize s.2.2.2.1.getD 0 []=a0 at n0;generalize s.2.2.2.1.getD 1 []=a1 at F
   iterate 8 rw[if_pos (zx sg)]
   generalize bW s.t.t.1=b1;generalize zQ s.2.2.1=b2;generalize zQ a0=b3;cases b1
   ·exact⟨_,rfl,.inr ⟨rfl,rfl⟩⟩
   ·cases b2
    ·exact⟨_,rfl,.inr ⟨rfl,rfl⟩⟩
    ·cases b3
     ·exact⟨_,rfl,.inr ⟨rfl,rfl⟩⟩
     ·exact⟨_,rfl,.inl rfl⟩
  obtain⟨b,C,D⟩:=C;refine zM C ?_;clear C;generalize mu s=tx;clear n0 F S T M B w3 w4 w5 w6;obtain⟨s1,s2,s3,s4,s5,s6,s7,s8,⟨f1,f2,f3,f4⟩,G,H,⟨B,g2,g3,g4⟩,I⟩:=s;rcases D with rfl|⟨rfl,D⟩
  ·rfl
  ·rw[D];rfl
 ·have E:((↑(Io s.2.2.2.1):Int)!=2)=Q3:=by
   simp only[bne_iff_ne];omega
  have z:gM s=Q4:=by unfold gM;rw[aq u];rfl
  refine⟨[],?_,sw,λO=>by rw[z]at O;cases O⟩;rw[z]
  refine zM (r:=(.tup [.str [],.agg [.str s.1,.str s.2.1,.str s.2.2.1,.sl Q6 s.2.2.2.1,.nils,.str [],.nils,.nils,.str (zf.op s.t.t.1),.int .i64 (zf.v s.t.t.1).1,.int .i64 (zf.v s.t.t.1).2.1,.str (zf.v s.t.t.1).2.2,.str (zf.s s.t.t.1),
    .sl Q5 (zf.l s.t.t.1),.nils,.nils,.str [],.int .i64 0,.int .i64 0,.str [],.str [],.nils,.str []],.kb Q4],[])) ?_ ?_
  ·simp only[gX,Q8,zk,J,L,U,W,X,Y,Z,q5,q6,q7,q8,E,if_true,zA,if_false]
  ·obtain⟨s1,s2,s3,s4,s5,s6,s7,s8,⟨f1,f2,f3,f4⟩,G,H,⟨B,g2,g3,g4⟩,I⟩:=s;rfl
theorem gp{s:Sem zn}(h:∃r,(gX s).val=Q1 (.inr r)/\tv r):RJ (dN s):=by
 obtain⟨r,o,t,C,D,u,z,B⟩:=h;exact zpZ o u z B
theorem Fg{s:Sem zn}{st:Cc}(u:(gX s).val=Q1 (.inl st))(h:∃r,dh mF 100000000 st=Q1 r/\tv r):RJ (dN s):=by
 obtain⟨r,h,t,o,D,z,B,C⟩:=h;refine⟨t,o,D,?_,B,C⟩;unfold dN al dd;rw[u];show(dh mF 100000000 st).bind _=_;rw[h];exact z
theorem Ty{s:Sem zn}(h:po s)(o:s.1=H6):RJ (dN s):=by
 obtain⟨u,E,F⟩:=bn h.chk h.cchk (w:=[]) sw;obtain⟨z,G,H⟩:=bn h.whr h.cwhr (w:=gE) sw;have M:=h.sh.table;have L:=h.sh.role;have J:=h.sh.other;have I:=h.sh.key;have B:(s.1==mT)=Q4:=by rw[o];rfl
 have C:(s.1==Ft)=Q4:=by rw[o];rfl
 have D:(s.1==H6)=Q3:=by rw[o];rfl
 refine Fg ?_ (zsQ h);simp only[gX,Q8,zk,u,z,B,C,D,if_true,zA,if_false]
theorem TB{s:Sem zn}(h:po s)(o:s.1=pt):RJ (dN s):=by
 obtain⟨u,H,I⟩:=bn h.chk h.cchk (w:=[]) sw;obtain⟨z,B,C⟩:=bn h.whr h.cwhr (w:=gE) sw;have O:=h.sh.table;have M:=h.sh.role;have L:=h.sh.other;have J:=h.sh.key;have D:(s.1==mT)=Q4:=by rw[o];rfl
 have E:(s.1==Ft)=Q4:=by rw[o];rfl
 have F:(s.1==H6)=Q4:=by rw[o];rfl
 have G:(s.1==pt)=Q3:=by rw[o];rfl
 refine Fg ?_ (zsR h (pS gE s.t.t.q.2.1) (bW s.t.t.q.2.1) C);simp only[gX,Q8,zk,u,z,B,D,E,F,G,if_true,zA,if_false]
theorem OS{s:Sem zn}(h:po s):RJ (dN s):=by
 by_cases n0:s.1=mT
 ·exact gp (Tw h n0)
 by_cases D:s.1=Ft
 ·exact gp (zbY h D)
 by_cases E:s.1=H6
 ·exact Ty h E
 by_cases F:s.1=pt
 ·exact TB h F
 by_cases G:s.1=Kh
 ·exact gp (Tx h G)
 by_cases H:s.1=pO
 ·exact gp (Tz h H)
 by_cases I:s.1=cT
 ·obtain⟨t,o,u,_⟩:=Rp h I;exact⟨t,_,_,o,u,eE h (.inl rfl) (.inr rfl) (.inr rfl) (.inr rfl) (.inl rfl) (.inr rfl) (.inr rfl) (.inr rfl)⟩
 by_cases J:s.1=eX
 ·obtain⟨o,u⟩:=Rq h J;exact⟨_,_,_,o,u,eE h (.inr rfl) (.inr rfl) (.inr rfl) (.inr rfl) (.inl rfl) (.inr rfl) (.inr rfl) (.inr rfl)⟩
 by_cases L:s.1=kq
 ·obtain⟨t,o,u,_⟩:=M8 h L;exact⟨t,_,_,o,u,eE h (.inl rfl) (.inr rfl) (.inr rfl) (.inr rfl) (.inl rfl) (.inr rfl) (.inr rfl) (.inr rfl)⟩
 by_cases M:s.1=PA
 ·exact gp (zb0 h M)
 by_cases z:s.1=xm
 ·exact gp (Yw h z)
 by_cases B:s.1=AR
 ·exact gp (TA h B)
 by_cases C:s.1=Cv
 ·exact gp (Pf h C)
 exact gp (zbZ h n0 D E F G H I J L M z B C)
theorem zeb(p:Int->Bool):∀s:zD,cR p s=Io s↔∀c∈s,p c.toNat=Q3
 |[]=>by simp[cR]
 | c::r=>by
  have u:=Bo p r;have o:=zeb p r;rw[cR];by_cases h:p c.toNat=Q3
  ·rw[if_pos h];simp[h,o]
  ·rw[if_neg h];simp[h]
theorem zsF(p:Int->Bool)(s:zD):aP p p s=Io s↔∀c∈s,p c.toNat=Q3:=by
 cases s with
 |nil=>simp[aP]
 | cons c r=>
  have u:=Bo p r;have o:=zeb p r;rw[aP];by_cases h:p c.toNat=Q3
  ·rw[if_pos h];simp[h,o]
  ·rw[if_neg h];simp[h]
theorem zbE:∀s:zD,(cond ((↑(Io s):Int)==1) (Q0 (0<=Lib.indexByte zgN (List.headD s 0))) Q4)=
  (cond (s==[40]) Q3 (cond (s==[41]) Q3 (cond (s==[44]) Q3 (cond (s==[61]) Q3 (cond (s==[60]) Q3 (cond (s==[43]) Q3 (cond (s==[45]) Q3 (s==[42]))))))))
 |[]=>rfl
 | a::b::r=>by
  have e:((((a::b::r).length:Nat):Int)==1)=Q4:=cd.2 sg;rw[e];simp
 | [c]=>by
  by_cases h:c=40
  ·subst h;rfl
  by_cases o:c=41
  ·subst o;rfl
  by_cases u:c=44
  ·subst u;rfl
  by_cases z:c=61
  ·subst z;rfl
  by_cases B:c=60
  ·subst B;rfl
  by_cases C:c=43
  ·subst C;rfl
  by_cases D:c=45
  ·subst D;rfl
  by_cases E:c=42
  ·subst E;rfl
  simp[Lib.indexByte,h,o,u,z,B,C,D,E,Ne.symm h,Ne.symm o,Ne.symm u,Ne.symm z,Ne.symm B,Ne.symm C,Ne.symm D,Ne.symm E]
theorem Mz{t:Sem cg}(o:Io t.2<=1000000):Ju t=Q1 (cq t,()):=by
 obtain⟨k,s⟩:=t;have o:Io s<=1000000:=o;by_cases D:k=(1:Int)
 ·subst D;refine zM (r:=(.bool (ei s),[])) ?_ ?_
  ·simp only[Ly,Q8,yC o,Et o];rfl
  ·rfl
 by_cases E:k=(2:Int)
 ·subst E;have u:(Ly ((2,s):Sem cg)).val=Q1 (.inl (.h6 ((0:Nat):Int) ((2,s),()))):=rfl;have W:=mI (t:=wO) (Φ:=λr=>r=(.kb Q4,[])) 1 (λi=>.h6 (i:Int) ((2,s),())) (λi=>zY (getD s i 0).toNat=Q3) (Io s) (by
   intro i u _;have J:(wO (.h6 (i:Int) ((2,s),()))).val=if(!zY (getD s i 0).toNat)=Q3 then Q1 (.inr (.kb Q4,[]))else Q1 (.inl (.h6 ((i+1:Nat):Int) ((2,s),()))):=by
    show(wO (.h6 _ _)).val=_;unfold wO;simp only[Q8,zF u,zt u,aD,eS,fZ,if_true];rw[zr i um]
   by_cases h:zY (getD s i 0).toNat=Q3
   ·exact .inl ⟨h,zL.of (by rw[J,if_neg (by rw[h];simp)])⟩
   ·exact .inr ⟨h,_,zV.of (by rw[J,if_pos (by simpa using h)]),rfl⟩)
  have H:=az (l:=s) (d:=0) (Q:=λc=>zY c.toNat=Q3);have I:=zsF zY s;have C:cq ((2,s):Sem cg)=(cond (Q0 ((↑(Io s):Int)>=1)) (cond (Q0 ((↑(Io s):Int)<=19)) ((↑(aP zY zY s):Int)==(↑(Io s):Int)) Q4) Q4):=rfl;rw[C];rcases W with⟨z,B⟩|⟨z,r,B,rfl⟩
  ·have e:((↑(aP zY zY s):Int)==(↑(Io s):Int))=Q3:=by rw[I.2 (H.1 z)];simp
   rw[e];refine zy u (B.ends (zV.of (r:=(.bool (cond (Q0 (1<=(Io s:Int))) (Q0 ((Io s:Int)<=19)) Q4),[])) ?_)) ow ?_
   ·show(wO (.h6 _ _)).val=_;unfold wO;simp only[Q8,zB];rfl
   ·show Q1 _=Q1 _;rw[show Q0 ((↑(Io s):Int)>=1)=Q0 (1<=(Io s:Int))from rfl];cases Q0 ((Io s:Int)<=19)<;>rfl
  ·have e:((↑(aP zY zY s):Int)==(↑(Io s):Int))=Q4:=by
    rw[cd];intro h;exact z (H.2 (I.1 ow))
   rw[e];refine zy u B ow ?_;show Q1 _=Q1 _;cases Q0 ((↑(Io s):Int)>=1)<;>cases Q0 ((↑(Io s):Int)<=19)<;>rfl
 by_cases L:k=(3:Int)
 ·subst L;refine zM (r:=(.bool (aU (2,0,s)),[])) ?_ ?_
  ·simp only[Ly,Q8,lD (v:=(2,0,s)) o,oE (v:=(2,0,s)) o];rfl
  ·rfl
 by_cases M:k=(4:Int)
 ·subst M;have X:=zbE s;refine zM (r:=(.bool _,[])) rfl ?_;show Q1 _=Q1 _;rw[show cq ((4,s):Sem cg)=_ from X]
 have O:(k==1)=Q4:=cd.2 D;have S:(k==2)=Q4:=cd.2 E;have F:(k==3)=Q4:=cd.2 L;have G:(k==4)=Q4:=cd.2 M;have T:((1:Int)==k)=Q4:=cd.2 (Ne.symm D);have U:((2:Int)==k)=Q4:=cd.2 (Ne.symm E);have C:cq ((k,s):Sem cg)=Q4:=by
  unfold cq;simp[F,G,T,U]
 rw[C];refine zM (r:=(.kb Q4,[])) ?_ rfl;simp only[Ly,Q8,O,S,F,G];rfl
theorem wl{t:Sem cg}(h:Io t.2<=1000000):iL t=Q3:=by unfold iL;rw[Mz h];rfl
theorem BN{t:Sem cg}(h:Io t.2<=1000000):mo t=cq t:=by unfold mo;rw[Mz h];rfl
end Cad
