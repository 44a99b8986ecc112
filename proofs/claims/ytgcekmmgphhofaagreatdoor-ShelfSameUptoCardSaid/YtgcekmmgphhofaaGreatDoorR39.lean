/- States. -/
import Derived.Test.YtgcekmmgphhofaaGreatDoorR38
namespace Cad
open Go Go.Proofs Tryz
open List renaming length->Io,length->M
open IntKind renaming wrap->Γ,i64->Δ
open Tr renaming chk->Qd,«to»->Qa,val->Q9
open AO renaming box->Qb
open Sh renaming bool->Q8
open Bool renaming true->Z,false->J
open Option renaming some->Q1,some->Y
open Decidable renaming decide->L
open Int renaming toNat->T
open Tr (chk br re)
open AV (nils agg tup ptr kb str)
open AV renaming sl->O
open Cad renaming Sem->N,ai->I,Tr->K,ow->S,AV->R
set_option maxHeartbeats 4000000
noncomputable section
abbrev zn5:=fZ [(5,[1,12,13,14])]
inductive QJ where
 |h5 (l12:List (N ((Sh.str.pr (Sh.str.pr (Sh.str.pr (zN.pr (zi.sl.pr zi))))).pr (zl.sl.pr ((ze.sl.pr (Sh.int IntKind.u8).sl).pr zi))))) (i13:Int) (i14:Int) (z0:zn eL)
abbrev zrI:QJ->Nat×St
 |.h5 l i h z=>(5,⟨tm 46 [(1,ptr 0 0),(12,O ((Sh.str.pr (Sh.str.pr (Sh.str.pr (zN.pr (zi.sl.pr zi))))).pr (zl.sl.pr ((ze.sl.pr (Sh.int IntKind.u8).sl).pr zi))) l),(13,I i),(14,I h)],[Qb (fD [] eL z)]⟩)
def zaj(x:bu):K (QJ⊕ac):=
 let a:=(x.1,x.2.1,x.q,())
 let h:=pU a
 Qd (nX a)
 (Qd (Ec h.1)
  (br (Rr h.1!=0) (re (I 1) []) (Qa (QJ.h5 x.q (M x.q:Int) 0 (x.1,x.2.1,x.q,())))))
def Ll:QJ->K (QJ⊕ac)
 | .h5 l h i z=>
  let x:=L (i>0)
  let b:=Γ Δ (i-1)
  let j:=List.getD z.q.1 b.toNat (zk cZ)
  let a:=l.getD i.toNat (zk ((Sh.str.pr (Sh.str.pr (Sh.str.pr (zN.pr (zi.sl.pr zi))))).pr (zl.sl.pr ((ze.sl.pr (Sh.int IntKind.u8).sl).pr zi))))
  let c:=((a.1.1,a.1.2.1,a.1.q.1,(a.1.r.1.1,a.1.r.1.2.1,a.1.r.1.q.1,a.1.r.1.r.1,a.1.r.1.t.1,zP a.1.r.1.u),a.1.t),a.2)
  let d:=(z.1,z.2.1,z.q.1)
  let g:=De d
  br (L (i<h))
  (Qd (zT i (M l)) (Qd (cond x (zT b (M z.q.1)) Z) (br (cond x (!Op.bytesLess j.1.r.1.1 a.1.r.1.1) J) (re (I 1) []) (Qd (N8 z.1 c) (br (!Yx z.1 c) (re (I 1) []) (Qa (QJ.h5 l h (Γ Δ (i+1)) z)))))))
  (Qd (wM d) (Qd (Ec g) (re (I (Rr g)) [])))
def uH(x:bu):=aA [zi] Ll 100000000 (zaj x)
def Ip(x:bu):=(uH x).isSome
def N6(x:bu):=o1 (uH x)
def zjP:=FT [bL] [zi] λx=>uH x.1
theorem zeM:FK 12 zjP:=vK.T1 (f:=f12) (keep:=zn5) (e:=zrI)
abbrev ztY:=fZ [(4,[2,3,5])]
inductive H8l where
 |h4 (i5:Int) (ja0:zH) (ja1:List (N (Sh.str.pr (Sh.str.pr Q8)))) (ja2:List (N ((Sh.str.pr (Sh.str.pr (Sh.str.pr (zN.pr (zi.sl.pr zi))))).pr (zl.sl.pr ((ze.sl.pr (Sh.int IntKind.u8).sl).pr zi))))) (jb0:zH) (jb1:List (N (Sh.str.pr (Sh.str.pr Q8)))) (jb2:List (N ((Sh.str.pr (Sh.str.pr (Sh.str.pr (zN.pr (zi.sl.pr zi))))).pr (zl.sl.pr ((ze.sl.pr (Sh.int IntKind.u8).sl).pr zi)))))
abbrev e8l:H8l->Nat×St
 |.h4 i j h x a b c=>(4,⟨tm 69 [(2,ptr 0 0),(3,ptr 1 0),(5,I i)],[Qb [O zl j,O (Sh.str.pr (Sh.str.pr Q8)) h,O ((Sh.str.pr (Sh.str.pr (Sh.str.pr (zN.pr (zi.sl.pr zi))))).pr (zl.sl.pr ((ze.sl.pr (Sh.int IntKind.u8).sl).pr zi))) x],Qb [O zl a,O (Sh.str.pr (Sh.str.pr Q8)) b,O ((Sh.str.pr (Sh.str.pr (Sh.str.pr (zN.pr (zi.sl.pr zi))))).pr (zl.sl.pr ((ze.sl.pr (Sh.int IntKind.u8).sl).pr zi))) c]]⟩)
def i8l(x h:bu):K (H8l⊕ac):=
 Qd (mB x&&(mB h&&Cq (lJ x) (lJ h)))
 (br (cond (!Hs (lJ x) (lJ h)) Z ((M x.q:Int)!=(M h.q:Int))) (re (kb J) [])
  (Qa (H8l.h4 0 x.1 x.2.1 x.q h.1 h.2.1 h.q)))
def t8l:H8l->K (H8l⊕ac)
 | .h4 i b c j d g x=>
  let a:=j.getD i.toNat (zk ((Sh.str.pr (Sh.str.pr (Sh.str.pr (zN.pr (zi.sl.pr zi))))).pr (zl.sl.pr ((ze.sl.pr (Sh.int IntKind.u8).sl).pr zi))))
  let l:=(a.1.1,a.1.2.1,a.1.q.1,(a.1.r.1.1,a.1.r.1.2.1,a.1.r.1.q.1,a.1.r.1.r.1,a.1.r.1.t.1,zP a.1.r.1.u),a.1.t)
  let h:=x.getD i.toNat (zk ((Sh.str.pr (Sh.str.pr (Sh.str.pr (zN.pr (zi.sl.pr zi))))).pr (zl.sl.pr ((ze.sl.pr (Sh.int IntKind.u8).sl).pr zi))))
  let m:=(h.1.1,h.1.2.1,h.1.q.1,(h.1.r.1.1,h.1.r.1.2.1,h.1.r.1.q.1,h.1.r.1.r.1,h.1.r.1.t.1,zP h.1.r.1.u),h.1.t)
  let o:=!tZ l m
  let p:=!lU a.2.1 h.2.1
  br (L (i<(M j:Int)))
  (Qd (zT i (M j)) (Qd (zT i (M x)) (Qd (KR l m&&bif o then Z else Hx a.2.1 h.2.1&&bif p then Z else KS a.q.1 h.q.1) (br (cond o Z (cond p Z (cond (!yQ a.q.1 h.q.1) Z (a.r !=h.r))))
  (re (kb J) []) (Qa (H8l.h4 (Γ Δ (i+1)) b c j d g x))))))
  (re (kb Z) [])
def Ct(x h:bu):=aA [Q8] t8l 100000000 (i8l x h)
def KT(x h:bu):=(Ct x h).isSome
def Ht(x h:bu):=o1 (Ct x h)
def F8l:=FT [bL,bL] [Q8] λx=>Ct x.1 x.2.1
theorem zmb:FK 7 F8l:=vK.T1 (f:=f7) (keep:=ztY) (e:=e8l)
def zdg:=zdf.addL [(12,zjP),(7,F8l)]
theorem EL:zm zdg:=vK.addL<|fc zeM<|fc zmb<|ip
theorem Pa(a b:jD):VK a b=Z:=by
 have h:∃e,(zhv a b).val=Y (.inr (I e,[])):=by
  simp only[zhv,Q9];split
  .exact⟨_,rfl⟩
  .split<;>exact⟨_,rfl⟩
 have⟨e,h⟩:=h;unfold VK Pb;rw[zG h (y:=(e,())) rfl];rfl
theorem JY(s:zD):BA s=Z:=rfl
def IsN(r:ac):Prop:=∃e:Int,r=(I e,[])
theorem Sa{l:pQ}(p:M l<=1000000):∃e:Int,JX l=Y (e,()):=by
 have m:∀n:Nat,2000000<=n->∃r,cg uv n (.h10 l ((0+1:Nat):Int))=Y r/\IsN r:=λn g=>by
  refine di (t:=uv) (β:=Unit) (M l-1) (λ_ i=>.h10 l ((i+1:Nat):Int)) (λ_ _=>True) IsN 1 ?_ ?_ (M l-1) 0 () n rfl (zU _) trivial S
  .intro _ i x _;have h:i+1<M l:=by omega
   have c:Γ Δ (((i+1:Nat):Int)-1)=(i:Int):=by rw[kx S S];rfl
   by_cases b:L (GE.ge (α:=Int) (znb (l.getD i (zk aD)) (l.getD (i+1) (zk aD))) 0)=Z
   .refine .inr ⟨(I 15,[]),?_,_,rfl⟩;simp only[uv,Q9,z6 h,zx h,c,zx (show i<M l by omega),bB,Pa,b,zj]
   .refine .inl ⟨(),trivial,?_⟩;simp only[uv,Q9,z6 h,zx h,c,zx (show i<M l by omega),bB,Pa,zj];rw[zh b,zz _ um]
  .intro _ n _ g;obtain⟨n,rfl⟩:∃k,n=k+1:=⟨n-1,S⟩;refine⟨(I 0,[]),?_,_,rfl⟩;rw[cq];simp only[uv,Q9];rw[zh sg]
 obtain⟨r,h,e,rfl⟩:∃r,cg uv 100000000 (.h2 l l (M l:Int) ((0:Nat):Int))=Y r/\IsN r:=by
  refine di (t:=uv) (β:=Unit) (M l) (λ_ i=>.h2 l l (M l:Int) (i:Int)) (λ_ _=>True) IsN 3000000 ?_ ?_ (M l) 0 () 100000000 rfl (zU _) trivial S
  .intro _ i x _;have d:(BA l[i].1&&bif !Fa l[i].1 then Z else BA l[i].2.1)=Z:=by rw[JY,JY];cases Fa l[i].1<;>rfl
   by_cases b:(cond (!Fa l[i].1) Z (cond (!Fa l[i].2.1) Z (l[i].1==[97,100,109,105,110])))=Z
   .refine .inr ⟨(I 1,[]),?_,_,rfl⟩;simp only[uv,Q9,z6 x,zx x,bt _ _ x,d,b,zj]
   .refine .inl ⟨(),trivial,?_⟩;simp only[uv,Q9,z6 x,zx x,bt _ _ x,d,zj];rw[zh b,zz _ um]
  .intro _ n _ g;obtain⟨n,rfl⟩:∃k,n=k+1:=⟨n-1,S⟩;rw[cq];by_cases a:L ((M l:Int)>60)=Z
   .refine⟨(I 13,[]),?_,_,rfl⟩;simp only[uv,Q9,aw,a,zO,zj,zr]
   .have⟨r,j,o⟩:=m n S;refine⟨r,?_,o⟩;simp only[uv,Q9,aw,zO,zr];rw[zh a];exact j
 have h:cg uv 100000000 (.h2 l l (M l:Int) 0)=Y (I e,[]):=h;refine⟨e,?_⟩;unfold JX aA b6;show(cg uv 100000000 _).bind _=_;rw[h];rfl
theorem Ed{x:iD}(l:∀r∈x.1,gh r)(u:M x.2<=1000000):∃e:Int,Jm x=Y (e,())/\(e=0->dO x.1):=by
 have m:=ng l;have⟨g,o⟩:=Sa u;have p:O9 x.2=Z:=by unfold O9;rw[o];rfl
 have d:(jS x.1&&bif fI x.1!=0 then Z else O9 x.2)=Z:=by rw[m,p];cases(fI x.1!=0)<;>rfl
 by_cases b:(cond (fI x.1!=0) Z (zna x.2!=0))=Z
 .refine⟨1,zG (r:=(I 1,[])) ?_ rfl,λh=>by cases h⟩;simp only[zag,Q9,d,b,zj]
 have c:fI x.1=(0:Int):=by
  by_cases h:fI x.1=(0:Int)
  .exact h
  .exact zp (by rw[show(fI x.1!=0)=Z by simpa using h];rfl) b
 have s:=(iN l).1 c;obtain⟨r,q,e,rfl⟩:∃r,cg NO 100000000 (.h4 x.2 (M x.2:Int) ((0:Nat):Int) x.1 x.2)=Y r/\IsN r:=by
  refine di (t:=NO) (β:=Unit) (M x.2) (λ_ i=>.h4 x.2 (M x.2:Int) (i:Int) x.1 x.2) (λ_ _=>True) IsN 1 ?_ ?_ (M x.2) 0 () 100000000 rfl (zU _) trivial S
  .intro _ i a _;by_cases j:L (LT.lt (α:=Int) (ab x.1 x.2[i].2.1) 0)=Z
   .refine .inr ⟨(I 1,[]),?_,_,rfl⟩;simp only[NO,Q9,z6 a,zx a,bt _ _ a,j,zj]
   .refine .inl ⟨(),trivial,?_⟩;simp only[NO,Q9,z6 a,zx a,bt _ _ a,zj];rw[zh j,zz _ um]
  .intro _ n _ v;obtain⟨n,rfl⟩:∃k,n=k+1:=⟨n-1,S⟩;refine⟨(I 0,[]),?_,_,rfl⟩;rw[cq];simp only[NO,Q9,aw,zO,zr]
 refine⟨e,?_,λ_=>s⟩;unfold Jm aA b6;have a:(zag x).val=Y (.inl (.h4 x.2 (M x.2:Int) ((0:Nat):Int) x.1 x.2)):=by
  simp only[zag,Q9,d,zj];rw[zh b];rfl
 rw[a];show(cg NO 100000000 _).bind _=_;rw[q];rfl
structure Zj (l:bu):Prop where
 db:∀x∈l.1,wV x
 gr:M l.2.1<=1000
 mv:M l.q<=4
 moves:∀m∈l.q,oL m
theorem Lz{l:bu}(c:Zj l):∃e:Int,uH l=Y (e,())/\(e=0->dO l.1/\∀m∈l.q,nZ l.1 m):=by
 have hz:Ak (l.1,l.2.1,l.q,())=Y (((l.1,l.2.1),()),(l.1,l.2.1,l.q,())):=tV (r:=(.agg [O zl l.1,O (Sh.str.pr (Sh.str.pr Q8)) l.2.1],aE eL (l.1,l.2.1,l.q,()))) rfl (b7 _ rfl);have zC:nX (l.1,l.2.1,l.q,())=Z:=by unfold nX;rw[hz];rfl
 have zv:(pU (l.1,l.2.1,l.q,())).1=(l.1,l.2.1):=by unfold pU;rw[hz];rfl
 have⟨e,H,o⟩:=Ed (x:=(l.1,l.2.1)) (λr s=>(c.db r s).short) (by have:=c.gr;show M l.2.1<=_;omega);have U:Ec (l.1,l.2.1)=Z:=by unfold Ec;rw[H];rfl
 have ev:Rr (l.1,l.2.1)=e:=by unfold Rr;rw[H];rfl
 by_cases p:e=0;rotate_left
 .refine⟨1,zG (r:=(I 1,[])) ?_ rfl,λh=>by cases h⟩;have:(e !=0)=Z:=by simpa using p
  simp only[zaj,Q9,zC,zv,U,ev,this,zj]
 have u:dO l.1:=o p;subst p;have a:(zaj l).val=Y (.inl (.h5 l.q (M l.q:Int) ((0:Nat):Int) (l.1,l.2.1,l.q,()))):=by
  simp only[zaj,Q9,zC,zv,U,ev,zj,kF,zO,zr];rfl
 have h4:=c.mv;obtain⟨r,h1,e,rfl,h2⟩:∃r,cg Ll 100000000 (.h5 l.q (Io l.q:Int) ((0:Nat):Int) (l.1,l.2.1,l.q,()))=Q1 r/\∃e:Int,r=(ai e,[])/\(e=0->∀m∈l.q,nZ l.1 m):=by
  refine di (t:=Ll) (β:=Unit) (M l.q) (λ_ i=>.h5 l.q (M l.q:Int) (i:Int) (l.1,l.2.1,l.q,())) (λ_ i=>∀j(h:j<M l.q),j<i->nZ l.1 l.q[j]) _ 1 ?_ ?_ (M l.q) 0 () 100000000 rfl (zU _) (λ_ _ h=>zp h S) S
  .intro _ i a v;have o:(cond (L ((i:Int)>0)) (zT (Γ Δ ((i:Int)-1)) (M l.q)) Z)=Z:=by
    by_cases p:0<i
    .rw[zL (show(i:Int)>0 by omega),kx p S,bU];exact zx S
    .rw[aQ (show¬(i:Int)>0 by omega)];rfl
   by_cases w:(cond (L ((i:Int)>0)) (!Op.bytesLess (List.getD l.q (Γ Δ ((i:Int)-1)).toNat (zk cZ)).1.r.1.1 l.q[i].1.r.1.1) J)=Z
   .refine .inr ⟨(I 1,[]),?_,_,rfl,λh=>by cases h⟩;simp only[Ll,Q9,z6 a,zx a,bt _ _ a,o,w,zj]
   .have⟨b,D,b2⟩:=N9 u c.db (c.moves _ (bN a));have F:N8 l.1 l.q[i]=Z:=by unfold N8;rw[D];rfl
    have G:Yx l.1 l.q[i]=b:=by unfold Yx;rw[D];rfl
    cases b with
    | false=>
     refine .inr ⟨(I 1,[]),?_,_,rfl,λh=>by cases h⟩;simp only[Ll,Q9,z6 a,zx a,bt _ _ a,o,zt,aJ,F,G,zj,oR];rw[zh w]
    | true=>
     refine .inl ⟨(),λj h z=>?_,?_⟩
     .rcases Nat.lt_or_ge j i with A|h3
      .exact v j h A
      .obtain rfl:j=i:=by omega
       exact b2 rfl
     .simp only[Ll,Q9,z6 a,zx a,bt _ _ a,o,zt,aJ,F,G,zj,gv,zO,zr];rw[zh w,zz _ um]
  .intro _ n v hn;obtain⟨n,rfl⟩:∃k,n=k+1:=⟨n-1,S⟩;have d:∀m∈l.q,nZ l.1 m:=λm g=>by
    obtain⟨j,z,rfl⟩:=jf g;exact v j z z
   have⟨x,q1,q2⟩:=LB (l:=l) u c.db (λm g=>⟨c.moves m g,d m g⟩) h4;have sC:wM l=Z:=by unfold wM;rw[q1];rfl
   have sv:De l=(x,l.2.1):=by unfold De;rw[q1];rfl
   have C:∀r∈x,gh r:=λr s=>by
    have g:r.1∈x.map λr:zX=>r.1:=aN.2 ⟨r,s,rfl⟩
    rw[q2.tab]at g;have⟨y,hy,e⟩:=aN.1 g;have:=(c.db y hy).t;refine⟨?_,?_,(q2.rows r s).1⟩
    .rw[<-e];exact this.nuq
    .rw[<-e];exact this.nrf
   have⟨k,k1,_⟩:=Ed (x:=(x,l.2.1)) C (by have:=c.gr;show M l.2.1<=_;omega);have kC:Ec (x,l.2.1)=Z:=by unfold Ec;rw[k1];rfl
   have kv:Rr (x,l.2.1)=k:=by unfold Rr;rw[k1];rfl
   refine⟨(I k,[]),?_,k,rfl,λ_=>d⟩;rw[cq];simp only[Ll,Q9,aw,zO,zr,aJ,sC,sv,kC,kv,zj]
 refine⟨e,?_,λh=>⟨u,h2 h⟩⟩;unfold uH aA b6;rw[a];show(cg Ll 100000000 _).bind _=_;rw[h1];rfl
abbrev zmL:List CP:=[.nil,.nil,.nil]
abbrev zmM:List CP:=[.d (.sl zl),.d (.sl aD),.vec cZ]
abbrev ztS:Nat->aR:=λj=>if j=3 then{slots:=[1,2,3,4],prom:=[(3,Y 2,cZ)]}else{ }
inductive Dk where
 |h3 (i4:Int) (z0:zn eL) (z1:zn zmL) (z2:zn zmM)
abbrev e6l:Dk->Nat×St
 |.h3 i h x z=>(3,⟨tm 84 [(1,ptr 0 0),(2,ptr 1 0),(3,ptr 2 0),(4,I i)],[Qb (fD [] eL h),Qb (fD [] zmL x),Qb (fD [3] zmM z),AO.vec ((Sh.str.pr (Sh.str.pr (Sh.str.pr (zN.pr (zi.sl.pr zi))))).pr (zl.sl.pr ((ze.sl.pr (Sh.int IntKind.u8).sl).pr zi))) z.q.1]⟩)
def i6l(x:bu):K (Dk⊕ac):=
 Qd (GO x.1) (Qd (M8 x.2.1) (Qa (Dk.h3 0 (x.1,x.2.1,x.q,()) () (ot x.1,Wr x.2.1,[],()))))
def t6l:Dk->K (Dk⊕ac)
 | .h3 i4 x _ z=>
  let a0:=(M x.q.1:Int)
  let h:=List.getD x.q.1 i4.toNat (zk cZ)
  let a2:=(M h.q.1.1:Int)
  let a3:=(M h.q.1.2:Int)
  let a4:=L (a3>6)
  let a5:=L (0<=0)&&L (0<=6)&&L (6<=a3)
  let a6:=(M h.1.t.1:Int)
  let a7:=L (a6>12)
  let a8:=L (0<=0)&&L (0<=12)&&L (12<=a6)
  let a9:=List.take (T 6-T 0) (List.drop (T 0) h.q.1.2)
  let i:=L (M a9<=1073741824)
  let b:=L (h.r>1099511627776)
  let l:=(h.1.r.1.1,h.1.r.1.2.1,h.1.r.1.q.1,h.1.r.1.r.1,h.1.r.1.t.1,zP h.1.r.1.u)
  let c:=(h.1.1,h.1.2.1,h.1.q.1,l,List.take (T 12-T 0) (List.drop (T 0) h.1.t.1),h.1.u)
  let d:=ot h.2.1
  let m:=List.take (T 40-T 0) (List.drop (T 0) h.q.1.1)
  let o:=(m,a9)
  let p:=(d,o,1099511627776)
  let s:=[(c,p)]
  let a:=Γ Δ (i4+1)
  let v:=(d,o,h.r)
  let w:=[(c,v)]
  let g:=(h.1.1,h.1.2.1,h.1.q.1,l,h.1.t)
  let y:=[(g,p)]
  let A:=[(g,v)]
  let j:=L (M h.q.1.2<=1073741824)
  let C:=(m,h.q.1.2)
  let D:=(d,C,1099511627776)
  let F:=[(c,D)]
  let G:=(d,C,h.r)
  let H:=[(c,G)]
  let U:=[(g,D)]
  let h0:=[(g,G)]
  let h1:=(h.q.1.1,a9)
  let h2:=(d,h1,1099511627776)
  let h4:=[(c,h2)]
  let h5:=(d,h1,h.r)
  let h6:=[(c,h5)]
  let h7:=[(g,h2)]
  let h8:=[(g,h5)]
  let h9:=(d,h.q.1,1099511627776)
  let x0:=[(c,h9)]
  let x1:=(d,h.q)
  let x2:=[(c,x1)]
  let x3:=[(g,h9)]
  let x4:=[(g,x1)]
  br (cond (L (i4<a0)) (L (i4<4)) J)
  (Qd (zT i4 (M x.q.1)) (Qd (GO h.2.1) (br (L (a2>40)) (Qd (L (0<=0)&&L (0<=40)&&L (40<=a2)) (br a4 (Qd a5 (br a7 (Qd a8 (Qd i (br b (Qd (L (M z.q.1+M s<=1073741824)) (Qa (Dk.h3 a x () (z.1,z.2.1,z.q.1++s,()))))
  (Qd (L (M z.q.1+M w<=1073741824)) (Qa (Dk.h3 a x () (z.1,z.2.1,z.q.1++w,()))))))) (Qd i (br b (Qd (L (M z.q.1+M y<=1073741824)) (Qa (Dk.h3 a x () (z.1,z.2.1,z.q.1++y,())))) (Qd (L (M z.q.1+M A<=1073741824))
  (Qa (Dk.h3 a x () (z.1,z.2.1,z.q.1++A,())))))))) (br a7 (Qd a8 (Qd j (br b (Qd (L (M z.q.1+M F<=1073741824)) (Qa (Dk.h3 a x () (z.1,z.2.1,z.q.1++F,())))) (Qd (L (M z.q.1+M H<=1073741824)) (Qa (Dk.h3 a x () (z.1,z.2.1,z.q.1++H,()))))))) (Qd j (br b
  (Qd (L (M z.q.1+M U<=1073741824)) (Qa (Dk.h3 a x () (z.1,z.2.1,z.q.1++U,())))) (Qd (L (M z.q.1+M h0<=1073741824)) (Qa (Dk.h3 a x () (z.1,z.2.1,z.q.1++h0,()))))))))) (br a4 (Qd a5 (br a7 (Qd a8 (Qd i (br b (Qd (L (M z.q.1+M h4<=1073741824))
  (Qa (Dk.h3 a x () (z.1,z.2.1,z.q.1++h4,())))) (Qd (L (M z.q.1+M h6<=1073741824)) (Qa (Dk.h3 a x () (z.1,z.2.1,z.q.1++h6,()))))))) (Qd i (br b (Qd (L (M z.q.1+M h7<=1073741824)) (Qa (Dk.h3 a x () (z.1,z.2.1,z.q.1++h7,()))))
  (Qd (L (M z.q.1+M h8<=1073741824)) (Qa (Dk.h3 a x () (z.1,z.2.1,z.q.1++h8,())))))))) (br a7 (Qd a8 (Qd j (br b (Qd (L (M z.q.1+M x0<=1073741824)) (Qa (Dk.h3 a x () (z.1,z.2.1,z.q.1++x0,())))) (Qd (L (M z.q.1+M x2<=1073741824))
  (Qa (Dk.h3 a x () (z.1,z.2.1,z.q.1++x2,()))))))) (Qd j (br b (Qd (L (M z.q.1+M x3<=1073741824)) (Qa (Dk.h3 a x () (z.1,z.2.1,z.q.1++x3,())))) (Qd (L (M z.q.1+M x4<=1073741824)) (Qa (Dk.h3 a x () (z.1,z.2.1,z.q.1++x4,())))))))))))
  (re (agg [O zl z.1,O (Sh.str.pr (Sh.str.pr Q8)) z.2.1,AV.vec 0]) [AO.vec ((Sh.str.pr (Sh.str.pr (Sh.str.pr (zN.pr (zi.sl.pr zi))))).pr (zl.sl.pr ((ze.sl.pr (Sh.int IntKind.u8).sl).pr zi))) z.q.1])
def tI(x:bu):=aA [bL] t6l 100000000 (i6l x)
def qk(x:bu):=(tI x).isSome
def iv(x:bu):=o1 (tI x)
def F6l:=FT [bL] [bL] λx=>tI x.1
theorem zlT:FK 5 F6l:=EL.T1 (f:=f5) (keep:=ztS) (e:=e6l)
def zdh:=zdg.add 5 F6l
theorem RZ:zm zdh:=EL.add zlT
inductive WS where
 |new
 |on (l:List Int)
def WS.l:WS->List Int
 |.new=>[]
 |.on l=>l
def WS.b:WS->Bool
 |.new=>J
 |.on _=>Z
def Db:WS->List AO
 |.new=>[.box [.nilp,.nils]]
 |.on l=>[.box [.ptr 0 0,.vec 1],.vec (.int .u8) l]
def wOf:List AO->Option WS
 |[.box [.nilp,.nils]]=>Y .new
 |[.box [.ptr 0 0,.vec 1],.vec (.int .u8) l]=>Y (.on l)
 |_=>none
theorem N3{h:List AO}{s:WS}(e:wOf h=Y s):h=Db s:=by unfold wOf at e;split at e<;>first|(cases e;rfl)|cases e
def aI:Nat:=1073741824
def zi2(s:WS)(t:zD):List AO:=match s with
 |.new=>[.box [.ptr 0 0,.vec 1],.vec (.int .u8) (zR t)]
 |.on l=>[.box [.ptr 0 0,.vec 2],.dead,.vec (.int .u8) (l++zR t)]
abbrev N4(s:WS)(t:zD)(r:R):ac:=(r,zi2 s t)
def wG(b:Bool)(ks:List Sh)(c:zA (ks.map Y)->Bool)(f:zA (ks.map Y)->zD)(r:zA (ks.map Y)->R):ee (none::ks.map Y):=λx h=>match x.1 with
 | .ptr 0 0=>match wOf h with
  |some s=>.chk ((b||s.b)&&(c x.2&&L (s.l.length+(f x.2).length<=aI))) (.ok (N4 s (f x.2) (r x.2)))
  |none=>.err
 |_=>.err
abbrev wF(b:Bool)(ks:List Sh)(c:zA (ks.map Y)->Bool)(f:zA (ks.map Y)->zD)(r:zA (ks.map Y)->R:=λ_=>.tup []):zV:=au (none::ks.map Y) (wG b ks c f r)
def wN(ks:List Sh)(c:zA (ks.map Y)->Bool)(f:zA (ks.map Y)->zD)(r:zA (ks.map Y)->R):ee (none::ks.map Y):=λx h=>match x.1 with
 | .ptr 0 0=>match wOf h with
  |some .new=>.chk (c x.2&&L ((f x.2).length<=aI)) (.ok (N4 .new (f x.2) (r x.2)))
  |_=>.err
 |_=>.err
section
variable {P:Program} {gl:Nat->R} {σ:Type} {E:bS} {k:FuncId} {f:Func} {ks:List Sh} {keep:Nat->aR} {gas n:Nat} {e:σ->Nat×St} {t:σ->K (σ⊕ac)}
 {c:zA (ks.map Y)->Bool} {g:zA (ks.map Y)->zD} {r:zA (ks.map Y)->R}
theorem wP{i:zA (ks.map Y)->List Int->K (σ⊕ac)}(q:zm E)(u:zJ E.P k f (M ks+1))
  (d:∀x l,run E 2 keep f.results.toList gas (aK f) (aC f.ntmps (.ptr 0 0::gX (ks.map Y) x) (Db (.on l)))=(i x l).map (lf f e))
  (j:∀s,run E 2 keep f.results.toList gas (zZ f (e s).1) (e s).2=(t s).map (lf f e))
  (h:∀x l,c x=Z->M l+(g x).length<=aI->b6 t n (i x l)=Y (N4 (.on l) (g x) (r x))) (z:E.P=P:=by rfl) (w:E.gl=gl:=by rfl):ky P gl k (wF J ks c g r):=by
 refine gC (ι:=zA (ks.map Y)×List Int) (args:=λy=>.ptr 0 0::gX (ks.map Y) y.1) (heap:=λy=>Db (.on y.2)) (n0:=2) (n:=n) q (by simpa using u) (λ_=>rfl) (λy=>d y.1 y.2) j (λx C A a=>?_) z w;have⟨p,x⟩:=x;unfold wG at a;simp only at a;split at a
 case h_2=>simp at a
 split at a
 case h_2=>simp at a
 rename_i s v;cases s with
 |new=>simp[WS.b]at a
 | on l=>
  simp only[WS.b,WS.l,Bool.or_true,oT,Tr.val_chk,ar,Tr.val_ok,ax]at a;obtain⟨⟨m,o⟩,rfl⟩:=a;exact⟨(x,l),rfl,N3 v,h x l m (eB o)⟩
theorem Am{i:zA (ks.map Y)->K (σ⊕ac)}(m:zm E)(o:zJ E.P k f (M ks+1))
  (b:∀x,run E 1 keep f.results.toList gas (aK f) (aC f.ntmps (.ptr 0 0::gX (ks.map Y) x) (Db .new))=(i x).map (lf f e))
  (d:∀s,run E 1 keep f.results.toList gas (zZ f (e s).1) (e s).2=(t s).map (lf f e))
  (h:∀x,c x=Z->(g x).length<=aI->b6 t n (i x)=Y (N4 .new (g x) (r x))) (v:E.P=P:=by rfl) (u:E.gl=gl:=by rfl):ky P gl k (au (none::ks.map Y) (wN ks c g r)):=by
 refine gC (ι:=zA (ks.map Y)) (args:=λy=>.ptr 0 0::gX (ks.map Y) y) (heap:=λ_=>Db .new) (n0:=1) (n:=n) m (by simpa using o) (λ_=>rfl) (λy=>b y) d (λx z w a=>?_) v u;have⟨p,x⟩:=x;unfold wN at a;simp only at a;split at a
 case h_2=>simp at a
 split at a
 case h_2=>simp at a
 rename_i q;simp only[Tr.val_chk,ar,aT,Tr.val_ok,ax]at a;obtain⟨⟨j,l⟩,rfl⟩:=a;exact⟨x,rfl,N3 q,h x j l⟩
theorem Al(j:ky P gl k (wF J ks c g r))(m:ky P gl k (au (none::ks.map Y) (wN ks c g r))):ky P gl k (wF Z ks c g r):=by
 refine na (ι:=Bool) (Gs:=λb=>bif b then wG J ks c g r else wN ks c g r) (λb=>by cases b<;>assumption) λx a i h=>?_
 have⟨p,x⟩:=x;unfold wG at h;simp only at h;split at h
 case h_2=>simp at h
 split at h
 case h_2=>simp at h
 rename_i s d;cases s with
 | new=>
  refine⟨J,?_⟩;simp only[WS.b,WS.l,Bool.true_or,oT,cE,dz]at h;show(wN ks c g r (.ptr 0 0,x) a).val=_;unfold wN;simp only[d];exact h
 | on l=>
  refine⟨Z,?_⟩;simp only[WS.b,WS.l,Bool.true_or,oT]at h;show(wG J ks c g r (.ptr 0 0,x) a).val=_;unfold wG;simp only[d,WS.b,WS.l,Bool.or_true,oT];exact h
end
def A2:=(zdh.add 87 Tw).add 20 zea
theorem nt:zm A2:=(RZ.add YU).add zeW
abbrev zoL:=fZ []
theorem zp4:zJ A2.P 46 f46 2:=bG kw
def ztE(t:zD)(l:List Int):K (Empty⊕ac):=
 Qd (L (M l+(zR t).length<=1073741824))
 (re (tup [I (M t:Int),AV.ifc Z]) [Qb [ptr 0 0,AV.vec 2],AO.dead,AO.vec (Sh.int IntKind.u8) (l++zR t)])
abbrev zoM:=fZ []
theorem zp5:zJ A2.P 46 f46 2:=bG kw
def ztF(t:zD):K (Empty⊕ac):=
 Qd (L ((zR t).length<=1073741824))
 (re (tup [I (M t:Int),AV.ifc Z]) [Qb [ptr 0 0,AV.vec 1],AO.vec (Sh.int IntKind.u8) (zR t)])
abbrev zoO:=fZ []
theorem zp7:zJ A2.P 48 f48 2:=bG kw
def ztG(t:N (.int .u8))(l:List Int):K (Empty⊕ac):=
 Qd (L (M l+[t].length<=1073741824)) (re (AV.ifc Z) [Qb [ptr 0 0,AV.vec 2],AO.dead,AO.vec (Sh.int IntKind.u8) (l++[t])])
end
end Cad
