/- The document's cutting of a text. -/
import Derived.Test.YtgcekmmgphhofaaGreatDoorR22
namespace Cad
open Go Go.Proofs Tryz
open List renaming length->M
open IntKind renaming wrap->Γ,i64->Δ
open Tr renaming val->Q9
open Sh renaming bool->Q8
open Bool renaming true->Z,false->J
open Decidable renaming decide->L
open Int renaming toNat->T
open List renaming getD->W
open Tr (chk br re)
open AV (nils agg tup ptr kb str)
open AV renaming sl->O
open Cad renaming Sem->N,ze->Q,ai->I,Tr->K,ow->S
set_option maxHeartbeats 4000000
noncomputable section
variable {s:zD}
theorem v3{i:Nat}(e:M s<=1000000)(h:i<M s):∀{o:LW},M o<=1000000->∃z,(DI (hd3 s (i:Int) o)).val=some (
  if(cond ((s[i].toNat:Int)==32) Z ((s[i].toNat:Int)==10))=Z then .inl (hd3 s ((i+1:Nat):Int) o)
  else if bh s[i].toNat=Z then .inl (ztf s ((i+1:Nat):Int) s[i].toNat i z o)
  else if aM s[i].toNat=Z then .inl (ztg s ((i+1:Nat):Int) s[i].toNat i z o)
  else if s[i]=39 then .inl (zaf s ((i+1:Nat):Int) ((3,[]),()) o)
  else aft s (i+1) (4,[s[i]]) o):=by
 intro o d;refine⟨((4,[s[i]]),()),?_⟩;have w:Γ Δ ((i:Int)+1)=((i+1:Nat):Int):=zz i um;have g:(L (0<=(i:Int))&&L ((i:Int)<=((i+1:Nat):Int))&&L (((i+1:Nat):Int)<=(M s:Int)))=Z:=by simp;omega
 have c:xI ((4,[s[i]]):bV)=e9 (4,[s[i]]):=P3 (t:=((4,[s[i]]):ew)) sw;have a:pI ((4,[s[i]]):bV)=Z:=KU (t:=((4,[s[i]]):ew)) sw;have x:s[i]=39↔((s[i].toNat:Int)==39)=Z:=GK.symm;unfold aft;simp only[x];have b:(M o+[((4,[s[i]]):bV)].length<=1073741824):=by have:M o<=1000000:=d;simp;omega
 show(DI (.h3 _ _ _)).val=_;simp only[DI,w,kO s h,uz s h,z6 h,zx h,g,pK,se,sb,wn,Q9,zj,a,c,zL b];repeat' split
 all_goals first|rfl|simp_all
theorem kZ{a:aG}(A:M a.2.2.2.1<=1000)(C:M a.2.2.2.2.1<=1000)(D:M a.2.2.2.2.2.2.1<=1000)(E:M a.2.2.2.2.2.2.2.1<=1000)(u:M a.2.2.2.2.2.2.2.2.2.1<=1000)(v:M a.2.2.2.2.2.2.2.2.2.2.1<=1000):
  iC a=Z↔a.2.1=[]/\a.2.2.1=[]/\a.2.2.2.2.2.1=[]/\a.2.2.2.2.2.2.2.2.2.2.2.2=[]/\a.2.2.2.1=[]/\a.2.2.2.2.1=[]/\a.2.2.2.2.2.2.1=[]/\a.2.2.2.2.2.2.2.1=[]/\a.2.2.2.2.2.2.2.2.2.1=[]/\a.2.2.2.2.2.2.2.2.2.2.1=[]/\a.2.2.2.2.2.2.2.2.1=B2/\a.2.2.2.2.2.2.2.2.2.2.2.1=B2:=by
 unfold iC
 have w:(Γ Δ (Γ Δ (Γ Δ (Γ Δ (Γ Δ ((↑(M a.2.2.2.1):Int)+(↑(M a.2.2.2.2.1):Int))+(↑(M a.2.2.2.2.2.2.1):Int))+(↑(M a.2.2.2.2.2.2.2.1):Int))+(↑(M a.2.2.2.2.2.2.2.2.2.1):Int))+(↑(M a.2.2.2.2.2.2.2.2.2.2.1):Int)))=
   ((M a.2.2.2.1+M a.2.2.2.2.1+M a.2.2.2.2.2.2.1+M a.2.2.2.2.2.2.2.1+M a.2.2.2.2.2.2.2.2.2.1+M a.2.2.2.2.2.2.2.2.2.2.1:Nat):Int):=by
  have g:∀n:Nat,n<=10000->Γ Δ (n:Int)=(n:Int):=λn F=>oC n (by omega)
  rw[<-sA,g _ (by omega),<-sA,g _ (by omega),<-sA,g _ (by omega),<-sA,g _ (by omega),<-sA,g _ (by omega)]
 rw[w];constructor
 .intro h;obtain⟨k,h⟩:=ap h;obtain⟨l,h⟩:=ap h;obtain⟨y,z⟩:=ap h;simp only[be,List.append_eq_nil_iff]at k;obtain⟨⟨⟨x,e⟩,i⟩,j⟩:=k;have l:M a.2.2.2.1+M a.2.2.2.2.1+M a.2.2.2.2.2.2.1+M a.2.2.2.2.2.2.2.1+M a.2.2.2.2.2.2.2.2.2.1+M a.2.2.2.2.2.2.2.2.2.2.1=0:=by
   have:=aY l;exact Int.ofNat.inj this
  refine⟨x,e,i,j,?_,?_,?_,?_,?_,?_,uV.1 y,uV.1 z⟩<;>exact Do (by omega)
 .rintro⟨x,e,i,j,m,o,p,q,s,b,c,d⟩;rw[x,e,i,j,m,o,p,q,s,b,c,d,show jI B2=Z from rfl];rfl
inductive zv3 where
 |h4 (l1:LV) (i5:Int) (z0:zn [CP.d zN])
 |h9 (l1:LV) (i6:Int) (z0:zn [CP.d zN])
inductive zv4 where
 |h2 (l0:List (N ze.sl)) (i1:zy) (i5:Int)
 |h5 (l0:List (N ze.sl)) (i1:zy) (i5:Int) (i6:Int)
inductive zv5 where
 |h2 (i5:Int) (z0:zn [CP.d zl]) (z1:zn [CP.d Q])
def UN:=UM
theorem Mq:zm UN:=Mp
inductive zvT where
 |h6 (i3:Int) (z0:zn [CP.d zl])
 |h14 (i5:Int) (z0:zn [CP.d zl])
 |h19 (i6:Int) (z0:zn [CP.d zl])
inductive zvV where
 |h2 (l0:zH) (i3:Int)
 |h5 (l0:zH) (i3:Int) (i4:Int)
 |h12 (l0:zH) (i3:Int) (i4:Int) (i6:zy) (i7:Int) (z0:zn [CP.d zW])
def UO:=UN
theorem Mr:zm UO:=Mq
inductive H9p where
 |h4 (l0:zH) (i3:Int)
 |h9 (l0:zH) (i4:Int)
def UP:=UO
theorem np:zm UP:=Mr
abbrev zoz:=fZ [(4,[0,1,12,13])]
inductive QQ where
 |h4 (l0:da) (l1:da) (i12:Int) (i13:Int)
abbrev zr1:QQ->Nat×St
 |.h4 l x i h=>(4,⟨tm 26 [(0,O zi l),(1,O zi x),(12,I i),(13,I h)],[]⟩)
def zau(x h:N zi.sl):K (QQ⊕ac):=
 br ((M x:Int)!=(M h:Int)) (re (kb J) []) (Tr.to (QQ.h4 x h (M x:Int) 0))
def zqR:QQ->K (QQ⊕ac)
 | .h4 l x h i=>
  br (L (i<h))
  (chk (zT i (M l))
   (chk (zT i (M x)) (br (l.getD i.toNat (zk zi)!=x.getD i.toNat (zk zi)) (re (kb J) []) (Tr.to (QQ.h4 l x h (Γ Δ (i+1)))))))
  (re (kb Z) [])
def HU(x h:N zi.sl):=aA [Q8] zqR 100000000 (zau x h)
def HT(x h:N zi.sl):=(HU x h).isSome
def oA(x h:N zi.sl):=o1 (HU x h)
def zko:=FT [zi.sl,zi.sl] [Q8] λx=>HU x.1 x.2.1
theorem zfq:FK 126 zko:=np.T1 (f:=f126) (keep:=zoz) (e:=zr1)
abbrev zoZ:=fZ [(4,[0,1,12,13])]
inductive QU where
 |h4 (l0:aU) (l1:aU) (i12:Int) (i13:Int)
abbrev zsd:QU->Nat×St
 |.h4 l x i h=>(4,⟨tm 26 [(0,O zu l),(1,O zu x),(12,I i),(13,I h)],[]⟩)
def zaz(x h:N zu.sl):K (QU⊕ac):=
 br ((M x:Int)!=(M h:Int)) (re (kb J) []) (Tr.to (QU.h4 x h (M x:Int) 0))
def zqT:QU->K (QU⊕ac)
 | .h4 l b h i=>
  let a:=l.getD i.toNat (zk zu)
  let x:=b.getD i.toNat (zk zu)
  br (L (i<h))
  (chk (zT i (M l))
   (chk (zT i (M b)) (br (!(a.1==x.1&&(a.2.1==x.2.1&&(a.q==x.q&&Z)))) (re (kb J) []) (Tr.to (QU.h4 l b h (Γ Δ (i+1)))))))
  (re (kb Z) [])
def HR(x h:N zu.sl):=aA [Q8] zqT 100000000 (zaz x h)
def ND(x h:N zu.sl):=(HR x h).isSome
def xL(x h:N zu.sl):=o1 (HR x h)
def zkW:=FT [zu.sl,zu.sl] [Q8] λx=>HR x.1 x.2.1
theorem zf1:FK 125 zkW:=np.T1 (f:=f125) (keep:=zoZ) (e:=zsd)
abbrev zo0:=fZ [(4,[0,1,12,13])]
inductive QV where
 |h4 (l0:eu) (l1:eu) (i12:Int) (i13:Int)
abbrev zse:QV->Nat×St
 |.h4 l x i h=>(4,⟨tm 26 [(0,O zW l),(1,O zW x),(12,I i),(13,I h)],[]⟩)
def zaA(x h:N zW.sl):K (QV⊕ac):=
 br ((M x:Int)!=(M h:Int)) (re (kb J) []) (Tr.to (QV.h4 x h (M x:Int) 0))
def zqU:QV->K (QV⊕ac)
 | .h4 l x h i=>
  let a:=l.getD i.toNat (zk zW)
  let b:=x.getD i.toNat (zk zW)
  br (L (i<h))
  (chk (zT i (M l))
   (chk (zT i (M x)) (br (!(a.1==b.1&&(a.2==b.2&&Z))) (re (kb J) []) (Tr.to (QV.h4 l x h (Γ Δ (i+1)))))))
  (re (kb Z) [])
def HS(x h:N zW.sl):=aA [Q8] zqU 100000000 (zaA x h)
def NE(x h:N zW.sl):=(HS x h).isSome
def xM(x h:N zW.sl):=o1 (HS x h)
def zkX:=FT [zW.sl,zW.sl] [Q8] λx=>HS x.1 x.2.1
theorem zf2:FK 127 zkX:=np.T1 (f:=f127) (keep:=zo0) (e:=zse)
def US:=UP.addL [(126,zko),(125,zkW),(127,zkX)]
theorem AX:zm US:=np.addL<|fc zfq<|fc zf1<|fc zf2 ip
def znM(x h:am):K (Empty⊕ac):=
 let a:=x.1==h.1
 let b:=x.q.1==h.q.1
 let c:=xL x.2.1 h.2.1
 let d:=oA x.r.1 h.r.1
 let e:=xM x.t.1 h.t.1
 let g:=zP x.u
 let i:=zP h.u
 chk
 (bif a then
  bif b then ND x.2.1 h.2.1&&bif c then HT x.r.1 h.r.1&&bif d then NE x.t.1 h.t.1&&bif e then jC 16 g i else Z else Z else Z
  else Z
 else Z)
 (re (AV.bool (cond a (cond b (cond c (cond d (cond e (gz 16 g i) J) J) J) J) J)) [])
def Ib(x h:am):=aA [Q8] t0 100000000 (znM x h)
def C1(x h:am):=(Ib x h).isSome
def mU(x h:am):=o1 (Ib x h)
def zkn:=FT [zN,zN] [Q8] λx=>Ib x.1 x.2.1
theorem zfp:FK 79 zkn:=AX.T1 (f:=f79) (keep:=k0) (e:=e0)
def UT:=US.add 79 zkn
theorem Mu:zm UT:=AX.add zfp
def UW:=UT
theorem AY:zm UW:=Mu
theorem xA(x:zD):∀(l:List zD)(i:Nat),GE.ge (α:=Int) (iu x l (i:Int)) 0↔x∈l
 | [],i=>by
  rw[iu];exact⟨λh=>zp h (by decide),λh=>by cases h⟩
 | a::r,i=>by
  rw[iu];split
  .rename_i h;have:x=a:=by simpa using h
   subst this;exact⟨λ_=>sy,λ_=>Int.natCast_nonneg i⟩
  next h=>have:=xA x r (i+1);rw[sA]at this;rw[bD];refine⟨λb=>.inr (this.1 b),λb=>this.2 (b.resolve_left ?_)⟩;rintro rfl;simp at h
theorem nF(l:List zD)(x:zD):bJ l x=Z↔x∈l:=by unfold bJ;rw[decide_eq_true_iff];exact xA x l 0
theorem xx{α:Type}(p:α->Bool):∀(l:List α)(i:Nat),(!L (aj p l i>=0))=Z↔∀x∈l,p x=J
 | [],i=>by
  refine⟨λ_ x a=>(by cases a),λ_=>?_⟩;rw[aj];rfl
 | y::r,i=>by
  refine⟨λh=>pp p _ i h,λh=>?_⟩;rw[aj,h y sw];exact(xx p r (i+1)).2 λx a=>h x (by simp[a])
theorem So{α:Type}(p:α->Bool)(l:List α):L (GE.ge (α:=Int) (aj p l 0) 0)=Z↔∃x∈l,p x=Z:=by
 have h:=xx p l 0;constructor
 .intro a;apply sB;intro d;have:=h.2 λx c=>by
   cases b:p x
   .rfl
   .exact zp ⟨x,c,b⟩ d
  rw[a]at this;cases this
 .rintro⟨x,c,b⟩;cases a:L (GE.ge (α:=Int) (aj p l 0) 0)
  .have:=h.1 (by rw[a];rfl) x c;rw[b]at this;cases this
  .rfl
abbrev Gh:List CP:=[.d .str,.d .str,.d .str,.d .str,.nil,.d zi,.nil,.nil,.d .str,.d zi,.d zi,.d .str,.d .str,.nil,.nil,.d zi]
abbrev ZM:List CP:=[.d .str,.d .str,.d .str,.d .str,.nil,.d zi,.nil,.nil,.d .expr,.nil,.d zi]
abbrev zmN:List CP:=[.d .str,.d .str,.d .str,.d .str,.vec zu,.d zi,.nil,.nil,.d .expr,.d (.sl zi),.d zi]
abbrev zrw:List CP:=[.d .str,.d .str,.d .str,.d .str,.d (.sl zu),.d zi,.nil,.nil,.d .expr,.d (.sl zi),.d zi]
abbrev zmO:List CP:=[.d .str,.d .str,.d .str,.d .str,.vec zu,.d zi,.nil,.nil,.d .expr,.vec zi,.d zi]
def znE(x h:an):K (Empty⊕ac):=
 let a:=x.1==h.1
 let b:=x.2.1==h.2.1
 let c:=x.q.1==h.q.1
 let d:=x.u==h.u
 let e:=(x.r.1.1,x.r.1.2.1,x.r.1.q.1,x.r.1.r.1,x.r.1.t.1,zP x.r.1.u)
 let g:=(h.r.1.1,h.r.1.2.1,h.r.1.q.1,h.r.1.r.1,h.r.1.t.1,zP h.r.1.u)
 let i:=mU e g
 chk
 (bif a then
  bif b then bif c then bif d then C1 e g&&bif i then HT x.t.1 h.t.1 else Z else Z else Z else Z
 else Z)
 (re
  (AV.bool (cond a (cond b (cond c (cond d (cond i (oA x.t.1 h.t.1) J) J) J) J) J))
  [])
def Ha(x h:an):=aA [Q8] t0 100000000 (znE x h)
def G9(x h:an):=(Ha x h).isSome
def Ce(x h:an):=o1 (Ha x h)
def zjI:=FT [ao,ao] [Q8] λx=>Ha x.1 x.2.1
theorem zeF:FK 120 zjI:=AY.T1 (f:=f120) (keep:=k0) (e:=e0)
inductive zvN where
 |h7 (l0:zH) (l9:List (N Sh.str)) (i10:Int) (z0:zn [CP.d bQ]) (z1:zn Gh) (z2:zn ZM)
 |h24 (i13:Int) (z0:zn [CP.d bQ]) (z1:zn Gh) (z2:zn zmN) (z3:zn [CP.d zN])
 |h38 (i16:Int) (z0:zn [CP.d bQ]) (z1:zn Gh) (z2:zn ZM) (z3:zn [CP.d zN]) (z4:zn [CP.d zN])
 |h64 (i20:Int) (z0:zn [CP.d bQ]) (z1:zn Gh) (z2:zn zrw)
 |h64b (i20:Int) (z0:zn [CP.d bQ]) (z1:zn Gh) (z2:zn ZM)
 |h64bb (i20:Int) (z0:zn [CP.d bQ]) (z1:zn Gh) (z2:zn zmN)
 |h38b (b15:Bool) (i16:Int) (z0:zn [CP.d bQ]) (z1:zn Gh) (z2:zn ZM) (z3:zn [CP.d zN]) (z4:zn [CP.d zN])
 |h48 (i17:Int) (z0:zn [CP.d bQ]) (z1:zn Gh) (z2:zn zmO) (z3:zn [CP.d zN])
 |h64bbb (i20:Int) (z0:zn [CP.d bQ]) (z1:zn Gh) (z2:zn zmO)
def Gu:=UW.addL [(120,zjI)]
theorem Mv:zm Gu:=AY.addL<|fc zeF<|ip
theorem O3{g c:zg->zg->Bool}:∀(l m:List zg),M l=M m->(∀x∈l,∀y,c x y=Z/\(g x y=Z↔x=y))->R7 g c l m=Z/\(ZX g l m=Z↔l=m)
 |[],[],_,_=>⟨rfl,by simp[ZX]⟩
 |[],_::_,h,_=>by simp at h
 |_::_,[],h,_=>by simp at h
 | x::r,y::q,h,hx=>by
  have⟨d,b⟩:=hx x sw y;have⟨i,j⟩:=O3 r q (by simpa using h) (λz n=>hx z (by simp[n]));rw[R7,ZX];rw[d];by_cases k:g x y=Z
  .have:=b.1 k;subst this;simp[k,i,j]
  .have a:x≠y:=λe=>k (b.2 e)
   simp[k,a]
theorem Lb:∀(d:Nat)(a b:zg),oI d a=Z->jC d a b=Z/\(gz d a b=Z↔a=b)
 |0,_,_,h=>by cases h
 | d + 1,.mk n v s l,.mk o j p i,h=>by
  rw[oI]at h;simp only[ar,aT,dg]at h;have⟨_,E⟩:=h;have C:jC (d+1) (.mk n v s l) (.mk o j p i)=(cond (n==o) (cond (eqV v j) (cond (s==p) (Bi (gz d) (jC d) l i) Z) Z) Z):=rfl;have D:gz (d+1) (.mk n v s l) (.mk o j p i)=(cond (n==o) (cond (eqV v j) (cond (s==p) (MJ (gz d) l i) J) J) J):=rfl;rw[C,D];unfold Bi MJ;have u:eqV v j=Z↔v=j:=by unfold eqV;simp[Prod.ext_iff]
  by_cases m:n=o
  .by_cases k:v=j
   .by_cases w:s=p
    .by_cases q:M l=M i
     .have⟨G,H⟩:=O3 (g:=gz d) (c:=jC d) l i q (λx F y=>Lb d x y (E x F));have z:((M l:Int)!=(M i:Int))=J:=by rw[<-g9,dV];exact λh=>h q
      rw[z,u.2 k];simp[m,w,G,H,k]
     .have z:((M l:Int)!=(M i:Int))=Z:=dV.2 q;have A:l≠i:=λe=>q (by rw[e])
      rw[z,u.2 k];simp[m,w,A]
    .rw[u.2 k];simp[m,w]
   .have:eqV v j=J:=by rw[<-g9,u];exact k
    rw[this];simp[m,k]
  .simp[m]
theorem Lg{a b:List Int}(h:M a<=2000000):HT a b=Z/\(oA a b=Z↔a=b):=by
 have d:∃r,HU a b=some (r,())/\(r=Z↔a=b):=by
  by_cases x:M a=M b
  .have c:((M a:Int)!=(M b:Int))=J:=by rw[<-g9,dV];exact λh=>h x
   have j:(zau a b).val=some (.inl (.h4 a b (M a:Int) 0)):=by
    simp only[zau,Q9,c];rfl
   rcases iZ (t:=zqR) (la:=a) (lb:=b) (λi=>.h4 a b (M a:Int) i) (.inr (.kb Z,[])) (λi=>W a (i:Int).toNat (zk zi)==W b (i:Int).toNat (zk zi)) (λ_ _=>rfl) (λi _ m c=>by rw[be,aa _ _ m,aa _ _ c]) x h with⟨q,k⟩|⟨q,k⟩
   .exact⟨Z,zF j (k 0 _ rfl) S rfl,by simp[q]⟩
   .exact⟨J,zF j k S rfl,by simp[q]⟩
  .refine⟨J,zG (r:=sm) ?_ rfl,by simp;exact λe=>x (by rw[e])⟩;simp only[zau,Q9,dV.2 x,zj]
 have⟨r,g,l⟩:=d;refine⟨by unfold HT;rw[g];rfl,?_⟩;have:oA a b=r:=by unfold oA;rw[g];rfl
 rw[this];exact l
theorem XV{a b:aU}(h:M a<=2000000):ND a b=Z/\(xL a b=Z↔a=b):=by
 have d:∃r,HR a b=some (r,())/\(r=Z↔a=b):=by
  by_cases x:M a=M b
  .have c:((M a:Int)!=(M b:Int))=J:=by rw[<-g9,dV];exact λh=>h x
   have l:(zaz a b).val=some (.inl (.h4 a b (M a:Int) 0)):=by
    simp only[zaz,Q9,c];rfl
   rcases iZ (t:=zqT) (la:=a) (lb:=b) (λi=>.h4 a b (M a:Int) i) (.inr (.kb Z,[])) (λi=>((W a (i:Int).toNat (zk zu)).1==(W b (i:Int).toNat (zk zu)).1&&((W a (i:Int).toNat (zk zu)).2.1==(W b (i:Int).toNat (zk zu)).2.1&&((W a (i:Int).toNat (zk zu)).q==(W b (i:Int).toNat (zk zu)).q&&Z)))) (λ_ _=>rfl) (λi _ n c=>by rw[Us,aa _ _ n,aa _ _ c]) x h with⟨g,k⟩|⟨g,k⟩
   .exact⟨Z,zF l (k 0 _ rfl) S rfl,by simp[g]⟩
   .exact⟨J,zF l k S rfl,by simp[g]⟩
  .refine⟨J,zG (r:=sm) ?_ rfl,by simp;exact λe=>x (by rw[e])⟩;simp only[zaz,Q9,dV.2 x,zj]
 have⟨r,j,m⟩:=d;refine⟨by unfold ND;rw[j];rfl,?_⟩;have:xL a b=r:=by unfold xL;rw[j];rfl
 rw[this];exact m
theorem XW{a b:eu}(h:M a<=2000000):NE a b=Z/\(xM a b=Z↔a=b):=by
 have d:∃r,HS a b=some (r,())/\(r=Z↔a=b):=by
  by_cases x:M a=M b
  .have c:((M a:Int)!=(M b:Int))=J:=by rw[<-g9,dV];exact λh=>h x
   have j:(zaA a b).val=some (.inl (.h4 a b (M a:Int) 0)):=by
    simp only[zaA,Q9,c];rfl
   rcases iZ (t:=zqU) (la:=a) (lb:=b) (λi=>.h4 a b (M a:Int) i) (.inr (.kb Z,[])) (λi=>((W a (i:Int).toNat (zk zW)).1==(W b (i:Int).toNat (zk zW)).1&&((W a (i:Int).toNat (zk zW)).2==(W b (i:Int).toNat (zk zW)).2&&Z))) (λ_ _=>rfl) (λi _ m c=>by rw[zgU,aa _ _ m,aa _ _ c]) x h with⟨q,k⟩|⟨q,k⟩
   .exact⟨Z,zF j (k 0 _ rfl) S rfl,by simp[q]⟩
   .exact⟨J,zF j k S rfl,by simp[q]⟩
  .refine⟨J,zG (r:=sm) ?_ rfl,by simp;exact λe=>x (by rw[e])⟩;simp only[zaA,Q9,dV.2 x,zj]
 have⟨r,g,l⟩:=d;refine⟨by unfold NE;rw[g];rfl,?_⟩;have:xM a b=r:=by unfold xM;rw[g];rfl
 rw[this];exact l
theorem Lm{a b:am}(C:M a.2.1<=2000000)(F:M a.r.1<=2000000)(E:M a.t.1<=2000000)(D:oI 16 a.u=Z):C1 a b=Z/\(mU a b=Z↔a=b):=by
 have⟨h,e,x,g,i,m⟩:=a;have⟨c,j,d,k,l,n⟩:=b;have⟨p,w⟩:=XV (b:=j) (show M e<=2000000 from C);have⟨q,y⟩:=Lg (b:=k) (show M g<=2000000 from F);have⟨s,z⟩:=XW (b:=l) (show M i<=2000000 from E);have⟨v,A⟩:=Lb 16 m n D;have o:Ib (h,e,x,g,i,m) (c,j,d,k,l,n)=some ((cond (h==c) (cond (x==d) (cond (xL e j) (cond (oA g k) (cond (xM i l) (gz 16 m n) J) J) J) J) J),()):=by
  refine zG (r:=(.bool _,[])) ?_ rfl;simp only[znM,Q9,zt,p,q,s,v];rw[zf];cases(h==c)<;>cases(x==d)<;>cases xL e j<;>cases oA g k<;>cases xM i l<;>rfl
 refine⟨by unfold C1;rw[o];rfl,?_⟩;have:mU (h,e,x,g,i,m) (c,j,d,k,l,n)=(cond (h==c) (cond (x==d) (cond (xL e j) (cond (oA g k) (cond (xM i l) (gz 16 m n) J) J) J) J) J):=by unfold mU;rw[o];rfl
 rw[this];simp only[cz];rw[<-w,<-y,<-z,<-A];have G:(h==c)=Z↔h=c:=be;have H:(x==d)=Z↔x=d:=be;rw[<-G,<-H];cases(h==c)<;>cases(x==d)<;>cases xL e j<;>cases oA g k<;>cases xM i l<;>cases gz 16 m n<;>simp
theorem Cf{a b:an}(z:M a.r.1.2.1<=2000000)(E:M a.r.1.r.1<=2000000)(C:M a.r.1.t.1<=2000000)(A:oI 16 a.r.1.u=Z)(F:M a.t.1<=2000000):G9 a b=Z/\(Ce a b=Z↔a=b):=by
 have⟨c,d,e,x,m,g⟩:=a;have⟨i,j,k,h,n,l⟩:=b;have⟨s,w⟩:=Lm (b:=h) z E C A;have⟨v,y⟩:=Lg (b:=n) (show M m<=2000000 from F);have o:C1 (x.1,x.2.1,x.q.1,x.r.1,x.t.1,x.u) (h.1,h.2.1,h.q.1,h.r.1,h.t.1,h.u)=Z:=s;have D:mU (x.1,x.2.1,x.q.1,x.r.1,x.t.1,x.u) (h.1,h.2.1,h.q.1,h.r.1,h.t.1,h.u)=mU x h:=rfl;have p:Ha (c,d,e,x,m,g) (i,j,k,h,n,l)=some ((cond (c==i) (cond (d==j) (cond (e==k) (cond (g==l) (cond (mU x h) (oA m n) J) J) J) J) J),()):=by
  refine zG (r:=(.bool _,[])) ?_ rfl;simp only[znE,Q9,zt,o,D,v];rw[zf];cases(c==i)<;>cases(d==j)<;>cases(e==k)<;>cases(g==l)<;>cases mU x h<;>rfl
 refine⟨by unfold G9;rw[p];rfl,?_⟩;have:Ce (c,d,e,x,m,g) (i,j,k,h,n,l)=(cond (c==i) (cond (d==j) (cond (e==k) (cond (g==l) (cond (mU x h) (oA m n) J) J) J) J) J):=by unfold Ce;rw[p];rfl
 rw[this];simp only[cz];rw[<-w,<-y];have G:(c==i)=Z↔c=i:=be;have H:(d==j)=Z↔d=j:=be;have P:(e==k)=Z↔e=k:=be;have U:(g==l)=Z↔g=l:=be;rw[<-G,<-H,<-P,<-U];cases(c==i)<;>cases(d==j)<;>cases(e==k)<;>cases(g==l)<;>cases mU x h<;>cases oA m n<;>simp
variable {t:am}
theorem sx.may(h:sx t)(b:(t.u.op==[])=J):gY t.u=Z:=by
 have x:=h.chk;unfold lX at x;have a:gz 16 t.u Nc=J:=by rw[Lc,b];rfl
 rw[a,zh sw]at x;rcases fU (gY t.u)with c|c
 .exact c
 .have d:fJ t.u t.2.1=(0,1):=by unfold fJ;rw[c];rfl
  rw[d]at x;cases x
theorem JO(t:am)(h:zo)(x:zw)(r:zo)(i:Nat):gj t h (x::r) (i:Int)=if(cond (x.1==0) ((W t.2.1 i (zk zu)).q) J)=Z then(8:Int)else if(cond (x.1!=0) (x.1!=(W t.2.1 i (zk zu)).2.1) J)=Z then 5 else gj t h r ((i+1:Nat):Int):=by rw[gj];simp only[bB];rfl
structure wV (x:zX):Prop where
 t:WfT x.1
 rows:M x.2<=1000
 vals:∀r∈x.2,∀v∈(r:zo),Ap v
variable {x:zX}
theorem wV.short(h:wV x):gh x:=⟨h.t.nuq,h.t.nrf,h.rows⟩
theorem E3{t:am}{d:zo}:∀(r:zo)(i:Nat),gj t d r (i:Int)=(0:Int)->∀j,j<M r->(W t.2.1 (i+j) (zk zu)).q=Z->(W r j (zk Q)).1≠0
 |[],_,_,j,b,_=>by simp at b
 | x::r,i,h,j,b,hn=>by
  rw[JO]at h;split at h
  .cases h
  rename_i c;split at h
  .cases h
  cases j with
  | zero=>
   intro e;have a:(x.1==0)=Z:=by simpa using e
   rw[a]at c;exact c hn
  | succ j=>
   have:=E3 r (i+1) h j (by simpa using b) (by rw[show i+1+j=i+(j+1) by omega];exact hn);exact this
theorem E5{t:am}{row:zo}:∀(r:zo)(i:Nat),jK t row r (i:Int)=(0:Int)->(∀v∈r,aP v=Z)/\gj t row row ((0:Nat):Int)=(0:Int)
 | [],i,h=>by
  rw[jK]at h;exact⟨λv a=>(by cases a),h⟩
 | x::r,i,h=>by
  have e:jK t row (x::r) (i:Int)=if(!aP x)=Z then(1:Int)else jK t row r ((i+1:Nat):Int):=by
   rw[jK];rfl
  rw[e]at h;split at h
  .cases h
  rename_i c;have⟨b,d⟩:=E5 r (i+1) h;refine⟨λv a=>?_,d⟩;rcases bD.1 a with rfl|a
  .simpa using c
  .exact b v a
theorem dB{row:zo}(h:dM t row=(0:Int)):M row=M t.2.1/\(∀v∈row,aP v=Z)/\∀j,j<M row->(W t.2.1 j (zk zu)).q=Z->(W row j (zk Q)).1≠0:=by
 have c:=Bt (t:=t) (row:=row) (by simpa using h);unfold dM at h;split at h
 .cases h
 have⟨x,a⟩:=E5 row 0 h;refine⟨c,x,λj b d=>?_⟩;have:=E3 row 0 a j b (by rwa [dz]);exact this
theorem eI.keys(h:eI x):∀r∈x.2,zT x.1.q.1 (M r)=Z:=by intro r b;have⟨a,_⟩:=gS h.may;rw[(dB (h.fits r b)).1];exact tB a
theorem BJ(x:Int):∀(l:List Int)(i:Nat),(∃j,∃g:j<M l,eX x l (i:Int)=((i+j:Nat):Int)/\l[j]=x/\∀k(d:k<j),l[k]≠x)\/(eX x l (i:Int)=(-1:Int)/\x∉l)
 |[],i=>.inr ⟨rfl,sw⟩
 | a::r,i=>by
  rw[eX];by_cases h:x=a
  .rw[zf (by simpa using h)];exact .inl ⟨0,sw,sw,h.symm,λk d=>zp d S⟩
  .rw[zh (by simpa using h),show((i:Int)+1)=((i+1:Nat):Int) by omega];rcases BJ x r (i+1)with⟨j,g,b,c,m⟩|⟨b,c⟩
   .refine .inl ⟨j+1,by simpa using g,by rw[b];congr 1;omega,c,λk d=>?_⟩;cases k with
    |zero=>exact λe=>h e.symm
    |succ k=>exact m k S
   .exact .inr ⟨b,by simp[c,h]⟩
theorem Wg(l:List Int)(x:Int):(∃j,∃a:j<M l,jM l x=(j:Int)/\l[j]=x/\∀k(d:k<j),l[k]≠x)\/(jM l x=(-1:Int)/\x∉l):=by
 rcases BJ x l 0 with⟨j,a,b,c⟩|h
 .exact .inl ⟨j,a,by show eX x l ((0:Nat):Int)=_;rw[b,dz],c⟩
 .exact .inr h
def zbG(c:ci):Prop:=dI c.1=Z/\LE.le (α:=Int) 1 c.2.1/\LE.le (α:=Int) c.2.1 3
theorem sx.col(h:sx t):∀c∈t.2.1,zbG c:=by intro c a;obtain⟨i,x,rfl⟩:=jf a;have:=h.cols i x;rw[bf,zQ x,cD]at this;exact⟨this.1,this.2.1,this.q.1⟩
theorem Xx(h:¬LT.lt (α:=Int) (ah t s) 0):T (ah t s)<M t.2.1:=by
 rcases uw t s with x|⟨x,a⟩
 .rw[x]at h;simp at h
 .omega
theorem sx.at(h:sx t)(x:¬LT.lt (α:=Int) (ah t s) 0):zbG (W t.2.1 (T (ah t s)) (zk zu)):=h.col _ (J0 _ _ (Xx x))
structure zum (s:aG):Prop where
 wf:mh s.x.1
 may:(s.x.1.op==[])=J->gY s.x.1=Z
theorem xw(a:Int)(b:zD):∀(l:eu)(i:Nat),GE.ge (α:=Int) (iq a b l (i:Int)) 0↔(a,b)∈l
 | [],i=>by
  grind[iq]
 | x::r,i=>by
  rw[iq];split
  .simp_all
  next h=>have:=xw a b r (i+1);grind
theorem rT(l:eu)(x:bV):kP l x=Z↔x∈l:=by unfold kP;rw[decide_eq_true_iff];exact xw x.1 x.2 l 0
theorem eU{α:Type}(p:α->Bool):∀(l:List α)(i:Nat),(aj p l i=-1/\∀x∈l,p x=J)\/∃(k:Nat)(h:k<M l),aj p l i=((i+k:Nat):Int)/\p l[k]=Z/\∀x∈l.take k,p x=J
 |[],_=>.inl ⟨rfl,sw⟩
 | x::r,i=>by
  unfold aj;split
  next h=>exact .inr ⟨0,sw,rfl,h,sw⟩
  .rename_i h;have d:p x=J:=by simpa using h
   rcases eU p r (i+1)with⟨b,c⟩|⟨k,g,b,c,e⟩
   .refine .inl ⟨b,λy a=>?_⟩;rcases bD.1 a with rfl|a
    .exact d
    .exact c y a
   .refine .inr ⟨k+1,by simpa using g,by rw[b];congr 1;omega,by simpa using c,λy a=>?_⟩;rw[List.take_succ_cons]at a;rcases bD.1 a with rfl|a
    .exact d
    .exact e y a
variable {d:zH}
theorem MT{i:Nat}(h:ab d s=(i:Int))(b:d.getD i (zk zl)=x):x.1.1=s:=by
 rcases eU (λy:zX=>y.1.1==s) d 0 with⟨q,_⟩|⟨k,c,e,g,_⟩
 .exfalso;have a:aj (λy:zX=>y.1.1==s) d 0=(i:Int):=h;rw[q]at a;omega
 .have a:aj (λy:zX=>y.1.1==s) d 0=(i:Int):=h;rw[e]at a;obtain rfl:k=i:=by omega
  rw[bf,zQ c,cD]at b;subst b;simpa using g
def Me(p:zD->Bool)(t:am):am:=(t.1,t.2.1,t.q.1,t.r.1,t.t.1.filter (λf:bV=>p f.2),t.u)
def lS(p:zD->Bool)(x:zX):zX:=(Me p x.1,x.2)
variable {p:zD->Bool}
theorem PA(h:gO t=Z):gO (Me p t)=Z:=by have h:=(jr t).1 h;exact(jr _).2 ⟨h.name,h.n1,h.n8,h.cols,h.uniq,λf x=>h.refs f (List.mem_filter.1 x).1,h.key,h.nn,h.chk⟩
theorem E4{t:am}{p:zD->Bool}{h:zo}:∀(r:zo)(i:Int),gj (Me p t) h r i=gj t h r i
 |[],_=>by rw[gj,gj];rfl
 |x::r,i=>by rw[gj,gj,E4 r];rfl
theorem JP{t:am}{p:zD->Bool}{h:zo}:∀(r:zo)(i:Int),jK (Me p t) h r i=jK t h r i
 |[],_=>by rw[jK,jK,E4]
 |x::r,i=>by rw[jK,jK,JP r]
theorem VF(h:gO t=Z)(r:zo):dM (Me p t) r=dM t r:=by unfold dM;rw[h,PA h,JP];rfl
theorem eI.cut(h:eI x):eI (lS p x) where
 may:=PA h.may
 few:=h.few
 fits:=λr a=>by
  show dM (Me p x.1) r=0;rw[VF h.may];exact h.fits r a
 key:=h.key
 uniq:=h.uniq
 rise:=h.rise
theorem WM(e:dO d){y:zX}(k:x∈d)(l:y∈d)(h:x.1.1=y.1.1):x=y:=by
 have a:d.Pairwise λx y:zX=>Op.bytesLess x.1.1 y.1.1=Z:=(ue (R:=λx y:zX=>Op.bytesLess x.1.1 y.1.1=Z) gD).1 e.names
 obtain⟨i,b,rfl⟩:=jf k;obtain⟨j,c,rfl⟩:=jf l;rcases Nat.lt_trichotomy i j with g|g|g
 .have:=List.pairwise_iff_getElem.1 a i j b c g;rw[h,eK]at this;cases this
 .subst g;rfl
 .have:=List.pairwise_iff_getElem.1 a j i c b g;rw[h,eK]at this;cases this
theorem eY(h:LE.le (α:=Int) 0 (ab d s)):relAt d s∈d/\(relAt d s).1.1=s:=
 ⟨Br h,MT (i:=T (ab d s)) (Int.toNat_of_nonneg h).symm rfl⟩
variable {b:zH}
theorem dO.src(a:dO d)(o:M b<=12)(q:b.Pairwise λx y:zX=>Op.bytesLess x.1.1 y.1.1=Z)(h:∀y∈b,∃x∈d,y=lS p x)(s:∀n,p n=Z->LE.le (α:=Int) 0 (ab b n)):dO b where
 few:=o
 names:=(ue (R:=λx y:zX=>Op.bytesLess x.1.1 y.1.1=Z) gD).2 q
 rels:=λy j=>by
  obtain⟨x,i,rfl⟩:=h y j;exact(a.rels x i).cut
 bound:=λy j f u=>by
  obtain⟨x,i,rfl⟩:=h y j;have⟨c,g⟩:=List.mem_filter.1 u;have m:=s f.2 g;refine⟨m,λl v w=>?_⟩;have⟨C,D⟩:=a.bound x i f c;have E:=D l v w;have⟨m1,m2⟩:=eY m;have⟨z,A,e⟩:=h _ m1;have⟨F,G⟩:=eY C;have k:z=relAt d f.2:=WM a A F (by rw[G];rw[e]at m2;exact m2);rw[e,k];exact E
structure iF (ns:List zD) (t t':am):Prop where
 cols:t'.2.1=t.2.1
 key:t'.q.1=t.q.1
 refs:∀f:bV,f.2∈ns->(f∈t'.t.1↔f∈t.t.1)
section
variable {ns:List zD} {t t':N zN}
theorem iF.place(h:iF ns t t'):ah t'=ah t:=funext λn=>by unfold ah;rw[h.cols]
theorem iF.plc(h:iF ns t t')(l:List zD):pD t' l=pD t l:=by unfold pD;rw[h.place]
theorem iF.ix(h:iF ns t t')(l:List zD):xz t' l=xz t l:=by unfold xz;rw[h.place]
theorem iF.cs(h:iF ns t t')(l:List zD):fy t' l=fy t l:=by unfold fy;rw[h.place,h.cols]
theorem iF.cpy(h:iF ns t t')(l:List zD):sT t' l=sT t l:=by unfold sT;rw[h.plc,h.ix,h.key]
theorem iF.grp(h:iF ns t t')(l:List zD):qT t' l=qT t l/\yh t' l=yh t l:=by unfold qT yh;rw[h.plc,h.cs];exact⟨rfl,rfl⟩
theorem iF.join(h:iF ns t t'){x u:am}(a:iF ns x u){s w:zD}(b:w∈ns):fY t' u s w=fY t x s w:=by
 have:kP t'.t.1 (ah t s,w)=kP t.t.1 (ah t s,w):=by
  rw[Ar,rT,rT];exact h.refs (ah t s,w) b
 unfold fY;rw[h.place,this,h.cols,a.cols]
theorem iF.oth(h:iF ns t t')(n:Nat):nM t' n=nM t n:=by unfold nM;rw[h.key,h.cols]
end
abbrev ct(s:aG):zD:=s.p
theorem GI(a:x∈d):LE.le (α:=Int) 0 (ab d x.1.1):=by
 rcases eU (λy:zX=>y.1.1==x.1.1) d 0 with⟨_,h⟩|⟨k,_,h,_⟩
 .have:=h x a;simp at this
 .have h:ab d x.1.1=((0+k:Nat):Int):=h;rw[h];exact Int.natCast_nonneg _
theorem XB{s:aG}(l:(bb d s).1=0)(F:fI b=(0:Int))(v:∀n∈bK s.q.1 (ct s),LE.le (α:=Int) 0 (ab b n)/\iF (bK s.q.1 (ct s)) (aO d n) (aO b n))
  (c:∀x∈b,x.1.1∈bK s.q.1 (ct s)/\∃y∈d,(y:zX).1.1=x.1.1) (H:s.1=iK->ct s≠[]):bb b s=bb d s/\bb d s=cm d s:=by
 unfold bb at l;split at l
 case isFalse=>cases l
 rename_i w;split at l
 case isFalse h=>exact zp l h
 rename_i k;have g:bb d s=cm d s:=by unfold bb;rw[zf w,zf k]
 refine⟨?_,g⟩;rw[g];have m:wz b s.q.1 (ct s) s.2.1=0:=by
  unfold wz at k|-;split at k
  case isFalse=>cases k
  rw[zf λn G=>(v n G).1];split at k
  case isTrue=>cases k
  rename_i D;have E:¬(L (GE.ge (α:=Int) (ab b s.2.1) 0)||s.q.1==ct s)=Z:=by
   intro i;apply D;rcases(iJ _ _).mp i with i|i
   .have p:LE.le (α:=Int) 0 (ab b s.2.1):=eB i;have⟨m1,m2⟩:=eY p;have⟨_,y,U,e⟩:=c _ m1;have:=GI U;rw[e,m2]at this;rw[iJ];exact .inl (zL this)
   .rw[iJ];exact .inr i
  rw[zh E,zh];unfold lQ;intro i;have⟨x,P,p⟩:=List.any_eq_true.1 i;rw[(nF _ _).2 (c x P).1]at p;simp at p
 have j:s.q.1∈bK s.q.1 (ct s):=by unfold bK;split<;>simp
 have a:=(v _ j).2;unfold bb;rw[zf ⟨w.1,w.2.1,F⟩,zf m];unfold cm;by_cases o1:(s.1==eR)=Z
 .rw[zf o1,zf o1,a.cpy,a.cs,a.ix,a.key]
 rw[zh o1,zh o1];by_cases o2:(s.1==iK)=Z
 .have z:=H (aY o2);have o:ct s∈bK s.q.1 (ct s):=by
   unfold bK;rw[zh (by simpa using z)];simp
  have u:=(v _ o).2;have A:eQ b (ct s)=aO b (ct s):=by unfold eQ;rw[zh z]
  have C:eQ d (ct s)=aO d (ct s):=by unfold eQ;rw[zh z]
  rw[zf o2,zf o2,A,C,a.join u o,a.cols,a.key,a.place,u.cols,u.key,u.oth]
 rw[zh o2,zh o2,(a.grp _).1,(a.grp _).2,a.ix]
theorem F5{g c b:Bool}(h:(g&&(cond c b J))=Z):b=Z:=by cases g<;>cases c<;>simp_all
theorem zaK{s:aG}(h:iW s=Z)(sh:kB s)(ho:jL s.1):
  s.t.1=[]/\s.v.1=[]/\s.w.1=[]/\s.y.1=[]/\s.z.1=[]/\s.s.1=B2/\(ite (s.1=iK) (s.r.1=[]) (s.u.1=[]/\ct s=[])):=by
 have⟨o,D,E,F,G,H,P,U,s9,a,c,d,e⟩:=s;have n4:=sh.names.1;have n5:=sh.cols.1;have n7:=sh.uniques.1;have n8:=sh.refs.1;have A:=sh.row;have C:=sh.sets.1;simp only at n4 n5 n7 n8 A C;rcases ho with rfl|rfl|rfl
 .have⟨_,i⟩:=dw (s:=(eR,D,E,F,G,H,P,U,s9,a,c,d,e)) (g:=_) (b:=_) rfl;rw[i]at h;have h:=F5 h;have⟨_,_,p,q,_,j,l,m,n,k,_,x⟩:=(kZ sw sg sg sg sg sg).1 h;exact⟨j,l,m,n,k,(zg.eta _).symm.trans x,by rw[zh (λh=>by simp at h)];exact⟨p,q⟩⟩
 .have⟨_,i⟩:=dw (s:=(iK,D,E,F,G,H,P,U,s9,a,c,d,e)) (g:=_) (b:=_) rfl;rw[i]at h;have h:=F5 h;have⟨_,_,p,q,k5,j,l,m,n,k,_,x⟩:=(kZ sg sg sg sg sg sg).1 h;exact⟨j,l,m,n,k,(zg.eta _).symm.trans x,by rw[zf rfl];exact k5⟩
 .have⟨_,i⟩:=dw (s:=(yu,D,E,F,G,H,P,U,s9,a,c,d,e)) (g:=_) (b:=_) rfl;rw[i]at h;have h:=F5 h;have⟨_,_,p,q,_,j,l,m,n,k,_,x⟩:=(kZ sw sg sg sg sg sg).1 h;exact⟨j,l,m,n,k,(zg.eta _).symm.trans x,by rw[zh (λh=>by simp at h)];exact⟨p,q⟩⟩
theorem gN(h:¬LT.lt (α:=Int) (ah t s) 0):(W t.2.1 (T (ah t s)) (zk zu)).1=s/\LT.lt (α:=Int) (ah t s) (M t.2.1):=by
 have e:ah t s=aj (λc:ci=>c.1==s) t.2.1 0:=rfl;rcases eU (λc:ci=>c.1==s) t.2.1 0 with⟨x,_⟩|⟨k,a,x,b,_⟩
 .rw[e,x]at h;exact zp (by decide:(-1:Int)<0) h
 .rw[e,x,dz];refine⟨?_,Int.ofNat_lt.2 a⟩;rw[bt _ _ a];exact aY b
def dp(p:an)(s:zH):aG:=
 (p.1,p.r.1.1,p.2.1,if p.1=iK then[]else p.r.1.2.1.map λc:ci=>c.1,[],
  if p.1=iK then(if LE.le (α:=Int) 0 p.u/\LT.lt (α:=Int) p.u (M (s.getD 0 (zk zl)).1.2.1)then(W (s.getD 0 (zk zl)).1.2.1 (T p.u) (zk zu)).1 else[])else[],
  [],[],p.r.1.u,[],[],B2,p.q.1)
theorem pE{l:List zD}(h:pD t l=0):∀s∈l,¬LT.lt (α:=Int) (ah t s) 0:=by
 unfold pD at h;split at h
 .assumption
 .cases h
theorem xj{t:am}:∀{l:List zD},(∀s∈l,¬LT.lt (α:=Int) (ah t s) 0)->(fy t l).map (λc:ci=>c.1)=l
 |[],_=>rfl
 | s::r,h=>by
  show(W t.2.1 (T (ah t s)) (zk zu)).1::(fy t r).map (λc:ci=>c.1)=s::r;rw[(gN (h s sw)).1,xj λx a=>h x (by simp[a])]
theorem im{x:Int}{e:an}(h:(nB x e).1=0):x=0/\nB x e=(0,e):=by
 unfold nB at h|-;split at h
 .rename_i a;split at h
  next b=>rw[zf a,zf b];exact⟨a,rfl⟩
  next b=>exact zp h b
 next a=>exact zp h a
theorem S5{a:aG}(e:(cm d a).1=0)(v:jL a.1)(w:iW a=Z)(sh:kB a)(p:(b.getD 0 (zk zl)).1.2.1=(aO d a.q.1).2.1):dp (cm d a).2 b=a:=by
 have⟨y,z,A,C,D,E,n⟩:=zaK w sh v;have⟨o,s2,s,s4,s5,s6,s7,s8,s9,U,h0,h2,l⟩:=a;simp only at y z A C D E n p;subst y z A C D E;rcases v with rfl|rfl|rfl
 .rw[zh (λh=>by simp at h)]at n;obtain⟨rfl,j⟩:=n;have j:l=[]:=j;subst j;unfold cm at e|-
  dsimp only at e|-
  rw[zf (show((eR:zD)==eR)=Z from rfl)]at e|-;have⟨g,k⟩:=im e;rw[k];have i:=pE (by
   unfold sT at g;split at g
   .assumption
   next m=>exact zp g m)
  unfold dp;simp only;rw[zh (λh=>by simp at h),zh (λh=>by simp at h),xj i]
 .rw[zf rfl]at n;subst n;unfold cm at e|-
  dsimp only at e|-
  rw[zh (show¬((iK:zD)==eR)=Z by decide),zf (show((iK:zD)==iK)=Z from rfl)]at e|-;have⟨g,k⟩:=im e;rw[k];have i:¬LT.lt (α:=Int) (ah (aO d s) s6) 0:=by
   intro h;unfold fY at g;rw[zf h]at g;cases g
  have⟨H,P⟩:=gN i;unfold dp;simp only;rw[zf trivial,zf trivial,p,zf ⟨Int.not_lt.1 i,P⟩,H]
 .rw[zh (λh=>by simp at h)]at n;obtain⟨rfl,j⟩:=n;have j:l=[]:=j;subst j;have u:=jl w rfl;simp only at u;unfold cm at e|-
  dsimp only at e|-
  rw[zh (show¬((yu:zD)==eR)=Z by decide),zh (show¬((yu:zD)==iK)=Z by decide),zf (show((yu:zD)==yu)=Z from rfl)]at e|-;have⟨g,k⟩:=im e;rw[k];have i:=pE (by
   unfold qT at g;split at g
   .assumption
   next m=>exact zp g m)
  match s4,u,i with
  |[x,c],_,i=>
  unfold dp;simp only;rw[zh (λh=>by simp at h),zh (λh=>by simp at h)];have F:=(gN (i x sw)).1;have G:=(gN (i c sw)).1;show(yu,s2,s,[(W (aO d s).2.1 (T (ah (aO d s) x)) (zk zu)).1,(W (aO d s).2.1 (T (ah (aO d s) c)) (zk zu)).1],_)=_;rw[F,G]
end
end Cad
