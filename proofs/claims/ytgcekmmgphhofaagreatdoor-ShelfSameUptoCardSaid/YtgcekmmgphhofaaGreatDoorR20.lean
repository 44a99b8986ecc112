/- The document's values are the program's. -/
import Derived.Test.YtgcekmmgphhofaaGreatDoorR19
namespace Cad
open Go Go.Proofs
open List renaming length->M
open IntKind renaming wrap->Γ,i64->Δ
open Tr renaming val->Q9
open Bool renaming false->J,true->Z
open Option renaming some->Y
open Decidable renaming decide->L
open Int renaming toNat->T
open List renaming getD->W
open Tr (chk br re)
open AV (nils agg tup ptr kb str sl)
open Cad renaming ow->S,ai->I,Sem->N
set_option maxHeartbeats 4000000
def Ap(v:zw):Prop:=LE.le (α:=Int) (-9223372036854775808) v.2.1/\LE.le (α:=Int) v.2.1 9223372036854775807/\M v.q<=1000000
theorem eK:∀s:zD,Op.bytesLess s s=J
 |[]=>rfl
 |a::r=>by simp[Op.bytesLess,eK r]
theorem Fr(s:zD):(px s<0)↔∀b∈s,32<=b.toNat/\b.toNat<=126:=by
 refine WU (p:=λr=>B6 r) (λc=>?_) s;unfold B6;cases h:L ((c:Int)<32)with
 |true=>simp at h|-;omega
 |false=>simp at h|-;omega
theorem zaJ(b h x a c d e l:Bool):∃r,(ite (b=Z) (Y (.inr (.bool (cond c e J),[]))) (ite (h=Z) (Y (.inr (.bool e,[]))) (ite (x=Z) (Y (.inr (.bool (cond c l J),[]))) (ite (a=Z) (Y (.inr (.bool (cond c e (cond d e J)),[]))) (Y (.inr (.kb J,[])))))):Option (DO⊕ac))=Y (.inr r)/\
  bc r.2 [Sh.bool] r.1=Y ((ite (b=Z) (ite ((!c)=Z) J e) (ite (h=Z) e (ite (x=Z) (cond c (cond l Z J) J) (ite (a=Z) (cond c e (cond d e J)) J))):Bool),()):=by cases b<;>cases h<;>cases x<;>cases a<;>cases c<;>cases d<;>cases e<;>cases l<;>exact⟨_,rfl,rfl⟩
theorem zaI(b h x a c d l:Bool):(ite (b=Z) (ite ((!c)=Z) J J) (ite (h=Z) J (ite (x=Z) (cond c (cond l J J) J) (ite (a=Z) (cond c J (cond d J J)) J))))=J:=by cases b<;>cases h<;>cases x<;>cases a<;>cases c<;>cases d<;>cases l<;>rfl
variable {v:zw}
theorem KQ(p:M v.q<=1000000):Nq v=Y (aP v,()):=by
 have⟨k,n,s⟩:=v;have p:M s<=1000000:=p;have y:=LN (t:=rq) (Φ:=λr=>r=(.kb J,[])) 1 (λi=>.h2 (i:Int) ((k,n,s),())) (λi=>32<=(W s i 0).toNat/\(W s i 0).toNat<=126) (M s) (by
  intro i x _;have e:(rq (.h2 (i:Int) ((k,n,s),()))).val=if(cond (L (((W s i 0).toNat:Int)<32)) Z (L (((W s i 0).toNat:Int)>126)))=Z then Y (.inr (.kb J,[]))else Y (.inl (.h2 ((i+1:Nat):Int) ((k,n,s),()))):=by
   show(rq (.h2 _ _)).val=_;unfold rq;simp only[Q9,z6 x,zx x,bB,zj];rw[zf (by cases L (((W s i 0).toNat:Int)<32)<;>rfl)];rw[zz i um]
  by_cases c:(W s i 0).toNat<32
  .refine .inr ⟨λh=>by omega,_,aF.of (by rw[e,zf (by rw[zL S];rfl)]),rfl⟩
  .by_cases g:126<(W s i 0).toNat
   .refine .inr ⟨λh=>by omega,_,aF.of (by rw[e,zf (by rw[aQ S,zL S];rfl)]),rfl⟩
   .refine .inl ⟨S,z8.of (by rw[e,zh (by rw[aQ S,aQ S];simp)])⟩)
 have x:(zdu (k,n,s)).val=Y (.inl (.h2 ((0:Nat):Int) ((k,n,s),()))):=rfl;have u:=Fr s;have w:=cO (l:=s) (d:=0) (Q:=λb=>32<=b.toNat/\b.toNat<=126);rcases y with⟨c,g⟩|⟨c,r,g,rfl⟩
 .have a:L (px s<0)=Z:=zL (u.2 (w.1 c));have e:(rq (.h2 (M s:Int) ((k,n,s),()))).val=(ite ((k==0)=Z) (Y (.inr (.bool (cond (n==0) (s==[]) J),[]))) (ite ((k==1)=Z) (Y (.inr (.bool (s==[]),[]))) (ite ((k==2)=Z) (Y (.inr (.bool (cond (n==0) (L ((M s:Int)<=40)) J),[]))) (ite ((k==3)=Z) (Y (.inr (.bool (cond (n==0) (s==[]) (cond (n==1) (s==[]) J)),[]))) (Y (.inr (.kb J,[]))))))):=by
   show(rq (.h2 _ _)).val=_;unfold rq;simp only[Q9,aw];rw[zh sw]
  have⟨r,m,o⟩:=zaJ (k==0) (k==1) (k==2) (k==3) (n==0) (n==1) (s==[]) (L ((M s:Int)<=40));have j:aP (k,n,s)=(ite ((k==0)=Z) (ite ((!(n==0))=Z) J (s==[])) (ite ((k==1)=Z) (s==[]) (ite ((k==2)=Z) (cond (n==0) (cond (L ((M s:Int)<=40)) Z J) J) (ite ((k==3)=Z) (cond (n==0) (s==[]) (cond (n==1) (s==[]) J)) J)))):=by
   simp only[aP,a];rfl
  rw[j];exact zF x (g.ends (aF.of (e.trans m))) S o
 .have a:L (px s<0)=J:=aQ (λh=>c (w.2 (u.1 h)));have z:(s==[])=J:=by
   cases s with
   |nil=>exact zp (λi x=>zp x sw) c
   |cons _ _=>rfl
  have j:aP (k,n,s)=J:=by
   simp only[aP,a,z];exact zaI (k==0) (k==1) (k==2) (k==3) (n==0) (n==1) (L ((M s:Int)<=40))
  rw[j];exact zF x g S rfl
theorem KP(h:M v.q<=1000000):Hg v=Z:=by unfold Hg;rw[KQ h];rfl
theorem PX(h:M v.q<=1000000):PW v=aP v:=by unfold PW;rw[KQ h];rfl
variable {α:Type}{i:Nat}
theorem aa(l:List α)(d:α)(h:i<M l):l.getD ((i:Int).toNat) d=l[i]:=by rw[bB,bf,zQ h,cD]
theorem J0(l:List α)(d:α)(h:i<M l):l.getD i d∈l:=by rw[bf,zQ h,cD];exact bN h
def bK(f w:zD):List zD:=if(w==[])=Z then[f]else[f,w]
def lQ(d:zH)(n:List zD):Bool:=d.any λx=>!bJ n x.1.1&&L (GE.ge (α:=Int) (aj (λf:bV=>bJ n f.2) x.1.t.1 0) 0)
def wz(d:zH)(f w t:zD):Int:=
 if∀n∈bK f w,LE.le (α:=Int) 0 (ab d n)then(if(L (GE.ge (α:=Int) (ab d t) 0)||f==w)=Z then 7 else if lQ d (bK f w)=Z then 10 else 0)else 6
def zcy(y h:zn bF):Prop:=
 (0:Int)<=ab y.1 y.u.1/\(y.v.1=[]\/(0:Int)<=ab y.1 y.v.1)/\LT.lt (α:=Int) (ab y.1 y.2.1.2.1) 0/\y.u.1≠y.v.1/\
 h.q.1=(W y.1 (T (ab y.1 y.u.1)) (zk zl)).1/\
 h.r.1=(ite (y.v.1=[]) y.r.1 ((W y.1 (T (ab y.1 y.v.1)) (zk zl)).1))
def Zp(y:zn bF)(r:ac):Prop:=∃(e:Int)(h:zn bF),r=(I e,aE bF h)/\h.1=y.1/\h.2.1=y.2.1/\h.t=y.t/\e=wz y.1 y.u.1 y.v.1 y.2.1.2.1/\(e=0->zcy y h)
theorem zqH(y:zn bF)(a:List zD)(P:M y.1<=1000000)(q:(0:Int)<=ab y.1 y.u.1)(s:y.v.1=[]\/(0:Int)<=ab y.1 y.v.1)(A:LT.lt (α:=Int) (ab y.1 y.2.1.2.1) 0)(C:y.u.1≠y.v.1)(e:wz y.1 y.u.1 y.v.1 y.2.1.2.1=if lQ y.1 a=Z then 10 else 0)(n:Nat)(D:1+M y.1<=n):
  ∃r,cg DH n (.h11 y.1 (M y.1:Int) 0 y a)=Y r/\Zp y r:=by
 refine di (t:=DH) (β:=Unit) (M y.1) (λ_ i=>.h11 y.1 (M y.1:Int) (i:Int) y a) (λ_ i=>∀j(g:j<M y.1),j<i->(!bJ a y.1[j].1.1&&L (GE.ge (α:=Int) (aj (λf:bV=>bJ a f.2) y.1[j].1.t.1 0) 0))=J) (Zp y) 1 ?_ ?_ (M y.1) 0 () n rfl (zU _) (λj _ h=>by omega) D
 .intro b i o w;simp only[DH,H3,CX,Q9,z6 o,zx o,zj,aa y.1 _ o];rw[zz i um];have d:(!bJ a y.1[i].1.1&&L (GE.ge (α:=Int) (aj (λf:bV=>bJ a f.2) y.1[i].1.t.1 0) 0))=J->∀j(g:j<M y.1),j<i+1->(!bJ a y.1[j].1.1&&L (GE.ge (α:=Int) (aj (λf:bV=>bJ a f.2) y.1[j].1.t.1 0) 0))=J:=by
   intro h j g G;by_cases l:j=i
   .subst l;exact h
   .exact w j g S
  by_cases c:(!bJ a y.1[i].1.1)=Z
  .simp only[c,zj];split
   .rename_i p;refine Or.inr ⟨_,rfl,10,y,rfl,rfl,rfl,rfl,?_,λh=>by cases h⟩;have z:lQ y.1 a=Z:=by
     unfold lQ;exact List.any_eq_true.2 ⟨y.1[i],bN o,by rw[c];simpa using p⟩
    rw[e,zf z]
   next p=>exact Or.inl ⟨(),d (by rw[c];simpa using p),rfl⟩
  .simp only[c];exact Or.inl ⟨(),d (by simp only[g9]at c;rw[c];rfl),rfl⟩
 .intro b n w D;have z:lQ y.1 a=J:=by
   unfold lQ;rw[List.any_eq_false];intro x H;obtain⟨j,g,rfl⟩:=jf H;rw[w j g g];simp
  rw[z]at e
  replace e:=e.symm
  simp only[zO,zr]at e;obtain⟨n,rfl⟩:∃k,n=k+1:=⟨n-1,S⟩;rw[cq];simp only[DH,H3,CX,Q9,aw,my q,zj];by_cases c:(!y.v.1==[])=Z
  .have m:y.v.1≠[]:=by simpa using c
   have E:(0:Int)<=ab y.1 y.v.1:=s.resolve_left m;simp only[c,zj,my E];refine⟨_,rfl,0,_,rfl,rfl,rfl,rfl,e,λ_=>⟨q,s,A,C,rfl,?_⟩⟩;simp[m]
  .have F:y.v.1=[]:=by simpa using c
   simp only[c];refine⟨_,rfl,0,_,rfl,rfl,rfl,rfl,e,λ_=>⟨q,s,A,C,rfl,?_⟩⟩;simp[F]
theorem zuc(y:zn bF)(a:List zD)(d:a=bK y.u.1 y.v.1)(F:M y.1<=1000000)(n:Nat)(s:2+M y.1+M a<=n):
  ∃r,cg DH n (.h3 a (M a:Int) 0 y a)=Y r/\Zp y r:=by
 have G:M a<=2:=by rw[d];unfold bK;split<;>simp
 refine di (t:=DH) (β:=Unit) (M a) (λ_ i=>.h3 a (M a:Int) (i:Int) y a) (λ_ i=>∀j(e:j<M a),j<i->(0:Int)<=ab y.1 a[j]) (Zp y) (2+M y.1) ?_ ?_ (M a) 0 () n rfl (zU _) (λj _ h=>by omega) s
 .intro b i l o;simp only[DH,NQ,H4,Q9,z6 l,zx l,zj,aa a _ l];rw[zz i um];by_cases c:(0:Int)<=ab y.1 a[i]
  .have:L (LT.lt (α:=Int) (ab y.1 a[i]) 0)=J:=by simpa using c
   simp only[this];refine Or.inl ⟨(),λj e E=>?_,rfl⟩;by_cases g:j=i
   .subst g;exact c
   .exact o j e S
  .have:L (LT.lt (α:=Int) (ab y.1 a[i]) 0)=Z:=by simpa using c
   simp only[this,zj];refine Or.inr ⟨_,rfl,6,y,rfl,rfl,rfl,rfl,?_,λh=>by cases h⟩;unfold wz;rw[zh];intro h;exact c (h _ (by rw[<-d];exact bN l))
 .intro b n o s;obtain⟨n,rfl⟩:∃k,n=k+1:=⟨n-1,S⟩;have m:∀n∈bK y.u.1 y.v.1,LE.le (α:=Int) 0 (ab y.1 n):=by
   intro x z;rw[<-d]at z;obtain⟨j,e,rfl⟩:=jf z;exact o j e e
  have q:wz y.1 y.u.1 y.v.1 y.2.1.2.1=if(L (GE.ge (α:=Int) (ab y.1 y.2.1.2.1) 0)||y.u.1==y.v.1)=Z then 7 else if lQ y.1 a=Z then 10 else 0:=by
   unfold wz;rw[zf m,<-d]
  have A:(0:Int)<=ab y.1 y.u.1:=m _ (by unfold bK;split<;>simp);have C:y.v.1=[]\/(0:Int)<=ab y.1 y.v.1:=by
   by_cases w:(y.v.1==[])=Z
   .left;simpa using w
   .right;exact m _ (by unfold bK;rw[zh w];simp)
  rw[cq];simp only[DH,NQ,H4,Q9,aw];by_cases c:(bif L (GE.ge (α:=Int) (ab y.1 y.2.1.2.1) 0)then Z else y.u.1==y.v.1)=Z
  .simp only[c,zj];refine⟨_,rfl,7,y,rfl,rfl,rfl,rfl,?_,λh=>by cases h⟩;rw[q,zf (by revert c;cases L (GE.ge (α:=Int) (ab y.1 y.2.1.2.1) 0)<;>exact id)]
  .simp only[c];have p:L (GE.ge (α:=Int) (ab y.1 y.2.1.2.1) 0)=J:=by
    cases D:L (GE.ge (α:=Int) (ab y.1 y.2.1.2.1) 0)with
    |false=>rfl
    |true=>rw[D]at c;simp at c
   rw[p]at c;refine zqH y a F A C (by simpa using p) (by simpa using c) ?_ n S;rw[q,p,zh (by simpa using c)]
theorem Ko(y:zn bF)(g:M y.1<=1000000):∃(e:Int)(h:zn bF),qm y=Y ((e,()),h)/\h.1=y.1/\h.2.1=y.2.1/\h.t=y.t/\e=wz y.1 y.u.1 y.v.1 y.2.1.2.1/\(e=0->zcy y h):=by
 have b:kT (y.t.1,y.u.1,y.v.1,(y.w.1,[],y.x.1,[],[],zP y.y.1),[],y.z.1)=bK y.u.1 y.v.1:=rfl;obtain⟨r,c,e,h,rfl,d⟩:=zuc y _ b g 100000000 (by
  have:M (kT (y.t.1,y.u.1,y.v.1,(y.w.1,[],y.x.1,[],[],zP y.y.1),[],y.z.1))<=2:=by rw[b];unfold bK;split<;>simp
  omega)
 refine⟨e,h,?_,d⟩;unfold qm ls b6;simp only[zhm,Q9];rw[c];exact b7 (outs:=[zi]) (r:=I e) (a:=(e,())) h rfl
theorem Th{n:Nat}(h:i<n):L ((i:Int).toNat<n)=Z:=by simpa using h
def wC(t:am):Int:=
 if∃i,i<M t.2.1/\ah t (W t.2.1 i (zk zu)).1≠(i:Int)then 7 else if(t.u.op==[])=Z then 0
 else if(cond ((fJ t.u t.2.1).2==0) (cond ((fJ t.u t.2.1).1!=3) ((fJ t.u t.2.1).1!=0) J) J)=Z then 5 else(fJ t.u t.2.1).2
abbrev Qu(y:zn al):am:=(y.w.1,y.x.1,y.y.1,[],[],y.z.1)
theorem rY(y:zn al)(l:M y.x.1<=1000000):tL y=Y ((wC (Qu y),()),y):=by
 have h:=di (t:=NR) (β:=Unit) (M y.x.1) (λ_ i=>.h2 (M y.x.1:Int) (i:Int) y) (λ_ i=>∀j,j<i->j<M y.x.1->ah (Qu y) (W y.x.1 j (zk zu)).1=(j:Int)) (λr=>r=(I (wC (Qu y)),aE al y)) 1 (by
   intro b i d g;simp only[NR,NS,H5,Q9,z6 d,zx d,zL d,zj,zt,bB];rw[zz i um];by_cases c:(ah (Qu y) (W y.x.1 i (zk zu)).1!=(i:Int))=Z
   .simp only[c,zj];refine Or.inr ⟨_,rfl,?_⟩;unfold wC;rw[zf ⟨i,d,by simpa using c⟩]
   .simp only[c];refine Or.inl ⟨(),λj q l=>?_,rfl⟩;by_cases h:j=i
    .subst h;simpa using c
    .exact g j S l) (by
   intro b n g s;obtain⟨n,rfl⟩:∃k,n=k+1:=⟨n-1,S⟩;have m:¬∃i,i<M (Qu y).2.1/\ah (Qu y) (W (Qu y).2.1 i (zk zu)).1≠(i:Int):=by
    rintro⟨i,d,h⟩;exact h (g i d d)
   have p:(NR (.h2 (M y.x.1:Int) (M y.x.1:Int) y)).val=Y (.inr (I (wC (Qu y)),aE al y)):=by
    simp only[NR,NS,H5,Q9,aw,zt];unfold wC;rw[zh m];split
    .simp_all
    .split
     .rfl
     .split<;>rfl
   rw[cq,p];exact⟨_,rfl,rfl⟩)
  y.x.1.length 0 () 100000000 rfl (zU _) (λj h=>by omega) S
 obtain⟨r,o,rfl⟩:=h;unfold tL ls b6;simp only[zhn,Q9];have e:cg NR 100000000 (.h2 (M y.x.1:Int) 0 y)=Y (I (wC (Qu y)),aE al y):=o;rw[e];exact b7 (outs:=[zi]) (r:=I (wC (Qu y))) (a:=(wC (Qu y),())) y rfl
theorem uw(t:am)(s:zD):ah t s=(-1:Int)\/((0:Int)<=ah t s/\LT.lt (α:=Int) (ah t s) (M t.2.1)):=by have:=ir (λc:ci=>c.1==s) t.2.1 0;unfold ah;simpa using this
theorem Sl{t:am}{s:zD}(h:¬LT.lt (α:=Int) (ah t s) 0):zT (ah t s) (M t.2.1)=Z:=by
 rcases uw t s with x|⟨x,a⟩
 .rw[x]at h;simp at h
 .simp only[zT,ar,aT];exact⟨x,a⟩
theorem xy(x:Int):∀(l:List Int)(i:Nat),GE.ge (α:=Int) (eX x l (i:Int)) 0↔x∈l
 | [],i=>by
  rw[eX];exact⟨λh=>zp h (by decide),λh=>by cases h⟩
 | a::r,i=>by
  rw[eX];split
  .rename_i h;have:x=a:=by simpa using h
   subst this;exact⟨λ_=>sy,λ_=>Int.natCast_nonneg i⟩
  next h=>have:=xy x r (i+1);rw[sA]at this;rw[bD];refine⟨λb=>.inr (this.1 b),λb=>this.2 (b.resolve_left ?_)⟩;rintro rfl;simp at h
theorem rV(l:List Int)(x:Int):rU l x=Z↔x∈l:=by unfold rU;rw[decide_eq_true_iff];exact xy x l 0
def pD(t:am)(n:List zD):Int:=if∀s∈n,¬LT.lt (α:=Int) (ah t s) 0 then(ite ((n.map (ah t)).Nodup) 0 7)else 4
theorem B4{l:List Int}{x:Int}:(l++[x]).Nodup↔l.Nodup/\x∉l:=by rw[List.nodup_append];simp;intro _;exact⟨λh a=>h x a rfl,λh y b e=>h (e▸b)⟩
theorem ch{l:List α}(h:i<M l):l.take (i+1)=l.take i++[l[i]]:=by rw[List.take_add_one,zQ h];rfl
def LR(y:zn bF)(z:zn eb):Prop:=z.1=y.1/\z.2.1=y.2.1/\z.q.1=y.q.1/\z.r.1=y.r.1/\z.t.1=y.t.1/\z.u.1=y.u.1/\z.v.1=y.v.1/\z.w.1=y.w.1/\
 z.y.1=y.x.1/\z.z.1=y.y.1/\z.p=y.z
abbrev gn(z:zn eb):aU:=z.x.1
abbrev fq(z:zn eb):da:=z.s.1
def NmI(y:zn bF)(l:List zD)(z:zn eb):Prop:=LR y z/\fq z=l.map (λs=>ah y.q.1 s)/\gn z=l.map (λs=>W y.q.1.2.1 (T (ah y.q.1 s)) (zk zu))/\∀s∈l,¬LT.lt (α:=Int) (ah y.q.1 s) 0
def NmR(y:zn bF)(r:ac):Prop:=∃(e:Int)(z:zn eb),r=(I e,aE al z)/\LR y z/\e=pD y.q.1 y.2.1.r.1/\(e=0->NmI y y.2.1.r.1 z)/\(gn z).length<=1000000
theorem zo9(y:zn bF)(z:zn eb)(d:NmI y y.2.1.r.1 z)(l:pD y.q.1 y.2.1.r.1=if(fq z).Nodup then 0 else 7)(v:(fq z).length<=1000000)(m:Nat):∀(i n:Nat),(fq z).length-i=m->i<=(fq z).length->((fq z).take i).Nodup->1+m<=n->∃r,cg qU n (.h12b ((fq z).length:Int) (i:Int) z)=Y r/\NmR y r:=by
 intro i n w x g o;have a:(gn z).length<=1000000:=by
  have:=v;rw[d.2.1,bR]at this;rw[d.q.1,bR];exact this
 refine di (t:=qU) (β:=Unit) (fq z).length (λ_ i=>.h12b ((fq z).length:Int) (i:Int) z) (λ_ i=>((fq z).take i).Nodup) (NmR y) 1 ?_ ?_ m i () n w x g o
 .intro b i x e;have u:(L (0<=0)&&L ((0:Int)<=(i:Int))&&L ((i:Int)<=((fq z).length:Int)))=Z:=by simp;omega
  simp only[qU,CY,wA,Q9,z6 x,zx x,zj,u];rw[zz i um];rw[show List.take (T (i:Int)-T 0) (List.drop (T 0) z.s.1)=(fq z).take i by simp,show z.s.1.getD (T (i:Int)) (zk zi)=(fq z)[i]from aa (fq z) _ x];split
  next c=>refine Or.inr ⟨_,rfl,7,z,rfl,d.1,?_,λh=>(by cases h),a⟩;rw[l,zh];intro p;have j:((fq z).take (i+1)).Nodup:=p.sublist (List.take_sublist _ _);rw[ch x,B4]at j;exact j.2 ((rV _ _).1 c)
  next c=>refine Or.inl ⟨(),?_,rfl⟩;show((fq z).take (i+1)).Nodup;rw[ch x,B4];exact⟨e,λh=>c ((rV _ _).2 h)⟩
 .intro b n e o;rw[jg]at e;obtain⟨n,rfl⟩:∃k,n=k+1:=⟨n-1,S⟩;rw[cq];simp only[qU,CY,wA,Q9,aw];exact⟨_,rfl,0,z,rfl,d.1,by rw[l,zf e],λ_=>d,a⟩
theorem zt4(y:zn bF)(z:zn eb)(x:NmI y y.2.1.r.1 z)(g:pD y.q.1 y.2.1.r.1=if(fq z).Nodup then 0 else 7)(i:(fq z).length<=1000000)(n:Nat)(m:2+(fq z).length<=n):∃r,cg qU n (.h12 ((fq z).length:Int) 0 z)=Y r/\NmR y r:=by
 have d:(gn z).length<=1000000:=by
  have:=i;rw[x.2.1,bR]at this;rw[x.q.1,bR];exact this
 obtain⟨n,rfl⟩:∃k,n=k+1:=⟨n-1,S⟩;rw[cq];by_cases h:0<(fq z).length
 .have l:(L (0<=0)&&L ((0:Int)<=((0:Nat):Int))&&L (((0:Nat):Int)<=((fq z).length:Int)))=Z:=by simp
  have a:(∃r,(qU (.h12 ((fq z).length:Int) ((0:Nat):Int) z)).val=Y (.inr r)/\NmR y r)\/(qU (.h12 ((fq z).length:Int) ((0:Nat):Int) z)).val=Y (.inl (.h12b ((fq z).length:Int) ((1:Nat):Int) z)):=by
   simp only[qU,H6,CZ,Q9,z6 h,zx h,Th h,zj,l];rw[zz 0 um];split
   next c=>exact zp ((rV _ _).1 c) sw
   .exact Or.inr rfl
  rw[Int.ofNat_zero]at a;rcases a with⟨r,b,j⟩|b
  .rw[b];exact⟨r,rfl,j⟩
  .rw[b];exact zo9 y z x g i _ 1 n rfl S (by rw[ch h];simp) S
 .have e:(fq z).length=0:=by omega
  have a:(qU (.h12 ((fq z).length:Int) 0 z)).val=Y (.inr (I 0,aE al z)):=by
   rw[e];simp[qU,H6,CZ,Q9]
  rw[a];exact⟨_,rfl,0,z,rfl,x.1,by rw[g,zf (by rw[Do e];exact List.nodup_nil)],λ_=>x,d⟩
theorem nm3(y:zn bF)(z:zn eb)(E:NmI y [] z)(F:M y.2.1.r.1<=1000000)(n:Nat)(A:3+M y.2.1.r.1+M y.2.1.r.1<=n):∃r,cg qU n (.h3 y.2.1.r.1 (M y.2.1.r.1:Int) 0 z)=Y r/\NmR y r:=by
 refine di (t:=qU) (β:=zn eb) (M y.2.1.r.1) (λz i=>.h3 y.2.1.r.1 (M y.2.1.r.1:Int) (i:Int) z) (λz i=>NmI y (y.2.1.r.1.take i) z) (NmR y) (3+M y.2.1.r.1) ?_ ?_ (M y.2.1.r.1) 0 z n rfl (zU _) (by simpa using E) A
 .intro z i b a;have⟨l,C,o,D⟩:=a;have c:(fq z).length<=1000000:=by rw[C,bR,kG];omega
  have g:(gn z).length<=1000000:=by rw[o,bR,kG];omega
  have j:z.q.1=y.q.1:=l.q.1;simp only[qU,NU,H7,Q9,z6 b,zx b,zj,aa _ _ b,zt,aJ];rw[zz i um];by_cases e:LT.lt (α:=Int) (ah z.q.1 y.2.1.r.1[i]) 0
  .simp only[zL e,zj];refine Or.inr ⟨_,rfl,4,z,rfl,l,?_,λh=>(by cases h),g⟩;unfold pD;rw[zh];intro h;exact h _ (bN b) (by rw[<-j];exact e)
  .simp only[aQ e,Sl e];refine Or.inl ⟨(z.1,z.2.1,z.q.1,z.r.1,z.t.1,z.u.1,z.v.1,z.w.1,z.x.1++[W z.q.1.2.1 (T (ah z.q.1 y.2.1.r.1[i])) (zk zu)],z.y.1,z.z.1,z.s.1++[ah z.q.1 y.2.1.r.1[i]],z.p),⟨l,?_,?_,?_⟩,?_⟩;rotate_left 3
   .rw[zh sw,zf (by have:M z.s.1<=1000000:=c;simp;omega),zf trivial,zf (by have:M z.x.1<=1000000:=g;simp;omega)]
   .show fq z++[ah z.q.1 y.2.1.r.1[i]]=_;rw[C,j,ch b,fx];rfl
   .show gn z++[W z.q.1.2.1 (T (ah z.q.1 y.2.1.r.1[i])) (zk zu)]=_;rw[o,j,ch b,fx];rfl
   .intro s d;rw[ch b,bX]at d;rcases d with d|d
    .exact D s d
    .rw[eh]at d;rw[d,<-j];exact e
 .intro z n a A;obtain⟨n,rfl⟩:∃k,n=k+1:=⟨n-1,S⟩;rw[jg]at a;have c:(fq z).length=M y.2.1.r.1:=by rw[a.2.1,bR]
  rw[cq];simp only[qU,NU,H7,Q9,aw];have m:2+(fq z).length<=n:=by rw[c];omega
  refine zt4 y z a ?_ S n m;unfold pD;rw[zf a.r,a.2.1]
theorem Fm(y:zn bF)(c:M y.2.1.r.1<=1000000):∃(e:Int)(z:zn eb),yJ y=Y ((e,()),z)/\LR y z/\e=pD y.q.1 y.2.1.r.1/\(e=0->NmI y y.2.1.r.1 z)/\(gn z).length<=1000000:=by
 obtain⟨r,h,e,z,rfl,b⟩:=nm3 y (y.1,y.2.1,y.q.1,y.r.1,y.t.1,y.u.1,y.v.1,y.w.1,[],y.x.1,y.y.1,[],y.z)
  ⟨⟨rfl,rfl,rfl,rfl,rfl,rfl,rfl,rfl,rfl,rfl,rfl⟩,rfl,rfl,sw⟩ c 100000000 S
 refine⟨e,z,?_,b⟩;unfold yJ ls b6;simp only[zhr,Q9];rw[h];exact b7 (outs:=[zi]) (r:=I e) (a:=(e,())) (ps:=al) z rfl
theorem zdt(y:zn bF):Vz y=y:=by grind[zt]
def mZ(y:zn bF)(z:zn al):Prop:=z.1=y.1/\z.2.1=y.2.1/\z.q.1=y.q.1/\z.r.1=y.r.1/\z.t.1=y.t.1/\z.u.1=y.u.1/\z.v.1=y.v.1/\z.w.1=y.w.1
structure nY (z:zn al) (cols:aU) (key:Int) (ix:List Int) (on:Int):Prop where
 cols:z.x.1=cols
 key:z.y.1=key
 ix:z.s.1=ix
 on:z.p.1=on
def fy(t:am)(n:List zD):aU:=n.map λs=>W t.2.1 (T (ah t s)) (zk zu)
def xz(t:am)(n:List zD):List Int:=n.map (ah t)
def sT(t:am)(n:List zD):Int:=if pD t n=0 then(if LT.lt (α:=Int) (jM (xz t n) t.q.1) 0 then 1 else 0)else pD t n
def qT(t:am)(n:List zD):Int:=if pD t n=0 then(ite (((fy t n).getD 1 (zk zu)).2.1=(1:Int)) 0 5)else pD t n
def yh(t:am)(n:List zD):aU:=
 [(((fy t n).getD 0 (zk zu)).1,((fy t n).getD 0 (zk zu)).2.1,Z),(((fy t n).getD 1 (zk zu)).1,((fy t n).getD 1 (zk zu)).2.1,J)]
def fY(t u:am)(k w:zD):Int:=
 if LT.lt (α:=Int) (ah t k) 0 then 4 else if kP t.t.1 (ah t k,w)=Z then(if LT.lt (α:=Int) 9 ((M t.2.1:Int)+(M u.2.1:Int))then 13 else 0)else 10
def Cb(k:Int)(n:Nat):List Nat:=(List.range n).filter λj=>(j:Int)!=k
def tU(k:Int)(n:Nat):List Int:=(Cb k n).map λ(j:Nat)=>(j:Int)
def nM(u:am)(n:Nat):aU:=(Cb u.q.1 n).map λj=>W u.2.1 j (zk zu)
theorem zhj(y:zn bF):zam y=V1 y y (jz y) (jM (jz y).p.1 (jz y).r.1.q.1):=by unfold zam;rw[zdt]
theorem WB(y:zn bF)(A:M y.2.1.r.1<=1000):∃z:zn al,GV y=Y ((sT y.q.1 y.2.1.r.1,()),z)/\mZ y z/\z.z.1=y.y.1/\
  (gn z).length<=1000000/\(sT y.q.1 y.2.1.r.1=0->nY z (fy y.q.1 y.2.1.r.1) (jM (xz y.q.1 y.2.1.r.1) y.q.1.q.1) (xz y.q.1 y.2.1.r.1) y.z.1):=by
 have⟨e,z,m,x,l,n,b⟩:=Fm y S;have s:jz y=(e,z):=by unfold jz;rw[m];rfl
 have p:nK y=Z:=by unfold nK;rw[m];rfl
 have d:mZ y z:=⟨x.1,x.2.1,x.q.1,x.r.1,x.t.1,x.u.1,x.v.1,x.w.1⟩;have c:z.z.1=y.y.1:=x.y.1;unfold GV ls b6;rw[zhj];simp only[V1,Q9,s,p,zj];by_cases g:e=0
 .have j:=n g;have i:sT y.q.1 y.2.1.r.1=if LT.lt (α:=Int) (jM (fq z) z.q.1.q.1) 0 then 1 else 0:=by
   unfold sT;rw[zf (l▸g),j.2.1,x.q.1];rfl
  simp only[g,kF,zO,zr];by_cases k:LT.lt (α:=Int) (jM (fq z) z.q.1.q.1) 0
  .rw[zf k]at i;simp only[zL k,zj,i];exact⟨_,b7 (outs:=[zi]) (r:=I 1) (a:=(1,())) (ps:=al) _ rfl,d,c,b,λh=>by cases h⟩
  .rw[zh k]at i;simp only[aQ k,i];refine⟨_,b7 (outs:=[zi]) (r:=I 0) (a:=(0,())) (ps:=al) _ rfl,d,c,b,λ_=>⟨j.q.1,?_,j.2.1,by rw[x.z]⟩⟩;show jM (fq z) z.q.1.q.1=_;rw[j.2.1,x.q.1];rfl
 .have o:(e !=0)=Z:=by simpa using g
  have i:sT y.q.1 y.2.1.r.1=e:=by
   unfold sT;rw[zh (l▸g),l]
  simp only[o,zj,i];exact⟨_,b7 (outs:=[zi]) (r:=I e) (a:=(e,())) (ps:=al) z rfl,d,c,b,λh=>zp h g⟩
theorem zhl(y:zn bF):zaq y=(let a:=jz y
  let b:=a.y.1.getD (T 1) (zk zu)
  let h:=a.y.1.getD (T 0) (zk zu)
  let x:=a.y.1.set (T 0) (h.1,h.2.1,Z)
  let c:=x.getD (T 1) (zk zu)
  V2 y y a b h x c):=by unfold zaq;rw[zdt]
theorem SA(y:zn bF)(hl:M y.2.1.r.1=2):∃z:zn al,yI y=Y ((qT y.q.1 y.2.1.r.1,()),z)/\mZ y z/\z.z.1=y.y.1/\
  (gn z).length<=1000000/\(qT y.q.1 y.2.1.r.1=0->nY z (yh y.q.1 y.2.1.r.1) y.x.1 (xz y.q.1 y.2.1.r.1) y.z.1):=by
 have⟨e,z,h1,g,he,h2,n⟩:=Fm y S;have hn:jz y=(e,z):=by unfold jz;rw[h1];rfl
 have hc:nK y=Z:=by unfold nK;rw[h1];rfl
 have m:mZ y z:=⟨g.1,g.2.1,g.q.1,g.r.1,g.t.1,g.u.1,g.v.1,g.w.1⟩;have l:z.z.1=y.y.1:=g.y.1;have s:z.y.1=y.x.1:=g.x.1;have h4:z.p.1=y.z.1:=by rw[g.z]
 unfold yI ls b6;rw[zhl];simp only[V2,hn];by_cases o:e=0
 .have hI:=h2 o;have A:(gn z).length=2:=by rw[hI.q.1,bR];exact hl
  have d:gn z=fy y.q.1 y.2.1.r.1:=hI.q.1;have h3:fq z=xz y.q.1 y.2.1.r.1:=hI.2.1;have k:qT y.q.1 y.2.1.r.1=if((fy y.q.1 y.2.1.r.1).getD 1 (zk zu)).2.1=(1:Int)then 0 else 5:=by
   unfold qT;rw[zf (he▸o)]
  have⟨C,D,E,F,G,H,P,U,j,z9⟩:=z;obtain⟨c,b,rfl⟩:∃c b,j=[c,b]:=by
   match j,A with
   |[c,b],_=>exact⟨c,b,rfl⟩
  have d:[c,b]=fy y.q.1 y.2.1.r.1:=d;unfold yh;rw[<-d]at k|-;simp only[Q9,hc,zj,o,kF,zO,zr];have e1:zT 1 (M [c,b])=Z:=rfl;have e0:zT 0 (M [c,b])=Z:=rfl;by_cases i:b.2.1=(1:Int)
  .rw[zf (show([c,b].getD 1 (zk zu)).2.1=(1:Int)from i)]at k;rw[k];refine⟨(C,D,E,F,G,H,P,U,[(c.1,c.2.1,Z),(b.1,b.2.1,J)],z9),?_,m,l,S,λ_=>⟨rfl,s,h3,h4⟩⟩;simp[i,W,zT];exact b7 (outs:=[zi]) (r:=I 0) (a:=(0,())) (ps:=al) (C,D,E,F,G,H,P,U,[(c.1,c.2.1,Z),(b.1,1,J)],z9) rfl
  .rw[zh (show¬([c,b].getD 1 (zk zu)).2.1=(1:Int)from i)]at k;rw[k];refine⟨(C,D,E,F,G,H,P,U,[c,b],z9),?_,m,l,by show M [c,b]<=_;simp,λh=>by cases h⟩;simp[i,W];exact b7 (outs:=[zi]) (r:=I 5) (a:=(5,())) (ps:=al) (C,D,E,F,G,H,P,U,[c,b],z9) rfl
 .have hb:(e !=0)=Z:=by simpa using o
  have k:qT y.q.1 y.2.1.r.1=e:=by
   unfold qT;rw[zh (he▸o),he]
  simp only[Q9,hc,hb,zj,k];exact⟨z,b7 (outs:=[zi]) (r:=I e) (a:=(e,())) (ps:=al) z rfl,m,l,n,λh=>zp h o⟩
def JnI(y:zn bF)(i:Nat)(z:zn eb):Prop:=mZ y z/\z.z.1=y.y.1/\nY z (y.q.1.2.1++nM y.r.1 i) y.q.1.q.1 (tU y.r.1.q.1 i) (ah y.q.1 y.2.1.u.1)
theorem pz(k:Int)(n:Nat):(Cb k n).length<=n:=by grind[Cb]
theorem SG(k:Int)(n:Nat):Cb k (n+1)=if((n:Int)!=k)=Z then Cb k n++[n]else Cb k n:=by grind[Cb,List.range_succ]
theorem ztL(y:zn bF)(z:zn eb)(D:JnI y 0 z)(E:M y.q.1.2.1<=100)(F:M y.r.1.2.1<=100)(n:Nat)(l:1+M y.r.1.2.1<=n):
  ∃r,cg NP n (.h11 y.r.1.2.1 (M y.r.1.2.1:Int) 0 z)=Y r/\∃o:zn eb,r=(I 0,aE al o)/\JnI y (M y.r.1.2.1) o:=by
 refine di (t:=NP) (β:=zn eb) (M y.r.1.2.1) (λz i=>.h11 y.r.1.2.1 (M y.r.1.2.1:Int) (i:Int) z) (λz i=>JnI y i z) _ 1 ?_ ?_ (M y.r.1.2.1) 0 z n rfl (zU _) D l
 .intro z i d j;have⟨e,c,a⟩:=j;have m:=pz y.r.1.q.1 i;have A:(gn z).length<=2000:=by
   rw[show gn z=_ from a.cols,cL,nM,bR];omega
  have C:(fq z).length<=2000:=by
   rw[show fq z=_ from a.ix,tU,bR];omega
  have g:z.r.1.q.1=y.r.1.q.1:=by rw[e.r.1]
  simp only[NP,H2,CW,Q9,z6 d,zx d,zj,aa _ _ d];rw[zz i um];refine Or.inl ?_;have h:=SG y.r.1.q.1 i;split
  .rename_i b;rw[g]at b;rw[zf b]at h;refine⟨(z.1,z.2.1,z.q.1,z.r.1,z.t.1,z.u.1,z.v.1,z.w.1,z.x.1++[y.r.1.2.1[i]],z.y.1,z.z.1,z.s.1++[(i:Int)],z.p),⟨e,c,⟨?_,a.key,?_,a.on⟩⟩,?_⟩
   .grind[nY.cols,nM]
   .grind[nY.ix,tU]
   grind
  .rename_i b;rw[g]at b;rw[zh b]at h;refine⟨z,⟨e,c,⟨?_,a.key,?_,a.on⟩⟩,rfl⟩
   .rw[a.cols,nM,nM,h]
   .rw[a.ix,tU,tU,h]
 .intro z n j l;obtain⟨n,rfl⟩:∃k,n=k+1:=⟨n-1,S⟩;grind[cq,NP,H2,CW,Q9]
theorem WC(y:zn bF)(E:M y.q.1.2.1<=100)(F:M y.r.1.2.1<=100):∃z:zn al,BR y=Y ((fY y.q.1 y.r.1 y.2.1.u.1 y.v.1,()),z)/\mZ y z/\z.z.1=y.y.1/\
  (gn z).length<=1000000/\(fY y.q.1 y.r.1 y.2.1.u.1 y.v.1=0->nY z (y.q.1.2.1++nM y.r.1 (M y.r.1.2.1)) y.q.1.q.1 (tU y.r.1.q.1 (M y.r.1.2.1)) (ah y.q.1 y.2.1.u.1)):=by
 have p:∀(a:aU)(b:Int)(c:zg)(d:List Int)(e:Int),mZ y (y.1,y.2.1,y.q.1,y.r.1,y.t.1,y.u.1,y.v.1,y.w.1,a,b,c,d,e,()):=λ_ _ _ _ _=>⟨rfl,rfl,rfl,rfl,rfl,rfl,rfl,rfl⟩
 have A:Γ Δ (Γ Δ ((M y.q.1.2.1:Int)+(M y.r.1.2.1:Int))-1)=(M y.q.1.2.1:Int)+(M y.r.1.2.1:Int)-1:=by
  rw[nW ((M y.q.1.2.1:Int)+(M y.r.1.2.1:Int)) S S,nW _ S S]
 have o:∀e:Int,e≠0->(J6 y).val=Y (.inr (I e,aE al (y.1,y.2.1,y.q.1,y.r.1,y.t.1,y.u.1,y.v.1,y.w.1,[],y.x.1,y.y.1,[],ah y.q.1 y.2.1.u.1,())))->fY y.q.1 y.r.1 y.2.1.u.1 y.v.1=e->∃z:zn al,BR y=Y ((fY y.q.1 y.r.1 y.2.1.u.1 y.v.1,()),z)/\mZ y z/\z.z.1=y.y.1/\
  (gn z).length<=1000000/\(fY y.q.1 y.r.1 y.2.1.u.1 y.v.1=0->nY z (y.q.1.2.1++nM y.r.1 (M y.r.1.2.1)) y.q.1.q.1 (tU y.r.1.q.1 (M y.r.1.2.1)) (ah y.q.1 y.2.1.u.1)):=by
  intro e D l k;rw[k];refine⟨_,tV l (b7 (outs:=[zi]) (r:=I e) (a:=(e,())) (ps:=al) _ rfl),p _ _ _ _ _,rfl,by show([]:aU).length<=_;simp,λh=>zp h D⟩
 by_cases g:LT.lt (α:=Int) (ah y.q.1 y.2.1.u.1) 0
 .refine o 4 (by decide) ?_ (by unfold fY;rw[zf g]);grind[J6,J7,Q9,zt]
 by_cases i:kP y.q.1.t.1 (ah y.q.1 y.2.1.u.1,y.v.1)=Z
 .by_cases n:LT.lt (α:=Int) 9 ((M y.q.1.2.1:Int)+(M y.r.1.2.1:Int))
  .refine o 13 (by decide) ?_ (by unfold fY;rw[zh g,zf i,zf n]);simp only[J6,J7,Q9,zt,aQ g,i,A];grind
  .have k:fY y.q.1 y.r.1 y.2.1.u.1 y.v.1=0:=by unfold fY;rw[zh g,zf i,zh n]
   have l:(J6 y).val=Y (.inl (.h11 y.r.1.2.1 (M y.r.1.2.1:Int) 0 (y.1,y.2.1,y.q.1,y.r.1,y.t.1,y.u.1,y.v.1,y.w.1,y.q.1.2.1,y.q.1.q.1,y.y.1,[],ah y.q.1 y.2.1.u.1,()))):=by
    simp only[J6,J7,Q9,zt,aQ g,i,A];rw[zh sw,zh sw,zh sg,zf sg]
   obtain⟨r,C,m,rfl,j⟩:=ztL y (y.1,y.2.1,y.q.1,y.r.1,y.t.1,y.u.1,y.v.1,y.w.1,y.q.1.2.1,y.q.1.q.1,y.y.1,[],ah y.q.1 y.2.1.u.1,()) ⟨p _ _ _ _ _,rfl,⟨by simp[nM,Cb],rfl,rfl,rfl⟩⟩ E F 100000000 S;rw[k];refine⟨m,?_,j.1,j.2.1,?_,λ_=>j.q⟩
   .unfold BR ls b6;rw[l];show(cg NP 100000000 _).bind _=_;rw[C];exact b7 (outs:=[zi]) (r:=I 0) (a:=(0,())) (ps:=al) m rfl
   .have s:=pz y.r.1.q.1 (M y.r.1.2.1);rw[show gn m=_ from j.q.cols,cL,nM,bR];omega
 .refine o 10 (by decide) ?_ (by unfold fY;rw[zh g,zh i]);grind[J6,J7,Q9,zt]
def FX(l h:List fM):Prop:=M h<=201/\∀r∈h,∃x∈l,r=xD x
theorem zsl(n:Nat)(c:Int)(l:c<=201)(q:0<=c)(z:zn cpR)(e:zn zgM)(t:am)(m:300<=n):∃a:List fM,FX z.1.2 a/\∃r,cg X8 n (.h6 c 0 z e (t,[],()))=Y r/\bc r.2 [zl] r.1=Y (((t,a):zX),()):=by
 obtain⟨x,g⟩:∃x:Nat,c=(x:Int):=⟨T c,S⟩;have h:=di (t:=X8) (β:=List fM) (min x (M z.1.2)) (λb i=>.h6 c (i:Int) z e (t,b,())) (λb i=>M b=i/\∀r∈b,∃o∈z.1.2,r=xD o) (λr=>∃a:List fM,FX z.1.2 a/\bc r.2 [zl] r.1=Y (((t,a):zX),())) 1 (by
   grind[zx,X8,Q9,zz,af]) (by
   intro b n d m;obtain⟨n,rfl⟩:∃k,n=k+1:=⟨n-1,S⟩;rw[cq];have j:(cond (L (((min x (M z.1.2):Nat):Int)<(M z.1.2:Int))) (L (((min x (M z.1.2):Nat):Int)<c)) J)=J:=by
    by_cases h:x<=M z.1.2
    .rw[Nat.min_eq_left h,g];simp
    .rw[IV S];simp
   simp only[X8,Q9,j];refine⟨_,rfl,b,⟨by have:=d.1;omega,d.2⟩,?_⟩;have⟨t0,s,u,v,w,p⟩:=t;cases p;rfl) (min x (M z.1.2)) 0 [] n rfl (zU _) ⟨rfl,sw⟩ S
 grind
theorem Kk(x:zX):∃h:List fM,FX x.2 h/\BL x=Y (((C0 x.1,h):zX),()):=by
 have e:C0 (x.1.1,x.1.2.1,x.1.q.1,x.1.r.1,x.1.t.1,zP x.1.u)=C0 x.1:=by rw[zt]
 have a:∃k:Int,0<=k/\k<=201/\(zhh x).val=Y (.inl (.h6 k 0 (x,()) ([],0,[],0,0,[],[],()) (C0 x.1,[],()))):=by
  simp only[zhh,Q9,e];split
  .exact⟨201,S,S,rfl⟩
  .exact⟨40,S,S,rfl⟩
 have⟨k,b,c,a⟩:=a;have⟨h,d,r,g,i⟩:=zsl 100000000 k c b (x,()) ([],0,[],0,0,[],[],()) (C0 x.1) S;grind[BL,aA,b6]
theorem Kj(x:zX):M7 x=Z:=by have⟨h,b,a⟩:=Kk x;unfold M7;rw[a];rfl
theorem Wq(a:zH):∃d:zH,BM a=Y (d,())/\M d<=13/\∀x∈d,∃y∈a,x=xC y:=by
 have h:=di (t:=t7p) (β:=zH) (min 13 (M a)) (λb i=>.h3 a (i:Int) b) (λb i=>M b=i/\∀x∈b,∃y∈a,x=xC y) (λr=>∃d:zH,bc r.2 [zl.sl] r.1=Y (d,())/\M d<=13/\∀x∈d,∃y∈a,x=xC y) 1 (by
   grind[zx,t7p,Q9,zt,Kj,zz,af]) (by
   intro b n c g;obtain⟨n,rfl⟩:∃k,n=k+1:=⟨n-1,S⟩;rw[cq];have e:(cond (L (((min 13 (M a):Nat):Int)<(M a:Int))) (L (((min 13 (M a):Nat):Int)<13)) J)=J:=by
    by_cases h:13<=M a
    .rw[Nat.min_eq_left h];simp
    .rw[IV S];simp
   simp only[t7p,Q9,e];exact⟨_,rfl,b,rfl,S,c.2⟩) (min 13 (M a)) 0 [] 100000000 rfl (zU _) ⟨rfl,sw⟩ S
 grind[BM,aA,b6,i7p,Q9]
structure QD (s:aG):Prop where
 sh:kB s
 cp:oI 16 s.x.1=Z
structure zvr (s0 s:aG):Prop where
 chk:s.x.1=oG s0.x.1
 row:s.y.1=xD s0.y.1
 whr:s.s.1=oG s0.s.1
 sets:∀x∈s.z.1,∃y∈s0.z.1,(x:N pM).2=oG (y:N pM).2
end Cad
