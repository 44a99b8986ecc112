/- States. -/
import Derived.Test.YtgcekmmgphhofaaGreatDoorR41
import Derived.Sort.CutIn
import Derived.Lib.BufStepsIn
namespace Cad
open Go Go.Proofs
open List renaming length->M
open IntKind renaming wrap->Γ,i64->Δ
open Tr renaming val->Q9
open Bool renaming true->Z,false->J
open Option renaming none->Q2,some->Y
open Int (toNat)
open List renaming getD->W
open Cad renaming ow->S,ze->Q
set_option maxHeartbeats 4000000
open Tr (chk br re)
open AV (nils agg tup ptr kb str)
open AV renaming sl->O
theorem Ca{a b:Bool}(h:(cond a Z b)=J):a=J/\b=J:=by cases a<;>cases b<;>simp_all
variable {α:Type}
theorem Kw[BEq α][LawfulBEq α]{a b:α}(h:(!a==b)=J):a=b:=by simpa using h
theorem zgE[BEq α][LawfulBEq α]{a b:α}(h:(a !=b)=J):a=b:=by simpa using h
theorem Su{β:Type}{a:List α}{b:List β}(h:((M a:Int)!=(M b:Int))=J):M a=M b:=by have:=zgE h;omega
theorem znw(a b:jD):(a.1==b.1&&(a.2.1==b.2.1&&(a.q==b.q&&Z)))=Z↔a=b:=by simp[Prod.ext_iff]
theorem tF{o:Option (zA ([Sh.bool].map Y))}{P:Prop}(h:∃r,o=Y (r,())/\(r=Z↔P)):o.isSome=Z/\(o1 o=Z↔P):=by obtain⟨r,rfl,h⟩:=h;exact⟨rfl,h⟩
theorem SQ{a b:pQ}(h:M a<=2000000):P4 a b=Z/\(Hz a b=Z↔a=b):=tF<|by
 by_cases x:M a=M b
 .have c:((M a:Int)!=(M b:Int))=J:=by rw[<-g9,dV];exact λh=>h x
  have g:(zay a b).val=Y (.inl (.h4 a b 0)):=by
   simp only[zay,Q9,c];rfl
  rcases iZ (t:=zqS) (la:=a) (lb:=b) (λi=>.h4 a b i) (.inr (.kb Z,[])) (λi=>(W a (i:Int).toNat (zk aD)).1==(W b (i:Int).toNat (zk aD)).1&&((W a (i:Int).toNat (zk aD)).2.1==(W b (i:Int).toNat (zk aD)).2.1&&((W a (i:Int).toNat (zk aD)).q==(W b (i:Int).toNat (zk aD)).q&&Z))) (λ_ _=>rfl) (λi _ j c=>by rw[znw,aa _ _ j,aa _ _ c]) x h with⟨d,k⟩|⟨d,k⟩
  .exact⟨Z,zF g (k 0 _ rfl) S rfl,by simp[d]⟩
  .exact⟨J,zF g k S rfl,by simp[d]⟩
 .refine⟨J,zG (r:=sm) ?_ rfl,by simp;exact λe=>x (by rw[e])⟩;simp only[zay,Q9,dV.2 x,zj]
theorem AD:∀{a b:List Int},(∀x∈a,0<=x/\x<=255)->(∀x∈b,0<=x/\x<=255)->aL a=aL b->a=b
 |[],[],_,_,_=>rfl
 |[],y::s,_,_,h=>by simp[aL]at h
 |x::r,[],_,_,h=>by simp[aL]at h
 | x::r,y::s,ha,hb,h=>by
  have d:UInt8.ofNat x.toNat=UInt8.ofNat y.toNat/\aL r=aL s:=by simpa[aL]using h
  have e:=congrArg UInt8.toNat d.1;have g:=ha x sw;have i:=hb y sw;simp at e;rw[AD (λz c=>ha z (by simp[c])) (λz c=>hb z (by simp[c])) d.2];congr 1;omega
theorem Ns{a b:cT}(h:M a.1<=2000000)(k:∀x∈a.2,LE.le (α:=Int) 0 x/\LE.le (α:=Int) x 255)(l:∀x∈b.2,LE.le (α:=Int) 0 x/\LE.le (α:=Int) x 255):KS a b=Z/\(yQ a b=Z↔a=b):=tF<|by
 have⟨d,c⟩:=a;have⟨e,n⟩:=b;cases g:(cond ((M d:Int)!=(M e:Int)) Z (!aL c==aL n))with
 | true=>
  refine⟨J,zG (r:=sm) ?_ rfl,?_⟩
  .simp only[zap,Q9,g,zj]
  .constructor
   .intro h;cases h
   .intro h;simp only[cz]at h;obtain⟨rfl,rfl⟩:=h;simp at g
 | false=>
  have⟨p,s⟩:=Ca g;have u:=Su p;have h:M d<=2000000:=h;have j:=AD k l (Kw s);have j:c=n:=j;subst j;have o:(zap (d,c) (e,c)).val=Y (.inl (.h4 0 d c e c)):=by
   simp only[zap,Q9,g];rfl
  rcases iZ (t:=zqP) (la:=d) (lb:=e) (λi=>.h4 i d c e c) (.inr (.kb Z,[])) (λi=>wE (W d (i:Int).toNat (zk Q)) (W e (i:Int).toNat (zk Q))) (λ_ _=>rfl) (λi _ k l=>by rw[gI,aa _ _ k,aa _ _ l]) u h with⟨q,m⟩|⟨q,m⟩
  .exact⟨Z,zF o (m 0 _ rfl) S rfl,by simp[q]⟩
  .exact⟨J,zF o m S rfl,by simp[q]⟩
theorem Z2(a b:bV):(a.1==b.1&&(a.2==b.2&&Z))=Z↔a=b:=by simp[Prod.ext_iff]
theorem Ft{a b:am}(s:M a.2.1<=2000000)(w:M a.2.2.2.1<=2000000)(C:M a.t.1<=2000000)(he:oI 16 a.t.2=Z):yP a b=Z/\(pH a b=Z↔a=b):=tF<|by
 obtain⟨x,d,c,k,g,o⟩:=a;obtain⟨z,e,A,l,j,m⟩:=b;obtain⟨U,s2⟩:=SK (b:=m) he;simp only at U s2;cases n:(cond (!x==z) Z (cond (c !=A) Z (cond ((↑(M d):Int)!=(↑(M e):Int)) Z (cond ((↑(M k):Int)!=(↑(M l):Int)) Z ((↑(M g):Int)!=(↑(M j):Int))))))with
 | true=>
  refine⟨J,zG (r:=sm) ?_ rfl,?_⟩
  .simp only[zat,Q9,n,zj]
  .constructor
   .intro h;cases h
   .intro h;simp only[cz]at h;obtain⟨rfl,rfl,rfl,rfl,rfl,rfl⟩:=h;simp at n
 | false=>
  have v:(zat (x,d,c,k,g,o) (z,e,A,l,j,m)).val=Y (.inl (.h4 0 ((x,d,c,k,g,o),()) ((z,e,A,l,j,m),()))):=by
   simp only[zat,Q9,n];rfl
  obtain⟨c1,n⟩:=Ca n;obtain⟨c3,n⟩:=Ca n;obtain⟨c2,n⟩:=Ca n;obtain⟨c4,c5⟩:=Ca n;have e1:=Kw c1;have e3:=zgE c3;subst e1 e3;rcases iZ (t:=Ya) (la:=d) (lb:=e) (λi=>.h4 i ((x,d,c,k,g,o),()) ((x,e,c,l,j,m),())) (.inl (.h9 0 ((x,d,c,k,g,o),()) ((x,e,c,l,j,m),()))) (λi=>((W d (i:Int).toNat (zk zu)).1==(W e (i:Int).toNat (zk zu)).1&&((W d (i:Int).toNat (zk zu)).2.1==(W e (i:Int).toNat (zk zu)).2.1&&((W d (i:Int).toNat (zk zu)).2.2==(W e (i:Int).toNat (zk zu)).2.2&&Z)))) (λ_ _=>rfl) (λi _ p q=>by rw[Us,aa _ _ p,aa _ _ q]) (Su c2) s with⟨E,u⟩|⟨E,u⟩;rotate_left
  .exact⟨J,zF v u (by simp at s;omega) rfl,by simp[E]⟩
  rcases iZ (t:=Ya) (la:=k) (lb:=l) (λi=>.h9 i ((x,d,c,k,g,o),()) ((x,e,c,l,j,m),())) (.inl (.h14 0 ((x,d,c,k,g,o),()) ((x,e,c,l,j,m),()))) (λi=>W k (i:Int).toNat (zk zi)==W l (i:Int).toNat (zk zi)) (λ_ _=>rfl) (λi _ p q=>by rw[be,aa _ _ p,aa _ _ q]) (Su c4) w with⟨G,y⟩|⟨G,y⟩;rotate_left
  .exact⟨J,zF v (u _ _ y) (by simp at s w;omega) rfl,by simp[G]⟩
  rcases iZ (t:=Ya) (la:=g) (lb:=j) (λi=>.h14 i ((x,d,c,k,g,o),()) ((x,e,c,l,j,m),())) (.inr (.bool (r8 o m),[])) (λi=>((W g (i:Int).toNat (zk zW)).1==(W j (i:Int).toNat (zk zW)).1&&((W g (i:Int).toNat (zk zW)).2==(W j (i:Int).toNat (zk zW)).2&&Z))) (λi _=>by
   simp only[Ya,Q9,zt,U,zj]) (λi _ p q=>by rw[Z2,aa _ _ p,aa _ _ q]) (Su c5) C with⟨H,D⟩|⟨H,D⟩
  rotate_left
  .exact⟨J,zF v (u _ _ (y _ _ D)) (by simp at s w C;omega) rfl,by simp[H]⟩
  refine⟨r8 o m,zF v (u _ _ (y _ _ (D 0 _ rfl))) (by simp at s w C;omega) rfl,?_⟩;rw[s2];subst E G H;simp
theorem SL{a b:List zo}(c:M a<=2000000)(m:∀r∈a,M r<=1000000):P1 a b=Z/\(Ho a b=Z↔a=b):=tF<|by
 by_cases g:M a=M b
 .have d:((M a:Int)!=(M b:Int))=J:=by rw[<-g9,dV];exact λh=>h g
  have j:(zai a b).val=Y (.inl (.h4 a b ((0:Nat):Int))):=by
   simp only[zai,Q9,d];rfl
  rcases Bh (t:=X7) (la:=a) (lb:=b) (λi=>.h4 a b (i:Int)) g (λi c d=>by
   have⟨w,n⟩:=SJ a[i] b[i] (m _ (bN c));have x:(X7 (.h4 a b (i:Int))).val=if(!Hj a[i] b[i])=Z then Y (.inr sm)else Y (.inl (.h4 a b ((i+1:Nat):Int))):=by
    simp only[X7,Q9,aa _ _ c,aa _ _ d,z6 c,zx c,zx d,w,zj];rw[zz i um]
   rw[n]at x;refine⟨λh=>?_,λh=>?_⟩
   .rw[x,zh (by rw[tf.2 h];simp)]
   .rw[x,zf];cases l:eqR a[i] b[i]
    .rfl
    .exact zp (tf.1 l) h)with⟨q,k⟩|⟨q,k⟩
  .refine⟨Z,zF j (k.ends (aF.of (r:=(.kb Z,[])) ?_)) S rfl,by simp[q]⟩;simp only[X7,Q9,aw,zO,zr]
  .exact⟨J,zF j k S rfl,by simp[q]⟩
 .refine⟨J,zG (r:=sm) ?_ rfl,by simp;exact λe=>g (by rw[e])⟩;simp only[zai,Q9,dV.2 g,zj]
theorem SN{x y:zX}(c:uM x):P2 x y=Z/\(Hq x y=Z↔x=y):=tF<|by
 have h:=c.wf.t;have⟨s,e⟩:=Ft (a:=x.1) (b:=y.1) (aB h.ncols S) (aB h.nuq S) (aB h.nrf S) (C2 c.ok.may h.chk).2;have⟨g,i⟩:=SL (a:=x.2) (b:=y.2) (aB c.ok.few S) λr d=>aB (c.row r d).1 S
 refine⟨bif pH x.1 y.1 then Ho x.2 y.2 else J,zG (r:=(.bool (cond (pH x.1 y.1) (Ho x.2 y.2) J),[])) ?_ rfl,?_⟩
 .simp only[znD,Q9,zt,aJ,s,g];rw[zf (by cases pH x.1 y.1<;>rfl)]
 .rw[Prod.ext_iff,<-e,<-i];cases pH x.1 y.1<;>simp
theorem Fw{a b:zH}(n:M a<=2000000)(o:∀x∈a,uM x):Hx a b=Z/\(lU a b=Z↔a=b):=tF<|by
 by_cases j:M a=M b
 .have g:((M a:Int)!=(M b:Int))=J:=by rw[<-g9,dV];exact λh=>h j
  have l:(zan a b).val=Y (.inl (.h4 a b ((0:Nat):Int))):=by
   simp only[zan,Q9,g];rfl
  rcases Bh (t:=X9) (la:=a) (lb:=b) (λi=>.h4 a b (i:Int)) j (λi d g=>by
   have⟨p,w⟩:=SN (y:=b[i]) (o _ (bN d));have c:(X9 (.h4 a b (i:Int))).val=if(!Hq a[i] b[i])=Z then Y (.inr sm)else Y (.inl (.h4 a b ((i+1:Nat):Int))):=by
    simp only[X9,Q9,aa _ _ d,aa _ _ g,z6 d,zx d,zx g,zt,aJ,p,zj];rw[zz i um]
   refine⟨λh=>?_,λh=>?_⟩
   .rw[c,zh (by rw[w.2 h];simp)]
   .rw[c,zf];cases m:Hq a[i] b[i]
    .rfl
    .exact zp (w.1 m) h)with⟨q,k⟩|⟨q,k⟩
  .refine⟨Z,zF l (k.ends (aF.of (r:=(.kb Z,[])) ?_)) S rfl,by simp[q]⟩;simp only[X9,Q9,aw,zO,zr]
  .exact⟨J,zF l k S rfl,by simp[q]⟩
 .refine⟨J,zG (r:=sm) ?_ rfl,by simp;exact λe=>j (by rw[e])⟩;simp only[zan,Q9,dV.2 j,zj]
theorem Nr{a b:an}(A:LU a.r.1)(u:M a.t.1<=2000000):KR a b=Z/\(tZ a b=Z↔a=b):=tF<|by
 have⟨c,d,e,g,k,j⟩:=a;have⟨m,n,o,p,l,q⟩:=b;have s:=A.wf;have⟨s1,C⟩:=Ft (a:=g) (b:=p) (aB s.ncols S) (aB s.nuq S) (aB s.nrf S) (C2 A.may s.chk).2;have y:(cond (!c==m) Z (cond (!d==n) Z (cond (!e==o) Z (cond (j !=q) Z (yP g p)))))=Z:=by rw[s1];cases(!c==m)<;>cases(!d==n)<;>cases(!e==o)<;>cases(j !=q)<;>rfl
 cases x:(cond (!c==m) Z (cond (!d==n) Z (cond (!e==o) Z (cond (j !=q) Z (cond (!pH g p) Z ((M k:Int)!=(M l:Int)))))))with
 | true=>
  refine⟨J,zG (r:=sm) ?_ rfl,?_⟩
  .simp only[zal,Q9,zt,aJ,y,x,zj]
  .constructor
   .intro h;cases h
   .intro h;simp only[cz]at h;obtain⟨rfl,rfl,rfl,rfl,rfl,rfl⟩:=h;rw[C.2 rfl]at x;simp at x
 | false=>
  have z:(zal (c,d,e,g,k,j) (m,n,o,p,l,q)).val=Y (.inl (.h4 0 ((c,d,e,g,k,j),()) ((m,n,o,p,l,q),()))):=by
   simp only[zal,Q9,zt,aJ,y,x,zj];rfl
  have⟨D,x⟩:=Ca x;have⟨E,x⟩:=Ca x;have⟨G,x⟩:=Ca x;have⟨c6,x⟩:=Ca x;have⟨H,U⟩:=Ca x;have e1:=Kw D;have e2:=Kw E;have e3:=Kw G;have e6:=zgE c6;have e4:=C.1 (by simpa using H);subst e1 e2 e3 e6 e4;rcases iZ (t:=zqN) (la:=k) (lb:=l) (λi=>.h4 i ((c,d,e,g,k,j),()) ((c,d,e,g,l,j),())) (.inr (.kb Z,[])) (λi=>W k (i:Int).toNat (zk zi)==W l (i:Int).toNat (zk zi)) (λ_ _=>rfl) (λi _ ha hb=>by rw[be,aa _ _ ha,aa _ _ hb]) (Su U) u with⟨w,v⟩|⟨w,v⟩
  .exact⟨Z,zF z (v 0 _ rfl) (by simp at u;omega) rfl,by simp[w]⟩
  .exact⟨J,zF z v (by simp at u;omega) rfl,by simp[w]⟩
theorem Nt{a b:bu}(m:kA a)(hb:kA b):KT a b=Z/\(Ht a b=Z↔a=b):=tF<|by
 have⟨d,e,x⟩:=a;have⟨g,j,c⟩:=b;have z:∀l:bu,mB l=Z/\lJ l=(l.1,l.2.1):=λl=>by
  have:tK l=Y ((l.1,l.2.1),()):=zG (i:=znI l) (r:=(.agg [O zl l.1,O (Sh.str.pr (Sh.str.pr Sh.bool)) l.2.1],[])) rfl rfl;exact⟨by unfold mB;rw[this];rfl,by unfold lJ;rw[this];rfl⟩
 have⟨s1,s2⟩:=Fw (a:=d) (b:=g) (aB m.base.few S) m.rel;have⟨s3,s4⟩:=SQ (a:=e) (b:=j) (aB m.gr S);have w:Cq (d,e) (g,j)=Z/\(Hs (d,e) (g,j)=Z↔d=g/\e=j):=tF<|by
  refine⟨bif lU d g then Hz e j else J,zG (r:=(.bool (cond (lU d g) (Hz e j) J),[])) ?_ rfl,?_⟩
  .simp only[znH,Q9,s1,s3];rw[zf (by cases lU d g<;>rfl)]
  .rw[<-s2,<-s4];cases lU d g<;>simp
 have⟨w1,U⟩:=w;have A:(mB (d,e,x)&&(mB (g,j,c)&&Cq (lJ (d,e,x)) (lJ (g,j,c))))=Z:=by
  rw[(z _).1,(z _).1,(z _).2,(z _).2];exact w1
 cases o:(cond (!Hs (d,e) (g,j)) Z ((M x:Int)!=(M c:Int)))with
 | true=>
  refine⟨J,zG (r:=sm) ?_ rfl,?_⟩
  .simp only[i8l,Q9,A,zj];rw[(z _).2,(z _).2];rw[zf o]
  .constructor
   .intro h;cases h
   .intro h;simp only[cz]at h;obtain⟨rfl,rfl,rfl⟩:=h;rw[U.2 ⟨rfl,rfl⟩]at o;simp at o
 | false=>
  have D:(i8l (d,e,x) (g,j,c)).val=Y (.inl (.h4 ((0:Nat):Int) d e x g j c)):=by
   simp only[i8l,Q9,A,zj];rw[(z _).2,(z _).2];rw[zh (by rw[o];simp)];rfl
  have⟨c1,c2⟩:=Ca o;have⟨s,u⟩:=U.1 (by simpa using c1);subst s u;have h4:M x<=4:=m.mv
  rcases Bh (t:=t8l) (la:=x) (lb:=c) (λi=>.h4 (i:Int) d e x d e c) (Su c2) (λi p v=>by
   have⟨C,hR,n⟩:=m.moves _ (bN (l:=x) p);have⟨y,h5,h0⟩:=hb.moves _ (bN (l:=c) v);have⟨p1,E⟩:=Nr (a:=x[i].1) (b:=c[i].1) (tS m.base m.wf n) (aB n.plan.mok.few S);have⟨q1,G⟩:=Fw (a:=x[i].2.1) (b:=c[i].2.1) (by
    have:=congrArg M n.plan.names;rw[bR]at this;rw[this];unfold bK;split<;>simp) (pt C n)
   have⟨t1,H⟩:=Ns (a:=x[i].q.1) (b:=c[i].q.1) (aB n.n200 S) C.trk.u8 y.trk.u8;have k:(t8l (.h4 (i:Int) d e x d e c)).val=if(cond (!tZ x[i].1 c[i].1) Z (cond (!lU x[i].2.1 c[i].2.1) Z (cond (!yQ x[i].q.1 c[i].q.1) Z (x[i].r !=c[i].r))))=Z then Y (.inr sm)else Y (.inl (.h4 ((i+1:Nat):Int) d e x d e c)):=by
    simp only[t8l,Q9,aa _ _ p,aa _ _ v,z6 p,zx p,zx v,zt,aJ,p1,q1,t1,zj];rw[zf (by cases tZ x[i].1 c[i].1<;>cases lU x[i].2.1 c[i].2.1<;>rfl),zz i um]
   refine⟨λh=>?_,λh=>?_⟩
   .rw[k,zh];rw[E.2 (by rw[h]),G.2 (by rw[h]),H.2 (by rw[h]),h];simp
   .rw[k,zf];cases h1:tZ x[i].1 c[i].1
    .rfl
    cases h2:lU x[i].2.1 c[i].2.1
    .rfl
    cases h3:yQ x[i].q.1 c[i].q.1
    .rfl
    have s:=E.1 h1;have u:=G.1 h2;have e3:=H.1 h3;simp only[gv,bT,bne_iff_ne];exact λe4=>h (Prod.ext s (Prod.ext u (Prod.ext e3 e4))))with⟨q5,k5⟩|⟨q5,k5⟩
  .refine⟨Z,zF D (k5.ends (aF.of (r:=(.kb Z,[])) ?_)) S rfl,by simp[q5]⟩;simp only[t8l,Q9,aw,zO,zr]
  .exact⟨J,zF D k5 S rfl,by simp[q5]⟩
end Cad
namespace Go.Proofs
open Cad (bx cE cM dR dq oe zK)
open Go.RowKit Go.Shelf
open Bool renaming false->Q5,true->Q4
open Option renaming none->Q2,some->Q1
open Int (toNat)
open List (getD length)
attribute [local go_sem] Oper.semAt_some
set_option maxRecDepth 100000 in
set_option maxHeartbeats 2000000 in
theorem Tryz.code_bad(k i:Int)(s:ByteArray)(w:World)
  (hmay:∀W',Below w.heap.size w W'->Calls Tryz.prog 86 #[.agg #[.int .i64 k,.int .i64 i,.string s]] W' λe W2=>e=.returned (.bool Q5)/\Below W'.heap.size W' W2):
  CallsIn Fence.wide 4 Tryz.prog 52 #[.agg #[.int .i64 k,.int .i64 i,.string s]] w λe W'=>e=.returned (.string ⟨#[0]⟩)/\Below w.heap.size w W':=by
 obtain⟨i0,hi,hz0,hz1,hz2⟩:=info_parts Tryz.info5;refine callsIn_of_wp_marks Tryz.func52 rfl trivial ?_ rfl;simp only[Tryz.ntmps52,List.size_toArray,bx,cE,Nat.reduceAdd,Nat.reduceSub,Array.replicate_succ,Array.replicate_zero,List.push_toArray,List.append_toArray,dR,List.cons_append];have hB0:Below w.heap.size w (w.alloc (.cells #[.int .i64 k,.int .i64 i,.string s] 42)):=(Below.refl _ w).alloc (zK _) _
 gi_upto_region 3 with(refine⟨trivial,?_⟩;refine(callsIn_wide.2 (hmay _ hB0)).mono ?_;rintro e W1 ⟨rfl,hW1⟩;have hb0:W1.heap[w.heap.size]?=Q1 (.cells #[.int .i64 k,.int .i64 i,.string s] 42 (0,0)):=(hW1.block _ (by simp)).trans (World.alloc_heap_new w _);obtain⟨c0,c1,c2,c3,c4,c5⟩:=Cad.ie hb0)
 have hs1:w.heap.size<W1.heap.size:=cM (by simp) hW1.size;have hb3:(((W1.setCell ⟨w.heap.size,0,Q2⟩ (.int .i64 0)).setCell ⟨w.heap.size,1,Q2⟩ (.int .i64 0)).setCell ⟨w.heap.size,2,Q2⟩ (.string ⟨#[]⟩)).heap[w.heap.size]?=Q1 (.cells #[.int .i64 0,.int .i64 0,.string ⟨#[]⟩] 42 (0,0)):=by
  simp[World.setCell,oe,hb0]
 have hB3:Below w.heap.size w (((W1.setCell ⟨w.heap.size,0,Q2⟩ (.int .i64 0)).setCell ⟨w.heap.size,1,Q2⟩ (.int .i64 0)).setCell ⟨w.heap.size,2,Q2⟩ (.string ⟨#[]⟩)):=
  ((((hB0.trans (hW1.mono (by simp))).setCell (p:=⟨w.heap.size,0,Q2⟩) (zK _) _).setCell (p:=⟨w.heap.size,1,Q2⟩) (zK _) _).setCell (p:=⟨w.heap.size,2,Q2⟩) (zK _) _)
 clear c0 c1 c2 c3 c4 c5;generalize((W1.setCell ⟨w.heap.size,0,Q2⟩ (.int .i64 0)).setCell ⟨w.heap.size,1,Q2⟩ (.int .i64 0)).setCell ⟨w.heap.size,2,Q2⟩ (.string ⟨#[]⟩)=W3 at hb3 hB3|-;obtain⟨c0,c1,c2,c3,c4,c5⟩:=Cad.ie hb3;have hs3:w.heap.size<W3.heap.size:=(dq.1 hb3).1;have hbA:Below W3.heap.size W3 (W3.alloc (.cells #[.int .u8 0] 5)):=(Below.refl _ W3).alloc (zK _) _;have x0:=(hbA.cell (p:=⟨w.heap.size,0,Q2⟩) hs3).trans c0;have hrow:(W3.alloc (.cells #[.int .u8 0] 5)).ownsRow w.heap.size 5 1 (.slice (Q1 ⟨W3.heap.size,0,Q2⟩) 1 1) 1 (([0]:List Int).map (.int .u8)):=⟨by simp,.inr ⟨W3.heap.size,1,#[.int .u8 0],rfl,Nat.le_of_lt hs3,World.alloc_heap_new W3 _,by omega,by unfold maxLen;omega,rfl,rfl⟩⟩;have kc:=conv_row (l:=[0]) (by simp) (by simp) hrow rfl
 gi_wp2
 exact⟨_,results_tmp rfl _ _ _,rfl,hB3.trans (hbA.mono (Nat.le_of_lt hs3))⟩
set_option maxRecDepth 100000 in
set_option maxHeartbeats 2000000 in
theorem Tryz.code_null(i:Int)(s:ByteArray)(w:World)
  (hmay:∀W',Below w.heap.size w W'->Calls Tryz.prog 86 #[.agg #[.int .i64 0,.int .i64 i,.string s]] W' λe W2=>e=.returned (.bool Q4)/\Below W'.heap.size W' W2):
  CallsIn Fence.wide 4 Tryz.prog 52 #[.agg #[.int .i64 0,.int .i64 i,.string s]] w λe W'=>e=.returned (.string ⟨#[0]⟩)/\Below w.heap.size w W':=by
 obtain⟨i0,hi,hz0,hz1,hz2⟩:=info_parts Tryz.info5;refine callsIn_of_wp_marks Tryz.func52 rfl trivial ?_ rfl;simp only[Tryz.ntmps52,List.size_toArray,bx,cE,Nat.reduceAdd,Nat.reduceSub,Array.replicate_succ,Array.replicate_zero,List.push_toArray,List.append_toArray,dR,List.cons_append];have hB0:Below w.heap.size w (w.alloc (.cells #[.int .i64 0,.int .i64 i,.string s] 42)):=(Below.refl _ w).alloc (zK _) _
 gi_upto_region 3 with(refine⟨trivial,?_⟩;refine(callsIn_wide.2 (hmay _ hB0)).mono ?_;rintro e W1 ⟨rfl,hW1⟩;have hb0:W1.heap[w.heap.size]?=Q1 (.cells #[.int .i64 0,.int .i64 i,.string s] 42 (0,0)):=(hW1.block _ (by simp)).trans (World.alloc_heap_new w _))
 have hB3:Below w.heap.size w W1:=hB0.trans (hW1.mono (by simp));obtain⟨c0,c1,c2,c3,c4,c5⟩:=Cad.ie hb0;have hs3:w.heap.size<W1.heap.size:=(dq.1 hb0).1;have hbA:Below W1.heap.size W1 (W1.alloc (.cells #[.int .u8 0] 5)):=(Below.refl _ W1).alloc (zK _) _;have x0:=(hbA.cell (p:=⟨w.heap.size,0,Q2⟩) hs3).trans c0;have hrow:(W1.alloc (.cells #[.int .u8 0] 5)).ownsRow w.heap.size 5 1 (.slice (Q1 ⟨W1.heap.size,0,Q2⟩) 1 1) 1 (([0]:List Int).map (.int .u8)):=⟨by simp,.inr ⟨W1.heap.size,1,#[.int .u8 0],rfl,Nat.le_of_lt hs3,World.alloc_heap_new W1 _,by omega,by unfold maxLen;omega,rfl,rfl⟩⟩;have kc:=conv_row (l:=[0]) (by simp) (by simp) hrow rfl
 gi_wp2
 exact⟨_,results_tmp rfl _ _ _,rfl,hB3.trans (hbA.mono (Nat.le_of_lt hs3))⟩
set_option maxRecDepth 100000 in
set_option maxHeartbeats 2000000 in
theorem Tryz.code_bool(i:Int)(hi0:0<=i)(hi1:i<=255)(s:ByteArray)(w:World)
  (hmay:∀W',Below w.heap.size w W'->Calls Tryz.prog 86 #[.agg #[.int .i64 3,.int .i64 i,.string s]] W' λe W2=>e=.returned (.bool Q4)/\Below W'.heap.size W' W2):
  CallsIn Fence.wide 4 Tryz.prog 52 #[.agg #[.int .i64 3,.int .i64 i,.string s]] w λe W'=>e=.returned (.string ⟨(Cad.aL [3,i]).toArray⟩)/\Below w.heap.size w W':=by
 obtain⟨i0,hi,hz0,hz1,hz2⟩:=info_parts Tryz.info5;refine callsIn_of_wp_marks Tryz.func52 rfl trivial ?_ rfl;simp only[Tryz.ntmps52,List.size_toArray,bx,cE,Nat.reduceAdd,Nat.reduceSub,Array.replicate_succ,Array.replicate_zero,List.push_toArray,List.append_toArray,dR,List.cons_append];have hB0:Below w.heap.size w (w.alloc (.cells #[.int .i64 3,.int .i64 i,.string s] 42)):=(Below.refl _ w).alloc (zK _) _
 gi_upto_region 3 with(refine⟨trivial,?_⟩;refine(callsIn_wide.2 (hmay _ hB0)).mono ?_;rintro e W1 ⟨rfl,hW1⟩;have hb0:W1.heap[w.heap.size]?=Q1 (.cells #[.int .i64 3,.int .i64 i,.string s] 42 (0,0)):=(hW1.block _ (by simp)).trans (World.alloc_heap_new w _))
 have hB3:Below w.heap.size w W1:=hB0.trans (hW1.mono (by simp));obtain⟨c0,c1,c2,c3,c4,c5⟩:=Cad.ie hb0;have hs3:w.heap.size<W1.heap.size:=(dq.1 hb0).1;have hbA:Below W1.heap.size W1 (W1.alloc (.cells #[.int .u8 3] 5)):=(Below.refl _ W1).alloc (zK _) _;have x0:=(hbA.cell (p:=⟨w.heap.size,0,Q2⟩) hs3).trans c0;have hrow:(W1.alloc (.cells #[.int .u8 3] 5)).ownsRow w.heap.size 5 1 (.slice (Q1 ⟨W1.heap.size,0,Q2⟩) 1 1) 1 (([3]:List Int).map (.int .u8)):=⟨by simp,.inr ⟨W1.heap.size,1,#[.int .u8 3],rfl,Nat.le_of_lt hs3,World.alloc_heap_new W1 _,by omega,by unfold maxLen;omega,rfl,rfl⟩⟩;have x1:=(hbA.cell (p:=⟨w.heap.size,1,Q2⟩) hs3).trans c1
 gi_upto_region 4 with fail
 have hB4:Below w.heap.size w (W1.alloc (.cells #[.int .u8 3] 5)):=hB3.trans (hbA.mono (Nat.le_of_lt hs3));have hs4:w.heap.size<(W1.alloc (.cells #[.int .u8 3] 5)).heap.size:=cM hs3 hbA.size;generalize W1.alloc (.cells #[.int .u8 3] 5)=W2 at hrow x0 x1 hB4 hs4|-;generalize Value.slice (Q1 ⟨W1.heap.size,0,Q2⟩) 1 1=v at hrow|-
 gi_wp2_with (gi_at_builtin;refine wpListIn_append_own _ rfl _ _ 51 rfl w.heap.size 5 i0 _ 1 1 Tryz.underlying51 hi hz0 hz1 hz2 rfl (by decide) _ _ _ rfl (hrow.alloc _) ⟨W2.heap.size,0,Q2⟩ 1 1 [.int .u8 i] rfl rfl (cell_row_new _ _ _) (by simp[Value.oneCell']) (by unfold maxLen;omega) (by omega) (by simp;omega) ?_;intro v' w1 hown' hgrow _;have kc:=conv_row (l:=[3,i]) (by simp) (by simp;omega) hown' rfl;have hgr:=hgrow)
 have hgr':(W2.alloc (.cells #[.int .u8 i] 5)).grownBy w1 v.ownBlock:=hgr;refine⟨_,results_tmp rfl _ _ _,rfl,(hB4.alloc hB4.size _).grown hgr' (by simp;omega) λj ej=>?_⟩;rcases hrow.2 with⟨rfl,h0⟩|⟨g,cap,cur,rfl,hb,_⟩
 .cases ej
 .obtain rfl:g=j:=by simpa[Value.ownBlock]using ej
  exact hb
open Cad (aN bD bX bx cE cM dR dq fx ry zK)
open Go.RowKit Go.Shelf Go.Lib
attribute [local go_sem] Oper.semAt_some
section
variable {F:Fence} {n':Nat} {P:Program}
theorem wpListIn_append_own_string{ops:Array Oper}{rest:List Oper}{o:Oper}{a:Act}{Q:Exit->Act->World->Prop}(w:World)(hgd:o.guard=Q2)(sl x:Operand)(t u:TypeId)
  (ho:o.op=.call {callee:=.builtin .append,args:=#[sl,x],argTypes:=#[t,u]})
  (base:Nat) (e:TypeId) (i:TypeInfo) (ht:P.underlying t=Q1 (.slice e)) (hu:P.underlying u=Q1 .string) (hi:P.info? e=Q1 i) (hz:i.zero=Q1 (.int .u8 0))
  (hsize:i.size=1) (hby:i.bytes=1)
  (v:Value) (n:Nat) (xs:List Value) (hs:a.eval sl=v) (hown:w.ownsRow base e 1 v n xs) (s:ByteArray) (hx:a.eval x=.string s)
  (h63:n+s.size<=maxLen) (hbytes:n+s.size<=140737488355328) (hbase:base<=w.heap.size)
  (h:∀v' w',w'.ownsRow base e 1 v' (n+s.size) (xs++strCells s)->w.grownBy w' v.ownBlock->(v'=.slice Q2 0 0↔v=.slice Q2 0 0/\s.size=0)->wpListIn F n' P ops Q rest (a.put o.dst v') w'):wpListIn F n' P ops Q (o::rest) a w:=by
 refine wpListIn_plain hgd λK hK=>?_
 obtain⟨v',w',hr,h2,h3,h4⟩:=run_append_own_string (P:=P) w base t u o.type e i ht hu hi hz hsize hby v n xs hown s h63 hbytes hbase;unfold Oper.wpIn;refine⟨?_,?_⟩
 .simp[Oper.about,ho,resolve,Target.leads]
 .rw[Oper.semAt_plain F _ _ (by rw[ho];intro c hc';cases hc')];simp[execOp,ho,resolve,invoke,builtin,hs,hx,hr,Result.andThen];exact hK _ _ (h v' w' h2 h3 h4)
end
theorem own_ge{W:World}{B:Nat}{e:TypeId}{k n:Nat}{v:Value}{xs:List Value}(h:W.ownsRow B e k v n xs):∀j,v.ownBlock=Q1 j->B<=j:=λj ej=>by
 rcases h.2 with⟨rfl,h0⟩|⟨g,cap,cur,rfl,hb,_⟩
 .cases ej
 .obtain rfl:g=j:=by simpa[Value.ownBlock]using ej
  exact hb
theorem strCells_is(s:Cad.zD):strCells ⟨s.toArray⟩=(Cad.zR s).map (.int .u8):=by unfold strCells Cad.zR;simp
set_option maxRecDepth 100000 in
set_option maxHeartbeats 2000000 in
theorem Tryz.code_text(s:Cad.zD)(hs:s.length<=40)(w:World)
  (hmay:∀W',Below w.heap.size w W'->Calls Tryz.prog 86 #[.agg #[.int .i64 2,.int .i64 0,.string ⟨s.toArray⟩]] W' λe W2=>e=.returned (.bool Q4)/\Below W'.heap.size W' W2):
  CallsIn Fence.wide 4 Tryz.prog 52 #[.agg #[.int .i64 2,.int .i64 0,.string ⟨s.toArray⟩]] w λe W'=>e=.returned (.string ⟨(Cad.aL (2::(Cad.zR s++[0]))).toArray⟩)/\Below w.heap.size w W':=by
 obtain⟨i0,hi,hz0,hz1,hz2⟩:=info_parts Tryz.info5;refine callsIn_of_wp_marks Tryz.func52 rfl trivial ?_ rfl;simp only[Tryz.ntmps52,List.size_toArray,bx,cE,Nat.reduceAdd,Nat.reduceSub,Array.replicate_succ,Array.replicate_zero,List.push_toArray,List.append_toArray,dR,List.cons_append];have hB0:Below w.heap.size w (w.alloc (.cells #[.int .i64 2,.int .i64 0,.string ⟨s.toArray⟩] 42)):=(Below.refl _ w).alloc (zK _) _
 gi_upto_region 3 with(refine⟨trivial,?_⟩;refine(callsIn_wide.2 (hmay _ hB0)).mono ?_;rintro e W1 ⟨rfl,hW1⟩;have hb0:W1.heap[w.heap.size]?=Q1 (.cells #[.int .i64 2,.int .i64 0,.string ⟨s.toArray⟩] 42 (0,0)):=(hW1.block _ (by simp)).trans (World.alloc_heap_new w _))
 have hB3:Below w.heap.size w W1:=hB0.trans (hW1.mono (by simp));obtain⟨c0,c1,c2,c3,c4,c5⟩:=Cad.ie hb0;have hs3:w.heap.size<W1.heap.size:=(dq.1 hb0).1;have hbA:Below W1.heap.size W1 (W1.alloc (.cells #[.int .u8 2] 5)):=(Below.refl _ W1).alloc (zK _) _;have x0:=(hbA.cell (p:=⟨w.heap.size,0,Q2⟩) hs3).trans c0;have hrow:(W1.alloc (.cells #[.int .u8 2] 5)).ownsRow w.heap.size 5 1 (.slice (Q1 ⟨W1.heap.size,0,Q2⟩) 1 1) 1 (([2]:List Int).map (.int .u8)):=⟨by simp,.inr ⟨W1.heap.size,1,#[.int .u8 2],rfl,Nat.le_of_lt hs3,World.alloc_heap_new W1 _,by omega,by unfold maxLen;omega,rfl,rfl⟩⟩;have x2:=(hbA.cell (p:=⟨w.heap.size,2,Q2⟩) hs3).trans c2
 gi_upto_region 4 with fail
 have hB4:Below w.heap.size w (W1.alloc (.cells #[.int .u8 2] 5)):=hB3.trans (hbA.mono (Nat.le_of_lt hs3));have hs4:w.heap.size<(W1.alloc (.cells #[.int .u8 2] 5)).heap.size:=cM hs3 hbA.size;generalize W1.alloc (.cells #[.int .u8 2] 5)=W2 at hrow x0 x2 hB4 hs4|-;generalize Value.slice (Q1 ⟨W1.heap.size,0,Q2⟩) 1 1=v at hrow|-;have hsz:(⟨s.toArray⟩:ByteArray).size=s.length:=by show s.toArray.size=_;simp
 have hrg:∀x∈2::(Cad.zR s++[0]),0<=x/\x<=255:=λx hx=>by
  simp only[bD,bX,List.not_mem_nil,or_false]at hx;rcases hx with rfl|hx|rfl
  .decide
  .obtain⟨c,_,rfl⟩:=aN.1 hx;have:=c.toNat_lt;constructor<;>omega
  .decide
 have h40:(⟨s.toArray⟩:ByteArray).size<=40:=by rw[hsz];exact hs
 gi_wp2_with (first
  |(gi_at_builtin;refine wpListIn_append_own_string _ rfl _ _ 51 9 rfl w.heap.size 5 i0 Tryz.underlying51 Tryz.underlying9 hi hz0 hz1 hz2 _ 1 _ rfl hrow ⟨s.toArray⟩ rfl (by unfold maxLen;omega) (by omega) (Nat.le_of_lt hs4) ?_;intro v' w1 hown' hgrow _;rw[strCells_is,<-fx]at hown';have hgr1:=hgrow;have hle1:=hgrow.size)
  |(gi_at_builtin;refine wpListIn_append_own _ rfl _ _ 51 rfl w.heap.size 5 i0 _ 1 1 Tryz.underlying51 hi hz0 hz1 hz2 rfl (by decide) _ _ _ rfl (hown'.alloc _) ⟨w1.heap.size,0,Q2⟩ 1 1 [.int .u8 0] rfl rfl (cell_row_new _ _ _) (by simp[Value.oneCell']) (by unfold maxLen;omega) (by omega) (by simp;omega) ?_;intro v2 w2 hown2 hgrow2 _;have kc:=conv_row (l:=2::(Cad.zR s++[0])) (by simp[Cad.em];omega) hrg (by simpa using hown2) (by simp[Cad.em,hsz];omega);have hgr2:=hgrow2))
 have hgr1':W2.grownBy w1 v.ownBlock:=hgr1;have hgr2':(w1.alloc (.cells #[.int .u8 0] 5)).grownBy w2 v'.ownBlock:=hgr2;have hb5:=hB4.grown hgr1' (Nat.le_of_lt hs4) (own_ge hrow);exact⟨_,results_tmp rfl _ _ _,rfl,(hb5.alloc hb5.size _).grown hgr2' (by simp;omega) (own_ge hown')⟩
open Cad (Ov aN aQ bD bx cE cM dR dq fx oV zK)
attribute [local go_sem] Oper.semAt_some
def octs(n:Int)(k:Nat):List Int:=(List.range k).map λj=>n/2^(56-8*j)%256
theorem octs_succ(n:Int)(k:Nat):octs n (k+1)=octs n k++[n/2^(56-8*k)%256]:=by unfold octs;rw[List.range_succ,fx];rfl
theorem octs_ok(n:Int)(k:Nat):∀x∈octs n k,0<=x/\x<=255:=λx hx=>by
 obtain⟨j,_,rfl⟩:=aN.1 hx;omega
theorem octs_len(n:Int)(k:Nat):(octs n k).length=k:=by simp[octs]
set_option maxRecDepth 100000 in
set_option maxHeartbeats 2000000 in
theorem Tryz.code_int(i:Int)(_:-9223372036854775808<=i)(_:i<=9223372036854775807)(w:World)
  (hmay:∀W',Below w.heap.size w W'->Calls Tryz.prog 86 #[.agg #[.int .i64 1,.int .i64 i,.string ⟨#[]⟩]] W' λe W2=>e=.returned (.bool Q4)/\Below W'.heap.size W' W2):
  CallsIn Fence.wide 4 Tryz.prog 52 #[.agg #[.int .i64 1,.int .i64 i,.string ⟨#[]⟩]] w λe W'=>e=.returned (.string ⟨(Cad.aL (1::octs (bits BinOp.xor IntKind.u64 (IntKind.u64.wrap i) 9223372036854775808) 8)).toArray⟩)/\Below w.heap.size w W':=by
 obtain⟨i0,hi,hz0,hz1,hz2⟩:=info_parts Tryz.info5;refine callsIn_of_wp_marks Tryz.func52 rfl trivial ?_ rfl;simp only[Tryz.ntmps52,List.size_toArray,bx,cE,Nat.reduceAdd,Nat.reduceSub,Array.replicate_succ,Array.replicate_zero,List.push_toArray,List.append_toArray,dR,List.cons_append];have hB0:Below w.heap.size w (w.alloc (.cells #[.int .i64 1,.int .i64 i,.string ⟨#[]⟩] 42)):=(Below.refl _ w).alloc (zK _) _
 gi_upto_region 3 with(refine⟨trivial,?_⟩;refine(callsIn_wide.2 (hmay _ hB0)).mono ?_;rintro e W1 ⟨rfl,hW1⟩;have hb0:W1.heap[w.heap.size]?=Q1 (.cells #[.int .i64 1,.int .i64 i,.string ⟨#[]⟩] 42 (0,0)):=(hW1.block _ (by simp)).trans (World.alloc_heap_new w _))
 have hB3:Below w.heap.size w W1:=hB0.trans (hW1.mono (by simp));obtain⟨c0,c1,c2,c3,c4,c5⟩:=Cad.ie hb0;have hs3:w.heap.size<W1.heap.size:=(dq.1 hb0).1;have hbA:Below W1.heap.size W1 (W1.alloc (.cells #[.int .u8 1] 5)):=(Below.refl _ W1).alloc (zK _) _;have x0:=(hbA.cell (p:=⟨w.heap.size,0,Q2⟩) hs3).trans c0;have hrow:(W1.alloc (.cells #[.int .u8 1] 5)).ownsRow w.heap.size 5 1 (.slice (Q1 ⟨W1.heap.size,0,Q2⟩) 1 1) 1 (([1]:List Int).map (.int .u8)):=⟨by simp,.inr ⟨W1.heap.size,1,#[.int .u8 1],rfl,Nat.le_of_lt hs3,World.alloc_heap_new W1 _,by omega,by unfold maxLen;omega,rfl,rfl⟩⟩;have x1:=(hbA.cell (p:=⟨w.heap.size,1,Q2⟩) hs3).trans c1
 gi_upto_region 4 with fail
 have hB4:Below w.heap.size w (W1.alloc (.cells #[.int .u8 1] 5)):=hB3.trans (hbA.mono (Nat.le_of_lt hs3));have hs4:w.heap.size<(W1.alloc (.cells #[.int .u8 1] 5)).heap.size:=cM hs3 hbA.size;generalize W1.alloc (.cells #[.int .u8 1] 5)=W2 at hrow x0 x1 hB4 hs4|-;generalize Value.slice (Q1 ⟨W1.heap.size,0,Q2⟩) 1 1=v at hrow|-
 gi_wp2
 generalize hN:bits BinOp.xor IntKind.u64 (IntKind.u64.wrap i) 9223372036854775808=N
 gi_loopw [3,22] (λvo vi wr=>∃k:Nat,k<=8/\vi=.int .i64 k/\wr.ownsRow w.heap.size 5 1 vo (k+1) ((1::octs N k).map (.int .u8))/\Below w.heap.size w wr)
  (λ_ vi _=>8-(intOf vi).toNat)
 case atStart=>exact⟨0,by omega,rfl,hrow,hB4⟩
 case round=>
  obtain⟨k,hk,rfl,hrk,hbk⟩:=hrel;by_cases hlt:k<8
  .have m1:IntKind.i64.wrap (8*(k:Int))=8*(k:Int):=Cad.oC (8*k) (by omega);have m2:IntKind.i64.wrap (56-8*(k:Int))=((56-8*k:Nat):Int):=by rw[show(56:Int)-8*(k:Int)=((56-8*k:Nat):Int) by omega];exact Cad.oC _ (by omega)
   gi_wp2_with (gi_at_builtin;refine wpListIn_append_own _ rfl _ _ 51 rfl w.heap.size 5 i0 _ 1 1 Tryz.underlying51 hi hz0 hz1 hz2 rfl (by decide) _ _ _ rfl (hrk.alloc _) ⟨wr.heap.size,0,Q2⟩ 1 1 [.int .u8 (N/2^(56-8*k)%256)] rfl rfl (cell_row_new _ _ _) (by simp[Value.oneCell']) (by unfold maxLen;omega) (by omega) (by have:=hbk.size;simp;omega) ?_;intro v2 w2 hown2 hgrow2 _;have hgr2:=hgrow2)
   have hgr2':(wr.alloc (.cells #[.int .u8 (N/2^(56-8*k)%256)] 5)).grownBy w2 (Value.ownBlock _):=hgr2
   go_roundw
   case rel=>exact⟨k+1,by omega,by simp,by rw[octs_succ];simpa using hown2,(hbk.alloc hbk.size _).grown hgr2' (by have:=hbk.size;simp;omega) (own_ge hrk)⟩
   case measure=>simp[intOf];omega
  .obtain rfl:k=8:=by omega
   have kc:=conv_row (l:=1::octs N 8) (by simp[octs_len]) (λx hx=>by
    rcases bD.1 hx with rfl|hx
    .decide
    .exact octs_ok N 8 x hx) hrk (by simp[octs_len])
   gi_wp2
   exact⟨_,results_tmp rfl _ _ _,by rw[hN];rfl,hbk⟩
theorem xor_low{n:Nat}(h:n<2^63):n^^^2^63=2^63+n:=by
 refine Nat.eq_of_testBit_eq λj=>?_
 rw[Nat.testBit_xor,Nat.testBit_two_pow];rcases Nat.lt_trichotomy j 63 with hj|rfl|hj
 .rw[Nat.testBit_two_pow_add_gt hj,aQ (by omega),Bool.xor_false]
 .rw[Nat.testBit_two_pow_add_eq];simp
 .have e1:2^64<=2^j:=Ov (by omega) (by omega);rw[Nat.testBit_lt_two_pow (show n<2^j by omega),Nat.testBit_lt_two_pow (show 2^63+n<2^j by omega),aQ (by omega)];rfl
theorem xor_mid{n:Nat}(h:n<2^64):n^^^2^63=if n<2^63 then n+2^63 else n-2^63:=by
 split
 next h1=>rw[xor_low h1,oV]
 .have e:n=(n-2^63)^^^2^63:=by rw[xor_low (by omega)];omega
  conv=>lhs;rw[e]
  rw[Nat.xor_assoc,Nat.xor_self,Nat.xor_zero]
theorem bits_mid{i:Int}(h0:-9223372036854775808<=i)(h1:i<=9223372036854775807):bits BinOp.xor IntKind.u64 (IntKind.u64.wrap i) 9223372036854775808=i+9223372036854775808:=by
 obtain⟨n,hn,hw⟩:∃n:Nat,n<2^64/\IntKind.u64.wrap i=(n:Int):=⟨(i%18446744073709551616).toNat,by omega,by simp[IntKind.wrap,IntKind.signed,IntKind.bits];omega⟩;have hi:(n:Int)=if 0<=i then i else i+18446744073709551616:=by
  rw[<-hw];simp[IntKind.wrap,IntKind.signed,IntKind.bits];split<;>omega
 rw[hw];have e:(BitVec.ofInt 64 (n:Int)^^^BitVec.ofInt 64 9223372036854775808).toNat=n^^^2^63:=by
  rw[BitVec.toNat_xor];congr 1;simp;omega
 show IntKind.u64.wrap ((BitVec.ofInt 64 (n:Int)^^^BitVec.ofInt 64 9223372036854775808).toNat:Int)=_;rw[e,xor_mid hn];simp only[IntKind.wrap,IntKind.signed,IntKind.bits];split at hi<;>split<;>simp<;>omega
end Go.Proofs
namespace Cad
open Go Go.Proofs Tryz
open List renaming length->M
open IntKind renaming wrap->Γ,i64->Δ
open Tr renaming val->Q9
open Bool renaming false->Q5,true->Z
open Option renaming none->Q2,some->Y
open Int renaming toNat->T
open List (getD)
open Cad renaming ze->Q,ow->S,ai->I,Sem->N,Tr->K
set_option maxHeartbeats 400000
set_option maxRecDepth 100000
open Tr (chk br re)
open AV (nils agg tup ptr kb str)
open AV renaming str->X,sl->O
noncomputable section
variable {w:World}{U:Nat->Prop}{h:Nat->Option Value}{v:Value}
theorem WH(i:lR mr.gl w U)(l:∀b,U b->b<w.heap.size){a:zw}(p:Rv w U h (zI Q a) v):
  Calls prog 86 #[v] w λe m=>e=.returned (.bool (aP a))/\RowKit.Below w.heap.size w m:=by
 have o:((F21 [zI Q a] (λ_=>.dead) 0)).val=Y {val:=.bool (aP a)}:=by kernel_rfl
 have k:cu w U h [zI Q a] [v]:=⟨rfl,λj c v g d=>by
  cases j with
  |zero=>simp at g d;subst g;subst d;exact p
  |succ j=>simp at g⟩
 refine(zcl.calls w U h (λ_=>.dead) 0 _ [v] _ [] o k l i ⟨sw,sw⟩ (by have e:AV.idsL [zI Q a]=[]:=rfl;rw[e];simp) sw sw).1.mono ?_;rintro e m ⟨v,q,s,rfl,x⟩;have d:=x.val;cases d;exact⟨rfl,⟨x.ext.os,x.ext.tape,x.ext.out,x.ext.sz,λb n=>x.same b n sw⟩⟩
theorem Uc{n:Int}(j:0<=n)(l:n<18446744073709551616):aL (octs n 8)=YA n.toNat:=by
 obtain⟨m,rfl⟩:∃m:Nat,n=(m:Int):=⟨n.toNat,S⟩;have f:∀a:Nat,UInt8.ofNat (((a:Int)%256).toNat)=UInt8.ofNat a:=λa=>by
  have:((a:Int)%256).toNat=a%256:=by omega
  rw[this];refine UInt8.toNat_inj.1 ?_;simp
 show[UInt8.ofNat (T ((m:Int)/2^56%256)),UInt8.ofNat (T ((m:Int)/2^48%256)),UInt8.ofNat (T ((m:Int)/2^40%256)),UInt8.ofNat (T ((m:Int)/2^32%256)),UInt8.ofNat (T ((m:Int)/2^24%256)),UInt8.ofNat (T ((m:Int)/2^16%256)),UInt8.ofNat (T ((m:Int)/2^8%256)),UInt8.ofNat (T ((m:Int)/2^0%256))]=_;unfold YA;simp only[bB];have g:∀k:Nat,UInt8.ofNat (T ((m:Int)/((k:Nat):Int)%256))=UInt8.ofNat (m/k):=λk=>by
  rw[<-Int.natCast_ediv];exact f _
 have e0:=g 72057594037927936;have h:=g 281474976710656;have x:=g 1099511627776;have b:=g 4294967296
 have c:=g 16777216;have d:=g 65536;have i:=g 256;have e:=g 1
 simp only[Nat.div_one]at e;exact congr (congrArg List.cons e0) (congr (congrArg List.cons h) (congr (congrArg List.cons x) (congr (congrArg List.cons b) (congr (congrArg List.cons c) (congr (congrArg List.cons d) (congr (congrArg List.cons i) (congr (congrArg List.cons e) rfl)))))))
def zku:zV:=ae [Q] [.str] (λ_=>Z) λx=>(cV x.1,())
theorem Rl(k i:Int)(s:zD)(d:-9223372036854775808<=i/\i<=9223372036854775807)(w:World)
  (x:∀b,RowKit.Below w.heap.size w b->Calls prog 86 #[.agg #[.int .i64 k,.int .i64 i,.string ⟨s.toArray⟩]] b λe l=>e=.returned (.bool (aP (k,i,s)))/\RowKit.Below b.heap.size b l):
  Calls prog 52 #[.agg #[.int .i64 k,.int .i64 i,.string ⟨s.toArray⟩]] w λe n=>e=.returned (.string ⟨(cV (k,i,s)).toArray⟩)/\RowKit.Below w.heap.size w n:=by
 cases a:aP (k,i,s)with
 | false=>
  rw[a]at x;have e:cV (k,i,s)=[0]:=zh (by rw[a];simp);rw[e];exact callsIn_wide.1 (Tryz.code_bad k i ⟨s.toArray⟩ w x)
 | true=>
  rw[a]at x;rcases iX a with h|⟨j,h⟩|⟨t,h,_⟩|h|h
  .cases h;have e:cV (0,0,[])=[0]:=by rw[xe a];rfl
   rw[e];exact callsIn_wide.1 (Tryz.code_null 0 ⟨#[]⟩ w x)
  .cases h;have e:cV (1,i,[])=aL (1::octs (bits BinOp.xor IntKind.u64 (IntKind.u64.wrap i) 9223372036854775808) 8):=by
    rw[xe a,bits_mid d.1 d.2];show _=UInt8.ofNat 1::aL (octs (i+9223372036854775808) 8);rw[Uc S S];rfl
   rw[e];exact callsIn_wide.1 (Tryz.code_int i d.1 d.2 w x)
  .cases h;have g:=eB (show decide (M s<=40)=Z from by
    have a:=a;unfold aP at a;simp only at a;rw[zh (by decide),zh (by decide),zf (by decide)]at a;obtain⟨_,a⟩:=ap a;obtain⟨a,_⟩:=ap a;have:=eB a;exact zL S)
   have e:cV (2,0,s)=aL (2::(zR s++[0])):=by
    rw[xe a];have m:aL (zR s)=s:=by
     unfold aL zR;rw[hZ]
     conv=>rhs;rw[<-List.map_id s]
     refine List.map_congr_left λc _=>UInt8.toNat_inj.1 ?_
     simp
    show UInt8.ofNat 2::(s++[0])=UInt8.ofNat 2::aL (zR s++[0]);rw[show aL (zR s++[0])=aL (zR s)++[0]from fx,m]
   rw[e];exact callsIn_wide.1 (Tryz.code_text s g w x)
  .cases h;have e:cV (3,0,[])=aL [3,0]:=by rw[xe a];rfl
   rw[e];exact callsIn_wide.1 (Tryz.code_bool 0 (by decide) (by decide) ⟨#[]⟩ w x)
  .cases h;have e:cV (3,1,[])=aL [3,1]:=by rw[xe a];rfl
   rw[e];exact callsIn_wide.1 (Tryz.code_bool 1 (by decide) (by decide) ⟨#[]⟩ w x)
theorem Tm{k i:Int}{s:zD}(d:Rv w U h (.agg [.int .i64 k,.int .i64 i,.str s]) v):v=.agg #[.int .i64 k,.int .i64 i,.string ⟨s.toArray⟩]/\-9223372036854775808<=i/\i<=9223372036854775807:=by
 cases d with
 |agg _ o c a x=>
 match o,c with
 |[l,m,n],_=>
 have e:=x 0 (.int .i64 k) l rfl rfl;have g:=x 1 (.int .i64 i) m rfl rfl;have j:=x 2 (.str s) n rfl rfl;cases e with
 |int _ _ p=>
 cases g with
 |int _ _ b=>
 cases j with
 |str _ q=>
 exact⟨rfl,by simpa[bq,IntKind.min,IntKind.max,IntKind.signed,IntKind.bits]using b⟩
theorem Rk(m:lR mr.gl w U)(n:∀b,U b->b<w.heap.size){x:zw}(o:Rv w U h (zI Q x) v):
  Calls prog 52 #[v] w λe t=>e=.returned (.string ⟨(cV x).toArray⟩)/\RowKit.Below w.heap.size w t:=by
 have l:∀c,RowKit.Below w.heap.size w c->Calls prog 86 #[v] c λe p=>e=.returned (.bool (aP x))/\RowKit.Below c.heap.size c p:=λc d=>
  WH (λg=>(m g).mono d.size (λb j _=>d.block b j) (λ_ _ a=>a) (λ_ _ a=>a)) (λb j=>cM (n b j) d.size) (o.mono d.size (λb j _=>d.block b j) (λ_ _ a=>a) (λ_ _ a=>a))
 obtain⟨k,i,s⟩:=x;obtain⟨rfl,q⟩:=Tm (k:=k) (i:=i) (s:=s) o;exact Rl k i s q w l
theorem zgH(x:zw):(cV x).length<=af:=by
 unfold cV;split
 .rename_i h;rcases iX h with rfl|⟨i,rfl⟩|⟨s,rfl,_⟩|rfl|rfl
  .simp[Uo,af]
  .simp[Uo,YA,af]
  .have a:M s<=40:=by
    unfold aP at h;simp only at h;rw[zh (by decide),zh (by decide),zf (by decide)]at h;have⟨_,h⟩:=ap h;have⟨h,_⟩:=ap h;have:=eB h;omega
   show(2::(s++[0])).length<=af;simp[af];omega
  .simp[Uo,af]
  .simp[Uo,af]
 .simp[af]
theorem zfx:FK 52 zku:=by
 refine cY (E:=mr) ⟨f52,kw,kw,kw⟩ λx o n h=>?_
 unfold dJ at h;split at h
 .simp only[Q9]at h;split at h
  .simp only[ax]at h;subst h;have⟨t,u⟩:=x;intro C w U q b _ c k a g d;have m:=c.len
   match b,m,c with
   | [i],_,c=>
    have j:=c.rv 0 (zI Q t) i rfl rfl;refine(Rk (U:=U) d.gl d.ub (x:=t) (v:=i) j).mono ?_;rintro e p ⟨rfl,l⟩;exact cI (r:=.str (cV t)) k a g d l (.str _ (zgH t))
  .cases h
 .simp at h
def zdj:=zdi.add 52 zku
theorem EP:zm zdj:=R0.add zfx
set_option maxHeartbeats 4000000
abbrev zoy:=fZ [(5,[4,10,11,12])]
inductive QP where
 |h5 (s4:List UInt8) (l10:zo) (i11:Int) (i12:Int)
abbrev zr0:QP->Nat×St
 |.h5 s l i h=>(5,⟨tm 25 [(4,X s),(10,O Q l),(11,I i),(12,I h)],[]⟩)
def zho(x:N ze.sl):K (QP⊕ac):=
 br (decide ((M x:Int)>12)) (re (tup [X [],I 1]) []) (Tr.to (QP.h5 [] x (M x:Int) 0))
def zbl:QP->K (QP⊕ac)
 | .h5 s l h i=>
  let a:=l.getD i.toNat (zk Q)
  let x:=cV a
  br (decide (i<h))
  (chk (zT i (M l)) (br (!aP a) (re (tup [X [],I 1]) []) (chk Z (chk (decide (M s+M x<=1099511627776)) (Tr.to (QP.h5 (s++x) l h (Γ Δ (i+1))))))))
  (re (tup [X s,I 0]) [])
def HC(x:N ze.sl):=aA [Sh.str,zi] zbl 100000000 (zho x)
def Nx(x:N ze.sl):=(HC x).isSome
def P5(x:N ze.sl):=o2 (HC x)
def zkm:=FT [ze.sl] [Sh.str,zi] λx=>HC x.1
theorem zfo:FK 44 zkm:=EP.T1 (f:=f44) (keep:=zoy) (e:=zr0)
def OX:=zdj.add 44 zkm
theorem vM:zm OX:=EP.add zfo
abbrev zox:=fZ []
theorem zpI:zJ OX.P 43 f43 2:=bG kw
def ztx(t:zo)(l:List Int):K (Empty⊕ac):=
 chk (Nx t)
 (chk ((Z||(WS.on l).b)&&(Z&&decide ((WS.on l).l.length+(dZ (P5 t).1).length<=aI)))
  (re (tup []) [AO.box [ptr 1 0],AO.box [ptr 1 0,AV.vec 3],AO.dead,AO.vec (Sh.int IntKind.u8) (l++zR (dZ (P5 t).1))]))
abbrev zoE:=fZ []
theorem zpQ:zJ OX.P 51 f51 2:=bG kw
def ztz(t:zw)(l:List Int):K (Empty⊕ac):=
 chk Z
 (chk ((Z||(WS.on l).b)&&(Z&&decide ((WS.on l).l.length+(dZ (cV t)).length<=aI)))
  (re (tup []) [AO.box [ptr 1 0],AO.box [ptr 1 0,AV.vec 3],AO.dead,AO.vec (Sh.int IntKind.u8) (l++zR (dZ (cV t)))]))
def DG(r:zo):Bool:=Nx r&&(P5 r).1==r.flatMap cV
def zkl:=cF (.sl Q) DG gK
theorem zfn:FK 43 zkl:=DM (eσ:=e0) (t:=t0) (n:=100000000) (keep:=zox) (gas:=400) (i:=λx l=>ztx x l) vM zpI (λx l=>by kernel_rfl) (Dh _ _ _ _ _) λx l a h=>by
 unfold DG at a;simp only[ar,be]at a;unfold gK at h|-;rw[<-a.2]at h|-;exact ag a.1 (ag (by exact wg) rfl)
def zks:=cF Q (λ_=>Z) dY
theorem zfu:FK 51 zks:=DM (eσ:=e0) (t:=t0) (n:=100000000) (keep:=zoE) (gas:=400) (i:=λx l=>ztz x l) vM zpQ (λx l=>by kernel_rfl) (Dh _ _ _ _ _) λx l _ h=>by
 unfold dY at h|-;exact ag rfl (ag (by exact wg) rfl)
def OY:=OX.addL [(43,zkl),(51,zks)]
theorem vN:zm OY:=vM.addL<|fc zfn<|fc zfu ip
end
end Cad
