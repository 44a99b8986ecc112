/- Rows, sorted. -/
import Derived.Test.YtjdjldbhjmgmkaaGreatDoorS23
import Derived.RowKit3
import Derived.WideKeyArgs
import Derived.Test.YtjdjldbhjmgmkaaGreatDoorRows
import Derived.OpenShut
import Derived.ProofKit
namespace Cad
open Go Go.Proofs
open List renaming length→Io
open IntKind renaming wrap→Γ,i64→Δ
open Tr renaming val→Q8
open Bool renaming false→Q4,true→Q3
open Option renaming some→Q1
open Decidable renaming decide→Q0
open Int (toNat)
open List (getD)
open Tr (chk br re)
open AV (nils agg tup ptr kb str sl)
set_option maxHeartbeats 4000000
noncomputable section
theorem zwk(k:Int)(x:List zt)(h:Nat)(G:Io x<=1000)(F:1<=h)(B:h<=1000):∀(s a:Nat)(l:List zt),Io x-a<=s->a<=Io x->Kp k x l->
  ∃j,Kp k x j/\zJ kE (s+1) (.h9 (Io x:Int) k (h:Int) (a:Int) ((a+2*h:Nat):Int) l) (.h7 (Io x:Int) k ((2*h:Nat):Int) j):=by
 intro s
 induction s with
 | zero=>
  intro a l C A c;refine⟨l,c,zJ.of ?_⟩;have e0:Γ Δ ((a:Int)+(h:Int))=((a+h:Nat):Int):=by rw[wI _ ow ow];omega
  have d:Γ Δ ((h:Int)*2)=((2*h:Nat):Int):=by rw[wI _ ow ow];omega
  have e:Q0 (((a+2*h:Nat):Int)<=(Io x:Int))=Q4:=by simp;omega
  simp only[kE,Q8,e0,d,e,kK (show¬a+h<Io x by omega),zE,zm]
 | succ s I=>
  intro a l C A c;have v:=c.len;have e0:Γ Δ ((a:Int)+(h:Int))=((a+h:Nat):Int):=by rw[wI _ ow ow];omega
  have d:Γ Δ ((h:Int)*2)=((2*h:Nat):Int):=by rw[wI _ ow ow];omega
  have z:Γ Δ (((a+2*h:Nat):Int)+Γ Δ (2*(h:Int)))=((a+2*h+2*h:Nat):Int):=by rw[wI (2*(h:Int)) ow ow,wI _ ow ow];omega
  by_cases y:a+2*h<=Io x
  .obtain⟨o,q,t⟩:=ZW k 16 l a (a+h) (a+2*h) ow ow ow ow sg;obtain⟨j,D,E⟩:=I (a+2*h) o ow y (c.trans t);refine⟨j,D,((zJ.of ?_).trans E).mono ow⟩;have e:Q0 (((a+2*h:Nat):Int)<=(Io x:Int))=Q3:=by simp;omega
   simp only[kE,Q8,e0,e,z,q,fG,bT,zh]
  .have e:Q0 (((a+2*h:Nat):Int)<=(Io x:Int))=Q4:=by simp;omega
   by_cases n:a+h<Io x
   .obtain⟨o,q,t⟩:=ZW k 16 l a (a+h) (Io x) ow ow n ow sg;refine⟨o,c.trans t,(zJ.of ?_).mono ow⟩;simp only[kE,Q8,e0,d,e,zI n,q,fG,bT,zh,zE,zm]
   .refine⟨l,c,(zJ.of ?_).mono ow⟩;simp only[kE,Q8,e0,d,e,kK n,zE,zm]
theorem zwj(k:Int)(x:List zt)(o:Io x<=1000):∀(s h:Nat)(l:List zt),Io x-h<=s->1<=h->Kp k x l->
  ∃e,Kp k x e/\zY kE (s*1002+1) (.h7 (Io x:Int) k (h:Int) l) (.tup [],[.vec zf.sl e]):=by
 intro s
 induction s with
 | zero=>
  intro h l q j d;refine⟨l,d,(zY.of ?_).mono ow⟩;simp only[kE,Q8,kK (show¬h<Io x by omega),zE,zm]
 | succ s I=>
  intro h l q j d;by_cases c:h<Io x
  case neg=>
   refine⟨l,d,(zY.of ?_).mono ow⟩;simp only[kE,Q8,kK c,zE,zm]
  obtain⟨t,v,y⟩:=zwk k x h o j ow (Io x) 0 l ow ow d;obtain⟨e,z,A⟩:=I (2*h) t ow ow v;refine⟨e,z,(((zJ.of ?_).trans y).ends A).mono ow⟩;have n:Γ Δ (2*(h:Int))=((0+2*h:Nat):Int):=by rw[wI _ ow ow];omega
  simp only[kE,Q8,zI c,n,zh];rfl
theorem zwi(k:Int)(h:List zt)(B:Io h<=1000):∀(s a:Nat)(l:List zt),Io h-a<=s->a<=Io h->Kp k h l->
  ∃o,Kp k h o/\zJ kE (s+1) (.h2 (Io h:Int) k 20 (a:Int) ((a+20:Nat):Int) l) (.h7 (Io h:Int) k 20 o):=by
 intro s
 induction s with
 | zero=>
  intro a l y v x;have d:=x.len;obtain⟨j,q,n⟩:=Dp l a (Io h) k ow ow ow;refine⟨j,x.trans n,zJ.of ?_⟩;have e:Q0 (((a+20:Nat):Int)<=(Io h:Int))=Q4:=by simp;omega
  simp only[kE,Q8,e,q,fG,bT,zh,zE,zm]
 | succ s I=>
  intro a l y v x;have d:=x.len;by_cases c:a+20<=Io h
  .obtain⟨j,q,n⟩:=Dp l a (a+20) k ow ow ow;obtain⟨o,z,A⟩:=I (a+20) j ow c (x.trans n);refine⟨o,z,((zJ.of ?_).trans A).mono ow⟩;have e:Q0 (((a+20:Nat):Int)<=(Io h:Int))=Q3:=by simp;omega
   have t:Γ Δ (((a+20:Nat):Int)+20)=((a+20+20:Nat):Int):=by rw[wI _ ow ow];omega
   simp only[kE,Q8,e,t,q,fG,bT,zh]
  .obtain⟨j,q,n⟩:=Dp l a (Io h) k ow ow ow;refine⟨j,x.trans n,(zJ.of ?_).mono ow⟩;have e:Q0 (((a+20:Nat):Int)<=(Io h:Int))=Q4:=by simp;omega
   simp only[kE,Q8,e,q,fG,bT,zh,zE,zm]
theorem zd4(k:Int)(l:List zt)(x:Io l<=1000):∃h,NA l (Io l:Int) k=Q1 h/\Kp k l h:=by
 obtain⟨d,q,e⟩:=zwi k l x (Io l) 0 l ow ow Kp.refl;obtain⟨h,j,n⟩:=zwj k l x (Io l) 20 d ow ow q;refine⟨h,?_,j⟩;have:zhb l (Io l:Int) k=Q1 (.tup [],[.vec zf.sl h]):=by
  have c:=gE 1002 x;exact(e.ends n) 100000000 (by
   refine aT (Nat.add_le_add (Nat.succ_le_succ c) (Nat.succ_le_succ x)) (by decide))
 unfold NA;rw[this];rfl
theorem Ny(k:Int)(l:List zt)(x:Io l<=1000):∃h,ym l k=Q1 h/\Kp k l h:=by
 obtain⟨h,q,c⟩:=zd4 k l x;refine⟨h,?_,c⟩;have:P2 l k=Q1 (.tup [],[.vec zf.sl h]):=by
  unfold P2 bY;simp only[Rx,Q8,q,fG,bT,zh]
 unfold ym;rw[this];rfl
theorem ZG{A:am}(o:Ok A=Q3)(z:Io A.2<=1000):∃x,Eo A=Q1 ((A.1,x),())/\x.Perm A.2/\(dM A.1=Q3->Kp A.1.2.2.1 A.2 x):=by
 have j:∀x:List zt,aU [AO.vec zl A.1.2.1,AO.vec zj A.1.2.2.2.1,AO.vec zB A.1.t.1,AO.vec zf.sl x] [zk] (agg [str A.1.1,AV.vec 0,ai A.1.2.2.1,AV.vec 1,AV.vec 2,str (za.op A.1.t.2),ai (za.v A.1.t.2).1,ai (za.v A.1.t.2).2.1,str (za.v A.1.t.2).2.2,str (za.s A.1.t.2),sl Sh.expr (za.l A.1.t.2),AV.vec 3])=Q1 (((A.1,x):am),()):=by
  intro x;obtain⟨⟨a,b,c,d,e,f⟩,r⟩:=A;cases f;rfl
 cases y:dM A.1 with
 | true=>
  obtain⟨x,n,q⟩:=Ny A.1.2.2.1 A.2 z;refine⟨x,zP (r:=(_,_)) ?_ (j x),q.1,λ_=>q⟩;simp only[zkI,Q8,zn,aX,o,y,n,fG,bT,cm,zE,zh,zm]
 | false=>
  obtain⟨x,n,q⟩:=Ny (-1) A.2 z;refine⟨x,zP (r:=(_,_)) ?_ (j x),q.1,λh=>(by cases h)⟩;simp only[zkI,Q8,zn,aX,o,y,n,fG,bT,di,zh]
set_option maxRecDepth 100000
section
variable {db:List (Sem zk)} {p:Sem aq} {us:List (Sem zf)}
theorem zdn(h:aV db p)(m:tg db p)(us:zt):Ok (p.2.2.2.1,(dH us).flatMap (fj db p))=Q3:=by have d:=(xD h (dH us) (tU us)).1;unfold Ok;simp only[aE,aQ,dQ];refine⟨⟨⟨⟨⟨aT m.wf.ncols ow,aT m.wf.nuq ow⟩,aT m.wf.nrf ow⟩,h.go.few.cp⟩,ow⟩,λr c=>?_⟩;obtain⟨u,_,x⟩:=KV.1 c;have:=(dn (Xc h m r x).1).1;have:=m.wf.ncols;omega
theorem UM(h:aV db p)(m:tg db p)(c:Io us<=1000):∃x,x.Perm ((dH us).flatMap (fj db p))/\ki p (aa db p) us=Q1 ((p.2.2.2.1,x),((iD db p (dH us):Nat):Int),0,()):=by have d:=(xD h (dH us) (tU us)).1;obtain⟨x,q,e,_⟩:=ZG (zdn h m us) (aT d ow);exact⟨x,e,ZY h m c q⟩
theorem zjt(h:aV db p){A:am}{n:Int}(c:ki p (aa db p) (cV p (aa db p))=Q1 (A,n,0,())):KY p (aa db p)=Q1 (A,n,0,()):=by
 have x:=h.uall;have d:Qp p (aa db p)=Q3:=by unfold Qp;rw[x];rfl
 have e:zaj p (aa db p)=(cV p (aa db p),0):=by unfold zaj;rw[x];rfl
 have j:N7 p (aa db p) (cV p (aa db p))=Q3:=by unfold N7;rw[c];rfl
 have o:VO p (aa db p) (cV p (aa db p))=(A,n,0):=by unfold VO;rw[c];rfl
 obtain⟨t,rows⟩:=A;refine(zP (i:=zkv p (aa db p)) (t:=t0) (n:=100000000) (outs:=[zk,zj,zj]) (by
  simp only[zkv,Q8,zn,aX,d,e,j,o,jc,zE,zh,zm];rfl) (y:=(((t.1,t.2.1,t.2.2.1,t.2.2.2.1,t.t.1,zr t.t.2),rows),n,0,())) rfl).trans ?_
 rw[zn]
theorem VB(h:aV db p)(m:tg db p):∃x,x.Perm ((cV p (aa db p)).flatMap (fj db p))/\KY p (aa db p)=Q1 ((p.2.2.2.1,x),((iD db p (cV p (aa db p)):Nat):Int),0,()):=by have d:=h.few;have e:=h.rel.few;obtain⟨x,q,c⟩:=UM (us:=cV p (aa db p)) h m ow;rw[Us h.nodup]at q c;exact⟨x,q,zjt h c⟩
end
section
variable {l:List (Sem zk)} {p:Sem aq} {u:Sem zf} {acc:List (Sem zf)} {i:Nat}
end
section
variable {db:List (Sem zk)} {p:Sem aq}
end
section
variable {α:Type} {k:α->Sem zf}
end
section
variable {K:Int} {l m:List (List (Sem zf))}
end
section
variable {db:List (Sem zk)} {p:Sem aq} {us:List (Sem zf)}
end
section
variable {db:List (Sem zk)} {p:Sem aq} {us a b:List (Sem zf)}
end
def cF(n:Int):zp:=(1,n,[])
def zds:zp:=(0,0,[])
def bV:ao:=([118],[([110],1,Q3),([114],1,Q4),([100],1,Q4)],0,[],[],.mk [] (0,0,[]) [] [])
structure dK (rows:List zt):Prop where
 few:Io rows<=40
 row:∀(i:Nat)(h:i<Io rows),∃(g:zp)(d:Int),rows[i]=[cF (i:Int),g,cF d]/\(g=zds\/∃k:Nat,1<=k/\k<=4/\g=cF (k:Int))/\(-1099511627776<d/\d<1099511627776)
section
variable {rows:List (List (Sem zf))}
theorem dK.mem(h:dK rows){r:zt}(c:r∈rows):∃(i:Nat)(g:zp)(d:Int),i<40/\r=[cF (i:Int),g,cF d]/\(g=zds\/∃k:Nat,1<=k/\k<=4/\g=cF (k:Int))/\(-1099511627776<d/\d<1099511627776):=by obtain⟨i,x,rfl⟩:=fP c;obtain⟨g,d,e⟩:=h.row i x;have:=h.few;exact⟨i,g,d,ow,e⟩
theorem zcN(h:dK rows){r:zt}(c:r∈rows):Dr r=r:=by obtain⟨i,g,d,_,rfl,x,_⟩:=h.mem c;rcases x with rfl|⟨k,_,_,rfl⟩<;>rfl
theorem Yg(h:dK rows):IQ (bV,rows)=Q1 ((bV,rows),()):=by
 have c:=h.few;have q:zaa bV=bV:=by rfl
 have o:(zky (bV,rows)).val=Q1 (.inl (.h6 40 ((0:Nat):Int) ((bV,rows),()) ([],0,[],0,0,[],[],()) (bV,[],()))):=by
  have n:Q0 (GT.gt (α:=Int) (Io rows:Int) 200)=Q4:=z7 ow;simp only[zky,Q8,zn,aX,n,zE,zm,q];rfl
 have d:=zJ.all (t:=zeb) 1 (λi=>.h6 40 (i:Int) ((bV,rows),()) ([],0,[],0,0,[],[],()) (bV,rows.take i,())) (Io rows) λi x=>zJ.of (by
  have e:Q0 (LT.lt (α:=Int) (i:Int) 40)=Q3:=zy ow;have j:Q0 ((rows.take i).length+[rows[i]].length<=1073741824)=Q3:=by simp;omega
  simp only[zeb,Q8,zI x,e,zx x,zX _ _ x,zcN h (bp x),aw,zh,j];rw[zu i um,bv x])
 simp only[fQ,List.take_zero]at d;refine zA o (d.ends (zY.of (by
  simp only[zeb,Q8,zG,ax,zE,zm];rfl))) ow ?_
 rfl
theorem Yh(h:dK rows):IR [(bV,rows)]=Q1 ([(bV,rows)],()):=by
 have x:=Yg h;have c:Pe (bV,rows)=Q3:=by unfold Pe;rw[x];rfl
 have d:Yf (bV,rows)=(bV,rows):=by unfold Yf;rw[x];rfl
 have n:(i7p [(bV,rows)]).val=Q1 (.inl (.h3 [(bV,rows)] ((0:Nat):Int) [])):=rfl;have j:zJ t7p 1 (.h3 [(bV,rows)] ((0:Nat):Int) []) (.h3 [(bV,rows)] ((1:Nat):Int) [(bV,rows)]):=zJ.of (by
  have e:((bV.1,bV.2.1,bV.2.2.1,bV.2.2.2.1,bV.t.1,zr bV.t.2),rows)=((bV,rows):am):=rfl;simp only[t7p,Q8,List.getD_cons_zero,aJ,e,c,d];rfl)
 refine zA n (j.ends (zY.of (r:=(AV.vec 0,[AO.vec zk [(bV,rows)]])) ?_)) ow rfl;rfl
end
theorem NJ:dM bV=Q3:=kw
section
variable {rows:List (List (Sem zf))}
theorem zlj(i j:Int)(h:i<j):uk (cF i) (cF j):=by
 have e:aO (cF i) (cF j)=(-1:Int):=by
  have c:aA (cF i)=cF i:=by rfl
  have d:aA (cF j)=cF j:=by rfl
  have x:jd i j=(-1:Int):=by
   unfold jd;rw[zg sw,zg sw,ze (by simpa using h)]
  unfold aO;rw[c,d];show Hm [sB 1 1,jd i j,ox [] []]=(-1:Int);rw[x];rfl
 unfold uk;rw[e];decide
theorem UJ(i:Int)(g:zp)(d:Int)(h:g=zds\/∃k:Nat,1<=k/\k<=4/\g=cF (k:Int)):cf bV [cF i,g,cF d]=(0:Int):=by
 unfold cf;rw[NJ];rcases h with rfl|⟨k,_,_,rfl⟩
 .rfl
 .rfl
theorem zd8(h:dK rows):ed (bV,rows):=by
 have s:=h.few;refine⟨NJ,by show Io rows<=200;omega,λr C=>?_,?_,λu D=>(by cases D),λi x=>?_⟩
 .obtain⟨i,g,d,_,rfl,z,_⟩:=h.mem C;exact UJ i g d z
 .show List.Pairwise _ rows;refine List.pairwise_iff_getElem.2 λi j x B A _ e=>?_
  obtain⟨g,d,c,_⟩:=h.row i x;obtain⟨y,t,n,_⟩:=h.row j B;rw[c,n]at e;have e:cF (i:Int)=cF (j:Int):=e;have:(i:Int)=(j:Int):=congrArg (λv:zp=>v.2.1) e;omega
 .have o:i<Io rows:=by have:i<Io rows-1:=x;omega
  have q:i+1<Io rows:=by have:i<Io rows-1:=x;omega
  show uk (zS 0 (rows.getD i (zi zf.sl))) (zS 0 (rows.getD (i+1) (zi zf.sl)));rw[W7 _ _ o,W7 _ _ q];obtain⟨g,d,c,_⟩:=h.row i o;obtain⟨y,t,n,_⟩:=h.row (i+1) q;rw[c,n];exact zlj _ _ ow
theorem Z3(h:dK rows):iA [(bV,rows)]:=by
 refine⟨sw,λi e=>zC e sw,λx c=>?_,λx c f d=>?_⟩
 .rw[dU]at c;subst c;exact zd8 h
 .rw[dU]at c;subst c;cases d
theorem yp(h:dK rows):∀x∈[((bV,rows):am)],gL x:=by intro x c;have:=h.few;rw[dU]at c;subst c;exact⟨aM _,aM _,by show Io rows<=1000;omega⟩
theorem UP(h:dK rows):kh [(bV,rows)]=(0:Int):=(il (yp h)).2 (Z3 h)
def U9:zN:=(mU,[117],[118],[[114],[100]],[],[],[],[],.mk [] (0,0,[]) [] [],[],[],.mk [] (0,0,[]) [] [],[])
def iZ:ar:=(mU,[118],[],([117],[([114],1,Q3),([100],1,Q4)],0,[],[],.mk [] (0,0,[]) [] []),[1,2],0)
theorem ND(h:dK rows):bm [(bV,rows)] U9=(0,iZ):=by unfold bm;rw[ze ⟨by decide,kw,UP h⟩];rfl
end
def eY{α:Type}(f:α->Int):List α->Int
 |[]=>0
 |a::r=>f a+eY f r
section
variable {α:Type} {f g:α->Int}
theorem EQ:∀(l m:List α),eY f (l++m)=eY f l+eY f m
 |[],m=>by simp[eY]
 | a::r,m=>by
  show f a+eY f (r++m)=f a+eY f r+eY f m;rw[EQ r m];omega
theorem HP{l m:List α}(h:l.Perm m):eY f l=eY f m:=by
 induction h with
 |nil=>rfl
 |cons a _ d=>show f a+_=f a+_;rw[d]
 |swap a b l=>show f b+(f a+_)=f a+(f b+_);omega
 |trans _ _ x c=>rw[x,c]
theorem NC{β:Type}(k:β->α):∀l:List β,eY f (l.map k)=eY (λx=>f (k x)) l
 |[]=>rfl
 |a::r=>by show f (k a)+_=f (k a)+_;rw[NC k r]
theorem Z2(l:List α)(p q:α->Bool)(c:∀x∈l,p x=Q3->q x=Q4):eY f (l.filter λx=>p x||q x)=eY f (l.filter p)+eY f (l.filter q):=by
 induction l with
 |nil=>rfl
 | cons a r h=>
  have h:=h λx j=>c x (jN _ j)
  have d:=c a ln;rw[List.filter_cons,List.filter_cons,List.filter_cons];cases e:p a with
  | true=>
   rw[d e];simp only[Bool.true_or,zh,zE,zm];show f a+_=f a+_+_;rw[h];omega
  | false=>
   cases n:q a with
   | true=>
    simp only[yN,zh,zE,zm];show f a+_=_+(f a+_);rw[h];omega
   | false=>
    simp only[yN,zE,zm];exact h
theorem ug{B:Int}:∀(l:List α),(∀x∈l,-B<f x/\f x<B)->0<B->-(B*Io l)<=eY f l/\eY f l<=B*Io l
 |[],_,_=>by simp[eY]
 | a::r,h,hB=>by
  have d:=h a ln;have e:=ug r (λx c=>h x (jN _ c)) hB;show -(B*((Io r+1:Nat):Int))<=f a+eY f r/\f a+eY f r<=B*((Io r+1:Nat):Int);have:B*((Io r+1:Nat):Int)=B*(Io r:Int)+B:=by
   rw[pQ,Int.mul_add];simp
  omega
end
theorem Zf{a b:Int}(t:-4611686018427387904<a/\a<4611686018427387904)(v:-4611686018427387904<b/\b<4611686018427387904):mD (cF a) (cF b)=cF (a+b):=by
 have s:Γ Δ (a+b)=a+b:=by rw[dP];omega
 unfold mD;have n:eV (cF a) (cF b)=Q3:=by rfl
 have j:(cF a).1=(1:Int):=rfl;rw[n,j,zg (by decide)];have o:(cF a).2.1=a:=rfl;have q:(cF b).2.1=b:=rfl;rw[o,q,s,zg]
 .rfl
 .by_cases c:b>0
  .have d:Q0 (b>0)=Q3:=zy c;have x:Q0 (a+b<a)=Q4:=z7 ow;have h:Q0 (b<0)=Q4:=z7 ow;simp[d,x,h]
  .by_cases e:b<0
   .have d:Q0 (b>0)=Q4:=z7 c;have x:Q0 (a+b>a)=Q4:=z7 ow;have h:Q0 (b<0)=Q3:=zy e;rw[d,x,h];simp
   .have d:Q0 (b>0)=Q4:=z7 c;have h:Q0 (b<0)=Q4:=z7 e;rw[d,h];simp
def Fh(r:zt):Int:=(zS 2 r).2.1
theorem L3:∀(l:List zt)(a:Int),Io l<=40->(∀r∈l,zS 2 r=cF (Fh r)/\(-1099511627776<Fh r/\Fh r<1099511627776))->
  (-(1099511627776*(40-(Io l:Int)))<=a/\a<=1099511627776*(40-(Io l:Int)))->l.foldl (AF iZ) (cF a)=cF (a+eY Fh l)
 |[],a,_,_,_=>by show cF a=cF (a+0);rw[Int.add_zero]
 | r::l,a,hl,h,hb=>by
  obtain⟨e,n⟩:=h r ln;rw[eJ]at hl hb;have c:AF iZ (cF a) r=cF (a+Fh r):=by
   unfold AF;have d:getD iZ.t.1 (toNat 1) (zi zj)=2:=rfl;rw[d,e,zg (by show¬(1:Int)=0;decide),Zf ow ow]
  rw[List.foldl_cons,c,L3 l _ ow (λx j=>h x (jN _ j)) ow];show cF (a+Fh r+eY Fh l)=cF (a+(Fh r+eY Fh l));rw[Int.add_assoc]
section
variable {rows:List (List (Sem zf))}
theorem Pn:ut (.mk [] (0,0,[]) [] []):=⟨⟨by decide,by decide,sw⟩,sw,trivial⟩
theorem J5:wN U9:=by refine⟨⟨by decide,by decide,by decide,⟨by decide,λx h=>?_⟩,⟨by decide,λx h=>(by cases h)⟩,by decide,⟨by decide,λx h=>(by cases h)⟩,⟨by decide,λx h=>(by cases h)⟩,by decide,⟨by decide,λx h=>(by cases h)⟩,by decide⟩,Pn,Pn,EB,EB,λv c=>(by cases c),λx h=>(by cases h)⟩;have h:x∈[[114],[100]]:=h;simp at h;rcases h with rfl|rfl<;>decide
theorem zei:H5 bV:=by refine⟨by decide,λc h=>?_,by decide,by decide,by decide,λf x=>(by cases x),Pn⟩;have h:c∈[(([110],1,Q3):bR),([114],1,Q4),([100],1,Q4)]:=h;simp at h;rcases h with rfl|rfl|rfl<;>decide
theorem zmj(h:dK rows):KQ (bV,rows):=by
 have c:=h.few;refine⟨zei,by show Io rows<=1000;omega,λr q v e=>?_⟩
 .obtain⟨i,g,d,s,rfl,o,j⟩:=h.mem q;have x:∀n:Int,-1099511627776<n/\n<1099511627776->mb (cF n):=λn t=>⟨by show(-9223372036854775808:Int)<=n;omega,by show n<=(9223372036854775807:Int);omega,by show(0:Nat)<=1000000;omega⟩
  simp only[b8,List.not_mem_nil,or_false]at e;rcases e with rfl|rfl|rfl
  .exact x _ ow
  .rcases o with rfl|⟨k,_,_,rfl⟩
   .exact⟨by decide,by decide,by decide⟩
   .exact x _ ow
  .exact x _ j
theorem SH(h:dK rows):∀x∈[((bV,rows):am)],KQ x:=λx c=>by
 rw[dU]at c;subst c;exact zmj h
theorem ET(h:dK rows):aV [(bV,rows)] iZ/\tg [(bV,rows)] iZ:=by
 have e:=ND h;have x:(bm [(bV,rows)] U9).1=0:=by rw[e]
 have c:=Zd (yp h) x ⟨J5.sh,J5.cchk⟩;have d:=zle (SH h) x J5;rw[e]at c d;exact⟨c,d⟩
theorem zd9:aa [(bV,rows)] iZ=[(bV,rows)]:=rfl
theorem zd7:dL iZ (aa [(bV,rows)] iZ)=1:=rfl
def ER(rows:List zt)(u:zp):Int:=eY Fh (rows.filter (Ak 1 u))
theorem NF(h:dK rows){r:zt}(c:r∈rows):zS 2 r=cF (Fh r)/\(-1099511627776<Fh r/\Fh r<1099511627776):=by obtain⟨i,g,d,_,rfl,_,x⟩:=h.mem c;exact⟨rfl,x⟩
theorem ES(h:dK rows){u:zp}(z:u∈cV iZ (aa [(bV,rows)] iZ)):fj [(bV,rows)] iZ u=[[u,cF (ER rows u)]]/\(∃k:Nat,u=cF (k:Int))/\sD iZ (aa [(bV,rows)] iZ) u (yz [(bV,rows)] iZ u)=[[u,cF (ER rows u)]]:=by
 have x:=((ET h).1.is u).1 z;rw[zd7]at x;have x:rows.filter (Ak 1 u)≠[]:=x;have o:yz [(bV,rows)] iZ u=rows.filter (Ak 1 u):=rfl;have q:∃k:Nat,u=cF (k:Int):=by
  obtain⟨r,n⟩:=List.exists_mem_of_ne_nil _ x;obtain⟨t,v⟩:=List.mem_filter.1 n;obtain⟨j,s⟩:=gn.1 v;obtain⟨i,g,d,_,rfl,y,_⟩:=h.mem t;have j:g=u:=j;subst j;rcases y with rfl|⟨k,_,_,rfl⟩
  .exact zC rfl s
  .exact⟨k,rfl⟩
 have c:sD iZ (aa [(bV,rows)] iZ) u (yz [(bV,rows)] iZ u)=[[u,cF (ER rows u)]]:=by
  rw[o];unfold sD;rw[ze EB,zg x];have e:=L3 (rows.filter (Ak 1 u)) 0 (aT (List.length_filter_le _ _) h.few) (λr n=>NF h (List.mem_filter.1 n).1) (by
   have:(rows.filter (Ak 1 u)).length<=40:=aT (List.length_filter_le _ _) h.few;omega)
  rw[Int.zero_add]at e;show[[u,(rows.filter (Ak 1 u)).foldl (AF iZ) (cF 0)]]=_;rw[e];rfl
 refine⟨?_,q,c⟩;unfold fj;rw[c];obtain⟨k,rfl⟩:=q;have e:cf iZ.2.2.2.1 [cF (k:Int),cF (ER rows (cF (k:Int)))]=(0:Int):=by
  unfold cf;rw[show dM iZ.2.2.2.1=Q3 by kernel_rfl];rfl
 rw[List.filter_cons,ze (by simpa using e)];rfl
theorem P5(h:dK rows):eY (ER rows) (cV iZ (aa [(bV,rows)] iZ))=eY Fh (rows.filter λr=>(zS 1 r).1!=0):=by
 have o:=(ET h).1;have n:∀L:zt,L.Nodup->eY (ER rows) L=eY Fh (rows.filter λr=>L.any λu=>Ak 1 u r):=by
  intro L
  induction L with
  |nil=>intro _;rw[List.filter_eq_nil_iff.2 λr _=>by simp];rfl
  | cons u L t=>
   intro x;rw[List.nodup_cons]at x;have e:=Z2 (f:=Fh) rows (Ak 1 u) (λr=>L.any λu=>Ak 1 u r) λr _ j=>by
    rw[List.any_eq_false];intro v s c;exact x.1 (by rw[<-(gn.1 j).1,(gn.1 c).1];exact s)
   show ER rows u+eY (ER rows) L=_;rw[t x.2];unfold ER;rw[<-e];rfl
 rw[n _ o.nodup];congr 1;refine List.filter_congr λr j=>?_
 rw[gU,List.any_eq_true];constructor
 .rintro⟨u,_,c⟩;obtain⟨d,q⟩:=gn.1 c;have d:zS 1 r=u:=d;rw[d];simpa using q
 .intro x;have x:(zS 1 r).1≠0:=by simpa using x
  have c:Ak 1 (zS 1 r) r=Q3:=gn.2 ⟨rfl,x⟩;exact⟨_,(o.is _).2 (List.ne_nil_of_mem (List.mem_filter.2 ⟨j,c⟩)),c⟩
theorem zd6(h:dK rows):iD [(bV,rows)] iZ (cV iZ (aa [(bV,rows)] iZ))=0/\
  (∀r∈XH (zS iZ.2.2.2.1.2.2.1) ((cV iZ (aa [(bV,rows)] iZ)).flatMap (fj [(bV,rows)] iZ)),∃(k:Nat)(s:Int),r=[cF (k:Int),cF s]/\(-43980465111041<s/\s<43980465111041))/\
  eY (λr=>(zS 1 r).2.1) (XH (zS iZ.2.2.2.1.2.2.1) ((cV iZ (aa [(bV,rows)] iZ)).flatMap (fj [(bV,rows)] iZ)))=eY Fh (rows.filter λr=>(zS 1 r).1!=0)/\
  (XH (zS iZ.2.2.2.1.2.2.1) ((cV iZ (aa [(bV,rows)] iZ)).flatMap (fj [(bV,rows)] iZ))).length<=40:=by
 have y:=(ET h).1;have c:∀L:zt,(∀u∈L,u∈cV iZ (aa [(bV,rows)] iZ))->L.flatMap (fj [(bV,rows)] iZ)=L.map λu=>[u,cF (ER rows u)]:=by
  intro L
  induction L with
  |nil=>intro _;rfl
  | cons u L d=>
   intro e;rw[List.flatMap_cons,(ES h (e u ln)).1,d λv o=>e v (jN _ o)];rfl
 have x:=c _ λu j=>j
 refine⟨?_,λr n=>?_,?_,?_⟩
 .have:∀L:zt,(∀u∈L,u∈cV iZ (aa [(bV,rows)] iZ))->iD [(bV,rows)] iZ L=0:=by
   intro L
   induction L with
   |nil=>intro _;rfl
   | cons u L d=>
    intro e;obtain⟨q,_,t⟩:=ES h (e u ln);have d:=d λv o=>e v (jN _ o)
    unfold iD at d|-;rw[dC,List.sum_cons,d];unfold Ca;rw[q,t];rfl
  exact this _ λu j=>j
 .rw[x]at n;obtain⟨u,j,rfl⟩:=bh.1 ((rz _).mem_iff.1 n);obtain⟨_,⟨k,rfl⟩,_⟩:=ES h j;refine⟨k,_,rfl,?_⟩;have A:=ug (f:=Fh) (B:=1099511627776) (rows.filter (Ak 1 (cF (k:Int)))) (λr n=>(NF h (List.mem_filter.1 n).1).2) (by decide);have:(rows.filter (Ak 1 (cF (k:Int)))).length<=40:=aT (List.length_filter_le _ _) h.few;unfold ER;omega
 .rw[HP (rz _),x,NC,<-P5 h];rfl
 .rw[(rz _).length_eq,x,cQ];have:=y.few;have z:(cV iZ (aa [(bV,rows)] iZ)).length<=Io rows:=this;have:=h.few;omega
end
theorem zag{db:zR}{p:ar}(C:∀x∈db,gL x)(A:aV db p){h:zR}{c s:zN}(d:Hd h=db)(j:Pf h=Q3)(v:Ye c=s)(q:Pd c=Q3)(B:Zl db s=(p,0))(o:Py db s=Q3):
  nB h c=Q1 (p,aa db p,Q3,()):=by
 have z:=zaf (Zo C A.fnd);have D:IS p db=Q3:=by unfold IS;rw[z];rfl
 have E:Ph p db=(p,aa db p,Q3):=by unfold Ph;rw[z];rfl
 have e:p=(p.1,p.2.1,p.2.2.1,(p.2.2.2.1.1,p.2.2.2.1.2.1,p.2.2.2.1.2.2.1,p.2.2.2.1.2.2.2.1,p.2.2.2.1.t.1,zr p.2.2.2.1.t.2),p.t):=by rw[zn]
 refine(zP (i:=i7u h c) (t:=t0) (n:=100000000) (outs:=[aq,zk.sl,Sh.bool]) (by
  simp only[i7u,zn,aX,Q8,d,j,v,q,B,o,D,E,jc,zE,zh,zm];rfl) (y:=((p.1,p.2.1,p.2.2.1,(p.2.2.2.1.1,p.2.2.2.1.2.1,p.2.2.2.1.2.2.1,p.2.2.2.1.2.2.2.1,p.2.2.2.1.t.1,zr p.2.2.2.1.t.2),p.t),aa db p,Q3,())) rfl).trans ?_
 rw[<-e]
theorem Hc:IP U9=Q1 (U9,()):=kw
theorem NE{rows:List zt}(h:dK rows):nB [(bV,rows)] U9=Q1 (iZ,[(bV,rows)],Q3,()):=by have e:=Yh h;have q:=Zm (SH h) J5;rw[ND h]at q;exact zag (s:=U9) (yp h) (ET h).1 (by unfold Hd;rw[e];rfl) (by unfold Pf;rw[e];rfl) (by unfold Ye;rw[Hc];rfl) (by unfold Pd;rw[Hc];rfl) (by unfold Zl;rw[q];rfl) (by unfold Py;rw[q];rfl)
def zqQ:Tr (Empty⊕au):=
 chk Q3
 (chk Q3
  (chk Q3 (chk Q3 (chk Q3 (br Q4 (re (kb Q4) []) (chk Q3 (chk Q3 (chk Q3 (re (AV.bool Q3) [])))))))))
def AX:=an [Sh.bool] t0 100000000 (zqQ)
def H9:=(AX).isSome
def N2:=o1 (AX)
def zmN:=FT [] [Sh.bool] λ_=>AX
theorem zhy:FK 11 zmN:=GL.T1 (f:=Tryz.f11) (keep:=k0) (e:=e0)
def zqh:=zge.add 11 zmN
theorem TQ:zw zqh:=GL.add zhy
abbrev zpV:List CP:=[.d .str,.d (.sl zl),.d zj,.nil,.nil,.d .str,.d zj,.d zj,.d .str,.d .str,.nil,.vec (.sl zf)]
def Pg:zN:=zr2 [77,73,71,82,65,84,69,32,71,82,79,85,80,32,117,32,70,82,79,77,32,118,32,66,89,32,114,32,83,85,77,32,100]
def st8:zN:=(Pg.1,Pg.2.1,Pg.2.2.1,Pg.2.2.2.1,Pg.t.1,Pg.t.2.1,Pg.t.q.1,Pg.t.q.2.1,zr Pg.t.t.1,Pg.t.t.2.1,Pg.t.t.q.1,zr Pg.t.t.q.2.1,Pg.t.t.t)
abbrev zvU:Nat->aP:=λj=>if j=4 then{slots:=[0,1,5,6,7],prom:=[(5,Q1 11,.sl zf)]}else if j=18 then{slots:=[6,13,14,15,16,17]}else{ }
inductive H3q where
 |h4 (l0:dA) (l1:List (Sem (Sh.int IntKind.u8))) (i6:Int) (i7:Int) (z0:zo zpV)
 |h18 (i6:Int) (i14:zq) (i15:zq) (i16:Int) (i17:Int) (z0:zo [CP.d zk])
abbrev e3q:H3q->Nat×St
 |.h4 o q j n z=>(4,⟨tm 139 [(0,sl zj o),(1,sl (Sh.int IntKind.u8) q),(5,ptr 0 0),(6,ai j),(7,ai n)],[AO.box (bI [1] zpV z),AO.vec zf.sl z.t.t.1]⟩)
 |.h18 j h x c e z=>(18,⟨tm 139 [(6,ai j),(13,ptr 0 0),(14,ai h),(15,ai x),(16,ai c),(17,ai e)],[AO.box (bI [] [CP.d zk] z)]⟩)
def i3q(x:Sem zj.sl)(h:Sem ((Sh.int IntKind.u8).sl)):Tr (H3q⊕au):=
 Tr.to (H3q.h4 x h 0 0 ([118],[([110],1,Q3),([114],1,Q4),([100],1,Q4)],0,[],0,0,[],[],[],()))
def t3q:H3q->Tr (H3q⊕au)
 | .h4 l0 l1 o x z=>
  let D:=Q0 (x<(↑l1.length:Int))
  let s:=IntKind.u8.wrap (Int.tmod (l1.getD x.toNat (zi (Sh.int IntKind.u8))) 5)
  let v:=(1,x,[])
  let A:=Γ Δ (Int.tmod (l0.getD x.toNat (zi zj)) 1099511627776)
  let B:=[(1,A,[])]
  let C:=[v::(1,Γ Δ s,[])::B]
  let E:=Γ Δ (x+1)
  let F:=[v::(0,0,[])::B]
  let G:=[((z.1,z.2.1,z.2.2.1,[],[],za.mk z.2.2.2.1 (z.t.1,z.t.2.1,z.t.q.1) z.t.q.2.1 []),z.t.t.1)]
  let h:=Ds G st8
  let y:=(h.1.1,h.1.2.1,h.1.2.2.1,(h.1.2.2.2.1.1,h.1.2.2.2.1.2.1,h.1.2.2.2.1.2.2.1,h.1.2.2.2.1.2.2.2.1,h.1.2.2.2.1.t.1,zr h.1.2.2.2.1.t.2),h.1.t)
  let d:=zjw y h.2.1
  br (cond (Q0 (x<(↑l0.length:Int))) (Q0 (x<40)) Q4)
  (chk (zK x (Io l0)) (chk Q3 (chk (cond D (zK x (Io l1)&&5!=0) Q3) (br (cond D (Q0 (s>0)) Q4) (chk (zK x (Io l1)) (chk Q3 (chk (Q0 (Io z.t.t.1+Io C<=1073741824)) (Tr.to (H3q.h4 l0 l1 (Γ Δ (o+A)) E (z.1,z.2.1,z.2.2.1,z.2.2.2.1,z.t.1,z.t.2.1,z.t.q.1,
  z.t.q.2.1,z.t.t.1++C,())))))) (chk (Q0 (Io z.t.t.1+Io F<=1073741824)) (Tr.to (H3q.h4 l0 l1 o E (z.1,z.2.1,z.2.2.1,z.2.2.2.1,z.t.1,z.t.2.1,z.t.q.1,z.t.q.2.1,z.t.t.1++F,()))))))))
  (chk Q3 (chk (xM G st8) (br (!h.2.2) (re (kb Q4) []) (chk (VJ y h.2.1) (Tr.to (H3q.h18 o d.2.1 d.2.2 0 0 (d.1,())))))))
 | .h18 o e j n c z=>
  let D:=(↑(Io z.1.2):Int)
  let s:=zK c (Io z.1.2)
  let v:=getD z.1.2 c.toNat (zi zf.sl)
  let A:=(↑(Io v):Int)!=2
  let B:=zK 1 (Io v)
  let C:=getD v (toNat 1) (zi zf)
  br (Q0 (c<D))
  (chk (s&&bif A then Q3 else s&&B) (br (cond A Q3 (C.1!=1)) (re (kb Q4) []) (chk s (chk B (Tr.to (H3q.h18 o e j (Γ Δ (n+C.2.1)) (Γ Δ (c+1)) z))))))
  (chk (cond (n==o) (cond (e==0) (cond (j==0) H9 Q3) Q3) Q3) (re (AV.bool (cond (n==o) (cond (e==0) (cond (j==0) N2 Q4) Q4) Q4)) []))
def A7(x:Sem zj.sl)(h:Sem ((Sh.int IntKind.u8).sl)):=an [Sh.bool] t3q 100000000 (i3q x h)
def F3q:=FT [zj.sl,(Sh.int IntKind.u8).sl] [Sh.bool] λx=>A7 x.1 x.2.1
theorem zoF:FK 3 F3q:=TQ.T1 (f:=Tryz.f3) (keep:=zvU) (e:=e3q)
def ofV(_:ar)(s:zR)(h:Int)(row:zt):zp×Int:=
 if Io row≠Io (getD s 0 (zi zk)).1.2.1\/¬∀v∈row,bf v=Q3 then((0,0,[]),1)else if(getD row h.toNat (zi zf)).1=0 then((0,0,[]),6)else(getD row h.toNat (zi zf),0)
theorem zmn{p:ar}{C:zR}{row:zt}(h:QD p C)(E:mC p C=Q3)(I:Io row<=1000)(A:Io row=Io (getD C 0 (zi zk)).1.2.1->zK (de p C) (Io row)=Q3):
  ztJ p C row=Q1 ((ofV p C (de p C) row).1,(ofV p C (de p C) row).2,()):=by
 obtain⟨B,D⟩:=Be h;have G:=(pi h.two).1;have j:zK 0 (Io C)=Q3:=zx (i:=0) G;unfold ofV;by_cases c:Io row=Io (getD C 0 (zi zk)).1.2.1
 .have F:=A c;have e:((Io row:Int)!=((Io (getD C 0 (zi zk)).1.2.1:Nat):Int))=Q4:=by rw[c];simp
  have x:(zc1 p C row).val=Q1 (.inl (.h4 C row row (Io row:Int) ((0:Nat):Int) (p,()) ((0,0,[]),()))):=by
   simp only[zc1,zn,aX,Q8,B,D,j,jc,ax,pT,zh];rw[zg (by rw[gT];exact e)];rfl
  have y:∀i(x:i<Io row),(UQ (.h4 C row row (Io row:Int) (i:Int) (p,()) ((0,0,[]),()))).val=if bf row[i]=Q3 then Q1 (.inl (.h4 C row row (Io row:Int) ((i+1:Nat):Int) (p,()) ((0,0,[]),())))else Q1 (.inr (.tup [.agg [.int .i64 0,.int .i64 0,.str []],.int .i64 1],[])):=λi x=>by
   simp only[UQ,Q8,zI x,zx x,zh,zX _ _ x];rw[zu i um];cases bf row[i]<;>simp
  rcases mF (t:=UQ) (Φ:=λr=>r=(.tup [.agg [.int .i64 0,.int .i64 0,.str []],.int .i64 1],[])) 1 (λi=>.h4 C row row (Io row:Int) (i:Int) (p,()) ((0,0,[]),())) (λi=>∀h:i<Io row,bf row[i]=Q3) (Io row) (λi x _=>by
   by_cases s:bf row[i]=Q3
   .exact .inl ⟨λ_=>s,zJ.of (by rw[y i x,ze s])⟩
   .exact .inr ⟨λq=>s (q x),_,zY.of (by rw[y i x,zg s]),rfl⟩)with⟨z,o⟩|⟨z,r,o,rfl⟩
  .have d:∀v∈row,bf v=Q3:=λv y=>by
    obtain⟨i,x,rfl⟩:=fP y;exact z i x x
   rw[zg (by rintro(q|q);exact q c;exact q d)];by_cases n:(getD row (toNat (de p C)) (zi zf)).1=0
   .rw[ze n];have e0:((getD row (toNat (de p C)) (zi zf)).1==0)=Q3:=by simpa using n
    refine zA x (o.ends (zY.of (r:=(.tup [.agg [.int .i64 0,.int .i64 0,.str []],.int .i64 6],[])) ?_)) ow rfl;simp only[UQ,Q8,zG,zn,aX,E,F,e0,zE,zh,zm]
   .rw[zg n];have e0:((getD row (toNat (de p C)) (zi zf)).1==0)=Q4:=by simpa using n
    refine zA x (o.ends (zY.of (r:=(.tup [.agg [.int .i64 (getD row (toNat (de p C)) (zi zf)).1,.int .i64 (getD row (toNat (de p C)) (zi zf)).2.1,.str (getD row (toNat (de p C)) (zi zf)).2.2],.int .i64 0],[])) ?_)) ow rfl;simp only[UQ,Q8,zG,zn,aX,E,F,e0,zE,zh,zm]
  .rw[ze (.inr λq=>z λi x _=>q _ (bp x))];exact zA x o ow rfl
 .rw[ze (.inl c)];have e:((Io row:Int)!=((Io (getD C 0 (zi zk)).1.2.1:Nat):Int))=Q3:=by
   rw[bne_iff_ne];exact λq=>c (by exact_mod_cast q)
  refine zP (r:=(.tup [.agg [.int .i64 0,.int .i64 0,.str []],.int .i64 1],[])) ?_ rfl;simp only[zc1,zn,aX,Q8,B,D,j,jc,ax,pT,zh];exact ze e
section
variable {db:List (Sem zk)} {p:Sem aq}
theorem aV.of(h:aV db p){row:zt}(c:Io row<=1000):ztJ p (aa db p) row=Q1 ((ofV p (aa db p) (dL p (aa db p)) row).1,(ofV p (aa db p) (dL p (aa db p)) row).2,()):=by
 have:=zmn (row:=row) h.go h.pc.1 c (λe=>by
  rw[h.pc.2];unfold zK;rw[aE];have x:=h.col.1;have j:=h.col.2;have d:Io row=Io (fh db p).1.2.1:=e;exact⟨zy x,zy ow⟩)
 rwa [h.pc.2]at this
theorem aV.row(h:aV db p){row:zt}(x:row∈(fh db p).2):ofV p (aa db p) (dL p (aa db p)) row=if(getD row (toNat (dL p (aa db p))) (zi zf)).1=0 then((0,0,[]),6)else(getD row (toNat (dL p (aa db p))) (zi zf),0):=by
 unfold ofV;rw[zg];rintro(q|q)
 .exact q (h.inn row x).2
 .exact q (dn (h.rel.fits row x)).2.1
end
inductive H5q where
 |h10 (l6:zR) (i9:zq) (l11:zt) (i13:Int) (i14:Int) (z0:zo [CP.d aq]) (z1:zo [CP.d zk])
theorem KZ:AX=Q1 (Q3,()):=zP (i:=zqQ) (r:=(.bool Q3,[])) rfl rfl
theorem K0:H9=Q3/\N2=Q3:=⟨by unfold H9;rw[KZ];rfl,by unfold N2;rw[KZ];rfl⟩
theorem zmh:st8=U9:=by
 have h:Yi [77,73,71,82,65,84,69,32,71,82,79,85,80,32,117,32,70,82,79,77,32,118,32,66,89,32,114,32,83,85,77,32,100]=Q1 (U9,()):=by kernel_rfl
 have e:Pg=U9:=by unfold Pg zr2;rw[h];rfl
 unfold st8;rw[e];rfl
def dI(l0:List Int)(i:Nat):Int:=(l0.getD i 0).tmod 1099511627776
def gI(l1:List Int)(i:Nat):zp:=if i<Io l1/\0<(l1.getD i 0).tmod 5 then cF ((l1.getD i 0).tmod 5)else zds
def PS(l0 l1:List Int)(i:Nat):zt:=[cF (i:Int),gI l1 i,cF (dI l0 i)]
def jW(l0 l1:List Int)(n:Nat):List zt:=(List.range n).map (PS l0 l1)
def yn(l0 l1:List Int)(n:Nat):Int:=eY Fh ((jW l0 l1 n).filter λr=>(zS 1 r).1!=0)
theorem uN(l0:List Int)(i:Nat):-1099511627776<dI l0 i/\dI l0 i<1099511627776:=by unfold dI;generalize l0.getD i 0=x;have c:=Int.tmod_lt_of_pos x (show(0:Int)<1099511627776 by decide);have h:=Int.tmod_lt_of_pos (-x) (show(0:Int)<1099511627776 by decide);rw[Int.neg_tmod]at h;omega
theorem Nl(l0 l1:List Int)(i:Nat):jW l0 l1 (i+1)=jW l0 l1 i++[PS l0 l1 i]:=by unfold jW;rw[List.range_succ,eC];rfl
variable {c d:List Int}{n:Nat}
theorem zdX{i:Nat}(h:i<n):(jW c d n)[i]?=Q1 (PS c d i):=by unfold jW;rw[du,uu h];rfl
theorem ZO{l0 l1:List Int}(_:∀x∈l1,0<=x/\x<=255)(c:n<=40):dK (jW l0 l1 n):=by
 refine⟨by unfold jW;simpa using c,λi h=>⟨gI l1 i,dI l0 i,(List.getElem_eq_iff h).2 (zdX (by unfold jW at h;simpa using h)),?_,uN l0 i⟩⟩;unfold gI;split
 .rename_i e;refine .inr ⟨((l1.getD i 0).tmod 5).toNat,?_,?_,?_⟩
  .omega
  .have:=Int.tmod_lt_of_pos (l1.getD i 0) (show(0:Int)<5 by decide);omega
  .congr 1;omega
 .exact .inl rfl
theorem zem:∀q:Int,0<=q->q<5->IntKind.u8.wrap q=q:=by intro q h x;simp[IntKind.wrap,IntKind.signed,IntKind.bits];omega
theorem SG(x h:List Int)(i:Nat):yn x h (i+1)=if i<Io h/\0<(h.getD i 0).tmod 5 then yn x h i+dI x i else yn x h i:=by
 unfold yn;rw[Nl,List.filter_append,EQ,List.filter_cons];have c:Fh (PS x h i)=dI x i:=rfl;have d:(zS 1 (PS x h i))=gI h i:=rfl;rw[d];unfold gI;split
 .rw[ze EB];show _+(Fh (PS x h i)+0)=_;rw[c,Int.add_zero]
 .rw[zg (by decide)];show _+0=_;rw[Int.add_zero]
theorem yo{l0 l1:List Int}:∀n:Nat,n<=40->-(1099511627776*(n:Int))<=yn l0 l1 n/\yn l0 l1 n<=1099511627776*(n:Int)
 |0,_=>by unfold yn jW;simp[eY]
 | n+1,c=>by
  have h:=yo (l0:=l0) (l1:=l1) n ow;have x:=uN l0 n;rw[SG];split<;>omega
theorem Z4(h1:∀x∈d,0<=x/\x<=255):A7 c d=Q1 (Q3,()):=by
 obtain⟨N,hN⟩:∃N,N=min (Io c) 40:=⟨_,rfl⟩;have h2:N<=Io c:=by omega
 have C:N<=40:=by omega
 have hs:(i3q c d).val=Q1 (.inl (.h4 c d (yn c d 0) ((0:Nat):Int) ([118],[([110],1,Q3),([114],1,Q4),([100],1,Q4)],0,[],0,0,[],[],jW c d 0,()))):=rfl;have W:=zJ.all (t:=t3q) 1 (λi=>.h4 c d (yn c d i) (i:Int) ([118],[([110],1,Q3),([114],1,Q4),([100],1,Q4)],0,[],0,0,[],[],jW c d i,())) N λi hi=>zJ.of (by
  have j:i<Io c:=by omega
  have v:Q0 (LT.lt (α:=Int) (i:Int) 40)=Q3:=zy ow;have E:(jW c d i).length=i:=by unfold jW;simp
  have T:Γ Δ (Int.tmod (getD c (i:Int).toNat (zi zj)) 1099511627776)=dI c i:=by
   have:=uN c i;have e:Int.tmod (getD c (i:Int).toNat (zi zj)) 1099511627776=dI c i:=rfl;rw[e,dP];omega
  have h6:=yo (l0:=c) (l1:=d) i ow;have h3:=uN c i;have hw:Γ Δ (yn c d i+dI c i)=yn c d i+dI c i:=by rw[dP];omega
  have L:∀r:zt,Q0 ((jW c d i).length+[r].length<=1073741824)=Q3:=λr=>zy (by rw[E];simp;omega)
  rw[SG,Nl];unfold PS gI;by_cases h:i<Io d
  .have hx:=h1 _ (bp h);have ex:getD d (i:Int).toNat (zi (Sh.int IntKind.u8))=d.getD i 0:=rfl;have O:d.getD i 0=d[i]:=by rw[aY,z6 h];rfl
   have m1:0<=(d.getD i 0).tmod 5:=Int.tmod_nonneg _ (by rw[O];exact hx.1);have m2:=Int.tmod_lt_of_pos (d.getD i 0) (show(0:Int)<5 by decide);have w8:IntKind.u8.wrap ((d.getD i 0).tmod 5)=(d.getD i 0).tmod 5:=zem _ m1 m2;have I:Γ Δ ((d.getD i 0).tmod 5)=(d.getD i 0).tmod 5:=by rw[dP];omega
   by_cases A:0<(d.getD i 0).tmod 5
   .have M:Q0 (GT.gt (α:=Int) ((d.getD i 0).tmod 5) 0)=Q3:=zy A;rw[ze ⟨h,A⟩,ze ⟨h,A⟩];simp only[t3q,Q8,zI j,zI h,v,zx j,zx h,T,ex,w8,I,M,hw,L,aw,ee,zh];rw[zu i um];rfl
   .have M:Q0 (GT.gt (α:=Int) ((d.getD i 0).tmod 5) 0)=Q4:=z7 A;rw[zg (λq=>A q.2),zg (λq=>A q.2)];simp only[t3q,Q8,zI j,zI h,v,zx j,zx h,T,ex,w8,I,M,L,aw,ee,zE,zh,zm];rw[zu i um];rfl
  .have dl:Q0 (LT.lt (α:=Int) (i:Int) (Io d:Int))=Q4:=z7 ow;rw[zg (λq=>h q.1),zg (λq=>h q.1)];simp only[t3q,Q8,zI j,dl,v,zx j,T,L,aw,ax,zE,zh,zm];rw[zu i um];rfl)
 have J:=ZO (l0:=c) h1 C;have o:yn c d N=eY Fh ((jW c d N).filter λr=>(zS 1 r).1!=0):=rfl;have h0:=yo (l0:=c) (l1:=d) N C;generalize jW c d N=rows at W J o;generalize yn c d N=S at W o h0;obtain⟨hP,hM⟩:=ET J;obtain⟨n,q1,q2⟩:=VB hP hM;obtain⟨s1,s2,s3,s4⟩:=zd6 J;have z:n.Perm (XH (zS iZ.2.2.2.1.2.2.1) ((cV iZ (aa [(bV,rows)] iZ)).flatMap (fj [(bV,rows)] iZ))):=q1.trans (rz _).symm;have G:=λr Y=>s2 r (z.mem_iff.1 Y)
 rw[<-HP z,<-o]at s3;rw[<-z.length_eq]at s4;rw[s1,zd9]at q2;have b1:VJ iZ [(bV,rows)]=Q3:=by unfold VJ;rw[q2];rfl
 have b2:zjw iZ [(bV,rows)]=((iZ.2.2.2.1,n),0,0):=by unfold zjw;rw[q2];rfl
 have F:=NE J;have p1:xM [(bV,rows)] U9=Q3:=by unfold xM;rw[F];rfl
 have p2:Ds [(bV,rows)] U9=(iZ,[(bV,rows)],Q3):=by unfold Ds;rw[F];rfl
 have f1:zJ t3q 1 (.h4 c d S (N:Int) ([118],[([110],1,Q3),([114],1,Q4),([100],1,Q4)],0,[],0,0,[],[],rows,())) (.h18 S 0 0 (eY (λr=>(zS 1 r).2.1) (n.take 0)) ((0:Nat):Int) ((iZ.2.2.2.1,n),())):=zJ.of (by
  have c0:(bif Q0 (LT.lt (α:=Int) (N:Int) (Io c:Int))then Q0 (LT.lt (α:=Int) (N:Int) 40)else Q4)=Q4:=by
   by_cases hc:N<Io c
   .rw[zI hc,aw];exact z7 ow
   .have:Q0 (LT.lt (α:=Int) (N:Int) (Io c:Int))=Q4:=z7 ow;rw[this,ax]
  have et:([(([118],[([110],1,Q3),([114],1,Q4),([100],1,Q4)],0,[],[],za.mk [] (0,0,[]) [] []),rows)]:zR)=[(bV,rows)]:=rfl;simp only[t3q,Q8,zn,aX,c0,zmh,et,p1,p2,b1,b2,cm,zE,zh,zm];rfl)
 have f2:=zJ.all (t:=t3q) 1 (λk=>.h18 S 0 0 (eY (λr=>(zS 1 r).2.1) (n.take k)) (k:Int) ((iZ.2.2.2.1,n),())) (Io n) λk D=>zJ.of (by
  obtain⟨x,s,e,hb⟩:=G _ (bp D);have y:=ug (f:=λr:zt=>(zS 1 r).2.1) (B:=43980465111041) (n.take k) (λr Y=>by
   obtain⟨x,s,e,hb⟩:=G r (List.mem_of_mem_take Y);rw[e];exact hb) (by decide)
  have X:(n.take k).length=k:=by rw[B2];omega
  rw[X]at y;have Z:eY (λr:zt=>(zS 1 r).2.1) (n.take (k+1))=eY (λr:zt=>(zS 1 r).2.1) (n.take k)+s:=by
   rw[bv D,EQ,e];show _+(s+0)=_;rw[Int.add_zero]
  have hw:Γ Δ (eY (λr:zt=>(zS 1 r).2.1) (n.take k)+s)=eY (λr:zt=>(zS 1 r).2.1) (n.take k)+s:=by
   have h5:k<=40:=by omega
   rw[dP];omega
  rw[Z];have n1:((([cF (x:Int),cF s]:zt).length:Int)!=2)=Q4:=rfl;have n2:zK 1 ([cF (x:Int),cF s]:zt).length=Q3:=rfl;have n3:getD ([cF (x:Int),cF s]:zt) (toNat 1) (zi zf)=cF s:=rfl;have n4:((cF s).1!=1)=Q4:=rfl;have n5:(cF s).2.1=s:=rfl;simp only[t3q,Q8,zI D,zx D,zX _ _ D,e,n1,n2,n3,n4,n5,hw,ax,pT,zE,zh,zm];rw[zu k um])
 rw[fQ,s3]at f2;refine zA hs (((W.trans f1).trans f2).ends (zY.of (r:=(.bool Q3,[])) ?_)) ow rfl;simp only[t3q,Q8,zG,BEq.rfl,K0.1,K0.2,aw,zE,zh,zm]
open Go Go.RowKit Go.ChangeShapes
variable {W:World}
theorem IN{d:World}(j:d.os=W.os)(x:d.output=W.output)(h:∀b,b<W.heap.size->d.heap[b]?=W.heap[b]?)(n:MemPlace->Prop):W.keptBut d n:=by
 refine⟨j,x,λi q=>?_⟩;rw[h i q];cases W.heap[i]? with
 |none=>rfl
 | some o=>
  cases o with
  |cells c t v=>exact⟨rfl,rfl,rfl,λ_ _=>rfl⟩
  |map s e=>exact .inr ⟨rfl,rfl⟩
  |_=>rfl
section
variable {H:Type} {enc:TypeId×Value->H} {P:Program}
variable {W:World}{v:Value}
theorem MH{f:Func}{q:ChangeSpec}{A c z:Bool}{y:World}{x:Array Value}{E F:List (DataW H)}{h pa pv:List MemPlace}
  (I:DataW.Whole enc P f.params.toList q.vars Q4 W x.toList E F h)
  (s:∀(b:Nat)(D:Nat->Bool)(O:Bool),DataW.TrodAll enc P y b D O f.resultTypes.toList (v.resultList f.resultTypes.size) (q.fn H (E++F)).results [])
  (d:∀D:Nat->Bool,(∀p∈h,D p.block=Q3)->DataW.TrodAll enc P y 0 D Q3 f.params.toList x.toList (q.fn H (E++F)).args pa)
  (e:∀D:Nat->Bool,(∀p∈h,D p.block=Q3)->DataW.TrodVars enc P y D q.vars (q.fn H (E++F)).vars pv)
  (B:h=pa++pv) (S:W.keptBut y (·∈h)) (J:∀a:Addr,a.block<W.heap.size->y.frozen? a=W.frozen? a)
  (M:∀(j:Nat)(t:TypeId)(r:Value),f.resultTypes[j]?=Q1 t->(v.resultList f.resultTypes.size)[j]?=Q1 r->Value.okWide P y .any 0 t r):
  q.post enc P f Q4 A c z W x v y:=by
 have o:∀p∈h,(λb=>Q0 (b<W.heap.size)) p.block=Q3:=λp n=>by simpa using I.lt p n
 have L:=I.lt;refine⟨E,F,h,[],pa,pv,I,s _ _ _,d _ o,e _ o,World.keptBut_mono (λp n=>⟨n,?_⟩) S,λ_=>?_⟩
 .rw[B,cz]at n;exact Or.inr n
 .obtain⟨_,_,_,_,_,T,X⟩:=I;refine⟨M,_,_,([]++pa)++pv,⟨[]++pa,pv,trodAll_append (d _ (λ_ _=>rfl)) (s _ _ _),e _ (λ_ _=>rfl),rfl,?_,?_⟩,?_⟩
  .intro b C n;have G:MemPlace.cell b C∈h:=by rw[B];simpa using n
   rw[J ⟨b,C,none⟩ (L _ G)];exact T b C G
  .intro N;cases N
  .intro p n _;rw[B];simpa using n
variable {r:Go.Reach}{b:Nat}{t:TypeId}{j:Array Field}
theorem Uq(x:P.underlying t=Q1 (.struct j))(h:Value.okWide P W r b t v):∃c,v=.agg c:=by unfold Value.okWide at h;rw[x]at h;obtain⟨c,rfl,_⟩:=h;exact⟨c,rfl⟩
variable {e:TypeId}
theorem YS(x:P.underlying t=Q1 (.slice e))(h:Value.okWide P W r b t v):∃a n c,v=.slice a n c:=by
 unfold Value.okWide at h;rw[x]at h;simp only at h;unfold Cell.okWide at h;rw[x]at h;unfold Cell.ok at h;rw[x]at h;cases v<;>simp at h
 exact⟨_,_,_,rfl⟩
variable {k:IntKind}
theorem zlE(x:P.underlying t=Q1 (.int k))(h:Value.okWide P W r b t v):∃n,v=.int k n:=by
 unfold Value.okWide at h;rw[x]at h;simp only at h;unfold Cell.okWide at h;rw[x]at h;unfold Cell.ok at h;rw[x]at h;cases v<;>simp at h
 exact⟨_,by rw[h.1]⟩
variable {n:Nat}{d:DataW H}{z:List MemPlace}
theorem O0{s:Sh}(e:Qo P n t s=Q3)(q:s.isAgg=Q3)(y:P.underlying t=Q1 (.struct j))(c:Value.okWide P W r b t v)
  (h:DataW.Trod enc P W 0 (λ_=>Q3) Q3 t v d z):∃x:Sem s,Rv W U0 jz (zL s x) v:=by refine AW e h ⟨λ_=>q,λ_=>Uq y c⟩ (λo=>?_);rw[q]at o;cases o
theorem T2{s:Sh}(q:Qo P n t (.sl s)=Q3)(y:P.underlying t=Q1 (.slice e))(o:Value.okWide P W r b t v)
  (h:DataW.Trod enc P W 0 (λ_=>Q3) Q3 t v d z):∃x:List (Sem s),Rv W U0 jz (.sl s x) v:=by obtain⟨a,m,c,rfl⟩:=YS y o;exact AW (s:=.sl s) q h ⟨(λ⟨_,j⟩=>(by cases j)),(λj=>(by cases j))⟩ (λ_=>rfl)
theorem zcU{q:List MemPlace}(j:Qo P n t (.int k)=Q3)(o:P.underlying t=Q1 (.int k))(e:Value.okWide P W r b t v)
  (h:DataW.Trod enc P W 0 (λ_=>Q3) Q3 t v d q):∃x:Int,Rv W U0 jz (.int k x) v:=by obtain⟨m,rfl⟩:=zlE o e;exact AW (s:=.int k) j h ⟨(λ⟨_,c⟩=>(by cases c)),(λc=>(by cases c))⟩ (λ_=>rfl)
theorem Og{o:Nat->AV}{k:FuncId}{F:z8}(q:ol P o k F){iY:List AV}{args:Array Value}(c:BO o W U0)(t:dg W U0 jz iY args.toList)(y:(F iY (λ_=>.dead) 0).val=Q1 {val:=.bool Q3})(d:AV.idsL iY=[]):
  Calls P k args W λe n=>e=.returned (.bool Q3)/\kF W n/\∀b,b<W.heap.size->n.heap[b]?=W.heap[b]?:=by have:=(q.calls W U0 jz (λ_=>.dead) 0 iY args.toList _ [] y t (λ_ h=>h.elim) c ⟨sw,sw⟩ (by rw[d];simp) sw sw).1;rw[show args.toList.toArray=args by simp]at this;refine this.mono ?_;rintro e A ⟨v,z,B,rfl,x⟩;have j:=x.val;cases j;exact⟨rfl,x.ext,λb s=>x.same b s sw⟩
end
open Go Go.Proofs Go.RowKit Go.ChangeShapes Go.WideShapes Go.ChangeAt Go.Proofs.YtjdjldbhjmgmkaaGreatDoor
theorem Ml{P:Program}{w:World}:∀{l:List (String×DataW Unit)}{o:List MemPlace},DataW.LaidVars P w l o->∀n d,(n,d)∈l->
  ∃g t c x p,P.globalNamed n=Q1 g/\(P.globals[g]?).map (·.type)=Q1 t/\w.var? P n=Q1 c/\DataW.trod (λ_=>()) P w 0 (λ_=>Q3) Q4 x t c.toList=Q1 (d,p)
 |[],_,_,_,_,h=>by simp at h
 | (n0,B)::r,o,h,n,d,j=>by
  obtain⟨g,t,c,x,p,q,s,v,y,z,A,_⟩:=h;rcases b8.1 j with e|j
  .cases e;exact⟨g,t,c,x,p,s,v,y,z⟩
  .exact Ml A n d j
variable {P:Program}{l:List (String×DataW Unit)}{w:World}
theorem IT(d:(l.filter λx=>x.2.handleName?.isSome).isEmpty=Q3)(h:laidMetH P l w):laidMet P l w:=by
 unfold laidMetH at h;split at h
 .exact h
 next a b c=>rw[c]at d;simp at d
variable {H:Type}{s:Nat->Bool}{t:TypeId}{e:List Value}{p:List MemPlace}
theorem qQ{enc:TypeId×Value->H}{c:Nat}{d:Bool}(o:P.underlying t=Q1 .string){b:List UInt8}
  (h:DataW.trod enc P w c s d n t e=Q1 (.lit (.string b),p)):e=[.string ⟨b.toArray⟩]:=by
 cases n with
 |zero=>simp[DataW.trod]at h
 | succ n=>
  unfold DataW.trod at h;rw[o]at h;split at h
  all_goals first
   |(rename_i j;cases j;done)
   |(rename_i j _;cases j;done)
   |(simp at h;done)
   |skip
  rename_i x j;split at h
  .simp only[bg,cd,DataW.lit.injEq,Lit.string.injEq]at h;rw[<-h.1]
  .cases h
theorem zah{enc:TypeId×Value->H}{x:Nat}{c:Bool}(j:P.underlying t=Q1 (.int .u64)){B:Int}
  (h:DataW.trod enc P w x s c n t e=Q1 (.lit (.int .u64 B),p)):e=[.int .u64 B]:=by
 cases n with
 |zero=>simp[DataW.trod]at h
 | succ n=>
  unfold DataW.trod at h;rw[j]at h;split at h
  all_goals first
   |(rename_i d;cases d;done)
   |(rename_i d _;cases d;done)
   |(simp at h;done)
   |skip
  all_goals(try split at h)
  all_goals first
   |(cases h;done)
   |(simp at h;done)
   |skip
  all_goals simp_all
theorem F4(h:laidMet Tryz.prog l W){n:String}{g:Nat}{e:TypeId}{len:Nat}{E:List (DataW Unit)}(S:(n,DataW.agg E)∈l)
  (I:Tryz.prog.globalNamed n=Q1 g) (Y:(Tryz.prog.globals[g]?).map (·.type)=Q1 t) (Z:Tryz.prog.underlying t=Q1 (.array len e)) (M:Tryz.prog.cellsOf e=1):
  ∃v T q,W.heap[g]?=Q1 (.cells v T q)/\∀(j:Nat) d,E[j]?=Q1 d->∃x p,DataW.trod (λ_=>()) Tryz.prog W 0 (λ_=>Q3) Q4 x e ((v.toList.drop j).take 1)=Q1 (d,p):=by
 obtain⟨ps,L,_,_⟩:=h;obtain⟨g',t',v,x,p,F,G,s,o⟩:=Ml L n _ S;rw[I]at F;cases F;rw[Y]at G;cases G;have B:∃T q,W.heap[g]?=Q1 (.cells v T q):=by
  unfold World.var? at s;rw[I]at s;simp only[Option.bind_some]at s;split at s
  next c T q N=>cases s;exact⟨T,q,N⟩
  .cases s
 obtain⟨T,q,y⟩:=B;refine⟨v,T,q,y,?_⟩;cases x with
 |zero=>simp[DataW.trod]at o
 | succ x=>
  unfold DataW.trod at o;rw[Z]at o;simp only at o;split at o
  .rw[dt]at o;obtain⟨xs,D,J⟩:=o;simp only[cd,DataW.agg.injEq]at J;obtain⟨O,C⟩:=Dx D;intro j d z;rw[<-J.1,du,dt]at z;obtain⟨⟨d',p'⟩,z,rfl⟩:=z;have A:j<Io xs:=(dc.1 z).1;have X:(List.range len)[j]?=Q1 j:=by
    rw[uu];rw[O,List.length_range]at A;exact A
   have:=C j j X;rw[z,M,Nat.mul_one]at this;exact⟨x,p',this⟩
  .cases o
variable {v:Value}
theorem SN{c:Array Value}{j:Nat}(h:(c.toList.drop j).take 1=[v]):c[j]?=Q1 v:=by have:=congrArg (·[0]?) h;simp only[List.getElem?_take,BY]at this;simpa using this
theorem gl0(h:laidMet Tryz.prog l W)(C:("caddis/stmt.types",Rows.laid_caddis_stmt_types)∈l):Rv W U0 jz (.eptr [.str [73,78,84],.str [84,69,88,84],.str [66,79,79,76]] 0) (.pointer (Q1 ⟨1,0,none⟩)):=by
 obtain⟨v,T,F,B,o⟩:=F4 h (g:=1) (t:=347) (e:=9) (len:=3) C kw kw kw kw;have n:Tryz.prog.underlying 9=Q1 .string:=by kernel_rfl
 have x:∀j,W.cell? ⟨1,j,none⟩=v[j]?:=by
  intro j;unfold World.cell?;rw[B];rfl
 obtain⟨_,_,y⟩:=o 0 _ rfl;obtain⟨_,_,z⟩:=o 1 _ rfl;obtain⟨_,_,A⟩:=o 2 _ rfl;have s:=SN (qQ n y);have D:=SN (qQ n z);have E:=SN (qQ n A);refine .eptr [.str [73,78,84],.str [84,69,88,84],.str [66,79,79,76]] 0 1 0 (λj=>match j with
  |0=>.string ⟨#[73,78,84]⟩
  |1=>.string ⟨#[84,69,88,84]⟩
  |_=>.string ⟨#[66,79,79,76]⟩) (uE (by rw[x];exact s)) (λh=>h) ?_ ?_ ?_
 .intro j q
  match j,q with
  |0,_=>rw[x];exact s
  |1,_=>rw[x];exact D
  |2,_=>rw[x];exact E
 .intro j q
  match j,q with
  |0,_=>rfl
  |1,_=>rfl
  |2,_=>rfl
 .intro j c d
  match j,d with
  |0,d=>simp at d;subst d;exact .str [73,78,84] (by simp[aI])
  |1,d=>simp at d;subst d;exact .str [84,69,88,84] (by simp[aI])
  |2,d=>simp at d;subst d;exact .str [66,79,79,76] (by simp[aI])
  |j+3,d=>simp at d
set_option maxRecDepth 100000 in
theorem gl2(h:W.ShapedOpen Tryz.prog):Rv W U0 jz .gint (.pointer (Q1 ⟨0,0,none⟩)):=by
 have q:((begin Tryz.prog (λ_ _=>0) default).world.heap[0]?).bind Obj.row?=Q1 (#[.int .i64 0],3):=by kernel_rfl
 obtain⟨c,v,B,A⟩:=h.1 0 _ _ (mi kw) q;obtain⟨F,e,_,d⟩:=A kw;have t:Tryz.prog.cellTypes Tryz.prog.depth 3=Q1 [3]:=by kernel_rfl
 rw[t]at e;cases e;have s:c.size=1:=B;obtain⟨u,C,x⟩:=d 0 c[0] sw;have:u=3:=by simpa using C.symm
 subst this;have y:Tryz.prog.underlying 3=Q1 (.int .i64):=by kernel_rfl
 unfold Cell.ok at x;rw[y]at x;have j:c=#[c[0]]:=by
  apply Array.ext
  .simp[s]
  .intro i D E;have:i=0:=by omega
   subst this;rfl
 cases o:c[0]<;>rw[o]at x<;>simp at x
 rename_i k n;obtain⟨rfl,z⟩:=x;refine .gint n 0 3 (0,0) z ?_ (λh=>h);rw[v,j,o]
theorem gl5(h:laidMet Tryz.prog l W)(J:W.ShapedOpen Tryz.prog)(I:("internal/strconv.uint64pow10",Rows.laid_internal_strconv_uint64pow10)∈l):Rv W U0 jz (.tab .u64 mJ) (.pointer (Q1 ⟨5,0,none⟩)):=by
 obtain⟨c,T,B,y,F⟩:=F4 h (g:=5) (t:=391) (e:=268) (len:=20) I kw kw kw kw;have L:Tryz.prog.underlying 268=Q1 (.int .u64):=by kernel_rfl
 have C:((begin Tryz.prog (λ_ _=>0) default).world.heap[5]?).bind Obj.row?=Q1 (Array.replicate 20 (.int .u64 0),391):=by kernel_rfl
 obtain⟨d,q,s,_⟩:=J.1 5 _ _ (mi kw) C;rw[y]at q;have n:c=d:=by simp only[bg,Obj.cells.injEq]at q;exact q.1
 have x:c.size=20:=by rw[n,s];simp
 have v:c=(mJ.map λz=>Value.int .u64 z).toArray:=by
  apply Array.ext
  .rw[x];rfl
  .intro i D E;have o:∀(j:Nat) z,mJ[j]?=Q1 z->c[j]?=Q1 (.int .u64 z):=by
    intro j z M;obtain⟨_,_,g⟩:=F j (.lit (.int .u64 z)) (by
     have:(match(Rows.laid_internal_strconv_uint64pow10:DataW Unit)with|.agg l=>l|_=>[])=mJ.map λz=>DataW.lit (.int .u64 z):=by kernel_rfl
     have A:(match(Rows.laid_internal_strconv_uint64pow10:DataW Unit)with|.agg l=>l|_=>[])[j]?=Q1 (.lit (.int .u64 z)):=by
      rw[this,du,M];rfl
     exact A)
    exact SN (zah L g)
   have G:i<Io mJ:=by simpa using E
   have:=o i mJ[i] (z6 G);rw[pD D,bg]at this;rw[this,List.getElem_toArray,List.getElem_map]
 exact .tab .u64 mJ 5 T B (by rw[y,v]) (λh=>h)
theorem Yj:laidOutB Tryz.prog=Q3:=kw
def xG(P:Program)(t:TypeId):Bool:=match P.underlying t with
 |some (.struct _)=>Q3
 |_=>Q4
theorem IM(h:xG P t=Q3):∃x,P.underlying t=Q1 (.struct x):=by
 unfold xG at h;split at h
 .exact⟨_,‹_›⟩
 .cases h
theorem un4:Tryz.prog.underlying 4=Q1 .bool:=kw
theorem ztz{enc:TypeId×Value->H}{n:World}(x:∀b,b<W.heap.size->n.heap[b]?=W.heap[b]?){d:DataW H}{e:List MemPlace}(y:Tryz.prog.readableRec t=Q3)(c:t<Tryz.prog.types.size)
  (h:DataW.Trod enc Tryz.prog W 0 (λ_=>Q3) Q3 t v d e) (j:∀p∈e,p.block<W.heap.size)  (z:∀p∈e,s p.block=Q3):DataW.Trod enc Tryz.prog n 0 s Q3 t v d e:=
 WideElems.Trod_stays Yj y c h (λp q=>by
  have o:=x p.block (j p q);cases p with
  |cell b A=>exact World.cell?_of_block o
  |map b=>exact o) z
theorem zcQ(h:laidMet Tryz.prog l W)(x:W.ShapedOpen Tryz.prog)(c:("caddis/stmt.types",Rows.laid_caddis_stmt_types)∈l)(d:("internal/strconv.uint64pow10",Rows.laid_internal_strconv_uint64pow10)∈l):BO TZ W U0:=by
 intro g
 match g with
 |0=>exact gl2 x
 |1=>exact gl0 h c
 |2=>exact .any _
 |3=>exact .any _
 |4=>exact .any _
 |5=>exact gl5 h x d
 |g+6=>exact .any _
theorem Up{r:Go.Reach}{b:Nat}(x:P.underlying t=Q1 .string)(h:Value.okWide P W r b t v):∃n,v=.string n:=by
 unfold Value.okWide at h;rw[x]at h;simp only at h;unfold Cell.okWide at h;rw[x]at h;unfold Cell.ok at h;rw[x]at h;cases v<;>simp at h
 exact⟨_,rfl⟩
structure BU (t:TypeId) (s:Sh):Prop where
 got:∀{H:Type}{enc:TypeId×Value->H}{W:World}{r:Go.Reach}{b:Nat}{v:Value}{d:DataW H}{ps:List MemPlace},Value.okWide Tryz.prog W r b t v->DataW.Trod enc Tryz.prog W 0 (λ_=>Q3) Q3 t v d ps->∃x:Sem s,Rv W U0 jz (zL s x) v
 rd:Tryz.prog.readableRec t=Q3
 row:t<Tryz.prog.types.size
set_option maxRecDepth 100000 in
theorem BU.struct{s:Sh}(c:Qo Tryz.prog n t s=Q3)(e:s.isAgg=Q3)(j:xG Tryz.prog t=Q3)(q:Tryz.prog.readableRec t=Q3)(d:t<Tryz.prog.types.size):BU t s where
 got:=λx h=>by
  obtain⟨v,o⟩:=IM j;exact O0 c e o x h
 rd:=q
 row:=d
set_option maxRecDepth 100000 in
theorem BU.slice{e:TypeId}{s:Sh}(c:Qo Tryz.prog n t (.sl s)=Q3)(j:Tryz.prog.underlying t=Q1 (.slice e))(o:Tryz.prog.readableRec t=Q3)(d:t<Tryz.prog.types.size):BU t (.sl s) where
 got:=λx h=>T2 c j x h
 rd:=o
 row:=d
set_option maxRecDepth 100000 in
theorem BU.int{k:IntKind}(c:Qo Tryz.prog n t (.int k)=Q3)(d:Tryz.prog.underlying t=Q1 (.int k))(e:Tryz.prog.readableRec t=Q3)(row:t<Tryz.prog.types.size):BU t (.int k) where
 got:=λx h=>zcU c d x h
 rd:=e
 row:=row
set_option maxRecDepth 100000 in
theorem BU.str(d:Qo Tryz.prog n t .str=Q3)(e:Tryz.prog.underlying t=Q1 .string)(j:Tryz.prog.readableRec t=Q3)(row:t<Tryz.prog.types.size):BU t .str where
 got:=λc h=>by
  obtain⟨m,rfl⟩:=Up e c;exact AW (s:=.str) d h ⟨(λ⟨_,x⟩=>(by cases x)),(λx=>(by cases x))⟩ (λ_=>rfl)
 rd:=j
 row:=row
inductive NZ:List TypeId->List Sh->Prop
 |nil:NZ [] []
 |cons {t:TypeId} {s:Sh} {ts:List TypeId} {ss:List Sh} (h:BU t s) (r:NZ ts ss):NZ (t::ts) (s::ss)
variable {o:List TypeId}{y:List Sh}
set_option maxRecDepth 100000 in
theorem NZ.got(h:NZ o y):∀{H:Type}{enc:TypeId×Value->H}{W:World}{base:Nat}{C:List Value}{D:List (DataW H)}{E:List MemPlace},
  (∀(j:Nat) t v,o[j]?=Q1 t->C[j]?=Q1 v->Value.okWide Tryz.prog W .any base t v)->DataW.TrodAll enc Tryz.prog W 0 (λ_=>Q3) Q3 o C D E->
  D.length=Io o/\(∃x:zD (y.map Q1),dg W U0 jz (iY (y.map Q1) x) C)/\
  ∀L,(∀b,b<W.heap.size->L.heap[b]?=W.heap[b]?)->(∀p∈E,p.block<W.heap.size)->∀M:Nat->Bool,(∀p∈E,M p.block=Q3)->DataW.TrodAll enc Tryz.prog L 0 M Q3 o C D E:=by
 induction h with
 | nil=>
  intro H enc W base C D E _ N;obtain⟨rfl,rfl,rfl⟩:=trodAll_nil N;exact⟨rfl,⟨(),rfl,λj c v z=>by
   have X:([]:List AV)[j]?=Q1 c:=z;simp at X⟩,λ_ _ _ _ _=>trodAll_mk0⟩
 | @cons t s o y h r T=>
  intro H enc W base C D E G N;obtain⟨v,C,d,D,p,q,rfl,rfl,rfl,O,B⟩:=trodAll_cons N;obtain⟨x,hx⟩:=h.got (G 0 t v rfl rfl) O;obtain⟨Z,⟨e,S⟩,Y⟩:=T (λj t v ht J=>G (j+1) t v ht J) B;refine⟨by simp[Z],⟨(x,e),by show(zL s x::iY (y.map Q1) e).length=_;simp[S.len],λj c v' z J=>?_⟩,λL n F M I=>?_⟩
  .have z:(zL s x::iY (y.map Q1) e)[j]?=Q1 c:=z;cases j with
   | zero=>
    simp only[List.getElem?_cons_zero,bg]at z J;subst z;subst J;exact hx
   |succ j=>exact S.rv j c v' z J
  .exact trodAll_cons_mk (ztz n h.rd h.row O (λp A=>F p (by simp[A])) (λp A=>I p (by simp[A]))) (Y L n (λp A=>F p (by simp[A])) M (λp A=>I p (by simp[A])))
theorem QO:∀(d:List Sh)(x:zD (d.map Q1)),AV.idsL (iY (d.map Q1) x)=[]
 |[],_=>rfl
 | s::d,x=>by
  show(zL s x.1).ids++AV.idsL (iY (d.map Q1) x.2)=[];rw[QO d x.2,pR];unfold zL;have o:∀l:List AV,(∀c∈l,c.ids=[])->AV.idsL l=[]:=by
   intro l
   induction l with
   |nil=>intro _;rfl
   |cons c l v=>intro h;simp only[AV.idsL,h c sw,v λc e=>h c (by simp[e]),pR]
  have n:∀c∈zz s x.1,c.ids=[]:=λc e=>by
   obtain⟨j,t,rfl⟩:=fP e;exact mq s x.1 j _ (z6 t)
  cases s.isAgg with
  |true=>exact o _ n
  | false=>
   cases q:zz s x.1 with
   |nil=>rfl
   |cons c l=>exact n c (by rw[q];simp)
set_option maxRecDepth 100000 in
theorem Tt{k:FuncId}{f:Func}{s:ChangeSpec}{F:z8}(hF:ol Tryz.prog TZ k F)(c:f.params=o.toArray)(E:NZ o y)(G:f.resultTypes=#[4])(n:s.vars=[])
  (M:∀(H:Type)(A:List (DataW H)),Io A=Io o->s.fn H A={results:=[.lit (.bool Q3)],args:=A})
   {enc:TypeId×Value->H}  {B:Nat} {args:Array Value} {A gs:List (DataW H)} {z:List MemPlace}
  (T:∀x:zD (y.map Q1),dg W U0 jz (iY (y.map Q1) x) args.toList->(F (iY (y.map Q1) x) (λ_=>.dead) 0).val=Q1 {val:=.bool Q3})
  (I:∀(j:Nat) t v,f.params[j]?=Q1 t->args[j]?=Q1 v->Value.okWide Tryz.prog W .any B t v)
  (Z:DataW.Whole enc Tryz.prog f.params.toList s.vars Q4 W args.toList A gs z) (N:BO TZ W U0):
  Calls Tryz.prog k args W λe J=>∃v,e=.returned v/\s.post enc Tryz.prog f Q4 Q3 Q4 Q4 W args v J:=by
 have D:=Z;obtain⟨p,q,L,Y,rfl,h0,h1⟩:=Z;have X:DataW.TrodAll enc Tryz.prog W 0 (λ_=>Q3) Q3 f.params.toList args.toList A p:=L;rw[c]at X;rw[n]at Y;obtain⟨rfl,rfl⟩:=trodVars_none Y;have O:=D.lt;obtain⟨hl,⟨x,hx⟩,hk⟩:=E.got (base:=B) (λj t v ht T=>I j t v (by rw[c];simpa using ht) (by simpa using T)) X;have hc:=Og hF (args:=args) N hx (T x hx) (QO y x);refine hc.mono λe' J ⟨he,h,d⟩=>?_
 subst he;have C:s.fn H (A++[])={results:=[.lit (.bool Q3)],args:=A}:=by rw[pR];exact M H A hl
 refine⟨_,rfl,MH (pa:=p) (pv:=[]) D (λ_ _ _=>?_) (λsp S=>?_) (λ_ _=>?_) sw (IN h.os h.out d _) h.fr (ok_one G rfl (okWide_bool_mk un4 _))⟩
 .rw[C,G];exact trodAll_cons_mk (shut_bool un4 _) trodAll_mk0
 .rw[C,c];exact hk J d (λp E=>O p (by simpa using E)) sp (λp E=>S p (by simpa using E))
 .rw[C,n];rfl
open Go Go.Proofs Go.RowKit Go.ChangeShapes Go.WideShapes Go.ChangeAt
section
variable {w:World} {U:Nat->Prop} {ρ:Nat->Option Value}
def zjm(w:World)(U:Nat->Prop)(ρ:Nat->Option Value)(l:List AV):Prop:=∀(j:Nat)(c:AV),l[j]?=Q1 c->∃v,Rv w U ρ c v
variable {v:Value}
theorem XD{B:Int}(h:Rv w U ρ (.int .i64 B) v):-9223372036854775808<=B/\B<=9223372036854775807:=by
 cases h with
 |int _ _ h=>simpa[cZ,IntKind.min,IntKind.max,IntKind.signed,IntKind.bits]using h
theorem SF{e:Sh}{l:List (Sem e)}(h:Rv w U ρ (.sl e l) v):∀x∈l,zjm w U ρ (zz e x):=by
 intro x n;cases h with
 |sl0=>simp at n
 | sl _ _ _ _ _ o z A y t d s=>
  obtain⟨i,q,rfl⟩:=fP n;exact λj c h=>⟨_,s i q j c h⟩
mutual
theorem zkt:∀(e:za),zjm w U ρ (zz .expr e)->RgE e
 | .mk o v s l,h=>by
  rw[RgE];obtain⟨_,c⟩:=h 2 _ rfl;obtain⟨_,d⟩:=h 5 _ rfl;exact⟨XD c,Rt l λx j=>SF d x j⟩
theorem Rt:∀(l:List za),(∀x∈l,zjm w U ρ (zz .expr x))->H3 l
 |[],_=>by rw[H3];trivial
 |x::r,h=>by rw[H3];exact⟨zkt x (h x sw),Rt r λy c=>h y (by simp[c])⟩
end
end
theorem Z5(x:zD ([.sl zj,.sl (.int .u8)].map Q1))(j:dg W U0 jz (iY ([.sl zj,.sl (.int .u8)].map Q1) x) e):(F3q (iY ([.sl zj,.sl (.int .u8)].map Q1) x) (λ_=>.dead) 0).val=Q1 {val:=.bool Q3}:=by
 obtain⟨d,c,u⟩:=x;have j:dg W U0 jz [.sl zj d,.sl (.int .u8) c] e:=j;have s:∀n∈(c:List Int),0<=n/\n<=255:=λn q=>by
  have o:=j.len;obtain⟨v,t⟩:∃v,e[1]?=Q1 v:=⟨e[1]'(by rw[<-o];simp),z6 _⟩;obtain⟨y,z⟩:=SF (j.rv 1 _ v rfl t) n q 0 (.int .u8 n) rfl;cases z with
  |int _ _ h=>exact h
 have h:(F3q [.sl zj d,.sl (.int .u8) c] (λ_=>.dead) 0).val=(chk (A7 d c).isSome (Tr.ok ({val:=.bool ((A7 d c).getD (cA [.bool])).1}:fM))).val:=by kernel_rfl
 show(F3q [.sl zj d,.sl (.int .u8) c] (λ_=>.dead) 0).val=_;rw[h,Z4 s];rfl
end
end Cad
