/- The document's types and values of expressions are the progr. -/
import Derived.Test.YtjdjldbhjmgmkaaGreatDoorM18
namespace Cad
open Go Go.Proofs
open List renaming length->Io,length->X
open IntKind renaming wrap->Γ,i64->Δ
open Tr renaming val->Q8
open Bool renaming true->Q3,true->O,false->S
open Option renaming none->Q2,some->M
open Decidable renaming decide->N
open Int renaming toNat->Z
open List renaming getD->Y
open Tr (chk br re)
open AV (nils agg tup ptr kb str sl)
open Cad renaming ow->W,ai->L,zi->Q,ze->K
set_option maxHeartbeats 4000000
theorem oI{α:Type}{p:α->Bool}{d:α}:∀(l:List α)(k i:Nat),i<X l->p (l.getD i d)=O->(∀j,j<i->p (l.getD j d)=S)->aj p l k=((k+i:Nat):Int)
 |[],_,_,h,_,_=>by simp at h
 | x::r,k,0,_,hp,_=>by
  rw[aj,zf (by simpa using hp)];rfl
 | x::r,k,i+1,h,hp,hj=>by
  have b:=hj 0 W;rw[aj,zh (by simp_all),oI r (k+1) i (by simpa using h) (by simpa using hp) (λj a=>by simpa using hj (j+1) W)];congr 1;omega
theorem oJ{α:Type}{p:α->Bool}{d:α}:∀(l:List α)(k:Nat),(∀j,j<X l->p (l.getD j d)=S)->aj p l k=-1
 |[],_,_=>rfl
 | x::r,k,hj=>by
  have a:=hj 0 sw;rw[aj,zh (by simp_all)];exact oJ (d:=d) r (k+1) (λj h=>by simpa using hj (j+1) (by simpa using h))
variable {c:aV}{s:zK}
theorem FS(g:X c<=1000000):FR c s=M (aO c s,()):=by
 have e:=nG (t:=zbW) (Φ:=λr=>r=(L (aO c s),[])) 1 (λi=>.h2 c s (i:Int)) (λi=>((Y c i (Q zn)).1==s)=S) (X c) (by
  grind[Q8,zbW,Sn,Mk,zx,zu,aE,zU.of,oI,aO,zH.of])
 have b:(zm1 c s).val=M (.inl (.h2 c s ((0:Nat):Int))):=rfl;rcases e with⟨a,x⟩|⟨a,r,x,rfl⟩
 .have:=oJ (p:=λh:cF=>h.1==s) (d:=Q zn) c 0 a;rw[show aO c s=(-1:Int)from this];refine zA b (x.ends (zU.of (r:=(L (-1),[])) ?_)) W rfl;simp only[zbW,Sn,Mk,Q8,zM];rfl
 .exact zA b x W rfl
variable {cols:aV}
theorem qc(h:X cols<=1000000):fq cols s=O:=by unfold fq;rw[FS h];rfl
theorem tK(h:X cols<=1000000):gX cols s=aO cols s:=by unfold gX;rw[FS h];rfl
theorem XN(t u:Int):qL [t] u=!(cond (t !=u) (t !=0) S):=by grind[qL,aj]
theorem wo(t h u:Int):qL [t,h] u=!(cond (cond (t !=u) (t !=0) S) O (cond (h !=u) (h !=0) S)):=by grind[qL,aj]
variable {e:zg}
theorem RN{g c}(o:X cols<=1000000):∃r k,zU (Sq g c) k (.h5 cols ((0:Nat):Int) (e,())) r/\k<=100000000/\bb r.2 [zk,zk] r.1=M (if N (LT.lt (α:=Int) (aO cols (zg.s e)) 0)=O then((0:Int),(4:Int),())else((Y cols (Z (aO cols (zg.s e))) (Q zn)).2.1,(0:Int),())):=by
 have l:=nG (t:=Sq g c) (Φ:=λr=>bb r.2 [zk,zk] r.1=M (if N (LT.lt (α:=Int) (aO cols (zg.s e)) 0)=O then((0:Int),(4:Int),())else((Y cols (Z (aO cols (zg.s e))) (Q zn)).2.1,(0:Int),()))) 1 (λi=>.h5 cols (i:Int) (e,())) (λi=>((Y cols i (Q zn)).1==zg.s e)=S) (X cols) (by
  intro i a m;have n:(Sq g c (.h5 cols (i:Int) (e,()))).val=if((Y cols i (Q zn)).1==zg.s e)=O then M (.inr (.tup [L (Y cols i (Q zn)).2.1,L 0],[]))else M (.inl (.h5 cols ((i+1:Nat):Int) (e,()))):=by
   simp only[Sq,Q8,zO a,zx a,aJ,zj];rw[zu i um]
  rcases zV ((Y cols i (Q zn)).1==zg.s e)with h|h
  .refine .inr ⟨by rw[h];simp,_,zU.of (by rw[n,zf h]),?_⟩;have:=oI (p:=λc:cF=>c.1==zg.s e) (d:=Q zn) cols 0 i a h m;rw[show aO cols (zg.s e)=(i:Int) by unfold aO;rw[this];simp,zh (by rw[ba];omega),aJ];rfl
  grind[zH.of])
 rcases l with⟨b,x⟩|⟨b,r,x,j⟩
 .have:=oJ (p:=λc:cF=>c.1==zg.s e) (d:=Q zn) cols 0 b;refine⟨(.tup [L 0,L 4],[]),_,x.ends (zU.of ?_),W,?_⟩
  .simp only[Sq,Q8,zM];rfl
  .rw[show aO cols (zg.s e)=(-1:Int)from this];rfl
 .exact⟨r,_,x,W,j⟩
theorem tF{cols:aV}(H:X cols<=1000000):∀(i d x:Nat)(e:zg),d<=i->d<=x->cX d e=O->cM i e cols=M ((aa x e cols).1,(aa x e cols).2,())
 |_,0,_,_,_,_,h=>by cases h
 |0,d+1,_,_,h,_,_=>zz h W
 |_,d+1,0,_,_,h,_=>zz h W
 | i+1,d+1,x+1,e,h1,h2,h=>by
  rw[cM,aa];unfold Uh A9;cases gG h with
  |lit v hv=>rfl
  | col s hw hr=>
   have⟨r,k,j,l,m⟩:=RN (g:=λy z=>gV (cM i y z)) (c:=λy z=>(cM i y z).isSome) (cols:=cols) (e:=.mk fh (0,0,[]) s []) H;refine zA LY j l (m.trans ?_);have n:bg (aa x) (bJ x) cols fh (0:Int) (0:Int) [] s [] [] 0 []=if N (LT.lt (α:=Int) (aO cols s) 0)=O then((0:Int),(4:Int))else((Y cols (Z (aO cols s)) (Q zn)).2.1,(0:Int)):=rfl
   show _=M ((bg (aa x) (bJ x) cols fh (0:Int) (0:Int) [] s [] [] 0 []).1,(bg (aa x) (bJ x) cols fh (0:Int) (0:Int) [] s [] [] 0 []).2,());rw[n];show M (if N (LT.lt (α:=Int) (aO cols s) 0)=O then((0:Int),(4:Int),())else((Y cols (Z (aO cols s)) (Q zn)).2.1,(0:Int),()))=_;grind
  | one op a U P=>
   have E:=tF H i d x a W W P;unfold ar bT;generalize G:(λy z=>gV (cM i y z))=g;generalize F:(λy z=>(cM i y z).isSome)=c;have B:g a cols=aa x a cols:=by rw[<-G];show gV (cM i a cols)=_;rw[E];rfl
   have A:c a cols=O:=by rw[<-F];show(cM i a cols).isSome=_;rw[E];rfl
   rcases U with rfl|rfl
   .have n:bg (aa x) (bJ x) cols ox (0:Int) (0:Int) [] [] [a] [a] 0 []=if((aa x a cols).2!=0)=O then((0:Int),(aa x a cols).2)else if(!qL [(aa x a cols).1] 3)=O then((0:Int),(5:Int))else((3:Int),(0:Int)):=rfl
    show _=M ((bg (aa x) (bJ x) cols ox (0:Int) (0:Int) [] [] [a] [a] 0 []).1,(bg (aa x) (bJ x) cols ox (0:Int) (0:Int) [] [] [a] [a] 0 []).2,());rw[n,XN];have q:(Hp g c (.mk ox (0,0,[]) [] [a]) cols).val=if c (zt a) cols=O then(ite (((g (zt a) cols).2!=0)=O) (M (.inr (.tup [L 0,L (g (zt a) cols).2],[]))) (ite ((cond ((g (zt a) cols).1!=0) (cond ((g (zt a) cols).1!=3) O (cond ((g (zt a) cols).1!=0) ((g (zt a) cols).1!=3) S)) (cond ((g (zt a) cols).1!=0) ((g (zt a) cols).1!=3) S))=O) (M (.inr (.tup [L 0,L 5],[]))) (M (.inr (.tup [L 3,L 0],[])))))else Q2:=rfl
    rw[q,zo,A,B];generalize aa x a cols=t;rcases zV (t.2!=0)with j|j<;>rcases zV (t.1!=0)with l|l<;>rcases zV (t.1!=3)with m|m<;>(simp only[j,l,m,aN,aL,zj,zm,zC,ce,dj];rfl)
   .have n:bg (aa x) (bJ x) cols qy (0:Int) (0:Int) [] [] [a] [a] 0 []=if((aa x a cols).2!=0)=O then((0:Int),(aa x a cols).2)else((3:Int),(0:Int)):=rfl
    show _=M ((bg (aa x) (bJ x) cols qy (0:Int) (0:Int) [] [] [a] [a] 0 []).1,(bg (aa x) (bJ x) cols qy (0:Int) (0:Int) [] [] [a] [a] 0 []).2,());rw[n];have q:(Hp g c (.mk qy (0,0,[]) [] [a]) cols).val=if c (zt a) cols=O then(ite (((g (zt a) cols).2!=0)=O) (M (.inr (.tup [L 0,L (g (zt a) cols).2],[]))) (M (.inr (.tup [L 3,L 0],[]))))else Q2:=rfl
    rw[q,zo,A,B];generalize aa x a cols=t;rcases zV (t.2!=0)with j|j<;>(simp only[j,zj,zm,zC];rfl)
  | two op a b U P hb=>
   have E:=tF H i d x a W W P;have kb:=tF H i d x b W W hb;unfold ar bT;generalize G:(λy z=>gV (cM i y z))=g;generalize F:(λy z=>(cM i y z).isSome)=c;have B:g a cols=aa x a cols:=by rw[<-G];show gV (cM i a cols)=_;rw[E];rfl
   have A:c a cols=O:=by rw[<-F];show(cM i a cols).isSome=_;rw[E];rfl
   have D:g b cols=aa x b cols:=by rw[<-G];show gV (cM i b cols)=_;rw[kb];rfl
   have C:c b cols=O:=by rw[<-F];show(cM i b cols).isSome=_;rw[kb];rfl
   rcases U with rfl|rfl|rfl|rfl|rfl|rfl
   .have n:bg (aa x) (bJ x) cols ji (0:Int) (0:Int) [] [] [a,b] [a,b] 0 []=if((aa x a cols).2!=0)=O then((0:Int),(aa x a cols).2)else if((aa x b cols).2!=0)=O then((0:Int),(aa x b cols).2)else if(!qL [(aa x a cols).1,(aa x b cols).1] 3)=O then((0:Int),(5:Int))else((3:Int),(0:Int)):=rfl
    show _=M ((bg (aa x) (bJ x) cols ji (0:Int) (0:Int) [] [] [a,b] [a,b] 0 []).1,(bg (aa x) (bJ x) cols ji (0:Int) (0:Int) [] [] [a,b] [a,b] 0 []).2,());rw[n,wo];have q:(Hp g c (.mk ji (0,0,[]) [] [a,b]) cols).val=if c (zt a) cols=O then(ite (((g (zt a) cols).2!=0)=O) (M (.inr (.tup [L 0,L (g (zt a) cols).2],[]))) (ite (c (zt b) cols=O) (ite (((g (zt b) cols).2!=0)=O) (M (.inr (.tup [L 0,L (g (zt b) cols).2],[]))) (ite ((cond ((g (zt a) cols).1!=0) (cond ((g (zt a) cols).1!=3) O (cond ((g (zt b) cols).1!=0) ((g (zt b) cols).1!=3) S)) (cond ((g (zt b) cols).1!=0) ((g (zt b) cols).1!=3) S))=O) (M (.inr (.tup [L 0,L 5],[]))) (M (.inr (.tup [L 3,L 0],[]))))) Q2))else Q2:=rfl
    rw[q,zo,zo,A,C,B,D];generalize aa x a cols=t;generalize aa x b cols=u;rcases zV (t.2!=0)with j|j<;>rcases zV (u.2!=0)with l|l<;>rcases zV (t.1!=0)with m|m<;>rcases zV (u.1!=0)with o|o<;>rcases zV (t.1!=3)with p|p<;>rcases zV (u.1!=3)with w|w<;>(simp only[j,l,m,o,p,w,aN,aL,zj,zm,zC,ce,dj];rfl)
   .have n:bg (aa x) (bJ x) cols wy (0:Int) (0:Int) [] [] [a,b] [a,b] 0 []=if((aa x a cols).2!=0)=O then((0:Int),(aa x a cols).2)else if((aa x b cols).2!=0)=O then((0:Int),(aa x b cols).2)else if(!qL [(aa x a cols).1,(aa x b cols).1] 3)=O then((0:Int),(5:Int))else((3:Int),(0:Int)):=rfl
    show _=M ((bg (aa x) (bJ x) cols wy (0:Int) (0:Int) [] [] [a,b] [a,b] 0 []).1,(bg (aa x) (bJ x) cols wy (0:Int) (0:Int) [] [] [a,b] [a,b] 0 []).2,());rw[n,wo];have q:(Hp g c (.mk wy (0,0,[]) [] [a,b]) cols).val=if c (zt a) cols=O then(ite (((g (zt a) cols).2!=0)=O) (M (.inr (.tup [L 0,L (g (zt a) cols).2],[]))) (ite (c (zt b) cols=O) (ite (((g (zt b) cols).2!=0)=O) (M (.inr (.tup [L 0,L (g (zt b) cols).2],[]))) (ite ((cond ((g (zt a) cols).1!=0) (cond ((g (zt a) cols).1!=3) O (cond ((g (zt b) cols).1!=0) ((g (zt b) cols).1!=3) S)) (cond ((g (zt b) cols).1!=0) ((g (zt b) cols).1!=3) S))=O) (M (.inr (.tup [L 0,L 5],[]))) (M (.inr (.tup [L 3,L 0],[]))))) Q2))else Q2:=rfl
    rw[q,zo,zo,A,C,B,D];generalize aa x a cols=t;generalize aa x b cols=u;rcases zV (t.2!=0)with j|j<;>rcases zV (u.2!=0)with l|l<;>rcases zV (t.1!=0)with m|m<;>rcases zV (u.1!=0)with o|o<;>rcases zV (t.1!=3)with p|p<;>rcases zV (u.1!=3)with w|w<;>(simp only[j,l,m,o,p,w,aN,aL,zj,zm,zC,ce,dj];rfl)
   .have n:bg (aa x) (bJ x) cols [61] (0:Int) (0:Int) [] [] [a,b] [a,b] 0 []=if((aa x a cols).2!=0)=O then((0:Int),(aa x a cols).2)else if((aa x b cols).2!=0)=O then((0:Int),(aa x b cols).2)else if(!bif (aa x a cols).1==(aa x b cols).1 then O else bif (aa x a cols).1==0 then O else(aa x b cols).1==0)=O then((0:Int),(5:Int))else((3:Int),(0:Int)):=rfl
    show _=M ((bg (aa x) (bJ x) cols [61] (0:Int) (0:Int) [] [] [a,b] [a,b] 0 []).1,(bg (aa x) (bJ x) cols [61] (0:Int) (0:Int) [] [] [a,b] [a,b] 0 []).2,());rw[n];have q:(Hp g c (.mk [61] (0,0,[]) [] [a,b]) cols).val=if c (zt a) cols=O then(ite (((g (zt a) cols).2!=0)=O) (M (.inr (.tup [L 0,L (g (zt a) cols).2],[]))) (ite (c (zt b) cols=O) (ite (((g (zt b) cols).2!=0)=O) (M (.inr (.tup [L 0,L (g (zt b) cols).2],[]))) (ite ((cond ((g (zt a) cols).1!=0) (cond ((g (zt b) cols).1!=0) ((g (zt a) cols).1!=(g (zt b) cols).1) S) S)=O) (M (.inr (.tup [L 0,L 5],[]))) (M (.inr (.tup [L 3,L 0],[]))))) Q2))else Q2:=rfl
    rw[q,zo,zo,A,C,B,D];generalize aa x a cols=t;generalize aa x b cols=u;simp only[bne];rcases zV (t.2==0)with j|j<;>rcases zV (u.2==0)with l|l<;>rcases zV (t.1==0)with m|m<;>rcases zV (u.1==0)with o|o<;>rcases zV (t.1==u.1)with p|p<;>(simp only[j,l,m,o,p,aN,aL,zj,zm,zC,ce,dj];rfl)
   .have n:bg (aa x) (bJ x) cols [60] (0:Int) (0:Int) [] [] [a,b] [a,b] 0 []=if((aa x a cols).2!=0)=O then((0:Int),(aa x a cols).2)else if((aa x b cols).2!=0)=O then((0:Int),(aa x b cols).2)else if(!bif (aa x a cols).1==(aa x b cols).1 then O else bif (aa x a cols).1==0 then O else(aa x b cols).1==0)=O then((0:Int),(5:Int))else((3:Int),(0:Int)):=rfl
    show _=M ((bg (aa x) (bJ x) cols [60] (0:Int) (0:Int) [] [] [a,b] [a,b] 0 []).1,(bg (aa x) (bJ x) cols [60] (0:Int) (0:Int) [] [] [a,b] [a,b] 0 []).2,());rw[n];have q:(Hp g c (.mk [60] (0,0,[]) [] [a,b]) cols).val=if c (zt a) cols=O then(ite (((g (zt a) cols).2!=0)=O) (M (.inr (.tup [L 0,L (g (zt a) cols).2],[]))) (ite (c (zt b) cols=O) (ite (((g (zt b) cols).2!=0)=O) (M (.inr (.tup [L 0,L (g (zt b) cols).2],[]))) (ite ((cond ((g (zt a) cols).1!=0) (cond ((g (zt b) cols).1!=0) ((g (zt a) cols).1!=(g (zt b) cols).1) S) S)=O) (M (.inr (.tup [L 0,L 5],[]))) (M (.inr (.tup [L 3,L 0],[]))))) Q2))else Q2:=rfl
    rw[q,zo,zo,A,C,B,D];generalize aa x a cols=t;generalize aa x b cols=u;simp only[bne];rcases zV (t.2==0)with j|j<;>rcases zV (u.2==0)with l|l<;>rcases zV (t.1==0)with m|m<;>rcases zV (u.1==0)with o|o<;>rcases zV (t.1==u.1)with p|p<;>(simp only[j,l,m,o,p,aN,aL,zj,zm,zC,ce,dj];rfl)
   .have n:bg (aa x) (bJ x) cols [43] (0:Int) (0:Int) [] [] [a,b] [a,b] 0 []=if((aa x a cols).2!=0)=O then((0:Int),(aa x a cols).2)else if((aa x b cols).2!=0)=O then((0:Int),(aa x b cols).2)else if(!qL [(aa x a cols).1,(aa x b cols).1] 1)=O then((0:Int),(5:Int))else((1:Int),(0:Int)):=rfl
    show _=M ((bg (aa x) (bJ x) cols [43] (0:Int) (0:Int) [] [] [a,b] [a,b] 0 []).1,(bg (aa x) (bJ x) cols [43] (0:Int) (0:Int) [] [] [a,b] [a,b] 0 []).2,());rw[n,wo];have q:(Hp g c (.mk [43] (0,0,[]) [] [a,b]) cols).val=if c (zt a) cols=O then(ite (((g (zt a) cols).2!=0)=O) (M (.inr (.tup [L 0,L (g (zt a) cols).2],[]))) (ite (c (zt b) cols=O) (ite (((g (zt b) cols).2!=0)=O) (M (.inr (.tup [L 0,L (g (zt b) cols).2],[]))) (ite ((cond ((g (zt a) cols).1!=0) (cond ((g (zt a) cols).1!=1) O (cond ((g (zt b) cols).1!=0) ((g (zt b) cols).1!=1) S)) (cond ((g (zt b) cols).1!=0) ((g (zt b) cols).1!=1) S))=O) (M (.inr (.tup [L 0,L 5],[]))) (M (.inr (.tup [L 1,L 0],[]))))) Q2))else Q2:=rfl
    rw[q,zo,zo,A,C,B,D];generalize aa x a cols=t;generalize aa x b cols=u;rcases zV (t.2!=0)with j|j<;>rcases zV (u.2!=0)with l|l<;>rcases zV (t.1!=0)with m|m<;>rcases zV (u.1!=0)with o|o<;>rcases zV (t.1!=1)with p|p<;>rcases zV (u.1!=1)with w|w<;>(simp only[j,l,m,o,p,w,aN,aL,zj,zm,zC,ce,dj];rfl)
   .have n:bg (aa x) (bJ x) cols [45] (0:Int) (0:Int) [] [] [a,b] [a,b] 0 []=if((aa x a cols).2!=0)=O then((0:Int),(aa x a cols).2)else if((aa x b cols).2!=0)=O then((0:Int),(aa x b cols).2)else if(!qL [(aa x a cols).1,(aa x b cols).1] 1)=O then((0:Int),(5:Int))else((1:Int),(0:Int)):=rfl
    show _=M ((bg (aa x) (bJ x) cols [45] (0:Int) (0:Int) [] [] [a,b] [a,b] 0 []).1,(bg (aa x) (bJ x) cols [45] (0:Int) (0:Int) [] [] [a,b] [a,b] 0 []).2,());rw[n,wo];have q:(Hp g c (.mk [45] (0,0,[]) [] [a,b]) cols).val=if c (zt a) cols=O then(ite (((g (zt a) cols).2!=0)=O) (M (.inr (.tup [L 0,L (g (zt a) cols).2],[]))) (ite (c (zt b) cols=O) (ite (((g (zt b) cols).2!=0)=O) (M (.inr (.tup [L 0,L (g (zt b) cols).2],[]))) (ite ((cond ((g (zt a) cols).1!=0) (cond ((g (zt a) cols).1!=1) O (cond ((g (zt b) cols).1!=0) ((g (zt b) cols).1!=1) S)) (cond ((g (zt b) cols).1!=0) ((g (zt b) cols).1!=1) S))=O) (M (.inr (.tup [L 0,L 5],[]))) (M (.inr (.tup [L 1,L 0],[]))))) Q2))else Q2:=rfl
    rw[q,zo,zo,A,C,B,D];generalize aa x a cols=t;generalize aa x b cols=u;rcases zV (t.2!=0)with j|j<;>rcases zV (u.2!=0)with l|l<;>rcases zV (t.1!=0)with m|m<;>rcases zV (u.1!=0)with o|o<;>rcases zV (t.1!=1)with p|p<;>rcases zV (u.1!=1)with w|w<;>(simp only[j,l,m,o,p,w,aN,aL,zj,zm,zC,ce,dj];rfl)
theorem mW:mb (0,0,[]):=⟨by decide,by decide,aK _⟩
theorem ol(b:Bool):mb (GV b):=by cases b<;>exact⟨by decide,by decide,aK _⟩
theorem XI:mb (3,0,[]):=ol S
theorem XJ:mb (3,1,[]):=ol O
theorem zdD(a b:zp):mb (Hz a b):=by grind[Hz,pi,mJ,mK,XI,XJ,mW]
theorem zlU(a b:zp):mb (vOr a b):=by grind[vOr,pi,mJ,mK,XJ,XI,mW]
theorem zdF(a:zp):mb (Co a):=by grind[Co,pi,mJ,mK,XI,XJ,mW]
theorem zlT(a b:zp):mb (nX a b):=by grind[nX,mW,kg,ol]
theorem XK(a b:zp):mb (uY a b):=by grind[uY,mW,kg,ol]
theorem PZ(a:zp):mb (kr a):=by unfold kr;rw[kg];exact ol _
theorem MW(n:Int):mb (1,Γ Δ n,[]):=by
 refine⟨?_,?_,aK _⟩
 .grind[IntKind.wrap_i64]
 grind[IntKind.wrap_i64]
theorem MV(a b:zp):mb (qI a b):=by grind[qI,mW,MW]
theorem Vh(a b:zp):mb (nY a b):=by grind[nY,mW,MW]
def wc(c:aV)(h:zr)(s:zK):zp:=if(cond (N (aO c s<0)) O (N (aO c s>=(X h:Int))))=O then(0,0,[])else h.getD (Z (aO c s)) (Q K)
variable {row:zr}
theorem RL{g c}(v:X cols<=1000000):∃r k,zU (GG g c) k (.h6 cols row ((0:Nat):Int) (e,()) ((0,0,[]),())) r/\k<=100000000/\bb r.2 [K] r.1=M (wc cols row (zg.s e),()):=by
 have o:=nG (t:=GG g c) (Φ:=λr=>bb r.2 [K] r.1=M (wc cols row (zg.s e),())) 1 (λi=>.h6 cols row (i:Int) (e,()) ((0,0,[]),())) (λi=>((Y cols i (Q zn)).1==zg.s e)=S) (X cols) (by
  intro i b u;have m:(GG g c (.h6 cols row (i:Int) (e,()) ((0,0,[]),()))).val=if((Y cols i (Q zn)).1==zg.s e)=O then(ite (N ((i:Int)<(X row:Int))=O) (ite (zL (i:Int) (X row)=O) (M (.inr (.agg [L (Y row i (Q K)).1,L (Y row i (Q K)).2.1,.str (Y row i (Q K)).q],[]))) Q2) (M (.inr (.agg [L 0,L 0,.str []],[]))))else M (.inl (.h6 cols row ((i+1:Nat):Int) (e,()) ((0,0,[]),()))):=by
   simp only[GG,Q8,zO b,zx b,aJ,zj];rw[zu i um]
  rcases zV ((Y cols i (Q zn)).1==zg.s e)with h|h
  .have x:=oI (p:=λc:cF=>c.1==zg.s e) (d:=Q zn) cols 0 i b h u;have x:aO cols (zg.s e)=(i:Int):=by unfold aO;rw[x];simp
   by_cases l:i<X row
   .refine .inr ⟨by rw[h];simp,_,zU.of (by rw[m,zf h,zf (zO l),zf (zx l)]),?_⟩;unfold wc;rw[x,zh (by simp_all),aJ];rfl
   .refine .inr ⟨by rw[h];simp,_,zU.of (by rw[m,zf h,zh (by rw[ba];omega)]),?_⟩;unfold wc;rw[x,zf (by simp_all)];rfl
  grind[zH.of])
 rcases o with⟨j,a⟩|⟨j,r,a,n⟩
 .have x:=oJ (p:=λc:cF=>c.1==zg.s e) (d:=Q zn) cols 0 j;refine⟨(.agg [L 0,L 0,.str []],[]),_,a.ends (zU.of ?_),W,?_⟩
  .simp only[GG,Q8,zM];rfl
  .unfold wc;rw[show aO cols (zg.s e)=(-1:Int)from x];rfl
 .exact⟨r,_,a,W,n⟩
variable {h:zr}
theorem zdE(x:∀v∈h,mb v):mb (wc c h s):=by grind[wc,mW]
theorem tA{cols:aV}{h:zr}(H:X cols<=1000000)(P:∀v∈h,mb v):∀(l d j:Nat)(e:zg),d<=l->d<=j->cX d e=O->vd e->cV l e cols h=M (ei j cols h e,())/\mb (ei j cols h e)
 |_,0,_,_,_,_,i,_=>by cases i
 |0,d+1,_,_,i,_,_,_=>zz i W
 |_,d+1,0,_,_,i,_,_=>zz i W
 | l+1,d+1,j+1,e,h1,h2,i,B=>by
  rw[cV,ei];unfold Uf;cases gG i with
  | lit v hv=>
   rw[vd]at B;exact⟨rfl,B.1⟩
  | col s h3 h0=>
   obtain⟨r,k,k1,k2,k3⟩:=RL (g:=λp t u=>iM (cV l p t u)) (c:=λp t u=>(cV l p t u).isSome) (cols:=cols) (row:=h) (e:=.mk fh (0,0,[]) s []) H;exact⟨zA LY k1 k2 k3,zdE P⟩
  | one op a ho U=>
   rw[vd,lw]at B;obtain⟨E,o⟩:=tA H P l d j a W W U B.q.1;unfold ar bT;generalize G:(λp t u=>iM (cV l p t u))=g;generalize F:(λp t u=>(cV l p t u).isSome)=c;have z:g a cols h=ei j cols h a:=by rw[<-G];show iM (cV l a cols h)=_;rw[E];rfl
   have w:c a cols h=O:=by rw[<-F];show(cV l a cols h).isSome=_;rw[E];rfl
   rcases ho with rfl|rfl
   .have m:uv (ei j) cols h (.mk ox (0,0,[]) [] [a])=Co (ei j cols h a):=rfl;have n:(uI g c (.mk ox (0,0,[]) [] [a]) cols h).val=if c (zt a) cols h=O then(ite (K9 (g (zt a) cols h)=O) (M (.inr (.agg [L (Jj (g (zt a) cols h)).1,L (Jj (g (zt a) cols h)).2.1,.str (Jj (g (zt a) cols h)).q],[]))) Q2)else Q2:=rfl
    rw[m,n,zo,w,z];generalize ei j cols h a=x at*;rw[zbc,zfD];exact⟨rfl,zdF _⟩
   .have m:uv (ei j) cols h (.mk qy (0,0,[]) [] [a])=kr (ei j cols h a):=rfl;have n:(uI g c (.mk qy (0,0,[]) [] [a]) cols h).val=if c (zt a) cols h=O then(ite (nP (g (zt a) cols h)=O) (ite ((!uR (g (zt a) cols h))=O) (M (.inr (.agg [L (bB O).1,L (bB O).2.1,.str (bB O).q],[]))) (ite (mA ((g (zt a) cols h).1==0)=O) (M (.inr (.agg [L (bB ((g (zt a) cols h).1==0)).1,L (bB ((g (zt a) cols h).1==0)).2.1,.str (bB ((g (zt a) cols h).1==0)).q],[]))) Q2)) Q2)else Q2:=rfl
    rw[m,n,zo,w,z];generalize ei j cols h a=x at*;refine⟨?_,PZ _⟩;rw[mz o.q,pW o.q,pY,jc,jc];unfold kr ak;rw[kg];cases bf x
    .rfl
    .rfl
  | two op a b ho U hb=>
   rw[vd,lw,lw]at B;obtain⟨E,o⟩:=tA H P l d j a W W U B.q.1;obtain⟨kb,A⟩:=tA H P l d j b W W hb B.r.1;unfold ar bT;generalize G:(λp t u=>iM (cV l p t u))=g;generalize F:(λp t u=>(cV l p t u).isSome)=c;have z:g a cols h=ei j cols h a:=by rw[<-G];show iM (cV l a cols h)=_;rw[E];rfl
   have w:c a cols h=O:=by rw[<-F];show(cV l a cols h).isSome=_;rw[E];rfl
   have D:g b cols h=ei j cols h b:=by rw[<-G];show iM (cV l b cols h)=_;rw[kb];rfl
   have C:c b cols h=O:=by rw[<-F];show(cV l b cols h).isSome=_;rw[kb];rfl
   rcases ho with rfl|rfl|rfl|rfl|rfl|rfl
   .have m:uv (ei j) cols h (.mk ji (0,0,[]) [] [a,b])=Hz (ei j cols h a) (ei j cols h b):=rfl;have n:(uI g c (.mk ji (0,0,[]) [] [a,b]) cols h).val=if c (zt a) cols h=O then(ite (c (zt b) cols h=O) (ite (K6 (g (zt a) cols h) (g (zt b) cols h)=O) (M (.inr (.agg [L (Jh (g (zt a) cols h) (g (zt b) cols h)).1,L (Jh (g (zt a) cols h) (g (zt b) cols h)).2.1,.str (Jh (g (zt a) cols h) (g (zt b) cols h)).q],[]))) Q2) Q2)else Q2:=rfl
    rw[m,n,zo,zo,w,C,z,D];generalize ei j cols h a=x at*;generalize ei j cols h b=y at*;rw[zba,zfC];exact⟨rfl,zdD _ _⟩
   .have m:uv (ei j) cols h (.mk wy (0,0,[]) [] [a,b])=vOr (ei j cols h a) (ei j cols h b):=rfl;have n:(uI g c (.mk wy (0,0,[]) [] [a,b]) cols h).val=if c (zt a) cols h=O then(ite (c (zt b) cols h=O) (ite (Ud (g (zt a) cols h) (g (zt b) cols h)=O) (M (.inr (.agg [L (WH (g (zt a) cols h) (g (zt b) cols h)).1,L (WH (g (zt a) cols h) (g (zt b) cols h)).2.1,.str (WH (g (zt a) cols h) (g (zt b) cols h)).q],[]))) Q2) Q2)else Q2:=rfl
    rw[m,n,zo,zo,w,C,z,D];generalize ei j cols h a=x at*;generalize ei j cols h b=y at*;rw[zfE,zoo];exact⟨rfl,zlU _ _⟩
   .have m:uv (ei j) cols h (.mk [61] (0,0,[]) [] [a,b])=nX (ei j cols h a) (ei j cols h b):=rfl;have n:(uI g c (.mk [61] (0,0,[]) [] [a,b]) cols h).val=if c (zt a) cols h=O then(ite (c (zt b) cols h=O) (ite (xu (g (zt a) cols h) (g (zt b) cols h)=O) (M (.inr (.agg [L (tq (g (zt a) cols h) (g (zt b) cols h)).1,L (tq (g (zt a) cols h) (g (zt b) cols h)).2.1,.str (tq (g (zt a) cols h) (g (zt b) cols h)).q],[]))) Q2) Q2)else Q2:=rfl
    rw[m,n,zo,zo,w,C,z,D];generalize ei j cols h a=x at*;generalize ei j cols h b=y at*;rw[RI o.q A.q,WE o.q A.q];exact⟨rfl,zlT _ _⟩
   .have m:uv (ei j) cols h (.mk [60] (0,0,[]) [] [a,b])=uY (ei j cols h a) (ei j cols h b):=rfl;have n:(uI g c (.mk [60] (0,0,[]) [] [a,b]) cols h).val=if c (zt a) cols h=O then(ite (c (zt b) cols h=O) (ite (CM (g (zt a) cols h) (g (zt b) cols h)=O) (M (.inr (.agg [L (AP (g (zt a) cols h) (g (zt b) cols h)).1,L (AP (g (zt a) cols h) (g (zt b) cols h)).2.1,.str (AP (g (zt a) cols h) (g (zt b) cols h)).q],[]))) Q2) Q2)else Q2:=rfl
    rw[m,n,zo,zo,w,C,z,D];generalize ei j cols h a=x at*;generalize ei j cols h b=y at*;rw[WF o.q A.q,zbb o.q A.q];exact⟨rfl,XK _ _⟩
   .have m:uv (ei j) cols h (.mk [43] (0,0,[]) [] [a,b])=qI (ei j cols h a) (ei j cols h b):=rfl;have n:(uI g c (.mk [43] (0,0,[]) [] [a,b]) cols h).val=if c (zt a) cols h=O then(ite (c (zt b) cols h=O) (ite (CO (g (zt a) cols h) (g (zt b) cols h)=O) (M (.inr (.agg [L (AR (g (zt a) cols h) (g (zt b) cols h)).1,L (AR (g (zt a) cols h) (g (zt b) cols h)).2.1,.str (AR (g (zt a) cols h) (g (zt b) cols h)).q],[]))) Q2) Q2)else Q2:=rfl
    rw[m,n,zo,zo,w,C,z,D];generalize ei j cols h a=x at*;generalize ei j cols h b=y at*;rw[WI o A,zbd o A];exact⟨rfl,MV _ _⟩
   .have m:uv (ei j) cols h (.mk [45] (0,0,[]) [] [a,b])=nY (ei j cols h a) (ei j cols h b):=rfl;have n:(uI g c (.mk [45] (0,0,[]) [] [a,b]) cols h).val=if c (zt a) cols h=O then(ite (c (zt b) cols h=O) (ite (xw (g (zt a) cols h) (g (zt b) cols h)=O) (M (.inr (.agg [L (tr (g (zt a) cols h) (g (zt b) cols h)).1,L (tr (g (zt a) cols h) (g (zt b) cols h)).2.1,.str (tr (g (zt a) cols h) (g (zt b) cols h)).q],[]))) Q2) Q2)else Q2:=rfl
    rw[m,n,zo,zo,w,C,z,D];generalize ei j cols h a=x at*;generalize ei j cols h b=y at*;rw[RJ o A,WG o A];exact⟨rfl,Vh _ _⟩
theorem tg:∀(x k:Nat)(e:zg)(n:Nat),k<=12->n<=60->(jk x e ((13:Int)-k) n).1=O->cX k e=O/\(jk x e ((13:Int)-k) n).2=((n+nE k e:Nat):Int)/\n+nE k e<=60
 |0,_,_,_,_,_,h=>by cases h
 | x+1,0,e,n,_,_,h=>by
  rw[jk]at h;unfold Ci at h;rw[zf LY]at h;cases h
 | x + 1,k+1,.mk o v s l,n,h1,h2,h=>by
  have U:Γ Δ ((n:Int)+1)=((n+1:Nat):Int):=zu n um;have A:Γ Δ ((13:Int)-((k+1:Nat):Int)+1)=(13:Int)-(k:Int):=by rw[eK];omega
  have E:N ((13:Int)-((k+1:Nat):Int)>12)=S:=aC W;rw[jk]at h|-
  have e0:∀m:Int,Ci (jk x) (.mk o v s l) m n=if(cond (N (m>12)) O (cond (N (((n+1:Nat):Int)>60)) O ((X l:Int)!=dT o)))=O then(S,((n+1:Nat):Int))else
    if(o==pt)=O then(cond (s==[]) (bf v) S,((n+1:Nat):Int))else
    if(o==fh)=O then(cond (bD v) (cond (eU s) (!kd s) S) S,((n+1:Nat):Int))else
    if(cond (!bD v) O (!s==[]))=O then(S,((n+1:Nat):Int))else qR (jk x) m l ((n+1:Nat):Int):=by
   intro m;unfold Ci;rw[U];rfl
  rw[e0,E]at h|-;rcases zV (N (((n+1:Nat):Int)>60))with t|t
  .rw[t,zf LY]at h;cases h
  rcases zV ((X l:Int)!=dT o)with u|u
  .rw[t,u,zf LY]at h;cases h
  have B:n+1<=60:=by simp at t;omega
  have q:(X l:Int)=dT o:=by simpa using u
  rw[t,u,zh sw]at h|-;rcases nr o with⟨p,g⟩|⟨p,g⟩|⟨p,g⟩|p
  .have F:l=[]:=Dz W;subst F;rcases g with rfl|rfl
   .rw[zf LY]at h|-;have⟨a,b⟩:=da h;refine⟨?_,by simp[nE],by simp[nE];omega⟩;simp[cX,b,bQ a]
   .rw[zh (by decide),zf LY]at h|-;have⟨a,b⟩:=da h;have⟨b,c⟩:=da b;refine⟨?_,by simp[nE],by simp[nE];omega⟩;have D:kd s=S:=by simpa using c
    simp[cX,a,b,D]
  .obtain⟨a,rfl⟩:∃a,l=[a]:=List.length_eq_one_iff.1 W;have o1:(o==pt)=S:=by rcases g with rfl|rfl<;>rfl
   have o2:(o==fh)=S:=by rcases g with rfl|rfl<;>rfl
   have o3:(cond (o==ox) O (o==qy))=O:=by rcases g with rfl|rfl<;>rfl
   rw[zh (by rw[o1];simp),zh (by rw[o2];simp)]at h|-;rcases zV (bD v)with d|d
   .rcases zV (s==[])with i|i
    .rw[d,i,zh sw]at h|-;rw[qR,A]at h|-;rcases zV (jk x a ((13:Int)-(k:Int)) ((n+1:Nat):Int)).1 with j|j
     .have⟨y,z,C⟩:=tg x k a (n+1) W B j;rw[j,zh sw];refine⟨by simp[cX,o1,o2,o3,d,i,y],?_,by simp[nE];omega⟩;rw[qR];show(jk x a ((13:Int)-(k:Int)) ((n+1:Nat):Int)).2=_;rw[z];simp[nE];omega
     .rw[j,zf LY]at h;cases h
    .rw[d,i,zf LY]at h;cases h
   .rw[d,zf LY]at h;cases h
  .obtain⟨a,b,rfl⟩:∃a b,l=[a,b]:=by
    match l,q with
    |[a,b],_=>exact⟨a,b,rfl⟩
    |[],q=>exact zz q (by rw[p];simp)
    |[_],q=>exact zz q (by rw[p];simp)
    |_::_::_::_,q=>exact zz q (by rw[p];simp;omega)
   have o1:(o==pt)=S:=by rcases g with rfl|rfl|rfl|rfl|rfl|rfl<;>rfl
   have o2:(o==fh)=S:=by rcases g with rfl|rfl|rfl|rfl|rfl|rfl<;>rfl
   have o3:(cond (o==ox) O (o==qy))=S:=by rcases g with rfl|rfl|rfl|rfl|rfl|rfl<;>rfl
   have P:Hy o=O:=by rcases g with rfl|rfl|rfl|rfl|rfl|rfl<;>rfl
   rw[zh (by rw[o1];simp),zh (by rw[o2];simp)]at h|-;rcases zV (bD v)with d|d
   .rcases zV (s==[])with i|i
    .rw[d,i,zh sw]at h|-;rw[qR,A]at h|-;rcases zV (jk x a ((13:Int)-(k:Int)) ((n+1:Nat):Int)).1 with j|j
     .have⟨y,z,C⟩:=tg x k a (n+1) W B j;rw[j,zh sw]at h|-;rw[z,qR,A]at h|-;rcases zV (jk x b ((13:Int)-(k:Int)) ((n+1+nE k a:Nat):Int)).1 with w|w
      .have⟨G,H,j3⟩:=tg x k b (n+1+nE k a) W C w;rw[w,zh sw];refine⟨by simp[cX,o1,o2,o3,P,d,i,y,G],?_,by simp[nE];omega⟩;rw[qR];show(jk x b ((13:Int)-(k:Int)) ((n+1+nE k a:Nat):Int)).2=_;rw[H];simp[nE];omega
      .rw[w,zf LY]at h;cases h
     .rw[j,zf LY]at h;cases h
    .rw[d,i,zf LY]at h;cases h
   .rw[d,zf LY]at h;cases h
  .omega
theorem yN(e:zg):dU e=(cond (cX 12 e) (N (nE 12 e<=60)) S):=by
 unfold dU;rcases zV (jk 16 e 1 0).1 with c|c
 .have⟨a,_,d⟩:=tg 16 12 e 0 W W c;rw[c,a,zB W];rfl
 .rw[c];rcases zV (cX 12 e)with g|g
  .rw[g];by_cases h:nE 12 e<=60
   .have:=th 16 12 e 0 W W g W;have b:(jk 16 e 1 0).1=O:=by
     have x:jk 16 e 1 0=(O,((0+nE 12 e:Nat):Int)):=this;rw[x]
    rw[b]at c;cases c
   .rw[aC h];rfl
  .rw[g];rfl
theorem OW(j:vd e):FO e=M (dU e,()):=by
 have d:Lf e 12=M (cX 12 e,()):=Jo 16 12 e W W j;have x:CW e 12=O:=by unfold CW;rw[d];rfl
 have a:Le e 12=cX 12 e:=by unfold Le;rw[d];rfl
 unfold FO ar bT;simp only[ztN,Q8,zo,x,a];rw[yN];rcases zV (cX 12 e)with g|g
 .have i:FQ e=M ((nE 12 e:Int),()):=qb 16 12 e W W g;have b:xD e=O:=by unfold xD;rw[i];rfl
  have c:CX e=(nE 12 e:Int):=by unfold CX;rw[i];rfl
  rw[g,b,c];have:N (((nE 12 e:Nat):Int)<=60)=N (nE 12 e<=60):=by
   by_cases h:nE 12 e<=60
   .rw[zB h,zB W]
   .rw[aC h,aC W]
  rw[this];rfl
 .rw[g];rfl
theorem oS(h:vd e):vT e=O:=by unfold vT;rw[OW h];rfl
theorem tB(h:vd e):FN e=dU e:=by unfold FN;rw[OW h];rfl
theorem mg(h:dU e=O):cX 12 e=O:=by rw[yN]at h;exact(da h).1
theorem OY(x:X cols<=1000000)(h:dU e=O):CV e cols=M ((cu e cols).1,(cu e cols).2,()):=by have:=tF x 16 12 16 e W W (mg h);unfold CV cu;rw[this,h];rfl
theorem zbe(x:X cols<=1000000)(a:∀v∈row,mb v)(b:vd e)(h:dU e=O):CT e cols row=M (lp e cols row,()):=by have:=(tA x a 16 12 16 e W W (mg h) b).1;unfold CT lp;rw[this,h];rfl
theorem Gx(e:zg):gK 16 e AG=(e.op==[]&&(bD e.v&&(e.s==[]&&e.l.length==0))):=by
 show Pv (gK 15) e AG=_;unfold Pv QP eqV bD;have⟨o,v,s,l⟩:=e;simp only[zg.op,zg.v,zg.s,zg.l];cases l with
 | nil=>
  simp only[qw,eqL];cases(o==[])<;>cases(v.1==0&&(v.2.1==0&&(v.q==[]&&O)))<;>cases(s==[])<;>rfl
 | cons x r=>
  have:(((x::r).length:Int)!=(([]:List zg).length:Int))=O:=by simp;omega
  simp only[this];cases(o==[])<;>cases(v.1==0&&(v.2.1==0&&(v.q==[]&&O)))<;>cases(s==[])<;>rfl
theorem RM(e:zg):CU e AG=M (gK 16 e AG,()):=by
 rw[Gx];show cC 16 e AG=_;rw[cC];unfold Lc;rcases zV (e.op==[])with h|h
 .rcases zV (bD e.v)with c|c
  .rcases zV (e.s==[])with x|x
   .by_cases b:e.l.length=0
    .refine zA (s:=.h4 0 (e,()) (AG,())) (k:=1) (r:=(.kb O,[])) ?_ (zU.of ?_) W ?_
     .unfold bD at c;simp only[Ho,Q8];have a:(((zg.l e).length:Int)!=(([]:List zg).length:Int))=S:=by simp[b]
      show(ite ((cond (!(e.op==[])) O (cond (!(e.v.1==0&&(e.v.2.1==0&&(e.v.q==[]&&O)))) O (cond (!(e.s==[])) O (((zg.l e).length:Int)!=(([]:List zg).length:Int)))))=O) _ _)=_;rw[h,c,x,a];rfl
     .have d:N ((0:Int)<((zg.l e).length:Int))=S:=aC (by rw[b];omega);simp only[PE,Mo,Dn,Q8];rw[d];rfl
     .rw[h,c,x,b];rfl
    .have a:(((zg.l e).length:Int)!=(([]:List zg).length:Int))=O:=bne_iff_ne.2 (by show((zg.l e).length:Int)≠0;omega);have d:((zg.l e).length==0)=S:=dX.2 b;refine zR (r:=(.kb S,[])) ?_ ?_
     .unfold bD at c;simp only[Ho,Q8];show(ite ((cond (!(e.op==[])) O (cond (!(e.v.1==0&&(e.v.2.1==0&&(e.v.q==[]&&O)))) O (cond (!(e.s==[])) O (((zg.l e).length:Int)!=(([]:List zg).length:Int)))))=O) _ _)=_;rw[h,c,x,a];rfl
     .rw[h,c,x,d];rfl
   .refine zR (r:=(.kb S,[])) ?_ ?_
    .unfold bD at c;simp only[Ho,Q8];show(ite ((cond (!(e.op==[])) O (cond (!(e.v.1==0&&(e.v.2.1==0&&(e.v.q==[]&&O)))) O (cond (!(e.s==[])) O (((zg.l e).length:Int)!=(([]:List zg).length:Int)))))=O) _ _)=_;rw[h,c,x];rfl
    .rw[h,c,x];rfl
  .refine zR (r:=(.kb S,[])) ?_ ?_
   .unfold bD at c;simp only[Ho,Q8];show(ite ((cond (!(e.op==[])) O (cond (!(e.v.1==0&&(e.v.2.1==0&&(e.v.q==[]&&O)))) O (cond (!(e.s==[])) O (((zg.l e).length:Int)!=(([]:List zg).length:Int)))))=O) _ _)=_;rw[h,c];rfl
   .rw[h,c];rfl
 .refine zR (r:=(.kb S,[])) ?_ ?_
  .simp only[Ho,Q8];show(ite ((cond (!(e.op==[])) O (cond (!(e.v.1==0&&(e.v.2.1==0&&(e.v.q==[]&&O)))) O (cond (!(e.s==[])) O (((zg.l e).length:Int)!=(([]:List zg).length:Int)))))=O) _ _)=_;rw[h];rfl
  .rw[h];rfl
theorem S7(h:dU e=O):(e.op==[])=S:=by
 have d:=mg h;cases gG d with
 |lit v j=>rfl
 |col s k i=>rfl
 |one o a x c=>rcases x with rfl|rfl<;>rfl
 |two o a b x c g=>rcases x with rfl|rfl|rfl|rfl|rfl|rfl<;>rfl
theorem FV(l:vd e)(o:X c<=1000000):rZ e c=M (gJ e c,()):=by
 have j:=RM e;have b:gT e AG=O:=by unfold gT;rw[j];rfl
 have d:fF e AG=gK 16 e AG:=by unfold fF;rw[j];rfl
 unfold rZ ar bT;simp only[ziI,Q8,zo,oS l,tB l];unfold gJ;rcases zV (e.op==[])with x|x
 .have p:dU e=S:=by
   rcases zV (dU e)with h|h
   .rw[S7 h]at x;cases x
   .exact h
  have a:cu e c=(0,1):=by unfold cu;rw[p];rfl
  rw[x,b,d,a];rcases zV (gK 16 e AG)with h|h<;>rw[h]<;>rfl
 .have q:gK 16 e AG=S:=by rw[Gx,x];rfl
  rw[x,q];rcases zV (dU e)with h|h
  .have a:=OY (cols:=c) o h;have g:p6 e c=O:=by unfold p6;rw[a];rfl
   have i:jz e c=cu e c:=by unfold jz;rw[a];rfl
   rw[h,g,i];generalize cu e c=t;have⟨t,r⟩:=t;rcases zV (r==0)with k|k
   .have e0:r=0:=bQ k;subst e0;rcases zV (t==0)with m|m<;>rcases zV (t==3)with n|n<;>(simp only[bne,m,n];rfl)
   .simp only[bne,k];rfl
  .have a:cu e c=(0,1):=by unfold cu;rw[h];rfl
   rw[h,a];rfl
structure kx (t:am):Prop where
 name:aA t.1=O
 n1:1<=X t.2.1
 n8:X t.2.1<=8
 cols:∀i,i<X t.2.1->aA (Y t.2.1 i (Q zn)).1=O/\LE.le (α:=Int) 1 (Y t.2.1 i (Q zn)).2.1/\LE.le (α:=Int) (Y t.2.1 i (Q zn)).2.1 3/\aO t.2.1 (Y t.2.1 i (Q zn)).1=(i:Int)
 uniq:∀u∈t.r.1,Hq u (X t.2.1)
 refs:∀f∈t.t.1,Hq f.1 (X t.2.1)/\aA f.2=O
 key:Hq t.q.1 (X t.2.1)
 nn:(Y t.2.1 (Z t.q.1) (Q zn)).q=O
 chk:gJ t.u t.2.1=(0:Int)
variable {t:am}{i:Nat}
theorem Nf:Qr t i=O↔(aA (Y t.2.1 i (Q zn)).1=O/\LE.le (α:=Int) 1 (Y t.2.1 i (Q zn)).2.1/\LE.le (α:=Int) (Y t.2.1 i (Q zn)).2.1 3/\aO t.2.1 (Y t.2.1 i (Q zn)).1=(i:Int)):=by
 unfold Qr;have e:zY t (Y t.2.1 i (Q zn)).1=aO t.2.1 (Y t.2.1 i (Q zn)).1:=rfl;rw[e];generalize Y t.2.1 i (Q zn)=c;cases aA c.1
 .simp
 .by_cases x:LT.lt (α:=Int) c.2.1 1
  .rw[zB x];simp;intro h;omega
  .rw[aC x];by_cases a:GT.gt (α:=Int) c.2.1 3
   .rw[zB a];simp;intro _ h;omega
   .rw[aC a];exact⟨λh=>⟨rfl,W,W,by simpa using h⟩,λh=>by simpa using h.r⟩
theorem iH(t:am):dt t=O↔kx t:=by
 have n:=A0 (l:=t.r.1) (d:=Q zk) (p:=λu=>At u (X t.2.1));simp only[rG]at n;have o:(!(cond (!aA t.1) O (cond (N ((X t.2.1:Int)<1)) O (N ((X t.2.1:Int)>8)))))=O↔(aA t.1=O/\1<=X t.2.1/\X t.2.1<=8):=by
  cases aA t.1
  .simp
  .by_cases x:(X t.2.1:Int)<1
   .rw[zB x];simp;omega
   .rw[aC x];simp;omega
 have x:(List.range (X t.2.1)).all (Qr t)=O↔∀i,i<X t.2.1->Qr t i=O:=by
  rw[ep];simp only[rg]
 unfold dt;rw[aP,o,aP,x,aP,n,aP,Pj,aP,rG,aP,bW];exact⟨λ⟨⟨a,b,c⟩,d,e,f,g,i,j⟩=>⟨a,b,c,λk m=>Nf.1 (d k m),e,f,g,i,j⟩,λh=>⟨⟨h.name,h.n1,h.n8⟩,λk m=>Nf.2 (h.cols k m),h.uniq,h.refs,h.key,h.nn,h.chk⟩⟩
structure Dy (t:am):Prop where
 name:X t.1<=1000000
 cols:∀c∈t.2.1,X c.1<=1000000
 ncols:X t.2.1<=1000
 nuq:X t.r.1<=1000
 nrf:X t.t.1<=1000
 refs:∀f∈t.t.1,X f.2<=1000000
 chk:vd t.u
theorem O2(j:Dy t):Lj t=M (dt t,()):=by
 have l:=iH t;have U:=j.ncols;have h0:=j.nuq;have h2:=j.nrf;have w:∀r:az,r=(.kb S,[])->¬kx t->bb r.2 [Sh.bool] r.1=M (dt t,()):=by
  intro r m h;have:dt t=S:=by
   rcases zV (dt t)with c|c
   .exact zz (l.1 c) h
   .exact c
  rw[m,this];rfl
 have x:(zm4 t).val=if(bif !aA t.1 then O else bif N ((X t.2.1:Int)<1)then O else bif N ((X t.2.1:Int)>8)then O else bif N (LT.lt (α:=Int) t.q.1 0)then O else bif N (GE.ge (α:=Int) t.q.1 (X t.2.1:Int))then O else !(Y t.2.1 (Z t.q.1) (zi zn)).q)=O then M (.inr (.kb S,[]))else M (.inl (.h5 (X t.2.1:Int) ((0:Nat):Int) (t,()))):=by
  simp only[zm4,Q8,cD j.name,fQ j.name];rw[zf]
  .rfl
  .grind[zL]
 rcases zV (bif !aA t.1 then O else bif N ((X t.2.1:Int)<1)then O else bif N ((X t.2.1:Int)>8)then O else bif N (LT.lt (α:=Int) t.q.1 0)then O else bif N (GE.ge (α:=Int) t.q.1 (X t.2.1:Int))then O else !(Y t.2.1 (Z t.q.1) (zi zn)).q)with c|c
 .rw[zf c]at x;refine zR x (w _ rfl λh=>?_);have⟨k1,k2⟩:=h.key;have e1:=h.n1;grind[kx.n8,kx.name,kx.nn]
 rw[zh (by rw[c];simp)]at x;have g:aA t.1=O:=by
  rcases zV (aA t.1)with k|k
  .exact k
  .rw[k]at c;cases c
 rw[g]at c;have H:1<=X t.2.1:=by
  by_cases k:(X t.2.1:Int)<1
  .rw[zB k]at c;cases c
  .omega
 rw[aC (by omega:¬(X t.2.1:Int)<1)]at c;have P:X t.2.1<=8:=by
  by_cases k:(X t.2.1:Int)>8
  .rw[zB k]at c;cases c
  .omega
 rw[aC (by omega:¬(X t.2.1:Int)>8)]at c;have A:LE.le (α:=Int) 0 t.q.1:=by
  by_cases k:LT.lt (α:=Int) t.q.1 0
  .rw[zB k]at c;cases c
  .omega
 rw[aC (by omega:¬LT.lt (α:=Int) t.q.1 0)]at c;have B:LT.lt (α:=Int) t.q.1 (X t.2.1:Int):=by
  by_cases k:GE.ge (α:=Int) t.q.1 (X t.2.1:Int)
  .rw[zB k]at c;cases c
  .omega
 rw[aC (by omega:¬GE.ge (α:=Int) t.q.1 (X t.2.1:Int))]at c;have C:(Y t.2.1 (Z t.q.1) (zi zn)).q=O:=by simpa using c
 have o:=nG (t:=ut) (Φ:=λr=>r=(.kb S,[])) 1 (λi=>.h5 (X t.2.1:Int) (i:Int) (t,())) (λi=>aA (Y t.2.1 i (zi zn)).1=O/\LE.le (α:=Int) 1 (Y t.2.1 i (zi zn)).2.1/\LE.le (α:=Int) (Y t.2.1 i (zi zn)).2.1 3/\aO t.2.1 (Y t.2.1 i (zi zn)).1=(i:Int)) (X t.2.1) (by
  intro i x _;have e:=j.cols _ (cB (d:=zi zn) x);have G:(ut (.h5 (X t.2.1:Int) (i:Int) (t,()))).val=if(bif !aA (Y t.2.1 i (zi zn)).1 then O else bif N (LT.lt (α:=Int) (Y t.2.1 i (zi zn)).2.1 1)then O else bif N (GT.gt (α:=Int) (Y t.2.1 i (zi zn)).2.1 3)then O else aO t.2.1 (Y t.2.1 i (zi zn)).1!=(i:Int))=O then M (.inr (.kb S,[]))else M (.inl (.h5 (X t.2.1:Int) ((i+1:Nat):Int) (t,()))):=by
   simp only[ut,Q8,zO x,zx x,aJ,cD e,fQ e,qc (show X t.2.1<=1000000 by omega),tK (show X t.2.1<=1000000 by omega),zj];rw[zf,zu i um];cases aA (Y t.2.1 i (zi zn)).1<;>cases N (LT.lt (α:=Int) (Y t.2.1 i (zi zn)).2.1 1)<;>cases N (GT.gt (α:=Int) (Y t.2.1 i (zi zn)).2.1 3)<;>rfl
  grind[zU.of,zH.of])
 rcases o with⟨D,o⟩|⟨D,r,o,m⟩
 case inr=>exact zA x o W (w _ m λh=>D h.cols)
 have v5:(ut (.h5 (X t.2.1:Int) (X t.2.1:Int) (t,()))).val=M (.inl (.h11 (X t.2.1:Int) ((0:Nat):Int) (t,()))):=by
  simp only[ut,Q8,zM];rfl
 have s:=o.trans (zH.of v5);have a:=nG (t:=ut) (Φ:=λr=>r=(.kb S,[])) 1 (λi=>.h11 (X t.2.1:Int) (i:Int) (t,())) (λi=>Hq (Y t.r.1 i (zi zk)) (X t.2.1)) (X t.r.1) (by
  intro i x _;have G:(ut (.h11 (X t.2.1:Int) (i:Int) (t,()))).val=if(bif N (LT.lt (α:=Int) (Y t.r.1 i (zi zk)) 0)then O else N (GE.ge (α:=Int) (Y t.r.1 i (zi zk)) (X t.2.1:Int)))=O then M (.inr (.kb S,[]))else M (.inl (.h11 (X t.2.1:Int) ((i+1:Nat):Int) (t,()))):=by
   simp only[ut,Q8,zO x,zx x,aJ,zj];rw[zf,zu i um];cases N (LT.lt (α:=Int) (Y t.r.1 i (zi zk)) 0)<;>rfl
  grind[Hq,zH.of,zU.of])
 rcases a with⟨p,a⟩|⟨p,r,a,m⟩
 case inr=>exact zA x (s.ends a) W (w _ m λh=>p ((aT (Q:=λu=>Hq u (X t.2.1))).2 h.uniq))
 have E:(ut (.h11 (X t.2.1:Int) (X t.r.1:Int) (t,()))).val=M (.inl (.h16 (X t.2.1:Int) ((0:Nat):Int) (t,()))):=by
  simp only[ut,Q8,zM];rfl
 have v:=(s.trans a).trans (zH.of E);have b:=nG (t:=ut) (Φ:=λr=>r=(.kb S,[])) 1 (λi=>.h16 (X t.2.1:Int) (i:Int) (t,())) (λi=>Hq (Y t.t.1 i (zi zG)).1 (X t.2.1)/\aA (Y t.t.1 i (zi zG)).2=O) (X t.t.1) (by
  intro i x _;have e:=j.refs _ (cB (d:=zi zG) x);have G:(ut (.h16 (X t.2.1:Int) (i:Int) (t,()))).val=if(bif N (LT.lt (α:=Int) (Y t.t.1 i (zi zG)).1 0)then O else bif N (GE.ge (α:=Int) (Y t.t.1 i (zi zG)).1 (X t.2.1:Int))then O else !aA (Y t.t.1 i (zi zG)).2)=O then M (.inr (.kb S,[]))else M (.inl (.h16 (X t.2.1:Int) ((i+1:Nat):Int) (t,()))):=by
   simp only[ut,Q8,zO x,zx x,aJ,cD e,fQ e,zj];rw[zf,zu i um];cases N (LT.lt (α:=Int) (Y t.t.1 i (zi zG)).1 0)<;>cases N (GE.ge (α:=Int) (Y t.t.1 i (zi zG)).1 (X t.2.1:Int))<;>rfl
  grind[Hq,zH.of,zU.of])
 rcases b with⟨n,b⟩|⟨n,r,b,m⟩
 case inr=>exact zA x (v.ends b) W (w _ m λh=>n ((aT (Q:=λf:cw=>Hq f.1 (X t.2.1)/\aA f.2=O)).2 h.refs))
 have y:FU t.u t.2.1=O:=by unfold FU;rw[FV j.chk W];rfl
 have z:Ll t.u t.2.1=gJ t.u t.2.1:=by unfold Ll;rw[FV j.chk W];rfl
 have F:(ut (.h16 (X t.2.1:Int) (X t.t.1:Int) (t,()))).val=M (.inr (.bool (gJ t.u t.2.1==(0:Int)),[])):=by
  simp only[ut,Q8,zM,zo,y,z];rfl
 refine zA x (v.ends (b.ends (zU.of F))) W ?_;have:dt t=(gJ t.u t.2.1==(0:Int)):=by
  apply ot.2;rw[l];constructor
  .intro h;rw[h.chk];rfl
  .intro h;exact⟨g,H,P,D,(aT (Q:=λu=>Hq u (X t.2.1))).1 p,(aT (Q:=λf:cw=>Hq f.1 (X t.2.1)/\aA f.2=O)).1 n,⟨A,B⟩,C,bQ h⟩
 rw[this];rfl
theorem oV(h:Dy t):AS t=O:=by unfold AS;rw[O2 h];rfl
theorem tI(h:Dy t):Jq t=dt t:=by unfold Jq;rw[O2 h];rfl
theorem kx.may(h:kx t)(b:(t.u.op==[])=S):dU t.u=O:=by
 have x:=h.chk;unfold gJ at x;have a:gK 16 t.u AG=S:=by rw[Gx,b];rfl
 rw[a,zh sw]at x;rcases zV (dU t.u)with c|c
 .exact c
 .have d:cu t.u t.2.1=(0,1):=by unfold cu;rw[c];rfl
  rw[d]at x;cases x
theorem QX(t:am)(row:zr)(i:Int):fk t row [] i=if MA (lp t.u t.2.1 row) 0=O then(9:Int)else 0:=by rw[fk];rfl
theorem BF(t:am)(h:zr)(x:zp)(r:zr)(i:Nat):fk t h (x::r) (i:Int)=if(cond (x.1==0) ((Y t.2.1 i (Q zn)).q) S)=O then(8:Int)else if(cond (x.1!=0) (x.1!=(Y t.2.1 i (Q zn)).2.1) S)=O then 5 else fk t h r ((i+1:Nat):Int):=by rw[fk];simp only[aJ];rfl
theorem EK{t:am}{h:zr}(p:Dy t)(j:kx t)(s:∀v∈h,mb v)(B:X h=X t.2.1):∀(m i:Nat),X h-i=m->i<=X h->zU GN (m+1) (.h9 h (i:Int) (t,())) (L (fk t h (h.drop i) (i:Int)),[])
 | 0,i,g,A=>by
  obtain rfl:i=X h:=by omega
  have y:=p.ncols;rw[ky,QX];refine zU.of ?_;have w:=j.n8;rcases zV (t.u.op==[])with c|c
  .have g:dU t.u=S:=by
    rcases zV (dU t.u)with x|x
    .rw[S7 x]at c;cases c
    .exact x
   have b:lp t.u t.2.1 h=(0,0,[]):=by unfold lp;rw[g];rfl
   rw[b];simp only[GN,Q8,zM,zo];rw[c];rfl
  .have g:=j.may c;have d:=zbe (cols:=t.2.1) (row:=h) W s p.chk g;have n:CS t.u t.2.1 h=O:=by unfold CS;rw[d];rfl
   have e:Lb t.u t.2.1 h=lp t.u t.2.1 h:=by unfold Lb;rw[d];rfl
   simp only[GN,Q8,zM,zo,n,e,CL,K7];rw[c];show(ite (O=O) (ite (MA (lp t.u t.2.1 h) 0=O) (M (Sum.inr (L 9,[]))) (M (Sum.inr (L 0,[])))) Q2:Option (JW⊕az))=_;rcases zV (MA (lp t.u t.2.1 h) 0)with k|k<;>rw[k]<;>rfl
 | m+1,i,g,A=>by
  have a:i<X h:=by omega
  have w:=j.n8;have C:=EK p j s B m (i+1) W W;have z:h.drop i=Y h i (Q K)::h.drop (i+1):=by
   rw[ij a,bx,af a];rfl
  rw[z,BF];have o:zL (i:Int) (X t.2.1)=O:=zx W;have b:(GN (.h9 h (i:Int) (t,()))).val=if(cond ((Y h i (Q K)).1==0) ((Y t.2.1 i (Q zn)).q) S)=O then M (.inr (L 8,[]))else if(cond ((Y h i (Q K)).1!=0) ((Y h i (Q K)).1!=(Y t.2.1 i (Q zn)).2.1) S)=O then M (.inr (L 5,[]))else M (.inl (.h9 h ((i+1:Nat):Int) (t,()))):=by
   simp only[GN,Q8,zO a,zx a,o,aJ,zj];rw[zu i um];cases((Y h i (Q K)).1==0)<;>cases((Y h i (Q K)).1!=0)<;>rfl
  rcases zV (cond ((Y h i (Q K)).1==0) ((Y t.2.1 i (Q zn)).q) S)with c|c
  .rw[c,zf LY]at b|-;exact(zU.of b).mono W
  .rw[c,zh sw]at b|-;rcases zV (cond ((Y h i (Q K)).1!=0) ((Y h i (Q K)).1!=(Y t.2.1 i (Q zn)).2.1) S)with l|l
   .rw[l,zf LY]at b|-;exact(zU.of b).mono W
   .rw[l,zh sw]at b|-;exact(zH.of b).ends C
theorem EJ{t:am}{h:zr}(l:Dy t)(g:kx t)(j:∀v∈h,mb v)(k:X h=X t.2.1):∀(m i:Nat),X h-i=m->i<=X h->zU GN (m+2+X h) (.h4 h (i:Int) (t,())) (L (ic t h (h.drop i) (i:Int)),[])
 | 0,i,s,p=>by
  obtain rfl:i=X h:=by omega
  rw[ky];have a:(GN (.h4 h (X h:Int) (t,()))).val=M (.inl (.h9 h ((0:Nat):Int) (t,()))):=by
   simp only[GN,Q8,zM];rfl
  have n:=EK l g j k (X h) 0 W W;have e:ic t h [] (X h:Int)=fk t h (h.drop 0) ((0:Nat):Int):=by
   rw[ic];rfl
  rw[e];exact((zH.of a).ends n).mono W
 | m+1,i,s,p=>by
  have x:i<X h:=by omega
  have w:=g.n8;have u:=EJ l g j k m (i+1) W W;have o:h.drop i=Y h i (Q K)::h.drop (i+1):=by
   rw[ij x,bx,af x];rfl
  have b:=(j _ (cB (d:=Q K) x)).q;have e:ic t h (h.drop i) (i:Int)=if(!bf (Y h i (Q K)))=O then(1:Int)else ic t h (h.drop (i+1)) ((i+1:Nat):Int):=by
   rw[o];rw[ic];rfl
  rw[e];have a:(GN (.h4 h (i:Int) (t,()))).val=if(!bf (Y h i (Q K)))=O then M (.inr (L 1,[]))else M (.inl (.h4 h ((i+1:Nat):Int) (t,()))):=by
   simp only[GN,Q8,zO x,zx x,aJ,zj,mz b,pW b];rw[zu i um]
  rcases zV (!bf (Y h i (Q K)))with c|c
  .rw[c,zf LY]at a|-;exact(zU.of a).mono W
  .rw[c,zh sw]at a|-;exact((zH.of a).ends u).mono W
theorem Jp(a:Dy t)(g:∀v∈h,mb v):CY t h=M (cR t h,()):=by
 unfold cR;have x:(zm5 t h).val=if(cond (!dt t) O ((X h:Int)!=(X t.2.1:Int)))=O then M (.inr (L 1,[]))else M (.inl (.h4 h ((0:Nat):Int) (t,()))):=by
  simp only[zm5,Q8,zo,oV a,tI a,zj];rfl
 rcases zV (cond (!dt t) O ((X h:Int)!=(X t.2.1:Int)))with c|c
 .rw[zf c]at x|-;exact zR x rfl
 .rw[zh (by rw[c];simp)]at x|-;have d:dt t=O:=by
   rcases zV (dt t)with k|k
   .exact k
   .rw[k]at c;cases c
  rw[d]at c;have e:X h=X t.2.1:=by
   have:((X h:Int)!=(X t.2.1:Int))=S:=c;simp at this;omega
  have b:=(iH t).1 d;have i:=b.n8;exact zA x (EJ a b g e (X h) 0 W W) W rfl
theorem WK(a:Dy t)(x:∀v∈h,mb v):Li t h=O:=by unfold Li;rw[Jp a x];rfl
theorem zbg(a:Dy t)(x:∀v∈h,mb v):RQ t h=cR t h:=by unfold RQ;rw[Jp a x];rfl
theorem eq3(a b:zp):(a.1==b.1&&(a.2.1==b.2.1&&(a.q==b.q&&O)))=O↔a=b:=by have⟨k,n,s⟩:=a;have⟨h,x,c⟩:=b;simp
theorem xG{rows:List zr}{c:Int}(E:∀r∈rows,zL c (X r)=O)(U:X rows<=1000):∃b,xF rows c=M (b,())/\(b=S↔qY rows c):=by
 have l:=nG (t:=Hx) (Φ:=λr=>r=(.kb O,[])) 1002 (λi=>.h2 rows c (i:Int)) (λi=>∀k,k<i->¬((zN c (Y rows i (Q ze.sl))).1≠0/\zN c (Y rows i (Q ze.sl))=zN c (Y rows k (Q ze.sl)))) (X rows) (by
  intro i x _;have m:(Hx (.h2 rows c (i:Int))).val=M (.inl (.h5 rows c (i:Int) ((0:Nat):Int))):=by
   simp only[Hx,Q8,zO x];rfl
  have P:=nG (t:=Hx) (Φ:=λr=>r=(.kb O,[])) 1 (λk=>.h5 rows c (i:Int) (k:Int)) (λk=>¬((zN c (Y rows i (Q ze.sl))).1≠0/\zN c (Y rows i (Q ze.sl))=zN c (Y rows k (Q ze.sl)))) i (by
   intro k w _;have o:k<X rows:=by omega
   have m:(Hx (.h5 rows c (i:Int) (k:Int))).val=if(cond ((zN c (Y rows i (Q ze.sl))).1!=0) ((zN c (Y rows i (Q ze.sl))).1==(zN c (Y rows k (Q ze.sl))).1&&((zN c (Y rows i (Q ze.sl))).2.1==(zN c (Y rows k (Q ze.sl))).2.1&&((zN c (Y rows i (Q ze.sl))).q==(zN c (Y rows k (Q ze.sl))).q&&O))) S)=O then M (.inr (.kb O,[]))else M (.inl (.h5 rows c (i:Int) ((k+1:Nat):Int))):=by
    simp only[Hx,Q8,zO w,zx x,zx o,E _ (cB (d:=Q ze.sl) x),E _ (cB (d:=Q ze.sl) o),aJ,zj];rw[zf,zu k um];cases((Y (Y rows i (Q ze.sl)) (Z c) (Q K)).1!=0)<;>rfl
   have F:=eq3 (zN c (Y rows i (Q ze.sl))) (zN c (Y rows k (Q ze.sl)));rcases zV ((zN c (Y rows i (Q ze.sl))).1!=0)with a|a
   .have p:(zN c (Y rows i (Q ze.sl))).1≠0:=bne_iff_ne.1 a;rcases zV ((zN c (Y rows i (Q ze.sl))).1==(zN c (Y rows k (Q ze.sl))).1&&((zN c (Y rows i (Q ze.sl))).2.1==(zN c (Y rows k (Q ze.sl))).2.1&&((zN c (Y rows i (Q ze.sl))).q==(zN c (Y rows k (Q ze.sl))).q&&O)))with g|g
    .exact .inr ⟨λh=>h ⟨p,F.1 g⟩,_,zU.of (by rw[m,a,g,zf LY]),rfl⟩
    .exact .inl ⟨λh=>(by rw[F.2 h.2]at g;cases g),zH.of (by rw[m,a,g,zh sw])⟩
   .refine .inl ⟨λh=>h.1 (by simpa using a),zH.of (by rw[m,a,zh sw])⟩)
  rcases P with⟨C,u⟩|⟨C,r,u,z⟩
  .have A:(Hx (.h5 rows c (i:Int) (i:Int))).val=M (.inl (.h2 rows c ((i+1:Nat):Int))):=by
    simp only[Hx,Q8,zM];rw[zu i um];rfl
   exact .inl ⟨C,(((zH.of m).trans u).trans (zH.of A)).mono W⟩
  .exact .inr ⟨C,r,((zH.of m).ends u).mono W,z⟩)
 have H:(∀i,i<X rows->∀k,k<i->¬((zN c (Y rows i (Q ze.sl))).1≠0/\zN c (Y rows i (Q ze.sl))=zN c (Y rows k (Q ze.sl))))↔qY rows c:=by
  unfold qY;rw[List.pairwise_iff_getElem];have e:∀i(x:i<X rows),Y rows i (Q ze.sl)=rows[i]:=λi x=>by rw[bx,af x,bI]
  constructor
  .intro h i j x G v y n;have:=h j G i v;rw[e i x,e j G]at this;exact this ⟨by rw[<-n];exact y,n.symm⟩
  .rintro h i x k w ⟨D,l⟩;rw[e i x]at D l;rw[e k W]at l;exact h k i W x w (by rw[<-l];exact D) l.symm
 have x:(ztF rows c).val=M (.inl (.h2 rows c ((0:Nat):Int))):=rfl;rcases l with⟨B,s⟩|⟨B,r,s,z⟩
 .refine⟨S,zA x (s.ends (zU.of (r:=(.kb S,[])) ?_)) W rfl,⟨λ_=>H.1 B,λ_=>rfl⟩⟩;simp only[Hx,Q8,zM];rfl
 .subst z;exact⟨O,zA x s W rfl,⟨λh=>(by cases h),λh=>zz (H.2 h) B⟩⟩
theorem O6(a:Dy t)(c:dt t=O)(x:zL t.q.1 (X h)=O):FX t h=M (zN t.q.1 h,()):=by
 unfold FX ar bT;have b:N (LT.lt (α:=Int) t.q.1 (X h:Int))=O:=by
  unfold zL at x;simp only[aP]at x;exact x.2
 simp only[ztH,Q8,zo,oV a,tI a,c,x,b];rfl
theorem oX(a:Dy t)(x:dt t=O)(h:zL t.q.1 (X row)=O):AT t row=O:=by unfold AT;rw[O6 a x h];rfl
theorem tL(a:Dy t)(x:dt t=O)(h:zL t.q.1 (X row)=O):Js t row=zN t.q.1 row:=by unfold Js;rw[O6 a x h];rfl
variable {x:ae}{v:zp}
theorem Jr(m:Dy x.1)(u:dt x.1=O)(k:∀r∈x.2,zL x.1.q.1 (X r)=O)(y:X x.2<=1000):C1 x v=M (aj (λr=>bK r x.1.q.1 v) x.2 0,()):=by
 have o:∀r∈x.2,bK r x.1.q.1 v=((zN x.1.q.1 r).1==v.1&&((zN x.1.q.1 r).2.1==v.2.1&&((zN x.1.q.1 r).q==v.q&&O))):=by
  intro r w;have:=k r w;unfold zL at this;simp only[aP]at this;unfold bK;rw[show N (GE.ge (α:=Int) x.1.q.1 0)=O from this.1,this.2];rfl
 have n:=nG (t:=zbX) (Φ:=λr=>r=(L (aj (λr=>bK r x.1.q.1 v) x.2 0),[])) 1 (λi=>.h2 (i:Int) (x,()) (v,())) (λi=>bK (Y x.2 i (Q ze.sl)) x.1.q.1 v=S) (X x.2) (by
  intro i c s;have b:=cB (d:=Q ze.sl) c;have a:=k _ b;have e:N (LT.lt (α:=Int) x.1.q.1 ((Y x.2 i (Q ze.sl)).length:Int))=O:=by
   unfold zL at a;simp only[aP]at a;exact a.2
  have l:(zbX (.h2 (i:Int) (x,()) (v,()))).val=if bK (Y x.2 i (Q ze.sl)) x.1.q.1 v=O then M (.inr (L i,[]))else M (.inl (.h2 ((i+1:Nat):Int) (x,()) (v,()))):=by
   rw[o _ b];simp only[zbX,Q8,zo,zO c,zx c,a,e,oV m,tI m,u,aJ,aN,zj,ov];rw[zu i um]
  rcases zV (bK (Y x.2 i (Q ze.sl)) x.1.q.1 v)with h|h
  .have g:=oI (p:=λr=>bK r x.1.q.1 v) (d:=Q ze.sl) x.2 0 i c h s;refine .inr ⟨by rw[h];simp,_,zU.of (by rw[l,zf h]),?_⟩;show _=(L (aj (λr=>bK r x.1.q.1 v) x.2 0),[]);rw[g];simp
  .exact .inl ⟨h,zH.of (by rw[l,zh (by rw[h];simp)])⟩)
 have c:(ztI x v).val=M (.inl (.h2 ((0:Nat):Int) (x,()) (v,()))):=rfl;rcases n with⟨j,e⟩|⟨j,r,e,rfl⟩
 .have g:=oJ (p:=λr=>bK r x.1.q.1 v) (d:=Q ze.sl) x.2 0 j;rw[g];refine zA c (e.ends (zU.of (r:=(L (-1),[])) ?_)) W rfl;simp only[zbX,Q8,zM];rfl
 .exact zA c e W rfl
theorem WM(c:Dy x.1)(b:dt x.1=O)(h:∀r∈x.2,zL x.1.q.1 (X r)=O)(a:X x.2<=1000):Lo x v=O:=by unfold Lo;rw[Jr c b h a];rfl
theorem zbi(c:Dy x.1)(b:dt x.1=O)(h:∀r∈x.2,zL x.1.q.1 (X r)=O)(a:X x.2<=1000):RT x v=aj (λr=>bK r x.1.q.1 v) x.2 0:=by unfold RT;rw[Jr c b h a];rfl
structure JZ (x:ae):Prop where
 t:Dy x.1
 rows:X x.2<=1000
 vals:∀r∈x.2,∀v∈(r:zr),mb v
theorem JZ.short(h:JZ x):ii x:=⟨h.t.nuq,h.t.nrf,h.rows⟩
theorem IV{t:am}{d:zr}:∀(r:zr)(i:Nat),fk t d r (i:Int)=(0:Int)->∀j,j<X r->(Y t.2.1 (i+j) (Q zn)).q=O->(Y r j (Q K)).1≠0
 |[],_,_,j,b,_=>by simp at b
 | x::r,i,h,j,b,hn=>by
  rw[BF]at h;split at h
  .cases h
  rename_i c;split at h
  .cases h
  cases j with
  | zero=>
   intro e;have a:(x.1==0)=O:=by simpa using e
   rw[a]at c;exact c hn
  | succ j=>
   have:=IV r (i+1) h j (by simpa using b) (by rw[show i+1+j=i+(j+1) by omega];exact hn);exact this
theorem IX{t:am}{row:zr}:∀(r:zr)(i:Nat),ic t row r (i:Int)=(0:Int)->(∀v∈r,bf v=O)/\fk t row row ((0:Nat):Int)=(0:Int)
 | [],i,h=>by
  rw[ic]at h;exact⟨λv a=>(by cases a),h⟩
 | x::r,i,h=>by
  have e:ic t row (x::r) (i:Int)=if(!bf x)=O then(1:Int)else ic t row r ((i+1:Nat):Int):=by
   rw[ic];rfl
  rw[e]at h;split at h
  .cases h
  rename_i c;have⟨b,d⟩:=IX r (i+1) h;refine⟨λv a=>?_,d⟩;rcases bX.1 a with rfl|a
  .simpa using c
  .exact b v a
theorem cK(h:cR t row=(0:Int)):X row=X t.2.1/\(∀v∈row,bf v=O)/\∀j,j<X row->(Y t.2.1 j (Q zn)).q=O->(Y row j (Q K)).1≠0:=by
 have c:=EL (t:=t) (row:=row) (by simpa using h);unfold cR at h;split at h
 .cases h
 have⟨x,a⟩:=IX row 0 h;refine⟨c,x,λj b d=>?_⟩;have:=IV row 0 a j b (by rwa [eV]);exact this
theorem Ft{b:zp}(x:bf v=O)(a:bf b=O)(h:aG v b=(0:Int)):v=b:=by
 unfold aG ak at h;rw[x,a]at h;have h:Jg [ug v.1 b.1,ln v.2.1 b.2.1,px v.q b.q]=(0:Int):=h;rw[<-Rq]at h;rcases zV (v.1==b.1&&(v.2.1==b.2.1&&(v.q==b.q&&O)))with c|c
 .exact(eq3 v b).1 c
 .rw[zh (by rw[c];simp)]at h;split at h<;>cases h
theorem Ln(j:JZ x):∃e:Int,oW x=M (e,())/\(e=0↔dV x):=by
 have h5:=j.rows;have x6:=j.t.nuq;by_cases o:dt x.1=O
 case neg=>
  have x3:dt x.1=S:=by simpa using o
  refine⟨1,?_,λh=>(by cases h),λh=>zz h.may o⟩;unfold oW ar bT;simp only[ZB,Q8,zo,oV j.t,tI j.t,x3];rfl
 by_cases x1:X x.2<=200
 case neg=>
  refine⟨13,?_,λh=>(by cases h),λh=>zz h.few x1⟩;unfold oW ar bT;simp only[ZB,Q8,zo,oV j.t,tI j.t,o];rw[zf trivial,zh sw,zf sg];rfl
 have k:(ZB x).val=M (.inl (.h6 ((0:Nat):Int) (x,()))):=by
  simp only[ZB,Q8,zo,oV j.t,tI j.t,o];rw[zf trivial,zh sw,zh sg];rfl
 have⟨E,x5,x4,_,_⟩:=gR o;have H:=nG (t:=sr) (Φ:=Err) 1 (λi=>.h6 (i:Int) (x,())) (λi=>cR x.1 (Y x.2 i (zi ze.sl))=(0:Int)) (X x.2) (by
  intro i k _;have x0:=j.vals _ (cB (d:=zi ze.sl) k);have B:(sr (.h6 (i:Int) (x,()))).val=if(cR x.1 (Y x.2 i (zi ze.sl))!=0)=O then M (.inr (L (cR x.1 (Y x.2 i (zi ze.sl))),[]))else M (.inl (.h6 ((i+1:Nat):Int) (x,()))):=by
   simp only[sr,Q8,zo,zO k,zx k,aJ,WK j.t x0,zbg j.t x0,zj];rw[zu i um]
  by_cases h:cR x.1 (Y x.2 i (zi ze.sl))=(0:Int)
  .refine .inl ⟨h,zH.of ?_⟩;rw[B,zh (by rw[h];simp)]
  .refine .inr ⟨h,_,zU.of (by rw[B,zf (by simpa using h)]),_,rfl,h⟩)
 rcases H with⟨hf,H⟩|⟨hf,r,H,e,w,g⟩
 case inr=>
  subst w;exact⟨e,zA k H W rfl,λh=>zz h g,λh=>zz ((aT (Q:=λr=>cR x.1 r=(0:Int))).2 h.fits) hf⟩
 have a:=(aT (Q:=λr=>cR x.1 r=(0:Int))).1 hf;have h4:∀r∈x.2,X r=X x.1.2.1:=λr z=>(cK (a r z)).1
 have y:∀c,Hq c (X x.1.2.1)->∀r∈x.2,zL c (X r)=O:=λc hc r z=>by
  rw[h4 r z];exact sX hc
 have⟨b,hb,n⟩:=xG (rows:=x.2) (c:=x.1.q.1) (y _ E) h5;have C:oY x.2 x.1.q.1=O:=by unfold oY;rw[hb];rfl
 have D:tM x.2 x.1.q.1=b:=by unfold tM;rw[hb];rfl
 have h9:(sr (.h6 (X x.2:Int) (x,()))).val=if b=O then M (.inr (L 7,[]))else M (.inl (.h14 ((0:Nat):Int) (x,()))):=by
  simp only[sr,Q8,zM,C,D];rfl
 by_cases v:b=O
 .refine⟨7,zA k (H.ends (zU.of (by rw[h9,zf v]))) W rfl,λh=>(by cases h),λh=>?_⟩;have:=n.2 h.key;rw[v]at this;cases this
 have A:qY x.2 x.1.q.1:=n.1 (by simpa using v);have P:zH sr _ (.h6 ((0:Nat):Int) (x,())) _:=H.trans (zH.of (by rw[h9,zh v]));have l:=nG (t:=sr) (Φ:=Err) 1 (λi=>.h14 (i:Int) (x,())) (λi=>qY x.2 (Y x.1.r.1 i (zi zk))) (X x.1.r.1) (by
  intro i k _;have⟨b,hb,n⟩:=xG (rows:=x.2) (c:=Y x.1.r.1 i (zi zk)) (y _ (x4 _ (cB k))) h5;have C:oY x.2 (Y x.1.r.1 i (zi zk))=O:=by unfold oY;rw[hb];rfl
  have D:tM x.2 (Y x.1.r.1 i (zi zk))=b:=by unfold tM;rw[hb];rfl
  have B:(sr (.h14 (i:Int) (x,()))).val=if b=O then M (.inr (L 7,[]))else M (.inl (.h14 ((i+1:Nat):Int) (x,()))):=by
   simp only[sr,Q8,zO k,zx k,zj,aJ,C,D];rw[zu i um]
  by_cases h:b=O
  .refine .inr ⟨λhu=>?_,_,zU.of (by rw[B,zf h]),7,rfl,by decide⟩;have:=n.2 hu;rw[h]at this;cases this
  .exact .inl ⟨n.1 (by simpa using h),zH.of (by rw[B,zh h])⟩)
 rcases l with⟨hq,l⟩|⟨hq,r,l,e,w,g⟩
 case inr=>
  subst w;exact⟨e,zA k (P.ends l) W rfl,λh=>zz h g,λh=>zz ((aT (Q:=λu=>qY x.2 u)).2 h.uniq) hq⟩
 have F:=(aT (Q:=λu=>qY x.2 u)).1 hq;have h7:(sr (.h14 (X x.1.r.1:Int) (x,()))).val=M (.inl (.h19 ((0+1:Nat):Int) (x,()))):=by
  simp only[sr,Q8,zM];rfl
 have U:=(P.trans l).trans (zH.of h7);have p:∀i,i+1<X x.2->(ph (zN x.1.q.1 (Y x.2 i (zi ze.sl))) (zN x.1.q.1 (Y x.2 (i+1) (zi ze.sl)))↔N (GT.gt (α:=Int) (aG (zN x.1.q.1 (Y x.2 i (zi ze.sl))) (zN x.1.q.1 (Y x.2 (i+1) (zi ze.sl)))) 0)=S):=by
  intro i s;have G:i<X x.2:=by omega
  have m1:=cB (d:=zi ze.sl) G;have m2:=cB (d:=zi ze.sl) s;have⟨l1,f1,n1⟩:=cK (a _ m1);have⟨l2,f2,_⟩:=cK (a _ m2);have hT:=(iH x.1).1 o;have⟨k1,k2⟩:=hT.key;have h3:Z x.1.q.1<(Y x.2 i (zi ze.sl)).length:=by rw[l1];omega
  have x2:Z x.1.q.1<(Y x.2 (i+1) (zi ze.sl)).length:=by rw[l2];omega
  unfold ph;constructor
  .intro h;exact aC W
  .intro h;have h:¬GT.gt (α:=Int) (aG (zN x.1.q.1 (Y x.2 i (zi ze.sl))) (zN x.1.q.1 (Y x.2 (i+1) (zi ze.sl)))) 0:=of_decide_eq_false h;by_cases h0:@Eq Int (aG (zN x.1.q.1 (Y x.2 i (zi ze.sl))) (zN x.1.q.1 (Y x.2 (i+1) (zi ze.sl)))) 0
   .exfalso;have w:=Ft (f1 _ (cB h3)) (f2 _ (cB x2)) h0;have g:=n1 _ h3 hT.nn;have hp:=(List.pairwise_iff_getElem.1 A) i (i+1) G s W;have e1:Y x.2 i (zi ze.sl)=x.2[i]:=by rw[bx,af G,bI]
    have e2:Y x.2 (i+1) (zi ze.sl)=x.2[i+1]:=by rw[bx,af s,bI]
    rw[e1]at g w;rw[e2]at w;exact hp g w
   .omega
 have m:=nG (t:=sr) (Φ:=Err) 1 (λi=>.h19 ((i+1:Nat):Int) (x,())) (λi=>ph (zN x.1.q.1 (Y x.2 i (zi ze.sl))) (zN x.1.q.1 (Y x.2 (i+1) (zi ze.sl)))) (X x.2-1) (by
  intro i k _;have G:i<X x.2:=by omega
  have s:i+1<X x.2:=by omega
  have m1:=cB (d:=zi ze.sl) G;have m2:=cB (d:=zi ze.sl) s;have k1:=y _ E _ m1;have k2:=y _ E _ m2;have o1:∀r∈x.2,(zN x.1.q.1 r).q.length<=1000000:=by
   intro r z;by_cases h:Z x.1.q.1<X r
   .exact(j.vals r z _ (cB h)).q
   .unfold zN;rw[bx,fe W];exact aK _
  have B:(sr (.h19 ((i+1:Nat):Int) (x,()))).val=if N (GT.gt (α:=Int) (aG (zN x.1.q.1 (Y x.2 i (zi ze.sl))) (zN x.1.q.1 (Y x.2 (i+1) (zi ze.sl)))) 0)=O then M (.inr (L 15,[]))else M (.inl (.h19 ((i+1+1:Nat):Int) (x,()))):=by
   simp only[sr,zo,gN i um];simp only[Q8,zO s,zx s,zx G,aJ,bh,oX j.t o k1,oX j.t o k2,tL j.t o k1,tL j.t o k2,vS (o1 _ m1) (o1 _ m2),AQ (o1 _ m1) (o1 _ m2),zj];rw[zu (i+1) um]
  rcases zV (N (GT.gt (α:=Int) (aG (zN x.1.q.1 (Y x.2 i (zi ze.sl))) (zN x.1.q.1 (Y x.2 (i+1) (zi ze.sl)))) 0))with c|c
  .exact .inr ⟨λh=>(by rw[(p i s).1 h]at c;cases c),_,zU.of (by rw[B,zf c]),15,rfl,by decide⟩
  .exact .inl ⟨(p i s).2 c,zH.of (by rw[B,zh (by rw[c];simp)])⟩)
 rcases m with⟨z,m⟩|⟨z,r,m,e,w,g⟩
 case inr=>
  subst w;exact⟨e,zA k (U.ends m) W rfl,λh=>zz h g,λh=>zz h.rise z⟩
 have h8:(sr (.h19 ((X x.2-1+1:Nat):Int) (x,()))).val=M (.inr (L 0,[])):=by
  simp only[sr,Q8];rw[zh sg]
 exact⟨0,zA k (U.ends (m.ends (zU.of h8))) W rfl,λ_=>⟨o,x1,a,A,F,z⟩,λ_=>rfl⟩
theorem vL(c:UInt8)(s o:zK):Lib.index (c::s) o=if o.isPrefixOf (c::s)=O then 0 else if Lib.index s o=-1 then -1 else Lib.index s o+1:=by rw[Lib.index];simp only[bW]
variable {l n:zK}
theorem A3(x:(l==n)=S)(h:Lib.index s l=-1):Lib.replaceAll s l n=s:=by unfold Lib.replaceAll Lib.replace Lib.replaceNum;rw[x,zf (Or.inl (by decide)),Lib.count_miss h];rfl
theorem Gf(a:l≠[])(x:(l==n)=S)(h:Lib.index s l=i):Lib.replaceAll s l n=s.take i++n++Lib.replaceAll (s.drop (i+X l)) l n:=by unfold Lib.replaceAll Lib.replace Lib.replaceNum;rw[x,zf (Or.inl (by decide)),zf (Or.inl (by decide)),Lib.count_hit a h,kS 1];exact Lib.replaceK_hit l n _ s i h
theorem Gg(b:s≠[])(x:(s==l)=S):Lib.replaceAll [] s l=[]:=by
 refine A3 x ?_;cases s with
 |nil=>exact zz rfl b
 |cons a h=>rfl
variable {a:UInt8}
theorem Po(x:l≠[])(h:(l==n)=S)(b:l.isPrefixOf (a::s)=O):Lib.replaceAll (a::s) l n=n++Lib.replaceAll ((a::s).drop (X l)) l n:=by have:=Gf (i:=0) x h (s:=a::s) (by rw[vL,zf b];rfl);simpa using this
theorem JA(b:l≠[])(x:(l==n)=S)(d:l.isPrefixOf (a::s)=S):Lib.replaceAll (a::s) l n=a::Lib.replaceAll s l n:=by
 by_cases h:Lib.index s l=-1
 .rw[A3 x h,A3 x (by rw[vL,zh (by simp[d]),zf h])]
 .obtain⟨i,c⟩:∃i:Nat,Lib.index s l=i:=⟨(Lib.index s l).toNat,by have:=Lib.index_ge s l;omega⟩;rw[Gf b x c,Gf (i:=i+1) b x (by rw[vL,zh (by simp[d]),zh h,c];simp)];simp[Nat.add_right_comm]
theorem za2{x:UInt8}{r:zK}(h:a≠x):(x::l).isPrefixOf (a::r)=S:=by rw[List.isPrefixOf,dX.2 (Ne.symm h)];rfl
def mf:zK->zK
 |[]=>[]
 |c::r=>if c=39 then 39::39::mf r else c::mf r
theorem Ge:∀s:zK,Lib.replaceAll s [39] pq=mf s
 |[]=>Gg sw rfl
 | c::r=>by
  rw[mf];split
  next h=>subst h;rw[Po sw rfl sw];simp[Ge r]
  next h=>rw[JA sw rfl (za2 h),Ge r]
def fR:zK->Option (zK×Nat)
 |[]=>Q2
 |[c]=>if c=39 then M ([],1)else Q2
 |c::d::r=>if c=39 then(if d=39 then(fR r).map λx=>(39::x.1,x.2+2)else M ([],1))else(fR (d::r)).map λx=>(c::x.1,x.2+1)
theorem tV:∀(n:Nat)(s t:zK)(k:Nat),X s<=n->fR s=M (t,k)->1<=k/\k<=X s/\Lib.replaceAll (s.take (k-1)) pq [39]=t
 |_,[],_,_,_,h=>by simp[fR]at h
 | _,[c],t,k,_,h=>by
  rw[fR]at h;split at h
  .simp at h;obtain⟨rfl,rfl⟩:=h;exact⟨sw,sw,by simpa using Gg sw rfl⟩
  .simp at h
 |0,_::_::_,_,_,hn,_=>by simp at hn
 | n+1,c::d::r,t,k,hn,h=>by
  rw[fR]at h;split at h
  .rename_i g;split at h
   next m=>simp only[dW]at h;have⟨⟨i,x⟩,e,a⟩:=h;simp only[cN]at a;obtain⟨rfl,rfl⟩:=a;have⟨l,j,b⟩:=tV n r i x (by simp at hn;omega) e;refine⟨W,sg,?_⟩;subst g;subst m;rw[show x+2-1=(x-1)+2 by omega,List.take_succ_cons,List.take_succ_cons,Po sw rfl sw];simp[b]
   .simp at h;obtain⟨rfl,rfl⟩:=h;exact⟨sw,sw,by simpa using Gg sw rfl⟩
  next g=>simp only[dW]at h;have⟨⟨i,x⟩,e,a⟩:=h;simp only[cN]at a;obtain⟨rfl,rfl⟩:=a;have⟨l,j,b⟩:=tV n (d::r) i x (by simp at hn|-;omega) e;refine⟨W,by simp at j|-;omega,?_⟩;rw[show x+1-1=(x-1)+1 by omega,List.take_succ_cons,JA sw rfl (za2 g),b]
theorem JE(h:a≠39):∀r:zK,fR (a::r)=(fR r).map λx=>(a::x.1,x.2+1)
 |[]=>by simp[fR,h]
 |d::r=>by rw[fR,zh h]
theorem Pw(r:zK):fR (39::39::r)=(fR r).map λx=>(39::x.1,x.2+2):=by rw[fR,zf rfl,zf rfl]
theorem Gy:∀r:zK,r.head?≠M 39->fR (39::r)=M ([],1)
 |[],_=>by rw[fR,zf rfl]
 |d::r,h=>by rw[fR,zf rfl,zh (by simpa using h)]
theorem iB(s:zK)(h:i<X s):s.getD ((i:Int).toNat) 0=s[i]:=by rw[aJ,bx,af h,bI]
theorem ul:((a.toNat:Int)==39)=O↔a=39:=by
 rw[bW];constructor
 .intro h;exact UInt8.toNat_inj.1 (by show a.toNat=39;omega)
 .rintro rfl;rfl
theorem r9:∀(n:Nat)(s:zK)(i:Nat)(a:Int)(b:zK),1<=i->i<=X s->X s+2<=n+i->X s<=1000000000->
  fO n s (i:Int) a b=(match fR (s.drop i)with
   |none=>((0,[]),0)
   |some x=>((3,Lib.replaceAll (List.take (i+x.2-2) (List.drop 1 s)) pq [39]),((i+x.2:Nat):Int)))
 |0,s,i,a,b,k,l,m,e=>by omega
 | n + 1,s,i,a,b,k,l,m,e=>by
  rw[fO];by_cases g:i<X s
  .rw[zf (zB (show(i:Int)<(Io s:Int) by omega)),iB s g,sD i ow,ij g];by_cases d:s[i]=39
   .rw[zh (by simp[bne,ul.2 d]),d];by_cases j:i+1<Io s
    .rw[ij j,iB s j,zB (show((i+1:Nat):Int)<(X s:Int) by omega)];by_cases c:s[i+1]=39
     .rw[zf (by simpa using ul.2 c),sD (i+1) W,r9 n s (i+1+1) a b W W W e,c,Pw];cases fR (s.drop (i+1+1))with
      |none=>rfl
      | some x=>
       simp only[HX];rw[show i+1+1+x.2=i+(x.2+2) by omega]
     .rw[zh (by simpa using λh=>c (ul.1 (by simpa using h))),Gy _ (by rw[List.head?_cons];exact λh=>c (Option.some.inj h))];simp
    .rw[HP (by omega:X s<=i+1),aC (show¬((i+1:Nat):Int)<(X s:Int) by omega),Gy _ sw];simp
   .rw[zf (by simpa[bne]using λh=>d (ul.1 (by simpa using h))),JE d,r9 n s (i+1) a b W W W e];cases fR (s.drop (i+1))with
    |none=>rfl
    | some x=>
     simp only[HX];rw[show i+1+x.2=i+(x.2+1) by omega]
  .rw[zh sg,HP W];rfl
def rB(c:UInt8)(r:zK):dA×Nat:=
 if bt c.toNat=O then((1,(c::r).take (dQ cv r+1)),dQ cv r+1)
 else if aD c.toNat=O then((2,(c::r).take (dQ aD r+1)),dQ aD r+1)
 else if c=39 then(match fR r with|none=>((0,[]),0)|some x=>((3,x.1),x.2+1))
 else((4,[c]),1)
theorem Ap(c:UInt8)(r:zK)(n:(c::r).length<=1000000000):ch (c::r)=((rB c r).1,((rB c r).2:Int)):=by
 have e:bH bt cv (c::r)=if bt c.toNat=O then dQ cv r+1 else 0:=rfl
 have b:bH aD aD (c::r)=if aD c.toNat=O then dQ aD r+1 else 0:=rfl
 unfold ch rB;by_cases g:bt c.toNat=O
 .rw[zf g]at e;simp[e,g]
 .rw[zh g]at e;by_cases i:aD c.toNat=Q3
  .rw[zf i]at b;simp[e,b,g,i]
  .rw[zh i]at b;by_cases j:c=39
   .have o:=r9 ((c::r).length+1) (c::r) 1 0 [] W sw W n;have a:iU (c::r)=_:=o;subst j;have l:bt 39=S:=rfl;have d:aD 39=S:=rfl;cases k:fR r with
    | none=>
     simp only[List.drop_succ_cons,List.drop_zero,k]at a;simp[e,b,l,d,a]
    | some x=>
     have⟨q,s,p⟩:=tV (X r) r x.1 x.2 (zQ _) k;simp only[List.drop_succ_cons,List.drop_zero,k]at a;rw[show 1+x.2-2=x.2-1 by omega,p,kS 1]at a;simp[e,b,l,d,a]
   .have m:¬(c.toNat:Int)=39:=λh=>j (ul.1 (by simpa using h))
    simp[e,b,g,i,j,m]
def yK:Nat->zK->Nat->Bool
 |0,_,_=>S
 |_+1,[],k=>N (k<=400)
 | n+1,c::r,k=>
  if(cond ((c.toNat:Int)==32) O ((c.toNat:Int)==10))=O then yK n r k
  else if dI (rB c r).1=O then yK n ((c::r).drop (rB c r).2) (k+1)else S
theorem yL:∀(n:Nat)(s:zK)(k:Nat),400<k->yK n s k=S
 |0,_,_,_=>rfl
 |_+1,[],k,h=>by rw[yK];exact aC W
 | n+1,c::r,k,h=>by
  rw[yK];split
  .exact yL n r k h
  .split
   .exact yL n _ (k+1) W
   .rfl
theorem DT:∀(n:Nat)(s:zK)(i:Nat)(l:dJ),i<=X s->X s+1<=n+i->X s<=1000000000->X l<=400->((wG n s (i:Int) l).2==(0:Int))=yK n (s.drop i) (X l)
 |0,s,i,l,o,p,d,e=>by omega
 | n + 1,s,i,l,o,p,d,e=>by
  rw[wG];by_cases x:i<X s
  .have m:List.take ((X s:Int).toNat-(i:Int).toNat) (List.drop (i:Int).toNat s)=s.drop i:=by
    simp only[aJ];exact HQ sw
   have h:(s.drop i).length<=1000000000:=by simp;omega
   rw[zf (zB (show(i:Int)<(X s:Int) by omega)),m,iB s x,sD i W];rw[ij x]at h|-;rw[yK];split
   .exact DT n s (i+1) l W W d e
   .rw[Ap _ _ h];simp only;by_cases a:dI (rB s[i] (s.drop (i+1))).1=O
    .rw[zf a];by_cases j:X l=400
     .rw[zf (by rw[a,j];rfl),j,yL n _ _ W];rfl
     .rw[zh (by rw[a];simp;omega)];have g:dI (ch (s[i]::s.drop (i+1))).1=O:=by rw[Ap _ _ h];exact a
      have⟨k,c,q,b⟩:=yu _ (List.cons_ne_nil _ _) h g;rw[Ap _ _ h]at c;have c:(rB s[i] (s.drop (i+1))).2=k:=Int.ofNat.inj c;have t:k<=X s-i:=by rw[<-ij x]at b;simpa using b
      rw[c,show((i:Int)+(k:Int))=((i+k:Nat):Int) by omega,zcf (i+k) W,DT n s (i+k) _ W W d sg,<-ij x,List.drop_drop];simp
    .rw[zh a,zf (by simp[a])];rfl
  .rw[zh sg,HP W];rw[yK];exact(zB e).symm
theorem Yo(m:Nat):nK [IntKind.u8.wrap (Γ Δ (48-Γ Δ (Int.tmod (-(m:Int)) 10)))]=[UInt8.ofNat (48+m%10)]:=by
 have e:Int.tmod (-(m:Int)) 10=-((m%10:Nat):Int):=by rw[Int.neg_tmod];rfl
 have b:m%10<10:=nJ _ W;have h:Γ Δ (-((m%10:Nat):Int))=-((m%10:Nat):Int):=by rw[eK];omega
 have x:Γ Δ (48- -((m%10:Nat):Int))=((48+m%10:Nat):Int):=by rw[eK];omega
 have a:IntKind.u8.wrap ((48+m%10:Nat):Int)=((48+m%10:Nat):Int):=by rw[IntKind.wrap_u8];omega
 rw[e,h,x,a];rfl
theorem zeq(m:Nat)(h:m<=9223372036854775808):Γ Δ (Int.tdiv (-(m:Int)) 10)=-((m/10:Nat):Int):=by
 have e:Int.tdiv (-(m:Int)) 10=-((m/10:Nat):Int):=by rw[Int.neg_tdiv];rfl
 have:m/10<=m:=Nat.div_le_self _ _;rw[e,eK];omega
theorem Yn:∀(f m:Nat)(s:zK),m<10^f->0<f->m<=9223372036854775808->(0<m\/s=[])->X s+f<=1000->zU GK (f+1) (.h2 (-(m:Int)) s) (.str (py f m++s),[])
 |0,_,_,_,h,_,_,_=>by omega
 | f+1,m,s,d,_,i,g,l=>by
  have b:(GK (.h2 (-(m:Int)) s)).val=M (.inl (.h2 (-((m/10:Nat):Int)) ([UInt8.ofNat (48+m%10)]++s))):=by
   show(GK (.h2 _ _)).val=_;have c:(bif N (LT.lt (α:=Int) (-(m:Int)) 0)then O else s==[])=O:=by
    rcases g with h|h
    .rw[zB W];rfl
    .subst h;cases N (LT.lt (α:=Int) (-(m:Int)) 0)<;>rfl
   simp only[GK,Q8,Yo m,zeq m i,zj];rw[zf c,zf (zB sg)]
  by_cases x:m<10
  .have e0:m/10=0:=by omega
   have e:m%10=m:=by omega
   rw[e0,e]at b;have a:py (f+1) m=[UInt8.ofNat (48+m)]:=by rw[py,zf x]
   rw[a];refine((zH.of b).ends (k:=1) (zU.of ?_)).mono W;show(GK (.h2 _ _)).val=_;simp[GK,Q8]
  .have j:0<f:=by
    cases f with
    |zero=>simp at d;omega
    |succ f=>omega
   have:=Yn f (m/10) ([UInt8.ofNat (48+m%10)]++s) (by rw[pm]at d;omega) j W (.inl W) sg;have a:py (f+1) m=py f (m/10)++[UInt8.ofNat (48+m%10)]:=by rw[py,zh x]
   rw[a,M2];exact(zH.of b).ends this
theorem BT{m:Nat}(h:m<=9223372036854775808):tv (-(m:Int))=M (py 20 m,()):=by refine zA (s:=.h2 (-(m:Int)) []) rfl (Yn 20 m [] W W h (.inr rfl) sw) W ?_;rw[wn];rfl
theorem DY:∀s:zK,(mf s).length<=2*X s
 |[]=>by simp[mf]
 | c::r=>by
  have:=DY r;rw[mf];split<;>simp<;>omega
theorem H7(c:UInt8):∀s:zK,mf (s++[c])=mf s++(ite (c=39) pq [c])
 | []=>by
  show mf [c]=_;rw[mf,mf,mf];split<;>rfl
 | d::r=>by
  have:=H7 c r;show mf (d::(r++[c]))=_;rw[mf,mf,this];split<;>rfl
theorem zjB{α:Type}{l:List α}(h:i<X l):l.take (i+1)=l.take i++[l[i]]:=by rw[List.take_add_one,af h];rfl
theorem zop(k:X v.q<=1000000):zU yi (X v.q*1+1) (.h13 [39] 0 (v,())) (.str ([39]++mf v.q++[39]),[]):=by
 have d:=zH.all (t:=yi) 1 (λi=>.h13 ([39]++mf (v.q.take i)) (i:Int) (v,())) (X v.q) (by
  intro i x;refine zH.of ?_;have a:=DY (v.q.take i);have c:(mf (v.q.take i)).length<=2000000:=by simp at a;omega
  have w:Γ Δ ((i:Int)+1)=((i+1:Nat):Int):=zu i um;have g:(N (0<=(i:Int))&&N ((i:Int)<=((i+1:Nat):Int))&&N (((i+1:Nat):Int)<=(X v.q:Int)))=O:=by simp;omega
  have e:List.take (((i+1:Nat):Int).toNat-(i:Int).toNat) (List.drop (i:Int).toNat v.q)=[v.q[i]]:=by
   rw[aJ,aJ,show i+1-i=1 by omega,ij x];rfl
  show(yi (.h13 _ _ _)).val=_;simp only[yi,Q8,w,g,e,zO x,zx x,zj,iB v.q x];rw[zjB x,H7,zf (zB sg)];by_cases h:v.q[i]=39
  .rw[zf (ul.2 h),zf h,zf (zB sg),h];simp
  .rw[zh (λb=>h (ul.1 b)),zh h];simp)
 have a:=DY v.q;have j:(yi (.h13 ([39]++mf (v.q.take (X v.q))) (X v.q:Int) (v,()))).val=M (.inr (.str ([39]++mf v.q++[39]),[])):=by
  show(yi (.h13 _ _ _)).val=_;simp only[yi,Q8,zM,gB];simp;omega
 have:=d.ends (zU.of j);rw[kS]at this;exact this
theorem zfW(x:bf v=O)(j:v.1≠(0:Int))(l:v.1≠(1:Int))(m:v.1≠(2:Int)):(v.1==3)=O/\((eT v==2)=(v.2.1==1)):=by
 have e:(v.1==0)=S:=dX.2 j;have g:(v.1==1)=S:=dX.2 l;have i:(v.1==2)=S:=dX.2 m;have c:=x;unfold bf at x;rw[e,g,i]at x;simp only[zC,zm]at x;cases b:(v.1==3)
 .rw[b]at x;simp at x
 .rw[b]at x;refine⟨rfl,?_⟩;have a:v.2.1=(0:Int)\/v.2.1=(1:Int):=by
   simp at x;by_cases k:v.2.1=(0:Int)
   .exact .inl k
   .by_cases d:v.2.1=(1:Int)
    .exact .inr d
    .simp[k,d]at x
  unfold eT;rw[show(v.1!=3)=S by simp[bne,b],c];rcases a with h|h<;>rw[h]<;>rfl
theorem Jm(D:mb v):CQ v=M (jg v,()):=by
 have⟨B,A,a⟩:=D;have h:=mz (v:=v) a;have e:=pW (v:=v) a;by_cases g:bf v=O
 .have c:(!bf v)=S:=by rw[g];rfl
  by_cases n:v.1=(0:Int)
  .have d:(v.1==0)=O:=bW.2 n;refine zR (r:=(.str Hd,[])) ?_ ?_
   .simp only[BK,Q8,h,e,c,d,zj];rfl
   .unfold jg;rw[n,g];rfl
  have d:(v.1==0)=S:=dX.2 n;by_cases t:v.1=(1:Int)
  .have b:(v.1==1)=O:=bW.2 t;have l:jg v=uJ v.2.1:=by
    unfold jg;rw[c,zh sw,zf b]
   rw[l];unfold uJ;by_cases x:LT.lt (α:=Int) v.2.1 0
   .have k:=BT (m:=v.2.1.natAbs) W;rw[show -((v.2.1.natAbs:Nat):Int)=v.2.1 by omega]at k;have o:lR v.2.1=O:=by unfold lR;rw[k];rfl
    have p:mB v.2.1=py 20 v.2.1.natAbs:=by unfold mB;rw[k];rfl
    have y:=DX 20 v.2.1.natAbs;rw[zf x];refine zR (r:=(.str ([45]++py 20 v.2.1.natAbs),[])) ?_ rfl;simp only[BK,Q8,h,e,c,d,b,zB x,o,p,zj];rw[zh sw,zh sw,zf (zB sg)]
   .have k:=BT (m:=v.2.1.natAbs) W;have E:Γ Δ (0-v.2.1)=-((v.2.1.natAbs:Nat):Int):=by rw[eK];omega
    have o:lR (-((v.2.1.natAbs:Nat):Int))=O:=by unfold lR;rw[k];rfl
    have p:mB (-((v.2.1.natAbs:Nat):Int))=py 20 v.2.1.natAbs:=by unfold mB;rw[k];rfl
    rw[zh x];refine zR (r:=(.str (py 20 v.2.1.natAbs),[])) ?_ rfl;simp only[BK,Q8,h,e,c,d,b,aC x,E,o,p,zj];rw[zh sw,zh sw,zh sw]
  have b:(v.1==1)=S:=dX.2 t;by_cases u:v.1=(2:Int)
  .have i:(v.1==2)=O:=bW.2 u;have l:jg v=[39]++mf v.q++[39]:=by
    unfold jg;rw[c,zh sw,zh (by rw[b];simp),zf i,Ge]
   rw[l];have z:zU yi (X v.q*1+1) (.h13 [39] 0 (v,())) (.str ([39]++mf v.q++[39]),[]):=zop (v:=v) a;refine zA (s:=.h13 [39] 0 (v,())) ?_ z W rfl;simp only[BK,Q8,h,e,c,d,b,i,zj];rfl
  .have i:(v.1==2)=S:=dX.2 u;have⟨w,C⟩:=zfW g n t u;have l:jg v=if(v.2.1==1)=O then Kd else Kc:=by
    unfold jg;rw[c,zh sw,zh (by rw[b];simp),zh (by rw[i];simp),zf w,C]
   rw[l];by_cases j:(v.2.1==1)=O
   .rw[zf j];refine zR (r:=(.str Kd,[])) ?_ rfl;simp only[BK,Q8,h,e,c,d,b,i,j,zj];rfl
   .rw[zh j];refine zR (r:=(.str Kc,[])) ?_ rfl;have j:(v.2.1==1)=S:=by simpa using j
    simp only[BK,Q8,h,e,c,d,b,i,j,zj];rfl
 .have g:bf v=S:=by simpa using g
  refine zR (r:=(.str [],[])) ?_ ?_
  .simp only[BK,Q8,h,e,g,zj];rfl
  .unfold jg;rw[g];rfl
theorem Jl(h:mb v):lC v=O:=by unfold lC;rw[Jm h];rfl
theorem OV(h:mb v):pX v=jg v:=by unfold pX;rw[Jm h];rfl
end Cad
