/- The document's types and values of expressions are the progr. -/
import Derived.Test.YtjdjldbhjmgmkaaGreatDoorP18
namespace Cad
open Go Go.Proofs
open List renaming length->Io,length->X
open IntKind renaming wrap->Γ,i64->Δ
open Tr renaming val->Q8
open Bool renaming true->Q3,true->O,false->S
open Option renaming none->Q2,some->M
open Decidable renaming decide->T
open Int renaming toNat->Z
open List renaming getD->Y
open Tr (chk br re)
open AV (nils agg tup ptr kb str sl)
open Cad renaming ow->W,ai->L,zi->Q,ze->R
set_option maxHeartbeats 4000000
theorem oM{α:Type}{p:α->Bool}{d:α}:∀(l:List α)(k i:Nat),i<X l->p (l.getD i d)=O->(∀j,j<i->p (l.getD j d)=S)->ah p l k=((k+i:Nat):Int)
 |[],_,_,h,_,_=>by simp at h
 | x::r,k,0,_,hp,_=>by
  rw[ah,zf (by simpa using hp)];rfl
 | x::r,k,i+1,h,hp,hj=>by
  have b:=hj 0 W;rw[ah,zh (by simp_all),oM r (k+1) i (by simpa using h) (by simpa using hp) (λj a=>by simpa using hj (j+1) W)];congr 1;omega
theorem oN{α:Type}{p:α->Bool}{d:α}:∀(l:List α)(k:Nat),(∀j,j<X l->p (l.getD j d)=S)->ah p l k=-1
 |[],_,_=>rfl
 | x::r,k,hj=>by
  have a:=hj 0 sw;rw[ah,zh (by simp_all)];exact oN (d:=d) r (k+1) (λj h=>by simpa using hj (j+1) (by simpa using h))
variable {c:aT}{s:zJ}
theorem FU(g:X c<=1000000):FS c s=M (aK c s,()):=by
 have e:=nL (t:=zbL) (Φ:=λr=>r=(L (aK c s),[])) 1 (λi=>.h2 c s (i:Int)) (λi=>((Y c i (Q zn)).1==s)=S) (X c) (by
  grind[Q8,zbL,Sp,Mk,zx,zu,aD,zU.of,oM,aK,zH.of])
 have b:(zmH c s).val=M (.inl (.h2 c s ((0:Nat):Int))):=rfl;rcases e with⟨a,x⟩|⟨a,r,x,rfl⟩
 .have:=oN (p:=λh:cH=>h.1==s) (d:=Q zn) c 0 a;rw[show aK c s=(-1:Int)from this];refine zz b (x.ends (zU.of (r:=(L (-1),[])) ?_)) W rfl;simp only[zbL,Sp,Mk,Q8,zK];rfl
 .exact zz b x W rfl
variable {cols:aT}
theorem qi(h:X cols<=1000000):fw cols s=O:=by unfold fw;rw[FU h];rfl
theorem tM(h:X cols<=1000000):gY cols s=aK cols s:=by unfold gY;rw[FU h];rfl
theorem XF(t u:Int):qQ [t] u=!(cond (t !=u) (t !=0) S):=by grind[qQ,ah]
theorem wq(t h u:Int):qQ [t,h] u=!(cond (cond (t !=u) (t !=0) S) O (cond (h !=u) (h !=0) S)):=by grind[qQ,ah]
variable {e:zg}
theorem RO{g c}(o:X cols<=1000000):∃r k,zU (Ss g c) k (.h5 cols ((0:Nat):Int) (e,())) r/\k<=100000000/\aZ r.2 [zk,zk] r.1=M (if T (LT.lt (α:=Int) (aK cols (zg.s e)) 0)=O then((0:Int),(4:Int),())else((Y cols (Z (aK cols (zg.s e))) (Q zn)).2.1,(0:Int),())):=by
 have l:=nL (t:=Ss g c) (Φ:=λr=>aZ r.2 [zk,zk] r.1=M (if T (LT.lt (α:=Int) (aK cols (zg.s e)) 0)=O then((0:Int),(4:Int),())else((Y cols (Z (aK cols (zg.s e))) (Q zn)).2.1,(0:Int),()))) 1 (λi=>.h5 cols (i:Int) (e,())) (λi=>((Y cols i (Q zn)).1==zg.s e)=S) (X cols) (by
  intro i a m;have n:(Ss g c (.h5 cols (i:Int) (e,()))).val=if((Y cols i (Q zn)).1==zg.s e)=O then M (.inr (.tup [L (Y cols i (Q zn)).2.1,L 0],[]))else M (.inl (.h5 cols ((i+1:Nat):Int) (e,()))):=by
   simp only[Ss,Q8,zN a,zx a,aH,zj];rw[zu i um]
  rcases zV ((Y cols i (Q zn)).1==zg.s e)with h|h
  .refine .inr ⟨by rw[h];simp,_,zU.of (by rw[n,zf h]),?_⟩;have:=oM (p:=λc:cH=>c.1==zg.s e) (d:=Q zn) cols 0 i a h m;rw[show aK cols (zg.s e)=(i:Int) by unfold aK;rw[this];simp,zh (by rw[aY];omega),aH];rfl
  grind[zH.of])
 rcases l with⟨b,x⟩|⟨b,r,x,j⟩
 .have:=oN (p:=λc:cH=>c.1==zg.s e) (d:=Q zn) cols 0 b;refine⟨(.tup [L 0,L 4],[]),_,x.ends (zU.of ?_),W,?_⟩
  .simp only[Ss,Q8,zK];rfl
  .rw[show aK cols (zg.s e)=(-1:Int)from this];rfl
 .exact⟨r,_,x,W,j⟩
theorem tI{cols:aT}(H:X cols<=1000000):∀(i d x:Nat)(e:zg),d<=i->d<=x->cY d e=O->cN i e cols=M ((aa x e cols).1,(aa x e cols).2,())
 |_,0,_,_,_,_,h=>by cases h
 |0,d+1,_,_,h,_,_=>zA h W
 |_,d+1,0,_,_,h,_=>zA h W
 | i+1,d+1,x+1,e,h1,h2,h=>by
  rw[cN,aa];unfold Uf A9;cases gJ h with
  |lit v hv=>rfl
  | col s hw hr=>
   have⟨r,k,j,l,m⟩:=RO (g:=λy z=>gW (cN i y z)) (c:=λy z=>(cN i y z).isSome) (cols:=cols) (e:=.mk fk (0,0,[]) s []) H;refine zz LY j l (m.trans ?_);have n:bd (aa x) (bJ x) cols fk (0:Int) (0:Int) [] s [] [] 0 []=if T (LT.lt (α:=Int) (aK cols s) 0)=O then((0:Int),(4:Int))else((Y cols (Z (aK cols s)) (Q zn)).2.1,(0:Int)):=rfl
   show _=M ((bd (aa x) (bJ x) cols fk (0:Int) (0:Int) [] s [] [] 0 []).1,(bd (aa x) (bJ x) cols fk (0:Int) (0:Int) [] s [] [] 0 []).2,());rw[n];show M (if T (LT.lt (α:=Int) (aK cols s) 0)=O then((0:Int),(4:Int),())else((Y cols (Z (aK cols s)) (Q zn)).2.1,(0:Int),()))=_;grind
  | one op a U P=>
   have E:=tI H i d x a W W P;unfold ap bV;generalize G:(λy z=>gW (cN i y z))=g;generalize F:(λy z=>(cN i y z).isSome)=c;have B:g a cols=aa x a cols:=by rw[<-G];show gW (cN i a cols)=_;rw[E];rfl
   have A:c a cols=O:=by rw[<-F];show(cN i a cols).isSome=_;rw[E];rfl
   rcases U with rfl|rfl
   .have n:bd (aa x) (bJ x) cols oC (0:Int) (0:Int) [] [] [a] [a] 0 []=if((aa x a cols).2!=0)=O then((0:Int),(aa x a cols).2)else if(!qQ [(aa x a cols).1] 3)=O then((0:Int),(5:Int))else((3:Int),(0:Int)):=rfl
    show _=M ((bd (aa x) (bJ x) cols oC (0:Int) (0:Int) [] [] [a] [a] 0 []).1,(bd (aa x) (bJ x) cols oC (0:Int) (0:Int) [] [] [a] [a] 0 []).2,());rw[n,XF];have q:(Hq g c (.mk oC (0,0,[]) [] [a]) cols).val=if c (zt a) cols=O then(ite (((g (zt a) cols).2!=0)=O) (M (.inr (.tup [L 0,L (g (zt a) cols).2],[]))) (ite ((cond ((g (zt a) cols).1!=0) (cond ((g (zt a) cols).1!=3) O (cond ((g (zt a) cols).1!=0) ((g (zt a) cols).1!=3) S)) (cond ((g (zt a) cols).1!=0) ((g (zt a) cols).1!=3) S))=O) (M (.inr (.tup [L 0,L 5],[]))) (M (.inr (.tup [L 3,L 0],[])))))else Q2:=rfl
    rw[q,zo,A,B];generalize aa x a cols=t;rcases zV (t.2!=0)with j|j<;>rcases zV (t.1!=0)with l|l<;>rcases zV (t.1!=3)with m|m<;>(simp only[j,l,m,aI,aJ,zj,zm,zD,cj,dp];rfl)
   .have n:bd (aa x) (bJ x) cols qE (0:Int) (0:Int) [] [] [a] [a] 0 []=if((aa x a cols).2!=0)=O then((0:Int),(aa x a cols).2)else((3:Int),(0:Int)):=rfl
    show _=M ((bd (aa x) (bJ x) cols qE (0:Int) (0:Int) [] [] [a] [a] 0 []).1,(bd (aa x) (bJ x) cols qE (0:Int) (0:Int) [] [] [a] [a] 0 []).2,());rw[n];have q:(Hq g c (.mk qE (0,0,[]) [] [a]) cols).val=if c (zt a) cols=O then(ite (((g (zt a) cols).2!=0)=O) (M (.inr (.tup [L 0,L (g (zt a) cols).2],[]))) (M (.inr (.tup [L 3,L 0],[]))))else Q2:=rfl
    rw[q,zo,A,B];generalize aa x a cols=t;rcases zV (t.2!=0)with j|j<;>(simp only[j,zj,zm,zD];rfl)
  | two op a b U P hb=>
   have E:=tI H i d x a W W P;have kb:=tI H i d x b W W hb;unfold ap bV;generalize G:(λy z=>gW (cN i y z))=g;generalize F:(λy z=>(cN i y z).isSome)=c;have B:g a cols=aa x a cols:=by rw[<-G];show gW (cN i a cols)=_;rw[E];rfl
   have A:c a cols=O:=by rw[<-F];show(cN i a cols).isSome=_;rw[E];rfl
   have D:g b cols=aa x b cols:=by rw[<-G];show gW (cN i b cols)=_;rw[kb];rfl
   have C:c b cols=O:=by rw[<-F];show(cN i b cols).isSome=_;rw[kb];rfl
   rcases U with rfl|rfl|rfl|rfl|rfl|rfl
   .have n:bd (aa x) (bJ x) cols jf (0:Int) (0:Int) [] [] [a,b] [a,b] 0 []=if((aa x a cols).2!=0)=O then((0:Int),(aa x a cols).2)else if((aa x b cols).2!=0)=O then((0:Int),(aa x b cols).2)else if(!qQ [(aa x a cols).1,(aa x b cols).1] 3)=O then((0:Int),(5:Int))else((3:Int),(0:Int)):=rfl
    show _=M ((bd (aa x) (bJ x) cols jf (0:Int) (0:Int) [] [] [a,b] [a,b] 0 []).1,(bd (aa x) (bJ x) cols jf (0:Int) (0:Int) [] [] [a,b] [a,b] 0 []).2,());rw[n,wq];have q:(Hq g c (.mk jf (0,0,[]) [] [a,b]) cols).val=if c (zt a) cols=O then(ite (((g (zt a) cols).2!=0)=O) (M (.inr (.tup [L 0,L (g (zt a) cols).2],[]))) (ite (c (zt b) cols=O) (ite (((g (zt b) cols).2!=0)=O) (M (.inr (.tup [L 0,L (g (zt b) cols).2],[]))) (ite ((cond ((g (zt a) cols).1!=0) (cond ((g (zt a) cols).1!=3) O (cond ((g (zt b) cols).1!=0) ((g (zt b) cols).1!=3) S)) (cond ((g (zt b) cols).1!=0) ((g (zt b) cols).1!=3) S))=O) (M (.inr (.tup [L 0,L 5],[]))) (M (.inr (.tup [L 3,L 0],[]))))) Q2))else Q2:=rfl
    rw[q,zo,zo,A,C,B,D];generalize aa x a cols=t;generalize aa x b cols=u;rcases zV (t.2!=0)with j|j<;>rcases zV (u.2!=0)with l|l<;>rcases zV (t.1!=0)with m|m<;>rcases zV (u.1!=0)with o|o<;>rcases zV (t.1!=3)with p|p<;>rcases zV (u.1!=3)with w|w<;>(simp only[j,l,m,o,p,w,aI,aJ,zj,zm,zD,cj,dp];rfl)
   .have n:bd (aa x) (bJ x) cols wA (0:Int) (0:Int) [] [] [a,b] [a,b] 0 []=if((aa x a cols).2!=0)=O then((0:Int),(aa x a cols).2)else if((aa x b cols).2!=0)=O then((0:Int),(aa x b cols).2)else if(!qQ [(aa x a cols).1,(aa x b cols).1] 3)=O then((0:Int),(5:Int))else((3:Int),(0:Int)):=rfl
    show _=M ((bd (aa x) (bJ x) cols wA (0:Int) (0:Int) [] [] [a,b] [a,b] 0 []).1,(bd (aa x) (bJ x) cols wA (0:Int) (0:Int) [] [] [a,b] [a,b] 0 []).2,());rw[n,wq];have q:(Hq g c (.mk wA (0,0,[]) [] [a,b]) cols).val=if c (zt a) cols=O then(ite (((g (zt a) cols).2!=0)=O) (M (.inr (.tup [L 0,L (g (zt a) cols).2],[]))) (ite (c (zt b) cols=O) (ite (((g (zt b) cols).2!=0)=O) (M (.inr (.tup [L 0,L (g (zt b) cols).2],[]))) (ite ((cond ((g (zt a) cols).1!=0) (cond ((g (zt a) cols).1!=3) O (cond ((g (zt b) cols).1!=0) ((g (zt b) cols).1!=3) S)) (cond ((g (zt b) cols).1!=0) ((g (zt b) cols).1!=3) S))=O) (M (.inr (.tup [L 0,L 5],[]))) (M (.inr (.tup [L 3,L 0],[]))))) Q2))else Q2:=rfl
    rw[q,zo,zo,A,C,B,D];generalize aa x a cols=t;generalize aa x b cols=u;rcases zV (t.2!=0)with j|j<;>rcases zV (u.2!=0)with l|l<;>rcases zV (t.1!=0)with m|m<;>rcases zV (u.1!=0)with o|o<;>rcases zV (t.1!=3)with p|p<;>rcases zV (u.1!=3)with w|w<;>(simp only[j,l,m,o,p,w,aI,aJ,zj,zm,zD,cj,dp];rfl)
   .have n:bd (aa x) (bJ x) cols [61] (0:Int) (0:Int) [] [] [a,b] [a,b] 0 []=if((aa x a cols).2!=0)=O then((0:Int),(aa x a cols).2)else if((aa x b cols).2!=0)=O then((0:Int),(aa x b cols).2)else if(!bif (aa x a cols).1==(aa x b cols).1 then O else bif (aa x a cols).1==0 then O else(aa x b cols).1==0)=O then((0:Int),(5:Int))else((3:Int),(0:Int)):=rfl
    show _=M ((bd (aa x) (bJ x) cols [61] (0:Int) (0:Int) [] [] [a,b] [a,b] 0 []).1,(bd (aa x) (bJ x) cols [61] (0:Int) (0:Int) [] [] [a,b] [a,b] 0 []).2,());rw[n];have q:(Hq g c (.mk [61] (0,0,[]) [] [a,b]) cols).val=if c (zt a) cols=O then(ite (((g (zt a) cols).2!=0)=O) (M (.inr (.tup [L 0,L (g (zt a) cols).2],[]))) (ite (c (zt b) cols=O) (ite (((g (zt b) cols).2!=0)=O) (M (.inr (.tup [L 0,L (g (zt b) cols).2],[]))) (ite ((cond ((g (zt a) cols).1!=0) (cond ((g (zt b) cols).1!=0) ((g (zt a) cols).1!=(g (zt b) cols).1) S) S)=O) (M (.inr (.tup [L 0,L 5],[]))) (M (.inr (.tup [L 3,L 0],[]))))) Q2))else Q2:=rfl
    rw[q,zo,zo,A,C,B,D];generalize aa x a cols=t;generalize aa x b cols=u;simp only[bne];rcases zV (t.2==0)with j|j<;>rcases zV (u.2==0)with l|l<;>rcases zV (t.1==0)with m|m<;>rcases zV (u.1==0)with o|o<;>rcases zV (t.1==u.1)with p|p<;>(simp only[j,l,m,o,p,aI,aJ,zj,zm,zD,cj,dp];rfl)
   .have n:bd (aa x) (bJ x) cols [60] (0:Int) (0:Int) [] [] [a,b] [a,b] 0 []=if((aa x a cols).2!=0)=O then((0:Int),(aa x a cols).2)else if((aa x b cols).2!=0)=O then((0:Int),(aa x b cols).2)else if(!bif (aa x a cols).1==(aa x b cols).1 then O else bif (aa x a cols).1==0 then O else(aa x b cols).1==0)=O then((0:Int),(5:Int))else((3:Int),(0:Int)):=rfl
    show _=M ((bd (aa x) (bJ x) cols [60] (0:Int) (0:Int) [] [] [a,b] [a,b] 0 []).1,(bd (aa x) (bJ x) cols [60] (0:Int) (0:Int) [] [] [a,b] [a,b] 0 []).2,());rw[n];have q:(Hq g c (.mk [60] (0,0,[]) [] [a,b]) cols).val=if c (zt a) cols=O then(ite (((g (zt a) cols).2!=0)=O) (M (.inr (.tup [L 0,L (g (zt a) cols).2],[]))) (ite (c (zt b) cols=O) (ite (((g (zt b) cols).2!=0)=O) (M (.inr (.tup [L 0,L (g (zt b) cols).2],[]))) (ite ((cond ((g (zt a) cols).1!=0) (cond ((g (zt b) cols).1!=0) ((g (zt a) cols).1!=(g (zt b) cols).1) S) S)=O) (M (.inr (.tup [L 0,L 5],[]))) (M (.inr (.tup [L 3,L 0],[]))))) Q2))else Q2:=rfl
    rw[q,zo,zo,A,C,B,D];generalize aa x a cols=t;generalize aa x b cols=u;simp only[bne];rcases zV (t.2==0)with j|j<;>rcases zV (u.2==0)with l|l<;>rcases zV (t.1==0)with m|m<;>rcases zV (u.1==0)with o|o<;>rcases zV (t.1==u.1)with p|p<;>(simp only[j,l,m,o,p,aI,aJ,zj,zm,zD,cj,dp];rfl)
   .have n:bd (aa x) (bJ x) cols [43] (0:Int) (0:Int) [] [] [a,b] [a,b] 0 []=if((aa x a cols).2!=0)=O then((0:Int),(aa x a cols).2)else if((aa x b cols).2!=0)=O then((0:Int),(aa x b cols).2)else if(!qQ [(aa x a cols).1,(aa x b cols).1] 1)=O then((0:Int),(5:Int))else((1:Int),(0:Int)):=rfl
    show _=M ((bd (aa x) (bJ x) cols [43] (0:Int) (0:Int) [] [] [a,b] [a,b] 0 []).1,(bd (aa x) (bJ x) cols [43] (0:Int) (0:Int) [] [] [a,b] [a,b] 0 []).2,());rw[n,wq];have q:(Hq g c (.mk [43] (0,0,[]) [] [a,b]) cols).val=if c (zt a) cols=O then(ite (((g (zt a) cols).2!=0)=O) (M (.inr (.tup [L 0,L (g (zt a) cols).2],[]))) (ite (c (zt b) cols=O) (ite (((g (zt b) cols).2!=0)=O) (M (.inr (.tup [L 0,L (g (zt b) cols).2],[]))) (ite ((cond ((g (zt a) cols).1!=0) (cond ((g (zt a) cols).1!=1) O (cond ((g (zt b) cols).1!=0) ((g (zt b) cols).1!=1) S)) (cond ((g (zt b) cols).1!=0) ((g (zt b) cols).1!=1) S))=O) (M (.inr (.tup [L 0,L 5],[]))) (M (.inr (.tup [L 1,L 0],[]))))) Q2))else Q2:=rfl
    rw[q,zo,zo,A,C,B,D];generalize aa x a cols=t;generalize aa x b cols=u;rcases zV (t.2!=0)with j|j<;>rcases zV (u.2!=0)with l|l<;>rcases zV (t.1!=0)with m|m<;>rcases zV (u.1!=0)with o|o<;>rcases zV (t.1!=1)with p|p<;>rcases zV (u.1!=1)with w|w<;>(simp only[j,l,m,o,p,w,aI,aJ,zj,zm,zD,cj,dp];rfl)
   .have n:bd (aa x) (bJ x) cols [45] (0:Int) (0:Int) [] [] [a,b] [a,b] 0 []=if((aa x a cols).2!=0)=O then((0:Int),(aa x a cols).2)else if((aa x b cols).2!=0)=O then((0:Int),(aa x b cols).2)else if(!qQ [(aa x a cols).1,(aa x b cols).1] 1)=O then((0:Int),(5:Int))else((1:Int),(0:Int)):=rfl
    show _=M ((bd (aa x) (bJ x) cols [45] (0:Int) (0:Int) [] [] [a,b] [a,b] 0 []).1,(bd (aa x) (bJ x) cols [45] (0:Int) (0:Int) [] [] [a,b] [a,b] 0 []).2,());rw[n,wq];have q:(Hq g c (.mk [45] (0,0,[]) [] [a,b]) cols).val=if c (zt a) cols=O then(ite (((g (zt a) cols).2!=0)=O) (M (.inr (.tup [L 0,L (g (zt a) cols).2],[]))) (ite (c (zt b) cols=O) (ite (((g (zt b) cols).2!=0)=O) (M (.inr (.tup [L 0,L (g (zt b) cols).2],[]))) (ite ((cond ((g (zt a) cols).1!=0) (cond ((g (zt a) cols).1!=1) O (cond ((g (zt b) cols).1!=0) ((g (zt b) cols).1!=1) S)) (cond ((g (zt b) cols).1!=0) ((g (zt b) cols).1!=1) S))=O) (M (.inr (.tup [L 0,L 5],[]))) (M (.inr (.tup [L 1,L 0],[]))))) Q2))else Q2:=rfl
    rw[q,zo,zo,A,C,B,D];generalize aa x a cols=t;generalize aa x b cols=u;rcases zV (t.2!=0)with j|j<;>rcases zV (u.2!=0)with l|l<;>rcases zV (t.1!=0)with m|m<;>rcases zV (u.1!=0)with o|o<;>rcases zV (t.1!=1)with p|p<;>rcases zV (u.1!=1)with w|w<;>(simp only[j,l,m,o,p,w,aI,aJ,zj,zm,zD,cj,dp];rfl)
theorem na:mf (0,0,[]):=⟨by decide,by decide,aG _⟩
theorem ou(b:Bool):mf (GV b):=by cases b<;>exact⟨by decide,by decide,aG _⟩
theorem XA:mf (3,0,[]):=ou S
theorem XB:mf (3,1,[]):=ou O
theorem zdq(a b:zq):mf (Hz a b):=by grind[Hz,pm,mO,mP,XA,XB,na]
theorem zly(a b:zq):mf (vOr a b):=by grind[vOr,pm,mO,mP,XB,XA,na]
theorem zds(a:zq):mf (Cp a):=by grind[Cp,pm,mO,mP,XA,XB,na]
theorem zlx(a b:zq):mf (og a b):=by grind[og,na,kk,ou]
theorem XC(a b:zq):mf (uY a b):=by grind[uY,na,kk,ou]
theorem P0(a:zq):mf (ky a):=by unfold ky;rw[kk];exact ou _
theorem MV(n:Int):mf (1,Γ Δ n,[]):=by
 refine⟨?_,?_,aG _⟩
 .grind[IntKind.wrap_i64]
 grind[IntKind.wrap_i64]
theorem MU(a b:zq):mf (qO a b):=by grind[qO,na,MV]
theorem Va(a b:zq):mf (oh a b):=by grind[oh,na,MV]
def wh(c:aT)(h:zr)(s:zJ):zq:=if(cond (T (aK c s<0)) O (T (aK c s>=(X h:Int))))=O then(0,0,[])else h.getD (Z (aK c s)) (Q R)
variable {row:zr}
theorem RM{g c}(v:X cols<=1000000):∃r k,zU (GG g c) k (.h6 cols row ((0:Nat):Int) (e,()) ((0,0,[]),())) r/\k<=100000000/\aZ r.2 [R] r.1=M (wh cols row (zg.s e),()):=by
 have o:=nL (t:=GG g c) (Φ:=λr=>aZ r.2 [R] r.1=M (wh cols row (zg.s e),())) 1 (λi=>.h6 cols row (i:Int) (e,()) ((0,0,[]),())) (λi=>((Y cols i (Q zn)).1==zg.s e)=S) (X cols) (by
  intro i b u;have m:(GG g c (.h6 cols row (i:Int) (e,()) ((0,0,[]),()))).val=if((Y cols i (Q zn)).1==zg.s e)=O then(ite (T ((i:Int)<(X row:Int))=O) (ite (zL (i:Int) (X row)=O) (M (.inr (.agg [L (Y row i (Q R)).1,L (Y row i (Q R)).2.1,.str (Y row i (Q R)).q],[]))) Q2) (M (.inr (.agg [L 0,L 0,.str []],[]))))else M (.inl (.h6 cols row ((i+1:Nat):Int) (e,()) ((0,0,[]),()))):=by
   simp only[GG,Q8,zN b,zx b,aH,zj];rw[zu i um]
  rcases zV ((Y cols i (Q zn)).1==zg.s e)with h|h
  .have x:=oM (p:=λc:cH=>c.1==zg.s e) (d:=Q zn) cols 0 i b h u;have x:aK cols (zg.s e)=(i:Int):=by unfold aK;rw[x];simp
   by_cases l:i<X row
   .refine .inr ⟨by rw[h];simp,_,zU.of (by rw[m,zf h,zf (zN l),zf (zx l)]),?_⟩;unfold wh;rw[x,zh (by simp_all),aH];rfl
   .refine .inr ⟨by rw[h];simp,_,zU.of (by rw[m,zf h,zh (by rw[aY];omega)]),?_⟩;unfold wh;rw[x,zf (by simp_all)];rfl
  grind[zH.of])
 rcases o with⟨j,a⟩|⟨j,r,a,n⟩
 .have x:=oN (p:=λc:cH=>c.1==zg.s e) (d:=Q zn) cols 0 j;refine⟨(.agg [L 0,L 0,.str []],[]),_,a.ends (zU.of ?_),W,?_⟩
  .simp only[GG,Q8,zK];rfl
  .unfold wh;rw[show aK cols (zg.s e)=(-1:Int)from x];rfl
 .exact⟨r,_,a,W,n⟩
variable {h:zr}
theorem zdr(x:∀v∈h,mf v):mf (wh c h s):=by grind[wh,na]
theorem tD{cols:aT}{h:zr}(H:X cols<=1000000)(P:∀v∈h,mf v):∀(l d j:Nat)(e:zg),d<=l->d<=j->cY d e=O->vd e->cW l e cols h=M (ek j cols h e,())/\mf (ek j cols h e)
 |_,0,_,_,_,_,i,_=>by cases i
 |0,d+1,_,_,i,_,_,_=>zA i W
 |_,d+1,0,_,_,i,_,_=>zA i W
 | l+1,d+1,j+1,e,h1,h2,i,B=>by
  rw[cW,ek];unfold Ud;cases gJ i with
  | lit v hv=>
   rw[vd]at B;exact⟨rfl,B.1⟩
  | col s h3 h0=>
   obtain⟨r,k,k1,k2,k3⟩:=RM (g:=λp t u=>iL (cW l p t u)) (c:=λp t u=>(cW l p t u).isSome) (cols:=cols) (row:=h) (e:=.mk fk (0,0,[]) s []) H;exact⟨zz LY k1 k2 k3,zdr P⟩
  | one op a ho U=>
   rw[vd,lC]at B;obtain⟨E,o⟩:=tD H P l d j a W W U B.q.1;unfold ap bV;generalize G:(λp t u=>iL (cW l p t u))=g;generalize F:(λp t u=>(cW l p t u).isSome)=c;have z:g a cols h=ek j cols h a:=by rw[<-G];show iL (cW l a cols h)=_;rw[E];rfl
   have w:c a cols h=O:=by rw[<-F];show(cW l a cols h).isSome=_;rw[E];rfl
   rcases ho with rfl|rfl
   .have m:uv (ek j) cols h (.mk oC (0,0,[]) [] [a])=Cp (ek j cols h a):=rfl;have n:(uJ g c (.mk oC (0,0,[]) [] [a]) cols h).val=if c (zt a) cols h=O then(ite (K8 (g (zt a) cols h)=O) (M (.inr (.agg [L (Jk (g (zt a) cols h)).1,L (Jk (g (zt a) cols h)).2.1,.str (Jk (g (zt a) cols h)).q],[]))) Q2)else Q2:=rfl
    rw[m,n,zo,w,z];generalize ek j cols h a=x at*;rw[za1,zfn];exact⟨rfl,zds _⟩
   .have m:uv (ek j) cols h (.mk qE (0,0,[]) [] [a])=ky (ek j cols h a):=rfl;have n:(uJ g c (.mk qE (0,0,[]) [] [a]) cols h).val=if c (zt a) cols h=O then(ite (nV (g (zt a) cols h)=O) (ite ((!uS (g (zt a) cols h))=O) (M (.inr (.agg [L (bx O).1,L (bx O).2.1,.str (bx O).q],[]))) (ite (mF ((g (zt a) cols h).1==0)=O) (M (.inr (.agg [L (bx ((g (zt a) cols h).1==0)).1,L (bx ((g (zt a) cols h).1==0)).2.1,.str (bx ((g (zt a) cols h).1==0)).q],[]))) Q2)) Q2)else Q2:=rfl
    rw[m,n,zo,w,z];generalize ek j cols h a=x at*;refine⟨?_,P0 _⟩;rw[mE o.q,qa o.q,qc,iZ,iZ];unfold ky aj;rw[kk];cases be x
    .rfl
    .rfl
  | two op a b ho U hb=>
   rw[vd,lC,lC]at B;obtain⟨E,o⟩:=tD H P l d j a W W U B.q.1;obtain⟨kb,A⟩:=tD H P l d j b W W hb B.r.1;unfold ap bV;generalize G:(λp t u=>iL (cW l p t u))=g;generalize F:(λp t u=>(cW l p t u).isSome)=c;have z:g a cols h=ek j cols h a:=by rw[<-G];show iL (cW l a cols h)=_;rw[E];rfl
   have w:c a cols h=O:=by rw[<-F];show(cW l a cols h).isSome=_;rw[E];rfl
   have D:g b cols h=ek j cols h b:=by rw[<-G];show iL (cW l b cols h)=_;rw[kb];rfl
   have C:c b cols h=O:=by rw[<-F];show(cW l b cols h).isSome=_;rw[kb];rfl
   rcases ho with rfl|rfl|rfl|rfl|rfl|rfl
   .have m:uv (ek j) cols h (.mk jf (0,0,[]) [] [a,b])=Hz (ek j cols h a) (ek j cols h b):=rfl;have n:(uJ g c (.mk jf (0,0,[]) [] [a,b]) cols h).val=if c (zt a) cols h=O then(ite (c (zt b) cols h=O) (ite (K5 (g (zt a) cols h) (g (zt b) cols h)=O) (M (.inr (.agg [L (Ji (g (zt a) cols h) (g (zt b) cols h)).1,L (Ji (g (zt a) cols h) (g (zt b) cols h)).2.1,.str (Ji (g (zt a) cols h) (g (zt b) cols h)).q],[]))) Q2) Q2)else Q2:=rfl
    rw[m,n,zo,zo,w,C,z,D];generalize ek j cols h a=x at*;generalize ek j cols h b=y at*;rw[zaZ,zfm];exact⟨rfl,zdq _ _⟩
   .have m:uv (ek j) cols h (.mk wA (0,0,[]) [] [a,b])=vOr (ek j cols h a) (ek j cols h b):=rfl;have n:(uJ g c (.mk wA (0,0,[]) [] [a,b]) cols h).val=if c (zt a) cols h=O then(ite (c (zt b) cols h=O) (ite (Ub (g (zt a) cols h) (g (zt b) cols h)=O) (M (.inr (.agg [L (WB (g (zt a) cols h) (g (zt b) cols h)).1,L (WB (g (zt a) cols h) (g (zt b) cols h)).2.1,.str (WB (g (zt a) cols h) (g (zt b) cols h)).q],[]))) Q2) Q2)else Q2:=rfl
    rw[m,n,zo,zo,w,C,z,D];generalize ek j cols h a=x at*;generalize ek j cols h b=y at*;rw[zfo,zn3];exact⟨rfl,zly _ _⟩
   .have m:uv (ek j) cols h (.mk [61] (0,0,[]) [] [a,b])=og (ek j cols h a) (ek j cols h b):=rfl;have n:(uJ g c (.mk [61] (0,0,[]) [] [a,b]) cols h).val=if c (zt a) cols h=O then(ite (c (zt b) cols h=O) (ite (xt (g (zt a) cols h) (g (zt b) cols h)=O) (M (.inr (.agg [L (tt (g (zt a) cols h) (g (zt b) cols h)).1,L (tt (g (zt a) cols h) (g (zt b) cols h)).2.1,.str (tt (g (zt a) cols h) (g (zt b) cols h)).q],[]))) Q2) Q2)else Q2:=rfl
    rw[m,n,zo,zo,w,C,z,D];generalize ek j cols h a=x at*;generalize ek j cols h b=y at*;rw[RJ o.q A.q,Wy o.q A.q];exact⟨rfl,zlx _ _⟩
   .have m:uv (ek j) cols h (.mk [60] (0,0,[]) [] [a,b])=uY (ek j cols h a) (ek j cols h b):=rfl;have n:(uJ g c (.mk [60] (0,0,[]) [] [a,b]) cols h).val=if c (zt a) cols h=O then(ite (c (zt b) cols h=O) (ite (CO (g (zt a) cols h) (g (zt b) cols h)=O) (M (.inr (.agg [L (AQ (g (zt a) cols h) (g (zt b) cols h)).1,L (AQ (g (zt a) cols h) (g (zt b) cols h)).2.1,.str (AQ (g (zt a) cols h) (g (zt b) cols h)).q],[]))) Q2) Q2)else Q2:=rfl
    rw[m,n,zo,zo,w,C,z,D];generalize ek j cols h a=x at*;generalize ek j cols h b=y at*;rw[Wz o.q A.q,za0 o.q A.q];exact⟨rfl,XC _ _⟩
   .have m:uv (ek j) cols h (.mk [43] (0,0,[]) [] [a,b])=qO (ek j cols h a) (ek j cols h b):=rfl;have n:(uJ g c (.mk [43] (0,0,[]) [] [a,b]) cols h).val=if c (zt a) cols h=O then(ite (c (zt b) cols h=O) (ite (CR (g (zt a) cols h) (g (zt b) cols h)=O) (M (.inr (.agg [L (AS (g (zt a) cols h) (g (zt b) cols h)).1,L (AS (g (zt a) cols h) (g (zt b) cols h)).2.1,.str (AS (g (zt a) cols h) (g (zt b) cols h)).q],[]))) Q2) Q2)else Q2:=rfl
    rw[m,n,zo,zo,w,C,z,D];generalize ek j cols h a=x at*;generalize ek j cols h b=y at*;rw[WC o A,za2 o A];exact⟨rfl,MU _ _⟩
   .have m:uv (ek j) cols h (.mk [45] (0,0,[]) [] [a,b])=oh (ek j cols h a) (ek j cols h b):=rfl;have n:(uJ g c (.mk [45] (0,0,[]) [] [a,b]) cols h).val=if c (zt a) cols h=O then(ite (c (zt b) cols h=O) (ite (xv (g (zt a) cols h) (g (zt b) cols h)=O) (M (.inr (.agg [L (tu (g (zt a) cols h) (g (zt b) cols h)).1,L (tu (g (zt a) cols h) (g (zt b) cols h)).2.1,.str (tu (g (zt a) cols h) (g (zt b) cols h)).q],[]))) Q2) Q2)else Q2:=rfl
    rw[m,n,zo,zo,w,C,z,D];generalize ek j cols h a=x at*;generalize ek j cols h b=y at*;rw[RK o A,WA o A];exact⟨rfl,Va _ _⟩
theorem tj:∀(x k:Nat)(e:zg)(n:Nat),k<=12->n<=60->(jh x e ((13:Int)-k) n).1=O->cY k e=O/\(jh x e ((13:Int)-k) n).2=((n+nE k e:Nat):Int)/\n+nE k e<=60
 |0,_,_,_,_,_,h=>by cases h
 | x+1,0,e,n,_,_,h=>by
  rw[jh]at h;unfold Cj at h;rw[zf LY]at h;cases h
 | x + 1,k+1,.mk o v s l,n,h1,h2,h=>by
  have U:Γ Δ ((n:Int)+1)=((n+1:Nat):Int):=zu n um;have A:Γ Δ ((13:Int)-((k+1:Nat):Int)+1)=(13:Int)-(k:Int):=by rw[fi];omega
  have E:T ((13:Int)-((k+1:Nat):Int)>12)=S:=aB W;rw[jh]at h|-
  have e0:∀m:Int,Cj (jh x) (.mk o v s l) m n=if(cond (T (m>12)) O (cond (T (((n+1:Nat):Int)>60)) O ((X l:Int)!=dU o)))=O then(S,((n+1:Nat):Int))else
    if(o==pC)=O then(cond (s==[]) (be v) S,((n+1:Nat):Int))else
    if(o==fk)=O then(cond (bE v) (cond (eU s) (!kh s) S) S,((n+1:Nat):Int))else
    if(cond (!bE v) O (!s==[]))=O then(S,((n+1:Nat):Int))else qU (jh x) m l ((n+1:Nat):Int):=by
   intro m;unfold Cj;rw[U];rfl
  rw[e0,E]at h|-;rcases zV (T (((n+1:Nat):Int)>60))with t|t
  .rw[t,zf LY]at h;cases h
  rcases zV ((X l:Int)!=dU o)with u|u
  .rw[t,u,zf LY]at h;cases h
  have B:n+1<=60:=by simp at t;omega
  have q:(X l:Int)=dU o:=by simpa using u
  rw[t,u,zh sw]at h|-;rcases nz o with⟨p,g⟩|⟨p,g⟩|⟨p,g⟩|p
  .have F:l=[]:=DB W;subst F;rcases g with rfl|rfl
   .rw[zf LY]at h|-;have⟨a,b⟩:=dd h;refine⟨?_,by simp[nE],by simp[nE];omega⟩;simp[cY,b,bX a]
   .rw[zh (by decide),zf LY]at h|-;have⟨a,b⟩:=dd h;have⟨b,c⟩:=dd b;refine⟨?_,by simp[nE],by simp[nE];omega⟩;have D:kh s=S:=by simpa using c
    simp[cY,a,b,D]
  .obtain⟨a,rfl⟩:∃a,l=[a]:=List.length_eq_one_iff.1 W;have o1:(o==pC)=S:=by rcases g with rfl|rfl<;>rfl
   have o2:(o==fk)=S:=by rcases g with rfl|rfl<;>rfl
   have o3:(cond (o==oC) O (o==qE))=O:=by rcases g with rfl|rfl<;>rfl
   rw[zh (by rw[o1];simp),zh (by rw[o2];simp)]at h|-;rcases zV (bE v)with d|d
   .rcases zV (s==[])with i|i
    .rw[d,i,zh sw]at h|-;rw[qU,A]at h|-;rcases zV (jh x a ((13:Int)-(k:Int)) ((n+1:Nat):Int)).1 with j|j
     .have⟨y,z,C⟩:=tj x k a (n+1) W B j;rw[j,zh sw];refine⟨by simp[cY,o1,o2,o3,d,i,y],?_,by simp[nE];omega⟩;rw[qU];show(jh x a ((13:Int)-(k:Int)) ((n+1:Nat):Int)).2=_;rw[z];simp[nE];omega
     .rw[j,zf LY]at h;cases h
    .rw[d,i,zf LY]at h;cases h
   .rw[d,zf LY]at h;cases h
  .obtain⟨a,b,rfl⟩:∃a b,l=[a,b]:=by
    match l,q with
    |[a,b],_=>exact⟨a,b,rfl⟩
    |[],q=>exact zA q (by rw[p];simp)
    |[_],q=>exact zA q (by rw[p];simp)
    |_::_::_::_,q=>exact zA q (by rw[p];simp;omega)
   have o1:(o==pC)=S:=by rcases g with rfl|rfl|rfl|rfl|rfl|rfl<;>rfl
   have o2:(o==fk)=S:=by rcases g with rfl|rfl|rfl|rfl|rfl|rfl<;>rfl
   have o3:(cond (o==oC) O (o==qE))=S:=by rcases g with rfl|rfl|rfl|rfl|rfl|rfl<;>rfl
   have P:Hy o=O:=by rcases g with rfl|rfl|rfl|rfl|rfl|rfl<;>rfl
   rw[zh (by rw[o1];simp),zh (by rw[o2];simp)]at h|-;rcases zV (bE v)with d|d
   .rcases zV (s==[])with i|i
    .rw[d,i,zh sw]at h|-;rw[qU,A]at h|-;rcases zV (jh x a ((13:Int)-(k:Int)) ((n+1:Nat):Int)).1 with j|j
     .have⟨y,z,C⟩:=tj x k a (n+1) W B j;rw[j,zh sw]at h|-;rw[z,qU,A]at h|-;rcases zV (jh x b ((13:Int)-(k:Int)) ((n+1+nE k a:Nat):Int)).1 with w|w
      .have⟨G,H,j3⟩:=tj x k b (n+1+nE k a) W C w;rw[w,zh sw];refine⟨by simp[cY,o1,o2,o3,P,d,i,y,G],?_,by simp[nE];omega⟩;rw[qU];show(jh x b ((13:Int)-(k:Int)) ((n+1+nE k a:Nat):Int)).2=_;rw[H];simp[nE];omega
      .rw[w,zf LY]at h;cases h
     .rw[j,zf LY]at h;cases h
    .rw[d,i,zf LY]at h;cases h
   .rw[d,zf LY]at h;cases h
  .omega
theorem yN(e:zg):ea e=(cond (cY 12 e) (T (nE 12 e<=60)) S):=by
 unfold ea;rcases zV (jh 16 e 1 0).1 with c|c
 .have⟨a,_,d⟩:=tj 16 12 e 0 W W c;rw[c,a,zB W];rfl
 .rw[c];rcases zV (cY 12 e)with g|g
  .rw[g];by_cases h:nE 12 e<=60
   .have:=tk 16 12 e 0 W W g W;have b:(jh 16 e 1 0).1=O:=by
     have x:jh 16 e 1 0=(O,((0+nE 12 e:Nat):Int)):=this;rw[x]
    rw[b]at c;cases c
   .rw[aB h];rfl
  .rw[g];rfl
theorem OW(j:vd e):FP e=M (ea e,()):=by
 have d:Le e 12=M (cY 12 e,()):=Jp 16 12 e W W j;have x:CY e 12=O:=by unfold CY;rw[d];rfl
 have a:Ld e 12=cY 12 e:=by unfold Ld;rw[d];rfl
 unfold FP ap bV;simp only[zti,Q8,zo,x,a];rw[yN];rcases zV (cY 12 e)with g|g
 .have i:FR e=M ((nE 12 e:Int),()):=qh 16 12 e W W g;have b:xC e=O:=by unfold xC;rw[i];rfl
  have c:CZ e=(nE 12 e:Int):=by unfold CZ;rw[i];rfl
  rw[g,b,c];have:T (((nE 12 e:Nat):Int)<=60)=T (nE 12 e<=60):=by
   by_cases h:nE 12 e<=60
   .rw[zB h,zB W]
   .rw[aB h,aB W]
  rw[this];rfl
 .rw[g];rfl
theorem oX(h:vd e):vW e=O:=by unfold vW;rw[OW h];rfl
theorem tE(h:vd e):FO e=ea e:=by unfold FO;rw[OW h];rfl
theorem mm(h:ea e=O):cY 12 e=O:=by rw[yN]at h;exact(dd h).1
theorem OY(x:X cols<=1000000)(h:ea e=O):CX e cols=M ((cv e cols).1,(cv e cols).2,()):=by have:=tI x 16 12 16 e W W (mm h);unfold CX cv;rw[this,h];rfl
theorem za3(x:X cols<=1000000)(a:∀v∈row,mf v)(b:vd e)(h:ea e=O):CV e cols row=M (lr e cols row,()):=by have:=(tD x a 16 12 16 e W W (mm h) b).1;unfold CV lr;rw[this,h];rfl
theorem Gx(e:zg):gN 16 e AH=(e.op==[]&&(bE e.v&&(e.s==[]&&e.l.length==0))):=by
 show Pw (gN 15) e AH=_;unfold Pw QR eqV bE;have⟨o,v,s,l⟩:=e;simp only[zg.op,zg.v,zg.s,zg.l];cases l with
 | nil=>
  simp only[qA,eqL];cases(o==[])<;>cases(v.1==0&&(v.2.1==0&&(v.q==[]&&O)))<;>cases(s==[])<;>rfl
 | cons x r=>
  have:(((x::r).length:Int)!=(([]:List zg).length:Int))=O:=by simp;omega
  simp only[this];cases(o==[])<;>cases(v.1==0&&(v.2.1==0&&(v.q==[]&&O)))<;>cases(s==[])<;>rfl
theorem RN(e:zg):CW e AH=M (gN 16 e AH,()):=by
 rw[Gx];show cE 16 e AH=_;rw[cE];unfold Lb;rcases zV (e.op==[])with h|h
 .rcases zV (bE e.v)with c|c
  .rcases zV (e.s==[])with x|x
   .by_cases b:e.l.length=0
    .refine zz (s:=.h4 0 (e,()) (AH,())) (k:=1) (r:=(.kb O,[])) ?_ (zU.of ?_) W ?_
     .unfold bE at c;simp only[Hp,Q8];have a:(((zg.l e).length:Int)!=(([]:List zg).length:Int))=S:=by simp[b]
      show(ite ((cond (!(e.op==[])) O (cond (!(e.v.1==0&&(e.v.2.1==0&&(e.v.q==[]&&O)))) O (cond (!(e.s==[])) O (((zg.l e).length:Int)!=(([]:List zg).length:Int)))))=O) _ _)=_;rw[h,c,x,a];rfl
     .have d:T ((0:Int)<((zg.l e).length:Int))=S:=aB (by rw[b];omega);simp only[PG,Mo,Dp,Q8];rw[d];rfl
     .rw[h,c,x,b];rfl
    .have a:(((zg.l e).length:Int)!=(([]:List zg).length:Int))=O:=bne_iff_ne.2 (by show((zg.l e).length:Int)≠0;omega);have d:((zg.l e).length==0)=S:=dX.2 b;refine zQ (r:=(.kb S,[])) ?_ ?_
     .unfold bE at c;simp only[Hp,Q8];show(ite ((cond (!(e.op==[])) O (cond (!(e.v.1==0&&(e.v.2.1==0&&(e.v.q==[]&&O)))) O (cond (!(e.s==[])) O (((zg.l e).length:Int)!=(([]:List zg).length:Int)))))=O) _ _)=_;rw[h,c,x,a];rfl
     .rw[h,c,x,d];rfl
   .refine zQ (r:=(.kb S,[])) ?_ ?_
    .unfold bE at c;simp only[Hp,Q8];show(ite ((cond (!(e.op==[])) O (cond (!(e.v.1==0&&(e.v.2.1==0&&(e.v.q==[]&&O)))) O (cond (!(e.s==[])) O (((zg.l e).length:Int)!=(([]:List zg).length:Int)))))=O) _ _)=_;rw[h,c,x];rfl
    .rw[h,c,x];rfl
  .refine zQ (r:=(.kb S,[])) ?_ ?_
   .unfold bE at c;simp only[Hp,Q8];show(ite ((cond (!(e.op==[])) O (cond (!(e.v.1==0&&(e.v.2.1==0&&(e.v.q==[]&&O)))) O (cond (!(e.s==[])) O (((zg.l e).length:Int)!=(([]:List zg).length:Int)))))=O) _ _)=_;rw[h,c];rfl
   .rw[h,c];rfl
 .refine zQ (r:=(.kb S,[])) ?_ ?_
  .simp only[Hp,Q8];show(ite ((cond (!(e.op==[])) O (cond (!(e.v.1==0&&(e.v.2.1==0&&(e.v.q==[]&&O)))) O (cond (!(e.s==[])) O (((zg.l e).length:Int)!=(([]:List zg).length:Int)))))=O) _ _)=_;rw[h];rfl
  .rw[h];rfl
theorem S5(h:ea e=O):(e.op==[])=S:=by
 have d:=mm h;cases gJ d with
 |lit v j=>rfl
 |col s k i=>rfl
 |one o a x c=>rcases x with rfl|rfl<;>rfl
 |two o a b x c g=>rcases x with rfl|rfl|rfl|rfl|rfl|rfl<;>rfl
theorem FW(l:vd e)(o:X c<=1000000):r9 e c=M (jC e c,()):=by
 have j:=RN e;have b:gV e AH=O:=by unfold gV;rw[j];rfl
 have d:fJ e AH=gN 16 e AH:=by unfold fJ;rw[j];rfl
 unfold r9 ap bV;simp only[ziq,Q8,zo,oX l,tE l];unfold jC;rcases zV (e.op==[])with x|x
 .have p:ea e=S:=by
   rcases zV (ea e)with h|h
   .rw[S5 h]at x;cases x
   .exact h
  have a:cv e c=(0,1):=by unfold cv;rw[p];rfl
  rw[x,b,d,a];rcases zV (gN 16 e AH)with h|h<;>rw[h]<;>rfl
 .have q:gN 16 e AH=S:=by rw[Gx,x];rfl
  rw[x,q];rcases zV (ea e)with h|h
  .have a:=OY (cols:=c) o h;have g:qe e c=O:=by unfold qe;rw[a];rfl
   have i:jy e c=cv e c:=by unfold jy;rw[a];rfl
   rw[h,g,i];generalize cv e c=t;have⟨t,r⟩:=t;rcases zV (r==0)with k|k
   .have e0:r=0:=bX k;subst e0;rcases zV (t==0)with m|m<;>rcases zV (t==3)with n|n<;>(simp only[bne,m,n];rfl)
   .simp only[bne,k];rfl
  .have a:cv e c=(0,1):=by unfold cv;rw[h];rfl
   rw[h,a];rfl
structure me (t:al):Prop where
 name:az t.1=O
 n1:1<=X t.2.1
 n8:X t.2.1<=8
 cols:∀i,i<X t.2.1->az (Y t.2.1 i (Q zn)).1=O/\LE.le (α:=Int) 1 (Y t.2.1 i (Q zn)).2.1/\LE.le (α:=Int) (Y t.2.1 i (Q zn)).2.1 3/\aK t.2.1 (Y t.2.1 i (Q zn)).1=(i:Int)
 uniq:∀u∈t.r.1,IY u (X t.2.1)
 refs:∀f∈t.t.1,IY f.1 (X t.2.1)/\az f.2=O
 key:IY t.q.1 (X t.2.1)
 nn:(Y t.2.1 (Z t.q.1) (Q zn)).q=O
 chk:jC t.u t.2.1=(0:Int)
variable {t:al}{i:Nat}
theorem Nd:Qr t i=O↔(az (Y t.2.1 i (Q zn)).1=O/\LE.le (α:=Int) 1 (Y t.2.1 i (Q zn)).2.1/\LE.le (α:=Int) (Y t.2.1 i (Q zn)).2.1 3/\aK t.2.1 (Y t.2.1 i (Q zn)).1=(i:Int)):=by
 unfold Qr;have e:zZ t (Y t.2.1 i (Q zn)).1=aK t.2.1 (Y t.2.1 i (Q zn)).1:=rfl;rw[e];generalize Y t.2.1 i (Q zn)=c;cases az c.1
 .simp
 .by_cases x:LT.lt (α:=Int) c.2.1 1
  .rw[zB x];simp;intro h;omega
  .rw[aB x];by_cases a:GT.gt (α:=Int) c.2.1 3
   .rw[zB a];simp;intro _ h;omega
   .rw[aB a];exact⟨λh=>⟨rfl,W,W,by simpa using h⟩,λh=>by simpa using h.r⟩
theorem jE(t:al):dM t=O↔me t:=by
 have n:=A0 (l:=t.r.1) (d:=Q zk) (p:=λu=>At u (X t.2.1));simp only[rJ]at n;have o:(!(cond (!az t.1) O (cond (T ((X t.2.1:Int)<1)) O (T ((X t.2.1:Int)>8)))))=O↔(az t.1=O/\1<=X t.2.1/\X t.2.1<=8):=by
  cases az t.1
  .simp
  .by_cases x:(X t.2.1:Int)<1
   .rw[zB x];simp;omega
   .rw[aB x];simp;omega
 have x:(List.range (X t.2.1)).all (Qr t)=O↔∀i,i<X t.2.1->Qr t i=O:=by
  rw[eu];simp only[rk]
 unfold dM;rw[aN,o,aN,x,aN,n,aN,Pk,aN,rJ,aN,bW];exact⟨λ⟨⟨a,b,c⟩,d,e,f,g,i,j⟩=>⟨a,b,c,λk m=>Nd.1 (d k m),e,f,g,i,j⟩,λh=>⟨⟨h.name,h.n1,h.n8⟩,λk m=>Nd.2 (h.cols k m),h.uniq,h.refs,h.key,h.nn,h.chk⟩⟩
structure DA (t:al):Prop where
 name:X t.1<=1000000
 cols:∀c∈t.2.1,X c.1<=1000000
 ncols:X t.2.1<=1000
 nuq:X t.r.1<=1000
 nrf:X t.t.1<=1000
 refs:∀f∈t.t.1,X f.2<=1000000
 chk:vd t.u
theorem O2(j:DA t):Li t=M (dM t,()):=by
 have l:=jE t;have U:=j.ncols;have h0:=j.nuq;have h2:=j.nrf;have w:∀r:aw,r=(.kb S,[])->¬me t->aZ r.2 [Sh.bool] r.1=M (dM t,()):=by
  intro r m h;have:dM t=S:=by
   rcases zV (dM t)with c|c
   .exact zA (l.1 c) h
   .exact c
  rw[m,this];rfl
 have x:(zmJ t).val=if(bif !az t.1 then O else bif T ((X t.2.1:Int)<1)then O else bif T ((X t.2.1:Int)>8)then O else bif T (LT.lt (α:=Int) t.q.1 0)then O else bif T (GE.ge (α:=Int) t.q.1 (X t.2.1:Int))then O else !(Y t.2.1 (Z t.q.1) (zi zn)).q)=O then M (.inr (.kb S,[]))else M (.inl (.h5 (X t.2.1:Int) ((0:Nat):Int) (t,()))):=by
  simp only[zmJ,Q8,cF j.name,fT j.name];rw[zf]
  .rfl
  .grind[zL]
 rcases zV (bif !az t.1 then O else bif T ((X t.2.1:Int)<1)then O else bif T ((X t.2.1:Int)>8)then O else bif T (LT.lt (α:=Int) t.q.1 0)then O else bif T (GE.ge (α:=Int) t.q.1 (X t.2.1:Int))then O else !(Y t.2.1 (Z t.q.1) (zi zn)).q)with c|c
 .rw[zf c]at x;refine zQ x (w _ rfl λh=>?_);have⟨k1,k2⟩:=h.key;have e1:=h.n1;grind[me.n8,me.name,me.nn]
 rw[zh (by rw[c];simp)]at x;have g:az t.1=O:=by
  rcases zV (az t.1)with k|k
  .exact k
  .rw[k]at c;cases c
 rw[g]at c;have H:1<=X t.2.1:=by
  by_cases k:(X t.2.1:Int)<1
  .rw[zB k]at c;cases c
  .omega
 rw[aB (by omega:¬(X t.2.1:Int)<1)]at c;have P:X t.2.1<=8:=by
  by_cases k:(X t.2.1:Int)>8
  .rw[zB k]at c;cases c
  .omega
 rw[aB (by omega:¬(X t.2.1:Int)>8)]at c;have A:LE.le (α:=Int) 0 t.q.1:=by
  by_cases k:LT.lt (α:=Int) t.q.1 0
  .rw[zB k]at c;cases c
  .omega
 rw[aB (by omega:¬LT.lt (α:=Int) t.q.1 0)]at c;have B:LT.lt (α:=Int) t.q.1 (X t.2.1:Int):=by
  by_cases k:GE.ge (α:=Int) t.q.1 (X t.2.1:Int)
  .rw[zB k]at c;cases c
  .omega
 rw[aB (by omega:¬GE.ge (α:=Int) t.q.1 (X t.2.1:Int))]at c;have C:(Y t.2.1 (Z t.q.1) (zi zn)).q=O:=by simpa using c
 have o:=nL (t:=ut) (Φ:=λr=>r=(.kb S,[])) 1 (λi=>.h5 (X t.2.1:Int) (i:Int) (t,())) (λi=>az (Y t.2.1 i (zi zn)).1=O/\LE.le (α:=Int) 1 (Y t.2.1 i (zi zn)).2.1/\LE.le (α:=Int) (Y t.2.1 i (zi zn)).2.1 3/\aK t.2.1 (Y t.2.1 i (zi zn)).1=(i:Int)) (X t.2.1) (by
  intro i x _;have e:=j.cols _ (cD (d:=zi zn) x);have G:(ut (.h5 (X t.2.1:Int) (i:Int) (t,()))).val=if(bif !az (Y t.2.1 i (zi zn)).1 then O else bif T (LT.lt (α:=Int) (Y t.2.1 i (zi zn)).2.1 1)then O else bif T (GT.gt (α:=Int) (Y t.2.1 i (zi zn)).2.1 3)then O else aK t.2.1 (Y t.2.1 i (zi zn)).1!=(i:Int))=O then M (.inr (.kb S,[]))else M (.inl (.h5 (X t.2.1:Int) ((i+1:Nat):Int) (t,()))):=by
   simp only[ut,Q8,zN x,zx x,aH,cF e,fT e,qi (show X t.2.1<=1000000 by omega),tM (show X t.2.1<=1000000 by omega),zj];rw[zf,zu i um];cases az (Y t.2.1 i (zi zn)).1<;>cases T (LT.lt (α:=Int) (Y t.2.1 i (zi zn)).2.1 1)<;>cases T (GT.gt (α:=Int) (Y t.2.1 i (zi zn)).2.1 3)<;>rfl
  grind[zU.of,zH.of])
 rcases o with⟨D,o⟩|⟨D,r,o,m⟩
 case inr=>exact zz x o W (w _ m λh=>D h.cols)
 have v5:(ut (.h5 (X t.2.1:Int) (X t.2.1:Int) (t,()))).val=M (.inl (.h11 (X t.2.1:Int) ((0:Nat):Int) (t,()))):=by
  simp only[ut,Q8,zK];rfl
 have s:=o.trans (zH.of v5);have a:=nL (t:=ut) (Φ:=λr=>r=(.kb S,[])) 1 (λi=>.h11 (X t.2.1:Int) (i:Int) (t,())) (λi=>IY (Y t.r.1 i (zi zk)) (X t.2.1)) (X t.r.1) (by
  intro i x _;have G:(ut (.h11 (X t.2.1:Int) (i:Int) (t,()))).val=if(bif T (LT.lt (α:=Int) (Y t.r.1 i (zi zk)) 0)then O else T (GE.ge (α:=Int) (Y t.r.1 i (zi zk)) (X t.2.1:Int)))=O then M (.inr (.kb S,[]))else M (.inl (.h11 (X t.2.1:Int) ((i+1:Nat):Int) (t,()))):=by
   simp only[ut,Q8,zN x,zx x,aH,zj];rw[zf,zu i um];cases T (LT.lt (α:=Int) (Y t.r.1 i (zi zk)) 0)<;>rfl
  grind[IY,zH.of,zU.of])
 rcases a with⟨p,a⟩|⟨p,r,a,m⟩
 case inr=>exact zz x (s.ends a) W (w _ m λh=>p ((aO (Q:=λu=>IY u (X t.2.1))).2 h.uniq))
 have E:(ut (.h11 (X t.2.1:Int) (X t.r.1:Int) (t,()))).val=M (.inl (.h16 (X t.2.1:Int) ((0:Nat):Int) (t,()))):=by
  simp only[ut,Q8,zK];rfl
 have v:=(s.trans a).trans (zH.of E);have b:=nL (t:=ut) (Φ:=λr=>r=(.kb S,[])) 1 (λi=>.h16 (X t.2.1:Int) (i:Int) (t,())) (λi=>IY (Y t.t.1 i (zi zG)).1 (X t.2.1)/\az (Y t.t.1 i (zi zG)).2=O) (X t.t.1) (by
  intro i x _;have e:=j.refs _ (cD (d:=zi zG) x);have G:(ut (.h16 (X t.2.1:Int) (i:Int) (t,()))).val=if(bif T (LT.lt (α:=Int) (Y t.t.1 i (zi zG)).1 0)then O else bif T (GE.ge (α:=Int) (Y t.t.1 i (zi zG)).1 (X t.2.1:Int))then O else !az (Y t.t.1 i (zi zG)).2)=O then M (.inr (.kb S,[]))else M (.inl (.h16 (X t.2.1:Int) ((i+1:Nat):Int) (t,()))):=by
   simp only[ut,Q8,zN x,zx x,aH,cF e,fT e,zj];rw[zf,zu i um];cases T (LT.lt (α:=Int) (Y t.t.1 i (zi zG)).1 0)<;>cases T (GE.ge (α:=Int) (Y t.t.1 i (zi zG)).1 (X t.2.1:Int))<;>rfl
  grind[IY,zH.of,zU.of])
 rcases b with⟨n,b⟩|⟨n,r,b,m⟩
 case inr=>exact zz x (v.ends b) W (w _ m λh=>n ((aO (Q:=λf:cy=>IY f.1 (X t.2.1)/\az f.2=O)).2 h.refs))
 have y:FV t.u t.2.1=O:=by unfold FV;rw[FW j.chk W];rfl
 have z:Lk t.u t.2.1=jC t.u t.2.1:=by unfold Lk;rw[FW j.chk W];rfl
 have F:(ut (.h16 (X t.2.1:Int) (X t.t.1:Int) (t,()))).val=M (.inr (.bool (jC t.u t.2.1==(0:Int)),[])):=by
  simp only[ut,Q8,zK,zo,y,z];rfl
 refine zz x (v.ends (b.ends (zU.of F))) W ?_;have:dM t=(jC t.u t.2.1==(0:Int)):=by
  apply oA.2;rw[l];constructor
  .intro h;rw[h.chk];rfl
  .intro h;exact⟨g,H,P,D,(aO (Q:=λu=>IY u (X t.2.1))).1 p,(aO (Q:=λf:cy=>IY f.1 (X t.2.1)/\az f.2=O)).1 n,⟨A,B⟩,C,bX h⟩
 rw[this];rfl
theorem o6(h:DA t):AT t=O:=by unfold AT;rw[O2 h];rfl
theorem tL(h:DA t):Jr t=dM t:=by unfold Jr;rw[O2 h];rfl
theorem me.may(h:me t)(b:(t.u.op==[])=S):ea t.u=O:=by
 have x:=h.chk;unfold jC at x;have a:gN 16 t.u AH=S:=by rw[Gx,b];rfl
 rw[a,zh sw]at x;rcases zV (ea t.u)with c|c
 .exact c
 .have d:cv t.u t.2.1=(0,1):=by unfold cv;rw[c];rfl
  rw[d]at x;cases x
theorem QZ(t:al)(row:zr)(i:Int):ft t row [] i=if Mz (lr t.u t.2.1 row) 0=O then(9:Int)else 0:=by rw[ft];rfl
theorem BG(t:al)(h:zr)(x:zq)(r:zr)(i:Nat):ft t h (x::r) (i:Int)=if(cond (x.1==0) ((Y t.2.1 i (Q zn)).q) S)=O then(8:Int)else if(cond (x.1!=0) (x.1!=(Y t.2.1 i (Q zn)).2.1) S)=O then 5 else ft t h r ((i+1:Nat):Int):=by rw[ft];simp only[aH];rfl
theorem EL{t:al}{h:zr}(p:DA t)(j:me t)(s:∀v∈h,mf v)(B:X h=X t.2.1):∀(m i:Nat),X h-i=m->i<=X h->zU GN (m+1) (.h9 h (i:Int) (t,())) (L (ft t h (h.drop i) (i:Int)),[])
 | 0,i,g,A=>by
  obtain rfl:i=X h:=by omega
  have y:=p.ncols;rw[kD,QZ];refine zU.of ?_;have w:=j.n8;rcases zV (t.u.op==[])with c|c
  .have g:ea t.u=S:=by
    rcases zV (ea t.u)with x|x
    .rw[S5 x]at c;cases c
    .exact x
   have b:lr t.u t.2.1 h=(0,0,[]):=by unfold lr;rw[g];rfl
   rw[b];simp only[GN,Q8,zK,zo];rw[c];rfl
  .have g:=j.may c;have d:=za3 (cols:=t.2.1) (row:=h) W s p.chk g;have n:CU t.u t.2.1 h=O:=by unfold CU;rw[d];rfl
   have e:La t.u t.2.1 h=lr t.u t.2.1 h:=by unfold La;rw[d];rfl
   simp only[GN,Q8,zK,zo,n,e,CN,K6];rw[c];show(ite (O=O) (ite (Mz (lr t.u t.2.1 h) 0=O) (M (Sum.inr (L 9,[]))) (M (Sum.inr (L 0,[])))) Q2:Option (JX⊕aw))=_;rcases zV (Mz (lr t.u t.2.1 h) 0)with k|k<;>rw[k]<;>rfl
 | m+1,i,g,A=>by
  have a:i<X h:=by omega
  have w:=j.n8;have C:=EL p j s B m (i+1) W W;have z:h.drop i=Y h i (Q R)::h.drop (i+1):=by
   rw[il a,bz,af a];rfl
  rw[z,BG];have o:zL (i:Int) (X t.2.1)=O:=zx W;have b:(GN (.h9 h (i:Int) (t,()))).val=if(cond ((Y h i (Q R)).1==0) ((Y t.2.1 i (Q zn)).q) S)=O then M (.inr (L 8,[]))else if(cond ((Y h i (Q R)).1!=0) ((Y h i (Q R)).1!=(Y t.2.1 i (Q zn)).2.1) S)=O then M (.inr (L 5,[]))else M (.inl (.h9 h ((i+1:Nat):Int) (t,()))):=by
   simp only[GN,Q8,zN a,zx a,o,aH,zj];rw[zu i um];cases((Y h i (Q R)).1==0)<;>cases((Y h i (Q R)).1!=0)<;>rfl
  rcases zV (cond ((Y h i (Q R)).1==0) ((Y t.2.1 i (Q zn)).q) S)with c|c
  .rw[c,zf LY]at b|-;exact(zU.of b).mono W
  .rw[c,zh sw]at b|-;rcases zV (cond ((Y h i (Q R)).1!=0) ((Y h i (Q R)).1!=(Y t.2.1 i (Q zn)).2.1) S)with l|l
   .rw[l,zf LY]at b|-;exact(zU.of b).mono W
   .rw[l,zh sw]at b|-;exact(zH.of b).ends C
theorem EK{t:al}{h:zr}(l:DA t)(g:me t)(j:∀v∈h,mf v)(k:X h=X t.2.1):∀(m i:Nat),X h-i=m->i<=X h->zU GN (m+2+X h) (.h4 h (i:Int) (t,())) (L (ie t h (h.drop i) (i:Int)),[])
 | 0,i,s,p=>by
  obtain rfl:i=X h:=by omega
  rw[kD];have a:(GN (.h4 h (X h:Int) (t,()))).val=M (.inl (.h9 h ((0:Nat):Int) (t,()))):=by
   simp only[GN,Q8,zK];rfl
  have n:=EL l g j k (X h) 0 W W;have e:ie t h [] (X h:Int)=ft t h (h.drop 0) ((0:Nat):Int):=by
   rw[ie];rfl
  rw[e];exact((zH.of a).ends n).mono W
 | m+1,i,s,p=>by
  have x:i<X h:=by omega
  have w:=g.n8;have u:=EK l g j k m (i+1) W W;have o:h.drop i=Y h i (Q R)::h.drop (i+1):=by
   rw[il x,bz,af x];rfl
  have b:=(j _ (cD (d:=Q R) x)).q;have e:ie t h (h.drop i) (i:Int)=if(!be (Y h i (Q R)))=O then(1:Int)else ie t h (h.drop (i+1)) ((i+1:Nat):Int):=by
   rw[o];rw[ie];rfl
  rw[e];have a:(GN (.h4 h (i:Int) (t,()))).val=if(!be (Y h i (Q R)))=O then M (.inr (L 1,[]))else M (.inl (.h4 h ((i+1:Nat):Int) (t,()))):=by
   simp only[GN,Q8,zN x,zx x,aH,zj,mE b,qa b];rw[zu i um]
  rcases zV (!be (Y h i (Q R)))with c|c
  .rw[c,zf LY]at a|-;exact(zU.of a).mono W
  .rw[c,zh sw]at a|-;exact((zH.of a).ends u).mono W
theorem Jq(a:DA t)(g:∀v∈h,mf v):C0 t h=M (dj t h,()):=by
 unfold dj;have x:(zmK t h).val=if(cond (!dM t) O ((X h:Int)!=(X t.2.1:Int)))=O then M (.inr (L 1,[]))else M (.inl (.h4 h ((0:Nat):Int) (t,()))):=by
  simp only[zmK,Q8,zo,o6 a,tL a,zj];rfl
 rcases zV (cond (!dM t) O ((X h:Int)!=(X t.2.1:Int)))with c|c
 .rw[zf c]at x|-;exact zQ x rfl
 .rw[zh (by rw[c];simp)]at x|-;have d:dM t=O:=by
   rcases zV (dM t)with k|k
   .exact k
   .rw[k]at c;cases c
  rw[d]at c;have e:X h=X t.2.1:=by
   have:((X h:Int)!=(X t.2.1:Int))=S:=c;simp at this;omega
  have b:=(jE t).1 d;have i:=b.n8;exact zz x (EK a b g e (X h) 0 W W) W rfl
theorem WE(a:DA t)(x:∀v∈h,mf v):Lh t h=O:=by unfold Lh;rw[Jq a x];rfl
theorem za5(a:DA t)(x:∀v∈h,mf v):RR t h=dj t h:=by unfold RR;rw[Jq a x];rfl
theorem eq3(a b:zq):(a.1==b.1&&(a.2.1==b.2.1&&(a.q==b.q&&O)))=O↔a=b:=by have⟨k,n,s⟩:=a;have⟨h,x,c⟩:=b;simp
theorem xF{rows:List zr}{c:Int}(E:∀r∈rows,zL c (X r)=O)(U:X rows<=1000):∃b,xD rows c=M (b,())/\(b=S↔ug rows c):=by
 have l:=nL (t:=Hx) (Φ:=λr=>r=(.kb O,[])) 1002 (λi=>.h2 rows c (i:Int)) (λi=>∀k,k<i->¬((zP c (Y rows i (Q ze.sl))).1≠0/\zP c (Y rows i (Q ze.sl))=zP c (Y rows k (Q ze.sl)))) (X rows) (by
  intro i x _;have m:(Hx (.h2 rows c (i:Int))).val=M (.inl (.h5 rows c (i:Int) ((0:Nat):Int))):=by
   simp only[Hx,Q8,zN x];rfl
  have P:=nL (t:=Hx) (Φ:=λr=>r=(.kb O,[])) 1 (λk=>.h5 rows c (i:Int) (k:Int)) (λk=>¬((zP c (Y rows i (Q ze.sl))).1≠0/\zP c (Y rows i (Q ze.sl))=zP c (Y rows k (Q ze.sl)))) i (by
   intro k w _;have o:k<X rows:=by omega
   have m:(Hx (.h5 rows c (i:Int) (k:Int))).val=if(cond ((zP c (Y rows i (Q ze.sl))).1!=0) ((zP c (Y rows i (Q ze.sl))).1==(zP c (Y rows k (Q ze.sl))).1&&((zP c (Y rows i (Q ze.sl))).2.1==(zP c (Y rows k (Q ze.sl))).2.1&&((zP c (Y rows i (Q ze.sl))).q==(zP c (Y rows k (Q ze.sl))).q&&O))) S)=O then M (.inr (.kb O,[]))else M (.inl (.h5 rows c (i:Int) ((k+1:Nat):Int))):=by
    simp only[Hx,Q8,zN w,zx x,zx o,E _ (cD (d:=Q ze.sl) x),E _ (cD (d:=Q ze.sl) o),aH,zj];rw[zf,zu k um];cases((Y (Y rows i (Q ze.sl)) (Z c) (Q R)).1!=0)<;>rfl
   have F:=eq3 (zP c (Y rows i (Q ze.sl))) (zP c (Y rows k (Q ze.sl)));rcases zV ((zP c (Y rows i (Q ze.sl))).1!=0)with a|a
   .have p:(zP c (Y rows i (Q ze.sl))).1≠0:=bne_iff_ne.1 a;rcases zV ((zP c (Y rows i (Q ze.sl))).1==(zP c (Y rows k (Q ze.sl))).1&&((zP c (Y rows i (Q ze.sl))).2.1==(zP c (Y rows k (Q ze.sl))).2.1&&((zP c (Y rows i (Q ze.sl))).q==(zP c (Y rows k (Q ze.sl))).q&&O)))with g|g
    .exact .inr ⟨λh=>h ⟨p,F.1 g⟩,_,zU.of (by rw[m,a,g,zf LY]),rfl⟩
    .exact .inl ⟨λh=>(by rw[F.2 h.2]at g;cases g),zH.of (by rw[m,a,g,zh sw])⟩
   .refine .inl ⟨λh=>h.1 (by simpa using a),zH.of (by rw[m,a,zh sw])⟩)
  rcases P with⟨C,u⟩|⟨C,r,u,z⟩
  .have A:(Hx (.h5 rows c (i:Int) (i:Int))).val=M (.inl (.h2 rows c ((i+1:Nat):Int))):=by
    simp only[Hx,Q8,zK];rw[zu i um];rfl
   exact .inl ⟨C,(((zH.of m).trans u).trans (zH.of A)).mono W⟩
  .exact .inr ⟨C,r,((zH.of m).ends u).mono W,z⟩)
 have H:(∀i,i<X rows->∀k,k<i->¬((zP c (Y rows i (Q ze.sl))).1≠0/\zP c (Y rows i (Q ze.sl))=zP c (Y rows k (Q ze.sl))))↔ug rows c:=by
  unfold ug;rw[List.pairwise_iff_getElem];have e:∀i(x:i<X rows),Y rows i (Q ze.sl)=rows[i]:=λi x=>by rw[bz,af x,bI]
  constructor
  .intro h i j x G v y n;have:=h j G i v;rw[e i x,e j G]at this;exact this ⟨by rw[<-n];exact y,n.symm⟩
  .rintro h i x k w ⟨D,l⟩;rw[e i x]at D l;rw[e k W]at l;exact h k i W x w (by rw[<-l];exact D) l.symm
 have x:(zta rows c).val=M (.inl (.h2 rows c ((0:Nat):Int))):=rfl;rcases l with⟨B,s⟩|⟨B,r,s,z⟩
 .refine⟨S,zz x (s.ends (zU.of (r:=(.kb S,[])) ?_)) W rfl,⟨λ_=>H.1 B,λ_=>rfl⟩⟩;simp only[Hx,Q8,zK];rfl
 .subst z;exact⟨O,zz x s W rfl,⟨λh=>(by cases h),λh=>zA (H.2 h) B⟩⟩
theorem O6(a:DA t)(c:dM t=O)(x:zL t.q.1 (X h)=O):FY t h=M (zP t.q.1 h,()):=by
 unfold FY ap bV;have b:T (LT.lt (α:=Int) t.q.1 (X h:Int))=O:=by
  unfold zL at x;simp only[aN]at x;exact x.2
 simp only[ztc,Q8,zo,o6 a,tL a,c,x,b];rfl
theorem o8(a:DA t)(x:dM t=O)(h:zL t.q.1 (X row)=O):AU t row=O:=by unfold AU;rw[O6 a x h];rfl
theorem tN(a:DA t)(x:dM t=O)(h:zL t.q.1 (X row)=O):Jt t row=zP t.q.1 row:=by unfold Jt;rw[O6 a x h];rfl
variable {x:ae}{v:zq}
theorem Js(m:DA x.1)(u:dM x.1=O)(k:∀r∈x.2,zL x.1.q.1 (X r)=O)(y:X x.2<=1000):C3 x v=M (ah (λr=>bK r x.1.q.1 v) x.2 0,()):=by
 have o:∀r∈x.2,bK r x.1.q.1 v=((zP x.1.q.1 r).1==v.1&&((zP x.1.q.1 r).2.1==v.2.1&&((zP x.1.q.1 r).q==v.q&&O))):=by
  intro r w;have:=k r w;unfold zL at this;simp only[aN]at this;unfold bK;rw[show T (GE.ge (α:=Int) x.1.q.1 0)=O from this.1,this.2];rfl
 have n:=nL (t:=zbM) (Φ:=λr=>r=(L (ah (λr=>bK r x.1.q.1 v) x.2 0),[])) 1 (λi=>.h2 (i:Int) (x,()) (v,())) (λi=>bK (Y x.2 i (Q ze.sl)) x.1.q.1 v=S) (X x.2) (by
  intro i c s;have b:=cD (d:=Q ze.sl) c;have a:=k _ b;have e:T (LT.lt (α:=Int) x.1.q.1 ((Y x.2 i (Q ze.sl)).length:Int))=O:=by
   unfold zL at a;simp only[aN]at a;exact a.2
  have l:(zbM (.h2 (i:Int) (x,()) (v,()))).val=if bK (Y x.2 i (Q ze.sl)) x.1.q.1 v=O then M (.inr (L i,[]))else M (.inl (.h2 ((i+1:Nat):Int) (x,()) (v,()))):=by
   rw[o _ b];simp only[zbM,Q8,zo,zN c,zx c,a,e,o6 m,tL m,u,aH,aI,zj,qB];rw[zu i um]
  rcases zV (bK (Y x.2 i (Q ze.sl)) x.1.q.1 v)with h|h
  .have g:=oM (p:=λr=>bK r x.1.q.1 v) (d:=Q ze.sl) x.2 0 i c h s;refine .inr ⟨by rw[h];simp,_,zU.of (by rw[l,zf h]),?_⟩;show _=(L (ah (λr=>bK r x.1.q.1 v) x.2 0),[]);rw[g];simp
  .exact .inl ⟨h,zH.of (by rw[l,zh (by rw[h];simp)])⟩)
 have c:(ztd x v).val=M (.inl (.h2 ((0:Nat):Int) (x,()) (v,()))):=rfl;rcases n with⟨j,e⟩|⟨j,r,e,rfl⟩
 .have g:=oN (p:=λr=>bK r x.1.q.1 v) (d:=Q ze.sl) x.2 0 j;rw[g];refine zz c (e.ends (zU.of (r:=(L (-1),[])) ?_)) W rfl;simp only[zbM,Q8,zK];rfl
 .exact zz c e W rfl
theorem WG(c:DA x.1)(b:dM x.1=O)(h:∀r∈x.2,zL x.1.q.1 (X r)=O)(a:X x.2<=1000):Ln x v=O:=by unfold Ln;rw[Js c b h a];rfl
theorem za7(c:DA x.1)(b:dM x.1=O)(h:∀r∈x.2,zL x.1.q.1 (X r)=O)(a:X x.2<=1000):RU x v=ah (λr=>bK r x.1.q.1 v) x.2 0:=by unfold RU;rw[Js c b h a];rfl
structure My (x:ae):Prop where
 t:DA x.1
 rows:X x.2<=1000
 vals:∀r∈x.2,∀v∈(r:zr),mf v
theorem My.short(h:My x):ij x:=⟨h.t.nuq,h.t.nrf,h.rows⟩
theorem IT{t:al}{d:zr}:∀(r:zr)(i:Nat),ft t d r (i:Int)=(0:Int)->∀j,j<X r->(Y t.2.1 (i+j) (Q zn)).q=O->(Y r j (Q R)).1≠0
 |[],_,_,j,b,_=>by simp at b
 | x::r,i,h,j,b,hn=>by
  rw[BG]at h;split at h
  .cases h
  rename_i c;split at h
  .cases h
  cases j with
  | zero=>
   intro e;have a:(x.1==0)=O:=by simpa using e
   rw[a]at c;exact c hn
  | succ j=>
   have:=IT r (i+1) h j (by simpa using b) (by rw[show i+1+j=i+(j+1) by omega];exact hn);exact this
theorem IV{t:al}{row:zr}:∀(r:zr)(i:Nat),ie t row r (i:Int)=(0:Int)->(∀v∈r,be v=O)/\ft t row row ((0:Nat):Int)=(0:Int)
 | [],i,h=>by
  rw[ie]at h;exact⟨λv a=>(by cases a),h⟩
 | x::r,i,h=>by
  have e:ie t row (x::r) (i:Int)=if(!be x)=O then(1:Int)else ie t row r ((i+1:Nat):Int):=by
   rw[ie];rfl
  rw[e]at h;split at h
  .cases h
  rename_i c;have⟨b,d⟩:=IV r (i+1) h;refine⟨λv a=>?_,d⟩;rcases bZ.1 a with rfl|a
  .simpa using c
  .exact b v a
theorem cL(h:dj t row=(0:Int)):X row=X t.2.1/\(∀v∈row,be v=O)/\∀j,j<X row->(Y t.2.1 j (Q zn)).q=O->(Y row j (Q R)).1≠0:=by
 have c:=EM (t:=t) (row:=row) (by simpa using h);unfold dj at h;split at h
 .cases h
 have⟨x,a⟩:=IV row 0 h;refine⟨c,x,λj b d=>?_⟩;have:=IT row 0 a j b (by rwa [eI]);exact this
theorem Fu{b:zq}(x:be v=O)(a:be b=O)(h:aF v b=(0:Int)):v=b:=by
 unfold aF aj at h;rw[x,a]at h;have h:Je [ui v.1 b.1,lq v.2.1 b.2.1,pE v.q b.q]=(0:Int):=h;rw[<-Rs]at h;rcases zV (v.1==b.1&&(v.2.1==b.2.1&&(v.q==b.q&&O)))with c|c
 .exact(eq3 v b).1 c
 .rw[zh (by rw[c];simp)]at h;split at h<;>cases h
theorem Lm(j:My x):∃e:Int,o7 x=M (e,())/\(e=0↔ef x):=by
 have h5:=j.rows;have x6:=j.t.nuq;by_cases o:dM x.1=O
 case neg=>
  have x3:dM x.1=S:=by simpa using o
  refine⟨1,?_,λh=>(by cases h),λh=>zA h.may o⟩;unfold o7 ap bV;simp only[Zr,Q8,zo,o6 j.t,tL j.t,x3];rfl
 by_cases x1:X x.2<=200
 case neg=>
  refine⟨13,?_,λh=>(by cases h),λh=>zA h.few x1⟩;unfold o7 ap bV;simp only[Zr,Q8,zo,o6 j.t,tL j.t,o];rw[zf trivial,zh sw,zf sg];rfl
 have k:(Zr x).val=M (.inl (.h6 ((0:Nat):Int) (x,()))):=by
  simp only[Zr,Q8,zo,o6 j.t,tL j.t,o];rw[zf trivial,zh sw,zh sg];rfl
 have⟨E,x5,x4,_,_⟩:=gS o;have H:=nL (t:=sx) (Φ:=Err) 1 (λi=>.h6 (i:Int) (x,())) (λi=>dj x.1 (Y x.2 i (zi ze.sl))=(0:Int)) (X x.2) (by
  intro i k _;have x0:=j.vals _ (cD (d:=zi ze.sl) k);have B:(sx (.h6 (i:Int) (x,()))).val=if(dj x.1 (Y x.2 i (zi ze.sl))!=0)=O then M (.inr (L (dj x.1 (Y x.2 i (zi ze.sl))),[]))else M (.inl (.h6 ((i+1:Nat):Int) (x,()))):=by
   simp only[sx,Q8,zo,zN k,zx k,aH,WE j.t x0,za5 j.t x0,zj];rw[zu i um]
  by_cases h:dj x.1 (Y x.2 i (zi ze.sl))=(0:Int)
  .refine .inl ⟨h,zH.of ?_⟩;rw[B,zh (by rw[h];simp)]
  .refine .inr ⟨h,_,zU.of (by rw[B,zf (by simpa using h)]),_,rfl,h⟩)
 rcases H with⟨hf,H⟩|⟨hf,r,H,e,w,g⟩
 case inr=>
  subst w;exact⟨e,zz k H W rfl,λh=>zA h g,λh=>zA ((aO (Q:=λr=>dj x.1 r=(0:Int))).2 h.fits) hf⟩
 have a:=(aO (Q:=λr=>dj x.1 r=(0:Int))).1 hf;have h4:∀r∈x.2,X r=X x.1.2.1:=λr z=>(cL (a r z)).1
 have y:∀c,IY c (X x.1.2.1)->∀r∈x.2,zL c (X r)=O:=λc hc r z=>by
  rw[h4 r z];exact td hc
 have⟨b,hb,n⟩:=xF (rows:=x.2) (c:=x.1.q.1) (y _ E) h5;have C:o9 x.2 x.1.q.1=O:=by unfold o9;rw[hb];rfl
 have D:tO x.2 x.1.q.1=b:=by unfold tO;rw[hb];rfl
 have h9:(sx (.h6 (X x.2:Int) (x,()))).val=if b=O then M (.inr (L 7,[]))else M (.inl (.h14 ((0:Nat):Int) (x,()))):=by
  simp only[sx,Q8,zK,C,D];rfl
 by_cases v:b=O
 .refine⟨7,zz k (H.ends (zU.of (by rw[h9,zf v]))) W rfl,λh=>(by cases h),λh=>?_⟩;have:=n.2 h.key;rw[v]at this;cases this
 have A:ug x.2 x.1.q.1:=n.1 (by simpa using v);have P:zH sx _ (.h6 ((0:Nat):Int) (x,())) _:=H.trans (zH.of (by rw[h9,zh v]));have l:=nL (t:=sx) (Φ:=Err) 1 (λi=>.h14 (i:Int) (x,())) (λi=>ug x.2 (Y x.1.r.1 i (zi zk))) (X x.1.r.1) (by
  intro i k _;have⟨b,hb,n⟩:=xF (rows:=x.2) (c:=Y x.1.r.1 i (zi zk)) (y _ (x4 _ (cD k))) h5;have C:o9 x.2 (Y x.1.r.1 i (zi zk))=O:=by unfold o9;rw[hb];rfl
  have D:tO x.2 (Y x.1.r.1 i (zi zk))=b:=by unfold tO;rw[hb];rfl
  have B:(sx (.h14 (i:Int) (x,()))).val=if b=O then M (.inr (L 7,[]))else M (.inl (.h14 ((i+1:Nat):Int) (x,()))):=by
   simp only[sx,Q8,zN k,zx k,zj,aH,C,D];rw[zu i um]
  by_cases h:b=O
  .refine .inr ⟨λhu=>?_,_,zU.of (by rw[B,zf h]),7,rfl,by decide⟩;have:=n.2 hu;rw[h]at this;cases this
  .exact .inl ⟨n.1 (by simpa using h),zH.of (by rw[B,zh h])⟩)
 rcases l with⟨hq,l⟩|⟨hq,r,l,e,w,g⟩
 case inr=>
  subst w;exact⟨e,zz k (P.ends l) W rfl,λh=>zA h g,λh=>zA ((aO (Q:=λu=>ug x.2 u)).2 h.uniq) hq⟩
 have F:=(aO (Q:=λu=>ug x.2 u)).1 hq;have h7:(sx (.h14 (X x.1.r.1:Int) (x,()))).val=M (.inl (.h19 ((0+1:Nat):Int) (x,()))):=by
  simp only[sx,Q8,zK];rfl
 have U:=(P.trans l).trans (zH.of h7);have p:∀i,i+1<X x.2->(po (zP x.1.q.1 (Y x.2 i (zi ze.sl))) (zP x.1.q.1 (Y x.2 (i+1) (zi ze.sl)))↔T (GT.gt (α:=Int) (aF (zP x.1.q.1 (Y x.2 i (zi ze.sl))) (zP x.1.q.1 (Y x.2 (i+1) (zi ze.sl)))) 0)=S):=by
  intro i s;have G:i<X x.2:=by omega
  have m1:=cD (d:=zi ze.sl) G;have m2:=cD (d:=zi ze.sl) s;have⟨l1,f1,n1⟩:=cL (a _ m1);have⟨l2,f2,_⟩:=cL (a _ m2);have hT:=(jE x.1).1 o;have⟨k1,k2⟩:=hT.key;have h3:Z x.1.q.1<(Y x.2 i (zi ze.sl)).length:=by rw[l1];omega
  have x2:Z x.1.q.1<(Y x.2 (i+1) (zi ze.sl)).length:=by rw[l2];omega
  unfold po;constructor
  .intro h;exact aB W
  .intro h;have h:¬GT.gt (α:=Int) (aF (zP x.1.q.1 (Y x.2 i (zi ze.sl))) (zP x.1.q.1 (Y x.2 (i+1) (zi ze.sl)))) 0:=of_decide_eq_false h;by_cases h0:@Eq Int (aF (zP x.1.q.1 (Y x.2 i (zi ze.sl))) (zP x.1.q.1 (Y x.2 (i+1) (zi ze.sl)))) 0
   .exfalso;have w:=Fu (f1 _ (cD h3)) (f2 _ (cD x2)) h0;have g:=n1 _ h3 hT.nn;have hp:=(List.pairwise_iff_getElem.1 A) i (i+1) G s W;have e1:Y x.2 i (zi ze.sl)=x.2[i]:=by rw[bz,af G,bI]
    have e2:Y x.2 (i+1) (zi ze.sl)=x.2[i+1]:=by rw[bz,af s,bI]
    rw[e1]at g w;rw[e2]at w;exact hp g w
   .omega
 have m:=nL (t:=sx) (Φ:=Err) 1 (λi=>.h19 ((i+1:Nat):Int) (x,())) (λi=>po (zP x.1.q.1 (Y x.2 i (zi ze.sl))) (zP x.1.q.1 (Y x.2 (i+1) (zi ze.sl)))) (X x.2-1) (by
  intro i k _;have G:i<X x.2:=by omega
  have s:i+1<X x.2:=by omega
  have m1:=cD (d:=zi ze.sl) G;have m2:=cD (d:=zi ze.sl) s;have k1:=y _ E _ m1;have k2:=y _ E _ m2;have o1:∀r∈x.2,(zP x.1.q.1 r).q.length<=1000000:=by
   intro r z;by_cases h:Z x.1.q.1<X r
   .exact(j.vals r z _ (cD h)).q
   .unfold zP;rw[bz,fg W];exact aG _
  have B:(sx (.h19 ((i+1:Nat):Int) (x,()))).val=if T (GT.gt (α:=Int) (aF (zP x.1.q.1 (Y x.2 i (zi ze.sl))) (zP x.1.q.1 (Y x.2 (i+1) (zi ze.sl)))) 0)=O then M (.inr (L 15,[]))else M (.inl (.h19 ((i+1+1:Nat):Int) (x,()))):=by
   simp only[sx,zo,gQ i um];simp only[Q8,zN s,zx s,zx G,aH,bh,o8 j.t o k1,o8 j.t o k2,tN j.t o k1,tN j.t o k2,vV (o1 _ m1) (o1 _ m2),AR (o1 _ m1) (o1 _ m2),zj];rw[zu (i+1) um]
  rcases zV (T (GT.gt (α:=Int) (aF (zP x.1.q.1 (Y x.2 i (zi ze.sl))) (zP x.1.q.1 (Y x.2 (i+1) (zi ze.sl)))) 0))with c|c
  .exact .inr ⟨λh=>(by rw[(p i s).1 h]at c;cases c),_,zU.of (by rw[B,zf c]),15,rfl,by decide⟩
  .exact .inl ⟨(p i s).2 c,zH.of (by rw[B,zh (by rw[c];simp)])⟩)
 rcases m with⟨z,m⟩|⟨z,r,m,e,w,g⟩
 case inr=>
  subst w;exact⟨e,zz k (U.ends m) W rfl,λh=>zA h g,λh=>zA h.rise z⟩
 have h8:(sx (.h19 ((X x.2-1+1:Nat):Int) (x,()))).val=M (.inr (L 0,[])):=by
  simp only[sx,Q8];rw[zh sg]
 exact⟨0,zz k (U.ends (m.ends (zU.of h8))) W rfl,λ_=>⟨o,x1,a,A,F,z⟩,λ_=>rfl⟩
theorem vO(c:UInt8)(s o:zJ):Lib.index (c::s) o=if o.isPrefixOf (c::s)=O then 0 else if Lib.index s o=-1 then -1 else Lib.index s o+1:=by rw[Lib.index];simp only[bW]
variable {l n:zJ}
theorem A3(x:(l==n)=S)(h:Lib.index s l=-1):Lib.replaceAll s l n=s:=by unfold Lib.replaceAll Lib.replace Lib.replaceNum;rw[x,zf (Or.inl (by decide)),Lib.count_miss h];rfl
theorem Gg(a:l≠[])(x:(l==n)=S)(h:Lib.index s l=i):Lib.replaceAll s l n=s.take i++n++Lib.replaceAll (s.drop (i+X l)) l n:=by unfold Lib.replaceAll Lib.replace Lib.replaceNum;rw[x,zf (Or.inl (by decide)),zf (Or.inl (by decide)),Lib.count_hit a h,kV 1];exact Lib.replaceK_hit l n _ s i h
theorem Gh(b:s≠[])(x:(s==l)=S):Lib.replaceAll [] s l=[]:=by
 refine A3 x ?_;cases s with
 |nil=>exact zA rfl b
 |cons a h=>rfl
variable {a:UInt8}
theorem Pp(x:l≠[])(h:(l==n)=S)(b:l.isPrefixOf (a::s)=O):Lib.replaceAll (a::s) l n=n++Lib.replaceAll ((a::s).drop (X l)) l n:=by have:=Gg (i:=0) x h (s:=a::s) (by rw[vO,zf b];rfl);simpa using this
theorem JB(b:l≠[])(x:(l==n)=S)(d:l.isPrefixOf (a::s)=S):Lib.replaceAll (a::s) l n=a::Lib.replaceAll s l n:=by
 by_cases h:Lib.index s l=-1
 .rw[A3 x h,A3 x (by rw[vO,zh (by simp[d]),zf h])]
 .obtain⟨i,c⟩:∃i:Nat,Lib.index s l=i:=⟨(Lib.index s l).toNat,by have:=Lib.index_ge s l;omega⟩;rw[Gg b x c,Gg (i:=i+1) b x (by rw[vO,zh (by simp[d]),zh h,c];simp)];simp[Nat.add_right_comm]
theorem zaR{x:UInt8}{r:zJ}(h:a≠x):(x::l).isPrefixOf (a::r)=S:=by rw[List.isPrefixOf,dX.2 (Ne.symm h)];rfl
def ml:zJ->zJ
 |[]=>[]
 |c::r=>if c=39 then 39::39::ml r else c::ml r
theorem Gf:∀s:zJ,Lib.replaceAll s [39] pz=ml s
 |[]=>Gh sw rfl
 | c::r=>by
  rw[ml];split
  next h=>subst h;rw[Pp sw rfl sw];simp[Gf r]
  next h=>rw[JB sw rfl (zaR h),Gf r]
def fU:zJ->Option (zJ×Nat)
 |[]=>Q2
 |[c]=>if c=39 then M ([],1)else Q2
 |c::d::r=>if c=39 then(if d=39 then(fU r).map λx=>(39::x.1,x.2+2)else M ([],1))else(fU (d::r)).map λx=>(c::x.1,x.2+1)
theorem tW:∀(n:Nat)(s t:zJ)(k:Nat),X s<=n->fU s=M (t,k)->1<=k/\k<=X s/\Lib.replaceAll (s.take (k-1)) pz [39]=t
 |_,[],_,_,_,h=>by simp[fU]at h
 | _,[c],t,k,_,h=>by
  rw[fU]at h;split at h
  .simp at h;obtain⟨rfl,rfl⟩:=h;exact⟨sw,sw,by simpa using Gh sw rfl⟩
  .simp at h
 |0,_::_::_,_,_,hn,_=>by simp at hn
 | n+1,c::d::r,t,k,hn,h=>by
  rw[fU]at h;split at h
  .rename_i g;split at h
   next m=>simp only[dW]at h;have⟨⟨i,x⟩,e,a⟩:=h;simp only[cO]at a;obtain⟨rfl,rfl⟩:=a;have⟨l,j,b⟩:=tW n r i x (by simp at hn;omega) e;refine⟨W,sg,?_⟩;subst g;subst m;rw[show x+2-1=(x-1)+2 by omega,List.take_succ_cons,List.take_succ_cons,Pp sw rfl sw];simp[b]
   .simp at h;obtain⟨rfl,rfl⟩:=h;exact⟨sw,sw,by simpa using Gh sw rfl⟩
  next g=>simp only[dW]at h;have⟨⟨i,x⟩,e,a⟩:=h;simp only[cO]at a;obtain⟨rfl,rfl⟩:=a;have⟨l,j,b⟩:=tW n (d::r) i x (by simp at hn|-;omega) e;refine⟨W,by simp at j|-;omega,?_⟩;rw[show x+1-1=(x-1)+1 by omega,List.take_succ_cons,JB sw rfl (zaR g),b]
theorem JF(h:a≠39):∀r:zJ,fU (a::r)=(fU r).map λx=>(a::x.1,x.2+1)
 |[]=>by simp[fU,h]
 |d::r=>by rw[fU,zh h]
theorem Py(r:zJ):fU (39::39::r)=(fU r).map λx=>(39::x.1,x.2+2):=by rw[fU,zf rfl,zf rfl]
theorem Gy:∀r:zJ,r.head?≠M 39->fU (39::r)=M ([],1)
 |[],_=>by rw[fU,zf rfl]
 |d::r,h=>by rw[fU,zf rfl,zh (by simpa using h)]
theorem iA(s:zJ)(h:i<X s):s.getD ((i:Int).toNat) 0=s[i]:=by rw[aH,bz,af h,bI]
theorem ul:((a.toNat:Int)==39)=O↔a=39:=by
 rw[bW];constructor
 .intro h;exact UInt8.toNat_inj.1 (by show a.toNat=39;omega)
 .rintro rfl;rfl
theorem se:∀(n:Nat)(s:zJ)(i:Nat)(a:Int)(b:zJ),1<=i->i<=X s->X s+2<=n+i->X s<=1000000000->
  fR n s (i:Int) a b=(match fU (s.drop i)with
   |none=>((0,[]),0)
   |some x=>((3,Lib.replaceAll (List.take (i+x.2-2) (List.drop 1 s)) pz [39]),((i+x.2:Nat):Int)))
 |0,s,i,a,b,k,l,m,e=>by omega
 | n + 1,s,i,a,b,k,l,m,e=>by
  rw[fR];by_cases g:i<X s
  .rw[zf (zB (show(i:Int)<(Io s:Int) by omega)),iA s g,sH i ow,il g];by_cases d:s[i]=39
   .rw[zh (by simp[bne,ul.2 d]),d];by_cases j:i+1<Io s
    .rw[il j,iA s j,zB (show((i+1:Nat):Int)<(X s:Int) by omega)];by_cases c:s[i+1]=39
     .rw[zf (by simpa using ul.2 c),sH (i+1) W,se n s (i+1+1) a b W W W e,c,Py];cases fU (s.drop (i+1+1))with
      |none=>rfl
      | some x=>
       simp only[HW];rw[show i+1+1+x.2=i+(x.2+2) by omega]
     .rw[zh (by simpa using λh=>c (ul.1 (by simpa using h))),Gy _ (by rw[List.head?_cons];exact λh=>c (Option.some.inj h))];simp
    .rw[HP (by omega:X s<=i+1),aB (show¬((i+1:Nat):Int)<(X s:Int) by omega),Gy _ sw];simp
   .rw[zf (by simpa[bne]using λh=>d (ul.1 (by simpa using h))),JF d,se n s (i+1) a b W W W e];cases fU (s.drop (i+1))with
    |none=>rfl
    | some x=>
     simp only[HW];rw[show i+1+x.2=i+(x.2+1) by omega]
  .rw[zh sg,HP W];rfl
def rD(c:UInt8)(r:zJ):dB×Nat:=
 if bm c.toNat=O then((1,(c::r).take (dR cw r+1)),dR cw r+1)
 else if aC c.toNat=O then((2,(c::r).take (dR aC r+1)),dR aC r+1)
 else if c=39 then(match fU r with|none=>((0,[]),0)|some x=>((3,x.1),x.2+1))
 else((4,[c]),1)
theorem Ao(c:UInt8)(r:zJ)(n:(c::r).length<=1000000000):ch (c::r)=((rD c r).1,((rD c r).2:Int)):=by
 have e:bH bm cw (c::r)=if bm c.toNat=O then dR cw r+1 else 0:=rfl
 have b:bH aC aC (c::r)=if aC c.toNat=O then dR aC r+1 else 0:=rfl
 unfold ch rD;by_cases g:bm c.toNat=O
 .rw[zf g]at e;simp[e,g]
 .rw[zh g]at e;by_cases i:aC c.toNat=Q3
  .rw[zf i]at b;simp[e,b,g,i]
  .rw[zh i]at b;by_cases j:c=39
   .have o:=se ((c::r).length+1) (c::r) 1 0 [] W sw W n;have a:iT (c::r)=_:=o;subst j;have l:bm 39=S:=rfl;have d:aC 39=S:=rfl;cases k:fU r with
    | none=>
     simp only[List.drop_succ_cons,List.drop_zero,k]at a;simp[e,b,l,d,a]
    | some x=>
     have⟨q,s,p⟩:=tW (X r) r x.1 x.2 (zM _) k;simp only[List.drop_succ_cons,List.drop_zero,k]at a;rw[show 1+x.2-2=x.2-1 by omega,p,kV 1]at a;simp[e,b,l,d,a]
   .have m:¬(c.toNat:Int)=39:=λh=>j (ul.1 (by simpa using h))
    simp[e,b,g,i,j,m]
def yK:Nat->zJ->Nat->Bool
 |0,_,_=>S
 |_+1,[],k=>T (k<=400)
 | n+1,c::r,k=>
  if(cond ((c.toNat:Int)==32) O ((c.toNat:Int)==10))=O then yK n r k
  else if dJ (rD c r).1=O then yK n ((c::r).drop (rD c r).2) (k+1)else S
theorem yL:∀(n:Nat)(s:zJ)(k:Nat),400<k->yK n s k=S
 |0,_,_,_=>rfl
 |_+1,[],k,h=>by rw[yK];exact aB W
 | n+1,c::r,k,h=>by
  rw[yK];split
  .exact yL n r k h
  .split
   .exact yL n _ (k+1) W
   .rfl
theorem DX:∀(n:Nat)(s:zJ)(i:Nat)(l:dK),i<=X s->X s+1<=n+i->X s<=1000000000->X l<=400->((wJ n s (i:Int) l).2==(0:Int))=yK n (s.drop i) (X l)
 |0,s,i,l,o,p,d,e=>by omega
 | n + 1,s,i,l,o,p,d,e=>by
  rw[wJ];by_cases x:i<X s
  .have m:List.take ((X s:Int).toNat-(i:Int).toNat) (List.drop (i:Int).toNat s)=s.drop i:=by
    simp only[aH];exact MY sw
   have h:(s.drop i).length<=1000000000:=by simp;omega
   rw[zf (zB (show(i:Int)<(X s:Int) by omega)),m,iA s x,sH i W];rw[il x]at h|-;rw[yK];split
   .exact DX n s (i+1) l W W d e
   .rw[Ao _ _ h];simp only;by_cases a:dJ (rD s[i] (s.drop (i+1))).1=O
    .rw[zf a];by_cases j:X l=400
     .rw[zf (by rw[a,j];rfl),j,yL n _ _ W];rfl
     .rw[zh (by rw[a];simp;omega)];have g:dJ (ch (s[i]::s.drop (i+1))).1=O:=by rw[Ao _ _ h];exact a
      have⟨k,c,q,b⟩:=yu _ (List.cons_ne_nil _ _) h g;rw[Ao _ _ h]at c;have c:(rD s[i] (s.drop (i+1))).2=k:=Int.ofNat.inj c;have t:k<=X s-i:=by rw[<-il x]at b;simpa using b
      rw[c,show((i:Int)+(k:Int))=((i+k:Nat):Int) by omega,zb2 (i+k) W,DX n s (i+k) _ W W d sg,<-il x,List.drop_drop];simp
    .rw[zh a,zf (by simp[a])];rfl
  .rw[zh sg,HP W];rw[yK];exact(zB e).symm
theorem Yd(m:Nat):nO [IntKind.u8.wrap (Γ Δ (48-Γ Δ (Int.tmod (-(m:Int)) 10)))]=[UInt8.ofNat (48+m%10)]:=by
 have e:Int.tmod (-(m:Int)) 10=-((m%10:Nat):Int):=by rw[Int.neg_tmod];rfl
 have b:m%10<10:=Nat.mod_lt _ W;have h:Γ Δ (-((m%10:Nat):Int))=-((m%10:Nat):Int):=by rw[fi];omega
 have x:Γ Δ (48- -((m%10:Nat):Int))=((48+m%10:Nat):Int):=by rw[fi];omega
 have a:IntKind.u8.wrap ((48+m%10:Nat):Int)=((48+m%10:Nat):Int):=by rw[IntKind.wrap_u8];omega
 rw[e,h,x,a];rfl
theorem zee(m:Nat)(h:m<=9223372036854775808):Γ Δ (Int.tdiv (-(m:Int)) 10)=-((m/10:Nat):Int):=by
 have e:Int.tdiv (-(m:Int)) 10=-((m/10:Nat):Int):=by rw[Int.neg_tdiv];rfl
 have:m/10<=m:=Nat.div_le_self _ _;rw[e,fi];omega
theorem Yc:∀(f m:Nat)(s:zJ),m<10^f->0<f->m<=9223372036854775808->(0<m\/s=[])->X s+f<=1000->zU GK (f+1) (.h2 (-(m:Int)) s) (.str (pF f m++s),[])
 |0,_,_,_,h,_,_,_=>by omega
 | f+1,m,s,d,_,i,g,l=>by
  have b:(GK (.h2 (-(m:Int)) s)).val=M (.inl (.h2 (-((m/10:Nat):Int)) ([UInt8.ofNat (48+m%10)]++s))):=by
   show(GK (.h2 _ _)).val=_;have c:(bif T (LT.lt (α:=Int) (-(m:Int)) 0)then O else s==[])=O:=by
    rcases g with h|h
    .rw[zB W];rfl
    .subst h;cases T (LT.lt (α:=Int) (-(m:Int)) 0)<;>rfl
   simp only[GK,Q8,Yd m,zee m i,zj];rw[zf c,zf (zB sg)]
  by_cases x:m<10
  .have e0:m/10=0:=by omega
   have e:m%10=m:=by omega
   rw[e0,e]at b;have a:pF (f+1) m=[UInt8.ofNat (48+m)]:=by rw[pF,zf x]
   rw[a];refine((zH.of b).ends (k:=1) (zU.of ?_)).mono W;show(GK (.h2 _ _)).val=_;simp[GK,Q8]
  .have j:0<f:=by
    cases f with
    |zero=>simp at d;omega
    |succ f=>omega
   have:=Yc f (m/10) ([UInt8.ofNat (48+m%10)]++s) (by rw[pt]at d;omega) j W (.inl W) sg;have a:pF (f+1) m=pF f (m/10)++[UInt8.ofNat (48+m%10)]:=by rw[pF,zh x]
   rw[a,M1];exact(zH.of b).ends this
theorem BU{m:Nat}(h:m<=9223372036854775808):tz (-(m:Int))=M (pF 20 m,()):=by refine zz (s:=.h2 (-(m:Int)) []) rfl (Yc 20 m [] W W h (.inr rfl) sw) W ?_;rw[wo];rfl
theorem D2:∀s:zJ,(ml s).length<=2*X s
 |[]=>by simp[ml]
 | c::r=>by
  have:=D2 r;rw[ml];split<;>simp<;>omega
theorem H5(c:UInt8):∀s:zJ,ml (s++[c])=ml s++(ite (c=39) pz [c])
 | []=>by
  show ml [c]=_;rw[ml,ml,ml];split<;>rfl
 | d::r=>by
  have:=H5 c r;show ml (d::(r++[c]))=_;rw[ml,ml,this];split<;>rfl
theorem zjj{α:Type}{l:List α}(h:i<X l):l.take (i+1)=l.take i++[l[i]]:=by rw[List.take_add_one,af h];rfl
theorem zn4(k:X v.q<=1000000):zU yh (X v.q*1+1) (.h13 [39] 0 (v,())) (.str ([39]++ml v.q++[39]),[]):=by
 have d:=zH.all (t:=yh) 1 (λi=>.h13 ([39]++ml (v.q.take i)) (i:Int) (v,())) (X v.q) (by
  intro i x;refine zH.of ?_;have a:=D2 (v.q.take i);have c:(ml (v.q.take i)).length<=2000000:=by simp at a;omega
  have w:Γ Δ ((i:Int)+1)=((i+1:Nat):Int):=zu i um;have g:(T (0<=(i:Int))&&T ((i:Int)<=((i+1:Nat):Int))&&T (((i+1:Nat):Int)<=(X v.q:Int)))=O:=by simp;omega
  have e:List.take (((i+1:Nat):Int).toNat-(i:Int).toNat) (List.drop (i:Int).toNat v.q)=[v.q[i]]:=by
   rw[aH,aH,show i+1-i=1 by omega,il x];rfl
  show(yh (.h13 _ _ _)).val=_;simp only[yh,Q8,w,g,e,zN x,zx x,zj,iA v.q x];rw[zjj x,H5,zf (zB sg)];by_cases h:v.q[i]=39
  .rw[zf (ul.2 h),zf h,zf (zB sg),h];simp
  .rw[zh (λb=>h (ul.1 b)),zh h];simp)
 have a:=D2 v.q;have j:(yh (.h13 ([39]++ml (v.q.take (X v.q))) (X v.q:Int) (v,()))).val=M (.inr (.str ([39]++ml v.q++[39]),[])):=by
  show(yh (.h13 _ _ _)).val=_;simp only[yh,Q8,zK,gE];simp;omega
 have:=d.ends (zU.of j);rw[kV]at this;exact this
theorem zfH(x:be v=O)(j:v.1≠(0:Int))(l:v.1≠(1:Int))(m:v.1≠(2:Int)):(v.1==3)=O/\((eT v==2)=(v.2.1==1)):=by
 have e:(v.1==0)=S:=dX.2 j;have g:(v.1==1)=S:=dX.2 l;have i:(v.1==2)=S:=dX.2 m;have c:=x;unfold be at x;rw[e,g,i]at x;simp only[zD,zm]at x;cases b:(v.1==3)
 .rw[b]at x;simp at x
 .rw[b]at x;refine⟨rfl,?_⟩;have a:v.2.1=(0:Int)\/v.2.1=(1:Int):=by
   simp at x;by_cases k:v.2.1=(0:Int)
   .exact .inl k
   .by_cases d:v.2.1=(1:Int)
    .exact .inr d
    .simp[k,d]at x
  unfold eT;rw[show(v.1!=3)=S by simp[bne,b],c];rcases a with h|h<;>rw[h]<;>rfl
theorem Jn(D:mf v):CS v=M (jd v,()):=by
 have⟨B,A,a⟩:=D;have h:=mE (v:=v) a;have e:=qa (v:=v) a;by_cases g:be v=O
 .have c:(!be v)=S:=by rw[g];rfl
  by_cases n:v.1=(0:Int)
  .have d:(v.1==0)=O:=bW.2 n;refine zQ (r:=(.str He,[])) ?_ ?_
   .simp only[BL,Q8,h,e,c,d,zj];rfl
   .unfold jd;rw[n,g];rfl
  have d:(v.1==0)=S:=dX.2 n;by_cases t:v.1=(1:Int)
  .have b:(v.1==1)=O:=bW.2 t;have l:jd v=uK v.2.1:=by
    unfold jd;rw[c,zh sw,zf b]
   rw[l];unfold uK;by_cases x:LT.lt (α:=Int) v.2.1 0
   .have k:=BU (m:=v.2.1.natAbs) W;rw[show -((v.2.1.natAbs:Nat):Int)=v.2.1 by omega]at k;have o:lV v.2.1=O:=by unfold lV;rw[k];rfl
    have p:mG v.2.1=pF 20 v.2.1.natAbs:=by unfold mG;rw[k];rfl
    have y:=D1 20 v.2.1.natAbs;rw[zf x];refine zQ (r:=(.str ([45]++pF 20 v.2.1.natAbs),[])) ?_ rfl;simp only[BL,Q8,h,e,c,d,b,zB x,o,p,zj];rw[zh sw,zh sw,zf (zB sg)]
   .have k:=BU (m:=v.2.1.natAbs) W;have E:Γ Δ (0-v.2.1)=-((v.2.1.natAbs:Nat):Int):=by rw[fi];omega
    have o:lV (-((v.2.1.natAbs:Nat):Int))=O:=by unfold lV;rw[k];rfl
    have p:mG (-((v.2.1.natAbs:Nat):Int))=pF 20 v.2.1.natAbs:=by unfold mG;rw[k];rfl
    rw[zh x];refine zQ (r:=(.str (pF 20 v.2.1.natAbs),[])) ?_ rfl;simp only[BL,Q8,h,e,c,d,b,aB x,E,o,p,zj];rw[zh sw,zh sw,zh sw]
  have b:(v.1==1)=S:=dX.2 t;by_cases u:v.1=(2:Int)
  .have i:(v.1==2)=O:=bW.2 u;have l:jd v=[39]++ml v.q++[39]:=by
    unfold jd;rw[c,zh sw,zh (by rw[b];simp),zf i,Gf]
   rw[l];have z:zU yh (X v.q*1+1) (.h13 [39] 0 (v,())) (.str ([39]++ml v.q++[39]),[]):=zn4 (v:=v) a;refine zz (s:=.h13 [39] 0 (v,())) ?_ z W rfl;simp only[BL,Q8,h,e,c,d,b,i,zj];rfl
  .have i:(v.1==2)=S:=dX.2 u;have⟨w,C⟩:=zfH g n t u;have l:jd v=if(v.2.1==1)=O then Kc else Kb:=by
    unfold jd;rw[c,zh sw,zh (by rw[b];simp),zh (by rw[i];simp),zf w,C]
   rw[l];by_cases j:(v.2.1==1)=O
   .rw[zf j];refine zQ (r:=(.str Kc,[])) ?_ rfl;simp only[BL,Q8,h,e,c,d,b,i,j,zj];rfl
   .rw[zh j];refine zQ (r:=(.str Kb,[])) ?_ rfl;have j:(v.2.1==1)=S:=by simpa using j
    simp only[BL,Q8,h,e,c,d,b,i,j,zj];rfl
 .have g:be v=S:=by simpa using g
  refine zQ (r:=(.str [],[])) ?_ ?_
  .simp only[BL,Q8,h,e,g,zj];rfl
  .unfold jd;rw[g];rfl
theorem Jm(h:mf v):lI v=O:=by unfold lI;rw[Jn h];rfl
theorem OV(h:mf v):qb v=jd v:=by unfold qb;rw[Jn h];rfl
end Cad
