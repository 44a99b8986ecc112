/- The document's types and values of expressions are the progr. -/
import Derived.Test.YtjdjldbhjmgmkaaGreatDoorK18
namespace Cad
open Go Go.Proofs
open List renaming length→Io
open IntKind renaming wrap→Γ,i64→Δ
open Tr renaming val→Q8
open Bool renaming false→Q4,true→Q3
open Option renaming none→Q2,some→Q1
open Decidable renaming decide→Q0
open Int (toNat)
open List (getD)
open Tr (chk br re)
open AV (nils agg tup ptr kb str sl)
set_option maxHeartbeats 4000000
theorem nu{α:Type}{p:α->Bool}{d:α}:∀(l:List α)(k i:Nat),i<Io l->p (l.getD i d)=Q3->(∀j,j<i->p (l.getD j d)=Q4)->ab p l k=((k+i:Nat):Int)
 |[],_,_,h,_,_=>by simp at h
 | x::r,k,0,_,hp,_=>by
  rw[ab,ze (by simpa using hp)];rfl
 | x::r,k,i+1,h,hp,hj=>by
  have a:=hj 0 ow;rw[ab,zg (by rw[show p x=Q4 by simpa using a];simp),nu r (k+1) i (by simpa using h) (by simpa using hp) (λj b=>by simpa using hj (j+1) ow)];congr 1;omega
theorem nv{α:Type}{p:α->Bool}{d:α}:∀(l:List α)(k:Nat),(∀j,j<Io l->p (l.getD j d)=Q4)->ab p l k=-1
 |[],_,_=>rfl
 | x::r,k,hj=>by
  have a:=hj 0 sw;rw[ab,zg (by rw[show p x=Q4 by simpa using a];simp)];exact nv (d:=d) r (k+1) (λj h=>by simpa using hj (j+1) (by simpa using h))
variable {c:aM}{s:zH}
theorem D9(l:Io c<=1000000):D8 c s=Q1 (ay c s,()):=by
 have j:=mD (t:=P7) (Φ:=λr=>r=(.int .i64 (ay c s),[])) 1 (λi=>.h2 c s (i:Int)) (λi=>((getD c i (zi zl)).1==s)=Q4) (Io c) (by
  intro i a k;have g:(P7 (.h2 c s (i:Int))).val=if((getD c i (zi zl)).1==s)=Q3 then Q1 (.inr (.int .i64 i,[]))else Q1 (.inl (.h2 c s ((i+1:Nat):Int))):=by
   simp only[P7,P8,Kk,Q8,zL a,zz a,aK,zh];rw[zt i um]
  rcases zR ((getD c i (zi zl)).1==s)with h|h
  .refine .inr ⟨by rw[h];simp,_,z6.of (by rw[g,ze h]),?_⟩;have:=nu (p:=λx:bX=>x.1==s) (d:=zi zl) c 0 i a h k;rw[show ay c s=(i:Int) by unfold ay;rw[this];simp]
  .exact .inl ⟨h,zN.of (by rw[g,zg (by rw[h];simp)])⟩)
 have a:(zcY c s).val=Q1 (.inl (.h2 c s ((0:Nat):Int))):=rfl;rcases j with⟨e,b⟩|⟨e,r,b,rfl⟩
 .have:=nv (p:=λx:bX=>x.1==s) (d:=zi zl) c 0 e;rw[show ay c s=(-1:Int)from this];refine zB a (b.ends (z6.of (r:=(.int .i64 (-1),[])) ?_)) ow rfl;simp only[P7,P8,Kk,Q8,zG];rfl
 .exact zB a b ow rfl
variable {cols:aM}
theorem oW(h:Io cols<=1000000):eP cols s=Q3:=by unfold eP;rw[D9 h];rfl
theorem r7(h:Io cols<=1000000):gw cols s=ay cols s:=by unfold gw;rw[D9 h];rfl
theorem Vx(t u:Int):pB [t] u=!(cond (t !=u) (t !=0) Q4):=by unfold pB;simp only[ab];rcases zR (cond (t !=u) (t !=0) Q4)with h|h<;>simp[h]
theorem uA(t x u:Int):pB [t,x] u=!(cond (cond (t !=u) (t !=0) Q4) Q3 (cond (x !=u) (x !=0) Q4)):=by unfold pB;simp only[ab];rcases zR (cond (t !=u) (t !=0) Q4)with h|h<;>rcases zR (cond (x !=u) (x !=0) Q4)with a|a<;>simp[h,a]
variable {e:za}
theorem PE{g c}(o:Io cols<=1000000):∃r k,z6 (NL g c) k (.h5 cols ((0:Nat):Int) (e,())) r/\k<=100000000/\aS r.2 [zj,zj] r.1=Q1 (if Q0 (LT.lt (α:=Int) (ay cols (za.s e)) 0)=Q3 then((0:Int),(4:Int),())else((getD cols (toNat (ay cols (za.s e))) (zi zl)).2.1,(0:Int),())):=by
 have m:=mD (t:=NL g c) (Φ:=λr=>aS r.2 [zj,zj] r.1=Q1 (if Q0 (LT.lt (α:=Int) (ay cols (za.s e)) 0)=Q3 then((0:Int),(4:Int),())else((getD cols (toNat (ay cols (za.s e))) (zi zl)).2.1,(0:Int),()))) 1 (λi=>.h5 cols (i:Int) (e,())) (λi=>((getD cols i (zi zl)).1==za.s e)=Q4) (Io cols) (by
  intro i a n;have j:(NL g c (.h5 cols (i:Int) (e,()))).val=if((getD cols i (zi zl)).1==za.s e)=Q3 then Q1 (.inr (.tup [.int .i64 (getD cols i (zi zl)).2.1,.int .i64 0],[]))else Q1 (.inl (.h5 cols ((i+1:Nat):Int) (e,()))):=by
   simp only[NL,Q8,zL a,zz a,aK,zh];rw[zt i um]
  rcases zR ((getD cols i (zi zl)).1==za.s e)with h|h
  .refine .inr ⟨by rw[h];simp,_,z6.of (by rw[j,ze h]),?_⟩;have:=nu (p:=λc:bX=>c.1==za.s e) (d:=zi zl) cols 0 i a h n;rw[show ay cols (za.s e)=(i:Int) by unfold ay;rw[this];simp,zg (by rw[aR];omega),aK];rfl
  .exact .inl ⟨h,zN.of (by rw[j,zg (by rw[h];simp)])⟩)
 rcases m with⟨b,x⟩|⟨b,r,x,l⟩
 .have:=nv (p:=λc:bX=>c.1==za.s e) (d:=zi zl) cols 0 b;refine⟨(.tup [.int .i64 0,.int .i64 4],[]),_,x.ends (z6.of ?_),ow,?_⟩
  .simp only[NL,Q8,zG];rfl
  .rw[show ay cols (za.s e)=(-1:Int)from this];rfl
 .exact⟨r,_,x,ow,l⟩
theorem rX{cols:aM}(F:Io cols<=1000000):∀(N d M:Nat)(e:za),d<=N->d<=M->cG d e=Q3->cw N e cols=Q1 ((zW M e cols).1,(zW M e cols).2,())
 |_,0,_,_,_,_,h=>by cases h
 |0,d+1,_,_,h,_,_=>zC h ow
 |_,d+1,0,_,_,h,_=>zC h ow
 | N+1,d+1,M+1,e,L,O,h=>by
  rw[cw,zW];unfold Sk yu;cases fU h with
  |lit v S=>rfl
  | col s T P=>
   obtain⟨r,k,x,i,j⟩:=PE (g:=λq w=>gu (cw N q w)) (c:=λq w=>(cw N q w).isSome) (cols:=cols) (e:=.mk eK (0,0,[]) s []) F;refine zB JX x i (j.trans ?_);have l:aU (zW M) (bw M) cols eK (0:Int) (0:Int) [] s [] [] 0 []=if Q0 (LT.lt (α:=Int) (ay cols s) 0)=Q3 then((0:Int),(4:Int))else((getD cols (toNat (ay cols s)) (zi zl)).2.1,(0:Int)):=rfl
   show _=Q1 ((aU (zW M) (bw M) cols eK (0:Int) (0:Int) [] s [] [] 0 []).1,(aU (zW M) (bw M) cols eK (0:Int) (0:Int) [] s [] [] 0 []).2,());rw[l];show Q1 (if Q0 (LT.lt (α:=Int) (ay cols s) 0)=Q3 then((0:Int),(4:Int),())else((getD cols (toNat (ay cols s)) (zi zl)).2.1,(0:Int),()))=_;rcases zR (Q0 (LT.lt (α:=Int) (ay cols s) 0))with c|c
   .rw[ze c,ze c]
   .rw[zg (by rw[c];simp),zg (by rw[c];simp)]
  | one J a H G=>
   have C:=rX F N d M a ow ow G;unfold ao bR;generalize E:(λq w=>gu (cw N q w))=g;generalize D:(λq w=>(cw N q w).isSome)=c;have z:g a cols=zW M a cols:=by rw[<-E];show gu (cw N a cols)=_;rw[C];rfl
   have y:c a cols=Q3:=by rw[<-D];show(cw N a cols).isSome=_;rw[C];rfl
   rcases H with rfl|rfl
   .have l:aU (zW M) (bw M) cols ng (0:Int) (0:Int) [] [] [a] [a] 0 []=if((zW M a cols).2!=0)=Q3 then((0:Int),(zW M a cols).2)else if(!pB [(zW M a cols).1] 3)=Q3 then((0:Int),(5:Int))else((3:Int),(0:Int)):=rfl
    show _=Q1 ((aU (zW M) (bw M) cols ng (0:Int) (0:Int) [] [] [a] [a] 0 []).1,(aU (zW M) (bw M) cols ng (0:Int) (0:Int) [] [] [a] [a] 0 []).2,());rw[l,Vx];have o:(Dl g c (.mk ng (0,0,[]) [] [a]) cols).val=if c (zr a) cols=Q3 then(ite (((g (zr a) cols).2!=0)=Q3) (Q1 (.inr (.tup [.int .i64 0,.int .i64 (g (zr a) cols).2],[]))) (ite ((cond ((g (zr a) cols).1!=0) (cond ((g (zr a) cols).1!=3) Q3 (cond ((g (zr a) cols).1!=0) ((g (zr a) cols).1!=3) Q4)) (cond ((g (zr a) cols).1!=0) ((g (zr a) cols).1!=3) Q4))=Q3) (Q1 (.inr (.tup [.int .i64 0,.int .i64 5],[]))) (Q1 (.inr (.tup [.int .i64 3,.int .i64 0],[])))))else Q2:=rfl
    rw[o,zm,y,z];generalize zW M a cols=t;rcases zR (t.2!=0)with x|x<;>rcases zR (t.1!=0)with i|i<;>rcases zR (t.1!=3)with j|j<;>(simp only[x,i,j,ax,aA,zh,zp,zE,ci,da];rfl)
   .have l:aU (zW M) (bw M) cols pk (0:Int) (0:Int) [] [] [a] [a] 0 []=if((zW M a cols).2!=0)=Q3 then((0:Int),(zW M a cols).2)else((3:Int),(0:Int)):=rfl
    show _=Q1 ((aU (zW M) (bw M) cols pk (0:Int) (0:Int) [] [] [a] [a] 0 []).1,(aU (zW M) (bw M) cols pk (0:Int) (0:Int) [] [] [a] [a] 0 []).2,());rw[l];have o:(Dl g c (.mk pk (0,0,[]) [] [a]) cols).val=if c (zr a) cols=Q3 then(ite (((g (zr a) cols).2!=0)=Q3) (Q1 (.inr (.tup [.int .i64 0,.int .i64 (g (zr a) cols).2],[]))) (Q1 (.inr (.tup [.int .i64 3,.int .i64 0],[]))))else Q2:=rfl
    rw[o,zm,y,z];generalize zW M a cols=t;rcases zR (t.2!=0)with x|x<;>(simp only[x,zh,zp,zE];rfl)
  | two J a b H G I=>
   have C:=rX F N d M a ow ow G;have kb:=rX F N d M b ow ow I;unfold ao bR;generalize E:(λq w=>gu (cw N q w))=g;generalize D:(λq w=>(cw N q w).isSome)=c;have z:g a cols=zW M a cols:=by rw[<-E];show gu (cw N a cols)=_;rw[C];rfl
   have y:c a cols=Q3:=by rw[<-D];show(cw N a cols).isSome=_;rw[C];rfl
   have B:g b cols=zW M b cols:=by rw[<-E];show gu (cw N b cols)=_;rw[kb];rfl
   have A:c b cols=Q3:=by rw[<-D];show(cw N b cols).isSome=_;rw[kb];rfl
   rcases H with rfl|rfl|rfl|rfl|rfl|rfl
   .have l:aU (zW M) (bw M) cols ir (0:Int) (0:Int) [] [] [a,b] [a,b] 0 []=if((zW M a cols).2!=0)=Q3 then((0:Int),(zW M a cols).2)else if((zW M b cols).2!=0)=Q3 then((0:Int),(zW M b cols).2)else if(!pB [(zW M a cols).1,(zW M b cols).1] 3)=Q3 then((0:Int),(5:Int))else((3:Int),(0:Int)):=rfl
    show _=Q1 ((aU (zW M) (bw M) cols ir (0:Int) (0:Int) [] [] [a,b] [a,b] 0 []).1,(aU (zW M) (bw M) cols ir (0:Int) (0:Int) [] [] [a,b] [a,b] 0 []).2,());rw[l,uA];have o:(Dl g c (.mk ir (0,0,[]) [] [a,b]) cols).val=if c (zr a) cols=Q3 then(ite (((g (zr a) cols).2!=0)=Q3) (Q1 (.inr (.tup [.int .i64 0,.int .i64 (g (zr a) cols).2],[]))) (ite (c (zr b) cols=Q3) (ite (((g (zr b) cols).2!=0)=Q3) (Q1 (.inr (.tup [.int .i64 0,.int .i64 (g (zr b) cols).2],[]))) (ite ((cond ((g (zr a) cols).1!=0) (cond ((g (zr a) cols).1!=3) Q3 (cond ((g (zr b) cols).1!=0) ((g (zr b) cols).1!=3) Q4)) (cond ((g (zr b) cols).1!=0) ((g (zr b) cols).1!=3) Q4))=Q3) (Q1 (.inr (.tup [.int .i64 0,.int .i64 5],[]))) (Q1 (.inr (.tup [.int .i64 3,.int .i64 0],[]))))) Q2))else Q2:=rfl
    rw[o,zm,zm,y,A,z,B];generalize zW M a cols=t;generalize zW M b cols=u;rcases zR (t.2!=0)with x|x<;>rcases zR (u.2!=0)with i|i<;>rcases zR (t.1!=0)with j|j<;>rcases zR (u.1!=0)with m|m<;>rcases zR (t.1!=3)with n|n<;>rcases zR (u.1!=3)with p|p<;>(simp only[x,i,j,m,n,p,ax,aA,zh,zp,zE,ci,da];rfl)
   .have l:aU (zW M) (bw M) cols uG (0:Int) (0:Int) [] [] [a,b] [a,b] 0 []=if((zW M a cols).2!=0)=Q3 then((0:Int),(zW M a cols).2)else if((zW M b cols).2!=0)=Q3 then((0:Int),(zW M b cols).2)else if(!pB [(zW M a cols).1,(zW M b cols).1] 3)=Q3 then((0:Int),(5:Int))else((3:Int),(0:Int)):=rfl
    show _=Q1 ((aU (zW M) (bw M) cols uG (0:Int) (0:Int) [] [] [a,b] [a,b] 0 []).1,(aU (zW M) (bw M) cols uG (0:Int) (0:Int) [] [] [a,b] [a,b] 0 []).2,());rw[l,uA];have o:(Dl g c (.mk uG (0,0,[]) [] [a,b]) cols).val=if c (zr a) cols=Q3 then(ite (((g (zr a) cols).2!=0)=Q3) (Q1 (.inr (.tup [.int .i64 0,.int .i64 (g (zr a) cols).2],[]))) (ite (c (zr b) cols=Q3) (ite (((g (zr b) cols).2!=0)=Q3) (Q1 (.inr (.tup [.int .i64 0,.int .i64 (g (zr b) cols).2],[]))) (ite ((cond ((g (zr a) cols).1!=0) (cond ((g (zr a) cols).1!=3) Q3 (cond ((g (zr b) cols).1!=0) ((g (zr b) cols).1!=3) Q4)) (cond ((g (zr b) cols).1!=0) ((g (zr b) cols).1!=3) Q4))=Q3) (Q1 (.inr (.tup [.int .i64 0,.int .i64 5],[]))) (Q1 (.inr (.tup [.int .i64 3,.int .i64 0],[]))))) Q2))else Q2:=rfl
    rw[o,zm,zm,y,A,z,B];generalize zW M a cols=t;generalize zW M b cols=u;rcases zR (t.2!=0)with x|x<;>rcases zR (u.2!=0)with i|i<;>rcases zR (t.1!=0)with j|j<;>rcases zR (u.1!=0)with m|m<;>rcases zR (t.1!=3)with n|n<;>rcases zR (u.1!=3)with p|p<;>(simp only[x,i,j,m,n,p,ax,aA,zh,zp,zE,ci,da];rfl)
   .have l:aU (zW M) (bw M) cols [61] (0:Int) (0:Int) [] [] [a,b] [a,b] 0 []=if((zW M a cols).2!=0)=Q3 then((0:Int),(zW M a cols).2)else if((zW M b cols).2!=0)=Q3 then((0:Int),(zW M b cols).2)else if(!bif (zW M a cols).1==(zW M b cols).1 then Q3 else bif (zW M a cols).1==0 then Q3 else(zW M b cols).1==0)=Q3 then((0:Int),(5:Int))else((3:Int),(0:Int)):=rfl
    show _=Q1 ((aU (zW M) (bw M) cols [61] (0:Int) (0:Int) [] [] [a,b] [a,b] 0 []).1,(aU (zW M) (bw M) cols [61] (0:Int) (0:Int) [] [] [a,b] [a,b] 0 []).2,());rw[l];have o:(Dl g c (.mk [61] (0,0,[]) [] [a,b]) cols).val=if c (zr a) cols=Q3 then(ite (((g (zr a) cols).2!=0)=Q3) (Q1 (.inr (.tup [.int .i64 0,.int .i64 (g (zr a) cols).2],[]))) (ite (c (zr b) cols=Q3) (ite (((g (zr b) cols).2!=0)=Q3) (Q1 (.inr (.tup [.int .i64 0,.int .i64 (g (zr b) cols).2],[]))) (ite ((cond ((g (zr a) cols).1!=0) (cond ((g (zr b) cols).1!=0) ((g (zr a) cols).1!=(g (zr b) cols).1) Q4) Q4)=Q3) (Q1 (.inr (.tup [.int .i64 0,.int .i64 5],[]))) (Q1 (.inr (.tup [.int .i64 3,.int .i64 0],[]))))) Q2))else Q2:=rfl
    rw[o,zm,zm,y,A,z,B];generalize zW M a cols=t;generalize zW M b cols=u;simp only[bne];rcases zR (t.2==0)with x|x<;>rcases zR (u.2==0)with i|i<;>rcases zR (t.1==0)with j|j<;>rcases zR (u.1==0)with m|m<;>rcases zR (t.1==u.1)with n|n<;>(simp only[x,i,j,m,n,ax,aA,zh,zp,zE,ci,da];rfl)
   .have l:aU (zW M) (bw M) cols [60] (0:Int) (0:Int) [] [] [a,b] [a,b] 0 []=if((zW M a cols).2!=0)=Q3 then((0:Int),(zW M a cols).2)else if((zW M b cols).2!=0)=Q3 then((0:Int),(zW M b cols).2)else if(!bif (zW M a cols).1==(zW M b cols).1 then Q3 else bif (zW M a cols).1==0 then Q3 else(zW M b cols).1==0)=Q3 then((0:Int),(5:Int))else((3:Int),(0:Int)):=rfl
    show _=Q1 ((aU (zW M) (bw M) cols [60] (0:Int) (0:Int) [] [] [a,b] [a,b] 0 []).1,(aU (zW M) (bw M) cols [60] (0:Int) (0:Int) [] [] [a,b] [a,b] 0 []).2,());rw[l];have o:(Dl g c (.mk [60] (0,0,[]) [] [a,b]) cols).val=if c (zr a) cols=Q3 then(ite (((g (zr a) cols).2!=0)=Q3) (Q1 (.inr (.tup [.int .i64 0,.int .i64 (g (zr a) cols).2],[]))) (ite (c (zr b) cols=Q3) (ite (((g (zr b) cols).2!=0)=Q3) (Q1 (.inr (.tup [.int .i64 0,.int .i64 (g (zr b) cols).2],[]))) (ite ((cond ((g (zr a) cols).1!=0) (cond ((g (zr b) cols).1!=0) ((g (zr a) cols).1!=(g (zr b) cols).1) Q4) Q4)=Q3) (Q1 (.inr (.tup [.int .i64 0,.int .i64 5],[]))) (Q1 (.inr (.tup [.int .i64 3,.int .i64 0],[]))))) Q2))else Q2:=rfl
    rw[o,zm,zm,y,A,z,B];generalize zW M a cols=t;generalize zW M b cols=u;simp only[bne];rcases zR (t.2==0)with x|x<;>rcases zR (u.2==0)with i|i<;>rcases zR (t.1==0)with j|j<;>rcases zR (u.1==0)with m|m<;>rcases zR (t.1==u.1)with n|n<;>(simp only[x,i,j,m,n,ax,aA,zh,zp,zE,ci,da];rfl)
   .have l:aU (zW M) (bw M) cols [43] (0:Int) (0:Int) [] [] [a,b] [a,b] 0 []=if((zW M a cols).2!=0)=Q3 then((0:Int),(zW M a cols).2)else if((zW M b cols).2!=0)=Q3 then((0:Int),(zW M b cols).2)else if(!pB [(zW M a cols).1,(zW M b cols).1] 1)=Q3 then((0:Int),(5:Int))else((1:Int),(0:Int)):=rfl
    show _=Q1 ((aU (zW M) (bw M) cols [43] (0:Int) (0:Int) [] [] [a,b] [a,b] 0 []).1,(aU (zW M) (bw M) cols [43] (0:Int) (0:Int) [] [] [a,b] [a,b] 0 []).2,());rw[l,uA];have o:(Dl g c (.mk [43] (0,0,[]) [] [a,b]) cols).val=if c (zr a) cols=Q3 then(ite (((g (zr a) cols).2!=0)=Q3) (Q1 (.inr (.tup [.int .i64 0,.int .i64 (g (zr a) cols).2],[]))) (ite (c (zr b) cols=Q3) (ite (((g (zr b) cols).2!=0)=Q3) (Q1 (.inr (.tup [.int .i64 0,.int .i64 (g (zr b) cols).2],[]))) (ite ((cond ((g (zr a) cols).1!=0) (cond ((g (zr a) cols).1!=1) Q3 (cond ((g (zr b) cols).1!=0) ((g (zr b) cols).1!=1) Q4)) (cond ((g (zr b) cols).1!=0) ((g (zr b) cols).1!=1) Q4))=Q3) (Q1 (.inr (.tup [.int .i64 0,.int .i64 5],[]))) (Q1 (.inr (.tup [.int .i64 1,.int .i64 0],[]))))) Q2))else Q2:=rfl
    rw[o,zm,zm,y,A,z,B];generalize zW M a cols=t;generalize zW M b cols=u;rcases zR (t.2!=0)with x|x<;>rcases zR (u.2!=0)with i|i<;>rcases zR (t.1!=0)with j|j<;>rcases zR (u.1!=0)with m|m<;>rcases zR (t.1!=1)with n|n<;>rcases zR (u.1!=1)with p|p<;>(simp only[x,i,j,m,n,p,ax,aA,zh,zp,zE,ci,da];rfl)
   .have l:aU (zW M) (bw M) cols [45] (0:Int) (0:Int) [] [] [a,b] [a,b] 0 []=if((zW M a cols).2!=0)=Q3 then((0:Int),(zW M a cols).2)else if((zW M b cols).2!=0)=Q3 then((0:Int),(zW M b cols).2)else if(!pB [(zW M a cols).1,(zW M b cols).1] 1)=Q3 then((0:Int),(5:Int))else((1:Int),(0:Int)):=rfl
    show _=Q1 ((aU (zW M) (bw M) cols [45] (0:Int) (0:Int) [] [] [a,b] [a,b] 0 []).1,(aU (zW M) (bw M) cols [45] (0:Int) (0:Int) [] [] [a,b] [a,b] 0 []).2,());rw[l,uA];have o:(Dl g c (.mk [45] (0,0,[]) [] [a,b]) cols).val=if c (zr a) cols=Q3 then(ite (((g (zr a) cols).2!=0)=Q3) (Q1 (.inr (.tup [.int .i64 0,.int .i64 (g (zr a) cols).2],[]))) (ite (c (zr b) cols=Q3) (ite (((g (zr b) cols).2!=0)=Q3) (Q1 (.inr (.tup [.int .i64 0,.int .i64 (g (zr b) cols).2],[]))) (ite ((cond ((g (zr a) cols).1!=0) (cond ((g (zr a) cols).1!=1) Q3 (cond ((g (zr b) cols).1!=0) ((g (zr b) cols).1!=1) Q4)) (cond ((g (zr b) cols).1!=0) ((g (zr b) cols).1!=1) Q4))=Q3) (Q1 (.inr (.tup [.int .i64 0,.int .i64 5],[]))) (Q1 (.inr (.tup [.int .i64 1,.int .i64 0],[]))))) Q2))else Q2:=rfl
    rw[o,zm,zm,y,A,z,B];generalize zW M a cols=t;generalize zW M b cols=u;rcases zR (t.2!=0)with x|x<;>rcases zR (u.2!=0)with i|i<;>rcases zR (t.1!=0)with j|j<;>rcases zR (u.1!=0)with m|m<;>rcases zR (t.1!=1)with n|n<;>rcases zR (u.1!=1)with p|p<;>(simp only[x,i,j,m,n,p,ax,aA,zh,zp,zE,ci,da];rfl)
theorem iy:lj (0,0,[]):=⟨by decide,by decide,sw⟩
theorem mV(b:Bool):lj (yq b):=by cases b<;>exact⟨by decide,by decide,by simp[yq]⟩
theorem Vs:lj (3,0,[]):=mV Q4
theorem Vt:lj (3,1,[]):=mV Q3
theorem zbG(a b:zo):lj (FL a b):=by unfold FL;rw[nX,lS,lT];split;exact Vs;split;exact Vt;exact iy
theorem zjb(a b:zo):lj (vOr a b):=by unfold vOr;rw[nX,lS,lT];split;exact Vt;split;exact Vs;exact iy
theorem zbI(a:zo):lj (AQ a):=by unfold AQ;rw[nX,lS,lT];split;exact Vs;split;exact Vt;exact iy
theorem zja(a b:zo):lj (mQ a b):=by unfold mQ;split;exact iy;rw[jA];exact mV _
theorem Vu(a b:zo):lj (ti a b):=by unfold ti;split;exact iy;rw[jA];exact mV _
theorem N5(a:zo):lj (jJ a):=by unfold jJ;rw[jA];exact mV _
theorem KV(n:Int):lj (1,Γ Δ n,[]):=by
 refine⟨?_,?_,sw⟩
 .show(-9223372036854775808:Int)<=Γ Δ n;rw[ee];omega
 .show Γ Δ n<=(9223372036854775807:Int);rw[ee];omega
theorem KU(a b:zo):lj (py a b):=by unfold py;split;exact iy;split;exact iy;exact KV _
theorem S8(a b:zo):lj (mR a b):=by unfold mR;split;exact iy;split;exact iy;exact KV _
def up(c:aM)(h:zw)(s:zH):zo:=if(cond (Q0 (ay c s<0)) Q3 (Q0 (ay c s>=(↑h.length:Int))))=Q3 then(0,0,[])else h.getD (toNat (ay c s)) (zi zf)
variable {row:zw}
theorem PC{g c}(u:Io cols<=1000000):∃r k,z6 (Az g c) k (.h6 cols row ((0:Nat):Int) (e,()) ((0,0,[]),())) r/\k<=100000000/\aS r.2 [zf] r.1=Q1 (up cols row (za.s e),()):=by
 have o:=mD (t:=Az g c) (Φ:=λr=>aS r.2 [zf] r.1=Q1 (up cols row (za.s e),())) 1 (λi=>.h6 cols row (i:Int) (e,()) ((0,0,[]),())) (λi=>((getD cols i (zi zl)).1==za.s e)=Q4) (Io cols) (by
  intro i b q;have j:(Az g c (.h6 cols row (i:Int) (e,()) ((0,0,[]),()))).val=if((getD cols i (zi zl)).1==za.s e)=Q3 then(ite (Q0 ((i:Int)<(Io row:Int))=Q3) (ite (zK (i:Int) (Io row)=Q3) (Q1 (.inr (.agg [.int .i64 (getD row i (zi zf)).1,.int .i64 (getD row i (zi zf)).2.1,.str (getD row i (zi zf)).2.2],[]))) Q2) (Q1 (.inr (.agg [.int .i64 0,.int .i64 0,.str []],[]))))else Q1 (.inl (.h6 cols row ((i+1:Nat):Int) (e,()) ((0,0,[]),()))):=by
   simp only[Az,Q8,zL b,zz b,aK,zh];rw[zt i um]
  rcases zR ((getD cols i (zi zl)).1==za.s e)with h|h
  .have x:=nu (p:=λc:bX=>c.1==za.s e) (d:=zi zl) cols 0 i b h q;have x:ay cols (za.s e)=(i:Int):=by unfold ay;rw[x];simp
   by_cases m:i<Io row
   .refine .inr ⟨by rw[h];simp,_,z6.of (by rw[j,ze h,ze (zL m),ze (zz m)]),?_⟩;unfold up;rw[x,zg (by rw[ae (by omega:¬(i:Int)<0),ae (by omega:¬(i:Int)>=(Io row:Int))];simp),aK];rfl
   .refine .inr ⟨by rw[h];simp,_,z6.of (by rw[j,ze h,zg (by rw[aR];omega)]),?_⟩;unfold up;rw[x,ze (by rw[ae (by omega:¬(i:Int)<0),zy (by omega:(i:Int)>=(Io row:Int))];rfl)];rfl
  .exact .inl ⟨h,zN.of (by rw[j,zg (by rw[h];simp)])⟩)
 rcases o with⟨l,a⟩|⟨l,r,a,n⟩
 .have x:=nv (p:=λc:bX=>c.1==za.s e) (d:=zi zl) cols 0 l;refine⟨(.agg [.int .i64 0,.int .i64 0,.str []],[]),_,a.ends (z6.of ?_),ow,?_⟩
  .simp only[Az,Q8,zG];rfl
  .unfold up;rw[show ay cols (za.s e)=(-1:Int)from x];rfl
 .exact⟨r,_,a,ow,n⟩
variable {h:zw}
theorem zbH(a:∀v∈h,lj v):lj (up c h s):=by
 unfold up;split
 .exact iy
 .by_cases x:toNat (ay c s)<Io h
  .exact a _ (ce x)
  .rw[aZ,eX ow];exact iy
theorem rS{cols:aM}{h:zw}(E:Io cols<=1000000)(F:∀v∈h,lj v):∀(N d M:Nat)(e:za),d<=N->d<=M->cG d e=Q3->tp e->cF N e cols h=Q1 (dN M cols h e,())/\lj (dN M cols h e)
 |_,0,_,_,_,_,i,_=>by cases i
 |0,d+1,_,_,i,_,_,_=>zC i ow
 |_,d+1,0,_,_,i,_,_=>zC i ow
 | N+1,d+1,M+1,e,U,W,i,w=>by
  rw[cF,dN];unfold Si;cases fU i with
  | lit v X=>
   rw[tp]at w;exact⟨rfl,w.1⟩
  | col s L J=>
   obtain⟨r,k,O,P,S⟩:=PC (g:=λn o p=>g8 (cF N n o p)) (c:=λn o p=>(cF N n o p).isSome) (cols:=cols) (row:=h) (e:=.mk eK (0,0,[]) s []) E;exact⟨zB JX O P S,zbH F⟩
  | one T a H G=>
   rw[tp,kB]at w;obtain⟨B,m⟩:=rS E F N d M a ow ow G w.2.2.1;unfold ao bR;generalize D:(λn o p=>g8 (cF N n o p))=g;generalize C:(λn o p=>(cF N n o p).isSome)=c;have t:g a cols h=dN M cols h a:=by rw[<-D];show g8 (cF N a cols h)=_;rw[B];rfl
   have q:c a cols h=Q3:=by rw[<-C];show(cF N a cols h).isSome=_;rw[B];rfl
   rcases H with rfl|rfl
   .have j:sH (dN M) cols h (.mk ng (0,0,[]) [] [a])=AQ (dN M cols h a):=rfl;have l:(qh g c (.mk ng (0,0,[]) [] [a]) cols h).val=if c (zr a) cols h=Q3 then(ite (Jj (g (zr a) cols h)=Q3) (Q1 (.inr (.agg [.int .i64 (Hu (g (zr a) cols h)).1,.int .i64 (Hu (g (zr a) cols h)).2.1,.str (Hu (g (zr a) cols h)).2.2],[]))) Q2)else Q2:=rfl
    rw[j,l,zm,q,t];generalize dN M cols h a=x at*;rw[Zp,zdz];exact⟨rfl,zbI _⟩
   .have j:sH (dN M) cols h (.mk pk (0,0,[]) [] [a])=jJ (dN M cols h a):=rfl;have l:(qh g c (.mk pk (0,0,[]) [] [a]) cols h).val=if c (zr a) cols h=Q3 then(ite (mI (g (zr a) cols h)=Q3) (ite ((!tc (g (zr a) cols h))=Q3) (Q1 (.inr (.agg [.int .i64 (bn Q3).1,.int .i64 (bn Q3).2.1,.str (bn Q3).2.2],[]))) (ite (lI ((g (zr a) cols h).1==0)=Q3) (Q1 (.inr (.agg [.int .i64 (bn ((g (zr a) cols h).1==0)).1,.int .i64 (bn ((g (zr a) cols h).1==0)).2.1,.str (bn ((g (zr a) cols h).1==0)).2.2],[]))) Q2)) Q2)else Q2:=rfl
    rw[j,l,zm,q,t];generalize dN M cols h a=x at*;refine⟨?_,N5 _⟩;rw[lH m.2.2,oP m.2.2,oR,il,il];unfold jJ aC;rw[jA];cases bh x
    .rfl
    .rfl
  | two T a b H G I=>
   rw[tp,kB,kB]at w;obtain⟨B,m⟩:=rS E F N d M a ow ow G w.2.2.1;obtain⟨kb,u⟩:=rS E F N d M b ow ow I w.2.2.2.1;unfold ao bR;generalize D:(λn o p=>g8 (cF N n o p))=g;generalize C:(λn o p=>(cF N n o p).isSome)=c;have t:g a cols h=dN M cols h a:=by rw[<-D];show g8 (cF N a cols h)=_;rw[B];rfl
   have q:c a cols h=Q3:=by rw[<-C];show(cF N a cols h).isSome=_;rw[B];rfl
   have A:g b cols h=dN M cols h b:=by rw[<-D];show g8 (cF N b cols h)=_;rw[kb];rfl
   have z:c b cols h=Q3:=by rw[<-C];show(cF N b cols h).isSome=_;rw[kb];rfl
   rcases H with rfl|rfl|rfl|rfl|rfl|rfl
   .have j:sH (dN M) cols h (.mk ir (0,0,[]) [] [a,b])=FL (dN M cols h a) (dN M cols h b):=rfl;have l:(qh g c (.mk ir (0,0,[]) [] [a,b]) cols h).val=if c (zr a) cols h=Q3 then(ite (c (zr b) cols h=Q3) (ite (Jg (g (zr a) cols h) (g (zr b) cols h)=Q3) (Q1 (.inr (.agg [.int .i64 (Hs (g (zr a) cols h) (g (zr b) cols h)).1,.int .i64 (Hs (g (zr a) cols h) (g (zr b) cols h)).2.1,.str (Hs (g (zr a) cols h) (g (zr b) cols h)).2.2],[]))) Q2) Q2)else Q2:=rfl
    rw[j,l,zm,zm,q,z,t,A];generalize dN M cols h a=x at*;generalize dN M cols h b=y at*;rw[Zn,zdy];exact⟨rfl,zbG _ _⟩
   .have j:sH (dN M) cols h (.mk uG (0,0,[]) [] [a,b])=vOr (dN M cols h a) (dN M cols h b):=rfl;have l:(qh g c (.mk uG (0,0,[]) [] [a,b]) cols h).val=if c (zr a) cols h=Q3 then(ite (c (zr b) cols h=Q3) (ite (Sf (g (zr a) cols h) (g (zr b) cols h)=Q3) (Q1 (.inr (.agg [.int .i64 (Ux (g (zr a) cols h) (g (zr b) cols h)).1,.int .i64 (Ux (g (zr a) cols h) (g (zr b) cols h)).2.1,.str (Ux (g (zr a) cols h) (g (zr b) cols h)).2.2],[]))) Q2) Q2)else Q2:=rfl
    rw[j,l,zm,zm,q,z,t,A];generalize dN M cols h a=x at*;generalize dN M cols h b=y at*;rw[zdA,zlO];exact⟨rfl,zjb _ _⟩
   .have j:sH (dN M) cols h (.mk [61] (0,0,[]) [] [a,b])=mQ (dN M cols h a) (dN M cols h b):=rfl;have l:(qh g c (.mk [61] (0,0,[]) [] [a,b]) cols h).val=if c (zr a) cols h=Q3 then(ite (c (zr b) cols h=Q3) (ite (vG (g (zr a) cols h) (g (zr b) cols h)=Q3) (Q1 (.inr (.agg [.int .i64 (rK (g (zr a) cols h) (g (zr b) cols h)).1,.int .i64 (rK (g (zr a) cols h) (g (zr b) cols h)).2.1,.str (rK (g (zr a) cols h) (g (zr b) cols h)).2.2],[]))) Q2) Q2)else Q2:=rfl
    rw[j,l,zm,zm,q,z,t,A];generalize dN M cols h a=x at*;generalize dN M cols h b=y at*;rw[Pz m.2.2 u.2.2,Uu m.2.2 u.2.2];exact⟨rfl,zja _ _⟩
   .have j:sH (dN M) cols h (.mk [60] (0,0,[]) [] [a,b])=ti (dN M cols h a) (dN M cols h b):=rfl;have l:(qh g c (.mk [60] (0,0,[]) [] [a,b]) cols h).val=if c (zr a) cols h=Q3 then(ite (c (zr b) cols h=Q3) (ite (Bf (g (zr a) cols h) (g (zr b) cols h)=Q3) (Q1 (.inr (.agg [.int .i64 (xX (g (zr a) cols h) (g (zr b) cols h)).1,.int .i64 (xX (g (zr a) cols h) (g (zr b) cols h)).2.1,.str (xX (g (zr a) cols h) (g (zr b) cols h)).2.2],[]))) Q2) Q2)else Q2:=rfl
    rw[j,l,zm,zm,q,z,t,A];generalize dN M cols h a=x at*;generalize dN M cols h b=y at*;rw[Uv m.2.2 u.2.2,Zo m.2.2 u.2.2];exact⟨rfl,Vu _ _⟩
   .have j:sH (dN M) cols h (.mk [43] (0,0,[]) [] [a,b])=py (dN M cols h a) (dN M cols h b):=rfl;have l:(qh g c (.mk [43] (0,0,[]) [] [a,b]) cols h).val=if c (zr a) cols h=Q3 then(ite (c (zr b) cols h=Q3) (ite (Bg (g (zr a) cols h) (g (zr b) cols h)=Q3) (Q1 (.inr (.agg [.int .i64 (xY (g (zr a) cols h) (g (zr b) cols h)).1,.int .i64 (xY (g (zr a) cols h) (g (zr b) cols h)).2.1,.str (xY (g (zr a) cols h) (g (zr b) cols h)).2.2],[]))) Q2) Q2)else Q2:=rfl
    rw[j,l,zm,zm,q,z,t,A];generalize dN M cols h a=x at*;generalize dN M cols h b=y at*;rw[Uz m u,Zq m u];exact⟨rfl,KU _ _⟩
   .have j:sH (dN M) cols h (.mk [45] (0,0,[]) [] [a,b])=mR (dN M cols h a) (dN M cols h b):=rfl;have l:(qh g c (.mk [45] (0,0,[]) [] [a,b]) cols h).val=if c (zr a) cols h=Q3 then(ite (c (zr b) cols h=Q3) (ite (vI (g (zr a) cols h) (g (zr b) cols h)=Q3) (Q1 (.inr (.agg [.int .i64 (rL (g (zr a) cols h) (g (zr b) cols h)).1,.int .i64 (rL (g (zr a) cols h) (g (zr b) cols h)).2.1,.str (rL (g (zr a) cols h) (g (zr b) cols h)).2.2],[]))) Q2) Q2)else Q2:=rfl
    rw[j,l,zm,zm,q,z,t,A];generalize dN M cols h a=x at*;generalize dN M cols h b=y at*;rw[PA m u,Uw m u];exact⟨rfl,S8 _ _⟩
theorem rC:∀(N k:Nat)(e:za)(n:Nat),k<=12->n<=60->(iu N e ((13:Int)-k) n).1=Q3->cG k e=Q3/\(iu N e ((13:Int)-k) n).2=((n+nE k e:Nat):Int)/\n+nE k e<=60
 |0,_,_,_,_,_,h=>by cases h
 | N+1,0,e,n,_,_,h=>by
  rw[iu]at h;unfold AN at h;rw[ze JX]at h;cases h
 | N + 1,k+1,.mk o v s l,n,J,L,h=>by
  have I:Γ Δ ((n:Int)+1)=((n+1:Nat):Int):=zt n um;have z:Γ Δ ((13:Int)-((k+1:Nat):Int)+1)=(13:Int)-(k:Int):=by rw[ee];omega
  have D:Q0 ((13:Int)-((k+1:Nat):Int)>12)=Q4:=ae ow;rw[iu]at h|-
  have e0:∀m:Int,AN (iu N) (.mk o v s l) m n=if(cond (Q0 (m>12)) Q3 (cond (Q0 (((n+1:Nat):Int)>60)) Q3 ((↑l.length:Int)!=dm o)))=Q3 then(Q4,((n+1:Nat):Int))else
    if(o==ot)=Q3 then(cond (s==[]) (bh v) Q4,((n+1:Nat):Int))else
    if(o==eK)=Q3 then(cond (bu v) (cond (eo s) (!jw s) Q4) Q4,((n+1:Nat):Int))else
    if(cond (!bu v) Q3 (!s==[]))=Q3 then(Q4,((n+1:Nat):Int))else pF (iu N) m l ((n+1:Nat):Int):=by
   intro m;unfold AN;rw[I];rfl
  rw[e0,D]at h|-;rcases zR (Q0 (((n+1:Nat):Int)>60))with q|q
  .rw[q,ze JX]at h;cases h
  rcases zR ((↑l.length:Int)!=dm o)with t|t
  .rw[q,t,ze JX]at h;cases h
  have A:n+1<=60:=by simp at q;omega
  have j:(Io l:Int)=dm o:=by simpa using t
  rw[q,t,zg sw]at h|-;rcases ms o with⟨p,d⟩|⟨p,d⟩|⟨p,d⟩|p
  .have E:l=[]:=AF ow;subst E;rcases d with rfl|rfl
   .rw[ze JX]at h|-;obtain⟨a,b⟩:=cJ h;refine⟨?_,by simp[nE],by simp[nE];omega⟩;simp[cG,b,bF a]
   .rw[zg (by decide),ze JX]at h|-;obtain⟨a,b⟩:=cJ h;obtain⟨b,c⟩:=cJ b;refine⟨?_,by simp[nE],by simp[nE];omega⟩;have C:jw s=Q4:=by simpa using c
    simp[cG,a,b,C]
  .obtain⟨a,rfl⟩:∃a,l=[a]:=List.length_eq_one_iff.1 ow;have o1:(o==ot)=Q4:=by rcases d with rfl|rfl<;>rfl
   have o2:(o==eK)=Q4:=by rcases d with rfl|rfl<;>rfl
   have o3:(cond (o==ng) Q3 (o==pk))=Q3:=by rcases d with rfl|rfl<;>rfl
   rw[zg (by rw[o1];simp),zg (by rw[o2];simp)]at h|-;rcases zR (bu v)with x|x
   .rcases zR (s==[])with g|g
    .rw[x,g,zg sw]at h|-;rw[pF,z]at h|-;rcases zR (iu N a ((13:Int)-(k:Int)) ((n+1:Nat):Int)).1 with i|i
     .obtain⟨w,y,B⟩:=rC N k a (n+1) ow A i;rw[i,zg sw];refine⟨by simp[cG,o1,o2,o3,x,g,w],?_,by simp[nE];omega⟩;rw[pF];show(iu N a ((13:Int)-(k:Int)) ((n+1:Nat):Int)).2=_;rw[y];simp[nE];omega
     .rw[i,ze JX]at h;cases h
    .rw[x,g,ze JX]at h;cases h
   .rw[x,ze JX]at h;cases h
  .obtain⟨a,b,rfl⟩:∃a b,l=[a,b]:=by
    match l,j with
    |[a,b],_=>exact⟨a,b,rfl⟩
    |[],j=>exact zC j (by rw[p];simp)
    |[_],j=>exact zC j (by rw[p];simp)
    |_::_::_::_,j=>exact zC j (by rw[p];simp;omega)
   have o1:(o==ot)=Q4:=by rcases d with rfl|rfl|rfl|rfl|rfl|rfl<;>rfl
   have o2:(o==eK)=Q4:=by rcases d with rfl|rfl|rfl|rfl|rfl|rfl<;>rfl
   have o3:(cond (o==ng) Q3 (o==pk))=Q4:=by rcases d with rfl|rfl|rfl|rfl|rfl|rfl<;>rfl
   have H:FI o=Q3:=by rcases d with rfl|rfl|rfl|rfl|rfl|rfl<;>rfl
   rw[zg (by rw[o1];simp),zg (by rw[o2];simp)]at h|-;rcases zR (bu v)with x|x
   .rcases zR (s==[])with g|g
    .rw[x,g,zg sw]at h|-;rw[pF,z]at h|-;rcases zR (iu N a ((13:Int)-(k:Int)) ((n+1:Nat):Int)).1 with i|i
     .obtain⟨w,y,B⟩:=rC N k a (n+1) ow A i;rw[i,zg sw]at h|-;rw[y,pF,z]at h|-;rcases zR (iu N b ((13:Int)-(k:Int)) ((n+1+nE k a:Nat):Int)).1 with u|u
      .obtain⟨F,G,M⟩:=rC N k b (n+1+nE k a) ow B u;rw[u,zg sw];refine⟨by simp[cG,o1,o2,o3,H,x,g,w,F],?_,by simp[nE];omega⟩;rw[pF];show(iu N b ((13:Int)-(k:Int)) ((n+1+nE k a:Nat):Int)).2=_;rw[G];simp[nE];omega
      .rw[u,ze JX]at h;cases h
     .rw[i,ze JX]at h;cases h
    .rw[x,g,ze JX]at h;cases h
   .rw[x,ze JX]at h;cases h
  .omega
theorem wW(e:za):dD e=(cond (cG 12 e) (Q0 (nE 12 e<=60)) Q4):=by
 unfold dD;rcases zR (iu 16 e 1 0).1 with c|c
 .obtain⟨a,_,d⟩:=rC 16 12 e 0 ow ow c;rw[c,a,zy ow];rfl
 .rw[c];rcases zR (cG 12 e)with g|g
  .rw[g];by_cases h:nE 12 e<=60
   .have:=rD 16 12 e 0 ow ow g ow;have b:(iu 16 e 1 0).1=Q3:=by
     have x:iu 16 e 1 0=(Q3,((0+nE 12 e:Nat):Int)):=this;rw[x]
    rw[b]at c;cases c
   .rw[ae h];rfl
  .rw[g];rfl
theorem M0(j:tp e):D5 e=Q1 (dD e,()):=by
 have d:Jp e 12=Q1 (cG 12 e,()):=Hz 16 12 e ow ow j;have x:Bm e 12=Q3:=by unfold Bm;rw[d];rfl
 have a:Jo e 12=cG 12 e:=by unfold Jo;rw[d];rfl
 unfold D5 ao bR;simp only[zqY,Q8,zm,x,a];rw[wW];rcases zR (cG 12 e)with g|g
 .have i:D7 e=Q1 ((nE 12 e:Int),()):=oV 16 12 e ow ow g;have b:vO e=Q3:=by unfold vO;rw[i];rfl
  have c:Bn e=(nE 12 e:Int):=by unfold Bn;rw[i];rfl
  rw[g,b,c];have:Q0 (((nE 12 e:Nat):Int)<=60)=Q0 (nE 12 e<=60):=by
   by_cases h:nE 12 e<=60
   .rw[zy h,zy ow]
   .rw[ae h,ae ow]
  rw[this];rfl
 .rw[g];rfl
theorem nI(h:tp e):uf e=Q3:=by unfold uf;rw[M0 h];rfl
theorem rT(h:tp e):D4 e=dD e:=by unfold D4;rw[M0 h];rfl
theorem ls(h:dD e=Q3):cG 12 e=Q3:=by rw[wW]at h;exact(cJ h).1
theorem M2(x:Io cols<=1000000)(h:dD e=Q3):Bl e cols=Q1 ((b8 e cols).1,(b8 e cols).2,()):=by have:=rX x 16 12 16 e ow ow (ls h);unfold Bl b8;rw[this,h];rfl
theorem Zr(x:Io cols<=1000000)(a:∀v∈row,lj v)(b:tp e)(h:dD e=Q3):Bj e cols row=Q1 (kr e cols row,()):=by have:=(rS x a 16 12 16 e ow ow (ls h) b).1;unfold Bj kr;rw[this,h];rfl
theorem EM(e:za):fJ 16 e xQ=(e.op==[]&&(bu e.v&&(e.s==[]&&Io e.l==0))):=by
 show Nx (fJ 15) e xQ=_;unfold Nx OR eqV bu;obtain⟨o,v,s,l⟩:=e;simp only[za.op,za.v,za.s,za.l];cases l with
 | nil=>
  simp only[pj,eqL];cases(o==[])<;>cases(v.1==0&&(v.2.1==0&&(v.2.2==[]&&Q3)))<;>cases(s==[])<;>rfl
 | cons x r=>
  have:(((x::r).length:Int)!=(([]:List za).length:Int))=Q3:=by simp;omega
  simp only[this];cases(o==[])<;>cases(v.1==0&&(v.2.1==0&&(v.2.2==[]&&Q3)))<;>cases(s==[])<;>rfl
theorem PD(e:za):Bk e xQ=Q1 (fJ 16 e xQ,()):=by
 rw[EM];show cq 16 e xQ=_;rw[cq];unfold Jm;rcases zR (e.op==[])with h|h
 .rcases zR (bu e.v)with c|c
  .rcases zR (e.s==[])with x|x
   .by_cases b:Io e.l=0
    .refine zB (s:=.h4 0 (e,()) (xQ,())) (k:=1) (r:=(.kb Q3,[])) ?_ (z6.of ?_) ow ?_
     .unfold bu at c;simp only[Dk,Q8];have a:(((za.l e).length:Int)!=(([]:List za).length:Int))=Q4:=by simp[b]
      show(ite ((cond (!(e.op==[])) Q3 (cond (!(e.v.1==0&&(e.v.2.1==0&&(e.v.2.2==[]&&Q3)))) Q3 (cond (!(e.s==[])) Q3 (((za.l e).length:Int)!=(([]:List za).length:Int)))))=Q3) _ _)=_;rw[h,c,x,a];rfl
     .have d:Q0 ((0:Int)<((za.l e).length:Int))=Q4:=ae (by rw[b];omega);simp only[Ko,Kq,BK,Q8];rw[d];rfl
     .rw[h,c,x,b];rfl
    .have a:(((za.l e).length:Int)!=(([]:List za).length:Int))=Q3:=bne_iff_ne.2 (by show((za.l e).length:Int)≠0;omega);have d:((za.l e).length==0)=Q4:=dB.2 b;refine zO (r:=(.kb Q4,[])) ?_ ?_
     .unfold bu at c;simp only[Dk,Q8];show(ite ((cond (!(e.op==[])) Q3 (cond (!(e.v.1==0&&(e.v.2.1==0&&(e.v.2.2==[]&&Q3)))) Q3 (cond (!(e.s==[])) Q3 (((za.l e).length:Int)!=(([]:List za).length:Int)))))=Q3) _ _)=_;rw[h,c,x,a];rfl
     .rw[h,c,x,d];rfl
   .refine zO (r:=(.kb Q4,[])) ?_ ?_
    .unfold bu at c;simp only[Dk,Q8];show(ite ((cond (!(e.op==[])) Q3 (cond (!(e.v.1==0&&(e.v.2.1==0&&(e.v.2.2==[]&&Q3)))) Q3 (cond (!(e.s==[])) Q3 (((za.l e).length:Int)!=(([]:List za).length:Int)))))=Q3) _ _)=_;rw[h,c,x];rfl
    .rw[h,c,x];rfl
  .refine zO (r:=(.kb Q4,[])) ?_ ?_
   .unfold bu at c;simp only[Dk,Q8];show(ite ((cond (!(e.op==[])) Q3 (cond (!(e.v.1==0&&(e.v.2.1==0&&(e.v.2.2==[]&&Q3)))) Q3 (cond (!(e.s==[])) Q3 (((za.l e).length:Int)!=(([]:List za).length:Int)))))=Q3) _ _)=_;rw[h,c];rfl
   .rw[h,c];rfl
 .refine zO (r:=(.kb Q4,[])) ?_ ?_
  .simp only[Dk,Q8];show(ite ((cond (!(e.op==[])) Q3 (cond (!(e.v.1==0&&(e.v.2.1==0&&(e.v.2.2==[]&&Q3)))) Q3 (cond (!(e.s==[])) Q3 (((za.l e).length:Int)!=(([]:List za).length:Int)))))=Q3) _ _)=_;rw[h];rfl
  .rw[h];rfl
theorem QU(h:dD e=Q3):(e.op==[])=Q4:=by
 have d:=ls h;cases fU d with
 |lit v j=>rfl
 |col s k i=>rfl
 |one o a x c=>rcases x with rfl|rfl<;>rfl
 |two o a b x c g=>rcases x with rfl|rfl|rfl|rfl|rfl|rfl<;>rfl
theorem Eb(l:tp e)(o:Io c<=1000000):qC e c=Q1 (iR e c,()):=by
 have j:=PD e;have b:g9 e xQ=Q3:=by unfold g9;rw[j];rfl
 have d:fz e xQ=fJ 16 e xQ:=by unfold fz;rw[j];rfl
 unfold qC ao bR;simp only[zgb,Q8,zm,nI l,rT l];unfold iR;rcases zR (e.op==[])with x|x
 .have p:dD e=Q4:=by
   rcases zR (dD e)with h|h
   .rw[QU h]at x;cases x
   .exact h
  have a:b8 e c=(0,1):=by unfold b8;rw[p];rfl
  rw[x,b,d,a];rcases zR (fJ 16 e xQ)with h|h<;>rw[h]<;>rfl
 .have q:fJ 16 e xQ=Q4:=by rw[EM,x];rfl
  rw[x,q];rcases zR (dD e)with h|h
  .have a:=M2 (cols:=c) o h;have g:oT e c=Q3:=by unfold oT;rw[a];rfl
   have i:iN e c=b8 e c:=by unfold iN;rw[a];rfl
   rw[h,g,i];generalize b8 e c=t;obtain⟨t,r⟩:=t;rcases zR (r==0)with k|k
   .have e0:r=0:=bF k;subst e0;rcases zR (t==0)with m|m<;>rcases zR (t==3)with n|n<;>(simp only[bne,m,n];rfl)
   .simp only[bne,k];rfl
  .have a:b8 e c=(0,1):=by unfold b8;rw[h];rfl
   rw[h,a];rfl
structure pg (t:aq):Prop where
 name:zU t.1=Q3
 n1:1<=Io t.2.1
 n8:Io t.2.1<=8
 cols:∀i,i<Io t.2.1->zU (getD t.2.1 i (zi zl)).1=Q3/\LE.le (α:=Int) 1 (getD t.2.1 i (zi zl)).2.1/\LE.le (α:=Int) (getD t.2.1 i (zi zl)).2.1 3/\ay t.2.1 (getD t.2.1 i (zi zl)).1=(i:Int)
 uniq:∀u∈t.2.2.2.1,Fi u (Io t.2.1)
 refs:∀f∈t.t.1,Fi f.1 (Io t.2.1)/\zU f.2=Q3
 key:Fi t.2.2.1 (Io t.2.1)
 nn:(getD t.2.1 (toNat t.2.2.1) (zi zl)).2.2=Q3
 chk:iR t.t.2 t.2.1=(0:Int)
variable {t:aq}{i:Nat}
theorem Ld:Ol t i=Q3↔(zU (getD t.2.1 i (zi zl)).1=Q3/\LE.le (α:=Int) 1 (getD t.2.1 i (zi zl)).2.1/\LE.le (α:=Int) (getD t.2.1 i (zi zl)).2.1 3/\ay t.2.1 (getD t.2.1 i (zi zl)).1=(i:Int)):=by
 unfold Ol;have e:zV t (getD t.2.1 i (zi zl)).1=ay t.2.1 (getD t.2.1 i (zi zl)).1:=rfl;rw[e];generalize getD t.2.1 i (zi zl)=c;cases zU c.1
 .simp
 .by_cases x:LT.lt (α:=Int) c.2.1 1
  .rw[zy x];simp;intro h;omega
  .rw[ae x];by_cases a:GT.gt (α:=Int) c.2.1 3
   .rw[zy a];simp;intro _ h;omega
   .rw[ae a];exact⟨λh=>⟨rfl,ow,ow,by simpa using h⟩,λh=>by simpa using h.2.2.2⟩
theorem lR(t:aq):dX t=Q3↔pg t:=by
 have n:=yh (l:=t.2.2.2.1) (d:=zi zj) (p:=λu=>xF u (Io t.2.1));simp only[qi]at n;have o:(!(cond (!zU t.1) Q3 (cond (Q0 ((↑(Io t.2.1):Int)<1)) Q3 (Q0 ((↑(Io t.2.1):Int)>8)))))=Q3↔(zU t.1=Q3/\1<=Io t.2.1/\Io t.2.1<=8):=by
  cases zU t.1
  .simp
  .by_cases x:(↑(Io t.2.1):Int)<1
   .rw[zy x];simp;omega
   .rw[ae x];simp;omega
 have x:(List.range (Io t.2.1)).all (Ol t)=Q3↔∀i,i<Io t.2.1->Ol t i=Q3:=by
  rw[dJ];simp only[pR]
 unfold dX;rw[aF,o,aF,x,aF,n,aF,Nn,aF,qi,aF,bd];exact⟨λ⟨⟨a,b,c⟩,d,e,f,g,i,j⟩=>⟨a,b,c,λk m=>Ld.1 (d k m),e,f,g,i,j⟩,λh=>⟨⟨h.name,h.n1,h.n8⟩,λk m=>Ld.2 (h.cols k m),h.uniq,h.refs,h.key,h.nn,h.chk⟩⟩
structure H8 (t:aq):Prop where
 name:Io t.1<=1000000
 cols:∀c∈t.2.1,Io c.1<=1000000
 ncols:Io t.2.1<=1000
 nuq:Io t.2.2.2.1<=1000
 nrf:Io t.t.1<=1000
 refs:∀f∈t.t.1,Io f.2<=1000000
 chk:tp t.t.2
theorem QP{b:Bool}{d p i:Int}:(cond (!b) Q3 (cond (Q0 (d<1)) Q3 (cond (Q0 (d>3)) Q3 (p !=i))))=Q4↔(b=Q3/\1<=d/\d<=3/\p=i):=by
 cases b
 .simp
 .by_cases x:d<1
  .rw[zy x];simp;omega
  .rw[ae x];by_cases a:d>3
   .rw[zy a];simp;omega
   .rw[ae a];exact⟨λh=>⟨rfl,ow,ow,by simpa using h⟩,λh=>by simpa using h.2.2.2⟩
theorem R5{d:Int}:(cond (Q0 (d<0)) Q3 (Q0 (d>=(i:Int))))=Q3↔¬Fi d i:=by
 unfold Fi;by_cases h:d<0
 .rw[zy h];simp;omega
 .rw[ae h];simp;omega
theorem M6(l:H8 t):Jt t=Q1 (dX t,()):=by
 have m:=lR t;have N:=l.ncols;have O:=l.nuq;have P:=l.nrf;have w:∀r:aw,r=(.kb Q4,[])->¬pg t->aS r.2 [Sh.bool] r.1=Q1 (dX t,()):=by
  intro r n h;have:dX t=Q4:=by
   rcases zR (dX t)with c|c
   .exact zC (m.1 c) h
   .exact c
  rw[n,this];rfl
 have x:(zks t).val=if(bif !zU t.1 then true else bif decide ((Io t.2.1:Int)<1)then true else bif decide ((Io t.2.1:Int)>8)then true else bif decide (LT.lt (α:=Int) t.2.2.1 0)then true else bif decide (GE.ge (α:=Int) t.2.2.1 (Io t.2.1:Int))then true else !(getD t.2.1 (toNat t.2.2.1) (zi zl)).2.2)=true then some (.inr (.kb false,[]))else some (.inl (.h5 (Io t.2.1:Int) ((0:Nat):Int) (t,()))):=by
  simp only[zks,Q8,cr l.name,fk l.name];rw[ze]
  .rfl
  .rcases zR (zU t.1)with c|c
   .rw[c];by_cases H:LT.lt (α:=Int) t.2.2.1 0
    .rw[zy H];cases Q0 ((Io t.2.1:Int)<1)<;>cases Q0 ((Io t.2.1:Int)>8)<;>rfl
    .by_cases I:GE.ge (α:=Int) t.2.2.1 (Io t.2.1:Int)
     .rw[zy I];cases Q0 ((Io t.2.1:Int)<1)<;>cases Q0 ((Io t.2.1:Int)>8)<;>cases Q0 (LT.lt (α:=Int) t.2.2.1 0)<;>rfl
     .have:zK t.2.2.1 (Io t.2.1)=Q3:=oG ⟨ow,ow⟩;rw[this];cases Q0 ((Io t.2.1:Int)<1)<;>cases Q0 ((Io t.2.1:Int)>8)<;>cases Q0 (LT.lt (α:=Int) t.2.2.1 0)<;>cases Q0 (GE.ge (α:=Int) t.2.2.1 (Io t.2.1:Int))<;>rfl
   .rw[c];rfl
 rcases zR (bif !zU t.1 then Q3 else bif Q0 ((Io t.2.1:Int)<1)then Q3 else bif Q0 ((Io t.2.1:Int)>8)then Q3 else bif Q0 (LT.lt (α:=Int) t.2.2.1 0)then Q3 else bif Q0 (GE.ge (α:=Int) t.2.2.1 (Io t.2.1:Int))then Q3 else !(getD t.2.1 (toNat t.2.2.1) (zi zl)).2.2)with c|c
 .rw[ze c]at x;refine zO x (w _ rfl λh=>?_);obtain⟨H,I⟩:=h.key;have T:=h.n1;have U:=h.n8;rw[h.name,ae ow,ae ow,ae ow,ae ow,h.nn]at c;cases c
 rw[zg (by rw[c];simp)]at x;have g:zU t.1=Q3:=by
  rcases zR (zU t.1)with k|k
  .exact k
  .rw[k]at c;cases c
 rw[g]at c;have J:1<=Io t.2.1:=by
  by_cases k:(Io t.2.1:Int)<1
  .rw[zy k]at c;cases c
  .omega
 rw[ae (by omega:¬(Io t.2.1:Int)<1)]at c;have L:Io t.2.1<=8:=by
  by_cases k:(Io t.2.1:Int)>8
  .rw[zy k]at c;cases c
  .omega
 rw[ae (by omega:¬(Io t.2.1:Int)>8)]at c;have B:LE.le (α:=Int) 0 t.2.2.1:=by
  by_cases k:LT.lt (α:=Int) t.2.2.1 0
  .rw[zy k]at c;cases c
  .omega
 rw[ae (by omega:¬LT.lt (α:=Int) t.2.2.1 0)]at c;have C:LT.lt (α:=Int) t.2.2.1 (Io t.2.1:Int):=by
  by_cases k:GE.ge (α:=Int) t.2.2.1 (Io t.2.1:Int)
  .rw[zy k]at c;cases c
  .omega
 rw[ae (by omega:¬GE.ge (α:=Int) t.2.2.1 (Io t.2.1:Int))]at c;have D:(getD t.2.1 (toNat t.2.2.1) (zi zl)).2.2=Q3:=by simpa using c
 have q:=mD (t:=sG) (Φ:=λr=>r=(.kb Q4,[])) 1 (λi=>.h5 (Io t.2.1:Int) (i:Int) (t,())) (λi=>zU (getD t.2.1 i (zi zl)).1=Q3/\LE.le (α:=Int) 1 (getD t.2.1 i (zi zl)).2.1/\LE.le (α:=Int) (getD t.2.1 i (zi zl)).2.1 3/\ay t.2.1 (getD t.2.1 i (zi zl)).1=(i:Int)) (Io t.2.1) (by
  intro i x _;have e:=l.cols _ (ce (d:=zi zl) x);have j:(sG (.h5 (Io t.2.1:Int) (i:Int) (t,()))).val=if(bif !zU (getD t.2.1 i (zi zl)).1 then Q3 else bif Q0 (LT.lt (α:=Int) (getD t.2.1 i (zi zl)).2.1 1)then Q3 else bif Q0 (GT.gt (α:=Int) (getD t.2.1 i (zi zl)).2.1 3)then Q3 else ay t.2.1 (getD t.2.1 i (zi zl)).1!=(i:Int))=Q3 then Q1 (.inr (.kb Q4,[]))else Q1 (.inl (.h5 (Io t.2.1:Int) ((i+1:Nat):Int) (t,()))):=by
   simp only[sG,Q8,zL x,zz x,aK,cr e,fk e,oW (show Io t.2.1<=1000000 by omega),r7 (show Io t.2.1<=1000000 by omega),zh];rw[ze,zt i um];cases zU (getD t.2.1 i (zi zl)).1<;>cases Q0 (LT.lt (α:=Int) (getD t.2.1 i (zi zl)).2.1 1)<;>cases Q0 (GT.gt (α:=Int) (getD t.2.1 i (zi zl)).2.1 3)<;>rfl
  rcases zR (bif !zU (getD t.2.1 i (zi zl)).1 then Q3 else bif Q0 (LT.lt (α:=Int) (getD t.2.1 i (zi zl)).2.1 1)then Q3 else bif Q0 (GT.gt (α:=Int) (getD t.2.1 i (zi zl)).2.1 3)then Q3 else ay t.2.1 (getD t.2.1 i (zi zl)).1!=(i:Int))with c|c
  .refine .inr ⟨λh=>?_,_,z6.of (by rw[j,ze c]),rfl⟩;rw[QP.2 h]at c;cases c
  .exact .inl ⟨QP.1 c,zN.of (by rw[j,zg (by rw[c];simp)])⟩)
 rcases q with⟨E,q⟩|⟨E,r,q,n⟩
 case inr=>exact zB x q ow (w _ n λh=>E h.cols)
 have S:(sG (.h5 (Io t.2.1:Int) (Io t.2.1:Int) (t,()))).val=Q1 (.inl (.h11 (Io t.2.1:Int) ((0:Nat):Int) (t,()))):=by
  simp only[sG,Q8,zG];rfl
 have s:=q.trans (zN.of S);have a:=mD (t:=sG) (Φ:=λr=>r=(.kb Q4,[])) 1 (λi=>.h11 (Io t.2.1:Int) (i:Int) (t,())) (λi=>Fi (getD t.2.2.2.1 i (zi zj)) (Io t.2.1)) (Io t.2.2.2.1) (by
  intro i x _;have j:(sG (.h11 (Io t.2.1:Int) (i:Int) (t,()))).val=if(bif Q0 (LT.lt (α:=Int) (getD t.2.2.2.1 i (zi zj)) 0)then Q3 else Q0 (GE.ge (α:=Int) (getD t.2.2.2.1 i (zi zj)) (Io t.2.1:Int)))=Q3 then Q1 (.inr (.kb Q4,[]))else Q1 (.inl (.h11 (Io t.2.1:Int) ((i+1:Nat):Int) (t,()))):=by
   simp only[sG,Q8,zL x,zz x,aK,zh];rw[ze,zt i um];cases Q0 (LT.lt (α:=Int) (getD t.2.2.2.1 i (zi zj)) 0)<;>rfl
  by_cases h:Fi (getD t.2.2.2.1 i (zi zj)) (Io t.2.1)
  .exact .inl ⟨h,zN.of (by rw[j,zg (by rw[ae (by have:=h.1;omega),ae (by have:=h.2;omega)];simp)])⟩
  .refine .inr ⟨h,_,z6.of (by rw[j,ze (R5.2 h)]),rfl⟩)
 rcases a with⟨p,a⟩|⟨p,r,a,n⟩
 case inr=>exact zB x (s.ends a) ow (w _ n λh=>p ((aD (Q:=λu=>Fi u (Io t.2.1))).2 h.uniq))
 have F:(sG (.h11 (Io t.2.1:Int) (Io t.2.2.2.1:Int) (t,()))).val=Q1 (.inl (.h16 (Io t.2.1:Int) ((0:Nat):Int) (t,()))):=by
  simp only[sG,Q8,zG];rfl
 have v:=(s.trans a).trans (zN.of F);have b:=mD (t:=sG) (Φ:=λr=>r=(.kb Q4,[])) 1 (λi=>.h16 (Io t.2.1:Int) (i:Int) (t,())) (λi=>Fi (getD t.t.1 i (zi zA)).1 (Io t.2.1)/\zU (getD t.t.1 i (zi zA)).2=Q3) (Io t.t.1) (by
  intro i x _;have e:=l.refs _ (ce (d:=zi zA) x);have j:(sG (.h16 (Io t.2.1:Int) (i:Int) (t,()))).val=if(bif Q0 (LT.lt (α:=Int) (getD t.t.1 i (zi zA)).1 0)then Q3 else bif Q0 (GE.ge (α:=Int) (getD t.t.1 i (zi zA)).1 (Io t.2.1:Int))then Q3 else !zU (getD t.t.1 i (zi zA)).2)=Q3 then Q1 (.inr (.kb Q4,[]))else Q1 (.inl (.h16 (Io t.2.1:Int) ((i+1:Nat):Int) (t,()))):=by
   simp only[sG,Q8,zL x,zz x,aK,cr e,fk e,zh];rw[ze,zt i um];cases Q0 (LT.lt (α:=Int) (getD t.t.1 i (zi zA)).1 0)<;>cases Q0 (GE.ge (α:=Int) (getD t.t.1 i (zi zA)).1 (Io t.2.1:Int))<;>rfl
  by_cases h:Fi (getD t.t.1 i (zi zA)).1 (Io t.2.1)
  .rcases zR (zU (getD t.t.1 i (zi zA)).2)with c|c
   .exact .inl ⟨⟨h,c⟩,zN.of (by rw[j,c,zg (by rw[ae (by have:=h.1;omega),ae (by have:=h.2;omega)];simp)])⟩
   .exact .inr ⟨λy=>(by rw[y.2]at c;cases c),_,z6.of (by rw[j,c,ze (by rw[ae (by have:=h.1;omega),ae (by have:=h.2;omega)];rfl)]),rfl⟩
  .have M:(bif Q0 (LT.lt (α:=Int) (getD t.t.1 i (zi zA)).1 0)then Q3 else bif Q0 (GE.ge (α:=Int) (getD t.t.1 i (zi zA)).1 (Io t.2.1:Int))then Q3 else !zU (getD t.t.1 i (zi zA)).2)=Q3:=by
    have:=R5.2 h;rcases zR (Q0 (LT.lt (α:=Int) (getD t.t.1 i (zi zA)).1 0))with k|k
    .rw[k];rfl
    .rw[k]at this|-;rw[show Q0 (GE.ge (α:=Int) (getD t.t.1 i (zi zA)).1 (Io t.2.1:Int))=Q3 from this];rfl
   exact .inr ⟨λy=>h y.1,_,z6.of (by rw[j,ze M]),rfl⟩)
 rcases b with⟨o,b⟩|⟨o,r,b,n⟩
 case inr=>exact zB x (v.ends b) ow (w _ n λh=>o ((aD (Q:=λf:bV=>Fi f.1 (Io t.2.1)/\zU f.2=Q3)).2 h.refs))
 have z:Ea t.t.2 t.2.1=Q3:=by unfold Ea;rw[Eb l.chk ow];rfl
 have A:Ju t.t.2 t.2.1=iR t.t.2 t.2.1:=by unfold Ju;rw[Eb l.chk ow];rfl
 have G:(sG (.h16 (Io t.2.1:Int) (Io t.t.1:Int) (t,()))).val=Q1 (.inr (.bool (iR t.t.2 t.2.1==(0:Int)),[])):=by
  simp only[sG,Q8,zG,zm,z,A];rfl
 refine zB x (v.ends (b.ends (z6.of G))) ow ?_;have:dX t=(iR t.t.2 t.2.1==(0:Int)):=by
  apply gU.2;rw[m];constructor
  .intro h;rw[h.chk];rfl
  .intro h;exact⟨g,J,L,E,(aD (Q:=λu=>Fi u (Io t.2.1))).1 p,(aD (Q:=λf:bV=>Fi f.1 (Io t.2.1)/\zU f.2=Q3)).1 o,⟨B,C⟩,D,bF h⟩
 rw[this];rfl
theorem nK(h:H8 t):xZ t=Q3:=by unfold xZ;rw[M6 h];rfl
theorem rZ(h:H8 t):HB t=dX t:=by unfold HB;rw[M6 h];rfl
theorem pg.may(h:pg t)(b:(t.t.2.op==[])=Q4):dD t.t.2=Q3:=by
 have x:=h.chk;unfold iR at x;have a:fJ 16 t.t.2 xQ=Q4:=by rw[EM,b];rfl
 rw[a,zg sw]at x;rcases zR (dD t.t.2)with c|c
 .exact c
 .have d:b8 t.t.2 t.2.1=(0,1):=by unfold b8;rw[c];rfl
  rw[d]at x;cases x
theorem OZ(t:aq)(row:zw)(i:Int):eN t row [] i=if KC (kr t.t.2 t.2.1 row) 0=Q3 then(9:Int)else 0:=by rw[eN];rfl
theorem Ac(t:aq)(h:zw)(x:zo)(r:zw)(i:Nat):eN t h (x::r) (i:Int)=if(cond (x.1==0) ((getD t.2.1 i (zi zl)).2.2) Q4)=Q3 then(8:Int)else if(cond (x.1!=0) (x.1!=(getD t.2.1 i (zi zl)).2.1) Q4)=Q3 then 5 else eN t h r ((i+1:Nat):Int):=by rw[eN];simp only[aK];rfl
theorem C8{t:aq}{h:zw}(p:H8 t)(j:pg t)(q:∀v∈h,lj v)(z:Io h=Io t.2.1):∀(m i:Nat),Io h-i=m->i<=Io h->z6 E3 (m+1) (.h9 h (i:Int) (t,())) (.int .i64 (eN t h (h.drop i) (i:Int)),[])
 | 0,i,g,y=>by
  obtain rfl:i=Io h:=by omega
  have u:=p.ncols;rw[jM,OZ];refine z6.of ?_;have s:=j.n8;rcases zR (t.t.2.op==[])with c|c
  .have g:dD t.t.2=Q4:=by
    rcases zR (dD t.t.2)with x|x
    .rw[QU x]at c;cases c
    .exact x
   have b:kr t.t.2 t.2.1 h=(0,0,[]):=by unfold kr;rw[g];rfl
   rw[b];simp only[E3,Q8,zG,zm];rw[c];rfl
  .have g:=j.may c;have d:=Zr (cols:=t.2.1) (row:=h) ow q p.chk g;have n:Bi t.t.2 t.2.1 h=Q3:=by unfold Bi;rw[d];rfl
   have e:Jl t.t.2 t.2.1 h=kr t.t.2 t.2.1 h:=by unfold Jl;rw[d];rfl
   simp only[E3,Q8,zG,zm,n,e,Be,Jh];rw[c];show(ite (Q3=Q3) (ite (KC (kr t.t.2 t.2.1 h) 0=Q3) (Q1 (Sum.inr (ai 9,[]))) (Q1 (Sum.inr (ai 0,[])))) Q2:Option (H5⊕aw))=_;rcases zR (KC (kr t.t.2 t.2.1 h) 0)with k|k<;>rw[k]<;>rfl
 | m+1,i,g,y=>by
  have a:i<Io h:=by omega
  have s:=j.n8;have A:=C8 p j q z m (i+1) ow ow;have w:h.drop i=getD h i (zi zf)::h.drop (i+1):=by
   rw[fO a,aZ,zZ a];rfl
  rw[w,Ac];have o:zK (i:Int) (Io t.2.1)=Q3:=zz ow;have b:(E3 (.h9 h (i:Int) (t,()))).val=if(cond ((getD h i (zi zf)).1==0) ((getD t.2.1 i (zi zl)).2.2) Q4)=Q3 then Q1 (.inr (.int .i64 8,[]))else if(cond ((getD h i (zi zf)).1!=0) ((getD h i (zi zf)).1!=(getD t.2.1 i (zi zl)).2.1) Q4)=Q3 then Q1 (.inr (.int .i64 5,[]))else Q1 (.inl (.h9 h ((i+1:Nat):Int) (t,()))):=by
   simp only[E3,Q8,zL a,zz a,o,aK,zh];rw[zt i um];cases((getD h i (zi zf)).1==0)<;>cases((getD h i (zi zf)).1!=0)<;>rfl
  rcases zR (cond ((getD h i (zi zf)).1==0) ((getD t.2.1 i (zi zl)).2.2) Q4)with c|c
  .rw[c,ze JX]at b|-;exact(z6.of b).mono ow
  .rw[c,zg sw]at b|-;rcases zR (cond ((getD h i (zi zf)).1!=0) ((getD h i (zi zf)).1!=(getD t.2.1 i (zi zl)).2.1) Q4)with l|l
   .rw[l,ze JX]at b|-;exact(z6.of b).mono ow
   .rw[l,zg sw]at b|-;exact(zN.of b).ends A
theorem C7{t:aq}{h:zw}(l:H8 t)(g:pg t)(j:∀v∈h,lj v)(k:Io h=Io t.2.1):∀(m i:Nat),Io h-i=m->i<=Io h->z6 E3 (m+2+Io h) (.h4 h (i:Int) (t,())) (.int .i64 (gH t h (h.drop i) (i:Int)),[])
 | 0,i,q,p=>by
  obtain rfl:i=Io h:=by omega
  rw[jM];have a:(E3 (.h4 h (Io h:Int) (t,()))).val=Q1 (.inl (.h9 h ((0:Nat):Int) (t,()))):=by
   simp only[E3,Q8,zG];rfl
  have n:=C8 l g j k (Io h) 0 ow ow;have e:gH t h [] (Io h:Int)=eN t h (h.drop 0) ((0:Nat):Int):=by
   rw[gH];rfl
  rw[e];exact((zN.of a).ends n).mono ow
 | m+1,i,q,p=>by
  have x:i<Io h:=by omega
  have u:=g.n8;have s:=C7 l g j k m (i+1) ow ow;have o:h.drop i=getD h i (zi zf)::h.drop (i+1):=by
   rw[fO x,aZ,zZ x];rfl
  have b:=(j _ (ce (d:=zi zf) x)).2.2;have e:gH t h (h.drop i) (i:Int)=if(!bh (getD h i (zi zf)))=Q3 then(1:Int)else gH t h (h.drop (i+1)) ((i+1:Nat):Int):=by
   rw[o];rw[gH];rfl
  rw[e];have a:(E3 (.h4 h (i:Int) (t,()))).val=if(!bh (getD h i (zi zf)))=Q3 then Q1 (.inr (.int .i64 1,[]))else Q1 (.inl (.h4 h ((i+1:Nat):Int) (t,()))):=by
   simp only[E3,Q8,zL x,zz x,aK,zh,lH b,oP b];rw[zt i um]
  rcases zR (!bh (getD h i (zi zf)))with c|c
  .rw[c,ze JX]at a|-;exact(z6.of a).mono ow
  .rw[c,zg sw]at a|-;exact((zN.of a).ends s).mono ow
theorem HA(a:H8 t)(g:∀v∈h,lj v):Bo t h=Q1 (cy t h,()):=by
 unfold cy;have x:(zkt t h).val=if(cond (!dX t) Q3 ((Io h:Int)!=(Io t.2.1:Int)))=Q3 then Q1 (.inr (.int .i64 1,[]))else Q1 (.inl (.h4 h ((0:Nat):Int) (t,()))):=by
  simp only[zkt,Q8,zm,nK a,rZ a,zh];rfl
 rcases zR (cond (!dX t) Q3 ((Io h:Int)!=(Io t.2.1:Int)))with c|c
 .rw[ze c]at x|-;exact zO x rfl
 .rw[zg (by rw[c];simp)]at x|-;have d:dX t=Q3:=by
   rcases zR (dX t)with k|k
   .exact k
   .rw[k]at c;cases c
  rw[d]at c;have e:Io h=Io t.2.1:=by
   have:((Io h:Int)!=(Io t.2.1:Int))=Q4:=c;simp at this;omega
  have b:=(lR t).1 d;have i:=b.n8;exact zB x (C7 a b g e (Io h) 0 ow ow) ow rfl
theorem UA(a:H8 t)(x:∀v∈h,lj v):Js t h=Q3:=by unfold Js;rw[HA a x];rfl
theorem Zt(a:H8 t)(x:∀v∈h,lj v):PH t h=cy t h:=by unfold PH;rw[HA a x];rfl
theorem eq3(a b:zo):(a.1==b.1&&(a.2.1==b.2.1&&(a.2.2==b.2.2&&Q3)))=Q3↔a=b:=by obtain⟨k,n,s⟩:=a;obtain⟨h,x,c⟩:=b;simp
theorem vQ{rows:List zw}{c:Int}(D:∀r∈rows,zK c (Io r)=Q3)(I:Io rows<=1000):∃b,vP rows c=Q1 (b,())/\(b=Q4↔sB rows c):=by
 have l:=mD (t:=FH) (Φ:=λr=>r=(.kb Q3,[])) 1002 (λi=>.h2 rows c (i:Int)) (λi=>∀k,k<i->¬((zX c (getD rows i (zi zf.sl))).1≠0/\zX c (getD rows i (zi zf.sl))=zX c (getD rows k (zi zf.sl)))) (Io rows) (by
  intro i x _;have m:(FH (.h2 rows c (i:Int))).val=Q1 (.inl (.h5 rows c (i:Int) ((0:Nat):Int))):=by
   simp only[FH,Q8,zL x];rfl
  have H:=mD (t:=FH) (Φ:=λr=>r=(.kb Q3,[])) 1 (λk=>.h5 rows c (i:Int) (k:Int)) (λk=>¬((zX c (getD rows i (zi zf.sl))).1≠0/\zX c (getD rows i (zi zf.sl))=zX c (getD rows k (zi zf.sl)))) i (by
   intro k v _;have o:k<Io rows:=by omega
   have m:(FH (.h5 rows c (i:Int) (k:Int))).val=if(cond ((zX c (getD rows i (zi zf.sl))).1!=0) ((zX c (getD rows i (zi zf.sl))).1==(zX c (getD rows k (zi zf.sl))).1&&((zX c (getD rows i (zi zf.sl))).2.1==(zX c (getD rows k (zi zf.sl))).2.1&&((zX c (getD rows i (zi zf.sl))).2.2==(zX c (getD rows k (zi zf.sl))).2.2&&Q3))) Q4)=Q3 then Q1 (.inr (.kb Q3,[]))else Q1 (.inl (.h5 rows c (i:Int) ((k+1:Nat):Int))):=by
    simp only[FH,Q8,zL v,zz x,zz o,D _ (ce (d:=zi zf.sl) x),D _ (ce (d:=zi zf.sl) o),aK,zh];rw[ze,zt k um];cases((getD (getD rows i (zi zf.sl)) (toNat c) (zi zf)).1!=0)<;>rfl
   have E:=eq3 (zX c (getD rows i (zi zf.sl))) (zX c (getD rows k (zi zf.sl)));rcases zR ((zX c (getD rows i (zi zf.sl))).1!=0)with a|a
   .have p:(zX c (getD rows i (zi zf.sl))).1≠0:=bne_iff_ne.1 a;rcases zR ((zX c (getD rows i (zi zf.sl))).1==(zX c (getD rows k (zi zf.sl))).1&&((zX c (getD rows i (zi zf.sl))).2.1==(zX c (getD rows k (zi zf.sl))).2.1&&((zX c (getD rows i (zi zf.sl))).2.2==(zX c (getD rows k (zi zf.sl))).2.2&&Q3)))with g|g
    .exact .inr ⟨λh=>h ⟨p,E.1 g⟩,_,z6.of (by rw[m,a,g,ze JX]),rfl⟩
    .exact .inl ⟨λh=>(by rw[E.2 h.2]at g;cases g),zN.of (by rw[m,a,g,zg sw])⟩
   .refine .inl ⟨λh=>h.1 (by simpa using a),zN.of (by rw[m,a,zg sw])⟩)
  rcases H with⟨B,s⟩|⟨B,r,s,y⟩
  .have z:(FH (.h5 rows c (i:Int) (i:Int))).val=Q1 (.inl (.h2 rows c ((i+1:Nat):Int))):=by
    simp only[FH,Q8,zG];rw[zt i um];rfl
   exact .inl ⟨B,(((zN.of m).trans s).trans (zN.of z)).mono ow⟩
  .exact .inr ⟨B,r,((zN.of m).ends s).mono ow,y⟩)
 have G:(∀i,i<Io rows->∀k,k<i->¬((zX c (getD rows i (zi zf.sl))).1≠0/\zX c (getD rows i (zi zf.sl))=zX c (getD rows k (zi zf.sl))))↔sB rows c:=by
  unfold sB;rw[List.pairwise_iff_getElem];have e:∀i(x:i<Io rows),getD rows i (zi zf.sl)=rows[i]:=λi x=>by rw[aZ,zZ x,bM]
  constructor
  .intro h i j x F u w n;have:=h j F i u;rw[e i x,e j F]at this;exact this ⟨by rw[<-n];exact w,n.symm⟩
  .rintro h i x k v ⟨C,l⟩;rw[e i x]at C l;rw[e k ow]at l;exact h k i ow x v (by rw[<-l];exact C) l.symm
 have x:(zqQ rows c).val=Q1 (.inl (.h2 rows c ((0:Nat):Int))):=rfl;rcases l with⟨A,q⟩|⟨A,r,q,y⟩
 .refine⟨Q4,zB x (q.ends (z6.of (r:=(.kb Q4,[])) ?_)) ow rfl,⟨λ_=>G.1 A,λ_=>rfl⟩⟩;simp only[FH,Q8,zG];rfl
 .subst y;exact⟨Q3,zB x q ow rfl,⟨λh=>(by cases h),λh=>zC (G.2 h) A⟩⟩
theorem M8(a:H8 t)(c:dX t=Q3)(x:zK t.2.2.1 (Io h)=Q3):Ed t h=Q1 (zX t.2.2.1 h,()):=by
 unfold Ed ao bR;have b:Q0 (LT.lt (α:=Int) t.2.2.1 (Io h:Int))=Q3:=by
  unfold zK at x;simp only[aF]at x;exact x.2
 simp only[zqS,Q8,zm,nK a,rZ a,c,x,b];rfl
theorem M7(b:H8 t)(a:dX t=Q3)(x:zK t.2.2.1 (Io h)=Q3):Jz t h=Q3:=by unfold Jz;rw[M8 b a x];rfl
theorem Sn(b:H8 t)(a:dX t=Q3)(x:zK t.2.2.1 (Io h)=Q3):Sm t h=zX t.2.2.1 h:=by unfold Sm;rw[M8 b a x];rfl
variable {x:ah}{v:zo}
theorem HC(m:H8 x.1)(s:dX x.1=Q3)(k:∀r∈x.2,zK x.1.2.2.1 (Io r)=Q3)(w:Io x.2<=1000):Bq x v=Q1 (ab (λr=>bC r x.1.2.2.1 v) x.2 0,()):=by
 have o:∀r∈x.2,bC r x.1.2.2.1 v=((zX x.1.2.2.1 r).1==v.1&&((zX x.1.2.2.1 r).2.1==v.2.1&&((zX x.1.2.2.1 r).2.2==v.2.2&&Q3))):=by
  intro r u;have:=k r u;unfold zK at this;simp only[aF]at this;unfold bC;rw[show Q0 (GE.ge (α:=Int) x.1.2.2.1 0)=Q3 from this.1,this.2];rfl
 have n:=mD (t:=Z1) (Φ:=λr=>r=(.int .i64 (ab (λr=>bC r x.1.2.2.1 v) x.2 0),[])) 1 (λi=>.h2 (i:Int) (x,()) (v,())) (λi=>bC (getD x.2 i (zi zf.sl)) x.1.2.2.1 v=Q4) (Io x.2) (by
  intro i c q;have b:=ce (d:=zi zf.sl) c;have a:=k _ b;have e:Q0 (LT.lt (α:=Int) x.1.2.2.1 ((getD x.2 i (zi zf.sl)).length:Int))=Q3:=by
   unfold zK at a;simp only[aF]at a;exact a.2
  have l:(Z1 (.h2 (i:Int) (x,()) (v,()))).val=if bC (getD x.2 i (zi zf.sl)) x.1.2.2.1 v=Q3 then Q1 (.inr (.int .i64 i,[]))else Q1 (.inl (.h2 ((i+1:Nat):Int) (x,()) (v,()))):=by
   rw[o _ b];simp only[Z1,Q8,zm,zL c,zz c,a,e,nK m,rZ m,s,aK,ax,zh,sM];rw[zt i um]
  rcases zR (bC (getD x.2 i (zi zf.sl)) x.1.2.2.1 v)with h|h
  .have g:=nu (p:=λr=>bC r x.1.2.2.1 v) (d:=zi zf.sl) x.2 0 i c h q;refine .inr ⟨by rw[h];simp,_,z6.of (by rw[l,ze h]),?_⟩;show _=(ai (ab (λr=>bC r x.1.2.2.1 v) x.2 0),[]);rw[g];simp
  .exact .inl ⟨h,zN.of (by rw[l,zg (by rw[h];simp)])⟩)
 have c:(zqT x v).val=Q1 (.inl (.h2 ((0:Nat):Int) (x,()) (v,()))):=rfl;rcases n with⟨j,e⟩|⟨j,r,e,rfl⟩
 .have g:=nv (p:=λr=>bC r x.1.2.2.1 v) (d:=zi zf.sl) x.2 0 j;rw[g];refine zB c (e.ends (z6.of (r:=(.int .i64 (-1),[])) ?_)) ow rfl;simp only[Z1,Q8,zG];rfl
 .exact zB c e ow rfl
theorem UC(c:H8 x.1)(b:dX x.1=Q3)(h:∀r∈x.2,zK x.1.2.2.1 (Io r)=Q3)(a:Io x.2<=1000):Jy x v=Q3:=by unfold Jy;rw[HC c b h a];rfl
theorem Zv(c:H8 x.1)(b:dX x.1=Q3)(h:∀r∈x.2,zK x.1.2.2.1 (Io r)=Q3)(a:Io x.2<=1000):PI x v=ab (λr=>bC r x.1.2.2.1 v) x.2 0:=by unfold PI;rw[HC c b h a];rfl
structure KB (x:ah):Prop where
 t:H8 x.1
 rows:Io x.2<=1000
 vals:∀r∈x.2,∀v∈(r:zw),lj v
theorem KB.short(h:KB x):gL x:=⟨h.t.nuq,h.t.nrf,h.rows⟩
theorem G7{t:aq}{d:zw}:∀(r:zw)(i:Nat),eN t d r (i:Int)=(0:Int)->∀j,j<Io r->(getD t.2.1 (i+j) (zi zl)).2.2=Q3->(getD r j (zi zf)).1≠0
 |[],_,_,j,b,_=>by simp at b
 | x::r,i,h,j,b,hn=>by
  rw[Ac]at h;split at h
  .cases h
  rename_i c;split at h
  .cases h
  cases j with
  | zero=>
   intro e;have a:(x.1==0)=Q3:=by simpa using e
   rw[a]at c;exact c hn
  | succ j=>
   have:=G7 r (i+1) h j (by simpa using b) (by rw[show i+1+j=i+(j+1) by omega];exact hn);exact this
theorem G9{t:aq}{row:zw}:∀(r:zw)(i:Nat),gH t row r (i:Int)=(0:Int)->(∀v∈r,bh v=Q3)/\eN t row row ((0:Nat):Int)=(0:Int)
 | [],i,h=>by
  rw[gH]at h;exact⟨λv a=>(by cases a),h⟩
 | x::r,i,h=>by
  have e:gH t row (x::r) (i:Int)=if(!bh x)=Q3 then(1:Int)else gH t row r ((i+1:Nat):Int):=by
   rw[gH];rfl
  rw[e]at h;split at h
  .cases h
  rename_i c;obtain⟨b,d⟩:=G9 r (i+1) h;refine⟨λv a=>?_,d⟩;rcases cf.1 a with rfl|a
  .simpa using c
  .exact b v a
theorem dl(h:cy t row=(0:Int)):Io row=Io t.2.1/\(∀v∈row,bh v=Q3)/\∀j,j<Io row->(getD t.2.1 j (zi zl)).2.2=Q3->(getD row j (zi zf)).1≠0:=by
 have c:=C9 (t:=t) (row:=row) (by simpa using h);unfold cy at h;split at h
 .cases h
 obtain⟨x,a⟩:=G9 row 0 h;refine⟨c,x,λj b d=>?_⟩;have:=G7 row 0 a j b (by rwa [er]);exact this
theorem Pt{b:zo}(x:bh v=Q3)(a:bh b=Q3)(h:aV v b=(0:Int)):v=b:=by
 unfold aV aC at h;rw[x,a]at h;have h:I6 [tz v.1 b.1,lq v.2.1 b.2.1,pC v.2.2 b.2.2]=(0:Int):=h;rw[<-Yi]at h;rcases zR (v.1==b.1&&(v.2.1==b.2.1&&(v.2.2==b.2.2&&Q3)))with c|c
 .exact(eq3 v b).1 c
 .rw[zg (by rw[c];simp)]at h;split at h<;>cases h
theorem Jw(j:KB x):∃e:Int,nL x=Q1 (e,())/\(e=0↔ed x):=by
 have N:=j.rows;have h7:=j.t.nuq;by_cases o:dX x.1=Q3
 case neg=>
  have h3:dX x.1=Q4:=by simpa using o
  refine⟨1,?_,λh=>(by cases h),λh=>zC h.may o⟩;unfold nL ao bR;simp only[Xu,Q8,zm,nK j.t,rZ j.t,h3];rfl
 by_cases U:Io x.2<=200
 case neg=>
  refine⟨13,?_,λh=>(by cases h),λh=>zC h.few U⟩;unfold nL ao bR;simp only[Xu,Q8,zm,nK j.t,rZ j.t,o];rw[ze trivial,zg sw,ze sg];rfl
 have k:(Xu x).val=Q1 (.inl (.h6 ((0:Nat):Int) (x,()))):=by
  simp only[Xu,Q8,zm,nK j.t,rZ j.t,o];rw[ze trivial,zg sw,zg sg];rfl
 obtain⟨D,h5,h4,_,_⟩:=gn o;have G:=mD (t:=qL) (Φ:=Err) 1 (λi=>.h6 (i:Int) (x,())) (λi=>cy x.1 (getD x.2 i (zi zf.sl))=(0:Int)) (Io x.2) (by
  intro i k _;have T:=j.vals _ (ce (d:=zi zf.sl) k);have A:(qL (.h6 (i:Int) (x,()))).val=if(cy x.1 (getD x.2 i (zi zf.sl))!=0)=Q3 then Q1 (.inr (.int .i64 (cy x.1 (getD x.2 i (zi zf.sl))),[]))else Q1 (.inl (.h6 ((i+1:Nat):Int) (x,()))):=by
   simp only[qL,Q8,zm,zL k,zz k,aK,UA j.t T,Zt j.t T,zh];rw[zt i um]
  by_cases h:cy x.1 (getD x.2 i (zi zf.sl))=(0:Int)
  .refine .inl ⟨h,zN.of ?_⟩;rw[A,zg (by rw[h];simp)]
  .refine .inr ⟨h,_,z6.of (by rw[A,ze (by simpa using h)]),_,rfl,h⟩)
 rcases G with⟨Y,G⟩|⟨Y,r,G,e,v,g⟩
 case inr=>
  subst v;exact⟨e,zB k G ow rfl,λh=>zC h g,λh=>zC ((aD (Q:=λr=>cy x.1 r=(0:Int))).2 h.fits) Y⟩
 have a:=(aD (Q:=λr=>cy x.1 r=(0:Int))).1 Y;have M:∀r∈x.2,Io r=Io x.1.2.1:=λr y=>(dl (a r y)).1
 have w:∀c,Fi c (Io x.1.2.1)->∀r∈x.2,zK c (Io r)=Q3:=λc hc r y=>by
  rw[M r y];exact oG hc
 obtain⟨b,J,n⟩:=vQ (rows:=x.2) (c:=x.1.2.2.1) (w _ D) N;have B:nM x.2 x.1.2.2.1=Q3:=by unfold nM;rw[J];rfl
 have C:r8 x.2 x.1.2.2.1=b:=by unfold r8;rw[J];rfl
 have S:(qL (.h6 (Io x.2:Int) (x,()))).val=if b=Q3 then Q1 (.inr (.int .i64 7,[]))else Q1 (.inl (.h14 ((0:Nat):Int) (x,()))):=by
  simp only[qL,Q8,zG,B,C];rfl
 by_cases s:b=Q3
 .refine⟨7,zB k (G.ends (z6.of (by rw[S,ze s]))) ow rfl,λh=>(by cases h),λh=>?_⟩;have:=n.2 h.key;rw[s]at this;cases this
 have z:sB x.2 x.1.2.2.1:=n.1 (by simpa using s);have H:zN qL _ (.h6 ((0:Nat):Int) (x,())) _:=G.trans (zN.of (by rw[S,zg s]));have l:=mD (t:=qL) (Φ:=Err) 1 (λi=>.h14 (i:Int) (x,())) (λi=>sB x.2 (getD x.1.2.2.2.1 i (zi zj))) (Io x.1.2.2.2.1) (by
  intro i k _;obtain⟨b,J,n⟩:=vQ (rows:=x.2) (c:=getD x.1.2.2.2.1 i (zi zj)) (w _ (h4 _ (ce k))) N;have B:nM x.2 (getD x.1.2.2.2.1 i (zi zj))=Q3:=by unfold nM;rw[J];rfl
  have C:r8 x.2 (getD x.1.2.2.2.1 i (zi zj))=b:=by unfold r8;rw[J];rfl
  have A:(qL (.h14 (i:Int) (x,()))).val=if b=Q3 then Q1 (.inr (.int .i64 7,[]))else Q1 (.inl (.h14 ((i+1:Nat):Int) (x,()))):=by
   simp only[qL,Q8,zL k,zz k,zh,aK,B,C];rw[zt i um]
  by_cases h:b=Q3
  .refine .inr ⟨λhu=>?_,_,z6.of (by rw[A,ze h]),7,rfl,by decide⟩;have:=n.2 hu;rw[h]at this;cases this
  .exact .inl ⟨n.1 (by simpa using h),zN.of (by rw[A,zg h])⟩)
 rcases l with⟨hq,l⟩|⟨hq,r,l,e,v,g⟩
 case inr=>
  subst v;exact⟨e,zB k (H.ends l) ow rfl,λh=>zC h g,λh=>zC ((aD (Q:=λu=>sB x.2 u)).2 h.uniq) hq⟩
 have E:=(aD (Q:=λu=>sB x.2 u)).1 hq;have O:(qL (.h14 (Io x.1.2.2.2.1:Int) (x,()))).val=Q1 (.inl (.h19 ((0+1:Nat):Int) (x,()))):=by
  simp only[qL,Q8,zG];rfl
 have I:=(H.trans l).trans (zN.of O);have p:∀i,i+1<Io x.2->(yz (zX x.1.2.2.1 (getD x.2 i (zi zf.sl))) (zX x.1.2.2.1 (getD x.2 (i+1) (zi zf.sl)))↔Q0 (GT.gt (α:=Int) (aV (zX x.1.2.2.1 (getD x.2 i (zi zf.sl))) (zX x.1.2.2.1 (getD x.2 (i+1) (zi zf.sl)))) 0)=Q4):=by
  intro i q;have F:i<Io x.2:=by omega
  have W:=ce (d:=zi zf.sl) F;have X:=ce (d:=zi zf.sl) q;obtain⟨l1,f1,n1⟩:=dl (a _ W);obtain⟨l2,f2,_⟩:=dl (a _ X);have hT:=(lR x.1).1 o;obtain⟨k1,k2⟩:=hT.key;have L:toNat x.1.2.2.1<(getD x.2 i (zi zf.sl)).length:=by rw[l1];omega
  have Z:toNat x.1.2.2.1<(getD x.2 (i+1) (zi zf.sl)).length:=by rw[l2];omega
  unfold yz;constructor
  .intro h;exact ae ow
  .intro h;have h:¬GT.gt (α:=Int) (aV (zX x.1.2.2.1 (getD x.2 i (zi zf.sl))) (zX x.1.2.2.1 (getD x.2 (i+1) (zi zf.sl)))) 0:=of_decide_eq_false h;by_cases h0:@Eq Int (aV (zX x.1.2.2.1 (getD x.2 i (zi zf.sl))) (zX x.1.2.2.1 (getD x.2 (i+1) (zi zf.sl)))) 0
   .exfalso;have v:=Pt (f1 _ (ce L)) (f2 _ (ce Z)) h0;have g:=n1 _ L hT.nn;have hp:=(List.pairwise_iff_getElem.1 z) i (i+1) F q ow;have e1:getD x.2 i (zi zf.sl)=x.2[i]:=by rw[aZ,zZ F,bM]
    have e2:getD x.2 (i+1) (zi zf.sl)=x.2[i+1]:=by rw[aZ,zZ q,bM]
    rw[e1]at g v;rw[e2]at v;exact hp g v
   .omega
 have m:=mD (t:=qL) (Φ:=Err) 1 (λi=>.h19 ((i+1:Nat):Int) (x,())) (λi=>yz (zX x.1.2.2.1 (getD x.2 i (zi zf.sl))) (zX x.1.2.2.1 (getD x.2 (i+1) (zi zf.sl)))) (Io x.2-1) (by
  intro i k _;have F:i<Io x.2:=by omega
  have q:i+1<Io x.2:=by omega
  have W:=ce (d:=zi zf.sl) F;have X:=ce (d:=zi zf.sl) q;have k1:=w _ D _ W;have k2:=w _ D _ X;have o1:∀r∈x.2,(zX x.1.2.2.1 r).2.2.length<=1000000:=by
   intro r y;by_cases h:toNat x.1.2.2.1<Io r
   .exact(j.vals r y _ (ce h)).2.2
   .unfold zX;rw[aZ,eX ow];simp[zi]
  have A:(qL (.h19 ((i+1:Nat):Int) (x,()))).val=if Q0 (GT.gt (α:=Int) (aV (zX x.1.2.2.1 (getD x.2 i (zi zf.sl))) (zX x.1.2.2.1 (getD x.2 (i+1) (zi zf.sl)))) 0)=Q3 then Q1 (.inr (.int .i64 15,[]))else Q1 (.inl (.h19 ((i+1+1:Nat):Int) (x,()))):=by
   simp only[qL,zm,lY i um];simp only[Q8,zL q,zz q,zz F,aK,aQ,M7 j.t o k1,M7 j.t o k2,Sn j.t o k1,Sn j.t o k2,PB (o1 _ W) (o1 _ X),Uy (o1 _ W) (o1 _ X),zh];rw[zt (i+1) um]
  rcases zR (Q0 (GT.gt (α:=Int) (aV (zX x.1.2.2.1 (getD x.2 i (zi zf.sl))) (zX x.1.2.2.1 (getD x.2 (i+1) (zi zf.sl)))) 0))with c|c
  .exact .inr ⟨λh=>(by rw[(p i q).1 h]at c;cases c),_,z6.of (by rw[A,ze c]),15,rfl,by decide⟩
  .exact .inl ⟨(p i q).2 c,zN.of (by rw[A,zg (by rw[c];simp)])⟩)
 rcases m with⟨y,m⟩|⟨y,r,m,e,v,g⟩
 case inr=>
  subst v;exact⟨e,zB k (I.ends m) ow rfl,λh=>zC h g,λh=>zC h.rise y⟩
 have P:(qL (.h19 ((Io x.2-1+1:Nat):Int) (x,()))).val=Q1 (.inr (.int .i64 0,[])):=by
  simp only[qL,Q8];rw[zg sg]
 exact⟨0,zB k (I.ends (m.ends (z6.of P))) ow rfl,λ_=>⟨o,U,a,z,E,y⟩,λ_=>rfl⟩
theorem tX(c:UInt8)(s o:zH):Lib.index (c::s) o=if o.isPrefixOf (c::s)=Q3 then 0 else if Lib.index s o=-1 then -1 else Lib.index s o+1:=by rw[Lib.index];simp only[bd]
variable {l n:zH}
theorem yk(x:(l==n)=Q4)(h:Lib.index s l=-1):Lib.replaceAll s l n=s:=by unfold Lib.replaceAll Lib.replace Lib.replaceNum;rw[x,ze (Or.inl (by decide)),Lib.count_miss h];rfl
theorem Ex(a:l≠[])(x:(l==n)=Q4)(h:Lib.index s l=i):Lib.replaceAll s l n=s.take i++n++Lib.replaceAll (s.drop (i+Io l)) l n:=by unfold Lib.replaceAll Lib.replace Lib.replaceNum;rw[x,ze (Or.inl (by decide)),ze (Or.inl (by decide)),Lib.count_hit a h,kd 1];exact Lib.replaceK_hit l n _ s i h
theorem Ey(b:s≠[])(x:(s==l)=Q4):Lib.replaceAll [] s l=[]:=by
 refine yk x ?_;cases s with
 |nil=>exact zC rfl b
 |cons a h=>rfl
variable {a:UInt8}
theorem Nr(x:l≠[])(h:(l==n)=Q4)(b:l.isPrefixOf (a::s)=Q3):Lib.replaceAll (a::s) l n=n++Lib.replaceAll ((a::s).drop (Io l)) l n:=by have:=Ex (i:=0) x h (s:=a::s) (by rw[tX,ze b];rfl);simpa using this
theorem HJ(b:l≠[])(x:(l==n)=Q4)(d:l.isPrefixOf (a::s)=Q4):Lib.replaceAll (a::s) l n=a::Lib.replaceAll s l n:=by
 by_cases h:Lib.index s l=-1
 .rw[yk x h,yk x (by rw[tX,zg (by simp[d]),ze h])]
 .obtain⟨i,c⟩:∃i:Nat,Lib.index s l=i:=⟨(Lib.index s l).toNat,by have:=Lib.index_ge s l;omega⟩;rw[Ex b x c,Ex (i:=i+1) b x (by rw[tX,zg (by simp[d]),zg h,c];simp)];simp[Nat.add_right_comm]
theorem Zf{x:UInt8}{r:zH}(h:a≠x):(x::l).isPrefixOf (a::r)=Q4:=by rw[List.isPrefixOf,dB.2 (Ne.symm h)];rfl
def lr:zH->zH
 |[]=>[]
 |c::r=>if c=39 then 39::39::lr r else c::lr r
theorem Ew:∀s:zH,Lib.replaceAll s [39] oq=lr s
 |[]=>Ey sw rfl
 | c::r=>by
  rw[lr];split
  next h=>subst h;rw[Nr sw rfl sw];simp[Ew r]
  next h=>rw[HJ sw rfl (Zf h),Ew r]
def fm:zH->Option (zH×Nat)
 |[]=>Q2
 |[c]=>if c=39 then Q1 ([],1)else Q2
 |c::d::r=>if c=39 then(if d=39 then(fm r).map λx=>(39::x.1,x.2+2)else Q1 ([],1))else(fm (d::r)).map λx=>(c::x.1,x.2+1)
theorem si:∀(n:Nat)(s t:zH)(k:Nat),Io s<=n->fm s=Q1 (t,k)->1<=k/\k<=Io s/\Lib.replaceAll (s.take (k-1)) oq [39]=t
 |_,[],_,_,_,h=>by simp[fm]at h
 | _,[c],t,k,_,h=>by
  rw[fm]at h;split at h
  .simp at h;obtain⟨rfl,rfl⟩:=h;exact⟨sw,sw,by simpa using Ey sw rfl⟩
  .simp at h
 |0,_::_::_,_,_,hn,_=>by simp at hn
 | n+1,c::d::r,t,k,hn,h=>by
  rw[fm]at h;split at h
  .rename_i g;split at h
   next m=>simp only[dq]at h;obtain⟨⟨i,x⟩,e,a⟩:=h;simp only[b5]at a;obtain⟨rfl,rfl⟩:=a;obtain⟨l,j,b⟩:=si n r i x (by simp at hn;omega) e;refine⟨ow,sg,?_⟩;subst g;subst m;rw[show x+2-1=(x-1)+2 by omega,List.take_succ_cons,List.take_succ_cons,Nr sw rfl sw];simp[b]
   .simp at h;obtain⟨rfl,rfl⟩:=h;exact⟨sw,sw,by simpa using Ey sw rfl⟩
  next g=>simp only[dq]at h;obtain⟨⟨i,x⟩,e,a⟩:=h;simp only[b5]at a;obtain⟨rfl,rfl⟩:=a;obtain⟨l,j,b⟩:=si n (d::r) i x (by simp at hn|-;omega) e;refine⟨ow,by simp at j|-;omega,?_⟩;rw[show x+1-1=(x-1)+1 by omega,List.take_succ_cons,HJ sw rfl (Zf g),b]
theorem HN(h:a≠39):∀r:zH,fm (a::r)=(fm r).map λx=>(a::x.1,x.2+1)
 |[]=>by simp[fm,h]
 |d::r=>by rw[fm,zg h]
theorem Nz(r:zH):fm (39::39::r)=(fm r).map λx=>(39::x.1,x.2+2):=by rw[fm,ze rfl,ze rfl]
theorem EN:∀r:zH,r.head?≠Q1 39->fm (39::r)=Q1 ([],1)
 |[],_=>by rw[fm,ze rfl]
 |d::r,h=>by rw[fm,ze rfl,zg (by simpa using h)]
theorem ef(s:zH)(h:i<Io s):s.getD ((i:Int).toNat) 0=s[i]:=by rw[aK,aZ,zZ h,bM]
theorem sE:((a.toNat:Int)==39)=Q3↔a=39:=by
 rw[bd];constructor
 .intro h;exact UInt8.toNat_inj.1 (by show a.toNat=39;omega)
 .rintro rfl;rfl
theorem qF:∀(n:Nat)(s:zH)(i:Nat)(a:Int)(b:zH),1<=i->i<=Io s->Io s+2<=n+i->Io s<=1000000000->
  fi n s (i:Int) a b=(match fm (s.drop i)with
   |none=>((0,[]),0)
   |some x=>((3,Lib.replaceAll (List.take (i+x.2-2) (List.drop 1 s)) oq [39]),((i+x.2:Nat):Int)))
 |0,s,i,a,b,k,l,m,e=>by omega
 | n + 1,s,i,a,b,k,l,m,e=>by
  rw[fi];by_cases g:i<Io s
  .rw[ze (zy (show(i:Int)<(Io s:Int) by omega)),ef s g,qU i ow,fO g];by_cases d:s[i]=39
   .rw[zg (by simp[bne,sE.2 d]),d];by_cases j:i+1<Io s
    .rw[fO j,ef s j,zy (show((i+1:Nat):Int)<(Io s:Int) by omega)];by_cases c:s[i+1]=39
     .rw[ze (by simpa using sE.2 c),qU (i+1) ow,qF n s (i+1+1) a b ow ow ow e,c,Nz];cases fm (s.drop (i+1+1))with
      |none=>rfl
      | some x=>
       simp only[B1];rw[show i+1+1+x.2=i+(x.2+2) by omega]
     .rw[zg (by simpa using λh=>c (sE.1 (by simpa using h))),EN _ (by rw[List.head?_cons];exact λh=>c (Option.some.inj h))];simp
    .rw[BU (by omega:Io s<=i+1),ae (show¬((i+1:Nat):Int)<(Io s:Int) by omega),EN _ sw];simp
   .rw[ze (by simpa[bne]using λh=>d (sE.1 (by simpa using h))),HN d,qF n s (i+1) a b ow ow ow e];cases fm (s.drop (i+1))with
    |none=>rfl
    | some x=>
     simp only[B1];rw[show i+1+x.2=i+(x.2+1) by omega]
  .rw[zg sg,BU ow];rfl
def qc(c:UInt8)(r:zH):dd×Nat:=
 if bc c.toNat=Q3 then((1,(c::r).take (cY bS r+1)),cY bS r+1)
 else if au c.toNat=Q3 then((2,(c::r).take (cY au r+1)),cY au r+1)
 else if c=39 then(match fm r with|none=>((0,[]),0)|some x=>((3,x.1),x.2+1))
 else((4,[c]),1)
theorem xA(c:UInt8)(r:zH)(n:(c::r).length<=1000000000):bQ (c::r)=((qc c r).1,((qc c r).2:Int)):=by
 have e:bv bc bS (c::r)=if bc c.toNat=Q3 then cY bS r+1 else 0:=rfl
 have b:bv au au (c::r)=if au c.toNat=Q3 then cY au r+1 else 0:=rfl
 unfold bQ qc;by_cases g:bc c.toNat=Q3
 .rw[ze g]at e;simp[e,g]
 .rw[zg g]at e;by_cases i:au c.toNat=Q3
  .rw[ze i]at b;simp[e,b,g,i]
  .rw[zg i]at b;by_cases j:c=39
   .have o:=qF ((c::r).length+1) (c::r) 1 0 [] ow sw ow n;have a:ig (c::r)=_:=o;subst j;have l:bc 39=Q4:=rfl;have d:au 39=Q4:=rfl;cases k:fm r with
    | none=>
     simp only[List.drop_succ_cons,List.drop_zero,k]at a;simp[e,b,l,d,a]
    | some x=>
     obtain⟨q,s,p⟩:=si (Io r) r x.1 x.2 (aj _) k;simp only[List.drop_succ_cons,List.drop_zero,k]at a;rw[show 1+x.2-2=x.2-1 by omega,p,kd 1]at a;simp[e,b,l,d,a]
   .have m:¬(c.toNat:Int)=39:=λh=>j (sE.1 (by simpa using h))
    simp[e,b,g,i,j,m]
def wS:Nat->zH->Nat->Bool
 |0,_,_=>Q4
 |_+1,[],k=>Q0 (k<=400)
 | n+1,c::r,k=>
  if(cond ((c.toNat:Int)==32) Q3 ((c.toNat:Int)==10))=Q3 then wS n r k
  else if cV (qc c r).1=Q3 then wS n ((c::r).drop (qc c r).2) (k+1)else Q4
theorem wT:∀(n:Nat)(s:zH)(k:Nat),400<k->wS n s k=Q4
 |0,_,_,_=>rfl
 |_+1,[],k,h=>by rw[wS];exact ae ow
 | n+1,c::r,k,h=>by
  rw[wS];split
  .exact wT n r k h
  .split
   .exact wT n _ (k+1) ow
   .rfl
theorem Cj:∀(n:Nat)(s:zH)(i:Nat)(l:dp),i<=Io s->Io s+1<=n+i->Io s<=1000000000->Io l<=400->((uP n s (i:Int) l).2==(0:Int))=wS n (s.drop i) (Io l)
 |0,s,i,l,o,p,d,e=>by omega
 | n + 1,s,i,l,o,p,d,e=>by
  rw[uP];by_cases x:i<Io s
  .have m:List.take ((Io s:Int).toNat-(i:Int).toNat) (List.drop (i:Int).toNat s)=s.drop i:=by
    simp only[aK];exact QC sw
   have h:(s.drop i).length<=1000000000:=by simp;omega
   rw[ze (zy (show(i:Int)<(Io s:Int) by omega)),m,ef s x,qU i ow];rw[fO x]at h|-;rw[wS];split
   .exact Cj n s (i+1) l ow ow d e
   .rw[xA _ _ h];simp only;by_cases a:cV (qc s[i] (s.drop (i+1))).1=Q3
    .rw[ze a];by_cases j:Io l=400
     .rw[ze (by rw[a,j];rfl),j,wT n _ _ ow];rfl
     .rw[zg (by rw[a];simp;omega)];have g:cV (bQ (s[i]::s.drop (i+1))).1=Q3:=by rw[xA _ _ h];exact a
      obtain⟨k,c,q,b⟩:=wC _ (List.cons_ne_nil _ _) h g;rw[xA _ _ h]at c;have c:(qc s[i] (s.drop (i+1))).2=k:=Int.ofNat.inj c;have t:k<=Io s-i:=by rw[<-fO x]at b;simpa using b
      rw[c,show((i:Int)+(k:Int))=((i+k:Nat):Int) by omega,zaj (i+k) ow,Cj n s (i+k) _ ow ow d sg,<-fO x,F8];simp
    .rw[zg a,ze (by simp[a])];rfl
  .rw[zg sg,BU ow];rw[wS];exact(zy e).symm
theorem V6(m:Nat):jf [IntKind.u8.wrap (Γ Δ (48-Γ Δ (Int.tmod (-(m:Int)) 10)))]=[UInt8.ofNat (48+m%10)]:=by
 have e:Int.tmod (-(m:Int)) 10=-((m%10:Nat):Int):=by rw[Int.neg_tmod];rfl
 have b:m%10<10:=Nat.mod_lt _ ow;have h:Γ Δ (-((m%10:Nat):Int))=-((m%10:Nat):Int):=by rw[ee];omega
 have x:Γ Δ (48- -((m%10:Nat):Int))=((48+m%10:Nat):Int):=by rw[ee];omega
 have a:IntKind.u8.wrap ((48+m%10:Nat):Int)=((48+m%10:Nat):Int):=by rw[IntKind.wrap_u8];omega
 rw[e,h,x,a];rfl
theorem zcu(m:Nat)(h:m<=9223372036854775808):Γ Δ (Int.tdiv (-(m:Int)) 10)=-((m/10:Nat):Int):=by
 have e:Int.tdiv (-(m:Int)) 10=-((m/10:Nat):Int):=by rw[Int.neg_tdiv];rfl
 have:m/10<=m:=Nat.div_le_self _ _;rw[e,ee];omega
theorem V5:∀(f m:Nat)(s:zH),m<10^f->0<f->m<=9223372036854775808->(0<m\/s=[])->Io s+f<=1000->z6 EX (f+1) (.h2 (-(m:Int)) s) (.str (ov f m++s),[])
 |0,_,_,_,h,_,_,_=>by omega
 | f+1,m,s,d,_,i,g,l=>by
  have b:(EX (.h2 (-(m:Int)) s)).val=Q1 (.inl (.h2 (-((m/10:Nat):Int)) ([UInt8.ofNat (48+m%10)]++s))):=by
   show(EX (.h2 _ _)).val=_;have c:(bif Q0 (LT.lt (α:=Int) (-(m:Int)) 0)then Q3 else s==[])=Q3:=by
    rcases g with h|h
    .rw[zy ow];rfl
    .subst h;cases Q0 (LT.lt (α:=Int) (-(m:Int)) 0)<;>rfl
   simp only[EX,Q8,V6 m,zcu m i,zh];rw[ze c,ze (zy sg)]
  by_cases x:m<10
  .have e0:m/10=0:=by omega
   have e:m%10=m:=by omega
   rw[e0,e]at b;have a:ov (f+1) m=[UInt8.ofNat (48+m)]:=by rw[ov,ze x]
   rw[a];refine((zN.of b).ends (k:=1) (z6.of ?_)).mono ow;show(EX (.h2 _ _)).val=_;simp[EX,Q8]
  .have j:0<f:=by
    cases f with
    |zero=>simp at d;omega
    |succ f=>omega
   have:=V5 f (m/10) ([UInt8.ofNat (48+m%10)]++s) (by rw[pM]at d;omega) j ow (.inl ow) sg;have a:ov (f+1) m=ov f (m/10)++[UInt8.ofNat (48+m%10)]:=by rw[ov,zg x]
   rw[a,BZ];exact(zN.of b).ends this
theorem Ar{m:Nat}(h:m<=9223372036854775808):rP (-(m:Int))=Q1 (ov 20 m,()):=by refine zB (s:=.h2 (-(m:Int)) []) rfl (V5 20 m [] ow ow h (.inr rfl) sw) ow ?_;rw[sL];rfl
theorem Cp:∀s:zH,(lr s).length<=2*Io s
 |[]=>by simp[lr]
 | c::r=>by
  have:=Cp r;rw[lr];split<;>simp<;>omega
theorem Gg(c:UInt8):∀s:zH,lr (s++[c])=lr s++(ite (c=39) oq [c])
 | []=>by
  show lr [c]=_;rw[lr,lr,lr];split<;>rfl
 | d::r=>by
  have:=Gg c r;show lr (d::(r++[c]))=_;rw[lr,lr,this];split<;>rfl
theorem zgZ{α:Type}{l:List α}(h:i<Io l):l.take (i+1)=l.take i++[l[i]]:=by rw[List.take_add_one,zZ h];rfl
theorem zlP(k:Io v.2.2<=1000000):z6 ws (Io v.2.2*1+1) (.h13 [39] 0 (v,())) (.str ([39]++lr v.2.2++[39]),[]):=by
 have d:=zN.all (t:=ws) 1 (λi=>.h13 ([39]++lr (v.2.2.take i)) (i:Int) (v,())) (Io v.2.2) (by
  intro i x;refine zN.of ?_;have a:=Cp (v.2.2.take i);have c:(lr (v.2.2.take i)).length<=2000000:=by simp at a;omega
  have w:Γ Δ ((i:Int)+1)=((i+1:Nat):Int):=zt i um;have g:(Q0 (0<=(i:Int))&&Q0 ((i:Int)<=((i+1:Nat):Int))&&Q0 (((i+1:Nat):Int)<=(↑(Io v.2.2):Int)))=Q3:=by simp;omega
  have e:List.take (((i+1:Nat):Int).toNat-(i:Int).toNat) (List.drop (i:Int).toNat v.2.2)=[v.2.2[i]]:=by
   rw[aK,aK,show i+1-i=1 by omega,fO x];rfl
  show(ws (.h13 _ _ _)).val=_;simp only[ws,Q8,w,g,e,zL x,zz x,zh,ef v.2.2 x];rw[zgZ x,Gg,ze (zy sg)];by_cases h:v.2.2[i]=39
  .rw[ze (sE.2 h),ze h,ze (zy sg),h];simp
  .rw[zg (λb=>h (sE.1 b)),zg h];simp)
 have a:=Cp v.2.2;have j:(ws (.h13 ([39]++lr (v.2.2.take (Io v.2.2))) (Io v.2.2:Int) (v,()))).val=Q1 (.inr (.str ([39]++lr v.2.2++[39]),[])):=by
  show(ws (.h13 _ _ _)).val=_;simp only[ws,Q8,zG,gF];simp;omega
 have:=d.ends (z6.of j);rw[kd]at this;exact this
theorem zdP(x:bh v=Q3)(j:v.1≠(0:Int))(l:v.1≠(1:Int))(m:v.1≠(2:Int)):(v.1==3)=Q3/\((en v==2)=(v.2.1==1)):=by
 have e:(v.1==0)=Q4:=dB.2 j;have g:(v.1==1)=Q4:=dB.2 l;have i:(v.1==2)=Q4:=dB.2 m;have c:=x;unfold bh at x;rw[e,g,i]at x;simp only[zE,zp]at x;cases b:(v.1==3)
 .rw[b]at x;simp at x
 .rw[b]at x;refine⟨rfl,?_⟩;have a:v.2.1=(0:Int)\/v.2.1=(1:Int):=by
   simp at x;by_cases k:v.2.1=(0:Int)
   .exact .inl k
   .by_cases d:v.2.1=(1:Int)
    .exact .inr d
    .simp[k,d]at x
  unfold en;rw[show(v.1!=3)=Q4 by simp[bne,b],c];rcases a with h|h<;>rw[h]<;>rfl
theorem Hx(C:lj v):Bh v=Q1 (ip v,()):=by
 obtain⟨A,z,a⟩:=C;have h:=lH (v:=v) a;have e:=oP (v:=v) a;by_cases g:bh v=Q3
 .have c:(!bh v)=Q4:=by rw[g];rfl
  by_cases n:v.1=(0:Int)
  .have d:(v.1==0)=Q3:=bd.2 n;refine zO (r:=(.str Ft,[])) ?_ ?_
   .simp only[Ah,Q8,h,e,c,d,zh];rfl
   .unfold ip;rw[n,g];rfl
  have d:(v.1==0)=Q4:=dB.2 n;by_cases q:v.1=(1:Int)
  .have b:(v.1==1)=Q3:=bd.2 q;have l:ip v=sU v.2.1:=by
    unfold ip;rw[c,zg sw,ze b]
   rw[l];unfold sU;by_cases x:LT.lt (α:=Int) v.2.1 0
   .have k:=Ar (m:=v.2.1.natAbs) ow;rw[show -((v.2.1.natAbs:Nat):Int)=v.2.1 by omega]at k;have o:kX v.2.1=Q3:=by unfold kX;rw[k];rfl
    have p:lJ v.2.1=ov 20 v.2.1.natAbs:=by unfold lJ;rw[k];rfl
    have w:=Co 20 v.2.1.natAbs;rw[ze x];refine zO (r:=(.str ([45]++ov 20 v.2.1.natAbs),[])) ?_ rfl;simp only[Ah,Q8,h,e,c,d,b,zy x,o,p,zh];rw[zg sw,zg sw,ze (zy sg)]
   .have k:=Ar (m:=v.2.1.natAbs) ow;have D:Γ Δ (0-v.2.1)=-((v.2.1.natAbs:Nat):Int):=by rw[ee];omega
    have o:kX (-((v.2.1.natAbs:Nat):Int))=Q3:=by unfold kX;rw[k];rfl
    have p:lJ (-((v.2.1.natAbs:Nat):Int))=ov 20 v.2.1.natAbs:=by unfold lJ;rw[k];rfl
    rw[zg x];refine zO (r:=(.str (ov 20 v.2.1.natAbs),[])) ?_ rfl;simp only[Ah,Q8,h,e,c,d,b,ae x,D,o,p,zh];rw[zg sw,zg sw,zg sw]
  have b:(v.1==1)=Q4:=dB.2 q;by_cases t:v.1=(2:Int)
  .have i:(v.1==2)=Q3:=bd.2 t;have l:ip v=[39]++lr v.2.2++[39]:=by
    unfold ip;rw[c,zg sw,zg (by rw[b];simp),ze i,Ew]
   rw[l];have y:z6 ws (Io v.2.2*1+1) (.h13 [39] 0 (v,())) (.str ([39]++lr v.2.2++[39]),[]):=zlP (v:=v) a;refine zB (s:=.h13 [39] 0 (v,())) ?_ y ow rfl;simp only[Ah,Q8,h,e,c,d,b,i,zh];rfl
  .have i:(v.1==2)=Q4:=dB.2 t;obtain⟨u,B⟩:=zdP g n q t;have l:ip v=if(v.2.1==1)=Q3 then Ik else Ij:=by
    unfold ip;rw[c,zg sw,zg (by rw[b];simp),zg (by rw[i];simp),ze u,B]
   rw[l];by_cases j:(v.2.1==1)=Q3
   .rw[ze j];refine zO (r:=(.str Ik,[])) ?_ rfl;simp only[Ah,Q8,h,e,c,d,b,i,j,zh];rfl
   .rw[zg j];refine zO (r:=(.str Ij,[])) ?_ rfl;have j:(v.2.1==1)=Q4:=by simpa using j
    simp only[Ah,Q8,h,e,c,d,b,i,j,zh];rfl
 .have g:bh v=Q4:=by simpa using g
  refine zO (r:=(.str [],[])) ?_ ?_
  .simp only[Ah,Q8,h,e,g,zh];rfl
  .unfold ip;rw[g];rfl
theorem Hw(h:lj v):kK v=Q3:=by unfold kK;rw[Hx h];rfl
theorem MZ(h:lj v):oQ v=ip v:=by unfold oQ;rw[Hx h];rfl
end Cad
