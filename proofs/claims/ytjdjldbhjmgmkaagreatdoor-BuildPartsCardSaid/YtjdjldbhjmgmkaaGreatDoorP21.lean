/- The document's plans. -/
import Derived.Test.YtjdjldbhjmgmkaaGreatDoorP20
namespace Cad
open Go Go.Proofs
open List renaming length->Io,length->X
open IntKind renaming wrap->Γ,i64->Δ
open Tr renaming val->Q8
open Bool renaming true->O,false->S
open Option renaming some->Q1,some->M
open Decidable renaming decide->T,decide->Q0
open Int renaming toNat->Z
open List (getD)
open List renaming getD->Y
open Tr (chk br re)
open AV (nils agg tup ptr kb str sl)
open Cad renaming ow->W,zi->Q,ai->L,ze->R,Sem->J
set_option maxHeartbeats 4000000
noncomputable section
theorem uR(p:aA):nD p=M (ce p.2.1 p.q.1,()):=by
 unfold ce;by_cases h:(p.q.1==[])=O
 .rw[zf h];refine zQ (r:=(.vec 0,[.vec Sh.str [p.2.1]])) ?_ rfl;simp only[zmw,Q8,h];rfl
 .rw[zh h];have h:(p.q.1==[])=S:=by simpa using h
  refine zQ (r:=(.vec 0,[.vec Sh.str ([p.2.1]++[p.q.1])])) ?_ rfl;simp only[zmw,Q8,h];rfl
theorem uQ(p:aA):kL p=O:=by unfold kL;rw[uR];rfl
theorem xr(p:aA):mD p=ce p.2.1 p.q.1:=by unfold mD;rw[uR];rfl
theorem BP(x:zJ):∀(l:List zJ)(i:Nat),GE.ge (α:=Int) (jr x l (i:Int)) 0↔x∈l
 | [],i=>by
  rw[jr];exact⟨λh=>zA h (by decide),λh=>by cases h⟩
 | a::r,i=>by
  rw[jr];split
  .rename_i h;have:x=a:=by simpa using h
   subst this;exact⟨λ_=>uA,λ_=>Int.natCast_nonneg i⟩
  next h=>have:=BP x r (i+1);rw[wn]at this;rw[bZ];refine⟨λb=>.inr (this.1 b),λb=>this.2 (b.resolve_left ?_)⟩;rintro rfl;simp at h
theorem mw(l:List zJ)(x:zJ):aL l x=O↔x∈l:=by unfold aL;rw[decide_eq_true_iff];exact BP x l 0
theorem LB{l:List zJ}{s:zJ}(o:X l<=1000000):BX l s=O/\Pd l s=aL l s:=by
 have a:Ui l s=M (aL l s,()):=by
  rcases nL (t:=Sr) (Φ:=λr=>r=(.kb O,[])) 1 (λi=>.h2 l s (i:Int)) (λi=>∀h:i<X l,l[i]≠s) (X l) (λi x _=>by
   have n:(Sr (.h2 l s (i:Int))).val=if(l[i]==s)=O then M (.inr (.kb O,[]))else M (.inl (.h2 l s ((i+1:Nat):Int))):=by
    show(Sr (.h2 _ _ _)).val=_;simp only[Sr,Q8,zX _ _ x,zN x,zx x,zj];rw[zu i um]
   by_cases h:l[i]=s
   .exact .inr ⟨λk=>k x h,_,zU.of (by rw[n,zf (by simpa using h)]),rfl⟩
   .exact .inl ⟨λ_=>h,zH.of (by rw[n,zh (by simpa using h)])⟩)with⟨b,c⟩|⟨b,r,c,rfl⟩
  .have g:aL l s=S:=by
    rw[<-iW,mw];intro d;have⟨j,m,e⟩:=fO d;exact b j m m e
   rw[g];refine zz (s:=.h2 l s 0) rfl (c.ends (zU.of (r:=(.kb S,[])) ?_)) W rfl;show(Sr (.h2 _ _ _)).val=_;simp only[Sr,Q8,zK];rfl
  .have g:aL l s=O:=by
    rw[mw];apply kX;intro d;exact b λi _ x e=>d (e▸bC x)
   rw[g];exact zz (s:=.h2 l s 0) rfl c W rfl
 exact⟨by unfold BX;rw[a];rfl,by unfold Pd;rw[a];rfl⟩
theorem BN{α:Type}(p:α->Bool):∀(l:List α)(i:Nat),(!Q0 (ah p l i>=0))=O↔∀x∈l,p x=S
 | [],i=>by
  refine⟨λ_ x a=>(by cases a),λ_=>?_⟩;rw[ah];rfl
 | y::r,i=>by
  refine⟨λh=>rM p _ i h,λh=>?_⟩;rw[ah,h y sw];exact(BN p r (i+1)).2 λx a=>h x (by simp[a])
theorem Aw{α:Type}(p:α->Bool)(l:List α):T (GE.ge (α:=Int) (ah p l 0) 0)=O↔∃x∈l,p x=O:=by
 have h:=BN p l 0;constructor
 .intro a;apply kX;intro d;have:=h.2 λx c=>by
   cases b:p x
   .rfl
   .exact zA ⟨x,c,b⟩ d
  rw[a]at this;cases this
 .rintro⟨x,c,b⟩;cases a:T (GE.ge (α:=Int) (ah p l 0) 0)
  .have:=h.1 (by rw[a];rfl) x c;rw[b]at this;cases this
  .rfl
variable {d:zS}{ns:List zJ}
theorem K4(H:X d<=1000)(G:∀x∈d,(x:ae).1.t.1.length<=1000)(u:X ns<=1000000):p6 d ns=M (eP d ns,()):=by
 have p:∀i(e:i<X d),(¬(!aL ns d[i].1.1&&T (GE.ge (α:=Int) (ah (λf:cy=>aL ns f.2) d[i].1.t.1 0) 0))=O/\zH sy 1002 (.h2 d ns (i:Int)) (.h2 d ns ((i+1:Nat):Int)))\/
   ((!aL ns d[i].1.1&&T (GE.ge (α:=Int) (ah (λf:cy=>aL ns f.2) d[i].1.t.1 0) 0))=O/\zU sy 1002 (.h2 d ns (i:Int)) (.kb O,[])):=by
  intro i e;have v:=G _ (bC e);have g:d.getD (i:Int).toNat (Q zl)=d[i]:=zX _ _ e;have q:zH sy 1 (.h2 d ns (i:Int)) (.h5 d ns (i:Int) ((0:Nat):Int)):=zH.of (by
   show(sy (.h2 _ _ _)).val=_;simp only[sy,Q8,zN e,zj];rfl)
  have⟨z,A⟩:=LB (l:=ns) (s:=d[i].1.1) u;have E:(sy (.h5 d ns (i:Int) (d[i].1.t.1.length:Int))).val=M (.inl (.h2 d ns ((i+1:Nat):Int))):=by
   show(sy (.h5 _ _ _ _)).val=_;simp only[sy,Q8,g,zK,zx e,zj];rw[zu i um];rfl
  rcases nL (t:=sy) (Φ:=λr=>r=(.kb O,[])) 1 (λj=>.h5 d ns (i:Int) (j:Int)) (λj=>∀h:j<d[i].1.t.1.length,¬(!aL ns d[i].1.1&&aL ns (d[i].1.t.1[j]).2)=O) d[i].1.t.1.length (λj a _=>by
   have D:Y d[i].1.t.1 (j:Int).toNat (Q zG)=d[i].1.t.1[j]:=zX _ _ a;have⟨B,C⟩:=LB (l:=ns) (s:=(d[i].1.t.1[j]).2) u;have m:(sy (.h5 d ns (i:Int) (j:Int))).val=if(!aL ns d[i].1.1&&aL ns (d[i].1.t.1[j]).2)=O then M (.inr (.kb O,[]))else M (.inl (.h5 d ns (i:Int) ((j+1:Nat):Int))):=by
    show(sy (.h5 _ _ _ _)).val=_;simp only[sy,Q8,g,D,zN a,zx e,zx a,z,A,B,C,zj,eY];rw[zu j um];cases aL ns d[i].1.1<;>cases aL ns (d[i].1.t.1[j]).2<;>rfl
   by_cases h:(!aL ns d[i].1.1&&aL ns (d[i].1.t.1[j]).2)=O
   .exact .inr ⟨λk=>k a h,_,zU.of (by rw[m,zf h]),rfl⟩
   .exact .inl ⟨λ_=>h,zH.of (by rw[m,zh h])⟩)with⟨b,c⟩|⟨b,r,c,rfl⟩
  .refine .inl ⟨?_,((q.trans c).trans (zH.of E)).mono W⟩;intro h;simp only[aN,Aw]at h;have⟨w,f,F,y⟩:=h;obtain⟨j,a,rfl⟩:=fO F;exact b j a a (by rw[w,y];rfl)
  .refine .inr ⟨?_,(q.ends c).mono W⟩;apply kX;intro h;refine b λj _ a o=>h ?_
   simp only[aN]at o;simp only[aN,Aw];exact⟨o.1,_,bC a,o.2⟩
 rcases nL (t:=sy) (Φ:=λr=>r=(.kb O,[])) 1002 (λi=>.h2 d ns (i:Int)) (λi=>∀h:i<X d,¬(!aL ns d[i].1.1&&T (GE.ge (α:=Int) (ah (λf:cy=>aL ns f.2) d[i].1.t.1 0) 0))=O) (X d) (λi e _=>by
  rcases p i e with⟨b,c⟩|⟨b,c⟩
  .exact .inl ⟨λ_=>b,c⟩
  .exact .inr ⟨λk=>k e b,_,c,rfl⟩)with⟨b,c⟩|⟨b,r,c,rfl⟩
 .have n:eP d ns=S:=by
   unfold eP;rw[List.any_eq_false];intro x v;obtain⟨j,a,rfl⟩:=fO v;exact b j a a
  rw[n];have m:(sy (.h2 d ns (X d:Int))).val=M (.inr (.kb S,[])):=by
   show(sy (.h2 _ _ _)).val=_;simp only[sy,Q8,zK];rfl
  exact zz (s:=.h2 d ns 0) rfl (c.ends (zU.of m)) W rfl
 .have n:eP d ns=O:=by
   unfold eP;apply kX;intro h;rw[iW,List.any_eq_false]at h;exact b λi _ e=>h _ (bC e)
  rw[n];exact zz (s:=.h2 d ns 0) rfl c W rfl
theorem OO{db:zS}(a:X db<=1000)(c:∀x∈db,(x:ae).1.t.1.length<=1000)(b:X ns<=1000000):vU db ns=O/\AP db ns=eP db ns:=by have h:=K4 a c b;exact⟨by unfold vU;rw[h];rfl,by unfold AP;rw[h];rfl⟩
def pl3(t:al)(n:List zJ):Nat->qZ
 |0=>.h3 t.2.1 n ((0:Nat):Int)
 |i+1=>.h3b t.2.1 n ((i+1:Nat):Int) (kd t (n.take (i+1)))
variable {t:al}{n:List zJ}{i:Nat}
theorem zfl(c:X t.2.1<=1000000)(d:X n<=1000)(x:i<X n):(kQ (pl3 t n i)).val=if LT.lt (α:=Int) (zZ t n[i]) 0 then M (.inr (.tup [.nils,L 4],[]))else M (.inl (pl3 t n (i+1))):=by
 have e:gY t.2.1 n[i]=zZ t n[i]:=tM c;have b:fw t.2.1 n[i]=O:=qi c;have a:kd t (n.take (i+1))=kd t (n.take i)++[zZ t n[i]]:=by
  unfold kd;rw[bF x,gh];rfl
 cases i with
 | zero=>
  have a:kd t (n.take 1)=[zZ t n[0]]:=a;show(kQ (.h3 _ _ _)).val=_;simp only[kQ,Q8,zN x,zx x,zj,zX _ _ x,e,b];by_cases h:LT.lt (α:=Int) (zZ t n[0]) 0
  .simp only[zB h,zj,zf h]
  .simp only[aB h,zh h,zD,zm];rw[zf sw,zu 0 um];show _=M (Sum.inl (qZ.h3b _ _ _ (kd t (n.take 1))));rw[a]
 | succ i=>
  show(kQ (.h3b _ _ _ _)).val=_;simp only[kQ,Q8,zN x,zx x,zj,zX _ _ x,e,b];by_cases h:LT.lt (α:=Int) (zZ t n[i+1]) 0
  .simp only[zB h,zj,zf h]
  .simp only[aB h,zh h,zD,zm];rw[zf (by unfold kd;simp;omega),zu (i+1) um];show _=M (Sum.inl (qZ.h3b _ _ _ (kd t (n.take (i+1+1)))));rw[a]
theorem zyD{l:List Int}(u:X l<=1000):zU kQ (X l*1001+1) (.h10b ((0:Nat):Int) l) (ite l.Nodup (.tup [.vec 0,L 0],[.vec zk l]) (.tup [.nils,L 7],[])):=by
 have m:∀i(c:i<X l),((∀k(x:k<i),l[k]≠l[i])/\zH kQ 1001 (.h10b (i:Int) l) (.h10b ((i+1:Nat):Int) l))\/((¬∀k(x:k<i),l[k]≠l[i])/\zU kQ 1001 (.h10b (i:Int) l) (.tup [.nils,L 7],[])):=by
  intro i c;have n:zH kQ 1 (.h10b (i:Int) l) (.h13b (i:Int) ((0:Nat):Int) l):=zH.of (by
   show(kQ (.h10b _ _)).val=_;simp only[kQ,Q8,zN c,zj];rfl)
  rcases nL (t:=kQ) (Φ:=λr=>r=(.tup [.nils,L 7],[])) 1 (λk=>.h13b (i:Int) (k:Int) l) (λk=>∀h:k<i,l[k]≠l[i]) i (λk x _=>by
   have d:k<X l:=by omega
   have s:T ((k:Int)<(i:Int))=O:=zN x;have p:(kQ (.h13b (i:Int) (k:Int) l)).val=if(l[i]==l[k])=O then M (.inr (.tup [.nils,L 7],[]))else M (.inl (.h13b (i:Int) ((k+1:Nat):Int) l)):=by
    show(kQ (.h13b _ _ _)).val=_;simp only[kQ,Q8,s,zx c,zx d,A8 c,A8 d,zX _ _ c,zX _ _ d,zj];rw[zu k um]
   by_cases h:l[i]=l[k]
   .exact .inr ⟨λq=>q x h.symm,_,zU.of (by rw[p,zf (by simpa using h)]),rfl⟩
   .exact .inl ⟨λ_=>Ne.symm h,zH.of (by rw[p,zh (by simpa using h)])⟩)with⟨a,b⟩|⟨a,r,b,rfl⟩
  .refine .inl ⟨λk x=>a k x x,((n.trans b).trans (zH.of ?_)).mono W⟩;show(kQ (.h13b _ _ _)).val=_;simp only[kQ,Q8,zK];rw[zu i um];rfl
  .exact .inr ⟨λh=>a λk x _=>h k x,(n.ends b).mono W⟩
 have e:l.Nodup↔∀i,i<X l->∀h:i<X l,∀k(x:k<i),l[k]≠l[i]:=by
  unfold List.Nodup;rw[List.pairwise_iff_getElem];exact⟨λh i _ c k x=>h k i W c x,λh i j c o g=>h j o o i g⟩
 rcases nL (t:=kQ) (Φ:=λr=>r=(.tup [.nils,L 7],[])) 1001 (λi=>.h10b (i:Int) l) (λi=>∀h:i<X l,∀k(x:k<i),l[k]≠l[i]) (X l) (λi c _=>by
  rcases m i c with⟨a,b⟩|⟨a,b⟩
  .exact .inl ⟨λ_=>a,b⟩
  .exact .inr ⟨λh=>a (h c),_,b,rfl⟩)with⟨a,b⟩|⟨a,r,b,rfl⟩
 .rw[zf (e.2 a)];refine(b.ends (zU.of ?_)).mono W;show(kQ (.h10b _ _)).val=_;simp only[kQ,Q8,zK];rfl
 .rw[zh (λh=>a (e.1 h))];exact b.mono W
theorem K2(A:X t.2.1<=1000000)(B:X n<=1000):pZ t.2.1 n=M (ite (gT t n=0) (kd t n) [],gT t n,()):=by
 have a:(zs8 t.2.1 n).val=M (.inl (pl3 t n 0)):=rfl
 rcases nL (t:=kQ) (Φ:=λr=>r=(.tup [.nils,L 4],[])) 1 (pl3 t n) (λi=>∀h:i<X n,¬LT.lt (α:=Int) (zZ t n[i]) 0) (X n) (λi a _=>by
  have u:=zfl A B a;by_cases h:LT.lt (α:=Int) (zZ t n[i]) 0
  .exact .inr ⟨λq=>q a h,_,zU.of (by rw[u,zf h]),rfl⟩
  .exact .inl ⟨λ_=>h,zH.of (by rw[u,zh h])⟩)with⟨k,d⟩|⟨k,r,d,rfl⟩
 .have z:∀s∈n,¬LT.lt (α:=Int) (zZ t s) 0:=by
   intro s C;obtain⟨j,p,rfl⟩:=fO C;exact k j p p
  have g:gT t n=if(kd t n).Nodup then 0 else 7:=by unfold gT;rw[zf z];rfl
  have D:(kd t n).length=X n:=by unfold kd;simp
  cases b:X n with
  | zero=>
   have c:n=[]:=DB b;subst c;have m:zU kQ 2 (pl3 t [] 0) (.tup [.nils,L 0],[]):=by
    refine(zH.of (s':=.h10 0) ?_).ends (zU.of ?_)
    .rfl
    .rfl
   have w:gT t []=0:=by rw[g,zf (by unfold kd;exact List.nodup_nil)]
   rw[w,zf rfl];exact zz a m W rfl
  | succ x=>
   rw[b]at d;have v:kd t (n.take (x+1))=kd t n:=by rw[<-b,gE]
   have m:zH kQ 1 (pl3 t n (x+1)) (.h10b ((0:Nat):Int) (kd t n)):=zH.of (by
    show(kQ (.h3b _ _ _ _)).val=_;rw[v,<-b];simp only[kQ,Q8,zK];rfl)
   have y:=zyD (l:=kd t n) W;have e:=d.ends (m.ends y);rw[g];by_cases o:(kd t n).Nodup
   .rw[zf o]at e|-;exact zz a e W rfl
   .rw[zh o]at e|-;exact zz a e W rfl
 .have g:gT t n=4:=by
   unfold gT;rw[zh];intro h;exact k λi _ a=>h _ (bC a)
  rw[g];exact zz a d W rfl
theorem ON{names:List zJ}(x:X t.2.1<=1000000)(a:X names<=1000):pY t.2.1 names=O/\tr t.2.1 names=(ite (gT t names=0) (kd t names) [],gT t names):=by have h:=K2 x a;exact⟨by unfold pY;rw[h];rfl,by unfold tr;rw[h];rfl⟩
def zd7(e:zg)(c:aT):Int:=
 if(e.op==[])=O then 0 else if(cond ((cv e c).2==0) (cond ((cv e c).1!=3) ((cv e c).1!=0) S) S)=O then 5 else(cv e c).2
theorem WF{q:zg}{e:aT}(b:vd q)(i:X e<=1000000)(j:(q.op==[])=S->ea q=O):C2 q e=M (zd7 q e,()):=by
 unfold zd7;cases x:(q.op==[])
 .have h:=j x;have c:=oX b;have d:=tE b;have a:=OY i h;have l:qe q e=O:=by unfold qe;rw[a];rfl
  have m:jy q e=cv q e:=by unfold jy;rw[a];rfl
  have g:(cond ((cv q e).2==0) (cond ((cv q e).1!=0) ((cv q e).1!=3) S) S)=(cond ((cv q e).2==0) (cond ((cv q e).1!=3) ((cv q e).1!=0) S) S):=by
   cases((cv q e).2==0)<;>cases((cv q e).1!=0)<;>cases((cv q e).1!=3)<;>rfl
  have k:(zeK q e).val=M (.inr (L (ite ((cond ((cv q e).2==0) (cond ((cv q e).1!=3) ((cv q e).1!=0) S) S)=O) 5 ((cv q e).2)),[])):=by
   simp only[zeK,Q8,zo,x,c,d,h,l,m,g,zj,zD,zm,cj];split<;>rfl
  exact zQ k rfl
 .refine zQ (r:=(L 0,[])) ?_ rfl;simp only[zeK,Q8,x,zj]
theorem za6{q:zg}{cols:aT}(b:vd q)(x:X cols<=1000000)(a:(q.op==[])=S->ea q=O):qj q cols=O/\sa q cols=zd7 q cols:=by have h:=WF b x a;exact⟨by unfold qj;rw[h];rfl,by unfold sa;rw[h];rfl⟩
theorem Hv(l:List zJ):iE l=Lib.join l fP:=by
 have h:=su l 0 [];unfold iE;rw[h];have e:l.map nG=l:=by
  rw[show(nG:zJ->zJ)=id from rfl];exact List.map_id l
 rw[HU,e]
variable {s:zO}
theorem zf3(h:yD s)(o:s.1=dI)(x:mA s=O):nH s=Su s:=by unfold mA at x;simp only[aN,aY]at x;rw[(jD (zjg h.sh o)).2,tC,DU x.2.1,Hv];unfold Su;simp
theorem zf4(h:yD s)(o:s.1=ic)(x:pW s=O):nH s=sC s:=by unfold pW at x;simp only[aN]at x;rw[(jD (zji h.sh o)).2,tJ,DU x.1];unfold sC;simp
theorem zbV(h:yD s)(o:s.1=qD)(x:iK s=O):nH s=nI s:=by unfold iK at x;simp only[aN,aY]at x;rw[(jD (zjh h.sh o x.1)).2,tG,DU x.2.1];unfold nI;simp
theorem R0(h:yD s)(n:lu s.1):∃t,qm s=M (t,fA s,()):=by
 have k:∀(x:zO)(c:Bool)(t e:zJ),fx s=M (t,x,c,())->X t<=900000->Dr x->(c=O->t=e)->(c=O->nH s=e)->iv s=(c&&(az s.2.1&&ir x s))->∃t,qm s=M (t,fA s,()):=by
  intro x c t e a b d i j l;have⟨t',m⟩:=Jy h a b d;refine⟨t',?_⟩;rw[m,zbG,l];cases g:c
  .rfl
  .rw[j g,i g];cases az s.2.1<;>cases ir x s<;>rfl
 rcases n with o|o|o
 .have⟨t,a,b,d⟩:=UK h o;exact k _ _ _ _ a b (gF h (.inl rfl) (.inr rfl) (.inr rfl) (.inr rfl) (.inl rfl) (.inr rfl) (.inr rfl) (.inr rfl)) d (zf3 h o) (T7 h o)
 .have⟨a,b⟩:=UL h o;exact k _ _ _ _ a b (gF h (.inr rfl) (.inr rfl) (.inr rfl) (.inr rfl) (.inl rfl) (.inr rfl) (.inr rfl) (.inr rfl)) (λ_=>rfl) (zf4 h o) (T8 h o)
 .have⟨t,a,b,d⟩:=PN h o;exact k _ _ _ _ a b (gF h (.inl rfl) (.inr rfl) (.inr rfl) (.inr rfl) (.inl rfl) (.inr rfl) (.inr rfl) (.inr rfl)) d (zbV h o) (OL h o)
theorem Tf{g c:zg->zg->Bool}:∀(l m:List zg),X l=X m->(∀x∈l,∀y,c x y=O/\(g x y=O↔x=y))->VS g c l m=O/\(eqL g l m=O↔l=m)
 |[],[],_,_=>⟨rfl,by simp[eqL]⟩
 |[],_::_,h,_=>by simp at h
 |_::_,[],h,_=>by simp at h
 | x::r,y::q,h,hx=>by
  have⟨d,b⟩:=hx x sw y;have⟨i,j⟩:=Tf r q (by simpa using h) (λz n=>hx z (by simp[n]));rw[VS,eqL];rw[d];by_cases k:g x y=O
  .have:=b.1 k;subst this;simp[k,i,j]
  .have a:x≠y:=λe=>k (b.2 e)
   simp[k,a]
theorem Px:∀(d:Nat)(a b:zg),ol d a=O->lm d a b=O/\(gN d a b=O↔a=b)
 |0,_,_,h=>by cases h
 | d + 1,.mk n v s l,.mk o j p i,h=>by
  rw[ol]at h;simp only[aN,aY,eu]at h;have⟨_,D⟩:=h;have B:lm (d+1) (.mk n v s l) (.mk o j p i)=(cond (n==o) (cond (eqV v j) (cond (s==p) (EC (gN d) (lm d) l i) O) O) O):=rfl;have C:gN (d+1) (.mk n v s l) (.mk o j p i)=(cond (n==o) (cond (eqV v j) (cond (s==p) (QR (gN d) l i) S) S) S):=rfl;rw[B,C];unfold EC QR;have u:eqV v j=O↔v=j:=by unfold eqV;simp[Prod.ext_iff]
  by_cases m:n=o
  .by_cases k:v=j
   .by_cases w:s=p
    .by_cases q:X l=X i
     .have⟨F,G⟩:=Tf (g:=gN d) (c:=lm d) l i q (λx E y=>Px d x y (D x E));have z:((X l:Int)!=(X i:Int))=S:=by rw[<-iW,kl];exact λh=>h q
      rw[z,u.2 k];simp[m,w,F,G,k]
     .have z:((X l:Int)!=(X i:Int))=O:=kl.2 q;have A:l≠i:=λe=>q (by rw[e])
      rw[z,u.2 k];simp[m,w,A]
    .rw[u.2 k];simp[m,w]
   .have:eqV v j=S:=by rw[<-iW,u];exact k
    rw[this];simp[m,k]
  .simp[m]
variable {h:List Int}
theorem PC{b:List Int}(x:X h<=1000000):L6 h b=O/\(qM h b=O↔h=b):=by
 have d:∃r,L7 h b=M (r,())/\(r=O↔h=b):=by
  by_cases a:X h=X b
  .have c:((X h:Int)!=(X b:Int))=S:=by rw[<-iW,kl];exact λx=>x a
   have j:(zeL h b).val=M (.inl (.h4 h b (X h:Int) 0)):=by
    simp only[zeL,Q8,c];rfl
   rcases nl (t:=zvM) (la:=h) (lb:=b) (λi=>.h4 h b (X h:Int) i) (.inr (.kb O,[])) (λi=>Y h (i:Int).toNat (Q zk)==Y b (i:Int).toNat (Q zk)) (λ_ _=>rfl) (λi _ m c=>by rw[bW,zX _ _ m,zX _ _ c]) a x with⟨q,k⟩|⟨q,k⟩
   .exact⟨O,zz j (k 0 _ rfl) W rfl,by simp[q]⟩
   .exact⟨S,zz j k W rfl,by simp[q]⟩
  .refine⟨S,zQ (r:=Jz) ?_ rfl,by simp;exact λe=>a (by rw[e])⟩;simp only[zeL,Q8,kl.2 a,zj]
 have⟨r,g,l⟩:=d;refine⟨by unfold L6;rw[g];rfl,?_⟩;have:qM h b=r:=by unfold qM;rw[g];rfl
 rw[this];exact l
theorem zbx{e b:aT}(h:X e<=1000000):Sb e b=O/\(B2 e b=O↔e=b):=by
 have d:∃r,L4 e b=M (r,())/\(r=O↔e=b):=by
  by_cases a:X e=X b
  .have c:((X e:Int)!=(X b:Int))=S:=by rw[<-iW,kl];exact λh=>h a
   have l:(zeR e b).val=M (.inl (.h4 e b (X e:Int) 0)):=by
    simp only[zeR,Q8,c];rfl
   rcases nl (t:=zvN) (la:=e) (lb:=b) (λi=>.h4 e b (X e:Int) i) (.inr (.kb O,[])) (λi=>((Y e (i:Int).toNat (Q zn)).1==(Y b (i:Int).toNat (Q zn)).1&&((Y e (i:Int).toNat (Q zn)).2.1==(Y b (i:Int).toNat (Q zn)).2.1&&((Y e (i:Int).toNat (Q zn)).q==(Y b (i:Int).toNat (Q zn)).q&&O)))) (λ_ _=>rfl) (λi _ n c=>by rw[X2,zX _ _ n,zX _ _ c]) a h with⟨g,k⟩|⟨g,k⟩
   .exact⟨O,zz l (k 0 _ rfl) W rfl,by simp[g]⟩
   .exact⟨S,zz l k W rfl,by simp[g]⟩
  .refine⟨S,zQ (r:=Jz) ?_ rfl,by simp;exact λx=>a (by rw[x])⟩;simp only[zeR,Q8,kl.2 a,zj]
 have⟨r,j,m⟩:=d;refine⟨by unfold Sb;rw[j];rfl,?_⟩;have:B2 e b=r:=by unfold B2;rw[j];rfl
 rw[this];exact m
variable {c:dK}
theorem zby{b:dK}(h:X c<=1000000):Sc c b=O/\(B3 c b=O↔c=b):=by
 have d:∃r,L5 c b=M (r,())/\(r=O↔c=b):=by
  by_cases x:X c=X b
  .have a:((X c:Int)!=(X b:Int))=S:=by rw[<-iW,kl];exact λh=>h x
   have j:(zeS c b).val=M (.inl (.h4 c b (X c:Int) 0)):=by
    simp only[zeS,Q8,a];rfl
   rcases nl (t:=zvO) (la:=c) (lb:=b) (λi=>.h4 c b (X c:Int) i) (.inr (.kb O,[])) (λi=>((Y c (i:Int).toNat (Q zG)).1==(Y b (i:Int).toNat (Q zG)).1&&((Y c (i:Int).toNat (Q zG)).2==(Y b (i:Int).toNat (Q zG)).2&&O))) (λ_ _=>rfl) (λi _ m a=>by rw[zl9,zX _ _ m,zX _ _ a]) x h with⟨q,k⟩|⟨q,k⟩
   .exact⟨O,zz j (k 0 _ rfl) W rfl,by simp[q]⟩
   .exact⟨S,zz j k W rfl,by simp[q]⟩
  .refine⟨S,zQ (r:=Jz) ?_ rfl,by simp;exact λe=>x (by rw[e])⟩;simp only[zeS,Q8,kl.2 x,zj]
 have⟨r,g,l⟩:=d;refine⟨by unfold Sc;rw[g];rfl,?_⟩;have:B3 c b=r:=by unfold B3;rw[g];rfl
 rw[this];exact l
theorem zbR{a b:al}(B:X a.2.1<=1000000)(E:X a.r.1<=1000000)(D:X a.t.1<=1000000)(C:ol 16 a.u=O):Mp a b=O/\(uW a b=O↔a=b):=by
 have⟨h,e,x,g,i,m⟩:=a;have⟨c,j,d,k,l,n⟩:=b;have⟨p,w⟩:=zbx (b:=j) (show X e<=1000000 from B);have⟨q,y⟩:=PC (b:=k) (show X g<=1000000 from E);have⟨s,z⟩:=zby (b:=l) (show X i<=1000000 from D);have⟨v,A⟩:=Px 16 m n C;have o:Mq (h,e,x,g,i,m) (c,j,d,k,l,n)=M ((cond (h==c) (cond (x==d) (cond (B2 e j) (cond (qM g k) (cond (B3 i l) (gN 16 m n) S) S) S) S) S),()):=by
  refine zQ (r:=(.bool _,[])) ?_ rfl;simp only[zs9,Q8,zo,p,q,s,v];rw[zf];cases(h==c)<;>cases(x==d)<;>cases B2 e j<;>cases qM g k<;>cases B3 i l<;>rfl
 refine⟨by unfold Mp;rw[o];rfl,?_⟩;have:uW (h,e,x,g,i,m) (c,j,d,k,l,n)=(cond (h==c) (cond (x==d) (cond (B2 e j) (cond (qM g k) (cond (B3 i l) (gN 16 m n) S) S) S) S) S):=by unfold uW;rw[o];rfl
 rw[this];simp only[cO];rw[<-w,<-y,<-z,<-A];have F:(h==c)=O↔h=c:=bW;have G:(x==d)=O↔x=d:=bW;rw[<-F,<-G];cases(h==c)<;>cases(x==d)<;>cases B2 e j<;>cases qM g k<;>cases B3 i l<;>cases gN 16 m n<;>simp
variable {p:aA}
theorem zaH{b:aA}(z:X p.r.1.2.1<=1000000)(D:X p.r.1.r.1<=1000000)(B:X p.r.1.t.1<=1000000)(A:ol 16 p.r.1.u=O)(E:X p.t.1<=1000000):KV p b=O/\(OG p b=O↔p=b):=by
 have⟨x,c,d,a,l,e⟩:=p;have⟨g,i,j,h,m,k⟩:=b;have⟨s,w⟩:=zbR (b:=h) z D B A;have⟨v,y⟩:=PC (b:=m) (show X l<=1000000 from E);have n:Mp (a.1,a.2.1,a.q.1,a.r.1,a.t.1,a.u) (h.1,h.2.1,h.q.1,h.r.1,h.t.1,h.u)=O:=s;have C:uW (a.1,a.2.1,a.q.1,a.r.1,a.t.1,a.u) (h.1,h.2.1,h.q.1,h.r.1,h.t.1,h.u)=uW a h:=rfl;have o:KW (x,c,d,a,l,e) (g,i,j,h,m,k)=M ((cond (x==g) (cond (c==i) (cond (d==j) (cond (e==k) (cond (uW a h) (qM l m) S) S) S) S) S),()):=by
  refine zQ (r:=(.bool _,[])) ?_ rfl;simp only[zsX,Q8,zo,n,C,v];rw[zf];cases(x==g)<;>cases(c==i)<;>cases(d==j)<;>cases(e==k)<;>cases uW a h<;>rfl
 refine⟨by unfold KV;rw[o];rfl,?_⟩;have:OG (x,c,d,a,l,e) (g,i,j,h,m,k)=(cond (x==g) (cond (c==i) (cond (d==j) (cond (e==k) (cond (uW a h) (qM l m) S) S) S) S) S):=by unfold OG;rw[o];rfl
 rw[this];simp only[cO];rw[<-w,<-y];have F:(x==g)=O↔x=g:=bW;have G:(c==i)=O↔c=i:=bW;have H:(d==j)=O↔d=j:=bW;have P:(e==k)=O↔e=k:=bW;rw[<-F,<-G,<-H,<-P];cases(x==g)<;>cases(c==i)<;>cases(d==j)<;>cases(e==k)<;>cases uW a h<;>cases qM l m<;>simp
theorem O7(s:zJ):∀(l:zS)(i:Nat),iD s l (i:Int)=ah (λx:ae=>x.1.1==s) l i
 |[],_=>rfl
 | x::r,i=>by
  rw[iD,ah];have h:=O7 s r (i+1);have e:(((i+1:Nat)):Int)=(i:Int)+1:=by omega
  rw[e]at h;by_cases a:(x.1.1==s)=O
  .rw[zf a,zf a]
  .rw[zh a,zh a,h]
theorem eo(l:zS)(s:zJ):mJ l s=ak l s:=O7 s l 0
variable {x:ae}
theorem ef.keys(h:ef x):∀r∈x.2,zL x.1.q.1 (X r)=O:=by intro r b;have⟨a,_⟩:=gS h.may;rw[(cL (h.fits r b)).1];exact td a
theorem Y4(x:ae)(c:Int)(v:zq):T (LT.lt (α:=Int) (ah (λr=>bK r c v) x.2 0) 0)=!iu x c v:=by
 unfold iu;rcases gR (λr=>bK r c v) x.2 0 with h|⟨h,_⟩
 .rw[h];rfl
 .have:T (ah (λr=>bK r c v) x.2 0>=0)=O:=zB W;rw[this,aB W];rfl
theorem Ls{db:zS}(w:∀x∈db,ef x)(hw:∀x∈db,My x)(hl:X db<=13):∃b,xG db=M (b,())/\(b=O↔HD db):=by
 have v:=nL (t:=up) (Φ:=IsF) 1010000 (λi=>.h2 db (i:Int)) (λi=>∀f∈(getD db i (zi zl)).1.t.1,LE.le (α:=Int) 0 (ak db f.2)/\∀a∈(getD db i (zi zl)).2,(zP f.1 a).1≠0->iu (aQ db f.2) (aQ db f.2).1.q.1 (zP f.1 a)=true) (Io db) (by
  intro i e _;have hm:=cD (d:=zi zl) e;have s1:=(hw _ hm).t.nrf;have s2:=(hw _ hm).rows;have G:=(w _ hm).cols;generalize B:Y db i (zi zl)=x at*;have l:(up (.h2 db (i:Int))).val=M (.inl (.h5 db (i:Int) ((0:Nat):Int))):=by
   simp only[up,Q8,zN e];rfl
  have h5:=nL (t:=up) (Φ:=IsF) 1002 (λk=>.h5 db (i:Int) (k:Int)) (λk=>LE.le (α:=Int) 0 (ak db (Y x.1.t.1 k (zi zG)).2)/\∀a∈x.2,(zP (Y x.1.t.1 k (zi zG)).1 a).1≠0->iu (aQ db (Y x.1.t.1 k (zi zG)).2) (aQ db (Y x.1.t.1 k (zi zG)).2).1.q.1 (zP (Y x.1.t.1 k (zi zG)).1 a)=O) (X x.1.t.1) (by
   intro k U _;have H:=cD (d:=zi zG) U;have F:=G _ H;generalize hf:Y x.1.t.1 k (zi zG)=f at*;have l:(up (.h5 db (i:Int) (k:Int))).val=if T (LT.lt (α:=Int) (ak db f.2) 0)=O then M (.inr (.kb S,[]))else M (.inl (.h12 db (i:Int) (k:Int) (ak db f.2) ((0:Nat):Int) (f,()))):=by
    simp only[up,Q8,zx e,aH,B,zN U,zx U,hf,eo,zj];rfl
   by_cases u:LE.le (α:=Int) 0 (ak db f.2)
   .have g1:=zH.of (t:=up) (s:=.h5 db (i:Int) (k:Int)) (by rw[l,zh (by rw[aY];omega)]);have y:aQ db f.2∈db:=cD (by
     rcases Bu db f.2 with h|⟨_,h⟩
     .rw[h]at u;exact zA u (by decide)
     .omega)
    have g:=hw _ y;have c:=w _ y;have D:=nL (t:=up) (Φ:=IsF) 1 (λj=>.h12 db (i:Int) (k:Int) (ak db f.2) (j:Int) (f,())) (λj=>(zP f.1 (Y x.2 j (zi ze.sl))).1≠0->iu (aQ db f.2) (aQ db f.2).1.q.1 (zP f.1 (Y x.2 j (zi ze.sl)))=O) (X x.2) (by
     intro j P _;have l:(up (.h12 db (i:Int) (k:Int) (ak db f.2) (j:Int) (f,()))).val=if(cond ((zP f.1 (Y x.2 j (zi ze.sl))).1!=0) (!iu (aQ db f.2) (aQ db f.2).1.q.1 (zP f.1 (Y x.2 j (zi ze.sl)))) S)=O then M (.inr (.kb S,[]))else M (.inl (.h12 db (i:Int) (k:Int) (ak db f.2) ((j+1:Nat):Int) (f,()))):=by
      simp only[up,Q8,zo,bh,zx e,aH,B,zN P,zx P,F _ (cD (d:=zi ze.sl) P),ez u,WG g.t c.may c.keys g.rows,zj,qB];rw[za7 g.t c.may c.keys g.rows,Y4];rw[zf (by cases((Y (Y x.2 j (zi ze.sl)) (Z f.1) (zi R)).1!=0)<;>rfl)];rw[zu j um]
     by_cases z:(zP f.1 (Y x.2 j (zi ze.sl))).1=0
     .exact .inl ⟨λh=>zA z h,zH.of (by rw[l,zh (by rw[z];simp)])⟩
     .have o:((zP f.1 (Y x.2 j (zi ze.sl))).1!=0)=O:=by simpa using z
      by_cases A:iu (aQ db f.2) (aQ db f.2).1.q.1 (zP f.1 (Y x.2 j (zi ze.sl)))=O
      .exact .inl ⟨λ_=>A,zH.of (by rw[l,zh (by rw[A,o];simp)])⟩
      .exact .inr ⟨λh=>A (h z),_,zU.of (by rw[l,zf (by rw[o];simpa using A)]),rfl⟩)
    rcases D with⟨p,m⟩|⟨p,r,m,hr⟩
    .have n:(up (.h12 db (i:Int) (k:Int) (ak db f.2) (X x.2:Int) (f,()))).val=M (.inl (.h5 db (i:Int) ((k+1:Nat):Int))):=by
      simp only[up,Q8,zx e,aH,B,zK];rw[zu k um];rfl
     refine .inl ⟨⟨u,?_⟩,((g1.trans m).trans (zH.of n)).mono W⟩;exact(aO (Q:=λa=>(zP f.1 a).1≠0->iu (aQ db f.2) (aQ db f.2).1.q.1 (zP f.1 a)=O)).1 p
    .refine .inr ⟨λh=>p ?_,r,(g1.ends m).mono W,hr⟩;exact(aO (Q:=λa=>(zP f.1 a).1≠0->iu (aQ db f.2) (aQ db f.2).1.q.1 (zP f.1 a)=O)).2 h.2
   .exact .inr ⟨λh=>u h.1,_,(zU.of (by rw[l,zf (by rw[aY];omega)])).mono W,rfl⟩)
  rcases h5 with⟨p5,C⟩|⟨p5,r,C,hr⟩
  .have n:(up (.h5 db (i:Int) (X x.1.t.1:Int))).val=M (.inl (.h2 db ((i+1:Nat):Int))):=by
    simp only[up,Q8,zx e,aH,B,zK];rw[zu i um];rfl
   refine .inl ⟨?_,(((zH.of l).trans C).trans (zH.of n)).mono W⟩;exact(aO (Q:=λf:cy=>LE.le (α:=Int) 0 (ak db f.2)/\∀a∈x.2,(zP f.1 a).1≠0->iu (aQ db f.2) (aQ db f.2).1.q.1 (zP f.1 a)=O)).1 p5
  .refine .inr ⟨λh=>p5 ?_,r,((zH.of l).ends C).mono W,hr⟩;exact(aO (Q:=λf:cy=>LE.le (α:=Int) 0 (ak db f.2)/\∀a∈x.2,(zP f.1 a).1≠0->iu (aQ db f.2) (aQ db f.2).1.q.1 (zP f.1 a)=O)).2 h)
 have hb:(∀i,i<X db->∀f∈(Y db i (zi zl)).1.t.1,LE.le (α:=Int) 0 (ak db f.2)/\∀a∈(Y db i (zi zl)).2,(zP f.1 a).1≠0->iu (aQ db f.2) (aQ db f.2).1.q.1 (zP f.1 a)=O)↔HD db:=
  aO (Q:=λx:ae=>∀f∈x.1.t.1,LE.le (α:=Int) 0 (ak db f.2)/\∀a∈x.2,(zP f.1 a).1≠0->iu (aQ db f.2) (aQ db f.2).1.q.1 (zP f.1 a)=O)
 have e:(zs4 db).val=M (.inl (.h2 db ((0:Nat):Int))):=rfl;rcases v with⟨v,E⟩|⟨v,r,E,h4⟩
 .refine⟨O,zz e (E.ends (zU.of (r:=(.kb O,[])) ?_)) W rfl,λ_=>hb.1 v,λ_=>rfl⟩;simp only[up,Q8,zK];rfl
 .unfold IsF at h4;subst h4;exact⟨S,zz e E W rfl,λh=>(by cases h),λh=>zA (hb.2 h) v⟩
variable {l:zS}
theorem Lu(D:∀x∈l,My x):∃e:Int,sb l=M (e,())/\(e=0↔jO l):=by
 by_cases v:X l<=12
 case neg=>
  refine⟨13,?_,λh=>(by cases h),λh=>zA h.few v⟩;unfold sb ap bV;simp only[i9p,Q8];rw[zf sg];rfl
 have c:(i9p l).val=M (.inl (.h4 l ((0+1:Nat):Int))):=by
  simp only[i9p,Q8];rw[zh sg];rfl
 have n:=nL (t:=t9p) (Φ:=Err) 1 (λi=>.h4 l ((i+1:Nat):Int)) (λi=>Op.bytesLess (Y l i (zi zl)).1.1 (Y l (i+1) (zi zl)).1.1=O) (X l-1) (by
  intro i c _;have E:i<X l:=by omega
  have B:i+1<X l:=by omega
  have s:(t9p (.h4 l ((i+1:Nat):Int))).val=if(!Op.bytesLess (Y l i (zi zl)).1.1 (Y l (i+1) (zi zl)).1.1)=O then M (.inr (L 15,[]))else M (.inl (.h4 l ((i+1+1:Nat):Int))):=by
   simp only[t9p,gQ i um];simp only[Q8,zN B,zx B,zx E,aH,zj];rw[zu (i+1) um]
  by_cases h:Op.bytesLess (Y l i (zi zl)).1.1 (Y l (i+1) (zi zl)).1.1=O
  .exact .inl ⟨h,zH.of (by rw[s,zh (by rw[h];simp)])⟩
  .exact .inr ⟨h,_,zU.of (by rw[s,zf (by simpa using h)]),15,rfl,by decide⟩)
 rcases n with⟨z,n⟩|⟨z,r,n,e,m,g⟩
 case inr=>
  subst m;exact⟨e,zz c n W rfl,λh=>zA h g,λh=>zA h.names z⟩
 have A:(t9p (.h4 l ((X l-1+1:Nat):Int))).val=M (.inl (.h9 l ((0:Nat):Int))):=by
  simp only[t9p,Q8];rw[zh sg];rfl
 have w:=n.trans (zH.of A);have k:=nL (t:=t9p) (Φ:=Err) 1 (λi=>.h9 l (i:Int)) (λi=>ef (Y l i (zi zl))) (X l) (by
  intro i c _;have⟨e,m,p⟩:=Lm (D _ (cD (d:=zi zl) c));have y:FX (Y l i (zi zl))=O:=by unfold FX;rw[m];rfl
  have j:Ll (Y l i (zi zl))=e:=by unfold Ll;rw[m];rfl
  have s:(t9p (.h9 l (i:Int))).val=if(e !=0)=O then M (.inr (L e,[]))else M (.inl (.h9 l ((i+1:Nat):Int))):=by
   simp only[t9p,Q8,zo,zN c,zx c,aH,zj,bh,y,j];rw[zu i um]
  by_cases h:e=0
  .exact .inl ⟨p.1 h,zH.of (by rw[s,zh (by rw[h];simp)])⟩
  .exact .inr ⟨λq=>h (p.2 q),_,zU.of (by rw[s,zf (by simpa using h)]),e,rfl,h⟩)
 rcases k with⟨q,k⟩|⟨q,r,k,e,m,g⟩
 case inr=>
  subst m;exact⟨e,zz c (w.ends k) W rfl,λh=>zA h g,λh=>zA ((aO (Q:=ef)).2 h.rels) q⟩
 have a:=(aO (Q:=ef)).1 q;have⟨b,C,o⟩:=Ls (db:=l) a D W;have y:FZ l=O:=by unfold FZ;rw[C];rfl
 have j:Lr l=b:=by unfold Lr;rw[C];rfl
 have u:(t9p (.h9 l (X l:Int))).val=if(!b)=O then M (.inr (L 10,[]))else M (.inr (L 0,[])):=by
  simp only[t9p,Q8,zK,y,j];rfl
 by_cases h:b=O
 .exact⟨0,zz c (w.ends (k.ends (zU.of (by rw[u,zh (by rw[h];simp)])))) W rfl,λ_=>⟨v,z,a,o.1 h⟩,λ_=>rfl⟩
 .exact⟨10,zz c (w.ends (k.ends (zU.of (by rw[u,zf (by simpa using h)])))) W rfl,λh=>(by cases h),λF=>zA (o.2 F.bound) h⟩
theorem E4(x:Int):∀(l:List Int)(i:Nat),(∃j,∃g:j<X l,fH x l (i:Int)=((i+j:Nat):Int)/\l[j]=x/\∀k(d:k<j),l[k]≠x)\/(fH x l (i:Int)=(-1:Int)/\x∉l)
 |[],i=>.inr ⟨rfl,sw⟩
 | a::r,i=>by
  rw[fH];by_cases h:x=a
  .rw[zf (by simpa using h)];exact .inl ⟨0,sw,sw,h.symm,λk d=>zA d W⟩
  .rw[zh (by simpa using h),show((i:Int)+1)=((i+1:Nat):Int) by omega];rcases E4 x r (i+1)with⟨j,g,b,c,m⟩|⟨b,c⟩
   .refine .inl ⟨j+1,by simpa using g,by rw[b];congr 1;omega,c,λk d=>?_⟩;cases k with
    |zero=>exact λe=>h e.symm
    |succ k=>exact m k W
   .exact .inr ⟨b,by simp[c,h]⟩
theorem Oa(l:List Int)(x:Int):(∃j,∃a:j<X l,iB l x=(j:Int)/\l[j]=x/\∀k(d:k<j),l[k]≠x)\/(iB l x=(-1:Int)/\x∉l):=by
 rcases E4 x l 0 with⟨j,a,b,c⟩|h
 .exact .inl ⟨j,a,by show fH x l ((0:Nat):Int)=_;rw[b,eI],c⟩
 .exact .inr h
def zgd(c:cH):Prop:=az c.1=O/\LE.le (α:=Int) 1 c.2.1/\LE.le (α:=Int) c.2.1 3
theorem me.col(h:me t):∀c∈t.2.1,zgd c:=by intro c a;obtain⟨i,x,rfl⟩:=fO a;have:=h.cols i x;rw[bz,af x,bI]at this;exact⟨this.1,this.2.1,this.q.1⟩
variable {a:zJ}
theorem zaL(h:¬LT.lt (α:=Int) (zZ t a) 0):Z (zZ t a)<X t.2.1:=by
 rcases ym t a with x|⟨x,b⟩
 .rw[x]at h;simp at h
 .omega
theorem me.at(h:me t){s:zJ}(x:¬LT.lt (α:=Int) (zZ t s) 0):zgd (Y t.2.1 (Z (zZ t s)) (Q zn)):=h.col _ (ET _ _ (zaL x))
theorem NN(x:jO l)(h:(0:Int)<=ak l a):me (au l a):=(jE _).1 (x.rels _ (oL h)).may
theorem Jh(h:gT t n=0):(∀s∈n,¬LT.lt (α:=Int) (zZ t s) 0)/\(kd t n).Nodup:=by
 unfold gT at h;split at h
 .rename_i x;split at h
  .exact⟨x,by assumption⟩
  .cases h
 .cases h
theorem Wm(b:yD s)(a:fA s=O)(c:lu s.1):az s.2.1=O/\cZ s.x.1=O/\(s.1=dI->1<=X s.r.1/\X s.r.1<=8)/\(s.1=ic->az s.p=O)/\(s.1=qD->X s.r.1=2):=by
 have h:=kO a;rcases c with o|o|o
 .rw[T7 b o]at h;simp only[aN,mA,aY]at h;exact⟨h.2.1,h.1.2.1,λ_=>h.1.1.2,λk=>(by rw[o]at k;cases k),λk=>(by rw[o]at k;cases k)⟩
 .rw[T8 b o]at h;simp only[aN,pW]at h;exact⟨h.2.1,h.1.1,λk=>(by rw[o]at k;cases k),λ_=>h.1.q.1,λk=>(by rw[o]at k;cases k)⟩
 .rw[OL b o]at h;simp only[aN,iK,aY]at h;exact⟨h.2.1,h.1.2.1,λk=>(by rw[o]at k;cases k),λk=>(by rw[o]at k;cases k),λ_=>h.1.1⟩
abbrev rN(e:Int):aw:=(.tup [zPl,L e],[])
def yH(r:aw)(x:Int×aA):Prop:=aZ r.2 [ar,zk] r.1=M (x.2,x.1,())
theorem eQ(e:Int):yH (rN e) (e,lw):=rfl
structure Bg (s:zO):Prop where
 wf:vd s.x.1
 may:(s.x.1.op==[])=S->ea s.x.1=O
theorem znz(k:Bg s)(a:Nat->mc)(R:aw)(A:yH R (0,p))(q:p.r.1.u=s.x.1)(B:X p.r.1.2.1<=1000)
  (y:∀i,i<X p.r.1.2.1->(eC (a i)).val=if fw p.r.1.2.1 (Y p.r.1.2.1 i (Q zn)).1=O then(ite ((gY p.r.1.2.1 (Y p.r.1.2.1 i (Q zn)).1!=(i:Int))=O) (M (.inr (rN 7))) (M (.inl (a (i+1)))))else none)
  (z:(eC (a (X p.r.1.2.1))).val=if qj s.x.1 p.r.1.2.1=O then(ite ((sa s.x.1 p.r.1.2.1!=0)=O) (M (.inr (rN (sa s.x.1 p.r.1.2.1)))) (M (.inr R)))else none):
  ∃r,zU eC (X p.r.1.2.1*1+1) (a 0) r/\yH r (jn 0 p):=by
 have n:∀i,i<X p.r.1.2.1->(eC (a i)).val=if aK p.r.1.2.1 (Y p.r.1.2.1 i (Q zn)).1=(i:Int)then M (.inl (a (i+1)))else M (.inr (rN 7)):=by
  intro i h;rw[y i h,zf (qi W),tM W];by_cases c:aK p.r.1.2.1 (Y p.r.1.2.1 i (Q zn)).1=(i:Int)
  .rw[zf c,zh (by simpa using c)]
  .rw[zh c,zf (by simpa using c)]
 have⟨v,w⟩:=za6 (cols:=p.r.1.2.1) k.wf W k.may;rw[w,zf v,<-q]at z;have l:yq p.r.1=if∃i,i<X p.r.1.2.1/\zZ p.r.1 (Y p.r.1.2.1 i (Q zn)).1≠(i:Int)then 7 else zd7 p.r.1.u p.r.1.2.1:=rfl
 unfold jn;rw[zf rfl,l]
 rcases nL (t:=eC) (Φ:=λr=>r=rN 7) 1 a (λi=>aK p.r.1.2.1 (Y p.r.1.2.1 i (Q zn)).1=(i:Int)) (X p.r.1.2.1) (λi b _=>by
  grind[zH.of,zU.of])with⟨d,g⟩|⟨d,r,g,rfl⟩
 .have j:¬∃i,i<X p.r.1.2.1/\zZ p.r.1 (Y p.r.1.2.1 i (Q zn)).1≠(i:Int):=by
   rintro⟨i,b,e⟩;exact e (d i b)
  rw[zh j];by_cases c:zd7 p.r.1.u p.r.1.2.1=0
  .rw[zh (by simpa using c)]at z;rw[zf c];exact⟨_,(g.ends (zU.of z)).mono W,A⟩
  .rw[zf (by simpa using c)]at z;rw[zh c];exact⟨_,(g.ends (zU.of z)).mono W,eQ _⟩
 .have o:∃i,i<X p.r.1.2.1/\zZ p.r.1 (Y p.r.1.2.1 i (Q zn)).1≠(i:Int):=by
   apply kX;intro j;refine d λi b=>?_
   apply kX;exact λm=>j ⟨i,b,m⟩
  rw[zf o,zh (by decide)];exact⟨_,g.mono W,eQ _⟩
abbrev plQ(z:zp Vs):aA:=(z.1,z.2.1,z.q.1,(z.r.1,z.t.1,z.u.1,[],[],z.v.1),z.w.1,z.x.1)
theorem zuu(d:Bg s)(a:zp lc)(z:zp zl2)(b:z.v.1=s.x.1)(c:X z.t.1<=1000):
  ∃r,zU eC (X z.t.1*1+1) (.h64 ((0:Nat):Int) (s,()) a z) r/\yH r (jn 0 (plQ z)):=by
 refine znz d (p:=plQ z) (λi=>.h64 (i:Int) (s,()) a z) ?R ?h b c (λi h=>?_) ?v
 case v=>
  simp only[eC,rE,Q8,zK,zo,zD,zm];rfl
 rotate_left
 .grind[eC,Q8,zx,zu,aD]
 unfold yH;clear b;have⟨g,a,j,k,l,m,e,n,o,q⟩:=z;cases e;rfl
theorem zuv(d:Bg s)(a:zp lc)(z:zp Vs)(b:z.v.1=s.x.1)(c:X z.t.1<=1000):
  ∃r,zU eC (X z.t.1*1+1) (.h64bb ((0:Nat):Int) (s,()) a z) r/\yH r (jn 0 (plQ z)):=by
 refine znz d (p:=plQ z) (λi=>.h64bb (i:Int) (s,()) a z) ?R ?h b c (λi h=>?_) ?v
 case v=>
  simp only[eC,rE,Q8,zK,zo,zD,zm];rfl
 rotate_left
 .grind[eC,Q8,zx,zu,aD]
 unfold yH;clear b;have⟨g,a,j,k,l,m,e,n,o,q⟩:=z;cases e;rfl
theorem zuw(d:Bg s)(a:zp lc)(z:zp X5)(b:z.v.1=s.x.1)(c:X z.t.1<=1000):
  ∃r,zU eC (X z.t.1*1+1) (.h64bbb ((0:Nat):Int) (s,()) a z) r/\yH r (jn 0 (plQ z)):=by
 refine znz d (p:=plQ z) (λi=>.h64bbb (i:Int) (s,()) a z) ?R ?h b c (λi h=>?_) ?v
 case v=>
  simp only[eC,rE,Q8,zK,zo,zD,zm];rfl
 rotate_left
 .grind[eC,Q8,zx,zu,aD]
 unfold yH;clear b;have⟨g,a,j,k,l,m,e,n,o,q⟩:=z;cases e;rfl
def BS(k:Int)(l:List Int):Nat->Int
 |0=>-1
 |i+1=>if l.getD i 0=k then(i:Int)else BS k l i
theorem Ok{k:Int}{h:List Int}{i:Nat}(a:i<X h)(b:h[i]=k)(c:h.Nodup):∀x,x<=X h->BS k h x=if i<x then(i:Int)else -1
 |0,_=>rfl
 | x+1,d=>by
  rw[BS,Ok a b c x W,bz,af (by omega:x<X h),bI];grind[List.pairwise_iff_getElem]
theorem Ol{k:Int}{h:List Int}(x:k∉h):∀i,i<=X h->BS k h i=-1
 |0,_=>rfl
 | i+1,a=>by
  rw[BS,Ol x i W,bz,af (by omega:i<X h),bI,zh];rintro rfl;exact x (bC _)
variable {k:Int}
theorem ZV(x:h.Nodup):BS k h (X h)=iB h k:=by grind[Oa,Ok,Ol]
variable {on:Int}
theorem zyz(u:Bg s)(z:zp lc){b c d:zJ}{l:List Int}(o:X l<=1000)(p:l.Nodup)(g:∀x∈l,zL x (X t.2.1)=O):
  ∃r k,zU eC k (.h24 ((0:Nat):Int) (s,()) z (a,b,c,d,[],-1,s.x.1,l,on,()) (t,())) r/\k<=10000/\
   yH r (jn (if LT.lt (α:=Int) (iB l t.q.1) 0 then 1 else 0) (a,b,c,(d,l.map (λx=>Y t.2.1 (Z x) (Q zn)),iB l t.q.1,[],[],s.x.1),l,on)):=by
 have e:=zH.all (t:=eC) 1 (λi=>.h24 (i:Int) (s,()) z (a,b,c,d,(l.take i).map (λx=>Y t.2.1 (Z x) (Q zn)),BS t.q.1 l i,s.x.1,l,on,()) (t,())) (X l) (by
  intro i j;refine zH.of ?_;have v:Y l ((i:Int).toNat) (Q zk)=l[i]:=zX l _ j;have w:zL l[i] (X t.2.1)=O:=g _ (bC j);grind[BS,eC,Q8,zx,zu,aD,bF])
 rw[gE,ZV p]at e;by_cases h:LT.lt (α:=Int) (iB l t.q.1) 0
 .rw[zf h];refine⟨rN 1,_,e.ends (zU.of ?_),W,eQ 1⟩;grind[eC,Q8]
 .rw[zh h];have⟨r,m,n⟩:=zuv u z (a,b,c,d,l.map (λx=>Y t.2.1 (Z x) (Q zn)),iB l t.q.1,s.x.1,l,on,()) rfl (by simpa using o);refine⟨r,_,e.ends ((zH.of ?_).ends m),sg,n⟩;grind[eC,Q8]
theorem BM(a:Int)(b:zJ):∀(l:dK)(i:Nat),GE.ge (α:=Int) (jq a b l (i:Int)) 0↔(a,b)∈l
 | [],i=>by
  grind[jq]
 | x::r,i=>by
  rw[jq];split
  .simp_all
  next h=>have:=BM a b r (i+1);grind
theorem pN(l:dK)(x:cy):ka l x=O↔x∈l:=by unfold ka;rw[decide_eq_true_iff];exact BM x.1 x.2 l 0
def nQ(on:Int)(w:zJ)(l:dK):Bool:=l.any λf=>f.1==on&&f.2==w
theorem Ra(o:Int)(w:zJ)(l:dK):nQ o w l=ka l (o,w):=by grind[pN,nQ]
theorem BH(o:Int)(w:zJ)(l:dK)(f:cy):nQ o w (l++[f])=bif nQ o w l then O else bif f.1==o then f.2==w else S:=by grind[nQ]
theorem zyB(n:Bg s)(z:zp lc){u:al}{b c d:zJ}(o:X t.2.1<=100)(p:X u.2.1<=100):
  ∃r k,zU eC k (.h48 ((0:Nat):Int) (s,()) z (a,b,c,d,t.2.1,t.q.1,s.x.1,[],on,()) (u,())) r/\k<=10000/\
   yH r (jn 0 (a,b,c,(d,t.2.1++jv u (X u.2.1),t.q.1,[],[],s.x.1),nR u.q.1 (X u.2.1),on)):=by
 have m:=zH.all (t:=eC) 1 (λi=>.h48 (i:Int) (s,()) z (a,b,c,d,t.2.1++jv u i,t.q.1,s.x.1,nR u.q.1 i,on,()) (u,())) (X u.2.1) (by
  grind[zH.of,mB,Jf,nR,jv,eC,Q8,zx,zu,aD])
 have v:(jv u (X u.2.1)).length<=100:=by have:=mB u.q.1 (X u.2.1);unfold jv;rw[dc];omega
 have⟨r,g,j⟩:=zuw n z (a,b,c,d,t.2.1++jv u (X u.2.1),t.q.1,s.x.1,nR u.q.1 (X u.2.1),on,()) rfl sg;have l:zH eC 1 (.h48 (X u.2.1:Int) (s,()) z (a,b,c,d,t.2.1++jv u (X u.2.1),t.q.1,s.x.1,nR u.q.1 (X u.2.1),on,()) (u,())) (.h64bbb ((0:Nat):Int) (s,()) z (a,b,c,d,t.2.1++jv u (X u.2.1),t.q.1,s.x.1,nR u.q.1 (X u.2.1),on,())):=zH.of (by
  simp only[eC,Q8,zK];rfl)
 have e:t.2.1++jv u 0=t.2.1:=wo _;have h:=m.ends (l.ends g);rw[e]at h;exact⟨r,_,h,sg,j⟩
theorem zyA(A:Bg s)(z:zp lc){u:al}{b c d:zJ}{k0:Int}(B:X t.2.1<=100)(C:X u.2.1<=100)(E:X t.t.1<=1000):
  ∃r k,zU eC k (.h38 ((0:Nat):Int) (s,()) z (a,b,c,d,k0,s.x.1,on,()) (t,()) (u,())) r/\k<=20000/\
   yH r (jn (if ka t.t.1 (on,s.p)=O then(if LT.lt (α:=Int) 9 ((X t.2.1:Int)+(X u.2.1:Int))then 13 else 0)else 10) (a,b,c,(d,t.2.1++jv u (X u.2.1),t.q.1,[],[],s.x.1),nR u.q.1 (X u.2.1),on)):=by
 rw[<-Ra];by_cases l:0<X t.t.1
 .have g:zH eC 1 (.h38 ((0:Nat):Int) (s,()) z (a,b,c,d,k0,s.x.1,on,()) (t,()) (u,())) (.h38b (nQ on s.p (t.t.1.take (0+1))) ((0+1:Nat):Int) (s,()) z (a,b,c,d,k0,s.x.1,on,()) (t,()) (u,())):=zH.of (by
   have e:t.t.1.take (0+1)=[]++[t.t.1[0]]:=bF l;rw[e,BH];simp only[eC,rE,Q8,zN l,zx l,zj,zX _ _ l];rw[zu 0 um];cases((t.t.1[0]).1==on)<;>rfl)
  have n:=zH.all (t:=eC) 1 (λi=>.h38b (nQ on s.p (t.t.1.take (i+1))) ((i+1:Nat):Int) (s,()) z (a,b,c,d,k0,s.x.1,on,()) (t,()) (u,())) (X t.t.1-1) (by
   intro i j;have j:i+1<X t.t.1:=by omega
   refine zH.of ?_;rw[bF j,BH];simp only[eC,rE,Q8,zN j,zx j,zX _ _ j];rw[zu (i+1) um];simp_all)
  have y:X t.t.1-1+1=X t.t.1:=by omega
  rw[y,gE]at n;have F:Γ Δ ((X t.2.1:Int)+(X u.2.1:Int))=(X t.2.1:Int)+(X u.2.1:Int):=mT _ W W;by_cases m:nQ on s.p t.t.1=O
  .rw[zf m];by_cases o:LT.lt (α:=Int) 9 ((X t.2.1:Int)+(X u.2.1:Int))
   .rw[zf o];refine⟨rN 13,_,(g.trans n).ends (zU.of ?_),W,eQ 13⟩;grind[eC,Q8]
   .rw[zh o];have⟨r,k,v,D,w⟩:=zyB A z (a:=a) (b:=b) (c:=c) (d:=d) (on:=on) B C;refine⟨r,_,(g.trans n).ends ((zH.of ?_).ends v),W,w⟩;grind[eC,Q8]
  .rw[zh m];have m:nQ on s.p t.t.1=S:=by simpa using m
   refine⟨rN 10,_,(g.trans n).ends (zU.of ?_),W,eQ 10⟩;grind[eC,Q8]
 .have h:t.t.1=[]:=DB W;rw[h,zh (by unfold nQ;simp)];refine⟨rN 10,1,zU.of ?_,W,eQ 10⟩;simp only[eC,rE,Q8,h];rfl
theorem CD(h:k≠0):jn k p=(k,lw):=by unfold jn;rw[zh h]
theorem X3(t:al)(n:List zJ):e7 t n=(kd t n).map λx=>Y t.2.1 (Z x) (Q zn):=by unfold e7 kd;rw[qC];rfl
theorem of7{e:zS}(hB:jO e)(hw:yD s)(h6:fA s=O)(hm:lu s.1)(hb:mh e=(0:Int))(h0:∀x∈e,My x)(H:zp lc):
  ∃r k,zU eC k (.h7 e (ce s.q.1 s.p) ((0:Nat):Int) (s,()) H (s.1,s.q.1,s.p,s.2.1,0,s.x.1,0,())) r/\k<=90000/\yH r (bp e s):=by
 have⟨x7,x5,m1,m2,m3⟩:=Wm hw h6 hm;have hs:Bg s:=⟨hw.chk,λh=>by
  grind[cZ,iX]⟩
 have hP:bp e s=if qV e s.q.1 s.p s.2.1=0 then cT e s else(qV e s.q.1 s.p s.2.1,lw):=by
  unfold bp;rw[zf ⟨hm,h6,hb⟩]
 have x6:(ce s.q.1 s.p).length<=2:=by unfold ce;split<;>simp
 rw[hP];clear hP
 rcases nL (t:=eC) (Φ:=λr=>r=rN 6) 1 (λi=>.h7 e (ce s.q.1 s.p) (i:Int) (s,()) H (s.1,s.q.1,s.p,s.2.1,0,s.x.1,0,())) (λi=>∀h:i<(ce s.q.1 s.p).length,LE.le (α:=Int) 0 (ak e (ce s.q.1 s.p)[i])) (ce s.q.1 s.p).length (λi hi _=>by
  have hv:(eC (.h7 e (ce s.q.1 s.p) (i:Int) (s,()) H (s.1,s.q.1,s.p,s.2.1,0,s.x.1,0,()))).val=if LT.lt (α:=Int) (ak e (ce s.q.1 s.p)[i]) 0 then M (.inr (rN 6))else M (.inl (.h7 e (ce s.q.1 s.p) ((i+1:Nat):Int) (s,()) H (s.1,s.q.1,s.p,s.2.1,0,s.x.1,0,()))):=by
   simp only[eC,rE,Q8,zN hi,zx hi,zj,zX _ _ hi,eo];rw[zu i um];by_cases c:LT.lt (α:=Int) (ak e (ce s.q.1 s.p)[i]) 0
   .rw[zf c,zf (by simpa using c)]
   .rw[zh c,zh (by simpa using c)]
  grind[zU.of,zH.of])with⟨h1,h2⟩|⟨h1,r,h2,rfl⟩
 rotate_left
 .grind[qV,eQ]
 have hA:∀n∈ce s.q.1 s.p,LE.le (α:=Int) 0 (ak e n):=by
  intro n y;obtain⟨j,hj,rfl⟩:=fO y;exact h1 j hj hj
 have m:LE.le (α:=Int) 0 (ak e s.q.1):=hA _ (by unfold ce;split<;>simp);have hE:qV e s.q.1 s.p s.2.1=if(T (GE.ge (α:=Int) (ak e s.2.1) 0)||s.q.1==s.p)=O then 7 else if eP e (ce s.q.1 s.p)=O then 10 else 0:=by
  unfold qV;rw[zf hA]
 have x4:=hB.few;have⟨B,C⟩:=OO (db:=e) (ns:=ce s.q.1 s.p) W (λx hx=>(h0 x hx).short.rf|>λh=>by omega) W;have hT:me (au e s.q.1):=NN hB m;have t8:=hT.n8;have h8:=hw.sh.names.1;have v:(bif T (GE.ge (α:=Int) (ak e s.2.1) 0)then O else s.q.1==s.p)=(T (GE.ge (α:=Int) (ak e s.2.1) 0)||s.q.1==s.p):=by cases T (GE.ge (α:=Int) (ak e s.2.1) 0)<;>rfl
 rw[hE];by_cases w:(T (GE.ge (α:=Int) (ak e s.2.1) 0)||s.q.1==s.p)=O
 .rw[zf w,zh (by decide)];refine⟨rN 7,_,h2.ends (zU.of ?_),W,eQ 7⟩;grind[eC,Q8,eo]
 rw[zh w];have w:(T (GE.ge (α:=Int) (ak e s.2.1) 0)||s.q.1==s.p)=S:=by simpa using w
 by_cases g:eP e (ce s.q.1 s.p)=O
 .rw[zf g,zh (by decide)];refine⟨rN 10,_,h2.ends (zU.of ?_),W,eQ 10⟩;grind[eC,Q8,eo]
 rw[zh g,zf rfl];have g:eP e (ce s.q.1 s.p)=S:=by simpa using g
 have⟨G,A⟩:=ON (t:=au e s.q.1) (names:=s.r.1) W W;have G:pY (Y e (Z (ak e s.q.1)) (Q zl)).1.2.1 s.r.1=O:=G;have A:tr (Y e (Z (ak e s.q.1)) (Q zl)).1.2.1 s.r.1=(ite (gT (au e s.q.1) s.r.1=0) (kd (au e s.q.1) s.r.1) [],gT (au e s.q.1) s.r.1):=A;unfold cT;by_cases o1:(s.1==dI)=O
 .rw[zf o1];unfold vp;by_cases o:gT (au e s.q.1) s.r.1=0
  .rw[zf o];have⟨q1,q2⟩:=Jh o;have⟨r,k,P,e2,U⟩:=zyz hs H (t:=au e s.q.1) (a:=s.1) (b:=s.q.1) (c:=s.p) (d:=s.2.1) (l:=kd (au e s.q.1) s.r.1) (on:=0) (by unfold kd;rw[dc];omega) q2 (by
    intro x hx;obtain⟨n,y,rfl⟩:=bn.1 hx;exact ta (q1 n y))
   rw[X3];refine⟨r,_,h2.ends ((zH.of ?_).ends P),W,U⟩;rw[zf o,o]at A;simp only[eC,rE,Q8,zK,eo,v,w,B,C,g,ez m,o1,G,A,zj,zD,zm,ib];rfl
  .rw[zh o,CD o];refine⟨_,_,h2.ends (zU.of ?_),W,eQ _⟩;rw[zh o]at A;have E:(gT (au e s.q.1) s.r.1!=0)=O:=by simpa using o
   simp only[eC,rE,Q8,zK,eo,v,w,B,C,g,ez m,o1,G,A,E,zj,zD,zm]
 rw[zh o1];by_cases o2:(s.1==ic)=O
 .rw[zf o2];have hr:=m2 (bX o2);have h3:s.p≠[]:=by intro k;rw[k]at hr;cases hr
  have x3:eV e s.p=au e s.p:=by unfold eV;rw[zh h3]
  have F:LE.le (α:=Int) 0 (ak e s.p):=hA _ (by unfold ce;rw[zh (by simpa using h3)];simp);have u8:=(NN hB F).n8;have x2:(au e s.q.1).t.1.length<=1000:=by have:=(h0 _ (oL m)).short.rf;unfold au;omega
  have g1:fw (Y e (Z (ak e s.q.1)) (Q zl)).1.2.1 s.u.1=O:=qi (by show(au e s.q.1).2.1.length<=_;omega);have g2:gY (Y e (Z (ak e s.q.1)) (Q zl)).1.2.1 s.u.1=zZ (au e s.q.1) s.u.1:=tM (by show(au e s.q.1).2.1.length<=_;omega);rw[x3];unfold gK;by_cases h4:LT.lt (α:=Int) (zZ (au e s.q.1) s.u.1) 0
  .rw[zf h4,CD (by decide)];refine⟨rN 4,_,h2.ends (zU.of ?_),W,eQ 4⟩;simp only[eC,rE,Q8,zK,eo,v,w,B,C,g,ez m,ez F,o1,o2,g1,g2,zB h4,zj,zD,zm]
  .rw[zh h4];have⟨r,k,P,e2,U⟩:=zyA hs H (t:=au e s.q.1) (u:=au e s.p) (a:=s.1) (b:=s.q.1) (c:=s.p) (d:=s.2.1) (k0:=0) (on:=zZ (au e s.q.1) s.u.1) W W x2;refine⟨r,_,h2.ends ((zH.of ?_).ends P),W,U⟩;simp only[eC,rE,Q8,zK,eo,v,w,B,C,g,ez m,ez F,o1,o2,g1,g2,aB h4,zj,zD,zm];rfl
 rw[zh o2];have o3:(s.1==qD)=O:=by
  rcases hm with k|k|k
  .rw[k]at o1;exact zA rfl o1
  .rw[k]at o2;exact zA rfl o2
  .rw[k];rfl
 rw[zf o3];have h9:=m3 (bX o3);unfold rH;by_cases o:gT (au e s.q.1) s.r.1=0
 .rw[zf o];have⟨q1,q2⟩:=Jh o;rw[zf o,o]at A;obtain⟨n0,z,y⟩:∃n0 z,s.r.1=[n0,z]:=by
   match s.r.1,h9 with
   |[a,b],_=>exact⟨a,b,rfl⟩
  have i0:zL (zZ (au e s.q.1) n0) (X (Y e (Z (ak e s.q.1)) (Q zl)).1.2.1)=O:=ta (q1 n0 (by rw[y];simp));have i1:zL (zZ (au e s.q.1) z) (X (Y e (Z (ak e s.q.1)) (Q zl)).1.2.1)=O:=ta (q1 z (by rw[y];simp));have x0:(kd (au e s.q.1) s.r.1).getD (Z 0) (Q zk)=zZ (au e s.q.1) n0:=by rw[y];rfl
  have x1:(kd (au e s.q.1) s.r.1).getD (Z 1) (Q zk)=zZ (au e s.q.1) z:=by rw[y];rfl
  have xl:(kd (au e s.q.1) s.r.1).length=2:=by rw[y];rfl
  have b0:zL 0 2=O:=rfl;have b1:zL 1 2=O:=rfl;have y1:(e7 (au e s.q.1) s.r.1).getD 1 (Q zn)=Y (Y e (Z (ak e s.q.1)) (Q zl)).1.2.1 (Z (zZ (au e s.q.1) z)) (Q zn):=by rw[y];rfl
  have y0:(e7 (au e s.q.1) s.r.1).getD 0 (Q zn)=Y (Y e (Z (ak e s.q.1)) (Q zl)).1.2.1 (Z (zZ (au e s.q.1) n0)) (Q zn):=by rw[y];rfl
  unfold Ar;rw[y1,y0];by_cases h5:(Y (Y e (Z (ak e s.q.1)) (Q zl)).1.2.1 (Z (zZ (au e s.q.1) z)) (Q zn)).2.1=(1:Int)
  .rw[zf h5];have⟨r,P,U⟩:=zuu hs H (s.1,s.q.1,s.p,s.2.1,[((Y (Y e (Z (ak e s.q.1)) (Q zl)).1.2.1 (Z (zZ (au e s.q.1) n0)) (Q zn)).1,(Y (Y e (Z (ak e s.q.1)) (Q zl)).1.2.1 (Z (zZ (au e s.q.1) n0)) (Q zn)).2.1,O),((Y (Y e (Z (ak e s.q.1)) (Q zl)).1.2.1 (Z (zZ (au e s.q.1) z)) (Q zn)).1,(Y (Y e (Z (ak e s.q.1)) (Q zl)).1.2.1 (Z (zZ (au e s.q.1) z)) (Q zn)).2.1,S)],0,s.x.1,kd (au e s.q.1) s.r.1,0,()) rfl sw;have D:((Y (Y e (Z (ak e s.q.1)) (Q zl)).1.2.1 (Z (zZ (au e s.q.1) z)) (Q zn)).2.1!=1)=S:=by rw[h5];rfl
   refine⟨r,_,h2.ends ((zH.of ?_).ends P),sg,U⟩;simp only[eC,rE,Q8,zK,eo,v,w,B,C,g,ez m,o1,o2,o3,G,A,x0,x1,xl,b0,b1,i0,i1,D,zj,zD,zm,ib];rfl
  .rw[zh h5,CD (by decide)];have D:((Y (Y e (Z (ak e s.q.1)) (Q zl)).1.2.1 (Z (zZ (au e s.q.1) z)) (Q zn)).2.1!=1)=O:=by simpa using h5
   refine⟨rN 5,_,h2.ends (zU.of ?_),W,eQ 5⟩;simp only[eC,rE,Q8,zK,eo,v,w,B,C,g,ez m,o1,o2,o3,G,A,x0,x1,xl,b0,b1,i0,i1,D,zj,zD,zm,ib]
 .rw[zh o,CD o];refine⟨_,_,h2.ends (zU.of ?_),W,eQ _⟩;rw[zh o]at A;have E:(gT (au e s.q.1) s.r.1!=0)=O:=by simpa using o
  simp only[eC,rE,Q8,zK,eo,v,w,B,C,g,ez m,o1,o2,o3,G,A,E,zj,zD,zm]
theorem zaW(a:∀x∈l,My x)(i:yD s):FD l s=M ((bp l s).2,(bp l s).1,()):=by
 have d:∀x∈l,ij x:=λx A=>(a x A).short
 have⟨e,j,n⟩:=Lu a;have G:F0 l=O:=by unfold F0;rw[j];rfl
 have H:Lt l=e:=by unfold Lt;rw[j];rfl
 have B:(V1 l s).val=M (.inr (rN 1))->bp l s=(1,lw)->FD l s=M ((bp l s).2,(bp l s).1,()):=by
  intro h v;rw[v];exact zQ h (eQ 1)
 have F:∀p:aA,kL p=O/\mD p=ce p.2.1 p.q.1:=λp=>⟨uQ p,xr p⟩
 by_cases c:lu s.1
 .have⟨t,h⟩:=R0 i c;have C:jA s=O:=by unfold jA;rw[h];rfl
  have D:mI s=(t,fA s):=by unfold mI;rw[h];rfl
  have z:(cond (!s.1==dI) (cond (!s.1==ic) (!s.1==qD) S) S)=S:=by
   rcases c with k|k|k<;>rw[k]<;>rfl
  by_cases g:fA s=O
  .by_cases y:e=0
   .have m:=n.1 y;have w:=(jQ d).2 m;have⟨r,k,o,E,u⟩:=of7 m i g c w a ([],[],[],[],0,[],0,0,[],[],0,());refine zz ?_ o W u;grind[V1,Q8,zo]
   grind[V1,Q8,zo,bp,jQ]
  grind[V1,Q8,zo,bp]
 .have⟨t,b,h⟩:=RZ i;have C:jA s=O:=by unfold jA;rw[h];rfl
  have D:mI s=(t,b):=by unfold mI;rw[h];rfl
  grind[V1,Q8,zo,bp]
theorem eL{α:Type}(p:α->Bool):∀(l:List α)(i:Nat),(ah p l i=-1/\∀x∈l,p x=S)\/∃(k:Nat)(h:k<X l),ah p l i=((i+k:Nat):Int)/\p l[k]=O/\∀x∈l.take k,p x=S
 |[],_=>.inl ⟨rfl,sw⟩
 | x::r,i=>by
  unfold ah;split
  next h=>exact .inr ⟨0,sw,rfl,h,sw⟩
  .rename_i h;have d:p x=S:=by simpa using h
   rcases eL p r (i+1)with⟨b,c⟩|⟨k,g,b,c,e⟩
   .refine .inl ⟨b,λy a=>?_⟩;rcases bZ.1 a with rfl|a
    .exact d
    .exact c y a
   .refine .inr ⟨k+1,by simpa using g,by rw[b];congr 1;omega,by simpa using c,λy a=>?_⟩;rw[List.take_succ_cons]at a;rcases bZ.1 a with rfl|a
    .exact d
    .exact e y a
theorem Rb(h:ak l a=(i:Int))(c:l.getD i (Q zl)=x):x.1.1=a:=by
 rcases eL (λy:ae=>y.1.1==a) l 0 with⟨q,_⟩|⟨k,d,e,g,_⟩
 .exfalso;have b:ah (λy:ae=>y.1.1==a) l 0=(i:Int):=h;rw[q]at b;omega
 .have b:ah (λy:ae=>y.1.1==a) l 0=(i:Int):=h;rw[e]at b;obtain rfl:k=i:=by omega
  rw[bz,af d,bI]at c;subst c;simpa using g
def Qv(p:zJ->Bool)(t:al):al:=(t.1,t.2.1,t.q.1,t.r.1,t.t.1.filter (λf:cy=>p f.2),t.u)
def jS(p:zJ->Bool)(x:ae):ae:=(Qv p x.1,x.2)
variable {b:zJ->Bool}
theorem TE(h:dM t=O):dM (Qv b t)=O:=by have h:=(jE t).1 h;exact(jE _).2 ⟨h.name,h.n1,h.n8,h.cols,h.uniq,λf x=>h.refs f (List.mem_filter.1 x).1,h.key,h.nn,h.chk⟩
theorem IU{t:al}{b:zJ->Bool}{g:zr}:∀(r:zr)(i:Int),ft (Qv b t) g r i=ft t g r i
 |[],_=>by rw[ft,ft];rfl
 |x::r,i=>by rw[ft,ft,IU r];rfl
theorem NO{t:al}{b:zJ->Bool}{g:zr}:∀(r:zr)(i:Int),ie (Qv b t) g r i=ie t g r i
 |[],_=>by rw[ie,ie,IU]
 |x::r,i=>by rw[ie,ie,NO r]
theorem Y5(h:dM t=O)(r:zr):dj (Qv b t) r=dj t r:=by unfold dj;rw[h,TE h,NO];rfl
theorem ef.cut(h:ef x):ef (jS b x) where
 may:=TE h.may
 few:=h.few
 fits:=λr a=>by
  show dj (Qv b x.1) r=0;rw[Y5 h.may];exact h.fits r a
 key:=h.key
 uniq:=h.uniq
 rise:=h.rise
theorem Z6(d:jO l){y:ae}(e:x∈l)(k:y∈l)(h:x.1.1=y.1.1):x=y:=by
 have a:l.Pairwise λx y:ae=>Op.bytesLess x.1.1 y.1.1=O:=(xU (R:=λx y:ae=>Op.bytesLess x.1.1 y.1.1=O) iG).1 d.names
 obtain⟨i,b,rfl⟩:=fO e;obtain⟨j,c,rfl⟩:=fO k;rcases Nat.lt_trichotomy i j with g|g|g
 .have:=List.pairwise_iff_getElem.1 a i j b c g;rw[h,cC]at this;cases this
 .subst g;rfl
 .have:=List.pairwise_iff_getElem.1 a j i c b g;rw[h,cC]at this;cases this
theorem kg(h:LE.le (α:=Int) 0 (ak l a)):aQ l a∈l/\(aQ l a).1.1=a:=
 ⟨oL h,Rb (i:=Z (ak l a)) (Int.toNat_of_nonneg h).symm rfl⟩
theorem jO.src{p:zJ->Bool}(a:jO l)(q:X d<=12)(s:d.Pairwise λx y:ae=>Op.bytesLess x.1.1 y.1.1=O)(h:∀y∈d,∃x∈l,y=jS p x)(u:∀n,p n=O->LE.le (α:=Int) 0 (ak d n)):jO d where
 few:=q
 names:=(xU (R:=λx y:ae=>Op.bytesLess x.1.1 y.1.1=O) iG).2 s
 rels:=λy i=>by
  obtain⟨x,g,rfl⟩:=h y i;exact(a.rels x g).cut
 bound:=λy i f v=>by
  obtain⟨x,g,rfl⟩:=h y i;have⟨b,c⟩:=List.mem_filter.1 v;have m:=u f.2 c;refine⟨m,λk w A=>?_⟩;have⟨C,D⟩:=a.bound x g f b;have E:=D k w A;have⟨F,o⟩:=kg m;have⟨z,B,e⟩:=h _ F;have⟨G,H⟩:=kg C;have j:z=aQ l f.2:=Z6 a B G (by rw[H];rw[e]at o;exact o);rw[e,j];exact E
structure jI (ns:List zJ) (t t':al):Prop where
 cols:t'.2.1=t.2.1
 key:t'.q.1=t.q.1
 refs:∀f:cy,f.2∈ns->(f∈t'.t.1↔f∈t.t.1)
section
variable {ns:List zJ} {t t':J ab}
theorem jI.place(h:jI ns t t'):zZ t'=zZ t:=funext λn=>by unfold zZ;rw[h.cols]
theorem jI.plc(h:jI ns t t')(l:List zJ):gT t' l=gT t l:=by unfold gT;rw[h.place]
theorem jI.ix(h:jI ns t t')(l:List zJ):kd t' l=kd t l:=by unfold kd;rw[h.place]
theorem jI.cs(h:jI ns t t')(l:List zJ):e7 t' l=e7 t l:=by unfold e7;rw[h.place,h.cols]
theorem jI.cpy(h:jI ns t t')(l:List zJ):vp t' l=vp t l:=by unfold vp;rw[h.plc,h.ix,h.key]
theorem jI.grp(h:jI ns t t')(l:List zJ):rH t' l=rH t l/\Ar t' l=Ar t l:=by unfold rH Ar;rw[h.plc,h.cs];exact⟨rfl,rfl⟩
theorem jI.join(h:jI ns t t'){x u:al}(b:jI ns x u){a w:zJ}(c:w∈ns):gK t' u a w=gK t x a w:=by
 have:ka t'.t.1 (zZ t a,w)=ka t.t.1 (zZ t a,w):=by
  rw[oA,pN,pN];exact h.refs (zZ t a,w) c
 unfold gK;rw[h.place,this,h.cols,b.cols]
theorem jI.oth(h:jI ns t t')(n:Nat):jv t' n=jv t n:=by unfold jv;rw[h.key,h.cols]
end
abbrev cR(s:zO):zJ:=s.p
theorem Tj(a:x∈l):LE.le (α:=Int) 0 (ak l x.1.1):=by
 rcases eL (λy:ae=>y.1.1==x.1.1) l 0 with⟨_,h⟩|⟨k,_,h,_⟩
 .have:=h x a;simp at this
 .have h:ak l x.1.1=((0+k:Nat):Int):=h;rw[h];exact Int.natCast_nonneg _
theorem zaP(k:(bp l s).1=0)(E:mh d=(0:Int))(v:∀n∈ce s.q.1 (cR s),LE.le (α:=Int) 0 (ak d n)/\jI (ce s.q.1 (cR s)) (au l n) (au d n))
  (b:∀x∈d,x.1.1∈ce s.q.1 (cR s)/\∃y∈l,(y:ae).1.1=x.1.1) (G:s.1=ic->cR s≠[]):bp d s=bp l s/\bp l s=cT l s:=by
 unfold bp at k;split at k
 case isFalse=>cases k
 rename_i w;split at k
 case isFalse h=>exact zA k h
 rename_i j;have c:bp l s=cT l s:=by unfold bp;rw[zf w,zf j]
 refine⟨?_,c⟩;rw[c];have m:qV d s.q.1 (cR s) s.2.1=0:=by
  unfold qV at j|-;split at j
  case isFalse=>cases j
  rw[zf λn F=>(v n F).1];split at j
  case isTrue=>cases j
  rename_i C;have D:¬(T (GE.ge (α:=Int) (ak d s.2.1) 0)||s.q.1==cR s)=O:=by
   intro g;apply C;rcases(oB _ _).mp g with g|g
   .have p:LE.le (α:=Int) 0 (ak d s.2.1):=lp g;have⟨U,m2⟩:=kg p;have⟨_,y,P,e⟩:=b _ U;have:=Tj P;rw[e,m2]at this;rw[oB];exact .inl (zB this)
   .rw[oB];exact .inr g
  rw[zh D,zh];unfold eP;intro g;have⟨x,H,p⟩:=List.any_eq_true.1 g;rw[(mw _ _).2 (b x H).1]at p;simp at p
 have i:s.q.1∈ce s.q.1 (cR s):=by unfold ce;split<;>simp
 have a:=(v _ i).2;unfold bp;rw[zf ⟨w.1,w.2.1,E⟩,zf m];unfold cT;by_cases o1:(s.1==dI)=O
 .rw[zf o1,zf o1,a.cpy,a.cs,a.ix,a.key]
 rw[zh o1,zh o1];by_cases o2:(s.1==ic)=O
 .have z:=G (bX o2);have o:cR s∈ce s.q.1 (cR s):=by
   unfold ce;rw[zh (by simpa using z)];simp
  have u:=(v _ o).2;have A:eV d (cR s)=au d (cR s):=by unfold eV;rw[zh z]
  have B:eV l (cR s)=au l (cR s):=by unfold eV;rw[zh z]
  rw[zf o2,zf o2,A,B,a.join u o,a.cols,a.key,a.place,u.cols,u.key,u.oth]
 rw[zh o2,zh o2,(a.grp _).1,(a.grp _).2,a.ix]
theorem J2{g c b:Bool}(h:(g&&(cond c b S))=O):b=O:=by cases g<;>cases c<;>simp_all
theorem ze3(h:iv s=O)(sh:nN s)(ho:lu s.1):
  s.t.1=[]/\s.v.1=[]/\s.w.1=[]/\s.y.1=[]/\s.z.1=[]/\s.s.1=gw/\(ite (s.1=ic) (s.r.1=[]) (s.u.1=[]/\cR s=[])):=by
 have⟨o,C,D,E,F,G,H,P,U,a,c,d,e⟩:=s;have n4:=sh.names.1;have n5:=sh.cols.1;have n7:=sh.uniques.1;have n8:=sh.refs.1;have A:=sh.row;have B:=sh.sets.1;simp only at n4 n5 n7 n8 A B;rcases ho with rfl|rfl|rfl
 .have⟨_,i⟩:=fz (s:=(dI,C,D,E,F,G,H,P,U,a,c,d,e)) (g:=_) (b:=_) rfl;rw[i]at h;have h:=J2 h;have⟨_,_,p,q,_,j,l,m,n,k,_,x⟩:=(ki sw sg sg sg sg sg).1 h;exact⟨j,l,m,n,k,(zg.eta _).symm.trans x,by rw[zh (λh=>by simp at h)];exact⟨p,q⟩⟩
 .have⟨_,i⟩:=fz (s:=(ic,C,D,E,F,G,H,P,U,a,c,d,e)) (g:=_) (b:=_) rfl;rw[i]at h;have h:=J2 h;have⟨_,_,p,q,k5,j,l,m,n,k,_,x⟩:=(ki sg sg sg sg sg sg).1 h;exact⟨j,l,m,n,k,(zg.eta _).symm.trans x,by rw[zf rfl];exact k5⟩
 .have⟨_,i⟩:=fz (s:=(qD,C,D,E,F,G,H,P,U,a,c,d,e)) (g:=_) (b:=_) rfl;rw[i]at h;have h:=J2 h;have⟨_,_,p,q,_,j,l,m,n,k,_,x⟩:=(ki sw sg sg sg sg sg).1 h;exact⟨j,l,m,n,k,(zg.eta _).symm.trans x,by rw[zh (λh=>by simp at h)];exact⟨p,q⟩⟩
theorem iS(h:¬LT.lt (α:=Int) (zZ t a) 0):(Y t.2.1 (Z (zZ t a)) (Q zn)).1=a/\LT.lt (α:=Int) (zZ t a) (X t.2.1):=by
 have e:zZ t a=ah (λc:cH=>c.1==a) t.2.1 0:=rfl;rcases eL (λc:cH=>c.1==a) t.2.1 0 with⟨x,_⟩|⟨k,b,x,d,_⟩
 .rw[e,x]at h;exact zA (by decide:(-1:Int)<0) h
 .rw[e,x,eI];refine⟨?_,Int.ofNat_lt.2 b⟩;rw[dq _ _ b];exact bX d
def jN(p:aA)(s:zS):zO:=
 (p.1,p.r.1.1,p.2.1,if p.1=ic then[]else p.r.1.2.1.map λc:cH=>c.1,[],
  if p.1=ic then(if LE.le (α:=Int) 0 p.u/\LT.lt (α:=Int) p.u (X (s.getD 0 (Q zl)).1.2.1)then(Y (s.getD 0 (Q zl)).1.2.1 (Z p.u) (Q zn)).1 else[])else[],
  [],[],p.r.1.u,[],[],gw,p.q.1)
theorem rT(h:gT t n=0):∀s∈n,¬LT.lt (α:=Int) (zZ t s) 0:=by
 unfold gT at h;split at h
 .assumption
 .cases h
theorem BA{t:al}:∀{l:List zJ},(∀s∈l,¬LT.lt (α:=Int) (zZ t s) 0)->(e7 t l).map (λc:cH=>c.1)=l
 |[],_=>rfl
 | s::r,h=>by
  show(Y t.2.1 (Z (zZ t s)) (Q zn)).1::(e7 t r).map (λc:cH=>c.1)=s::r;rw[(iS (h s sw)).1,BA λx a=>h x (by simp[a])]
theorem jo(h:(jn k p).1=0):k=0/\jn k p=(0,p):=by
 unfold jn at h|-;split at h
 .rename_i x;split at h
  next a=>rw[zf x,zf a];exact⟨x,rfl⟩
  next a=>exact zA h a
 next x=>exact zA h x
theorem WQ(x:(cT l s).1=0)(v:lu s.1)(w:iv s=O)(sh:nN s)(p:(d.getD 0 (Q zl)).1.2.1=(au l s.q.1).2.1):jN (cT l s).2 d=s:=by
 have⟨y,z,A,B,C,D,n⟩:=ze3 w sh v;have⟨o,s2,i,s4,s5,s6,s7,s8,s9,P,U,h0,k⟩:=s;simp only at y z A B C D n p;subst y z A B C D;rcases v with rfl|rfl|rfl
 .rw[zh (λh=>by simp at h)]at n;obtain⟨rfl,g⟩:=n;have g:k=[]:=g;subst g;unfold cT at x|-
  dsimp only at x|-
  rw[zf (show((dI:zJ)==dI)=O from rfl)]at x|-;have⟨c,j⟩:=jo x;rw[j];have e:=rT (by
   unfold vp at c;split at c
   .assumption
   next m=>exact zA c m)
  unfold jN;simp only;rw[zh (λh=>by simp at h),zh (λh=>by simp at h),BA e]
 .rw[zf rfl]at n;subst n;unfold cT at x|-
  dsimp only at x|-
  rw[zh (show¬((ic:zJ)==dI)=O by decide),zf (show((ic:zJ)==ic)=O from rfl)]at x|-;have⟨c,j⟩:=jo x;rw[j];have e:¬LT.lt (α:=Int) (zZ (au l i) s6) 0:=by
   intro h;unfold gK at c;rw[zf h]at c;cases c
  have⟨G,H⟩:=iS e;unfold jN;simp only;rw[zf trivial,zf trivial,p,zf ⟨Int.not_lt.1 e,H⟩,G]
 .rw[zh (λh=>by simp at h)]at n;obtain⟨rfl,g⟩:=n;have g:k=[]:=g;subst g;have u:=kG w rfl;simp only at u;unfold cT at x|-
  dsimp only at x|-
  rw[zh (show¬((qD:zJ)==dI)=O by decide),zh (show¬((qD:zJ)==ic)=O by decide),zf (show((qD:zJ)==qD)=O from rfl)]at x|-;have⟨c,j⟩:=jo x;rw[j];have e:=rT (by
   unfold rH at c;split at c
   .assumption
   next m=>exact zA c m)
  match s4,u,e with
  |[a,b],_,e=>
  unfold jN;simp only;rw[zh (λh=>by simp at h),zh (λh=>by simp at h)];have E:=(iS (e a sw)).1;have F:=(iS (e b sw)).1;show(qD,s2,i,[(Y (au l i).2.1 (Z (zZ (au l i) a)) (Q zn)).1,(Y (au l i).2.1 (Z (zZ (au l i) b)) (Q zn)).1],_)=_;rw[E,F]
def zT(db:zS)(p:aA):zS:=(ce p.2.1 p.q.1).map λn=>jS (aL (ce p.2.1 p.q.1)) (aQ db n)
theorem Jd:x∈gO l↔x∈l:=by
 match l with
 |[]=>rfl
 |[_]=>rfl
 | [a,b]=>
  rw[tY];split
  .simp[or_comm]
  .exact Iff.rfl
 |_::_::_::_=>rfl
theorem I7(l:zS):(gO l).length=X l:=by
 match l with
 |[]=>rfl
 |[_]=>rfl
 |[a,b]=>rw[tY];split<;>rfl
 |_::_::_::_=>rfl
theorem DI(x:(cT l s).1=0):(cT l s).2.1=s.1/\(cT l s).q.1=s.q.1/\(cT l s).r.1=cR s:=by
 unfold cT at x|-;split at x
 next h=>rw[zf h,(jo x).2];exact⟨rfl,rfl,rfl⟩
 .rename_i h;split at x
  next a=>rw[zh h,zf a,(jo x).2];exact⟨rfl,rfl,rfl⟩
  .rename_i a;split at x
   next b=>rw[zh h,zh a,zf b,(jo x).2];exact⟨rfl,rfl,rfl⟩
   .cases x
theorem I2(h:iv s=O)(a:s.1=ic):cR s≠[]:=by have⟨o,j,k,u,v,l,w,y,z,d,e,i,x⟩:=s;have a:o=ic:=a;subst a;have⟨_,q⟩:=fz (s:=(ic,j,k,u,v,l,w,y,z,d,e,i,x)) (g:=_) (b:=_) rfl;rw[q]at h;intro c;have c:x=[]:=c;subst c;rw[show dH []=S from rfl]at h;cases m:dH j<;>cases n:dH k<;>cases p:dH l<;>simp[m,n,p]at h
theorem K0(a:(bp l s).1=0):lu s.1/\fA s=O/\mh l=(0:Int)/\(∀n∈ce s.q.1 (cR s),LE.le (α:=Int) 0 (ak l n))/\s.q.1≠cR s/\bp l s=cT l s:=by
 unfold bp at a;split at a
 case isFalse=>cases a
 rename_i b;split at a
 case isFalse h=>exact zA a h
 rename_i x;refine⟨b.1,b.2.1,b.q,?_,?_,by unfold bp;rw[zf b,zf x]⟩
 .unfold qV at x;split at x
  .assumption
  .cases x
 .unfold qV at x;split at x
  case isFalse=>cases x
  split at x
  case isTrue=>cases x
  rename_i c;intro e;apply c;have e:s.q.1=s.p:=e;rw[<-e];simp
theorem WP(z:∀x∈l,ij x)(hp:(bp l s).1=0)(sh:nN s):
  bp (gO (zT l (bp l s).2)) (jN (bp l s).2 (zT l (bp l s).2))=(0,(bp l s).2)/\(zT l (bp l s).2).map (λx:ae=>x.1.1)=ce (bp l s).q.1 (bp l s).r.1/\(gO (zT l (bp l s).2)).Pairwise (λx y:ae=>Op.bytesLess x.1.1 y.1.1=O)/\jN (bp l s).2 (zT l (bp l s).2)=s/\(∀x∈gO (zT l (bp l s).2),ij x)/\two (zT l (bp l s).2)=O:=by
 have⟨hm,C,hb,B,D,o⟩:=K0 hp;have hB:=(jQ z).1 hb;have i:=kO C;have E:(cT l s).1=0:=by rw[<-o];exact hp
 have⟨f1,f2,f3⟩:=DI E;have F:bp l s=(0,(bp l s).2):=by rw[<-hp]
 rw[o]at F|-;generalize v:ce (cT l s).q.1 (cT l s).r.1=ns;have b:ce s.q.1 (cR s)=ns:=by rw[<-v,f2,f3]
 rw[b]at B;have P:zT l (cT l s).2=ns.map λn=>jS (aL ns) (aQ l n):=by unfold zT;rw[v]
 rw[P];have a:∀n∈ns,(aQ l n).1.1=n:=λn c=>(kg (B n c)).2
 have d:∀x∈gO (ns.map λn=>jS (aL ns) (aQ l n)),∃n∈ns,x=jS (aL ns) (aQ l n):=λx hx=>by
  obtain⟨n,c,rfl⟩:=bn.1 (Jd.1 hx);exact⟨n,c,rfl⟩
 have j:∀n∈ns,jS (aL ns) (aQ l n)∈gO (ns.map λn=>jS (aL ns) (aQ l n)):=λn c=>Jd.2 (bn.2 ⟨n,c,rfl⟩)
 have h5:X ns<=2:=by rw[<-v];unfold ce;split<;>simp
 have w:(gO (ns.map λn=>jS (aL ns) (aQ l n))).Pairwise λx y:ae=>Op.bytesLess x.1.1 y.1.1=O:=by
  by_cases G:(cR s==[])=O
  .have e:ns=[s.q.1]:=by rw[<-b];unfold ce;rw[zf G]
   rw[e];simp[gO]
  .have e:ns=[s.q.1,cR s]:=by rw[<-b];unfold ce;rw[zh G]
   have n1:=a s.q.1 (by rw[e];simp);have n2:=a (cR s) (by rw[e];simp);rw[e];show(gO [jS _ (aQ l s.q.1),jS _ (aQ l (cR s))]).Pairwise _;rw[tY];split
   next h=>simp only[List.pairwise_cons,fh,forall_eq,List.not_mem_nil,false_implies,implies_true,List.Pairwise.nil,and_true];exact h
   next h=>simp only[List.pairwise_cons,fh,forall_eq,List.not_mem_nil,false_implies,implies_true,List.Pairwise.nil,and_true];refine kZ (by simpa using h) ?_;show(aQ l (cR s)).1.1≠(aQ l s.q.1).1.1;rw[n1,n2];exact λe=>D e.symm
 generalize A:gO (ns.map λn=>jS (aL ns) (aQ l n))=k at d j w;have g:∀n∈ns,LE.le (α:=Int) 0 (ak k n):=λn c=>by
  have:=Tj (j n c)
  rwa [show(jS (aL ns) (aQ l n)).1.1=n from a n c]at this
 have h3:jO k:=hB.src (p:=aL ns) (by rw[<-A,I7,dc];omega) w (λy hy=>by
  obtain⟨n,c,rfl⟩:=d y hy;exact⟨_,(kg (B n c)).1,rfl⟩) (λn c=>g n ((mw _ _).1 c))
 have H:∀x∈k,ij x:=λx hx=>by
  obtain⟨n,c,rfl⟩:=d x hx;have:=z _ (kg (B n c)).1;exact⟨this.uq,bc (List.length_filter_le _ _) this.rf,this.rw⟩
 have U:∀n∈ns,au k n=Qv (aL ns) (au l n):=λn c=>by
  have⟨h1,h2⟩:=kg (g n c);have⟨m,hm,e⟩:=d _ h1;have:m=n:=by
   rw[e]at h2;rw[<-a m hm];exact h2
  subst this;show(aQ k m).1=_;rw[e];rfl
 have u:jN (cT l s).2 (ns.map λn=>jS (aL ns) (aQ l n))=s:=by
  refine WQ E hm i sh ?_;have:∃r,ns=s.q.1::r:=by rw[<-b];unfold ce;split<;>exact⟨_,rfl⟩
  have⟨r,e⟩:=this;rw[e];rfl
 have h0:two (ns.map λn=>jS (aL ns) (aQ l n))=O:=by
  by_cases G:(cR s==[])=O
  .have e:ns=[s.q.1]:=by rw[<-b];unfold ce;rw[zf G]
   rw[e];rfl
  .have e:ns=[s.q.1,cR s]:=by rw[<-b];unfold ce;rw[zh G]
   have n1:=a s.q.1 (by rw[e];simp);have n2:=a (cR s) (by rw[e];simp);rw[e];show(!((aQ l s.q.1).1.1:zJ)==(aQ l (cR s)).1.1)=O;rw[n1,n2];simpa using D
 refine⟨?_,?_,w,u,H,h0⟩
 .rw[u];refine(zaP hp ((jQ H).2 h3) (λn c=>?_) (λx hx=>?_) (λho=>I2 i ho)).1.trans (by rw[o];exact F)
  .rw[b]at c|-;refine⟨g n c,?_⟩;rw[U n c];refine⟨rfl,rfl,λf h4=>?_⟩;show f∈(au l n).t.1.filter (λf:cy=>aL ns f.2)↔_;rw[List.mem_filter,(mw _ _).2 h4];simp
  .rw[b];obtain⟨n,c,rfl⟩:=d x hx;have⟨h1,h2⟩:=kg (B n c);exact⟨by show(aQ l n).1.1∈ns;rw[h2];exact c,_,h1,rfl⟩
 .rw[qC]
  conv=>rhs;rw[<-List.map_id ns]
  exact List.map_congr_left λn c=>a n c
def dV(p:aA)(s:zS):Int:=if p.1=dI then(Y s 0 (Q zl)).1.q.1 else if p.1=ic then p.u else Y p.t.1 0 (Q zk)
theorem WY(b:0<X l)(c:p.1≠dI->p.1≠ic->0<X p.t.1):yx p l=M (dV p l,()):=by
 have d:zL 0 (X l)=O:=zx (i:=0) b;unfold dV;by_cases h:p.1=dI
 .rw[zf h];have e:(p.1==dI)=O:=by simp[h]
  refine zQ (r:=(L (Y l 0 (Q zl)).1.q.1,[])) ?_ rfl;simp only[zeG,Q8,e,d,zj];rfl
 .rw[zh h];have e:(p.1==dI)=S:=by simpa using h
  by_cases x:p.1=ic
  .rw[zf x];have a:(p.1==ic)=O:=by simp[x]
   refine zQ (r:=(L p.u,[])) ?_ rfl;simp only[zeG,Q8,e,a,zj,zD,zm]
  .rw[zh x];have a:(p.1==ic)=S:=by simpa using x
   have g:zL 0 (X p.t.1)=O:=zx (i:=0) (c h x);refine zQ (r:=(L (Y p.t.1 0 (Q zk)),[])) ?_ rfl;simp only[zeG,Q8,e,a,g,zj,zD,zm];rfl
def s59(p:aA)(n i:Int):List zJ->MN
 |[]=>.h7 p.r.1.2.1 n i [] [] [] [] [] 0 0 [] [] [] 0 0 [] [] [] p.1 p.r.1.1 p.2.1 [] (zg.op p.r.1.u) (zg.v p.r.1.u).1 (zg.v p.r.1.u).2.1 (zg.v p.r.1.u).q (zg.s p.r.1.u) (zg.l p.r.1.u) [] 0 0 [] [] p.q.1
 |a::r=>.h7b p.r.1.2.1 n i [] [] [] [] [] 0 0 [] [] [] 0 0 [] [] [] p.1 p.r.1.1 p.2.1 [] (zg.op p.r.1.u) (zg.v p.r.1.u).1 (zg.v p.r.1.u).2.1 (zg.v p.r.1.u).q (zg.s p.r.1.u) (zg.l p.r.1.u) [] 0 0 [] [] p.q.1 (a::r)
theorem zfF(h:List zJ)(x:i<X p.r.1.2.1)(b:X h<=1000)(c:i<=1000):(Cm (s59 p (X p.r.1.2.1:Int) (i:Int) h)).val=M (.inl (s59 p (X p.r.1.2.1:Int) ((i+1:Nat):Int) (h++[(Y p.r.1.2.1 i (Q zn)).1]))):=by
 cases h with
 | nil=>
  show(Cm (.h7 _ _ _ _ _ _ _ _ _ _ _ _ _ _ _ _ _ _ _ _ _ _ _ _ _ _ _ _ _ _ _ _ _ _)).val=_;simp only[Cm,Q8,zN x,zx x,zj,aH];rw[zf sw,zu i um];rfl
 | cons a r=>
  show(Cm (.h7b _ _ _ _ _ _ _ _ _ _ _ _ _ _ _ _ _ _ _ _ _ _ _ _ _ _ _ _ _ _ _ _ _ _ _)).val=_;simp only[Cm,Q8,zN x,zx x,zj,aH];rw[zf (by simp at b|-;omega),zu i um];rfl
theorem zaJ(C:0<X l)(G:X p.r.1.2.1<=1000):KX p l=M (jN p l,()):=by
 have b:zL 0 (X l)=O:=zx (i:=0) C;by_cases x:p.1=ic
 .have e:(p.1==ic)=O:=by simp[x]
  unfold jN;rw[zf x,zf x];by_cases h:LE.le (α:=Int) 0 p.u/\LT.lt (α:=Int) p.u (X (Y l 0 (Q zl)).1.2.1)
  .rw[zf h];have w:T (GE.ge (α:=Int) p.u 0)=O:=zB h.1;have y:T (LT.lt (α:=Int) p.u (X (Y l 0 (Q zl)).1.2.1))=O:=zB h.2;have z:zL p.u (X (Y l 0 (Q zl)).1.2.1)=O:=by
    unfold zL;rw[aN];exact⟨zB h.1,zB (by have:=h.1;have:=h.2;omega)⟩
   have s:(zeN p l).val=M (.inr (aS p.1 p.r.1.1 p.2.1 nils nils ((Y (Y l 0 (Q zl)).1.2.1 (Z p.u) (Q zn)).1) nils nils (xE p.r.1.u) nils nils zE p.q.1,[])):=by
    show(br _ (chk _ (br _ (chk _ (chk _ (re _ _))) (re _ _))) (Tr.to _)).val=_;have j:T (p.u>=0)=O:=w;simp only[Q8,e,j,b,aI,zj];have k:T (p.u<(↑(X (Y l (Z 0) (Q zl)).1.2.1):Int))=O:=y;have m:zL p.u (X (Y l (Z 0) (Q zl)).1.2.1)=O:=z;rw[zf k,zf m];rfl
   refine zQ s ?_;rw[<-zo p.r.1.u];rfl
  .rw[zh h];have s:(zeN p l).val=Q1 (.inr (aS p.1 p.r.1.1 p.2.1 nils nils [] nils nils (xE p.r.1.u) nils nils zE p.q.1,[])):=by
    have A:(cond (T (p.u>=0)) (T (p.u<(↑(X (Y l (Z 0) (Q zl)).1.2.1):Int))) S)=S:=by
     by_cases g:LE.le (α:=Int) 0 p.u
     .have v:¬LT.lt (α:=Int) p.u (X (Y l 0 (Q zl)).1.2.1):=λc=>h ⟨g,c⟩
      rw[show T (p.u>=0)=O from zB g,aI];exact aB v
     .rw[show T (p.u>=0)=S from aB g,aJ]
    have B:(cond (T (p.u>=0)) (zL 0 (X l)) O)=O:=by rw[b];cases T (p.u>=0)<;>rfl
    show(br _ (chk _ (br _ (chk _ (chk _ (re _ _))) (re _ _))) (Tr.to _)).val=_;simp only[Q8,e,zj];rw[zf B];simp only[A,zD,zm]
   refine zQ s ?_;rw[<-zo p.r.1.u];rfl
 .have e:(p.1==ic)=S:=by simpa using x
  have D:(zeN p l).val=M (.inl (s59 p (X p.r.1.2.1:Int) ((0:Nat):Int) [])):=by
   show(br _ (chk _ (br _ (chk _ (chk _ (re _ _))) (re _ _))) (Tr.to _)).val=_;simp only[Q8,e,zD,zm];rfl
  have o:=zH.all (t:=Cm) 1 (λi=>s59 p (X p.r.1.2.1:Int) (i:Int) ((p.r.1.2.1.take i).map λc:cH=>c.1)) (X p.r.1.2.1) λi b=>zH.of (by
   rw[zfF _ b sg W];congr 3;rw[bF b,gh,bz,af b];rfl)
  simp only[List.take_zero,rm,gE]at o;unfold jN;rw[zh x,zh x];generalize H:(p.r.1.2.1.map λc:cH=>c.1)=n at o;have d:∃r,zU Cm 1 (s59 p (X p.r.1.2.1:Int) (X p.r.1.2.1:Int) n) r/\aZ r.2 [ay] r.1=M ((p.1,p.r.1.1,p.2.1,n,[],[],[],[],p.r.1.u,[],[],gw,p.q.1),()):=by
   cases n with
   | nil=>
    refine⟨_,zU.of (by
     show(Cm (.h7 _ _ _ _ _ _ _ _ _ _ _ _ _ _ _ _ _ _ _ _ _ _ _ _ _ _ _ _ _ _ _ _ _ _)).val=_;simp only[Cm,Q8,zK,zD,zm];rfl),?_⟩
    rw[<-zo p.r.1.u];rfl
   | cons a r=>
    refine⟨_,zU.of (by
     show(Cm (.h7b _ _ _ _ _ _ _ _ _ _ _ _ _ _ _ _ _ _ _ _ _ _ _ _ _ _ _ _ _ _ _ _ _ _ _)).val=_;simp only[Cm,Q8,zK,zD,zm];rfl),?_⟩
    rw[<-zo p.r.1.u];rfl
  have⟨r,E,F⟩:=d;exact zz D (o.ends E) W F
structure SJ (p:aA) (src:zS):Prop where
 names:src.map (λx:ae=>x.1.1)=ce p.2.1 p.q.1
 two:two src=O
 plan:bp (gO src) (jN p src)=(0,p)
 few:PS (jN p src)
 short:∀x∈gO src,ij x
 cols:X p.r.1.2.1<=1000
 same:KV p p=O/\OG p p=O
theorem qu(h:two l=O):0<X l/\X l<=2:=by
 match l,h with
 |[_],_=>simp
 |[_,_],_=>simp
theorem zfj(h:SJ p l):T2 p l=M (0,()):=by
 have⟨d,v⟩:=qu h.two;have x:(ce p.2.1 p.q.1).length=X l:=by rw[<-h.names,dc]
 have u:(zs5 p l).val=M (.inl (.h6 l (ce p.2.1 p.q.1) l (X l:Int) ((0:Nat):Int) (p,()))):=by
  have e:((X l:Int)!=((ce p.2.1 p.q.1).length:Int))=S:=by rw[x];simp
  show(br ((X l:Int)!=((ce p.2.1 p.q.1).length:Int)) _ _).val=_;rw[e];rfl
 have o:=zH.all (t:=zfU) 1 (λi=>.h6 l (ce p.2.1 p.q.1) l (X l:Int) (i:Int) (p,())) (X l) λi b=>zH.of (by
  have s:(!((Y l i (Q zl)).1.1:zJ)==(ce p.2.1 p.q.1).getD i (Q Sh.str))=S:=by
   rw[<-h.names,bz,bz,dN,af b];simp
  simp only[zfU,Q8,zN b,zx b,zx (show i<(ce p.2.1 p.q.1).length by omega),zj,aH,s,zD,zm];rw[zu i um])
 have a:=zaJ (p:=p) d h.cols;have g:RE p l=O:=by unfold RE;rw[a];rfl
 have j:zaI p l=jN p l:=by unfold zaI;rw[a];rfl
 have c:OF (gO l) (jN p l)=M ((bp (gO l) (jN p l)).2,(bp (gO l) (jN p l)).1,()):=zn0 h.short (by rw[I7];omega) h.few;rw[h.plan]at c;have m:znZ (gO l) (jN p l)=O:=by unfold znZ;rw[c];rfl
 have n:pOf (gO l) (jN p l)=(p,0):=by unfold pOf;rw[c];rfl
 refine zz u (o.ends (k:=1) (r:=(L 0,[])) (zU.of ?_)) W rfl;simp only[zfU,Q8,zK,zo,bh,g,j,m,n,h.two,h.same.1,h.same.2,zD,zm];simp[d,show X l<=1000 by omega]
theorem CM(h:SJ p l):Jg p l=O/\Wu p l=0:=by have:=zfj h;exact⟨by unfold Jg;rw[this];rfl,by unfold Wu;rw[this];rfl⟩
def s50(d:zS)(ns:List zJ)(j i:Int)(x:ae):zS->dK->nM
 |[],[]=>.h12 d ns j i (x,())
 |[],b::r=>.h12b d ns j i (x,()) (b::r)
 |a::l,[]=>.h12bb d ns j i (x,()) (a::l)
 |a::l,b::r=>.h12bbb d ns j i (x,()) (a::l) (b::r)
def R6(d:zS)(ns:List zJ)(j:Int):zS->nM
 |[]=>.h4 d ns j
 |a::l=>.h4b d ns j (a::l)
theorem zfE(e:i<X x.1.t.1)(o:X ns<=1000)(m:X c<=1000)(n:i<=1000):
  (iw (s50 l ns k (i:Int) x d c)).val=M (.inl (s50 l ns k ((i+1:Nat):Int) x d (ite (aL ns (Y x.1.t.1 i (Q zG)).2=O) (c++[Y x.1.t.1 i (Q zG)]) c))):=by
 have⟨g,j⟩:=LB (l:=ns) (s:=(Y x.1.t.1 i (Q zG)).2) W;cases d with
 | nil=>
  cases c with
  | nil=>
   show(iw (.h12 _ _ _ _ _)).val=_;simp only[iw,Q8,zN e,zx e,zj,aH,g,j];rw[zu i um];split
   .rw[zf sw];rfl
   .rfl
  | cons b r=>
   show(iw (.h12b _ _ _ _ _ _)).val=_;simp only[iw,Q8,zN e,zx e,zj,aH,g,j];rw[zu i um];split
   .rw[zf (by simp at m|-;omega)];rfl
   .rfl
 | cons a h=>
  cases c with
  | nil=>
   show(iw (.h12bb _ _ _ _ _ _)).val=_;simp only[iw,Q8,zN e,zx e,zj,aH,g,j];rw[zu i um];split
   .rw[zf sw];rfl
   .rfl
  | cons b r=>
   show(iw (.h12bbb _ _ _ _ _ _ _)).val=_;simp only[iw,Q8,zN e,zx e,zj,aH,g,j];rw[zu i um];split
   .rw[zf (by simp at m|-;omega)];rfl
   .rfl
theorem zfD(g:i<=1000)(e:X d<=1000):
  (iw (s50 l ns (i:Int) (X x.1.t.1:Int) x d c)).val=M (.inl (R6 l ns ((i+1:Nat):Int) (d++[((x.1.1,x.1.2.1,x.1.q.1,x.1.r.1,c,x.1.u),x.2)]))):=by
 cases d with
 | nil=>
  cases c with
  | nil=>
   show(iw (.h12 _ _ _ _ _)).val=_;simp only[iw,Q8,zK,zD,zm,zo];rw[zu i um,zf sw];rfl
  | cons b r=>
   show(iw (.h12b _ _ _ _ _ _)).val=_;simp only[iw,Q8,zK,zD,zm,zo];rw[zu i um,zf sw];rfl
 | cons a h=>
  cases c with
  | nil=>
   show(iw (.h12bb _ _ _ _ _ _)).val=_;simp only[iw,Q8,zK,zD,zm,zo];rw[zu i um,zf (by simp at e|-;omega)];rfl
  | cons b r=>
   show(iw (.h12bbb _ _ _ _ _ _ _)).val=_;simp only[iw,Q8,zK,zD,zm,zo];rw[zu i um,zf (by simp at e|-;omega)];rfl
theorem zob(j:X ns<=1000)(g:i<=1000)(e:X d<=1000)(k:X x.1.t.1<=1000):
  zH iw 1002 (s50 l ns (i:Int) ((0:Nat):Int) x d []) (R6 l ns ((i+1:Nat):Int) (d++[jS (aL ns) x])):=by
 have c:=zH.all (t:=iw) 1 (λa=>s50 l ns (i:Int) (a:Int) x d ((x.1.t.1.take a).filter λf:cy=>aL ns f.2)) (X x.1.t.1) λa b=>zH.of (by
  rw[zfE b j (bc (List.length_filter_le _ _) sg) W];congr 3;rw[bF b,List.filter_append,bz,af b];cases h:aL ns (x.1.t.1[a]:cy).2<;>simp[h])
 simp only[List.take_zero,List.filter_nil,gE]at c;refine(c.trans (zH.of (zfD g e))).mono W
theorem zaY(y:∀x∈l,ij x)(o:∀n∈ce p.2.1 p.q.1,LE.le (α:=Int) 0 (ak l n)):FE p l=M (zT l p,O,()):=by
 have s:(zmI p l).val=M (.inl (R6 l (ce p.2.1 p.q.1) ((0:Nat):Int) [])):=by
  simp only[zmI,zo,bh,Q8,uQ,xr,zj];rfl
 have w:(ce p.2.1 p.q.1).length<=2:=by unfold ce;split<;>simp
 unfold zT;generalize ce p.2.1 p.q.1=ns at s w o|-;have m:=zH.all (t:=iw) 1003 (λj=>R6 l ns (j:Int) ((ns.take j).map λn=>jS (aL ns) (aQ l n))) (X ns) λj d=>by
  have e:=o ns[j] (bC d);have k:T (ak l ns[j]<0)=S:=by simpa using e
  have i:=ez e;have z:=y _ (oL e);have u:zH iw 1 (R6 l ns (j:Int) ((ns.take j).map λn=>jS (aL ns) (aQ l n))) (s50 l ns (j:Int) ((0:Nat):Int) (aQ l ns[j]) ((ns.take j).map λn=>jS (aL ns) (aQ l n)) []):=zH.of (by
   generalize((ns.take j).map λn=>jS (aL ns) (aQ l n))=c;cases c with
   | nil=>
    show(iw (.h4 _ _ _)).val=_;simp only[iw,Q8,zN d,zx d,zj,zX _ _ d,eo,k,i,zD,zm];rfl
   | cons a h=>
    show(iw (.h4b _ _ _ _)).val=_;simp only[iw,Q8,zN d,zx d,zj,zX _ _ d,eo,k,i,zD,zm];rfl)
  have v:=(u.trans (zob (x:=aQ l ns[j]) W W sg z.rf)).mono (b:=1003) W;show zH iw 1003 _ (R6 l ns ((j+1:Nat):Int) ((ns.take (j+1)).map λn=>jS (aL ns) (aQ l n)));rw[bF d,gh];exact v
 simp only[List.take_zero,rm,gE]at m;generalize C:(ns.map λn=>jS (aL ns) (aQ l n))=c at m;have g:∃r,zU iw 1 (R6 l ns (X ns:Int) c) r/\aZ r.2 [zl.sl,Sh.bool] r.1=M (c,O,()):=by
  cases c with
  | nil=>
   refine⟨_,zU.of (by
    show(iw (.h4 _ _ _)).val=_;simp only[iw,Q8,zK,zD,zm];rfl),rfl⟩
  | cons a h=>
   refine⟨_,zU.of (by
    show(iw (.h4b _ _ _ _)).val=_;simp only[iw,Q8,zK,zD,zm];rfl),rfl⟩
 have⟨r,A,B⟩:=g;exact zz s (m.ends A) W B
def Co(a b:zq):Bool:=a.1==b.1&&(a.2.1==b.2.1&&(a.q==b.q&&O))
theorem jF{v b:zq}:Co v b=O↔v=b:=by have⟨a,h,x⟩:=v;have⟨c,d,e⟩:=b;unfold Co;simp
def Rn(a:Int)(v:zq)(h:zr):Bool:=bif Co (Y h a.toNat (Q R)) v then v.1!=0 else S
theorem nu{v:zq}{g:zr}:Rn k v g=O↔Y g k.toNat (Q R)=v/\v.1≠0:=by unfold Rn;rw[<-jF];cases Co (Y g k.toNat (Q R)) v<;>simp
theorem N7(u:zq):∀l:zr,(vP u l).length<=X l+1
 |[]=>by simp[vP]
 | o::r=>by
  unfold vP;split
  .have:=N7 u r;simp only[fE];omega
  .split<;>simp
theorem NR:∀(l a:zr),(l.foldl (λa u=>if((u:zq).1==0)=O then a else vP u a) a).length<=X a+X l
 |[],a=>by simp
 | u::r,a=>by
  rw[List.foldl_cons];refine bc (NR r _) ?_;split
  .simp
  .have:=N7 u a;simp only[fE];omega
theorem XG(l:zr):(ro l).length<=X l:=by have:=NR l [];simpa[ro]using this
end
end Cad
