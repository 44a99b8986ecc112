/- The document's plans. -/
import Derived.Test.YtjdjldbhjmgmkaaGreatDoorM20
namespace Cad
open Go Go.Proofs
open List renaming length->Io,length->X
open IntKind renaming wrap->Γ,i64->Δ
open Tr renaming val->Q8
open Bool renaming true->O,false->S
open Option renaming some->Q1,some->M
open Decidable renaming decide->N,decide->Q0
open Int renaming toNat->Z
open List (getD)
open List renaming getD->Y
open Tr (chk br re)
open AV (nils agg tup ptr kb str sl)
open Cad renaming ow->W,zi->Q,ai->L,ze->K,Sem->J
set_option maxHeartbeats 4000000
noncomputable section
theorem uQ(p:ao):nu p=M (bY p.2.1 p.q.1,()):=by
 unfold bY;by_cases h:(p.q.1==[])=O
 .rw[zf h];refine zR (r:=(.vec 0,[.vec Sh.str [p.2.1]])) ?_ rfl;simp only[zmQ,Q8,h];rfl
 .rw[zh h];have h:(p.q.1==[])=S:=by simpa using h
  refine zR (r:=(.vec 0,[.vec Sh.str ([p.2.1]++[p.q.1])])) ?_ rfl;simp only[zmQ,Q8,h];rfl
theorem uP(p:ao):kK p=O:=by unfold kK;rw[uQ];rfl
theorem xt(p:ao):my p=bY p.2.1 p.q.1:=by unfold my;rw[uQ];rfl
theorem BO(x:zK):∀(l:List zK)(i:Nat),GE.ge (α:=Int) (jt x l (i:Int)) 0↔x∈l
 | [],i=>by
  rw[jt];exact⟨λh=>zz h (by decide),λh=>by cases h⟩
 | a::r,i=>by
  rw[jt];split
  .rename_i h;have:x=a:=by simpa using h
   subst this;exact⟨λ_=>uz,λ_=>Int.natCast_nonneg i⟩
  next h=>have:=BO x r (i+1);rw[wm]at this;rw[bX];refine⟨λb=>.inr (this.1 b),λb=>this.2 (b.resolve_left ?_)⟩;rintro rfl;simp at h
theorem mq(l:List zK)(x:zK):aQ l x=O↔x∈l:=by unfold aQ;rw[decide_eq_true_iff];exact BO x l 0
theorem LD{l:List zK}{s:zK}(o:X l<=1000000):BW l s=O/\Pd l s=aQ l s:=by
 have a:Uk l s=M (aQ l s,()):=by
  rcases nG (t:=Sp) (Φ:=λr=>r=(.kb O,[])) 1 (λi=>.h2 l s (i:Int)) (λi=>∀h:i<X l,l[i]≠s) (X l) (λi x _=>by
   have n:(Sp (.h2 l s (i:Int))).val=if(l[i]==s)=O then M (.inr (.kb O,[]))else M (.inl (.h2 l s ((i+1:Nat):Int))):=by
    show(Sp (.h2 _ _ _)).val=_;simp only[Sp,Q8,zW _ _ x,zO x,zx x,zj];rw[zu i um]
   by_cases h:l[i]=s
   .exact .inr ⟨λk=>k x h,_,zU.of (by rw[n,zf (by simpa using h)]),rfl⟩
   .exact .inl ⟨λ_=>h,zH.of (by rw[n,zh (by simpa using h)])⟩)with⟨b,c⟩|⟨b,r,c,rfl⟩
  .have g:aQ l s=S:=by
    rw[<-iY,mq];intro d;have⟨j,m,e⟩:=fK d;exact b j m m e
   rw[g];refine zA (s:=.h2 l s 0) rfl (c.ends (zU.of (r:=(.kb S,[])) ?_)) W rfl;show(Sp (.h2 _ _ _)).val=_;simp only[Sp,Q8,zM];rfl
  .have g:aQ l s=O:=by
    rw[mq];apply kz;intro d;exact b λi _ x e=>d (e▸bp x)
   rw[g];exact zA (s:=.h2 l s 0) rfl c W rfl
 exact⟨by unfold BW;rw[a];rfl,by unfold Pd;rw[a];rfl⟩
theorem BM{α:Type}(p:α->Bool):∀(l:List α)(i:Nat),(!Q0 (aj p l i>=0))=O↔∀x∈l,p x=S
 | [],i=>by
  refine⟨λ_ x a=>(by cases a),λ_=>?_⟩;rw[aj];rfl
 | y::r,i=>by
  refine⟨λh=>rJ p _ i h,λh=>?_⟩;rw[aj,h y sw];exact(BM p r (i+1)).2 λx a=>h x (by simp[a])
theorem Av{α:Type}(p:α->Bool)(l:List α):N (GE.ge (α:=Int) (aj p l 0) 0)=O↔∃x∈l,p x=O:=by
 have h:=BM p l 0;constructor
 .intro a;apply kz;intro d;have:=h.2 λx c=>by
   cases b:p x
   .rfl
   .exact zz ⟨x,c,b⟩ d
  rw[a]at this;cases this
 .rintro⟨x,c,b⟩;cases a:N (GE.ge (α:=Int) (aj p l 0) 0)
  .have:=h.1 (by rw[a];rfl) x c;rw[b]at this;cases this
  .rfl
variable {ns:List zK}
theorem K5{d:zS}(H:X d<=1000)(G:∀x∈d,(x:ae).1.t.1.length<=1000)(u:X ns<=1000000):pV d ns=M (eP d ns,()):=by
 have p:∀i(e:i<X d),(¬(!aQ ns d[i].1.1&&N (GE.ge (α:=Int) (aj (λf:cw=>aQ ns f.2) d[i].1.t.1 0) 0))=O/\zH su 1002 (.h2 d ns (i:Int)) (.h2 d ns ((i+1:Nat):Int)))\/
   ((!aQ ns d[i].1.1&&N (GE.ge (α:=Int) (aj (λf:cw=>aQ ns f.2) d[i].1.t.1 0) 0))=O/\zU su 1002 (.h2 d ns (i:Int)) (.kb O,[])):=by
  intro i e;have v:=G _ (bp e);have g:d.getD (i:Int).toNat (Q zl)=d[i]:=zW _ _ e;have q:zH su 1 (.h2 d ns (i:Int)) (.h5 d ns (i:Int) ((0:Nat):Int)):=zH.of (by
   show(su (.h2 _ _ _)).val=_;simp only[su,Q8,zO e,zj];rfl)
  have⟨z,A⟩:=LD (l:=ns) (s:=d[i].1.1) u;have E:(su (.h5 d ns (i:Int) (d[i].1.t.1.length:Int))).val=M (.inl (.h2 d ns ((i+1:Nat):Int))):=by
   show(su (.h5 _ _ _ _)).val=_;simp only[su,Q8,g,zM,zx e,zj];rw[zu i um];rfl
  rcases nG (t:=su) (Φ:=λr=>r=(.kb O,[])) 1 (λj=>.h5 d ns (i:Int) (j:Int)) (λj=>∀h:j<d[i].1.t.1.length,¬(!aQ ns d[i].1.1&&aQ ns (d[i].1.t.1[j]).2)=O) d[i].1.t.1.length (λj a _=>by
   have D:Y d[i].1.t.1 (j:Int).toNat (Q zG)=d[i].1.t.1[j]:=zW _ _ a;have⟨B,C⟩:=LD (l:=ns) (s:=(d[i].1.t.1[j]).2) u;have m:(su (.h5 d ns (i:Int) (j:Int))).val=if(!aQ ns d[i].1.1&&aQ ns (d[i].1.t.1[j]).2)=O then M (.inr (.kb O,[]))else M (.inl (.h5 d ns (i:Int) ((j+1:Nat):Int))):=by
    show(su (.h5 _ _ _ _)).val=_;simp only[su,Q8,g,D,zO a,zx e,zx a,z,A,B,C,zj,eY];rw[zu j um];cases aQ ns d[i].1.1<;>cases aQ ns (d[i].1.t.1[j]).2<;>rfl
   by_cases h:(!aQ ns d[i].1.1&&aQ ns (d[i].1.t.1[j]).2)=O
   .exact .inr ⟨λk=>k a h,_,zU.of (by rw[m,zf h]),rfl⟩
   .exact .inl ⟨λ_=>h,zH.of (by rw[m,zh h])⟩)with⟨b,c⟩|⟨b,r,c,rfl⟩
  .refine .inl ⟨?_,((q.trans c).trans (zH.of E)).mono W⟩;intro h;simp only[aP,Av]at h;have⟨w,f,F,y⟩:=h;obtain⟨j,a,rfl⟩:=fK F;exact b j a a (by rw[w,y];rfl)
  .refine .inr ⟨?_,(q.ends c).mono W⟩;apply kz;intro h;refine b λj _ a o=>h ?_
   simp only[aP]at o;simp only[aP,Av];exact⟨o.1,_,bp a,o.2⟩
 rcases nG (t:=su) (Φ:=λr=>r=(.kb O,[])) 1002 (λi=>.h2 d ns (i:Int)) (λi=>∀h:i<X d,¬(!aQ ns d[i].1.1&&N (GE.ge (α:=Int) (aj (λf:cw=>aQ ns f.2) d[i].1.t.1 0) 0))=O) (X d) (λi e _=>by
  rcases p i e with⟨b,c⟩|⟨b,c⟩
  .exact .inl ⟨λ_=>b,c⟩
  .exact .inr ⟨λk=>k e b,_,c,rfl⟩)with⟨b,c⟩|⟨b,r,c,rfl⟩
 .have n:eP d ns=S:=by
   unfold eP;rw[List.any_eq_false];intro x v;obtain⟨j,a,rfl⟩:=fK v;exact b j a a
  rw[n];have m:(su (.h2 d ns (X d:Int))).val=M (.inr (.kb S,[])):=by
   show(su (.h2 _ _ _)).val=_;simp only[su,Q8,zM];rfl
  exact zA (s:=.h2 d ns 0) rfl (c.ends (zU.of m)) W rfl
 .have n:eP d ns=O:=by
   unfold eP;apply kz;intro h;rw[iY,List.any_eq_false]at h;exact b λi _ e=>h _ (bp e)
  rw[n];exact zA (s:=.h2 d ns 0) rfl c W rfl
theorem OO{db:zS}(a:X db<=1000)(c:∀x∈db,(x:ae).1.t.1.length<=1000)(b:X ns<=1000000):vR db ns=O/\AN db ns=eP db ns:=by have h:=K5 a c b;exact⟨by unfold vR;rw[h];rfl,by unfold AN;rw[h];rfl⟩
def pl3(t:am)(n:List zK):Nat->qW
 |0=>.h3 t.2.1 n ((0:Nat):Int)
 |i+1=>.h3b t.2.1 n ((i+1:Nat):Int) (js t (n.take (i+1)))
variable {t:am}{n:List zK}{i:Nat}
theorem zfB(c:X t.2.1<=1000000)(d:X n<=1000)(x:i<X n):(kP (pl3 t n i)).val=if LT.lt (α:=Int) (zY t n[i]) 0 then M (.inr (.tup [.nils,L 4],[]))else M (.inl (pl3 t n (i+1))):=by
 have e:gX t.2.1 n[i]=zY t n[i]:=tK c;have b:fq t.2.1 n[i]=O:=qc c;have a:js t (n.take (i+1))=js t (n.take i)++[zY t n[i]]:=by
  unfold js;rw[bE x,ib];rfl
 cases i with
 | zero=>
  have a:js t (n.take 1)=[zY t n[0]]:=a;show(kP (.h3 _ _ _)).val=_;simp only[kP,Q8,zO x,zx x,zj,zW _ _ x,e,b];by_cases h:LT.lt (α:=Int) (zY t n[0]) 0
  .simp only[zB h,zj,zf h]
  .simp only[aC h,zh h,zC,zm];rw[zf sw,zu 0 um];show _=M (Sum.inl (qW.h3b _ _ _ (js t (n.take 1))));rw[a]
 | succ i=>
  show(kP (.h3b _ _ _ _)).val=_;simp only[kP,Q8,zO x,zx x,zj,zW _ _ x,e,b];by_cases h:LT.lt (α:=Int) (zY t n[i+1]) 0
  .simp only[zB h,zj,zf h]
  .simp only[aC h,zh h,zC,zm];rw[zf (by unfold js;simp;omega),zu (i+1) um];show _=M (Sum.inl (qW.h3b _ _ _ (js t (n.take (i+1+1)))));rw[a]
theorem zy8{l:List Int}(u:X l<=1000):zU kP (X l*1001+1) (.h10b ((0:Nat):Int) l) (ite l.Nodup (.tup [.vec 0,L 0],[.vec zk l]) (.tup [.nils,L 7],[])):=by
 have m:∀i(c:i<X l),((∀k(x:k<i),l[k]≠l[i])/\zH kP 1001 (.h10b (i:Int) l) (.h10b ((i+1:Nat):Int) l))\/((¬∀k(x:k<i),l[k]≠l[i])/\zU kP 1001 (.h10b (i:Int) l) (.tup [.nils,L 7],[])):=by
  intro i c;have n:zH kP 1 (.h10b (i:Int) l) (.h13b (i:Int) ((0:Nat):Int) l):=zH.of (by
   show(kP (.h10b _ _)).val=_;simp only[kP,Q8,zO c,zj];rfl)
  rcases nG (t:=kP) (Φ:=λr=>r=(.tup [.nils,L 7],[])) 1 (λk=>.h13b (i:Int) (k:Int) l) (λk=>∀h:k<i,l[k]≠l[i]) i (λk x _=>by
   have d:k<X l:=by omega
   have s:N ((k:Int)<(i:Int))=O:=zO x;have p:(kP (.h13b (i:Int) (k:Int) l)).val=if(l[i]==l[k])=O then M (.inr (.tup [.nils,L 7],[]))else M (.inl (.h13b (i:Int) ((k+1:Nat):Int) l)):=by
    show(kP (.h13b _ _ _)).val=_;simp only[kP,Q8,s,zx c,zx d,A8 c,A8 d,zW _ _ c,zW _ _ d,zj];rw[zu k um]
   by_cases h:l[i]=l[k]
   .exact .inr ⟨λq=>q x h.symm,_,zU.of (by rw[p,zf (by simpa using h)]),rfl⟩
   .exact .inl ⟨λ_=>Ne.symm h,zH.of (by rw[p,zh (by simpa using h)])⟩)with⟨a,b⟩|⟨a,r,b,rfl⟩
  .refine .inl ⟨λk x=>a k x x,((n.trans b).trans (zH.of ?_)).mono W⟩;show(kP (.h13b _ _ _)).val=_;simp only[kP,Q8,zM];rw[zu i um];rfl
  .exact .inr ⟨λh=>a λk x _=>h k x,(n.ends b).mono W⟩
 have e:l.Nodup↔∀i,i<X l->∀h:i<X l,∀k(x:k<i),l[k]≠l[i]:=by
  unfold List.Nodup;rw[List.pairwise_iff_getElem];exact⟨λh i _ c k x=>h k i W c x,λh i j c o g=>h j o o i g⟩
 rcases nG (t:=kP) (Φ:=λr=>r=(.tup [.nils,L 7],[])) 1001 (λi=>.h10b (i:Int) l) (λi=>∀h:i<X l,∀k(x:k<i),l[k]≠l[i]) (X l) (λi c _=>by
  rcases m i c with⟨a,b⟩|⟨a,b⟩
  .exact .inl ⟨λ_=>a,b⟩
  .exact .inr ⟨λh=>a (h c),_,b,rfl⟩)with⟨a,b⟩|⟨a,r,b,rfl⟩
 .rw[zf (e.2 a)];refine(b.ends (zU.of ?_)).mono W;show(kP (.h10b _ _)).val=_;simp only[kP,Q8,zM];rfl
 .rw[zh (λh=>a (e.1 h))];exact b.mono W
theorem K4(A:X t.2.1<=1000000)(B:X n<=1000):pT t.2.1 n=M (ite (gS t n=0) (js t n) [],gS t n,()):=by
 have a:(ztD t.2.1 n).val=M (.inl (pl3 t n 0)):=rfl
 rcases nG (t:=kP) (Φ:=λr=>r=(.tup [.nils,L 4],[])) 1 (pl3 t n) (λi=>∀h:i<X n,¬LT.lt (α:=Int) (zY t n[i]) 0) (X n) (λi a _=>by
  have u:=zfB A B a;by_cases h:LT.lt (α:=Int) (zY t n[i]) 0
  .exact .inr ⟨λq=>q a h,_,zU.of (by rw[u,zf h]),rfl⟩
  .exact .inl ⟨λ_=>h,zH.of (by rw[u,zh h])⟩)with⟨k,d⟩|⟨k,r,d,rfl⟩
 .have z:∀s∈n,¬LT.lt (α:=Int) (zY t s) 0:=by
   intro s C;obtain⟨j,p,rfl⟩:=fK C;exact k j p p
  have g:gS t n=if(js t n).Nodup then 0 else 7:=by unfold gS;rw[zf z];rfl
  have D:(js t n).length=X n:=by unfold js;simp
  cases b:X n with
  | zero=>
   have c:n=[]:=Dz b;subst c;have m:zU kP 2 (pl3 t [] 0) (.tup [.nils,L 0],[]):=by
    refine(zH.of (s':=.h10 0) ?_).ends (zU.of ?_)
    .rfl
    .rfl
   have w:gS t []=0:=by rw[g,zf (by unfold js;exact List.nodup_nil)]
   rw[w,zf rfl];exact zA a m W rfl
  | succ x=>
   rw[b]at d;have v:js t (n.take (x+1))=js t n:=by rw[<-b,gB]
   have m:zH kP 1 (pl3 t n (x+1)) (.h10b ((0:Nat):Int) (js t n)):=zH.of (by
    show(kP (.h3b _ _ _ _)).val=_;rw[v,<-b];simp only[kP,Q8,zM];rfl)
   have y:=zy8 (l:=js t n) W;have e:=d.ends (m.ends y);rw[g];by_cases o:(js t n).Nodup
   .rw[zf o]at e|-;exact zA a e W rfl
   .rw[zh o]at e|-;exact zA a e W rfl
 .have g:gS t n=4:=by
   unfold gS;rw[zh];intro h;exact k λi _ a=>h _ (bp a)
  rw[g];exact zA a d W rfl
theorem ON{names:List zK}(x:X t.2.1<=1000000)(a:X names<=1000):pS t.2.1 names=O/\tp t.2.1 names=(ite (gS t names=0) (js t names) [],gS t names):=by have h:=K4 x a;exact⟨by unfold pS;rw[h];rfl,by unfold tp;rw[h];rfl⟩
def Vy(e:zg)(c:aV):Int:=
 if(e.op==[])=O then 0 else if(cond ((cu e c).2==0) (cond ((cu e c).1!=3) ((cu e c).1!=0) S) S)=O then 5 else(cu e c).2
variable {e:zg}{c:aV}
theorem WL(b:vd e)(j:X c<=1000000)(k:(e.op==[])=S->dU e=O):C0 e c=M (Vy e c,()):=by
 unfold Vy;cases x:(e.op==[])
 .have h:=k x;have d:=oS b;have g:=tB b;have a:=OY j h;have m:p6 e c=O:=by unfold p6;rw[a];rfl
  have n:jz e c=cu e c:=by unfold jz;rw[a];rfl
  have i:(cond ((cu e c).2==0) (cond ((cu e c).1!=0) ((cu e c).1!=3) S) S)=(cond ((cu e c).2==0) (cond ((cu e c).1!=3) ((cu e c).1!=0) S) S):=by
   cases((cu e c).2==0)<;>cases((cu e c).1!=0)<;>cases((cu e c).1!=3)<;>rfl
  have l:(zeW e c).val=M (.inr (L (ite ((cond ((cu e c).2==0) (cond ((cu e c).1!=3) ((cu e c).1!=0) S) S)=O) 5 ((cu e c).2)),[])):=by
   simp only[zeW,Q8,zo,x,d,g,h,m,n,i,zj,zC,zm,ce];split<;>rfl
  exact zR l rfl
 .refine zR (r:=(L 0,[])) ?_ rfl;simp only[zeW,Q8,x,zj]
theorem zbh{cols:aV}(b:vd e)(x:X cols<=1000000)(a:(e.op==[])=S->dU e=O):qd e cols=O/\r7 e cols=Vy e cols:=by have h:=WL b x a;exact⟨by unfold qd;rw[h];rfl,by unfold r7;rw[h];rfl⟩
theorem Hv(l:List zK):iF l=Lib.join l fM:=by
 have h:=sm l 0 [];unfold iF;rw[h];have e:l.map nz=l:=by
  rw[show(nz:zK->zK)=id from rfl];exact List.map_id l
 rw[HV,e]
variable {s:zP}
theorem zgk(h:wk s)(o:s.1=dD)(x:mu s=O):nA s=Su s:=by unfold mu at x;simp only[aP,ba]at x;rw[(jE (zjy h.sh o)).2,tC,DR x.2.1,Hv];unfold Su;simp
theorem zgl(h:wk s)(o:s.1=gO)(x:pQ s=O):nA s=sy s:=by unfold pQ at x;simp only[aP]at x;rw[(jE (zjA h.sh o)).2,tJ,DR x.1];unfold sy;simp
theorem zb7(h:wk s)(o:s.1=pp)(x:iL s=O):nA s=nC s:=by unfold iL at x;simp only[aP,ba]at x;rw[(jE (zjz h.sh o x.1)).2,tG,DR x.2.1];unfold nC;simp
theorem RZ(h:wk s)(n:kF s.1):∃t,qh s=M (t,eZ s,()):=by
 have k:∀(x:zP)(c:Bool)(t e:zK),ft s=M (t,x,c,())->X t<=900000->Dp x->(c=O->t=e)->(c=O->nA s=e)->iu s=(c&&(aA s.2.1&&iq x s))->∃t,qh s=M (t,eZ s,()):=by
  intro x c t e a b d i j l;have⟨t',m⟩:=Jw h a b d;refine⟨t',?_⟩;rw[m,zbR,l];cases g:c
  .rfl
  .rw[j g,i g];cases aA s.2.1<;>cases iq x s<;>rfl
 rcases n with o|o|o
 .have⟨t,a,b,d⟩:=UQ h o;exact k _ _ _ _ a b (gC h (.inl rfl) (.inr rfl) (.inr rfl) (.inr rfl) (.inl rfl) (.inr rfl) (.inr rfl) (.inr rfl)) d (zgk h o) (T9 h o)
 .have⟨a,b⟩:=UR h o;exact k _ _ _ _ a b (gC h (.inr rfl) (.inr rfl) (.inr rfl) (.inr rfl) (.inl rfl) (.inr rfl) (.inr rfl) (.inr rfl)) (λ_=>rfl) (zgl h o) (Ua h o)
 .have⟨t,a,b,d⟩:=PL h o;exact k _ _ _ _ a b (gC h (.inl rfl) (.inr rfl) (.inr rfl) (.inr rfl) (.inl rfl) (.inr rfl) (.inr rfl) (.inr rfl)) d (zb7 h o) (OL h o)
theorem Th{g c:zg->zg->Bool}:∀(l m:List zg),X l=X m->(∀x∈l,∀y,c x y=O/\(g x y=O↔x=y))->V1 g c l m=O/\(eqL g l m=O↔l=m)
 |[],[],_,_=>⟨rfl,by simp[eqL]⟩
 |[],_::_,h,_=>by simp at h
 |_::_,[],h,_=>by simp at h
 | x::r,y::q,h,hx=>by
  have⟨d,b⟩:=hx x sw y;have⟨i,j⟩:=Th r q (by simpa using h) (λz n=>hx z (by simp[n]));rw[V1,eqL];rw[d];by_cases k:g x y=O
  .have:=b.1 k;subst this;simp[k,i,j]
  .have a:x≠y:=λe=>k (b.2 e)
   simp[k,a]
theorem Gw:∀(d:Nat)(a b:zg),mR d a=O->lk d a b=O/\(gK d a b=O↔a=b)
 |0,_,_,h=>by cases h
 | d + 1,.mk n v s l,.mk o j p i,h=>by
  rw[mR]at h;simp only[aP,ba,ep]at h;have⟨_,D⟩:=h;have B:lk (d+1) (.mk n v s l) (.mk o j p i)=(cond (n==o) (cond (eqV v j) (cond (s==p) (EB (gK d) (lk d) l i) O) O) O):=rfl;have C:gK (d+1) (.mk n v s l) (.mk o j p i)=(cond (n==o) (cond (eqV v j) (cond (s==p) (QP (gK d) l i) S) S) S):=rfl;rw[B,C];unfold EB QP;have u:eqV v j=O↔v=j:=by unfold eqV;simp[Prod.ext_iff]
  by_cases m:n=o
  .by_cases k:v=j
   .by_cases w:s=p
    .by_cases q:X l=X i
     .have⟨F,G⟩:=Th (g:=gK d) (c:=lk d) l i q (λx E y=>Gw d x y (D x E));have z:((X l:Int)!=(X i:Int))=S:=by rw[<-iY,kh];exact λh=>h q
      rw[z,u.2 k];simp[m,w,F,G,k]
     .have z:((X l:Int)!=(X i:Int))=O:=kh.2 q;have A:l≠i:=λe=>q (by rw[e])
      rw[z,u.2 k];simp[m,w,A]
    .rw[u.2 k];simp[m,w]
   .have:eqV v j=S:=by rw[<-iY,u];exact k
    rw[this];simp[m,k]
  .simp[m]
variable {h:List Int}
theorem PA{b:List Int}(x:X h<=1000000):L6 h b=O/\(qG h b=O↔h=b):=by
 have d:∃r,L7 h b=M (r,())/\(r=O↔h=b):=by
  by_cases a:X h=X b
  .have c:((X h:Int)!=(X b:Int))=S:=by rw[<-iY,kh];exact λx=>x a
   have j:(zeX h b).val=M (.inl (.h4 h b (X h:Int) 0)):=by
    simp only[zeX,Q8,c];rfl
   rcases ng (t:=zwj) (la:=h) (lb:=b) (λi=>.h4 h b (X h:Int) i) (.inr (.kb O,[])) (λi=>Y h (i:Int).toNat (Q zk)==Y b (i:Int).toNat (Q zk)) (λ_ _=>rfl) (λi _ m c=>by rw[bW,zW _ _ m,zW _ _ c]) a x with⟨q,k⟩|⟨q,k⟩
   .exact⟨O,zA j (k 0 _ rfl) W rfl,by simp[q]⟩
   .exact⟨S,zA j k W rfl,by simp[q]⟩
  .refine⟨S,zR (r:=Jy) ?_ rfl,by simp;exact λe=>a (by rw[e])⟩;simp only[zeX,Q8,kh.2 a,zj]
 have⟨r,g,l⟩:=d;refine⟨by unfold L6;rw[g];rfl,?_⟩;have:qG h b=r:=by unfold qG;rw[g];rfl
 rw[this];exact l
theorem zbI{b:aV}(h:X c<=1000000):Sa c b=O/\(B2 c b=O↔c=b):=by
 have d:∃r,L4 c b=M (r,())/\(r=O↔c=b):=by
  by_cases x:X c=X b
  .have a:((X c:Int)!=(X b:Int))=S:=by rw[<-iY,kh];exact λh=>h x
   have l:(ze3 c b).val=M (.inl (.h4 c b (X c:Int) 0)):=by
    simp only[ze3,Q8,a];rfl
   rcases ng (t:=zwk) (la:=c) (lb:=b) (λi=>.h4 c b (X c:Int) i) (.inr (.kb O,[])) (λi=>((Y c (i:Int).toNat (Q zn)).1==(Y b (i:Int).toNat (Q zn)).1&&((Y c (i:Int).toNat (Q zn)).2.1==(Y b (i:Int).toNat (Q zn)).2.1&&((Y c (i:Int).toNat (Q zn)).q==(Y b (i:Int).toNat (Q zn)).q&&O)))) (λ_ _=>rfl) (λi _ n a=>by rw[Yd,zW _ _ n,zW _ _ a]) x h with⟨g,k⟩|⟨g,k⟩
   .exact⟨O,zA l (k 0 _ rfl) W rfl,by simp[g]⟩
   .exact⟨S,zA l k W rfl,by simp[g]⟩
  .refine⟨S,zR (r:=Jy) ?_ rfl,by simp;exact λe=>x (by rw[e])⟩;simp only[ze3,Q8,kh.2 x,zj]
 have⟨r,j,m⟩:=d;refine⟨by unfold Sa;rw[j];rfl,?_⟩;have:B2 c b=r:=by unfold B2;rw[j];rfl
 rw[this];exact m
theorem zbJ{a b:dJ}(h:X a<=1000000):Sb a b=O/\(B3 a b=O↔a=b):=by
 have d:∃r,L5 a b=M (r,())/\(r=O↔a=b):=by
  by_cases x:X a=X b
  .have c:((X a:Int)!=(X b:Int))=S:=by rw[<-iY,kh];exact λh=>h x
   have j:(ze4 a b).val=M (.inl (.h4 a b (X a:Int) 0)):=by
    simp only[ze4,Q8,c];rfl
   rcases ng (t:=zwl) (la:=a) (lb:=b) (λi=>.h4 a b (X a:Int) i) (.inr (.kb O,[])) (λi=>((Y a (i:Int).toNat (Q zG)).1==(Y b (i:Int).toNat (Q zG)).1&&((Y a (i:Int).toNat (Q zG)).2==(Y b (i:Int).toNat (Q zG)).2&&O))) (λ_ _=>rfl) (λi _ m c=>by rw[zmt,zW _ _ m,zW _ _ c]) x h with⟨q,k⟩|⟨q,k⟩
   .exact⟨O,zA j (k 0 _ rfl) W rfl,by simp[q]⟩
   .exact⟨S,zA j k W rfl,by simp[q]⟩
  .refine⟨S,zR (r:=Jy) ?_ rfl,by simp;exact λe=>x (by rw[e])⟩;simp only[ze4,Q8,kh.2 x,zj]
 have⟨r,g,l⟩:=d;refine⟨by unfold Sb;rw[g];rfl,?_⟩;have:B3 a b=r:=by unfold B3;rw[g];rfl
 rw[this];exact l
theorem zb2{a b:am}(B:X a.2.1<=1000000)(E:X a.r.1<=1000000)(D:X a.t.1<=1000000)(C:mR 16 a.u=O):Mp a b=O/\(uV a b=O↔a=b):=by
 have⟨h,e,x,g,i,m⟩:=a;have⟨c,j,d,k,l,n⟩:=b;have⟨p,w⟩:=zbI (b:=j) (show X e<=1000000 from B);have⟨q,y⟩:=PA (b:=k) (show X g<=1000000 from E);have⟨s,z⟩:=zbJ (b:=l) (show X i<=1000000 from D);have⟨v,A⟩:=Gw 16 m n C;have o:Mq (h,e,x,g,i,m) (c,j,d,k,l,n)=M ((cond (h==c) (cond (x==d) (cond (B2 e j) (cond (qG g k) (cond (B3 i l) (gK 16 m n) S) S) S) S) S),()):=by
  refine zR (r:=(.bool _,[])) ?_ rfl;simp only[ztE,Q8,zo,p,q,s,v];rw[zf];cases(h==c)<;>cases(x==d)<;>cases B2 e j<;>cases qG g k<;>cases B3 i l<;>rfl
 refine⟨by unfold Mp;rw[o];rfl,?_⟩;have:uV (h,e,x,g,i,m) (c,j,d,k,l,n)=(cond (h==c) (cond (x==d) (cond (B2 e j) (cond (qG g k) (cond (B3 i l) (gK 16 m n) S) S) S) S) S):=by unfold uV;rw[o];rfl
 rw[this];simp only[cN];rw[<-w,<-y,<-z,<-A];have F:(h==c)=O↔h=c:=bW;have G:(x==d)=O↔x=d:=bW;rw[<-F,<-G];cases(h==c)<;>cases(x==d)<;>cases B2 e j<;>cases qG g k<;>cases B3 i l<;>cases gK 16 m n<;>simp
variable {p:ao}
theorem zaQ{b:ao}(z:X p.r.1.2.1<=1000000)(D:X p.r.1.r.1<=1000000)(B:X p.r.1.t.1<=1000000)(A:mR 16 p.r.1.u=O)(E:X p.t.1<=1000000):KX p b=O/\(OG p b=O↔p=b):=by
 have⟨x,c,d,a,l,e⟩:=p;have⟨g,i,j,h,m,k⟩:=b;have⟨s,w⟩:=zb2 (b:=h) z D B A;have⟨v,y⟩:=PA (b:=m) (show X l<=1000000 from E);have n:Mp (a.1,a.2.1,a.q.1,a.r.1,a.t.1,a.u) (h.1,h.2.1,h.q.1,h.r.1,h.t.1,h.u)=O:=s;have C:uV (a.1,a.2.1,a.q.1,a.r.1,a.t.1,a.u) (h.1,h.2.1,h.q.1,h.r.1,h.t.1,h.u)=uV a h:=rfl;have o:KY (x,c,d,a,l,e) (g,i,j,h,m,k)=M ((cond (x==g) (cond (c==i) (cond (d==j) (cond (e==k) (cond (uV a h) (qG l m) S) S) S) S) S),()):=by
  refine zR (r:=(.bool _,[])) ?_ rfl;simp only[ztr,Q8,zo,n,C,v];rw[zf];cases(x==g)<;>cases(c==i)<;>cases(d==j)<;>cases(e==k)<;>cases uV a h<;>rfl
 refine⟨by unfold KX;rw[o];rfl,?_⟩;have:OG (x,c,d,a,l,e) (g,i,j,h,m,k)=(cond (x==g) (cond (c==i) (cond (d==j) (cond (e==k) (cond (uV a h) (qG l m) S) S) S) S) S):=by unfold OG;rw[o];rfl
 rw[this];simp only[cN];rw[<-w,<-y];have F:(x==g)=O↔x=g:=bW;have G:(c==i)=O↔c=i:=bW;have H:(d==j)=O↔d=j:=bW;have P:(e==k)=O↔e=k:=bW;rw[<-F,<-G,<-H,<-P];cases(x==g)<;>cases(c==i)<;>cases(d==j)<;>cases(e==k)<;>cases uV a h<;>cases qG l m<;>simp
theorem O7(s:zK):∀(l:zS)(i:Nat),iE s l (i:Int)=aj (λx:ae=>x.1.1==s) l i
 |[],_=>rfl
 | x::r,i=>by
  rw[iE,aj];have h:=O7 s r (i+1);have e:(((i+1:Nat)):Int)=(i:Int)+1:=by omega
  rw[e]at h;by_cases a:(x.1.1==s)=O
  .rw[zf a,zf a]
  .rw[zh a,zh a,h]
theorem ek(l:zS)(s:zK):mE l s=al l s:=O7 s l 0
variable {b:ae}
theorem dV.keys(h:dV b):∀r∈b.2,zL b.1.q.1 (X r)=O:=by intro r a;have⟨x,_⟩:=gR h.may;rw[(cK (h.fits r a)).1];exact sX x
theorem Ze(x:ae)(c:Int)(v:zp):N (LT.lt (α:=Int) (aj (λr=>bK r c v) x.2 0) 0)=!ir x c v:=by
 unfold ir;rcases gP (λr=>bK r c v) x.2 0 with h|⟨h,_⟩
 .rw[h];rfl
 .have:N (aj (λr=>bK r c v) x.2 0>=0)=O:=zB W;rw[this,aC W];rfl
theorem Lt{db:zS}(w:∀x∈db,dV x)(hw:∀x∈db,JZ x)(hl:X db<=13):∃b,xH db=M (b,())/\(b=O↔HD db):=by
 have v:=nG (t:=up) (Φ:=IsF) 1010000 (λi=>.h2 db (i:Int)) (λi=>∀f∈(getD db i (zi zl)).1.t.1,LE.le (α:=Int) 0 (al db f.2)/\∀a∈(getD db i (zi zl)).2,(zN f.1 a).1≠0->ir (aU db f.2) (aU db f.2).1.q.1 (zN f.1 a)=true) (Io db) (by
  intro i e _;have hm:=cB (d:=zi zl) e;have s1:=(hw _ hm).t.nrf;have s2:=(hw _ hm).rows;have G:=(w _ hm).cols;generalize B:Y db i (zi zl)=x at*;have l:(up (.h2 db (i:Int))).val=M (.inl (.h5 db (i:Int) ((0:Nat):Int))):=by
   simp only[up,Q8,zO e];rfl
  have h5:=nG (t:=up) (Φ:=IsF) 1002 (λk=>.h5 db (i:Int) (k:Int)) (λk=>LE.le (α:=Int) 0 (al db (Y x.1.t.1 k (zi zG)).2)/\∀a∈x.2,(zN (Y x.1.t.1 k (zi zG)).1 a).1≠0->ir (aU db (Y x.1.t.1 k (zi zG)).2) (aU db (Y x.1.t.1 k (zi zG)).2).1.q.1 (zN (Y x.1.t.1 k (zi zG)).1 a)=O) (X x.1.t.1) (by
   intro k U _;have H:=cB (d:=zi zG) U;have F:=G _ H;generalize hf:Y x.1.t.1 k (zi zG)=f at*;have l:(up (.h5 db (i:Int) (k:Int))).val=if N (LT.lt (α:=Int) (al db f.2) 0)=O then M (.inr (.kb S,[]))else M (.inl (.h12 db (i:Int) (k:Int) (al db f.2) ((0:Nat):Int) (f,()))):=by
    simp only[up,Q8,zx e,aJ,B,zO U,zx U,hf,ek,zj];rfl
   by_cases u:LE.le (α:=Int) 0 (al db f.2)
   .have g1:=zH.of (t:=up) (s:=.h5 db (i:Int) (k:Int)) (by rw[l,zh (by rw[ba];omega)]);have y:aU db f.2∈db:=cB (by
     rcases Bt db f.2 with h|⟨_,h⟩
     .rw[h]at u;exact zz u (by decide)
     .omega)
    have g:=hw _ y;have c:=w _ y;have D:=nG (t:=up) (Φ:=IsF) 1 (λj=>.h12 db (i:Int) (k:Int) (al db f.2) (j:Int) (f,())) (λj=>(zN f.1 (Y x.2 j (zi ze.sl))).1≠0->ir (aU db f.2) (aU db f.2).1.q.1 (zN f.1 (Y x.2 j (zi ze.sl)))=O) (X x.2) (by
     intro j P _;have l:(up (.h12 db (i:Int) (k:Int) (al db f.2) (j:Int) (f,()))).val=if(cond ((zN f.1 (Y x.2 j (zi ze.sl))).1!=0) (!ir (aU db f.2) (aU db f.2).1.q.1 (zN f.1 (Y x.2 j (zi ze.sl)))) S)=O then M (.inr (.kb S,[]))else M (.inl (.h12 db (i:Int) (k:Int) (al db f.2) ((j+1:Nat):Int) (f,()))):=by
      simp only[up,Q8,zo,bh,zx e,aJ,B,zO P,zx P,F _ (cB (d:=zi ze.sl) P),eu u,WM g.t c.may c.keys g.rows,zj,ov];rw[zbi g.t c.may c.keys g.rows,Ze];rw[zf (by cases((Y (Y x.2 j (zi ze.sl)) (Z f.1) (zi K)).1!=0)<;>rfl)];rw[zu j um]
     by_cases z:(zN f.1 (Y x.2 j (zi ze.sl))).1=0
     .exact .inl ⟨λh=>zz z h,zH.of (by rw[l,zh (by rw[z];simp)])⟩
     .have o:((zN f.1 (Y x.2 j (zi ze.sl))).1!=0)=O:=by simpa using z
      by_cases A:ir (aU db f.2) (aU db f.2).1.q.1 (zN f.1 (Y x.2 j (zi ze.sl)))=O
      .exact .inl ⟨λ_=>A,zH.of (by rw[l,zh (by rw[A,o];simp)])⟩
      .exact .inr ⟨λh=>A (h z),_,zU.of (by rw[l,zf (by rw[o];simpa using A)]),rfl⟩)
    rcases D with⟨p,m⟩|⟨p,r,m,hr⟩
    .have n:(up (.h12 db (i:Int) (k:Int) (al db f.2) (X x.2:Int) (f,()))).val=M (.inl (.h5 db (i:Int) ((k+1:Nat):Int))):=by
      simp only[up,Q8,zx e,aJ,B,zM];rw[zu k um];rfl
     refine .inl ⟨⟨u,?_⟩,((g1.trans m).trans (zH.of n)).mono W⟩;exact(aT (Q:=λa=>(zN f.1 a).1≠0->ir (aU db f.2) (aU db f.2).1.q.1 (zN f.1 a)=O)).1 p
    .refine .inr ⟨λh=>p ?_,r,(g1.ends m).mono W,hr⟩;exact(aT (Q:=λa=>(zN f.1 a).1≠0->ir (aU db f.2) (aU db f.2).1.q.1 (zN f.1 a)=O)).2 h.2
   .exact .inr ⟨λh=>u h.1,_,(zU.of (by rw[l,zf (by rw[ba];omega)])).mono W,rfl⟩)
  rcases h5 with⟨p5,C⟩|⟨p5,r,C,hr⟩
  .have n:(up (.h5 db (i:Int) (X x.1.t.1:Int))).val=M (.inl (.h2 db ((i+1:Nat):Int))):=by
    simp only[up,Q8,zx e,aJ,B,zM];rw[zu i um];rfl
   refine .inl ⟨?_,(((zH.of l).trans C).trans (zH.of n)).mono W⟩;exact(aT (Q:=λf:cw=>LE.le (α:=Int) 0 (al db f.2)/\∀a∈x.2,(zN f.1 a).1≠0->ir (aU db f.2) (aU db f.2).1.q.1 (zN f.1 a)=O)).1 p5
  .refine .inr ⟨λh=>p5 ?_,r,((zH.of l).ends C).mono W,hr⟩;exact(aT (Q:=λf:cw=>LE.le (α:=Int) 0 (al db f.2)/\∀a∈x.2,(zN f.1 a).1≠0->ir (aU db f.2) (aU db f.2).1.q.1 (zN f.1 a)=O)).2 h)
 have hb:(∀i,i<X db->∀f∈(Y db i (zi zl)).1.t.1,LE.le (α:=Int) 0 (al db f.2)/\∀a∈(Y db i (zi zl)).2,(zN f.1 a).1≠0->ir (aU db f.2) (aU db f.2).1.q.1 (zN f.1 a)=O)↔HD db:=
  aT (Q:=λx:ae=>∀f∈x.1.t.1,LE.le (α:=Int) 0 (al db f.2)/\∀a∈x.2,(zN f.1 a).1≠0->ir (aU db f.2) (aU db f.2).1.q.1 (zN f.1 a)=O)
 have e:(ztz db).val=M (.inl (.h2 db ((0:Nat):Int))):=rfl;rcases v with⟨v,E⟩|⟨v,r,E,h4⟩
 .refine⟨O,zA e (E.ends (zU.of (r:=(.kb O,[])) ?_)) W rfl,λ_=>hb.1 v,λ_=>rfl⟩;simp only[up,Q8,zM];rfl
 .unfold IsF at h4;subst h4;exact⟨S,zA e E W rfl,λh=>(by cases h),λh=>zz (hb.2 h) v⟩
variable {l:zS}
theorem Lv(D:∀x∈l,JZ x):∃e:Int,r8 l=M (e,())/\(e=0↔jo l):=by
 by_cases v:X l<=12
 case neg=>
  refine⟨13,?_,λh=>(by cases h),λh=>zz h.few v⟩;unfold r8 ar bT;simp only[i9p,Q8];rw[zf sg];rfl
 have c:(i9p l).val=M (.inl (.h4 l ((0+1:Nat):Int))):=by
  simp only[i9p,Q8];rw[zh sg];rfl
 have n:=nG (t:=t9p) (Φ:=Err) 1 (λi=>.h4 l ((i+1:Nat):Int)) (λi=>Op.bytesLess (Y l i (zi zl)).1.1 (Y l (i+1) (zi zl)).1.1=O) (X l-1) (by
  intro i c _;have E:i<X l:=by omega
  have B:i+1<X l:=by omega
  have s:(t9p (.h4 l ((i+1:Nat):Int))).val=if(!Op.bytesLess (Y l i (zi zl)).1.1 (Y l (i+1) (zi zl)).1.1)=O then M (.inr (L 15,[]))else M (.inl (.h4 l ((i+1+1:Nat):Int))):=by
   simp only[t9p,gN i um];simp only[Q8,zO B,zx B,zx E,aJ,zj];rw[zu (i+1) um]
  by_cases h:Op.bytesLess (Y l i (zi zl)).1.1 (Y l (i+1) (zi zl)).1.1=O
  .exact .inl ⟨h,zH.of (by rw[s,zh (by rw[h];simp)])⟩
  .exact .inr ⟨h,_,zU.of (by rw[s,zf (by simpa using h)]),15,rfl,by decide⟩)
 rcases n with⟨z,n⟩|⟨z,r,n,e,m,g⟩
 case inr=>
  subst m;exact⟨e,zA c n W rfl,λh=>zz h g,λh=>zz h.names z⟩
 have A:(t9p (.h4 l ((X l-1+1:Nat):Int))).val=M (.inl (.h9 l ((0:Nat):Int))):=by
  simp only[t9p,Q8];rw[zh sg];rfl
 have w:=n.trans (zH.of A);have k:=nG (t:=t9p) (Φ:=Err) 1 (λi=>.h9 l (i:Int)) (λi=>dV (Y l i (zi zl))) (X l) (by
  intro i c _;have⟨e,m,p⟩:=Ln (D _ (cB (d:=zi zl) c));have y:FW (Y l i (zi zl))=O:=by unfold FW;rw[m];rfl
  have j:Lm (Y l i (zi zl))=e:=by unfold Lm;rw[m];rfl
  have s:(t9p (.h9 l (i:Int))).val=if(e !=0)=O then M (.inr (L e,[]))else M (.inl (.h9 l ((i+1:Nat):Int))):=by
   simp only[t9p,Q8,zo,zO c,zx c,aJ,zj,bh,y,j];rw[zu i um]
  by_cases h:e=0
  .exact .inl ⟨p.1 h,zH.of (by rw[s,zh (by rw[h];simp)])⟩
  .exact .inr ⟨λq=>h (p.2 q),_,zU.of (by rw[s,zf (by simpa using h)]),e,rfl,h⟩)
 rcases k with⟨q,k⟩|⟨q,r,k,e,m,g⟩
 case inr=>
  subst m;exact⟨e,zA c (w.ends k) W rfl,λh=>zz h g,λh=>zz ((aT (Q:=dV)).2 h.rels) q⟩
 have a:=(aT (Q:=dV)).1 q;have⟨b,C,o⟩:=Lt (db:=l) a D W;have y:FY l=O:=by unfold FY;rw[C];rfl
 have j:Ls l=b:=by unfold Ls;rw[C];rfl
 have u:(t9p (.h9 l (X l:Int))).val=if(!b)=O then M (.inr (L 10,[]))else M (.inr (L 0,[])):=by
  simp only[t9p,Q8,zM,y,j];rfl
 by_cases h:b=O
 .exact⟨0,zA c (w.ends (k.ends (zU.of (by rw[u,zh (by rw[h];simp)])))) W rfl,λ_=>⟨v,z,a,o.1 h⟩,λ_=>rfl⟩
 .exact⟨10,zA c (w.ends (k.ends (zU.of (by rw[u,zf (by simpa using h)])))) W rfl,λh=>(by cases h),λF=>zz (o.2 F.bound) h⟩
theorem E1(x:Int):∀(l:List Int)(i:Nat),(∃j,∃g:j<X l,fD x l (i:Int)=((i+j:Nat):Int)/\l[j]=x/\∀k(d:k<j),l[k]≠x)\/(fD x l (i:Int)=(-1:Int)/\x∉l)
 |[],i=>.inr ⟨rfl,sw⟩
 | a::r,i=>by
  rw[fD];by_cases h:x=a
  .rw[zf (by simpa using h)];exact .inl ⟨0,sw,sw,h.symm,λk d=>zz d W⟩
  .rw[zh (by simpa using h),show((i:Int)+1)=((i+1:Nat):Int) by omega];rcases E1 x r (i+1)with⟨j,g,b,c,m⟩|⟨b,c⟩
   .refine .inl ⟨j+1,by simpa using g,by rw[b];congr 1;omega,c,λk d=>?_⟩;cases k with
    |zero=>exact λe=>h e.symm
    |succ k=>exact m k W
   .exact .inr ⟨b,by simp[c,h]⟩
theorem E2(l:List Int)(x:Int):(∃j,∃a:j<X l,iC l x=(j:Int)/\l[j]=x/\∀k(d:k<j),l[k]≠x)\/(iC l x=(-1:Int)/\x∉l):=by
 rcases E1 x l 0 with⟨j,a,b,c⟩|h
 .exact .inl ⟨j,a,by show fD x l ((0:Nat):Int)=_;rw[b,eV],c⟩
 .exact .inr h
def SB(c:cF):Prop:=aA c.1=O/\LE.le (α:=Int) 1 c.2.1/\LE.le (α:=Int) c.2.1 3
theorem kx.col(h:kx t):∀c∈t.2.1,SB c:=by intro c a;obtain⟨i,x,rfl⟩:=fK a;have:=h.cols i x;rw[bx,af x,bI]at this;exact⟨this.1,this.2.1,this.q.1⟩
variable {a:zK}
theorem zaU(h:¬LT.lt (α:=Int) (zY t a) 0):Z (zY t a)<X t.2.1:=by
 rcases yn t a with x|⟨x,b⟩
 .rw[x]at h;simp at h
 .omega
theorem kx.at(h:kx t){s:zK}(x:¬LT.lt (α:=Int) (zY t s) 0):SB (Y t.2.1 (Z (zY t s)) (Q zn)):=h.col _ (oG _ _ (zaU x))
theorem wR(x:jo l)(h:(0:Int)<=al l a):kx (ag l a):=(iH _).1 (x.rels _ (oF h)).may
theorem R6(d:mR 16 e=O)(h:cy e=O):gJ e c=Vy e c:=by
 have b:=(Gw 16 e (.mk [] (0,0,[]) [] []) d).2;unfold gJ Vy;by_cases a:e=.mk [] (0,0,[]) [] []
 .rw[zf (b.2 a)];subst a;rfl
 .have g:dU e=O:=by
   unfold cy at h;rcases zV (iz e)with x|x
   .exact zz (lH.1 x) a
   .rw[x]at h;exact h
  rw[zh λk=>a (b.1 k),Qy g];rfl
theorem W8(h:qn t=0)(a:mR 16 t.u=O)(c:cy t.u=O):(∀i,i<X t.2.1->aO t.2.1 (Y t.2.1 i (Q zn)).1=(i:Int))/\gJ t.u t.2.1=(0:Int):=by
 unfold qn at h;split at h
 .cases h
 .rename_i d;refine⟨λi b=>?_,?_⟩
  .apply kz;intro x;exact d ⟨i,b,x⟩
  .rw[R6 a c];exact h
variable {k:Int}
theorem Ao(h:(iA k p).1=0):k=0/\qn p.r.1=0/\iA k p=(0,p):=by
 unfold iA at h|-;by_cases c:k=0
 .rw[zf c]at h|-;by_cases d:qn p.r.1=0
  .rw[zf d];exact⟨c,d,rfl⟩
  .rw[zh d]at h;exact zz h d
 .rw[zh c]at h;exact zz h c
theorem WV{f w t:zK}(h:nW l f w t=0):∀n∈bY f w,LE.le (α:=Int) 0 (al l n):=by
 unfold nW at h;split at h
 .assumption
 .cases h
theorem tk(h:gS t n=0):(∀s∈n,¬LT.lt (α:=Int) (zY t s) 0)/\(js t n).Nodup:=by
 unfold gS at h;split at h
 .rename_i x;split at h
  .exact⟨x,by assumption⟩
  .cases h
 .cases h
theorem Fu(k:Nat):∀n:Nat,(xm (k:Int) n).length=if k<n then n-1 else n
 |0=>rfl
 | n+1=>by
  rw[AK];have:=Fu k n;by_cases h:n=k
  .subst h;rw[zh sw,this,zh W,zf W];omega
  .rw[zf sg,g9,this];by_cases x:k<n
   .rw[zf x,zf W];simp;omega
   .rw[zh x,zh W];rfl
theorem zfx{j:Nat}(h:j∈xm k i):j<i:=by unfold xm at h;simpa using(List.mem_filter.1 h).1
theorem Jf(b:wk s)(a:eZ s=O)(c:kF s.1):aA s.2.1=O/\cy s.x.1=O/\(s.1=dD->1<=X s.r.1/\X s.r.1<=8)/\(s.1=gO->aA s.p=O)/\(s.1=pp->X s.r.1=2):=by
 have h:=kN a;rcases c with o|o|o
 .rw[T9 b o]at h;simp only[aP,mu,ba]at h;exact⟨h.2.1,h.1.2.1,λ_=>h.1.1.2,λk=>(by rw[o]at k;cases k),λk=>(by rw[o]at k;cases k)⟩
 .rw[Ua b o]at h;simp only[aP,pQ]at h;exact⟨h.2.1,h.1.1,λk=>(by rw[o]at k;cases k),λ_=>h.1.q.1,λk=>(by rw[o]at k;cases k)⟩
 .rw[OL b o]at h;simp only[aP,iL,ba]at h;exact⟨h.2.1,h.1.2.1,λk=>(by rw[o]at k;cases k),λk=>(by rw[o]at k;cases k),λ_=>h.1.1⟩
theorem Mr(o:aA a=O)(g:1<=X c)(j:X c<=8)(l:∀h∈c,SB h)(m:Hq k (X c))(b:(Y c (Z k) (Q zn)).q=O)
  (p:qn (a,c,k,[],[],e)=0) (x:mR 16 e=O) (n:cy e=O):dt (a,c,k,[],[],e)=O:=by have⟨s,u⟩:=W8 p x n;refine(iH _).2 ⟨o,g,j,λi d=>?_,sw,sw,m,b,u⟩;have:=l _ (oG c (Q zn) d);exact⟨this.1,this.2.1,this.q,s i d⟩
theorem zaY(hB:jo l)(z:wk s)(h:(bm l s).1=0):dt (bm l s).t.1=O:=by
 unfold bm at h|-;by_cases c:kF s.1/\eZ s=O/\kV l=(0:Int);rotate_left
 .rw[zh c]at h;exact zz h (by decide)
 rw[zf c]at h|-;by_cases y:nW l s.q.1 s.p s.2.1=0;rotate_left
 .rw[zh y]at h;exact zz h y
 rw[zf y]at h|-;have d:=WV y;have⟨G,v,m1,m2,m3⟩:=Jf z c.2.1 c.1;have g:kx (ag l s.q.1):=wR hB (d _ (by unfold bY;split<;>simp));unfold cJ at h|-;by_cases o1:(s.1==dD)=O
 .rw[zf o1]at h|-;have⟨e,n,o⟩:=Ao h;rw[o];have hl:=m1 (bQ o1);unfold ui at e;split at e;rotate_left
  .exact zz e (by assumption)
  rename_i H;split at e
  .cases e
  rename_i F;have⟨U,p2⟩:=tk H;have u:(dN (ag l s.q.1) s.r.1).length=X s.r.1:=by unfold dN;simp
  have h1:(js (ag l s.q.1) s.r.1).length=X s.r.1:=by unfold js;simp
  rcases E2 (js (ag l s.q.1) s.r.1) (ag l s.q.1).q.1 with⟨j,D,B,q2,_⟩|⟨B,_⟩;rotate_left
  .exact zz (by rw[B];decide) F
  have E:j<X s.r.1:=by omega
  refine Mr G W W ?_ ?_ ?_ n z.cchk v
  .intro x a;obtain⟨s',m,rfl⟩:=aI.1 a;exact g.at (U s' m)
  .rw[B];exact⟨W,W⟩
  .rw[B,aJ];have a:(js (ag l s.q.1) s.r.1)[j]=zY (ag l s.q.1) s.r.1[j]:=List.getElem_map _;have hy:Y (dN (ag l s.q.1) s.r.1) j (Q zn)=Y (ag l s.q.1).2.1 (Z (zY (ag l s.q.1) s.r.1[j])) (Q zn):=by
    unfold dN;rw[bx,dK,af E];rfl
   rw[hy,<-a,q2];exact g.nn
 rw[zh o1]at h|-;by_cases o2:(s.1==gO)=O
 .rw[zf o2]at h|-;have⟨e,n,o⟩:=Ao h;rw[o];have hr:=m2 (bQ o2);have w:s.p≠[]:=by intro k;rw[k]at hr;cases hr
  have P:eC l s.p=ag l s.p:=by unfold eC;rw[zh w]
  have C:kx (ag l s.p):=wR hB (d _ (by unfold bY;rw[zh (by simpa using w)];simp));rw[P]at e n|-;unfold gj at e;split at e
  .cases e
  split at e;rotate_left
  .cases e
  split at e
  .cases e
  rename_i u;have A:=g.key;have k2:=C.key;have u1:=C.n1;have t1:=g.n1;have b:(iS (ag l s.p) (X (ag l s.p).2.1)).length=(ag l s.p).2.1.length-1:=by
   unfold iS;rw[cW];obtain⟨k,F⟩:∃k:Nat,(ag l s.p).q.1=(k:Int):=⟨_,(Int.toNat_of_nonneg k2.1).symm⟩;have:=k2.2;rw[F]at this|-;rw[Fu,zf W]
  refine Mr G ?_ ?_ ?_ ?_ ?_ n z.cchk v
  .rw[g9];omega
  .rw[g9,b];omega
  .intro x a;rcases cZ.1 a with a|a
   .exact g.col x a
   .obtain⟨j,D,rfl⟩:=aI.1 a;exact C.col _ (oG _ _ (zfx D))
  .rw[g9];exact⟨A.1,by have:=A.2;omega⟩
  .rw[bx,qK (by have:=A.2;have:=A.1;omega),<-bx];exact g.nn
 rw[zh o2]at h|-;by_cases o3:(s.1==pp)=O
 .rw[zf o3]at h|-;have⟨e,n,o⟩:=Ao h;rw[o];have hl:=m3 (bQ o3);unfold qP at e;split at e;rotate_left
  .exact zz e (by assumption)
  rename_i H;have⟨U,_⟩:=tk H;have hc:∀j,j<2->SB ((dN (ag l s.q.1) s.r.1).getD j (Q zn)):=by
   intro j D;have v:=oG (dN (ag l s.q.1) s.r.1) (Q zn) (i:=j) (by unfold dN;rw[cW];omega);have⟨s',m,he⟩:=aI.1 v;rw[<-he];exact g.at (U s' m)
  refine Mr G (by unfold uk;simp) (by unfold uk;simp) ?_ ⟨by decide,by show(0:Int)<((2:Nat):Int);decide⟩ rfl n z.cchk v;intro x a;unfold uk at a;simp only[bX,List.not_mem_nil,or_false]at a;rcases a with rfl|rfl
  .exact hc 0 W
  .exact hc 1 W
 .rw[zh o3]at h;exact zz h (by decide)
abbrev rN(e:Int):az:=(.tup [zPl,L e],[])
def yG(r:az)(x:Int×ao):Prop:=bb r.2 [an,zk] r.1=M (x.2,x.1,())
theorem eQ(e:Int):yG (rN e) (e,ls):=rfl
structure Bf (s:zP):Prop where
 wf:vd s.x.1
 may:(s.x.1.op==[])=S->dU s.x.1=O
theorem znU(k:Bf s)(a:Nat->lZ)(R:az)(A:yG R (0,p))(q:p.r.1.u=s.x.1)(B:X p.r.1.2.1<=1000)
  (y:∀i,i<X p.r.1.2.1->(eA (a i)).val=if fq p.r.1.2.1 (Y p.r.1.2.1 i (Q zn)).1=O then(ite ((gX p.r.1.2.1 (Y p.r.1.2.1 i (Q zn)).1!=(i:Int))=O) (M (.inr (rN 7))) (M (.inl (a (i+1)))))else none)
  (z:(eA (a (X p.r.1.2.1))).val=if qd s.x.1 p.r.1.2.1=O then(ite ((r7 s.x.1 p.r.1.2.1!=0)=O) (M (.inr (rN (r7 s.x.1 p.r.1.2.1)))) (M (.inr R)))else none):
  ∃r,zU eA (X p.r.1.2.1*1+1) (a 0) r/\yG r (iA 0 p):=by
 have n:∀i,i<X p.r.1.2.1->(eA (a i)).val=if aO p.r.1.2.1 (Y p.r.1.2.1 i (Q zn)).1=(i:Int)then M (.inl (a (i+1)))else M (.inr (rN 7)):=by
  intro i h;rw[y i h,zf (qc W),tK W];by_cases c:aO p.r.1.2.1 (Y p.r.1.2.1 i (Q zn)).1=(i:Int)
  .rw[zf c,zh (by simpa using c)]
  .rw[zh c,zf (by simpa using c)]
 have⟨v,w⟩:=zbh (cols:=p.r.1.2.1) k.wf W k.may;rw[w,zf v,<-q]at z;have l:qn p.r.1=if∃i,i<X p.r.1.2.1/\zY p.r.1 (Y p.r.1.2.1 i (Q zn)).1≠(i:Int)then 7 else Vy p.r.1.u p.r.1.2.1:=rfl
 unfold iA;rw[zf rfl,l]
 rcases nG (t:=eA) (Φ:=λr=>r=rN 7) 1 a (λi=>aO p.r.1.2.1 (Y p.r.1.2.1 i (Q zn)).1=(i:Int)) (X p.r.1.2.1) (λi b _=>by
  grind[zH.of,zU.of])with⟨d,g⟩|⟨d,r,g,rfl⟩
 .have j:¬∃i,i<X p.r.1.2.1/\zY p.r.1 (Y p.r.1.2.1 i (Q zn)).1≠(i:Int):=by
   rintro⟨i,b,e⟩;exact e (d i b)
  rw[zh j];by_cases c:Vy p.r.1.u p.r.1.2.1=0
  .rw[zh (by simpa using c)]at z;rw[zf c];exact⟨_,(g.ends (zU.of z)).mono W,A⟩
  .rw[zf (by simpa using c)]at z;rw[zh c];exact⟨_,(g.ends (zU.of z)).mono W,eQ _⟩
 .have o:∃i,i<X p.r.1.2.1/\zY p.r.1 (Y p.r.1.2.1 i (Q zn)).1≠(i:Int):=by
   apply kz;intro j;refine d λi b=>?_
   apply kz;exact λm=>j ⟨i,b,m⟩
  rw[zf o,zh (by decide)];exact⟨_,g.mono W,eQ _⟩
abbrev plQ(z:zq VB):ao:=(z.1,z.2.1,z.q.1,(z.r.1,z.t.1,z.u.1,[],[],z.v.1),z.w.1,z.x.1)
theorem zu1(d:Bf s)(a:zq kY)(z:zq zmn)(b:z.v.1=s.x.1)(c:X z.t.1<=1000):
  ∃r,zU eA (X z.t.1*1+1) (.h64 ((0:Nat):Int) (s,()) a z) r/\yG r (iA 0 (plQ z)):=by
 refine znU d (p:=plQ z) (λi=>.h64 (i:Int) (s,()) a z) ?R ?h b c (λi h=>?_) ?v
 case v=>
  simp only[eA,rE,Q8,zM,zo,zC,zm];rfl
 rotate_left
 .grind[eA,Q8,zx,zu,aE]
 unfold yG;clear b;have⟨g,a,j,k,l,m,e,n,o,q⟩:=z;cases e;rfl
theorem zu2(d:Bf s)(a:zq kY)(z:zq VB)(b:z.v.1=s.x.1)(c:X z.t.1<=1000):
  ∃r,zU eA (X z.t.1*1+1) (.h64bb ((0:Nat):Int) (s,()) a z) r/\yG r (iA 0 (plQ z)):=by
 refine znU d (p:=plQ z) (λi=>.h64bb (i:Int) (s,()) a z) ?R ?h b c (λi h=>?_) ?v
 case v=>
  simp only[eA,rE,Q8,zM,zo,zC,zm];rfl
 rotate_left
 .grind[eA,Q8,zx,zu,aE]
 unfold yG;clear b;have⟨g,a,j,k,l,m,e,n,o,q⟩:=z;cases e;rfl
theorem zu3(d:Bf s)(a:zq kY)(z:zq Yg)(b:z.v.1=s.x.1)(c:X z.t.1<=1000):
  ∃r,zU eA (X z.t.1*1+1) (.h64bbb ((0:Nat):Int) (s,()) a z) r/\yG r (iA 0 (plQ z)):=by
 refine znU d (p:=plQ z) (λi=>.h64bbb (i:Int) (s,()) a z) ?R ?h b c (λi h=>?_) ?v
 case v=>
  simp only[eA,rE,Q8,zM,zo,zC,zm];rfl
 rotate_left
 .grind[eA,Q8,zx,zu,aE]
 unfold yG;clear b;have⟨g,a,j,k,l,m,e,n,o,q⟩:=z;cases e;rfl
def BR(k:Int)(l:List Int):Nat->Int
 |0=>-1
 |i+1=>if l.getD i 0=k then(i:Int)else BR k l i
theorem Ok{k:Int}{h:List Int}{i:Nat}(a:i<X h)(b:h[i]=k)(c:h.Nodup):∀x,x<=X h->BR k h x=if i<x then(i:Int)else -1
 |0,_=>rfl
 | x+1,d=>by
  rw[BR,Ok a b c x W,bx,af (by omega:x<X h),bI];grind[List.pairwise_iff_getElem]
theorem Ol{k:Int}{h:List Int}(x:k∉h):∀i,i<=X h->BR k h i=-1
 |0,_=>rfl
 | i+1,a=>by
  rw[BR,Ol x i W,bx,af (by omega:i<X h),bI,zh];rintro rfl;exact x (bp _)
theorem Z4(x:h.Nodup):BR k h (X h)=iC h k:=by grind[E2,Ok,Ol]
variable {d:zK}{on:Int}
theorem zy4(u:Bf s)(z:zq kY){b c:zK}{l:List Int}(o:X l<=1000)(p:l.Nodup)(g:∀x∈l,zL x (X t.2.1)=O):
  ∃r k,zU eA k (.h24 ((0:Nat):Int) (s,()) z (a,b,c,d,[],-1,s.x.1,l,on,()) (t,())) r/\k<=10000/\
   yG r (iA (if LT.lt (α:=Int) (iC l t.q.1) 0 then 1 else 0) (a,b,c,(d,l.map (λx=>Y t.2.1 (Z x) (Q zn)),iC l t.q.1,[],[],s.x.1),l,on)):=by
 have e:=zH.all (t:=eA) 1 (λi=>.h24 (i:Int) (s,()) z (a,b,c,d,(l.take i).map (λx=>Y t.2.1 (Z x) (Q zn)),BR t.q.1 l i,s.x.1,l,on,()) (t,())) (X l) (by
  intro i j;refine zH.of ?_;have v:Y l ((i:Int).toNat) (Q zk)=l[i]:=zW l _ j;have w:zL l[i] (X t.2.1)=O:=g _ (bp j);grind[BR,eA,Q8,zx,zu,aE,bE])
 rw[gB,Z4 p]at e;by_cases h:LT.lt (α:=Int) (iC l t.q.1) 0
 .rw[zf h];refine⟨rN 1,_,e.ends (zU.of ?_),W,eQ 1⟩;grind[eA,Q8]
 .rw[zh h];have⟨r,m,n⟩:=zu2 u z (a,b,c,d,l.map (λx=>Y t.2.1 (Z x) (Q zn)),iC l t.q.1,s.x.1,l,on,()) rfl (by simpa using o);refine⟨r,_,e.ends ((zH.of ?_).ends m),sg,n⟩;grind[eA,Q8]
theorem BL(a:Int)(b:zK):∀(l:dJ)(i:Nat),GE.ge (α:=Int) (jr a b l (i:Int)) 0↔(a,b)∈l
 | [],i=>by
  grind[jr]
 | x::r,i=>by
  rw[jr];split
  .simp_all
  next h=>have:=BL a b r (i+1);grind
theorem pI(l:dJ)(x:cw):jX l x=O↔x∈l:=by unfold jX;rw[decide_eq_true_iff];exact BL x.1 x.2 l 0
def nM(on:Int)(w:zK)(l:dJ):Bool:=l.any λf=>f.1==on&&f.2==w
theorem QY(o:Int)(w:zK)(l:dJ):nM o w l=jX l (o,w):=by grind[pI,nM]
theorem BG(o:Int)(w:zK)(l:dJ)(f:cw):nM o w (l++[f])=bif nM o w l then O else bif f.1==o then f.2==w else S:=by grind[nM]
theorem zy6(n:Bf s)(z:zq kY){u:am}{b c:zK}(o:X t.2.1<=100)(p:X u.2.1<=100):
  ∃r k,zU eA k (.h48 ((0:Nat):Int) (s,()) z (a,b,c,d,t.2.1,t.q.1,s.x.1,[],on,()) (u,())) r/\k<=10000/\
   yG r (iA 0 (a,b,c,(d,t.2.1++iS u (X u.2.1),t.q.1,[],[],s.x.1),nN u.q.1 (X u.2.1),on)):=by
 have m:=zH.all (t:=eA) 1 (λi=>.h48 (i:Int) (s,()) z (a,b,c,d,t.2.1++iS u i,t.q.1,s.x.1,nN u.q.1 i,on,()) (u,())) (X u.2.1) (by
  grind[zH.of,mv,AK,nN,iS,eA,Q8,zx,zu,aE])
 have v:(iS u (X u.2.1)).length<=100:=by have:=mv u.q.1 (X u.2.1);unfold iS;rw[cW];omega
 have⟨r,g,j⟩:=zu3 n z (a,b,c,d,t.2.1++iS u (X u.2.1),t.q.1,s.x.1,nN u.q.1 (X u.2.1),on,()) rfl sg;have l:zH eA 1 (.h48 (X u.2.1:Int) (s,()) z (a,b,c,d,t.2.1++iS u (X u.2.1),t.q.1,s.x.1,nN u.q.1 (X u.2.1),on,()) (u,())) (.h64bbb ((0:Nat):Int) (s,()) z (a,b,c,d,t.2.1++iS u (X u.2.1),t.q.1,s.x.1,nN u.q.1 (X u.2.1),on,())):=zH.of (by
  simp only[eA,Q8,zM];rfl)
 have e:t.2.1++iS u 0=t.2.1:=wn _;have h:=m.ends (l.ends g);rw[e]at h;exact⟨r,_,h,sg,j⟩
theorem zy5(A:Bf s)(z:zq kY){u:am}{b c:zK}{k0:Int}(B:X t.2.1<=100)(C:X u.2.1<=100)(E:X t.t.1<=1000):
  ∃r k,zU eA k (.h38 ((0:Nat):Int) (s,()) z (a,b,c,d,k0,s.x.1,on,()) (t,()) (u,())) r/\k<=20000/\
   yG r (iA (if jX t.t.1 (on,s.p)=O then(if LT.lt (α:=Int) 9 ((X t.2.1:Int)+(X u.2.1:Int))then 13 else 0)else 10) (a,b,c,(d,t.2.1++iS u (X u.2.1),t.q.1,[],[],s.x.1),nN u.q.1 (X u.2.1),on)):=by
 rw[<-QY];by_cases l:0<X t.t.1
 .have g:zH eA 1 (.h38 ((0:Nat):Int) (s,()) z (a,b,c,d,k0,s.x.1,on,()) (t,()) (u,())) (.h38b (nM on s.p (t.t.1.take (0+1))) ((0+1:Nat):Int) (s,()) z (a,b,c,d,k0,s.x.1,on,()) (t,()) (u,())):=zH.of (by
   have e:t.t.1.take (0+1)=[]++[t.t.1[0]]:=bE l;rw[e,BG];simp only[eA,rE,Q8,zO l,zx l,zj,zW _ _ l];rw[zu 0 um];cases((t.t.1[0]).1==on)<;>rfl)
  have n:=zH.all (t:=eA) 1 (λi=>.h38b (nM on s.p (t.t.1.take (i+1))) ((i+1:Nat):Int) (s,()) z (a,b,c,d,k0,s.x.1,on,()) (t,()) (u,())) (X t.t.1-1) (by
   intro i j;have j:i+1<X t.t.1:=by omega
   refine zH.of ?_;rw[bE j,BG];simp only[eA,rE,Q8,zO j,zx j,zW _ _ j];rw[zu (i+1) um];simp_all)
  have y:X t.t.1-1+1=X t.t.1:=by omega
  rw[y,gB]at n;have F:Γ Δ ((X t.2.1:Int)+(X u.2.1:Int))=(X t.2.1:Int)+(X u.2.1:Int):=mO _ W W;by_cases m:nM on s.p t.t.1=O
  .rw[zf m];by_cases o:LT.lt (α:=Int) 9 ((X t.2.1:Int)+(X u.2.1:Int))
   .rw[zf o];refine⟨rN 13,_,(g.trans n).ends (zU.of ?_),W,eQ 13⟩;grind[eA,Q8]
   .rw[zh o];have⟨r,k,v,D,w⟩:=zy6 A z (a:=a) (b:=b) (c:=c) (d:=d) (on:=on) B C;refine⟨r,_,(g.trans n).ends ((zH.of ?_).ends v),W,w⟩;grind[eA,Q8]
  .rw[zh m];have m:nM on s.p t.t.1=S:=by simpa using m
   refine⟨rN 10,_,(g.trans n).ends (zU.of ?_),W,eQ 10⟩;grind[eA,Q8]
 .have h:t.t.1=[]:=Dz W;rw[h,zh (by unfold nM;simp)];refine⟨rN 10,1,zU.of ?_,W,eQ 10⟩;simp only[eA,rE,Q8,h];rfl
theorem CC(h:k≠0):iA k p=(k,ls):=by unfold iA;rw[zh h]
theorem Ye(t:am)(n:List zK):dN t n=(js t n).map λx=>Y t.2.1 (Z x) (Q zn):=by unfold dN js;rw[qx];rfl
theorem of7{e:zS}(hB:jo e)(hw:wk s)(h6:eZ s=O)(hm:kF s.1)(hb:kV e=(0:Int))(h0:∀x∈e,JZ x)(H:zq kY):
  ∃r k,zU eA k (.h7 e (bY s.q.1 s.p) ((0:Nat):Int) (s,()) H (s.1,s.q.1,s.p,s.2.1,0,s.x.1,0,())) r/\k<=90000/\yG r (bm e s):=by
 have⟨x7,x5,m1,m2,m3⟩:=Jf hw h6 hm;have hs:Bf s:=⟨hw.chk,λh=>by
  grind[cy,iz]⟩
 have hP:bm e s=if nW e s.q.1 s.p s.2.1=0 then cJ e s else(nW e s.q.1 s.p s.2.1,ls):=by
  unfold bm;rw[zf ⟨hm,h6,hb⟩]
 have x6:(bY s.q.1 s.p).length<=2:=by unfold bY;split<;>simp
 rw[hP];clear hP
 rcases nG (t:=eA) (Φ:=λr=>r=rN 6) 1 (λi=>.h7 e (bY s.q.1 s.p) (i:Int) (s,()) H (s.1,s.q.1,s.p,s.2.1,0,s.x.1,0,())) (λi=>∀h:i<(bY s.q.1 s.p).length,LE.le (α:=Int) 0 (al e (bY s.q.1 s.p)[i])) (bY s.q.1 s.p).length (λi hi _=>by
  have hv:(eA (.h7 e (bY s.q.1 s.p) (i:Int) (s,()) H (s.1,s.q.1,s.p,s.2.1,0,s.x.1,0,()))).val=if LT.lt (α:=Int) (al e (bY s.q.1 s.p)[i]) 0 then M (.inr (rN 6))else M (.inl (.h7 e (bY s.q.1 s.p) ((i+1:Nat):Int) (s,()) H (s.1,s.q.1,s.p,s.2.1,0,s.x.1,0,()))):=by
   simp only[eA,rE,Q8,zO hi,zx hi,zj,zW _ _ hi,ek];rw[zu i um];by_cases c:LT.lt (α:=Int) (al e (bY s.q.1 s.p)[i]) 0
   .rw[zf c,zf (by simpa using c)]
   .rw[zh c,zh (by simpa using c)]
  grind[zU.of,zH.of])with⟨h1,h2⟩|⟨h1,r,h2,rfl⟩
 rotate_left
 .grind[nW,eQ]
 have hA:∀n∈bY s.q.1 s.p,LE.le (α:=Int) 0 (al e n):=by
  intro n y;obtain⟨j,hj,rfl⟩:=fK y;exact h1 j hj hj
 have m:LE.le (α:=Int) 0 (al e s.q.1):=hA _ (by unfold bY;split<;>simp);have hE:nW e s.q.1 s.p s.2.1=if(N (GE.ge (α:=Int) (al e s.2.1) 0)||s.q.1==s.p)=O then 7 else if eP e (bY s.q.1 s.p)=O then 10 else 0:=by
  unfold nW;rw[zf hA]
 have x4:=hB.few;have⟨B,C⟩:=OO (db:=e) (ns:=bY s.q.1 s.p) W (λx hx=>(h0 x hx).short.rf|>λh=>by omega) W;have hT:kx (ag e s.q.1):=wR hB m;have t8:=hT.n8;have h8:=hw.sh.names.1;have v:(bif N (GE.ge (α:=Int) (al e s.2.1) 0)then O else s.q.1==s.p)=(N (GE.ge (α:=Int) (al e s.2.1) 0)||s.q.1==s.p):=by cases N (GE.ge (α:=Int) (al e s.2.1) 0)<;>rfl
 rw[hE];by_cases w:(N (GE.ge (α:=Int) (al e s.2.1) 0)||s.q.1==s.p)=O
 .rw[zf w,zh (by decide)];refine⟨rN 7,_,h2.ends (zU.of ?_),W,eQ 7⟩;grind[eA,Q8,ek]
 rw[zh w];have w:(N (GE.ge (α:=Int) (al e s.2.1) 0)||s.q.1==s.p)=S:=by simpa using w
 by_cases g:eP e (bY s.q.1 s.p)=O
 .rw[zf g,zh (by decide)];refine⟨rN 10,_,h2.ends (zU.of ?_),W,eQ 10⟩;grind[eA,Q8,ek]
 rw[zh g,zf rfl];have g:eP e (bY s.q.1 s.p)=S:=by simpa using g
 have⟨G,A⟩:=ON (t:=ag e s.q.1) (names:=s.r.1) W W;have G:pS (Y e (Z (al e s.q.1)) (Q zl)).1.2.1 s.r.1=O:=G;have A:tp (Y e (Z (al e s.q.1)) (Q zl)).1.2.1 s.r.1=(ite (gS (ag e s.q.1) s.r.1=0) (js (ag e s.q.1) s.r.1) [],gS (ag e s.q.1) s.r.1):=A;unfold cJ;by_cases o1:(s.1==dD)=O
 .rw[zf o1];unfold ui;by_cases o:gS (ag e s.q.1) s.r.1=0
  .rw[zf o];have⟨q1,q2⟩:=tk o;have⟨r,k,P,e2,U⟩:=zy4 hs H (t:=ag e s.q.1) (a:=s.1) (b:=s.q.1) (c:=s.p) (d:=s.2.1) (l:=js (ag e s.q.1) s.r.1) (on:=0) (by unfold js;rw[cW];omega) q2 (by
    intro x hx;obtain⟨n,y,rfl⟩:=aI.1 hx;exact sW (q1 n y))
   rw[Ye];refine⟨r,_,h2.ends ((zH.of ?_).ends P),W,U⟩;rw[zf o,o]at A;simp only[eA,rE,Q8,zM,ek,v,w,B,C,g,eu m,o1,G,A,zj,zC,zm,fL];rfl
  .rw[zh o,CC o];refine⟨_,_,h2.ends (zU.of ?_),W,eQ _⟩;rw[zh o]at A;have E:(gS (ag e s.q.1) s.r.1!=0)=O:=by simpa using o
   simp only[eA,rE,Q8,zM,ek,v,w,B,C,g,eu m,o1,G,A,E,zj,zC,zm]
 rw[zh o1];by_cases o2:(s.1==gO)=O
 .rw[zf o2];have hr:=m2 (bQ o2);have h3:s.p≠[]:=by intro k;rw[k]at hr;cases hr
  have x3:eC e s.p=ag e s.p:=by unfold eC;rw[zh h3]
  have F:LE.le (α:=Int) 0 (al e s.p):=hA _ (by unfold bY;rw[zh (by simpa using h3)];simp);have u8:=(wR hB F).n8;have x2:(ag e s.q.1).t.1.length<=1000:=by have:=(h0 _ (oF m)).short.rf;unfold ag;omega
  have g1:fq (Y e (Z (al e s.q.1)) (Q zl)).1.2.1 s.u.1=O:=qc (by show(ag e s.q.1).2.1.length<=_;omega);have g2:gX (Y e (Z (al e s.q.1)) (Q zl)).1.2.1 s.u.1=zY (ag e s.q.1) s.u.1:=tK (by show(ag e s.q.1).2.1.length<=_;omega);rw[x3];unfold gj;by_cases h4:LT.lt (α:=Int) (zY (ag e s.q.1) s.u.1) 0
  .rw[zf h4,CC (by decide)];refine⟨rN 4,_,h2.ends (zU.of ?_),W,eQ 4⟩;simp only[eA,rE,Q8,zM,ek,v,w,B,C,g,eu m,eu F,o1,o2,g1,g2,zB h4,zj,zC,zm]
  .rw[zh h4];have⟨r,k,P,e2,U⟩:=zy5 hs H (t:=ag e s.q.1) (u:=ag e s.p) (a:=s.1) (b:=s.q.1) (c:=s.p) (d:=s.2.1) (k0:=0) (on:=zY (ag e s.q.1) s.u.1) W W x2;refine⟨r,_,h2.ends ((zH.of ?_).ends P),W,U⟩;simp only[eA,rE,Q8,zM,ek,v,w,B,C,g,eu m,eu F,o1,o2,g1,g2,aC h4,zj,zC,zm];rfl
 rw[zh o2];have o3:(s.1==pp)=O:=by
  rcases hm with k|k|k
  .rw[k]at o1;exact zz rfl o1
  .rw[k]at o2;exact zz rfl o2
  .rw[k];rfl
 rw[zf o3];have h9:=m3 (bQ o3);unfold qP;by_cases o:gS (ag e s.q.1) s.r.1=0
 .rw[zf o];have⟨q1,q2⟩:=tk o;rw[zf o,o]at A;obtain⟨n0,z,y⟩:∃n0 z,s.r.1=[n0,z]:=by
   match s.r.1,h9 with
   |[a,b],_=>exact⟨a,b,rfl⟩
  have i0:zL (zY (ag e s.q.1) n0) (X (Y e (Z (al e s.q.1)) (Q zl)).1.2.1)=O:=sW (q1 n0 (by rw[y];simp));have i1:zL (zY (ag e s.q.1) z) (X (Y e (Z (al e s.q.1)) (Q zl)).1.2.1)=O:=sW (q1 z (by rw[y];simp));have x0:(js (ag e s.q.1) s.r.1).getD (Z 0) (Q zk)=zY (ag e s.q.1) n0:=by rw[y];rfl
  have x1:(js (ag e s.q.1) s.r.1).getD (Z 1) (Q zk)=zY (ag e s.q.1) z:=by rw[y];rfl
  have xl:(js (ag e s.q.1) s.r.1).length=2:=by rw[y];rfl
  have b0:zL 0 2=O:=rfl;have b1:zL 1 2=O:=rfl;have y1:(dN (ag e s.q.1) s.r.1).getD 1 (Q zn)=Y (Y e (Z (al e s.q.1)) (Q zl)).1.2.1 (Z (zY (ag e s.q.1) z)) (Q zn):=by rw[y];rfl
  have y0:(dN (ag e s.q.1) s.r.1).getD 0 (Q zn)=Y (Y e (Z (al e s.q.1)) (Q zl)).1.2.1 (Z (zY (ag e s.q.1) n0)) (Q zn):=by rw[y];rfl
  unfold uk;rw[y1,y0];by_cases h5:(Y (Y e (Z (al e s.q.1)) (Q zl)).1.2.1 (Z (zY (ag e s.q.1) z)) (Q zn)).2.1=(1:Int)
  .rw[zf h5];have⟨r,P,U⟩:=zu1 hs H (s.1,s.q.1,s.p,s.2.1,[((Y (Y e (Z (al e s.q.1)) (Q zl)).1.2.1 (Z (zY (ag e s.q.1) n0)) (Q zn)).1,(Y (Y e (Z (al e s.q.1)) (Q zl)).1.2.1 (Z (zY (ag e s.q.1) n0)) (Q zn)).2.1,O),((Y (Y e (Z (al e s.q.1)) (Q zl)).1.2.1 (Z (zY (ag e s.q.1) z)) (Q zn)).1,(Y (Y e (Z (al e s.q.1)) (Q zl)).1.2.1 (Z (zY (ag e s.q.1) z)) (Q zn)).2.1,S)],0,s.x.1,js (ag e s.q.1) s.r.1,0,()) rfl sw;have D:((Y (Y e (Z (al e s.q.1)) (Q zl)).1.2.1 (Z (zY (ag e s.q.1) z)) (Q zn)).2.1!=1)=S:=by rw[h5];rfl
   refine⟨r,_,h2.ends ((zH.of ?_).ends P),sg,U⟩;simp only[eA,rE,Q8,zM,ek,v,w,B,C,g,eu m,o1,o2,o3,G,A,x0,x1,xl,b0,b1,i0,i1,D,zj,zC,zm,fL];rfl
  .rw[zh h5,CC (by decide)];have D:((Y (Y e (Z (al e s.q.1)) (Q zl)).1.2.1 (Z (zY (ag e s.q.1) z)) (Q zn)).2.1!=1)=O:=by simpa using h5
   refine⟨rN 5,_,h2.ends (zU.of ?_),W,eQ 5⟩;simp only[eA,rE,Q8,zM,ek,v,w,B,C,g,eu m,o1,o2,o3,G,A,x0,x1,xl,b0,b1,i0,i1,D,zj,zC,zm,fL]
 .rw[zh o,CC o];refine⟨_,_,h2.ends (zU.of ?_),W,eQ _⟩;rw[zh o]at A;have E:(gS (ag e s.q.1) s.r.1!=0)=O:=by simpa using o
  simp only[eA,rE,Q8,zM,ek,v,w,B,C,g,eu m,o1,o2,o3,G,A,E,zj,zC,zm]
theorem za7(a:∀x∈l,JZ x)(i:wk s):FC l s=M ((bm l s).2,(bm l s).1,()):=by
 have d:∀x∈l,ii x:=λx A=>(a x A).short
 have⟨e,j,n⟩:=Lv a;have G:FZ l=O:=by unfold FZ;rw[j];rfl
 have H:Lu l=e:=by unfold Lu;rw[j];rfl
 have B:(Wb l s).val=M (.inr (rN 1))->bm l s=(1,ls)->FC l s=M ((bm l s).2,(bm l s).1,()):=by
  intro h v;rw[v];exact zR h (eQ 1)
 have F:∀p:ao,kK p=O/\my p=bY p.2.1 p.q.1:=λp=>⟨uP p,xt p⟩
 by_cases c:kF s.1
 .have⟨t,h⟩:=RZ i c;have C:jB s=O:=by unfold jB;rw[h];rfl
  have D:mD s=(t,eZ s):=by unfold mD;rw[h];rfl
  have z:(cond (!s.1==dD) (cond (!s.1==gO) (!s.1==pp) S) S)=S:=by
   rcases c with k|k|k<;>rw[k]<;>rfl
  by_cases g:eZ s=O
  .by_cases y:e=0
   .have m:=n.1 y;have w:=(iZ d).2 m;have⟨r,k,o,E,u⟩:=of7 m i g c w a ([],[],[],[],0,[],0,0,[],[],0,());refine zA ?_ o W u;grind[Wb,Q8,zo]
   grind[Wb,Q8,zo,bm,iZ]
  grind[Wb,Q8,zo,bm]
 .have⟨t,b,h⟩:=RY i;have C:jB s=O:=by unfold jB;rw[h];rfl
  have D:mD s=(t,b):=by unfold mD;rw[h];rfl
  grind[Wb,Q8,zo,bm]
theorem eL{α:Type}(p:α->Bool):∀(l:List α)(i:Nat),(aj p l i=-1/\∀x∈l,p x=S)\/∃(k:Nat)(h:k<X l),aj p l i=((i+k:Nat):Int)/\p l[k]=O/\∀x∈l.take k,p x=S
 |[],_=>.inl ⟨rfl,sw⟩
 | x::r,i=>by
  unfold aj;split
  next h=>exact .inr ⟨0,sw,rfl,h,sw⟩
  .rename_i h;have d:p x=S:=by simpa using h
   rcases eL p r (i+1)with⟨b,c⟩|⟨k,g,b,c,e⟩
   .refine .inl ⟨b,λy a=>?_⟩;rcases bX.1 a with rfl|a
    .exact d
    .exact c y a
   .refine .inr ⟨k+1,by simpa using g,by rw[b];congr 1;omega,by simpa using c,λy a=>?_⟩;rw[List.take_succ_cons]at a;rcases bX.1 a with rfl|a
    .exact d
    .exact e y a
theorem QZ(h:al l a=(i:Int))(c:l.getD i (Q zl)=b):b.1.1=a:=by
 rcases eL (λy:ae=>y.1.1==a) l 0 with⟨q,_⟩|⟨k,d,e,g,_⟩
 .exfalso;have x:aj (λy:ae=>y.1.1==a) l 0=(i:Int):=h;rw[q]at x;omega
 .have x:aj (λy:ae=>y.1.1==a) l 0=(i:Int):=h;rw[e]at x;obtain rfl:k=i:=by omega
  rw[bx,af d,bI]at c;subst c;simpa using g
def Qv(p:zK->Bool)(t:am):am:=(t.1,t.2.1,t.q.1,t.r.1,t.t.1.filter (λf:cw=>p f.2),t.u)
def jP(p:zK->Bool)(x:ae):ae:=(Qv p x.1,x.2)
variable {x:zK->Bool}
theorem TG(h:dt t=O):dt (Qv x t)=O:=by have h:=(iH t).1 h;exact(iH _).2 ⟨h.name,h.n1,h.n8,h.cols,h.uniq,λf a=>h.refs f (List.mem_filter.1 a).1,h.key,h.nn,h.chk⟩
theorem IW{t:am}{x:zK->Bool}{o:zr}:∀(r:zr)(i:Int),fk (Qv x t) o r i=fk t o r i
 |[],_=>by rw[fk,fk];rfl
 |h::r,i=>by rw[fk,fk,IW r];rfl
theorem NO{t:am}{x:zK->Bool}{o:zr}:∀(r:zr)(i:Int),ic (Qv x t) o r i=ic t o r i
 |[],_=>by rw[ic,ic,IW]
 |h::r,i=>by rw[ic,ic,NO r]
theorem Zg(h:dt t=O)(r:zr):cR (Qv x t) r=cR t r:=by unfold cR;rw[h,TG h,NO];rfl
theorem dV.cut{a:ae}(h:dV a):dV (jP x a) where
 may:=TG h.may
 few:=h.few
 fits:=λr b=>by
  show cR (Qv x a.1) r=0;rw[Zg h.may];exact h.fits r b
 key:=h.key
 uniq:=h.uniq
 rise:=h.rise
theorem zaf(d:jo l){y:ae}(e:b∈l)(k:y∈l)(h:b.1.1=y.1.1):b=y:=by
 have x:l.Pairwise λb y:ae=>Op.bytesLess b.1.1 y.1.1=O:=(xV (R:=λb y:ae=>Op.bytesLess b.1.1 y.1.1=O) iI).1 d.names
 obtain⟨i,a,rfl⟩:=fK e;obtain⟨j,c,rfl⟩:=fK k;rcases Nat.lt_trichotomy i j with g|g|g
 .have:=List.pairwise_iff_getElem.1 x i j a c g;rw[h,cA]at this;cases this
 .subst g;rfl
 .have:=List.pairwise_iff_getElem.1 x j i c a g;rw[h,cA]at this;cases this
theorem kc(h:LE.le (α:=Int) 0 (al l a)):aU l a∈l/\(aU l a).1.1=a:=
 ⟨oF h,QZ (i:=Z (al l a)) (Int.toNat_of_nonneg h).symm rfl⟩
variable {g:zS}
theorem jo.src{p:zK->Bool}(a:jo l)(q:X g<=12)(s:g.Pairwise λx y:ae=>Op.bytesLess x.1.1 y.1.1=O)(h:∀y∈g,∃x∈l,y=jP p x)(u:∀n,p n=O->LE.le (α:=Int) 0 (al g n)):jo g where
 few:=q
 names:=(xV (R:=λx y:ae=>Op.bytesLess x.1.1 y.1.1=O) iI).2 s
 rels:=λy i=>by
  obtain⟨x,d,rfl⟩:=h y i;exact(a.rels x d).cut
 bound:=λy i f v=>by
  obtain⟨x,d,rfl⟩:=h y i;have⟨b,c⟩:=List.mem_filter.1 v;have m:=u f.2 c;refine⟨m,λk w A=>?_⟩;have⟨C,D⟩:=a.bound x d f b;have E:=D k w A;have⟨F,o⟩:=kc m;have⟨z,B,e⟩:=h _ F;have⟨G,H⟩:=kc C;have j:z=aU l f.2:=zaf a B G (by rw[H];rw[e]at o;exact o);rw[e,j];exact E
structure jI (ns:List zK) (t t':am):Prop where
 cols:t'.2.1=t.2.1
 key:t'.q.1=t.q.1
 refs:∀f:cw,f.2∈ns->(f∈t'.t.1↔f∈t.t.1)
section
variable {ns:List zK} {t t':J ab}
theorem jI.place(h:jI ns t t'):zY t'=zY t:=funext λn=>by unfold zY;rw[h.cols]
theorem jI.plc(h:jI ns t t')(l:List zK):gS t' l=gS t l:=by unfold gS;rw[h.place]
theorem jI.ix(h:jI ns t t')(l:List zK):js t' l=js t l:=by unfold js;rw[h.place]
theorem jI.cs(h:jI ns t t')(l:List zK):dN t' l=dN t l:=by unfold dN;rw[h.place,h.cols]
theorem jI.cpy(h:jI ns t t')(l:List zK):ui t' l=ui t l:=by unfold ui;rw[h.plc,h.ix,h.key]
theorem jI.grp(h:jI ns t t')(l:List zK):qP t' l=qP t l/\uk t' l=uk t l:=by unfold qP uk;rw[h.plc,h.cs];exact⟨rfl,rfl⟩
theorem jI.join(h:jI ns t t'){x u:am}(b:jI ns x u){a w:zK}(c:w∈ns):gj t' u a w=gj t x a w:=by
 have:jX t'.t.1 (zY t a,w)=jX t.t.1 (zY t a,w):=by
  rw[ot,pI,pI];exact h.refs (zY t a,w) c
 unfold gj;rw[h.place,this,h.cols,b.cols]
theorem jI.oth(h:jI ns t t')(n:Nat):iS t' n=iS t n:=by unfold iS;rw[h.key,h.cols]
end
abbrev cQ(s:zP):zK:=s.p
theorem Tl(x:b∈l):LE.le (α:=Int) 0 (al l b.1.1):=by
 rcases eL (λy:ae=>y.1.1==b.1.1) l 0 with⟨_,h⟩|⟨k,_,h,_⟩
 .have:=h b x;simp at this
 .have h:al l b.1.1=((0+k:Nat):Int):=h;rw[h];exact Int.natCast_nonneg _
theorem zaZ(k:(bm l s).1=0)(E:kV g=(0:Int))(v:∀n∈bY s.q.1 (cQ s),LE.le (α:=Int) 0 (al g n)/\jI (bY s.q.1 (cQ s)) (ag l n) (ag g n))
  (b:∀x∈g,x.1.1∈bY s.q.1 (cQ s)/\∃y∈l,(y:ae).1.1=x.1.1) (G:s.1=gO->cQ s≠[]):bm g s=bm l s/\bm l s=cJ l s:=by
 unfold bm at k;split at k
 case isFalse=>cases k
 rename_i w;split at k
 case isFalse h=>exact zz k h
 rename_i j;have c:bm l s=cJ l s:=by unfold bm;rw[zf w,zf j]
 refine⟨?_,c⟩;rw[c];have m:nW g s.q.1 (cQ s) s.2.1=0:=by
  unfold nW at j|-;split at j
  case isFalse=>cases j
  rw[zf λn F=>(v n F).1];split at j
  case isTrue=>cases j
  rename_i C;have D:¬(N (GE.ge (α:=Int) (al g s.2.1) 0)||s.q.1==cQ s)=O:=by
   intro d;apply C;rcases(ou _ _).mp d with d|d
   .have p:LE.le (α:=Int) 0 (al g s.2.1):=lm d;have⟨U,m2⟩:=kc p;have⟨_,y,P,e⟩:=b _ U;have:=Tl P;rw[e,m2]at this;rw[ou];exact .inl (zB this)
   .rw[ou];exact .inr d
  rw[zh D,zh];unfold eP;intro d;have⟨x,H,p⟩:=List.any_eq_true.1 d;rw[(mq _ _).2 (b x H).1]at p;simp at p
 have i:s.q.1∈bY s.q.1 (cQ s):=by unfold bY;split<;>simp
 have a:=(v _ i).2;unfold bm;rw[zf ⟨w.1,w.2.1,E⟩,zf m];unfold cJ;by_cases o1:(s.1==dD)=O
 .rw[zf o1,zf o1,a.cpy,a.cs,a.ix,a.key]
 rw[zh o1,zh o1];by_cases o2:(s.1==gO)=O
 .have z:=G (bQ o2);have o:cQ s∈bY s.q.1 (cQ s):=by
   unfold bY;rw[zh (by simpa using z)];simp
  have u:=(v _ o).2;have A:eC g (cQ s)=ag g (cQ s):=by unfold eC;rw[zh z]
  have B:eC l (cQ s)=ag l (cQ s):=by unfold eC;rw[zh z]
  rw[zf o2,zf o2,A,B,a.join u o,a.cols,a.key,a.place,u.cols,u.key,u.oth]
 rw[zh o2,zh o2,(a.grp _).1,(a.grp _).2,a.ix]
theorem J2{g c b:Bool}(h:(g&&(cond c b S))=O):b=O:=by cases g<;>cases c<;>simp_all
theorem zfh(h:iu s=O)(sh:nI s)(ho:kF s.1):
  s.t.1=[]/\s.v.1=[]/\s.w.1=[]/\s.y.1=[]/\s.z.1=[]/\s.s.1=gw/\(ite (s.1=gO) (s.r.1=[]) (s.u.1=[]/\cQ s=[])):=by
 have⟨o,C,D,E,F,G,H,P,U,a,c,d,e⟩:=s;have n4:=sh.names.1;have n5:=sh.cols.1;have n7:=sh.uniques.1;have n8:=sh.refs.1;have A:=sh.row;have B:=sh.sets.1;simp only at n4 n5 n7 n8 A B;rcases ho with rfl|rfl|rfl
 .have⟨_,i⟩:=fw (s:=(dD,C,D,E,F,G,H,P,U,a,c,d,e)) (g:=_) (b:=_) rfl;rw[i]at h;have h:=J2 h;have⟨_,_,p,q,_,j,l,m,n,k,_,x⟩:=(ke sw sg sg sg sg sg).1 h;exact⟨j,l,m,n,k,(zg.eta _).symm.trans x,by rw[zh (λh=>by simp at h)];exact⟨p,q⟩⟩
 .have⟨_,i⟩:=fw (s:=(gO,C,D,E,F,G,H,P,U,a,c,d,e)) (g:=_) (b:=_) rfl;rw[i]at h;have h:=J2 h;have⟨_,_,p,q,k5,j,l,m,n,k,_,x⟩:=(ke sg sg sg sg sg sg).1 h;exact⟨j,l,m,n,k,(zg.eta _).symm.trans x,by rw[zf rfl];exact k5⟩
 .have⟨_,i⟩:=fw (s:=(pp,C,D,E,F,G,H,P,U,a,c,d,e)) (g:=_) (b:=_) rfl;rw[i]at h;have h:=J2 h;have⟨_,_,p,q,_,j,l,m,n,k,_,x⟩:=(ke sw sg sg sg sg sg).1 h;exact⟨j,l,m,n,k,(zg.eta _).symm.trans x,by rw[zh (λh=>by simp at h)];exact⟨p,q⟩⟩
theorem iT(h:¬LT.lt (α:=Int) (zY t a) 0):(Y t.2.1 (Z (zY t a)) (Q zn)).1=a/\LT.lt (α:=Int) (zY t a) (X t.2.1):=by
 have e:zY t a=aj (λc:cF=>c.1==a) t.2.1 0:=rfl;rcases eL (λc:cF=>c.1==a) t.2.1 0 with⟨x,_⟩|⟨k,b,x,d,_⟩
 .rw[e,x]at h;exact zz (by decide:(-1:Int)<0) h
 .rw[e,x,eV];refine⟨?_,Int.ofNat_lt.2 b⟩;rw[dm _ _ b];exact bQ d
def jM(p:ao)(s:zS):zP:=
 (p.1,p.r.1.1,p.2.1,if p.1=gO then[]else p.r.1.2.1.map λc:cF=>c.1,[],
  if p.1=gO then(if LE.le (α:=Int) 0 p.u/\LT.lt (α:=Int) p.u (X (s.getD 0 (Q zl)).1.2.1)then(Y (s.getD 0 (Q zl)).1.2.1 (Z p.u) (Q zn)).1 else[])else[],
  [],[],p.r.1.u,[],[],gw,p.q.1)
theorem rQ(h:gS t n=0):∀s∈n,¬LT.lt (α:=Int) (zY t s) 0:=by
 unfold gS at h;split at h
 .assumption
 .cases h
theorem Bz{t:am}:∀{l:List zK},(∀s∈l,¬LT.lt (α:=Int) (zY t s) 0)->(dN t l).map (λc:cF=>c.1)=l
 |[],_=>rfl
 | s::r,h=>by
  show(Y t.2.1 (Z (zY t s)) (Q zn)).1::(dN t r).map (λc:cF=>c.1)=s::r;rw[(iT (h s sw)).1,Bz λx a=>h x (by simp[a])]
theorem gh(h:(iA k p).1=0):k=0/\iA k p=(0,p):=by
 unfold iA at h|-;split at h
 .rename_i x;split at h
  next a=>rw[zf x,zf a];exact⟨x,rfl⟩
  next a=>exact zz h a
 next x=>exact zz h x
theorem WX(x:(cJ l s).1=0)(v:kF s.1)(w:iu s=O)(sh:nI s)(p:(g.getD 0 (Q zl)).1.2.1=(ag l s.q.1).2.1):jM (cJ l s).2 g=s:=by
 have⟨y,z,A,B,C,D,n⟩:=zfh w sh v;have⟨o,s2,i,s4,s5,s6,s7,s8,s9,P,U,h0,k⟩:=s;simp only at y z A B C D n p;subst y z A B C D;rcases v with rfl|rfl|rfl
 .rw[zh (λh=>by simp at h)]at n;obtain⟨rfl,e⟩:=n;have e:k=[]:=e;subst e;unfold cJ at x|-
  dsimp only at x|-
  rw[zf (show((dD:zK)==dD)=O from rfl)]at x|-;have⟨c,j⟩:=gh x;rw[j];have d:=rQ (by
   unfold ui at c;split at c
   .assumption
   next m=>exact zz c m)
  unfold jM;simp only;rw[zh (λh=>by simp at h),zh (λh=>by simp at h),Bz d]
 .rw[zf rfl]at n;subst n;unfold cJ at x|-
  dsimp only at x|-
  rw[zh (show¬((gO:zK)==dD)=O by decide),zf (show((gO:zK)==gO)=O from rfl)]at x|-;have⟨c,j⟩:=gh x;rw[j];have d:¬LT.lt (α:=Int) (zY (ag l i) s6) 0:=by
   intro h;unfold gj at c;rw[zf h]at c;cases c
  have⟨G,H⟩:=iT d;unfold jM;simp only;rw[zf trivial,zf trivial,p,zf ⟨Int.not_lt.1 d,H⟩,G]
 .rw[zh (λh=>by simp at h)]at n;obtain⟨rfl,e⟩:=n;have e:k=[]:=e;subst e;have u:=kD w rfl;simp only at u;unfold cJ at x|-
  dsimp only at x|-
  rw[zh (show¬((pp:zK)==dD)=O by decide),zh (show¬((pp:zK)==gO)=O by decide),zf (show((pp:zK)==pp)=O from rfl)]at x|-;have⟨c,j⟩:=gh x;rw[j];have d:=rQ (by
   unfold qP at c;split at c
   .assumption
   next m=>exact zz c m)
  match s4,u,d with
  |[a,b],_,d=>
  unfold jM;simp only;rw[zh (λh=>by simp at h),zh (λh=>by simp at h)];have E:=(iT (d a sw)).1;have F:=(iT (d b sw)).1;show(pp,s2,i,[(Y (ag l i).2.1 (Z (zY (ag l i) a)) (Q zn)).1,(Y (ag l i).2.1 (Z (zY (ag l i) b)) (Q zn)).1],_)=_;rw[E,F]
def zI(db:zS)(p:ao):zS:=(bY p.2.1 p.q.1).map λn=>jP (aQ (bY p.2.1 p.q.1)) (aU db n)
theorem Je:b∈gL l↔b∈l:=by
 match l with
 |[]=>rfl
 |[_]=>rfl
 | [a,h]=>
  rw[tX];split
  .simp[or_comm]
  .exact Iff.rfl
 |_::_::_::_=>rfl
theorem I8(l:zS):(gL l).length=X l:=by
 match l with
 |[]=>rfl
 |[_]=>rfl
 |[a,b]=>rw[tX];split<;>rfl
 |_::_::_::_=>rfl
theorem DF(x:(cJ l s).1=0):(cJ l s).2.1=s.1/\(cJ l s).q.1=s.q.1/\(cJ l s).r.1=cQ s:=by
 unfold cJ at x|-;split at x
 next h=>rw[zf h,(gh x).2];exact⟨rfl,rfl,rfl⟩
 .rename_i h;split at x
  next a=>rw[zh h,zf a,(gh x).2];exact⟨rfl,rfl,rfl⟩
  .rename_i a;split at x
   next b=>rw[zh h,zh a,zf b,(gh x).2];exact⟨rfl,rfl,rfl⟩
   .cases x
theorem I3(h:iu s=O)(a:s.1=gO):cQ s≠[]:=by have⟨o,j,k,u,v,l,w,y,z,d,e,i,x⟩:=s;have a:o=gO:=a;subst a;have⟨_,q⟩:=fw (s:=(gO,j,k,u,v,l,w,y,z,d,e,i,x)) (g:=_) (b:=_) rfl;rw[q]at h;intro c;have c:x=[]:=c;subst c;rw[show dG []=S from rfl]at h;cases m:dG j<;>cases n:dG k<;>cases p:dG l<;>simp[m,n,p]at h
theorem xq(a:(bm l s).1=0):kF s.1/\eZ s=O/\kV l=(0:Int)/\(∀n∈bY s.q.1 (cQ s),LE.le (α:=Int) 0 (al l n))/\s.q.1≠cQ s/\bm l s=cJ l s:=by
 unfold bm at a;split at a
 case isFalse=>cases a
 rename_i b;split at a
 case isFalse h=>exact zz a h
 rename_i x;refine⟨b.1,b.2.1,b.q,?_,?_,by unfold bm;rw[zf b,zf x]⟩
 .unfold nW at x;split at x
  .assumption
  .cases x
 .unfold nW at x;split at x
  case isFalse=>cases x
  split at x
  case isTrue=>cases x
  rename_i c;intro e;apply c;have e:s.q.1=s.p:=e;rw[<-e];simp
theorem WW(z:∀x∈l,ii x)(hp:(bm l s).1=0)(sh:nI s):
  bm (gL (zI l (bm l s).2)) (jM (bm l s).2 (zI l (bm l s).2))=(0,(bm l s).2)/\(zI l (bm l s).2).map (λx:ae=>x.1.1)=bY (bm l s).q.1 (bm l s).r.1/\(gL (zI l (bm l s).2)).Pairwise (λx y:ae=>Op.bytesLess x.1.1 y.1.1=O)/\jM (bm l s).2 (zI l (bm l s).2)=s/\(∀x∈gL (zI l (bm l s).2),ii x)/\two (zI l (bm l s).2)=O:=by
 have⟨hm,C,hb,B,D,o⟩:=xq hp;have hB:=(iZ z).1 hb;have i:=kN C;have E:(cJ l s).1=0:=by rw[<-o];exact hp
 have⟨f1,f2,f3⟩:=DF E;have F:bm l s=(0,(bm l s).2):=by rw[<-hp]
 rw[o]at F|-;generalize v:bY (cJ l s).q.1 (cJ l s).r.1=ns;have b:bY s.q.1 (cQ s)=ns:=by rw[<-v,f2,f3]
 rw[b]at B;have P:zI l (cJ l s).2=ns.map λn=>jP (aQ ns) (aU l n):=by unfold zI;rw[v]
 rw[P];have a:∀n∈ns,(aU l n).1.1=n:=λn c=>(kc (B n c)).2
 have d:∀x∈gL (ns.map λn=>jP (aQ ns) (aU l n)),∃n∈ns,x=jP (aQ ns) (aU l n):=λx hx=>by
  obtain⟨n,c,rfl⟩:=aI.1 (Je.1 hx);exact⟨n,c,rfl⟩
 have j:∀n∈ns,jP (aQ ns) (aU l n)∈gL (ns.map λn=>jP (aQ ns) (aU l n)):=λn c=>Je.2 (aI.2 ⟨n,c,rfl⟩)
 have h5:X ns<=2:=by rw[<-v];unfold bY;split<;>simp
 have w:(gL (ns.map λn=>jP (aQ ns) (aU l n))).Pairwise λx y:ae=>Op.bytesLess x.1.1 y.1.1=O:=by
  by_cases G:(cQ s==[])=O
  .have e:ns=[s.q.1]:=by rw[<-b];unfold bY;rw[zf G]
   rw[e];simp[gL]
  .have e:ns=[s.q.1,cQ s]:=by rw[<-b];unfold bY;rw[zh G]
   have n1:=a s.q.1 (by rw[e];simp);have n2:=a (cQ s) (by rw[e];simp);rw[e];show(gL [jP _ (aU l s.q.1),jP _ (aU l (cQ s))]).Pairwise _;rw[tX];split
   next h=>simp only[List.pairwise_cons,ff,forall_eq,List.not_mem_nil,false_implies,implies_true,List.Pairwise.nil,and_true];exact h
   next h=>simp only[List.pairwise_cons,ff,forall_eq,List.not_mem_nil,false_implies,implies_true,List.Pairwise.nil,and_true];refine kX (by simpa using h) ?_;show(aU l (cQ s)).1.1≠(aU l s.q.1).1.1;rw[n1,n2];exact λe=>D e.symm
 generalize A:gL (ns.map λn=>jP (aQ ns) (aU l n))=k at d j w;have g:∀n∈ns,LE.le (α:=Int) 0 (al k n):=λn c=>by
  have:=Tl (j n c)
  rwa [show(jP (aQ ns) (aU l n)).1.1=n from a n c]at this
 have h3:jo k:=hB.src (p:=aQ ns) (by rw[<-A,I8,cW];omega) w (λy hy=>by
  obtain⟨n,c,rfl⟩:=d y hy;exact⟨_,(kc (B n c)).1,rfl⟩) (λn c=>g n ((mq _ _).1 c))
 have H:∀x∈k,ii x:=λx hx=>by
  obtain⟨n,c,rfl⟩:=d x hx;have:=z _ (kc (B n c)).1;exact⟨this.uq,be (List.length_filter_le _ _) this.rf,this.rw⟩
 have U:∀n∈ns,ag k n=Qv (aQ ns) (ag l n):=λn c=>by
  have⟨h1,h2⟩:=kc (g n c);have⟨m,hm,e⟩:=d _ h1;have:m=n:=by
   rw[e]at h2;rw[<-a m hm];exact h2
  subst this;show(aU k m).1=_;rw[e];rfl
 have u:jM (cJ l s).2 (ns.map λn=>jP (aQ ns) (aU l n))=s:=by
  refine WX E hm i sh ?_;have:∃r,ns=s.q.1::r:=by rw[<-b];unfold bY;split<;>exact⟨_,rfl⟩
  have⟨r,e⟩:=this;rw[e];rfl
 have h0:two (ns.map λn=>jP (aQ ns) (aU l n))=O:=by
  by_cases G:(cQ s==[])=O
  .have e:ns=[s.q.1]:=by rw[<-b];unfold bY;rw[zf G]
   rw[e];rfl
  .have e:ns=[s.q.1,cQ s]:=by rw[<-b];unfold bY;rw[zh G]
   have n1:=a s.q.1 (by rw[e];simp);have n2:=a (cQ s) (by rw[e];simp);rw[e];show(!((aU l s.q.1).1.1:zK)==(aU l (cQ s)).1.1)=O;rw[n1,n2];simpa using D
 refine⟨?_,?_,w,u,H,h0⟩
 .rw[u];refine(zaZ hp ((iZ H).2 h3) (λn c=>?_) (λx hx=>?_) (λho=>I3 i ho)).1.trans (by rw[o];exact F)
  .rw[b]at c|-;refine⟨g n c,?_⟩;rw[U n c];refine⟨rfl,rfl,λf h4=>?_⟩;show f∈(ag l n).t.1.filter (λf:cw=>aQ ns f.2)↔_;rw[List.mem_filter,(mq _ _).2 h4];simp
  .rw[b];obtain⟨n,c,rfl⟩:=d x hx;have⟨h1,h2⟩:=kc (B n c);exact⟨by show(aU l n).1.1∈ns;rw[h2];exact c,_,h1,rfl⟩
 .rw[qx]
  conv=>rhs;rw[<-List.map_id ns]
  exact List.map_congr_left λn c=>a n c
def dH(p:ao)(s:zS):Int:=if p.1=dD then(Y s 0 (Q zl)).1.q.1 else if p.1=gO then p.u else Y p.t.1 0 (Q zk)
theorem Xc(b:0<X l)(c:p.1≠dD->p.1≠gO->0<X p.t.1):yx p l=M (dH p l,()):=by
 have d:zL 0 (X l)=O:=zx (i:=0) b;unfold dH;by_cases h:p.1=dD
 .rw[zf h];have e:(p.1==dD)=O:=by simp[h]
  refine zR (r:=(L (Y l 0 (Q zl)).1.q.1,[])) ?_ rfl;simp only[zeS,Q8,e,d,zj];rfl
 .rw[zh h];have e:(p.1==dD)=S:=by simpa using h
  by_cases x:p.1=gO
  .rw[zf x];have a:(p.1==gO)=O:=by simp[x]
   refine zR (r:=(L p.u,[])) ?_ rfl;simp only[zeS,Q8,e,a,zj,zC,zm]
  .rw[zh x];have a:(p.1==gO)=S:=by simpa using x
   have g:zL 0 (X p.t.1)=O:=zx (i:=0) (c h x);refine zR (r:=(L (Y p.t.1 0 (Q zk)),[])) ?_ rfl;simp only[zeS,Q8,e,a,g,zj,zC,zm];rfl
def s59(p:ao)(n i:Int):List zK->MO
 |[]=>.h7 p.r.1.2.1 n i [] [] [] [] [] 0 0 [] [] [] 0 0 [] [] [] p.1 p.r.1.1 p.2.1 [] (zg.op p.r.1.u) (zg.v p.r.1.u).1 (zg.v p.r.1.u).2.1 (zg.v p.r.1.u).q (zg.s p.r.1.u) (zg.l p.r.1.u) [] 0 0 [] [] p.q.1
 |a::r=>.h7b p.r.1.2.1 n i [] [] [] [] [] 0 0 [] [] [] 0 0 [] [] [] p.1 p.r.1.1 p.2.1 [] (zg.op p.r.1.u) (zg.v p.r.1.u).1 (zg.v p.r.1.u).2.1 (zg.v p.r.1.u).q (zg.s p.r.1.u) (zg.l p.r.1.u) [] 0 0 [] [] p.q.1 (a::r)
theorem zfU(h:List zK)(x:i<X p.r.1.2.1)(b:X h<=1000)(c:i<=1000):(Cl (s59 p (X p.r.1.2.1:Int) (i:Int) h)).val=M (.inl (s59 p (X p.r.1.2.1:Int) ((i+1:Nat):Int) (h++[(Y p.r.1.2.1 i (Q zn)).1]))):=by
 cases h with
 | nil=>
  show(Cl (.h7 _ _ _ _ _ _ _ _ _ _ _ _ _ _ _ _ _ _ _ _ _ _ _ _ _ _ _ _ _ _ _ _ _ _)).val=_;simp only[Cl,Q8,zO x,zx x,zj,aJ];rw[zf sw,zu i um];rfl
 | cons a r=>
  show(Cl (.h7b _ _ _ _ _ _ _ _ _ _ _ _ _ _ _ _ _ _ _ _ _ _ _ _ _ _ _ _ _ _ _ _ _ _ _)).val=_;simp only[Cl,Q8,zO x,zx x,zj,aJ];rw[zf (by simp at b|-;omega),zu i um];rfl
theorem zaS(C:0<X l)(G:X p.r.1.2.1<=1000):KZ p l=M (jM p l,()):=by
 have b:zL 0 (X l)=O:=zx (i:=0) C;by_cases x:p.1=gO
 .have e:(p.1==gO)=O:=by simp[x]
  unfold jM;rw[zf x,zf x];by_cases h:LE.le (α:=Int) 0 p.u/\LT.lt (α:=Int) p.u (X (Y l 0 (Q zl)).1.2.1)
  .rw[zf h];have w:N (GE.ge (α:=Int) p.u 0)=O:=zB h.1;have y:N (LT.lt (α:=Int) p.u (X (Y l 0 (Q zl)).1.2.1))=O:=zB h.2;have z:zL p.u (X (Y l 0 (Q zl)).1.2.1)=O:=by
    unfold zL;rw[aP];exact⟨zB h.1,zB (by have:=h.1;have:=h.2;omega)⟩
   have s:(zeZ p l).val=M (.inr (aS p.1 p.r.1.1 p.2.1 nils nils ((Y (Y l 0 (Q zl)).1.2.1 (Z p.u) (Q zn)).1) nils nils (xE p.r.1.u) nils nils zE p.q.1,[])):=by
    show(br _ (chk _ (br _ (chk _ (chk _ (re _ _))) (re _ _))) (Tr.to _)).val=_;have j:N (p.u>=0)=O:=w;simp only[Q8,e,j,b,aN,zj];have k:N (p.u<(↑(X (Y l (Z 0) (Q zl)).1.2.1):Int))=O:=y;have m:zL p.u (X (Y l (Z 0) (Q zl)).1.2.1)=O:=z;rw[zf k,zf m];rfl
   refine zR s ?_;rw[<-zo p.r.1.u];rfl
  .rw[zh h];have s:(zeZ p l).val=Q1 (.inr (aS p.1 p.r.1.1 p.2.1 nils nils [] nils nils (xE p.r.1.u) nils nils zE p.q.1,[])):=by
    have A:(cond (N (p.u>=0)) (N (p.u<(↑(X (Y l (Z 0) (Q zl)).1.2.1):Int))) S)=S:=by
     by_cases g:LE.le (α:=Int) 0 p.u
     .have v:¬LT.lt (α:=Int) p.u (X (Y l 0 (Q zl)).1.2.1):=λc=>h ⟨g,c⟩
      rw[show N (p.u>=0)=O from zB g,aN];exact aC v
     .rw[show N (p.u>=0)=S from aC g,aL]
    have B:(cond (N (p.u>=0)) (zL 0 (X l)) O)=O:=by rw[b];cases N (p.u>=0)<;>rfl
    show(br _ (chk _ (br _ (chk _ (chk _ (re _ _))) (re _ _))) (Tr.to _)).val=_;simp only[Q8,e,zj];rw[zf B];simp only[A,zC,zm]
   refine zR s ?_;rw[<-zo p.r.1.u];rfl
 .have e:(p.1==gO)=S:=by simpa using x
  have D:(zeZ p l).val=M (.inl (s59 p (X p.r.1.2.1:Int) ((0:Nat):Int) [])):=by
   show(br _ (chk _ (br _ (chk _ (chk _ (re _ _))) (re _ _))) (Tr.to _)).val=_;simp only[Q8,e,zC,zm];rfl
  have o:=zH.all (t:=Cl) 1 (λi=>s59 p (X p.r.1.2.1:Int) (i:Int) ((p.r.1.2.1.take i).map λc:cF=>c.1)) (X p.r.1.2.1) λi b=>zH.of (by
   rw[zfU _ b sg W];congr 3;rw[bE b,ib,bx,af b];rfl)
  simp only[List.take_zero,rk,gB]at o;unfold jM;rw[zh x,zh x];generalize H:(p.r.1.2.1.map λc:cF=>c.1)=n at o;have d:∃r,zU Cl 1 (s59 p (X p.r.1.2.1:Int) (X p.r.1.2.1:Int) n) r/\bb r.2 [aB] r.1=M ((p.1,p.r.1.1,p.2.1,n,[],[],[],[],p.r.1.u,[],[],gw,p.q.1),()):=by
   cases n with
   | nil=>
    refine⟨_,zU.of (by
     show(Cl (.h7 _ _ _ _ _ _ _ _ _ _ _ _ _ _ _ _ _ _ _ _ _ _ _ _ _ _ _ _ _ _ _ _ _ _)).val=_;simp only[Cl,Q8,zM,zC,zm];rfl),?_⟩
    rw[<-zo p.r.1.u];rfl
   | cons a r=>
    refine⟨_,zU.of (by
     show(Cl (.h7b _ _ _ _ _ _ _ _ _ _ _ _ _ _ _ _ _ _ _ _ _ _ _ _ _ _ _ _ _ _ _ _ _ _ _)).val=_;simp only[Cl,Q8,zM,zC,zm];rfl),?_⟩
    rw[<-zo p.r.1.u];rfl
  have⟨r,E,F⟩:=d;exact zA D (o.ends E) W F
end
end Cad
