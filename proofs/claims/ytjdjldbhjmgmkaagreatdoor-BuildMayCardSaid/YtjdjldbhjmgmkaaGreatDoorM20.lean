/- The document's texts of expressions. -/
import Derived.Test.YtjdjldbhjmgmkaaGreatDoorM19
namespace Cad
open Go Go.Proofs
open List renaming length->Io,drop->Qh,take->Qg,length->X
open IntKind renaming wrap->Γ,i64->Δ
open Tr renaming val->Q8
open Sh renaming bool->Q7,str->Q6
open Bool renaming false->Q4,true->Q3,true->O,false->S
open Option renaming none->Q2,some->M
open Decidable renaming decide->N,decide->Q0
open Int renaming toNat->Z
open List renaming getD->Y
open Tr (chk br re)
open AV (nils agg tup ptr kb sl)
open AV renaming str->I
open Cad renaming ow->W,zi->Q,Sem->J,ze->K,ai->L
set_option maxHeartbeats 4000000
theorem tE:∀(i d x:Nat)(e:zg),d<=12->d<=i->d<=x->cX d e=O->vd e->dn i e=M (bn x e,())/\(bn x e).length<=400*nE d e
 |_,0,_,_,_,_,_,h,_=>by cases h
 |0,d+1,_,_,_,h,_,_,_=>zz h W
 |_,d+1,0,_,_,_,h,_,_=>zz h W
 | i+1,d+1,x+1,e,h0,h1,h2,h,o=>by
  rw[dn];unfold Ug;cases gG h with
  | lit v hv=>
   rw[vd]at o;have k:bn (x+1) (.mk pt v [] [])=jg v:=rfl;have P:=Bc v;rw[k];refine⟨zR (r:=(.str (jg v),[])) ?_ rfl,by simp[nE];omega⟩;have j:(rF (λl=>jy (dn i l)) (λl=>(dn i l).isSome) (.mk pt v [] [])).val=if lC v=O then M (.inr (.str (pX v),[]))else Q2:=rfl
   rw[j,Jl o.1,OV o.1];rfl
  | col s U hr=>
   have P:=JR U;have k:bn (x+1) (.mk fh (0,0,[]) s [])=s:=rfl;rw[k];exact⟨zR (r:=(.str s,[])) rfl rfl,by simp[nE];omega⟩
  | one p a D z=>
   rw[vd,lw]at o;obtain⟨A,la⟩:=tE i d x a W W W z o.q.1;have E:=uN d a z;have p1:2^d<=2^12:=HS W W;have F:nE (d+1) (.mk p (0,0,[]) [] [a])=1+nE d a:=by simp[nE]
   rw[F];generalize C:(λl=>jy (dn i l))=g;generalize B:(λl=>(dn i l).isSome)=c;have n:g a=bn x a:=by rw[<-C];show jy (dn i a)=_;rw[A];rfl
   have m:c a=O:=by rw[<-B];show(dn i a).isSome=_;rw[A];rfl
   rcases D with rfl|rfl
   .have k:bn (x+1) (.mk ox (0,0,[]) [] [a])=wv++bn x a++[41]:=rfl;rw[k];refine⟨zR (r:=(.str (wv++bn x a++[41]),[])) ?_ rfl,sg⟩;have j:(rF g c (.mk ox (0,0,[]) [] [a])).val=if c (zt a)=O then(ite (N (X wv+X (g (zt a))<=1099511627776)=O) (ite (N ((wv++g (zt a)).length+[41].length<=1099511627776)=O) (M (.inr (.str (wv++g (zt a)++[41]),[]))) Q2) Q2)else Q2:=rfl
    rw[j,zo,m,n,zf rfl,zf (zB sg),zf (zB sg)]
   .have k:bn (x+1) (.mk qy (0,0,[]) [] [a])=[40]++bn x a++DK:=rfl;rw[k];refine⟨zR (r:=(.str ([40]++bn x a++DK),[])) ?_ rfl,sg⟩;have j:(rF g c (.mk qy (0,0,[]) [] [a])).val=if c (zt a)=O then(ite (N ([40].length+X (g (zt a))<=1099511627776)=O) (ite (N (([40]++g (zt a)).length+X DK<=1099511627776)=O) (M (.inr (.str ([40]++g (zt a)++DK),[]))) Q2) Q2)else Q2:=rfl
    rw[j,zo,m,n,zf rfl,zf (zB sg),zf (zB sg)]
  | two p a b D z E=>
   rw[vd,lw,lw]at o;obtain⟨A,la⟩:=tE i d x a W W W z o.q.1;obtain⟨kb,lb⟩:=tE i d x b W W W E o.r.1;have G:=uN d a z;have H:=uN d b E;have p1:2^d<=2^12:=HS W W;have F:nE (d+1) (.mk p (0,0,[]) [] [a,b])=1+(nE d a+nE d b):=by simp[nE]
   rw[F];generalize C:(λl=>jy (dn i l))=g;generalize B:(λl=>(dn i l).isSome)=c;have n:g a=bn x a:=by rw[<-C];show jy (dn i a)=_;rw[A];rfl
   have m:c a=O:=by rw[<-B];show(dn i a).isSome=_;rw[A];rfl
   have y:g b=bn x b:=by rw[<-C];show jy (dn i b)=_;rw[kb];rfl
   have u:c b=O:=by rw[<-B];show(dn i b).isSome=_;rw[kb];rfl
   have k:∀w:zK,Lib.toUpperA p=w->vu (bn x) (iJ x) (.mk p (0,0,[]) [] [a,b])=[40]++bn x a++[32]++w++[32]++bn x b++[41]:=by
    rintro w rfl;rcases D with rfl|rfl|rfl|rfl|rfl|rfl<;>rfl
   have hx:bn (x+1) (.mk p (0,0,[]) [] [a,b])=vu (bn x) (iJ x) (.mk p (0,0,[]) [] [a,b]):=rfl;rw[hx];rcases D with rfl|rfl|rfl|rfl|rfl|rfl
   .rw[k X4 rfl];refine⟨zR (r:=(.str ([40]++bn x a++Ql++bn x b++[41]),[])) ?_ (by simp[bb];rfl),sg⟩;have j:(rF g c (.mk ji (0,0,[]) [] [a,b])).val=if c (zt a)=O then(ite (N ([40].length+X (g (zt a))<=1099511627776)=O) (ite (N (([40]++g (zt a)).length+X Ql<=1099511627776)=O) (ite (c (zt b)=O) (ite (N (([40]++g (zt a)++Ql).length+X (g (zt b))<=1099511627776)=O) (ite (N (([40]++g (zt a)++Ql++g (zt b)).length+[41].length<=1099511627776)=O) (M (.inr (.str ([40]++g (zt a)++Ql++g (zt b)++[41]),[]))) Q2) Q2) Q2) Q2) Q2)else Q2:=rfl
    rw[j,zo,zo,m,u,n,y,zf rfl,zf (zB sg),zf (zB sg),zf rfl,zf (zB sg),zf (zB sg)]
   .rw[k [79,82] rfl];refine⟨zR (r:=(.str ([40]++bn x a++Qm++bn x b++[41]),[])) ?_ (by simp[bb];rfl),sg⟩;have j:(rF g c (.mk wy (0,0,[]) [] [a,b])).val=if c (zt a)=O then(ite (N ([40].length+X (g (zt a))<=1099511627776)=O) (ite (N (([40]++g (zt a)).length+X Qm<=1099511627776)=O) (ite (c (zt b)=O) (ite (N (([40]++g (zt a)++Qm).length+X (g (zt b))<=1099511627776)=O) (ite (N (([40]++g (zt a)++Qm++g (zt b)).length+[41].length<=1099511627776)=O) (M (.inr (.str ([40]++g (zt a)++Qm++g (zt b)++[41]),[]))) Q2) Q2) Q2) Q2) Q2)else Q2:=rfl
    rw[j,zo,zo,m,u,n,y,zf rfl,zf (zB sg),zf (zB sg),zf rfl,zf (zB sg),zf (zB sg)]
   .rw[k [61] rfl];refine⟨zR (r:=(.str ([40]++bn x a++[32]++[61]++[32]++bn x b++[41]),[])) ?_ rfl,sg⟩;have j:(rF g c (.mk [61] (0,0,[]) [] [a,b])).val=if c (zt a)=O then(ite (N ([40].length+X (g (zt a))<=1099511627776)=O) (ite (N (([40]++g (zt a)).length+[32].length<=1099511627776)=O) (ite (N (([40]++g (zt a)++[32]).length+X [61]<=1099511627776)=O) (ite (N (([40]++g (zt a)++[32]++[61]).length+[32].length<=1099511627776)=O) (ite (c (zt b)=O) (ite (N (([40]++g (zt a)++[32]++[61]++[32]).length+X (g (zt b))<=1099511627776)=O) (ite (N (([40]++g (zt a)++[32]++[61]++[32]++g (zt b)).length+[41].length<=1099511627776)=O) (M (.inr (.str ([40]++g (zt a)++[32]++[61]++[32]++g (zt b)++[41]),[]))) Q2) Q2) Q2) Q2) Q2) Q2) Q2)else Q2:=rfl
    rw[j,zo,zo,m,u,n,y,zf rfl,zf (zB sg),zf (zB sg),zf (zB sg),zf (zB sg),zf rfl,zf (zB sg),zf (zB sg)]
   .rw[k [60] rfl];refine⟨zR (r:=(.str ([40]++bn x a++[32]++[60]++[32]++bn x b++[41]),[])) ?_ rfl,sg⟩;have j:(rF g c (.mk [60] (0,0,[]) [] [a,b])).val=if c (zt a)=O then(ite (N ([40].length+X (g (zt a))<=1099511627776)=O) (ite (N (([40]++g (zt a)).length+[32].length<=1099511627776)=O) (ite (N (([40]++g (zt a)++[32]).length+X [60]<=1099511627776)=O) (ite (N (([40]++g (zt a)++[32]++[60]).length+[32].length<=1099511627776)=O) (ite (c (zt b)=O) (ite (N (([40]++g (zt a)++[32]++[60]++[32]).length+X (g (zt b))<=1099511627776)=O) (ite (N (([40]++g (zt a)++[32]++[60]++[32]++g (zt b)).length+[41].length<=1099511627776)=O) (M (.inr (.str ([40]++g (zt a)++[32]++[60]++[32]++g (zt b)++[41]),[]))) Q2) Q2) Q2) Q2) Q2) Q2) Q2)else Q2:=rfl
    rw[j,zo,zo,m,u,n,y,zf rfl,zf (zB sg),zf (zB sg),zf (zB sg),zf (zB sg),zf rfl,zf (zB sg),zf (zB sg)]
   .rw[k [43] rfl];refine⟨zR (r:=(.str ([40]++bn x a++[32]++[43]++[32]++bn x b++[41]),[])) ?_ rfl,sg⟩;have j:(rF g c (.mk [43] (0,0,[]) [] [a,b])).val=if c (zt a)=O then(ite (N ([40].length+X (g (zt a))<=1099511627776)=O) (ite (N (([40]++g (zt a)).length+[32].length<=1099511627776)=O) (ite (N (([40]++g (zt a)++[32]).length+X [43]<=1099511627776)=O) (ite (N (([40]++g (zt a)++[32]++[43]).length+[32].length<=1099511627776)=O) (ite (c (zt b)=O) (ite (N (([40]++g (zt a)++[32]++[43]++[32]).length+X (g (zt b))<=1099511627776)=O) (ite (N (([40]++g (zt a)++[32]++[43]++[32]++g (zt b)).length+[41].length<=1099511627776)=O) (M (.inr (.str ([40]++g (zt a)++[32]++[43]++[32]++g (zt b)++[41]),[]))) Q2) Q2) Q2) Q2) Q2) Q2) Q2)else Q2:=rfl
    rw[j,zo,zo,m,u,n,y,zf rfl,zf (zB sg),zf (zB sg),zf (zB sg),zf (zB sg),zf rfl,zf (zB sg),zf (zB sg)]
   .rw[k [45] rfl];refine⟨zR (r:=(.str ([40]++bn x a++[32]++[45]++[32]++bn x b++[41]),[])) ?_ rfl,sg⟩;have j:(rF g c (.mk [45] (0,0,[]) [] [a,b])).val=if c (zt a)=O then(ite (N ([40].length+X (g (zt a))<=1099511627776)=O) (ite (N (([40]++g (zt a)).length+[32].length<=1099511627776)=O) (ite (N (([40]++g (zt a)++[32]).length+X [45]<=1099511627776)=O) (ite (N (([40]++g (zt a)++[32]++[45]).length+[32].length<=1099511627776)=O) (ite (c (zt b)=O) (ite (N (([40]++g (zt a)++[32]++[45]++[32]).length+X (g (zt b))<=1099511627776)=O) (ite (N (([40]++g (zt a)++[32]++[45]++[32]++g (zt b)).length+[41].length<=1099511627776)=O) (M (.inr (.str ([40]++g (zt a)++[32]++[45]++[32]++g (zt b)++[41]),[]))) Q2) Q2) Q2) Q2) Q2) Q2) Q2)else Q2:=rfl
    rw[j,zo,zo,m,u,n,y,zf rfl,zf (zB sg),zf (zB sg),zf (zB sg),zf (zB sg),zf rfl,zf (zB sg),zf (zB sg)]
section
variable {σ:Type} {t:σ->Tr (σ⊕az)}
abbrev Jy:az:=(.kb S,[])
theorem QO{α:Type}{la lb:List α}(s:Nat->σ)(d:X la=X lb)(g:∀i(j:i<X la)(c:i<X lb),(la[i]=lb[i]->(t (s i)).val=M (.inl (s (i+1))))/\(la[i]≠lb[i]->(t (s i)).val=M (.inr Jy))):
  (la=lb/\zH t (X la) (s 0) (s (X la)))\/(la≠lb/\zU t (X la) (s 0) Jy):=by
 rcases nG (t:=t) (Φ:=λr=>r=Jy) 1 s (λi=>la[i]?=lb[i]?) (X la) (λi b _=>by
  have c:i<X lb:=by omega
  have⟨a,x⟩:=g i b c;rw[af b,af c];by_cases h:la[i]=lb[i]
  .exact .inl ⟨by rw[h],zH.of (a h)⟩
  .exact .inr ⟨λe=>h (Option.some.inj e),Jy,zU.of (x h),rfl⟩)with⟨a,x⟩|⟨a,r,x,rfl⟩
 .rw[Nat.mul_one]at x;refine .inl ⟨oo λi=>?_,x⟩;by_cases b:i<X la
  .exact a i b
  .rw[fe W,fe W]
 .rw[Nat.mul_one]at x;exact .inr ⟨λh=>a λi _=>by rw[h],x⟩
end
variable {α:Type}
theorem kh{a b:List α}:((X a:Int)!=(X b:Int))=O↔X a≠X b:=by simp[bne];omega
theorem FP:∀(x:Nat)(a b:zg),mR x a=O->∃r,cC x a b=M (r,())/\(r=O↔a=b)
 |0,_,_,h=>by cases h
 | x + 1,.mk j v s l,.mk o g m k,h=>by
  rw[mR]at h;simp only[aP,ba,ep]at h;have⟨hl,P⟩:=h;rw[cC];unfold Lc
  have B:(Ho (λd e=>iN (cC x d e)) (λd e=>(cC x d e).isSome) (.mk j v s l) (.mk o g m k)).val=M (.inr Jy)->¬(zg.mk j v s l=zg.mk o g m k)->
    ∃r,ar [Q7] (PE (λd e=>iN (cC x d e)) (λd e=>(cC x d e).isSome)) 3000000000 (Ho (λd e=>iN (cC x d e)) (λd e=>(cC x d e).isSome) (.mk j v s l) (.mk o g m k))=M (r,())/\(r=O↔zg.mk j v s l=zg.mk o g m k):=by
   intro w F;exact⟨S,zR w rfl,by simp[F]⟩
  have p:∀c:Bool,(cond (!j==o) O (cond (!(v.1==g.1&&(v.2.1==g.2.1&&(v.q==g.q&&O)))) O (cond (!s==m) O ((X l:Int)!=(X k:Int)))))=c->
    (Ho (λd e=>iN (cC x d e)) (λd e=>(cC x d e).isSome) (.mk j v s l) (.mk o g m k)).val=if c=O then M (.inr Jy)else M (.inl (.h4 ((0:Nat):Int) (.mk j v s l,()) (.mk o g m k,()))):=by
   rintro c rfl;rfl
  by_cases C:j=o;rotate_left
  .exact B (by rw[p O (by rw[dX.2 C];rfl)];rfl) (λh=>C (by injection h))
  by_cases D:v=g;rotate_left
  .refine B ?_ (λh=>D (by injection h));rw[p O ?_]
   .rfl
   .have:(v.1==g.1&&(v.2.1==g.2.1&&(v.q==g.q&&O)))=S:=by
     rw[<-iY];intro h;simp at h;exact D (Prod.ext h.1 (Prod.ext h.2.1 h.q))
    rw[this];cases(j==o)<;>rfl
  by_cases E:s=m;rotate_left
  .refine B ?_ (λh=>E (by injection h));rw[p O ?_]
   .rfl
   .rw[dX.2 E];cases(j==o)<;>cases(v.1==g.1&&(v.2.1==g.2.1&&(v.q==g.q&&O)))<;>rfl
  by_cases z:X l=X k;rotate_left
  .refine B ?_ (λh=>z (by injection h with _ _ _ h;rw[h]));rw[p O ?_]
   .rfl
   .rw[kh.2 z];cases(j==o)<;>cases(v.1==g.1&&(v.2.1==g.2.1&&(v.q==g.q&&O)))<;>cases(s==m)<;>rfl
  subst C;subst D;subst E;have w:=p S (by
   have:((X l:Int)!=(X k:Int))=S:=by rw[<-iY,kh];exact λh=>h z
   rw[this];simp)
  rw[zh sw]at w
  rcases QO (t:=PE (λd e=>iN (cC x d e)) (λd e=>(cC x d e).isSome)) (la:=l) (lb:=k) (λi=>.h4 (i:Int) (.mk j v s l,()) (.mk j v s k,())) z (by
   intro i A u;have⟨r,U,n⟩:=FP x l[i] k[i] (P _ (bp A));have G:Y l (i:Int).toNat (Q Sh.expr)=l[i]:=zW _ _ A;have H:Y k (i:Int).toNat (Q Sh.expr)=k[i]:=zW _ _ u;have y:(PE (λd e=>iN (cC x d e)) (λd e=>(cC x d e).isSome) (.h4 (i:Int) (.mk j v s l,()) (.mk j v s k,()))).val=if(!r)=O then M (.inr Jy)else M (.inl (.h4 ((i+1:Nat):Int) (.mk j v s l,()) (.mk j v s k,()))):=by
    simp only[PE,Mo,Dn,Q8,zg.l,zo,G,H,zx A,zx u,U,dv,zj];rw[zu i um];show(ite (N ((i:Int)<(X l:Int))=O) _ _)=_;rw[zf (zB W)];rfl
   rw[y];refine⟨λh=>?_,λh=>?_⟩
   .rw[zh (by rw[n.2 h];simp)]
   .rw[zf];cases r
    .rfl
    .exact zz (n.1 rfl) h)with⟨h1,h2⟩|⟨h1,h2⟩
  .subst h1;refine⟨O,zA w (h2.ends (zU.of (r:=(.kb O,[])) ?_)) W rfl,sw⟩;simp only[PE,Mo,Dn,Q8,zg.l];exact zh sw
  .exact⟨S,zA w h2 W rfl,by simp[h1]⟩
theorem oT{a b:zg}(h:mR 16 a=O):gT a b=O/\(fF a b=O↔a=b):=by
 have⟨r,x,c⟩:=FP 16 a b h;have x:CU a b=M (r,()):=x;refine⟨by unfold gT;rw[x];rfl,?_⟩;have:fF a b=r:=by unfold fF;rw[x];rfl
 rw[this];exact c
section
variable {σ:Type} {t:σ->Tr (σ⊕az)}
def Xp(t:σ->Tr (σ⊕az))(K:Nat)(n:σ⊕az)(r:az):Prop:=match n with
 |.inl h=>zU t K h r
 |.inr x=>x=r
theorem ng{α:Type}{la lb:List α}(s:Int->σ)(n:σ⊕az)(e:Nat->Bool)(x:∀i:Nat,i<=X la->(t (s i)).val=if N (LT.lt (α:=Int) (i:Int) (X la:Int))=O then(ite (zL (i:Int) (X la)=O) (ite (zL (i:Int) (X lb)=O) (ite ((!e i)=O) (M (.inr Jy)) (M (.inl (s (Γ Δ ((i:Int)+1)))))) Q2) Q2)else M n)
  (l:∀i(_:i<X la)(d:i<X la)(j:i<X lb),e i=O↔la[i]=lb[i]) (b:X la=X lb) (o:X la<=1000000):
  (la=lb/\∀K r,Xp t K n r->zU t (K+X la+1) (s 0) r)\/(la≠lb/\zU t (X la) (s 0) Jy):=by
 rcases QO (t:=t) (la:=la) (lb:=lb) (λi=>s (i:Int)) b (λi d j=>by
  have a:=x i W;rw[zf (zB W),zf (zx d),zf (zx j),zu i um]at a;have:=l i d d j;refine⟨λh=>?_,λh=>?_⟩
  .rw[a,zh (by rw[this.2 h];simp)]
  .rw[a,zf];cases m:e i
   .rfl
   .exact zz (this.1 m) h)with⟨g,c⟩|⟨g,c⟩
 .refine .inl ⟨g,λK r k=>?_⟩;have a:=x (X la) (zQ _);rw[zh sw]at a;unfold Xp at k;cases n with
  |inl h=>exact(c.ends ((zH.of a).ends k)).mono W
  |inr p=>cases k;exact(c.ends (zU.of a)).mono W
 .exact .inr ⟨g,c⟩
end
theorem Yd(a b:cF):(a.1==b.1&&(a.2.1==b.2.1&&(a.q==b.q&&O)))=O↔a=b:=by simp[Prod.ext_iff]
theorem zv1(a b:J jL):(a.1==b.1&&(a.2==b.2&&O))=O↔a=b:=by simp[Prod.ext_iff]
theorem zmt(a b:cw):(a.1==b.1&&(a.2==b.2&&O))=O↔a=b:=by simp[Prod.ext_iff]
theorem zoR(a b:zp):(a.1==b.1&&(a.2.1==b.2.1&&(a.q==b.q&&O)))=O↔a=b:=by simp[Prod.ext_iff]
theorem orF{x y:Bool}(h:(cond x O y)=S):x=S/\y=S:=by
 cases x
 .exact⟨rfl,h⟩
 .cases h
theorem zaj[BEq α][LawfulBEq α]{a b:α}(h:(!a==b)=S):a=b:=by
 cases x:(a==b)
 .rw[x]at h;cases h
 .simpa using x
theorem Wv{a b:List α}(h:((X a:Int)!=(X b:Int))=S):X a=X b:=by simp[bne]at h;omega
structure Dp (a:zP):Prop where
 names:X a.r.1<=1000
 cols:X a.t.1<=1000
 uniques:X a.v.1<=1000
 refs:X a.w.1<=1000
 row:X a.y.1<=1000
 sets:X a.z.1<=1000
 chk:mR 16 a.x.1=O
 whr:mR 16 a.s.1=O
 ex:∀x∈a.z.1,mR 16 (x:J je).2=O
variable {s b:zP}
theorem RX(h:Dp s):∃r,tN s b=M (r,())/\(r=O↔s=b):=by
 have⟨a1,a2,a3,a4,P,a6,a7,a8,a9,j,e,D,E⟩:=s;have⟨b1,b2,b3,b4,b5,b6,b7,b8,b9,o,g,F,G⟩:=b;have⟨h4,h5,h7,h8,x2,x3,h9,x7,hx⟩:=h;have h4:X a4<=1000:=h4;have h5:X P<=1000:=h5;have h7:X a7<=1000:=h7;have h8:X a8<=1000:=h8;have x2:X j<=1000:=x2;have x3:X e<=1000:=x3;have hx:∀x∈e,mR 16 (x:J je).2=O:=hx;have⟨s1,s2⟩:=oT (b:=b9) (show mR 16 a9=O from h9);have⟨u1,u2⟩:=oT (b:=F) (show mR 16 D=O from x7);generalize l:((a1,a2,a3,a4,P,a6,a7,a8,a9,j,e,D,E):zP)=A;generalize m:((b1,b2,b3,b4,b5,b6,b7,b8,b9,o,g,F,G):zP)=B;have x8:∀r:az,∀{k a},(ze1 A B).val=M (.inl a)->A≠B->zU wa k a Jy->k<=100000000->∃r,tN A B=M (r,())/\(r=O↔A=B):=by
  intro _ k a h1 h h2 h3;exact⟨S,zA h1 h2 h3 rfl,by simp[h]⟩
 have hv:∀c d:Bool,(cond (!a1==b1) O (cond (!a2==b2) O (cond (!a3==b3) O (cond (!a6==b6) O (cond (!E==G) O (cond (!fF a9 b9) O (!fF D F)))))))=c->
   (cond ((X a4:Int)!=(X b4:Int)) O (cond ((X P:Int)!=(X b5:Int)) O (cond ((X a7:Int)!=(X b7:Int)) O (cond ((X a8:Int)!=(X b8:Int)) O (cond ((X j:Int)!=(X o:Int)) O ((X e:Int)!=(X g:Int)))))))=d->
   (ze1 A B).val=if c=O then M (.inr Jy)else if d=O then M (.inr Jy)else M (.inl (.h6 0 (A,()) (B,()))):=by
  rintro c d rfl rfl;subst l;subst m;have hg:∀x:Bool,(cond (!a1==b1) O (cond (!a2==b2) O (cond (!a3==b3) O (cond (!a6==b6) O (cond (!E==G) O (gT a9 b9&&bif x then O else gT D F))))))=O:=by
   intro x;rw[s1,u1];cases(!a1==b1)<;>cases(!a2==b2)<;>cases(!a3==b3)<;>cases(!a6==b6)<;>cases(!E==G)<;>cases x<;>rfl
  simp only[ze1,Q8,zo];rw[zf (hg _)]
 cases n:(cond (!a1==b1) O (cond (!a2==b2) O (cond (!a3==b3) O (cond (!a6==b6) O (cond (!E==G) O (cond (!fF a9 b9) O (!fF D F)))))));rotate_left
 .refine⟨S,zR (r:=Jy) (by rw[hv O _ n rfl];rfl) rfl,?_⟩;constructor
  .intro h;cases h
  .intro h;rw[<-l,<-m]at h;simp only[cN]at h;obtain⟨rfl,rfl,rfl,rfl,rfl,rfl,rfl,rfl,rfl,rfl,rfl,rfl,rfl⟩:=h;have k1:=s2.2 rfl;have k2:=u2.2 rfl;rw[k1,k2]at n;simp at n
 cases C:(cond ((X a4:Int)!=(X b4:Int)) O (cond ((X P:Int)!=(X b5:Int)) O (cond ((X a7:Int)!=(X b7:Int)) O (cond ((X a8:Int)!=(X b8:Int)) O (cond ((X j:Int)!=(X o:Int)) O ((X e:Int)!=(X g:Int)))))));rotate_left
 .refine⟨S,zR (r:=Jy) (by rw[hv S O n C];rfl) rfl,?_⟩;constructor
  .intro h;cases h
  .intro h;rw[<-l,<-m]at h;simp only[cN]at h;obtain⟨rfl,rfl,rfl,rfl,rfl,rfl,rfl,rfl,rfl,rfl,rfl,rfl,rfl⟩:=h;simp at C
 have hi:=hv S S n C;rw[zh sw,zh sw]at hi;have⟨m1,n⟩:=orF n;have⟨m2,n⟩:=orF n;have⟨m3,n⟩:=orF n;have⟨m6,n⟩:=orF n;have⟨i0,n⟩:=orF n;have⟨m9,a0⟩:=orF n;have⟨n4,C⟩:=orF C;have⟨n5,C⟩:=orF C;have⟨n7,C⟩:=orF C;have⟨n8,C⟩:=orF C;have⟨i1,i2⟩:=orF C;have e1:=zaj m1;have e2:=zaj m2;have e3:=zaj m3;have e6:=zaj m6;have x6:=zaj i0;have e9:=s2.1 (by simpa using m9);have x5:=u2.1 (by simpa using a0);subst e1;subst e2;subst e3;subst e6;subst x6;subst e9;subst x5;have no:∀{k},A≠B->zU wa k (.h6 0 (A,()) (B,())) Jy->k<=100000000->∃r,tN A B=M (r,())/\(r=O↔A=B):=λh1 h2 h3=>x8 Jy hi h1 h2 h3
 rcases ng (t:=wa) (la:=a4) (lb:=b4) (λi=>.h6 i (A,()) (B,())) (.inl (.h11 0 (A,()) (B,()))) (λi=>Y a4 (i:Int).toNat (Q Q6)==Y b4 (i:Int).toNat (Q Q6)) (λ_ _=>by subst l;subst m;rfl) (λi _ p u=>by rw[bW,zW _ _ p,zW _ _ u]) (Wv n4) W with⟨q4,k4⟩|⟨q4,k4⟩;rotate_left
 .exact no (λh=>q4 (by rw[<-l,<-m]at h;simp only[cN]at h;exact h.r.1)) k4 W
 rcases ng (t:=wa) (la:=P) (lb:=b5) (λi=>.h11 i (A,()) (B,())) (.inl (.h16 0 (A,()) (B,()))) (λi=>((Y P (i:Int).toNat (Q zn)).1==(Y b5 (i:Int).toNat (Q zn)).1&&((Y P (i:Int).toNat (Q zn)).2.1==(Y b5 (i:Int).toNat (Q zn)).2.1&&((Y P (i:Int).toNat (Q zn)).q==(Y b5 (i:Int).toNat (Q zn)).q&&O)))) (λ_ _=>by subst l;subst m;rfl) (λi _ p u=>by rw[Yd,zW _ _ p,zW _ _ u]) (Wv n5) W with⟨q5,k5⟩|⟨q5,k5⟩;rotate_left
 .exact no (λh=>q5 (by rw[<-l,<-m]at h;simp only[cN]at h;exact h.t.1)) (k4 _ _ k5) W
 rcases ng (t:=wa) (la:=a7) (lb:=b7) (λi=>.h16 i (A,()) (B,())) (.inl (.h21 0 (A,()) (B,()))) (λi=>Y a7 (i:Int).toNat (Q Q6)==Y b7 (i:Int).toNat (Q Q6)) (λ_ _=>by subst l;subst m;rfl) (λi _ p u=>by rw[bW,zW _ _ p,zW _ _ u]) (Wv n7) W with⟨q7,k7⟩|⟨q7,k7⟩;rotate_left
 .exact no (λh=>q7 (by rw[<-l,<-m]at h;simp only[cN]at h;exact h.v.1)) (k4 _ _ (k5 _ _ k7)) W
 rcases ng (t:=wa) (la:=a8) (lb:=b8) (λi=>.h21 i (A,()) (B,())) (.inl (.h26 0 (A,()) (B,()))) (λi=>((Y a8 (i:Int).toNat (Q jL)).1==(Y b8 (i:Int).toNat (Q jL)).1&&((Y a8 (i:Int).toNat (Q jL)).2==(Y b8 (i:Int).toNat (Q jL)).2&&O))) (λ_ _=>by subst l;subst m;rfl) (λi _ p u=>by rw[zv1,zW _ _ p,zW _ _ u]) (Wv n8) W with⟨q8,k8⟩|⟨q8,k8⟩;rotate_left
 .exact no (λh=>q8 (by rw[<-l,<-m]at h;simp only[cN]at h;exact h.w.1)) (k4 _ _ (k5 _ _ (k7 _ _ k8))) W
 rcases ng (t:=wa) (la:=j) (lb:=o) (λi=>.h26 i (A,()) (B,())) (.inl (.h31 0 (A,()) (B,()))) (λi=>((Y j (i:Int).toNat (Q K)).1==(Y o (i:Int).toNat (Q K)).1&&((Y j (i:Int).toNat (Q K)).2.1==(Y o (i:Int).toNat (Q K)).2.1&&((Y j (i:Int).toNat (Q K)).q==(Y o (i:Int).toNat (Q K)).q&&O)))) (λ_ _=>by subst l;subst m;rfl) (λi _ p u=>by rw[zoR,zW _ _ p,zW _ _ u]) (Wv i1) W with⟨x0,H⟩|⟨x0,H⟩;rotate_left
 .exact no (λh=>x0 (by rw[<-l,<-m]at h;simp only[cN]at h;exact h.y.1)) (k4 _ _ (k5 _ _ (k7 _ _ (k8 _ _ H)))) W
 have x9:=Wv i2
 rcases QO (t:=wa) (la:=e) (lb:=g) (λi=>.h31 (i:Int) (A,()) (B,())) x9 (λi p u=>by
  have⟨w1,w2⟩:=oT (a:=e[i].2) (b:=g[i].2) (hx _ (bp p));have U:(wa (.h31 (i:Int) (A,()) (B,()))).val=if(cond (!e[i].1==g[i].1) O (!fF e[i].2 g[i].2))=O then M (.inr Jy)else M (.inl (.h31 ((i+1:Nat):Int) (A,()) (B,()))):=by
   subst l;subst m;show(wa (.h31 _ _ _)).val=_;simp only[wa,Q8,zo,zW _ _ p,zW _ _ u,zO p,zx p,zx u,w1,zj,eY];rw[zu i um];cases(!e[i].1==g[i].1)<;>rfl
  refine⟨λh=>?_,λh=>?_⟩
  .have k:=w2.2 (by rw[h]);rw[U,zh (by rw[k,h];simp)]
  .rw[U,zf];cases hh:(e[i].1==g[i].1)
   .rfl
   .cases hw:fF e[i].2 g[i].2
    .rfl
    .exact zz (Prod.ext (by simpa using hh) (w2.1 hw)) h)with⟨x1,h0⟩|⟨x1,h0⟩
 rotate_left
 .exact no (λh=>x1 (by rw[<-l,<-m]at h;simp only[cN]at h;exact h.z.1)) (k4 _ _ (k5 _ _ (k7 _ _ (k8 _ _ (H _ _ h0))))) W
 have x4:(wa (.h31 (X e:Int) (A,()) (B,()))).val=M (.inr (.kb O,[])):=by
  subst l;subst m;show(wa (.h31 _ _ _)).val=_;simp only[wa,Q8,zM];rfl
 refine⟨O,zA hi (k4 _ _ (k5 _ _ (k7 _ _ (k8 _ _ (H _ _ (h0.ends (zU.of x4))))))) W rfl,?_⟩;subst q4;subst q5;subst q7;subst q8;subst x0;subst x1;rw[<-l,<-m];simp
theorem tO{a:zP}(h:Dp a):C8 a b=O/\(iq a b=O↔a=b):=by
 have⟨r,x,c⟩:=RX (b:=b) h;refine⟨by unfold C8;rw[x];rfl,?_⟩;have:iq a b=r:=by unfold iq;rw[x];rfl
 rw[this];exact c
variable {e:zg}
theorem lH:iz e=O↔e=.mk [] (0,0,[]) [] []:=by
 have⟨o,⟨k,i,t⟩,s,l⟩:=e;unfold iz;show(cond (o==[]) (cond (k==0&&(i==0&&(t==[]&&O))) (cond (s==[]) ((X l:Int)==0) S) S) S)=O↔_;simp only[zg.mk.injEq,cN];constructor
 .intro h;have⟨x,h⟩:=da h;have⟨a,h⟩:=da h;have⟨b,h⟩:=da h;simp at x a b h;exact⟨x,a,b,h⟩
 .rintro⟨rfl,⟨rfl,rfl,rfl⟩,rfl,rfl⟩;rfl
theorem Qy(h:dU e=O):(e.op==[])=S:=by
 have f:=gG (mg h);clear h;cases f with
 |lit v j=>rfl
 |col s i g=>rfl
 |one o a x c=>rcases x with rfl|rfl<;>rfl
 |two o a b x c d=>rcases x with rfl|rfl|rfl|rfl|rfl|rfl<;>rfl
theorem Ys(h:dU e=O):nE 12 e<=60:=by
 rw[yN]at h;by_cases k:nE 12 e<=60
 .exact k
 .exfalso;rw[aC k]at h;cases cX 12 e<;>simp at h
theorem OX(a:vd e)(h:dU e=O):tD e=O/\rX e=bn 16 e/\(bn 16 e).length<=24000:=by have⟨x,b⟩:=tE 16 12 16 e W W W (mg h) a;have x:Ld e=M (bn 16 e,()):=x;have c:=Ys h;refine⟨by unfold tD;rw[x];rfl,by unfold rX;rw[x];rfl,W⟩
def nL(w:zK)(e:zg):zK:=if(e.op==[])=O then[]else if dU e=O then(ite ((w==mQ)=O) (zd1++bn 16 e) (w++zdY++bn 16 e++jq))else[]
variable {w:zK}
theorem WO(d:vd e)(k:mR 16 e=O)(o:X w<=1000):C9 e w=M (nL w e,cy e,())/\(nL w e).length<=30000:=by
 unfold nL;by_cases a:(e.op==[])=O
 .rw[zf a];have⟨s,n⟩:=oT (b:=.mk [] (0,0,[]) [] []) k;have c:dU e=S:=by
   cases h:dU e
   .rfl
   .rw[Qy h]at a;cases a
  have l:fF e (.mk [] (0,0,[]) [] [])=cy e:=by
   unfold cy;rw[c];apply ot.2;rw[n,<-lH];cases iz e<;>simp
  refine⟨zR (r:=(.tup [.str [],.bool (cy e)],[])) ?_ rfl,sw⟩;simp only[N1,Q8,zo,a,s,l,zj]
 .rw[zh a];have m:iz e=S:=by
   cases h:iz e
   .rfl
   .rw[lH.1 h]at a;exact zz rfl a
  have g:cy e=dU e:=by unfold cy;rw[m];rfl
  have a:(e.op==[])=S:=by simpa using a
  rw[g];by_cases c:dU e=O
  .have⟨i,j,p⟩:=OX d c;rw[zf c,c];by_cases x:(w==mQ)=O
   .rw[zf x];refine⟨zR (r:=(.tup [.str (zd1++bn 16 e),.kb O],[])) ?_ rfl,sg⟩;simp only[N1,Q8,zo,a,oS d,tB d,c,x,i,j,zj];rw[zh sw,zh sw,zf (zB sg)]
   .rw[zh x];have x:(w==mQ)=S:=by simpa using x
    refine⟨zR (r:=(.tup [.str (w++zdY++bn 16 e++jq),.kb O],[])) ?_ rfl,sg⟩;simp only[N1,Q8,zo,a,oS d,tB d,c,x,i,j,zj];rw[zh sw,zh sw,zh sw,zf (zB sg),zf (zB sg),zf (zB sg)]
  .rw[zh c];have c:dU e=S:=by simpa using c
   rw[c];refine⟨zR (r:=(.tup [.str [],.kb S],[])) ?_ rfl,sw⟩;simp only[N1,Q8,zo,a,oS d,tB d,c,zj];rfl
theorem F9(c:vd e)(a:mR 16 e=O)(b:X w<=1000):qi e w=O/\vX e w=(nL w e,cy e)/\(nL w e).length<=30000:=by have⟨h,x⟩:=WO c a b;exact⟨by unfold qi;rw[h];rfl,by unfold vX;rw[h];rfl,x⟩
theorem DR(h:cy e=O):me [32] e=nL [] e:=by
 unfold me nL;unfold cy at h;cases a:iz e
 .rw[a]at h;have x:dU e=O:=h;rw[zh sw,zh (by rw[Qy x];simp),zf x];unfold jG pE;rw[x];rfl
 .rw[zf rfl];rw[lH.1 a];rfl
theorem I4(s x:zK):∀l:List zK,Lib.join (l++[x]) s=if l=[]then x else Lib.join l s++s++x
 |[]=>by rw[zf rfl];exact Lib.join_one x s
 |[a]=>by simp[Lib.join,List.intercalate,List.intersperse]
 | a::b::r=>by
  have i:=I4 s x (b::r);rw[zh sw]at i|-;have e:∀(c:zK)(q:List zK),Lib.join (a::c::q) s=a++s++Lib.join (c::q) s:=λc q=>by simp[Lib.join,List.intercalate,List.intersperse]
  show Lib.join (a::b::(r++[x])) s=_;rw[e,e];rw[show b::(r++[x])=(b::r)++[x]from rfl,i];simp
theorem R0{l:List zK}(y:X l<=100)(q:∀x∈l,X x<=1000):∃t,xP l=M (t,(N (∀x∈l,aA x=O)&&(N (1<=X l)&&N (X l<=8))),())/\X t<=200000/\((∀x∈l,aA x=O)->t=Lib.join l fM):=by
 have k:∀i,i<=X l->(Lib.join (l.take i) fM).length<=110000:=by
  intro i a;have:=w9 fM 1000 (l.take i) (λx n=>q x (List.mem_of_mem_take n));have d:(l.take i).length<=100:=by simp;omega
  have w:=f5 (1000+(fM:zK).length) d;simp at this w|-;omega
 have b:∀i(a:i<X l),(GH (.h3 l (Lib.join (l.take i) fM) (i:Int))).val=if aA l[i]=O then M (.inl (.h3 l (Lib.join (l.take (i+1)) fM) ((i+1:Nat):Int)))else M (.inr (.tup [.str [],.kb S],[])):=by
  intro i a;have n:=q _ (bp a);have g:=k i W;show(GH (.h3 _ _ _)).val=_;simp only[GH,Q8,zW _ _ a,zO a,zx a,cD (s:=l[i]) W,fQ (s:=l[i]) W,zj];rw[zu i um,zjB a,I4];by_cases c:aA l[i]=O
  .rw[zh (by rw[c];simp),zf c];by_cases p:i=0
   .subst p;rw[zh sw,zf (zB (by simp[Lib.join_nil];omega)),zf sw];rfl
   .rw[zf (zB W),zf (zB sg),zf (zB sg),zh (by
     intro h;have:=congrArg X h;simp at this;rcases this with h|h
     .exact p h
     .rw[h]at a;simp at a)]
  .rw[zf (by simpa using c),zh c]
 rcases nG (t:=GH) (Φ:=λr=>r=(.tup [.str [],.kb S],[])) 1 (λi=>.h3 l (Lib.join (l.take i) fM) (i:Int)) (λi=>∀h:i<X l,aA l[i]=O) (X l) (λi a _=>by
  by_cases c:aA l[i]=O
  .exact .inl ⟨λ_=>c,zH.of (by rw[b i a,zf c])⟩
  .exact .inr ⟨λh=>c (h a),_,zU.of (by rw[b i a,zh c]),rfl⟩)with⟨o,d⟩|⟨o,r,d,rfl⟩
 .have e:∀x∈l,aA x=O:=by
   intro x n;obtain⟨j,g,rfl⟩:=fK n;exact o j g g
  rw[gB]at d;have g:=k (X l) (zQ _);rw[gB]at g;refine⟨Lib.join l fM,zA (s:=.h3 l [] 0) rfl (d.ends (zU.of (r:=(.tup [.str (Lib.join l fM),.bool (cond (N (1<=(X l:Int))) (N ((X l:Int)<=8)) S)],[])) ?_)) W ?_,W,λ_=>rfl⟩
  .show(GH (.h3 _ _ _)).val=_;simp only[GH,Q8,zM];cases N (1<=(X l:Int))<;>rfl
  .rw[zB e];have u:N (1<=(X l:Int))=N (1<=X l):=by
    by_cases h:1<=X l
    .rw[zB h];exact zB W
    .rw[aC h];exact aC W
   have v:N ((X l:Int)<=8)=N (X l<=8):=by
    by_cases h:X l<=8
    .rw[zB h];exact zB W
    .rw[aC h];exact aC W
   rw[u,v];cases N (1<=X l)<;>cases N (X l<=8)<;>rfl
 .have m:¬∀x∈l,aA x=O:=λh=>o λi _ a=>h _ (bp a)
  refine⟨[],zA (s:=.h3 l [] 0) rfl d W ?_,sw,λh=>zz h m⟩;rw[aC m];rfl
structure wk (s:zP):Prop where
 sh:nI s
 chk:vd s.x.1
 whr:vd s.s.1
 cchk:mR 16 s.x.1=O
 cwhr:mR 16 s.s.1=O
 row:∀v∈s.y.1,mb v
 sets:∀x∈s.z.1,vd (x:J je).2/\mR 16 (x:J je).2=O
def zlS(B:Nat)(r:az):Prop:=∃(h:zK)(b:Bool),bb r.2 [Q6,Q7] r.1=M (h,b,())/\X h<=B
theorem zwR(h:wk s)(e:Bool)(d:zK)(o:X d<=60000)(n:Nat)(m:30<=n):∃r,ej gv n (.h20 e d 0 (s,()))=M r/\zlS 200000 r:=by
 have y:=h.sh.refs.1;refine dO (t:=gv) (β:=Bool×zK) (X s.w.1) (λb i=>.h20 b.1 b.2 (i:Int) (s,())) (λb i=>X b.2<=60000+2100*i) _ 1 ?_ ?_ (X s.w.1) 0 (e,d) n rfl (aK _) (by simpa using o) W
 .rintro⟨b,x⟩ i c a;have a:X x<=60000+2100*i:=a;have⟨q,u⟩:=h.sh.refs.2 _ (bp c);have g:Y s.w.1 (i:Int).toNat (Q jL)=s.w.1[i]:=zW _ _ c;generalize s.w.1[i]=f at g q u;refine .inl ⟨(cond b (cond (cf f.1) (cf f.2) S) S,x++(zl8++f.1++zl7++f.2)),sg,?_⟩;show(gv (.h20 _ _ _ _)).val=_;simp only[gv,Q8,g,zO c,zx c,cD (s:=f.1) W,cD (s:=f.2) W,zj];rw[zu i um,zf (by cases b<;>cases cf f.1<;>rfl),zf (zB sg),zf (zB sg),zf (zB sg),zf (zB sg)]
 .rintro⟨b,x⟩ n a m;have a:X x<=60000+2100*X s.w.1:=a;obtain⟨n,rfl⟩:∃k,n=k+1:=⟨n-1,W⟩;have⟨j,l,v⟩:=F9 h.chk h.cchk (w:=[32,44]) sw;have p:(gv (.h20 b x (X s.w.1:Int) (s,()))).val=M (.inr (.tup [.str (x++nL [32,44] s.x.1++jq),.bool (cond b (cy s.x.1) S)],[])):=by
   show(gv (.h20 _ _ _ _)).val=_;simp only[gv,Q8,zo,zM,j,l,zj]
   rw[zh sw,zf (by
    have:X x+(nL [32,44] s.x.1).length<=200000:=by omega
    simp;omega)]
   cases b<;>rfl
  rw[dc,p];exact⟨_,rfl,_,_,rfl,sg⟩
theorem zwQ(h:wk s)(e:Bool)(d:zK)(l:X d<=30000)(n:Nat)(j:60<=n):∃r,ej gv n (.h15 e d 0 (s,()))=M r/\zlS 200000 r:=by
 have p:=h.sh.uniques.1;refine dO (t:=gv) (β:=Bool×zK) (X s.v.1) (λb i=>.h15 b.1 b.2 (i:Int) (s,())) (λb i=>X b.2<=30000+1100*i) _ 31 ?_ ?_ (X s.v.1) 0 (e,d) n rfl (aK _) (by simpa using l) W
 .rintro⟨b,x⟩ i c a;have a:X x<=30000+1100*i:=a;have o:=h.sh.uniques.2 _ (bp c);have g:Y s.v.1 (i:Int).toNat (Q Q6)=s.v.1[i]:=zW _ _ c;generalize s.v.1[i]=f at g o;refine .inl ⟨(cond b (cf f) S,x++(zl9++f++jq)),sg,?_⟩;show(gv (.h15 _ _ _ _)).val=_;simp only[gv,Q8,g,zO c,zx c,cD (s:=f) W,zj];rw[zu i um,zf (by cases b<;>rfl),zf (zB sg),zf (zB sg),zf (zB sg)]
 .rintro⟨b,x⟩ n a j;have a:X x<=30000+1100*X s.v.1:=a;obtain⟨n,rfl⟩:∃k,n=k+1:=⟨n-1,W⟩;have m:(gv (.h15 b x (X s.v.1:Int) (s,()))).val=M (.inl (.h20 b x 0 (s,()))):=by
   show(gv (.h15 _ _ _ _)).val=_;simp only[gv,Q8,zM];rfl
  rw[dc,m];exact zwR h b x W n W
theorem cr4(h:wk s)(d:Bool)(w:zK)(z:X w<=2000)(n:Nat)(j:100<=n):∃r,ej gv n (.h4 d w 0 (s,()))=M r/\zlS 200000 r:=by
 have G:=h.sh.cols.1;have F:=h.sh.key;refine dO (t:=gv) (β:=zK) (X s.t.1) (λb i=>.h4 d b (i:Int) (s,())) (λb i=>X b<=2000+1100*i) _ 61 ?_ ?_ (X s.t.1) 0 w n rfl (aK _) (by simpa using z) W
 .intro x i o y;have C:=h.sh.cols.2 _ (bp o);have g:Y s.t.1 (i:Int).toNat (Q zn)=s.t.1[i]:=zW _ _ o;generalize s.t.1[i]=f at g C
  have c:((gv (.h4 d x (i:Int) (s,()))).val=if(bif !cf f.1 then O else bif N (LT.lt (α:=Int) f.2.1 1)then O else N (GT.gt (α:=Int) f.2.1 3))=O then M (.inr (.tup [.str [],.kb S],[]))else
    M (.inl (.h4 d ((ite (f.q=O) (x++(f.1++[32]++[[],DM,DN,DL].getD (Z f.2.1) (Q Q6))++zmb) (x++(f.1++[32]++[[],DM,DN,DL].getD (Z f.2.1) (Q Q6))))++fM) ((i+1:Nat):Int) (s,()))))/\
    (¬(bif !cf f.1 then O else bif N (LT.lt (α:=Int) f.2.1 1)then O else N (GT.gt (α:=Int) f.2.1 3))=O->([[],DM,DN,DL].getD (Z f.2.1) (Q Q6)).length<=4):=by
   have l:¬(bif !cf f.1 then O else bif N (LT.lt (α:=Int) f.2.1 1)then O else N (GT.gt (α:=Int) f.2.1 3))=O->zL f.2.1 4=O/\([[],DM,DN,DL].getD (Z f.2.1) (Q Q6)).length<=4:=by
    intro a;have m:¬LT.lt (α:=Int) f.2.1 1:=by
     intro m;rw[zB m]at a;cases p:(!cf f.1)<;>rw[p]at a<;>exact a rfl
    have E:¬GT.gt (α:=Int) f.2.1 3:=by
     intro m;rw[zB m]at a;cases p:(!cf f.1)<;>rw[p]at a<;>cases e:N (LT.lt (α:=Int) f.2.1 1)<;>rw[e]at a<;>exact a rfl
    have e:@Eq Int f.2.1 1\/@Eq Int f.2.1 2\/@Eq Int f.2.1 3:=by omega
    rcases e with e|e|e<;>rw[e]<;>exact⟨rfl,by decide⟩
   refine⟨?_,λa=>(l a).2⟩;show(gv (.h4 _ _ _ _)).val=_;simp only[gv,Q8,g,zO o,zx o,cD (s:=f.1) W,zj];by_cases a:(bif !cf f.1 then O else bif N (LT.lt (α:=Int) f.2.1 1)then O else N (GT.gt (α:=Int) f.2.1 3))=O
   .rw[zf a,zf a]
   .have⟨A,B⟩:=l a;rw[zh a,zh a,zf (zB sg)];refine(zf A).trans ?_;generalize[[],DM,DN,DL].getD (Z f.2.1) (Q Q6)=D at B;rw[zf (zB sg),zf (zB sg),zu i um];by_cases j:f.q=O
    .rw[zf j,zf j,zf (zB sg),zf (zB sg)]
    .rw[zh j,zh j,zf (zB sg)]
  have⟨c,v⟩:=c;by_cases a:(bif !cf f.1 then O else bif N (LT.lt (α:=Int) f.2.1 1)then O else N (GT.gt (α:=Int) f.2.1 3))=O
  .rw[zf a]at c;exact .inr ⟨_,c,[],S,rfl,sw⟩
  .rw[zh a]at c;have:=v a;generalize[[],DM,DN,DL].getD (Z f.2.1) (Q Q6)=D at c this;refine .inl ⟨_,?_,c⟩;split<;>simp<;>omega
 .intro x n y j;obtain⟨n,rfl⟩:∃k,n=k+1:=⟨n-1,W⟩;have c:(gv (.h4 d x (X s.t.1:Int) (s,()))).val=M (.inl (.h15 d (x++(zme++s.u.1++jq)) 0 (s,()))):=by
   show(gv (.h4 _ _ _ _)).val=_;simp only[gv,Q8,zM];rw[zh sw,zf (zB sg),zf (zB sg),zf (zB sg)]
  rw[dc,c];exact zwQ h d _ sg n W
theorem O1(h:wk s):∃(x:zK)(b:Bool),oU s=M (x,b,())/\X x<=200000:=by
 have j:=h.sh.table;have i:=h.sh.key;have c:∃a,(Zu s).val=M (.inl (.h4 a (zd2++s.2.1++Ca) 0 (s,()))):=by
  refine⟨(cond (cf s.u.1) (cond (N (1<=(X s.t.1:Int))) (cond (N ((X s.t.1:Int)<=8)) (cond (N ((X s.v.1:Int)<=8)) (N ((X s.w.1:Int)<=8)) S) S) S) S),?_⟩;simp only[Zu,Q8,cD (s:=s.u.1) W,zj];rw[zf (zB sg),zf (zB sg)]
 have⟨a,c⟩:=c;have⟨r,d,x,b,e,g⟩:=cr4 h a (zd2++s.2.1++Ca) sg 100000000 W;refine⟨x,b,?_,g⟩;unfold oU ar bT;rw[c];show(ej gv 100000000 _).bind _=_;rw[d];exact e
theorem RP(h:wk s):tH s=O/\(rY s).1.length<=200000:=by have⟨c,b,x,a⟩:=O1 h;exact⟨by unfold tH;rw[x];rfl,by unfold rY;rw[x];exact a⟩
def zdG(o:Option (zF (List.map M [Q6,aB,Q7]))):Prop:=∃(t:zK)(h:zP)(x:Bool),o=M (t,h,x,())/\X t<=900000/\Dp h
theorem zwp{r:az}{t:zK}{x:Bool}(d:(pJ s).val=M (.inr r))(c:bb r.2 [Q6,aB,Q7] r.1=M (t,b,x,()))(a:X t<=900000)(h:Dp b):zdG (ft s):=
 ⟨t,b,x,zR d c,a,h⟩
abbrev gw:zg:=.mk [] (0,0,[]) [] []
theorem zak:mR 16 gw=O:=by decide+kernel
theorem gC{a:zP}(h:wk s)(g:a.r.1=s.r.1\/a.r.1=[])(i:a.t.1=s.t.1\/a.t.1=[])(j:a.v.1=s.v.1\/a.v.1=[])
  (l:a.w.1=s.w.1\/a.w.1=[]) (m:a.x.1=s.x.1\/a.x.1=gw) (c:a.y.1=s.y.1\/a.y.1=[])
  (b:a.z.1=s.z.1\/a.z.1=[]) (d:a.s.1=s.s.1\/a.s.1=gw):Dp a where
 names:=by have:=h.sh.names.1;rcases g with h|h<;>rw[h]<;>first|omega|simp
 cols:=by have:=h.sh.cols.1;rcases i with h|h<;>rw[h]<;>first|omega|simp
 uniques:=by have:=h.sh.uniques.1;rcases j with h|h<;>rw[h]<;>first|omega|simp
 refs:=by have:=h.sh.refs.1;rcases l with h|h<;>rw[h]<;>first|omega|simp
 row:=by have:=h.sh.row;rcases c with h|h<;>rw[h]<;>first|omega|simp
 sets:=by have:=h.sh.sets.1;rcases b with h|h<;>rw[h]<;>first|omega|simp
 chk:=by rcases m with k|k<;>rw[k];exact h.cchk;exact zak
 whr:=by rcases d with k|k<;>rw[k];exact h.cwhr;exact zak
 ex:=by
  rcases b with k|k<;>rw[k]
  .exact λx e=>(h.sets x e).2
  .intro x e;cases e
def Vf(r:az):Prop:=∃(t:zK)(o:zP)(h:Bool),bb r.2 [Q6,aB,Q7] r.1=M (t,o,h,())/\X t<=900000/\Dp o
theorem EX{r:az}(t:zK)(o:zP)(h:Bool)(x:bb r.2 [Q6,aB,Q7] r.1=M (t,o,h,()))(a:X t<=900000)(b:Dp o):Vf r:=⟨t,o,h,x,a,b⟩
theorem zzm(h:wk s):∃r,ej pf 100000000 (.h15 [] 0 (s,()) ([],[],[],[],[],0,0,[],[],[],0,0,[],[],[],()) (s.1,s.2.1,[],[],[],0,0,[],[],s.y.1,[],0,0,[],[],[],()))=M r/\Vf r:=by
 have w:=h.sh.row;have A:=h.sh.table;have a:Dp (s.1,s.2.1,[],[],[],[],[],[],gw,s.y.1,[],gw,[]):=gC h (.inr rfl) (.inr rfl) (.inr rfl) (.inr rfl) (.inr rfl) (.inl rfl) (.inr rfl) (.inr rfl);refine dO (t:=pf) (β:=zK) (X s.y.1) (λb i=>.h15 b (i:Int) (s,()) ([],[],[],[],[],0,0,[],[],[],0,0,[],[],[],()) (s.1,s.2.1,[],[],[],0,0,[],[],s.y.1,[],0,0,[],[],[],())) (λb i=>X b<=400*i) _ 1 ?_ ?_ (X s.y.1) 0 [] 100000000 rfl (aK _) sw W
 .intro x i l o;have d:=h.row _ (bp l);have u:=Bc s.y.1[i];have g:Y s.y.1 (i:Int).toNat (Q K)=s.y.1[i]:=zW _ _ l;generalize s.y.1[i]=v at g d u
  have e:(pf (.h15 x (i:Int) (s,()) ([],[],[],[],[],0,0,[],[],[],0,0,[],[],[],()) (s.1,s.2.1,[],[],[],0,0,[],[],s.y.1,[],0,0,[],[],[],()))).val=if bf v=O then M (.inl (.h15 ((ite ((i:Int)>0) (x++fM) x)++jg v) ((i+1:Nat):Int) (s,()) ([],[],[],[],[],0,0,[],[],[],0,0,[],[],[],()) (s.1,s.2.1,[],[],[],0,0,[],[],s.y.1,[],0,0,[],[],[],())))else
    M (.inr (.tup [.str [],aS s.1 s.2.1 [] .nils .nils [] .nils .nils zE (.sl K s.y.1) .nils zE [],.kb S],[])):=by
   show(pf (.h15 _ _ _ _ _)).val=_;simp only[pf,Q8,g,zO l,zx l,mz d.q,pW d.q,Jl d,OV d,zj];rw[zu i um];by_cases m:bf v=O
   .rw[zh (by rw[m];simp),zf m];by_cases j:(i:Int)>0
    .rw[zf (zB j),zf j,zf (zB sg),zf (zB sg)]
    .rw[zh (by simpa using j),zh j,zf (zB W)]
   .rw[zf (by simpa using m),zh m];rfl
  by_cases m:bf v=O
  .rw[zf m]at e;refine .inl ⟨_,?_,e⟩;split<;>simp<;>omega
  .rw[zh m]at e;exact .inr ⟨_,e,EX [] _ S rfl sw a⟩
 .intro x n o z;obtain⟨n,rfl⟩:∃k,n=k+1:=⟨n-1,W⟩
  have e:∃b,(pf (.h15 x (X s.y.1:Int) (s,()) ([],[],[],[],[],0,0,[],[],[],0,0,[],[],[],()) (s.1,s.2.1,[],[],[],0,0,[],[],s.y.1,[],0,0,[],[],[],()))).val=
    M (.inr (.tup [.str (X5++s.2.1++zd0++x++jq),aS s.1 s.2.1 [] .nils .nils [] .nils .nils zE (.sl K s.y.1) .nils zE [],b],[]))/\(b=.kb S\/∃c,b=.bool c):=by
   show∃b,(pf (.h15 _ _ _ _ _)).val=_/\_;simp only[pf,Q8,zM];rw[zh sw,zf (zB sg),zf (zB sg),zf (zB sg),zf (zB sg)];split
   .exact⟨_,rfl,.inr ⟨_,rfl⟩⟩
   .exact⟨_,rfl,.inl rfl⟩
  have⟨b,e,p⟩:=e;rw[dc,e];rcases p with rfl|⟨c,rfl⟩
  .exact⟨_,rfl,EX _ _ S rfl sg a⟩
  .exact⟨_,rfl,EX _ _ c rfl sg a⟩
theorem zzn(h:wk s)(c:zK)(j:Bool)(h8:X c<=30000):∃r,ej pf 100000000 (.h27 c j [] 0 (s,()) ([],[],[],[],[],0,0,[],[],[],0,0,[],[],[],()) (s.1,s.2.1,[],[],[],0,0,[],[],s.z.1,s.s.1,[],()))=M r/\Vf r:=by
 have hl:=h.sh.sets.1;have ht:=h.sh.table;have d:Dp (s.1,s.2.1,[],[],[],[],[],[],gw,[],s.z.1,s.s.1,[]):=gC h (.inr rfl) (.inr rfl) (.inr rfl) (.inr rfl) (.inr rfl) (.inr rfl) (.inl rfl) (.inl rfl);generalize hZ:(([],[],[],[],[],0,0,[],[],[],0,0,[],[],[],()):zq jO)=a;generalize hU:((s.1,s.2.1,[],[],[],0,0,[],[],s.z.1,s.s.1,[],()):zq Qt)=V
 have p:∀(t:zK)(o:Bool)(b:AV),(b=.bool o\/(b=.kb S/\o=S))->bb [] [Q6,aB,Q7] (.tup [.str t,aS V.1 V.2.1 V.q.1 .nils .nils V.r.1 .nils .nils [I V.t.1,L V.u.1,L V.v.1,I V.w.1,I V.x.1,nils] .nils (.sl (Sh.str.pr Sh.expr) V.y.1) (xE V.z.1) V.s.1,b])=
   M (t,(s.1,s.2.1,[],[],[],[],[],[],gw,[],s.z.1,s.s.1,[]),o,()):=by
  intro t o b E;subst hU;have⟨s1,s2,s3,s4,s5,s6,s7,c,s9,h3,h4,⟨d1,d2,d3,d4⟩,h5⟩:=s;rcases E with rfl|⟨rfl,rfl⟩<;>rfl
 refine dO (t:=pf) (β:=zK) (X s.z.1) (λb i=>.h27 c j b (i:Int) (s,()) a V) (λb i=>X b<=26000*i) _ 1 ?_ ?_ (X s.z.1) 0 [] 100000000 rfl (aK _) sw W
 .intro x i l hI;have⟨C,F⟩:=h.sets _ (bp l);have G:=h.sh.sets.2 _ (bp l);have g:Y s.z.1 (i:Int).toNat (Q je)=s.z.1[i]:=zW _ _ l;generalize s.z.1[i]=v at g C F G;have e:(¬(cf v.1=O/\dU v.2=O)/\∃r,(pf (.h27 c j x (i:Int) (s,()) a V)).val=M (.inr r)/\Vf r)\/∃A:zK,X A<=X x+26000/\(pf (.h27 c j x (i:Int) (s,()) a V)).val=M (.inl (.h27 c j A ((i+1:Nat):Int) (s,()) a V)):=by
   show(_/\∃r,(pf (.h27 _ _ _ _ _ _ _)).val=_/\_)\/∃A:zK,_/\(pf (.h27 _ _ _ _ _ _ _)).val=_;simp only[pf,Q8,g,zo,zO l,zx l,cD (s:=v.1) W,oS C,tB C,zj,eY];have hg:(cond (!cf v.1) O O)=O:=by cases cf v.1<;>rfl
   rw[hg];by_cases m:cf v.1=O/\dU v.2=O
   .have⟨m1,P⟩:=m;have⟨t1,t2,t3⟩:=OX C P;refine .inr ⟨(ite ((i:Int)>0) (x++fM) x)++(v.1++zma++bn 16 v.2),by split<;>simp<;>omega,?_⟩;simp only[m1,P,t1,t2,zj,ce,aL,zC,zm];rw[zu i um];by_cases B:(i:Int)>0
    .rw[zf (zB B),zf B,zf (zB sg),zf (zB sg),zf (zB sg),zf (zB sg)]
    .rw[zh (by simpa using B),zh B,zf (zB sg),zf (zB sg),zf (zB sg)]
   .refine .inl ⟨m,?_⟩;have hc:(cond (!cf v.1) O (!dU v.2))=O:=by
     cases U:cf v.1
     .rfl
     .cases h2:dU v.2
      .rfl
      .exact zz ⟨U,h2⟩ m
    rw[zf rfl,zf hc];exact⟨_,rfl,EX [] _ S (p [] S _ (.inr ⟨rfl,rfl⟩)) sw d⟩
  rcases e with⟨_,r,H,D⟩|⟨A,H,D⟩
  .exact .inr ⟨r,H,D⟩
  .exact .inl ⟨A,W,D⟩
 .intro x n hI hn;obtain⟨n,rfl⟩:∃k,n=k+1:=⟨n-1,W⟩
  have e:∃b o,(pf (.h27 c j x (X s.z.1:Int) (s,()) a V)).val=
    M (.inr (.tup [.str (X8++s.2.1++zdZ++x++c),aS V.1 V.2.1 V.q.1 .nils .nils V.r.1 .nils .nils [I V.t.1,L V.u.1,L V.v.1,I V.w.1,I V.x.1,nils] .nils (.sl (Sh.str.pr Sh.expr) V.y.1) (xE V.z.1) V.s.1,b],[]))/\(b=.bool o\/(b=.kb S/\o=S)):=by
   show∃b o,(pf (.h27 _ _ _ _ _ _ _)).val=_/\_;simp only[pf,Q8,zM];rw[zh sw,zf (zB sg),zf (zB sg),zf (zB sg),zf (zB sg)];split
   .split
    .exact⟨_,_,rfl,.inl rfl⟩
    .exact⟨_,S,rfl,.inr ⟨rfl,rfl⟩⟩
   .exact⟨_,S,rfl,.inr ⟨rfl,rfl⟩⟩
  have⟨b,o,e,E⟩:=e;rw[dc,e];exact⟨_,rfl,EX _ _ o (p _ o b E) sg d⟩
theorem wrP(h:wk s):(qi s.x.1 []=O/\vX s.x.1 []=(nL [] s.x.1,cy s.x.1)/\(nL [] s.x.1).length<=30000)/\
  (qi s.s.1 mQ=O/\vX s.s.1 mQ=(nL mQ s.s.1,cy s.s.1)/\(nL mQ s.s.1).length<=30000)/\
  s.2.1.length<=1000/\X s.p<=1000/\X s.q.1<=1000/\X s.u.1<=1000:=
 ⟨F9 h.chk h.cchk sw,F9 h.whr h.cwhr sw,h.sh.table,h.sh.role,h.sh.other,h.sh.key⟩
def Su(s:zP):zK:=X6++s.2.1++md++s.q.1++Ca++Lib.join s.r.1 fM++jq++nL [] s.x.1
def mu(s:zP):Bool:=(N (∀x∈s.r.1,aA x=O)&&(N (1<=X s.r.1)&&N (X s.r.1<=8)))&&(cy s.x.1&&aA s.q.1)
theorem UQ(h:wk s)(o:s.1=dD):∃t,ft s=M (t,(s.1,s.2.1,s.q.1,s.r.1,[],[],[],[],s.x.1,[],[],gw,[]),mu s,())/\X t<=900000/\(mu s=O->t=Su s):=by
 have⟨⟨j,k,U⟩,⟨m,d2,d3⟩,ht,hr,ho,c⟩:=wrP h;have⟨w,y,z,A,B,C,_,_,_,_,D⟩:=zft o;have⟨t,n,n2,p⟩:=R0 (l:=s.r.1) (by have:=h.sh.names.1;omega) h.sh.names.2;have u:Ga s.r.1=O:=by unfold Ga;rw[n];rfl
 have v:LH s.r.1=(t,(N (∀x∈s.r.1,aA x=O)&&(N (1<=X s.r.1)&&N (X s.r.1<=8)))):=by unfold LH;rw[n];rfl
 have H:=cD (s:=s.q.1) W;have P:=fQ (s:=s.q.1) W;refine⟨X6++s.2.1++md++s.q.1++Ca++t++jq++nL [] s.x.1,?_,sg,?_⟩
 .have d:∃b,(pJ s).val=M (.inr (.tup [.str (X6++s.2.1++md++s.q.1++Ca++t++jq++nL [] s.x.1),aM s (.sl Q6 s.r.1) [] [],b],[]))/\(b=.bool (mu s)\/(b=.kb S/\mu s=S)):=by
   unfold mu;simp only[pJ,Q8,zo,j,m,w,y,z,A,B,C,D,u,v,k,H,P,zj,zC,zm]
   iterate 7 rw[zf (zB sg)]
   generalize(N (∀x∈s.r.1,aA x=O)&&(N (1<=X s.r.1)&&N (X s.r.1<=8)))=g;generalize cy s.x.1=i;cases g
   .exact⟨_,rfl,.inr ⟨rfl,rfl⟩⟩
   .cases i
    .exact⟨_,rfl,.inr ⟨rfl,rfl⟩⟩
    .exact⟨_,rfl,.inl rfl⟩
  have⟨b,d,e⟩:=d;refine zR d ?_;clear d;have⟨s1,s2,s3,s4,s5,s6,s7,s8,⟨f1,f2,f3,f4⟩,E,F,⟨g1,g2,g3,g4⟩,G⟩:=s;rcases e with rfl|⟨rfl,e⟩
  .rfl
  .rw[e];rfl
 .intro c;have a:∀x∈s.r.1,aA x=O:=by
   unfold mu at c;simp only[aP,ba]at c;exact c.1.1
  rw[p a];rfl
def sy(s:zP):zK:=zmg++s.2.1++md++s.q.1++fM++s.p++Cb++s.u.1++nL [] s.x.1
def pQ(s:zP):Bool:=cy s.x.1&&(aA s.q.1&&(aA s.p&&aA s.u.1))
theorem UR(h:wk s)(o:s.1=gO):ft s=M (sy s,(s.1,s.2.1,s.q.1,[],[],s.u.1,[],[],s.x.1,[],[],gw,s.p),pQ s,())/\(sy s).length<=900000:=by
 have⟨⟨i,j,c3⟩,⟨k,d2,d3⟩,ht,hr,ho,hk⟩:=wrP h;have⟨l,m,n,v,w,y,_,_,_,_,z,A⟩:=zfu o;have E:=cD (s:=s.q.1) W;have F:=fQ (s:=s.q.1) W;have G:=cD (s:=s.p) W;have H:=fQ (s:=s.p) W;have P:=cD (s:=s.u.1) W;have U:=fQ (s:=s.u.1) W;refine⟨?_,by unfold sy;simp;omega⟩;have a:∃b,(pJ s).val=M (.inr (.tup [.str (sy s),aM s .nils s.u.1 s.p,b],[]))/\(b=.bool (pQ s)\/(b=.kb S/\pQ s=S)):=by
  unfold pQ sy;simp only[pJ,Q8,zo,i,k,l,m,n,v,w,y,z,A,j,E,F,G,H,P,U,zj,zC,zm]
  iterate 8 rw[zf (zB sg)]
  generalize cy s.x.1=d;generalize aA s.q.1=e;generalize aA s.p=g;cases d
  .exact⟨_,rfl,.inr ⟨rfl,rfl⟩⟩
  .cases e
   .exact⟨_,rfl,.inr ⟨rfl,rfl⟩⟩
   .cases g
    .exact⟨_,rfl,.inr ⟨rfl,rfl⟩⟩
    .exact⟨_,rfl,.inl rfl⟩
 have⟨b,a,c⟩:=a;refine zR a ?_;clear a;generalize sy s=tx;have⟨s1,s2,s3,s4,s5,s6,s7,s8,⟨f1,f2,f3,f4⟩,B,C,⟨g1,g2,g3,g4⟩,D⟩:=s;rcases c with rfl|⟨rfl,c⟩
 .rfl
 .rw[c];rfl
def nC(s:zP):zK:=zmf++s.2.1++md++s.q.1++Vo++s.r.1.getD 0 []++Vp++s.r.1.getD 1 []++nL [] s.x.1
def iL(s:zP):Bool:=N (X s.r.1=2)&&(cy s.x.1&&(aA s.q.1&&(aA (s.r.1.getD 0 [])&&aA (s.r.1.getD 1 []))))
theorem PL(h:wk s)(o:s.1=pp):∃t,ft s=M (t,(s.1,s.2.1,s.q.1,s.r.1,[],[],[],[],s.x.1,[],[],gw,[]),iL s,())/\X t<=900000/\(iL s=O->t=nC s):=by
 have⟨⟨F,G,c3⟩,⟨H,d2,d3⟩,ht,hr,ho,hk⟩:=wrP h;have⟨q0,q1,q2,q3,q4,q5,_,_,_,_,q6,q7,q8⟩:=zaL o;have w1:=cD (s:=s.q.1) W;have w2:=fQ (s:=s.q.1) W;by_cases a:X s.r.1=2
 .have v:((X s.r.1:Int)!=2)=S:=by rw[a];rfl
  have n0:(s.r.1.getD 0 []).length<=1000:=by
   rw[bx,af W,bI];exact h.sh.names.2 _ (bp _)
  have n:(s.r.1.getD 1 []).length<=1000:=by
   rw[bx,af W,bI];exact h.sh.names.2 _ (bp _)
  have p:zL 0 (X s.r.1)=O:=by rw[a];rfl
  have u:zL 1 (X s.r.1)=O:=by rw[a];rfl
  have l:Y s.r.1 (Z 0) (Q Q6)=s.r.1.getD 0 []:=rfl;have g:Y s.r.1 (Z 1) (Q Q6)=s.r.1.getD 1 []:=rfl;have w:=cD (s:=s.r.1.getD 0 []) W;have y:=fQ (s:=s.r.1.getD 0 []) W;have z:=cD (s:=s.r.1.getD 1 []) W;have A:=fQ (s:=s.r.1.getD 1 []) W;refine⟨nC s,?_,by unfold nC;simp at n0 n|-;omega,λ_=>rfl⟩;have d:∃b,(pJ s).val=M (.inr (.tup [.str (nC s),aM s (.sl Q6 s.r.1) [] [],b],[]))/\(b=.bool (iL s)\/(b=.kb S/\iL s=S)):=by
   unfold iL nC;rw[zB a];simp only[pJ,Q8,zo,F,H,q0,q1,q2,q3,q4,q5,q6,q7,q8,G,w1,w2,l,g,w,y,z,A,v,p,u,zj,zC,zm];generalize s.r.1.getD 0 []=B at n0;generalize s.r.1.getD 1 []=a1 at n
   iterate 8 rw[zf (zB sg)]
   generalize cy s.x.1=C;generalize aA s.q.1=D;generalize aA B=E;cases C
   .exact⟨_,rfl,.inr ⟨rfl,rfl⟩⟩
   .cases D
    .exact⟨_,rfl,.inr ⟨rfl,rfl⟩⟩
    .cases E
     .exact⟨_,rfl,.inr ⟨rfl,rfl⟩⟩
     .exact⟨_,rfl,.inl rfl⟩
  have⟨b,d,e⟩:=d;refine zR d ?_;clear d;generalize nC s=tx;clear n0 n p u l g w y z A;have⟨s1,s2,s3,s4,s5,s6,s7,s8,⟨P,U,f3,f4⟩,i,j,⟨g,g2,g3,g4⟩,k⟩:=s;rcases e with rfl|⟨rfl,e⟩
  .rfl
  .rw[e];rfl
 .have v:((X s.r.1:Int)!=2)=O:=by
   simp only[bne_iff_ne];omega
  have c:iL s=S:=by unfold iL;rw[aC a];rfl
  refine⟨[],?_,sw,λm=>by rw[c]at m;cases m⟩;rw[c];refine zR (r:=(.tup [.str [],aM s (.sl Q6 s.r.1) [] [],.kb S],[])) ?_ ?_
  .simp_all[pJ,Q8,zo]
  .have⟨s1,s2,s3,s4,s5,s6,s7,s8,⟨P,U,f3,f4⟩,i,j,⟨g,g2,g3,g4⟩,k⟩:=s;rfl
theorem lY(h:∃r,(pJ s).val=M (.inr r)/\Vf r):zdG (ft s):=by have⟨r,x,t,o,d,a,b,c⟩:=h;exact zwp x a b c
theorem G2{x:Dw}(d:(pJ s).val=M (.inl x))(h:∃r,ej pf 100000000 x=M r/\Vf r):zdG (ft s):=by have⟨r,h,t,o,c,e,a,b⟩:=h;refine⟨t,o,c,?_,a,b⟩;grind[ft,ar,bT]
theorem R1(h:wk s):zdG (ft s):=by
 by_cases n6:s.1=dD
 .have⟨t,a,b,_⟩:=UQ h n6;exact⟨t,_,_,a,b,gC h (.inl rfl) (.inr rfl) (.inr rfl) (.inr rfl) (.inl rfl) (.inr rfl) (.inr rfl) (.inr rfl)⟩
 by_cases n7:s.1=gO
 .have⟨a,b⟩:=UR h n7;exact⟨_,_,_,a,b,gC h (.inr rfl) (.inr rfl) (.inr rfl) (.inr rfl) (.inl rfl) (.inr rfl) (.inr rfl) (.inr rfl)⟩
 by_cases n8:s.1=pp
 .have⟨t,a,b,_⟩:=PL h n8;exact⟨t,_,_,a,b,gC h (.inl rfl) (.inr rfl) (.inr rfl) (.inr rfl) (.inl rfl) (.inr rfl) (.inr rfl) (.inr rfl)⟩
 have⟨⟨c,c2,c3⟩,⟨d,D,d3⟩,ht,hr,ho,hk⟩:=wrP h;have q6:¬(s.1==dD)=O:=λe=>n6 (bQ e)
 have q7:¬(s.1==gO)=O:=λe=>n7 (bQ e)
 have q8:¬(s.1==pp)=O:=λe=>n8 (bQ e)
 by_cases g:(s.1==Qo)=O
 .refine lY ?_;simp only[pJ,Q8,zo,c,d,g,zj];have⟨e1,e2⟩:=RP h;have es:tH (s.1,s.2.1,s.q.1,s.r.1,s.t.1,s.u.1,s.v.1,s.w.1,s.x.1,s.y.1,s.z.1,s.s.1,s.p)=O:=e1;rw[zf es];refine⟨_,rfl,EX (rY s).1 (s.1,s.2.1,[],[],s.t.1,s.u.1,s.v.1,s.w.1,s.x.1,[],[],gw,[]) (rY s).2 ?_ W (gC h (.inr rfl) (.inl rfl) (.inl rfl) (.inl rfl) (.inl rfl) (.inr rfl) (.inr rfl) (.inr rfl))⟩;have⟨s1,s2,s3,s4,s5,s6,s7,s8,⟨E,F,G,H⟩,i,j,⟨P,U,g3,g4⟩,k⟩:=s;rfl
 by_cases l:(s.1==bl1)=O
 .refine lY ?_;simp only[pJ,Q8,zo,c,d,g,l,zj,zC,zm];rw[zf (zB sg)];exact⟨_,rfl,EX _ (s.1,s.2.1,[],[],[],[],[],[],gw,[],[],gw,[]) O rfl sg (gC h (.inr rfl) (.inr rfl) (.inr rfl) (.inr rfl) (.inr rfl) (.inr rfl) (.inr rfl) (.inr rfl))⟩
 by_cases A:(s.1==bl3)=O
 .refine G2 ?_ (zzm h);simp_all[pJ,Q8,zo]
 by_cases B:(s.1==M9)=O
 .refine G2 ?_ (zzn h (nL mQ s.s.1) (cy s.s.1) d3);simp_all[pJ,Q8,zo]
 by_cases C:(s.1==bl0)=O
 .refine lY ?_;simp only[pJ,Q8,zo,c,d,g,l,A,B,C,zj,zC,zm];rw[D,zf (zB sg),zf (zB sg)];refine⟨_,rfl,EX (zd4++s.2.1++nL mQ s.s.1) (s.1,s.2.1,[],[],[],[],[],[],gw,[],[],s.s.1,[]) (cy s.s.1) ?_ ?_ (gC h (.inr rfl) (.inr rfl) (.inr rfl) (.inr rfl) (.inr rfl) (.inr rfl) (.inr rfl) (.inl rfl))⟩;rotate_left 2
  .have⟨s1,s2,s3,s4,s5,s6,s7,s8,⟨E,F,G,H⟩,i,j,⟨P,U,g3,g4⟩,k⟩:=s;rfl
  .simp;omega
 by_cases q5:(s.1==Kb)=O
 .refine lY ?_;simp only[pJ,Q8,zo,c,d,g,l,A,B,C,q5,zj,zC,zm];rw[D,zf (zB sg),zf (zB sg)];refine⟨_,rfl,EX (zed++s.2.1++nL mQ s.s.1) (s.1,s.2.1,[],[],[],[],[],[],gw,[],[],s.s.1,[]) (cy s.s.1) ?_ ?_ (gC h (.inr rfl) (.inr rfl) (.inr rfl) (.inr rfl) (.inr rfl) (.inr rfl) (.inr rfl) (.inl rfl))⟩;rotate_left 2
  .have⟨s1,s2,s3,s4,s5,s6,s7,s8,⟨E,F,G,H⟩,i,j,⟨P,U,g3,g4⟩,k⟩:=s;rfl
  .simp;omega
 by_cases q9:(s.1==bl9)=O;rotate_left;by_cases m:(s.1==Qk)=O;rotate_left;by_cases n:(s.1==P9)=O;rotate_left;by_cases o:(s.1==Qj)=O;rotate_left
 .refine lY ?_;simp only[pJ,Q8,zo,c,d,g,l,A,B,C,q5,q6,q7,q8,q9,m,n,o,zj,zC,zm];exact⟨_,rfl,EX _ (s.1,s.2.1,[],[],[],[],[],[],gw,[],[],gw,[]) S rfl sw (gC h (.inr rfl) (.inr rfl) (.inr rfl) (.inr rfl) (.inr rfl) (.inr rfl) (.inr rfl) (.inr rfl))⟩
 all_goals
  refine lY ?_;simp only[pJ,Q8,zo, *,zj,zC,zm];rw[zf (zB sg),zf (zB sg),zf (zB sg),zf (cD (s:=s.p) W)];exact⟨_,rfl,EX _ (s.1,s.2.1,[],[],[],[],[],[],gw,[],[],gw,s.p) (cf s.p) rfl sg (gC h (.inr rfl) (.inr rfl) (.inr rfl) (.inr rfl) (.inr rfl) (.inr rfl) (.inr rfl) (.inr rfl))⟩
theorem zji(p:Int->Bool):∀s:zK,dQ p s=X s↔∀c∈s,p c.toNat=O
 |[]=>by simp[dQ]
 | c::r=>by
  have a:=CG p r;have x:=zji p r;rw[dQ];by_cases h:p c.toNat=O
  .rw[zf h];simp[h,x]
  .rw[zh h];simp[h]
theorem zy9(p:Int->Bool)(s:zK):bH p p s=X s↔∀c∈s,p c.toNat=O:=by
 cases s with
 |nil=>simp[bH]
 | cons c r=>
  have a:=CG p r;have x:=zji p r;rw[bH];by_cases h:p c.toNat=O
  .rw[zf h];simp[h,x]
  .rw[zh h];simp[h]
theorem zfY:∀s:zK,(cond ((X s:Int)==1) (N (0<=Lib.indexByte zmc (List.headD s 0))) S)=
  (cond (s==[40]) O (cond (s==[41]) O (cond (s==[44]) O (cond (s==[61]) O (cond (s==[60]) O (cond (s==[43]) O (cond (s==[45]) O (s==[42]))))))))
 |[]=>rfl
 | a::b::r=>by
  have e:((((a::b::r).length:Nat):Int)==1)=S:=dX.2 sg;rw[e];simp
 | [c]=>by
  by_cases h:c=40
  .subst h;rfl
  by_cases x:c=41
  .subst x;rfl
  by_cases d:c=44
  .subst d;rfl
  by_cases g:c=61
  .subst g;rfl
  by_cases i:c=60
  .subst i;rfl
  by_cases j:c=43
  .subst j;rfl
  by_cases k:c=45
  .subst k;rfl
  by_cases l:c=42
  .subst l;rfl
  simp[Lib.indexByte,h,x,d,g,i,j,k,l,Ne.symm h,Ne.symm x,Ne.symm d,Ne.symm g,Ne.symm i,Ne.symm j,Ne.symm k,Ne.symm l]
variable {t:dA}
theorem O9(x:X t.2<=1000000):Lz t=M (dI t,()):=by
 have⟨k,s⟩:=t;have x:X s<=1000000:=x;by_cases m:k=(1:Int)
 .subst m;refine zR (r:=(.bool (eU s),[])) ?_ ?_
  .simp only[N3,Q8,AU x,F1 x];rfl
  .rfl
 by_cases n:k=(2:Int)
 .subst n;have a:(N3 ((2,s):dA)).val=M (.inl (.h6 ((0:Nat):Int) ((2,s),()))):=rfl;have E:=nG (t:=yk) (Φ:=λr=>r=(.kb S,[])) 1 (λi=>.h6 (i:Int) ((2,s),())) (λi=>aD (Y s i 0).toNat=O) (X s) (by
   intro i a _;have w:(yk (.h6 (i:Int) ((2,s),()))).val=if(!aD (Y s i 0).toNat)=O then M (.inr (.kb S,[]))else M (.inl (.h6 ((i+1:Nat):Int) ((2,s),()))):=by
    show(yk (.h6 _ _)).val=_;unfold yk;simp only[Q8,zO a,zx a,aJ,ka,lS,zj];rw[zu i um]
   by_cases h:aD (Y s i 0).toNat=O
   .exact .inl ⟨h,zH.of (by rw[w,zh (by rw[h];simp)])⟩
   .exact .inr ⟨h,_,zU.of (by rw[w,zf (by simpa using h)]),rfl⟩)
  have q:=aT (l:=s) (d:=0) (Q:=λc=>aD c.toNat=O);have u:=zy9 aD s;have j:dI ((2,s):dA)=(cond (N ((X s:Int)>=1)) (cond (N ((X s:Int)<=19)) ((bH aD aD s:Int)==(X s:Int)) S) S):=rfl;rw[j];rcases E with⟨b,g⟩|⟨b,r,g,rfl⟩
  .have e:((bH aD aD s:Int)==(X s:Int))=O:=by rw[u.2 (q.1 b)];simp
   rw[e];refine zA a (g.ends (zU.of (r:=(.bool (cond (N (1<=(X s:Int))) (N ((X s:Int)<=19)) S),[])) ?_)) W ?_
   .show(yk (.h6 _ _)).val=_;unfold yk;simp only[Q8,zM];rfl
   .show M _=M _;rw[show N ((X s:Int)>=1)=N (1<=(X s:Int))from rfl];cases N ((X s:Int)<=19)<;>rfl
  .have e:((bH aD aD s:Int)==(X s:Int))=S:=by
    rw[dX];intro h;exact b (q.2 (u.1 W))
   rw[e];refine zA a g W ?_;show M _=M _;cases N ((X s:Int)>=1)<;>cases N ((X s:Int)<=19)<;>rfl
 by_cases y:k=(3:Int)
 .subst y;refine zR (r:=(.bool (bf (2,0,s)),[])) ?_ ?_
  .simp only[N3,Q8,mz (v:=(2,0,s)) x,pW (v:=(2,0,s)) x];rfl
  .rfl
 by_cases z:k=(4:Int)
 .subst z;have F:=zfY s;refine zR (r:=(.bool _,[])) rfl ?_;show M _=M _;rw[show dI ((4,s):dA)=_ from F]
 have A:(k==1)=S:=dX.2 m;have B:(k==2)=S:=dX.2 n;have o:(k==3)=S:=dX.2 y;have p:(k==4)=S:=dX.2 z;have C:((1:Int)==k)=S:=dX.2 (Ne.symm m);have D:((2:Int)==k)=S:=dX.2 (Ne.symm n);have j:dI ((k,s):dA)=S:=by
  unfold dI;simp[o,p,C,D]
 rw[j];refine zR (r:=(.kb S,[])) ?_ rfl;simp only[N3,Q8,A,B,o,p];rfl
theorem xI(h:X t.2<=1000000):nQ t=O:=by unfold nQ;rw[O9 h];rfl
theorem C6(h:X t.2<=1000000):uS t=dI t:=by unfold uS;rw[O9 h];rfl
abbrev wj:=dJ
abbrev hd3(s:zK)(i:Int)(o:wj):ku:=.h3 s i o
abbrev Zq(s:zK)(i c f:Int)(z:zq [CP.d zG])(o:wj):ku:=.h11 s i c f z o
abbrev Zr(s:zK)(i c f:Int)(z:zq [CP.d zG])(o:wj):ku:=.h15 s i c f z o
abbrev Rg(s:zK)(i:Int)(z:zq [CP.d zG])(o:wj):ku:=.h20 s i z o
abbrev rNo:az:=(.tup [.nils,.kb S],[])
def XG(r:az)(b:Bool):Prop:=∃l,bb r.2 [Sh.sl zG,Q7] r.1=M (l,b,())
theorem zbr:XG rNo S:=⟨[],rfl⟩
def P1(s:zK)(j:Nat)(t:dA)(o:wj):ku⊕az:=if dI t=O then .inl (hd3 s (j:Int) (o++[t]))else .inr rNo
variable {j:Nat}
theorem yq(s:zK)(h:j<X s):Qg (((j+1:Nat):Int).toNat-(j:Int).toNat) (Qh (j:Int).toNat s)=[s[j]]:=by rw[aJ,aJ,show j+1-j=1 by omega,ij h];rfl
theorem v20{acc:zK}(E:X w<=1000000)(a:j<X w)(s:X acc<=1000000):∀{o:wj},X o<=1000000->(iG (Rg w (j:Int) ((3,acc),()) o)).val=M (
  if w[j]≠39 then .inl (Rg w ((j+1:Nat):Int) ((3,acc++[w[j]]),()) o)
  else if w[j+1]?=M 39 then .inl (Rg w ((j+2:Nat):Int) ((3,acc++[39]),()) o)
  else P1 w (j+1) (3,acc) o):=by
 intro o C;have l:Γ Δ ((j:Int)+1)=((j+1:Nat):Int):=zu j um;have n:Γ Δ (((j+1:Nat):Int)+1)=((j+2:Nat):Int):=zu (j+1) um;have p:(N (0<=(j:Int))&&N ((j:Int)<=((j+1:Nat):Int))&&N (((j+1:Nat):Int)<=(X w:Int)))=O:=by simp;omega
 have D:N ((X w:Int)<=(j:Int))=S:=aC W;have A:N ((j:Int)>=(X w:Int))=S:=aC W;have B:uS ((3,acc):cw)=dI ((3,acc):dA):=C6 (t:=((3,acc):dA)) s;have i:nQ ((3,acc):cw)=O:=xI (t:=((3,acc):dA)) s;have q:(X acc+[w[j]].length<=1099511627776):=by simp;omega
 by_cases c:w[j]=39
 .have b:((↑w[j].toNat:Int)!=39)=S:=by simp[bne,ul.2 c]
  have d:((↑w[j].toNat:Int)==39)=O:=ul.2 c;by_cases g:w[j+1]?=M 39
  .have⟨x,v⟩:=dC.1 g;have u:((↑w[j+1].toNat:Int)==39)=O:=ul.2 v;have y:N (((j+1:Nat):Int)<(X w:Int))=O:=zB W;rw[zh (by simpa using c),zf g];show(iG (.h20 _ _ _ _)).val=_;simp only[iG,l,n,iB w a,yq w a,zO a,zx a,zx x,y,b,d,u,iB w x,Q8,aN,aL,eY,zj,p,zB q];rw[c]
  .rw[zh (by simpa using c),zh g];have e:(cond (N (((j+1:Nat):Int)<(X w:Int))) ((↑(Y w ((j+1:Nat):Int).toNat 0).toNat:Int)==39) S)=S:=by
    by_cases x:j+1<X w
    .rw[zB W,iB w x];simp only[aN];rw[<-iY,ul];intro h;exact g (dC.2 ⟨x,h⟩)
    .rw[aC W];rfl
   have z:(cond (N (((j+1:Nat):Int)<(X w:Int))) (zL ((j+1:Nat):Int) (X w)) O)=O:=by
    by_cases x:j+1<X w
    .rw[zx x];cases N (((j+1:Nat):Int)<(X w:Int))<;>rfl
    .rw[aC W];rfl
   unfold P1;have k:(X o+[((3,acc):cw)].length<=1073741824):=by have:X o<=1000000:=C;simp;omega
   show(iG (.h20 _ _ _ _)).val=_;simp only[iG,l,n,iB w a,yq w a,zO a,zx a,b,d,e,z,Q8,aN,aL,eY,zj,zC,zm,A,i,B,zB k];by_cases m:dI ((3,acc):dA)=O
   .simp[m]
   .simp[m]
 .have b:((↑w[j].toNat:Int)!=39)=O:=by simp only[bne,uA];rw[<-iY,ul];exact c
  have d:((↑w[j].toNat:Int)==39)=S:=by rw[<-iY,ul];exact c
  rw[zf c];show(iG (.h20 _ _ _ _)).val=_;simp only[iG,l,n,iB w a,yq w a,zO a,zx a,b,d,Q8,aN,eY,zj,zC,zm,p,zB q]
theorem zzl{d:zK}:∀{o:wj},(iG (Rg w (X w:Int) ((3,d),()) o)).val=M (.inr rNo):=by intro o;have g:N ((X w:Int)>=(X w:Int))=O:=zB (Int.le_refl _);show(iG (.h20 _ _ _ _)).val=_;simp only[iG,zM,Q8,aL,zj,zC,zm,g]
theorem l20{w:zK}{o:wj}(p:X w<=1000000)(q:X o<=1000000):∀(n j:Nat)(acc:zK),X w-j<=n->j<=X w->X acc<=j->
  (fR (w.drop j)=Q2->zU iG (n+1) (Rg w (j:Int) ((3,acc),()) o) rNo)/\
  (∀t k,fR (w.drop j)=M (t,k)->∀K r,(match P1 w (j+k) (3,acc++t) o with|.inl h=>zU iG K h r|.inr y=>y=r)->zU iG (K+k) (Rg w (j:Int) ((3,acc),()) o) r)
 | n, j,acc,C,B,A=>by
  by_cases e:j<X w
  .have x:=v20 (o:=o) (acc:=acc) p e W q;rw[ij e];by_cases c:w[j]=39
   .rw[zh (by simpa using c)]at x;by_cases g:w[j+1]?=M 39
    .rw[zf g]at x;have⟨l,z⟩:=dC.1 g;obtain⟨n,rfl⟩:∃m,n=m+1:=⟨n-1,W⟩;have⟨s,u⟩:=l20 p q n (j+2) (acc++[39]) W W sg;rw[ij l,c,z,Pw,show j+1+1=j+2 from rfl];refine⟨λh=>?_,λt k h K r a=>?_⟩
     .rw[Option.map_eq_none_iff]at h;exact((zH.of x).ends (s h))
     .rw[dW]at h;have⟨⟨v,b⟩,i,d⟩:=h;simp only[cN]at d;obtain⟨rfl,rfl⟩:=d;have:=u v b i K r (by rw[M2];rw[show j+2+b=j+(b+2) by omega];exact a);exact((zH.of x).ends this).mono W
    .rw[zh g]at x;rw[c,Gy _ (by rw[List.head?_drop];exact g)];refine⟨λh=>(by cases h),λt k h K r a=>?_⟩;simp only[bG,cN]at h;obtain⟨rfl,rfl⟩:=h;rw[wn]at a;revert x a;cases P1 w (j+1) (3,acc) o with
     |inl h=>intro x a;exact(zH.of x).ends a
     |inr y=>intro x a;cases a;exact(zU.of x).mono W
   .rw[zf c]at x;obtain⟨n,rfl⟩:∃m,n=m+1:=⟨n-1,W⟩;have⟨s,u⟩:=l20 p q n (j+1) (acc++[w[j]]) W W sg;rw[JE c];refine⟨λh=>?_,λt k h K r a=>?_⟩
    .rw[Option.map_eq_none_iff]at h;exact((zH.of x).ends (s h))
    .rw[dW]at h;have⟨⟨v,b⟩,i,d⟩:=h;simp only[cN]at d;obtain⟨rfl,rfl⟩:=d;have:=u v b i K r (by rw[M2];rw[show j+1+b=j+(b+1) by omega];exact a);exact((zH.of x).ends this).mono W
  .obtain rfl:j=X w:=by omega
   rw[ky];exact⟨λ_=>(zU.of zzl).mono W,λt k h=>(by simp[fR]at h)⟩
variable {z:zq [CP.d zG]}
theorem zzi{c f:Int}(x:X w<=1000000)(h:j<X w)(a:cv w[j].toNat=O):∀{o:wj},(iG (Zq w (j:Int) c f z o)).val=M (.inl (Zq w ((j+1:Nat):Int) c f z o)):=by grind[zu,aE,Q8,iG,AW,F4,zx]
variable {c:UInt8}
theorem zzh{f:Nat}(u:X w<=1000000)(s:j<=X w)(q:f<=j)(v:∀h:j<X w,cv w[j].toNat=S)(i:aD c.toNat=S)(k:c≠39):
  ∀{o:wj},X o<=1000000->(iG (Zq w (j:Int) (c.toNat:Int) (f:Int) z o)).val=M (P1 w j (1,Qg (j-f) (Qh f w)) o):=by
 intro o n;have e:(cond (N ((j:Int)<(X w:Int))) (zL (j:Int) (X w)&&xL (↑(Y w (j:Int).toNat 0).toNat:Int)) O)=O:=by
  by_cases h:j<X w
  .grind[zx,AW]
  .rw[aC W];rfl
 have a:(cond (N ((j:Int)<(X w:Int))) (F3 (↑(Y w (j:Int).toNat 0).toNat:Int)) S)=S:=by
  by_cases h:j<X w
  .grind[F4]
  .rw[aC W];rfl
 have g:(N (0<=(f:Int))&&N ((f:Int)<=(j:Int))&&N ((j:Int)<=(X w:Int)))=O:=by simp;omega
 have b:((c.toNat:Int)==39)=S:=by rw[<-iY,ul];exact k
 have x:(Qg (j-f) (Qh f w)).length<=1000000:=by simp;omega
 have p:uS ((1,Qg (j-f) (Qh f w)):cw)=dI (1,Qg (j-f) (Qh f w)):=C6 (t:=((1,Qg (j-f) (Qh f w)):dA)) x;have l:nQ ((1,Qg (j-f) (Qh f w)):cw)=O:=xI (t:=((1,Qg (j-f) (Qh f w)):dA)) x;unfold P1;have m:(X o+[((1,Qg (j-f) (Qh f w)):cw)].length<=1073741824):=by have:X o<=1000000:=n;simp;omega
 show(iG (.h11 _ _ _ _ _ _)).val=_;simp only[iG,e,a,g,ka,lS,i,b,Q8,zj,zC,zm];grind
theorem zzk{c f:Int}(x:X w<=1000000)(h:j<X w)(a:aD w[j].toNat=O):∀{o:wj},(iG (Zr w (j:Int) c f z o)).val=M (.inl (Zr w ((j+1:Nat):Int) c f z o)):=by grind[zu,aE,Q8,iG,ka,lS,zx]
theorem zzj{f:Nat}(s:X w<=1000000)(q:j<=X w)(p:f<=j)(u:∀h:j<X w,aD w[j].toNat=S)(l:c≠39):
  ∀{o:wj},X o<=1000000->(iG (Zr w (j:Int) (c.toNat:Int) (f:Int) z o)).val=M (P1 w j (2,Qg (j-f) (Qh f w)) o):=by
 intro o n;have g:(cond (N ((j:Int)<(X w:Int))) (zL (j:Int) (X w)&&kL (↑(Y w (j:Int).toNat 0).toNat:Int)) O)=O:=by
  by_cases h:j<X w
  .grind[zx,ka]
  .rw[aC W];rfl
 have i:(cond (N ((j:Int)<(X w:Int))) (lD (↑(Y w (j:Int).toNat 0).toNat:Int)) S)=S:=by
  by_cases h:j<X w
  .grind[lS]
  .rw[aC W];rfl
 have k:(N (0<=(f:Int))&&N ((f:Int)<=(j:Int))&&N ((j:Int)<=(X w:Int)))=O:=by simp;omega
 have e:((c.toNat:Int)==39)=S:=by rw[<-iY,ul];exact l
 have x:(Qg (j-f) (Qh f w)).length<=1000000:=by simp;omega
 have m:uS ((2,Qg (j-f) (Qh f w)):cw)=dI (2,Qg (j-f) (Qh f w)):=C6 (t:=((2,Qg (j-f) (Qh f w)):dA)) x;have a:nQ ((2,Qg (j-f) (Qh f w)):cw)=O:=xI (t:=((2,Qg (j-f) (Qh f w)):dA)) x;unfold P1;have b:(X o+[((2,Qg (j-f) (Qh f w)):cw)].length<=1073741824):=by have:X o<=1000000:=n;simp;omega
 show(iG (.h15 _ _ _ _ _ _)).val=_;simp only[iG,g,i,k,e,Q8,zj,zC,zm];simp only[aJ,a,m,zB b,zj];grind
theorem KM{p:Int->Bool}{s:zK}(a:Nat->ku)(c:∀j(g:j<X s),p s[j].toNat=O->(iG (a j)).val=M (.inl (a (j+1)))):∀(n j:Nat),X s-j<=n->j<=X s->
  zH iG (dQ p (s.drop j)) (a j) (a (j+dQ p (s.drop j)))/\j+dQ p (s.drop j)<=X s/\∀h:j+dQ p (s.drop j)<X s,p s[j+dQ p (s.drop j)].toNat=S
 | n,j,k,g=>by
  by_cases x:j<X s
  .by_cases b:p s[j].toNat=O
   .obtain⟨n,rfl⟩:∃m,n=m+1:=⟨n-1,W⟩;have e:dQ p (s.drop j)=dQ p (s.drop (j+1))+1:=by rw[ij x,dQ,zf b]
    have⟨i,l,o⟩:=KM a c n (j+1) W W;have d:j+dQ p (s.drop j)=j+1+dQ p (s.drop (j+1)):=by omega
    refine⟨?_,W,?_⟩
    .rw[d,e];exact((zH.of (c j x b)).trans i).mono W
    simp_all
   grind[dQ,List.drop_eq_getElem_cons,zH.refl]
  grind[dQ,zH.refl]
theorem v3(i:X w<=1000000)(h:j<X w):∀{o:wj},X o<=1000000->∃z,(iG (hd3 w (j:Int) o)).val=M (
  if(cond ((w[j].toNat:Int)==32) O ((w[j].toNat:Int)==10))=O then .inl (hd3 w ((j+1:Nat):Int) o)
  else if bt w[j].toNat=O then .inl (Zq w ((j+1:Nat):Int) w[j].toNat j z o)
  else if aD w[j].toNat=O then .inl (Zr w ((j+1:Nat):Int) w[j].toNat j z o)
  else if w[j]=39 then .inl (Rg w ((j+1:Nat):Int) ((3,[]),()) o)
  else P1 w (j+1) (4,[w[j]]) o):=by
 intro o d;refine⟨((4,[w[j]]),()),?_⟩;have e:Γ Δ ((j:Int)+1)=((j+1:Nat):Int):=zu j um;have g:(N (0<=(j:Int))&&N ((j:Int)<=((j+1:Nat):Int))&&N (((j+1:Nat):Int)<=(X w:Int)))=O:=by simp;omega
 have c:uS ((4,[w[j]]):cw)=dI (4,[w[j]]):=C6 (t:=((4,[w[j]]):dA)) sw;have a:nQ ((4,[w[j]]):cw)=O:=xI (t:=((4,[w[j]]):dA)) sw;have x:w[j]=39↔((w[j].toNat:Int)==39)=O:=ul.symm;unfold P1;simp only[x];have b:(X o+[((4,[w[j]]):cw)].length<=1073741824):=by have:X o<=1000000:=d;simp;omega
 show(iG (.h3 _ _ _)).val=_;simp only[iG,e,iB w h,yq w h,zO h,zx h,g,sb,vW,ka,lS,Q8,zj,a,c,zB b];repeat' split
 all_goals first|rfl|simp_all
theorem Wn(h:bt c.toNat=O):aD c.toNat=S/\c≠39:=by
 have x:bt ((39:UInt8).toNat:Int)=S:=rfl;constructor
 .grind[bt,aD]
 .rintro rfl;rw[x]at h;cases h
theorem Yp(h:aD c.toNat=O):c≠39:=by have x:aD ((39:UInt8).toNat:Int)=S:=rfl;rintro rfl;rw[x]at h;cases h
theorem F0{s:zK}(l:Io s<=1000000):∀(n i:Nat)(o:wj),Io s+1<=n+i->i<=Io s->Io o<=i->∃r,zU iG (3*(Io s-i)+3) (hd3 s (i:Int) o) r/\XG r (yK n (s.drop i) (Io o))
 |0,i,o,h1,h2,h3=>by omega
 | n + 1,i,o,h1,h2,h3=>by
  by_cases C:i<X s
  .have⟨z,b⟩:=v3 (o:=o) l C ow;rw[ij C,yK];have g:Qh i s=s[i]::Qh (i+1) s:=ij C;have next:∀(j:Nat)(t:dA),i<j->j<=Io s->∃r,(match P1 s j t o with|.inl h=>zU iG (3*(Io s-j)+3) h r|.inr w=>w=r)/\XG r (ite (dI t=Q3) (yK n (s.drop j) (Io o+1)) Q4):=by
    intro j t h0 E;unfold P1;by_cases m:dI t=O
    .rw[zf m,zf m];have⟨r,a,q⟩:=F0 l n j (o++[t]) W E sg;grind
    .grind[zbr]
   by_cases P:(cond ((s[i].toNat:Int)==32) O ((s[i].toNat:Int)==10))=O
   .rw[zf P]at b|-;have⟨r,a,q⟩:=F0 l n (i+1) o W W W;exact⟨r,((zH.of b).ends a).mono W,q⟩
   .rw[zh P]at b|-;unfold rB;by_cases A:bt s[i].toNat=Q3
    .rw[zf A]at b|-;have⟨b1,y⟩:=Wn A;have⟨u,v,H⟩:=KM (p:=cv) (s:=s) (λj=>Zq s (j:Int) (s[i].toNat:Int) (i:Int) z o) (λj D F=>zzi l D F) (X s) (i+1) W W;have d:=zzh (z:=z) (c:=s[i]) (f:=i) l v W H b1 y (o:=o) W;rw[show i+1+dQ cv (Qh (i+1) s)-i=dQ cv (Qh (i+1) s)+1 by omega,g]at d;have⟨r,a,q⟩:=next (i+1+dQ cv (Qh (i+1) s)) (1,(s[i]::Qh (i+1) s).take (dQ cv (Qh (i+1) s)+1)) W v
     refine⟨r,?_,?_⟩
     .revert d a;cases P1 s (i+1+dQ cv (Qh (i+1) s)) (1,(s[i]::Qh (i+1) s).take (dQ cv (Qh (i+1) s)+1)) o with
      |inl h=>intro d a;exact(((zH.of b).trans u).ends ((zH.of d).ends a)).mono W
      |inr w=>intro d a;cases a;exact(((zH.of b).trans u).ends (zU.of d)).mono W
     grind[List.drop_drop]
    .rw[zh A]at b|-;by_cases B:aD s[i].toNat=Q3
     .rw[zf B]at b|-;have y:=Yp B;have⟨u,v,H⟩:=KM (p:=aD) (s:=s) (λj=>Zr s (j:Int) (s[i].toNat:Int) (i:Int) z o) (λj D F=>zzk l D F) (X s) (i+1) W W;have d:=zzj (z:=z) (c:=s[i]) (f:=i) l v W H y (o:=o) W;rw[show i+1+dQ aD (Qh (i+1) s)-i=dQ aD (Qh (i+1) s)+1 by omega,g]at d;have⟨r,a,q⟩:=next (i+1+dQ aD (Qh (i+1) s)) (2,(s[i]::Qh (i+1) s).take (dQ aD (Qh (i+1) s)+1)) W v
      refine⟨r,?_,?_⟩
      .revert d a;cases P1 s (i+1+dQ aD (Qh (i+1) s)) (2,(s[i]::Qh (i+1) s).take (dQ aD (Qh (i+1) s)+1)) o with
       |inl h=>intro d a;exact(((zH.of b).trans u).ends ((zH.of d).ends a)).mono W
       |inr w=>intro d a;cases a;exact(((zH.of b).trans u).ends (zU.of d)).mono W
      grind[List.drop_drop]
     .rw[zh B]at b|-;by_cases U:s[i]=39
      .rw[zf U]at b|-;have⟨q1,q2⟩:=l20 (o:=o) l W (X s-(i+1)) (i+1) [] (zQ _) W sw;cases G:fR (Qh (i+1) s)with
       | none=>
        have hm:dI ((0,[]):dA)=S:=rfl;simp only[hm,zC,zm];exact⟨rNo,((zH.of b).ends (q1 G)).mono W,zbr⟩
       | some x=>
        have⟨t,k⟩:=x;have⟨k1,k2,_⟩:=tV _ _ _ _ (zQ _) G;have k2:k<=X s-(i+1):=by simpa using k2
        have⟨r,a,q⟩:=next (i+1+k) (3,t) W W
        refine⟨r,((zH.of b).ends (q2 t k G _ r a)).mono W,?_⟩;simp_all
      .rw[zh U]at b|-;have⟨r,a,q⟩:=next (i+1) (4,[s[i]]) W W
       refine⟨r,?_,q⟩;revert b a;cases P1 s (i+1) (4,[s[i]]) o with
       |inl h=>intro b a;exact((zH.of b).ends a).mono W
       |inr w=>intro b a;cases a;exact(zU.of b).mono W
  .obtain rfl:i=X s:=by omega
   rw[ky,yK];refine⟨(.tup [.vec 0,.bool (N ((X o:Int)<=400))],[.vec zG o]),(zU.of ?_).mono W,o,?_⟩
   .grind[Q8,iG]
   .have e:N ((X o:Int)<=400)=N (X o<=400):=by
     by_cases h:X o<=400
     .rw[zB h];exact zB W
     .rw[aC h];exact aC W
    rw[e];rfl
theorem O8{s:zK}(c:X s<=1000000):∃l,Ly s=M (l,(cut s).2==(0:Int),()):=by have⟨r,h,l,x⟩:=F0 c (X s+1) 0 [] W W sw;have a:=DT (X s+1) s 0 [] W W W sw;have b:((cut s).2==(0:Int))=yK (X s+1) (s.drop 0) ([]:dJ).length:=a;refine⟨l,?_⟩;rw[b];exact zA (s:=hd3 s ((0:Nat):Int) []) rfl h W x
theorem zbk{s:zK}(x:X s<=1000000):Lw s=O:=by have⟨l,h⟩:=O8 x;unfold Lw;rw[h];rfl
theorem zfG{s:zK}(x:X s<=1000000):(BU s).2=((cut s).2==(0:Int)):=by have⟨l,h⟩:=O8 x;unfold BU;rw[h];rfl
theorem vN{α:Type}(p:α->Bool):∀(l:List α)(i:Nat),(!Q0 (aj p l i>=0))=O↔∀x∈l,p x=S
 | [],i=>by
  grind[aj]
 | y::r,i=>by
  refine⟨λh=>rJ p _ i h,λh=>?_⟩;rw[aj,h y sw];exact(vN p r (i+1)).2 λx a=>h x (by simp[a])
theorem ke{x:zP}(A:X x.2.2.2.1<=1000)(B:X x.2.2.2.2.1<=1000)(C:X x.2.2.2.2.2.2.1<=1000)(D:X x.2.2.2.2.2.2.2.1<=1000)(u:X x.2.2.2.2.2.2.2.2.2.1<=1000)(v:X x.2.2.2.2.2.2.2.2.2.2.1<=1000):
  iV x=O↔x.2.1=[]/\x.2.2.1=[]/\x.2.2.2.2.2.1=[]/\x.2.2.2.2.2.2.2.2.2.2.2.2=[]/\x.2.2.2.1=[]/\x.2.2.2.2.1=[]/\x.2.2.2.2.2.2.1=[]/\x.2.2.2.2.2.2.2.1=[]/\x.2.2.2.2.2.2.2.2.2.1=[]/\x.2.2.2.2.2.2.2.2.2.2.1=[]/\x.2.2.2.2.2.2.2.2.1=gw/\x.2.2.2.2.2.2.2.2.2.2.2.1=gw:=by
 unfold iV
 have w:(Γ Δ (Γ Δ (Γ Δ (Γ Δ (Γ Δ ((↑(X x.2.2.2.1):Int)+(↑(X x.2.2.2.2.1):Int))+(↑(X x.2.2.2.2.2.2.1):Int))+(↑(X x.2.2.2.2.2.2.2.1):Int))+(↑(X x.2.2.2.2.2.2.2.2.2.1):Int))+(↑(X x.2.2.2.2.2.2.2.2.2.2.1):Int)))=
   ((X x.2.2.2.1+X x.2.2.2.2.1+X x.2.2.2.2.2.2.1+X x.2.2.2.2.2.2.2.1+X x.2.2.2.2.2.2.2.2.2.1+X x.2.2.2.2.2.2.2.2.2.2.1:Nat):Int):=by
  have g:∀n:Nat,n<=10000->Γ Δ (n:Int)=(n:Int):=λn E=>zcf n (by omega)
  rw[<-wm,g _ (by omega),<-wm,g _ (by omega),<-wm,g _ (by omega),<-wm,g _ (by omega),<-wm,g _ (by omega)]
 rw[w];constructor
 .intro h;obtain⟨k,h⟩:=da h;obtain⟨l,h⟩:=da h;obtain⟨y,z⟩:=da h;simp only[bW,List.append_eq_nil_iff]at k;obtain⟨⟨⟨a,e⟩,i⟩,j⟩:=k;have l:X x.2.2.2.1+X x.2.2.2.2.1+X x.2.2.2.2.2.2.1+X x.2.2.2.2.2.2.2.1+X x.2.2.2.2.2.2.2.2.2.1+X x.2.2.2.2.2.2.2.2.2.2.1=0:=by
   have:=bQ l;exact Int.ofNat.inj this
  refine⟨a,e,i,j,?_,?_,?_,?_,?_,?_,lH.1 y,lH.1 z⟩<;>exact Dz (by omega)
 .rintro⟨a,e,i,j,m,o,p,q,s,b,c,d⟩;rw[a,e,i,j,m,o,p,q,s,b,c,d,show iz gw=O from rfl];rfl
theorem zbR(s:zP):eZ s=(iu s&&((cut (nA s)).2==0)):=by grind[eZ,sj]
theorem zjk(s:zK):dG s=aA s:=rfl
theorem Jw(h:wk s){t:zK}{o:Bool}(g:ft s=M (t,b,o,()))(U:X t<=900000)(B:Dp b):
  ∃c,qh s=M (c,(o&&(aA s.2.1&&(iq b s&&((cut t).2==(0:Int))))),()):=by
 have hn:=h.sh.table;have l:xQ s=O:=by unfold xQ;rw[g];rfl
 have m:Da s=(t,b,o):=by unfold Da;rw[g];rfl
 have⟨G,_⟩:=tO (b:=s) B;have E:=cD (s:=s.2.1) W;have F:=fQ (s:=s.2.1) W;have C:=zbk (s:=t) W;have D:=zfG (s:=t) W;have n:xQ (s.1,s.2.1,s.q.1,s.r.1,s.t.1,s.u.1,s.v.1,s.w.1,s.x.1,s.y.1,s.z.1,s.s.1,s.p)=O:=l;have A:Da (s.1,s.2.1,s.q.1,s.r.1,s.t.1,s.u.1,s.v.1,s.w.1,s.x.1,s.y.1,s.z.1,s.s.1,s.p)=(t,b,o):=m;have H:C8 (b.1,b.2.1,b.q.1,b.r.1,b.t.1,b.u.1,b.v.1,b.w.1,b.x.1,b.y.1,b.z.1,b.s.1,b.p) (s.1,s.2.1,s.q.1,s.r.1,s.t.1,s.u.1,s.v.1,s.w.1,s.x.1,s.y.1,s.z.1,s.s.1,s.p)=O:=G;have P:iq (b.1,b.2.1,b.q.1,b.r.1,b.t.1,b.u.1,b.v.1,b.w.1,b.x.1,b.y.1,b.z.1,b.s.1,b.p) (s.1,s.2.1,s.q.1,s.r.1,s.t.1,s.u.1,s.v.1,s.w.1,s.x.1,s.y.1,s.z.1,s.s.1,s.p)=iq b s:=rfl;have e:∃c a,(zm0 s).val=M (.inr (.tup [.str c,a],[]))/\(a=.kb O/\(o&&(aA s.2.1&&(iq b s&&((cut t).2==(0:Int)))))=O\/(a=.kb S/\(o&&(aA s.2.1&&(iq b s&&((cut t).2==(0:Int)))))=S)):=by
  simp only[zm0,Q8,zo,n,A,H,P,E,F,C,D,zj];generalize iq b s=i;generalize aA s.2.1=j;generalize((cut t).2==(0:Int))=k;cases o<;>cases j<;>cases i<;>cases k<;>first|exact⟨_,_,rfl,.inl ⟨rfl,rfl⟩⟩|exact⟨_,_,rfl,.inr ⟨rfl,rfl⟩⟩
 have⟨c,a,e,d⟩:=e;refine⟨c,zR e ?_⟩;rcases d with⟨rfl,d⟩|⟨rfl,d⟩<;>rw[d]<;>rfl
theorem RY(h:wk s):∃t b,qh s=M (t,b,()):=by have⟨t,o,d,x,a,c⟩:=R1 h;grind[Jw]
theorem T9(h:wk s)(o:s.1=[99,111,112,121]):iu s=(mu s&&(aA s.2.1&&iq (s.1,s.2.1,s.2.2.1,s.2.2.2.1,[],[],[],[],s.2.2.2.2.2.2.2.2.1,[],[],gw,[]) s)):=by have C:=h.sh.names.1;have d:=h.sh.cols.1;have i:=h.sh.uniques.1;have j:=h.sh.refs.1;have l:=h.sh.row;have k:=h.sh.sets.1;obtain⟨m,n,q,u,v,w,y,z,A,B,p⟩:=zft o;obtain⟨_,D⟩:=fw (s:=s) (g:=_) (b:=_) (by simp only[wZ,Q8,m,n,q,u,v,w,y,z,A,B,p,zj,zm,zC,zo];exact rfl);obtain⟨_,c⟩:=tO (a:=(s.1,s.2.1,s.2.2.1,s.2.2.2.1,[],[],[],[],s.2.2.2.2.2.2.2.2.1,[],[],gw,[])) (b:=s) (gC h (.inl rfl) (.inr rfl) (.inr rfl) (.inr rfl) (.inl rfl) (.inr rfl) (.inr rfl) (.inr rfl));have e:=ke (x:=(s.1,[],[],[],s.2.2.2.2.1,s.2.2.2.2.2.1,s.2.2.2.2.2.2.1,s.2.2.2.2.2.2.2.1,gw,s.2.2.2.2.2.2.2.2.2.1,s.2.2.2.2.2.2.2.2.2.2.1,s.2.2.2.2.2.2.2.2.2.2.2.1,s.2.2.2.2.2.2.2.2.2.2.2.2)) (by simp) (by simpa using be d (by omega)) (by simpa using be i (by omega)) (by simpa using be j (by omega)) (by simpa using be l (by omega)) (by simpa using be k (by omega));grind[g6,vN,zjk,mu]
theorem Ua(h:wk s)(o:s.1=gO):iu s=(pQ s&&(aA s.2.1&&iq (s.1,s.2.1,s.q.1,[],[],s.u.1,[],[],s.x.1,[],[],gw,s.p) s)):=by have B:=h.sh.names.1;have A:=h.sh.cols.1;have D:=h.sh.uniques.1;have E:=h.sh.refs.1;have G:=h.sh.row;have F:=h.sh.sets.1;obtain⟨i,j,k,l,m,n,v,w,y,z,d,e⟩:=zfu o;obtain⟨_,C⟩:=fw (s:=s) (g:=_) (b:=_) (by simp only[wZ,Q8,i,j,k,l,m,n,v,w,y,z,d,e,zj,zm,zC,zo];exact rfl);obtain⟨_,c⟩:=tO (a:=(s.1,s.2.1,s.q.1,[],[],s.u.1,[],[],s.x.1,[],[],gw,s.p)) (b:=s) (gC h (.inr rfl) (.inr rfl) (.inr rfl) (.inr rfl) (.inl rfl) (.inr rfl) (.inr rfl) (.inr rfl));grind[ke,g6,pQ,dG,aA]
theorem OL(h:wk s)(o:s.1=[103,114,111,117,112]):iu s=(iL s&&(aA s.2.1&&iq (s.1,s.2.1,s.2.2.1,s.2.2.2.1,[],[],[],[],s.2.2.2.2.2.2.2.2.1,[],[],gw,[]) s)):=by
 have hn:=h.sh.names.1;have n:=h.sh.cols.1;have z:=h.sh.uniques.1;have A:=h.sh.refs.1;have C:=h.sh.row;have B:=h.sh.sets.1;obtain⟨D,E,F,G,H,P,U,p7,p8,p9,p,i,j⟩:=zaL o;obtain⟨_,w⟩:=fw (s:=s) (g:=_) (b:=_) (by simp only[wZ,Q8,D,E,F,G,H,P,U,p7,p8,p9,p,i,j,zj,zm,zC,zo];exact rfl);obtain⟨_,c⟩:=tO (a:=(s.1,s.2.1,s.2.2.1,s.2.2.2.1,[],[],[],[],s.2.2.2.2.2.2.2.2.1,[],[],gw,[])) (b:=s) (gC h (.inl rfl) (.inr rfl) (.inr rfl) (.inr rfl) (.inl rfl) (.inr rfl) (.inr rfl) (.inr rfl));have d:=ke (x:=(s.1,[],[],[],s.2.2.2.2.1,s.2.2.2.2.2.1,s.2.2.2.2.2.2.1,s.2.2.2.2.2.2.2.1,gw,s.2.2.2.2.2.2.2.2.2.1,s.2.2.2.2.2.2.2.2.2.2.1,s.2.2.2.2.2.2.2.2.2.2.2.1,s.2.2.2.2.2.2.2.2.2.2.2.2)) (by simp) (by simpa using be n (by omega)) (by simpa using be z (by omega)) (by simpa using be A (by omega)) (by simpa using be C (by omega)) (by simpa using be B (by omega));have q:gu (s.1,[],[],[],s.2.2.2.2.1,s.2.2.2.2.2.1,s.2.2.2.2.2.2.1,s.2.2.2.2.2.2.2.1,gw,s.2.2.2.2.2.2.2.2.2.1,s.2.2.2.2.2.2.2.2.2.2.1,s.2.2.2.2.2.2.2.2.2.2.2.1,s.2.2.2.2.2.2.2.2.2.2.2.2)=O:=g6 (by simp) (by simp) (by have:=h.sh.key;simpa using this) (by have:=h.sh.role;simpa using this);rw[w];apply ot.2;have l:iq (s.1,s.2.1,s.2.2.1,s.2.2.2.1,[],[],[],[],s.2.2.2.2.2.2.2.2.1,[],[],gw,[]) s=O↔iV (s.1,[],[],[],s.2.2.2.2.1,s.2.2.2.2.2.1,s.2.2.2.2.2.2.1,s.2.2.2.2.2.2.2.1,gw,s.2.2.2.2.2.2.2.2.2.1,s.2.2.2.2.2.2.2.2.2.2.1,s.2.2.2.2.2.2.2.2.2.2.2.1,s.2.2.2.2.2.2.2.2.2.2.2.2)=O:=by
  rw[c,d];obtain⟨s1,s2,s3,m,s5,s6,s7,s8,s9,h0,h1,h2,h3⟩:=s;simp only[cN,true_and];constructor
  .intro k;simp_all
  .intro k;simp_all
 have e:=vN (λx=>!dG x) s.2.2.2.1 0;have u:(cond (cond (N ((↑(X s.2.2.2.1):Int)<2)) O (N ((↑(X s.2.2.2.1):Int)>2))) S (cond (!Q0 (aj (λx=>!dG x) s.2.2.2.1 0>=0)) (cy s.2.2.2.2.2.2.2.2.1) S))=(N (X s.2.2.2.1=2)&&(cy s.2.2.2.2.2.2.2.2.1&&(aA (s.2.2.2.1.getD 0 [])&&aA (s.2.2.2.1.getD 1 [])))):=by
  by_cases a:X s.2.2.2.1=2
  .rw[aC (show¬(↑(X s.2.2.2.1):Int)<2 by omega),aC (show¬(↑(X s.2.2.2.1):Int)>2 by omega),zB a];have v:(!Q0 (aj (λx=>!dG x) s.2.2.2.1 0>=0))=(aA (s.2.2.2.1.getD 0 [])&&aA (s.2.2.2.1.getD 1 [])):=by
    apply ot.2;rw[e,aP];obtain⟨s1,s2,s3,m,s5⟩:=s
    match m,a with
    |[x,y],_=>simp[zjk]
   grind
  .grind
 grind[iL,dG,aA]
end Cad
