/- The document's texts of expressions. -/
import Derived.Test.YtjdjldbhjmgmkaaGreatDoorP19
namespace Cad
open Go Go.Proofs
open List renaming length->Io,drop->Qh,take->Qg,length->X
open IntKind renaming wrap->Γ,i64->Δ
open Tr renaming val->Q8
open Sh renaming bool->Q7,str->Q6
open Bool renaming false->Q4,true->Q3,true->O,false->S
open Option renaming none->Q2,some->M
open Decidable renaming decide->T,decide->Q0
open Int renaming toNat->Z
open List renaming getD->Y
open Tr (chk br re)
open AV (nils agg tup ptr kb sl)
open AV renaming str->I
open Cad renaming ow->W,zi->Q,Sem->J,ze->R,ai->L
set_option maxHeartbeats 4000000
theorem tH:∀(i d x:Nat)(e:zg),d<=12->d<=i->d<=x->cY d e=O->vd e->dr i e=M (bj x e,())/\(bj x e).length<=400*nE d e
 |_,0,_,_,_,_,_,h,_=>by cases h
 |0,d+1,_,_,_,h,_,_,_=>zA h W
 |_,d+1,0,_,_,_,h,_,_=>zA h W
 | i+1,d+1,x+1,e,h0,h1,h2,h,o=>by
  rw[dr];unfold Ue;cases gJ h with
  | lit v hv=>
   rw[vd]at o;have k:bj (x+1) (.mk pC v [] [])=jd v:=rfl;have P:=Bc v;rw[k];refine⟨zQ (r:=(.str (jd v),[])) ?_ rfl,by simp[nE];omega⟩;have j:(rI (λl=>jx (dr i l)) (λl=>(dr i l).isSome) (.mk pC v [] [])).val=if lI v=O then M (.inr (.str (qb v),[]))else Q2:=rfl
   rw[j,Jm o.1,OV o.1];rfl
  | col s U hr=>
   have P:=JS U;have k:bj (x+1) (.mk fk (0,0,[]) s [])=s:=rfl;rw[k];exact⟨zQ (r:=(.str s,[])) rfl rfl,by simp[nE];omega⟩
  | one p a D z=>
   rw[vd,lC]at o;obtain⟨A,la⟩:=tH i d x a W W W z o.q.1;have E:=uO d a z;have p1:2^d<=2^12:=HR W W;have F:nE (d+1) (.mk p (0,0,[]) [] [a])=1+nE d a:=by simp[nE]
   rw[F];generalize C:(λl=>jx (dr i l))=g;generalize B:(λl=>(dr i l).isSome)=c;have n:g a=bj x a:=by rw[<-C];show jx (dr i a)=_;rw[A];rfl
   have m:c a=O:=by rw[<-B];show(dr i a).isSome=_;rw[A];rfl
   rcases D with rfl|rfl
   .have k:bj (x+1) (.mk oC (0,0,[]) [] [a])=wy++bj x a++[41]:=rfl;rw[k];refine⟨zQ (r:=(.str (wy++bj x a++[41]),[])) ?_ rfl,sg⟩;have j:(rI g c (.mk oC (0,0,[]) [] [a])).val=if c (zt a)=O then(ite (T (X wy+X (g (zt a))<=1099511627776)=O) (ite (T ((wy++g (zt a)).length+[41].length<=1099511627776)=O) (M (.inr (.str (wy++g (zt a)++[41]),[]))) Q2) Q2)else Q2:=rfl
    rw[j,zo,m,n,zf rfl,zf (zB sg),zf (zB sg)]
   .have k:bj (x+1) (.mk qE (0,0,[]) [] [a])=[40]++bj x a++DN:=rfl;rw[k];refine⟨zQ (r:=(.str ([40]++bj x a++DN),[])) ?_ rfl,sg⟩;have j:(rI g c (.mk qE (0,0,[]) [] [a])).val=if c (zt a)=O then(ite (T ([40].length+X (g (zt a))<=1099511627776)=O) (ite (T (([40]++g (zt a)).length+X DN<=1099511627776)=O) (M (.inr (.str ([40]++g (zt a)++DN),[]))) Q2) Q2)else Q2:=rfl
    rw[j,zo,m,n,zf rfl,zf (zB sg),zf (zB sg)]
  | two p a b D z E=>
   rw[vd,lC,lC]at o;obtain⟨A,la⟩:=tH i d x a W W W z o.q.1;obtain⟨kb,lb⟩:=tH i d x b W W W E o.r.1;have G:=uO d a z;have H:=uO d b E;have p1:2^d<=2^12:=HR W W;have F:nE (d+1) (.mk p (0,0,[]) [] [a,b])=1+(nE d a+nE d b):=by simp[nE]
   rw[F];generalize C:(λl=>jx (dr i l))=g;generalize B:(λl=>(dr i l).isSome)=c;have n:g a=bj x a:=by rw[<-C];show jx (dr i a)=_;rw[A];rfl
   have m:c a=O:=by rw[<-B];show(dr i a).isSome=_;rw[A];rfl
   have y:g b=bj x b:=by rw[<-C];show jx (dr i b)=_;rw[kb];rfl
   have u:c b=O:=by rw[<-B];show(dr i b).isSome=_;rw[kb];rfl
   have k:∀w:zJ,Lib.toUpperA p=w->vw (bj x) (iH x) (.mk p (0,0,[]) [] [a,b])=[40]++bj x a++[32]++w++[32]++bj x b++[41]:=by
    rintro w rfl;rcases D with rfl|rfl|rfl|rfl|rfl|rfl<;>rfl
   have hx:bj (x+1) (.mk p (0,0,[]) [] [a,b])=vw (bj x) (iH x) (.mk p (0,0,[]) [] [a,b]):=rfl;rw[hx];rcases D with rfl|rfl|rfl|rfl|rfl|rfl
   .rw[k XU rfl];refine⟨zQ (r:=(.str ([40]++bj x a++Qj++bj x b++[41]),[])) ?_ (by simp[aZ];rfl),sg⟩;have j:(rI g c (.mk jf (0,0,[]) [] [a,b])).val=if c (zt a)=O then(ite (T ([40].length+X (g (zt a))<=1099511627776)=O) (ite (T (([40]++g (zt a)).length+X Qj<=1099511627776)=O) (ite (c (zt b)=O) (ite (T (([40]++g (zt a)++Qj).length+X (g (zt b))<=1099511627776)=O) (ite (T (([40]++g (zt a)++Qj++g (zt b)).length+[41].length<=1099511627776)=O) (M (.inr (.str ([40]++g (zt a)++Qj++g (zt b)++[41]),[]))) Q2) Q2) Q2) Q2) Q2)else Q2:=rfl
    rw[j,zo,zo,m,u,n,y,zf rfl,zf (zB sg),zf (zB sg),zf rfl,zf (zB sg),zf (zB sg)]
   .rw[k [79,82] rfl];refine⟨zQ (r:=(.str ([40]++bj x a++Qk++bj x b++[41]),[])) ?_ (by simp[aZ];rfl),sg⟩;have j:(rI g c (.mk wA (0,0,[]) [] [a,b])).val=if c (zt a)=O then(ite (T ([40].length+X (g (zt a))<=1099511627776)=O) (ite (T (([40]++g (zt a)).length+X Qk<=1099511627776)=O) (ite (c (zt b)=O) (ite (T (([40]++g (zt a)++Qk).length+X (g (zt b))<=1099511627776)=O) (ite (T (([40]++g (zt a)++Qk++g (zt b)).length+[41].length<=1099511627776)=O) (M (.inr (.str ([40]++g (zt a)++Qk++g (zt b)++[41]),[]))) Q2) Q2) Q2) Q2) Q2)else Q2:=rfl
    rw[j,zo,zo,m,u,n,y,zf rfl,zf (zB sg),zf (zB sg),zf rfl,zf (zB sg),zf (zB sg)]
   .rw[k [61] rfl];refine⟨zQ (r:=(.str ([40]++bj x a++[32]++[61]++[32]++bj x b++[41]),[])) ?_ rfl,sg⟩;have j:(rI g c (.mk [61] (0,0,[]) [] [a,b])).val=if c (zt a)=O then(ite (T ([40].length+X (g (zt a))<=1099511627776)=O) (ite (T (([40]++g (zt a)).length+[32].length<=1099511627776)=O) (ite (T (([40]++g (zt a)++[32]).length+X [61]<=1099511627776)=O) (ite (T (([40]++g (zt a)++[32]++[61]).length+[32].length<=1099511627776)=O) (ite (c (zt b)=O) (ite (T (([40]++g (zt a)++[32]++[61]++[32]).length+X (g (zt b))<=1099511627776)=O) (ite (T (([40]++g (zt a)++[32]++[61]++[32]++g (zt b)).length+[41].length<=1099511627776)=O) (M (.inr (.str ([40]++g (zt a)++[32]++[61]++[32]++g (zt b)++[41]),[]))) Q2) Q2) Q2) Q2) Q2) Q2) Q2)else Q2:=rfl
    rw[j,zo,zo,m,u,n,y,zf rfl,zf (zB sg),zf (zB sg),zf (zB sg),zf (zB sg),zf rfl,zf (zB sg),zf (zB sg)]
   .rw[k [60] rfl];refine⟨zQ (r:=(.str ([40]++bj x a++[32]++[60]++[32]++bj x b++[41]),[])) ?_ rfl,sg⟩;have j:(rI g c (.mk [60] (0,0,[]) [] [a,b])).val=if c (zt a)=O then(ite (T ([40].length+X (g (zt a))<=1099511627776)=O) (ite (T (([40]++g (zt a)).length+[32].length<=1099511627776)=O) (ite (T (([40]++g (zt a)++[32]).length+X [60]<=1099511627776)=O) (ite (T (([40]++g (zt a)++[32]++[60]).length+[32].length<=1099511627776)=O) (ite (c (zt b)=O) (ite (T (([40]++g (zt a)++[32]++[60]++[32]).length+X (g (zt b))<=1099511627776)=O) (ite (T (([40]++g (zt a)++[32]++[60]++[32]++g (zt b)).length+[41].length<=1099511627776)=O) (M (.inr (.str ([40]++g (zt a)++[32]++[60]++[32]++g (zt b)++[41]),[]))) Q2) Q2) Q2) Q2) Q2) Q2) Q2)else Q2:=rfl
    rw[j,zo,zo,m,u,n,y,zf rfl,zf (zB sg),zf (zB sg),zf (zB sg),zf (zB sg),zf rfl,zf (zB sg),zf (zB sg)]
   .rw[k [43] rfl];refine⟨zQ (r:=(.str ([40]++bj x a++[32]++[43]++[32]++bj x b++[41]),[])) ?_ rfl,sg⟩;have j:(rI g c (.mk [43] (0,0,[]) [] [a,b])).val=if c (zt a)=O then(ite (T ([40].length+X (g (zt a))<=1099511627776)=O) (ite (T (([40]++g (zt a)).length+[32].length<=1099511627776)=O) (ite (T (([40]++g (zt a)++[32]).length+X [43]<=1099511627776)=O) (ite (T (([40]++g (zt a)++[32]++[43]).length+[32].length<=1099511627776)=O) (ite (c (zt b)=O) (ite (T (([40]++g (zt a)++[32]++[43]++[32]).length+X (g (zt b))<=1099511627776)=O) (ite (T (([40]++g (zt a)++[32]++[43]++[32]++g (zt b)).length+[41].length<=1099511627776)=O) (M (.inr (.str ([40]++g (zt a)++[32]++[43]++[32]++g (zt b)++[41]),[]))) Q2) Q2) Q2) Q2) Q2) Q2) Q2)else Q2:=rfl
    rw[j,zo,zo,m,u,n,y,zf rfl,zf (zB sg),zf (zB sg),zf (zB sg),zf (zB sg),zf rfl,zf (zB sg),zf (zB sg)]
   .rw[k [45] rfl];refine⟨zQ (r:=(.str ([40]++bj x a++[32]++[45]++[32]++bj x b++[41]),[])) ?_ rfl,sg⟩;have j:(rI g c (.mk [45] (0,0,[]) [] [a,b])).val=if c (zt a)=O then(ite (T ([40].length+X (g (zt a))<=1099511627776)=O) (ite (T (([40]++g (zt a)).length+[32].length<=1099511627776)=O) (ite (T (([40]++g (zt a)++[32]).length+X [45]<=1099511627776)=O) (ite (T (([40]++g (zt a)++[32]++[45]).length+[32].length<=1099511627776)=O) (ite (c (zt b)=O) (ite (T (([40]++g (zt a)++[32]++[45]++[32]).length+X (g (zt b))<=1099511627776)=O) (ite (T (([40]++g (zt a)++[32]++[45]++[32]++g (zt b)).length+[41].length<=1099511627776)=O) (M (.inr (.str ([40]++g (zt a)++[32]++[45]++[32]++g (zt b)++[41]),[]))) Q2) Q2) Q2) Q2) Q2) Q2) Q2)else Q2:=rfl
    rw[j,zo,zo,m,u,n,y,zf rfl,zf (zB sg),zf (zB sg),zf (zB sg),zf (zB sg),zf rfl,zf (zB sg),zf (zB sg)]
section
variable {σ:Type} {t:σ->Tr (σ⊕aw)}
abbrev Jz:aw:=(.kb S,[])
theorem QQ{α:Type}{la lb:List α}(s:Nat->σ)(d:X la=X lb)(g:∀i(j:i<X la)(c:i<X lb),(la[i]=lb[i]->(t (s i)).val=M (.inl (s (i+1))))/\(la[i]≠lb[i]->(t (s i)).val=M (.inr Jz))):
  (la=lb/\zH t (X la) (s 0) (s (X la)))\/(la≠lb/\zU t (X la) (s 0) Jz):=by
 rcases nL (t:=t) (Φ:=λr=>r=Jz) 1 s (λi=>la[i]?=lb[i]?) (X la) (λi b _=>by
  have c:i<X lb:=by omega
  have⟨a,x⟩:=g i b c;rw[af b,af c];by_cases h:la[i]=lb[i]
  .exact .inl ⟨by rw[h],zH.of (a h)⟩
  .exact .inr ⟨λe=>h (Option.some.inj e),Jz,zU.of (x h),rfl⟩)with⟨a,x⟩|⟨a,r,x,rfl⟩
 .rw[Nat.mul_one]at x;refine .inl ⟨ox λi=>?_,x⟩;by_cases b:i<X la
  .exact a i b
  .rw[fg W,fg W]
 .rw[Nat.mul_one]at x;exact .inr ⟨λh=>a λi _=>by rw[h],x⟩
end
variable {α:Type}
theorem kl{a b:List α}:((X a:Int)!=(X b:Int))=O↔X a≠X b:=by simp[bne];omega
theorem FQ:∀(x:Nat)(a b:zg),ol x a=O->∃r,cE x a b=M (r,())/\(r=O↔a=b)
 |0,_,_,h=>by cases h
 | x + 1,.mk j v s l,.mk o g m k,h=>by
  rw[ol]at h;simp only[aN,aY,eu]at h;have⟨hl,P⟩:=h;rw[cE];unfold Lb
  have B:(Hp (λd e=>iM (cE x d e)) (λd e=>(cE x d e).isSome) (.mk j v s l) (.mk o g m k)).val=M (.inr Jz)->¬(zg.mk j v s l=zg.mk o g m k)->
    ∃r,ap [Q7] (PG (λd e=>iM (cE x d e)) (λd e=>(cE x d e).isSome)) 3000000000 (Hp (λd e=>iM (cE x d e)) (λd e=>(cE x d e).isSome) (.mk j v s l) (.mk o g m k))=M (r,())/\(r=O↔zg.mk j v s l=zg.mk o g m k):=by
   intro w F;exact⟨S,zQ w rfl,by simp[F]⟩
  have p:∀c:Bool,(cond (!j==o) O (cond (!(v.1==g.1&&(v.2.1==g.2.1&&(v.q==g.q&&O)))) O (cond (!s==m) O ((X l:Int)!=(X k:Int)))))=c->
    (Hp (λd e=>iM (cE x d e)) (λd e=>(cE x d e).isSome) (.mk j v s l) (.mk o g m k)).val=if c=O then M (.inr Jz)else M (.inl (.h4 ((0:Nat):Int) (.mk j v s l,()) (.mk o g m k,()))):=by
   rintro c rfl;rfl
  by_cases C:j=o;rotate_left
  .exact B (by rw[p O (by rw[dX.2 C];rfl)];rfl) (λh=>C (by injection h))
  by_cases D:v=g;rotate_left
  .refine B ?_ (λh=>D (by injection h));rw[p O ?_]
   .rfl
   .have:(v.1==g.1&&(v.2.1==g.2.1&&(v.q==g.q&&O)))=S:=by
     rw[<-iW];intro h;simp at h;exact D (Prod.ext h.1 (Prod.ext h.2.1 h.q))
    rw[this];cases(j==o)<;>rfl
  by_cases E:s=m;rotate_left
  .refine B ?_ (λh=>E (by injection h));rw[p O ?_]
   .rfl
   .rw[dX.2 E];cases(j==o)<;>cases(v.1==g.1&&(v.2.1==g.2.1&&(v.q==g.q&&O)))<;>rfl
  by_cases z:X l=X k;rotate_left
  .refine B ?_ (λh=>z (by injection h with _ _ _ h;rw[h]));rw[p O ?_]
   .rfl
   .rw[kl.2 z];cases(j==o)<;>cases(v.1==g.1&&(v.2.1==g.2.1&&(v.q==g.q&&O)))<;>cases(s==m)<;>rfl
  subst C;subst D;subst E;have w:=p S (by
   have:((X l:Int)!=(X k:Int))=S:=by rw[<-iW,kl];exact λh=>h z
   rw[this];simp)
  rw[zh sw]at w
  rcases QQ (t:=PG (λd e=>iM (cE x d e)) (λd e=>(cE x d e).isSome)) (la:=l) (lb:=k) (λi=>.h4 (i:Int) (.mk j v s l,()) (.mk j v s k,())) z (by
   intro i A u;have⟨r,U,n⟩:=FQ x l[i] k[i] (P _ (bC A));have G:Y l (i:Int).toNat (Q Sh.expr)=l[i]:=zX _ _ A;have H:Y k (i:Int).toNat (Q Sh.expr)=k[i]:=zX _ _ u;have y:(PG (λd e=>iM (cE x d e)) (λd e=>(cE x d e).isSome) (.h4 (i:Int) (.mk j v s l,()) (.mk j v s k,()))).val=if(!r)=O then M (.inr Jz)else M (.inl (.h4 ((i+1:Nat):Int) (.mk j v s l,()) (.mk j v s k,()))):=by
    simp only[PG,Mo,Dp,Q8,zg.l,zo,G,H,zx A,zx u,U,dw,zj];rw[zu i um];show(ite (T ((i:Int)<(X l:Int))=O) _ _)=_;rw[zf (zB W)];rfl
   rw[y];refine⟨λh=>?_,λh=>?_⟩
   .rw[zh (by rw[n.2 h];simp)]
   .rw[zf];cases r
    .rfl
    .exact zA (n.1 rfl) h)with⟨h1,h2⟩|⟨h1,h2⟩
  .subst h1;refine⟨O,zz w (h2.ends (zU.of (r:=(.kb O,[])) ?_)) W rfl,sw⟩;simp only[PG,Mo,Dp,Q8,zg.l];exact zh sw
  .exact⟨S,zz w h2 W rfl,by simp[h1]⟩
theorem oY{a b:zg}(h:ol 16 a=O):gV a b=O/\(fJ a b=O↔a=b):=by
 have⟨r,x,c⟩:=FQ 16 a b h;have x:CW a b=M (r,()):=x;refine⟨by unfold gV;rw[x];rfl,?_⟩;have:fJ a b=r:=by unfold fJ;rw[x];rfl
 rw[this];exact c
section
variable {σ:Type} {t:σ->Tr (σ⊕aw)}
def Xg(t:σ->Tr (σ⊕aw))(K:Nat)(n:σ⊕aw)(r:aw):Prop:=match n with
 |.inl h=>zU t K h r
 |.inr x=>x=r
theorem nl{α:Type}{la lb:List α}(s:Int->σ)(n:σ⊕aw)(e:Nat->Bool)(x:∀i:Nat,i<=X la->(t (s i)).val=if T (LT.lt (α:=Int) (i:Int) (X la:Int))=O then(ite (zL (i:Int) (X la)=O) (ite (zL (i:Int) (X lb)=O) (ite ((!e i)=O) (M (.inr Jz)) (M (.inl (s (Γ Δ ((i:Int)+1)))))) Q2) Q2)else M n)
  (l:∀i(_:i<X la)(d:i<X la)(j:i<X lb),e i=O↔la[i]=lb[i]) (b:X la=X lb) (o:X la<=1000000):
  (la=lb/\∀K r,Xg t K n r->zU t (K+X la+1) (s 0) r)\/(la≠lb/\zU t (X la) (s 0) Jz):=by
 rcases QQ (t:=t) (la:=la) (lb:=lb) (λi=>s (i:Int)) b (λi d j=>by
  have a:=x i W;rw[zf (zB W),zf (zx d),zf (zx j),zu i um]at a;have:=l i d d j;refine⟨λh=>?_,λh=>?_⟩
  .rw[a,zh (by rw[this.2 h];simp)]
  .rw[a,zf];cases m:e i
   .rfl
   .exact zA (this.1 m) h)with⟨g,c⟩|⟨g,c⟩
 .refine .inl ⟨g,λK r k=>?_⟩;have a:=x (X la) (zM _);rw[zh sw]at a;unfold Xg at k;cases n with
  |inl h=>exact(c.ends ((zH.of a).ends k)).mono W
  |inr p=>cases k;exact(c.ends (zU.of a)).mono W
 .exact .inr ⟨g,c⟩
end
theorem X2(a b:cH):(a.1==b.1&&(a.2.1==b.2.1&&(a.q==b.q&&O)))=O↔a=b:=by simp[Prod.ext_iff]
theorem zvu(a b:J jM):(a.1==b.1&&(a.2==b.2&&O))=O↔a=b:=by simp[Prod.ext_iff]
theorem zl9(a b:cy):(a.1==b.1&&(a.2==b.2&&O))=O↔a=b:=by simp[Prod.ext_iff]
theorem zou(a b:zq):(a.1==b.1&&(a.2.1==b.2.1&&(a.q==b.q&&O)))=O↔a=b:=by simp[Prod.ext_iff]
theorem orF{x y:Bool}(h:(cond x O y)=S):x=S/\y=S:=by
 cases x
 .exact⟨rfl,h⟩
 .cases h
theorem zaa[BEq α][LawfulBEq α]{a b:α}(h:(!a==b)=S):a=b:=by
 cases x:(a==b)
 .rw[x]at h;cases h
 .simpa using x
theorem Wn{a b:List α}(h:((X a:Int)!=(X b:Int))=S):X a=X b:=by simp[bne]at h;omega
structure Dr (a:zO):Prop where
 names:X a.r.1<=1000
 cols:X a.t.1<=1000
 uniques:X a.v.1<=1000
 refs:X a.w.1<=1000
 row:X a.y.1<=1000
 sets:X a.z.1<=1000
 chk:ol 16 a.x.1=O
 whr:ol 16 a.s.1=O
 ex:∀x∈a.z.1,ol 16 (x:J jb).2=O
variable {s b:zO}
theorem RY(h:Dr s):∃r,tP s b=M (r,())/\(r=O↔s=b):=by
 have⟨a1,a2,a3,a4,P,a6,a7,a8,a9,j,e,D,E⟩:=s;have⟨b1,b2,b3,b4,b5,b6,b7,b8,b9,o,g,F,G⟩:=b;have⟨h4,h5,h7,h8,x2,x3,h9,x7,hx⟩:=h;have h4:X a4<=1000:=h4;have h5:X P<=1000:=h5;have h7:X a7<=1000:=h7;have h8:X a8<=1000:=h8;have x2:X j<=1000:=x2;have x3:X e<=1000:=x3;have hx:∀x∈e,ol 16 (x:J jb).2=O:=hx;have⟨s1,s2⟩:=oY (b:=b9) (show ol 16 a9=O from h9);have⟨u1,u2⟩:=oY (b:=F) (show ol 16 D=O from x7);generalize l:((a1,a2,a3,a4,P,a6,a7,a8,a9,j,e,D,E):zO)=A;generalize m:((b1,b2,b3,b4,b5,b6,b7,b8,b9,o,g,F,G):zO)=B;have x8:∀r:aw,∀{k a},(zeP A B).val=M (.inl a)->A≠B->zU we k a Jz->k<=100000000->∃r,tP A B=M (r,())/\(r=O↔A=B):=by
  intro _ k a h1 h h2 h3;exact⟨S,zz h1 h2 h3 rfl,by simp[h]⟩
 have hv:∀c d:Bool,(cond (!a1==b1) O (cond (!a2==b2) O (cond (!a3==b3) O (cond (!a6==b6) O (cond (!E==G) O (cond (!fJ a9 b9) O (!fJ D F)))))))=c->
   (cond ((X a4:Int)!=(X b4:Int)) O (cond ((X P:Int)!=(X b5:Int)) O (cond ((X a7:Int)!=(X b7:Int)) O (cond ((X a8:Int)!=(X b8:Int)) O (cond ((X j:Int)!=(X o:Int)) O ((X e:Int)!=(X g:Int)))))))=d->
   (zeP A B).val=if c=O then M (.inr Jz)else if d=O then M (.inr Jz)else M (.inl (.h6 0 (A,()) (B,()))):=by
  rintro c d rfl rfl;subst l;subst m;have hg:∀x:Bool,(cond (!a1==b1) O (cond (!a2==b2) O (cond (!a3==b3) O (cond (!a6==b6) O (cond (!E==G) O (gV a9 b9&&bif x then O else gV D F))))))=O:=by
   intro x;rw[s1,u1];cases(!a1==b1)<;>cases(!a2==b2)<;>cases(!a3==b3)<;>cases(!a6==b6)<;>cases(!E==G)<;>cases x<;>rfl
  simp only[zeP,Q8,zo];rw[zf (hg _)]
 cases n:(cond (!a1==b1) O (cond (!a2==b2) O (cond (!a3==b3) O (cond (!a6==b6) O (cond (!E==G) O (cond (!fJ a9 b9) O (!fJ D F)))))));rotate_left
 .refine⟨S,zQ (r:=Jz) (by rw[hv O _ n rfl];rfl) rfl,?_⟩;constructor
  .intro h;cases h
  .intro h;rw[<-l,<-m]at h;simp only[cO]at h;obtain⟨rfl,rfl,rfl,rfl,rfl,rfl,rfl,rfl,rfl,rfl,rfl,rfl,rfl⟩:=h;have k1:=s2.2 rfl;have k2:=u2.2 rfl;rw[k1,k2]at n;simp at n
 cases C:(cond ((X a4:Int)!=(X b4:Int)) O (cond ((X P:Int)!=(X b5:Int)) O (cond ((X a7:Int)!=(X b7:Int)) O (cond ((X a8:Int)!=(X b8:Int)) O (cond ((X j:Int)!=(X o:Int)) O ((X e:Int)!=(X g:Int)))))));rotate_left
 .refine⟨S,zQ (r:=Jz) (by rw[hv S O n C];rfl) rfl,?_⟩;constructor
  .intro h;cases h
  .intro h;rw[<-l,<-m]at h;simp only[cO]at h;obtain⟨rfl,rfl,rfl,rfl,rfl,rfl,rfl,rfl,rfl,rfl,rfl,rfl,rfl⟩:=h;simp at C
 have hi:=hv S S n C;rw[zh sw,zh sw]at hi;have⟨m1,n⟩:=orF n;have⟨m2,n⟩:=orF n;have⟨m3,n⟩:=orF n;have⟨m6,n⟩:=orF n;have⟨i0,n⟩:=orF n;have⟨m9,a0⟩:=orF n;have⟨n4,C⟩:=orF C;have⟨n5,C⟩:=orF C;have⟨n7,C⟩:=orF C;have⟨n8,C⟩:=orF C;have⟨i1,i2⟩:=orF C;have e1:=zaa m1;have e2:=zaa m2;have e3:=zaa m3;have e6:=zaa m6;have x6:=zaa i0;have e9:=s2.1 (by simpa using m9);have x5:=u2.1 (by simpa using a0);subst e1;subst e2;subst e3;subst e6;subst x6;subst e9;subst x5;have no:∀{k},A≠B->zU we k (.h6 0 (A,()) (B,())) Jz->k<=100000000->∃r,tP A B=M (r,())/\(r=O↔A=B):=λh1 h2 h3=>x8 Jz hi h1 h2 h3
 rcases nl (t:=we) (la:=a4) (lb:=b4) (λi=>.h6 i (A,()) (B,())) (.inl (.h11 0 (A,()) (B,()))) (λi=>Y a4 (i:Int).toNat (Q Q6)==Y b4 (i:Int).toNat (Q Q6)) (λ_ _=>by subst l;subst m;rfl) (λi _ p u=>by rw[bW,zX _ _ p,zX _ _ u]) (Wn n4) W with⟨q4,k4⟩|⟨q4,k4⟩;rotate_left
 .exact no (λh=>q4 (by rw[<-l,<-m]at h;simp only[cO]at h;exact h.r.1)) k4 W
 rcases nl (t:=we) (la:=P) (lb:=b5) (λi=>.h11 i (A,()) (B,())) (.inl (.h16 0 (A,()) (B,()))) (λi=>((Y P (i:Int).toNat (Q zn)).1==(Y b5 (i:Int).toNat (Q zn)).1&&((Y P (i:Int).toNat (Q zn)).2.1==(Y b5 (i:Int).toNat (Q zn)).2.1&&((Y P (i:Int).toNat (Q zn)).q==(Y b5 (i:Int).toNat (Q zn)).q&&O)))) (λ_ _=>by subst l;subst m;rfl) (λi _ p u=>by rw[X2,zX _ _ p,zX _ _ u]) (Wn n5) W with⟨q5,k5⟩|⟨q5,k5⟩;rotate_left
 .exact no (λh=>q5 (by rw[<-l,<-m]at h;simp only[cO]at h;exact h.t.1)) (k4 _ _ k5) W
 rcases nl (t:=we) (la:=a7) (lb:=b7) (λi=>.h16 i (A,()) (B,())) (.inl (.h21 0 (A,()) (B,()))) (λi=>Y a7 (i:Int).toNat (Q Q6)==Y b7 (i:Int).toNat (Q Q6)) (λ_ _=>by subst l;subst m;rfl) (λi _ p u=>by rw[bW,zX _ _ p,zX _ _ u]) (Wn n7) W with⟨q7,k7⟩|⟨q7,k7⟩;rotate_left
 .exact no (λh=>q7 (by rw[<-l,<-m]at h;simp only[cO]at h;exact h.v.1)) (k4 _ _ (k5 _ _ k7)) W
 rcases nl (t:=we) (la:=a8) (lb:=b8) (λi=>.h21 i (A,()) (B,())) (.inl (.h26 0 (A,()) (B,()))) (λi=>((Y a8 (i:Int).toNat (Q jM)).1==(Y b8 (i:Int).toNat (Q jM)).1&&((Y a8 (i:Int).toNat (Q jM)).2==(Y b8 (i:Int).toNat (Q jM)).2&&O))) (λ_ _=>by subst l;subst m;rfl) (λi _ p u=>by rw[zvu,zX _ _ p,zX _ _ u]) (Wn n8) W with⟨q8,k8⟩|⟨q8,k8⟩;rotate_left
 .exact no (λh=>q8 (by rw[<-l,<-m]at h;simp only[cO]at h;exact h.w.1)) (k4 _ _ (k5 _ _ (k7 _ _ k8))) W
 rcases nl (t:=we) (la:=j) (lb:=o) (λi=>.h26 i (A,()) (B,())) (.inl (.h31 0 (A,()) (B,()))) (λi=>((Y j (i:Int).toNat (Q R)).1==(Y o (i:Int).toNat (Q R)).1&&((Y j (i:Int).toNat (Q R)).2.1==(Y o (i:Int).toNat (Q R)).2.1&&((Y j (i:Int).toNat (Q R)).q==(Y o (i:Int).toNat (Q R)).q&&O)))) (λ_ _=>by subst l;subst m;rfl) (λi _ p u=>by rw[zou,zX _ _ p,zX _ _ u]) (Wn i1) W with⟨x0,H⟩|⟨x0,H⟩;rotate_left
 .exact no (λh=>x0 (by rw[<-l,<-m]at h;simp only[cO]at h;exact h.y.1)) (k4 _ _ (k5 _ _ (k7 _ _ (k8 _ _ H)))) W
 have x9:=Wn i2
 rcases QQ (t:=we) (la:=e) (lb:=g) (λi=>.h31 (i:Int) (A,()) (B,())) x9 (λi p u=>by
  have⟨w1,w2⟩:=oY (a:=e[i].2) (b:=g[i].2) (hx _ (bC p));have U:(we (.h31 (i:Int) (A,()) (B,()))).val=if(cond (!e[i].1==g[i].1) O (!fJ e[i].2 g[i].2))=O then M (.inr Jz)else M (.inl (.h31 ((i+1:Nat):Int) (A,()) (B,()))):=by
   subst l;subst m;show(we (.h31 _ _ _)).val=_;simp only[we,Q8,zo,zX _ _ p,zX _ _ u,zN p,zx p,zx u,w1,zj,eY];rw[zu i um];cases(!e[i].1==g[i].1)<;>rfl
  refine⟨λh=>?_,λh=>?_⟩
  .have k:=w2.2 (by rw[h]);rw[U,zh (by rw[k,h];simp)]
  .rw[U,zf];cases hh:(e[i].1==g[i].1)
   .rfl
   .cases hw:fJ e[i].2 g[i].2
    .rfl
    .exact zA (Prod.ext (by simpa using hh) (w2.1 hw)) h)with⟨x1,h0⟩|⟨x1,h0⟩
 rotate_left
 .exact no (λh=>x1 (by rw[<-l,<-m]at h;simp only[cO]at h;exact h.z.1)) (k4 _ _ (k5 _ _ (k7 _ _ (k8 _ _ (H _ _ h0))))) W
 have x4:(we (.h31 (X e:Int) (A,()) (B,()))).val=M (.inr (.kb O,[])):=by
  subst l;subst m;show(we (.h31 _ _ _)).val=_;simp only[we,Q8,zK];rfl
 refine⟨O,zz hi (k4 _ _ (k5 _ _ (k7 _ _ (k8 _ _ (H _ _ (h0.ends (zU.of x4))))))) W rfl,?_⟩;subst q4;subst q5;subst q7;subst q8;subst x0;subst x1;rw[<-l,<-m];simp
theorem tQ{a:zO}(h:Dr a):Da a b=O/\(ir a b=O↔a=b):=by
 have⟨r,x,c⟩:=RY (b:=b) h;refine⟨by unfold Da;rw[x];rfl,?_⟩;have:ir a b=r:=by unfold ir;rw[x];rfl
 rw[this];exact c
variable {e:zg}
theorem oE:iX e=O↔e=.mk [] (0,0,[]) [] []:=by
 have⟨o,⟨k,i,t⟩,s,l⟩:=e;unfold iX;show(cond (o==[]) (cond (k==0&&(i==0&&(t==[]&&O))) (cond (s==[]) ((X l:Int)==0) S) S) S)=O↔_;simp only[zg.mk.injEq,cO];constructor
 .intro h;have⟨x,h⟩:=dd h;have⟨a,h⟩:=dd h;have⟨b,h⟩:=dd h;simp at x a b h;exact⟨x,a,b,h⟩
 .rintro⟨rfl,⟨rfl,rfl,rfl⟩,rfl,rfl⟩;rfl
theorem Yh(h:ea e=O):(e.op==[])=S:=by
 have f:=gJ (mm h);clear h;cases f with
 |lit v j=>rfl
 |col s i g=>rfl
 |one o a x c=>rcases x with rfl|rfl<;>rfl
 |two o a b x c d=>rcases x with rfl|rfl|rfl|rfl|rfl|rfl<;>rfl
theorem Yi(h:ea e=O):nE 12 e<=60:=by
 rw[yN]at h;by_cases k:nE 12 e<=60
 .exact k
 .exfalso;rw[aB k]at h;cases cY 12 e<;>simp at h
theorem OX(a:vd e)(h:ea e=O):tF e=O/\r7 e=bj 16 e/\(bj 16 e).length<=24000:=by have⟨x,b⟩:=tH 16 12 16 e W W W (mm h) a;have x:Lc e=M (bj 16 e,()):=x;have c:=Yi h;refine⟨by unfold tF;rw[x];rfl,by unfold r7;rw[x];rfl,W⟩
def nP(w:zJ)(e:zg):zJ:=if(e.op==[])=O then[]else if ea e=O then(ite ((w==mV)=O) (zdO++bj 16 e) (w++zdL++bj 16 e++jm))else[]
variable {w:zJ}
theorem WI(d:vd e)(k:ol 16 e=O)(o:X w<=1000):Db e w=M (nP w e,cZ e,())/\(nP w e).length<=30000:=by
 unfold nP;by_cases a:(e.op==[])=O
 .rw[zf a];have⟨s,n⟩:=oY (b:=.mk [] (0,0,[]) [] []) k;have c:ea e=S:=by
   cases h:ea e
   .rfl
   .rw[Yh h]at a;cases a
  have l:fJ e (.mk [] (0,0,[]) [] [])=cZ e:=by
   unfold cZ;rw[c];apply oA.2;rw[n,<-oE];cases iX e<;>simp
  refine⟨zQ (r:=(.tup [.str [],.bool (cZ e)],[])) ?_ rfl,sw⟩;simp only[N0,Q8,zo,a,s,l,zj]
 .rw[zh a];have m:iX e=S:=by
   cases h:iX e
   .rfl
   .rw[oE.1 h]at a;exact zA rfl a
  have g:cZ e=ea e:=by unfold cZ;rw[m];rfl
  have a:(e.op==[])=S:=by simpa using a
  rw[g];by_cases c:ea e=O
  .have⟨i,j,p⟩:=OX d c;rw[zf c,c];by_cases x:(w==mV)=O
   .rw[zf x];refine⟨zQ (r:=(.tup [.str (zdO++bj 16 e),.kb O],[])) ?_ rfl,sg⟩;simp only[N0,Q8,zo,a,oX d,tE d,c,x,i,j,zj];rw[zh sw,zh sw,zf (zB sg)]
   .rw[zh x];have x:(w==mV)=S:=by simpa using x
    refine⟨zQ (r:=(.tup [.str (w++zdL++bj 16 e++jm),.kb O],[])) ?_ rfl,sg⟩;simp only[N0,Q8,zo,a,oX d,tE d,c,x,i,j,zj];rw[zh sw,zh sw,zh sw,zf (zB sg),zf (zB sg),zf (zB sg)]
  .rw[zh c];have c:ea e=S:=by simpa using c
   rw[c];refine⟨zQ (r:=(.tup [.str [],.kb S],[])) ?_ rfl,sw⟩;simp only[N0,Q8,zo,a,oX d,tE d,c,zj];rfl
theorem Ga(c:vd e)(a:ol 16 e=O)(b:X w<=1000):qn e w=O/\wa e w=(nP w e,cZ e)/\(nP w e).length<=30000:=by have⟨h,x⟩:=WI c a b;exact⟨by unfold qn;rw[h];rfl,by unfold wa;rw[h];rfl,x⟩
theorem DU(h:cZ e=O):mj [32] e=nP [] e:=by
 unfold mj nP;unfold cZ at h;cases a:iX e
 .rw[a]at h;have x:ea e=O:=h;rw[zh sw,zh (by rw[Yh x];simp),zf x];unfold jG pL;rw[x];rfl
 .rw[zf rfl];rw[oE.1 a];rfl
theorem I3(s x:zJ):∀l:List zJ,Lib.join (l++[x]) s=if l=[]then x else Lib.join l s++s++x
 |[]=>by rw[zf rfl];exact Lib.join_one x s
 |[a]=>by simp[Lib.join,List.intercalate,List.intersperse]
 | a::b::r=>by
  have i:=I3 s x (b::r);rw[zh sw]at i|-;have e:∀(c:zJ)(q:List zJ),Lib.join (a::c::q) s=a++s++Lib.join (c::q) s:=λc q=>by simp[Lib.join,List.intercalate,List.intersperse]
  show Lib.join (a::b::(r++[x])) s=_;rw[e,e];rw[show b::(r++[x])=(b::r)++[x]from rfl,i];simp
theorem R1{l:List zJ}(y:X l<=100)(q:∀x∈l,X x<=1000):∃t,xO l=M (t,(T (∀x∈l,az x=O)&&(T (1<=X l)&&T (X l<=8))),())/\X t<=200000/\((∀x∈l,az x=O)->t=Lib.join l fP):=by
 have k:∀i,i<=X l->(Lib.join (l.take i) fP).length<=110000:=by
  intro i a;have:=xe fP 1000 (l.take i) (λx n=>q x (List.mem_of_mem_take n));have d:(l.take i).length<=100:=by simp;omega
  have w:=gD (1000+(fP:zJ).length) d;simp at this w|-;omega
 have b:∀i(a:i<X l),(GH (.h3 l (Lib.join (l.take i) fP) (i:Int))).val=if az l[i]=O then M (.inl (.h3 l (Lib.join (l.take (i+1)) fP) ((i+1:Nat):Int)))else M (.inr (.tup [.str [],.kb S],[])):=by
  intro i a;have n:=q _ (bC a);have g:=k i W;show(GH (.h3 _ _ _)).val=_;simp only[GH,Q8,zX _ _ a,zN a,zx a,cF (s:=l[i]) W,fT (s:=l[i]) W,zj];rw[zu i um,zjj a,I3];by_cases c:az l[i]=O
  .rw[zh (by rw[c];simp),zf c];by_cases p:i=0
   .subst p;rw[zh sw,zf (zB (by simp[Lib.join_nil];omega)),zf sw];rfl
   .rw[zf (zB W),zf (zB sg),zf (zB sg),zh (by
     intro h;have:=congrArg X h;simp at this;rcases this with h|h
     .exact p h
     .rw[h]at a;simp at a)]
  .rw[zf (by simpa using c),zh c]
 rcases nL (t:=GH) (Φ:=λr=>r=(.tup [.str [],.kb S],[])) 1 (λi=>.h3 l (Lib.join (l.take i) fP) (i:Int)) (λi=>∀h:i<X l,az l[i]=O) (X l) (λi a _=>by
  by_cases c:az l[i]=O
  .exact .inl ⟨λ_=>c,zH.of (by rw[b i a,zf c])⟩
  .exact .inr ⟨λh=>c (h a),_,zU.of (by rw[b i a,zh c]),rfl⟩)with⟨o,d⟩|⟨o,r,d,rfl⟩
 .have e:∀x∈l,az x=O:=by
   intro x n;obtain⟨j,g,rfl⟩:=fO n;exact o j g g
  rw[gE]at d;have g:=k (X l) (zM _);rw[gE]at g;refine⟨Lib.join l fP,zz (s:=.h3 l [] 0) rfl (d.ends (zU.of (r:=(.tup [.str (Lib.join l fP),.bool (cond (T (1<=(X l:Int))) (T ((X l:Int)<=8)) S)],[])) ?_)) W ?_,W,λ_=>rfl⟩
  .show(GH (.h3 _ _ _)).val=_;simp only[GH,Q8,zK];cases T (1<=(X l:Int))<;>rfl
  .rw[zB e];have u:T (1<=(X l:Int))=T (1<=X l):=by
    by_cases h:1<=X l
    .rw[zB h];exact zB W
    .rw[aB h];exact aB W
   have v:T ((X l:Int)<=8)=T (X l<=8):=by
    by_cases h:X l<=8
    .rw[zB h];exact zB W
    .rw[aB h];exact aB W
   rw[u,v];cases T (1<=X l)<;>cases T (X l<=8)<;>rfl
 .have m:¬∀x∈l,az x=O:=λh=>o λi _ a=>h _ (bC a)
  refine⟨[],zz (s:=.h3 l [] 0) rfl d W ?_,sw,λh=>zA h m⟩;rw[aB m];rfl
structure yD (s:zO):Prop where
 sh:nN s
 chk:vd s.x.1
 whr:vd s.s.1
 cchk:ol 16 s.x.1=O
 cwhr:ol 16 s.s.1=O
 row:∀v∈s.y.1,mf v
 sets:∀x∈s.z.1,vd (x:J jb).2/\ol 16 (x:J jb).2=O
def zlw(B:Nat)(r:aw):Prop:=∃(h:zJ)(b:Bool),aZ r.2 [Q6,Q7] r.1=M (h,b,())/\X h<=B
theorem zwo(h:yD s)(e:Bool)(d:zJ)(o:X d<=60000)(n:Nat)(m:30<=n):∃r,em gv n (.h20 e d 0 (s,()))=M r/\zlw 200000 r:=by
 have y:=h.sh.refs.1;refine dP (t:=gv) (β:=Bool×zJ) (X s.w.1) (λb i=>.h20 b.1 b.2 (i:Int) (s,())) (λb i=>X b.2<=60000+2100*i) _ 1 ?_ ?_ (X s.w.1) 0 (e,d) n rfl (aG _) (by simpa using o) W
 .rintro⟨b,x⟩ i c a;have a:X x<=60000+2100*i:=a;have⟨q,u⟩:=h.sh.refs.2 _ (bC c);have g:Y s.w.1 (i:Int).toNat (Q jM)=s.w.1[i]:=zX _ _ c;generalize s.w.1[i]=f at g q u;refine .inl ⟨(cond b (cond (cf f.1) (cf f.2) S) S,x++(zlN++f.1++zlM++f.2)),sg,?_⟩;show(gv (.h20 _ _ _ _)).val=_;simp only[gv,Q8,g,zN c,zx c,cF (s:=f.1) W,cF (s:=f.2) W,zj];rw[zu i um,zf (by cases b<;>cases cf f.1<;>rfl),zf (zB sg),zf (zB sg),zf (zB sg),zf (zB sg)]
 .rintro⟨b,x⟩ n a m;have a:X x<=60000+2100*X s.w.1:=a;obtain⟨n,rfl⟩:∃k,n=k+1:=⟨n-1,W⟩;have⟨j,l,v⟩:=Ga h.chk h.cchk (w:=[32,44]) sw;have p:(gv (.h20 b x (X s.w.1:Int) (s,()))).val=M (.inr (.tup [.str (x++nP [32,44] s.x.1++jm),.bool (cond b (cZ s.x.1) S)],[])):=by
   show(gv (.h20 _ _ _ _)).val=_;simp only[gv,Q8,zo,zK,j,l,zj]
   rw[zh sw,zf (by
    have:X x+(nP [32,44] s.x.1).length<=200000:=by omega
    simp;omega)]
   cases b<;>rfl
  rw[dg,p];exact⟨_,rfl,_,_,rfl,sg⟩
theorem zwn(h:yD s)(e:Bool)(d:zJ)(l:X d<=30000)(n:Nat)(j:60<=n):∃r,em gv n (.h15 e d 0 (s,()))=M r/\zlw 200000 r:=by
 have p:=h.sh.uniques.1;refine dP (t:=gv) (β:=Bool×zJ) (X s.v.1) (λb i=>.h15 b.1 b.2 (i:Int) (s,())) (λb i=>X b.2<=30000+1100*i) _ 31 ?_ ?_ (X s.v.1) 0 (e,d) n rfl (aG _) (by simpa using l) W
 .rintro⟨b,x⟩ i c a;have a:X x<=30000+1100*i:=a;have o:=h.sh.uniques.2 _ (bC c);have g:Y s.v.1 (i:Int).toNat (Q Q6)=s.v.1[i]:=zX _ _ c;generalize s.v.1[i]=f at g o;refine .inl ⟨(cond b (cf f) S,x++(zlO++f++jm)),sg,?_⟩;show(gv (.h15 _ _ _ _)).val=_;simp only[gv,Q8,g,zN c,zx c,cF (s:=f) W,zj];rw[zu i um,zf (by cases b<;>rfl),zf (zB sg),zf (zB sg),zf (zB sg)]
 .rintro⟨b,x⟩ n a j;have a:X x<=30000+1100*X s.v.1:=a;obtain⟨n,rfl⟩:∃k,n=k+1:=⟨n-1,W⟩;have m:(gv (.h15 b x (X s.v.1:Int) (s,()))).val=M (.inl (.h20 b x 0 (s,()))):=by
   show(gv (.h15 _ _ _ _)).val=_;simp only[gv,Q8,zK];rfl
  rw[dg,m];exact zwo h b x W n W
theorem cr4(h:yD s)(d:Bool)(w:zJ)(z:X w<=2000)(n:Nat)(j:100<=n):∃r,em gv n (.h4 d w 0 (s,()))=M r/\zlw 200000 r:=by
 have G:=h.sh.cols.1;have F:=h.sh.key;refine dP (t:=gv) (β:=zJ) (X s.t.1) (λb i=>.h4 d b (i:Int) (s,())) (λb i=>X b<=2000+1100*i) _ 61 ?_ ?_ (X s.t.1) 0 w n rfl (aG _) (by simpa using z) W
 .intro x i o y;have C:=h.sh.cols.2 _ (bC o);have g:Y s.t.1 (i:Int).toNat (Q zn)=s.t.1[i]:=zX _ _ o;generalize s.t.1[i]=f at g C
  have c:((gv (.h4 d x (i:Int) (s,()))).val=if(bif !cf f.1 then O else bif T (LT.lt (α:=Int) f.2.1 1)then O else T (GT.gt (α:=Int) f.2.1 3))=O then M (.inr (.tup [.str [],.kb S],[]))else
    M (.inl (.h4 d ((ite (f.q=O) (x++(f.1++[32]++[[],DP,DQ,DO].getD (Z f.2.1) (Q Q6))++zlQ) (x++(f.1++[32]++[[],DP,DQ,DO].getD (Z f.2.1) (Q Q6))))++fP) ((i+1:Nat):Int) (s,()))))/\
    (¬(bif !cf f.1 then O else bif T (LT.lt (α:=Int) f.2.1 1)then O else T (GT.gt (α:=Int) f.2.1 3))=O->([[],DP,DQ,DO].getD (Z f.2.1) (Q Q6)).length<=4):=by
   have l:¬(bif !cf f.1 then O else bif T (LT.lt (α:=Int) f.2.1 1)then O else T (GT.gt (α:=Int) f.2.1 3))=O->zL f.2.1 4=O/\([[],DP,DQ,DO].getD (Z f.2.1) (Q Q6)).length<=4:=by
    intro a;have m:¬LT.lt (α:=Int) f.2.1 1:=by
     intro m;rw[zB m]at a;cases p:(!cf f.1)<;>rw[p]at a<;>exact a rfl
    have E:¬GT.gt (α:=Int) f.2.1 3:=by
     intro m;rw[zB m]at a;cases p:(!cf f.1)<;>rw[p]at a<;>cases e:T (LT.lt (α:=Int) f.2.1 1)<;>rw[e]at a<;>exact a rfl
    have e:@Eq Int f.2.1 1\/@Eq Int f.2.1 2\/@Eq Int f.2.1 3:=by omega
    rcases e with e|e|e<;>rw[e]<;>exact⟨rfl,by decide⟩
   refine⟨?_,λa=>(l a).2⟩;show(gv (.h4 _ _ _ _)).val=_;simp only[gv,Q8,g,zN o,zx o,cF (s:=f.1) W,zj];by_cases a:(bif !cf f.1 then O else bif T (LT.lt (α:=Int) f.2.1 1)then O else T (GT.gt (α:=Int) f.2.1 3))=O
   .rw[zf a,zf a]
   .have⟨A,B⟩:=l a;rw[zh a,zh a,zf (zB sg)];refine(zf A).trans ?_;generalize[[],DP,DQ,DO].getD (Z f.2.1) (Q Q6)=D at B;rw[zf (zB sg),zf (zB sg),zu i um];by_cases j:f.q=O
    .rw[zf j,zf j,zf (zB sg),zf (zB sg)]
    .rw[zh j,zh j,zf (zB sg)]
  have⟨c,v⟩:=c;by_cases a:(bif !cf f.1 then O else bif T (LT.lt (α:=Int) f.2.1 1)then O else T (GT.gt (α:=Int) f.2.1 3))=O
  .rw[zf a]at c;exact .inr ⟨_,c,[],S,rfl,sw⟩
  .rw[zh a]at c;have:=v a;generalize[[],DP,DQ,DO].getD (Z f.2.1) (Q Q6)=D at c this;refine .inl ⟨_,?_,c⟩;split<;>simp<;>omega
 .intro x n y j;obtain⟨n,rfl⟩:∃k,n=k+1:=⟨n-1,W⟩;have c:(gv (.h4 d x (X s.t.1:Int) (s,()))).val=M (.inl (.h15 d (x++(zlT++s.u.1++jm)) 0 (s,()))):=by
   show(gv (.h4 _ _ _ _)).val=_;simp only[gv,Q8,zK];rw[zh sw,zf (zB sg),zf (zB sg),zf (zB sg)]
  rw[dg,c];exact zwn h d _ sg n W
theorem O1(h:yD s):∃(x:zJ)(b:Bool),oZ s=M (x,b,())/\X x<=200000:=by
 have j:=h.sh.table;have i:=h.sh.key;have c:∃a,(Zk s).val=M (.inl (.h4 a (zdP++s.2.1++Cb) 0 (s,()))):=by
  refine⟨(cond (cf s.u.1) (cond (T (1<=(X s.t.1:Int))) (cond (T ((X s.t.1:Int)<=8)) (cond (T ((X s.v.1:Int)<=8)) (T ((X s.w.1:Int)<=8)) S) S) S) S),?_⟩;simp only[Zk,Q8,cF (s:=s.u.1) W,zj];rw[zf (zB sg),zf (zB sg)]
 have⟨a,c⟩:=c;have⟨r,d,x,b,e,g⟩:=cr4 h a (zdP++s.2.1++Cb) sg 100000000 W;refine⟨x,b,?_,g⟩;unfold oZ ap bV;rw[c];show(em gv 100000000 _).bind _=_;rw[d];exact e
theorem RQ(h:yD s):tK s=O/\(r8 s).1.length<=200000:=by have⟨c,b,x,a⟩:=O1 h;exact⟨by unfold tK;rw[x];rfl,by unfold r8;rw[x];exact a⟩
def zdt(o:Option (zF (List.map M [Q6,ay,Q7]))):Prop:=∃(t:zJ)(h:zO)(x:Bool),o=M (t,h,x,())/\X t<=900000/\Dr h
theorem zvT{r:aw}{t:zJ}{x:Bool}(d:(pO s).val=M (.inr r))(c:aZ r.2 [Q6,ay,Q7] r.1=M (t,b,x,()))(a:X t<=900000)(h:Dr b):zdt (fx s):=
 ⟨t,b,x,zQ d c,a,h⟩
abbrev gw:zg:=.mk [] (0,0,[]) [] []
theorem zab:ol 16 gw=O:=by decide+kernel
theorem gF{a:zO}(h:yD s)(g:a.r.1=s.r.1\/a.r.1=[])(i:a.t.1=s.t.1\/a.t.1=[])(j:a.v.1=s.v.1\/a.v.1=[])
  (l:a.w.1=s.w.1\/a.w.1=[]) (m:a.x.1=s.x.1\/a.x.1=gw) (c:a.y.1=s.y.1\/a.y.1=[])
  (b:a.z.1=s.z.1\/a.z.1=[]) (d:a.s.1=s.s.1\/a.s.1=gw):Dr a where
 names:=by have:=h.sh.names.1;rcases g with h|h<;>rw[h]<;>first|omega|simp
 cols:=by have:=h.sh.cols.1;rcases i with h|h<;>rw[h]<;>first|omega|simp
 uniques:=by have:=h.sh.uniques.1;rcases j with h|h<;>rw[h]<;>first|omega|simp
 refs:=by have:=h.sh.refs.1;rcases l with h|h<;>rw[h]<;>first|omega|simp
 row:=by have:=h.sh.row;rcases c with h|h<;>rw[h]<;>first|omega|simp
 sets:=by have:=h.sh.sets.1;rcases b with h|h<;>rw[h]<;>first|omega|simp
 chk:=by rcases m with k|k<;>rw[k];exact h.cchk;exact zab
 whr:=by rcases d with k|k<;>rw[k];exact h.cwhr;exact zab
 ex:=by
  rcases b with k|k<;>rw[k]
  .exact λx e=>(h.sets x e).2
  .intro x e;cases e
def U8(r:aw):Prop:=∃(t:zJ)(o:zO)(h:Bool),aZ r.2 [Q6,ay,Q7] r.1=M (t,o,h,())/\X t<=900000/\Dr o
theorem E1{r:aw}(t:zJ)(o:zO)(h:Bool)(x:aZ r.2 [Q6,ay,Q7] r.1=M (t,o,h,()))(a:X t<=900000)(b:Dr o):U8 r:=⟨t,o,h,x,a,b⟩
theorem zyR(h:yD s):∃r,em pk 100000000 (.h15 [] 0 (s,()) ([],[],[],[],[],0,0,[],[],[],0,0,[],[],[],()) (s.1,s.2.1,[],[],[],0,0,[],[],s.y.1,[],0,0,[],[],[],()))=M r/\U8 r:=by
 have w:=h.sh.row;have A:=h.sh.table;have a:Dr (s.1,s.2.1,[],[],[],[],[],[],gw,s.y.1,[],gw,[]):=gF h (.inr rfl) (.inr rfl) (.inr rfl) (.inr rfl) (.inr rfl) (.inl rfl) (.inr rfl) (.inr rfl);refine dP (t:=pk) (β:=zJ) (X s.y.1) (λb i=>.h15 b (i:Int) (s,()) ([],[],[],[],[],0,0,[],[],[],0,0,[],[],[],()) (s.1,s.2.1,[],[],[],0,0,[],[],s.y.1,[],0,0,[],[],[],())) (λb i=>X b<=400*i) _ 1 ?_ ?_ (X s.y.1) 0 [] 100000000 rfl (aG _) sw W
 .intro x i l o;have d:=h.row _ (bC l);have u:=Bc s.y.1[i];have g:Y s.y.1 (i:Int).toNat (Q R)=s.y.1[i]:=zX _ _ l;generalize s.y.1[i]=v at g d u
  have e:(pk (.h15 x (i:Int) (s,()) ([],[],[],[],[],0,0,[],[],[],0,0,[],[],[],()) (s.1,s.2.1,[],[],[],0,0,[],[],s.y.1,[],0,0,[],[],[],()))).val=if be v=O then M (.inl (.h15 ((ite ((i:Int)>0) (x++fP) x)++jd v) ((i+1:Nat):Int) (s,()) ([],[],[],[],[],0,0,[],[],[],0,0,[],[],[],()) (s.1,s.2.1,[],[],[],0,0,[],[],s.y.1,[],0,0,[],[],[],())))else
    M (.inr (.tup [.str [],aS s.1 s.2.1 [] .nils .nils [] .nils .nils zE (.sl R s.y.1) .nils zE [],.kb S],[])):=by
   show(pk (.h15 _ _ _ _ _)).val=_;simp only[pk,Q8,g,zN l,zx l,mE d.q,qa d.q,Jm d,OV d,zj];rw[zu i um];by_cases m:be v=O
   .rw[zh (by rw[m];simp),zf m];by_cases j:(i:Int)>0
    .rw[zf (zB j),zf j,zf (zB sg),zf (zB sg)]
    .rw[zh (by simpa using j),zh j,zf (zB W)]
   .rw[zf (by simpa using m),zh m];rfl
  by_cases m:be v=O
  .rw[zf m]at e;refine .inl ⟨_,?_,e⟩;split<;>simp<;>omega
  .rw[zh m]at e;exact .inr ⟨_,e,E1 [] _ S rfl sw a⟩
 .intro x n o z;obtain⟨n,rfl⟩:∃k,n=k+1:=⟨n-1,W⟩
  have e:∃b,(pk (.h15 x (X s.y.1:Int) (s,()) ([],[],[],[],[],0,0,[],[],[],0,0,[],[],[],()) (s.1,s.2.1,[],[],[],0,0,[],[],s.y.1,[],0,0,[],[],[],()))).val=
    M (.inr (.tup [.str (XV++s.2.1++zdN++x++jm),aS s.1 s.2.1 [] .nils .nils [] .nils .nils zE (.sl R s.y.1) .nils zE [],b],[]))/\(b=.kb S\/∃c,b=.bool c):=by
   show∃b,(pk (.h15 _ _ _ _ _)).val=_/\_;simp only[pk,Q8,zK];rw[zh sw,zf (zB sg),zf (zB sg),zf (zB sg),zf (zB sg)];split
   .exact⟨_,rfl,.inr ⟨_,rfl⟩⟩
   .exact⟨_,rfl,.inl rfl⟩
  have⟨b,e,p⟩:=e;rw[dg,e];rcases p with rfl|⟨c,rfl⟩
  .exact⟨_,rfl,E1 _ _ S rfl sg a⟩
  .exact⟨_,rfl,E1 _ _ c rfl sg a⟩
theorem zyS(h:yD s)(c:zJ)(j:Bool)(h8:X c<=30000):∃r,em pk 100000000 (.h27 c j [] 0 (s,()) ([],[],[],[],[],0,0,[],[],[],0,0,[],[],[],()) (s.1,s.2.1,[],[],[],0,0,[],[],s.z.1,s.s.1,[],()))=M r/\U8 r:=by
 have hl:=h.sh.sets.1;have ht:=h.sh.table;have d:Dr (s.1,s.2.1,[],[],[],[],[],[],gw,[],s.z.1,s.s.1,[]):=gF h (.inr rfl) (.inr rfl) (.inr rfl) (.inr rfl) (.inr rfl) (.inr rfl) (.inl rfl) (.inl rfl);generalize hZ:(([],[],[],[],[],0,0,[],[],[],0,0,[],[],[],()):zp jR)=a;generalize hU:((s.1,s.2.1,[],[],[],0,0,[],[],s.z.1,s.s.1,[],()):zp Qt)=V
 have p:∀(t:zJ)(o:Bool)(b:AV),(b=.bool o\/(b=.kb S/\o=S))->aZ [] [Q6,ay,Q7] (.tup [.str t,aS V.1 V.2.1 V.q.1 .nils .nils V.r.1 .nils .nils [I V.t.1,L V.u.1,L V.v.1,I V.w.1,I V.x.1,nils] .nils (.sl (Sh.str.pr Sh.expr) V.y.1) (xE V.z.1) V.s.1,b])=
   M (t,(s.1,s.2.1,[],[],[],[],[],[],gw,[],s.z.1,s.s.1,[]),o,()):=by
  intro t o b E;subst hU;have⟨s1,s2,s3,s4,s5,s6,s7,c,s9,h3,h4,⟨d1,d2,d3,d4⟩,h5⟩:=s;rcases E with rfl|⟨rfl,rfl⟩<;>rfl
 refine dP (t:=pk) (β:=zJ) (X s.z.1) (λb i=>.h27 c j b (i:Int) (s,()) a V) (λb i=>X b<=26000*i) _ 1 ?_ ?_ (X s.z.1) 0 [] 100000000 rfl (aG _) sw W
 .intro x i l hI;have⟨C,F⟩:=h.sets _ (bC l);have G:=h.sh.sets.2 _ (bC l);have g:Y s.z.1 (i:Int).toNat (Q jb)=s.z.1[i]:=zX _ _ l;generalize s.z.1[i]=v at g C F G;have e:(¬(cf v.1=O/\ea v.2=O)/\∃r,(pk (.h27 c j x (i:Int) (s,()) a V)).val=M (.inr r)/\U8 r)\/∃A:zJ,X A<=X x+26000/\(pk (.h27 c j x (i:Int) (s,()) a V)).val=M (.inl (.h27 c j A ((i+1:Nat):Int) (s,()) a V)):=by
   show(_/\∃r,(pk (.h27 _ _ _ _ _ _ _)).val=_/\_)\/∃A:zJ,_/\(pk (.h27 _ _ _ _ _ _ _)).val=_;simp only[pk,Q8,g,zo,zN l,zx l,cF (s:=v.1) W,oX C,tE C,zj,eY];have hg:(cond (!cf v.1) O O)=O:=by cases cf v.1<;>rfl
   rw[hg];by_cases m:cf v.1=O/\ea v.2=O
   .have⟨m1,P⟩:=m;have⟨t1,t2,t3⟩:=OX C P;refine .inr ⟨(ite ((i:Int)>0) (x++fP) x)++(v.1++zlP++bj 16 v.2),by split<;>simp<;>omega,?_⟩;simp only[m1,P,t1,t2,zj,cj,aJ,zD,zm];rw[zu i um];by_cases B:(i:Int)>0
    .rw[zf (zB B),zf B,zf (zB sg),zf (zB sg),zf (zB sg),zf (zB sg)]
    .rw[zh (by simpa using B),zh B,zf (zB sg),zf (zB sg),zf (zB sg)]
   .refine .inl ⟨m,?_⟩;have hc:(cond (!cf v.1) O (!ea v.2))=O:=by
     cases U:cf v.1
     .rfl
     .cases h2:ea v.2
      .rfl
      .exact zA ⟨U,h2⟩ m
    rw[zf rfl,zf hc];exact⟨_,rfl,E1 [] _ S (p [] S _ (.inr ⟨rfl,rfl⟩)) sw d⟩
  rcases e with⟨_,r,H,D⟩|⟨A,H,D⟩
  .exact .inr ⟨r,H,D⟩
  .exact .inl ⟨A,W,D⟩
 .intro x n hI hn;obtain⟨n,rfl⟩:∃k,n=k+1:=⟨n-1,W⟩
  have e:∃b o,(pk (.h27 c j x (X s.z.1:Int) (s,()) a V)).val=
    M (.inr (.tup [.str (XY++s.2.1++zdM++x++c),aS V.1 V.2.1 V.q.1 .nils .nils V.r.1 .nils .nils [I V.t.1,L V.u.1,L V.v.1,I V.w.1,I V.x.1,nils] .nils (.sl (Sh.str.pr Sh.expr) V.y.1) (xE V.z.1) V.s.1,b],[]))/\(b=.bool o\/(b=.kb S/\o=S)):=by
   show∃b o,(pk (.h27 _ _ _ _ _ _ _)).val=_/\_;simp only[pk,Q8,zK];rw[zh sw,zf (zB sg),zf (zB sg),zf (zB sg),zf (zB sg)];split
   .split
    .exact⟨_,_,rfl,.inl rfl⟩
    .exact⟨_,S,rfl,.inr ⟨rfl,rfl⟩⟩
   .exact⟨_,S,rfl,.inr ⟨rfl,rfl⟩⟩
  have⟨b,o,e,E⟩:=e;rw[dg,e];exact⟨_,rfl,E1 _ _ o (p _ o b E) sg d⟩
theorem wrP(h:yD s):(qn s.x.1 []=O/\wa s.x.1 []=(nP [] s.x.1,cZ s.x.1)/\(nP [] s.x.1).length<=30000)/\
  (qn s.s.1 mV=O/\wa s.s.1 mV=(nP mV s.s.1,cZ s.s.1)/\(nP mV s.s.1).length<=30000)/\
  s.2.1.length<=1000/\X s.p<=1000/\X s.q.1<=1000/\X s.u.1<=1000:=
 ⟨Ga h.chk h.cchk sw,Ga h.whr h.cwhr sw,h.sh.table,h.sh.role,h.sh.other,h.sh.key⟩
def Su(s:zO):zJ:=XW++s.2.1++mi++s.q.1++Cb++Lib.join s.r.1 fP++jm++nP [] s.x.1
def mA(s:zO):Bool:=(T (∀x∈s.r.1,az x=O)&&(T (1<=X s.r.1)&&T (X s.r.1<=8)))&&(cZ s.x.1&&az s.q.1)
theorem UK(h:yD s)(o:s.1=dI):∃t,fx s=M (t,(s.1,s.2.1,s.q.1,s.r.1,[],[],[],[],s.x.1,[],[],gw,[]),mA s,())/\X t<=900000/\(mA s=O->t=Su s):=by
 have⟨⟨j,k,U⟩,⟨m,d2,d3⟩,ht,hr,ho,c⟩:=wrP h;have⟨w,y,z,A,B,C,_,_,_,_,D⟩:=zff o;have⟨t,n,n2,p⟩:=R1 (l:=s.r.1) (by have:=h.sh.names.1;omega) h.sh.names.2;have u:Gb s.r.1=O:=by unfold Gb;rw[n];rfl
 have v:LG s.r.1=(t,(T (∀x∈s.r.1,az x=O)&&(T (1<=X s.r.1)&&T (X s.r.1<=8)))):=by unfold LG;rw[n];rfl
 have H:=cF (s:=s.q.1) W;have P:=fT (s:=s.q.1) W;refine⟨XW++s.2.1++mi++s.q.1++Cb++t++jm++nP [] s.x.1,?_,sg,?_⟩
 .have d:∃b,(pO s).val=M (.inr (.tup [.str (XW++s.2.1++mi++s.q.1++Cb++t++jm++nP [] s.x.1),aM s (.sl Q6 s.r.1) [] [],b],[]))/\(b=.bool (mA s)\/(b=.kb S/\mA s=S)):=by
   unfold mA;simp only[pO,Q8,zo,j,m,w,y,z,A,B,C,D,u,v,k,H,P,zj,zD,zm]
   iterate 7 rw[zf (zB sg)]
   generalize(T (∀x∈s.r.1,az x=O)&&(T (1<=X s.r.1)&&T (X s.r.1<=8)))=g;generalize cZ s.x.1=i;cases g
   .exact⟨_,rfl,.inr ⟨rfl,rfl⟩⟩
   .cases i
    .exact⟨_,rfl,.inr ⟨rfl,rfl⟩⟩
    .exact⟨_,rfl,.inl rfl⟩
  have⟨b,d,e⟩:=d;refine zQ d ?_;clear d;have⟨s1,s2,s3,s4,s5,s6,s7,s8,⟨f1,f2,f3,f4⟩,E,F,⟨g1,g2,g3,g4⟩,G⟩:=s;rcases e with rfl|⟨rfl,e⟩
  .rfl
  .rw[e];rfl
 .intro c;have a:∀x∈s.r.1,az x=O:=by
   unfold mA at c;simp only[aN,aY]at c;exact c.1.1
  rw[p a];rfl
def sC(s:zO):zJ:=zlV++s.2.1++mi++s.q.1++fP++s.p++Cc++s.u.1++nP [] s.x.1
def pW(s:zO):Bool:=cZ s.x.1&&(az s.q.1&&(az s.p&&az s.u.1))
theorem UL(h:yD s)(o:s.1=ic):fx s=M (sC s,(s.1,s.2.1,s.q.1,[],[],s.u.1,[],[],s.x.1,[],[],gw,s.p),pW s,())/\(sC s).length<=900000:=by
 have⟨⟨i,j,c3⟩,⟨k,d2,d3⟩,ht,hr,ho,hk⟩:=wrP h;have⟨l,m,n,v,w,y,_,_,_,_,z,A⟩:=zfg o;have E:=cF (s:=s.q.1) W;have F:=fT (s:=s.q.1) W;have G:=cF (s:=s.p) W;have H:=fT (s:=s.p) W;have P:=cF (s:=s.u.1) W;have U:=fT (s:=s.u.1) W;refine⟨?_,by unfold sC;simp;omega⟩;have a:∃b,(pO s).val=M (.inr (.tup [.str (sC s),aM s .nils s.u.1 s.p,b],[]))/\(b=.bool (pW s)\/(b=.kb S/\pW s=S)):=by
  unfold pW sC;simp only[pO,Q8,zo,i,k,l,m,n,v,w,y,z,A,j,E,F,G,H,P,U,zj,zD,zm]
  iterate 8 rw[zf (zB sg)]
  generalize cZ s.x.1=d;generalize az s.q.1=e;generalize az s.p=g;cases d
  .exact⟨_,rfl,.inr ⟨rfl,rfl⟩⟩
  .cases e
   .exact⟨_,rfl,.inr ⟨rfl,rfl⟩⟩
   .cases g
    .exact⟨_,rfl,.inr ⟨rfl,rfl⟩⟩
    .exact⟨_,rfl,.inl rfl⟩
 have⟨b,a,c⟩:=a;refine zQ a ?_;clear a;generalize sC s=tx;have⟨s1,s2,s3,s4,s5,s6,s7,s8,⟨f1,f2,f3,f4⟩,B,C,⟨g1,g2,g3,g4⟩,D⟩:=s;rcases c with rfl|⟨rfl,c⟩
 .rfl
 .rw[c];rfl
def nI(s:zO):zJ:=zlU++s.2.1++mi++s.q.1++Vg++s.r.1.getD 0 []++Vh++s.r.1.getD 1 []++nP [] s.x.1
def iK(s:zO):Bool:=T (X s.r.1=2)&&(cZ s.x.1&&(az s.q.1&&(az (s.r.1.getD 0 [])&&az (s.r.1.getD 1 []))))
theorem PN(h:yD s)(o:s.1=qD):∃t,fx s=M (t,(s.1,s.2.1,s.q.1,s.r.1,[],[],[],[],s.x.1,[],[],gw,[]),iK s,())/\X t<=900000/\(iK s=O->t=nI s):=by
 have⟨⟨F,G,c3⟩,⟨H,d2,d3⟩,ht,hr,ho,hk⟩:=wrP h;have⟨q0,q1,q2,q3,q4,q5,_,_,_,_,q6,q7,q8⟩:=zaC o;have w1:=cF (s:=s.q.1) W;have w2:=fT (s:=s.q.1) W;by_cases a:X s.r.1=2
 .have v:((X s.r.1:Int)!=2)=S:=by rw[a];rfl
  have n0:(s.r.1.getD 0 []).length<=1000:=by
   rw[bz,af W,bI];exact h.sh.names.2 _ (bC _)
  have n:(s.r.1.getD 1 []).length<=1000:=by
   rw[bz,af W,bI];exact h.sh.names.2 _ (bC _)
  have p:zL 0 (X s.r.1)=O:=by rw[a];rfl
  have u:zL 1 (X s.r.1)=O:=by rw[a];rfl
  have l:Y s.r.1 (Z 0) (Q Q6)=s.r.1.getD 0 []:=rfl;have g:Y s.r.1 (Z 1) (Q Q6)=s.r.1.getD 1 []:=rfl;have w:=cF (s:=s.r.1.getD 0 []) W;have y:=fT (s:=s.r.1.getD 0 []) W;have z:=cF (s:=s.r.1.getD 1 []) W;have A:=fT (s:=s.r.1.getD 1 []) W;refine⟨nI s,?_,by unfold nI;simp at n0 n|-;omega,λ_=>rfl⟩;have d:∃b,(pO s).val=M (.inr (.tup [.str (nI s),aM s (.sl Q6 s.r.1) [] [],b],[]))/\(b=.bool (iK s)\/(b=.kb S/\iK s=S)):=by
   unfold iK nI;rw[zB a];simp only[pO,Q8,zo,F,H,q0,q1,q2,q3,q4,q5,q6,q7,q8,G,w1,w2,l,g,w,y,z,A,v,p,u,zj,zD,zm];generalize s.r.1.getD 0 []=B at n0;generalize s.r.1.getD 1 []=a1 at n
   iterate 8 rw[zf (zB sg)]
   generalize cZ s.x.1=C;generalize az s.q.1=D;generalize az B=E;cases C
   .exact⟨_,rfl,.inr ⟨rfl,rfl⟩⟩
   .cases D
    .exact⟨_,rfl,.inr ⟨rfl,rfl⟩⟩
    .cases E
     .exact⟨_,rfl,.inr ⟨rfl,rfl⟩⟩
     .exact⟨_,rfl,.inl rfl⟩
  have⟨b,d,e⟩:=d;refine zQ d ?_;clear d;generalize nI s=tx;clear n0 n p u l g w y z A;have⟨s1,s2,s3,s4,s5,s6,s7,s8,⟨P,U,f3,f4⟩,i,j,⟨g,g2,g3,g4⟩,k⟩:=s;rcases e with rfl|⟨rfl,e⟩
  .rfl
  .rw[e];rfl
 .have v:((X s.r.1:Int)!=2)=O:=by
   simp only[bne_iff_ne];omega
  have c:iK s=S:=by unfold iK;rw[aB a];rfl
  refine⟨[],?_,sw,λm=>by rw[c]at m;cases m⟩;rw[c];refine zQ (r:=(.tup [.str [],aM s (.sl Q6 s.r.1) [] [],.kb S],[])) ?_ ?_
  .simp_all[pO,Q8,zo]
  .have⟨s1,s2,s3,s4,s5,s6,s7,s8,⟨P,U,f3,f4⟩,i,j,⟨g,g2,g3,g4⟩,k⟩:=s;rfl
theorem mb(h:∃r,(pO s).val=M (.inr r)/\U8 r):zdt (fx s):=by have⟨r,x,t,o,d,a,b,c⟩:=h;exact zvT x a b c
theorem G2{x:Dy}(d:(pO s).val=M (.inl x))(h:∃r,em pk 100000000 x=M r/\U8 r):zdt (fx s):=by have⟨r,h,t,o,c,e,a,b⟩:=h;refine⟨t,o,c,?_,a,b⟩;grind[fx,ap,bV]
theorem R2(h:yD s):zdt (fx s):=by
 by_cases n6:s.1=dI
 .have⟨t,a,b,_⟩:=UK h n6;exact⟨t,_,_,a,b,gF h (.inl rfl) (.inr rfl) (.inr rfl) (.inr rfl) (.inl rfl) (.inr rfl) (.inr rfl) (.inr rfl)⟩
 by_cases n7:s.1=ic
 .have⟨a,b⟩:=UL h n7;exact⟨_,_,_,a,b,gF h (.inr rfl) (.inr rfl) (.inr rfl) (.inr rfl) (.inl rfl) (.inr rfl) (.inr rfl) (.inr rfl)⟩
 by_cases n8:s.1=qD
 .have⟨t,a,b,_⟩:=PN h n8;exact⟨t,_,_,a,b,gF h (.inl rfl) (.inr rfl) (.inr rfl) (.inr rfl) (.inl rfl) (.inr rfl) (.inr rfl) (.inr rfl)⟩
 have⟨⟨c,c2,c3⟩,⟨d,D,d3⟩,ht,hr,ho,hk⟩:=wrP h;have q6:¬(s.1==dI)=O:=λe=>n6 (bX e)
 have q7:¬(s.1==ic)=O:=λe=>n7 (bX e)
 have q8:¬(s.1==qD)=O:=λe=>n8 (bX e)
 by_cases g:(s.1==Qm)=O
 .refine mb ?_;simp only[pO,Q8,zo,c,d,g,zj];have⟨e1,e2⟩:=RQ h;have es:tK (s.1,s.2.1,s.q.1,s.r.1,s.t.1,s.u.1,s.v.1,s.w.1,s.x.1,s.y.1,s.z.1,s.s.1,s.p)=O:=e1;rw[zf es];refine⟨_,rfl,E1 (r8 s).1 (s.1,s.2.1,[],[],s.t.1,s.u.1,s.v.1,s.w.1,s.x.1,[],[],gw,[]) (r8 s).2 ?_ W (gF h (.inr rfl) (.inl rfl) (.inl rfl) (.inl rfl) (.inl rfl) (.inr rfl) (.inr rfl) (.inr rfl))⟩;have⟨s1,s2,s3,s4,s5,s6,s7,s8,⟨E,F,G,H⟩,i,j,⟨P,U,g3,g4⟩,k⟩:=s;rfl
 by_cases l:(s.1==bl1)=O
 .refine mb ?_;simp only[pO,Q8,zo,c,d,g,l,zj,zD,zm];rw[zf (zB sg)];exact⟨_,rfl,E1 _ (s.1,s.2.1,[],[],[],[],[],[],gw,[],[],gw,[]) O rfl sg (gF h (.inr rfl) (.inr rfl) (.inr rfl) (.inr rfl) (.inr rfl) (.inr rfl) (.inr rfl) (.inr rfl))⟩
 by_cases A:(s.1==bl3)=O
 .refine G2 ?_ (zyR h);simp_all[pO,Q8,zo]
 by_cases B:(s.1==M8)=O
 .refine G2 ?_ (zyS h (nP mV s.s.1) (cZ s.s.1) d3);simp_all[pO,Q8,zo]
 by_cases C:(s.1==bl0)=O
 .refine mb ?_;simp only[pO,Q8,zo,c,d,g,l,A,B,C,zj,zD,zm];rw[D,zf (zB sg),zf (zB sg)];refine⟨_,rfl,E1 (zdR++s.2.1++nP mV s.s.1) (s.1,s.2.1,[],[],[],[],[],[],gw,[],[],s.s.1,[]) (cZ s.s.1) ?_ ?_ (gF h (.inr rfl) (.inr rfl) (.inr rfl) (.inr rfl) (.inr rfl) (.inr rfl) (.inr rfl) (.inl rfl))⟩;rotate_left 2
  .have⟨s1,s2,s3,s4,s5,s6,s7,s8,⟨E,F,G,H⟩,i,j,⟨P,U,g3,g4⟩,k⟩:=s;rfl
  .simp;omega
 by_cases q5:(s.1==Ka)=O
 .refine mb ?_;simp only[pO,Q8,zo,c,d,g,l,A,B,C,q5,zj,zD,zm];rw[D,zf (zB sg),zf (zB sg)];refine⟨_,rfl,E1 (zd0++s.2.1++nP mV s.s.1) (s.1,s.2.1,[],[],[],[],[],[],gw,[],[],s.s.1,[]) (cZ s.s.1) ?_ ?_ (gF h (.inr rfl) (.inr rfl) (.inr rfl) (.inr rfl) (.inr rfl) (.inr rfl) (.inr rfl) (.inl rfl))⟩;rotate_left 2
  .have⟨s1,s2,s3,s4,s5,s6,s7,s8,⟨E,F,G,H⟩,i,j,⟨P,U,g3,g4⟩,k⟩:=s;rfl
  .simp;omega
 by_cases q9:(s.1==bl9)=O;rotate_left;by_cases m:(s.1==P9)=O;rotate_left;by_cases n:(s.1==P7)=O;rotate_left;by_cases o:(s.1==P8)=O;rotate_left
 .refine mb ?_;simp only[pO,Q8,zo,c,d,g,l,A,B,C,q5,q6,q7,q8,q9,m,n,o,zj,zD,zm];exact⟨_,rfl,E1 _ (s.1,s.2.1,[],[],[],[],[],[],gw,[],[],gw,[]) S rfl sw (gF h (.inr rfl) (.inr rfl) (.inr rfl) (.inr rfl) (.inr rfl) (.inr rfl) (.inr rfl) (.inr rfl))⟩
 all_goals
  refine mb ?_;simp only[pO,Q8,zo, *,zj,zD,zm];rw[zf (zB sg),zf (zB sg),zf (zB sg),zf (cF (s:=s.p) W)];exact⟨_,rfl,E1 _ (s.1,s.2.1,[],[],[],[],[],[],gw,[],[],gw,s.p) (cf s.p) rfl sg (gF h (.inr rfl) (.inr rfl) (.inr rfl) (.inr rfl) (.inr rfl) (.inr rfl) (.inr rfl) (.inr rfl))⟩
theorem zi0(p:Int->Bool):∀s:zJ,dR p s=X s↔∀c∈s,p c.toNat=O
 |[]=>by simp[dR]
 | c::r=>by
  have a:=CH p r;have x:=zi0 p r;rw[dR];by_cases h:p c.toNat=O
  .rw[zf h];simp[h,x]
  .rw[zh h];simp[h]
theorem zyE(p:Int->Bool)(s:zJ):bH p p s=X s↔∀c∈s,p c.toNat=O:=by
 cases s with
 |nil=>simp[bH]
 | cons c r=>
  have a:=CH p r;have x:=zi0 p r;rw[bH];by_cases h:p c.toNat=O
  .rw[zf h];simp[h,x]
  .rw[zh h];simp[h]
theorem zfJ:∀s:zJ,(cond ((X s:Int)==1) (T (0<=Lib.indexByte zlR (List.headD s 0))) S)=
  (cond (s==[40]) O (cond (s==[41]) O (cond (s==[44]) O (cond (s==[61]) O (cond (s==[60]) O (cond (s==[43]) O (cond (s==[45]) O (s==[42]))))))))
 |[]=>rfl
 | a::b::r=>by
  have e:((((a::b::r).length:Nat):Int)==1)=S:=dX.2 sg;rw[e];simp
 | [c]=>by
  by_cases h:c=40
  .subst h;rfl
  by_cases x:c=41
  .subst x;rfl
  by_cases d:c=44
  .subst d;rfl
  by_cases g:c=61
  .subst g;rfl
  by_cases i:c=60
  .subst i;rfl
  by_cases j:c=43
  .subst j;rfl
  by_cases k:c=45
  .subst k;rfl
  by_cases l:c=42
  .subst l;rfl
  simp[Lib.indexByte,h,x,d,g,i,j,k,l,Ne.symm h,Ne.symm x,Ne.symm d,Ne.symm g,Ne.symm i,Ne.symm j,Ne.symm k,Ne.symm l]
variable {t:dB}
theorem O9(x:X t.2<=1000000):Ly t=M (dJ t,()):=by
 have⟨k,s⟩:=t;have x:X s<=1000000:=x;by_cases m:k=(1:Int)
 .subst m;refine zQ (r:=(.bool (eU s),[])) ?_ ?_
  .simp only[N2,Q8,AW x,F2 x];rfl
  .rfl
 by_cases n:k=(2:Int)
 .subst n;have a:(N2 ((2,s):dB)).val=M (.inl (.h6 ((0:Nat):Int) ((2,s),()))):=rfl;have E:=nL (t:=yj) (Φ:=λr=>r=(.kb S,[])) 1 (λi=>.h6 (i:Int) ((2,s),())) (λi=>aC (Y s i 0).toNat=O) (X s) (by
   intro i a _;have w:(yj (.h6 (i:Int) ((2,s),()))).val=if(!aC (Y s i 0).toNat)=O then M (.inr (.kb S,[]))else M (.inl (.h6 ((i+1:Nat):Int) ((2,s),()))):=by
    show(yj (.h6 _ _)).val=_;unfold yj;simp only[Q8,zN a,zx a,aH,kf,lW,zj];rw[zu i um]
   by_cases h:aC (Y s i 0).toNat=O
   .exact .inl ⟨h,zH.of (by rw[w,zh (by rw[h];simp)])⟩
   .exact .inr ⟨h,_,zU.of (by rw[w,zf (by simpa using h)]),rfl⟩)
  have q:=aO (l:=s) (d:=0) (Q:=λc=>aC c.toNat=O);have u:=zyE aC s;have j:dJ ((2,s):dB)=(cond (T ((X s:Int)>=1)) (cond (T ((X s:Int)<=19)) ((bH aC aC s:Int)==(X s:Int)) S) S):=rfl;rw[j];rcases E with⟨b,g⟩|⟨b,r,g,rfl⟩
  .have e:((bH aC aC s:Int)==(X s:Int))=O:=by rw[u.2 (q.1 b)];simp
   rw[e];refine zz a (g.ends (zU.of (r:=(.bool (cond (T (1<=(X s:Int))) (T ((X s:Int)<=19)) S),[])) ?_)) W ?_
   .show(yj (.h6 _ _)).val=_;unfold yj;simp only[Q8,zK];rfl
   .show M _=M _;rw[show T ((X s:Int)>=1)=T (1<=(X s:Int))from rfl];cases T ((X s:Int)<=19)<;>rfl
  .have e:((bH aC aC s:Int)==(X s:Int))=S:=by
    rw[dX];intro h;exact b (q.2 (u.1 W))
   rw[e];refine zz a g W ?_;show M _=M _;cases T ((X s:Int)>=1)<;>cases T ((X s:Int)<=19)<;>rfl
 by_cases y:k=(3:Int)
 .subst y;refine zQ (r:=(.bool (be (2,0,s)),[])) ?_ ?_
  .simp only[N2,Q8,mE (v:=(2,0,s)) x,qa (v:=(2,0,s)) x];rfl
  .rfl
 by_cases z:k=(4:Int)
 .subst z;have F:=zfJ s;refine zQ (r:=(.bool _,[])) rfl ?_;show M _=M _;rw[show dJ ((4,s):dB)=_ from F]
 have A:(k==1)=S:=dX.2 m;have B:(k==2)=S:=dX.2 n;have o:(k==3)=S:=dX.2 y;have p:(k==4)=S:=dX.2 z;have C:((1:Int)==k)=S:=dX.2 (Ne.symm m);have D:((2:Int)==k)=S:=dX.2 (Ne.symm n);have j:dJ ((k,s):dB)=S:=by
  unfold dJ;simp[o,p,C,D]
 rw[j];refine zQ (r:=(.kb S,[])) ?_ rfl;simp only[N2,Q8,A,B,o,p];rfl
theorem xH(h:X t.2<=1000000):nW t=O:=by unfold nW;rw[O9 h];rfl
theorem C8(h:X t.2<=1000000):uT t=dJ t:=by unfold uT;rw[O9 h];rfl
abbrev wm:=dK
abbrev hd3(s:zJ)(i:Int)(o:wm):kz:=.h3 s i o
abbrev Zg(s:zJ)(i c f:Int)(z:zp [CP.d zG])(o:wm):kz:=.h11 s i c f z o
abbrev Zh(s:zJ)(i c f:Int)(z:zp [CP.d zG])(o:wm):kz:=.h15 s i c f z o
abbrev Ri(s:zJ)(i:Int)(z:zp [CP.d zG])(o:wm):kz:=.h20 s i z o
abbrev rNo:aw:=(.tup [.nils,.kb S],[])
def Xy(r:aw)(b:Bool):Prop:=∃l,aZ r.2 [Sh.sl zG,Q7] r.1=M (l,b,())
theorem zbg:Xy rNo S:=⟨[],rfl⟩
def P2(s:zJ)(j:Nat)(t:dB)(o:wm):kz⊕aw:=if dJ t=O then .inl (hd3 s (j:Int) (o++[t]))else .inr rNo
variable {j:Nat}
theorem yp(s:zJ)(h:j<X s):Qg (((j+1:Nat):Int).toNat-(j:Int).toNat) (Qh (j:Int).toNat s)=[s[j]]:=by rw[aH,aH,show j+1-j=1 by omega,il h];rfl
theorem v20{acc:zJ}(E:X w<=1000000)(a:j<X w)(s:X acc<=1000000):∀{o:wm},X o<=1000000->(iF (Ri w (j:Int) ((3,acc),()) o)).val=M (
  if w[j]≠39 then .inl (Ri w ((j+1:Nat):Int) ((3,acc++[w[j]]),()) o)
  else if w[j+1]?=M 39 then .inl (Ri w ((j+2:Nat):Int) ((3,acc++[39]),()) o)
  else P2 w (j+1) (3,acc) o):=by
 intro o C;have l:Γ Δ ((j:Int)+1)=((j+1:Nat):Int):=zu j um;have n:Γ Δ (((j+1:Nat):Int)+1)=((j+2:Nat):Int):=zu (j+1) um;have p:(T (0<=(j:Int))&&T ((j:Int)<=((j+1:Nat):Int))&&T (((j+1:Nat):Int)<=(X w:Int)))=O:=by simp;omega
 have D:T ((X w:Int)<=(j:Int))=S:=aB W;have A:T ((j:Int)>=(X w:Int))=S:=aB W;have B:uT ((3,acc):cy)=dJ ((3,acc):dB):=C8 (t:=((3,acc):dB)) s;have i:nW ((3,acc):cy)=O:=xH (t:=((3,acc):dB)) s;have q:(X acc+[w[j]].length<=1099511627776):=by simp;omega
 by_cases c:w[j]=39
 .have b:((↑w[j].toNat:Int)!=39)=S:=by simp[bne,ul.2 c]
  have d:((↑w[j].toNat:Int)==39)=O:=ul.2 c;by_cases g:w[j+1]?=M 39
  .have⟨x,v⟩:=dF.1 g;have u:((↑w[j+1].toNat:Int)==39)=O:=ul.2 v;have y:T (((j+1:Nat):Int)<(X w:Int))=O:=zB W;rw[zh (by simpa using c),zf g];show(iF (.h20 _ _ _ _)).val=_;simp only[iF,l,n,iA w a,yp w a,zN a,zx a,zx x,y,b,d,u,iA w x,Q8,aI,aJ,eY,zj,p,zB q];rw[c]
  .rw[zh (by simpa using c),zh g];have e:(cond (T (((j+1:Nat):Int)<(X w:Int))) ((↑(Y w ((j+1:Nat):Int).toNat 0).toNat:Int)==39) S)=S:=by
    by_cases x:j+1<X w
    .rw[zB W,iA w x];simp only[aI];rw[<-iW,ul];intro h;exact g (dF.2 ⟨x,h⟩)
    .rw[aB W];rfl
   have z:(cond (T (((j+1:Nat):Int)<(X w:Int))) (zL ((j+1:Nat):Int) (X w)) O)=O:=by
    by_cases x:j+1<X w
    .rw[zx x];cases T (((j+1:Nat):Int)<(X w:Int))<;>rfl
    .rw[aB W];rfl
   unfold P2;have k:(X o+[((3,acc):cy)].length<=1073741824):=by have:X o<=1000000:=C;simp;omega
   show(iF (.h20 _ _ _ _)).val=_;simp only[iF,l,n,iA w a,yp w a,zN a,zx a,b,d,e,z,Q8,aI,aJ,eY,zj,zD,zm,A,i,B,zB k];by_cases m:dJ ((3,acc):dB)=O
   .simp[m]
   .simp[m]
 .have b:((↑w[j].toNat:Int)!=39)=O:=by simp only[bne,uB];rw[<-iW,ul];exact c
  have d:((↑w[j].toNat:Int)==39)=S:=by rw[<-iW,ul];exact c
  rw[zf c];show(iF (.h20 _ _ _ _)).val=_;simp only[iF,l,n,iA w a,yp w a,zN a,zx a,b,d,Q8,aI,eY,zj,zD,zm,p,zB q]
theorem zyQ{d:zJ}:∀{o:wm},(iF (Ri w (X w:Int) ((3,d),()) o)).val=M (.inr rNo):=by intro o;have g:T ((X w:Int)>=(X w:Int))=O:=zB (Int.le_refl _);show(iF (.h20 _ _ _ _)).val=_;simp only[iF,zK,Q8,aJ,zj,zD,zm,g]
theorem l20{w:zJ}{o:wm}(p:X w<=1000000)(q:X o<=1000000):∀(n j:Nat)(acc:zJ),X w-j<=n->j<=X w->X acc<=j->
  (fU (w.drop j)=Q2->zU iF (n+1) (Ri w (j:Int) ((3,acc),()) o) rNo)/\
  (∀t k,fU (w.drop j)=M (t,k)->∀K r,(match P2 w (j+k) (3,acc++t) o with|.inl h=>zU iF K h r|.inr y=>y=r)->zU iF (K+k) (Ri w (j:Int) ((3,acc),()) o) r)
 | n, j,acc,C,B,A=>by
  by_cases e:j<X w
  .have x:=v20 (o:=o) (acc:=acc) p e W q;rw[il e];by_cases c:w[j]=39
   .rw[zh (by simpa using c)]at x;by_cases g:w[j+1]?=M 39
    .rw[zf g]at x;have⟨l,z⟩:=dF.1 g;obtain⟨n,rfl⟩:∃m,n=m+1:=⟨n-1,W⟩;have⟨s,u⟩:=l20 p q n (j+2) (acc++[39]) W W sg;rw[il l,c,z,Py,show j+1+1=j+2 from rfl];refine⟨λh=>?_,λt k h K r a=>?_⟩
     .rw[Option.map_eq_none_iff]at h;exact((zH.of x).ends (s h))
     .rw[dW]at h;have⟨⟨v,b⟩,i,d⟩:=h;simp only[cO]at d;obtain⟨rfl,rfl⟩:=d;have:=u v b i K r (by rw[M1];rw[show j+2+b=j+(b+2) by omega];exact a);exact((zH.of x).ends this).mono W
    .rw[zh g]at x;rw[c,Gy _ (by rw[List.head?_drop];exact g)];refine⟨λh=>(by cases h),λt k h K r a=>?_⟩;simp only[bG,cO]at h;obtain⟨rfl,rfl⟩:=h;rw[wo]at a;revert x a;cases P2 w (j+1) (3,acc) o with
     |inl h=>intro x a;exact(zH.of x).ends a
     |inr y=>intro x a;cases a;exact(zU.of x).mono W
   .rw[zf c]at x;obtain⟨n,rfl⟩:∃m,n=m+1:=⟨n-1,W⟩;have⟨s,u⟩:=l20 p q n (j+1) (acc++[w[j]]) W W sg;rw[JF c];refine⟨λh=>?_,λt k h K r a=>?_⟩
    .rw[Option.map_eq_none_iff]at h;exact((zH.of x).ends (s h))
    .rw[dW]at h;have⟨⟨v,b⟩,i,d⟩:=h;simp only[cO]at d;obtain⟨rfl,rfl⟩:=d;have:=u v b i K r (by rw[M1];rw[show j+1+b=j+(b+1) by omega];exact a);exact((zH.of x).ends this).mono W
  .obtain rfl:j=X w:=by omega
   rw[kD];exact⟨λ_=>(zU.of zyQ).mono W,λt k h=>(by simp[fU]at h)⟩
variable {z:zp [CP.d zG]}
theorem zyN{c f:Int}(x:X w<=1000000)(h:j<X w)(a:cw w[j].toNat=O):∀{o:wm},(iF (Zg w (j:Int) c f z o)).val=M (.inl (Zg w ((j+1:Nat):Int) c f z o)):=by grind[zu,aD,Q8,iF,AX,F5,zx]
variable {c:UInt8}
theorem zyM{f:Nat}(u:X w<=1000000)(s:j<=X w)(q:f<=j)(v:∀h:j<X w,cw w[j].toNat=S)(i:aC c.toNat=S)(k:c≠39):
  ∀{o:wm},X o<=1000000->(iF (Zg w (j:Int) (c.toNat:Int) (f:Int) z o)).val=M (P2 w j (1,Qg (j-f) (Qh f w)) o):=by
 intro o n;have e:(cond (T ((j:Int)<(X w:Int))) (zL (j:Int) (X w)&&xK (↑(Y w (j:Int).toNat 0).toNat:Int)) O)=O:=by
  by_cases h:j<X w
  .grind[zx,AX]
  .rw[aB W];rfl
 have a:(cond (T ((j:Int)<(X w:Int))) (F4 (↑(Y w (j:Int).toNat 0).toNat:Int)) S)=S:=by
  by_cases h:j<X w
  .grind[F5]
  .rw[aB W];rfl
 have g:(T (0<=(f:Int))&&T ((f:Int)<=(j:Int))&&T ((j:Int)<=(X w:Int)))=O:=by simp;omega
 have b:((c.toNat:Int)==39)=S:=by rw[<-iW,ul];exact k
 have x:(Qg (j-f) (Qh f w)).length<=1000000:=by simp;omega
 have p:uT ((1,Qg (j-f) (Qh f w)):cy)=dJ (1,Qg (j-f) (Qh f w)):=C8 (t:=((1,Qg (j-f) (Qh f w)):dB)) x;have l:nW ((1,Qg (j-f) (Qh f w)):cy)=O:=xH (t:=((1,Qg (j-f) (Qh f w)):dB)) x;unfold P2;have m:(X o+[((1,Qg (j-f) (Qh f w)):cy)].length<=1073741824):=by have:X o<=1000000:=n;simp;omega
 show(iF (.h11 _ _ _ _ _ _)).val=_;simp only[iF,e,a,g,kf,lW,i,b,Q8,zj,zD,zm];grind
theorem zyP{c f:Int}(x:X w<=1000000)(h:j<X w)(a:aC w[j].toNat=O):∀{o:wm},(iF (Zh w (j:Int) c f z o)).val=M (.inl (Zh w ((j+1:Nat):Int) c f z o)):=by grind[zu,aD,Q8,iF,kf,lW,zx]
theorem zyO{f:Nat}(s:X w<=1000000)(q:j<=X w)(p:f<=j)(u:∀h:j<X w,aC w[j].toNat=S)(l:c≠39):
  ∀{o:wm},X o<=1000000->(iF (Zh w (j:Int) (c.toNat:Int) (f:Int) z o)).val=M (P2 w j (2,Qg (j-f) (Qh f w)) o):=by
 intro o n;have g:(cond (T ((j:Int)<(X w:Int))) (zL (j:Int) (X w)&&kM (↑(Y w (j:Int).toNat 0).toNat:Int)) O)=O:=by
  by_cases h:j<X w
  .grind[zx,kf]
  .rw[aB W];rfl
 have i:(cond (T ((j:Int)<(X w:Int))) (lJ (↑(Y w (j:Int).toNat 0).toNat:Int)) S)=S:=by
  by_cases h:j<X w
  .grind[lW]
  .rw[aB W];rfl
 have k:(T (0<=(f:Int))&&T ((f:Int)<=(j:Int))&&T ((j:Int)<=(X w:Int)))=O:=by simp;omega
 have e:((c.toNat:Int)==39)=S:=by rw[<-iW,ul];exact l
 have x:(Qg (j-f) (Qh f w)).length<=1000000:=by simp;omega
 have m:uT ((2,Qg (j-f) (Qh f w)):cy)=dJ (2,Qg (j-f) (Qh f w)):=C8 (t:=((2,Qg (j-f) (Qh f w)):dB)) x;have a:nW ((2,Qg (j-f) (Qh f w)):cy)=O:=xH (t:=((2,Qg (j-f) (Qh f w)):dB)) x;unfold P2;have b:(X o+[((2,Qg (j-f) (Qh f w)):cy)].length<=1073741824):=by have:X o<=1000000:=n;simp;omega
 show(iF (.h15 _ _ _ _ _ _)).val=_;simp only[iF,g,i,k,e,Q8,zj,zD,zm];simp only[aH,a,m,zB b,zj];grind
theorem KL{p:Int->Bool}{s:zJ}(a:Nat->kz)(c:∀j(g:j<X s),p s[j].toNat=O->(iF (a j)).val=M (.inl (a (j+1)))):∀(n j:Nat),X s-j<=n->j<=X s->
  zH iF (dR p (s.drop j)) (a j) (a (j+dR p (s.drop j)))/\j+dR p (s.drop j)<=X s/\∀h:j+dR p (s.drop j)<X s,p s[j+dR p (s.drop j)].toNat=S
 | n,j,k,g=>by
  by_cases x:j<X s
  .by_cases b:p s[j].toNat=O
   .obtain⟨n,rfl⟩:∃m,n=m+1:=⟨n-1,W⟩;have e:dR p (s.drop j)=dR p (s.drop (j+1))+1:=by rw[il x,dR,zf b]
    have⟨i,l,o⟩:=KL a c n (j+1) W W;have d:j+dR p (s.drop j)=j+1+dR p (s.drop (j+1)):=by omega
    refine⟨?_,W,?_⟩
    .rw[d,e];exact((zH.of (c j x b)).trans i).mono W
    simp_all
   grind[dR,List.drop_eq_getElem_cons,zH.refl]
  grind[dR,zH.refl]
theorem v3(i:X w<=1000000)(h:j<X w):∀{o:wm},X o<=1000000->∃z,(iF (hd3 w (j:Int) o)).val=M (
  if(cond ((w[j].toNat:Int)==32) O ((w[j].toNat:Int)==10))=O then .inl (hd3 w ((j+1:Nat):Int) o)
  else if bm w[j].toNat=O then .inl (Zg w ((j+1:Nat):Int) w[j].toNat j z o)
  else if aC w[j].toNat=O then .inl (Zh w ((j+1:Nat):Int) w[j].toNat j z o)
  else if w[j]=39 then .inl (Ri w ((j+1:Nat):Int) ((3,[]),()) o)
  else P2 w (j+1) (4,[w[j]]) o):=by
 intro o d;refine⟨((4,[w[j]]),()),?_⟩;have e:Γ Δ ((j:Int)+1)=((j+1:Nat):Int):=zu j um;have g:(T (0<=(j:Int))&&T ((j:Int)<=((j+1:Nat):Int))&&T (((j+1:Nat):Int)<=(X w:Int)))=O:=by simp;omega
 have c:uT ((4,[w[j]]):cy)=dJ (4,[w[j]]):=C8 (t:=((4,[w[j]]):dB)) sw;have a:nW ((4,[w[j]]):cy)=O:=xH (t:=((4,[w[j]]):dB)) sw;have x:w[j]=39↔((w[j].toNat:Int)==39)=O:=ul.symm;unfold P2;simp only[x];have b:(X o+[((4,[w[j]]):cy)].length<=1073741824):=by have:X o<=1000000:=d;simp;omega
 show(iF (.h3 _ _ _)).val=_;simp only[iF,e,iA w h,yp w h,zN h,zx h,g,si,vZ,kf,lW,Q8,zj,a,c,zB b];repeat' split
 all_goals first|rfl|simp_all
theorem We(h:bm c.toNat=O):aC c.toNat=S/\c≠39:=by
 have x:bm ((39:UInt8).toNat:Int)=S:=rfl;constructor
 .grind[bm,aC]
 .rintro rfl;rw[x]at h;cases h
theorem Ye(h:aC c.toNat=O):c≠39:=by have x:aC ((39:UInt8).toNat:Int)=S:=rfl;rintro rfl;rw[x]at h;cases h
theorem F1{s:zJ}(l:Io s<=1000000):∀(n i:Nat)(o:wm),Io s+1<=n+i->i<=Io s->Io o<=i->∃r,zU iF (3*(Io s-i)+3) (hd3 s (i:Int) o) r/\Xy r (yK n (s.drop i) (Io o))
 |0,i,o,h1,h2,h3=>by omega
 | n + 1,i,o,h1,h2,h3=>by
  by_cases C:i<X s
  .have⟨z,b⟩:=v3 (o:=o) l C ow;rw[il C,yK];have g:Qh i s=s[i]::Qh (i+1) s:=il C;have next:∀(j:Nat)(t:dB),i<j->j<=Io s->∃r,(match P2 s j t o with|.inl h=>zU iF (3*(Io s-j)+3) h r|.inr w=>w=r)/\Xy r (ite (dJ t=Q3) (yK n (s.drop j) (Io o+1)) Q4):=by
    intro j t h0 E;unfold P2;by_cases m:dJ t=O
    .rw[zf m,zf m];have⟨r,a,q⟩:=F1 l n j (o++[t]) W E sg;grind
    .grind[zbg]
   by_cases P:(cond ((s[i].toNat:Int)==32) O ((s[i].toNat:Int)==10))=O
   .rw[zf P]at b|-;have⟨r,a,q⟩:=F1 l n (i+1) o W W W;exact⟨r,((zH.of b).ends a).mono W,q⟩
   .rw[zh P]at b|-;unfold rD;by_cases A:bm s[i].toNat=Q3
    .rw[zf A]at b|-;have⟨b1,y⟩:=We A;have⟨u,v,H⟩:=KL (p:=cw) (s:=s) (λj=>Zg s (j:Int) (s[i].toNat:Int) (i:Int) z o) (λj D F=>zyN l D F) (X s) (i+1) W W;have d:=zyM (z:=z) (c:=s[i]) (f:=i) l v W H b1 y (o:=o) W;rw[show i+1+dR cw (Qh (i+1) s)-i=dR cw (Qh (i+1) s)+1 by omega,g]at d;have⟨r,a,q⟩:=next (i+1+dR cw (Qh (i+1) s)) (1,(s[i]::Qh (i+1) s).take (dR cw (Qh (i+1) s)+1)) W v
     refine⟨r,?_,?_⟩
     .revert d a;cases P2 s (i+1+dR cw (Qh (i+1) s)) (1,(s[i]::Qh (i+1) s).take (dR cw (Qh (i+1) s)+1)) o with
      |inl h=>intro d a;exact(((zH.of b).trans u).ends ((zH.of d).ends a)).mono W
      |inr w=>intro d a;cases a;exact(((zH.of b).trans u).ends (zU.of d)).mono W
     grind[List.drop_drop]
    .rw[zh A]at b|-;by_cases B:aC s[i].toNat=Q3
     .rw[zf B]at b|-;have y:=Ye B;have⟨u,v,H⟩:=KL (p:=aC) (s:=s) (λj=>Zh s (j:Int) (s[i].toNat:Int) (i:Int) z o) (λj D F=>zyP l D F) (X s) (i+1) W W;have d:=zyO (z:=z) (c:=s[i]) (f:=i) l v W H y (o:=o) W;rw[show i+1+dR aC (Qh (i+1) s)-i=dR aC (Qh (i+1) s)+1 by omega,g]at d;have⟨r,a,q⟩:=next (i+1+dR aC (Qh (i+1) s)) (2,(s[i]::Qh (i+1) s).take (dR aC (Qh (i+1) s)+1)) W v
      refine⟨r,?_,?_⟩
      .revert d a;cases P2 s (i+1+dR aC (Qh (i+1) s)) (2,(s[i]::Qh (i+1) s).take (dR aC (Qh (i+1) s)+1)) o with
       |inl h=>intro d a;exact(((zH.of b).trans u).ends ((zH.of d).ends a)).mono W
       |inr w=>intro d a;cases a;exact(((zH.of b).trans u).ends (zU.of d)).mono W
      grind[List.drop_drop]
     .rw[zh B]at b|-;by_cases U:s[i]=39
      .rw[zf U]at b|-;have⟨q1,q2⟩:=l20 (o:=o) l W (X s-(i+1)) (i+1) [] (zM _) W sw;cases G:fU (Qh (i+1) s)with
       | none=>
        have hm:dJ ((0,[]):dB)=S:=rfl;simp only[hm,zD,zm];exact⟨rNo,((zH.of b).ends (q1 G)).mono W,zbg⟩
       | some x=>
        have⟨t,k⟩:=x;have⟨k1,k2,_⟩:=tW _ _ _ _ (zM _) G;have k2:k<=X s-(i+1):=by simpa using k2
        have⟨r,a,q⟩:=next (i+1+k) (3,t) W W
        refine⟨r,((zH.of b).ends (q2 t k G _ r a)).mono W,?_⟩;simp_all
      .rw[zh U]at b|-;have⟨r,a,q⟩:=next (i+1) (4,[s[i]]) W W
       refine⟨r,?_,q⟩;revert b a;cases P2 s (i+1) (4,[s[i]]) o with
       |inl h=>intro b a;exact((zH.of b).ends a).mono W
       |inr w=>intro b a;cases a;exact(zU.of b).mono W
  .obtain rfl:i=X s:=by omega
   rw[kD,yK];refine⟨(.tup [.vec 0,.bool (T ((X o:Int)<=400))],[.vec zG o]),(zU.of ?_).mono W,o,?_⟩
   .grind[Q8,iF]
   .have e:T ((X o:Int)<=400)=T (X o<=400):=by
     by_cases h:X o<=400
     .rw[zB h];exact zB W
     .rw[aB h];exact aB W
    rw[e];rfl
theorem O8{s:zJ}(c:X s<=1000000):∃l,Lw s=M (l,(cut s).2==(0:Int),()):=by have⟨r,h,l,x⟩:=F1 c (X s+1) 0 [] W W sw;have a:=DX (X s+1) s 0 [] W W W sw;have b:((cut s).2==(0:Int))=yK (X s+1) (s.drop 0) ([]:dK).length:=a;refine⟨l,?_⟩;rw[b];exact zz (s:=hd3 s ((0:Nat):Int) []) rfl h W x
theorem za9{s:zJ}(x:X s<=1000000):Lv s=O:=by have⟨l,h⟩:=O8 x;unfold Lv;rw[h];rfl
theorem zfq{s:zJ}(x:X s<=1000000):(BV s).2=((cut s).2==(0:Int)):=by have⟨l,h⟩:=O8 x;unfold BV;rw[h];rfl
theorem vQ{α:Type}(p:α->Bool):∀(l:List α)(i:Nat),(!Q0 (ah p l i>=0))=O↔∀x∈l,p x=S
 | [],i=>by
  grind[ah]
 | y::r,i=>by
  refine⟨λh=>rM p _ i h,λh=>?_⟩;rw[ah,h y sw];exact(vQ p r (i+1)).2 λx a=>h x (by simp[a])
theorem ki{x:zO}(A:X x.2.2.2.1<=1000)(B:X x.2.2.2.2.1<=1000)(C:X x.2.2.2.2.2.2.1<=1000)(D:X x.2.2.2.2.2.2.2.1<=1000)(u:X x.2.2.2.2.2.2.2.2.2.1<=1000)(v:X x.2.2.2.2.2.2.2.2.2.2.1<=1000):
  iU x=O↔x.2.1=[]/\x.2.2.1=[]/\x.2.2.2.2.2.1=[]/\x.2.2.2.2.2.2.2.2.2.2.2.2=[]/\x.2.2.2.1=[]/\x.2.2.2.2.1=[]/\x.2.2.2.2.2.2.1=[]/\x.2.2.2.2.2.2.2.1=[]/\x.2.2.2.2.2.2.2.2.2.1=[]/\x.2.2.2.2.2.2.2.2.2.2.1=[]/\x.2.2.2.2.2.2.2.2.1=gw/\x.2.2.2.2.2.2.2.2.2.2.2.1=gw:=by
 unfold iU
 have w:(Γ Δ (Γ Δ (Γ Δ (Γ Δ (Γ Δ ((↑(X x.2.2.2.1):Int)+(↑(X x.2.2.2.2.1):Int))+(↑(X x.2.2.2.2.2.2.1):Int))+(↑(X x.2.2.2.2.2.2.2.1):Int))+(↑(X x.2.2.2.2.2.2.2.2.2.1):Int))+(↑(X x.2.2.2.2.2.2.2.2.2.2.1):Int)))=
   ((X x.2.2.2.1+X x.2.2.2.2.1+X x.2.2.2.2.2.2.1+X x.2.2.2.2.2.2.2.1+X x.2.2.2.2.2.2.2.2.2.1+X x.2.2.2.2.2.2.2.2.2.2.1:Nat):Int):=by
  have g:∀n:Nat,n<=10000->Γ Δ (n:Int)=(n:Int):=λn E=>zb2 n (by omega)
  rw[<-wn,g _ (by omega),<-wn,g _ (by omega),<-wn,g _ (by omega),<-wn,g _ (by omega),<-wn,g _ (by omega)]
 rw[w];constructor
 .intro h;obtain⟨k,h⟩:=dd h;obtain⟨l,h⟩:=dd h;obtain⟨y,z⟩:=dd h;simp only[bW,List.append_eq_nil_iff]at k;obtain⟨⟨⟨a,e⟩,i⟩,j⟩:=k;have l:X x.2.2.2.1+X x.2.2.2.2.1+X x.2.2.2.2.2.2.1+X x.2.2.2.2.2.2.2.1+X x.2.2.2.2.2.2.2.2.2.1+X x.2.2.2.2.2.2.2.2.2.2.1=0:=by
   have:=bX l;exact Int.ofNat.inj this
  refine⟨a,e,i,j,?_,?_,?_,?_,?_,?_,oE.1 y,oE.1 z⟩<;>exact DB (by omega)
 .rintro⟨a,e,i,j,m,o,p,q,s,b,c,d⟩;rw[a,e,i,j,m,o,p,q,s,b,c,d,show iX gw=O from rfl];rfl
theorem zbG(s:zO):fA s=(iv s&&((cut (nH s)).2==0)):=by grind[fA,sq]
theorem zi2(s:zJ):dH s=az s:=rfl
theorem Jy(h:yD s){t:zJ}{o:Bool}(g:fx s=M (t,b,o,()))(U:X t<=900000)(B:Dr b):
  ∃c,qm s=M (c,(o&&(az s.2.1&&(ir b s&&((cut t).2==(0:Int))))),()):=by
 have hn:=h.sh.table;have l:xP s=O:=by unfold xP;rw[g];rfl
 have m:Dc s=(t,b,o):=by unfold Dc;rw[g];rfl
 have⟨G,_⟩:=tQ (b:=s) B;have E:=cF (s:=s.2.1) W;have F:=fT (s:=s.2.1) W;have C:=za9 (s:=t) W;have D:=zfq (s:=t) W;have n:xP (s.1,s.2.1,s.q.1,s.r.1,s.t.1,s.u.1,s.v.1,s.w.1,s.x.1,s.y.1,s.z.1,s.s.1,s.p)=O:=l;have A:Dc (s.1,s.2.1,s.q.1,s.r.1,s.t.1,s.u.1,s.v.1,s.w.1,s.x.1,s.y.1,s.z.1,s.s.1,s.p)=(t,b,o):=m;have H:Da (b.1,b.2.1,b.q.1,b.r.1,b.t.1,b.u.1,b.v.1,b.w.1,b.x.1,b.y.1,b.z.1,b.s.1,b.p) (s.1,s.2.1,s.q.1,s.r.1,s.t.1,s.u.1,s.v.1,s.w.1,s.x.1,s.y.1,s.z.1,s.s.1,s.p)=O:=G;have P:ir (b.1,b.2.1,b.q.1,b.r.1,b.t.1,b.u.1,b.v.1,b.w.1,b.x.1,b.y.1,b.z.1,b.s.1,b.p) (s.1,s.2.1,s.q.1,s.r.1,s.t.1,s.u.1,s.v.1,s.w.1,s.x.1,s.y.1,s.z.1,s.s.1,s.p)=ir b s:=rfl;have e:∃c a,(zmG s).val=M (.inr (.tup [.str c,a],[]))/\(a=.kb O/\(o&&(az s.2.1&&(ir b s&&((cut t).2==(0:Int)))))=O\/(a=.kb S/\(o&&(az s.2.1&&(ir b s&&((cut t).2==(0:Int)))))=S)):=by
  simp only[zmG,Q8,zo,n,A,H,P,E,F,C,D,zj];generalize ir b s=i;generalize az s.2.1=j;generalize((cut t).2==(0:Int))=k;cases o<;>cases j<;>cases i<;>cases k<;>first|exact⟨_,_,rfl,.inl ⟨rfl,rfl⟩⟩|exact⟨_,_,rfl,.inr ⟨rfl,rfl⟩⟩
 have⟨c,a,e,d⟩:=e;refine⟨c,zQ e ?_⟩;rcases d with⟨rfl,d⟩|⟨rfl,d⟩<;>rw[d]<;>rfl
theorem RZ(h:yD s):∃t b,qm s=M (t,b,()):=by have⟨t,o,d,x,a,c⟩:=R2 h;grind[Jy]
theorem T7(h:yD s)(o:s.1=[99,111,112,121]):iv s=(mA s&&(az s.2.1&&ir (s.1,s.2.1,s.2.2.1,s.2.2.2.1,[],[],[],[],s.2.2.2.2.2.2.2.2.1,[],[],gw,[]) s)):=by have C:=h.sh.names.1;have d:=h.sh.cols.1;have i:=h.sh.uniques.1;have j:=h.sh.refs.1;have l:=h.sh.row;have k:=h.sh.sets.1;obtain⟨m,n,q,u,v,w,y,z,A,B,p⟩:=zff o;obtain⟨_,D⟩:=fz (s:=s) (g:=_) (b:=_) (by simp only[w6,Q8,m,n,q,u,v,w,y,z,A,B,p,zj,zm,zD,zo];exact rfl);obtain⟨_,c⟩:=tQ (a:=(s.1,s.2.1,s.2.2.1,s.2.2.2.1,[],[],[],[],s.2.2.2.2.2.2.2.2.1,[],[],gw,[])) (b:=s) (gF h (.inl rfl) (.inr rfl) (.inr rfl) (.inr rfl) (.inl rfl) (.inr rfl) (.inr rfl) (.inr rfl));have e:=ki (x:=(s.1,[],[],[],s.2.2.2.2.1,s.2.2.2.2.2.1,s.2.2.2.2.2.2.1,s.2.2.2.2.2.2.2.1,gw,s.2.2.2.2.2.2.2.2.2.1,s.2.2.2.2.2.2.2.2.2.2.1,s.2.2.2.2.2.2.2.2.2.2.2.1,s.2.2.2.2.2.2.2.2.2.2.2.2)) (by simp) (by simpa using bc d (by omega)) (by simpa using bc i (by omega)) (by simpa using bc j (by omega)) (by simpa using bc l (by omega)) (by simpa using bc k (by omega));grind[g7,vQ,zi2,mA]
theorem T8(h:yD s)(o:s.1=ic):iv s=(pW s&&(az s.2.1&&ir (s.1,s.2.1,s.q.1,[],[],s.u.1,[],[],s.x.1,[],[],gw,s.p) s)):=by have B:=h.sh.names.1;have A:=h.sh.cols.1;have D:=h.sh.uniques.1;have E:=h.sh.refs.1;have G:=h.sh.row;have F:=h.sh.sets.1;obtain⟨i,j,k,l,m,n,v,w,y,z,d,e⟩:=zfg o;obtain⟨_,C⟩:=fz (s:=s) (g:=_) (b:=_) (by simp only[w6,Q8,i,j,k,l,m,n,v,w,y,z,d,e,zj,zm,zD,zo];exact rfl);obtain⟨_,c⟩:=tQ (a:=(s.1,s.2.1,s.q.1,[],[],s.u.1,[],[],s.x.1,[],[],gw,s.p)) (b:=s) (gF h (.inr rfl) (.inr rfl) (.inr rfl) (.inr rfl) (.inl rfl) (.inr rfl) (.inr rfl) (.inr rfl));grind[ki,g7,pW,dH,az]
theorem OL(h:yD s)(o:s.1=[103,114,111,117,112]):iv s=(iK s&&(az s.2.1&&ir (s.1,s.2.1,s.2.2.1,s.2.2.2.1,[],[],[],[],s.2.2.2.2.2.2.2.2.1,[],[],gw,[]) s)):=by
 have hn:=h.sh.names.1;have n:=h.sh.cols.1;have z:=h.sh.uniques.1;have A:=h.sh.refs.1;have C:=h.sh.row;have B:=h.sh.sets.1;obtain⟨D,E,F,G,H,P,U,p7,p8,p9,p,i,j⟩:=zaC o;obtain⟨_,w⟩:=fz (s:=s) (g:=_) (b:=_) (by simp only[w6,Q8,D,E,F,G,H,P,U,p7,p8,p9,p,i,j,zj,zm,zD,zo];exact rfl);obtain⟨_,c⟩:=tQ (a:=(s.1,s.2.1,s.2.2.1,s.2.2.2.1,[],[],[],[],s.2.2.2.2.2.2.2.2.1,[],[],gw,[])) (b:=s) (gF h (.inl rfl) (.inr rfl) (.inr rfl) (.inr rfl) (.inl rfl) (.inr rfl) (.inr rfl) (.inr rfl));have d:=ki (x:=(s.1,[],[],[],s.2.2.2.2.1,s.2.2.2.2.2.1,s.2.2.2.2.2.2.1,s.2.2.2.2.2.2.2.1,gw,s.2.2.2.2.2.2.2.2.2.1,s.2.2.2.2.2.2.2.2.2.2.1,s.2.2.2.2.2.2.2.2.2.2.2.1,s.2.2.2.2.2.2.2.2.2.2.2.2)) (by simp) (by simpa using bc n (by omega)) (by simpa using bc z (by omega)) (by simpa using bc A (by omega)) (by simpa using bc C (by omega)) (by simpa using bc B (by omega));have q:gu (s.1,[],[],[],s.2.2.2.2.1,s.2.2.2.2.2.1,s.2.2.2.2.2.2.1,s.2.2.2.2.2.2.2.1,gw,s.2.2.2.2.2.2.2.2.2.1,s.2.2.2.2.2.2.2.2.2.2.1,s.2.2.2.2.2.2.2.2.2.2.2.1,s.2.2.2.2.2.2.2.2.2.2.2.2)=O:=g7 (by simp) (by simp) (by have:=h.sh.key;simpa using this) (by have:=h.sh.role;simpa using this);rw[w];apply oA.2;have l:ir (s.1,s.2.1,s.2.2.1,s.2.2.2.1,[],[],[],[],s.2.2.2.2.2.2.2.2.1,[],[],gw,[]) s=O↔iU (s.1,[],[],[],s.2.2.2.2.1,s.2.2.2.2.2.1,s.2.2.2.2.2.2.1,s.2.2.2.2.2.2.2.1,gw,s.2.2.2.2.2.2.2.2.2.1,s.2.2.2.2.2.2.2.2.2.2.1,s.2.2.2.2.2.2.2.2.2.2.2.1,s.2.2.2.2.2.2.2.2.2.2.2.2)=O:=by
  rw[c,d];obtain⟨s1,s2,s3,m,s5,s6,s7,s8,s9,h0,h1,h2,h3⟩:=s;simp only[cO,true_and];constructor
  .intro k;simp_all
  .intro k;simp_all
 have e:=vQ (λx=>!dH x) s.2.2.2.1 0;have u:(cond (cond (T ((↑(X s.2.2.2.1):Int)<2)) O (T ((↑(X s.2.2.2.1):Int)>2))) S (cond (!Q0 (ah (λx=>!dH x) s.2.2.2.1 0>=0)) (cZ s.2.2.2.2.2.2.2.2.1) S))=(T (X s.2.2.2.1=2)&&(cZ s.2.2.2.2.2.2.2.2.1&&(az (s.2.2.2.1.getD 0 [])&&az (s.2.2.2.1.getD 1 [])))):=by
  by_cases a:X s.2.2.2.1=2
  .rw[aB (show¬(↑(X s.2.2.2.1):Int)<2 by omega),aB (show¬(↑(X s.2.2.2.1):Int)>2 by omega),zB a];have v:(!Q0 (ah (λx=>!dH x) s.2.2.2.1 0>=0))=(az (s.2.2.2.1.getD 0 [])&&az (s.2.2.2.1.getD 1 [])):=by
    apply oA.2;rw[e,aN];obtain⟨s1,s2,s3,m,s5⟩:=s
    match m,a with
    |[x,y],_=>simp[zi2]
   grind
  .grind
 grind[iK,dH,az]
end Cad
