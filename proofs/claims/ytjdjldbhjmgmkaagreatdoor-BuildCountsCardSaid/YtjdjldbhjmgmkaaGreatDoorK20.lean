/- The document's texts of expressions. -/
import Derived.Test.YtjdjldbhjmgmkaaGreatDoorK19
namespace Cad
open Go Go.Proofs
open List renaming length→Io,drop→Qh,take→Qg
open IntKind renaming wrap→Γ,i64→Δ
open Tr renaming val→Q8
open Sh renaming bool→Q7,str→Q6,expr→Q5
open Bool renaming false→Q4,true→Q3
open Option renaming none→Q2,some→Q1
open Decidable renaming decide→Q0
open Int (toNat)
open List (getD)
open Tr (chk br re)
open AV (nils agg tup ptr kb str sl)
set_option maxHeartbeats 4000000
theorem rW:∀(N d M:Nat)(e:za),d<=12->d<=N->d<=M->cG d e=Q3->tp e->cT N e=Q1 (bb M e,())/\(bb M e).length<=400*nE d e
 |_,0,_,_,_,_,_,h,_=>by cases h
 |0,d+1,_,_,_,h,_,_,_=>zC h ow
 |_,d+1,0,_,_,_,h,_,_=>zC h ow
 | N+1,d+1,M+1,e,J,L,O,h,m=>by
  rw[cT];unfold Sj;cases fU h with
  | lit v S=>
   rw[tp]at m;have i:bb (M+1) (.mk ot v [] [])=ip v:=rfl;have F:=yB v;rw[i];refine⟨zO (r:=(.str (ip v),[])) ?_ rfl,by simp[nE];omega⟩;have x:(pn (λj=>iM (cT N j)) (λj=>(cT N j).isSome) (.mk ot v [] [])).val=if kK v=Q3 then Q1 (.inr (.str (oQ v),[]))else Q2:=rfl
   rw[x,Hw m.1,MZ m.1];rfl
  | col s G P=>
   have F:=H0 G;have i:bb (M+1) (.mk eK (0,0,[]) s [])=s:=rfl;rw[i];exact⟨zO (r:=(.str s,[])) rfl rfl,by simp[nE];omega⟩
  | one o a A q=>
   rw[tp,kB]at m;obtain⟨u,la⟩:=rW N d M a ow ow ow q m.2.2.1;have B:=sY d a q;have I:2^d<=2^12:=F3 ow ow;have C:nE (d+1) (.mk o (0,0,[]) [] [a])=1+nE d a:=by simp[nE]
   rw[C];generalize z:(λj=>iM (cT N j))=g;generalize y:(λj=>(cT N j).isSome)=c;have l:g a=bb M a:=by rw[<-z];show iM (cT N a)=_;rw[u];rfl
   have k:c a=Q3:=by rw[<-y];show(cT N a).isSome=_;rw[u];rfl
   rcases A with rfl|rfl
   .have i:bb (M+1) (.mk ng (0,0,[]) [] [a])=uE++bb M a++[41]:=rfl;rw[i];refine⟨zO (r:=(.str (uE++bb M a++[41]),[])) ?_ rfl,sg⟩;have x:(pn g c (.mk ng (0,0,[]) [] [a])).val=if c (zr a)=Q3 then(ite (Q0 (Io uE+Io (g (zr a))<=1099511627776)=Q3) (ite (Q0 ((uE++g (zr a)).length+[41].length<=1099511627776)=Q3) (Q1 (.inr (.str (uE++g (zr a)++[41]),[]))) Q2) Q2)else Q2:=rfl
    rw[x,zm,k,l,ze rfl,ze (zy sg),ze (zy sg)]
   .have i:bb (M+1) (.mk pk (0,0,[]) [] [a])=[40]++bb M a++Ca:=rfl;rw[i];refine⟨zO (r:=(.str ([40]++bb M a++Ca),[])) ?_ rfl,sg⟩;have x:(pn g c (.mk pk (0,0,[]) [] [a])).val=if c (zr a)=Q3 then(ite (Q0 ([40].length+Io (g (zr a))<=1099511627776)=Q3) (ite (Q0 (([40]++g (zr a)).length+Io Ca<=1099511627776)=Q3) (Q1 (.inr (.str ([40]++g (zr a)++Ca),[]))) Q2) Q2)else Q2:=rfl
    rw[x,zm,k,l,ze rfl,ze (zy sg),ze (zy sg)]
  | two o a b A q B=>
   rw[tp,kB,kB]at m;obtain⟨u,la⟩:=rW N d M a ow ow ow q m.2.2.1;obtain⟨kb,lb⟩:=rW N d M b ow ow ow B m.2.2.2.1;have D:=sY d a q;have E:=sY d b B;have I:2^d<=2^12:=F3 ow ow;have C:nE (d+1) (.mk o (0,0,[]) [] [a,b])=1+(nE d a+nE d b):=by simp[nE]
   rw[C];generalize z:(λj=>iM (cT N j))=g;generalize y:(λj=>(cT N j).isSome)=c;have l:g a=bb M a:=by rw[<-z];show iM (cT N a)=_;rw[u];rfl
   have k:c a=Q3:=by rw[<-y];show(cT N a).isSome=_;rw[u];rfl
   have p:g b=bb M b:=by rw[<-z];show iM (cT N b)=_;rw[kb];rfl
   have n:c b=Q3:=by rw[<-y];show(cT N b).isSome=_;rw[kb];rfl
   have i:∀w:zH,Lib.toUpperA o=w->tF (bb M) (g6 M) (.mk o (0,0,[]) [] [a,b])=[40]++bb M a++[32]++w++[32]++bb M b++[41]:=by
    rintro w rfl;rcases A with rfl|rfl|rfl|rfl|rfl|rfl<;>rfl
   have H:bb (M+1) (.mk o (0,0,[]) [] [a,b])=tF (bb M) (g6 M) (.mk o (0,0,[]) [] [a,b]):=rfl;rw[H];rcases A with rfl|rfl|rfl|rfl|rfl|rfl
   .rw[i VN rfl];refine⟨zO (r:=(.str ([40]++bb M a++Of++bb M b++[41]),[])) ?_ (by simp[aS];rfl),sg⟩;have x:(pn g c (.mk ir (0,0,[]) [] [a,b])).val=if c (zr a)=Q3 then(ite (Q0 ([40].length+Io (g (zr a))<=1099511627776)=Q3) (ite (Q0 (([40]++g (zr a)).length+Io Of<=1099511627776)=Q3) (ite (c (zr b)=Q3) (ite (Q0 (([40]++g (zr a)++Of).length+Io (g (zr b))<=1099511627776)=Q3) (ite (Q0 (([40]++g (zr a)++Of++g (zr b)).length+[41].length<=1099511627776)=Q3) (Q1 (.inr (.str ([40]++g (zr a)++Of++g (zr b)++[41]),[]))) Q2) Q2) Q2) Q2) Q2)else Q2:=rfl
    rw[x,zm,zm,k,n,l,p,ze rfl,ze (zy sg),ze (zy sg),ze rfl,ze (zy sg),ze (zy sg)]
   .rw[i [79,82] rfl];refine⟨zO (r:=(.str ([40]++bb M a++Og++bb M b++[41]),[])) ?_ (by simp[aS];rfl),sg⟩;have x:(pn g c (.mk uG (0,0,[]) [] [a,b])).val=if c (zr a)=Q3 then(ite (Q0 ([40].length+Io (g (zr a))<=1099511627776)=Q3) (ite (Q0 (([40]++g (zr a)).length+Io Og<=1099511627776)=Q3) (ite (c (zr b)=Q3) (ite (Q0 (([40]++g (zr a)++Og).length+Io (g (zr b))<=1099511627776)=Q3) (ite (Q0 (([40]++g (zr a)++Og++g (zr b)).length+[41].length<=1099511627776)=Q3) (Q1 (.inr (.str ([40]++g (zr a)++Og++g (zr b)++[41]),[]))) Q2) Q2) Q2) Q2) Q2)else Q2:=rfl
    rw[x,zm,zm,k,n,l,p,ze rfl,ze (zy sg),ze (zy sg),ze rfl,ze (zy sg),ze (zy sg)]
   .rw[i [61] rfl];refine⟨zO (r:=(.str ([40]++bb M a++[32]++[61]++[32]++bb M b++[41]),[])) ?_ rfl,sg⟩;have x:(pn g c (.mk [61] (0,0,[]) [] [a,b])).val=if c (zr a)=Q3 then(ite (Q0 ([40].length+Io (g (zr a))<=1099511627776)=Q3) (ite (Q0 (([40]++g (zr a)).length+[32].length<=1099511627776)=Q3) (ite (Q0 (([40]++g (zr a)++[32]).length+Io [61]<=1099511627776)=Q3) (ite (Q0 (([40]++g (zr a)++[32]++[61]).length+[32].length<=1099511627776)=Q3) (ite (c (zr b)=Q3) (ite (Q0 (([40]++g (zr a)++[32]++[61]++[32]).length+Io (g (zr b))<=1099511627776)=Q3) (ite (Q0 (([40]++g (zr a)++[32]++[61]++[32]++g (zr b)).length+[41].length<=1099511627776)=Q3) (Q1 (.inr (.str ([40]++g (zr a)++[32]++[61]++[32]++g (zr b)++[41]),[]))) Q2) Q2) Q2) Q2) Q2) Q2) Q2)else Q2:=rfl
    rw[x,zm,zm,k,n,l,p,ze rfl,ze (zy sg),ze (zy sg),ze (zy sg),ze (zy sg),ze rfl,ze (zy sg),ze (zy sg)]
   .rw[i [60] rfl];refine⟨zO (r:=(.str ([40]++bb M a++[32]++[60]++[32]++bb M b++[41]),[])) ?_ rfl,sg⟩;have x:(pn g c (.mk [60] (0,0,[]) [] [a,b])).val=if c (zr a)=Q3 then(ite (Q0 ([40].length+Io (g (zr a))<=1099511627776)=Q3) (ite (Q0 (([40]++g (zr a)).length+[32].length<=1099511627776)=Q3) (ite (Q0 (([40]++g (zr a)++[32]).length+Io [60]<=1099511627776)=Q3) (ite (Q0 (([40]++g (zr a)++[32]++[60]).length+[32].length<=1099511627776)=Q3) (ite (c (zr b)=Q3) (ite (Q0 (([40]++g (zr a)++[32]++[60]++[32]).length+Io (g (zr b))<=1099511627776)=Q3) (ite (Q0 (([40]++g (zr a)++[32]++[60]++[32]++g (zr b)).length+[41].length<=1099511627776)=Q3) (Q1 (.inr (.str ([40]++g (zr a)++[32]++[60]++[32]++g (zr b)++[41]),[]))) Q2) Q2) Q2) Q2) Q2) Q2) Q2)else Q2:=rfl
    rw[x,zm,zm,k,n,l,p,ze rfl,ze (zy sg),ze (zy sg),ze (zy sg),ze (zy sg),ze rfl,ze (zy sg),ze (zy sg)]
   .rw[i [43] rfl];refine⟨zO (r:=(.str ([40]++bb M a++[32]++[43]++[32]++bb M b++[41]),[])) ?_ rfl,sg⟩;have x:(pn g c (.mk [43] (0,0,[]) [] [a,b])).val=if c (zr a)=Q3 then(ite (Q0 ([40].length+Io (g (zr a))<=1099511627776)=Q3) (ite (Q0 (([40]++g (zr a)).length+[32].length<=1099511627776)=Q3) (ite (Q0 (([40]++g (zr a)++[32]).length+Io [43]<=1099511627776)=Q3) (ite (Q0 (([40]++g (zr a)++[32]++[43]).length+[32].length<=1099511627776)=Q3) (ite (c (zr b)=Q3) (ite (Q0 (([40]++g (zr a)++[32]++[43]++[32]).length+Io (g (zr b))<=1099511627776)=Q3) (ite (Q0 (([40]++g (zr a)++[32]++[43]++[32]++g (zr b)).length+[41].length<=1099511627776)=Q3) (Q1 (.inr (.str ([40]++g (zr a)++[32]++[43]++[32]++g (zr b)++[41]),[]))) Q2) Q2) Q2) Q2) Q2) Q2) Q2)else Q2:=rfl
    rw[x,zm,zm,k,n,l,p,ze rfl,ze (zy sg),ze (zy sg),ze (zy sg),ze (zy sg),ze rfl,ze (zy sg),ze (zy sg)]
   .rw[i [45] rfl];refine⟨zO (r:=(.str ([40]++bb M a++[32]++[45]++[32]++bb M b++[41]),[])) ?_ rfl,sg⟩;have x:(pn g c (.mk [45] (0,0,[]) [] [a,b])).val=if c (zr a)=Q3 then(ite (Q0 ([40].length+Io (g (zr a))<=1099511627776)=Q3) (ite (Q0 (([40]++g (zr a)).length+[32].length<=1099511627776)=Q3) (ite (Q0 (([40]++g (zr a)++[32]).length+Io [45]<=1099511627776)=Q3) (ite (Q0 (([40]++g (zr a)++[32]++[45]).length+[32].length<=1099511627776)=Q3) (ite (c (zr b)=Q3) (ite (Q0 (([40]++g (zr a)++[32]++[45]++[32]).length+Io (g (zr b))<=1099511627776)=Q3) (ite (Q0 (([40]++g (zr a)++[32]++[45]++[32]++g (zr b)).length+[41].length<=1099511627776)=Q3) (Q1 (.inr (.str ([40]++g (zr a)++[32]++[45]++[32]++g (zr b)++[41]),[]))) Q2) Q2) Q2) Q2) Q2) Q2) Q2)else Q2:=rfl
    rw[x,zm,zm,k,n,l,p,ze rfl,ze (zy sg),ze (zy sg),ze (zy sg),ze (zy sg),ze rfl,ze (zy sg),ze (zy sg)]
section
variable {σ:Type} {t:σ->Tr (σ⊕aw)}
abbrev HH:aw:=(.kb Q4,[])
theorem OQ{α:Type}{la lb:List α}(s:Nat->σ)(d:Io la=Io lb)(g:∀i(j:i<Io la)(c:i<Io lb),(la[i]=lb[i]->(t (s i)).val=Q1 (.inl (s (i+1))))/\(la[i]≠lb[i]->(t (s i)).val=Q1 (.inr HH))):
  (la=lb/\zN t (Io la) (s 0) (s (Io la)))\/(la≠lb/\z6 t (Io la) (s 0) HH):=by
 rcases mD (t:=t) (Φ:=λr=>r=HH) 1 s (λi=>la[i]?=lb[i]?) (Io la) (λi b _=>by
  have c:i<Io lb:=by omega
  obtain⟨a,x⟩:=g i b c;rw[zZ b,zZ c];by_cases h:la[i]=lb[i]
  .exact .inl ⟨by rw[h],zN.of (a h)⟩
  .exact .inr ⟨λe=>h (Option.some.inj e),HH,z6.of (x h),rfl⟩)with⟨a,x⟩|⟨a,r,x,rfl⟩
 .rw[Nat.mul_one]at x;refine .inl ⟨pi λi=>?_,x⟩;by_cases b:i<Io la
  .exact a i b
  .rw[eX ow,eX ow]
 .rw[Nat.mul_one]at x;exact .inr ⟨λh=>a λi _=>by rw[h],x⟩
end
variable {α:Type}
theorem jB{a b:List α}:((Io a:Int)!=(Io b:Int))=Q3↔Io a≠Io b:=by simp[bne];omega
theorem D6:∀(N:Nat)(a b:za),oe N a=Q3->∃r,cq N a b=Q1 (r,())/\(r=Q3↔a=b)
 |0,_,_,h=>by cases h
 | N + 1,.mk g v s l,.mk o e k j,h=>by
  rw[oe]at h;simp only[aF,aR,dJ]at h;obtain⟨I,G⟩:=h;rw[cq];unfold Jm
  have z:(Dk (λx d=>hA (cq N x d)) (λx d=>(cq N x d).isSome) (.mk g v s l) (.mk o e k j)).val=Q1 (.inr HH)->¬(za.mk g v s l=za.mk o e k j)->
    ∃r,ao [Q7] (Ko (λx d=>hA (cq N x d)) (λx d=>(cq N x d).isSome)) 3000000000 (Dk (λx d=>hA (cq N x d)) (λx d=>(cq N x d).isSome) (.mk g v s l) (.mk o e k j))=Q1 (r,())/\(r=Q3↔za.mk g v s l=za.mk o e k j):=by
   intro q D;exact⟨Q4,zO q rfl,by simp[D]⟩
  have n:∀c:Bool,(cond (!g==o) Q3 (cond (!(v.1==e.1&&(v.2.1==e.2.1&&(v.2.2==e.2.2&&Q3)))) Q3 (cond (!s==k) Q3 ((↑l.length:Int)!=(↑j.length:Int)))))=c->
    (Dk (λx d=>hA (cq N x d)) (λx d=>(cq N x d).isSome) (.mk g v s l) (.mk o e k j)).val=if c=Q3 then Q1 (.inr HH)else Q1 (.inl (.h4 ((0:Nat):Int) (.mk g v s l,()) (.mk o e k j,()))):=by
   rintro c rfl;rfl
  by_cases A:g=o;rotate_left
  .exact z (by rw[n Q3 (by rw[dB.2 A];rfl)];rfl) (λh=>A (by injection h))
  by_cases B:v=e;rotate_left
  .refine z ?_ (λh=>B (by injection h));rw[n Q3 ?_]
   .rfl
   .have:(v.1==e.1&&(v.2.1==e.2.1&&(v.2.2==e.2.2&&Q3)))=Q4:=by
     rw[<-gT];intro h;simp at h;exact B (Prod.ext h.1 (Prod.ext h.2.1 h.2.2))
    rw[this];cases(g==o)<;>rfl
  by_cases C:s=k;rotate_left
  .refine z ?_ (λh=>C (by injection h));rw[n Q3 ?_]
   .rfl
   .rw[dB.2 C];cases(g==o)<;>cases(v.1==e.1&&(v.2.1==e.2.1&&(v.2.2==e.2.2&&Q3)))<;>rfl
  by_cases w:Io l=Io j;rotate_left
  .refine z ?_ (λh=>w (by injection h with _ _ _ h;rw[h]));rw[n Q3 ?_]
   .rfl
   .rw[jB.2 w];cases(g==o)<;>cases(v.1==e.1&&(v.2.1==e.2.1&&(v.2.2==e.2.2&&Q3)))<;>cases(s==k)<;>rfl
  subst A;subst B;subst C;have q:=n Q4 (by
   have:((↑l.length:Int)!=(↑j.length:Int))=Q4:=by rw[<-gT,jB];exact λh=>h w
   rw[this];simp)
  rw[zg sw]at q
  rcases OQ (t:=Ko (λx d=>hA (cq N x d)) (λx d=>(cq N x d).isSome)) (la:=l) (lb:=j) (λi=>.h4 (i:Int) (.mk g v s l,()) (.mk g v s j,())) w (by
   intro i y p;obtain⟨r,H,m⟩:=D6 N l[i] j[i] (G _ (bp y));have E:getD l (i:Int).toNat (zi Q5)=l[i]:=z7 _ _ y;have F:getD j (i:Int).toNat (zi Q5)=j[i]:=z7 _ _ p;have u:(Ko (λx d=>hA (cq N x d)) (λx d=>(cq N x d).isSome) (.h4 (i:Int) (.mk g v s l,()) (.mk g v s j,()))).val=if(!r)=Q3 then Q1 (.inr HH)else Q1 (.inl (.h4 ((i+1:Nat):Int) (.mk g v s l,()) (.mk g v s j,()))):=by
    simp only[Ko,Kq,BK,Q8,za.l,zm,E,F,zz y,zz p,H,fE,zh];rw[zt i um];show(ite (Q0 ((i:Int)<(Io l:Int))=Q3) _ _)=_;rw[ze (zy ow)];rfl
   rw[u];refine⟨λh=>?_,λh=>?_⟩
   .rw[zg (by rw[m.2 h];simp)]
   .rw[ze];cases r
    .rfl
    .exact zC (m.1 rfl) h)with⟨h1,h2⟩|⟨h1,h2⟩
  .subst h1;refine⟨Q3,zB q (h2.ends (z6.of (r:=(.kb Q3,[])) ?_)) ow rfl,sw⟩;simp only[Ko,Kq,BK,Q8,za.l];exact zg sw
  .exact⟨Q4,zB q h2 ow rfl,by simp[h1]⟩
theorem rU{a b:za}(h:oe 16 a=Q3):g9 a b=Q3/\(fz a b=Q3↔a=b):=by
 obtain⟨r,x,c⟩:=D6 16 a b h;have x:Bk a b=Q1 (r,()):=x;refine⟨by unfold g9;rw[x];rfl,?_⟩;have:fz a b=r:=by unfold fz;rw[x];rfl
 rw[this];exact c
section
variable {σ:Type} {t:σ->Tr (σ⊕aw)}
def Va(t:σ->Tr (σ⊕aw))(K:Nat)(n:σ⊕aw)(r:aw):Prop:=match n with
 |.inl h=>z6 t K h r
 |.inr x=>x=r
theorem mj{α:Type}{la lb:List α}(s:Int->σ)(n:σ⊕aw)(e:Nat->Bool)(x:∀i:Nat,i<=Io la->(t (s i)).val=if Q0 (LT.lt (α:=Int) (i:Int) (Io la:Int))=Q3 then(ite (zK (i:Int) (Io la)=Q3) (ite (zK (i:Int) (Io lb)=Q3) (ite ((!e i)=Q3) (Q1 (.inr HH)) (Q1 (.inl (s (Γ Δ ((i:Int)+1)))))) Q2) Q2)else Q1 n)
  (l:∀i(_:i<Io la)(d:i<Io la)(j:i<Io lb),e i=Q3↔la[i]=lb[i]) (b:Io la=Io lb) (o:Io la<=1000000):
  (la=lb/\∀K r,Va t K n r->z6 t (K+Io la+1) (s 0) r)\/(la≠lb/\z6 t (Io la) (s 0) HH):=by
 rcases OQ (t:=t) (la:=la) (lb:=lb) (λi=>s (i:Int)) b (λi d j=>by
  have a:=x i ow;rw[ze (zy ow),ze (zz d),ze (zz j),zt i um]at a;have:=l i d d j;refine⟨λh=>?_,λh=>?_⟩
  .rw[a,zg (by rw[this.2 h];simp)]
  .rw[a,ze];cases m:e i
   .rfl
   .exact zC (this.1 m) h)with⟨g,c⟩|⟨g,c⟩
 .refine .inl ⟨g,λK r k=>?_⟩;have a:=x (Io la) (aj _);rw[zg sw]at a;unfold Va at k;cases n with
  |inl h=>exact(c.ends ((zN.of a).ends k)).mono ow
  |inr p=>cases k;exact(c.ends (z6.of a)).mono ow
 .exact .inr ⟨g,c⟩
end
theorem VW(a b:bX):(a.1==b.1&&(a.2.1==b.2.1&&(a.2.2==b.2.2&&Q3)))=Q3↔a=b:=by simp[Prod.ext_iff]
theorem ztc(a b:Sem ja):(a.1==b.1&&(a.2==b.2&&Q3))=Q3↔a=b:=by simp[Prod.ext_iff]
theorem zjM(a b:bV):(a.1==b.1&&(a.2==b.2&&Q3))=Q3↔a=b:=by simp[Prod.ext_iff]
theorem zma(a b:zo):(a.1==b.1&&(a.2.1==b.2.1&&(a.2.2==b.2.2&&Q3)))=Q3↔a=b:=by simp[Prod.ext_iff]
theorem Y1{x y:Bool}(h:(cond x Q3 y)=Q4):x=Q4/\y=Q4:=by
 cases x
 .exact⟨rfl,h⟩
 .cases h
theorem Yx[BEq α][LawfulBEq α]{a b:α}(h:(!a==b)=Q4):a=b:=by
 cases x:(a==b)
 .rw[x]at h;cases h
 .simpa using x
theorem Uk{a b:List α}(h:((↑(Io a):Int)!=(↑(Io b):Int))=Q4):Io a=Io b:=by simp[bne]at h;omega
structure BM (a:zJ):Prop where
 names:Io a.2.2.2.1<=1000
 cols:Io a.t.1<=1000
 uniques:Io a.t.q.1<=1000
 refs:Io a.t.q.2.1<=1000
 row:Io a.t.t.2.1<=1000
 sets:Io a.t.t.q.1<=1000
 chk:oe 16 a.t.t.1=Q3
 whr:oe 16 a.t.t.q.2.1=Q3
 ex:∀x∈a.t.t.q.1,oe 16 (x:Sem io).2=Q3
variable {s b:zJ}
theorem PK(h:BM s):∃r,r9 s b=Q1 (r,())/\(r=Q3↔s=b):=by
 obtain⟨W,X,Y,O,E,Z,P,H,a9,j,e,w,y⟩:=s;obtain⟨b1,b2,b3,b4,I,b6,b7,S,b9,o,g,z,C⟩:=b;obtain⟨h4,h5,h7,h8,h0,x0,h9,x4,hx⟩:=h;have h4:Io O<=1000:=h4;have h5:Io E<=1000:=h5;have h7:Io P<=1000:=h7;have h8:Io H<=1000:=h8;have h0:Io j<=1000:=h0;have x0:Io e<=1000:=x0;have hx:∀x∈e,oe 16 (x:Sem io).2=Q3:=hx;obtain⟨s1,s2⟩:=rU (b:=b9) (show oe 16 a9=Q3 from h9);obtain⟨u1,u2⟩:=rU (b:=z) (show oe 16 w=Q3 from x4);generalize l:((W,X,Y,O,E,Z,P,H,a9,j,e,w,y):zJ)=A;generalize m:((b1,b2,b3,b4,I,b6,b7,S,b9,o,g,z,C):zJ)=B;have x5:∀r:aw,∀{k a},(zc4 A B).val=Q1 (.inl a)->A≠B->z6 uo k a HH->k<=100000000->∃r,r9 A B=Q1 (r,())/\(r=Q3↔A=B):=by
  intro _ k a h1 h h2 h3;exact⟨Q4,zB h1 h2 h3 rfl,by simp[h]⟩
 have hv:∀c d:Bool,(cond (!W==b1) Q3 (cond (!X==b2) Q3 (cond (!Y==b3) Q3 (cond (!Z==b6) Q3 (cond (!y==C) Q3 (cond (!fz a9 b9) Q3 (!fz w z)))))))=c->
   (cond ((↑(Io O):Int)!=(↑(Io b4):Int)) Q3 (cond ((↑(Io E):Int)!=(↑(Io I):Int)) Q3 (cond ((↑(Io P):Int)!=(↑(Io b7):Int)) Q3 (cond ((↑(Io H):Int)!=(↑(Io S):Int)) Q3 (cond ((↑(Io j):Int)!=(↑(Io o):Int)) Q3 ((↑(Io e):Int)!=(↑(Io g):Int)))))))=d->
   (zc4 A B).val=if c=Q3 then Q1 (.inr HH)else if d=Q3 then Q1 (.inr HH)else Q1 (.inl (.h6 0 (A,()) (B,()))):=by
  rintro c d rfl rfl;subst l;subst m;have hg:∀x:Bool,(cond (!W==b1) Q3 (cond (!X==b2) Q3 (cond (!Y==b3) Q3 (cond (!Z==b6) Q3 (cond (!y==C) Q3 (g9 a9 b9&&bif x then Q3 else g9 w z))))))=Q3:=by
   intro x;rw[s1,u1];cases(!W==b1)<;>cases(!X==b2)<;>cases(!Y==b3)<;>cases(!Z==b6)<;>cases(!y==C)<;>cases x<;>rfl
  simp only[zc4,Q8,zm];rw[ze (hg _)]
 cases n:(cond (!W==b1) Q3 (cond (!X==b2) Q3 (cond (!Y==b3) Q3 (cond (!Z==b6) Q3 (cond (!y==C) Q3 (cond (!fz a9 b9) Q3 (!fz w z)))))));rotate_left
 .refine⟨Q4,zO (r:=HH) (by rw[hv Q3 _ n rfl];rfl) rfl,?_⟩;constructor
  .intro h;cases h
  .intro h;rw[<-l,<-m]at h;simp only[b5]at h;obtain⟨rfl,rfl,rfl,rfl,rfl,rfl,rfl,rfl,rfl,rfl,rfl,rfl,rfl⟩:=h;have k1:=s2.2 rfl;have k2:=u2.2 rfl;rw[k1,k2]at n;simp at n
 cases v:(cond ((↑(Io O):Int)!=(↑(Io b4):Int)) Q3 (cond ((↑(Io E):Int)!=(↑(Io I):Int)) Q3 (cond ((↑(Io P):Int)!=(↑(Io b7):Int)) Q3 (cond ((↑(Io H):Int)!=(↑(Io S):Int)) Q3 (cond ((↑(Io j):Int)!=(↑(Io o):Int)) Q3 ((↑(Io e):Int)!=(↑(Io g):Int)))))));rotate_left
 .refine⟨Q4,zO (r:=HH) (by rw[hv Q4 Q3 n v];rfl) rfl,?_⟩;constructor
  .intro h;cases h
  .intro h;rw[<-l,<-m]at h;simp only[b5]at h;obtain⟨rfl,rfl,rfl,rfl,rfl,rfl,rfl,rfl,rfl,rfl,rfl,rfl,rfl⟩:=h;simp at v
 have hi:=hv Q4 Q4 n v;rw[zg sw,zg sw]at hi;obtain⟨m1,n⟩:=Y1 n;obtain⟨m2,n⟩:=Y1 n;obtain⟨m3,n⟩:=Y1 n;obtain⟨m6,n⟩:=Y1 n;obtain⟨x8,n⟩:=Y1 n;obtain⟨m9,x7⟩:=Y1 n;obtain⟨n4,v⟩:=Y1 v;obtain⟨n5,v⟩:=Y1 v;obtain⟨n7,v⟩:=Y1 v;obtain⟨n8,v⟩:=Y1 v;obtain⟨x9,a0⟩:=Y1 v;have e1:=Yx m1;have e2:=Yx m2;have e3:=Yx m3;have e6:=Yx m6;have x3:=Yx x8;have e9:=s2.1 (by simpa using m9);have x2:=u2.1 (by simpa using x7);subst e1;subst e2;subst e3;subst e6;subst x3;subst e9;subst x2;have U:∀{k},A≠B->z6 uo k (.h6 0 (A,()) (B,())) HH->k<=100000000->∃r,r9 A B=Q1 (r,())/\(r=Q3↔A=B):=λh1 h2 h3=>x5 HH hi h1 h2 h3
 rcases mj (t:=uo) (la:=O) (lb:=b4) (λi=>.h6 i (A,()) (B,())) (.inl (.h11 0 (A,()) (B,()))) (λi=>getD O (i:Int).toNat (zi Q6)==getD b4 (i:Int).toNat (zi Q6)) (λ_ _=>by subst l;subst m;rfl) (λi _ p u=>by rw[bd,z7 _ _ p,z7 _ _ u]) (Uk n4) ow with⟨q4,G⟩|⟨q4,G⟩;rotate_left
 .exact U (λh=>q4 (by rw[<-l,<-m]at h;simp only[b5]at h;exact h.2.2.2.1)) G ow
 rcases mj (t:=uo) (la:=E) (lb:=I) (λi=>.h11 i (A,()) (B,())) (.inl (.h16 0 (A,()) (B,()))) (λi=>((getD E (i:Int).toNat (zi zl)).1==(getD I (i:Int).toNat (zi zl)).1&&((getD E (i:Int).toNat (zi zl)).2.1==(getD I (i:Int).toNat (zi zl)).2.1&&((getD E (i:Int).toNat (zi zl)).2.2==(getD I (i:Int).toNat (zi zl)).2.2&&Q3)))) (λ_ _=>by subst l;subst m;rfl) (λi _ p u=>by rw[VW,z7 _ _ p,z7 _ _ u]) (Uk n5) ow with⟨q5,L⟩|⟨q5,L⟩;rotate_left
 .exact U (λh=>q5 (by rw[<-l,<-m]at h;simp only[b5]at h;exact h.t.1)) (G _ _ L) ow
 rcases mj (t:=uo) (la:=P) (lb:=b7) (λi=>.h16 i (A,()) (B,())) (.inl (.h21 0 (A,()) (B,()))) (λi=>getD P (i:Int).toNat (zi Q6)==getD b7 (i:Int).toNat (zi Q6)) (λ_ _=>by subst l;subst m;rfl) (λi _ p u=>by rw[bd,z7 _ _ p,z7 _ _ u]) (Uk n7) ow with⟨q7,T⟩|⟨q7,T⟩;rotate_left
 .exact U (λh=>q7 (by rw[<-l,<-m]at h;simp only[b5]at h;exact h.t.q.1)) (G _ _ (L _ _ T)) ow
 rcases mj (t:=uo) (la:=H) (lb:=S) (λi=>.h21 i (A,()) (B,())) (.inl (.h26 0 (A,()) (B,()))) (λi=>((getD H (i:Int).toNat (zi ja)).1==(getD S (i:Int).toNat (zi ja)).1&&((getD H (i:Int).toNat (zi ja)).2==(getD S (i:Int).toNat (zi ja)).2&&Q3))) (λ_ _=>by subst l;subst m;rfl) (λi _ p u=>by rw[ztc,z7 _ _ p,z7 _ _ u]) (Uk n8) ow with⟨q8,k8⟩|⟨q8,k8⟩;rotate_left
 .exact U (λh=>q8 (by rw[<-l,<-m]at h;simp only[b5]at h;exact h.t.q.2.1)) (G _ _ (L _ _ (T _ _ k8))) ow
 rcases mj (t:=uo) (la:=j) (lb:=o) (λi=>.h26 i (A,()) (B,())) (.inl (.h31 0 (A,()) (B,()))) (λi=>((getD j (i:Int).toNat (zi zf)).1==(getD o (i:Int).toNat (zi zf)).1&&((getD j (i:Int).toNat (zi zf)).2.1==(getD o (i:Int).toNat (zi zf)).2.1&&((getD j (i:Int).toNat (zi zf)).2.2==(getD o (i:Int).toNat (zi zf)).2.2&&Q3)))) (λ_ _=>by subst l;subst m;rfl) (λi _ p u=>by rw[zma,z7 _ _ p,z7 _ _ u]) (Uk x9) ow with⟨M,D⟩|⟨M,D⟩;rotate_left
 .exact U (λh=>M (by rw[<-l,<-m]at h;simp only[b5]at h;exact h.t.t.2.1)) (G _ _ (L _ _ (T _ _ (k8 _ _ D)))) ow
 have x6:=Uk a0
 rcases OQ (t:=uo) (la:=e) (lb:=g) (λi=>.h31 (i:Int) (A,()) (B,())) x6 (λi p u=>by
  obtain⟨w1,w2⟩:=rU (a:=e[i].2) (b:=g[i].2) (hx _ (bp p));have F:(uo (.h31 (i:Int) (A,()) (B,()))).val=if(cond (!e[i].1==g[i].1) Q3 (!fz e[i].2 g[i].2))=Q3 then Q1 (.inr HH)else Q1 (.inl (.h31 ((i+1:Nat):Int) (A,()) (B,()))):=by
   subst l;subst m;show(uo (.h31 _ _ _)).val=_;simp only[uo,Q8,zm,z7 _ _ p,z7 _ _ u,zL p,zz p,zz u,w1,zh,eB];rw[zt i um];cases(!e[i].1==g[i].1)<;>rfl
  refine⟨λh=>?_,λh=>?_⟩
  .have k:=w2.2 (by rw[h]);rw[F,zg (by rw[k,h];simp)]
  .rw[F,ze];cases hh:(e[i].1==g[i].1)
   .rfl
   .cases hw:fz e[i].2 g[i].2
    .rfl
    .exact zC (Prod.ext (by simpa using hh) (w2.1 hw)) h)with⟨N,J⟩|⟨N,J⟩
 rotate_left
 .exact U (λh=>N (by rw[<-l,<-m]at h;simp only[b5]at h;exact h.t.t.q.1)) (G _ _ (L _ _ (T _ _ (k8 _ _ (D _ _ J))))) ow
 have x1:(uo (.h31 (Io e:Int) (A,()) (B,()))).val=Q1 (.inr (.kb Q3,[])):=by
  subst l;subst m;show(uo (.h31 _ _ _)).val=_;simp only[uo,Q8,zG];rfl
 refine⟨Q3,zB hi (G _ _ (L _ _ (T _ _ (k8 _ _ (D _ _ (J.ends (z6.of x1))))))) ow rfl,?_⟩;subst q4;subst q5;subst q7;subst q8;subst M;subst N;rw[<-l,<-m];simp
theorem sa{a:zJ}(h:BM a):Bu a b=Q3/\(fA a b=Q3↔a=b):=by
 obtain⟨r,x,c⟩:=PK (b:=b) h;refine⟨by unfold Bu;rw[x];rfl,?_⟩;have:fA a b=r:=by unfold fA;rw[x];rfl
 rw[this];exact c
variable {e:za}
theorem kP:ij e=Q3↔e=.mk [] (0,0,[]) [] []:=by
 obtain⟨o,⟨k,i,t⟩,s,l⟩:=e;unfold ij;show(cond (o==[]) (cond (k==0&&(i==0&&(t==[]&&Q3))) (cond (s==[]) ((↑l.length:Int)==0) Q4) Q4) Q4)=Q3↔_;simp only[za.mk.injEq,b5];constructor
 .intro h;obtain⟨x,h⟩:=cJ h;obtain⟨a,h⟩:=cJ h;obtain⟨b,h⟩:=cJ h;simp at x a b h;exact⟨x,a,b,h⟩
 .rintro⟨rfl,⟨rfl,rfl,rfl⟩,rfl,rfl⟩;rfl
theorem Wi(h:dD e=Q3):(e.op==[])=Q4:=by
 have f:=fU (ls h);clear h;cases f with
 |lit v j=>rfl
 |col s i g=>rfl
 |one o a x c=>rcases x with rfl|rfl<;>rfl
 |two o a b x c d=>rcases x with rfl|rfl|rfl|rfl|rfl|rfl<;>rfl
theorem Wj(h:dD e=Q3):nE 12 e<=60:=by
 rw[wW]at h;by_cases k:nE 12 e<=60
 .exact k
 .exfalso;rw[ae k]at h;cases cG 12 e<;>simp at h
theorem M1(a:tp e)(h:dD e=Q3):rV e=Q3/\qA e=bb 16 e/\(bb 16 e).length<=24000:=by obtain⟨x,b⟩:=rW 16 12 16 e ow ow ow (ls h) a;have x:Jn e=Q1 (bb 16 e,()):=x;have c:=Wj h;refine⟨by unfold rV;rw[x];rfl,by unfold qA;rw[x];rfl,ow⟩
def mG(w:zH)(e:za):zH:=if(e.op==[])=Q3 then[]else if dD e=Q3 then(ite ((w==ma)=Q3) (zb5++bb 16 e) (w++zb2++bb 16 e++iB))else[]
variable {w:zH}
theorem UD(d:tp e)(k:oe 16 e=Q3)(o:Io w<=1000):Bv e w=Q1 (mG w e,cg e,())/\(mG w e).length<=30000:=by
 unfold mG;by_cases a:(e.op==[])=Q3
 .rw[ze a];obtain⟨s,n⟩:=rU (b:=.mk [] (0,0,[]) [] []) k;have c:dD e=Q4:=by
   cases h:dD e
   .rfl
   .rw[Wi h]at a;cases a
  have l:fz e (.mk [] (0,0,[]) [] [])=cg e:=by
   unfold cg;rw[c];apply gU.2;rw[n,<-kP];cases ij e<;>simp
  refine⟨zO (r:=(.tup [.str [],.bool (cg e)],[])) ?_ rfl,sw⟩;simp only[Me,Q8,zm,a,s,l,zh]
 .rw[zg a];have m:ij e=Q4:=by
   cases h:ij e
   .rfl
   .rw[kP.1 h]at a;exact zC rfl a
  have g:cg e=dD e:=by unfold cg;rw[m];rfl
  have a:(e.op==[])=Q4:=by simpa using a
  rw[g];by_cases c:dD e=Q3
  .obtain⟨i,j,p⟩:=M1 d c;rw[ze c,c];by_cases x:(w==ma)=Q3
   .rw[ze x];refine⟨zO (r:=(.tup [.str (zb5++bb 16 e),.kb Q3],[])) ?_ rfl,sg⟩;simp only[Me,Q8,zm,a,nI d,rT d,c,x,i,j,zh];rw[zg sw,zg sw,ze (zy sg)]
   .rw[zg x];have x:(w==ma)=Q4:=by simpa using x
    refine⟨zO (r:=(.tup [.str (w++zb2++bb 16 e++iB),.kb Q3],[])) ?_ rfl,sg⟩;simp only[Me,Q8,zm,a,nI d,rT d,c,x,i,j,zh];rw[zg sw,zg sw,zg sw,ze (zy sg),ze (zy sg),ze (zy sg)]
  .rw[zg c];have c:dD e=Q4:=by simpa using c
   rw[c];refine⟨zO (r:=(.tup [.str [],.kb Q4],[])) ?_ rfl,sw⟩;simp only[Me,Q8,zm,a,nI d,rT d,c,zh];rfl
theorem Ep(c:tp e)(a:oe 16 e=Q3)(b:Io w<=1000):o7 e w=Q3/\uk e w=(mG w e,cg e)/\(mG w e).length<=30000:=by obtain⟨h,x⟩:=UD c a b;exact⟨by unfold o7;rw[h];rfl,by unfold uk;rw[h];rfl,x⟩
theorem Ch(h:cg e=Q3):lp [32] e=mG [] e:=by
 unfold lp mG;unfold cg at h;cases a:ij e
 .rw[a]at h;have x:dD e=Q3:=h;rw[zg sw,zg (by rw[Wi x];simp),ze x];unfold iU oB;rw[x];rfl
 .rw[ze rfl];rw[kP.1 a];rfl
theorem Hf(s x:zH):∀l:List zH,Lib.join (l++[x]) s=if l=[]then x else Lib.join l s++s++x
 |[]=>by rw[ze rfl];exact Lib.join_one x s
 |[a]=>by simp[Lib.join,List.intercalate,List.intersperse]
 | a::b::r=>by
  have i:=Hf s x (b::r);rw[zg sw]at i|-;have e:∀(c:zH)(q:List zH),Lib.join (a::c::q) s=a++s++Lib.join (c::q) s:=λc q=>by simp[Lib.join,List.intercalate,List.intersperse]
  show Lib.join (a::b::(r++[x])) s=_;rw[e,e];rw[show b::(r++[x])=(b::r)++[x]from rfl,i];simp
theorem PN{l:List zH}(y:Io l<=100)(q:∀x∈l,Io x<=1000):∃t,vZ l=Q1 (t,(Q0 (∀x∈l,zU x=Q3)&&(Q0 (1<=Io l)&&Q0 (Io l<=8))),())/\Io t<=200000/\((∀x∈l,zU x=Q3)->t=Lib.join l fh):=by
 have k:∀i,i<=Io l->(Lib.join (l.take i) fh).length<=110000:=by
  intro i a;have:=vr fh 1000 (l.take i) (λx n=>q x (List.mem_of_mem_take n));have d:(l.take i).length<=100:=by simp;omega
  have w:=gC (1000+(fh:zH).length) d;simp at this w|-;omega
 have b:∀i(a:i<Io l),(ET (.h3 l (Lib.join (l.take i) fh) (i:Int))).val=if zU l[i]=Q3 then Q1 (.inl (.h3 l (Lib.join (l.take (i+1)) fh) ((i+1:Nat):Int)))else Q1 (.inr (.tup [.str [],.kb Q4],[])):=by
  intro i a;have n:=q _ (bp a);have g:=k i ow;show(ET (.h3 _ _ _)).val=_;simp only[ET,Q8,z7 _ _ a,zL a,zz a,cr (s:=l[i]) ow,fk (s:=l[i]) ow,zh];rw[zt i um,zgZ a,Hf];by_cases c:zU l[i]=Q3
  .rw[zg (by rw[c];simp),ze c];by_cases p:i=0
   .subst p;rw[zg sw,ze (zy (by simp[Lib.join_nil];omega)),ze sw];rfl
   .rw[ze (zy ow),ze (zy sg),ze (zy sg),zg (by
     intro h;have:=congrArg Io h;simp at this;rcases this with h|h
     .exact p h
     .rw[h]at a;simp at a)]
  .rw[ze (by simpa using c),zg c]
 rcases mD (t:=ET) (Φ:=λr=>r=(.tup [.str [],.kb Q4],[])) 1 (λi=>.h3 l (Lib.join (l.take i) fh) (i:Int)) (λi=>∀h:i<Io l,zU l[i]=Q3) (Io l) (λi a _=>by
  by_cases c:zU l[i]=Q3
  .exact .inl ⟨λ_=>c,zN.of (by rw[b i a,ze c])⟩
  .exact .inr ⟨λh=>c (h a),_,z6.of (by rw[b i a,zg c]),rfl⟩)with⟨o,d⟩|⟨o,r,d,rfl⟩
 .have e:∀x∈l,zU x=Q3:=by
   intro x n;obtain⟨j,g,rfl⟩:=gD n;exact o j g g
  rw[gF]at d;have g:=k (Io l) (aj _);rw[gF]at g;refine⟨Lib.join l fh,zB (s:=.h3 l [] 0) rfl (d.ends (z6.of (r:=(.tup [.str (Lib.join l fh),.bool (cond (Q0 (1<=(↑l.length:Int))) (Q0 ((↑l.length:Int)<=8)) Q4)],[])) ?_)) ow ?_,ow,λ_=>rfl⟩
  .show(ET (.h3 _ _ _)).val=_;simp only[ET,Q8,zG];cases Q0 (1<=(↑l.length:Int))<;>rfl
  .rw[zy e];have u:Q0 (1<=(↑l.length:Int))=Q0 (1<=Io l):=by
    by_cases h:1<=Io l
    .rw[zy h];exact zy ow
    .rw[ae h];exact ae ow
   have v:Q0 ((↑l.length:Int)<=8)=Q0 (Io l<=8):=by
    by_cases h:Io l<=8
    .rw[zy h];exact zy ow
    .rw[ae h];exact ae ow
   rw[u,v];cases Q0 (1<=Io l)<;>cases Q0 (Io l<=8)<;>rfl
 .have m:¬∀x∈l,zU x=Q3:=λh=>o λi _ a=>h _ (bp a)
  refine⟨[],zB (s:=.h3 l [] 0) rfl d ow ?_,sw,λh=>zC h m⟩;rw[ae m];rfl
structure wK (s:zJ):Prop where
 sh:mF s
 chk:tp s.t.t.1
 whr:tp s.t.t.q.2.1
 cchk:oe 16 s.t.t.1=Q3
 cwhr:oe 16 s.t.t.q.2.1=Q3
 row:∀v∈s.t.t.2.1,lj v
 sets:∀x∈s.t.t.q.1,tp (x:Sem io).2/\oe 16 (x:Sem io).2=Q3
def zi8(B:Nat)(r:aw):Prop:=∃(h:zH)(b:Bool),aS r.2 [Q6,Q7] r.1=Q1 (h,b,())/\Io h<=B
theorem ztZ(h:wK s)(e:Bool)(d:zH)(o:Io d<=60000)(n:Nat)(m:30<=n):∃r,dv fK n (.h20 e d 0 (s,()))=Q1 r/\zi8 200000 r:=by
 have z:=h.sh.refs.1;refine dw (t:=fK) (β:=Bool×zH) (Io s.t.q.2.1) (λb i=>.h20 b.1 b.2 (i:Int) (s,())) (λb i=>Io b.2<=60000+2100*i) _ 1 ?_ ?_ (Io s.t.q.2.1) 0 (e,d) n rfl (aL _) (by simpa using o) ow
 .rintro⟨b,x⟩ i c a;have a:Io x<=60000+2100*i:=a;obtain⟨u,v⟩:=h.sh.refs.2 _ (bp c);have g:getD s.t.q.2.1 (i:Int).toNat (zi ja)=s.t.q.2.1[i]:=z7 _ _ c;generalize s.t.q.2.1[i]=f at g u v;refine .inl ⟨(cond b (cond (bN f.1) (bN f.2) Q4) Q4,x++(zjq++f.1++zjp++f.2)),sg,?_⟩;show(fK (.h20 _ _ _ _)).val=_;simp only[fK,Q8,g,zL c,zz c,cr (s:=f.1) ow,cr (s:=f.2) ow,zh];rw[zt i um,ze (by cases b<;>cases bN f.1<;>rfl),ze (zy sg),ze (zy sg),ze (zy sg),ze (zy sg)]
 .rintro⟨b,x⟩ n a m;have a:Io x<=60000+2100*Io s.t.q.2.1:=a;obtain⟨n,rfl⟩:∃k,n=k+1:=⟨n-1,ow⟩;obtain⟨j,l,y⟩:=Ep h.chk h.cchk (w:=[32,44]) sw;have p:(fK (.h20 b x (Io s.t.q.2.1:Int) (s,()))).val=Q1 (.inr (.tup [.str (x++mG [32,44] s.t.t.1++iB),.bool (cond b (cg s.t.t.1) Q4)],[])):=by
   show(fK (.h20 _ _ _ _)).val=_;simp only[fK,Q8,zm,zG,j,l,zh]
   rw[zg sw,ze (by
    have:Io x+(mG [32,44] s.t.t.1).length<=200000:=by omega
    simp;omega)]
   cases b<;>rfl
  rw[cK,p];exact⟨_,rfl,_,_,rfl,sg⟩
theorem ztY(h:wK s)(e:Bool)(d:zH)(l:Io d<=30000)(n:Nat)(j:60<=n):∃r,dv fK n (.h15 e d 0 (s,()))=Q1 r/\zi8 200000 r:=by
 have p:=h.sh.uniques.1;refine dw (t:=fK) (β:=Bool×zH) (Io s.t.q.1) (λb i=>.h15 b.1 b.2 (i:Int) (s,())) (λb i=>Io b.2<=30000+1100*i) _ 31 ?_ ?_ (Io s.t.q.1) 0 (e,d) n rfl (aL _) (by simpa using l) ow
 .rintro⟨b,x⟩ i c a;have a:Io x<=30000+1100*i:=a;have o:=h.sh.uniques.2 _ (bp c);have g:getD s.t.q.1 (i:Int).toNat (zi Q6)=s.t.q.1[i]:=z7 _ _ c;generalize s.t.q.1[i]=f at g o;refine .inl ⟨(cond b (bN f) Q4,x++(zjr++f++iB)),sg,?_⟩;show(fK (.h15 _ _ _ _)).val=_;simp only[fK,Q8,g,zL c,zz c,cr (s:=f) ow,zh];rw[zt i um,ze (by cases b<;>rfl),ze (zy sg),ze (zy sg),ze (zy sg)]
 .rintro⟨b,x⟩ n a j;have a:Io x<=30000+1100*Io s.t.q.1:=a;obtain⟨n,rfl⟩:∃k,n=k+1:=⟨n-1,ow⟩;have m:(fK (.h15 b x (Io s.t.q.1:Int) (s,()))).val=Q1 (.inl (.h20 b x 0 (s,()))):=by
   show(fK (.h15 _ _ _ _)).val=_;simp only[fK,Q8,zG];rfl
  rw[cK,m];exact ztZ h b x ow n ow
theorem cr4(h:wK s)(d:Bool)(u:zH)(w:Io u<=2000)(n:Nat)(j:100<=n):∃r,dv fK n (.h4 d u 0 (s,()))=Q1 r/\zi8 200000 r:=by
 have E:=h.sh.cols.1;have D:=h.sh.key;refine dw (t:=fK) (β:=zH) (Io s.t.1) (λb i=>.h4 d b (i:Int) (s,())) (λb i=>Io b<=2000+1100*i) _ 61 ?_ ?_ (Io s.t.1) 0 u n rfl (aL _) (by simpa using w) ow
 .intro x i o v;have A:=h.sh.cols.2 _ (bp o);have g:getD s.t.1 (i:Int).toNat (zi zl)=s.t.1[i]:=z7 _ _ o;generalize s.t.1[i]=f at g A
  have c:((fK (.h4 d x (i:Int) (s,()))).val=if(bif !bN f.1 then Q3 else bif Q0 (LT.lt (α:=Int) f.2.1 1)then Q3 else Q0 (GT.gt (α:=Int) f.2.1 3))=Q3 then Q1 (.inr (.tup [.str [],.kb Q4],[]))else
    Q1 (.inl (.h4 d ((ite (f.2.2=Q3) (x++(f.1++[32]++[[],Cc,Cd,Cb].getD (toNat f.2.1) (zi Q6))++zjt) (x++(f.1++[32]++[[],Cc,Cd,Cb].getD (toNat f.2.1) (zi Q6))))++fh) ((i+1:Nat):Int) (s,()))))/\
    (¬(bif !bN f.1 then Q3 else bif Q0 (LT.lt (α:=Int) f.2.1 1)then Q3 else Q0 (GT.gt (α:=Int) f.2.1 3))=Q3->([[],Cc,Cd,Cb].getD (toNat f.2.1) (zi Q6)).length<=4):=by
   have l:¬(bif !bN f.1 then Q3 else bif Q0 (LT.lt (α:=Int) f.2.1 1)then Q3 else Q0 (GT.gt (α:=Int) f.2.1 3))=Q3->zK f.2.1 4=Q3/\([[],Cc,Cd,Cb].getD (toNat f.2.1) (zi Q6)).length<=4:=by
    intro a;have m:¬LT.lt (α:=Int) f.2.1 1:=by
     intro m;rw[zy m]at a;cases p:(!bN f.1)<;>rw[p]at a<;>exact a rfl
    have C:¬GT.gt (α:=Int) f.2.1 3:=by
     intro m;rw[zy m]at a;cases p:(!bN f.1)<;>rw[p]at a<;>cases e:Q0 (LT.lt (α:=Int) f.2.1 1)<;>rw[e]at a<;>exact a rfl
    have e:@Eq Int f.2.1 1\/@Eq Int f.2.1 2\/@Eq Int f.2.1 3:=by omega
    rcases e with e|e|e<;>rw[e]<;>exact⟨rfl,by decide⟩
   refine⟨?_,λa=>(l a).2⟩;show(fK (.h4 _ _ _ _)).val=_;simp only[fK,Q8,g,zL o,zz o,cr (s:=f.1) ow,zh];by_cases a:(bif !bN f.1 then Q3 else bif Q0 (LT.lt (α:=Int) f.2.1 1)then Q3 else Q0 (GT.gt (α:=Int) f.2.1 3))=Q3
   .rw[ze a,ze a]
   .obtain⟨y,z⟩:=l a;rw[zg a,zg a,ze (zy sg)];refine(ze y).trans ?_;generalize[[],Cc,Cd,Cb].getD (toNat f.2.1) (zi Q6)=B at z;rw[ze (zy sg),ze (zy sg),zt i um];by_cases j:f.2.2=Q3
    .rw[ze j,ze j,ze (zy sg),ze (zy sg)]
    .rw[zg j,zg j,ze (zy sg)]
  obtain⟨c,q⟩:=c;by_cases a:(bif !bN f.1 then Q3 else bif Q0 (LT.lt (α:=Int) f.2.1 1)then Q3 else Q0 (GT.gt (α:=Int) f.2.1 3))=Q3
  .rw[ze a]at c;exact .inr ⟨_,c,[],Q4,rfl,sw⟩
  .rw[zg a]at c;have:=q a;generalize[[],Cc,Cd,Cb].getD (toNat f.2.1) (zi Q6)=B at c this;refine .inl ⟨_,?_,c⟩;split<;>simp<;>omega
 .intro x n v j;obtain⟨n,rfl⟩:∃k,n=k+1:=⟨n-1,ow⟩;have c:(fK (.h4 d x (Io s.t.1:Int) (s,()))).val=Q1 (.inl (.h15 d (x++(zjw++s.t.2.1++iB)) 0 (s,()))):=by
   show(fK (.h4 _ _ _ _)).val=_;simp only[fK,Q8,zG];rw[zg sw,ze (zy sg),ze (zy sg),ze (zy sg)]
  rw[cK,c];exact ztY h d _ sg n ow
theorem M5(h:wK s):∃(x:zH)(b:Bool),nJ s=Q1 (x,b,())/\Io x<=200000:=by
 have j:=h.sh.table;have i:=h.sh.key;have c:∃a,(Xn s).val=Q1 (.inl (.h4 a (zb6++s.2.1++AG) 0 (s,()))):=by
  refine⟨(cond (bN s.t.2.1) (cond (Q0 (1<=(↑(Io s.t.1):Int))) (cond (Q0 ((↑(Io s.t.1):Int)<=8)) (cond (Q0 ((↑(Io s.t.q.1):Int)<=8)) (Q0 ((↑(Io s.t.q.2.1):Int)<=8)) Q4) Q4) Q4) Q4),?_⟩;simp only[Xn,Q8,cr (s:=s.t.2.1) ow,zh];rw[ze (zy sg),ze (zy sg)]
 obtain⟨a,c⟩:=c;obtain⟨r,d,x,b,e,g⟩:=cr4 h a (zb6++s.2.1++AG) sg 100000000 ow;refine⟨x,b,?_,g⟩;unfold nJ ao bR;rw[c];show(dv fK 100000000 _).bind _=_;rw[d];exact e
theorem PG(h:wK s):rY s=Q3/\(qB s).1.length<=200000:=by obtain⟨c,b,x,a⟩:=M5 h;exact⟨by unfold rY;rw[x];rfl,by unfold qB;rw[x];exact a⟩
def zbJ(o:Option (zD (List.map Q1 [Q6,ar,Q7]))):Prop:=∃(t:zH)(h:zJ)(x:Bool),o=Q1 (t,h,x,())/\Io t<=900000/\BM h
theorem ztx{r:aw}{t:zH}{x:Bool}(d:(oE s).val=Q1 (.inr r))(c:aS r.2 [Q6,ar,Q7] r.1=Q1 (t,b,x,()))(a:Io t<=900000)(h:BM b):zbJ (eQ s):=
 ⟨t,b,x,zO d c,a,h⟩
abbrev eu:za:=.mk [] (0,0,[]) [] []
theorem Yy:oe 16 eu=Q3:=by decide+kernel
theorem fP{a:zJ}(h:wK s)(g:a.2.2.2.1=s.2.2.2.1\/a.2.2.2.1=[])(i:a.t.1=s.t.1\/a.t.1=[])(j:a.t.q.1=s.t.q.1\/a.t.q.1=[])
  (l:a.t.q.2.1=s.t.q.2.1\/a.t.q.2.1=[]) (m:a.t.t.1=s.t.t.1\/a.t.t.1=eu) (c:a.t.t.2.1=s.t.t.2.1\/a.t.t.2.1=[])
  (b:a.t.t.q.1=s.t.t.q.1\/a.t.t.q.1=[]) (d:a.t.t.q.2.1=s.t.t.q.2.1\/a.t.t.q.2.1=eu):BM a where
 names:=by have:=h.sh.names.1;rcases g with h|h<;>rw[h]<;>first|omega|simp
 cols:=by have:=h.sh.cols.1;rcases i with h|h<;>rw[h]<;>first|omega|simp
 uniques:=by have:=h.sh.uniques.1;rcases j with h|h<;>rw[h]<;>first|omega|simp
 refs:=by have:=h.sh.refs.1;rcases l with h|h<;>rw[h]<;>first|omega|simp
 row:=by have:=h.sh.row;rcases c with h|h<;>rw[h]<;>first|omega|simp
 sets:=by have:=h.sh.sets.1;rcases b with h|h<;>rw[h]<;>first|omega|simp
 chk:=by rcases m with k|k<;>rw[k];exact h.cchk;exact Yy
 whr:=by rcases d with k|k<;>rw[k];exact h.cwhr;exact Yy
 ex:=by
  rcases b with k|k<;>rw[k]
  .exact λx e=>(h.sets x e).2
  .intro x e;cases e
def S6(r:aw):Prop:=∃(t:zH)(o:zJ)(h:Bool),aS r.2 [Q6,ar,Q7] r.1=Q1 (t,o,h,())/\Io t<=900000/\BM o
theorem Do{r:aw}(t:zH)(o:zJ)(h:Bool)(x:aS r.2 [Q6,ar,Q7] r.1=Q1 (t,o,h,()))(a:Io t<=900000)(b:BM o):S6 r:=⟨t,o,h,x,a,b⟩
theorem zwi(h:wK s):∃r,dv mP 100000000 (.h15 [] 0 (s,()) ([],[],[],[],[],0,0,[],[],[],0,0,[],[],[],()) (s.1,s.2.1,[],[],[],0,0,[],[],s.t.t.2.1,[],0,0,[],[],[],()))=Q1 r/\S6 r:=by
 have u:=h.sh.row;have y:=h.sh.table;have a:BM (s.1,s.2.1,[],[],[],[],[],[],eu,s.t.t.2.1,[],eu,[]):=fP h (.inr rfl) (.inr rfl) (.inr rfl) (.inr rfl) (.inr rfl) (.inl rfl) (.inr rfl) (.inr rfl);refine dw (t:=mP) (β:=zH) (Io s.t.t.2.1) (λb i=>.h15 b (i:Int) (s,()) ([],[],[],[],[],0,0,[],[],[],0,0,[],[],[],()) (s.1,s.2.1,[],[],[],0,0,[],[],s.t.t.2.1,[],0,0,[],[],[],())) (λb i=>Io b<=400*i) _ 1 ?_ ?_ (Io s.t.t.2.1) 0 [] 100000000 rfl (aL _) sw ow
 .intro x i l o;have d:=h.row _ (bp l);have q:=yB s.t.t.2.1[i];have g:getD s.t.t.2.1 (i:Int).toNat (zi zf)=s.t.t.2.1[i]:=z7 _ _ l;generalize s.t.t.2.1[i]=v at g d q
  have e:(mP (.h15 x (i:Int) (s,()) ([],[],[],[],[],0,0,[],[],[],0,0,[],[],[],()) (s.1,s.2.1,[],[],[],0,0,[],[],s.t.t.2.1,[],0,0,[],[],[],()))).val=if bh v=Q3 then Q1 (.inl (.h15 ((ite ((i:Int)>0) (x++fh) x)++ip v) ((i+1:Nat):Int) (s,()) ([],[],[],[],[],0,0,[],[],[],0,0,[],[],[],()) (s.1,s.2.1,[],[],[],0,0,[],[],s.t.t.2.1,[],0,0,[],[],[],())))else
    Q1 (.inr (.tup [.str [],.agg [.str s.1,.str s.2.1,.str [],.nils,.nils,.str [],.nils,.nils,.str [],.int .i64 0,.int .i64 0,.str [],.str [],.nils,.sl zf s.t.t.2.1,.nils,.str [],.int .i64 0,.int .i64 0,.str [],.str [],.nils,.str []],.kb Q4],[])):=by
   show(mP (.h15 _ _ _ _ _)).val=_;simp only[mP,Q8,g,zL l,zz l,lH d.2.2,oP d.2.2,Hw d,MZ d,zh];rw[zt i um];by_cases m:bh v=Q3
   .rw[zg (by rw[m];simp),ze m];by_cases j:(i:Int)>0
    .rw[ze (zy j),ze j,ze (zy sg),ze (zy sg)]
    .rw[zg (by simpa using j),zg j,ze (zy ow)]
   .rw[ze (by simpa using m),zg m]
  by_cases m:bh v=Q3
  .rw[ze m]at e;refine .inl ⟨_,?_,e⟩;split<;>simp<;>omega
  .rw[zg m]at e;exact .inr ⟨_,e,Do [] _ Q4 rfl sw a⟩
 .intro x n o w;obtain⟨n,rfl⟩:∃k,n=k+1:=⟨n-1,ow⟩
  have e:∃b,(mP (.h15 x (Io s.t.t.2.1:Int) (s,()) ([],[],[],[],[],0,0,[],[],[],0,0,[],[],[],()) (s.1,s.2.1,[],[],[],0,0,[],[],s.t.t.2.1,[],0,0,[],[],[],()))).val=
    Q1 (.inr (.tup [.str (VO++s.2.1++zb4++x++iB),.agg [.str s.1,.str s.2.1,.str [],.nils,.nils,.str [],.nils,.nils,.str [],.int .i64 0,.int .i64 0,.str [],.str [],.nils,.sl zf s.t.t.2.1,.nils,.str [],.int .i64 0,.int .i64 0,.str [],.str [],.nils,.str []],b],[]))/\(b=.kb Q4\/∃c,b=.bool c):=by
   show∃b,(mP (.h15 _ _ _ _ _)).val=_/\_;simp only[mP,Q8,zG];rw[zg sw,ze (zy sg),ze (zy sg),ze (zy sg),ze (zy sg)];split
   .exact⟨_,rfl,.inr ⟨_,rfl⟩⟩
   .exact⟨_,rfl,.inl rfl⟩
  obtain⟨b,e,p⟩:=e;rw[cK,e];rcases p with rfl|⟨c,rfl⟩
  .exact⟨_,rfl,Do _ _ Q4 rfl sg a⟩
  .exact⟨_,rfl,Do _ _ c rfl sg a⟩
theorem zwj(h:wK s)(a:zH)(d:Bool)(h8:Io a<=30000):∃r,dv mP 100000000 (.h27 a d [] 0 (s,()) ([],[],[],[],[],0,0,[],[],[],0,0,[],[],[],()) (s.1,s.2.1,[],[],[],0,0,[],[],s.t.t.q.1,s.t.t.q.2.1,[],()))=Q1 r/\S6 r:=by
 have hl:=h.sh.sets.1;have ht:=h.sh.table;have c:BM (s.1,s.2.1,[],[],[],[],[],[],eu,[],s.t.t.q.1,s.t.t.q.2.1,[]):=fP h (.inr rfl) (.inr rfl) (.inr rfl) (.inr rfl) (.inr rfl) (.inr rfl) (.inl rfl) (.inl rfl);generalize hZ:(([],[],[],[],[],0,0,[],[],[],0,0,[],[],[],()):zn jg)=Z;generalize I:((s.1,s.2.1,[],[],[],0,0,[],[],s.t.t.q.1,s.t.t.q.2.1,[],()):zn zjH)=V
 have p:∀(t:zH)(o:Bool)(b:AV),(b=.bool o\/(b=.kb Q4/\o=Q4))->aS [] [Q6,ar,Q7] (.tup [.str t,.agg [.str V.1,.str V.2.1,.str V.2.2.1,.nils,.nils,.str V.2.2.2.1,.nils,.nils,.str V.t.1,.int .i64 V.t.2.1,.int .i64 V.t.q.1,.str V.t.q.2.1,.str V.t.t.1,.nils,.nils,
   .sl (Sh.str.pr Q5) V.t.t.2.1,.str (za.op V.t.t.q.1),.int .i64 (za.v V.t.t.q.1).1,.int .i64 (za.v V.t.t.q.1).2.1,.str (za.v V.t.t.q.1).2.2,.str (za.s V.t.t.q.1),.sl Q5 (za.l V.t.t.q.1),.str V.t.t.q.2.1],b])=
   Q1 (t,(s.1,s.2.1,[],[],[],[],[],[],eu,[],s.t.t.q.1,s.t.t.q.2.1,[]),o,()):=by
  intro t o b A;subst I;obtain⟨s1,s2,s3,s4,s5,s6,s7,a,s9,N,O,⟨U,W,X,Y⟩,P⟩:=s;rcases A with rfl|⟨rfl,rfl⟩<;>rfl
 refine dw (t:=mP) (β:=zH) (Io s.t.t.q.1) (λb i=>.h27 a d b (i:Int) (s,()) Z V) (λb i=>Io b<=26000*i) _ 1 ?_ ?_ (Io s.t.t.q.1) 0 [] 100000000 rfl (aL _) sw ow
 .intro x i j H;obtain⟨y,B⟩:=h.sets _ (bp j);have C:=h.sh.sets.2 _ (bp j);have g:getD s.t.t.q.1 (i:Int).toNat (zi io)=s.t.t.q.1[i]:=z7 _ _ j;generalize s.t.t.q.1[i]=v at g y B C;have e:(¬(bN v.1=Q3/\dD v.2=Q3)/\∃r,(mP (.h27 a d x (i:Int) (s,()) Z V)).val=Q1 (.inr r)/\S6 r)\/∃u:zH,Io u<=Io x+26000/\(mP (.h27 a d x (i:Int) (s,()) Z V)).val=Q1 (.inl (.h27 a d u ((i+1:Nat):Int) (s,()) Z V)):=by
   show(_/\∃r,(mP (.h27 _ _ _ _ _ _ _)).val=_/\_)\/∃u:zH,_/\(mP (.h27 _ _ _ _ _ _ _)).val=_;simp only[mP,Q8,g,zm,zL j,zz j,cr (s:=v.1) ow,nI y,rT y,zh,eB];have L:(cond (!bN v.1) Q3 Q3)=Q3:=by cases bN v.1<;>rfl
   rw[L];by_cases m:bN v.1=Q3/\dD v.2=Q3
   .obtain⟨M,E⟩:=m;obtain⟨S,T,t3⟩:=M1 y E;refine .inr ⟨(ite ((i:Int)>0) (x++fh) x)++(v.1++zjs++bb 16 v.2),by split<;>simp<;>omega,?_⟩;simp only[M,E,S,T,zh,ci,aA,zE,zp];rw[zt i um];by_cases w:(i:Int)>0
    .rw[ze (zy w),ze w,ze (zy sg),ze (zy sg),ze (zy sg),ze (zy sg)]
    .rw[zg (by simpa using w),zg w,ze (zy sg),ze (zy sg),ze (zy sg)]
   .refine .inl ⟨m,?_⟩;have J:(cond (!bN v.1) Q3 (!dD v.2))=Q3:=by
     cases F:bN v.1
     .rfl
     .cases G:dD v.2
      .rfl
      .exact zC ⟨F,G⟩ m
    rw[ze rfl,ze J];exact⟨_,rfl,Do [] _ Q4 (p [] Q4 _ (.inr ⟨rfl,rfl⟩)) sw c⟩
  rcases e with⟨_,r,D,z⟩|⟨u,D,z⟩
  .exact .inr ⟨r,D,z⟩
  .exact .inl ⟨u,ow,z⟩
 .intro x n H hn;obtain⟨n,rfl⟩:∃k,n=k+1:=⟨n-1,ow⟩
  have e:∃b o,(mP (.h27 a d x (Io s.t.t.q.1:Int) (s,()) Z V)).val=
    Q1 (.inr (.tup [.str (VR++s.2.1++zb3++x++a),.agg [.str V.1,.str V.2.1,.str V.2.2.1,.nils,.nils,.str V.2.2.2.1,.nils,.nils,.str V.t.1,.int .i64 V.t.2.1,.int .i64 V.t.q.1,.str V.t.q.2.1,.str V.t.t.1,.nils,.nils,
   .sl (Sh.str.pr Q5) V.t.t.2.1,.str (za.op V.t.t.q.1),.int .i64 (za.v V.t.t.q.1).1,.int .i64 (za.v V.t.t.q.1).2.1,.str (za.v V.t.t.q.1).2.2,.str (za.s V.t.t.q.1),.sl Q5 (za.l V.t.t.q.1),.str V.t.t.q.2.1],b],[]))/\(b=.bool o\/(b=.kb Q4/\o=Q4)):=by
   show∃b o,(mP (.h27 _ _ _ _ _ _ _)).val=_/\_;simp only[mP,Q8,zG];rw[zg sw,ze (zy sg),ze (zy sg),ze (zy sg),ze (zy sg)];split
   .split
    .exact⟨_,_,rfl,.inl rfl⟩
    .exact⟨_,Q4,rfl,.inr ⟨rfl,rfl⟩⟩
   .exact⟨_,Q4,rfl,.inr ⟨rfl,rfl⟩⟩
  obtain⟨b,o,e,A⟩:=e;rw[cK,e];exact⟨_,rfl,Do _ _ o (p _ o b A) sg c⟩
theorem wrP(h:wK s):(o7 s.t.t.1 []=Q3/\uk s.t.t.1 []=(mG [] s.t.t.1,cg s.t.t.1)/\(mG [] s.t.t.1).length<=30000)/\
  (o7 s.t.t.q.2.1 ma=Q3/\uk s.t.t.q.2.1 ma=(mG ma s.t.t.q.2.1,cg s.t.t.q.2.1)/\(mG ma s.t.t.q.2.1).length<=30000)/\
  s.2.1.length<=1000/\Io s.t.t.t<=1000/\Io s.2.2.1<=1000/\Io s.t.2.1<=1000:=
 ⟨Ep h.chk h.cchk sw,Ep h.whr h.cwhr sw,h.sh.table,h.sh.role,h.sh.other,h.sh.key⟩
def Qk(s:zJ):zH:=VP++s.2.1++ln++s.2.2.1++AG++Lib.join s.2.2.2.1 fh++iB++mG [] s.t.t.1
def lD(s:zJ):Bool:=(Q0 (∀x∈s.2.2.2.1,zU x=Q3)&&(Q0 (1<=Io s.2.2.2.1)&&Q0 (Io s.2.2.2.1<=8)))&&(cg s.t.t.1&&zU s.2.2.1)
theorem SP(h:wK s)(o:s.1=dj):∃t,eQ s=Q1 (t,(s.1,s.2.1,s.2.2.1,s.2.2.2.1,[],[],[],[],s.t.t.1,[],[],eu,[]),lD s,())/\Io t<=900000/\(lD s=Q3->t=Qk s):=by
 obtain⟨⟨j,k,J⟩,⟨m,L,M⟩,ht,Z,Y,c⟩:=wrP h;obtain⟨w,y,z,A,B,C,_,_,_,_,D⟩:=zdr o;obtain⟨t,n,n2,p⟩:=PN (l:=s.2.2.2.1) (by have:=h.sh.names.1;omega) h.sh.names.2;have q:Er s.2.2.2.1=Q3:=by unfold Er;rw[n];rfl
 have u:JL s.2.2.2.1=(t,(Q0 (∀x∈s.2.2.2.1,zU x=Q3)&&(Q0 (1<=Io s.2.2.2.1)&&Q0 (Io s.2.2.2.1<=8)))):=by unfold JL;rw[n];rfl
 have H:=cr (s:=s.2.2.1) ow;have I:=fk (s:=s.2.2.1) ow;refine⟨VP++s.2.1++ln++s.2.2.1++AG++t++iB++mG [] s.t.t.1,?_,sg,?_⟩
 .have d:∃b,(oE s).val=Q1 (.inr (.tup [.str (VP++s.2.1++ln++s.2.2.1++AG++t++iB++mG [] s.t.t.1),.agg [.str s.1,.str s.2.1,.str s.2.2.1,.sl Q6 s.2.2.2.1,.nils,.str [],.nils,.nils,.str (za.op s.t.t.1),.int .i64 (za.v s.t.t.1).1,.int .i64 (za.v s.t.t.1).2.1,.str (za.v s.t.t.1).2.2,.str (za.s s.t.t.1),
    .sl Q5 (za.l s.t.t.1),.nils,.nils,.str [],.int .i64 0,.int .i64 0,.str [],.str [],.nils,.str []],b],[]))/\(b=.bool (lD s)\/(b=.kb Q4/\lD s=Q4)):=by
   unfold lD;simp only[oE,Q8,zm,j,m,w,y,z,A,B,C,D,q,u,k,H,I,zh,zE,zp]
   iterate 7 rw[ze (zy sg)]
   generalize(Q0 (∀x∈s.2.2.2.1,zU x=Q3)&&(Q0 (1<=Io s.2.2.2.1)&&Q0 (Io s.2.2.2.1<=8)))=g;generalize cg s.t.t.1=i;cases g
   .exact⟨_,rfl,.inr ⟨rfl,rfl⟩⟩
   .cases i
    .exact⟨_,rfl,.inr ⟨rfl,rfl⟩⟩
    .exact⟨_,rfl,.inl rfl⟩
  obtain⟨b,d,e⟩:=d;refine zO d ?_;clear d;obtain⟨s1,s2,s3,s4,s5,s6,s7,s8,⟨N,O,P,S⟩,E,F,⟨T,U,W,X⟩,G⟩:=s;rcases e with rfl|⟨rfl,e⟩
  .rfl
  .rw[e];rfl
 .intro c;have a:∀x∈s.2.2.2.1,zU x=Q3:=by
   unfold lD at c;simp only[aF,aR]at c;exact c.1.1
  rw[p a];rfl
def qQ(s:zJ):zH:=zjy++s.2.1++ln++s.2.2.1++fh++s.t.t.t++AH++s.t.2.1++mG [] s.t.t.1
def oL(s:zJ):Bool:=cg s.t.t.1&&(zU s.2.2.1&&(zU s.t.t.t&&zU s.t.2.1))
theorem SQ(h:wK s)(o:s.1=gj):eQ s=Q1 (qQ s,(s.1,s.2.1,s.2.2.1,[],[],s.t.2.1,[],[],s.t.t.1,[],[],eu,s.t.t.t),oL s,())/\(qQ s).length<=900000:=by
 obtain⟨⟨g,i,I⟩,⟨j,J,L⟩,ht,Z,Y,X⟩:=wrP h;obtain⟨q,k,m,n,p,u,_,_,_,_,w,y⟩:=zds o;have C:=cr (s:=s.2.2.1) ow;have D:=fk (s:=s.2.2.1) ow;have E:=cr (s:=s.t.t.t) ow;have F:=fk (s:=s.t.t.t) ow;have G:=cr (s:=s.t.2.1) ow;have H:=fk (s:=s.t.2.1) ow;refine⟨?_,by unfold qQ;simp;omega⟩
 have x:∃b,(oE s).val=Q1 (.inr (.tup [.str (qQ s),.agg [.str s.1,.str s.2.1,.str s.2.2.1,.nils,.nils,.str s.t.2.1,.nils,.nils,.str (za.op s.t.t.1),.int .i64 (za.v s.t.t.1).1,.int .i64 (za.v s.t.t.1).2.1,.str (za.v s.t.t.1).2.2,.str (za.s s.t.t.1),
    .sl Q5 (za.l s.t.t.1),.nils,.nils,.str [],.int .i64 0,.int .i64 0,.str [],.str [],.nils,.str s.t.t.t],b],[]))/\(b=.bool (oL s)\/(b=.kb Q4/\oL s=Q4)):=by
  unfold oL qQ;simp only[oE,Q8,zm,g,j,q,k,m,n,p,u,w,y,i,C,D,E,F,G,H,zh,zE,zp]
  iterate 8 rw[ze (zy sg)]
  generalize cg s.t.t.1=c;generalize zU s.2.2.1=d;generalize zU s.t.t.t=e;cases c
  .exact⟨_,rfl,.inr ⟨rfl,rfl⟩⟩
  .cases d
   .exact⟨_,rfl,.inr ⟨rfl,rfl⟩⟩
   .cases e
    .exact⟨_,rfl,.inr ⟨rfl,rfl⟩⟩
    .exact⟨_,rfl,.inl rfl⟩
 obtain⟨b,x,a⟩:=x;refine zO x ?_;clear x;generalize qQ s=tx;obtain⟨s1,s2,s3,s4,s5,s6,s7,s8,⟨M,N,O,P⟩,z,A,⟨S,T,U,W⟩,B⟩:=s;rcases a with rfl|⟨rfl,a⟩
 .rfl
 .rw[a];rfl
def mA(s:zJ):zH:=zjx++s.2.1++ln++s.2.2.1++Td++s.2.2.2.1.getD 0 []++Te++s.2.2.2.1.getD 1 []++mG [] s.t.t.1
def g7(s:zJ):Bool:=Q0 (Io s.2.2.2.1=2)&&(cg s.t.t.1&&(zU s.2.2.1&&(zU (s.2.2.2.1.getD 0 [])&&zU (s.2.2.2.1.getD 1 []))))
theorem NS(h:wK s)(o:s.1=lm):∃t,eQ s=Q1 (t,(s.1,s.2.1,s.2.2.1,s.2.2.2.1,[],[],[],[],s.t.t.1,[],[],eu,[]),g7 s,())/\Io t<=900000/\(g7 s=Q3->t=mA s):=by
 obtain⟨⟨m,T,c3⟩,⟨p,d2,d3⟩,ht,hr,ho,hk⟩:=wrP h;obtain⟨z,A,B,C,D,E,_,_,_,_,F,G,H⟩:=Y0 o;have w1:=cr (s:=s.2.2.1) ow;have w2:=fk (s:=s.2.2.1) ow;by_cases x:Io s.2.2.2.1=2
 .have e:((↑(Io s.2.2.2.1):Int)!=2)=Q4:=by rw[x];rfl
  have n0:(s.2.2.2.1.getD 0 []).length<=1000:=by
   rw[aZ,zZ ow,bM];exact h.sh.names.2 _ (bp _)
  have n:(s.2.2.2.1.getD 1 []).length<=1000:=by
   rw[aZ,zZ ow,bM];exact h.sh.names.2 _ (bp _)
  have w:zK 0 (Io s.2.2.2.1)=Q3:=by rw[x];rfl
  have y:zK 1 (Io s.2.2.2.1)=Q3:=by rw[x];rfl
  have q:getD s.2.2.2.1 (toNat 0) (zi Q6)=s.2.2.2.1.getD 0 []:=rfl;have g:getD s.2.2.2.1 (toNat 1) (zi Q6)=s.2.2.2.1.getD 1 []:=rfl;have I:=cr (s:=s.2.2.2.1.getD 0 []) ow;have J:=fk (s:=s.2.2.2.1.getD 0 []) ow;have L:=cr (s:=s.2.2.2.1.getD 1 []) ow;have M:=fk (s:=s.2.2.2.1.getD 1 []) ow;refine⟨mA s,?_,by unfold mA;simp at n0 n|-;omega,λ_=>rfl⟩
  have c:∃b,(oE s).val=Q1 (.inr (.tup [.str (mA s),.agg [.str s.1,.str s.2.1,.str s.2.2.1,.sl Q6 s.2.2.2.1,.nils,.str [],.nils,.nils,.str (za.op s.t.t.1),.int .i64 (za.v s.t.t.1).1,.int .i64 (za.v s.t.t.1).2.1,.str (za.v s.t.t.1).2.2,.str (za.s s.t.t.1),
    .sl Q5 (za.l s.t.t.1),.nils,.nils,.str [],.int .i64 0,.int .i64 0,.str [],.str [],.nils,.str []],b],[]))/\(b=.bool (g7 s)\/(b=.kb Q4/\g7 s=Q4)):=by
   unfold g7 mA;rw[zy x];simp only[oE,Q8,zm,m,p,z,A,B,C,D,E,F,G,H,T,w1,w2,q,g,I,J,L,M,e,w,y,zh,zE,zp];generalize s.2.2.2.1.getD 0 []=N at n0;generalize s.2.2.2.1.getD 1 []=a1 at n
   iterate 8 rw[ze (zy sg)]
   generalize cg s.t.t.1=O;generalize zU s.2.2.1=P;generalize zU N=S;cases O
   .exact⟨_,rfl,.inr ⟨rfl,rfl⟩⟩
   .cases P
    .exact⟨_,rfl,.inr ⟨rfl,rfl⟩⟩
    .cases S
     .exact⟨_,rfl,.inr ⟨rfl,rfl⟩⟩
     .exact⟨_,rfl,.inl rfl⟩
  obtain⟨b,c,d⟩:=c;refine zO c ?_;clear c;generalize mA s=tx;clear n0 n w y q g I J L M;obtain⟨s1,s2,s3,s4,s5,s6,s7,s8,⟨U,W,X,Y⟩,i,j,⟨g,Z,g3,g4⟩,k⟩:=s;rcases d with rfl|⟨rfl,d⟩
  .rfl
  .rw[d];rfl
 .have e:((↑(Io s.2.2.2.1):Int)!=2)=Q3:=by
   simp only[bne_iff_ne];omega
  have a:g7 s=Q4:=by unfold g7;rw[ae x];rfl
  refine⟨[],?_,sw,λu=>by rw[a]at u;cases u⟩;rw[a]
  refine zO (r:=(.tup [.str [],.agg [.str s.1,.str s.2.1,.str s.2.2.1,.sl Q6 s.2.2.2.1,.nils,.str [],.nils,.nils,.str (za.op s.t.t.1),.int .i64 (za.v s.t.t.1).1,.int .i64 (za.v s.t.t.1).2.1,.str (za.v s.t.t.1).2.2,.str (za.s s.t.t.1),
    .sl Q5 (za.l s.t.t.1),.nils,.nils,.str [],.int .i64 0,.int .i64 0,.str [],.str [],.nils,.str []],.kb Q4],[])) ?_ ?_
  .simp only[oE,Q8,zm,m,p,z,A,B,C,D,E,F,G,H,e,zh,zE,zp]
  .obtain⟨s1,s2,s3,s4,s5,s6,s7,s8,⟨U,W,X,Y⟩,i,j,⟨g,Z,g3,g4⟩,k⟩:=s;rfl
theorem ld(h:∃r,(oE s).val=Q1 (.inr r)/\S6 r):zbJ (eQ s):=by obtain⟨r,x,t,o,d,a,b,c⟩:=h;exact ztx x a b c
theorem Fg{x:BS}(a:(oE s).val=Q1 (.inl x))(h:∃r,dv mP 100000000 x=Q1 r/\S6 r):zbJ (eQ s):=by obtain⟨r,h,t,o,e,b,c,d⟩:=h;refine⟨t,o,e,?_,c,d⟩;unfold eQ ao bR;rw[a];show(dv mP 100000000 x).bind _=_;rw[h];exact b
theorem PO(h:wK s):zbJ (eQ s):=by
 by_cases F:s.1=dj
 .obtain⟨t,b,g,_⟩:=SP h F;exact⟨t,_,_,b,g,fP h (.inl rfl) (.inr rfl) (.inr rfl) (.inr rfl) (.inl rfl) (.inr rfl) (.inr rfl) (.inr rfl)⟩
 by_cases G:s.1=gj
 .obtain⟨b,g⟩:=SQ h G;exact⟨_,_,_,b,g,fP h (.inr rfl) (.inr rfl) (.inr rfl) (.inr rfl) (.inl rfl) (.inr rfl) (.inr rfl) (.inr rfl)⟩
 by_cases H:s.1=lm
 .obtain⟨t,b,g,_⟩:=NS h H;exact⟨t,_,_,b,g,fP h (.inl rfl) (.inr rfl) (.inr rfl) (.inr rfl) (.inl rfl) (.inr rfl) (.inr rfl) (.inr rfl)⟩
 obtain⟨⟨c,c2,c3⟩,⟨d,n,U⟩,ht,hr,ho,hk⟩:=wrP h;have Y:¬(s.1==dj)=Q3:=λe=>F (bF e)
 have Z:¬(s.1==gj)=Q3:=λe=>G (bF e)
 have q8:¬(s.1==lm)=Q3:=λe=>H (bF e)
 by_cases x:(s.1==Oi)=Q3
 .refine ld ?_;simp only[oE,Q8,zm,c,d,x,zh];obtain⟨W,e2⟩:=PG h;have X:rY (s.1,s.2.1,s.2.2.1,s.2.2.2.1,s.t.1,s.t.2.1,s.t.q.1,s.t.q.2.1,s.t.t.1,s.t.t.2.1,s.t.t.q.1,s.t.t.q.2.1,s.t.t.t)=Q3:=W;rw[ze X];refine⟨_,rfl,Do (qB s).1 (s.1,s.2.1,[],[],s.t.1,s.t.2.1,s.t.q.1,s.t.q.2.1,s.t.t.1,[],[],eu,[]) (qB s).2 ?_ ow (fP h (.inr rfl) (.inl rfl) (.inl rfl) (.inl rfl) (.inl rfl) (.inr rfl) (.inr rfl) (.inr rfl))⟩;obtain⟨J,L,M,N,O,P,S,T,⟨w,y,z,A⟩,j,k,⟨B,C,D,E⟩,l⟩:=s;rfl
 by_cases a:(s.1==bl1)=Q3
 .refine ld ?_;simp only[oE,Q8,zm,c,d,x,a,zh,zE,zp];rw[ze (zy sg)];exact⟨_,rfl,Do _ (s.1,s.2.1,[],[],[],[],[],[],eu,[],[],eu,[]) Q3 rfl sg (fP h (.inr rfl) (.inr rfl) (.inr rfl) (.inr rfl) (.inr rfl) (.inr rfl) (.inr rfl) (.inr rfl))⟩
 by_cases i:(s.1==bl3)=Q3
 .refine Fg ?_ (zwi h);simp only[oE,Q8,zm,c,d,x,a,i,zh,zE,zp]
 by_cases m:(s.1==K8)=Q3
 .refine Fg ?_ (zwj h (mG ma s.t.t.q.2.1) (cg s.t.t.q.2.1) U);simp only[oE,Q8,zm,c,d,n,x,a,i,m,zh,zE,zp]
 by_cases v:(s.1==bl0)=Q3
 .refine ld ?_;simp only[oE,Q8,zm,c,d,x,a,i,m,v,zh,zE,zp];rw[n,ze (zy sg),ze (zy sg)];refine⟨_,rfl,Do (zb8++s.2.1++mG ma s.t.t.q.2.1) (s.1,s.2.1,[],[],[],[],[],[],eu,[],[],s.t.t.q.2.1,[]) (cg s.t.t.q.2.1) ?_ ?_ (fP h (.inr rfl) (.inr rfl) (.inr rfl) (.inr rfl) (.inr rfl) (.inr rfl) (.inr rfl) (.inl rfl))⟩;rotate_left 2
  .obtain⟨J,L,M,N,O,P,S,T,⟨w,y,z,A⟩,j,k,⟨B,C,D,E⟩,l⟩:=s;rfl
  .simp;omega
 by_cases I:(s.1==Ii)=Q3
 .refine ld ?_;simp only[oE,Q8,zm,c,d,x,a,i,m,v,I,zh,zE,zp];rw[n,ze (zy sg),ze (zy sg)];refine⟨_,rfl,Do (zch++s.2.1++mG ma s.t.t.q.2.1) (s.1,s.2.1,[],[],[],[],[],[],eu,[],[],s.t.t.q.2.1,[]) (cg s.t.t.q.2.1) ?_ ?_ (fP h (.inr rfl) (.inr rfl) (.inr rfl) (.inr rfl) (.inr rfl) (.inr rfl) (.inr rfl) (.inl rfl))⟩;rotate_left 2
  .obtain⟨J,L,M,N,O,P,S,T,⟨w,y,z,A⟩,j,k,⟨B,C,D,E⟩,l⟩:=s;rfl
  .simp;omega
 by_cases q9:(s.1==bl9)=Q3;rotate_left;by_cases o:(s.1==Oe)=Q3;rotate_left;by_cases p:(s.1==Oc)=Q3;rotate_left;by_cases u:(s.1==Od)=Q3;rotate_left
 .refine ld ?_;simp only[oE,Q8,zm,c,d,x,a,i,m,v,I,Y,Z,q8,q9,o,p,u,zh,zE,zp];exact⟨_,rfl,Do _ (s.1,s.2.1,[],[],[],[],[],[],eu,[],[],eu,[]) Q4 rfl sw (fP h (.inr rfl) (.inr rfl) (.inr rfl) (.inr rfl) (.inr rfl) (.inr rfl) (.inr rfl) (.inr rfl))⟩
 all_goals
  refine ld ?_;simp only[oE,Q8,zm, *,zh,zE,zp];rw[ze (zy sg),ze (zy sg),ze (zy sg),ze (cr (s:=s.t.t.t) ow)];exact⟨_,rfl,Do _ (s.1,s.2.1,[],[],[],[],[],[],eu,[],[],eu,s.t.t.t) (bN s.t.t.t) rfl sg (fP h (.inr rfl) (.inr rfl) (.inr rfl) (.inr rfl) (.inr rfl) (.inr rfl) (.inr rfl) (.inr rfl))⟩
theorem zgH(p:Int->Bool):∀s:zH,cY p s=Io s↔∀c∈s,p c.toNat=Q3
 |[]=>by simp[cY]
 | c::r=>by
  have a:=A8 p r;have x:=zgH p r;rw[cY];by_cases h:p c.toNat=Q3
  .rw[ze h];simp[h,x]
  .rw[zg h];simp[h]
theorem zv4(p:Int->Bool)(s:zH):bv p p s=Io s↔∀c∈s,p c.toNat=Q3:=by
 cases s with
 |nil=>simp[bv]
 | cons c r=>
  have a:=A8 p r;have x:=zgH p r;rw[bv];by_cases h:p c.toNat=Q3
  .rw[ze h];simp[h,x]
  .rw[zg h];simp[h]
theorem zdR:∀s:zH,(cond ((↑(Io s):Int)==1) (Q0 (0<=Lib.indexByte zju (List.headD s 0))) Q4)=
  (cond (s==[40]) Q3 (cond (s==[41]) Q3 (cond (s==[44]) Q3 (cond (s==[61]) Q3 (cond (s==[60]) Q3 (cond (s==[43]) Q3 (cond (s==[45]) Q3 (s==[42]))))))))
 |[]=>rfl
 | a::b::r=>by
  have e:((((a::b::r).length:Nat):Int)==1)=Q4:=dB.2 sg;rw[e];simp
 | [c]=>by
  by_cases h:c=40
  .subst h;rfl
  by_cases x:c=41
  .subst x;rfl
  by_cases d:c=44
  .subst d;rfl
  by_cases g:c=61
  .subst g;rfl
  by_cases i:c=60
  .subst i;rfl
  by_cases j:c=43
  .subst j;rfl
  by_cases k:c=45
  .subst k;rfl
  by_cases l:c=42
  .subst l;rfl
  simp[Lib.indexByte,h,x,d,g,i,j,k,l,Ne.symm h,Ne.symm x,Ne.symm d,Ne.symm g,Ne.symm i,Ne.symm j,Ne.symm k,Ne.symm l]
variable {t:dd}
theorem Nb(x:Io t.2<=1000000):JG t=Q1 (cV t,()):=by
 obtain⟨k,s⟩:=t;have x:Io s<=1000000:=x;by_cases m:k=(1:Int)
 .subst m;refine zO (r:=(.bool (eo s),[])) ?_ ?_
  .simp only[Mf,Q8,ye x,Ei x];rfl
  .rfl
 by_cases n:k=(2:Int)
 .subst n;have a:(Mf ((2,s):dd)).val=Q1 (.inl (.h6 ((0:Nat):Int) ((2,s),()))):=rfl;have E:=mD (t:=wu) (Φ:=λr=>r=(.kb Q4,[])) 1 (λi=>.h6 (i:Int) ((2,s),())) (λi=>au (getD s i 0).toNat=Q3) (Io s) (by
   intro i a _;have w:(wu (.h6 (i:Int) ((2,s),()))).val=if(!au (getD s i 0).toNat)=Q3 then Q1 (.inr (.kb Q4,[]))else Q1 (.inl (.h6 ((i+1:Nat):Int) ((2,s),()))):=by
    show(wu (.h6 _ _)).val=_;unfold wu;simp only[Q8,zL a,zz a,aK,ju,kY,zh];rw[zt i um]
   by_cases h:au (getD s i 0).toNat=Q3
   .exact .inl ⟨h,zN.of (by rw[w,zg (by rw[h];simp)])⟩
   .exact .inr ⟨h,_,z6.of (by rw[w,ze (by simpa using h)]),rfl⟩)
  have q:=aD (l:=s) (d:=0) (Q:=λc=>au c.toNat=Q3);have u:=zv4 au s;have j:cV ((2,s):dd)=(cond (Q0 ((↑(Io s):Int)>=1)) (cond (Q0 ((↑(Io s):Int)<=19)) ((↑(bv au au s):Int)==(↑(Io s):Int)) Q4) Q4):=rfl;rw[j];rcases E with⟨b,g⟩|⟨b,r,g,rfl⟩
  .have e:((↑(bv au au s):Int)==(↑(Io s):Int))=Q3:=by rw[u.2 (q.1 b)];simp
   rw[e];refine zB a (g.ends (z6.of (r:=(.bool (cond (Q0 (1<=(Io s:Int))) (Q0 ((Io s:Int)<=19)) Q4),[])) ?_)) ow ?_
   .show(wu (.h6 _ _)).val=_;unfold wu;simp only[Q8,zG];rfl
   .show Q1 _=Q1 _;rw[show Q0 ((↑(Io s):Int)>=1)=Q0 (1<=(Io s:Int))from rfl];cases Q0 ((Io s:Int)<=19)<;>rfl
  .have e:((↑(bv au au s):Int)==(↑(Io s):Int))=Q4:=by
    rw[dB];intro h;exact b (q.2 (u.1 ow))
   rw[e];refine zB a g ow ?_;show Q1 _=Q1 _;cases Q0 ((↑(Io s):Int)>=1)<;>cases Q0 ((↑(Io s):Int)<=19)<;>rfl
 by_cases y:k=(3:Int)
 .subst y;refine zO (r:=(.bool (bh (2,0,s)),[])) ?_ ?_
  .simp only[Mf,Q8,lH (v:=(2,0,s)) x,oP (v:=(2,0,s)) x];rfl
  .rfl
 by_cases z:k=(4:Int)
 .subst z;have F:=zdR s;refine zO (r:=(.bool _,[])) rfl ?_;show Q1 _=Q1 _;rw[show cV ((4,s):dd)=_ from F]
 have A:(k==1)=Q4:=dB.2 m;have B:(k==2)=Q4:=dB.2 n;have o:(k==3)=Q4:=dB.2 y;have p:(k==4)=Q4:=dB.2 z;have C:((1:Int)==k)=Q4:=dB.2 (Ne.symm m);have D:((2:Int)==k)=Q4:=dB.2 (Ne.symm n);have j:cV ((k,s):dd)=Q4:=by
  unfold cV;simp[o,p,C,D]
 rw[j];refine zO (r:=(.kb Q4,[])) ?_ rfl;simp only[Mf,Q8,A,B,o,p];rfl
theorem vS(h:Io t.2<=1000000):mJ t=Q3:=by unfold mJ;rw[Nb h];rfl
theorem Br(h:Io t.2<=1000000):td t=cV t:=by unfold td;rw[Nb h];rfl
abbrev uy:=dp
abbrev hd3(s:zH)(i:Int)(o:uy):jK:=.h3 s i o
abbrev Xe(s:zH)(i c f:Int)(z:zn [CP.d zA])(o:uy):jK:=.h11 s i c f z o
abbrev Xf(s:zH)(i c f:Int)(z:zn [CP.d zA])(o:uy):jK:=.h15 s i c f z o
abbrev O6(s:zH)(i:Int)(z:zn [CP.d zA])(o:uy):jK:=.h20 s i z o
abbrev rNo:aw:=(.tup [.nils,.kb Q4],[])
def Vq(r:aw)(b:Bool):Prop:=∃l,aS r.2 [Sh.sl zA,Q7] r.1=Q1 (l,b,())
theorem ZC:Vq rNo Q4:=⟨[],rfl⟩
def N6(s:zH)(j:Nat)(t:dd)(o:uy):jK⊕aw:=if cV t=Q3 then .inl (hd3 s (j:Int) (o++[t]))else .inr rNo
variable {j:Nat}
theorem wA(s:zH)(h:j<Io s):Qg (((j+1:Nat):Int).toNat-(j:Int).toNat) (Qh (j:Int).toNat s)=[s[j]]:=by rw[aK,aK,show j+1-j=1 by omega,fO h];rfl
theorem v20{acc:zH}(E:Io w<=1000000)(a:j<Io w)(s:Io acc<=1000000):∀{o:uy},Io o<=1000000->(f7 (O6 w (j:Int) ((3,acc),()) o)).val=Q1 (
  if w[j]≠39 then .inl (O6 w ((j+1:Nat):Int) ((3,acc++[w[j]]),()) o)
  else if w[j+1]?=Q1 39 then .inl (O6 w ((j+2:Nat):Int) ((3,acc++[39]),()) o)
  else N6 w (j+1) (3,acc) o):=by
 intro o C;have l:Γ Δ ((j:Int)+1)=((j+1:Nat):Int):=zt j um;have n:Γ Δ (((j+1:Nat):Int)+1)=((j+2:Nat):Int):=zt (j+1) um;have p:(Q0 (0<=(j:Int))&&Q0 ((j:Int)<=((j+1:Nat):Int))&&Q0 (((j+1:Nat):Int)<=(↑(Io w):Int)))=Q3:=by simp;omega
 have D:Q0 ((↑(Io w):Int)<=(j:Int))=Q4:=ae ow;have A:Q0 ((j:Int)>=(↑(Io w):Int))=Q4:=ae ow;have B:td ((3,acc):bV)=cV ((3,acc):dd):=Br (t:=((3,acc):dd)) s;have i:mJ ((3,acc):bV)=Q3:=vS (t:=((3,acc):dd)) s;have q:(Io acc+[w[j]].length<=1099511627776):=by simp;omega
 by_cases c:w[j]=39
 .have b:((↑w[j].toNat:Int)!=39)=Q4:=by simp[bne,sE.2 c]
  have d:((↑w[j].toNat:Int)==39)=Q3:=sE.2 c;by_cases g:w[j+1]?=Q1 39
  .obtain⟨x,v⟩:=cR.1 g;have u:((↑w[j+1].toNat:Int)==39)=Q3:=sE.2 v;have y:Q0 (((j+1:Nat):Int)<(↑(Io w):Int))=Q3:=zy ow;rw[zg (by simpa using c),ze g];show(f7 (.h20 _ _ _ _)).val=_;simp only[f7,l,n,ef w a,wA w a,zL a,zz a,zz x,y,b,d,u,ef w x,Q8,ax,aA,eB,zh,p,zy q];rw[c]
  .rw[zg (by simpa using c),zg g];have e:(cond (Q0 (((j+1:Nat):Int)<(↑(Io w):Int))) ((↑(getD w ((j+1:Nat):Int).toNat 0).toNat:Int)==39) Q4)=Q4:=by
    by_cases x:j+1<Io w
    .rw[zy ow,ef w x];simp only[ax];rw[<-gT,sE];intro h;exact g (cR.2 ⟨x,h⟩)
    .rw[ae ow];rfl
   have z:(cond (Q0 (((j+1:Nat):Int)<(↑(Io w):Int))) (zK ((j+1:Nat):Int) (Io w)) Q3)=Q3:=by
    by_cases x:j+1<Io w
    .rw[zz x];cases Q0 (((j+1:Nat):Int)<(↑(Io w):Int))<;>rfl
    .rw[ae ow];rfl
   unfold N6;have k:(Io o+[((3,acc):bV)].length<=1073741824):=by have:Io o<=1000000:=C;simp;omega
   show(f7 (.h20 _ _ _ _)).val=_;simp only[f7,l,n,ef w a,wA w a,zL a,zz a,b,d,e,z,Q8,ax,aA,eB,zh,zE,zp,A,i,B,zy k];by_cases m:cV ((3,acc):dd)=Q3
   .simp[m]
   .simp[m]
 .have b:((↑w[j].toNat:Int)!=39)=Q3:=by simp only[bne,yJ];rw[<-gT,sE];exact c
  have d:((↑w[j].toNat:Int)==39)=Q4:=by rw[<-gT,sE];exact c
  rw[ze c];show(f7 (.h20 _ _ _ _)).val=_;simp only[f7,l,n,ef w a,wA w a,zL a,zz a,b,d,Q8,ax,eB,zh,zE,zp,p,zy q]
theorem zwh{d:zH}:∀{o:uy},(f7 (O6 w (Io w:Int) ((3,d),()) o)).val=Q1 (.inr rNo):=by intro o;have g:Q0 ((↑(Io w):Int)>=(↑(Io w):Int))=Q3:=zy (Int.le_refl _);show(f7 (.h20 _ _ _ _)).val=_;simp only[f7,zG,Q8,aA,zh,zE,zp,g]
theorem l20{w:zH}{o:uy}(p:Io w<=1000000)(q:Io o<=1000000):∀(n j:Nat)(acc:zH),Io w-j<=n->j<=Io w->Io acc<=j->
  (fm (w.drop j)=Q2->z6 f7 (n+1) (O6 w (j:Int) ((3,acc),()) o) rNo)/\
  (∀t k,fm (w.drop j)=Q1 (t,k)->∀K r,(match N6 w (j+k) (3,acc++t) o with|.inl h=>z6 f7 K h r|.inr y=>y=r)->z6 f7 (K+k) (O6 w (j:Int) ((3,acc),()) o) r)
 | n, j,acc,C,B,A=>by
  by_cases e:j<Io w
  .have x:=v20 (o:=o) (acc:=acc) p e ow q;rw[fO e];by_cases c:w[j]=39
   .rw[zg (by simpa using c)]at x;by_cases g:w[j+1]?=Q1 39
    .rw[ze g]at x;obtain⟨l,z⟩:=cR.1 g;obtain⟨n,rfl⟩:∃m,n=m+1:=⟨n-1,ow⟩;obtain⟨s,u⟩:=l20 p q n (j+2) (acc++[39]) ow ow sg;rw[fO l,c,z,Nz,show j+1+1=j+2 from rfl];refine⟨λh=>?_,λt k h K r a=>?_⟩
     .rw[Option.map_eq_none_iff]at h;exact((zN.of x).ends (s h))
     .rw[dq]at h;obtain⟨⟨v,b⟩,i,d⟩:=h;simp only[b5]at d;obtain⟨rfl,rfl⟩:=d;have:=u v b i K r (by rw[BZ];rw[show j+2+b=j+(b+2) by omega];exact a);exact((zN.of x).ends this).mono ow
    .rw[zg g]at x;rw[c,EN _ (by rw[List.head?_drop];exact g)];refine⟨λh=>(by cases h),λt k h K r a=>?_⟩;simp only[bj,b5]at h;obtain⟨rfl,rfl⟩:=h;rw[sL]at a;revert x a;cases N6 w (j+1) (3,acc) o with
     |inl h=>intro x a;exact(zN.of x).ends a
     |inr y=>intro x a;cases a;exact(z6.of x).mono ow
   .rw[ze c]at x;obtain⟨n,rfl⟩:∃m,n=m+1:=⟨n-1,ow⟩;obtain⟨s,u⟩:=l20 p q n (j+1) (acc++[w[j]]) ow ow sg;rw[HN c];refine⟨λh=>?_,λt k h K r a=>?_⟩
    .rw[Option.map_eq_none_iff]at h;exact((zN.of x).ends (s h))
    .rw[dq]at h;obtain⟨⟨v,b⟩,i,d⟩:=h;simp only[b5]at d;obtain⟨rfl,rfl⟩:=d;have:=u v b i K r (by rw[BZ];rw[show j+1+b=j+(b+1) by omega];exact a);exact((zN.of x).ends this).mono ow
  .obtain rfl:j=Io w:=by omega
   rw[jM];exact⟨λ_=>(z6.of zwh).mono ow,λt k h=>(by simp[fm]at h)⟩
variable {z:zn [CP.d zA]}
theorem zwe{c f:Int}(b:Io w<=1000000)(h:j<Io w)(x:bS w[j].toNat=Q3):∀{o:uy},(f7 (Xe w (j:Int) c f z o)).val=Q1 (.inl (Xe w ((j+1:Nat):Int) c f z o)):=by intro o;have a:Γ Δ ((j:Int)+1)=((j+1:Nat):Int):=zt j um;show(f7 (.h11 _ _ _ _ _ _)).val=_;simp only[f7,ef w h,zL h,zz h,yf,El,x,a,Q8,ax,sM,zh]
variable {c:UInt8}
theorem zwd{f:Nat}(y:Io w<=1000000)(v:j<=Io w)(u:f<=j)(s:∀h:j<Io w,bS w[j].toNat=Q4)(l:au c.toNat=Q4)(n:c≠39):
  ∀{o:uy},Io o<=1000000->(f7 (Xe w (j:Int) (c.toNat:Int) (f:Int) z o)).val=Q1 (N6 w j (1,Qg (j-f) (Qh f w)) o):=by
 intro o q;have g:(cond (Q0 ((j:Int)<(↑(Io w):Int))) (zK (j:Int) (Io w)&&vV (↑(getD w (j:Int).toNat 0).toNat:Int)) Q3)=Q3:=by
  by_cases h:j<Io w
  .rw[zz h,yf];cases Q0 ((j:Int)<(↑(Io w):Int))<;>rfl
  .rw[ae ow];rfl
 have i:(cond (Q0 ((j:Int)<(↑(Io w):Int))) (Ek (↑(getD w (j:Int).toNat 0).toNat:Int)) Q4)=Q4:=by
  by_cases h:j<Io w
  .rw[ef w h,El,s h];cases Q0 ((j:Int)<(↑(Io w):Int))<;>rfl
  .rw[ae ow];rfl
 have k:(Q0 (0<=(f:Int))&&Q0 ((f:Int)<=(j:Int))&&Q0 ((j:Int)<=(↑(Io w):Int)))=Q3:=by simp;omega
 have e:((c.toNat:Int)==39)=Q4:=by rw[<-gT,sE];exact n
 have x:(Qg (j-f) (Qh f w)).length<=1000000:=by simp;omega
 have p:td ((1,Qg (j-f) (Qh f w)):bV)=cV (1,Qg (j-f) (Qh f w)):=Br (t:=((1,Qg (j-f) (Qh f w)):dd)) x;have a:mJ ((1,Qg (j-f) (Qh f w)):bV)=Q3:=vS (t:=((1,Qg (j-f) (Qh f w)):dd)) x;unfold N6;have b:(Io o+[((1,Qg (j-f) (Qh f w)):bV)].length<=1073741824):=by have:Io o<=1000000:=q;simp;omega
 show(f7 (.h11 _ _ _ _ _ _)).val=_;simp only[f7,g,i,k,ju,kY,l,e,Q8,zh,zE,zp];simp only[aK,a,p,zy b,zh];generalize Qg (j-f) (Qh f w)=T;by_cases m:cV (1,T)=Q3
 .simp[m]
 .simp[m]
theorem zwg{c f:Int}(b:Io w<=1000000)(h:j<Io w)(x:au w[j].toNat=Q3):∀{o:uy},(f7 (Xf w (j:Int) c f z o)).val=Q1 (.inl (Xf w ((j+1:Nat):Int) c f z o)):=by intro o;have a:Γ Δ ((j:Int)+1)=((j+1:Nat):Int):=zt j um;show(f7 (.h15 _ _ _ _ _ _)).val=_;simp only[f7,ef w h,zL h,zz h,ju,kY,x,a,Q8,ax,sM,zh]
theorem zwf{f:Nat}(v:Io w<=1000000)(u:j<=Io w)(s:f<=j)(q:∀h:j<Io w,au w[j].toNat=Q4)(l:c≠39):
  ∀{o:uy},Io o<=1000000->(f7 (Xf w (j:Int) (c.toNat:Int) (f:Int) z o)).val=Q1 (N6 w j (2,Qg (j-f) (Qh f w)) o):=by
 intro o p;have g:(cond (Q0 ((j:Int)<(↑(Io w):Int))) (zK (j:Int) (Io w)&&jV (↑(getD w (j:Int).toNat 0).toNat:Int)) Q3)=Q3:=by
  by_cases h:j<Io w
  .rw[zz h,ju];cases Q0 ((j:Int)<(↑(Io w):Int))<;>rfl
  .rw[ae ow];rfl
 have i:(cond (Q0 ((j:Int)<(↑(Io w):Int))) (kL (↑(getD w (j:Int).toNat 0).toNat:Int)) Q4)=Q4:=by
  by_cases h:j<Io w
  .rw[ef w h,kY,q h];cases Q0 ((j:Int)<(↑(Io w):Int))<;>rfl
  .rw[ae ow];rfl
 have k:(Q0 (0<=(f:Int))&&Q0 ((f:Int)<=(j:Int))&&Q0 ((j:Int)<=(↑(Io w):Int)))=Q3:=by simp;omega
 have e:((c.toNat:Int)==39)=Q4:=by rw[<-gT,sE];exact l
 have x:(Qg (j-f) (Qh f w)).length<=1000000:=by simp;omega
 have n:td ((2,Qg (j-f) (Qh f w)):bV)=cV (2,Qg (j-f) (Qh f w)):=Br (t:=((2,Qg (j-f) (Qh f w)):dd)) x;have a:mJ ((2,Qg (j-f) (Qh f w)):bV)=Q3:=vS (t:=((2,Qg (j-f) (Qh f w)):dd)) x;unfold N6;have b:(Io o+[((2,Qg (j-f) (Qh f w)):bV)].length<=1073741824):=by have:Io o<=1000000:=p;simp;omega
 show(f7 (.h15 _ _ _ _ _ _)).val=_;simp only[f7,g,i,k,e,Q8,zh,zE,zp];simp only[aK,a,n,zy b,zh];generalize Qg (j-f) (Qh f w)=T;by_cases m:cV (2,T)=Q3
 .simp[m]
 .simp[m]
theorem IX{p:Int->Bool}{s:zH}(a:Nat->jK)(d:∀j(g:j<Io s),p s[j].toNat=Q3->(f7 (a j)).val=Q1 (.inl (a (j+1)))):∀(n j:Nat),Io s-j<=n->j<=Io s->
  zN f7 (cY p (s.drop j)) (a j) (a (j+cY p (s.drop j)))/\j+cY p (s.drop j)<=Io s/\∀h:j+cY p (s.drop j)<Io s,p s[j+cY p (s.drop j)].toNat=Q4
 | n,j,l,g=>by
  by_cases x:j<Io s
  .by_cases b:p s[j].toNat=Q3
   .obtain⟨n,rfl⟩:∃m,n=m+1:=⟨n-1,ow⟩;have e:cY p (s.drop j)=cY p (s.drop (j+1))+1:=by rw[fO x,cY,ze b]
    obtain⟨i,o,k⟩:=IX a d n (j+1) ow ow;have c:j+cY p (s.drop j)=j+1+cY p (s.drop (j+1)):=by omega
    refine⟨?_,ow,?_⟩
    .rw[c,e];exact((zN.of (d j x b)).trans i).mono ow
    .intro h;simp only[c]at h|-;exact k h
   .have e:cY p (s.drop j)=0:=by rw[fO x,cY,zg b]
    rw[e];exact⟨zN.refl _,ow,λ_=>by simpa using b⟩
  .have e:cY p (s.drop j)=0:=by rw[BU ow];rfl
   rw[e];exact⟨zN.refl _,ow,λh=>zC h ow⟩
theorem v3(i:Io w<=1000000)(h:j<Io w):∀{o:uy},Io o<=1000000->∃z,(f7 (hd3 w (j:Int) o)).val=Q1 (
  if(cond ((w[j].toNat:Int)==32) Q3 ((w[j].toNat:Int)==10))=Q3 then .inl (hd3 w ((j+1:Nat):Int) o)
  else if bc w[j].toNat=Q3 then .inl (Xe w ((j+1:Nat):Int) w[j].toNat j z o)
  else if au w[j].toNat=Q3 then .inl (Xf w ((j+1:Nat):Int) w[j].toNat j z o)
  else if w[j]=39 then .inl (O6 w ((j+1:Nat):Int) ((3,[]),()) o)
  else N6 w (j+1) (4,[w[j]]) o):=by
 intro o d;refine⟨((4,[w[j]]),()),?_⟩;have e:Γ Δ ((j:Int)+1)=((j+1:Nat):Int):=zt j um;have g:(Q0 (0<=(j:Int))&&Q0 ((j:Int)<=((j+1:Nat):Int))&&Q0 (((j+1:Nat):Int)<=(↑(Io w):Int)))=Q3:=by simp;omega
 have c:td ((4,[w[j]]):bV)=cV (4,[w[j]]):=Br (t:=((4,[w[j]]):dd)) sw;have a:mJ ((4,[w[j]]):bV)=Q3:=vS (t:=((4,[w[j]]):dd)) sw;have x:w[j]=39↔((w[j].toNat:Int)==39)=Q3:=sE.symm;unfold N6;simp only[x];have b:(Io o+[((4,[w[j]]):bV)].length<=1073741824):=by have:Io o<=1000000:=d;simp;omega
 show(f7 (.h3 _ _ _)).val=_;simp only[f7,e,ef w h,wA w h,zL h,zz h,g,qH,ui,ju,kY,Q8,zh,a,c,zy b];repeat' split
 all_goals first|rfl|simp_all
theorem Ud(h:bc c.toNat=Q3):au c.toNat=Q4/\c≠39:=by
 have x:bc ((39:UInt8).toNat:Int)=Q4:=rfl;constructor
 .have a:(65:Int)<=(c.toNat:Int):=by
   by_cases k:(65:Int)<=(c.toNat:Int)
   .exact k
   .exfalso;have b:Q0 ((c.toNat:Int)>=97)=Q4:=ae ow;have d:Q0 ((c.toNat:Int)>=65)=Q4:=ae ow;unfold bc at h;rw[b,d]at h;cases h
  have e:Q0 ((c.toNat:Int)<=57)=Q4:=ae ow;unfold au;rw[e];cases Q0 ((c.toNat:Int)>=48)<;>rfl
 .rintro rfl;rw[x]at h;cases h
theorem V7(h:au c.toNat=Q3):c≠39:=by have x:au ((39:UInt8).toNat:Int)=Q4:=rfl;rintro rfl;rw[x]at h;cases h
theorem Eh{s:zH}(q:Io s<=1000000):∀(n i:Nat)(o:uy),Io s+1<=n+i->i<=Io s->Io o<=i->∃r,z6 f7 (3*(Io s-i)+3) (hd3 s (i:Int) o) r/\Vq r (wS n (s.drop i) (Io o))
 |0,i,o,N,O,P=>by omega
 | n + 1,i,o,N,O,P=>by
  by_cases C:i<Io s
  .obtain⟨z,d⟩:=v3 (o:=o) q C ow;rw[fO C,wS];have a:Qh i s=s[i]::Qh (i+1) s:=fO C;have next:∀(j:Nat)(t:dd),i<j->j<=Io s->∃r,(match N6 s j t o with|.inl h=>z6 f7 (3*(Io s-j)+3) h r|.inr w=>w=r)/\Vq r (ite (cV t=Q3) (wS n (s.drop j) (Io o+1)) Q4):=by
    intro j t S E;unfold N6;by_cases m:cV t=Q3
    .rw[ze m,ze m];obtain⟨r,b,l⟩:=Eh q n j (o++[t]) ow E sg;refine⟨r,b,?_⟩;have:(o++[t]).length=Io o+1:=by simp
     rw[this]at l;exact l
    .rw[zg m,zg m];exact⟨rNo,rfl,ZC⟩
   by_cases I:(cond ((s[i].toNat:Int)==32) Q3 ((s[i].toNat:Int)==10))=Q3
   .rw[ze I]at d|-;obtain⟨r,b,l⟩:=Eh q n (i+1) o ow ow ow;exact⟨r,((zN.of d).ends b).mono ow,l⟩
   .rw[zg I]at d|-;unfold qc;by_cases A:bc s[i].toNat=Q3
    .rw[ze A]at d|-;obtain⟨M,y⟩:=Ud A;obtain⟨u,v,H⟩:=IX (p:=bS) (s:=s) (λj=>Xe s (j:Int) (s[i].toNat:Int) (i:Int) z o) (λj D F=>zwe q D F) (Io s) (i+1) ow ow;have g:=zwd (z:=z) (c:=s[i]) (f:=i) q v ow H M y (o:=o) ow;rw[show i+1+cY bS (Qh (i+1) s)-i=cY bS (Qh (i+1) s)+1 by omega,a]at g;obtain⟨r,b,l⟩:=next (i+1+cY bS (Qh (i+1) s)) (1,(s[i]::Qh (i+1) s).take (cY bS (Qh (i+1) s)+1)) ow v
     refine⟨r,?_,?_⟩
     .revert g b;cases N6 s (i+1+cY bS (Qh (i+1) s)) (1,(s[i]::Qh (i+1) s).take (cY bS (Qh (i+1) s)+1)) o with
      |inl h=>intro g b;exact(((zN.of d).trans u).ends ((zN.of g).ends b)).mono ow
      |inr w=>intro g b;cases b;exact(((zN.of d).trans u).ends (z6.of g)).mono ow
     .rw[<-a,F8];rw[show i+(cY bS (Qh (i+1) s)+1)=i+1+cY bS (Qh (i+1) s) by omega];rw[a];exact l
    .rw[zg A]at d|-;by_cases B:au s[i].toNat=Q3
     .rw[ze B]at d|-;have y:=V7 B;obtain⟨u,v,H⟩:=IX (p:=au) (s:=s) (λj=>Xf s (j:Int) (s[i].toNat:Int) (i:Int) z o) (λj D F=>zwg q D F) (Io s) (i+1) ow ow;have g:=zwf (z:=z) (c:=s[i]) (f:=i) q v ow H y (o:=o) ow;rw[show i+1+cY au (Qh (i+1) s)-i=cY au (Qh (i+1) s)+1 by omega,a]at g;obtain⟨r,b,l⟩:=next (i+1+cY au (Qh (i+1) s)) (2,(s[i]::Qh (i+1) s).take (cY au (Qh (i+1) s)+1)) ow v
      refine⟨r,?_,?_⟩
      .revert g b;cases N6 s (i+1+cY au (Qh (i+1) s)) (2,(s[i]::Qh (i+1) s).take (cY au (Qh (i+1) s)+1)) o with
       |inl h=>intro g b;exact(((zN.of d).trans u).ends ((zN.of g).ends b)).mono ow
       |inr w=>intro g b;cases b;exact(((zN.of d).trans u).ends (z6.of g)).mono ow
      .rw[<-a,F8];rw[show i+(cY au (Qh (i+1) s)+1)=i+1+cY au (Qh (i+1) s) by omega];rw[a];exact l
     .rw[zg B]at d|-;by_cases J:s[i]=39
      .rw[ze J]at d|-;obtain⟨U,W⟩:=l20 (o:=o) q ow (Io s-(i+1)) (i+1) [] (aj _) ow sw;cases G:fm (Qh (i+1) s)with
       | none=>
        have T:cV ((0,[]):dd)=Q4:=rfl;simp only[T,zE,zp];exact⟨rNo,((zN.of d).ends (U G)).mono ow,ZC⟩
       | some x=>
        obtain⟨t,k⟩:=x;obtain⟨X,L,_⟩:=si _ _ _ _ (aj _) G;have L:k<=Io s-(i+1):=by simpa using L
        obtain⟨r,b,l⟩:=next (i+1+k) (3,t) ow ow
        refine⟨r,((zN.of d).ends (W t k G _ r b)).mono ow,?_⟩;simp only;rw[<-a,F8,show i+(k+1)=i+1+k by omega];exact l
      .rw[zg J]at d|-;obtain⟨r,b,l⟩:=next (i+1) (4,[s[i]]) ow ow
       refine⟨r,?_,l⟩;revert d b;cases N6 s (i+1) (4,[s[i]]) o with
       |inl h=>intro d b;exact((zN.of d).ends b).mono ow
       |inr w=>intro d b;cases b;exact(z6.of d).mono ow
  .obtain rfl:i=Io s:=by omega
   rw[jM,wS];refine⟨(.tup [.vec 0,.bool (Q0 ((↑o.length:Int)<=400))],[.vec zA o]),(z6.of ?_).mono ow,o,?_⟩
   .show(f7 (.h3 _ _ _)).val=_;simp only[f7,zG,Q8];rfl
   .have e:Q0 ((↑o.length:Int)<=400)=Q0 (Io o<=400):=by
     by_cases h:Io o<=400
     .rw[zy h];exact zy ow
     .rw[ae h];exact ae ow
    rw[e];rfl
theorem Na{s:zH}(c:Io s<=1000000):∃l,JF s=Q1 (l,(cut s).2==(0:Int),()):=by obtain⟨r,h,l,x⟩:=Eh c (Io s+1) 0 [] ow ow sw;have a:=Cj (Io s+1) s 0 [] ow ow ow sw;have b:((cut s).2==(0:Int))=wS (Io s+1) (s.drop 0) ([]:dp).length:=a;refine⟨l,?_⟩;rw[b];exact zB (s:=hd3 s ((0:Nat):Int) []) rfl h ow x
theorem Zw{s:zH}(x:Io s<=1000000):JE s=Q3:=by obtain⟨l,h⟩:=Na x;unfold JE;rw[h];rfl
theorem zdC{s:zH}(x:Io s<=1000000):(As s).2=((cut s).2==(0:Int)):=by obtain⟨l,h⟩:=Na x;unfold As;rw[h];rfl
end Cad
