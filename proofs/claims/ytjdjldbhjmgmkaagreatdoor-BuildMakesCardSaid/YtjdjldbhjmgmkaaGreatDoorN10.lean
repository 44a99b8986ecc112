/- Values. -/
import Derived.Test.YtjdjldbhjmgmkaaGreatDoorN08
namespace Cad
open Go Go.Proofs Tryz
open List renaming length->Io,drop->Qh,take->Qg,length->N
open IntKind renaming wrap->Γ,i64->Δ
open AO renaming box->Qa
open Sh renaming bool->Q7,str->Q6,expr->Q5
open Bool renaming false->Q4,true->Q3,true->Z,false->M
open Option renaming none->Q2,some->Q1,some->Y
open Decidable renaming decide->Q0
open Int (toNat)
open Int renaming toNat->W
open Tr (chk br)
open AV (nils agg tup ptr kb sl)
open AV renaming str->X,sl->O
open Cad renaming ze->R,ai->J,Sem->L,ow->S
noncomputable section
def vw(x h:zo):zo:=if(!fL x h)=Z then(0,0,[])else ec (Q0 (an x h<0))
theorem zvQ:aa uR.P 234 f234 2:=cM kw
theorem zyE(x h:zo):rn uR 0 (λ_=>{ }) f234 [zX R x,zX R h] []=br (!fL x h) (Tr.ok (zU.ret (agg [J 0,J 0,X []]) [])) (Tr.ok (zU.ret (agg [J (ec (Q0 (an x h<0))).1,J (ec (Q0 (an x h<0))).2.1,X (ec (Q0 (an x h<0))).2.2]) [])):=kw
def F43:ak:=ba [R,R] [R] λx=>(vw x.1 x.2.1,())
theorem zrK:FK 234 F43:=by
 refine az zvQ λx C h=>?_
 refine bB lQ zvQ (λid _=>h id) (zyE x.1 x.2.1) ?_;simp only[Tr.val,vw];repeat' split
 all_goals rfl
def H3(x:zo):zo:=if Q0 ((N x.2.2:Int)>60)=Z then(x.1,x.2.1,Qg (W 60-W 0) (Qh (W 0) x.2.2))else x
def Qp(x:zo):Bool:=bif Q0 ((N x.2.2:Int)>60)then Q0 (0<=0)&&Q0 (0<=60)&&Q0 (60<=(N x.2.2:Int))else Z
theorem zvA:aa uR.P 41 f41 1:=cM kw
theorem zyk(x:zo):rn uR 0 (λ_=>{ }) f41 [zX R x] []=br (Q0 ((N x.2.2:Int)>60)) (chk (Q0 (0<=0)&&Q0 (0<=60)&&Q0 (60<=(N x.2.2:Int))) (Tr.ok (zU.ret (agg [J x.1,J x.2.1,X (Qg (W 60-W 0) (Qh (W 0) x.2.2))]) []))) (Tr.ok (zU.ret (agg [J x.1,J x.2.1,X x.2.2]) [])):=kw
def F14:ak:=af [R] [R] (λx=>Qp x.1) λx=>(H3 x.1,())
theorem zhZ:FK 41 F14:=by
 refine bb zvA λx a C h=>?_
 refine bB lQ zvA (λid _=>h id) (zyk x.1) ?_;simp only[Qp,Bool.cond_eq_ite]at a;simp only[Tr.val,H3];repeat' split
 all_goals first|rfl|simp_all
def kj(x:L Q6):L Q6:=if Q0 ((N x:Int)>20)=Z then Qg (W 20-W 0) (Qh (W 0) x)else x
def U6(x:L Q6):Bool:=bif Q0 ((N x:Int)>20)then Q0 (0<=0)&&Q0 (0<=20)&&Q0 (20<=(N x:Int))else Z
theorem zvz:aa uR.P 185 f185 1:=cM kw
theorem zyj(x:L Q6):rn uR 0 (λ_=>{ }) f185 [zX Q6 x] []=br (Q0 ((N x:Int)>20)) (chk (Q0 (0<=0)&&Q0 (0<=20)&&Q0 (20<=(N x:Int))) (Tr.ok (zU.ret (X (Qg (W 20-W 0) (Qh (W 0) x))) []))) (Tr.ok (zU.ret (X x) [])):=kw
def F12:ak:=af [Q6] [Q6] (λx=>U6 x.1) λx=>(kj x.1,())
theorem zhY:FK 185 F12:=by
 refine bb zvz λx a C h=>?_
 refine bB lQ zvz (λid _=>h id) (zyj x.1) ?_;simp only[U6,Bool.cond_eq_ite]at a;simp only[Tr.val,kj];repeat' split
 all_goals first|rfl|simp_all
def F79:ak:=bj (List.replicate 2 Q2) (ff uR f311 (List.replicate 2 Q2))
theorem zsf:FK 311 F79:=cr _ lQ (cM kw)
def F18:ak:=bj (List.replicate 2 Q2) (ff uR f109 (List.replicate 2 Q2))
theorem zrs:FK 109 F18:=cr _ lQ (cM kw)
def zii:=uR.addL [(234,F43),(41,F14),(185,F12),(311,F79),(109,F18)]
theorem Am:zx zii:=lQ.addL<|fc zrK<|fc zhZ<|fc zhY<|fc zsf<|fc zrs iP
open Go
def wy:(ks:List Sh)->zH (ks.map Y++[Q2])->zH (ks.map Y)×AV
 |[],x=>((),x.1)
 |_::ks,x=>((x.1,(wy ks x.2).1),(wy ks x.2).2)
theorem D8:∀(ks:List Sh)(x:zH (ks.map Y++[Q2])),jj (ks.map Y++[Q2]) x=jj (ks.map Y) (wy ks x).1++[(wy ks x).2]
 |[],_=>rfl
 |s::ks,x=>congrArg (zX s x.1::·) (D8 ks x.2)
def Z3(k:Nat):AV->Bool
 |.clo (.func j) [] []=>j==k
 |_=>M
variable {n:Nat}
theorem Z4{F:AV}(h:Z3 n F=Z):F=.clo (.func n) [] []:=by
 unfold Z3 at h;split at h
 .rw[bX]at h;rw[h]
 .cases h
abbrev XJ(ks outs:List Sh):=Nat×(zH (ks.map Y)->Bool)×(zH (ks.map Y)->zH (outs.map Y))
def zd5{ks outs:List Sh}(v:AV):List (XJ ks outs)->Option ((zH (ks.map Y)->Bool)×(zH (ks.map Y)->zH (outs.map Y)))
 |[]=>Q2
 |(k,a)::r=>if Z3 k v then Y a else zd5 v r
theorem NA{ks outs:List Sh}{F:AV}{a}:∀{l:List (XJ ks outs)},zd5 F l=Y a->∃k,F=.clo (.func k) [] []/\(k,a)∈l
 |[],h=>by cases h
 | (k,b)::r,h=>by
  unfold zd5 at h;split at h
  next d=>cases h;exact⟨k,Z4 d,uO ..⟩
  .have⟨j,x,c⟩:=NA h;exact⟨j,x,np _ c⟩
def Uy(ks outs:List Sh)(l:List (XJ ks outs)):fA (ks.map Y++[Q2]):=λx h=>match h with
 | []=>match zd5 (wy ks x).2 l with
  |some (c,g)=>.chk (c (wy ks x).1) (.ok (Cj outs (g (wy ks x).1),[]))
  |none=>.err
 |_=>.err
def zbj(ks outs:List Sh)(l:List (XJ ks outs)):ak:=bj (ks.map Y++[Q2]) (Uy ks outs l)
variable {P:Program}{g:Nat->AV}{E:cy}{h:FuncId}{f:Func}{ks outs:List Sh}
theorem Qx{l:List (XJ ks outs)}(n:aa E.P h f (N ks+1))
  (b:∀j c a,(j,c,a)∈l->∀x,c x=Z->∀C:eU,(∀id,C.ρ0 id=Q2)->Reach E C h (bv f) (bl f.ntmps (jj (ks.map Y) x++[.clo (.func j) [] []]) []) (λr b=>aX b outs r=Y (a x))) (s:E.P=P:=by rfl) (q:E.gl=g:=by rfl):ou P g h (zbj ks outs l):=by
 subst s q;refine dA (by simpa using n) λx v u d C k=>?_
 unfold Uy at d;split at d
 .split at d
  .rename_i c a i;have⟨j,p,o⟩:=NA i;simp only[Tr.val]at d;split at d
   next m=>simp only[bH]at d;subst d;rw[D8,p];exact Reach.plain (λid=>k id (by simp)) (b j c a o _ m C (λid=>k id (by simp)))
   .simp at d
  .simp at d
 .simp at d
inductive CP where
 |d (s:Sh)
 |nil
 |vec (e:Sh)
@[reducible] def zq:List CP->Type
 |[]=>Unit
 |.d s::r=>L s×zq r
 |.nil::r=>zq r
 |.vec e::r=>List (L e)×zq r
def fE:(n:Nat)->(p:List CP)->zq p->List AV
 |_,[],_=>[]
 |n,.d s::r,y=>zF s y.1++fE n r y.2
 |n,.nil::r,y=>.nils::fE n r y
 |n,.vec _::r,y=>.vec n::fE (n+1) r y.2
def im:(p:List CP)->zq p->List AO
 |[],_=>[]
 |.d _::r,y=>im r y.2
 |.nil::r,y=>im r y
 |.vec e::r,y=>.vec e y.1::im r y.2
def bd(ps:List CP)(y:zq ps):List AO:=.box (fE 1 ps y)::im ps y
def bp:List CP->Nat
 |[]=>0
 |.vec _::r=>bp r+1
 |_::r=>bp r
theorem cE:∀(p:List CP)(y:zq p),(im p y).length=bp p
 |[],_=>rfl
 |.d _::r,y=>cE r y.2
 |.nil::r,y=>cE r y
 |.vec _::r,y=>congrArg (·+1) (cE r y.2)
def dj(hp:Nat->AO):(n:Nat)->(p:List CP)->List AV->Option (zq p)
 |_,[],[]=>Y ()
 | n,.d s::r,cs=>match dD (fun _=>.dead) s cs with
  | some (x,cs')=>match dj hp n r cs' with
   |some y=>Y (x,y)
   |none=>Q2
  |none=>Q2
 |n,.nil::r,.nils::cs=>dj hp n r cs
 | n,.vec e::r,.vec id::cs=>if id=n then match hp id with
   | .vec a l=>if h:a=e then match dj hp (n+1) r cs with
     |some y=>Y (h▸l,y)
     |none=>Q2
    else Q2
   |_=>Q2
  else Q2
 |_,_,_=>Q2
section
variable {w:World} {U:Nat->Prop} {ρ:Nat->Option Value}
variable {m:List AV}{A:List Value}
theorem dn.app{H:List AV}{g:List Value}(h:dn w U ρ m A)(b:dn w U ρ H g):dn w U ρ (m++H) (A++g) where
 len:=by simp[h.len,b.len]
 rv:=by
  intro j c v x a;by_cases d:j<N m
  .rw[rz d]at x;rw[rz (by rw[<-h.len];exact d)]at a;exact h.rv j c v x a
  .rw[pE S]at x;rw[pE (by rw[<-h.len];omega),<-h.len]at a;exact b.rv _ c v x a
variable {v:Value}
theorem dn.tail{F:AV}(h:dn w U ρ (F::m) (v::A)):dn w U ρ m A:=
 ⟨by have:=h.len;simpa using this,λj c x a b=>h.rv (j+1) c x (by simpa using a) (by simpa using b)⟩
theorem dn.consH{F:AV}(d:Rv w U ρ F v)(b:dn w U ρ m A):dn w U ρ (F::m) (v::A) where
 len:=by simp[b.len]
 rv:=by
  intro j c x h a;cases j with
  |zero=>simp at h a;subst h;subst a;exact d
  |succ j=>exact b.rv j c x (by simpa using h) (by simpa using a)
theorem gH{hp:Nat->AO}:∀(B:List CP)(n:Nat)(cs:List AV)(y:zq B)(a:List Value),dj hp n B cs=Q1 y->dn w U ρ cs a->
  dn w U ρ (fE n B y) a/\∀(j:Nat) o,(im B y)[j]?=Y o->hp (n+j)=o
 |[],n,[],y,a,h,g=>⟨g,by simp[im]⟩
 |[],n,_::_,y,a,h,g=>by simp[dj]at h
 | .d s::r,n,cs,y,a,h,g=>by
  unfold dj at h;split at h
  .rename_i x cs' hi;split at h
   .rename_i F D;cases h
    have hk:=pV (w:=w) (U:=U) (U':=U) (ρ:=ρ) (hp:=λ_=>.dead) (λ_ h=>h) s cs x cs' (λj=>a.getD j undef) hi
     (λj c k=>by
      have u:j<N a:=by rw[<-g.len];exact(dF.1 k).1
      have:=g.rv j c a[j] k (aj u);simpa[List.getD,aj u]using this)
     (λid _=>⟨trivial,λb H=>by simp[ar,AO.owns]at H⟩)
    have⟨k1,G,k3⟩:=hk;have m:dn w U ρ cs' (a.drop s.size):=by
     refine⟨by rw[G];simp[g.len],λj c v k i=>?_⟩;rw[G,D2]at k;rw[D2]at i;exact g.rv _ c v k i
    have⟨z,A⟩:=gH r n cs' F (a.drop s.size) D m;refine⟨?_,A⟩;have p:dn w U ρ (zF s x) (a.take s.size):=by
     refine⟨by rw[au];have:=g.len;simp;omega,λj c v k i=>?_⟩;have q:j<s.size:=by rw[<-au s x];exact(dF.1 k).1
     rw[List.getElem?_take,zf q]at i;have:=k3 j c k;simpa[List.getD,i]using this
    have:=p.app z;rw[List.take_append_drop]at this;exact this
   .cases h
  .cases h
 | .nil::r,n,.nils::cs,y,a,h,g=>by
  match a,g with
  |[],g=>have:=g.len;simp at this
  | v::vs,g=>
   have i:=g.rv 0 _ v rfl rfl;have⟨z,A⟩:=gH r n cs y vs h g.tail;exact⟨dn.consH i z,A⟩
 | .vec e::r,n,.vec id::cs,y,a,h,g=>by
  match a,g with
  |[],g=>have:=g.len;simp at this
  | v :: vs,g=>
   have i:=g.rv 0 _ v rfl rfl;unfold dj at h;split at h
   .rename_i C;subst C;split at h
    .rename_i e' l ho;split at h
     .rename_i P;subst P;split at h
      .rename_i F D;cases h;have⟨z,A⟩:=gH r (id+1) cs F vs D g.tail;refine⟨dn.consH i z,λj o q=>?_⟩;cases j with
       |zero=>simp[im]at q;subst q;exact ho
       | succ j=>
        have:=A j o (by simpa[im]using q);rw[<-this];congr 1;omega
      .cases h
     .cases h
    .cases h
   .cases h
 |.nil::_,_,[],_,_,h,_=>by simp[dj]at h
 |.vec _::_,_,[],_,_,h,_=>by simp[dj]at h
 |.nil::_,_,.any::_,_,_,h,_|.nil::_,_,.kb _::_,_,_,h,_|.nil::_,_,.bool _::_,_,_,h,_|.nil::_,_,.int _ _::_,_,_,h,_|.nil::_,_,.str _::_,_,_,h,_
 |.nil::_,_,.sl _ _::_,_,_,h,_|.nil::_,_,.vec _::_,_,_,h,_|.nil::_,_,.ptr _ _::_,_,_,h,_|.nil::_,_,.vptr _ _ _ _::_,_,_,h,_|.nil::_,_,.eptr _ _::_,_,_,h,_
 |.nil::_,_,.nilp::_,_,_,h,_|.nil::_,_,.agg _::_,_,_,h,_|.nil::_,_,.tup _::_,_,_,h,_|.nil::_,_,.clo _ _ _::_,_,_,h,_|.nil::_,_,.nilf::_,_,_,h,_
 |.nil::_,_,.mp _::_,_,_,h,_|.nil::_,_,.ifc _::_,_,_,h,_|.nil::_,_,.tab _ _::_,_,_,h,_|.nil::_,_,.gint::_,_,_,h,_=>by simp[dj]at h
 |.vec _::_,_,.any::_,_,_,h,_|.vec _::_,_,.kb _::_,_,_,h,_|.vec _::_,_,.bool _::_,_,_,h,_|.vec _::_,_,.int _ _::_,_,_,h,_|.vec _::_,_,.str _::_,_,_,h,_
 |.vec _::_,_,.sl _ _::_,_,_,h,_|.vec _::_,_,.nils::_,_,_,h,_|.vec _::_,_,.ptr _ _::_,_,_,h,_|.vec _::_,_,.vptr _ _ _ _::_,_,_,h,_|.vec _::_,_,.eptr _ _::_,_,_,h,_
 |.vec _::_,_,.nilp::_,_,_,h,_|.vec _::_,_,.agg _::_,_,_,h,_|.vec _::_,_,.tup _::_,_,_,h,_|.vec _::_,_,.clo _ _ _::_,_,_,h,_|.vec _::_,_,.nilf::_,_,_,h,_
 |.vec _::_,_,.mp _::_,_,_,h,_|.vec _::_,_,.ifc _::_,_,_,h,_|.vec _::_,_,.tab _ _::_,_,_,h,_|.vec _::_,_,.gint::_,_,_,h,_=>by simp[dj]at h
end
variable {C:eU}{w:World}{U:Nat->Prop}{ρ:Nat->Option Value}{cs:List AV}{os:List AO}{p:List CP}
theorem fC.box{y:zq p}(i:fC C w U ρ (λj=>((Qa cs::os).getD j .dead)))(hl:N os=bp p)
  (F:dj (lk (.box cs::os)) 1 p cs=Y y):fC C w U ρ (λj=>(bd p y).getD j .dead):=by
 have n:bz w U ρ 0 (.box cs):=i.ob 0;have⟨b,h,d,q,s,u,z,A⟩:=n;have⟨H,P⟩:=gH p 1 cs y d.toList F z;have c:∀id,id≠0->(bd p y).getD id .dead=(Qa cs::os).getD id .dead:=by
  intro id x;obtain⟨j,rfl⟩:∃j,id=j+1:=⟨id-1,S⟩;by_cases k:j<(im p y).length
  .have:=P j _ (aj k);unfold bd;simp only[D1];rw[bD,aj k];simp only[lk,kY 1 j,D1]at this;simpa using this.symm
  .have B:N os<=j:=by rw[cE]at k;omega
   unfold bd;simp only[D1];rw[bD,bD,fa S,fa B]
 have a:∀id b,ar ρ id ((bd p y).getD id .dead) b->ar ρ id ((Qa cs::os).getD id .dead) b:=by
  intro id g ho;by_cases x:id=0
  .subst x;have⟨_,v,G,D⟩:=ho;exact⟨rfl,v,G,D⟩
  .rw[c id x]at ho;exact ho
 refine⟨λid=>?_,λl m g o1 o2=>i.inj l m g (a _ _ o1) (a _ _ o2),λid g o=>i.blk id g (a _ _ o)⟩;by_cases x:id=0
 .subst x;exact⟨b,h,d,q,s,u,H,A⟩
 .show bz w U ρ id ((bd p y).getD id .dead);rw[c id x];exact i.ob id
def vG(p:List CP)(outs:List Sh)(r:AV)(h:List AO):Option (zH (outs.map Y)×zq p):=match h with
 | .box c::os=>if Io os=bp p then match aX [] outs r,dj (lk (.box c::os)) 1 p c with
   |some a,Y y=>Y (a,y)
   |_,_=>Q2
  else Q2
 |_=>Q2
def zsQ(a:List CP)(ks outs:List Sh)(p:List CP)(c:zq a->zH (ks.map Y)->Bool)(g:zq a->zH (ks.map Y)->zH (outs.map Y)×zq p):fA (Q2::ks.map Y):=λx h=>match x.1,h with
 | .ptr 0 0,.box b::os=>if Io os=bp a then match dj (lk (.box b::os)) 1 a b with
   |some y=>.chk (c y x.2) (.ok (Cj outs (g y x.2).1,bd p (g y x.2).2))
   |none=>.err
  else .err
 |_,_=>.err
def rC(ps:List CP)(ks outs:List Sh)(p:List CP)(c:zq ps->zH (ks.map Y)->Bool)(g:zq ps->zH (ks.map Y)->zH (outs.map Y)×zq p):ak:=bj (Q2::ks.map Y) (zsQ ps ks outs p c g)
theorem uQ(p:List CP)(y:zq p):(bd p y).length=bp p+1:=by simp[bd,cE]
theorem Kb{r:AV}{y:zH (outs.map Y)}{v:Value}(h:aX [] outs r=Y y)(j:Rv w U ρ r v):Rv w U ρ (Cj outs y) v:=by
 have g:∀id,bz w U ρ id (lk [] id)/\∀b,ar ρ id (lk [] id) b->¬U b:=λid=>⟨by simp[lk,bz],λb d=>by simp[lk,ar,AO.owns]at d⟩
 have a:∀(outs:List Sh)(y:zH (outs.map Y))(c:List AV),nG (lk []) (λi=>i) (outs.map Y) c=Y y->Rv w U ρ (.tup c) v->Rv w U ρ (.tup (jj (outs.map Y) y)) v:=by
  intro outs y c p l;cases l with
  |tup _ m n k=>
  have:=(kN (w:=w) (U:=U) (ρ:=ρ) (U':=U) (ρ':=ρ) (hp:=lk []) (f:=λi=>i) (λb d=>d) (outs.map Y) c m _ (sa outs c y p) ⟨n,k⟩ (λid _=>g id)
   (λid _=>rfl)).1
  simp only[qL,BH,zA,zm,List.map_id']at this;exact .tup _ m this.len this.rv
 match outs,y,h with
 | [s],y,h=>
  simp only[aX]at h;split at h
  next x o=>cases h;exact Eo o j (λb d=>d) (λid _=>g id)
  .cases h
 | [],y,h=>
  simp only[aX]at h;cases r with
  |tup c=>exact a [] y _ h j
  |_=>cases h
 | q::s2::ss,y,h=>
  simp only[aX]at h;cases r with
  |tup c=>exact a _ y _ h j
  |_=>cases h
variable {q:List CP}
theorem zdU{c:zq p->zH (ks.map some)->Bool}{d:zq p->zH (ks.map some)->zH (outs.map some)×zq q}(hf:aa E.P h f (N ks+1))
  (i:∀y x,c y x=Z->∀C:eU,(∀id,bp p+1<=id->C.ρ0 id=Q2)->Reach E C h (bv f) (bl f.ntmps (.ptr 0 0::jj (ks.map Y) x) (bd p y)) (λr i=>vG q outs r i=Y (d y x))) (qp:E.P=P:=by rfl) (qg:E.gl=g:=by rfl):
  ou P g h (rC p ks outs q c d):=by
 subst qp qg;refine dA (by simpa using hf) λx h0 h8 l C hC=>?_
 obtain⟨x0,x⟩:=x;unfold zsQ at l;simp only at l;split at l
 .rename_i cs os;split at l
  .rename_i s;split at l
   .rename_i y hy;simp only[Tr.val]at l;split at l
    .rename_i hc;simp only[bH]at l;subst l;have hR:=i y x hc C (λid k=>hC id (by simpa[s]using k));intro b A a w U ρ h1 h2 m hW;have hH:fC C w U ρ (λj=>((Qa cs::os).getD j .dead)):=m.hp
     have u:Cn C (bl f.ntmps (.ptr 0 0::jj (ks.map Y) x) (bd p y)) a w U ρ:=
      ⟨m.tm,hH.box s hy,λid k=>m.new id (by have k:(bd p y).length<=id:=k;rw[uQ]at k;simpa[bl,s]using k),m.df,m.r0⟩
     obtain⟨e,w',fr,⟨v,r,h',U',ρ',he,n,h4,B,z,h3,D⟩,G,H,hl⟩:=hR b A a w U ρ h1 h2 u hW;unfold vG at n;split at n
     .rename_i h6 h7;split at n
      .rename_i o;split at n
       next a' y' F h5=>simp only[bH]at n;refine⟨e,w',fr,⟨v,_,_,U',ρ',he,by rw[<-n],Kb F h4,B.box o h5,λid k=>z id (by rw[uQ]at k;simpa[o]using k),h3,D⟩,G,H,hl⟩
       .cases n
      .cases n
     .cases n
    .simp at l
   .simp at l
  .simp at l
 .simp at l
def xx(E:cy)(n0:Nat)(keep:Nat->aY)(f:Func)(gas:Nat):Nat->List Item->St->Option (AV×List AO)
 |0,_,_=>Q2
 | n+1,K,a=>match (run E n0 keep f.results.toList gas K a).val with
  |some (.ret v h)=>Y (v,h)
  |some (.head _ x s)=>xx E n0 keep f gas n x s
  |_=>Q2
theorem mB{E:cy}{C:eU}{h:FuncId}{f:Func}{Q:AV->List AO->Prop}{n n0:Nat}(c:zx E)(d:aa E.P h f n)(b:∀id,n0<=id->C.ρ0 id=Q2){keep:Nat->aY}{gas:Nat}:
  ∀(a:Nat)(K:List Item)(s:St)(r:AV×List AO),xx E n0 keep f gas a K s=Y r->Q r.1 r.2->Reach E C h K s Q
 |0,_,_,_,x,_=>by cases x
 | a+1,K,s,r,x,k=>by
  unfold xx at x;split at x
  next v m g=>cases x;exact pm c d b g k
  next j l i g=>exact pm c d b g (mB c d b a l i r x k)
  .cases x
def ct:(outs:List Sh)->zH (outs.map Y)
 |[]=>()
 |s::r=>(zj s,ct r)
def gn:(ps:List CP)->zq ps
 |[]=>()
 |.d s::r=>(zj s,gn r)
 |.nil::r=>gn r
 |.vec _::r=>([],gn r)
def bm:List Nat->(p:List CP)->zq p->List AV
 |_,[],_=>[]
 |n,.d s::r,y=>zF s y.1++bm n r y.2
 |n,.nil::r,y=>.nils::bm n r y
 |n,.vec _::r,y=>.vec (n.headD 0)::bm n.tail r y.2
def itO(E:cy)(keep:Nat->aY)(f:Func)(gas n:Nat)(ks outs:List Sh)(x:zH (ks.map Y)):Option (zH (outs.map Y)):=
 (xx E 0 keep f gas n (bv f) (bl f.ntmps (jj (ks.map Y) x) [])).bind λr=>aX r.2 outs r.1
def R9(ks outs:List Sh)(g:zH (ks.map Y)->Option (zH (outs.map Y))):ak:=af ks outs (λx=>(g x).isSome) λx=>(g x).getD (ct outs)
variable {keep:Nat->aY}{gas:Nat}
theorem zme{c:Nat}(l:zx E)(d:aa E.P h f (N ks))(m:E.P=P:=by rfl)(q:E.gl=g:=by rfl):ou P g h (R9 ks outs (itO E keep f gas c ks outs)):=by
 subst m q;refine bb d λx b C k=>?_
 rw[Option.isSome_iff_exists]at b;have⟨y,a⟩:=b;rw[a];unfold itO at a;rw[gE]at a;have⟨r,i,j⟩:=a;exact mB l d (λid _=>k id) c _ _ r i j
def itB(E:cy)(keep:Nat->aY)(f:Func)(gas n:Nat)(h:List CP)(ks outs:List Sh)(p:List CP)(y:zq h)(x:zH (ks.map Y)):Option (zH (outs.map Y)×zq p):=
 (xx E (bp h+1) keep f gas n (bv f) (bl f.ntmps (.ptr 0 0::jj (ks.map Y) x) (bd h y))).bind λr=>vG p outs r.1 r.2
def zxm(h:List CP)(ks outs:List Sh)(p:List CP)(g:zq h->zH (ks.map Y)->Option (zH (outs.map Y)×zq p)):ak:=
 rC h ks outs p (λy x=>(g y x).isSome) λy x=>(g y x).getD (ct outs,gn p)
theorem zdV{c:Nat}(l:zx E)(d:aa E.P h f (N ks+1))(n:E.P=P:=by rfl)(m:E.gl=g:=by rfl):ou P g h (zxm p ks outs q (itB E keep f gas c p ks outs q)):=by
 subst n m;refine zdU d λy x b C k=>?_
 rw[Option.isSome_iff_exists]at b;have⟨z,a⟩:=b;rw[a];unfold itB at a;rw[gE]at a;have⟨r,i,j⟩:=a;exact mB l d k c _ _ r i j
theorem Qy{a:zH (ks.map Y)->Option (zH (outs.map Y))}{c:zH (ks.map Y)->Bool}{i:zH (ks.map Y)->zH (outs.map Y)}(b:ou P g h (R9 ks outs a))(k:∀x,c x=Z->a x=Y (i x)):ou P g h (af ks outs c i):=by
 refine CN (ι:=Unit) (Gs:=λ_=>gu ks outs (λx=>(a x).isSome) λx=>(a x).getD (ct outs)) (λ_=>b) λx m l d=>⟨(),?_⟩
 unfold gu at d|-;split at d
 .simp only[Tr.val]at d|-;split at d
  next j=>simp only[k x j,dz,zi,bK];exact d
  .simp at d
 .simp at d
theorem iV{a:zH (ks.map Y)->Option (zH (outs.map Y))}{c:zH (ks.map Y)->zH (outs.map Y)}(b:ou P g h (R9 ks outs a))(d:∀x,a x=Y (c x)):ou P g h (ba ks outs c):=
 Tc (Qy b λx _=>d x)
theorem zdW{c:zH (ks.map Y)->Bool}{a:zH (ks.map Y)->zH (outs.map Y)}(b:zx E)(i:aa E.P h f (N ks))
  (d:∀x,c x=(itO E keep f gas n ks outs x).isSome) (j:∀x,a x=(itO E keep f gas n ks outs x).getD (ct outs)) (k:E.P=P:=by rfl) (q:E.gl=g:=by rfl):ou P g h (af ks outs c a):=by
 subst k q;obtain rfl:c=λx=>(itO E keep f gas n ks outs x).isSome:=funext d
 obtain rfl:a=λx=>(itO E keep f gas n ks outs x).getD (ct outs):=funext j
 exact zme b i
theorem XY{c:zq p->zH (ks.map Y)->Bool}{a:zq p->zH (ks.map Y)->zH (outs.map Y)×zq q}(b:zx E)(i:aa E.P h f (N ks+1))
  (d:∀y x,c y x=(itB E keep f gas n p ks outs q y x).isSome) (j:∀y x,a y x=(itB E keep f gas n p ks outs q y x).getD (ct outs,gn q)) (l:E.P=P:=by rfl) (k:E.gl=g:=by rfl):ou P g h (rC p ks outs q c a):=by
 subst l k;obtain rfl:c=λy x=>(itB E keep f gas n p ks outs q y x).isSome:=funext λy=>funext λx=>d y x
 obtain rfl:a=λy x=>(itB E keep f gas n p ks outs q y x).getD (ct outs,gn q):=funext λy=>funext λx=>j y x
 exact zdV b i
abbrev ay:=AV×List AO
variable {α:Type}
def Tr.map{β:Type}(f:α->β):Tr α->Tr β
 |.err=>.err
 |.chk c t=>.chk c (t.map f)
 |.br c t e=>.br c (t.map f) (e.map f)
 |.ok a=>.ok (f a)
theorem Tr.val_map{α β:Type}(f:α->β):∀t:Tr α,(t.map f).val=t.val.map f
 |.err=>rfl
 |.chk c t=>by simp only[Tr.map,Tr.val,val_map f t];split<;>rfl
 |.br c t e=>by simp only[Tr.map,Tr.val,val_map f t,val_map f e];split<;>rfl
 |.ok _=>rfl
variable {σ:Type}
abbrev Tr.to(s:σ):Tr (σ⊕ay):=.ok (.inl s)
abbrev Tr.re(v:AV)(h:List AO):Tr (σ⊕ay):=.ok (.inr (v,h))
def eh{σ:Type}(t:σ->Tr (σ⊕ay)):Nat->σ->Option ay
 |0,_=>Q2
 | n+1,s=>match (t s).val with
  |some (.inl h)=>eh t n h
  |some (.inr r)=>Y r
  |none=>Q2
def bT(t:σ->Tr (σ⊕ay))(n:Nat)(i:Tr (σ⊕ay)):Option ay:=match i.val with
 |some (.inl s)=>eh t n s
 |some (.inr r)=>Y r
 |none=>Q2
def lf(f:Func)(e:σ->Nat×St):σ⊕ay->zU
 |.inl s=>.head (e s).1 (aq f (e s).1) (e s).2
 |.inr r=>.ret r.1 r.2
def e0:Empty->Nat×St:=λx=>nomatch x
def t0:Empty->Tr (Empty⊕ay):=λx=>nomatch x
section
variable {σ:Type} {E:cy} {n0:Nat} {keep:Nat->aY} {f:Func} {gas:Nat} {e:σ->Nat×St} {t:σ->Tr (σ⊕ay)}
theorem TZ(h:∀s,run E n0 keep f.results.toList gas (aq f (e s).1) (e s).2=(t s).map (lf f e)):∀(n:Nat)(s:σ),xx E n0 keep f gas n (aq f (e s).1) (e s).2=eh t n s
 |0,_=>rfl
 | n+1,s=>by
  rw[xx,h s,Tr.val_map,eh];cases(t s).val with
  |none=>rfl
  | some l=>
   cases l with
   |inl x=>exact TZ h n x
   |inr r=>rfl
theorem kd(x:∀s,run E n0 keep f.results.toList gas (aq f (e s).1) (e s).2=(t s).map (lf f e)){K:List Item}{a:St}{v:Tr (σ⊕ay)}(h:run E n0 keep f.results.toList gas K a=v.map (lf f e))(n:Nat):xx E n0 keep f gas (n+1) K a=bT t n v:=by
 rw[xx,h,Tr.val_map,bT];cases v.val with
 |none=>rfl
 | some l=>
  cases l with
  |inl s=>exact TZ x n s
  |inr r=>rfl
end
def am(outs:List Sh)(t:σ->Tr (σ⊕ay))(n:Nat)(i:Tr (σ⊕ay)):Option (zH (outs.map Y)):=(bT t n i).bind λr=>aX r.2 outs r.1
theorem XW{c:Nat}{e:σ->Nat×St}{t:σ->Tr (σ⊕ay)}{i:zH (ks.map Y)->Tr (σ⊕ay)}{d:zH (ks.map Y)->Bool}{a:zH (ks.map Y)->zH (outs.map Y)}
  (l:zx E) (n:aa E.P h f (N ks)) (j:∀x,run E 0 keep f.results.toList gas (bv f) (bl f.ntmps (jj (ks.map Y) x) [])=(i x).map (lf f e))
  (k:∀s,run E 0 keep f.results.toList gas (aq f (e s).1) (e s).2=(t s).map (lf f e))
  (m:∀x,d x=(am outs t c (i x)).isSome) (o:∀x,a x=(am outs t c (i x)).getD (ct outs)) (p:E.P=P:=by rfl) (q:E.gl=g:=by rfl):ou P g h (af ks outs d a):=by
 subst p q;have b:∀x,itO E keep f gas (c+1) ks outs x=am outs t c (i x):=by
  intro x;unfold itO am;rw[kd k (j x)]
 exact zdW (n:=c+1) l n (λx=>by rw[b,m]) (λx=>by rw[b,o])
variable {K:List Item}
theorem Mr{m n0:Nat}{e:σ->Nat×St}{t:σ->Tr (σ⊕ay)}{i:Tr (σ⊕ay)}{d:St}{y:zH (outs.map Y)}(k:zx E)(l:aa E.P h f m)(j:∀id,n0<=id->C.ρ0 id=Q2)
  (a:run E n0 keep f.results.toList gas K d=i.map (lf f e)) (b:∀s,run E n0 keep f.results.toList gas (aq f (e s).1) (e s).2=(t s).map (lf f e)) (x:am outs t n i=Y y):Reach E C h K d (λr x=>aX x outs r=Y y):=by unfold am at x;rw[gE]at x;have⟨r,c,g⟩:=x;rw[<-kd b a n]at c;exact mB k l j (n+1) _ _ r c g
abbrev k0:Nat->aY:=λ_=>{ }
abbrev kr:List (Nat×List Nat)->Nat->aY
 |[],_=>{ }
 |p::r,j=>if j=p.1 then{slots:=p.2}else kr r j
variable {a:Sh}
def o1(o:Option (zH [Y a])):L a:=(o.getD (ct [a])).1
def o2{b:Sh}(o:Option (zH [Y a,Y b])):L a×L b:=((o.getD (ct [a,b])).1,(o.getD (ct [a,b])).2.1)
def o3{b c:Sh}(o:Option (zH [Y a,Y b,Y c])):L a×L b×L c:=((o.getD (ct [a,b,c])).1,(o.getD (ct [a,b,c])).2.1,(o.getD (ct [a,b,c])).q.1)
def FT(ks outs:List Sh)(o:zH (ks.map Y)->Option (zH (outs.map Y))):ak:=af ks outs (λx=>(o x).isSome) λx=>(o x).getD (ct outs)
theorem zx.T1{e:σ->Nat×St}{t:σ->Tr (σ⊕ay)}{i:zH (ks.map Y)->Tr (σ⊕ay)}(c:zx E)(gas:Nat:=400)
  (d:(E.P.funcs[h]?,f.name=="runtime.NumGoroutine",f.body.isNone,Q0 (ks.length<=f.ntmps))=(Q1 f,Q4,Q4,Q3):=by kernel_rfl)
  (a:∀x,run E 0 keep f.results.toList gas (bv f) (bl f.ntmps (jj (ks.map Y) x) [])=(i x).map (lf f e):=by intro x;kernel_rfl)
  (b:∀s,run E 0 keep f.results.toList gas (aq f (e s).1) (e s).2=(t s).map (lf f e):=by intro s;cases s<;>kernel_rfl) (j:E.P=P:=by rfl) (q:E.gl=g:=by rfl):ou P g h (FT ks outs λx=>am outs t n (i x)):=by subst j q;exact XW c (cM d) a b (λ_=>rfl) λ_=>rfl
theorem on0(E:cy)(n0:Nat)(keep:Nat->aY)(f:Func)(gas:Nat):∀s,run E n0 keep f.results.toList gas (aq f (e0 s).1) (e0 s).2=(t0 s).map (lf f e0):=λs=>nomatch s
def kM(outs:List Sh)(p:List CP)(t:σ->Tr (σ⊕ay))(n:Nat)(i:Tr (σ⊕ay)):Option (zH (outs.map Y)×zq p):=(bT t n i).bind λr=>vG p outs r.1 r.2
theorem zmb{c:Nat}{e:σ->Nat×St}{t:σ->Tr (σ⊕ay)}{i:zq p->zH (ks.map Y)->Tr (σ⊕ay)}{d:zq p->zH (ks.map Y)->Bool}{a:zq p->zH (ks.map Y)->zH (outs.map Y)×zq q}
  (l:zx E) (n:aa E.P h f (N ks+1)) (j:∀y x,run E (bp p+1) keep f.results.toList gas (bv f) (bl f.ntmps (.ptr 0 0::jj (ks.map Y) x) (bd p y))=(i y x).map (lf f e))
  (k:∀s,run E (bp p+1) keep f.results.toList gas (aq f (e s).1) (e s).2=(t s).map (lf f e))
  (m:∀y x,d y x=(kM outs q t c (i y x)).isSome) (o:∀y x,a y x=(kM outs q t c (i y x)).getD (ct outs,gn q)) (v:E.P=P:=by rfl) (u:E.gl=g:=by rfl):ou P g h (rC p ks outs q d a):=by
 subst v u;have b:∀y x,itB E keep f gas (c+1) p ks outs q y x=kM outs q t c (i y x):=by
  intro y x;unfold itB kM;rw[kd k (j y x)]
 exact XY (n:=c+1) l n (λy x=>by rw[b,m]) (λy x=>by rw[b,o])
open Tr (chk br re)
theorem Tj(h:Nat->AO)(e:Sh)(l:List (L e)):vE h e (.sl e l)=Y l:=by simp[vE]
theorem ll(h:Nat->AO):∀(s:Sh)(x:L s)(r:List AV),dD h s (zF s x++r)=Y (x,r)
 |.unit,_,_=>rfl
 |.bool,_,_=>rfl
 |.int k,n,r=>by simp[zF,dD]
 |.str,_,_=>rfl
 | .sl e,l,r=>by
  show(match vE h e (.sl e l)with|some l=>Y (l,r)|none=>Q2)=_;rw[Tj]
 | .pr a b,x,r=>by
  simp only[zF,dD,D4,ll h a,ll h b]
 | .expr,e,r=>by
  show xv h _=_;simp only[zF,List.cons_append,Ip,xv,Tj];rw[show zg.mk e.op (e.v.1,e.v.2.1,e.v.q) e.s e.l=e from zg.eta e]
theorem km{a:Nat->AO}:∀(p:List CP)(n:Nat)(y:zq p),(∀(j:Nat) o,(im p y)[j]?=Y o->a (n+j)=o)->dj a n p (fE n p y)=Y y
 |[],_,_,_=>rfl
 | .d s::r,n,y,h=>by
  simp only[fE,dj,ll];rw[km r n y.2 h]
 | .nil::r,n,y,h=>by
  simp only[fE,dj];exact km r n y h
 | .vec e::r,n,y,h=>by
  have x:=h 0 (.vec e y.1) rfl;simp only[vC]at x;simp only[fE,dj,zi,x,dite_true]
  rw[km r (n+1) y.2 (λj o b=>by
   have:=h (j+1) o (by simpa[im]using b);rw[<-this];congr 1;omega)]
variable {ps:List CP}
theorem dO{r:AV}{a:zH (outs.map Y)}(y:zq ps)(h:aX [] outs r=Y a):vG ps outs r (bd ps y)=Y (a,y):=by
 unfold vG bd;simp only[cE,zi,h]
 rw[km ps 1 y (λj o x=>by
  unfold lk;rw[kY,D1,bD,x];rfl)]
section
variable {σ:Type} {t:σ->Tr (σ⊕ay)}
theorem dP{β:Type}(c:Nat)(s:β->Nat->σ)(x:β->Nat->Prop)(Φ:ay->Prop)(a:Nat)
  (d:∀b i,i<c->x b i->(∃j,x j (i+1)/\(t (s b i)).val=Y (.inl (s j (i+1))))\/∃r,(t (s b i)).val=Y (.inr r)/\Φ r)
  (g:∀b n,x b c->a<=n->∃r,eh t n (s b c)=Y r/\Φ r):
  ∀(m i:Nat)(b:β)(n:Nat),c-i=m->i<=c->x b i->a+m<=n->∃r,eh t n (s b i)=Y r/\Φ r
 | 0,i,b,n,v,u,p,y=>by
  obtain rfl:i=c:=by omega
  exact g b n p S
 | m+1,i,b,n,v,u,p,y=>by
  obtain⟨n,rfl⟩:∃k,n=k+1:=⟨n-1,S⟩;rcases d b i S p with⟨j,q,h⟩|⟨r,l,o⟩
  .have⟨r,l,o⟩:=dP c s x Φ a d g m (i+1) j n S S q S;exact⟨r,by rw[eh,h];exact l,o⟩
  .exact⟨r,by rw[eh,l],o⟩
theorem dg{n:Nat}{s:σ}:eh t (n+1) s=match(t s).val with
  |some (.inl h)=>eh t n h
  |some (.inr r)=>Y r
  |none=>Q2:=rfl
end
variable {k:Nat}
theorem fC.cells{hp:Nat->AO}{cs':List AV}(c:fC C w U ρ hp)(l:hp k=.box cs)
  (y:∀vals,dn w U ρ cs vals->dn w U ρ cs' vals):fC C w U ρ (λj=>if j=k then .box cs' else hp j):=by
 have a:∀id b,ar ρ id (ite (id=k) (.box cs') (hp id)) b->ar ρ id (hp id) b:=by
  intro id b ho;by_cases x:id=k
  .subst x;rw[zf rfl]at ho;rw[l];have⟨_,v,z,u⟩:=ho;exact⟨rfl,v,z,u⟩
  .rw[zh x]at ho;exact ho
 refine⟨λid=>?_,λi d b o1 o2=>c.inj i d b (a _ _ o1) (a _ _ o2),λid b o=>c.blk id b (a _ _ o)⟩;by_cases x:id=k
 .subst x;have g:=c.ob id;rw[l]at g;have⟨b,h,vals,m,n,p,q,s⟩:=g;simp only[zi];exact⟨b,h,vals,m,n,p,y _ q,s⟩
 .simp only[zh x];exact c.ob id
def cW(p q:List CP)(y:zq p)(z:zq q):List AO:=.box (fE 2 p y)::.box (fE (2+bp p) q z)::(im p y++im q z)
theorem rH(p q:List CP)(y:zq p)(z:zq q):(cW p q y z).length=bp p+bp q+2:=by simp[cW,cE]
theorem fC.box2{H:List AV}{y:zq p}{z:zq q}(b:fC C w U ρ (λj=>((Qa cs::Qa H::os).getD j .dead)))(P:N os=bp p+bp q)
  (c:dj (lk (.box cs::.box H::os)) 2 p cs=Y y) (a:dj (lk (.box cs::.box H::os)) (2+bp p) q H=Y z):fC C w U ρ (λj=>(cW p q y z).getD j .dead):=by
 have d:=b.cells (k:=0) (cs:=cs) (cs':=fE 2 p y) rfl (λv h=>(gH p 2 cs y v c h).1);have g:=d.cells (k:=1) (cs:=H) (cs':=fE (2+bp p) q z) rfl (λv h=>(gH q _ H z v a h).1);have⟨F,B,u,_,_,_,o,_⟩:=b.ob 0;have⟨G,D,A,_,_,_,s,_⟩:=b.ob 1;have m:=(gH p 2 cs y u.toList c o).2;have n:=(gH q _ H z A.toList a s).2;have e:(λj=>(cW p q y z).getD j .dead)=λj=>if j=1 then .box (fE (2+bp p) q z)else if j=0 then .box (fE 2 p y)else(Qa cs::Qa H::os).getD j .dead:=by
  funext j
  match j with
  |0=>rfl
  |1=>rfl
  | j+2=>
   rw[zh S,zh S];simp only[cW,D1];by_cases i:j<bp p
   .have x:j<(im p y).length:=by rw[cE];exact i
    have:=m j _ (aj x);simp only[lk,kY 2 j,D1]at this;rw[this,bD,rz x,aj x];rfl
   .by_cases l:j<bp p+bp q
    .have x:j-bp p<(im q z).length:=by rw[cE];omega
     have:=n (j-bp p) _ (aj x);rw[show 2+bp p+(j-bp p)=j+2 by omega]at this;simp only[lk,D1]at this;rw[this,bD,pE (by rw[cE];omega),cE,aj x];rfl
    .rw[bD,bD,fa (by simp[cE];omega),fa S]
 rw[e];exact g
def CU(p q:List CP)(outs:List Sh)(r:AV)(h:List AO):Option (zH (outs.map Y)×zq p×zq q):=match h with
 | .box c::.box ds::os=>if Io os=bp p+bp q then match aX [] outs r,dj (lk (.box c::.box ds::os)) 2 p c,dj (lk (.box c::.box ds::os)) (2+bp p) q ds with
   |some a,Y y,Y z=>Y (a,y,z)
   |_,_,_=>Q2
  else Q2
 |_=>Q2
def zid(p d:List CP)(ks outs:List Sh)(a b:List CP)(c:zq p->zq d->zH (ks.map Y)->Bool)(g:zq p->zq d->zH (ks.map Y)->zH (outs.map Y)×zq a×zq b):fA (Q2::Q2::ks.map Y):=λx h=>match x.1,x.2.1,h with
 | .ptr 0 0,.ptr 1 0,.box i::.box ds::os=>if Io os=bp p+bp d then match dj (lk (.box i::.box ds::os)) 2 p i,dj (lk (.box i::.box ds::os)) (2+bp p) d ds with
   |some y,Y z=>.chk (c y z x.q) (.ok (Cj outs (g y z x.q).1,cW a b (g y z x.q).2.1 (g y z x.q).q))
   |_,_=>.err
  else .err
 |_,_,_=>.err
def Yu(ps qs:List CP)(ks outs:List Sh)(p q:List CP)(c:zq ps->zq qs->zH (ks.map Y)->Bool)(g:zq ps->zq qs->zH (ks.map Y)->zH (outs.map Y)×zq p×zq q):ak:=bj (Q2::Q2::ks.map Y) (zid ps qs ks outs p q c g)
theorem XX{u A:List CP}{c:zq p->zq q->zH (ks.map some)->Bool}{d:zq p->zq q->zH (ks.map some)->zH (outs.map some)×zq u×zq A}(hf:aa E.P h f (N ks+2))
  (i:∀y z x,c y z x=Z->∀C:eU,(∀id,bp p+bp q+2<=id->C.ρ0 id=Q2)->Reach E C h (bv f) (bl f.ntmps (.ptr 0 0::.ptr 1 0::jj (ks.map Y) x) (cW p q y z)) (λr i=>CU u A outs r i=Y (d y z x))) (qp:E.P=P:=by rfl) (qg:E.gl=g:=by rfl):
  ou P g h (Yu p q ks outs u A c d):=by
 subst qp qg;refine dA (by simpa using hf) λx h0 x5 l C hC=>?_
 obtain⟨x0,x1,x⟩:=x;unfold zid at l;simp only at l;split at l
 .rename_i cs ds os;split at l
  .rename_i s;split at l
   .rename_i y z hy hz;simp only[Tr.val]at l;split at l
    .rename_i hc;simp only[bH]at l;subst l;have hR:=i y z x hc C (λid k=>hC id (by simpa[s]using k));intro b F a w U ρ h1 h2 m hW;have hH:fC C w U ρ (λj=>((Qa cs::Qa ds::os).getD j .dead)):=m.hp
     have B:Cn C (bl f.ntmps (.ptr 0 0::.ptr 1 0::jj (ks.map Y) x) (cW p q y z)) a w U ρ:=
      ⟨m.tm,hH.box2 s hy hz,λid k=>m.new id (by have k:(cW p q y z).length<=id:=k;rw[rH]at k;simpa[bl,s]using k),m.df,m.r0⟩
     obtain⟨e,w',fr,⟨v,r,h',U',ρ',he,n,h7,G,D,h6,H⟩,h4,h5,hl⟩:=hR b F a w U ρ h1 h2 B hW;unfold CU at n;split at n
     .rename_i x2 x3 x4;split at n
      .rename_i o;split at n
       next a' y' z' h3 h8 h9=>simp only[bH]at n;refine⟨e,w',fr,⟨v,_,_,U',ρ',he,by rw[<-n],Kb h3 h7,G.box2 o h8 h9,λid k=>D id (by rw[rH]at k;simpa[o]using k),h6,H⟩,h4,h5,hl⟩
       .cases n
      .cases n
     .cases n
    .simp at l
   .simp at l
  .simp at l
 .simp at l
def Uu(outs:List Sh)(p q:List CP)(t:σ->Tr (σ⊕ay))(n:Nat)(i:Tr (σ⊕ay)):Option (zH (outs.map Y)×zq p×zq q):=(bT t n i).bind λr=>CU p q outs r.1 r.2
theorem zmc{qs:List CP}{e:σ->Nat×St}{t:σ->Tr (σ⊕ay)}{i:zq ps->zq qs->zH (ks.map Y)->Tr (σ⊕ay)}{c:zq ps->zq qs->zH (ks.map Y)->Bool}{a:zq ps->zq qs->zH (ks.map Y)->zH (outs.map Y)×zq p×zq q}
  (B:zx E) (m:aa E.P h f (N ks+2)) (k:∀y z x,run E (bp ps+bp qs+2) keep f.results.toList gas (bv f) (bl f.ntmps (.ptr 0 0::.ptr 1 0::jj (ks.map Y) x) (cW ps qs y z))=(i y z x).map (lf f e))
  (l:∀s,run E (bp ps+bp qs+2) keep f.results.toList gas (aq f (e s).1) (e s).2=(t s).map (lf f e))
  (D:∀y z x,c y z x=(Uu outs p q t n (i y z x)).isSome) (F:∀y z x,a y z x=(Uu outs p q t n (i y z x)).getD (ct outs,gn p,gn q)) (H:E.P=P:=by rfl) (G:E.gl=g:=by rfl):ou P g h (Yu ps qs ks outs p q c a):=by
 subst H G;refine XX m λy z x d C A=>?_
 rw[D,Option.isSome_iff_exists]at d;have⟨u,j⟩:=d;rw[F,j];unfold Uu at j;rw[gE]at j;have⟨r,o,v⟩:=j;exact mB (Q:=λr b=>CU p q outs r b=Y u) B m A (n+1) _ _ r (by rw[kd l (k y z x)];exact o) v
section
variable {σ:Type} {t:σ->Tr (σ⊕ay)}
def zV(t:σ->Tr (σ⊕ay))(k:Nat)(s:σ)(r:ay):Prop:=∀n,k<=n->eh t n s=Y r
def zG(t:σ->Tr (σ⊕ay))(m:Nat)(s s':σ):Prop:=∀k r,zV t k s' r->zV t (k+m) s r
variable {k:Nat}{s:σ}{r:ay}
theorem zV.mono{c:Nat}(h:zV t k s r)(x:k<=c):zV t c s r:=λn a=>h n S
theorem zV.of(h:(t s).val=Y (.inr r)):zV t 1 s r:=by intro n x;obtain⟨n,rfl⟩:∃k,n=k+1:=⟨n-1,S⟩;rw[eh,h]
variable {s':σ}
theorem zG.of(h:(t s).val=Y (.inl s')):zG t 1 s s':=by intro k r x n a;obtain⟨n,rfl⟩:∃k,n=k+1:=⟨n-1,S⟩;rw[eh,h];exact x n S
theorem zG.refl(s:σ):zG t 0 s s:=λ_ _ h=>h
variable {a:Nat}
theorem zG.trans{b:Nat}{x:σ}(c:zG t a s s')(d:zG t b s' x):zG t (b+a) s x:=λk r h=>(c _ _ (d k r h)).mono S
theorem zG.mono{b:Nat}(h:zG t a s s')(c:a<=b):zG t b s s':=λk r x=>(h k r x).mono S
theorem zG.ends(h:zG t a s s')(x:zV t k s' r):zV t (k+a) s r:=h k r x
theorem zG.all(m:Nat)(s:Nat->σ):∀(x:Nat),(∀i,i<x->zG t m (s i) (s (i+1)))->zG t (x*m) (s 0) (s x)
 |0,_=>(zG.refl _).mono S
 |x+1,h=>((zG.all m s x λi a=>h i S).trans (h x S)).mono (by rw[rt];omega)
theorem nP{Φ:ay->Prop}(m:Nat)(s:Nat->σ)(P:Nat->Prop):∀(x:Nat),(∀i,i<x->(∀j,j<i->P j)->(P i/\zG t m (s i) (s (i+1)))\/(¬P i/\∃r,zV t m (s i) r/\Φ r))->
  ((∀i,i<x->P i)/\zG t (x*m) (s 0) (s x))\/((¬∀i,i<x->P i)/\∃r,zV t (x*m) (s 0) r/\Φ r)
 |0,_=>.inl ⟨λi a=>zB a S,(zG.refl _).mono S⟩
 | x+1,h=>by
  rcases nP m s P x λi a=>h i S with⟨b,c⟩|⟨b,r,c,k⟩
  .rcases h x S b with⟨d,g⟩|⟨d,r,g,l⟩
   .refine .inl ⟨λi a=>?_,(c.trans g).mono (by rw[rt];omega)⟩;rcases Nat.lt_succ_iff_lt_or_eq.1 a with a|rfl
    .exact b i a
    .exact d
   .exact .inr ⟨λh=>d (h x S),r,(c.ends g).mono (by rw[rt];omega),l⟩
  .exact .inr ⟨λh=>b λi a=>h i S,r,c.mono (by rw[rt];omega),k⟩
variable {outs:List Sh}{n:Nat}{i:Tr (σ⊕ay)}
theorem zz{y:zH (outs.map Y)}(x:i.val=Y (.inl s))(h:zV t k s r)(a:k<=n)(b:aX r.2 outs r.1=Y y):am outs t n i=Y y:=by unfold am bT;rw[x];show(eh t n s).bind _=_;rw[h n a];exact b
theorem zQ{y:zH (outs.map Y)}(h:i.val=Y (.inr r))(x:aX r.2 outs r.1=Y y):am outs t n i=Y y:=by unfold am bT;rw[h];exact x
theorem zbb{ps:List CP}{v:Tr (σ⊕ay)}{y:zH (outs.map Y)×zq ps}(h:v.val=Y (.inr r))(x:vG ps outs r.1 r.2=Y y):kM outs ps t n v=Y y:=by unfold kM bT;rw[h];exact x
end
variable {fn:FuncId}{x:List Item}{s:St}{Q:AV->List AO->Prop}
theorem Reach.lenA(j c:Nat)(e:Sh)(l:List (L e)){m:List AV}(n:s.tmps[j]?=Y (.agg m))(o:m[c]?=Y (.sl e l))(h:N l<=aF->Reach E C fn x s Q):Reach E C fn x s Q:=by
 intro b g a w U ρ z A i q;refine h ?_ b g a w U ρ z A i q;have d:j<a.tmps.toList.length:=by rw[<-i.tm.len];exact(dF.1 n).1
 have:=i.tm.rv j _ _ n (aj d);generalize a.tmps.toList[j]=v at this;cases this with
 |agg _ p k _ y=>
 have d:c<N p:=by rw[<-k];exact(dF.1 o).1
 have:=y c _ _ o (aj d);generalize p[c]=v at this;cases this with
 |sl0=>simp
 |sl _ _ _ _ _ _ _ u=>exact u
abbrev zul:Nat->aY:=λj=>if j=3 then{slots:=[0,3,4],prom:=[(3,Q2,R)]}else{ }
inductive Vp where
 |h3 (l0:zr) (i4:Int) (lh_0:zr)
abbrev zxr:Vp->Nat×St
 |.h3 h i l=>(3,⟨tm 24 [(0,O R h),(3,AV.vec 0),(4,J i)],[AO.vec R l]⟩)
def zza(x:L ze.sl):Tr (Vp⊕ay):=Tr.to (Vp.h3 x 0 [])
def zgu:Vp->Tr (Vp⊕ay)
 | .h3 h i l=>
  let a:=h.getD i.toNat (zj R)
  let x:=[H3 a]
  br (cond (Q0 (i<(N h:Int))) (Q0 (i<14)) M)
  (chk (zK i (N h)) (chk (Qp a) (chk (Q0 (N l+N x<=1073741824)) (Tr.to (Vp.h3 h (Γ Δ (i+1)) (l++x))))))
  (re (AV.vec 0) [AO.vec R l])
def zvo(x:L ze.sl):=am [ze.sl] zgu 100000000 (zza x)
def zpS:=FT [ze.sl] [ze.sl] λx=>zvo x.1
theorem XN:FK 17 zpS:=Am.T1 (f:=f17) (keep:=zul) (e:=zxr)
abbrev zuK:Nat->aY:=λj=>if j=3 then{slots:=[0,3,4],prom:=[(3,Q2,zp)]}else{ }
inductive QD where
 |h3 (l0:aZ) (i4:Int) (lh_0:aZ)
abbrev zxK:QD->Nat×St
 |.h3 h i l=>(3,⟨tm 33 [(0,O zp h),(3,AV.vec 0),(4,J i)],[AO.vec zp l]⟩)
def zze(x:L zp.sl):Tr (QD⊕ay):=Tr.to (QD.h3 x 0 [])
def zgz:QD->Tr (QD⊕ay)
 | .h3 h i l=>
  let a:=h.getD i.toNat (zj zp)
  let x:=(N a.1:Int)
  let b:=[(Qg (W 20-W 0) (Qh (W 0) a.1),a.2)]
  let c:=Γ Δ (i+1)
  let d:=[a]
  br (cond (Q0 (i<(N h:Int))) (Q0 (i<9)) M)
  (chk (zK i (N h)) (br (Q0 (x>20)) (chk (Q0 (0<=0)&&Q0 (0<=20)&&Q0 (20<=x)) (chk (Q0 (N l+N b<=1073741824)) (Tr.to (QD.h3 h c (l++b))))) (chk (Q0 (N l+N d<=1073741824)) (Tr.to (QD.h3 h c (l++d))))))
  (re (AV.vec 0) [AO.vec zp l])
def zvn(x:L zp.sl):=am [zp.sl] zgz 100000000 (zze x)
def zqv:=FT [zp.sl] [zp.sl] λx=>zvn x.1
theorem XR:FK 56 zqv:=Am.T1 (f:=f56) (keep:=zuK) (e:=zxK)
def eH(l:L ze.sl):L ze.sl:=(Qg 14 l).map H3
def kL(l:L zp.sl):L zp.sl:=(Qg 9 l).map λc:cK=>((kj c.1,c.2):cK)
theorem yO(k:Nat)(l:List α):l.take (min k (N l))=l.take k:=by
 rcases Nat.le_total k (N l)with h|h
 .rw[Iq h]
 .rw[In h,eF,DZ h]
theorem zfA{x:Nat}{K:Int}(c:K=(k:Int))(h:n<min k x):(cond (Q0 ((n:Int)<(x:Int))) (Q0 ((n:Int)<K)) M)=Z:=by
 have a:(n:Int)<x:=by omega
 have b:(n:Int)<K:=by omega
 rw[zC a,zC b];rfl
theorem T7{K:Int}(x:K=(k:Int))(n:Nat):(cond (Q0 (((min k n:Nat):Int)<(n:Int))) (Q0 (((min k n:Nat):Int)<K)) M)=M:=by
 rcases Nat.le_total k n with h|h
 .rw[Iq h,x];simp
 .rw[In h];simp
theorem MZ{l:List α}(h:n<N l)(d:α):l.take (n+1)=l.take n++[l.getD n d]:=by rw[List.take_add_one,aj h,bD,aj h];rfl
def NY:=zii.addL [(17,zpS),(56,zqv)]
theorem An:zx NY:=Am.addL<|fc XN<|fc XR iP
theorem pC{c:zH (ks.map Y)->Bool}{a:zH (ks.map Y)->zH (outs.map Y)}(b:ou P g h (af ks outs c a))(d:∀x,c x=Z):ou P g h (ba ks outs a):=
 Tc (by rwa [show c=λ_=>Z from funext d]at b)
theorem Hs(v:V):Qp v=Z:=by
 unfold Qp;cases h:Q0 ((N v.2.2:Int)>60)
 .rfl
 .simp only[bc]at h;simp only[aG,aO,bc];omega
theorem SC(s:zN):U6 s=Z:=by
 unfold U6;cases h:Q0 ((N s:Int)>20)
 .rfl
 .simp only[bc]at h;simp only[aG,aO,bc];omega
theorem WL(l:zr):zvo l=Y (eH l,()):=by
 have g:=zG.all (t:=zgu) 1 (λi=>.h3 l (i:Int) ((Qg i l).map H3)) (min 14 (N l)) λi x=>zG.of (by
  have h:i<N l:=by omega
  have a:Q0 ((List.map H3 (Qg i l)).length+[H3 (l.getD i (zj R))].length<=1073741824)=Z:=by simp;omega
  simp only[zgu,Tr.val,zfA (k:=14) (K:=14) rfl x,zu h,zi,aI,Hs,a];rw[zt i um,MZ h (zj R),gm];rfl)
 rw[yO]at g;refine zz rfl (g.ends (k:=1) (r:=(.vec 0,[.vec R (eH l)])) (zV.of ?_)) S rfl;simp only[zgu,Tr.val,T7 (k:=14) (K:=14) rfl,zA,zm];rfl
theorem WJ(l:aZ):zvn l=Y (kL l,()):=by
 have g:=zG.all (t:=zgz) 1 (λi=>.h3 l (i:Int) ((Qg i l).map λc:cK=>((kj c.1,c.2):cK))) (min 9 (N l)) λi j=>zG.of (by
  have d:i<N l:=by omega
  have n:(Qg (i+1) l).map (λc:cK=>((kj c.1,c.2):cK))=(Qg i l).map (λc:cK=>((kj c.1,c.2):cK))++[(kj (List.getD l i (zj zp)).1,(List.getD l i (zj zp)).2)]:=by rw[MZ d (zj zp),gm];rfl
  have b:((Qg i l).map (λc:cK=>((kj c.1,c.2):cK))).length<=9:=by rw[cY,oC];omega
  rw[n];generalize(Qg i l).map (λc:cK=>((kj c.1,c.2):cK))=a at b|-;have m:Q0 (N a+1<=1073741824)=Z:=zC S;simp only[zgz,Tr.val,zfA (k:=9) (K:=9) rfl j,zu d,zi,aI,fB,qK,eI,m];rw[zt i um];unfold kj;by_cases h:(N (List.getD l i (zj zp)).1:Int)>20
  .have x:Q0 ((20:Int)<=(N (List.getD l i (zj zp)).1:Int))=Z:=zC S;simp only[zC h,x,zi];rfl
  .simp only[aC h,zA,zm])
 rw[yO]at g;refine zz rfl (g.ends (k:=1) (r:=(.vec 0,[.vec zp (kL l)])) (zV.of ?_)) S rfl;simp only[zgz,Tr.val,T7 (k:=9) (K:=9) rfl,zA,zm];rfl
def zpT:ak:=ba [R] [R] λx=>(H3 x.1,())
theorem zkw:FK 41 zpT:=pC zhZ λx=>Hs x.1
def zpK:ak:=ba [Q6] [Q6] λx=>(kj x.1,())
theorem zkp:FK 185 zpK:=pC zhY λx=>SC x.1
def F6t:ak:=ba [ze.sl] [ze.sl] λx=>(eH x.1,())
theorem zr8:FK 17 F6t:=iV XN λx=>WL x.1
def zpO:ak:=ba [zp.sl] [zp.sl] λx=>(kL x.1,())
theorem zkt:FK 56 zpO:=iV XR λx=>WJ x.1
abbrev CF:Nat->aY:=λ_=>{slots:=[0,1,7,8]}
def pY{K:List Item}{e:Sh}(l:List (L e))(p:L e->Bool)(s:Int->St)(h:List AO)(i:Int):Tr zU:=.br (Q0 (i<(N l:Int))) (.chk (zK i (N l)) (.br (p (l.getD i.toNat (zj e))) (.ok (.ret (J i) h)) (.ok (.head 2 K (s (Γ Δ (i+1))))))) (.ok (.ret (J (-1)) h))
variable {z:List AO}
theorem lZ{n0:Nat}{b:Nat}{e:Sh}(l:List (L e))(p:L e->Bool)(s:Int->St)
  (d:zx E) (j:aa E.P h f n) (g:∀id,n0<=id->C.ρ0 id=Q2)
  (c:∀i,run E n0 keep f.results.toList b K (s i)=pY (K:=K) l p s z i) (o:N l<=aF):∀(m i:Nat),N l-i=m->i<=N l->
  Reach E C h K (s i) (λr x=>(r,x)=(J (al p (l.drop i) i),z)):=by
 intro m
 induction m with
 | zero=>
  intro i d.mix' hi;obtain rfl:i=N l:=by omega
  refine zL d j g (c _) ?_;simp only[pY,Tr.val,zJ,kE];rfl
 | succ m k=>
  intro i d.mix' hi;have a:i<N l:=by omega
  refine zL d j g (c _) ?_;rw[gF a];simp only[pY,Tr.val,zM a,zu a,dq l _ a,zt i S,zi,al];split
  .rfl
  .exact k (i+1) S S
abbrev DA(t:Int)(l:ea)(i:Int):St:={tmps:=[.sl zk l,.clo (.func 311) [] [.ptr 0 0],.any,.any,.any,.any,.any,J (N l),J i,.any,.any,.any,.any,.any,.any,.any,.any,.any,.any],heap:=[.box [J t]]}
theorem ZG(t:Int)(l:ea):run NY 1 CF f338.results.toList 300 (bv f338) (bl f338.ntmps [.sl zk l,.clo (.func 311) [] [.ptr 0 0]] [.box [J t]])=.ok (.head 2 (aq f338 2) (DA t l 0)):=kw
theorem za1(t:Int)(l:ea)(i:Int):run NY 1 CF f338.results.toList 300 (aq f338 2) (DA t l i)=pY (K:=aq f338 2) (e:=zk) l (λx=>bif x !=t then x !=0 else M) (DA t l) [.box [J t]] i:=kw
theorem zaM:aa NY.P 338 f338 2:=cM kw
def zsz:fA [Y (.sl zk),Q2]:=λx h=>match x,h with
 |(l,.clo (.func 311) [] [.ptr 0 0],_),[.box [J t]]=>.ok (J (al (λx=>bif x !=t then x !=0 else M) l 0),[.box [J t]])
 |_,_=>.err
def zpv:ak:=bj [Y (.sl zk),Q2] zsz
theorem zka:FK 338 zpv:=by
 refine dA zaM λx d c h C a=>?_
 unfold zsz at h;split at h
 .rename_i l u t;simp only[Tr.val_ok,bH]at h;subst h;refine Reach.len 0 zk l rfl λb=>?_
  refine zL (n0:=1) An zaM a (ZG t l) ?_;exact lZ l (λx=>bif x !=t then x !=0 else M) (DA t l) An zaM a (za1 t l) b _ 0 rfl (aK _)
 .simp at h
def xg:=NY.addL [(41,zpT),(185,zpK),(17,F6t),(56,zpO),(338,zpv)]
theorem oL:zx xg:=An.addL<|fc zkw<|fc zkp<|fc zr8<|fc zkt<|fc zka iP
def F78:ak:=bj [Y (.sl zk),Q2] (ff xg f310 [Y (.sl zk),Q2])
theorem zse:FK 310 F78:=cr _ oL (cM kw)
def eS(x:L Q6):L Q7:=sS x
theorem zvG:aa xg.P 173 f173 1:=cM kw
theorem zyq(x:L Q6):rn xg 0 (λ_=>{ }) f173 [zX Q6 x] []=Tr.ok (zU.ret (AV.bool (sS x)) []):=kw
def F25:ak:=ba [Q6] [Q7] λx=>(eS x.1,())
theorem zrw:FK 173 F25:=by
 refine az zvG λx C h=>?_
 refine bB oL zvG (λid _=>h id) (zyq x.1) ?_;simp only[Tr.val,eS];repeat' split
 all_goals rfl
def ab(x:ap)(h:L Q6):zy:=al (λc=>c.1==h) x.2.1 0
theorem zvC:aa xg.P 108 f108 2:=cM kw
theorem zym(x:ap)(h:L Q6):rn xg 0 (λ_=>{ }) f108 [zX ae x,zX Q6 h] []=Tr.ok (zU.ret (J (al (λc=>c.1==h) x.2.1 0)) []):=kw
def F17:ak:=ba [ae,Q6] [zk] λx=>(ab x.1 x.2.1,())
theorem zrr:FK 108 F17:=by
 refine az zvC λx C h=>?_
 refine bB oL zvC (λid _=>h id) (zym x.1 x.2.1) ?_;simp only[Tr.val,ab];repeat' split
 all_goals rfl
def aL(x:L zp.sl)(h:L Q6):zy:=al (λc=>c.1==h) x 0
theorem zvV:aa xg.P 238 f238 2:=cM kw
theorem zyJ(x:L zp.sl)(h:L Q6):rn xg 0 (λ_=>{ }) f238 [zX zp.sl x,zX Q6 h] []=Tr.ok (zU.ret (J (al (λc=>c.1==h) x 0)) []):=kw
def F48:ak:=ba [zp.sl,Q6] [zk] λx=>(aL x.1 x.2.1,())
theorem zrP:FK 238 F48:=by
 refine az zvV λx C h=>?_
 refine bB oL zvV (λid _=>h id) (zyJ x.1 x.2.1) ?_;simp only[Tr.val,aL];repeat' split
 all_goals rfl
def ID:=xg.addL [(310,F78),(173,F25),(108,F17),(238,F48)]
theorem Ao:zx ID:=oL.addL<|fc zse<|fc zrw<|fc zrr<|fc zrP iP
def qY(h:L zk.sl)(a:zy):L Q7:=!Q0 (al (λx=>bif x !=a then x !=0 else M) h 0>=0)
theorem zv6:aa ID.P 271 f271 2:=cM kw
theorem zyV(h:L zk.sl)(a:zy):rn ID 0 (λ_=>{ }) f271 [zX zk.sl h,zX zk a] []=Tr.ok (zU.ret (AV.bool !Q0 (al (λx=>bif x !=a then x !=0 else M) h 0>=0)) []):=kw
def F66:ak:=ba [zk.sl,zk] [Q7] λx=>(qY x.1 x.2.1,())
theorem zr5:FK 271 F66:=by
 refine az zv6 λx C h=>?_
 refine bB Ao zv6 (λid _=>h id) (zyV x.1 x.2.1) ?_;simp only[Tr.val,qY];repeat' split
 all_goals rfl
def aD(x:L Q6):L Q7:=bif eS x then !kh x else M
theorem zvB:aa ID.P 107 f107 1:=cM kw
theorem zyl(x:L Q6):rn ID 0 (λ_=>{ }) f107 [zX Q6 x] []=Tr.ok (zU.ret (AV.bool (cond (eS x) (!kh x) M)) []):=kw
def F16:ak:=ba [Q6] [Q7] λx=>(aD x.1,())
theorem zrq:FK 107 F16:=by
 refine az zvB λx C h=>?_
 refine bB Ao zvB (λid _=>h id) (zyl x.1) ?_;simp only[Tr.val,aD];repeat' split
 all_goals rfl
def Y7:=ID.addL [(271,F66),(107,F16)]
theorem IE:zx Y7:=Ao.addL<|fc zr5<|fc zrq iP
theorem e7{c:zH (ks.map Q1)->Bool}{a:zH (ks.map Q1)->zH (outs.map Q1)}(j:∃fn,P.funcs[h]?=Q1 fn/\(fn.name=="runtime.NumGoroutine")=Q4/\fn.body.isNone=Q4)(o:∀x,c x=Q4):ou P g h (af ks outs c a):=by
 refine⟨j,?_⟩;intro w U ρ p n d v f l b;exfalso;unfold af bj at b;split at b
 .simp only at b;split at b
  .split at b
   .simp only[Tr.val_bind,gE]at b;have⟨k,i,m⟩:=b;unfold gu at i;grind[Tr.val]
   .simp at b
  .simp at b
 .simp at b
variable {Φ:zU->Prop}{t:Tr zU}
theorem oy{c:Bool}{f:Tr zU}(h:c=Z->iy Φ t.val)(x:c=M->iy Φ f.val):iy Φ (br c t f).val:=by grind[Tr.val]
theorem fV{c:Bool}(x:c=Z)(h:iy Φ t.val):iy Φ (chk c t).val:=by subst x;simpa[Tr.val]using h
theorem eo(h:iy Φ t.val):iy Φ (chk Z t).val:=h
theorem oZ{c:Bool}(h:c=M):¬c=Z:=by rw[h];simp
theorem tr{c g:Bool}(h:(ite (c=Z) g M)=Z):c=Z/\g=Z:=by
 split at h
 .exact⟨‹_›,h⟩
 .cases h
theorem obr{c:Bool}{f:Tr zU}{α:Sort _}{a b y:α}{p q:Bool}(d:(ite (c=Z) a b)=y)(x:(ite (c=Z) p q)=Z)(g:c=Z->a=y->p=Z->iy Φ t.val)(i:c=M->b=y->q=Z->iy Φ f.val):iy Φ (Tr.br c t f).val:=
 oy (λh=>g h (by rwa [zf h]at d) (by rwa [zf h]at x)) (λh=>i h (by rwa [zh (oZ h)]at d) (by rwa [zh (oZ h)]at x))
theorem FU{c:Bool}{f:Tr zU}{α:Sort _}{a b y:α}(x:(ite (c=Z) a b)=y)(d:c=Z->a=y->iy Φ t.val)(g:c=M->b=y->iy Φ f.val):iy Φ (Tr.br c t f).val:=
 oy (λh=>d h (by rwa [zf h]at x)) (λh=>g h (by rwa [zh (oZ h)]at x))
theorem Lr{c g:Bool}(x:(ite (c=Z) g M)=Z)(h:g=Z->iy Φ t.val):iy Φ (Tr.chk c t).val:=
 fV (tr x).1 (h (tr x).2)
theorem Tr.val_brT(t f:Tr α):(br Z t f).val=t.val:=rfl
theorem Tr.val_brF(t f:Tr α):(br M t f).val=f.val:=rfl
theorem Tr.val_chkT(t:Tr α):(chk Z t).val=t.val:=rfl
instance:Inhabited zg:=⟨.mk [] (0,0,[]) [] []⟩
instance (s:Sh):Inhabited (L s):=⟨zj s⟩
variable {A:Prop}
theorem M8{G P:Prop}(h:A)(c:G)(k:A->G->P:=by
 intro hy hc
 try simp only[zg.eta,zn]
 repeat' (first|with_reducible refine obr hy hc (λ_ hy hc=>?_) (λ_ hy hc=>?_)|with_reducible refine FU hy (λ_ hy=>?_) (λ_ hy=>?_)|with_reducible refine Lr hc (λhc=>?_)|with_reducible refine eo ?_)
 all_goals first|(cases hc;done)|(subst hy;first|rfl)):P:=k h c
theorem UW{P:Prop}(h:A)(k:A->P:=by
 intro hy
 try simp only[zg.eta,zn]
 repeat' (first|with_reducible refine FU hy (λ_ hy=>?_) (λ_ hy=>?_)|with_reducible refine eo ?_)
 all_goals first|(cases hc;done)|(subst hy;first|rfl)):P:=k h
theorem zgd{G B P:Prop}(h:A)(c:G)(b:B)(k:A->G->B->P:=by
 intro hy hc IH
 try simp only[zg.eta,zn]
 repeat' (first|with_reducible refine obr hy hc (λ_ hy hc=>?_) (λ_ hy hc=>?_)|with_reducible refine FU hy (λ_ hy=>?_) (λ_ hy=>?_)|with_reducible refine Lr hc (λhc=>?_)|with_reducible refine eo ?_)
 all_goals first|(cases hc;done)|(subst hy;first|(change Reach _ _ _ _ _ _;apply IH<;>first|omega|assumption)|rfl)):P:=k h c b
theorem PW{B P:Prop}(h:A)(b:B)(k:A->B->P:=by
 intro hy IH
 try simp only[zg.eta,zn]
 repeat' (first|with_reducible refine FU hy (λ_ hy=>?_) (λ_ hy=>?_)|with_reducible refine eo ?_)
 all_goals first|(cases hc;done)|(subst hy;first|(change Reach _ _ _ _ _ _;apply IH<;>first|omega|assumption)|rfl)):P:=k h b
def Wc(g:L Q5->cw->zy×zy)(c:L Q5->cw->Bool):cy:=Y7.add 227 (af [Q5,Sh.sl zp] [zk,zk] (λx=>c x.1 x.2.1) λx=>((g x.1 x.2.1).1,(g x.1 x.2.1).2,()))
theorem EA{g:L Q5->cw->zy×zy}{c:L Q5->cw->Bool}(h:FK 227 (af [Q5,Sh.sl zp] [zk,zk] (λx=>c x.1 x.2.1) λx=>((g x.1 x.2.1).1,(g x.1 x.2.1).2,()))):zx (Wc g c):=IE.add h
abbrev zjB:Nat->aY:=λj=>if j=3 then{slots:=[1,2,6,15,16,17],prom:=[(6,Q2,zk)]}else{ }
abbrev GY(k:LC)(g:LX)(i h:Int)(j:zN)(x a:Int)(b c:zN)(d:LX)(l:LI):St:={tmps:=(tm 91 [(1,O zp k),(2,ptr 0 0),(6,AV.vec 1),(15,O Q5 g),(16,J i),(17,J h)]),heap:=[Qa [X j,J x,J a,X b,X c,O Q5 d],AO.vec zk l]}
theorem FX(g:L Q5->cw->zy×zy)(c:L Q5->cw->Bool):aa (Wc g c).P 227 f227 2:=cM kw
theorem ztv(g:L Q5->cw->zy×zy)(c:L Q5->cw->Bool)(x:L Q5)(h:L zp.sl):rn (Wc g c) 0 zjB f227 [zX Q5 x,zX zp.sl h] []=Tr.ok (zU.head 3 (aq f227 3) (GY h (zg.l x) (↑(zg.l x).length:Int) 0 (zg.op x) (zg.v x).1 (zg.v x).2.1 (zg.v x).2.2 (zg.s x) (zg.l x) [])):=kw
theorem Uq(g:L Q5->cw->zy×zy)(c:L Q5->cw->Bool)(h:LC)(a:LX)(b i:Int)(j:zN)(d m:Int)(n x:zN)(o:LX)(l:LI):rh (Wc g c) 0 zjB f227 3 (GY h a b i j d m n x o l)=let p:=Tr.ok (zU.ret (tup [J 0,J 5]) []);let q:=Tr.ok (zU.ret (tup [J 3,J 0]) []);let u:=chk (zK 0 (N l)&&(Q0 (W 0<N l)&&(zK 1 (N l)&&(Q0 (W 1<N l)&&bif l.getD (W 0) (zj zk)==l.getD (W 1) (zj zk)then Z else zK 0 (N l)&&(Q0 (W 0<N l)&&bif l.getD (W 0) (zj zk)==0 then Z else zK 1 (N l)&&Q0 (W 1<N l)))))) (br (!bif l.getD (W 0) (zj zk)==l.getD (W 1) (zj zk)then Z else bif l.getD (W 0) (zj zk)==0 then Z else l.getD (W 1) (zj zk)==0) p q);let y:=a.getD i.toNat (zj Q5);let k:=zw y;let v:=br (!qY l 1) p (Tr.ok (zU.ret (tup [J 1,J 0]) []));let s:=br (!qY l 3) p q;
 br (Q0 (i<b)) (chk (zK i (N a)) (chk (c k h) (br ((g k h).2!=0) (Tr.ok (zU.ret (tup [J 0,J (g k h).2]) [])) (chk (Q0 (N l+[(g k h).1].length<=1073741824)) (Tr.ok (zU.head 3 (aq f227 3) (GY h a b (Γ Δ (i+1)) j d m n x o (l++[(g k h).1])))))))) (br (j==pI) (Tr.ok (zU.ret (tup [J d,J 0]) [])) (br (j==fh) (br (Q0 (aL h x<0)) (Tr.ok (zU.ret (tup [J 0,J 4]) [])) (chk (zK (aL h x) (N h)) (Tr.ok (zU.ret (tup [J (h.getD (W (aL h x)) (zj zp)).2.1,J 0]) [])))) (br (j==oH) s (br (j==jf) s (br (j==wS) s (br (j==[61]) u (br (j==[60]) u (br (j==[43]) v (br (j==[45]) v q))))))))):=kw
def bf(g:L Q5->cw->zy×zy)(c:L Q5->cw->Bool)(a:LC)(j:zN)(b d:Int)(k h:zN)(m:LX):List (L Q5)->Int->ea->zy×zy
 |[],_,l=>if(j==pI)=Z then(b,0)
else
 if(j==fh)=Z then
  if Q0 (aL a h<0)=Z then(0,4)
  else((a.getD (W (aL a h)) (zj zp)).2.1,0)
 else
  if(j==oH)=Z then if(!qY l 3)=Z then(0,5)else(3,0)
  else
   if(j==jf)=Z then if(!qY l 3)=Z then(0,5)else(3,0)
   else
    if(j==wS)=Z then if(!qY l 3)=Z then(0,5)else(3,0)
    else
     if (j==[61])=true then
      if
        (!bif l.getD (W 0) (zj zk)==l.getD (W 1) (zj zk)then Z
          else bif l.getD (W 0) (zj zk)==0 then Z else l.getD (W 1) (zj zk)==0)=
         Z then
       (0,5)
      else(3,0)
     else
      if (j==[60])=true then
       if
         (!bif l.getD (W 0) (zj zk)==l.getD (W 1) (zj zk)then Z
           else
            bif l.getD (W 0) (zj zk)==0 then Z else l.getD (W 1) (zj zk)==0)=
          Z then
        (0,5)
       else(3,0)
      else
       if(j==[43])=Z then if(!qY l 1)=Z then(0,5)else(1,0)
       else if(j==[45])=Z then if(!qY l 1)=Z then(0,5)else(1,0)else(3,0)
 |x::r,i,l=>if((g x a).2!=0)=Z then(0,(g x a).2)else bf g c a j b d k h m r (i+1) (l++[(g x a).1])
def ib(g:L Q5->cw->zy×zy)(c:L Q5->cw->Bool)(h:LC)(j:zN)(b d:Int)(k a:zN)(m:LX):List (L Q5)->Int->ea->Bool
 |[],_,l=>if(j==pI)=Z then Z
else
 if(j==fh)=Z then
  if Q0 (aL h a<0)=Z then Z else if zK (aL h a) (N h)=Z then Z else M
 else
  if(j==oH)=Z then Z
  else
   if(j==jf)=Z then Z
   else
    if(j==wS)=Z then Z
    else
     if (j == [61])=true then
      if
        (zK 0 (Io l)&&
          (Q0 (toNat 0<Io l)&&
           (zK 1 (Io l)&&
            (Q0 (toNat 1<Io l)&&
             bif l.getD (W 0) (zj zk)==l.getD (W 1) (zj zk)then Z
             else
              zK 0 (N l)&&
               (Q0 (W 0<N l)&&
                bif l.getD (W 0) (zj zk)==0 then Z
                else zK 1 (N l)&&Q0 (W 1<N l))))))=
         Z then
       Z
      else M
     else
      if (j == [60])=true then
       if
         (zK 0 (Io l)&&
           (Q0 (toNat 0<Io l)&&
            (zK 1 (Io l)&&
             (Q0 (toNat 1<Io l)&&
              bif l.getD (W 0) (zj zk)==l.getD (W 1) (zj zk)then Z
              else
               zK 0 (N l)&&
                (Q0 (W 0<N l)&&
                 bif l.getD (W 0) (zj zk)==0 then Z
                 else zK 1 (N l)&&Q0 (W 1<N l))))))=
          Z then
        Z
       else M
      else Z
 |x::r,i,l=>if c x h=Z then
 if((g x h).2!=0)=Z then Z
 else
  if Q0 (N l+[(g x h).1].length<=1073741824)=Z then
   ib g c h j b d k a m r (i+1) (l++[(g x h).1])
  else M
else M
theorem zd9(g:L Q5->cw->zy×zy)(c:L Q5->cw->Bool)(D:FK 227 (af [Q5,Sh.sl zp] [zk,zk] (λx=>c x.1 x.2.1) λx=>((g x.1 x.2.1).1,(g x.1 x.2.1).2,())))(B:∀id,C.ρ0 id=Q2)(v:LC)(j:zN)(k n:Int)(o p:zN)(q l:LX)(H:N l<=aF):∀(m i:Nat)(a:LI),N l-i=m->i<=N l->ib g c v j k n o p q (l.drop i) i a=Z->
  Reach (Wc g c) C 227 (aq f227 3) (GY v l (N l:Int) (i:Int) j k n o p q a) (λr h=>aX h [zk,zk] r=Y ((bf g c v j k n o p q (l.drop i) i a).1,(bf g c v j k n o p q (l.drop i) i a).2,())):=by
 intro m
 induction m with
 | zero=>
  intro i a G F d;obtain rfl:i=N l:=by omega
  rw[kE]at d|-;refine zL (EA D) (FX g c) (λid _=>B id) (Uq g c _ _ _ _ _ _ _ _ _ _ _) ?_;rw[ib]at d;generalize b:bf g c v j k n o p q [] _ a=y;rw[bf]at b;simp only[zg.eta,zJ,Tr.val_brF];repeat' (first|with_reducible refine obr b d (λ_ b d=>?_) (λ_ b d=>?_)|with_reducible refine FU b (λ_ b=>?_) (λ_ b=>?_)|with_reducible refine Lr d (λd=>?_)|with_reducible refine eo ?_)
  all_goals(subst b;first|rfl)
 | succ m A=>
  intro i a G F d;have u:i<N l:=by omega
  have A:=A (i+1);have s:((i:Int)+1)=((i+1:Nat):Int):=by omega
  have z:=zt i S;rw[gF u]at d|-;refine zL (EA D) (FX g c) (λid _=>B id) (Uq g c _ _ _ _ _ _ _ _ _ _ _) ?_;rw[ib]at d;generalize b:bf g c v j k n o p q (l[i]::l.drop (i+1)) (i:Int) a=y;rw[bf]at b;simp only[zg.eta,zM u,zu u,dq l _ u,z,Tr.val_brT,Tr.val_chkT];clear z;simp only[s]at b
  try simp only[s]at d
  repeat' (first|with_reducible refine obr b d (λ_ b d=>?_) (λ_ b d=>?_)|with_reducible refine FU b (λ_ b=>?_) (λ_ b=>?_)|with_reducible refine Lr d (λd=>?_)|with_reducible refine eo ?_)
  all_goals(subst b;first|(change Reach _ _ _ _ _ _;apply A<;>first|omega|assumption)|rfl)
theorem Yf(g:L Q5->cw->zy×zy)(c:L Q5->cw->Bool)(q:FK 227 (af [Q5,Sh.sl zp] [zk,zk] (λx=>c x.1 x.2.1) λx=>((g x.1 x.2.1).1,(g x.1 x.2.1).2,())))(o:∀id,C.ρ0 id=Q2)(n:LC)(j:zN)(b d:Int)(i k:zN)(m a:LX)(l:LI)(p:ib g c n j b d i k m a 0 l=Z):
  Reach (Wc g c) C 227 (aq f227 3) (GY n a (N a:Int) 0 j b d i k m l) (λr h=>aX h [zk,zk] r=Y ((bf g c n j b d i k m a 0 l).1,(bf g c n j b d i k m a 0 l).2,())):=
 Reach.len 15 (Q5) a rfl λs=>zd9 g c q o n j b d i k m a s _ 0 l rfl (aK _) p
def Bu(g:L Q5->cw->zy×zy)(c:L Q5->cw->Bool)(x:L Q5)(h:L zp.sl):zy×zy:=bf g c h (zg.op x) (zg.v x).1 (zg.v x).2.1 (zg.v x).2.2 (zg.s x) (zg.l x) (zg.l x) 0 []
def DL(g:L Q5->cw->zy×zy)(c:L Q5->cw->Bool)(x:L Q5)(h:L zp.sl):Bool:=ib g c h (zg.op x) (zg.v x).1 (zg.v x).2.1 (zg.v x).2.2 (zg.s x) (zg.l x) (zg.l x) 0 []
def zw8(g:L Q5->cw->zy×zy)(c:L Q5->cw->Bool):ak:=af [Q5,zp.sl] [zk,zk] (λx=>DL g c x.1 x.2.1) λx=>((Bu g c x.1 x.2.1).1,(Bu g c x.1 x.2.1).2,())
theorem zlo(g:L Q5->cw->zy×zy)(c:L Q5->cw->Bool)(d:FK 227 (af [Q5,Sh.sl zp] [zk,zk] (λx=>c x.1 x.2.1) λx=>((g x.1 x.2.1).1,(g x.1 x.2.1).2,()))):FK 227 (zw8 g c):=by
 refine bb (FX g c) λx a C b=>?_
 unfold DL at a;refine zL (EA d) (FX g c) (λid _=>b id) (ztv g c x.1 x.2.1) ?_;generalize h:Bu g c x.1 x.2.1=y;unfold Bu at h
 try simp only[zg.eta,zn]
 repeat' (first|with_reducible refine obr h a (λ_ h a=>?_) (λ_ h a=>?_)|with_reducible refine FU h (λ_ h=>?_) (λ_ h=>?_)|with_reducible refine Lr a (λa=>?_)|with_reducible refine eo ?_)
 all_goals(subst h;first|(change Reach _ _ _ _ _ _;apply Yf g c d b<;>first|assumption|exact a)|rfl)
mutual
def ac:Nat->L Q5->cw->zy×zy
 |0=>λ_ _=>default
 |n+1=>Bu (ac n) (bL n)
def bL:Nat->L Q5->cw->Bool
 |0=>λ_ _=>M
 |n+1=>DL (ac n) (bL n)
end
theorem XS:∀n,FK 227 (af [Q5,Sh.sl zp] [zk,zk] (λx=>bL n x.1 x.2.1) λx=>((ac n x.1 x.2.1).1,(ac n x.1 x.2.1).2,()))
 |0=>e7 ⟨f227,(FX default default).1,(FX default default).2.1,(FX default default).q.1⟩ (λ_=>rfl)
 |n+1=>zlo (ac n) (bL n) (XS n)
def F51:ak:=af [Q5,Sh.sl zp] [zk,zk] (λx=>bL 16 x.1 x.2.1) λx=>((ac 16 x.1 x.2.1).1,(ac 16 x.1 x.2.1).2,())
theorem zrS:FK 227 F51:=XS 16
def IF:=Y7.add 227 F51
theorem te:zx IF:=IE.add zrS
theorem zx.TT{e:σ->Nat×St}{t:σ->Tr (σ⊕ay)}{i:zH (ks.map Y)->Tr (σ⊕ay)}{c:zH (ks.map Y)->Bool}{a:zH (ks.map Y)->zH (outs.map Y)}(j:zx E)(gas:Nat:=400)
  (l:(E.P.funcs[h]?,f.name=="runtime.NumGoroutine",f.body.isNone,Q0 (ks.length<=f.ntmps))=(Q1 f,Q4,Q4,Q3):=by kernel_rfl)
  (b:∀x,run E 0 keep f.results.toList gas (bv f) (bl f.ntmps (jj (ks.map Y) x) [])=(i x).map (lf f e):=by intro x;kernel_rfl)
  (d:∀s,run E 0 keep f.results.toList gas (aq f (e s).1) (e s).2=(t s).map (lf f e):=by intro s;cases s<;>kernel_rfl)
  (k:∀x,c x=(am outs t n (i x)).isSome:=by intro x;kernel_rfl) (m:∀x,a x=(am outs t n (i x)).getD (ct outs):=by intro x;kernel_rfl) (o:E.P=P:=by rfl) (q:E.gl=g:=by rfl):ou P g h (af ks outs c a):=
 XW j (cM l) b d k m o q
theorem zx.B1{e:σ->Nat×St}{t:σ->Tr (σ⊕ay)}{i:zq ps->zH (ks.map Y)->Tr (σ⊕ay)}{c:zq ps->zH (ks.map Y)->Bool}{a:zq ps->zH (ks.map Y)->zH (outs.map Y)×zq q}(j:zx E)(gas:Nat:=400)
  (l:(E.P.funcs[h]?,f.name=="runtime.NumGoroutine",f.body.isNone,Q0 (ks.length+1<=f.ntmps))=(Q1 f,Q4,Q4,Q3):=by kernel_rfl)
  (b:∀y x,run E (bp ps+1) keep f.results.toList gas (bv f) (bl f.ntmps (.ptr 0 0::jj (ks.map Y) x) (bd ps y))=(i y x).map (lf f e):=by intro y x;kernel_rfl)
  (d:∀s,run E (bp ps+1) keep f.results.toList gas (aq f (e s).1) (e s).2=(t s).map (lf f e):=by intro s;cases s<;>kernel_rfl)
  (k:∀y x,c y x=(kM outs q t n (i y x)).isSome:=by intro y x;kernel_rfl) (m:∀y x,a y x=(kM outs q t n (i y x)).getD (ct outs,gn q):=by intro y x;kernel_rfl) (p:E.P=P:=by rfl) (o:E.gl=g:=by rfl):ou P g h (rC ps ks outs q c a):=
 zmb j (cM l) b d k m p o
abbrev cpE:List CP:=[.d .expr]
abbrev zsS:List CP:=[.d .str,.d zk,.d zk,.d .str,.d .str,.vec .expr]
abbrev qZ:List CP:=[.d .str,.d zk,.d zk,.d .str,.d .str,.nil]
def zif(g:L Q5->zy->zy->L Q5×zy)(c:L Q5->zy->zy->Bool):cy:=IF.add 122 (af [Q5,zk,zk] [Q5,zk] (λx=>c x.1 x.2.1 x.q.1) λx=>((g x.1 x.2.1 x.q.1).1,(g x.1 x.2.1 x.q.1).2,()))
theorem We{g:L Q5->zy->zy->L Q5×zy}{c:L Q5->zy->zy->Bool}(h:FK 122 (af [Q5,zk,zk] [Q5,zk] (λx=>c x.1 x.2.1 x.q.1) λx=>((g x.1 x.2.1 x.q.1).1,(g x.1 x.2.1 x.q.1).2,()))):zx (zif g c):=te.add h
abbrev zu8:Nat->aY:=λj=>if j=10 then{slots:=[1,2,3,6,8,9],prom:=[(8,Y 5,Q5)]}else if j=500004 then{slots:=[1,2,3,6,8,30],cut:=Z}else if j=500006 then{slots:=[1,2,3,6,8,39],cut:=Z}else if j=500008 then{slots:=[1,2,3,6,8],cut:=Z}else{ }
inductive Cu where
 |h500004 (i1:zy) (i2:zy) (b30:Bool) (z0:zq cpE) (z1:zq qZ) (z2:zq qZ)
 |h500006 (i1:zy) (i2:zy) (b39:Bool) (z0:zq cpE) (z1:zq qZ) (z2:zq qZ)
 |h500008 (i1:zy) (i2:Int) (z0:zq cpE) (z1:zq qZ) (z2:zq qZ)
 |h10 (i1:zy) (i2:Int) (i9:Int) (z0:zq cpE) (z1:zq qZ) (z2:zq zsS)
abbrev zx1:Cu->Nat×St
 |.h500004 i h b x a z=>(500004,⟨tm 88 [(1,J i),(2,J h),(3,ptr 0 0),(6,ptr 1 0),(8,ptr 2 0),(30,AV.bool b)],[Qa (bm [] cpE x),Qa (bm [] qZ a),Qa (bm [] qZ z)]⟩)
 |.h500006 i h c x a z=>(500006,⟨tm 88 [(1,J i),(2,J h),(3,ptr 0 0),(6,ptr 1 0),(8,ptr 2 0),(39,AV.bool c)],[Qa (bm [] cpE x),Qa (bm [] qZ a),Qa (bm [] qZ z)]⟩)
 |.h500008 i h x a z=>(500008,⟨tm 88 [(1,J i),(2,J h),(3,ptr 0 0),(6,ptr 1 0),(8,ptr 2 0)],[Qa (bm [] cpE x),Qa (bm [] qZ a),Qa (bm [] qZ z)]⟩)
 |.h10 i h d x a z=>(10,⟨tm 88 [(1,J i),(2,J h),(3,ptr 0 0),(6,ptr 1 0),(8,ptr 2 0),(9,J d)],[Qa (bm [] cpE x),Qa (bm [] qZ a),Qa (bm [3] zsS z),AO.vec Q5 z.u.1]⟩)
def zfq(_:L Q5->zy->zy->L Q5×zy)(_:L Q5->zy->zy->Bool)(x:L Q5)(b d:zy):Tr (Cu⊕ay):=
 let a:=Q0 ((↑(N (zg.s x)):Int)>20)
 let h:=((zg.v x).1,(zg.v x).2.1,(zg.v x).q,zg.s x,())
 br (Q0 ((↑(N (zg.op x)):Int)>8))
 (chk (Q0 (0<=0)&&Q0 (0<=8)&&Q0 (8<=(↑(N (zg.op x)):Int)))
  (Tr.to (Cu.h500004 b d a (x,()) ([],0,0,[],[],()) (Qg (W 8-W 0) (Qh (W 0) (zg.op x)),h))))
 (Tr.to (Cu.h500004 b d a (x,()) ([],0,0,[],[],()) (zg.op x,h)))
def Br(g:L Q5->zy->zy->L Q5×zy)(c:L Q5->zy->zy->Bool):Cu->Tr (Cu⊕ay)
 | .h500004 i x m h a z=>
  let d:=(N z.t.1:Int)
  let b:=(N z.r.1:Int)
  let j:=Q0 (b>45)
  br m
  (chk (Q0 (0<=0)&&Q0 (0<=20)&&Q0 (20<=d)) (Tr.to (Cu.h500006 i x j h a (z.1,z.2.1,z.q.1,z.r.1,Qg (W 20-W 0) (Qh (W 0) z.t.1),()))))
  (Tr.to (Cu.h500006 i x j h a z))
 | .h500006 i x n h a z=>
  let d:=(N z.r.1:Int)
  let b:=Γ Δ (x-1)
  br n
  (chk (Q0 (0<=0)&&Q0 (0<=45)&&Q0 (45<=d)) (Tr.to (Cu.h500008 i b h a (z.1,z.2.1,z.q.1,Qg (W 45-W 0) (Qh (W 0) z.r.1),z.t))))
  (Tr.to (Cu.h500008 i b h a z))
 | .h500008 i x h a z=>
  Tr.to (Cu.h10 i x 0 h a (z.1,z.2.1,z.q.1,z.r.1,z.t.1,[],()))
 | .h10 i x k h a z=>
  let d:=(↑(zg.l h.1).length:Int)
  let b:=zw ((zg.l h.1).getD k.toNat (zj Q5))
  let j:=Γ Δ (i-1)
  let o:=g b j x
  let p:=[zw o.1]
  br (cond (Q0 (k<d)) (cond (Q0 (k<3)) (cond (Q0 (i>0)) (Q0 (x>0)) M) M) M)
  (chk (zK k (zg.l h.1).length) (chk (c b j x) (chk (Q0 (N z.u.1+N p<=1073741824)) (Tr.to (Cu.h10 i o.2 (Γ Δ (k+1)) h a (z.1,z.2.1,z.q.1,z.r.1,z.t.1,z.u.1++p,()))))))
  (re (tup [agg [X z.1,J z.2.1,J z.q.1,X z.r.1,X z.t.1,AV.vec 0],J x]) [AO.vec Q5 z.u.1])
def NV(o:Option (zH (List.map Y [Q5,zk]))):L Q5×zy:=(λr:zH (List.map Y [Q5,zk])=>(r.1,r.2.1)) (o.getD (ct [Q5,zk]))
def ztf(g:L Q5->zy->zy->L Q5×zy)(c:L Q5->zy->zy->Bool)(x:L Q5)(h a:zy):Option (zH (List.map Y [Q5,zk])):=am [Q5,zk] (Br g c) 100000000 (zfq g c x h a)
def ra:Nat->L Q5->zy->zy->Option (zH (List.map Y [Q5,zk]))
 |0=>λ_ _ _=>Q2
 |n+1=>ztf (λx h a=>NV (ra n x h a)) λx h a=>(ra n x h a).isSome
theorem znA:aa IF.P 122 f122 3:=cM kw
theorem S9:∀n,FK 122 (af [Q5,zk,zk] [Q5,zk] (λx=>(ra n x.1 x.2.1 x.q.1).isSome) λx=>((NV (ra n x.1 x.2.1 x.q.1)).1,(NV (ra n x.1 x.2.1 x.q.1)).2,()))
 |0=>e7 ⟨f122,znA.1,znA.2.1,znA.q.1⟩ (λ_=>rfl)
 |n+1=>(We (S9 n)).TT (f:=f122) (E:=zif (λh a b=>NV (ra n h a b)) (λh a b=>(ra n h a b).isSome)) (ks:=[Q5,zk,zk]) (outs:=[Q5,zk]) (keep:=zu8) (n:=100000000) (e:=zx1) (t:=Br (λh a b=>NV (ra n h a b)) (λh a b=>(ra n h a b).isSome)) (i:=λx=>zfq (λh a b=>NV (ra n h a b)) (λh a b=>(ra n h a b).isSome) x.1 x.2.1 x.q.1)
def uE(h:Nat)(e:L Q5)(d n:zy):L Q5×zy:=NV (ra h e d n)
def Og(h:Nat)(e:L Q5)(d n:zy):Bool:=(ra h e d n).isSome
def F15:ak:=af [Q5,zk,zk] [Q5,zk] (λx=>Og 16 x.1 x.2.1 x.q.1) λx=>((uE 16 x.1 x.2.1 x.q.1).1,(uE 16 x.1 x.2.1 x.q.1).2,())
theorem zrp:FK 122 F15:=S9 16
def eqL(g:zg->zg->Bool):List zg->List zg->Bool
 |x::r,y::s=>if(!g x y)=Z then M else eqL g r s
 |_,_=>Z
def Wr(g c:zg->zg->Bool):List zg->List zg->Bool
 |x::r,y::s=>if c x y=Z then(ite ((!g x y)=Z) Z (Wr g c r s))else M
 |_,_=>Z
def Wb(g c:zg->zg->Bool):cy:=IF.add 177 (af [.expr,.expr] [.bool] (λx=>c x.1 x.2.1) (λx=>(g x.1 x.2.1,())))
variable {c d:zg->zg->Bool}
theorem Ez(h:FK 177 (af [.expr,.expr] [.bool] (λx=>c x.1 x.2.1) (λx=>(d x.1 x.2.1,())))):zx (Wb d c):=te.add h
abbrev zuQ:Nat->aY:=λj=>if j=4 then{slots:=[1,2,15,16,17]}else{ }
abbrev UY(x l:List zg)(i h:Int):St:={tmps:=(tm 32 [(1,O Q5 x),(2,AV.clo (Fn.func 177) [] []),(15,O Q5 l),(16,J i),(17,J h)]),heap:=[]}
theorem zfJ(g c:zg->zg->Bool):aa (Wb g c).P 226 f226 3:=cM kw
theorem zyL(g c:zg->zg->Bool)(l m:List zg):rn (Wb g c) 0 zuQ f226 [O Q5 l,O Q5 m,AV.clo (Fn.func 177) [] []] []=br ((N l:Int)!=(N m:Int)) (Tr.ok (zU.ret (kb M) [])) (Tr.ok (zU.head 4 (aq f226 4) (UY m l (N l:Int) 0))):=kw
theorem za3(g c:zg->zg->Bool)(x l:List zg)(h i:Int):rh (Wb g c) 0 zuQ f226 4 (UY x l h i)=let d:=l.getD i.toNat (zj Q5);let j:=x.getD i.toNat (zj Q5);let a:=zw j;let b:=zw d;br (Q0 (i<h)) (chk (zK i (N l)) (chk (zK i (N x)) (chk (c b a) (br (!g b a) (Tr.ok (zU.ret (kb M) [])) (Tr.ok (zU.head 4 (aq f226 4) (UY x l h (Γ Δ (i+1))))))))) (Tr.ok (zU.ret (kb Z) [])):=kw
theorem zxk(p:FK 177 (af [.expr,.expr] [.bool] (λx=>c x.1 x.2.1) (λx=>(d x.1 x.2.1,()))))(o:∀id,0<=id->C.ρ0 id=Q2)(l m:List zg)(v:N l=N m)(y:N l<=aF):
  ∀(k i:Nat),N l-i=k->i<=N l->Wr d c (l.drop i) (m.drop i)=Z->Reach (Wb d c) C 226 (aq f226 4) (UY m l (N l) i) (λr h=>(r,h)=(.kb (eqL d (l.drop i) (m.drop i)),[])):=by
 intro k
 induction k with
 | zero=>
  intro i u s j;obtain rfl:i=N l:=by omega
  refine zL (Ez p) (zfJ d c) o (za3 d c _ _ _ _) ?_;simp only[zJ,Tr.val_brF,kE];rfl
 | succ k q=>
  intro i u s j;have b:i<N l:=by omega
  have a:i<N m:=by omega
  refine zL (Ez p) (zfJ d c) o (za3 d c _ _ _ _) ?_;rw[gF b,gF a]at j|-;rw[Wr]at j;have g:=tr j;simp only[zM b,zu b,zu a,dq l _ b,dq m _ a,zg.eta,Tr.val_brT,Tr.val_chkT,g.1,zt i S];refine oy (λh=>?_) (λh=>?_)
  .rw[eqL,zf h];rfl
  .rw[eqL,zh (oZ h)];have n:=g.2;rw[zh (oZ h)]at n;exact q (i+1) S S n
def Ry(g:zg->zg->Bool)(l m:List zg):Bool:=if((N l:Int)!=(N m:Int))=Z then M else eqL g l m
def E2(g c:zg->zg->Bool)(l m:List zg):Bool:=if((N l:Int)!=(N m:Int))=Z then Z else Wr g c l m
def G50(g c:zg->zg->Bool):fA [Y (.sl .expr),Y (.sl .expr),Q2]:=λx h=>match x,h with
 |(l,m,.clo (.func 177) [] [],_),[]=>.chk (E2 g c l m) (.ok (.bool (Ry g l m),[]))
 |_,_=>.err
def F50(g c:zg->zg->Bool):ak:=bj [Y (.sl .expr),Y (.sl .expr),Q2] (G50 g c)
theorem Reach.weaken{m:AV->List AO->Prop}(h:Reach E C fn x s Q)(D:∀r h,Q r h->∃d,m d h/\∀w U ρ v,Rv w U ρ r v->Rv w U ρ d v):Reach E C fn x s m:=by intro b p a w U ρ u y A z;have⟨e,F,q,⟨v,r,n,o,G,B,i,l,c⟩,g⟩:=h b p a w U ρ u y A z;have⟨d,j,k⟩:=D r n i;exact⟨e,F,q,⟨v,d,n,o,G,B,j,k _ _ _ _ l,c⟩,g⟩
theorem zrR(i:FK 177 (af [.expr,.expr] [.bool] (λx=>c x.1 x.2.1) (λx=>(d x.1 x.2.1,())))):FK 226 (F50 d c):=by
 refine dA (E:=Wb d c) (zfJ d c) λx p o a C g=>?_
 unfold G50 at a;split at a
 .rename_i l m u;simp only[Tr.val]at a;split at a
  .rename_i b;simp only[bH]at a;subst a;refine Reach.len 0 .expr l rfl λj=>?_
   refine Reach.weaken (Q:=λr h=>(r,h)=(.kb (Ry d l m),[])) ?_ ?_
   .refine zL (n0:=0) (Ez i) (zfJ d c) g (zyL d c l m) ?_;unfold E2 at b;unfold Ry;refine oy (λh=>?_) (λh=>?_)
    .rw[zf h];rfl
    .rw[zh (oZ h)]at b|-;have:(N l:Int)=N m:=by simpa using h
     have:N l=N m:=by omega
     exact zxk i g l m this j _ 0 rfl (aK _) b
   .rintro r h k;cases k;refine⟨_,rfl,λw U ρ v n=>?_⟩;cases n;exact .bool _
  .simp at a
 .simp at a
def zeS(g c:zg->zg->Bool):cy:=IF.add 226 (F50 g c)
theorem YU(h:FK 177 (af [.expr,.expr] [.bool] (λx=>c x.1 x.2.1) (λx=>(d x.1 x.2.1,())))):zx (zeS d c):=te.add (zrR h)
def eqV(a b:V):Bool:=a.1==b.1&&(a.2.1==b.2.1&&(a.q==b.q&&Z))
def P2(g:zg->zg->Bool)(a b:zg):Bool:=bif a.op==b.op then bif eqV a.v b.v then bif a.s==b.s then Ry g a.l b.l else M else M else M
def MB(g c:zg->zg->Bool)(a b:zg):Bool:=bif a.op==b.op then bif eqV a.v b.v then bif a.s==b.s then E2 g c a.l b.l else Z else Z else Z
theorem zaU(g c:zg->zg->Bool):aa (zeS g c).P 177 f177 2:=cM kw
theorem zys(g c:zg->zg->Bool)(l m:zg):rn (zeS g c) 0 (λ_=>{}) f177 [zX Q5 l,zX Q5 m] []=chk (MB g c l m) (Tr.ok (zU.ret (AV.bool (P2 g l m)) [])):=kw
theorem zkW(a:FK 177 (af [.expr,.expr] [.bool] (λx=>c x.1 x.2.1) (λx=>(d x.1 x.2.1,())))):FK 177 (af [.expr,.expr] [.bool] (λx=>MB d c x.1 x.2.1) (λx=>(P2 d x.1 x.2.1,()))):=by
 refine bb (E:=zeS d c) (zaU d c) λx b C h=>?_
 refine zL (n0:=0) (YU a) (zaU d c) (λid _=>h id) (zys d c x.1 x.2.1) ?_;exact fV b rfl
mutual
def gP:Nat->zg->zg->Bool
 |0=>λ_ _=>M
 |n+1=>P2 (gP n)
def ln:Nat->zg->zg->Bool
 |0=>λ_ _=>M
 |n+1=>MB (gP n) (ln n)
end
theorem XP:∀n,FK 177 (af [.expr,.expr] [.bool] (λx=>ln n x.1 x.2.1) (λx=>(gP n x.1 x.2.1,())))
 |0=>e7 ⟨f177,(zaU (λ_ _=>M) (λ_ _=>M)).1,(zaU (λ_ _=>M) (λ_ _=>M)).2.1,(zaU (λ_ _=>M) (λ_ _=>M)).q.1⟩ (λ_=>rfl)
 |n+1=>zkW (XP n)
def F29:ak:=af [.expr,.expr] [.bool] (λx=>ln 16 x.1 x.2.1) (λx=>(gP 16 x.1 x.2.1,()))
theorem zrz:FK 177 F29:=XP 16
def Tz:=IF.addL [(122,F15),(177,F29)]
theorem IG:zx Tz:=te.addL<|fc zrp<|fc zrz iP
def bF(v:V):Bool:=v.1==0&&(v.2.1==0&&(v.q==[]&&Z))
def avB:AV->Option Bool
 |.bool b=>Y b
 |.kb b=>Y b
 |_=>Q2
theorem Reach.toBool{b:Bool}(h:Reach E C fn x s (λr h=>avB r=Y b/\h=z)):Reach E C fn x s (λr h=>(r,h)=(.bool b,z)):=by
 refine h.weaken λr g c=>?_
 obtain⟨a,rfl⟩:=c;refine⟨.bool b,rfl,λw U ρ v d=>?_⟩;cases r<;>simp[avB]at a<;>subst a<;>cases d<;>exact .bool _
def zmg(g:zg->Int->Int->Bool×Int)(c:zg->Int->Int->Bool):fA [Q2,Y .expr,Y zk]:=λx h=>match x,h with
 |(.ptr 0 0,e,d,_),[.box [J n]]=>.chk (c e d n) (.ok (.bool (g e d n).1,[.box [J (g e d n).2]]))
 |_,_=>.err
def Qv(g:zg->Int->Int->Bool×Int)(c:zg->Int->Int->Bool):ak:=bj [Q2,Y .expr,Y zk] (zmg g c)
def Wa(g:zg->Int->Int->Bool×Int)(c:zg->Int->Int->Bool):cy:=Tz.add 228 (Qv g c)
variable {l:zg->Int->Int->Bool×Int}{u:zg->Int->Int->Bool}
theorem Ey(h:FK 228 (Qv l u)):zx (Wa l u):=IG.add h
abbrev zuH:Nat->aY:=λj=>if j=12 then{slots:=[0,2,73,74,75]}else{ }
abbrev Mx(x:Int)(l:LX)(i h j:Int):St:={tmps:=(tm 86 [(0,ptr 0 0),(2,J x),(73,O Q5 l),(74,J i),(75,J h)]),heap:=[Qa [J j]]}
theorem zaV(g:zg->Int->Int->Bool×Int)(c:zg->Int->Int->Bool):aa (Wa g c).P 228 f228 3:=cM kw
theorem zyy(g:zg->Int->Int->Bool×Int)(c:zg->Int->Int->Bool)(e:zg)(d n:Int):rn (Wa g c) 1 zuH f228 [ptr 0 0,zX Q5 e,J d] [Qa [J n]]=let a:=Γ Δ (n+1);let h:=Tr.ok (zU.ret (kb M) [Qa [J a]]);br (cond (Q0 (d>12)) Z (cond (Q0 (Γ Δ (n+1)>60)) Z ((e.l.length:Int)!=dU e.op))) h (br (e.op==pI) (Tr.ok (zU.ret (AV.bool (cond (e.s==[]) (bg e.v) M)) [Qa [J a]])) (br (e.op==fh) (Tr.ok (zU.ret (AV.bool (cond (bF e.v) (cond (eS e.s) (!kh e.s) M) M)) [Qa [J a]])) (br (cond (!bF e.v) Z (!e.s==[])) h (Tr.ok (zU.head 12 (aq f228 12) (Mx d e.l (e.l.length:Int) 0 a)))))):=kw
theorem Uo(g:zg->Int->Int->Bool×Int)(c:zg->Int->Int->Bool)(x:Int)(l:LX)(h i j:Int):rh (Wa g c) 1 zuH f228 12 (Mx x l h i j)=let d:=l.getD i.toNat (zj Q5);let b:=zw d;let a:=g b (Γ Δ (x+1)) j;br (Q0 (i<h)) (chk (zK i (N l)) (chk (c b (Γ Δ (x+1)) j) (br (!a.1) (Tr.ok (zU.ret (kb M) [Qa [J a.2]])) (Tr.ok (zU.head 12 (aq f228 12) (Mx x l h (Γ Δ (i+1)) a.2)))))) (Tr.ok (zU.ret (kb Z) [Qa [J j]])):=kw
def rg(g:zg->Int->Int->Bool×Int)(d:Int):List zg->Int->Bool×Int
 |[],n=>(Z,n)
 |x::r,n=>if(!(g x (Γ Δ (d+1)) n).1)=Z then(M,(g x (Γ Δ (d+1)) n).2)else rg g d r (g x (Γ Δ (d+1)) n).2
def FL(g:zg->Int->Int->Bool×Int)(c:zg->Int->Int->Bool)(d:Int):List zg->Int->Bool
 |[],_=>Z
 |x::r,n=>if c x (Γ Δ (d+1)) n=Z then(ite ((!(g x (Γ Δ (d+1)) n).1)=Z) Z (FL g c d r (g x (Γ Δ (d+1)) n).2))else M
theorem zxj(m:FK 228 (Qv l u))(j:∀id,1<=id->C.ρ0 id=Q2)(d:Int)(x:List zg)(s:N x<=aF):
  ∀(k i:Nat)(n:Int),N x-i=k->i<=N x->FL l u d (x.drop i) n=Z->Reach (Wa l u) C 228 (aq f228 12) (Mx d x (N x) i n) (λr h=>avB r=Y (rg l d (x.drop i) n).1/\h=[.box [J (rg l d (x.drop i) n).2]]):=by
 intro k
 induction k with
 | zero=>
  intro i n q p c;obtain rfl:i=N x:=by omega
  refine zL (Ey m) (zaV l u) j (Uo l u _ _ _ _ _) ?_;simp only[zJ,Tr.val_brF,kE];exact⟨rfl,rfl⟩
 | succ k o=>
  intro i n q p c;have a:i<N x:=by omega
  refine zL (Ey m) (zaV l u) j (Uo l u _ _ _ _ _) ?_;rw[gF a]at c|-;rw[FL]at c;have b:=tr c;simp only[zM a,zu a,dq x _ a,zg.eta,Tr.val_brT,Tr.val_chkT,b.1,zt i S];refine oy (λh=>?_) (λh=>?_)
  .rw[rg,zf h];exact⟨rfl,rfl⟩
  .rw[rg,zh (oZ h)];have g:=b.2;rw[zh (oZ h)]at g;exact o (i+1) _ S S g
def CG(g:zg->Int->Int->Bool×Int)(e:zg)(d n:Int):Bool×Int:=if(cond (Q0 (d>12)) Z (cond (Q0 (Γ Δ (n+1)>60)) Z ((e.l.length:Int)!=dU e.op)))=Z then(M,Γ Δ (n+1))else if(e.op==pI)=Z then(cond (e.s==[]) (bg e.v) M,Γ Δ (n+1))else if(e.op==fh)=Z then(cond (bF e.v) (cond (eS e.s) (!kh e.s) M) M,Γ Δ (n+1))else if(cond (!bF e.v) Z (!e.s==[]))=Z then(M,Γ Δ (n+1))else rg g d e.l (Γ Δ (n+1))
def T8(g:zg->Int->Int->Bool×Int)(c:zg->Int->Int->Bool)(e:zg)(d n:Int):Bool:=if(cond (Q0 (d>12)) Z (cond (Q0 (Γ Δ (n+1)>60)) Z ((e.l.length:Int)!=dU e.op)))=Z then Z else if(e.op==pI)=Z then Z else if(e.op==fh)=Z then Z else if(cond (!bF e.v) Z (!e.s==[]))=Z then Z else FL g c d e.l (Γ Δ (n+1))
theorem zlb{g:zg->Int->Int->Bool×Int}(k:FK 228 (Qv g u)):FK 228 (Qv (CG g) (T8 g u)):=by
 refine dA (E:=Wa g u) (zaV g u) λx p o a C j=>?_
 unfold zmg at a;split at a
 .rename_i e d h n;simp only[Tr.val]at a;split at a
  .rename_i c;simp only[bH]at a;subst a;refine Reach.toBool ?_;refine zL (n0:=1) (Ey k) (zaV g u) j (zyy g u e d n) ?_;generalize i:CG g e d n=y;unfold CG at i;unfold T8 at c;repeat' (refine oy (λb=>?_) (λb=>?_)<;>first|(rw[zf b]at i c)|(rw[zh (oZ b)]at i c))
   all_goals subst i
   .exact⟨rfl,rfl⟩
   .exact⟨rfl,rfl⟩
   .exact⟨rfl,rfl⟩
   .exact⟨rfl,rfl⟩
   .exact Reach.len 73 .expr e.l rfl λm=>zxj k j d e.l m _ 0 _ rfl (aK _) c
  .simp at a
 .simp at a
mutual
def jg:Nat->zg->Int->Int->Bool×Int
 |0=>λ_ _ _=>(M,0)
 |n+1=>CG (jg n)
def xB:Nat->zg->Int->Int->Bool
 |0=>λ_ _ _=>M
 |n+1=>T8 (jg n) (xB n)
end
theorem XQ:∀n,FK 228 (Qv (jg n) (xB n))
 | 0=>by
  have h:FK 228 (bj [Q2,Y .expr,Y zk] (λ_ _=>.err)):=dA (zaV (λ_ _ _=>(M,0)) (λ_ _ _=>M)) (E:=Tz) λx c b a=>by simp at a
  refine CN (ι:=Unit) (Gs:=λ_ _ _=>.err) (λ_=>h) λx c b a=>?_
  unfold zmg at a;split at a
  .simp[Tr.val,xB]at a
  .simp at a
 |n+1=>zlb (XQ n)
def F37:ak:=Qv (jg 16) (xB 16)
theorem zrE:FK 228 F37:=XQ 16
def II:=Tz.add 228 F37
theorem Ap:zx II:=IG.add zrE
end
end Cad
