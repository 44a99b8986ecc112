/- Values. -/
import Derived.Test.YtjdjldbhjmgmkaaGreatDoorS08
namespace Cad
open Go Go.Proofs
open List renaming length→Io,drop→Qh,take→Qg
open IntKind renaming wrap→Γ,i64→Δ
open AO renaming box→Qa
open Sh renaming bool→Q7,str→Q6,expr→Q5
open Bool renaming false→Q4,true→Q3
open Option renaming none→Q2,some→Q1
open Decidable renaming decide→Q0
open Int (toNat)
open Tr (chk br)
open AV (nils agg tup ptr kb str sl)
noncomputable section
def te(x h:zp):zp:=if(!eV x h)=Q3 then(0,0,[])else dJ (Q0 (aO x h<0))
theorem zsA:zM sL.P 234 Tryz.f234 2:=bL kw
theorem zu8(x h:zp):rn sL 0 (λ_=>{ }) Tryz.f234 [zL zf x,zL zf h] []=br (!eV x h) (Tr.ok (zO.ret (agg [ai 0,ai 0,str []]) [])) (Tr.ok (zO.ret (agg [ai (dJ (Q0 (aO x h<0))).1,ai (dJ (Q0 (aO x h<0))).2.1,str (dJ (Q0 (aO x h<0))).2.2]) [])):=kw
def F43:z8:=aK [zf,zf] [zf] λx=>(te x.1 x.2.1,())
theorem zoJ:FK 234 F43:=by
 refine ak zsA λx C h=>?_
 refine be kU zsA (λid _=>h id) (zu8 x.1 x.2.1) ?_;simp only[Tr.val,te];repeat' split
 all_goals rfl
def NK(x:zp):zp:=if Q0 ((↑(Io x.2.2):Int)>60)=Q3 then(x.1,x.2.1,Qg (toNat 60-toNat 0) (Qh (toNat 0) x.2.2))else x
def NL(x:zp):Bool:=bif Q0 ((↑(Io x.2.2):Int)>60)then Q0 (0<=0)&&Q0 (0<=60)&&Q0 (60<=(↑(Io x.2.2):Int))else Q3
theorem zse:zM sL.P 41 Tryz.f41 1:=bL kw
theorem zuO(x:zp):rn sL 0 (λ_=>{ }) Tryz.f41 [zL zf x] []=br (Q0 ((↑(Io x.2.2):Int)>60)) (chk (Q0 (0<=0)&&Q0 (0<=60)&&Q0 (60<=(↑(Io x.2.2):Int))) (Tr.ok (zO.ret (agg [ai x.1,ai x.2.1,str (Qg (toNat 60-toNat 0) (Qh (toNat 0) x.2.2))]) []))) (Tr.ok (zO.ret (agg [ai x.1,ai x.2.1,str x.2.2]) [])):=kw
def F14:z8:=zZ [zf] [zf] (λx=>NL x.1) λx=>(NK x.1,())
theorem zfA:FK 41 F14:=by
 refine aL zse λx a C h=>?_
 refine be kU zse (λid _=>h id) (zuO x.1) ?_;simp only[NL,Bool.cond_eq_ite]at a;simp only[Tr.val,NK];repeat' split
 all_goals first|rfl|simp_all
def lQ(x:Sem Q6):Sem Q6:=if Q0 ((↑(Io x):Int)>20)=Q3 then Qg (toNat 20-toNat 0) (Qh (toNat 0) x)else x
def SE(x:Sem Q6):Bool:=bif Q0 ((↑(Io x):Int)>20)then Q0 (0<=0)&&Q0 (0<=20)&&Q0 (20<=(↑(Io x):Int))else Q3
theorem zsd:zM sL.P 185 Tryz.f185 1:=bL kw
theorem zuN(x:Sem Q6):rn sL 0 (λ_=>{ }) Tryz.f185 [zL Q6 x] []=br (Q0 ((↑(Io x):Int)>20)) (chk (Q0 (0<=0)&&Q0 (0<=20)&&Q0 (20<=(↑(Io x):Int))) (Tr.ok (zO.ret (str (Qg (toNat 20-toNat 0) (Qh (toNat 0) x))) []))) (Tr.ok (zO.ret (str x) [])):=kw
def F12:z8:=zZ [Q6] [Q6] (λx=>SE x.1) λx=>(lQ x.1,())
theorem zfz:FK 185 F12:=by
 refine aL zsd λx a C h=>?_
 refine be kU zsd (λid _=>h id) (zuN x.1) ?_;simp only[SE,Bool.cond_eq_ite]at a;simp only[Tr.val,lQ];repeat' split
 all_goals first|rfl|simp_all
def F79:z8:=aS (List.replicate 2 Q2) (eK sL Tryz.f311 (List.replicate 2 Q2))
theorem zpd:FK 311 F79:=bS _ kU (bL kw)
def F18:z8:=aS (List.replicate 2 Q2) (eK sL Tryz.f109 (List.replicate 2 Q2))
theorem zoq:FK 109 F18:=bS _ kU (bL kw)
def zfQ:=sL.addL [(234,F43),(41,F14),(185,F12),(311,F79),(109,F18)]
theorem wZ:zw zfQ:=kU.addL<|fc zoJ<|fc zfA<|fc zfz<|fc zpd<|fc zoq iH
open Go
def ue:(ks:List Sh)->zD (ks.map Q1++[Q2])->zD (ks.map Q1)×AV
 |[],x=>((),x.1)
 |_::ks,x=>((x.1,(ue ks x.2).1),(ue ks x.2).2)
theorem B7:∀(ks:List Sh)(x:zD (ks.map Q1++[Q2])),iY (ks.map Q1++[Q2]) x=iY (ks.map Q1) (ue ks x).1++[(ue ks x).2]
 |[],_=>rfl
 |s::ks,x=>congrArg (zL s x.1::·) (B7 ks x.2)
def XE(k:Nat):AV->Bool
 |.clo (.func j) [] []=>j==k
 |_=>Q4
variable {n:Nat}
theorem XF{F:AV}(h:XE n F=Q3):F=.clo (.func n) [] []:=by
 unfold XE at h;split at h
 .rw[bd]at h;rw[h]
 .cases h
abbrev Vb(ks outs:List Sh):=Nat×(zD (ks.map Q1)->Bool)×(zD (ks.map Q1)->zD (outs.map Q1))
def zbT{ks outs:List Sh}(v:AV):List (Vb ks outs)->Option ((zD (ks.map Q1)->Bool)×(zD (ks.map Q1)->zD (outs.map Q1)))
 |[]=>Q2
 |(k,a)::r=>if XE k v then Q1 a else zbT v r
theorem KX{ks outs:List Sh}{F:AV}{a}:∀{l:List (Vb ks outs)},zbT F l=Q1 a->∃k,F=.clo (.func k) [] []/\(k,a)∈l
 |[],h=>by cases h
 | (k,b)::r,h=>by
  unfold zbT at h;split at h
  next d=>cases h;exact⟨k,XF d,ln ..⟩
  .obtain⟨j,x,c⟩:=KX h;exact⟨j,x,jN _ c⟩
def Sb(ks outs:List Sh)(l:List (Vb ks outs)):eX (ks.map Q1++[Q2]):=λx h=>match h with
 | []=>match zbT (ue ks x).2 l with
  |some (c,g)=>.chk (c (ue ks x).1) (.ok (Av outs (g (ue ks x).1),[]))
  |none=>.err
 |_=>.err
def Zc(ks outs:List Sh)(l:List (Vb ks outs)):z8:=aS (ks.map Q1++[Q2]) (Sb ks outs l)
variable {P:Program}{g:Nat->AV}{E:cg}{h:FuncId}{f:Func}{ks outs:List Sh}
theorem NT{l:List (Vb ks outs)}(n:zM E.P h f (Io ks+1))
  (b:∀j c a,(j,c,a)∈l->∀x,c x=Q3->∀C:eA,(∀id,C.ρ0 id=Q2)->Reach E C h (bq f) (aW f.ntmps (iY (ks.map Q1) x++[.clo (.func j) [] []]) []) (λr b=>aU b outs r=Q1 (a x))) (s:E.P=P:=by rfl) (q:E.gl=g:=by rfl):ol P g h (Zc ks outs l):=by
 subst s q;refine da (by simpa using n) λx v u d C k=>?_
 unfold Sb at d;split at d
 .split at d
  .rename_i c a i;obtain⟨j,p,o⟩:=KX i;simp only[Tr.val]at d;split at d
   next m=>simp only[bg]at d;subst d;rw[B7,p];exact Reach.plain (λid=>k id (by simp)) (b j c a o _ m C (λid=>k id (by simp)))
   .simp at d
  .simp at d
 .simp at d
inductive CP where
 |d (s:Sh)
 |nil
 |vec (e:Sh)
@[reducible] def zo:List CP->Type
 |[]=>Unit
 |.d s::r=>Sem s×zo r
 |.nil::r=>zo r
 |.vec e::r=>List (Sem e)×zo r
def e8:(n:Nat)->(p:List CP)->zo p->List AV
 |_,[],_=>[]
 |n,.d s::r,y=>zz s y.1++e8 n r y.2
 |n,.nil::r,y=>.nils::e8 n r y
 |n,.vec _::r,y=>.vec n::e8 (n+1) r y.2
def gM:(p:List CP)->zo p->List AO
 |[],_=>[]
 |.d _::r,y=>gM r y.2
 |.nil::r,y=>gM r y
 |.vec e::r,y=>.vec e y.1::gM r y.2
def aB(ps:List CP)(y:zo ps):List AO:=.box (e8 1 ps y)::gM ps y
def bj:List CP->Nat
 |[]=>0
 |.vec _::r=>bj r+1
 |_::r=>bj r
theorem cj:∀(p:List CP)(y:zo p),(gM p y).length=bj p
 |[],_=>rfl
 |.d _::r,y=>cj r y.2
 |.nil::r,y=>cj r y
 |.vec _::r,y=>congrArg (·+1) (cj r y.2)
def cN(hp:Nat->AO):(n:Nat)->(p:List CP)->List AV->Option (zo p)
 |_,[],[]=>Q1 ()
 | n,.d s::r,cs=>match dh (fun _=>.dead) s cs with
  | some (x,cs')=>match cN hp n r cs' with
   |some y=>Q1 (x,y)
   |none=>Q2
  |none=>Q2
 |n,.nil::r,.nils::cs=>cN hp n r cs
 | n,.vec e::r,.vec id::cs=>if id=n then match hp id with
   | .vec a l=>if h:a=e then match cN hp (n+1) r cs with
     |some y=>Q1 (h▸l,y)
     |none=>Q2
    else Q2
   |_=>Q2
  else Q2
 |_,_,_=>Q2
section
variable {w:World} {U:Nat->Prop} {ρ:Nat->Option Value}
variable {m:List AV}{A:List Value}
theorem dg.app{H:List AV}{g:List Value}(h:dg w U ρ m A)(b:dg w U ρ H g):dg w U ρ (m++H) (A++g) where
 len:=by simp[h.len,b.len]
 rv:=by
  intro j c v x a;by_cases d:j<Io m
  .rw[kG d]at x;rw[kG (by rw[<-h.len];exact d)]at a;exact h.rv j c v x a
  .rw[jg ow]at x;rw[jg (by rw[<-h.len];omega),<-h.len]at a;exact b.rv _ c v x a
variable {O:Value}
theorem dg.tail{F:AV}(h:dg w U ρ (F::m) (O::A)):dg w U ρ m A:=
 ⟨by have:=h.len;simpa using this,λj c x a b=>h.rv (j+1) c x (by simpa using a) (by simpa using b)⟩
theorem dg.consH{F:AV}(d:Rv w U ρ F O)(b:dg w U ρ m A):dg w U ρ (F::m) (O::A) where
 len:=by simp[b.len]
 rv:=by
  intro j c x h a;cases j with
  |zero=>simp at h a;subst h;subst a;exact d
  |succ j=>exact b.rv j c x (by simpa using h) (by simpa using a)
theorem fT{hp:Nat->AO}:∀(B:List CP)(n:Nat)(cs:List AV)(y:zo B)(a:List Value),cN hp n B cs=Q1 y->dg w U ρ cs a->
  dg w U ρ (e8 n B y) a/\∀(j:Nat) o,(gM B y)[j]?=Q1 o->hp (n+j)=o
 |[],n,[],y,a,h,g=>⟨g,by simp[gM]⟩
 |[],n,_::_,y,a,h,g=>by simp[cN]at h
 | .d s::r,n,cs,y,a,h,g=>by
  unfold cN at h;split at h
  .rename_i x cs' J;split at h
   .rename_i F D;cases h
    have L:=oI (w:=w) (U:=U) (U':=U) (ρ:=ρ) (hp:=λ_=>.dead) (λ_ h=>h) s cs x cs' (λj=>a.getD j undef) J
     (λj c k=>by
      have u:j<Io a:=by rw[<-g.len];exact(dc.1 k).1
      have:=g.rv j c a[j] k (z6 u);simpa[List.getD,z6 u]using this)
     (λid _=>⟨trivial,λb H=>by simp[af,AO.owns]at H⟩)
    obtain⟨P,G,N⟩:=L;have m:dg w U ρ cs' (a.drop s.size):=by
     refine⟨by rw[G];simp[g.len],λj c v k i=>?_⟩;rw[G,BY]at k;rw[BY]at i;exact g.rv _ c v k i
    obtain⟨z,A⟩:=fT r n cs' F (a.drop s.size) D m;refine⟨?_,A⟩;have p:dg w U ρ (zz s x) (a.take s.size):=by
     refine⟨by rw[ag];have:=g.len;simp;omega,λj c v k i=>?_⟩;have q:j<s.size:=by rw[<-ag s x];exact(dc.1 k).1
     rw[List.getElem?_take,ze q]at i;have:=N j c k;simpa[List.getD,i]using this
    have:=p.app z;rw[List.take_append_drop]at this;exact this
   .cases h
  .cases h
 | .nil::r,n,.nils::cs,y,a,h,g=>by
  match a,g with
  |[],g=>have:=g.len;simp at this
  | v::vs,g=>
   have i:=g.rv 0 _ v rfl rfl;obtain⟨z,A⟩:=fT r n cs y vs h g.tail;exact⟨dg.consH i z,A⟩
 | .vec e::r,n,.vec id::cs,y,a,h,g=>by
  match a,g with
  |[],g=>have:=g.len;simp at this
  | v :: vs,g=>
   have i:=g.rv 0 _ v rfl rfl;unfold cN at h;split at h
   .rename_i C;subst C;split at h
    .rename_i O l M;split at h
     .rename_i I;subst I;split at h
      .rename_i F D;cases h;obtain⟨z,A⟩:=fT r (id+1) cs F vs D g.tail;refine⟨dg.consH i z,λj o q=>?_⟩;cases j with
       |zero=>simp[gM]at q;subst q;exact M
       | succ j=>
        have:=A j o (by simpa[gM]using q);rw[<-this];congr 1;omega
      .cases h
     .cases h
    .cases h
   .cases h
 |.nil::_,_,[],_,_,h,_=>by simp[cN]at h
 |.vec _::_,_,[],_,_,h,_=>by simp[cN]at h
 |.nil::_,_,.any::_,_,_,h,_|.nil::_,_,.kb _::_,_,_,h,_|.nil::_,_,.bool _::_,_,_,h,_|.nil::_,_,.int _ _::_,_,_,h,_|.nil::_,_,.str _::_,_,_,h,_
 |.nil::_,_,.sl _ _::_,_,_,h,_|.nil::_,_,.vec _::_,_,_,h,_|.nil::_,_,.ptr _ _::_,_,_,h,_|.nil::_,_,.vptr _ _ _ _::_,_,_,h,_|.nil::_,_,.eptr _ _::_,_,_,h,_
 |.nil::_,_,.nilp::_,_,_,h,_|.nil::_,_,.agg _::_,_,_,h,_|.nil::_,_,.tup _::_,_,_,h,_|.nil::_,_,.clo _ _ _::_,_,_,h,_|.nil::_,_,.nilf::_,_,_,h,_
 |.nil::_,_,.mp _::_,_,_,h,_|.nil::_,_,.ifc _::_,_,_,h,_|.nil::_,_,.tab _ _::_,_,_,h,_|.nil::_,_,.gint::_,_,_,h,_=>by simp[cN]at h
 |.vec _::_,_,.any::_,_,_,h,_|.vec _::_,_,.kb _::_,_,_,h,_|.vec _::_,_,.bool _::_,_,_,h,_|.vec _::_,_,.int _ _::_,_,_,h,_|.vec _::_,_,.str _::_,_,_,h,_
 |.vec _::_,_,.sl _ _::_,_,_,h,_|.vec _::_,_,.nils::_,_,_,h,_|.vec _::_,_,.ptr _ _::_,_,_,h,_|.vec _::_,_,.vptr _ _ _ _::_,_,_,h,_|.vec _::_,_,.eptr _ _::_,_,_,h,_
 |.vec _::_,_,.nilp::_,_,_,h,_|.vec _::_,_,.agg _::_,_,_,h,_|.vec _::_,_,.tup _::_,_,_,h,_|.vec _::_,_,.clo _ _ _::_,_,_,h,_|.vec _::_,_,.nilf::_,_,_,h,_
 |.vec _::_,_,.mp _::_,_,_,h,_|.vec _::_,_,.ifc _::_,_,_,h,_|.vec _::_,_,.tab _ _::_,_,_,h,_|.vec _::_,_,.gint::_,_,_,h,_=>by simp[cN]at h
end
variable {C:eA}{w:World}{U:Nat->Prop}{ρ:Nat->Option Value}{cs:List AV}{os:List AO}{p:List CP}
theorem gK.box{y:zo p}(g:gK C w U ρ (λj=>((Qa cs::os).getD j .dead)))(I:Io os=bj p)
  (D:cN (kq (.box cs::os)) 1 p cs=Q1 y):gK C w U ρ (λj=>(aB p y).getD j .dead):=by
 have m:bl w U ρ 0 (.box cs):=g.ob 0;obtain⟨b,T,c,n,q,s,u,z⟩:=m;obtain⟨G,H⟩:=fT p 1 cs y c.toList D u;have a:∀id,id≠0->(aB p y).getD id .dead=(Qa cs::os).getD id .dead:=by
  intro id h;obtain⟨j,rfl⟩:∃j,id=j+1:=⟨id-1,ow⟩;by_cases i:j<(gM p y).length
  .have:=H j _ (z6 i);unfold aB;simp only[BX];rw[aY,z6 i];simp only[kq,kf 1 j,BX]at this;simpa using this.symm
  .have A:Io os<=j:=by rw[cj]at i;omega
   unfold aB;simp only[BX];rw[aY,aY,eZ ow,eZ A]
 have x:∀id b,af ρ id ((aB p y).getD id .dead) b->af ρ id ((Qa cs::os).getD id .dead) b:=by
  intro id d ho;by_cases h:id=0
  .subst h;obtain⟨_,v,F,B⟩:=ho;exact⟨rfl,v,F,B⟩
  .rw[a id h]at ho;exact ho
 refine⟨λid=>?_,λk l d o1 o2=>g.inj k l d (x _ _ o1) (x _ _ o2),λid d o=>g.blk id d (x _ _ o)⟩;by_cases h:id=0
 .subst h;exact⟨b,T,c,n,q,s,G,z⟩
 .show bl w U ρ id ((aB p y).getD id .dead);rw[a id h];exact g.ob id
def tn(p:List CP)(outs:List Sh)(r:AV)(h:List AO):Option (zD (outs.map Q1)×zo p):=match h with
 | .box c::os=>if Io os=bj p then match aU [] outs r,cN (kq (.box c::os)) 1 p c with
   |some a,Q1 y=>Q1 (a,y)
   |_,_=>Q2
  else Q2
 |_=>Q2
def zpN(a:List CP)(ks outs:List Sh)(p:List CP)(c:zo a->zD (ks.map Q1)->Bool)(g:zo a->zD (ks.map Q1)->zD (outs.map Q1)×zo p):eX (Q2::ks.map Q1):=λx h=>match x.1,h with
 | .ptr 0 0,.box b::os=>if Io os=bj a then match cN (kq (.box b::os)) 1 a b with
   |some y=>.chk (c y x.2) (.ok (Av outs (g y x.2).1,aB p (g y x.2).2))
   |none=>.err
  else .err
 |_,_=>.err
def sA(ps:List CP)(ks outs:List Sh)(p:List CP)(c:zo ps->zD (ks.map Q1)->Bool)(g:zo ps->zD (ks.map Q1)->zD (outs.map Q1)×zo p):z8:=aS (Q2::ks.map Q1) (zpN ps ks outs p c g)
theorem sJ(p:List CP)(y:zo p):(aB p y).length=bj p+1:=by simp[aB,cj]
theorem HI{r:AV}{y:zD (outs.map Q1)}{O:Value}(h:aU [] outs r=Q1 y)(j:Rv w U ρ r O):Rv w U ρ (Av outs y) O:=by
 have g:∀id,bl w U ρ id (kq [] id)/\∀b,af ρ id (kq [] id) b->¬U b:=λid=>⟨by simp[kq,bl],λb d=>by simp[kq,af,AO.owns]at d⟩
 have a:∀(outs:List Sh)(y:zD (outs.map Q1))(c:List AV),mu (kq []) (λi=>i) (outs.map Q1) c=Q1 y->Rv w U ρ (.tup c) O->Rv w U ρ (.tup (iY (outs.map Q1) y)) O:=by
  intro outs y c o l;cases l with
  |tup _ v m k=>
  have:=(jT (w:=w) (U:=U) (ρ:=ρ) (U':=U) (ρ':=ρ) (hp:=kq []) (f:=λi=>i) (λb d=>d) (outs.map Q1) c v _ (qr outs c y o) ⟨m,k⟩ (λid _=>g id)
   (λid _=>rfl)).1
  simp only[nh,uv,zE,zm,List.map_id']at this;exact .tup _ v this.len this.rv
 match outs,y,h with
 | [s],y,h=>
  simp only[aU]at h;split at h
  next x n=>cases h;exact Cm n j (λb d=>d) (λid _=>g id)
  .cases h
 | [],y,h=>
  simp only[aU]at h;cases r with
  |tup c=>exact a [] y _ h j
  |_=>cases h
 | p::s2::ss,y,h=>
  simp only[aU]at h;cases r with
  |tup c=>exact a _ y _ h j
  |_=>cases h
variable {q:List CP}
theorem zbH{c:zo p->zD (ks.map some)->Bool}{d:zo p->zD (ks.map some)->zD (outs.map some)×zo q}(hf:zM E.P h f (Io ks+1))
  (i:∀y x,c y x=Q3->∀C:eA,(∀id,bj p+1<=id->C.ρ0 id=Q2)->Reach E C h (bq f) (aW f.ntmps (.ptr 0 0::iY (ks.map Q1) x) (aB p y)) (λr i=>tn q outs r i=Q1 (d y x))) (qp:E.P=P:=by rfl) (qg:E.gl=g:=by rfl):
  ol P g h (sA p ks outs q c d):=by
 subst qp qg;refine da (by simpa using hf) λx h0 h4 l C X=>?_
 obtain⟨x0,x⟩:=x;unfold zpN at l;simp only at l;split at l
 .rename_i N os;split at l
  .rename_i s;split at l
   .rename_i y hy;simp only[Tr.val]at l;split at l
    .rename_i hc;simp only[bg]at l;subst l;have Z:=i y x hc C (λid k=>X id (by simpa[s]using k));intro b A a w U ρ T W m hW;have Y:gK C w U ρ (λj=>((Qa N::os).getD j .dead)):=m.hp
     have u:Cn C (aW f.ntmps (.ptr 0 0::iY (ks.map Q1) x) (aB p y)) a w U ρ:=
      ⟨m.tm,Y.box s hy,λid k=>m.new id (by have k:(aB p y).length<=id:=k;rw[sJ]at k;simpa[aW,s]using k),m.df,m.r0⟩
     obtain⟨e,w',S,⟨v,r,h',M,ρ',he,n,J,B,z,I,D⟩,G,H,hl⟩:=Z b A a w U ρ T W u hW;unfold tn at n;split at n
     .rename_i O h3;split at n
      .rename_i o;split at n
       next a' y' F L=>simp only[bg]at n;refine⟨e,w',S,⟨v,_,_,M,ρ',he,by rw[<-n],HI F J,B.box o L,λid k=>z id (by rw[sJ]at k;simpa[o]using k),I,D⟩,G,H,hl⟩
       .cases n
      .cases n
     .cases n
    .simp at l
   .simp at l
  .simp at l
 .simp at l
def vn(E:cg)(n0:Nat)(keep:Nat->aP)(f:Func)(gas:Nat):Nat->List Item->St->Option (AV×List AO)
 |0,_,_=>Q2
 | n+1,K,a=>match (run E n0 keep f.results.toList gas K a).val with
  |some (.ret v h)=>Q1 (v,h)
  |some (.head _ x s)=>vn E n0 keep f gas n x s
  |_=>Q2
theorem lD{E:cg}{C:eA}{h:FuncId}{f:Func}{Q:AV->List AO->Prop}{n n0:Nat}(c:zw E)(d:zM E.P h f n)(b:∀id,n0<=id->C.ρ0 id=Q2){keep:Nat->aP}{gas:Nat}:
  ∀(a:Nat)(K:List Item)(s:St)(r:AV×List AO),vn E n0 keep f gas a K s=Q1 r->Q r.1 r.2->Reach E C h K s Q
 |0,_,_,_,x,_=>by cases x
 | a+1,K,s,r,x,k=>by
  unfold vn at x;split at x
  next v m g=>cases x;exact nR c d b g k
  next j l i g=>exact nR c d b g (lD c d b a l i r x k)
  .cases x
def cA:(outs:List Sh)->zD (outs.map Q1)
 |[]=>()
 |s::r=>(zi s,cA r)
def fU:(ps:List CP)->zo ps
 |[]=>()
 |.d s::r=>(zi s,fU r)
 |.nil::r=>fU r
 |.vec _::r=>([],fU r)
def bI:List Nat->(p:List CP)->zo p->List AV
 |_,[],_=>[]
 |n,.d s::r,y=>zz s y.1++bI n r y.2
 |n,.nil::r,y=>.nils::bI n r y
 |n,.vec _::r,y=>.vec (n.headD 0)::bI n.tail r y.2
def itO(E:cg)(keep:Nat->aP)(f:Func)(gas n:Nat)(ks outs:List Sh)(x:zD (ks.map Q1)):Option (zD (outs.map Q1)):=
 (vn E 0 keep f gas n (bq f) (aW f.ntmps (iY (ks.map Q1) x) [])).bind λr=>aU r.2 outs r.1
def Pv(ks outs:List Sh)(g:zD (ks.map Q1)->Option (zD (outs.map Q1))):z8:=zZ ks outs (λx=>(g x).isSome) λx=>(g x).getD (cA outs)
variable {keep:Nat->aP}{gas:Nat}
theorem zji{c:Nat}(l:zw E)(d:zM E.P h f (Io ks))(m:E.P=P:=by rfl)(q:E.gl=g:=by rfl):ol P g h (Pv ks outs (itO E keep f gas c ks outs)):=by
 subst m q;refine aL d λx b C k=>?_
 rw[Option.isSome_iff_exists]at b;obtain⟨y,a⟩:=b;rw[a];unfold itO at a;rw[fO]at a;obtain⟨r,i,j⟩:=a;exact lD l d (λid _=>k id) c _ _ r i j
def itB(E:cg)(keep:Nat->aP)(f:Func)(gas n:Nat)(h:List CP)(ks outs:List Sh)(p:List CP)(y:zo h)(x:zD (ks.map Q1)):Option (zD (outs.map Q1)×zo p):=
 (vn E (bj h+1) keep f gas n (bq f) (aW f.ntmps (.ptr 0 0::iY (ks.map Q1) x) (aB h y))).bind λr=>tn p outs r.1 r.2
def zt9(h:List CP)(ks outs:List Sh)(p:List CP)(g:zo h->zD (ks.map Q1)->Option (zD (outs.map Q1)×zo p)):z8:=
 sA h ks outs p (λy x=>(g y x).isSome) λy x=>(g y x).getD (cA outs,fU p)
theorem zbI{c:Nat}(l:zw E)(d:zM E.P h f (Io ks+1))(n:E.P=P:=by rfl)(m:E.gl=g:=by rfl):ol P g h (zt9 p ks outs q (itB E keep f gas c p ks outs q)):=by
 subst n m;refine zbH d λy x b C k=>?_
 rw[Option.isSome_iff_exists]at b;obtain⟨z,a⟩:=b;rw[a];unfold itB at a;rw[fO]at a;obtain⟨r,i,j⟩:=a;exact lD l d k c _ _ r i j
theorem NU{a:zD (ks.map Q1)->Option (zD (outs.map Q1))}{c:zD (ks.map Q1)->Bool}{i:zD (ks.map Q1)->zD (outs.map Q1)}(b:ol P g h (Pv ks outs a))(k:∀x,c x=Q3->a x=Q1 (i x)):ol P g h (zZ ks outs c i):=by
 refine AU (ι:=Unit) (Gs:=λ_=>fI ks outs (λx=>(a x).isSome) λx=>(a x).getD (cA outs)) (λ_=>b) λx m l d=>⟨(),?_⟩
 unfold fI at d|-;split at d
 .simp only[Tr.val]at d|-;split at d
  next j=>simp only[k x j,fG,zh,bT];exact d
  .simp at d
 .simp at d
theorem ij{a:zD (ks.map Q1)->Option (zD (outs.map Q1))}{c:zD (ks.map Q1)->zD (outs.map Q1)}(b:ol P g h (Pv ks outs a))(d:∀x,a x=Q1 (c x)):ol P g h (aK ks outs c):=
 QC (NU b λx _=>d x)
theorem zbJ{c:zD (ks.map Q1)->Bool}{a:zD (ks.map Q1)->zD (outs.map Q1)}(b:zw E)(i:zM E.P h f (Io ks))
  (d:∀x,c x=(itO E keep f gas n ks outs x).isSome) (j:∀x,a x=(itO E keep f gas n ks outs x).getD (cA outs)) (k:E.P=P:=by rfl) (q:E.gl=g:=by rfl):ol P g h (zZ ks outs c a):=by
 subst k q;obtain rfl:c=λx=>(itO E keep f gas n ks outs x).isSome:=funext d
 obtain rfl:a=λx=>(itO E keep f gas n ks outs x).getD (cA outs):=funext j
 exact zji b i
theorem Vo{c:zo p->zD (ks.map Q1)->Bool}{a:zo p->zD (ks.map Q1)->zD (outs.map Q1)×zo q}(b:zw E)(i:zM E.P h f (Io ks+1))
  (d:∀y x,c y x=(itB E keep f gas n p ks outs q y x).isSome) (j:∀y x,a y x=(itB E keep f gas n p ks outs q y x).getD (cA outs,fU q)) (l:E.P=P:=by rfl) (k:E.gl=g:=by rfl):ol P g h (sA p ks outs q c a):=by
 subst l k;obtain rfl:c=λy x=>(itB E keep f gas n p ks outs q y x).isSome:=funext λy=>funext λx=>d y x
 obtain rfl:a=λy x=>(itB E keep f gas n p ks outs q y x).getD (cA outs,fU q):=funext λy=>funext λx=>j y x
 exact zbI b i
abbrev au:=AV×List AO
variable {α:Type}
def Tr.map{β:Type}(f:α->β):Tr α->Tr β
 |.err=>.err
 |.chk c t=>.chk c (t.map f)
 |.br c t e=>.br c (t.map f) (e.map f)
 |.ok a=>.ok (f a)
theorem Tr.val_map{α β:Type}(f:α->β):∀t:Tr α,(t.map f).val=t.val.map f
 |.err=>rfl
 |.chk c t=>by simp only[Tr.map,Tr.val,val_map f t];split<;>rfl
 |.br c t e=>by simp only[Tr.map,Tr.val,val_map f t,val_map f e];split<;>rfl
 |.ok _=>rfl
variable {σ:Type}
abbrev Tr.to(s:σ):Tr (σ⊕au):=.ok (.inl s)
abbrev Tr.re(v:AV)(h:List AO):Tr (σ⊕au):=.ok (.inr (v,h))
def eh{σ:Type}(t:σ->Tr (σ⊕au)):Nat->σ->Option au
 |0,_=>Q2
 | n+1,s=>match (t s).val with
  |some (.inl h)=>eh t n h
  |some (.inr r)=>Q1 r
  |none=>Q2
def bY(t:σ->Tr (σ⊕au))(n:Nat)(i:Tr (σ⊕au)):Option au:=match i.val with
 |some (.inl s)=>eh t n s
 |some (.inr r)=>Q1 r
 |none=>Q2
def lf(f:Func)(e:σ->Nat×St):σ⊕au->zO
 |.inl s=>.head (e s).1 (ab f (e s).1) (e s).2
 |.inr r=>.ret r.1 r.2
def e0:Empty->Nat×St:=λx=>nomatch x
def t0:Empty->Tr (Empty⊕au):=λx=>nomatch x
section
variable {σ:Type} {E:cg} {n0:Nat} {keep:Nat->aP} {f:Func} {gas:Nat} {e:σ->Nat×St} {t:σ->Tr (σ⊕au)}
theorem RE(h:∀s,run E n0 keep f.results.toList gas (ab f (e s).1) (e s).2=(t s).map (lf f e)):∀(n:Nat)(s:σ),vn E n0 keep f gas n (ab f (e s).1) (e s).2=eh t n s
 |0,_=>rfl
 | n+1,s=>by
  rw[vn,h s,Tr.val_map,eh];cases(t s).val with
  |none=>rfl
  | some l=>
   cases l with
   |inl x=>exact RE h n x
   |inr r=>rfl
theorem jr(x:∀s,run E n0 keep f.results.toList gas (ab f (e s).1) (e s).2=(t s).map (lf f e)){K:List Item}{L:St}{v:Tr (σ⊕au)}(h:run E n0 keep f.results.toList gas K L=v.map (lf f e))(n:Nat):vn E n0 keep f gas (n+1) K L=bY t n v:=by
 rw[vn,h,Tr.val_map,bY];cases v.val with
 |none=>rfl
 | some l=>
  cases l with
  |inl s=>exact RE x n s
  |inr r=>rfl
end
def an(outs:List Sh)(t:σ->Tr (σ⊕au))(n:Nat)(i:Tr (σ⊕au)):Option (zD (outs.map Q1)):=(bY t n i).bind λr=>aU r.2 outs r.1
theorem lj{e:σ->Nat×St}{t:σ->Tr (σ⊕au)}{i:zD (ks.map Q1)->Tr (σ⊕au)}{c:zD (ks.map Q1)->Bool}{a:zD (ks.map Q1)->zD (outs.map Q1)}
  (k:zw E) (m:zM E.P h f (Io ks)) (d:∀x,run E 0 keep f.results.toList gas (bq f) (aW f.ntmps (iY (ks.map Q1) x) [])=(i x).map (lf f e))
  (j:∀s,run E 0 keep f.results.toList gas (ab f (e s).1) (e s).2=(t s).map (lf f e))
  (l:∀x,c x=(an outs t n (i x)).isSome) (o:∀x,a x=(an outs t n (i x)).getD (cA outs)) (p:E.P=P:=by rfl) (q:E.gl=g:=by rfl):ol P g h (zZ ks outs c a):=by
 subst p q;have b:∀x,itO E keep f gas (n+1) ks outs x=an outs t n (i x):=by
  intro x;unfold itO an;rw[jr j (d x)]
 exact zbJ (n:=n+1) k m (λx=>by rw[b,l]) (λx=>by rw[b,o])
variable {K:List Item}{L:St}
theorem JO{m n0:Nat}{e:σ->Nat×St}{t:σ->Tr (σ⊕au)}{i:Tr (σ⊕au)}{y:zD (outs.map Q1)}(j:zw E)(k:zM E.P h f m)(g:∀id,n0<=id->C.ρ0 id=Q2)
  (a:run E n0 keep f.results.toList gas K L=i.map (lf f e)) (b:∀s,run E n0 keep f.results.toList gas (ab f (e s).1) (e s).2=(t s).map (lf f e)) (x:an outs t n i=Q1 y):Reach E C h K L (λr x=>aU x outs r=Q1 y):=by unfold an at x;rw[fO]at x;obtain⟨r,c,d⟩:=x;rw[<-jr b a n]at c;exact lD j k g (n+1) _ _ r c d
abbrev k0:Nat->aP:=λ_=>{ }
abbrev kJ:List (Nat×List Nat)->Nat->aP
 |[],_=>{ }
 |p::r,j=>if j=p.1 then{slots:=p.2}else kJ r j
def o1{a:Sh}(o:Option (zD [Q1 a])):Sem a:=(o.getD (cA [a])).1
def o2{a b:Sh}(o:Option (zD [Q1 a,Q1 b])):Sem a×Sem b:=((o.getD (cA [a,b])).1,(o.getD (cA [a,b])).2.1)
def o3{M b c:Sh}(o:Option (zD [Q1 M,Q1 b,Q1 c])):Sem M×Sem b×Sem c:=((o.getD (cA [M,b,c])).1,(o.getD (cA [M,b,c])).2.1,(o.getD (cA [M,b,c])).2.2.1)
def FT(ks outs:List Sh)(o:zD (ks.map Q1)->Option (zD (outs.map Q1))):z8:=zZ ks outs (λx=>(o x).isSome) λx=>(o x).getD (cA outs)
theorem zw.T1{e:σ->Nat×St}{t:σ->Tr (σ⊕au)}{i:zD (ks.map Q1)->Tr (σ⊕au)}(c:zw E)(gas:Nat:=400)
  (d:(E.P.funcs[h]?,f.name=="runtime.NumGoroutine",f.body.isNone,Q0 (ks.length<=f.ntmps))=(Q1 f,Q4,Q4,Q3):=by kernel_rfl)
  (a:∀x,run E 0 keep f.results.toList gas (bq f) (aW f.ntmps (iY (ks.map Q1) x) [])=(i x).map (lf f e):=by intro x;kernel_rfl)
  (b:∀s,run E 0 keep f.results.toList gas (ab f (e s).1) (e s).2=(t s).map (lf f e):=by intro s;cases s<;>kernel_rfl) (j:E.P=P:=by rfl) (q:E.gl=g:=by rfl):ol P g h (FT ks outs λx=>an outs t n (i x)):=by subst j q;exact lj c (bL d) a b (λ_=>rfl) λ_=>rfl
theorem U7(E:cg)(n0:Nat)(keep:Nat->aP)(f:Func)(gas:Nat):∀s,run E n0 keep f.results.toList gas (ab f (e0 s).1) (e0 s).2=(t0 s).map (lf f e0):=λs=>nomatch s
def kM(outs:List Sh)(p:List CP)(t:σ->Tr (σ⊕au))(n:Nat)(i:Tr (σ⊕au)):Option (zD (outs.map Q1)×zo p):=(bY t n i).bind λr=>tn p outs r.1 r.2
variable {ps:List CP}
theorem kd{e:σ->Nat×St}{t:σ->Tr (σ⊕au)}{i:zo ps->zD (ks.map Q1)->Tr (σ⊕au)}{c:zo ps->zD (ks.map Q1)->Bool}{a:zo ps->zD (ks.map Q1)->zD (outs.map Q1)×zo q}
  (k:zw E) (m:zM E.P h f (Io ks+1)) (d:∀y x,run E (bj ps+1) keep f.results.toList gas (bq f) (aW f.ntmps (.ptr 0 0::iY (ks.map Q1) x) (aB ps y))=(i y x).map (lf f e))
  (j:∀s,run E (bj ps+1) keep f.results.toList gas (ab f (e s).1) (e s).2=(t s).map (lf f e))
  (l:∀y x,c y x=(kM outs q t n (i y x)).isSome) (o:∀y x,a y x=(kM outs q t n (i y x)).getD (cA outs,fU q)) (u:E.P=P:=by rfl) (p:E.gl=g:=by rfl):ol P g h (sA ps ks outs q c a):=by
 subst u p;have b:∀y x,itB E keep f gas (n+1) ps ks outs q y x=kM outs q t n (i y x):=by
  intro y x;unfold itB kM;rw[jr j (d y x)]
 exact Vo (n:=n+1) k m (λy x=>by rw[b,l]) (λy x=>by rw[b,o])
open Tr (chk br re)
theorem QK(h:Nat->AO)(e:Sh)(l:List (Sem e)):tj h e (.sl e l)=Q1 l:=by simp[tj]
theorem kr(h:Nat->AO):∀(s:Sh)(x:Sem s)(r:List AV),dh h s (zz s x++r)=Q1 (x,r)
 |.unit,_,_=>rfl
 |.bool,_,_=>rfl
 |.int k,n,r=>by simp[zz,dh]
 |.str,_,_=>rfl
 | .sl e,l,r=>by
  show(match tj h e (.sl e l)with|some l=>Q1 (l,r)|none=>Q2)=_;rw[QK]
 | .pr a b,x,r=>by
  simp only[zz,dh,B1,kr h a,kr h b]
 | .expr,e,r=>by
  show vj h _=_;simp only[zz,List.cons_append,F1,vj,QK];rw[show za.mk e.op (e.v.1,e.v.2.1,e.v.2.2) e.s e.l=e from za.eta e]
theorem jE{J:Nat->AO}:∀(p:List CP)(n:Nat)(y:zo p),(∀(j:Nat) o,(gM p y)[j]?=Q1 o->J (n+j)=o)->cN J n p (e8 n p y)=Q1 y
 |[],_,_,_=>rfl
 | .d s::r,n,y,h=>by
  simp only[e8,cN,kr];rw[jE r n y.2 h]
 | .nil::r,n,y,h=>by
  simp only[e8,cN];exact jE r n y h
 | .vec e::r,n,y,h=>by
  have x:=h 0 (.vec e y.1) rfl;simp only[pM]at x;simp only[e8,cN,zh,x,dite_true]
  rw[jE r (n+1) y.2 (λj o a=>by
   have:=h (j+1) o (by simpa[gM]using a);rw[<-this];congr 1;omega)]
theorem dw{r:AV}{a:zD (outs.map Q1)}(y:zo ps)(h:aU [] outs r=Q1 a):tn ps outs r (aB ps y)=Q1 (a,y):=by
 unfold tn aB;simp only[cj,zh,h]
 rw[jE ps 1 y (λj o x=>by
  unfold kq;rw[kf,BX,aY,x];rfl)]
section
variable {σ:Type} {t:σ->Tr (σ⊕au)}
theorem eP{β:Type}(N:Nat)(s:β->Nat->σ)(I:β->Nat->Prop)(Φ:au->Prop)(M:Nat)
  (x:∀b i,i<N->I b i->(∃c,I c (i+1)/\(t (s b i)).val=Q1 (.inl (s c (i+1))))\/∃r,(t (s b i)).val=Q1 (.inr r)/\Φ r)
  (a:∀b n,I b N->M<=n->∃r,eh t n (s b N)=Q1 r/\Φ r):
  ∀(m i:Nat)(b:β)(n:Nat),N-i=m->i<=N->I b i->M+m<=n->∃r,eh t n (s b i)=Q1 r/\Φ r
 | 0,i,b,n,p,o,j,q=>by
  obtain rfl:i=N:=by omega
  exact a b n j ow
 | m+1,i,b,n,p,o,j,q=>by
  obtain⟨n,rfl⟩:∃k,n=k+1:=⟨n-1,ow⟩;rcases x b i ow j with⟨c,l,h⟩|⟨r,d,g⟩
  .obtain⟨r,d,g⟩:=eP N s I Φ M x a m (i+1) c n ow ow l ow;exact⟨r,by rw[eh,h];exact d,g⟩
  .exact⟨r,by rw[eh,d],g⟩
theorem dR{n:Nat}{s:σ}:eh t (n+1) s=match(t s).val with
  |some (.inl h)=>eh t n h
  |some (.inr r)=>Q1 r
  |none=>Q2:=rfl
end
variable {k:Nat}
theorem gK.cells{hp:Nat->AO}{cs':List AV}(a:gK C w U ρ hp)(g:hp k=.box cs)
  (u:∀vals,dg w U ρ cs vals->dg w U ρ cs' vals):gK C w U ρ (λj=>if j=k then .box cs' else hp j):=by
 have x:∀id b,af ρ id (ite (id=k) (.box cs') (hp id)) b->af ρ id (hp id) b:=by
  intro id b ho;by_cases h:id=k
  .subst h;rw[ze rfl]at ho;rw[g];obtain⟨_,v,y,s⟩:=ho;exact⟨rfl,v,y,s⟩
  .rw[zg h]at ho;exact ho
 refine⟨λid=>?_,λi c b o1 o2=>a.inj i c b (x _ _ o1) (x _ _ o2),λid b o=>a.blk id b (x _ _ o)⟩;by_cases h:id=k
 .subst h;have d:=a.ob id;rw[g]at d;obtain⟨b,T,vals,l,m,n,p,q⟩:=d;simp only[zh];exact⟨b,T,vals,l,m,n,u _ p,q⟩
 .simp only[zg h];exact a.ob id
def cE(p q:List CP)(y:zo p)(z:zo q):List AO:=.box (e8 2 p y)::.box (e8 (2+bj p) q z)::(gM p y++gM q z)
theorem p6(p q:List CP)(y:zo p)(z:zo q):(cE p q y z).length=bj p+bj q+2:=by simp[cE,cj]
theorem gK.box2{H:List AV}{y:zo p}{z:zo q}(b:gK C w U ρ (λj=>((Qa cs::Qa H::os).getD j .dead)))(G:Io os=bj p+bj q)
  (c:cN (kq (.box cs::.box H::os)) 2 p cs=Q1 y) (a:cN (kq (.box cs::.box H::os)) (2+bj p) q H=Q1 z):gK C w U ρ (λj=>(cE p q y z).getD j .dead):=by
 have d:=b.cells (k:=0) (cs:=cs) (cs':=e8 2 p y) rfl (λv h=>(fT p 2 cs y v c h).1);have g:=d.cells (k:=1) (cs:=H) (cs':=e8 (2+bj p) q z) rfl (λv h=>(fT q _ H z v a h).1);obtain⟨D,T,u,_,_,_,o,_⟩:=b.ob 0;obtain⟨F,B,A,_,_,_,s,_⟩:=b.ob 1;have m:=(fT p 2 cs y u.toList c o).2;have n:=(fT q _ H z A.toList a s).2;have e:(λj=>(cE p q y z).getD j .dead)=λj=>if j=1 then .box (e8 (2+bj p) q z)else if j=0 then .box (e8 2 p y)else(Qa cs::Qa H::os).getD j .dead:=by
  funext j
  match j with
  |0=>rfl
  |1=>rfl
  | j+2=>
   rw[zg ow,zg ow];simp only[cE,BX];by_cases i:j<bj p
   .have x:j<(gM p y).length:=by rw[cj];exact i
    have:=m j _ (z6 x);simp only[kq,kf 2 j,BX]at this;rw[this,aY,kG x,z6 x];rfl
   .by_cases l:j<bj p+bj q
    .have x:j-bj p<(gM q z).length:=by rw[cj];omega
     have:=n (j-bj p) _ (z6 x);rw[show 2+bj p+(j-bj p)=j+2 by omega]at this;simp only[kq,BX]at this;rw[this,aY,jg (by rw[cj];omega),cj,z6 x];rfl
    .rw[aY,aY,eZ (by simp[cj];omega),eZ ow]
 rw[e];exact g
def A0(p q:List CP)(outs:List Sh)(r:AV)(h:List AO):Option (zD (outs.map Q1)×zo p×zo q):=match h with
 | .box c::.box ds::os=>if Io os=bj p+bj q then match aU [] outs r,cN (kq (.box c::.box ds::os)) 2 p c,cN (kq (.box c::.box ds::os)) (2+bj p) q ds with
   |some a,Q1 y,Q1 z=>Q1 (a,y,z)
   |_,_,_=>Q2
  else Q2
 |_=>Q2
def zfO(p b:List CP)(ks outs:List Sh)(a q:List CP)(c:zo p->zo b->zD (ks.map Q1)->Bool)(g:zo p->zo b->zD (ks.map Q1)->zD (outs.map Q1)×zo a×zo q):eX (Q2::Q2::ks.map Q1):=λx h=>match x.1,x.2.1,h with
 | .ptr 0 0,.ptr 1 0,.box d::.box ds::os=>if Io os=bj p+bj b then match cN (kq (.box d::.box ds::os)) 2 p d,cN (kq (.box d::.box ds::os)) (2+bj p) b ds with
   |some y,Q1 z=>.chk (c y z x.2.2) (.ok (Av outs (g y z x.2.2).1,cE a q (g y z x.2.2).2.1 (g y z x.2.2).2.2))
   |_,_=>.err
  else .err
 |_,_,_=>.err
def VU(ps qs:List CP)(ks outs:List Sh)(p q:List CP)(c:zo ps->zo qs->zD (ks.map Q1)->Bool)(g:zo ps->zo qs->zD (ks.map Q1)->zD (outs.map Q1)×zo p×zo q):z8:=aS (Q2::Q2::ks.map Q1) (zfO ps qs ks outs p q c g)
variable {T W:List CP}
theorem Vn{c:zo p->zo q->zD (ks.map some)->Bool}{d:zo p->zo q->zD (ks.map some)->zD (outs.map some)×zo T×zo W}(hf:zM E.P h f (Io ks+2))
  (i:∀y z x,c y z x=Q3->∀C:eA,(∀id,bj p+bj q+2<=id->C.ρ0 id=Q2)->Reach E C h (bq f) (aW f.ntmps (.ptr 0 0::.ptr 1 0::iY (ks.map Q1) x) (cE p q y z)) (λr i=>A0 T W outs r i=Q1 (d y z x))) (qp:E.P=P:=by rfl) (qg:E.gl=g:=by rfl):
  ol P g h (VU p q ks outs T W c d):=by
 subst qp qg;refine da (by simpa using hf) λx h0 h4 l C hC=>?_
 obtain⟨x0,x1,x⟩:=x;unfold zfO at l;simp only at l;split at l
 .rename_i S Y os;split at l
  .rename_i s;split at l
   .rename_i y z hy hz;simp only[Tr.val]at l;split at l
    .rename_i hc;simp only[bg]at l;subst l;have hR:=i y z x hc C (λid k=>hC id (by simpa[s]using k));intro b B a w U ρ h1 h2 m hW;have hH:gK C w U ρ (λj=>((Qa S::Qa Y::os).getD j .dead)):=m.hp
     have u:Cn C (aW f.ntmps (.ptr 0 0::.ptr 1 0::iY (ks.map Q1) x) (cE p q y z)) a w U ρ:=
      ⟨m.tm,hH.box2 s hy hz,λid k=>m.new id (by have k:(cE p q y z).length<=id:=k;rw[p6]at k;simpa[aW,s]using k),m.df,m.r0⟩
     obtain⟨e,w',fr,⟨v,r,h',O,ρ',he,n,L,D,A,J,F⟩,H,I,hl⟩:=hR b B a w U ρ h1 h2 u hW;unfold A0 at n;split at n
     .rename_i X Z h3;split at n
      .rename_i o;split at n
       next a' y' z' G M N=>simp only[bg]at n;refine⟨e,w',fr,⟨v,_,_,O,ρ',he,by rw[<-n],HI G L,D.box2 o M N,λid k=>A id (by rw[p6]at k;simpa[o]using k),J,F⟩,H,I,hl⟩
       .cases n
      .cases n
     .cases n
    .simp at l
   .simp at l
  .simp at l
 .simp at l
def R7(outs:List Sh)(p q:List CP)(t:σ->Tr (σ⊕au))(n:Nat)(i:Tr (σ⊕au)):Option (zD (outs.map Q1)×zo p×zo q):=(bY t n i).bind λr=>A0 p q outs r.1 r.2
theorem zjg{qs:List CP}{e:σ->Nat×St}{t:σ->Tr (σ⊕au)}{i:zo ps->zo qs->zD (ks.map Q1)->Tr (σ⊕au)}{c:zo ps->zo qs->zD (ks.map Q1)->Bool}{a:zo ps->zo qs->zD (ks.map Q1)->zD (outs.map Q1)×zo T×zo W}
  (v:zw E) (m:zM E.P h f (Io ks+2)) (k:∀y z x,run E (bj ps+bj qs+2) keep f.results.toList gas (bq f) (aW f.ntmps (.ptr 0 0::.ptr 1 0::iY (ks.map Q1) x) (cE ps qs y z))=(i y z x).map (lf f e))
  (l:∀s,run E (bj ps+bj qs+2) keep f.results.toList gas (ab f (e s).1) (e s).2=(t s).map (lf f e))
  (A:∀y z x,c y z x=(R7 outs T W t n (i y z x)).isSome) (B:∀y z x,a y z x=(R7 outs T W t n (i y z x)).getD (cA outs,fU T,fU W)) (F:E.P=P:=by rfl) (D:E.gl=g:=by rfl):ol P g h (VU ps qs ks outs T W c a):=by
 subst F D;refine Vn m λy z x d C q=>?_
 rw[A,Option.isSome_iff_exists]at d;obtain⟨u,j⟩:=d;rw[B,j];unfold R7 at j;rw[fO]at j;obtain⟨r,o,p⟩:=j;exact lD (Q:=λr b=>A0 T W outs r b=Q1 u) v m q (n+1) _ _ r (by rw[jr l (k y z x)];exact o) p
section
variable {σ:Type} {t:σ->Tr (σ⊕au)}
def zY(t:σ->Tr (σ⊕au))(k:Nat)(s:σ)(r:au):Prop:=∀n,k<=n->eh t n s=Q1 r
def zJ(t:σ->Tr (σ⊕au))(m:Nat)(s s':σ):Prop:=∀k r,zY t k s' r->zY t (k+m) s r
variable {k:Nat}{s:σ}{r:au}
theorem zY.mono{c:Nat}(h:zY t k s r)(x:k<=c):zY t c s r:=λn a=>h n ow
theorem zY.of(h:(t s).val=Q1 (.inr r)):zY t 1 s r:=by intro n x;obtain⟨n,rfl⟩:∃k,n=k+1:=⟨n-1,ow⟩;rw[eh,h]
variable {s':σ}
theorem zJ.of(h:(t s).val=Q1 (.inl s')):zJ t 1 s s':=by intro k r x n a;obtain⟨n,rfl⟩:∃k,n=k+1:=⟨n-1,ow⟩;rw[eh,h];exact x n ow
theorem zJ.refl(s:σ):zJ t 0 s s:=λ_ _ h=>h
variable {a:Nat}
theorem zJ.trans{b:Nat}{x:σ}(c:zJ t a s s')(d:zJ t b s' x):zJ t (b+a) s x:=λk r h=>(c _ _ (d k r h)).mono ow
theorem zJ.mono{b:Nat}(h:zJ t a s s')(c:a<=b):zJ t b s s':=λk r x=>(h k r x).mono ow
theorem zJ.ends(h:zJ t a s s')(x:zY t k s' r):zY t (k+a) s r:=h k r x
theorem zJ.all(m:Nat)(s:Nat->σ):∀(N:Nat),(∀i,i<N->zJ t m (s i) (s (i+1)))->zJ t (N*m) (s 0) (s N)
 |0,_=>(zJ.refl _).mono ow
 |N+1,h=>((zJ.all m s N λi x=>h i ow).trans (h N ow)).mono (by rw[oo];omega)
theorem mF{Φ:au->Prop}(m:Nat)(s:Nat->σ)(P:Nat->Prop):∀(N:Nat),(∀i,i<N->(∀j,j<i->P j)->(P i/\zJ t m (s i) (s (i+1)))\/(¬P i/\∃r,zY t m (s i) r/\Φ r))->
  ((∀i,i<N->P i)/\zJ t (N*m) (s 0) (s N))\/((¬∀i,i<N->P i)/\∃r,zY t (N*m) (s 0) r/\Φ r)
 |0,_=>.inl ⟨λi x=>zC x ow,(zJ.refl _).mono ow⟩
 | N+1,h=>by
  rcases mF m s P N λi x=>h i ow with⟨a,b⟩|⟨a,r,b,g⟩
  .rcases h N ow a with⟨c,d⟩|⟨c,r,d,k⟩
   .refine .inl ⟨λi x=>?_,(b.trans d).mono (by rw[oo];omega)⟩;rcases Nat.lt_succ_iff_lt_or_eq.1 x with x|rfl
    .exact a i x
    .exact c
   .exact .inr ⟨λh=>c (h N ow),r,(b.ends d).mono (by rw[oo];omega),k⟩
  .exact .inr ⟨λh=>a λi x=>h i ow,r,b.mono (by rw[oo];omega),g⟩
variable {outs:List Sh}{n:Nat}{i:Tr (σ⊕au)}
theorem zA{y:zD (outs.map Q1)}(x:i.val=Q1 (.inl s))(h:zY t k s r)(a:k<=n)(b:aU r.2 outs r.1=Q1 y):an outs t n i=Q1 y:=by unfold an bY;rw[x];show(eh t n s).bind _=_;rw[h n a];exact b
theorem zP{y:zD (outs.map Q1)}(h:i.val=Q1 (.inr r))(x:aU r.2 outs r.1=Q1 y):an outs t n i=Q1 y:=by unfold an bY;rw[h];exact x
theorem Y4{ps:List CP}{v:Tr (σ⊕au)}{y:zD (outs.map Q1)×zo ps}(h:v.val=Q1 (.inr r))(x:tn ps outs r.1 r.2=Q1 y):kM outs ps t n v=Q1 y:=by unfold kM bY;rw[h];exact x
end
variable {fn:FuncId}{x:List Item}{Q:AV->List AO->Prop}
theorem Reach.lenA(j c:Nat)(e:Sh)(l:List (Sem e)){m:List AV}(n:L.tmps[j]?=Q1 (.agg m))(o:m[c]?=Q1 (.sl e l))(h:Io l<=aI->Reach E C fn x L Q):Reach E C fn x L Q:=by
 intro b g a w U ρ y z i q;refine h ?_ b g a w U ρ y z i q;have d:j<a.tmps.toList.length:=by rw[<-i.tm.len];exact(dc.1 n).1
 have:=i.tm.rv j _ _ n (z6 d);generalize a.tmps.toList[j]=v at this;cases this with
 |agg _ p k _ u=>
 have d:c<Io p:=by rw[<-k];exact(dc.1 o).1
 have:=u c _ _ o (z6 d);generalize p[c]=v at this;cases this with
 |sl0=>simp
 |sl _ _ _ _ _ _ _ s=>exact s
abbrev zrl:Nat->aP:=λj=>if j=3 then{slots:=[0,3,4],prom:=[(3,Q2,zf)]}else{ }
inductive SX where
 |h3 (l0:zt) (i4:Int) (lh_0:zt)
abbrev zud:SX->Nat×St
 |.h3 h i l=>(3,⟨tm 24 [(0,sl zf h),(3,AV.vec 0),(4,ai i)],[AO.vec zf l]⟩)
def zvE(x:Sem zf.sl):Tr (SX⊕au):=Tr.to (SX.h3 x 0 [])
def zea:SX->Tr (SX⊕au)
 | .h3 h i l=>
  let a:=h.getD i.toNat (zi zf)
  let x:=[NK a]
  br (cond (Q0 (i<(↑h.length:Int))) (Q0 (i<14)) Q4)
  (chk (zK i (Io h)) (chk (NL a) (chk (Q0 (Io l+Io x<=1073741824)) (Tr.to (SX.h3 h (Γ Δ (i+1)) (l++x))))))
  (re (AV.vec 0) [AO.vec zf l])
def zr4(x:Sem zf.sl):=an [zf.sl] zea 100000000 (zvE x)
def zm2:=FT [zf.sl] [zf.sl] λx=>zr4 x.1
theorem Ve:FK 17 zm2:=wZ.T1 (f:=Tryz.f17) (keep:=zrl) (e:=zud)
abbrev zry:Nat->aP:=λj=>if j=3 then{slots:=[0,3,4],prom:=[(3,Q2,zl)]}else{ }
inductive NX where
 |h3 (l0:aN) (i4:Int) (lh_0:aN)
abbrev zum:NX->Nat×St
 |.h3 h i l=>(3,⟨tm 33 [(0,sl zl h),(3,AV.vec 0),(4,ai i)],[AO.vec zl l]⟩)
def zvI(x:Sem zl.sl):Tr (NX⊕au):=Tr.to (NX.h3 x 0 [])
def zee:NX->Tr (NX⊕au)
 | .h3 h i l=>
  let a:=h.getD i.toNat (zi zl)
  let x:=(↑(Io a.1):Int)
  let b:=[(Qg (toNat 20-toNat 0) (Qh (toNat 0) a.1),a.2)]
  let c:=Γ Δ (i+1)
  let d:=[a]
  br (cond (Q0 (i<(↑h.length:Int))) (Q0 (i<9)) Q4)
  (chk (zK i (Io h)) (br (Q0 (x>20)) (chk (Q0 (0<=0)&&Q0 (0<=20)&&Q0 (20<=x)) (chk (Q0 (Io l+Io b<=1073741824)) (Tr.to (NX.h3 h c (l++b))))) (chk (Q0 (Io l+Io d<=1073741824)) (Tr.to (NX.h3 h c (l++d))))))
  (re (AV.vec 0) [AO.vec zl l])
def zr3(x:Sem zl.sl):=an [zl.sl] zee 100000000 (zvI x)
def znv:=FT [zl.sl] [zl.sl] λx=>zr3 x.1
theorem Vi:FK 56 znv:=wZ.T1 (f:=Tryz.f56) (keep:=zry) (e:=zum)
def Dr(l:Sem zf.sl):Sem zf.sl:=(Qg 14 l).map NK
def pu(l:Sem zl.sl):Sem zl.sl:=(Qg 9 l).map λc:bR=>((lQ c.1,c.2):bR)
theorem wy(k:Nat)(l:List α):l.take (min k (Io l))=l.take k:=by
 rcases Nat.le_total k (Io l)with h|h
 .rw[Nat.min_eq_left h]
 .rw[Nat.min_eq_right h,fQ,QG h]
theorem zdm{x:Nat}{K:Int}(c:K=(k:Int))(h:n<min k x):(cond (Q0 ((n:Int)<(x:Int))) (Q0 ((n:Int)<K)) Q4)=Q3:=by
 have a:(n:Int)<x:=by omega
 have b:(n:Int)<K:=by omega
 rw[zy a,zy b];rfl
theorem RK{K:Int}(x:K=(k:Int))(n:Nat):(cond (Q0 (((min k n:Nat):Int)<(n:Int))) (Q0 (((min k n:Nat):Int)<K)) Q4)=Q4:=by
 rcases Nat.le_total k n with h|h
 .rw[Nat.min_eq_left h,x];simp
 .rw[Nat.min_eq_right h];simp
theorem Kn{l:List α}(h:n<Io l)(d:α):l.take (n+1)=l.take n++[l.getD n d]:=by rw[List.take_add_one,z6 h,aY,z6 h];rfl
def Ls:=zfQ.addL [(17,zm2),(56,znv)]
theorem w6:zw Ls:=wZ.addL<|fc Ve<|fc Vi iH
theorem om{c:zD (ks.map Q1)->Bool}{a:zD (ks.map Q1)->zD (outs.map Q1)}(b:ol P g h (zZ ks outs c a))(d:∀x,c x=Q3):ol P g h (aK ks outs a):=
 QC (by rwa [show c=λ_=>Q3 from funext d]at b)
theorem Fa(v:V):NL v=Q3:=by
 unfold NL;cases h:Q0 ((↑(Io v.2.2):Int)>60)
 .rfl
 .simp only[aQ]at h;simp only[aw,aE,aQ];omega
theorem PV(s:zH):SE s=Q3:=by
 unfold SE;cases h:Q0 ((↑(Io s):Int)>20)
 .rfl
 .simp only[aQ]at h;simp only[aw,aE,aQ];omega
theorem Ud(l:zt):zr4 l=Q1 (Dr l,()):=by
 have g:=zJ.all (t:=zea) 1 (λi=>.h3 l (i:Int) ((Qg i l).map NK)) (min 14 (Io l)) λi x=>zJ.of (by
  have h:i<Io l:=by omega
  have a:Q0 ((List.map NK (Qg i l)).length+[NK (l.getD i (zi zf))].length<=1073741824)=Q3:=by simp;omega
  simp only[zea,Tr.val,zdm (k:=14) (K:=14) rfl x,zx h,zh,aJ,Fa,a];rw[zu i um,Kn h (zi zf),eC];rfl)
 rw[wy]at g;refine zA rfl (g.ends (k:=1) (r:=(.vec 0,[.vec zf (Dr l)])) (zY.of ?_)) ow rfl;simp only[zea,Tr.val,RK (k:=14) (K:=14) rfl,zE,zm];rfl
theorem Uc(l:aN):zr3 l=Q1 (pu l,()):=by
 have g:=zJ.all (t:=zee) 1 (λi=>.h3 l (i:Int) ((Qg i l).map λc:bR=>((lQ c.1,c.2):bR))) (min 9 (Io l)) λi j=>zJ.of (by
  have d:i<Io l:=by omega
  have n:(Qg (i+1) l).map (λc:bR=>((lQ c.1,c.2):bR))=(Qg i l).map (λc:bR=>((lQ c.1,c.2):bR))++[(lQ (List.getD l i (zi zl)).1,(List.getD l i (zi zl)).2)]:=by rw[Kn d (zi zl),eC];rfl
  have b:((Qg i l).map (λc:bR=>((lQ c.1,c.2):bR))).length<=9:=by rw[cQ,B2];omega
  rw[n];generalize(Qg i l).map (λc:bR=>((lQ c.1,c.2):bR))=a at b|-;have m:Q0 (Io a+1<=1073741824)=Q3:=zy ow;simp only[zee,Tr.val,zdm (k:=9) (K:=9) rfl j,zx d,zh,aJ,eJ,pn,ew,m];rw[zu i um];unfold lQ;by_cases h:(Io (List.getD l i (zi zl)).1:Int)>20
  .have x:Q0 ((20:Int)<=(Io (List.getD l i (zi zl)).1:Int))=Q3:=zy ow;simp only[zy h,x,zh];rfl
  .simp only[z7 h,zE,zm])
 rw[wy]at g;refine zA rfl (g.ends (k:=1) (r:=(.vec 0,[.vec zl (pu l)])) (zY.of ?_)) ow rfl;simp only[zee,Tr.val,RK (k:=9) (K:=9) rfl,zE,zm];rfl
def zm3:z8:=aK [zf] [zf] λx=>(NK x.1,())
theorem zhM:FK 41 zm3:=om zfA λx=>Fa x.1
def zmU:z8:=aK [Q6] [Q6] λx=>(lQ x.1,())
theorem zhF:FK 185 zmU:=om zfz λx=>PV x.1
def F6t:z8:=aK [zf.sl] [zf.sl] λx=>(Dr x.1,())
theorem zo6:FK 17 F6t:=ij Ve λx=>Ud x.1
def zmY:z8:=aK [zl.sl] [zl.sl] λx=>(pu x.1,())
theorem zhJ:FK 56 zmY:=ij Vi λx=>Uc x.1
abbrev AP:Nat->aP:=λ_=>{slots:=[0,1,7,8]}
def oL{K:List Item}{e:Sh}(l:List (Sem e))(p:Sem e->Bool)(s:Int->St)(h:List AO)(i:Int):Tr zO:=.br (Q0 (i<(Io l:Int))) (.chk (zK i (Io l)) (.br (p (l.getD i.toNat (zi e))) (.ok (.ret (.int .i64 i) h)) (.ok (.head 2 K (s (Γ Δ (i+1))))))) (.ok (.ret (.int .i64 (-1)) h))
variable {z:List AO}
theorem lg{n0:Nat}{N:Nat}{e:Sh}(l:List (Sem e))(p:Sem e->Bool)(s:Int->St)
  (c:zw E) (g:zM E.P h f n) (d:∀id,n0<=id->C.ρ0 id=Q2)
  (b:∀i,run E n0 keep f.results.toList N K (s i)=oL (K:=K) l p s z i) (j:Io l<=aI):∀(m i:Nat),Io l-i=m->i<=Io l->
  Reach E C h K (s i) (λr x=>(r,x)=(.int .i64 (ac p (l.drop i) i),z)):=by
 intro m
 induction m with
 | zero=>
  intro i c.mix' hi;obtain rfl:i=Io l:=by omega
  refine zF c g d (b _) ?_;simp only[oL,Tr.val,zG,jO];rfl
 | succ m I=>
  intro i c.mix' hi;have a:i<Io l:=by omega
  refine zF c g d (b _) ?_;rw[fR a];simp only[oL,Tr.val,zI a,zx a,cO l _ a,zu i ow,zh,ac];split
  .rfl
  .exact I (i+1) ow ow
abbrev BB(t:Int)(l:dA)(i:Int):St:={tmps:=[.sl zj l,.clo (.func 311) [] [.ptr 0 0],.any,.any,.any,.any,.any,.int .i64 (Io l),.int .i64 i,.any,.any,.any,.any,.any,.any,.any,.any,.any,.any],heap:=[.box [.int .i64 t]]}
theorem W8(t:Int)(l:dA):run Ls 1 AP Tryz.f338.results.toList 300 (bq Tryz.f338) (aW Tryz.f338.ntmps [.sl zj l,.clo (.func 311) [] [.ptr 0 0]] [.box [.int .i64 t]])=.ok (.head 2 (ab Tryz.f338 2) (BB t l 0)):=kw
theorem YT(t:Int)(l:dA)(i:Int):run Ls 1 AP Tryz.f338.results.toList 300 (ab Tryz.f338 2) (BB t l i)=oL (K:=ab Tryz.f338 2) (e:=zj) l (λx=>bif x !=t then x !=0 else Q4) (BB t l) [.box [.int .i64 t]] i:=kw
theorem YE:zM Ls.P 338 Tryz.f338 2:=bL kw
def zpw:eX [Q1 (.sl zj),Q2]:=λx h=>match x,h with
 |(l,.clo (.func 311) [] [.ptr 0 0],_),[.box [.int .i64 t]]=>.ok (.int .i64 (ac (λx=>bif x !=t then x !=0 else Q4) l 0),[.box [.int .i64 t]])
 |_,_=>.err
def zmF:z8:=aS [Q1 (.sl zj),Q2] zpw
theorem zhq:FK 338 zmF:=by
 refine da YE λx d c h C a=>?_
 unfold zpw at h;split at h
 .rename_i l u t;simp only[Tr.val_ok,bg]at h;subst h;refine Reach.len 0 zj l rfl λb=>?_
  refine zF (n0:=1) w6 YE a (W8 t l) ?_;exact lg l (λx=>bif x !=t then x !=0 else Q4) (BB t l) w6 YE a (YT t l) b _ 0 rfl (aM _)
 .simp at h
def uS:=Ls.addL [(41,zm3),(185,zmU),(17,F6t),(56,zmY),(338,zmF)]
theorem nl:zw uS:=w6.addL<|fc zhM<|fc zhF<|fc zo6<|fc zhJ<|fc zhq iH
def F78:z8:=aS [Q1 (.sl zj),Q2] (eK uS Tryz.f310 [Q1 (.sl zj),Q2])
theorem zpc:FK 310 F78:=bS _ nl (bL kw)
def er(x:Sem Q6):Sem Q7:=qT x
theorem zsk:zM uS.P 173 Tryz.f173 1:=bL kw
theorem zuU(x:Sem Q6):rn uS 0 (λ_=>{ }) Tryz.f173 [zL Q6 x] []=Tr.ok (zO.ret (AV.bool (qT x)) []):=kw
def F25:z8:=aK [Q6] [Q7] λx=>(er x.1,())
theorem zou:FK 173 F25:=by
 refine ak zsk λx C h=>?_
 refine be nl zsk (λid _=>h id) (zuU x.1) ?_;simp only[Tr.val,er];repeat' split
 all_goals rfl
def zV(x:ao)(h:Sem Q6):zq:=ac (λc=>c.1==h) x.2.1 0
theorem zsg:zM uS.P 108 Tryz.f108 2:=bL kw
theorem zuQ(x:ao)(h:Sem Q6):rn uS 0 (λ_=>{ }) Tryz.f108 [zL aj x,zL Q6 h] []=Tr.ok (zO.ret (ai (ac (λc=>c.1==h) x.2.1 0)) []):=kw
def F17:z8:=aK [aj,Q6] [zj] λx=>(zV x.1 x.2.1,())
theorem zop:FK 108 F17:=by
 refine ak zsg λx C h=>?_
 refine be nl zsg (λid _=>h id) (zuQ x.1 x.2.1) ?_;simp only[Tr.val,zV];repeat' split
 all_goals rfl
def ay(x:Sem zl.sl)(h:Sem Q6):zq:=ac (λc=>c.1==h) x 0
theorem zsF:zM uS.P 238 Tryz.f238 2:=bL kw
theorem zvd(x:Sem zl.sl)(h:Sem Q6):rn uS 0 (λ_=>{ }) Tryz.f238 [zL zl.sl x,zL Q6 h] []=Tr.ok (zO.ret (ai (ac (λc=>c.1==h) x 0)) []):=kw
def F48:z8:=aK [zl.sl,Q6] [zj] λx=>(ay x.1 x.2.1,())
theorem zoO:FK 238 F48:=by
 refine ak zsF λx C h=>?_
 refine be nl zsF (λid _=>h id) (zvd x.1 x.2.1) ?_;simp only[Tr.val,ay];repeat' split
 all_goals rfl
def Gd:=uS.addL [(310,F78),(173,F25),(108,F17),(238,F48)]
theorem w7:zw Gd:=nl.addL<|fc zpc<|fc zou<|fc zop<|fc zoO iH
def pE(h:Sem zj.sl)(a:zq):Sem Q7:=!Q0 (ac (λx=>bif x !=a then x !=0 else Q4) h 0>=0)
theorem zsQ:zM Gd.P 271 Tryz.f271 2:=bL kw
theorem zvp(h:Sem zj.sl)(a:zq):rn Gd 0 (λ_=>{ }) Tryz.f271 [zL zj.sl h,zL zj a] []=Tr.ok (zO.ret (AV.bool !Q0 (ac (λx=>bif x !=a then x !=0 else Q4) h 0>=0)) []):=kw
def F66:z8:=aK [zj.sl,zj] [Q7] λx=>(pE x.1 x.2.1,())
theorem zo4:FK 271 F66:=by
 refine ak zsQ λx C h=>?_
 refine be w7 zsQ (λid _=>h id) (zvp x.1 x.2.1) ?_;simp only[Tr.val,pE];repeat' split
 all_goals rfl
def zU(x:Sem Q6):Sem Q7:=bif er x then !jy x else Q4
theorem zsf:zM Gd.P 107 Tryz.f107 1:=bL kw
theorem zuP(x:Sem Q6):rn Gd 0 (λ_=>{ }) Tryz.f107 [zL Q6 x] []=Tr.ok (zO.ret (AV.bool (cond (er x) (!jy x) Q4)) []):=kw
def F16:z8:=aK [Q6] [Q7] λx=>(zU x.1,())
theorem zoo:FK 107 F16:=by
 refine ak zsf λx C h=>?_
 refine be w7 zsf (λid _=>h id) (zuP x.1) ?_;simp only[Tr.val,zU];repeat' split
 all_goals rfl
def Wx:=Gd.addL [(271,F66),(107,F16)]
theorem Ge:zw Wx:=w7.addL<|fc zo4<|fc zoo iH
theorem eI{c:zD (ks.map Q1)->Bool}{a:zD (ks.map Q1)->zD (outs.map Q1)}(k:∃fn,P.funcs[h]?=Q1 fn/\(fn.name=="runtime.NumGoroutine")=Q4/\fn.body.isNone=Q4)(j:∀x,c x=Q4):ol P g h (zZ ks outs c a):=by
 refine⟨k,?_⟩;intro w U ρ p n i v f m b;exfalso;unfold zZ aS at b;split at b
 .simp only at b;split at b
  .split at b
   .simp only[Tr.val_bind,fO]at b;obtain⟨l,d,o⟩:=b;unfold fI at d;split at d
    .simp only[Tr.val,j]at d;simp at d
    .simp at d
   .simp at b
  .simp at b
 .simp at b
variable {Φ:zO->Prop}{t:Tr zO}
theorem mX{c:Bool}{f:Tr zO}(h:c=Q3->gS Φ t.val)(x:c=Q4->gS Φ f.val):gS Φ (br c t f).val:=by
 cases c
 .simpa[Tr.val]using x rfl
 .simpa[Tr.val]using h rfl
theorem fw{c:Bool}(x:c=Q3)(h:gS Φ t.val):gS Φ (chk c t).val:=by subst x;simpa[Tr.val]using h
theorem zT(h:gS Φ t.val):gS Φ (chk Q3 t).val:=h
theorem nG{c:Bool}(h:c=Q4):¬c=Q3:=by rw[h];simp
variable {S:Bool}
theorem ru{c:Bool}(h:(ite (c=Q3) S Q4)=Q3):c=Q3/\S=Q3:=by
 split at h
 .exact⟨‹_›,h⟩
 .cases h
theorem vz{c:Bool}{f:Tr zO}{α:Sort _}{a b y:α}{q:Bool}(d:(ite (c=Q3) a b)=y)(x:(ite (c=Q3) S q)=Q3)(g:c=Q3->a=y->S=Q3->gS Φ t.val)(i:c=Q4->b=y->q=Q3->gS Φ f.val):gS Φ (Tr.br c t f).val:=
 mX (λh=>g h (by rwa [ze h]at d) (by rwa [ze h]at x)) (λh=>i h (by rwa [zg (nG h)]at d) (by rwa [zg (nG h)]at x))
theorem dG{c:Bool}{f:Tr zO}{α:Sort _}{a b y:α}(x:(ite (c=Q3) a b)=y)(d:c=Q3->a=y->gS Φ t.val)(g:c=Q4->b=y->gS Φ f.val):gS Φ (Tr.br c t f).val:=
 mX (λh=>d h (by rwa [ze h]at x)) (λh=>g h (by rwa [zg (nG h)]at x))
theorem iO{c:Bool}(x:(ite (c=Q3) S Q4)=Q3)(h:S=Q3->gS Φ t.val):gS Φ (Tr.chk c t).val:=
 fw (ru x).1 (h (ru x).2)
theorem Tr.val_brT(t f:Tr α):(br Q3 t f).val=t.val:=rfl
theorem Tr.val_brF(t f:Tr α):(br Q4 t f).val=f.val:=rfl
theorem Tr.val_chkT(t:Tr α):(chk Q3 t).val=t.val:=rfl
instance:Inhabited za:=⟨.mk [] (0,0,[]) [] []⟩
instance (s:Sh):Inhabited (Sem s):=⟨zi s⟩
def TE(g:Sem Q5->bZ->zq×zq)(c:Sem Q5->bZ->Bool):cg:=Wx.add 227 (zZ [Q5,Sh.sl zl] [zj,zj] (λx=>c x.1 x.2.1) λx=>((g x.1 x.2.1).1,(g x.1 x.2.1).2,()))
theorem CB{g:Sem Q5->bZ->zq×zq}{c:Sem Q5->bZ->Bool}(h:FK 227 (zZ [Q5,Sh.sl zl] [zj,zj] (λx=>c x.1 x.2.1) λx=>((g x.1 x.2.1).1,(g x.1 x.2.1).2,()))):zw (TE g c):=Ge.add h
abbrev zgS:Nat->aP:=λj=>if j=3 then{slots:=[1,2,6,15,16,17],prom:=[(6,Q2,zj)]}else{ }
abbrev EF(k:LC)(g:LX)(i h:Int)(j:zH)(x a:Int)(b c:zH)(d:LX)(l:LI):St:={tmps:=(tm 91 [(1,sl zl k),(2,ptr 0 0),(6,AV.vec 1),(15,sl Q5 g),(16,ai i),(17,ai h)]),heap:=[Qa [str j,ai x,ai a,str b,str c,sl Q5 d],AO.vec zj l]}
theorem DI(g:Sem Q5->bZ->zq×zq)(c:Sem Q5->bZ->Bool):zM (TE g c).P 227 Tryz.f227 2:=bL kw
theorem zqy(g:Sem Q5->bZ->zq×zq)(c:Sem Q5->bZ->Bool)(x:Sem Q5)(h:Sem zl.sl):rn (TE g c) 0 zgS Tryz.f227 [zL Q5 x,zL zl.sl h] []=Tr.ok (zO.head 3 (ab Tryz.f227 3) (EF h (za.l x) (↑(za.l x).length:Int) 0 (za.op x) (za.v x).1 (za.v x).2.1 (za.v x).2.2 (za.s x) (za.l x) [])):=kw
theorem R3(g:Sem Q5->bZ->zq×zq)(c:Sem Q5->bZ->Bool)(h:LC)(a:LX)(b i:Int)(j:zH)(d m:Int)(n x:zH)(o:LX)(l:LI):rh (TE g c) 0 zgS Tryz.f227 3 (EF h a b i j d m n x o l)=let p:=Tr.ok (zO.ret (tup [ai 0,ai 5]) []);let q:=Tr.ok (zO.ret (tup [ai 3,ai 0]) []);let u:=chk (zK 0 (Io l)&&(Q0 (toNat 0<Io l)&&(zK 1 (Io l)&&(Q0 (toNat 1<Io l)&&bif l.getD (toNat 0) (zi zj)==l.getD (toNat 1) (zi zj)then Q3 else zK 0 (Io l)&&(Q0 (toNat 0<Io l)&&bif l.getD (toNat 0) (zi zj)==0 then Q3 else zK 1 (Io l)&&Q0 (toNat 1<Io l)))))) (br (!bif l.getD (toNat 0) (zi zj)==l.getD (toNat 1) (zi zj)then Q3 else bif l.getD (toNat 0) (zi zj)==0 then Q3 else l.getD (toNat 1) (zi zj)==0) p q);let y:=a.getD i.toNat (zi Q5);let k:=zr y;let v:=br (!pE l 1) p (Tr.ok (zO.ret (tup [ai 1,ai 0]) []));let s:=br (!pE l 3) p q;
 br (Q0 (i<b)) (chk (zK i (Io a)) (chk (c k h) (br ((g k h).2!=0) (Tr.ok (zO.ret (tup [ai 0,ai (g k h).2]) [])) (chk (Q0 (Io l+[(g k h).1].length<=1073741824)) (Tr.ok (zO.head 3 (ab Tryz.f227 3) (EF h a b (Γ Δ (i+1)) j d m n x o (l++[(g k h).1])))))))) (br (j==ou) (Tr.ok (zO.ret (tup [ai d,ai 0]) [])) (br (j==eL) (br (Q0 (ay h x<0)) (Tr.ok (zO.ret (tup [ai 0,ai 4]) [])) (chk (zK (ay h x) (Io h)) (Tr.ok (zO.ret (tup [ai (h.getD (toNat (ay h x)) (zi zl)).2.1,ai 0]) [])))) (br (j==ni) s (br (j==iw) s (br (j==uD) s (br (j==[61]) u (br (j==[60]) u (br (j==[43]) v (br (j==[45]) v q))))))))):=kw
def aR(g:Sem Q5->bZ->zq×zq)(c:Sem Q5->bZ->Bool)(a:LC)(j:zH)(b d:Int)(k h:zH)(m:LX):List (Sem Q5)->Int->dA->zq×zq
 |[],_,l=>if(j==ou)=Q3 then(b,0)
else
 if(j==eL)=Q3 then
  if Q0 (ay a h<0)=Q3 then(0,4)
  else((a.getD (toNat (ay a h)) (zi zl)).2.1,0)
 else
  if(j==ni)=Q3 then if(!pE l 3)=Q3 then(0,5)else(3,0)
  else
   if(j==iw)=Q3 then if(!pE l 3)=Q3 then(0,5)else(3,0)
   else
    if(j==uD)=Q3 then if(!pE l 3)=Q3 then(0,5)else(3,0)
    else
     if (j==[61])=true then
      if
        (!bif l.getD (toNat 0) (zi zj)==l.getD (toNat 1) (zi zj)then Q3
          else bif l.getD (toNat 0) (zi zj)==0 then Q3 else l.getD (toNat 1) (zi zj)==0)=
         Q3 then
       (0,5)
      else(3,0)
     else
      if (j==[60])=true then
       if
         (!bif l.getD (toNat 0) (zi zj)==l.getD (toNat 1) (zi zj)then Q3
           else
            bif l.getD (toNat 0) (zi zj)==0 then Q3 else l.getD (toNat 1) (zi zj)==0)=
          Q3 then
        (0,5)
       else(3,0)
      else
       if(j==[43])=Q3 then if(!pE l 1)=Q3 then(0,5)else(1,0)
       else if(j==[45])=Q3 then if(!pE l 1)=Q3 then(0,5)else(1,0)else(3,0)
 |x::r,i,l=>if((g x a).2!=0)=Q3 then(0,(g x a).2)else aR g c a j b d k h m r (i+1) (l++[(g x a).1])
def gB(g:Sem Q5->bZ->zq×zq)(c:Sem Q5->bZ->Bool)(h:LC)(j:zH)(b d:Int)(k a:zH)(m:LX):List (Sem Q5)->Int->dA->Bool
 |[],_,l=>if(j==ou)=Q3 then Q3
else
 if(j==eL)=Q3 then
  if Q0 (ay h a<0)=Q3 then Q3 else if zK (ay h a) (Io h)=Q3 then Q3 else Q4
 else
  if(j==ni)=Q3 then Q3
  else
   if(j==iw)=Q3 then Q3
   else
    if(j==uD)=Q3 then Q3
    else
     if (j == [61])=true then
      if
        (zK 0 (Io l)&&
          (Q0 (toNat 0<Io l)&&
           (zK 1 (Io l)&&
            (Q0 (toNat 1<Io l)&&
             bif l.getD (toNat 0) (zi zj)==l.getD (toNat 1) (zi zj)then Q3
             else
              zK 0 (Io l)&&
               (Q0 (toNat 0<Io l)&&
                bif l.getD (toNat 0) (zi zj)==0 then Q3
                else zK 1 (Io l)&&Q0 (toNat 1<Io l))))))=
         Q3 then
       Q3
      else Q4
     else
      if (j == [60])=true then
       if
         (zK 0 (Io l)&&
           (Q0 (toNat 0<Io l)&&
            (zK 1 (Io l)&&
             (Q0 (toNat 1<Io l)&&
              bif l.getD (toNat 0) (zi zj)==l.getD (toNat 1) (zi zj)then Q3
              else
               zK 0 (Io l)&&
                (Q0 (toNat 0<Io l)&&
                 bif l.getD (toNat 0) (zi zj)==0 then Q3
                 else zK 1 (Io l)&&Q0 (toNat 1<Io l))))))=
          Q3 then
        Q3
       else Q4
      else Q3
 |x::r,i,l=>if c x h=Q3 then
 if((g x h).2!=0)=Q3 then Q3
 else
  if Q0 (Io l+[(g x h).1].length<=1073741824)=Q3 then
   gB g c h j b d k a m r (i+1) (l++[(g x h).1])
  else Q4
else Q4
theorem zbX(g:Sem Q5->bZ->zq×zq)(c:Sem Q5->bZ->Bool)(B:FK 227 (zZ [Q5,Sh.sl zl] [zj,zj] (λx=>c x.1 x.2.1) λx=>((g x.1 x.2.1).1,(g x.1 x.2.1).2,())))(A:∀id,C.ρ0 id=Q2)(v:LC)(j:zH)(k n:Int)(o p:zH)(q l:LX)(G:Io l<=aI):∀(m i:Nat)(a:LI),Io l-i=m->i<=Io l->gB g c v j k n o p q (l.drop i) i a=Q3->
  Reach (TE g c) C 227 (ab Tryz.f227 3) (EF v l (Io l:Int) (i:Int) j k n o p q a) (λr h=>aU h [zj,zj] r=Q1 ((aR g c v j k n o p q (l.drop i) i a).1,(aR g c v j k n o p q (l.drop i) i a).2,())):=by
 intro m
 induction m with
 | zero=>
  intro i a F D d;obtain rfl:i=Io l:=by omega
  rw[jO]at d|-;refine zF (CB B) (DI g c) (λid _=>A id) (R3 g c _ _ _ _ _ _ _ _ _ _ _) ?_;rw[gB]at d;generalize b:aR g c v j k n o p q [] _ a=y;rw[aR]at b;simp only[za.eta,zG,Tr.val_brF];repeat' (first|with_reducible refine vz b d (λ_ b d=>?_) (λ_ b d=>?_)|with_reducible refine dG b (λ_ b=>?_) (λ_ b=>?_)|with_reducible refine iO d (λd=>?_)|with_reducible refine zT ?_)
  all_goals(subst b;first|rfl)
 | succ m I=>
  intro i a F D d;have u:i<Io l:=by omega
  have I:=I (i+1);have s:((i:Int)+1)=((i+1:Nat):Int):=by omega
  have z:=zu i ow;rw[fR u]at d|-;refine zF (CB B) (DI g c) (λid _=>A id) (R3 g c _ _ _ _ _ _ _ _ _ _ _) ?_;rw[gB]at d;generalize b:aR g c v j k n o p q (l[i]::l.drop (i+1)) (i:Int) a=y;rw[aR]at b;simp only[za.eta,zI u,zx u,cO l _ u,z,Tr.val_brT,Tr.val_chkT];clear z;simp only[s]at b
  try simp only[s]at d
  repeat' (first|with_reducible refine vz b d (λ_ b d=>?_) (λ_ b d=>?_)|with_reducible refine dG b (λ_ b=>?_) (λ_ b=>?_)|with_reducible refine iO d (λd=>?_)|with_reducible refine zT ?_)
  all_goals(subst b;first|(change Reach _ _ _ _ _ _;apply I<;>first|omega|assumption)|rfl)
theorem VF(g:Sem Q5->bZ->zq×zq)(c:Sem Q5->bZ->Bool)(q:FK 227 (zZ [Q5,Sh.sl zl] [zj,zj] (λx=>c x.1 x.2.1) λx=>((g x.1 x.2.1).1,(g x.1 x.2.1).2,())))(o:∀id,C.ρ0 id=Q2)(n:LC)(j:zH)(b d:Int)(i k:zH)(m a:LX)(l:LI)(p:gB g c n j b d i k m a 0 l=Q3):
  Reach (TE g c) C 227 (ab Tryz.f227 3) (EF n a (Io a:Int) 0 j b d i k m l) (λr h=>aU h [zj,zj] r=Q1 ((aR g c n j b d i k m a 0 l).1,(aR g c n j b d i k m a 0 l).2,())):=
 Reach.len 15 (Q5) a rfl λs=>zbX g c q o n j b d i k m a s _ 0 l rfl (aM _) p
def yx(g:Sem Q5->bZ->zq×zq)(c:Sem Q5->bZ->Bool)(x:Sem Q5)(h:Sem zl.sl):zq×zq:=aR g c h (za.op x) (za.v x).1 (za.v x).2.1 (za.v x).2.2 (za.s x) (za.l x) (za.l x) 0 []
def BM(g:Sem Q5->bZ->zq×zq)(c:Sem Q5->bZ->Bool)(x:Sem Q5)(h:Sem zl.sl):Bool:=gB g c h (za.op x) (za.v x).1 (za.v x).2.1 (za.v x).2.2 (za.s x) (za.l x) (za.l x) 0 []
def ztU(g:Sem Q5->bZ->zq×zq)(c:Sem Q5->bZ->Bool):z8:=zZ [Q5,zl.sl] [zj,zj] (λx=>BM g c x.1 x.2.1) λx=>((yx g c x.1 x.2.1).1,(yx g c x.1 x.2.1).2,())
theorem ziu(g:Sem Q5->bZ->zq×zq)(c:Sem Q5->bZ->Bool)(d:FK 227 (zZ [Q5,Sh.sl zl] [zj,zj] (λx=>c x.1 x.2.1) λx=>((g x.1 x.2.1).1,(g x.1 x.2.1).2,()))):FK 227 (ztU g c):=by
 refine aL (DI g c) λx a C b=>?_
 unfold BM at a;refine zF (CB d) (DI g c) (λid _=>b id) (zqy g c x.1 x.2.1) ?_;generalize h:yx g c x.1 x.2.1=y;unfold yx at h
 try simp only[za.eta,zn]
 repeat' (first|with_reducible refine vz h a (λ_ h a=>?_) (λ_ h a=>?_)|with_reducible refine dG h (λ_ h=>?_) (λ_ h=>?_)|with_reducible refine iO a (λa=>?_)|with_reducible refine zT ?_)
 all_goals(subst h;first|(change Reach _ _ _ _ _ _;apply VF g c d b<;>first|assumption|exact a)|rfl)
mutual
def zW:Nat->Sem Q5->bZ->zq×zq
 |0=>λ_ _=>default
 |n+1=>yx (zW n) (bx n)
def bx:Nat->Sem Q5->bZ->Bool
 |0=>λ_ _=>Q4
 |n+1=>BM (zW n) (bx n)
end
theorem Vj:∀n,FK 227 (zZ [Q5,Sh.sl zl] [zj,zj] (λx=>bx n x.1 x.2.1) λx=>((zW n x.1 x.2.1).1,(zW n x.1 x.2.1).2,()))
 |0=>eI ⟨Tryz.f227,(DI default default).1,(DI default default).2.1,(DI default default).2.2.1⟩ (λ_=>rfl)
 |n+1=>ziu (zW n) (bx n) (Vj n)
def F51:z8:=zZ [Q5,Sh.sl zl] [zj,zj] (λx=>bx 16 x.1 x.2.1) λx=>((zW 16 x.1 x.2.1).1,(zW 16 x.1 x.2.1).2,())
theorem zoR:FK 227 F51:=Vj 16
def Gf:=Wx.add 227 F51
theorem rc:zw Gf:=Ge.add zoR
abbrev cpE:List CP:=[.d .expr]
abbrev zpP:List CP:=[.d .str,.d zj,.d zj,.d .str,.d .str,.vec .expr]
abbrev pF:List CP:=[.d .str,.d zj,.d zj,.d .str,.d .str,.nil]
def Lo(g:Sem Q5->zq->zq->Sem Q5×zq)(c:Sem Q5->zq->zq->Bool):cg:=Gf.add 122 (zZ [Q5,zj,zj] [Q5,zj] (λx=>c x.1 x.2.1 x.2.2.1) λx=>((g x.1 x.2.1 x.2.2.1).1,(g x.1 x.2.1 x.2.2.1).2,()))
theorem TF{g:Sem Q5->zq->zq->Sem Q5×zq}{c:Sem Q5->zq->zq->Bool}(h:FK 122 (zZ [Q5,zj,zj] [Q5,zj] (λx=>c x.1 x.2.1 x.2.2.1) λx=>((g x.1 x.2.1 x.2.2.1).1,(g x.1 x.2.1 x.2.2.1).2,()))):zw (Lo g c):=rc.add h
abbrev Yb:Nat->aP:=λj=>if j=10 then{slots:=[1,2,3,6,8,9],prom:=[(8,Q1 5,Q5)]}else if j=500004 then{slots:=[1,2,3,6,8,30],cut:=Q3}else if j=500006 then{slots:=[1,2,3,6,8,39],cut:=Q3}else if j=500008 then{slots:=[1,2,3,6,8],cut:=Q3}else{ }
inductive AE where
 |h500004 (i1:zq) (i2:zq) (b30:Bool) (z0:zo cpE) (z1:zo pF) (z2:zo pF)
 |h500006 (i1:zq) (i2:zq) (b39:Bool) (z0:zo cpE) (z1:zo pF) (z2:zo pF)
 |h500008 (i1:zq) (i2:Int) (z0:zo cpE) (z1:zo pF) (z2:zo pF)
 |h10 (i1:zq) (i2:Int) (i9:Int) (z0:zo cpE) (z1:zo pF) (z2:zo zpP)
abbrev Wf:AE->Nat×St
 |.h500004 i h b x a z=>(500004,⟨tm 88 [(1,ai i),(2,ai h),(3,ptr 0 0),(6,ptr 1 0),(8,ptr 2 0),(30,AV.bool b)],[Qa (bI [] cpE x),Qa (bI [] pF a),Qa (bI [] pF z)]⟩)
 |.h500006 i h c x a z=>(500006,⟨tm 88 [(1,ai i),(2,ai h),(3,ptr 0 0),(6,ptr 1 0),(8,ptr 2 0),(39,AV.bool c)],[Qa (bI [] cpE x),Qa (bI [] pF a),Qa (bI [] pF z)]⟩)
 |.h500008 i h x a z=>(500008,⟨tm 88 [(1,ai i),(2,ai h),(3,ptr 0 0),(6,ptr 1 0),(8,ptr 2 0)],[Qa (bI [] cpE x),Qa (bI [] pF a),Qa (bI [] pF z)]⟩)
 |.h10 i h d x a z=>(10,⟨tm 88 [(1,ai i),(2,ai h),(3,ptr 0 0),(6,ptr 1 0),(8,ptr 2 0),(9,ai d)],[Qa (bI [] cpE x),Qa (bI [] pF a),Qa (bI [3] zpP z),AO.vec Q5 z.t.2.1]⟩)
theorem zsT(g:Sem Q5->zq->zq->Sem Q5×zq)(c:Sem Q5->zq->zq->Bool):zM (Lo g c).P 122 Tryz.f122 3:=bL kw
def XC(_:Sem Q5->zq->zq->Sem Q5×zq)(_:Sem Q5->zq->zq->Bool)(x:Sem Q5)(b d:zq):Tr (AE⊕au):=
 let a:=Q0 ((↑(Io (za.s x)):Int)>20)
 let h:=((za.v x).1,(za.v x).2.1,(za.v x).2.2,za.s x,())
 br (Q0 ((↑(Io (za.op x)):Int)>8))
 (chk (Q0 (0<=0)&&Q0 (0<=8)&&Q0 (8<=(↑(Io (za.op x)):Int)))
  (Tr.to (AE.h500004 b d a (x,()) ([],0,0,[],[],()) (Qg (toNat 8-toNat 0) (Qh (toNat 0) (za.op x)),h))))
 (Tr.to (AE.h500004 b d a (x,()) ([],0,0,[],[],()) (za.op x,h)))
theorem zqF(g:Sem Q5->zq->zq->Sem Q5×zq)(c:Sem Q5->zq->zq->Bool)(x:Sem Q5)(h a:zq):rn (Lo g c) 0 Yb Tryz.f122 [zL Q5 x,zL zj h,zL zj a] []=(XC g c x h a).map (lf Tryz.f122 Wf):=kw
def wv(g:Sem Q5->zq->zq->Sem Q5×zq)(c:Sem Q5->zq->zq->Bool):AE->Tr (AE⊕au)
 | .h500004 i x m h a z=>
  let d:=(↑(Io z.t.1):Int)
  let b:=(↑(Io z.2.2.2.1):Int)
  let j:=Q0 (b>45)
  br m
  (chk (Q0 (0<=0)&&Q0 (0<=20)&&Q0 (20<=d)) (Tr.to (AE.h500006 i x j h a (z.1,z.2.1,z.2.2.1,z.2.2.2.1,Qg (toNat 20-toNat 0) (Qh (toNat 0) z.t.1),()))))
  (Tr.to (AE.h500006 i x j h a z))
 | .h500006 i x n h a z=>
  let d:=(↑(Io z.2.2.2.1):Int)
  let b:=Γ Δ (x-1)
  br n
  (chk (Q0 (0<=0)&&Q0 (0<=45)&&Q0 (45<=d)) (Tr.to (AE.h500008 i b h a (z.1,z.2.1,z.2.2.1,Qg (toNat 45-toNat 0) (Qh (toNat 0) z.2.2.2.1),z.t))))
  (Tr.to (AE.h500008 i b h a z))
 | .h500008 i x h a z=>
  Tr.to (AE.h10 i x 0 h a (z.1,z.2.1,z.2.2.1,z.2.2.2.1,z.t.1,[],()))
 | .h10 i x k h a z=>
  let d:=(↑(za.l h.1).length:Int)
  let b:=zr ((za.l h.1).getD k.toNat (zi Q5))
  let j:=Γ Δ (i-1)
  let o:=g b j x
  let p:=[zr o.1]
  br (cond (Q0 (k<d)) (cond (Q0 (k<3)) (cond (Q0 (i>0)) (Q0 (x>0)) Q4) Q4) Q4)
  (chk (zK k (za.l h.1).length) (chk (c b j x) (chk (Q0 (Io z.t.2.1+Io p<=1073741824)) (Tr.to (AE.h10 i o.2 (Γ Δ (k+1)) h a (z.1,z.2.1,z.2.2.1,z.2.2.2.1,z.t.1,z.t.2.1++p,()))))))
  (re (tup [agg [str z.1,ai z.2.1,ai z.2.2.1,str z.2.2.2.1,str z.t.1,AV.vec 0],ai x]) [AO.vec Q5 z.t.2.1])
theorem ztj(g:Sem Q5->zq->zq->Sem Q5×zq)(c:Sem Q5->zq->zq->Bool):∀s,run (Lo g c) 0 Yb (Func.results Tryz.f122).toList 400 (ab Tryz.f122 (Wf s).1) (Wf s).2=(wv g c s).map (lf Tryz.f122 Wf):=by intro s;cases s<;>kernel_rfl
def Lm(o:Option (zD (List.map Q1 [Q5,zj]))):Sem Q5×zq:=(λr:zD (List.map Q1 [Q5,zj])=>(r.1,r.2.1)) (o.getD (cA [Q5,zj]))
def zqd(g:Sem Q5->zq->zq->Sem Q5×zq)(c:Sem Q5->zq->zq->Bool)(x:Sem Q5)(h a:zq):Option (zD (List.map Q1 [Q5,zj])):=an [Q5,zj] (wv g c) 100000000 (XC g c x h a)
def pG:Nat->Sem Q5->zq->zq->Option (zD (List.map Q1 [Q5,zj]))
 |0=>λ_ _ _=>Q2
 |n+1=>zqd (λx h a=>Lm (pG n x h a)) λx h a=>(pG n x h a).isSome
theorem zkN:zM Gf.P 122 Tryz.f122 3:=bL kw
theorem Qz:∀n,FK 122 (zZ [Q5,zj,zj] [Q5,zj] (λx=>(pG n x.1 x.2.1 x.2.2.1).isSome) λx=>((Lm (pG n x.1 x.2.1 x.2.2.1)).1,(Lm (pG n x.1 x.2.1 x.2.2.1)).2,()))
 |0=>eI ⟨Tryz.f122,zkN.1,zkN.2.1,zkN.2.2.1⟩ (λ_=>rfl)
 |n+1=>lj (E:=Lo (λh a b=>Lm (pG n h a b)) (λh a b=>(pG n h a b).isSome)) (ks:=[Q5,zj,zj]) (outs:=[Q5,zj]) (keep:=Yb) (gas:=400) (n:=100000000) (e:=Wf) (t:=wv (λh a b=>Lm (pG n h a b)) (λh a b=>(pG n h a b).isSome)) (i:=λx=>XC (λh a b=>Lm (pG n h a b)) (λh a b=>(pG n h a b).isSome) x.1 x.2.1 x.2.2.1) (TF (Qz n)) (zsT _ _) (λx=>zqF _ _ x.1 x.2.1 x.2.2.1) (ztj _ _) (λ_=>by kernel_rfl) (λ_=>by kernel_rfl)
def AM(N:Nat)(e:Sem Q5)(d n:zq):Sem Q5×zq:=Lm (pG N e d n)
def LW(N:Nat)(e:Sem Q5)(d n:zq):Bool:=(pG N e d n).isSome
def F15:z8:=zZ [Q5,zj,zj] [Q5,zj] (λx=>LW 16 x.1 x.2.1 x.2.2.1) λx=>((AM 16 x.1 x.2.1 x.2.2.1).1,(AM 16 x.1 x.2.1 x.2.2.1).2,())
theorem zon:FK 122 F15:=Qz 16
def eqL(g:za->za->Bool):List za->List za->Bool
 |x::r,y::s=>if(!g x y)=Q3 then Q4 else eqL g r s
 |_,_=>Q3
def TV(g c:za->za->Bool):List za->List za->Bool
 |x::r,y::s=>if c x y=Q3 then(ite ((!g x y)=Q3) Q3 (TV g c r s))else Q4
 |_,_=>Q3
def TD(g c:za->za->Bool):cg:=Gf.add 177 (zZ [.expr,.expr] [.bool] (λx=>c x.1 x.2.1) (λx=>(g x.1 x.2.1,())))
variable {c d:za->za->Bool}
theorem CA(h:FK 177 (zZ [.expr,.expr] [.bool] (λx=>c x.1 x.2.1) (λx=>(d x.1 x.2.1,())))):zw (TD d c):=rc.add h
abbrev zrC:Nat->aP:=λj=>if j=4 then{slots:=[1,2,15,16,17]}else{ }
abbrev SC(x l:List za)(i h:Int):St:={tmps:=(tm 32 [(1,sl Q5 x),(2,AV.clo (Fn.func 177) [] []),(15,sl Q5 l),(16,ai i),(17,ai h)]),heap:=[]}
theorem zdv(g c:za->za->Bool):zM (TD g c).P 226 Tryz.f226 3:=bL kw
theorem zvf(g c:za->za->Bool)(l m:List za):rn (TD g c) 0 zrC Tryz.f226 [sl Q5 l,sl Q5 m,AV.clo (Fn.func 177) [] []] []=br ((↑l.length:Int)!=(↑m.length:Int)) (Tr.ok (zO.ret (kb Q4) [])) (Tr.ok (zO.head 4 (ab Tryz.f226 4) (SC m l (↑l.length:Int) 0))):=kw
theorem YV(g c:za->za->Bool)(x l:List za)(h i:Int):rh (TD g c) 0 zrC Tryz.f226 4 (SC x l h i)=let d:=l.getD i.toNat (zi Q5);let j:=x.getD i.toNat (zi Q5);let a:=zr j;let b:=zr d;br (Q0 (i<h)) (chk (zK i (Io l)) (chk (zK i (Io x)) (chk (c b a) (br (!g b a) (Tr.ok (zO.ret (kb Q4) [])) (Tr.ok (zO.head 4 (ab Tryz.f226 4) (SC x l h (Γ Δ (i+1))))))))) (Tr.ok (zO.ret (kb Q3) [])):=kw
theorem zt7(p:FK 177 (zZ [.expr,.expr] [.bool] (λx=>c x.1 x.2.1) (λx=>(d x.1 x.2.1,()))))(o:∀id,0<=id->C.ρ0 id=Q2)(l m:List za)(u:Io l=Io m)(v:Io l<=aI):
  ∀(k i:Nat),Io l-i=k->i<=Io l->TV d c (l.drop i) (m.drop i)=Q3->Reach (TD d c) C 226 (ab Tryz.f226 4) (SC m l (Io l) i) (λr h=>(r,h)=(.kb (eqL d (l.drop i) (m.drop i)),[])):=by
 intro k
 induction k with
 | zero=>
  intro i s q j;obtain rfl:i=Io l:=by omega
  refine zF (CA p) (zdv d c) o (YV d c _ _ _ _) ?_;simp only[zG,Tr.val_brF,jO];rfl
 | succ k I=>
  intro i s q j;have b:i<Io l:=by omega
  have a:i<Io m:=by omega
  refine zF (CA p) (zdv d c) o (YV d c _ _ _ _) ?_;rw[fR b,fR a]at j|-;rw[TV]at j;have g:=ru j;simp only[zI b,zx b,zx a,cO l _ b,cO m _ a,za.eta,Tr.val_brT,Tr.val_chkT,g.1,zu i ow];refine mX (λh=>?_) (λh=>?_)
  .rw[eqL,ze h];rfl
  .rw[eqL,zg (nG h)];have n:=g.2;rw[zg (nG h)]at n;exact I (i+1) ow ow n
def ON(g:za->za->Bool)(l m:List za):Bool:=if((↑l.length:Int)!=(↑m.length:Int))=Q3 then Q4 else eqL g l m
def Aa(g c:za->za->Bool)(l m:List za):Bool:=if((↑l.length:Int)!=(↑m.length:Int))=Q3 then Q3 else TV g c l m
def G50(g c:za->za->Bool):eX [Q1 (.sl .expr),Q1 (.sl .expr),Q2]:=λx h=>match x,h with
 |(l,m,.clo (.func 177) [] [],_),[]=>.chk (Aa g c l m) (.ok (.bool (ON g l m),[]))
 |_,_=>.err
def F50(g c:za->za->Bool):z8:=aS [Q1 (.sl .expr),Q1 (.sl .expr),Q2] (G50 g c)
theorem Reach.weaken{m:AV->List AO->Prop}(h:Reach E C fn x L Q)(B:∀r h,Q r h->∃d,m d h/\∀w U ρ v,Rv w U ρ r v->Rv w U ρ d v):Reach E C fn x L m:=by intro b p a w U ρ s u z y;obtain⟨e,D,q,⟨v,r,n,o,F,A,i,l,c⟩,g⟩:=h b p a w U ρ s u z y;obtain⟨d,j,k⟩:=B r n i;exact⟨e,D,q,⟨v,d,n,o,F,A,j,k _ _ _ _ l,c⟩,g⟩
theorem zoQ(i:FK 177 (zZ [.expr,.expr] [.bool] (λx=>c x.1 x.2.1) (λx=>(d x.1 x.2.1,())))):FK 226 (F50 d c):=by
 refine da (E:=TD d c) (zdv d c) λx p o a C g=>?_
 unfold G50 at a;split at a
 .rename_i l m u;simp only[Tr.val]at a;split at a
  .rename_i b;simp only[bg]at a;subst a;refine Reach.len 0 .expr l rfl λj=>?_
   refine Reach.weaken (Q:=λr h=>(r,h)=(.kb (ON d l m),[])) ?_ ?_
   .refine zF (n0:=0) (CA i) (zdv d c) g (zvf d c l m) ?_;unfold Aa at b;unfold ON;refine mX (λh=>?_) (λh=>?_)
    .rw[ze h];rfl
    .rw[zg (nG h)]at b|-;have:(Io l:Int)=Io m:=by simpa using h
     have:Io l=Io m:=by omega
     exact zt7 i g l m this j _ 0 rfl (aM _) b
   .rintro r h k;cases k;refine⟨_,rfl,λw U ρ v n=>?_⟩;cases n;exact .bool _
  .simp at a
 .simp at a
def zcE(g c:za->za->Bool):cg:=Gf.add 226 (F50 g c)
theorem Wl(h:FK 177 (zZ [.expr,.expr] [.bool] (λx=>c x.1 x.2.1) (λx=>(d x.1 x.2.1,())))):zw (zcE d c):=rc.add (zoQ h)
def eqV(a b:V):Bool:=a.1==b.1&&(a.2.1==b.2.1&&(a.2.2==b.2.2&&Q3))
def Nr(g:za->za->Bool)(a b:za):Bool:=bif a.op==b.op then bif eqV a.v b.v then bif a.s==b.s then ON g a.l b.l else Q4 else Q4 else Q4
def JX(g c:za->za->Bool)(a b:za):Bool:=bif a.op==b.op then bif eqV a.v b.v then bif a.s==b.s then Aa g c a.l b.l else Q3 else Q3 else Q3
theorem YM(g c:za->za->Bool):zM (zcE g c).P 177 Tryz.f177 2:=bL kw
theorem zuW(g c:za->za->Bool)(l m:za):rn (zcE g c) 0 (λ_=>{}) Tryz.f177 [zL Q5 l,zL Q5 m] []=chk (JX g c l m) (Tr.ok (zO.ret (AV.bool (Nr g l m)) [])):=kw
theorem zh3(a:FK 177 (zZ [.expr,.expr] [.bool] (λx=>c x.1 x.2.1) (λx=>(d x.1 x.2.1,())))):FK 177 (zZ [.expr,.expr] [.bool] (λx=>JX d c x.1 x.2.1) (λx=>(Nr d x.1 x.2.1,()))):=by
 refine aL (E:=zcE d c) (YM d c) λx b C h=>?_
 refine zF (n0:=0) (Wl a) (YM d c) (λid _=>h id) (zuW d c x.1 x.2.1) ?_;exact fw b rfl
mutual
def fK:Nat->za->za->Bool
 |0=>λ_ _=>Q4
 |n+1=>Nr (fK n)
def jB:Nat->za->za->Bool
 |0=>λ_ _=>Q4
 |n+1=>JX (fK n) (jB n)
end
theorem Vg:∀n,FK 177 (zZ [.expr,.expr] [.bool] (λx=>jB n x.1 x.2.1) (λx=>(fK n x.1 x.2.1,())))
 |0=>eI ⟨Tryz.f177,(YM (λ_ _=>Q4) (λ_ _=>Q4)).1,(YM (λ_ _=>Q4) (λ_ _=>Q4)).2.1,(YM (λ_ _=>Q4) (λ_ _=>Q4)).2.2.1⟩ (λ_=>rfl)
 |n+1=>zh3 (Vg n)
def F29:z8:=zZ [.expr,.expr] [.bool] (λx=>jB 16 x.1 x.2.1) (λx=>(fK 16 x.1 x.2.1,()))
theorem zox:FK 177 F29:=Vg 16
def QZ:=Gf.addL [(122,F15),(177,F29)]
theorem Gg:zw QZ:=rc.addL<|fc zon<|fc zox iH
def bu(v:V):Bool:=v.1==0&&(v.2.1==0&&(v.2.2==[]&&Q3))
def avB:AV->Option Bool
 |.bool b=>Q1 b
 |.kb b=>Q1 b
 |_=>Q2
theorem Reach.toBool{b:Bool}(h:Reach E C fn x L (λr h=>avB r=Q1 b/\h=z)):Reach E C fn x L (λr h=>(r,h)=(.bool b,z)):=by
 refine h.weaken λr g c=>?_
 obtain⟨a,rfl⟩:=c;refine⟨.bool b,rfl,λw U ρ v d=>?_⟩;cases r<;>simp[avB]at a<;>subst a<;>cases d<;>exact .bool _
def zjk(g:za->Int->Int->Bool×Int)(c:za->Int->Int->Bool):eX [Q2,Q1 .expr,Q1 zj]:=λx h=>match x,h with
 |(.ptr 0 0,e,d,_),[.box [.int .i64 n]]=>.chk (c e d n) (.ok (.bool (g e d n).1,[.box [.int .i64 (g e d n).2]]))
 |_,_=>.err
def NR(g:za->Int->Int->Bool×Int)(c:za->Int->Int->Bool):z8:=aS [Q2,Q1 .expr,Q1 zj] (zjk g c)
def TC(g:za->Int->Int->Bool×Int)(c:za->Int->Int->Bool):cg:=QZ.add 228 (NR g c)
variable {l:za->Int->Int->Bool×Int}{u:za->Int->Int->Bool}
theorem Cz(h:FK 228 (NR l u)):zw (TC l u):=Gg.add h
abbrev zrw:Nat->aP:=λj=>if j=12 then{slots:=[0,2,73,74,75]}else{ }
abbrev JS(x:Int)(l:LX)(i h j:Int):St:={tmps:=(tm 86 [(0,ptr 0 0),(2,ai x),(73,sl Q5 l),(74,ai i),(75,ai h)]),heap:=[Qa [ai j]]}
theorem YN(g:za->Int->Int->Bool×Int)(c:za->Int->Int->Bool):zM (TC g c).P 228 Tryz.f228 3:=bL kw
theorem zu2(g:za->Int->Int->Bool×Int)(c:za->Int->Int->Bool)(e:za)(d n:Int):rn (TC g c) 1 zrw Tryz.f228 [ptr 0 0,zL Q5 e,ai d] [Qa [ai n]]=let a:=Γ Δ (n+1);let h:=Tr.ok (zO.ret (kb Q4) [Qa [ai a]]);br (cond (Q0 (d>12)) Q3 (cond (Q0 (Γ Δ (n+1)>60)) Q3 ((↑e.l.length:Int)!=dp e.op))) h (br (e.op==ou) (Tr.ok (zO.ret (AV.bool (cond (e.s==[]) (bf e.v) Q4)) [Qa [ai a]])) (br (e.op==eL) (Tr.ok (zO.ret (AV.bool (cond (bu e.v) (cond (er e.s) (!jy e.s) Q4) Q4)) [Qa [ai a]])) (br (cond (!bu e.v) Q3 (!e.s==[])) h (Tr.ok (zO.head 12 (ab Tryz.f228 12) (JS d e.l (↑e.l.length:Int) 0 a)))))):=kw
theorem R2(g:za->Int->Int->Bool×Int)(c:za->Int->Int->Bool)(x:Int)(l:LX)(h i j:Int):rh (TC g c) 1 zrw Tryz.f228 12 (JS x l h i j)=let d:=l.getD i.toNat (zi Q5);let b:=zr d;let a:=g b (Γ Δ (x+1)) j;br (Q0 (i<h)) (chk (zK i (Io l)) (chk (c b (Γ Δ (x+1)) j) (br (!a.1) (Tr.ok (zO.ret (kb Q4) [Qa [ai a.2]])) (Tr.ok (zO.head 12 (ab Tryz.f228 12) (JS x l h (Γ Δ (i+1)) a.2)))))) (Tr.ok (zO.ret (kb Q3) [Qa [ai j]])):=kw
def pH(g:za->Int->Int->Bool×Int)(d:Int):List za->Int->Bool×Int
 |[],n=>(Q3,n)
 |x::r,n=>if(!(g x (Γ Δ (d+1)) n).1)=Q3 then(Q4,(g x (Γ Δ (d+1)) n).2)else pH g d r (g x (Γ Δ (d+1)) n).2
def Dz(g:za->Int->Int->Bool×Int)(c:za->Int->Int->Bool)(d:Int):List za->Int->Bool
 |[],_=>Q3
 |x::r,n=>if c x (Γ Δ (d+1)) n=Q3 then(ite ((!(g x (Γ Δ (d+1)) n).1)=Q3) Q3 (Dz g c d r (g x (Γ Δ (d+1)) n).2))else Q4
theorem zt6(m:FK 228 (NR l u))(j:∀id,1<=id->C.ρ0 id=Q2)(d:Int)(x:List za)(q:Io x<=aI):
  ∀(k i:Nat)(n:Int),Io x-i=k->i<=Io x->Dz l u d (x.drop i) n=Q3->Reach (TC l u) C 228 (ab Tryz.f228 12) (JS d x (Io x) i n) (λr h=>avB r=Q1 (pH l d (x.drop i) n).1/\h=[.box [.int .i64 (pH l d (x.drop i) n).2]]):=by
 intro k
 induction k with
 | zero=>
  intro i n p o c;obtain rfl:i=Io x:=by omega
  refine zF (Cz m) (YN l u) j (R2 l u _ _ _ _ _) ?_;simp only[zG,Tr.val_brF,jO];exact⟨rfl,rfl⟩
 | succ k I=>
  intro i n p o c;have a:i<Io x:=by omega
  refine zF (Cz m) (YN l u) j (R2 l u _ _ _ _ _) ?_;rw[fR a]at c|-;rw[Dz]at c;have b:=ru c;simp only[zI a,zx a,cO x _ a,za.eta,Tr.val_brT,Tr.val_chkT,b.1,zu i ow];refine mX (λh=>?_) (λh=>?_)
  .rw[pH,ze h];exact⟨rfl,rfl⟩
  .rw[pH,zg (nG h)];have g:=b.2;rw[zg (nG h)]at g;exact I (i+1) _ ow ow g
def AQ(g:za->Int->Int->Bool×Int)(e:za)(d n:Int):Bool×Int:=if(cond (Q0 (d>12)) Q3 (cond (Q0 (Γ Δ (n+1)>60)) Q3 ((↑e.l.length:Int)!=dp e.op)))=Q3 then(Q4,Γ Δ (n+1))else if(e.op==ou)=Q3 then(cond (e.s==[]) (bf e.v) Q4,Γ Δ (n+1))else if(e.op==eL)=Q3 then(cond (bu e.v) (cond (er e.s) (!jy e.s) Q4) Q4,Γ Δ (n+1))else if(cond (!bu e.v) Q3 (!e.s==[]))=Q3 then(Q4,Γ Δ (n+1))else pH g d e.l (Γ Δ (n+1))
def RL(g:za->Int->Int->Bool×Int)(c:za->Int->Int->Bool)(e:za)(d n:Int):Bool:=if(cond (Q0 (d>12)) Q3 (cond (Q0 (Γ Δ (n+1)>60)) Q3 ((↑e.l.length:Int)!=dp e.op)))=Q3 then Q3 else if(e.op==ou)=Q3 then Q3 else if(e.op==eL)=Q3 then Q3 else if(cond (!bu e.v) Q3 (!e.s==[]))=Q3 then Q3 else Dz g c d e.l (Γ Δ (n+1))
theorem zih{g:za->Int->Int->Bool×Int}(k:FK 228 (NR g u)):FK 228 (NR (AQ g) (RL g u)):=by
 refine da (E:=TC g u) (YN g u) λx p o a C j=>?_
 unfold zjk at a;split at a
 .rename_i e d h n;simp only[Tr.val]at a;split at a
  .rename_i c;simp only[bg]at a;subst a;refine Reach.toBool ?_;refine zF (n0:=1) (Cz k) (YN g u) j (zu2 g u e d n) ?_;generalize i:AQ g e d n=y;unfold AQ at i;unfold RL at c;repeat' (refine mX (λb=>?_) (λb=>?_)<;>first|(rw[ze b]at i c)|(rw[zg (nG b)]at i c))
   all_goals subst i
   .exact⟨rfl,rfl⟩
   .exact⟨rfl,rfl⟩
   .exact⟨rfl,rfl⟩
   .exact⟨rfl,rfl⟩
   .exact Reach.len 73 .expr e.l rfl λm=>zt6 k j d e.l m _ 0 _ rfl (aM _) c
  .simp at a
 .simp at a
mutual
def iy:Nat->za->Int->Int->Bool×Int
 |0=>λ_ _ _=>(Q4,0)
 |n+1=>AQ (iy n)
def vt:Nat->za->Int->Int->Bool
 |0=>λ_ _ _=>Q4
 |n+1=>RL (iy n) (vt n)
end
theorem Vh:∀n,FK 228 (NR (iy n) (vt n))
 | 0=>by
  have h:FK 228 (aS [Q2,Q1 .expr,Q1 zj] (λ_ _=>.err)):=da (YN (λ_ _ _=>(Q4,0)) (λ_ _ _=>Q4)) (E:=QZ) λx c b a=>by simp at a
  refine AU (ι:=Unit) (Gs:=λ_ _ _=>.err) (λ_=>h) λx c b a=>?_
  unfold zjk at a;split at a
  .simp[Tr.val,vt]at a
  .simp at a
 |n+1=>zih (Vh n)
def F37:z8:=NR (iy 16) (vt 16)
theorem zoC:FK 228 F37:=Vh 16
def Gh:=QZ.add 228 F37
theorem w9:zw Gh:=Gg.add zoC
end
end Cad
