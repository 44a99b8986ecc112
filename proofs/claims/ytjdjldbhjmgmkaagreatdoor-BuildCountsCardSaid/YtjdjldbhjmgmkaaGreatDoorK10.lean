/- Values. -/
import Derived.Test.YtjdjldbhjmgmkaaGreatDoorK08
namespace Cad
open Go Go.Proofs
open List renaming length→Io,drop→Qh,take→Qg
open IntKind renaming wrap→Γ,i64→Δ
open AO renaming box→Qa
open Sh renaming bool→Q7,str→Q6,expr→Q5
open Bool renaming false→Q4,true→Q3
open Option renaming none→Q2,some→Q1
open Decidable renaming decide→Q0
open Int (toNat)
open Tr (chk br)
open AV (nils agg tup ptr kb str sl)
noncomputable section
def ti(x h:zo):zo:=if(!fg x h)=Q3 then(0,0,[])else dL (Q0 (aV x h<0))
theorem zsl:zM sO.P 234 Tryz.f234 2:=bL kw
theorem zuY(x h:zo):rn sO 0 (λ_=>{ }) Tryz.f234 [zI zf x,zI zf h] []=br (!fg x h) (Tr.ok (zQ.ret (agg [ai 0,ai 0,str []]) [])) (Tr.ok (zQ.ret (agg [ai (dL (Q0 (aV x h<0))).1,ai (dL (Q0 (aV x h<0))).2.1,str (dL (Q0 (aV x h<0))).2.2]) [])):=kw
def F43:z8:=aN [zf,zf] [zf] λx=>(ti x.1 x.2.1,())
theorem zov:FK 234 F43:=by
 refine al zsl λx C h=>?_
 refine bg kR zsl (λid _=>h id) (zuY x.1 x.2.1) ?_;simp only[Tr.val,ti];repeat' split
 all_goals rfl
def FM(x:zo):zo:=if Q0 ((↑(Io x.2.2):Int)>60)=Q3 then(x.1,x.2.1,Qg (toNat 60-toNat 0) (Qh (toNat 0) x.2.2))else x
def NN(x:zo):Bool:=bif Q0 ((↑(Io x.2.2):Int)>60)then Q0 (0<=0)&&Q0 (0<=60)&&Q0 (60<=(↑(Io x.2.2):Int))else Q3
theorem zrZ:zM sO.P 41 Tryz.f41 1:=bL kw
theorem zuE(x:zo):rn sO 0 (λ_=>{ }) Tryz.f41 [zI zf x] []=br (Q0 ((↑(Io x.2.2):Int)>60)) (chk (Q0 (0<=0)&&Q0 (0<=60)&&Q0 (60<=(↑(Io x.2.2):Int))) (Tr.ok (zQ.ret (agg [ai x.1,ai x.2.1,str (Qg (toNat 60-toNat 0) (Qh (toNat 0) x.2.2))]) []))) (Tr.ok (zQ.ret (agg [ai x.1,ai x.2.1,str x.2.2]) [])):=kw
def F14:z8:=zY [zf] [zf] (λx=>NN x.1) λx=>(FM x.1,())
theorem zfk:FK 41 F14:=by
 refine aO zrZ λx a C h=>?_
 refine bg kR zrZ (λid _=>h id) (zuE x.1) ?_;simp only[NN,Bool.cond_eq_ite]at a;simp only[Tr.val,FM];repeat' split
 all_goals first|rfl|simp_all
def jy(x:Sem Q6):Sem Q6:=if Q0 ((↑(Io x):Int)>20)=Q3 then Qg (toNat 20-toNat 0) (Qh (toNat 0) x)else x
def SC(x:Sem Q6):Bool:=bif Q0 ((↑(Io x):Int)>20)then Q0 (0<=0)&&Q0 (0<=20)&&Q0 (20<=(↑(Io x):Int))else Q3
theorem zrY:zM sO.P 185 Tryz.f185 1:=bL kw
theorem zuD(x:Sem Q6):rn sO 0 (λ_=>{ }) Tryz.f185 [zI Q6 x] []=br (Q0 ((↑(Io x):Int)>20)) (chk (Q0 (0<=0)&&Q0 (0<=20)&&Q0 (20<=(↑(Io x):Int))) (Tr.ok (zQ.ret (str (Qg (toNat 20-toNat 0) (Qh (toNat 0) x))) []))) (Tr.ok (zQ.ret (str x) [])):=kw
def F12:z8:=zY [Q6] [Q6] (λx=>SC x.1) λx=>(jy x.1,())
theorem zfj:FK 185 F12:=by
 refine aO zrY λx a C h=>?_
 refine bg kR zrY (λid _=>h id) (zuD x.1) ?_;simp only[SC,Bool.cond_eq_ite]at a;simp only[Tr.val,jy];repeat' split
 all_goals first|rfl|simp_all
def F79:z8:=aW (List.replicate 2 Q2) (eJ sO Tryz.f311 (List.replicate 2 Q2))
theorem zo0:FK 311 F79:=bT _ kR (bL kw)
def F18:z8:=aW (List.replicate 2 Q2) (eJ sO Tryz.f109 (List.replicate 2 Q2))
theorem zod:FK 109 F18:=bT _ kR (bL kw)
def zfA:=sO.addL [(234,F43),(41,F14),(185,F12),(311,F79),(109,F18)]
theorem w6:zu zfA:=kR.addL<|fc zov<|fc zfk<|fc zfj<|fc zo0<|fc zod iw
open Go
def ul:(ks:List Sh)->zD (ks.map Q1++[Q2])->zD (ks.map Q1)×AV
 |[],x=>((),x.1)
 |_::ks,x=>((x.1,(ul ks x.2).1),(ul ks x.2).2)
theorem B5:∀(ks:List Sh)(x:zD (ks.map Q1++[Q2])),iV (ks.map Q1++[Q2]) x=iV (ks.map Q1) (ul ks x).1++[(ul ks x).2]
 |[],_=>rfl
 |s::ks,x=>congrArg (zI s x.1::·) (B5 ks x.2)
def XC(k:Nat):AV->Bool
 |.clo (.func j) [] []=>j==k
 |_=>Q4
variable {n:Nat}
theorem XD{F:AV}(h:XC n F=Q3):F=.clo (.func n) [] []:=by
 unfold XC at h;split at h
 .rw[bd]at h;rw[h]
 .cases h
abbrev U9(ks outs:List Sh):=Nat×(zD (ks.map Q1)->Bool)×(zD (ks.map Q1)->zD (outs.map Q1))
def zbK{ks outs:List Sh}(v:AV):List (U9 ks outs)->Option ((zD (ks.map Q1)->Bool)×(zD (ks.map Q1)->zD (outs.map Q1)))
 |[]=>Q2
 |(k,a)::r=>if XC k v then Q1 a else zbK v r
theorem K4{ks outs:List Sh}{F:AV}{a}:∀{l:List (U9 ks outs)},zbK F l=Q1 a->∃k,F=.clo (.func k) [] []/\(k,a)∈l
 |[],h=>by cases h
 | (k,b)::r,h=>by
  unfold zbK at h;split at h
  next d=>cases h;exact⟨k,XD d,pP ..⟩
  .obtain⟨j,x,c⟩:=K4 h;exact⟨j,x,mX _ c⟩
def R8(ks outs:List Sh)(l:List (U9 ks outs)):eW (ks.map Q1++[Q2]):=λx h=>match h with
 | []=>match zbK (ul ks x).2 l with
  |some (c,g)=>.chk (c (ul ks x).1) (.ok (Av outs (g (ul ks x).1),[]))
  |none=>.err
 |_=>.err
def Zb(ks outs:List Sh)(l:List (U9 ks outs)):z8:=aW (ks.map Q1++[Q2]) (R8 ks outs l)
variable {P:Program}{g:Nat->AV}{E:cd}{h:FuncId}{f:Func}{ks outs:List Sh}
theorem NW{l:List (U9 ks outs)}(n:zM E.P h f (Io ks+1))
  (b:∀j c a,(j,c,a)∈l->∀x,c x=Q3->∀C:ew,(∀id,C.ρ0 id=Q2)->Reach E C h (bq f) (aY f.ntmps (iV (ks.map Q1) x++[.clo (.func j) [] []]) []) (λr b=>aS b outs r=Q1 (a x))) (s:E.P=P:=by rfl) (q:E.gl=g:=by rfl):oh P g h (Zb ks outs l):=by
 subst s q;refine dc (by simpa using n) λx v u d C k=>?_
 unfold R8 at d;split at d
 .split at d
  .rename_i c a i;obtain⟨j,p,o⟩:=K4 i;simp only[Tr.val]at d;split at d
   next m=>simp only[bj]at d;subst d;rw[B5,p];exact Reach.plain (λid=>k id (by simp)) (b j c a o _ m C (λid=>k id (by simp)))
   .simp at d
  .simp at d
 .simp at d
inductive CP where
 |d (s:Sh)
 |nil
 |vec (e:Sh)
@[reducible] def zn:List CP->Type
 |[]=>Unit
 |.d s::r=>Sem s×zn r
 |.nil::r=>zn r
 |.vec e::r=>List (Sem e)×zn r
def eZ:(n:Nat)->(p:List CP)->zn p->List AV
 |_,[],_=>[]
 |n,.d s::r,y=>zx s y.1++eZ n r y.2
 |n,.nil::r,y=>.nils::eZ n r y
 |n,.vec _::r,y=>.vec n::eZ (n+1) r y.2
def gM:(p:List CP)->zn p->List AO
 |[],_=>[]
 |.d _::r,y=>gM r y.2
 |.nil::r,y=>gM r y
 |.vec e::r,y=>.vec e y.1::gM r y.2
def aB(ps:List CP)(y:zn ps):List AO:=.box (eZ 1 ps y)::gM ps y
def bl:List CP->Nat
 |[]=>0
 |.vec _::r=>bl r+1
 |_::r=>bl r
theorem ch:∀(p:List CP)(y:zn p),(gM p y).length=bl p
 |[],_=>rfl
 |.d _::r,y=>ch r y.2
 |.nil::r,y=>ch r y
 |.vec _::r,y=>congrArg (·+1) (ch r y.2)
def cO(hp:Nat->AO):(n:Nat)->(p:List CP)->List AV->Option (zn p)
 |_,[],[]=>Q1 ()
 | n,.d s::r,cs=>match dh (fun _=>.dead) s cs with
  | some (x,cs')=>match cO hp n r cs' with
   |some y=>Q1 (x,y)
   |none=>Q2
  |none=>Q2
 |n,.nil::r,.nils::cs=>cO hp n r cs
 | n,.vec e::r,.vec id::cs=>if id=n then match hp id with
   | .vec a l=>if h:a=e then match cO hp (n+1) r cs with
     |some y=>Q1 (h▸l,y)
     |none=>Q2
    else Q2
   |_=>Q2
  else Q2
 |_,_,_=>Q2
section
variable {w:World} {U:Nat->Prop} {ρ:Nat->Option Value}
variable {m:List AV}{A:List Value}
theorem dg.app{H:List AV}{g:List Value}(h:dg w U ρ m A)(b:dg w U ρ H g):dg w U ρ (m++H) (A++g) where
 len:=by simp[h.len,b.len]
 rv:=by
  intro j c v x a;by_cases d:j<Io m
  .rw[kC d]at x;rw[kC (by rw[<-h.len];exact d)]at a;exact h.rv j c v x a
  .rw[jd ow]at x;rw[jd (by rw[<-h.len];omega),<-h.len]at a;exact b.rv _ c v x a
variable {O:Value}
theorem dg.tail{F:AV}(h:dg w U ρ (F::m) (O::A)):dg w U ρ m A:=
 ⟨by have:=h.len;simpa using this,λj c x a b=>h.rv (j+1) c x (by simpa using a) (by simpa using b)⟩
theorem dg.consH{F:AV}(d:Rv w U ρ F O)(b:dg w U ρ m A):dg w U ρ (F::m) (O::A) where
 len:=by simp[b.len]
 rv:=by
  intro j c x h a;cases j with
  |zero=>simp at h a;subst h;subst a;exact d
  |succ j=>exact b.rv j c x (by simpa using h) (by simpa using a)
theorem fQ{hp:Nat->AO}:∀(B:List CP)(n:Nat)(cs:List AV)(y:zn B)(a:List Value),cO hp n B cs=Q1 y->dg w U ρ cs a->
  dg w U ρ (eZ n B y) a/\∀(j:Nat) o,(gM B y)[j]?=Q1 o->hp (n+j)=o
 |[],n,[],y,a,h,g=>⟨g,by simp[gM]⟩
 |[],n,_::_,y,a,h,g=>by simp[cO]at h
 | .d s::r,n,cs,y,a,h,g=>by
  unfold cO at h;split at h
  .rename_i x cs' J;split at h
   .rename_i F D;cases h
    have L:=oF (w:=w) (U:=U) (U':=U) (ρ:=ρ) (hp:=λ_=>.dead) (λ_ h=>h) s cs x cs' (λj=>a.getD j undef) J
     (λj c k=>by
      have u:j<Io a:=by rw[<-g.len];exact(cR.1 k).1
      have:=g.rv j c a[j] k (zZ u);simpa[List.getD,zZ u]using this)
     (λid _=>⟨trivial,λb H=>by simp[af,AO.owns]at H⟩)
    obtain⟨P,G,N⟩:=L;have m:dg w U ρ cs' (a.drop s.size):=by
     refine⟨by rw[G];simp[g.len],λj c v k i=>?_⟩;rw[G,BX]at k;rw[BX]at i;exact g.rv _ c v k i
    obtain⟨z,A⟩:=fQ r n cs' F (a.drop s.size) D m;refine⟨?_,A⟩;have p:dg w U ρ (zx s x) (a.take s.size):=by
     refine⟨by rw[ag];have:=g.len;simp;omega,λj c v k i=>?_⟩;have q:j<s.size:=by rw[<-ag s x];exact(cR.1 k).1
     rw[List.getElem?_take,ze q]at i;have:=N j c k;simpa[List.getD,i]using this
    have:=p.app z;rw[List.take_append_drop]at this;exact this
   .cases h
  .cases h
 | .nil::r,n,.nils::cs,y,a,h,g=>by
  match a,g with
  |[],g=>have:=g.len;simp at this
  | v::vs,g=>
   have i:=g.rv 0 _ v rfl rfl;obtain⟨z,A⟩:=fQ r n cs y vs h g.tail;exact⟨dg.consH i z,A⟩
 | .vec e::r,n,.vec id::cs,y,a,h,g=>by
  match a,g with
  |[],g=>have:=g.len;simp at this
  | v :: vs,g=>
   have i:=g.rv 0 _ v rfl rfl;unfold cO at h;split at h
   .rename_i C;subst C;split at h
    .rename_i O l M;split at h
     .rename_i I;subst I;split at h
      .rename_i F D;cases h;obtain⟨z,A⟩:=fQ r (id+1) cs F vs D g.tail;refine⟨dg.consH i z,λj o q=>?_⟩;cases j with
       |zero=>simp[gM]at q;subst q;exact M
       | succ j=>
        have:=A j o (by simpa[gM]using q);rw[<-this];congr 1;omega
      .cases h
     .cases h
    .cases h
   .cases h
 |.nil::_,_,[],_,_,h,_=>by simp[cO]at h
 |.vec _::_,_,[],_,_,h,_=>by simp[cO]at h
 |.nil::_,_,.any::_,_,_,h,_|.nil::_,_,.kb _::_,_,_,h,_|.nil::_,_,.bool _::_,_,_,h,_|.nil::_,_,.int _ _::_,_,_,h,_|.nil::_,_,.str _::_,_,_,h,_
 |.nil::_,_,.sl _ _::_,_,_,h,_|.nil::_,_,.vec _::_,_,_,h,_|.nil::_,_,.ptr _ _::_,_,_,h,_|.nil::_,_,.vptr _ _ _ _::_,_,_,h,_|.nil::_,_,.eptr _ _::_,_,_,h,_
 |.nil::_,_,.nilp::_,_,_,h,_|.nil::_,_,.agg _::_,_,_,h,_|.nil::_,_,.tup _::_,_,_,h,_|.nil::_,_,.clo _ _ _::_,_,_,h,_|.nil::_,_,.nilf::_,_,_,h,_
 |.nil::_,_,.mp _::_,_,_,h,_|.nil::_,_,.ifc _::_,_,_,h,_|.nil::_,_,.tab _ _::_,_,_,h,_|.nil::_,_,.gint::_,_,_,h,_=>by simp[cO]at h
 |.vec _::_,_,.any::_,_,_,h,_|.vec _::_,_,.kb _::_,_,_,h,_|.vec _::_,_,.bool _::_,_,_,h,_|.vec _::_,_,.int _ _::_,_,_,h,_|.vec _::_,_,.str _::_,_,_,h,_
 |.vec _::_,_,.sl _ _::_,_,_,h,_|.vec _::_,_,.nils::_,_,_,h,_|.vec _::_,_,.ptr _ _::_,_,_,h,_|.vec _::_,_,.vptr _ _ _ _::_,_,_,h,_|.vec _::_,_,.eptr _ _::_,_,_,h,_
 |.vec _::_,_,.nilp::_,_,_,h,_|.vec _::_,_,.agg _::_,_,_,h,_|.vec _::_,_,.tup _::_,_,_,h,_|.vec _::_,_,.clo _ _ _::_,_,_,h,_|.vec _::_,_,.nilf::_,_,_,h,_
 |.vec _::_,_,.mp _::_,_,_,h,_|.vec _::_,_,.ifc _::_,_,_,h,_|.vec _::_,_,.tab _ _::_,_,_,h,_|.vec _::_,_,.gint::_,_,_,h,_=>by simp[cO]at h
end
variable {C:ew}{w:World}{U:Nat->Prop}{ρ:Nat->Option Value}{cs:List AV}{os:List AO}{p:List CP}
theorem gK.box{y:zn p}(g:gK C w U ρ (λj=>((Qa cs::os).getD j .dead)))(I:Io os=bl p)
  (D:cO (kj (.box cs::os)) 1 p cs=Q1 y):gK C w U ρ (λj=>(aB p y).getD j .dead):=by
 have m:bm w U ρ 0 (.box cs):=g.ob 0;obtain⟨b,T,c,n,q,s,u,z⟩:=m;obtain⟨G,H⟩:=fQ p 1 cs y c.toList D u;have a:∀id,id≠0->(aB p y).getD id .dead=(Qa cs::os).getD id .dead:=by
  intro id h;obtain⟨j,rfl⟩:∃j,id=j+1:=⟨id-1,ow⟩;by_cases i:j<(gM p y).length
  .have:=H j _ (zZ i);unfold aB;simp only[BW];rw[aZ,zZ i];simp only[kj,kd 1 j,BW]at this;simpa using this.symm
  .have A:Io os<=j:=by rw[ch]at i;omega
   unfold aB;simp only[BW];rw[aZ,aZ,eX ow,eX A]
 have x:∀id b,af ρ id ((aB p y).getD id .dead) b->af ρ id ((Qa cs::os).getD id .dead) b:=by
  intro id d ho;by_cases h:id=0
  .subst h;obtain⟨_,v,F,B⟩:=ho;exact⟨rfl,v,F,B⟩
  .rw[a id h]at ho;exact ho
 refine⟨λid=>?_,λk l d o1 o2=>g.inj k l d (x _ _ o1) (x _ _ o2),λid d o=>g.blk id d (x _ _ o)⟩;by_cases h:id=0
 .subst h;exact⟨b,T,c,n,q,s,G,z⟩
 .show bm w U ρ id ((aB p y).getD id .dead);rw[a id h];exact g.ob id
def tv(p:List CP)(outs:List Sh)(r:AV)(h:List AO):Option (zD (outs.map Q1)×zn p):=match h with
 | .box c::os=>if Io os=bl p then match aS [] outs r,cO (kj (.box c::os)) 1 p c with
   |some a,Q1 y=>Q1 (a,y)
   |_,_=>Q2
  else Q2
 |_=>Q2
def zpA(a:List CP)(ks outs:List Sh)(p:List CP)(c:zn a->zD (ks.map Q1)->Bool)(g:zn a->zD (ks.map Q1)->zD (outs.map Q1)×zn p):eW (Q2::ks.map Q1):=λx h=>match x.1,h with
 | .ptr 0 0,.box b::os=>if Io os=bl a then match cO (kj (.box b::os)) 1 a b with
   |some y=>.chk (c y x.2) (.ok (Av outs (g y x.2).1,aB p (g y x.2).2))
   |none=>.err
  else .err
 |_,_=>.err
def sC(ps:List CP)(ks outs:List Sh)(p:List CP)(c:zn ps->zD (ks.map Q1)->Bool)(g:zn ps->zD (ks.map Q1)->zD (outs.map Q1)×zn p):z8:=aW (Q2::ks.map Q1) (zpA ps ks outs p c g)
theorem sN(p:List CP)(y:zn p):(aB p y).length=bl p+1:=by simp[aB,ch]
theorem HK{r:AV}{y:zD (outs.map Q1)}{O:Value}(h:aS [] outs r=Q1 y)(j:Rv w U ρ r O):Rv w U ρ (Av outs y) O:=by
 have g:∀id,bm w U ρ id (kj [] id)/\∀b,af ρ id (kj [] id) b->¬U b:=λid=>⟨by simp[kj,bm],λb d=>by simp[kj,af,AO.owns]at d⟩
 have a:∀(outs:List Sh)(y:zD (outs.map Q1))(c:List AV),mr (kj []) (λi=>i) (outs.map Q1) c=Q1 y->Rv w U ρ (.tup c) O->Rv w U ρ (.tup (iV (outs.map Q1) y)) O:=by
  intro outs y c o l;cases l with
  |tup _ v m k=>
  have:=(jS (w:=w) (U:=U) (ρ:=ρ) (U':=U) (ρ':=ρ) (hp:=kj []) (f:=λi=>i) (λb d=>d) (outs.map Q1) c v _ (qq outs c y o) ⟨m,k⟩ (λid _=>g id)
   (λid _=>rfl)).1
  simp only[nf,uz,zE,zp,List.map_id']at this;exact .tup _ v this.len this.rv
 match outs,y,h with
 | [s],y,h=>
  simp only[aS]at h;split at h
  next x n=>cases h;exact Ck n j (λb d=>d) (λid _=>g id)
  .cases h
 | [],y,h=>
  simp only[aS]at h;cases r with
  |tup c=>exact a [] y _ h j
  |_=>cases h
 | p::s2::ss,y,h=>
  simp only[aS]at h;cases r with
  |tup c=>exact a _ y _ h j
  |_=>cases h
variable {q:List CP}
theorem zbz{c:zn p->zD (ks.map some)->Bool}{d:zn p->zD (ks.map some)->zD (outs.map some)×zn q}(hf:zM E.P h f (Io ks+1))
  (i:∀y x,c y x=Q3->∀C:ew,(∀id,bl p+1<=id->C.ρ0 id=Q2)->Reach E C h (bq f) (aY f.ntmps (.ptr 0 0::iV (ks.map Q1) x) (aB p y)) (λr i=>tv q outs r i=Q1 (d y x))) (qp:E.P=P:=by rfl) (qg:E.gl=g:=by rfl):
  oh P g h (sC p ks outs q c d):=by
 subst qp qg;refine dc (by simpa using hf) λx h0 h4 l C X=>?_
 obtain⟨x0,x⟩:=x;unfold zpA at l;simp only at l;split at l
 .rename_i N os;split at l
  .rename_i s;split at l
   .rename_i y hy;simp only[Tr.val]at l;split at l
    .rename_i hc;simp only[bj]at l;subst l;have Z:=i y x hc C (λid k=>X id (by simpa[s]using k));intro b A a w U ρ T W m hW;have Y:gK C w U ρ (λj=>((Qa N::os).getD j .dead)):=m.hp
     have u:Cn C (aY f.ntmps (.ptr 0 0::iV (ks.map Q1) x) (aB p y)) a w U ρ:=
      ⟨m.tm,Y.box s hy,λid k=>m.new id (by have k:(aB p y).length<=id:=k;rw[sN]at k;simpa[aY,s]using k),m.df,m.r0⟩
     obtain⟨e,w',S,⟨v,r,h',M,ρ',he,n,J,B,z,I,D⟩,G,H,hl⟩:=Z b A a w U ρ T W u hW;unfold tv at n;split at n
     .rename_i O h3;split at n
      .rename_i o;split at n
       next a' y' F L=>simp only[bj]at n;refine⟨e,w',S,⟨v,_,_,M,ρ',he,by rw[<-n],HK F J,B.box o L,λid k=>z id (by rw[sN]at k;simpa[o]using k),I,D⟩,G,H,hl⟩
       .cases n
      .cases n
     .cases n
    .simp at l
   .simp at l
  .simp at l
 .simp at l
def vq(E:cd)(n0:Nat)(keep:Nat->aT)(f:Func)(gas:Nat):Nat->List Item->St->Option (AV×List AO)
 |0,_,_=>Q2
 | n+1,K,a=>match (run E n0 keep f.results.toList gas K a).val with
  |some (.ret v h)=>Q1 (v,h)
  |some (.head _ x s)=>vq E n0 keep f gas n x s
  |_=>Q2
theorem lC{E:cd}{C:ew}{h:FuncId}{f:Func}{Q:AV->List AO->Prop}{n n0:Nat}(c:zu E)(d:zM E.P h f n)(b:∀id,n0<=id->C.ρ0 id=Q2){keep:Nat->aT}{gas:Nat}:
  ∀(a:Nat)(K:List Item)(s:St)(r:AV×List AO),vq E n0 keep f gas a K s=Q1 r->Q r.1 r.2->Reach E C h K s Q
 |0,_,_,_,x,_=>by cases x
 | a+1,K,s,r,x,k=>by
  unfold vq at x;split at x
  next v m g=>cases x;exact nP c d b g k
  next j l i g=>exact nP c d b g (lC c d b a l i r x k)
  .cases x
def cA:(outs:List Sh)->zD (outs.map Q1)
 |[]=>()
 |s::r=>(zi s,cA r)
def fR:(ps:List CP)->zn ps
 |[]=>()
 |.d s::r=>(zi s,fR r)
 |.nil::r=>fR r
 |.vec _::r=>([],fR r)
def bI:List Nat->(p:List CP)->zn p->List AV
 |_,[],_=>[]
 |n,.d s::r,y=>zx s y.1++bI n r y.2
 |n,.nil::r,y=>.nils::bI n r y
 |n,.vec _::r,y=>.vec (n.headD 0)::bI n.tail r y.2
def itO(E:cd)(keep:Nat->aT)(f:Func)(gas n:Nat)(ks outs:List Sh)(x:zD (ks.map Q1)):Option (zD (outs.map Q1)):=
 (vq E 0 keep f gas n (bq f) (aY f.ntmps (iV (ks.map Q1) x) [])).bind λr=>aS r.2 outs r.1
def Pv(ks outs:List Sh)(g:zD (ks.map Q1)->Option (zD (outs.map Q1))):z8:=zY ks outs (λx=>(g x).isSome) λx=>(g x).getD (cA outs)
variable {keep:Nat->aT}{gas:Nat}
theorem zi3{c:Nat}(l:zu E)(d:zM E.P h f (Io ks))(m:E.P=P:=by rfl)(q:E.gl=g:=by rfl):oh P g h (Pv ks outs (itO E keep f gas c ks outs)):=by
 subst m q;refine aO d λx b C k=>?_
 rw[Option.isSome_iff_exists]at b;obtain⟨y,a⟩:=b;rw[a];unfold itO at a;rw[fN]at a;obtain⟨r,i,j⟩:=a;exact lC l d (λid _=>k id) c _ _ r i j
def itB(E:cd)(keep:Nat->aT)(f:Func)(gas n:Nat)(h:List CP)(ks outs:List Sh)(p:List CP)(y:zn h)(x:zD (ks.map Q1)):Option (zD (outs.map Q1)×zn p):=
 (vq E (bl h+1) keep f gas n (bq f) (aY f.ntmps (.ptr 0 0::iV (ks.map Q1) x) (aB h y))).bind λr=>tv p outs r.1 r.2
def ztW(h:List CP)(ks outs:List Sh)(p:List CP)(g:zn h->zD (ks.map Q1)->Option (zD (outs.map Q1)×zn p)):z8:=
 sC h ks outs p (λy x=>(g y x).isSome) λy x=>(g y x).getD (cA outs,fR p)
theorem zbA{c:Nat}(l:zu E)(d:zM E.P h f (Io ks+1))(n:E.P=P:=by rfl)(m:E.gl=g:=by rfl):oh P g h (ztW p ks outs q (itB E keep f gas c p ks outs q)):=by
 subst n m;refine zbz d λy x b C k=>?_
 rw[Option.isSome_iff_exists]at b;obtain⟨z,a⟩:=b;rw[a];unfold itB at a;rw[fN]at a;obtain⟨r,i,j⟩:=a;exact lC l d k c _ _ r i j
theorem NX{a:zD (ks.map Q1)->Option (zD (outs.map Q1))}{c:zD (ks.map Q1)->Bool}{i:zD (ks.map Q1)->zD (outs.map Q1)}(b:oh P g h (Pv ks outs a))(k:∀x,c x=Q3->a x=Q1 (i x)):oh P g h (zY ks outs c i):=by
 refine AS (ι:=Unit) (Gs:=λ_=>fH ks outs (λx=>(a x).isSome) λx=>(a x).getD (cA outs)) (λ_=>b) λx m l d=>⟨(),?_⟩
 unfold fH at d|-;split at d
 .simp only[Tr.val]at d|-;split at d
  next j=>simp only[k x j,fE,zh,bM];exact d
  .simp at d
 .simp at d
theorem ii{a:zD (ks.map Q1)->Option (zD (outs.map Q1))}{c:zD (ks.map Q1)->zD (outs.map Q1)}(b:oh P g h (Pv ks outs a))(d:∀x,a x=Q1 (c x)):oh P g h (aN ks outs c):=
 Qy (NX b λx _=>d x)
theorem zbB{c:zD (ks.map Q1)->Bool}{a:zD (ks.map Q1)->zD (outs.map Q1)}(b:zu E)(i:zM E.P h f (Io ks))
  (d:∀x,c x=(itO E keep f gas n ks outs x).isSome) (j:∀x,a x=(itO E keep f gas n ks outs x).getD (cA outs)) (k:E.P=P:=by rfl) (q:E.gl=g:=by rfl):oh P g h (zY ks outs c a):=by
 subst k q;obtain rfl:c=λx=>(itO E keep f gas n ks outs x).isSome:=funext d
 obtain rfl:a=λx=>(itO E keep f gas n ks outs x).getD (cA outs):=funext j
 exact zi3 b i
theorem Vm{c:zn p->zD (ks.map Q1)->Bool}{a:zn p->zD (ks.map Q1)->zD (outs.map Q1)×zn q}(b:zu E)(i:zM E.P h f (Io ks+1))
  (d:∀y x,c y x=(itB E keep f gas n p ks outs q y x).isSome) (j:∀y x,a y x=(itB E keep f gas n p ks outs q y x).getD (cA outs,fR q)) (l:E.P=P:=by rfl) (k:E.gl=g:=by rfl):oh P g h (sC p ks outs q c a):=by
 subst l k;obtain rfl:c=λy x=>(itB E keep f gas n p ks outs q y x).isSome:=funext λy=>funext λx=>d y x
 obtain rfl:a=λy x=>(itB E keep f gas n p ks outs q y x).getD (cA outs,fR q):=funext λy=>funext λx=>j y x
 exact zbA b i
abbrev aw:=AV×List AO
variable {α:Type}
def Tr.map{β:Type}(f:α->β):Tr α->Tr β
 |.err=>.err
 |.chk c t=>.chk c (t.map f)
 |.br c t e=>.br c (t.map f) (e.map f)
 |.ok a=>.ok (f a)
theorem Tr.val_map{α β:Type}(f:α->β):∀t:Tr α,(t.map f).val=t.val.map f
 |.err=>rfl
 |.chk c t=>by simp only[Tr.map,Tr.val,val_map f t];split<;>rfl
 |.br c t e=>by simp only[Tr.map,Tr.val,val_map f t,val_map f e];split<;>rfl
 |.ok _=>rfl
variable {σ:Type}
abbrev Tr.to(s:σ):Tr (σ⊕aw):=.ok (.inl s)
abbrev Tr.re(v:AV)(h:List AO):Tr (σ⊕aw):=.ok (.inr (v,h))
def dv{σ:Type}(t:σ->Tr (σ⊕aw)):Nat->σ->Option aw
 |0,_=>Q2
 | n+1,s=>match (t s).val with
  |some (.inl h)=>dv t n h
  |some (.inr r)=>Q1 r
  |none=>Q2
def bR(t:σ->Tr (σ⊕aw))(n:Nat)(i:Tr (σ⊕aw)):Option aw:=match i.val with
 |some (.inl s)=>dv t n s
 |some (.inr r)=>Q1 r
 |none=>Q2
def lf(f:Func)(e:σ->Nat×St):σ⊕aw->zQ
 |.inl s=>.head (e s).1 (aa f (e s).1) (e s).2
 |.inr r=>.ret r.1 r.2
def e0:Empty->Nat×St:=λx=>nomatch x
def t0:Empty->Tr (Empty⊕aw):=λx=>nomatch x
section
variable {σ:Type} {E:cd} {n0:Nat} {keep:Nat->aT} {f:Func} {gas:Nat} {e:σ->Nat×St} {t:σ->Tr (σ⊕aw)}
theorem RA(h:∀s,run E n0 keep f.results.toList gas (aa f (e s).1) (e s).2=(t s).map (lf f e)):∀(n:Nat)(s:σ),vq E n0 keep f gas n (aa f (e s).1) (e s).2=dv t n s
 |0,_=>rfl
 | n+1,s=>by
  rw[vq,h s,Tr.val_map,dv];cases(t s).val with
  |none=>rfl
  | some l=>
   cases l with
   |inl x=>exact RA h n x
   |inr r=>rfl
theorem jq(x:∀s,run E n0 keep f.results.toList gas (aa f (e s).1) (e s).2=(t s).map (lf f e)){K:List Item}{L:St}{v:Tr (σ⊕aw)}(h:run E n0 keep f.results.toList gas K L=v.map (lf f e))(n:Nat):vq E n0 keep f gas (n+1) K L=bR t n v:=by
 rw[vq,h,Tr.val_map,bR];cases v.val with
 |none=>rfl
 | some l=>
  cases l with
  |inl s=>exact RA x n s
  |inr r=>rfl
end
def ao(outs:List Sh)(t:σ->Tr (σ⊕aw))(n:Nat)(i:Tr (σ⊕aw)):Option (zD (outs.map Q1)):=(bR t n i).bind λr=>aS r.2 outs r.1
theorem lg{e:σ->Nat×St}{t:σ->Tr (σ⊕aw)}{i:zD (ks.map Q1)->Tr (σ⊕aw)}{c:zD (ks.map Q1)->Bool}{a:zD (ks.map Q1)->zD (outs.map Q1)}
  (k:zu E) (m:zM E.P h f (Io ks)) (d:∀x,run E 0 keep f.results.toList gas (bq f) (aY f.ntmps (iV (ks.map Q1) x) [])=(i x).map (lf f e))
  (j:∀s,run E 0 keep f.results.toList gas (aa f (e s).1) (e s).2=(t s).map (lf f e))
  (l:∀x,c x=(ao outs t n (i x)).isSome) (o:∀x,a x=(ao outs t n (i x)).getD (cA outs)) (p:E.P=P:=by rfl) (q:E.gl=g:=by rfl):oh P g h (zY ks outs c a):=by
 subst p q;have b:∀x,itO E keep f gas (n+1) ks outs x=ao outs t n (i x):=by
  intro x;unfold itO ao;rw[jq j (d x)]
 exact zbB (n:=n+1) k m (λx=>by rw[b,l]) (λx=>by rw[b,o])
variable {K:List Item}{L:St}
theorem JT{m n0:Nat}{e:σ->Nat×St}{t:σ->Tr (σ⊕aw)}{i:Tr (σ⊕aw)}{y:zD (outs.map Q1)}(j:zu E)(k:zM E.P h f m)(g:∀id,n0<=id->C.ρ0 id=Q2)
  (a:run E n0 keep f.results.toList gas K L=i.map (lf f e)) (b:∀s,run E n0 keep f.results.toList gas (aa f (e s).1) (e s).2=(t s).map (lf f e)) (x:ao outs t n i=Q1 y):Reach E C h K L (λr x=>aS x outs r=Q1 y):=by unfold ao at x;rw[fN]at x;obtain⟨r,c,d⟩:=x;rw[<-jq b a n]at c;exact lC j k g (n+1) _ _ r c d
abbrev k0:Nat->aT:=λ_=>{ }
abbrev kl:List (Nat×List Nat)->Nat->aT
 |[],_=>{ }
 |p::r,j=>if j=p.1 then{slots:=p.2}else kl r j
def o1{a:Sh}(o:Option (zD [Q1 a])):Sem a:=(o.getD (cA [a])).1
def o2{a b:Sh}(o:Option (zD [Q1 a,Q1 b])):Sem a×Sem b:=((o.getD (cA [a,b])).1,(o.getD (cA [a,b])).2.1)
def o3{M b c:Sh}(o:Option (zD [Q1 M,Q1 b,Q1 c])):Sem M×Sem b×Sem c:=((o.getD (cA [M,b,c])).1,(o.getD (cA [M,b,c])).2.1,(o.getD (cA [M,b,c])).2.2.1)
def FT(ks outs:List Sh)(o:zD (ks.map Q1)->Option (zD (outs.map Q1))):z8:=zY ks outs (λx=>(o x).isSome) λx=>(o x).getD (cA outs)
theorem zu.T1{e:σ->Nat×St}{t:σ->Tr (σ⊕aw)}{i:zD (ks.map Q1)->Tr (σ⊕aw)}(c:zu E)(gas:Nat:=400)
  (d:(E.P.funcs[h]?,f.name=="runtime.NumGoroutine",f.body.isNone,Q0 (ks.length<=f.ntmps))=(Q1 f,Q4,Q4,Q3):=by kernel_rfl)
  (a:∀x,run E 0 keep f.results.toList gas (bq f) (aY f.ntmps (iV (ks.map Q1) x) [])=(i x).map (lf f e):=by intro x;kernel_rfl)
  (b:∀s,run E 0 keep f.results.toList gas (aa f (e s).1) (e s).2=(t s).map (lf f e):=by intro s;cases s<;>kernel_rfl) (j:E.P=P:=by rfl) (q:E.gl=g:=by rfl):oh P g h (FT ks outs λx=>ao outs t n (i x)):=by subst j q;exact lg c (bL d) a b (λ_=>rfl) λ_=>rfl
theorem U6(E:cd)(n0:Nat)(keep:Nat->aT)(f:Func)(gas:Nat):∀s,run E n0 keep f.results.toList gas (aa f (e0 s).1) (e0 s).2=(t0 s).map (lf f e0):=λs=>nomatch s
def kJ(outs:List Sh)(p:List CP)(t:σ->Tr (σ⊕aw))(n:Nat)(i:Tr (σ⊕aw)):Option (zD (outs.map Q1)×zn p):=(bR t n i).bind λr=>tv p outs r.1 r.2
variable {ps:List CP}
theorem ka{e:σ->Nat×St}{t:σ->Tr (σ⊕aw)}{i:zn ps->zD (ks.map Q1)->Tr (σ⊕aw)}{c:zn ps->zD (ks.map Q1)->Bool}{a:zn ps->zD (ks.map Q1)->zD (outs.map Q1)×zn q}
  (k:zu E) (m:zM E.P h f (Io ks+1)) (d:∀y x,run E (bl ps+1) keep f.results.toList gas (bq f) (aY f.ntmps (.ptr 0 0::iV (ks.map Q1) x) (aB ps y))=(i y x).map (lf f e))
  (j:∀s,run E (bl ps+1) keep f.results.toList gas (aa f (e s).1) (e s).2=(t s).map (lf f e))
  (l:∀y x,c y x=(kJ outs q t n (i y x)).isSome) (o:∀y x,a y x=(kJ outs q t n (i y x)).getD (cA outs,fR q)) (u:E.P=P:=by rfl) (p:E.gl=g:=by rfl):oh P g h (sC ps ks outs q c a):=by
 subst u p;have b:∀y x,itB E keep f gas (n+1) ps ks outs q y x=kJ outs q t n (i y x):=by
  intro y x;unfold itB kJ;rw[jq j (d y x)]
 exact Vm (n:=n+1) k m (λy x=>by rw[b,l]) (λy x=>by rw[b,o])
open Tr (chk br re)
theorem QG(h:Nat->AO)(e:Sh)(l:List (Sem e)):tt h e (.sl e l)=Q1 l:=by simp[tt]
theorem kk(h:Nat->AO):∀(s:Sh)(x:Sem s)(r:List AV),dh h s (zx s x++r)=Q1 (x,r)
 |.unit,_,_=>rfl
 |.bool,_,_=>rfl
 |.int k,n,r=>by simp[zx,dh]
 |.str,_,_=>rfl
 | .sl e,l,r=>by
  show(match tt h e (.sl e l)with|some l=>Q1 (l,r)|none=>Q2)=_;rw[QG]
 | .pr a b,x,r=>by
  simp only[zx,dh,BZ,kk h a,kk h b]
 | .expr,e,r=>by
  show vo h _=_;simp only[zx,List.cons_append,F5,vo,QG];rw[show za.mk e.op (e.v.1,e.v.2.1,e.v.2.2) e.s e.l=e from za.eta e]
theorem jC{J:Nat->AO}:∀(p:List CP)(n:Nat)(y:zn p),(∀(j:Nat) o,(gM p y)[j]?=Q1 o->J (n+j)=o)->cO J n p (eZ n p y)=Q1 y
 |[],_,_,_=>rfl
 | .d s::r,n,y,h=>by
  simp only[eZ,cO,kk];rw[jC r n y.2 h]
 | .nil::r,n,y,h=>by
  simp only[eZ,cO];exact jC r n y h
 | .vec e::r,n,y,h=>by
  have x:=h 0 (.vec e y.1) rfl;simp only[pL]at x;simp only[eZ,cO,zh,x,dite_true]
  rw[jC r (n+1) y.2 (λj o a=>by
   have:=h (j+1) o (by simpa[gM]using a);rw[<-this];congr 1;omega)]
theorem du{r:AV}{a:zD (outs.map Q1)}(y:zn ps)(h:aS [] outs r=Q1 a):tv ps outs r (aB ps y)=Q1 (a,y):=by
 unfold tv aB;simp only[ch,zh,h]
 rw[jC ps 1 y (λj o x=>by
  unfold kj;rw[kd,BW,aZ,x];rfl)]
section
variable {σ:Type} {t:σ->Tr (σ⊕aw)}
theorem dw{β:Type}(N:Nat)(s:β->Nat->σ)(I:β->Nat->Prop)(Φ:aw->Prop)(M:Nat)
  (x:∀b i,i<N->I b i->(∃c,I c (i+1)/\(t (s b i)).val=Q1 (.inl (s c (i+1))))\/∃r,(t (s b i)).val=Q1 (.inr r)/\Φ r)
  (a:∀b n,I b N->M<=n->∃r,dv t n (s b N)=Q1 r/\Φ r):
  ∀(m i:Nat)(b:β)(n:Nat),N-i=m->i<=N->I b i->M+m<=n->∃r,dv t n (s b i)=Q1 r/\Φ r
 | 0,i,b,n,p,o,j,q=>by
  obtain rfl:i=N:=by omega
  exact a b n j ow
 | m+1,i,b,n,p,o,j,q=>by
  obtain⟨n,rfl⟩:∃k,n=k+1:=⟨n-1,ow⟩;rcases x b i ow j with⟨c,l,h⟩|⟨r,d,g⟩
  .obtain⟨r,d,g⟩:=dw N s I Φ M x a m (i+1) c n ow ow l ow;exact⟨r,by rw[dv,h];exact d,g⟩
  .exact⟨r,by rw[dv,d],g⟩
theorem cK{n:Nat}{s:σ}:dv t (n+1) s=match(t s).val with
  |some (.inl h)=>dv t n h
  |some (.inr r)=>Q1 r
  |none=>Q2:=rfl
end
variable {k:Nat}
theorem gK.cells{hp:Nat->AO}{cs':List AV}(a:gK C w U ρ hp)(g:hp k=.box cs)
  (u:∀vals,dg w U ρ cs vals->dg w U ρ cs' vals):gK C w U ρ (λj=>if j=k then .box cs' else hp j):=by
 have x:∀id b,af ρ id (ite (id=k) (.box cs') (hp id)) b->af ρ id (hp id) b:=by
  intro id b ho;by_cases h:id=k
  .subst h;rw[ze rfl]at ho;rw[g];obtain⟨_,v,y,s⟩:=ho;exact⟨rfl,v,y,s⟩
  .rw[zg h]at ho;exact ho
 refine⟨λid=>?_,λi c b o1 o2=>a.inj i c b (x _ _ o1) (x _ _ o2),λid b o=>a.blk id b (x _ _ o)⟩;by_cases h:id=k
 .subst h;have d:=a.ob id;rw[g]at d;obtain⟨b,T,vals,l,m,n,p,q⟩:=d;simp only[zh];exact⟨b,T,vals,l,m,n,u _ p,q⟩
 .simp only[zg h];exact a.ob id
def cE(p q:List CP)(y:zn p)(z:zn q):List AO:=.box (eZ 2 p y)::.box (eZ (2+bl p) q z)::(gM p y++gM q z)
theorem pY(p q:List CP)(y:zn p)(z:zn q):(cE p q y z).length=bl p+bl q+2:=by simp[cE,ch]
theorem gK.box2{H:List AV}{y:zn p}{z:zn q}(b:gK C w U ρ (λj=>((Qa cs::Qa H::os).getD j .dead)))(G:Io os=bl p+bl q)
  (c:cO (kj (.box cs::.box H::os)) 2 p cs=Q1 y) (a:cO (kj (.box cs::.box H::os)) (2+bl p) q H=Q1 z):gK C w U ρ (λj=>(cE p q y z).getD j .dead):=by
 have d:=b.cells (k:=0) (cs:=cs) (cs':=eZ 2 p y) rfl (λv h=>(fQ p 2 cs y v c h).1);have g:=d.cells (k:=1) (cs:=H) (cs':=eZ (2+bl p) q z) rfl (λv h=>(fQ q _ H z v a h).1);obtain⟨D,T,u,_,_,_,o,_⟩:=b.ob 0;obtain⟨F,B,A,_,_,_,s,_⟩:=b.ob 1;have m:=(fQ p 2 cs y u.toList c o).2;have n:=(fQ q _ H z A.toList a s).2;have e:(λj=>(cE p q y z).getD j .dead)=λj=>if j=1 then .box (eZ (2+bl p) q z)else if j=0 then .box (eZ 2 p y)else(Qa cs::Qa H::os).getD j .dead:=by
  funext j
  match j with
  |0=>rfl
  |1=>rfl
  | j+2=>
   rw[zg ow,zg ow];simp only[cE,BW];by_cases i:j<bl p
   .have x:j<(gM p y).length:=by rw[ch];exact i
    have:=m j _ (zZ x);simp only[kj,kd 2 j,BW]at this;rw[this,aZ,kC x,zZ x];rfl
   .by_cases l:j<bl p+bl q
    .have x:j-bl p<(gM q z).length:=by rw[ch];omega
     have:=n (j-bl p) _ (zZ x);rw[show 2+bl p+(j-bl p)=j+2 by omega]at this;simp only[kj,BW]at this;rw[this,aZ,jd (by rw[ch];omega),ch,zZ x];rfl
    .rw[aZ,aZ,eX (by simp[ch];omega),eX ow]
 rw[e];exact g
def AZ(p q:List CP)(outs:List Sh)(r:AV)(h:List AO):Option (zD (outs.map Q1)×zn p×zn q):=match h with
 | .box c::.box ds::os=>if Io os=bl p+bl q then match aS [] outs r,cO (kj (.box c::.box ds::os)) 2 p c,cO (kj (.box c::.box ds::os)) (2+bl p) q ds with
   |some a,Q1 y,Q1 z=>Q1 (a,y,z)
   |_,_,_=>Q2
  else Q2
 |_=>Q2
def zfy(p b:List CP)(ks outs:List Sh)(a q:List CP)(c:zn p->zn b->zD (ks.map Q1)->Bool)(g:zn p->zn b->zD (ks.map Q1)->zD (outs.map Q1)×zn a×zn q):eW (Q2::Q2::ks.map Q1):=λx h=>match x.1,x.2.1,h with
 | .ptr 0 0,.ptr 1 0,.box d::.box ds::os=>if Io os=bl p+bl b then match cO (kj (.box d::.box ds::os)) 2 p d,cO (kj (.box d::.box ds::os)) (2+bl p) b ds with
   |some y,Q1 z=>.chk (c y z x.2.2) (.ok (Av outs (g y z x.2.2).1,cE a q (g y z x.2.2).2.1 (g y z x.2.2).2.2))
   |_,_=>.err
  else .err
 |_,_,_=>.err
def VS(ps qs:List CP)(ks outs:List Sh)(p q:List CP)(c:zn ps->zn qs->zD (ks.map Q1)->Bool)(g:zn ps->zn qs->zD (ks.map Q1)->zD (outs.map Q1)×zn p×zn q):z8:=aW (Q2::Q2::ks.map Q1) (zfy ps qs ks outs p q c g)
variable {T W:List CP}
theorem Vl{c:zn p->zn q->zD (ks.map some)->Bool}{d:zn p->zn q->zD (ks.map some)->zD (outs.map some)×zn T×zn W}(hf:zM E.P h f (Io ks+2))
  (i:∀y z x,c y z x=Q3->∀C:ew,(∀id,bl p+bl q+2<=id->C.ρ0 id=Q2)->Reach E C h (bq f) (aY f.ntmps (.ptr 0 0::.ptr 1 0::iV (ks.map Q1) x) (cE p q y z)) (λr i=>AZ T W outs r i=Q1 (d y z x))) (qp:E.P=P:=by rfl) (qg:E.gl=g:=by rfl):
  oh P g h (VS p q ks outs T W c d):=by
 subst qp qg;refine dc (by simpa using hf) λx h0 h4 l C hC=>?_
 obtain⟨x0,x1,x⟩:=x;unfold zfy at l;simp only at l;split at l
 .rename_i S Y os;split at l
  .rename_i s;split at l
   .rename_i y z hy hz;simp only[Tr.val]at l;split at l
    .rename_i hc;simp only[bj]at l;subst l;have hR:=i y z x hc C (λid k=>hC id (by simpa[s]using k));intro b B a w U ρ h1 h2 m hW;have hH:gK C w U ρ (λj=>((Qa S::Qa Y::os).getD j .dead)):=m.hp
     have u:Cn C (aY f.ntmps (.ptr 0 0::.ptr 1 0::iV (ks.map Q1) x) (cE p q y z)) a w U ρ:=
      ⟨m.tm,hH.box2 s hy hz,λid k=>m.new id (by have k:(cE p q y z).length<=id:=k;rw[pY]at k;simpa[aY,s]using k),m.df,m.r0⟩
     obtain⟨e,w',fr,⟨v,r,h',O,ρ',he,n,L,D,A,J,F⟩,H,I,hl⟩:=hR b B a w U ρ h1 h2 u hW;unfold AZ at n;split at n
     .rename_i X Z h3;split at n
      .rename_i o;split at n
       next a' y' z' G M N=>simp only[bj]at n;refine⟨e,w',fr,⟨v,_,_,O,ρ',he,by rw[<-n],HK G L,D.box2 o M N,λid k=>A id (by rw[pY]at k;simpa[o]using k),J,F⟩,H,I,hl⟩
       .cases n
      .cases n
     .cases n
    .simp at l
   .simp at l
  .simp at l
 .simp at l
def R4(outs:List Sh)(p q:List CP)(t:σ->Tr (σ⊕aw))(n:Nat)(i:Tr (σ⊕aw)):Option (zD (outs.map Q1)×zn p×zn q):=(bR t n i).bind λr=>AZ p q outs r.1 r.2
theorem zi1{qs:List CP}{e:σ->Nat×St}{t:σ->Tr (σ⊕aw)}{i:zn ps->zn qs->zD (ks.map Q1)->Tr (σ⊕aw)}{c:zn ps->zn qs->zD (ks.map Q1)->Bool}{a:zn ps->zn qs->zD (ks.map Q1)->zD (outs.map Q1)×zn T×zn W}
  (v:zu E) (m:zM E.P h f (Io ks+2)) (k:∀y z x,run E (bl ps+bl qs+2) keep f.results.toList gas (bq f) (aY f.ntmps (.ptr 0 0::.ptr 1 0::iV (ks.map Q1) x) (cE ps qs y z))=(i y z x).map (lf f e))
  (l:∀s,run E (bl ps+bl qs+2) keep f.results.toList gas (aa f (e s).1) (e s).2=(t s).map (lf f e))
  (A:∀y z x,c y z x=(R4 outs T W t n (i y z x)).isSome) (B:∀y z x,a y z x=(R4 outs T W t n (i y z x)).getD (cA outs,fR T,fR W)) (F:E.P=P:=by rfl) (D:E.gl=g:=by rfl):oh P g h (VS ps qs ks outs T W c a):=by
 subst F D;refine Vl m λy z x d C q=>?_
 rw[A,Option.isSome_iff_exists]at d;obtain⟨u,j⟩:=d;rw[B,j];unfold R4 at j;rw[fN]at j;obtain⟨r,o,p⟩:=j;exact lC (Q:=λr b=>AZ T W outs r b=Q1 u) v m q (n+1) _ _ r (by rw[jq l (k y z x)];exact o) p
section
variable {σ:Type} {t:σ->Tr (σ⊕aw)}
def z6(t:σ->Tr (σ⊕aw))(k:Nat)(s:σ)(r:aw):Prop:=∀n,k<=n->dv t n s=Q1 r
def zN(t:σ->Tr (σ⊕aw))(m:Nat)(s s':σ):Prop:=∀k r,z6 t k s' r->z6 t (k+m) s r
variable {k:Nat}{s:σ}{r:aw}
theorem z6.mono{c:Nat}(h:z6 t k s r)(x:k<=c):z6 t c s r:=λn a=>h n ow
theorem z6.of(h:(t s).val=Q1 (.inr r)):z6 t 1 s r:=by intro n x;obtain⟨n,rfl⟩:∃k,n=k+1:=⟨n-1,ow⟩;rw[dv,h]
variable {s':σ}
theorem zN.of(h:(t s).val=Q1 (.inl s')):zN t 1 s s':=by intro k r x n a;obtain⟨n,rfl⟩:∃k,n=k+1:=⟨n-1,ow⟩;rw[dv,h];exact x n ow
theorem zN.refl(s:σ):zN t 0 s s:=λ_ _ h=>h
variable {a:Nat}
theorem zN.trans{b:Nat}{x:σ}(c:zN t a s s')(d:zN t b s' x):zN t (b+a) s x:=λk r h=>(c _ _ (d k r h)).mono ow
theorem zN.mono{b:Nat}(h:zN t a s s')(c:a<=b):zN t b s s':=λk r x=>(h k r x).mono ow
theorem zN.ends(h:zN t a s s')(x:z6 t k s' r):z6 t (k+a) s r:=h k r x
theorem zN.all(m:Nat)(s:Nat->σ):∀(N:Nat),(∀i,i<N->zN t m (s i) (s (i+1)))->zN t (N*m) (s 0) (s N)
 |0,_=>(zN.refl _).mono ow
 |N+1,h=>((zN.all m s N λi x=>h i ow).trans (h N ow)).mono (by rw[om];omega)
theorem mD{Φ:aw->Prop}(m:Nat)(s:Nat->σ)(P:Nat->Prop):∀(N:Nat),(∀i,i<N->(∀j,j<i->P j)->(P i/\zN t m (s i) (s (i+1)))\/(¬P i/\∃r,z6 t m (s i) r/\Φ r))->
  ((∀i,i<N->P i)/\zN t (N*m) (s 0) (s N))\/((¬∀i,i<N->P i)/\∃r,z6 t (N*m) (s 0) r/\Φ r)
 |0,_=>.inl ⟨λi x=>zC x ow,(zN.refl _).mono ow⟩
 | N+1,h=>by
  rcases mD m s P N λi x=>h i ow with⟨a,b⟩|⟨a,r,b,g⟩
  .rcases h N ow a with⟨c,d⟩|⟨c,r,d,k⟩
   .refine .inl ⟨λi x=>?_,(b.trans d).mono (by rw[om];omega)⟩;rcases Nat.lt_succ_iff_lt_or_eq.1 x with x|rfl
    .exact a i x
    .exact c
   .exact .inr ⟨λh=>c (h N ow),r,(b.ends d).mono (by rw[om];omega),k⟩
  .exact .inr ⟨λh=>a λi x=>h i ow,r,b.mono (by rw[om];omega),g⟩
variable {outs:List Sh}{n:Nat}{i:Tr (σ⊕aw)}
theorem zB{y:zD (outs.map Q1)}(x:i.val=Q1 (.inl s))(h:z6 t k s r)(a:k<=n)(b:aS r.2 outs r.1=Q1 y):ao outs t n i=Q1 y:=by unfold ao bR;rw[x];show(dv t n s).bind _=_;rw[h n a];exact b
theorem zO{y:zD (outs.map Q1)}(h:i.val=Q1 (.inr r))(x:aS r.2 outs r.1=Q1 y):ao outs t n i=Q1 y:=by unfold ao bR;rw[h];exact x
theorem Y3{ps:List CP}{v:Tr (σ⊕aw)}{y:zD (outs.map Q1)×zn ps}(h:v.val=Q1 (.inr r))(x:tv ps outs r.1 r.2=Q1 y):kJ outs ps t n v=Q1 y:=by unfold kJ bR;rw[h];exact x
end
variable {fn:FuncId}{x:List Item}{Q:AV->List AO->Prop}
theorem Reach.lenA(j c:Nat)(e:Sh)(l:List (Sem e)){m:List AV}(n:L.tmps[j]?=Q1 (.agg m))(o:m[c]?=Q1 (.sl e l))(h:Io l<=aJ->Reach E C fn x L Q):Reach E C fn x L Q:=by
 intro b g a w U ρ y z i q;refine h ?_ b g a w U ρ y z i q;have d:j<a.tmps.toList.length:=by rw[<-i.tm.len];exact(cR.1 n).1
 have:=i.tm.rv j _ _ n (zZ d);generalize a.tmps.toList[j]=v at this;cases this with
 |agg _ p k _ u=>
 have d:c<Io p:=by rw[<-k];exact(cR.1 o).1
 have:=u c _ _ o (zZ d);generalize p[c]=v at this;cases this with
 |sl0=>simp
 |sl _ _ _ _ _ _ _ s=>exact s
abbrev zq5:Nat->aT:=λj=>if j=3 then{slots:=[0,3,4],prom:=[(3,Q2,zf)]}else{ }
inductive SS where
 |h3 (l0:zw) (i4:Int) (lh_0:zw)
abbrev zt1:SS->Nat×St
 |.h3 h i l=>(3,⟨tm 24 [(0,sl zf h),(3,AV.vec 0),(4,ai i)],[AO.vec zf l]⟩)
def zvu(x:Sem zf.sl):Tr (SS⊕aw):=Tr.to (SS.h3 x 0 [])
def zdU:SS->Tr (SS⊕aw)
 | .h3 h i l=>
  let a:=h.getD i.toNat (zi zf)
  let x:=[FM a]
  br (cond (Q0 (i<(↑h.length:Int))) (Q0 (i<14)) Q4)
  (chk (zK i (Io h)) (chk (NN a) (chk (Q0 (Io l+Io x<=1073741824)) (Tr.to (SS.h3 h (Γ Δ (i+1)) (l++x))))))
  (re (AV.vec 0) [AO.vec zf l])
def zrP(x:Sem zf.sl):=ao [zf.sl] zdU 100000000 (zvu x)
def zmO:=FT [zf.sl] [zf.sl] λx=>zrP x.1
theorem Vc:FK 17 zmO:=w6.T1 (f:=Tryz.f17) (keep:=zq5) (e:=zt1)
abbrev zrj:Nat->aT:=λj=>if j=3 then{slots:=[0,3,4],prom:=[(3,Q2,zl)]}else{ }
inductive N1 where
 |h3 (l0:aM) (i4:Int) (lh_0:aM)
abbrev zub:N1->Nat×St
 |.h3 h i l=>(3,⟨tm 33 [(0,sl zl h),(3,AV.vec 0),(4,ai i)],[AO.vec zl l]⟩)
def zvy(x:Sem zl.sl):Tr (N1⊕aw):=Tr.to (N1.h3 x 0 [])
def zdX:N1->Tr (N1⊕aw)
 | .h3 h i l=>
  let a:=h.getD i.toNat (zi zl)
  let x:=(↑(Io a.1):Int)
  let b:=[(Qg (toNat 20-toNat 0) (Qh (toNat 0) a.1),a.2)]
  let c:=Γ Δ (i+1)
  let d:=[a]
  br (cond (Q0 (i<(↑h.length:Int))) (Q0 (i<9)) Q4)
  (chk (zK i (Io h)) (br (Q0 (x>20)) (chk (Q0 (0<=0)&&Q0 (0<=20)&&Q0 (20<=x)) (chk (Q0 (Io l+Io b<=1073741824)) (Tr.to (N1.h3 h c (l++b))))) (chk (Q0 (Io l+Io d<=1073741824)) (Tr.to (N1.h3 h c (l++d))))))
  (re (AV.vec 0) [AO.vec zl l])
def zrO(x:Sem zl.sl):=ao [zl.sl] zdX 100000000 (zvy x)
def zni:=FT [zl.sl] [zl.sl] λx=>zrO x.1
theorem Vg:FK 56 zni:=w6.T1 (f:=Tryz.f56) (keep:=zrj) (e:=zub)
def mq(l:Sem zf.sl):Sem zf.sl:=(Qg 14 l).map FM
def jR(l:Sem zl.sl):Sem zl.sl:=(Qg 9 l).map λc:bX=>((jy c.1,c.2):bX)
theorem wz(k:Nat)(l:List α):l.take (min k (Io l))=l.take k:=by
 rcases Nat.le_total k (Io l)with h|h
 .rw[F6 h]
 .rw[F4 h,gF,QC h]
theorem zdb{x:Nat}{K:Int}(c:K=(k:Int))(h:n<min k x):(cond (Q0 ((n:Int)<(x:Int))) (Q0 ((n:Int)<K)) Q4)=Q3:=by
 have a:(n:Int)<x:=by omega
 have b:(n:Int)<K:=by omega
 rw[zy a,zy b];rfl
theorem RH{K:Int}(x:K=(k:Int))(n:Nat):(cond (Q0 (((min k n:Nat):Int)<(n:Int))) (Q0 (((min k n:Nat):Int)<K)) Q4)=Q4:=by
 rcases Nat.le_total k n with h|h
 .rw[F6 h,x];simp
 .rw[F4 h];simp
theorem Kt{l:List α}(h:n<Io l)(d:α):l.take (n+1)=l.take n++[l.getD n d]:=by rw[List.take_add_one,zZ h,aZ,zZ h];rfl
def Ly:=zfA.addL [(17,zmO),(56,zni)]
theorem w7:zu Ly:=w6.addL<|fc Vc<|fc Vg iw
theorem ol{c:zD (ks.map Q1)->Bool}{a:zD (ks.map Q1)->zD (outs.map Q1)}(b:oh P g h (zY ks outs c a))(d:∀x,c x=Q3):oh P g h (aN ks outs a):=
 Qy (by rwa [show c=λ_=>Q3 from funext d]at b)
theorem Fa(v:V):NN v=Q3:=by
 unfold NN;cases h:Q0 ((↑(Io v.2.2):Int)>60)
 .rfl
 .simp only[aR]at h;simp only[ax,aF,aR];omega
theorem PT(s:zH):SC s=Q3:=by
 unfold SC;cases h:Q0 ((↑(Io s):Int)>20)
 .rfl
 .simp only[aR]at h;simp only[ax,aF,aR];omega
theorem Ub(l:zw):zrP l=Q1 (mq l,()):=by
 have g:=zN.all (t:=zdU) 1 (λi=>.h3 l (i:Int) ((Qg i l).map FM)) (min 14 (Io l)) λi x=>zN.of (by
  have h:i<Io l:=by omega
  have a:Q0 ((List.map FM (Qg i l)).length+[FM (l.getD i (zi zf))].length<=1073741824)=Q3:=by simp;omega
  simp only[zdU,Tr.val,zdb (k:=14) (K:=14) rfl x,zz h,zh,aK,Fa,a];rw[zt i um,Kt h (zi zf),eI];rfl)
 rw[wz]at g;refine zB rfl (g.ends (k:=1) (r:=(.vec 0,[.vec zf (mq l)])) (z6.of ?_)) ow rfl;simp only[zdU,Tr.val,RH (k:=14) (K:=14) rfl,zE,zp];rfl
theorem T9(l:aM):zrO l=Q1 (jR l,()):=by
 have g:=zN.all (t:=zdX) 1 (λi=>.h3 l (i:Int) ((Qg i l).map λc:bX=>((jy c.1,c.2):bX))) (min 9 (Io l)) λi j=>zN.of (by
  have d:i<Io l:=by omega
  have n:(Qg (i+1) l).map (λc:bX=>((jy c.1,c.2):bX))=(Qg i l).map (λc:bX=>((jy c.1,c.2):bX))++[(jy (List.getD l i (zi zl)).1,(List.getD l i (zi zl)).2)]:=by rw[Kt d (zi zl),eI];rfl
  have b:((Qg i l).map (λc:bX=>((jy c.1,c.2):bX))).length<=9:=by rw[cz,pQ];omega
  rw[n];generalize(Qg i l).map (λc:bX=>((jy c.1,c.2):bX))=a at b|-;have m:Q0 (Io a+1<=1073741824)=Q3:=zy ow;simp only[zdX,Tr.val,zdb (k:=9) (K:=9) rfl j,zz d,zh,aK,eA,pj,er,m];rw[zt i um];unfold jy;by_cases h:(Io (List.getD l i (zi zl)).1:Int)>20
  .have x:Q0 ((20:Int)<=(Io (List.getD l i (zi zl)).1:Int))=Q3:=zy ow;simp only[zy h,x,zh];rfl
  .simp only[ae h,zE,zp])
 rw[wz]at g;refine zB rfl (g.ends (k:=1) (r:=(.vec 0,[.vec zl (jR l)])) (z6.of ?_)) ow rfl;simp only[zdX,Tr.val,RH (k:=9) (K:=9) rfl,zE,zp];rfl
def zmP:z8:=aN [zf] [zf] λx=>(FM x.1,())
theorem zhw:FK 41 zmP:=ol zfk λx=>Fa x.1
def zmG:z8:=aN [Q6] [Q6] λx=>(jy x.1,())
theorem zhp:FK 185 zmG:=ol zfj λx=>PT x.1
def F6t:z8:=aN [zf.sl] [zf.sl] λx=>(mq x.1,())
theorem zoT:FK 17 F6t:=ii Vc λx=>Ub x.1
def zmK:z8:=aN [zl.sl] [zl.sl] λx=>(jR x.1,())
theorem zht:FK 56 zmK:=ii Vg λx=>T9 x.1
abbrev AM:Nat->aT:=λ_=>{slots:=[0,1,7,8]}
def oI{K:List Item}{e:Sh}(l:List (Sem e))(p:Sem e->Bool)(s:Int->St)(h:List AO)(i:Int):Tr zQ:=.br (Q0 (i<(Io l:Int))) (.chk (zK i (Io l)) (.br (p (l.getD i.toNat (zi e))) (.ok (.ret (.int .i64 i) h)) (.ok (.head 2 K (s (Γ Δ (i+1))))))) (.ok (.ret (.int .i64 (-1)) h))
variable {z:List AO}
theorem kZ{n0:Nat}{N:Nat}{e:Sh}(l:List (Sem e))(p:Sem e->Bool)(s:Int->St)
  (c:zu E) (g:zM E.P h f n) (d:∀id,n0<=id->C.ρ0 id=Q2)
  (b:∀i,run E n0 keep f.results.toList N K (s i)=oI (K:=K) l p s z i) (j:Io l<=aJ):∀(m i:Nat),Io l-i=m->i<=Io l->
  Reach E C h K (s i) (λr x=>(r,x)=(.int .i64 (ab p (l.drop i) i),z)):=by
 intro m
 induction m with
 | zero=>
  intro i c.mix' hi;obtain rfl:i=Io l:=by omega
  refine zF c g d (b _) ?_;simp only[oI,Tr.val,zG,jM];rfl
 | succ m I=>
  intro i c.mix' hi;have a:i<Io l:=by omega
  refine zF c g d (b _) ?_;rw[fO a];simp only[oI,Tr.val,zL a,zz a,cP l _ a,zt i ow,zh,ab];split
  .rfl
  .exact I (i+1) ow ow
abbrev BA(t:Int)(l:dI)(i:Int):St:={tmps:=[.sl zj l,.clo (.func 311) [] [.ptr 0 0],.any,.any,.any,.any,.any,.int .i64 (Io l),.int .i64 i,.any,.any,.any,.any,.any,.any,.any,.any,.any,.any],heap:=[.box [.int .i64 t]]}
theorem W6(t:Int)(l:dI):run Ly 1 AM Tryz.f338.results.toList 300 (bq Tryz.f338) (aY Tryz.f338.ntmps [.sl zj l,.clo (.func 311) [] [.ptr 0 0]] [.box [.int .i64 t]])=.ok (.head 2 (aa Tryz.f338 2) (BA t l 0)):=kw
theorem YS(t:Int)(l:dI)(i:Int):run Ly 1 AM Tryz.f338.results.toList 300 (aa Tryz.f338 2) (BA t l i)=oI (K:=aa Tryz.f338 2) (e:=zj) l (λx=>bif x !=t then x !=0 else Q4) (BA t l) [.box [.int .i64 t]] i:=kw
theorem YD:zM Ly.P 338 Tryz.f338 2:=bL kw
def zpj:eW [Q1 (.sl zj),Q2]:=λx h=>match x,h with
 |(l,.clo (.func 311) [] [.ptr 0 0],_),[.box [.int .i64 t]]=>.ok (.int .i64 (ab (λx=>bif x !=t then x !=0 else Q4) l 0),[.box [.int .i64 t]])
 |_,_=>.err
def zmr:z8:=aW [Q1 (.sl zj),Q2] zpj
theorem zha:FK 338 zmr:=by
 refine dc YD λx d c h C a=>?_
 unfold zpj at h;split at h
 .rename_i l u t;simp only[Tr.val_ok,bj]at h;subst h;refine Reach.len 0 zj l rfl λb=>?_
  refine zF (n0:=1) w7 YD a (W6 t l) ?_;exact kZ l (λx=>bif x !=t then x !=0 else Q4) (BA t l) w7 YD a (YS t l) b _ 0 rfl (aL _)
 .simp at h
def uU:=Ly.addL [(41,zmP),(185,zmG),(17,F6t),(56,zmK),(338,zmr)]
theorem ni:zu uU:=w7.addL<|fc zhw<|fc zhp<|fc zoT<|fc zht<|fc zha iw
def F78:z8:=aW [Q1 (.sl zj),Q2] (eJ uU Tryz.f310 [Q1 (.sl zj),Q2])
theorem zoZ:FK 310 F78:=bT _ ni (bL kw)
def eo(x:Sem Q6):Sem Q7:=qS x
theorem zr5:zM uU.P 173 Tryz.f173 1:=bL kw
theorem zuK(x:Sem Q6):rn uU 0 (λ_=>{ }) Tryz.f173 [zI Q6 x] []=Tr.ok (zQ.ret (AV.bool (qS x)) []):=kw
def F25:z8:=aN [Q6] [Q7] λx=>(eo x.1,())
theorem zoh:FK 173 F25:=by
 refine al zr5 λx C h=>?_
 refine bg ni zr5 (λid _=>h id) (zuK x.1) ?_;simp only[Tr.val,eo];repeat' split
 all_goals rfl
def zV(x:aq)(h:Sem Q6):zq:=ab (λc=>c.1==h) x.2.1 0
theorem zr1:zM uU.P 108 Tryz.f108 2:=bL kw
theorem zuG(x:aq)(h:Sem Q6):rn uU 0 (λ_=>{ }) Tryz.f108 [zI ak x,zI Q6 h] []=Tr.ok (zQ.ret (ai (ab (λc=>c.1==h) x.2.1 0)) []):=kw
def F17:z8:=aN [ak,Q6] [zj] λx=>(zV x.1 x.2.1,())
theorem zoc:FK 108 F17:=by
 refine al zr1 λx C h=>?_
 refine bg ni zr1 (λid _=>h id) (zuG x.1 x.2.1) ?_;simp only[Tr.val,zV];repeat' split
 all_goals rfl
def ay(x:Sem zl.sl)(h:Sem Q6):zq:=ab (λc=>c.1==h) x 0
theorem zsq:zM uU.P 238 Tryz.f238 2:=bL kw
theorem zu3(x:Sem zl.sl)(h:Sem Q6):rn uU 0 (λ_=>{ }) Tryz.f238 [zI zl.sl x,zI Q6 h] []=Tr.ok (zQ.ret (ai (ab (λc=>c.1==h) x 0)) []):=kw
def F48:z8:=aN [zl.sl,Q6] [zj] λx=>(ay x.1 x.2.1,())
theorem zoA:FK 238 F48:=by
 refine al zsq λx C h=>?_
 refine bg ni zsq (λid _=>h id) (zu3 x.1 x.2.1) ?_;simp only[Tr.val,ay];repeat' split
 all_goals rfl
def Gi:=uU.addL [(310,F78),(173,F25),(108,F17),(238,F48)]
theorem w8:zu Gi:=ni.addL<|fc zoZ<|fc zoh<|fc zoc<|fc zoA iw
def pB(h:Sem zj.sl)(a:zq):Sem Q7:=!Q0 (ab (λx=>bif x !=a then x !=0 else Q4) h 0>=0)
theorem zsB:zM Gi.P 271 Tryz.f271 2:=bL kw
theorem zvf(h:Sem zj.sl)(a:zq):rn Gi 0 (λ_=>{ }) Tryz.f271 [zI zj.sl h,zI zj a] []=Tr.ok (zQ.ret (AV.bool !Q0 (ab (λx=>bif x !=a then x !=0 else Q4) h 0>=0)) []):=kw
def F66:z8:=aN [zj.sl,zj] [Q7] λx=>(pB x.1 x.2.1,())
theorem zoR:FK 271 F66:=by
 refine al zsB λx C h=>?_
 refine bg w8 zsB (λid _=>h id) (zvf x.1 x.2.1) ?_;simp only[Tr.val,pB];repeat' split
 all_goals rfl
def zU(x:Sem Q6):Sem Q7:=bif eo x then !jw x else Q4
theorem zr0:zM Gi.P 107 Tryz.f107 1:=bL kw
theorem zuF(x:Sem Q6):rn Gi 0 (λ_=>{ }) Tryz.f107 [zI Q6 x] []=Tr.ok (zQ.ret (AV.bool (cond (eo x) (!jw x) Q4)) []):=kw
def F16:z8:=aN [Q6] [Q7] λx=>(zU x.1,())
theorem zob:FK 107 F16:=by
 refine al zr0 λx C h=>?_
 refine bg w8 zr0 (λid _=>h id) (zuF x.1) ?_;simp only[Tr.val,zU];repeat' split
 all_goals rfl
def Wx:=Gi.addL [(271,F66),(107,F16)]
theorem Gj:zu Wx:=w8.addL<|fc zoR<|fc zob iw
theorem eH{c:zD (ks.map Q1)->Bool}{a:zD (ks.map Q1)->zD (outs.map Q1)}(k:∃fn,P.funcs[h]?=Q1 fn/\(fn.name=="runtime.NumGoroutine")=Q4/\fn.body.isNone=Q4)(j:∀x,c x=Q4):oh P g h (zY ks outs c a):=by
 refine⟨k,?_⟩;intro w U ρ p n i v f m b;exfalso;unfold zY aW at b;split at b
 .simp only at b;split at b
  .split at b
   .simp only[Tr.val_bind,fN]at b;obtain⟨l,d,o⟩:=b;unfold fH at d;split at d
    .simp only[Tr.val,j]at d;simp at d
    .simp at d
   .simp at b
  .simp at b
 .simp at b
variable {Φ:zQ->Prop}{t:Tr zQ}
theorem mU{c:Bool}{f:Tr zQ}(h:c=Q3->gR Φ t.val)(x:c=Q4->gR Φ f.val):gR Φ (br c t f).val:=by
 cases c
 .simpa[Tr.val]using x rfl
 .simpa[Tr.val]using h rfl
theorem ft{c:Bool}(x:c=Q3)(h:gR Φ t.val):gR Φ (chk c t).val:=by subst x;simpa[Tr.val]using h
theorem zT(h:gR Φ t.val):gR Φ (chk Q3 t).val:=h
theorem nD{c:Bool}(h:c=Q4):¬c=Q3:=by rw[h];simp
variable {S:Bool}
theorem ru{c:Bool}(h:(ite (c=Q3) S Q4)=Q3):c=Q3/\S=Q3:=by
 split at h
 .exact⟨‹_›,h⟩
 .cases h
theorem vA{c:Bool}{f:Tr zQ}{α:Sort _}{a b y:α}{q:Bool}(d:(ite (c=Q3) a b)=y)(x:(ite (c=Q3) S q)=Q3)(g:c=Q3->a=y->S=Q3->gR Φ t.val)(i:c=Q4->b=y->q=Q3->gR Φ f.val):gR Φ (Tr.br c t f).val:=
 mU (λh=>g h (by rwa [ze h]at d) (by rwa [ze h]at x)) (λh=>i h (by rwa [zg (nD h)]at d) (by rwa [zg (nD h)]at x))
theorem dH{c:Bool}{f:Tr zQ}{α:Sort _}{a b y:α}(x:(ite (c=Q3) a b)=y)(d:c=Q3->a=y->gR Φ t.val)(g:c=Q4->b=y->gR Φ f.val):gR Φ (Tr.br c t f).val:=
 mU (λh=>d h (by rwa [ze h]at x)) (λh=>g h (by rwa [zg (nD h)]at x))
theorem iL{c:Bool}(x:(ite (c=Q3) S Q4)=Q3)(h:S=Q3->gR Φ t.val):gR Φ (Tr.chk c t).val:=
 ft (ru x).1 (h (ru x).2)
theorem Tr.val_brT(t f:Tr α):(br Q3 t f).val=t.val:=rfl
theorem Tr.val_brF(t f:Tr α):(br Q4 t f).val=f.val:=rfl
theorem Tr.val_chkT(t:Tr α):(chk Q3 t).val=t.val:=rfl
instance:Inhabited za:=⟨.mk [] (0,0,[]) [] []⟩
instance (s:Sh):Inhabited (Sem s):=⟨zi s⟩
def TC(g:Sem Q5->bY->zq×zq)(c:Sem Q5->bY->Bool):cd:=Wx.add 227 (zY [Q5,Sh.sl zl] [zj,zj] (λx=>c x.1 x.2.1) λx=>((g x.1 x.2.1).1,(g x.1 x.2.1).2,()))
theorem Cz{g:Sem Q5->bY->zq×zq}{c:Sem Q5->bY->Bool}(h:FK 227 (zY [Q5,Sh.sl zl] [zj,zj] (λx=>c x.1 x.2.1) λx=>((g x.1 x.2.1).1,(g x.1 x.2.1).2,()))):zu (TC g c):=Gj.add h
abbrev zgC:Nat->aT:=λj=>if j=3 then{slots:=[1,2,6,15,16,17],prom:=[(6,Q2,zj)]}else{ }
abbrev EH(k:LC)(g:LX)(i h:Int)(j:zH)(x a:Int)(b c:zH)(d:LX)(l:LI):St:={tmps:=(tm 91 [(1,sl zl k),(2,ptr 0 0),(6,AV.vec 1),(15,sl Q5 g),(16,ai i),(17,ai h)]),heap:=[Qa [str j,ai x,ai a,str b,str c,sl Q5 d],AO.vec zj l]}
theorem DK(g:Sem Q5->bY->zq×zq)(c:Sem Q5->bY->Bool):zM (TC g c).P 227 Tryz.f227 2:=bL kw
theorem zqh(g:Sem Q5->bY->zq×zq)(c:Sem Q5->bY->Bool)(x:Sem Q5)(h:Sem zl.sl):rn (TC g c) 0 zgC Tryz.f227 [zI Q5 x,zI zl.sl h] []=Tr.ok (zQ.head 3 (aa Tryz.f227 3) (EH h (za.l x) (↑(za.l x).length:Int) 0 (za.op x) (za.v x).1 (za.v x).2.1 (za.v x).2.2 (za.s x) (za.l x) [])):=kw
theorem R0(g:Sem Q5->bY->zq×zq)(c:Sem Q5->bY->Bool)(h:LC)(a:LX)(b i:Int)(j:zH)(d m:Int)(n x:zH)(o:LX)(l:LI):rh (TC g c) 0 zgC Tryz.f227 3 (EH h a b i j d m n x o l)=let p:=Tr.ok (zQ.ret (tup [ai 0,ai 5]) []);let q:=Tr.ok (zQ.ret (tup [ai 3,ai 0]) []);let u:=chk (zK 0 (Io l)&&(Q0 (toNat 0<Io l)&&(zK 1 (Io l)&&(Q0 (toNat 1<Io l)&&bif l.getD (toNat 0) (zi zj)==l.getD (toNat 1) (zi zj)then Q3 else zK 0 (Io l)&&(Q0 (toNat 0<Io l)&&bif l.getD (toNat 0) (zi zj)==0 then Q3 else zK 1 (Io l)&&Q0 (toNat 1<Io l)))))) (br (!bif l.getD (toNat 0) (zi zj)==l.getD (toNat 1) (zi zj)then Q3 else bif l.getD (toNat 0) (zi zj)==0 then Q3 else l.getD (toNat 1) (zi zj)==0) p q);let y:=a.getD i.toNat (zi Q5);let k:=zr y;let v:=br (!pB l 1) p (Tr.ok (zQ.ret (tup [ai 1,ai 0]) []));let s:=br (!pB l 3) p q;
 br (Q0 (i<b)) (chk (zK i (Io a)) (chk (c k h) (br ((g k h).2!=0) (Tr.ok (zQ.ret (tup [ai 0,ai (g k h).2]) [])) (chk (Q0 (Io l+[(g k h).1].length<=1073741824)) (Tr.ok (zQ.head 3 (aa Tryz.f227 3) (EH h a b (Γ Δ (i+1)) j d m n x o (l++[(g k h).1])))))))) (br (j==ot) (Tr.ok (zQ.ret (tup [ai d,ai 0]) [])) (br (j==eK) (br (Q0 (ay h x<0)) (Tr.ok (zQ.ret (tup [ai 0,ai 4]) [])) (chk (zK (ay h x) (Io h)) (Tr.ok (zQ.ret (tup [ai (h.getD (toNat (ay h x)) (zi zl)).2.1,ai 0]) [])))) (br (j==ng) s (br (j==ir) s (br (j==uG) s (br (j==[61]) u (br (j==[60]) u (br (j==[43]) v (br (j==[45]) v q))))))))):=kw
def aU(g:Sem Q5->bY->zq×zq)(c:Sem Q5->bY->Bool)(a:LC)(j:zH)(b d:Int)(k h:zH)(m:LX):List (Sem Q5)->Int->dI->zq×zq
 |[],_,l=>if(j==ot)=Q3 then(b,0)
else
 if(j==eK)=Q3 then
  if Q0 (ay a h<0)=Q3 then(0,4)
  else((a.getD (toNat (ay a h)) (zi zl)).2.1,0)
 else
  if(j==ng)=Q3 then if(!pB l 3)=Q3 then(0,5)else(3,0)
  else
   if(j==ir)=Q3 then if(!pB l 3)=Q3 then(0,5)else(3,0)
   else
    if(j==uG)=Q3 then if(!pB l 3)=Q3 then(0,5)else(3,0)
    else
     if (j==[61])=true then
      if
        (!bif l.getD (toNat 0) (zi zj)==l.getD (toNat 1) (zi zj)then Q3
          else bif l.getD (toNat 0) (zi zj)==0 then Q3 else l.getD (toNat 1) (zi zj)==0)=
         Q3 then
       (0,5)
      else(3,0)
     else
      if (j==[60])=true then
       if
         (!bif l.getD (toNat 0) (zi zj)==l.getD (toNat 1) (zi zj)then Q3
           else
            bif l.getD (toNat 0) (zi zj)==0 then Q3 else l.getD (toNat 1) (zi zj)==0)=
          Q3 then
        (0,5)
       else(3,0)
      else
       if(j==[43])=Q3 then if(!pB l 1)=Q3 then(0,5)else(1,0)
       else if(j==[45])=Q3 then if(!pB l 1)=Q3 then(0,5)else(1,0)else(3,0)
 |x::r,i,l=>if((g x a).2!=0)=Q3 then(0,(g x a).2)else aU g c a j b d k h m r (i+1) (l++[(g x a).1])
def gz(g:Sem Q5->bY->zq×zq)(c:Sem Q5->bY->Bool)(h:LC)(j:zH)(b d:Int)(k a:zH)(m:LX):List (Sem Q5)->Int->dI->Bool
 |[],_,l=>if(j==ot)=Q3 then Q3
else
 if(j==eK)=Q3 then
  if Q0 (ay h a<0)=Q3 then Q3 else if zK (ay h a) (Io h)=Q3 then Q3 else Q4
 else
  if(j==ng)=Q3 then Q3
  else
   if(j==ir)=Q3 then Q3
   else
    if(j==uG)=Q3 then Q3
    else
     if (j == [61])=true then
      if
        (zK 0 (Io l)&&
          (Q0 (toNat 0<Io l)&&
           (zK 1 (Io l)&&
            (Q0 (toNat 1<Io l)&&
             bif l.getD (toNat 0) (zi zj)==l.getD (toNat 1) (zi zj)then Q3
             else
              zK 0 (Io l)&&
               (Q0 (toNat 0<Io l)&&
                bif l.getD (toNat 0) (zi zj)==0 then Q3
                else zK 1 (Io l)&&Q0 (toNat 1<Io l))))))=
         Q3 then
       Q3
      else Q4
     else
      if (j == [60])=true then
       if
         (zK 0 (Io l)&&
           (Q0 (toNat 0<Io l)&&
            (zK 1 (Io l)&&
             (Q0 (toNat 1<Io l)&&
              bif l.getD (toNat 0) (zi zj)==l.getD (toNat 1) (zi zj)then Q3
              else
               zK 0 (Io l)&&
                (Q0 (toNat 0<Io l)&&
                 bif l.getD (toNat 0) (zi zj)==0 then Q3
                 else zK 1 (Io l)&&Q0 (toNat 1<Io l))))))=
          Q3 then
        Q3
       else Q4
      else Q3
 |x::r,i,l=>if c x h=Q3 then
 if((g x h).2!=0)=Q3 then Q3
 else
  if Q0 (Io l+[(g x h).1].length<=1073741824)=Q3 then
   gz g c h j b d k a m r (i+1) (l++[(g x h).1])
  else Q4
else Q4
theorem zbO(g:Sem Q5->bY->zq×zq)(c:Sem Q5->bY->Bool)(B:FK 227 (zY [Q5,Sh.sl zl] [zj,zj] (λx=>c x.1 x.2.1) λx=>((g x.1 x.2.1).1,(g x.1 x.2.1).2,())))(A:∀id,C.ρ0 id=Q2)(v:LC)(j:zH)(k n:Int)(o p:zH)(q l:LX)(G:Io l<=aJ):∀(m i:Nat)(a:LI),Io l-i=m->i<=Io l->gz g c v j k n o p q (l.drop i) i a=Q3->
  Reach (TC g c) C 227 (aa Tryz.f227 3) (EH v l (Io l:Int) (i:Int) j k n o p q a) (λr h=>aS h [zj,zj] r=Q1 ((aU g c v j k n o p q (l.drop i) i a).1,(aU g c v j k n o p q (l.drop i) i a).2,())):=by
 intro m
 induction m with
 | zero=>
  intro i a F D d;obtain rfl:i=Io l:=by omega
  rw[jM]at d|-;refine zF (Cz B) (DK g c) (λid _=>A id) (R0 g c _ _ _ _ _ _ _ _ _ _ _) ?_;rw[gz]at d;generalize b:aU g c v j k n o p q [] _ a=y;rw[aU]at b;simp only[za.eta,zG,Tr.val_brF];repeat' (first|with_reducible refine vA b d (λ_ b d=>?_) (λ_ b d=>?_)|with_reducible refine dH b (λ_ b=>?_) (λ_ b=>?_)|with_reducible refine iL d (λd=>?_)|with_reducible refine zT ?_)
  all_goals(subst b;first|rfl)
 | succ m I=>
  intro i a F D d;have u:i<Io l:=by omega
  have I:=I (i+1);have s:((i:Int)+1)=((i+1:Nat):Int):=by omega
  have z:=zt i ow;rw[fO u]at d|-;refine zF (Cz B) (DK g c) (λid _=>A id) (R0 g c _ _ _ _ _ _ _ _ _ _ _) ?_;rw[gz]at d;generalize b:aU g c v j k n o p q (l[i]::l.drop (i+1)) (i:Int) a=y;rw[aU]at b;simp only[za.eta,zL u,zz u,cP l _ u,z,Tr.val_brT,Tr.val_chkT];clear z;simp only[s]at b
  try simp only[s]at d
  repeat' (first|with_reducible refine vA b d (λ_ b d=>?_) (λ_ b d=>?_)|with_reducible refine dH b (λ_ b=>?_) (λ_ b=>?_)|with_reducible refine iL d (λd=>?_)|with_reducible refine zT ?_)
  all_goals(subst b;first|(change Reach _ _ _ _ _ _;apply I<;>first|omega|assumption)|rfl)
theorem VD(g:Sem Q5->bY->zq×zq)(c:Sem Q5->bY->Bool)(q:FK 227 (zY [Q5,Sh.sl zl] [zj,zj] (λx=>c x.1 x.2.1) λx=>((g x.1 x.2.1).1,(g x.1 x.2.1).2,())))(o:∀id,C.ρ0 id=Q2)(n:LC)(j:zH)(b d:Int)(i k:zH)(m a:LX)(l:LI)(p:gz g c n j b d i k m a 0 l=Q3):
  Reach (TC g c) C 227 (aa Tryz.f227 3) (EH n a (Io a:Int) 0 j b d i k m l) (λr h=>aS h [zj,zj] r=Q1 ((aU g c n j b d i k m a 0 l).1,(aU g c n j b d i k m a 0 l).2,())):=
 Reach.len 15 (Q5) a rfl λs=>zbO g c q o n j b d i k m a s _ 0 l rfl (aL _) p
def yu(g:Sem Q5->bY->zq×zq)(c:Sem Q5->bY->Bool)(x:Sem Q5)(h:Sem zl.sl):zq×zq:=aU g c h (za.op x) (za.v x).1 (za.v x).2.1 (za.v x).2.2 (za.s x) (za.l x) (za.l x) 0 []
def BL(g:Sem Q5->bY->zq×zq)(c:Sem Q5->bY->Bool)(x:Sem Q5)(h:Sem zl.sl):Bool:=gz g c h (za.op x) (za.v x).1 (za.v x).2.1 (za.v x).2.2 (za.s x) (za.l x) (za.l x) 0 []
def ztI(g:Sem Q5->bY->zq×zq)(c:Sem Q5->bY->Bool):z8:=zY [Q5,zl.sl] [zj,zj] (λx=>BL g c x.1 x.2.1) λx=>((yu g c x.1 x.2.1).1,(yu g c x.1 x.2.1).2,())
theorem zie(g:Sem Q5->bY->zq×zq)(c:Sem Q5->bY->Bool)(d:FK 227 (zY [Q5,Sh.sl zl] [zj,zj] (λx=>c x.1 x.2.1) λx=>((g x.1 x.2.1).1,(g x.1 x.2.1).2,()))):FK 227 (ztI g c):=by
 refine aO (DK g c) λx a C b=>?_
 unfold BL at a;refine zF (Cz d) (DK g c) (λid _=>b id) (zqh g c x.1 x.2.1) ?_;generalize h:yu g c x.1 x.2.1=y;unfold yu at h
 try simp only[za.eta,zm]
 repeat' (first|with_reducible refine vA h a (λ_ h a=>?_) (λ_ h a=>?_)|with_reducible refine dH h (λ_ h=>?_) (λ_ h=>?_)|with_reducible refine iL a (λa=>?_)|with_reducible refine zT ?_)
 all_goals(subst h;first|(change Reach _ _ _ _ _ _;apply VD g c d b<;>first|assumption|exact a)|rfl)
mutual
def zW:Nat->Sem Q5->bY->zq×zq
 |0=>λ_ _=>default
 |n+1=>yu (zW n) (bw n)
def bw:Nat->Sem Q5->bY->Bool
 |0=>λ_ _=>Q4
 |n+1=>BL (zW n) (bw n)
end
theorem Vh:∀n,FK 227 (zY [Q5,Sh.sl zl] [zj,zj] (λx=>bw n x.1 x.2.1) λx=>((zW n x.1 x.2.1).1,(zW n x.1 x.2.1).2,()))
 |0=>eH ⟨Tryz.f227,(DK default default).1,(DK default default).2.1,(DK default default).2.2.1⟩ (λ_=>rfl)
 |n+1=>zie (zW n) (bw n) (Vh n)
def F51:z8:=zY [Q5,Sh.sl zl] [zj,zj] (λx=>bw 16 x.1 x.2.1) λx=>((zW 16 x.1 x.2.1).1,(zW 16 x.1 x.2.1).2,())
theorem zoD:FK 227 F51:=Vh 16
def Gk:=Wx.add 227 F51
theorem rc:zu Gk:=Gj.add zoD
abbrev cpE:List CP:=[.d .expr]
abbrev zpC:List CP:=[.d .str,.d zj,.d zj,.d .str,.d .str,.vec .expr]
abbrev pD:List CP:=[.d .str,.d zj,.d zj,.d .str,.d .str,.nil]
def Lt(g:Sem Q5->zq->zq->Sem Q5×zq)(c:Sem Q5->zq->zq->Bool):cd:=Gk.add 122 (zY [Q5,zj,zj] [Q5,zj] (λx=>c x.1 x.2.1 x.2.2.1) λx=>((g x.1 x.2.1 x.2.2.1).1,(g x.1 x.2.1 x.2.2.1).2,()))
theorem TD{g:Sem Q5->zq->zq->Sem Q5×zq}{c:Sem Q5->zq->zq->Bool}(h:FK 122 (zY [Q5,zj,zj] [Q5,zj] (λx=>c x.1 x.2.1 x.2.2.1) λx=>((g x.1 x.2.1 x.2.2.1).1,(g x.1 x.2.1 x.2.2.1).2,()))):zu (Lt g c):=rc.add h
abbrev X8:Nat->aT:=λj=>if j=10 then{slots:=[1,2,3,6,8,9],prom:=[(8,Q1 5,Q5)]}else if j=500004 then{slots:=[1,2,3,6,8,30],cut:=Q3}else if j=500006 then{slots:=[1,2,3,6,8,39],cut:=Q3}else if j=500008 then{slots:=[1,2,3,6,8],cut:=Q3}else{ }
inductive AE where
 |h500004 (i1:zq) (i2:zq) (b30:Bool) (z0:zn cpE) (z1:zn pD) (z2:zn pD)
 |h500006 (i1:zq) (i2:zq) (b39:Bool) (z0:zn cpE) (z1:zn pD) (z2:zn pD)
 |h500008 (i1:zq) (i2:Int) (z0:zn cpE) (z1:zn pD) (z2:zn pD)
 |h10 (i1:zq) (i2:Int) (i9:Int) (z0:zn cpE) (z1:zn pD) (z2:zn zpC)
abbrev Wf:AE->Nat×St
 |.h500004 i h b x a z=>(500004,⟨tm 88 [(1,ai i),(2,ai h),(3,ptr 0 0),(6,ptr 1 0),(8,ptr 2 0),(30,AV.bool b)],[Qa (bI [] cpE x),Qa (bI [] pD a),Qa (bI [] pD z)]⟩)
 |.h500006 i h c x a z=>(500006,⟨tm 88 [(1,ai i),(2,ai h),(3,ptr 0 0),(6,ptr 1 0),(8,ptr 2 0),(39,AV.bool c)],[Qa (bI [] cpE x),Qa (bI [] pD a),Qa (bI [] pD z)]⟩)
 |.h500008 i h x a z=>(500008,⟨tm 88 [(1,ai i),(2,ai h),(3,ptr 0 0),(6,ptr 1 0),(8,ptr 2 0)],[Qa (bI [] cpE x),Qa (bI [] pD a),Qa (bI [] pD z)]⟩)
 |.h10 i h d x a z=>(10,⟨tm 88 [(1,ai i),(2,ai h),(3,ptr 0 0),(6,ptr 1 0),(8,ptr 2 0),(9,ai d)],[Qa (bI [] cpE x),Qa (bI [] pD a),Qa (bI [3] zpC z),AO.vec Q5 z.t.2.1]⟩)
theorem zsE(g:Sem Q5->zq->zq->Sem Q5×zq)(c:Sem Q5->zq->zq->Bool):zM (Lt g c).P 122 Tryz.f122 3:=bL kw
def XB(_:Sem Q5->zq->zq->Sem Q5×zq)(_:Sem Q5->zq->zq->Bool)(x:Sem Q5)(b d:zq):Tr (AE⊕aw):=
 let a:=Q0 ((↑(Io (za.s x)):Int)>20)
 let h:=((za.v x).1,(za.v x).2.1,(za.v x).2.2,za.s x,())
 br (Q0 ((↑(Io (za.op x)):Int)>8))
 (chk (Q0 (0<=0)&&Q0 (0<=8)&&Q0 (8<=(↑(Io (za.op x)):Int)))
  (Tr.to (AE.h500004 b d a (x,()) ([],0,0,[],[],()) (Qg (toNat 8-toNat 0) (Qh (toNat 0) (za.op x)),h))))
 (Tr.to (AE.h500004 b d a (x,()) ([],0,0,[],[],()) (za.op x,h)))
theorem zqo(g:Sem Q5->zq->zq->Sem Q5×zq)(c:Sem Q5->zq->zq->Bool)(x:Sem Q5)(h a:zq):rn (Lt g c) 0 X8 Tryz.f122 [zI Q5 x,zI zj h,zI zj a] []=(XB g c x h a).map (lf Tryz.f122 Wf):=kw
def ww(g:Sem Q5->zq->zq->Sem Q5×zq)(c:Sem Q5->zq->zq->Bool):AE->Tr (AE⊕aw)
 | .h500004 i x m h a z=>
  let d:=(↑(Io z.t.1):Int)
  let b:=(↑(Io z.2.2.2.1):Int)
  let j:=Q0 (b>45)
  br m
  (chk (Q0 (0<=0)&&Q0 (0<=20)&&Q0 (20<=d)) (Tr.to (AE.h500006 i x j h a (z.1,z.2.1,z.2.2.1,z.2.2.2.1,Qg (toNat 20-toNat 0) (Qh (toNat 0) z.t.1),()))))
  (Tr.to (AE.h500006 i x j h a z))
 | .h500006 i x n h a z=>
  let d:=(↑(Io z.2.2.2.1):Int)
  let b:=Γ Δ (x-1)
  br n
  (chk (Q0 (0<=0)&&Q0 (0<=45)&&Q0 (45<=d)) (Tr.to (AE.h500008 i b h a (z.1,z.2.1,z.2.2.1,Qg (toNat 45-toNat 0) (Qh (toNat 0) z.2.2.2.1),z.t))))
  (Tr.to (AE.h500008 i b h a z))
 | .h500008 i x h a z=>
  Tr.to (AE.h10 i x 0 h a (z.1,z.2.1,z.2.2.1,z.2.2.2.1,z.t.1,[],()))
 | .h10 i x k h a z=>
  let d:=(↑(za.l h.1).length:Int)
  let b:=zr ((za.l h.1).getD k.toNat (zi Q5))
  let j:=Γ Δ (i-1)
  let o:=g b j x
  let p:=[zr o.1]
  br (cond (Q0 (k<d)) (cond (Q0 (k<3)) (cond (Q0 (i>0)) (Q0 (x>0)) Q4) Q4) Q4)
  (chk (zK k (za.l h.1).length) (chk (c b j x) (chk (Q0 (Io z.t.2.1+Io p<=1073741824)) (Tr.to (AE.h10 i o.2 (Γ Δ (k+1)) h a (z.1,z.2.1,z.2.2.1,z.2.2.2.1,z.t.1,z.t.2.1++p,()))))))
  (re (tup [agg [str z.1,ai z.2.1,ai z.2.2.1,str z.2.2.2.1,str z.t.1,AV.vec 0],ai x]) [AO.vec Q5 z.t.2.1])
theorem zs4(g:Sem Q5->zq->zq->Sem Q5×zq)(c:Sem Q5->zq->zq->Bool):∀s,run (Lt g c) 0 X8 (Func.results Tryz.f122).toList 400 (aa Tryz.f122 (Wf s).1) (Wf s).2=(ww g c s).map (lf Tryz.f122 Wf):=by intro s;cases s<;>kernel_rfl
def Lr(o:Option (zD (List.map Q1 [Q5,zj]))):Sem Q5×zq:=(λr:zD (List.map Q1 [Q5,zj])=>(r.1,r.2.1)) (o.getD (cA [Q5,zj]))
def zpW(g:Sem Q5->zq->zq->Sem Q5×zq)(c:Sem Q5->zq->zq->Bool)(x:Sem Q5)(h a:zq):Option (zD (List.map Q1 [Q5,zj])):=ao [Q5,zj] (ww g c) 100000000 (XB g c x h a)
def pE:Nat->Sem Q5->zq->zq->Option (zD (List.map Q1 [Q5,zj]))
 |0=>λ_ _ _=>Q2
 |n+1=>zpW (λx h a=>Lr (pE n x h a)) λx h a=>(pE n x h a).isSome
theorem zkA:zM Gk.P 122 Tryz.f122 3:=bL kw
theorem Qv:∀n,FK 122 (zY [Q5,zj,zj] [Q5,zj] (λx=>(pE n x.1 x.2.1 x.2.2.1).isSome) λx=>((Lr (pE n x.1 x.2.1 x.2.2.1)).1,(Lr (pE n x.1 x.2.1 x.2.2.1)).2,()))
 |0=>eH ⟨Tryz.f122,zkA.1,zkA.2.1,zkA.2.2.1⟩ (λ_=>rfl)
 |n+1=>lg (E:=Lt (λh a b=>Lr (pE n h a b)) (λh a b=>(pE n h a b).isSome)) (ks:=[Q5,zj,zj]) (outs:=[Q5,zj]) (keep:=X8) (gas:=400) (n:=100000000) (e:=Wf) (t:=ww (λh a b=>Lr (pE n h a b)) (λh a b=>(pE n h a b).isSome)) (i:=λx=>XB (λh a b=>Lr (pE n h a b)) (λh a b=>(pE n h a b).isSome) x.1 x.2.1 x.2.2.1) (TD (Qv n)) (zsE _ _) (λx=>zqo _ _ x.1 x.2.1 x.2.2.1) (zs4 _ _) (λ_=>by kernel_rfl) (λ_=>by kernel_rfl)
def sD(N:Nat)(e:Sem Q5)(d n:zq):Sem Q5×zq:=Lr (pE N e d n)
def L2(N:Nat)(e:Sem Q5)(d n:zq):Bool:=(pE N e d n).isSome
def F15:z8:=zY [Q5,zj,zj] [Q5,zj] (λx=>L2 16 x.1 x.2.1 x.2.2.1) λx=>((sD 16 x.1 x.2.1 x.2.2.1).1,(sD 16 x.1 x.2.1 x.2.2.1).2,())
theorem zoa:FK 122 F15:=Qv 16
def eqL(g:za->za->Bool):List za->List za->Bool
 |x::r,y::s=>if(!g x y)=Q3 then Q4 else eqL g r s
 |_,_=>Q3
def TT(g c:za->za->Bool):List za->List za->Bool
 |x::r,y::s=>if c x y=Q3 then(ite ((!g x y)=Q3) Q3 (TT g c r s))else Q4
 |_,_=>Q3
def TB(g c:za->za->Bool):cd:=Gk.add 177 (zY [.expr,.expr] [.bool] (λx=>c x.1 x.2.1) (λx=>(g x.1 x.2.1,())))
variable {c d:za->za->Bool}
theorem Cy(h:FK 177 (zY [.expr,.expr] [.bool] (λx=>c x.1 x.2.1) (λx=>(d x.1 x.2.1,())))):zu (TB d c):=rc.add h
abbrev zrn:Nat->aT:=λj=>if j=4 then{slots:=[1,2,15,16,17]}else{ }
abbrev SA(x l:List za)(i h:Int):St:={tmps:=(tm 32 [(1,sl Q5 x),(2,AV.clo (Fn.func 177) [] []),(15,sl Q5 l),(16,ai i),(17,ai h)]),heap:=[]}
theorem zdj(g c:za->za->Bool):zM (TB g c).P 226 Tryz.f226 3:=bL kw
theorem zu5(g c:za->za->Bool)(l m:List za):rn (TB g c) 0 zrn Tryz.f226 [sl Q5 l,sl Q5 m,AV.clo (Fn.func 177) [] []] []=br ((↑l.length:Int)!=(↑m.length:Int)) (Tr.ok (zQ.ret (kb Q4) [])) (Tr.ok (zQ.head 4 (aa Tryz.f226 4) (SA m l (↑l.length:Int) 0))):=kw
theorem YU(g c:za->za->Bool)(x l:List za)(h i:Int):rh (TB g c) 0 zrn Tryz.f226 4 (SA x l h i)=let d:=l.getD i.toNat (zi Q5);let j:=x.getD i.toNat (zi Q5);let a:=zr j;let b:=zr d;br (Q0 (i<h)) (chk (zK i (Io l)) (chk (zK i (Io x)) (chk (c b a) (br (!g b a) (Tr.ok (zQ.ret (kb Q4) [])) (Tr.ok (zQ.head 4 (aa Tryz.f226 4) (SA x l h (Γ Δ (i+1))))))))) (Tr.ok (zQ.ret (kb Q3) [])):=kw
theorem ztU(p:FK 177 (zY [.expr,.expr] [.bool] (λx=>c x.1 x.2.1) (λx=>(d x.1 x.2.1,()))))(o:∀id,0<=id->C.ρ0 id=Q2)(l m:List za)(u:Io l=Io m)(v:Io l<=aJ):
  ∀(k i:Nat),Io l-i=k->i<=Io l->TT d c (l.drop i) (m.drop i)=Q3->Reach (TB d c) C 226 (aa Tryz.f226 4) (SA m l (Io l) i) (λr h=>(r,h)=(.kb (eqL d (l.drop i) (m.drop i)),[])):=by
 intro k
 induction k with
 | zero=>
  intro i s q j;obtain rfl:i=Io l:=by omega
  refine zF (Cy p) (zdj d c) o (YU d c _ _ _ _) ?_;simp only[zG,Tr.val_brF,jM];rfl
 | succ k I=>
  intro i s q j;have b:i<Io l:=by omega
  have a:i<Io m:=by omega
  refine zF (Cy p) (zdj d c) o (YU d c _ _ _ _) ?_;rw[fO b,fO a]at j|-;rw[TT]at j;have g:=ru j;simp only[zL b,zz b,zz a,cP l _ b,cP m _ a,za.eta,Tr.val_brT,Tr.val_chkT,g.1,zt i ow];refine mU (λh=>?_) (λh=>?_)
  .rw[eqL,ze h];rfl
  .rw[eqL,zg (nD h)];have n:=g.2;rw[zg (nD h)]at n;exact I (i+1) ow ow n
def OR(g:za->za->Bool)(l m:List za):Bool:=if((↑l.length:Int)!=(↑m.length:Int))=Q3 then Q4 else eqL g l m
def yZ(g c:za->za->Bool)(l m:List za):Bool:=if((↑l.length:Int)!=(↑m.length:Int))=Q3 then Q3 else TT g c l m
def G50(g c:za->za->Bool):eW [Q1 (.sl .expr),Q1 (.sl .expr),Q2]:=λx h=>match x,h with
 |(l,m,.clo (.func 177) [] [],_),[]=>.chk (yZ g c l m) (.ok (.bool (OR g l m),[]))
 |_,_=>.err
def F50(g c:za->za->Bool):z8:=aW [Q1 (.sl .expr),Q1 (.sl .expr),Q2] (G50 g c)
theorem Reach.weaken{m:AV->List AO->Prop}(h:Reach E C fn x L Q)(B:∀r h,Q r h->∃d,m d h/\∀w U ρ v,Rv w U ρ r v->Rv w U ρ d v):Reach E C fn x L m:=by intro b p a w U ρ s u z y;obtain⟨e,D,q,⟨v,r,n,o,F,A,i,l,c⟩,g⟩:=h b p a w U ρ s u z y;obtain⟨d,j,k⟩:=B r n i;exact⟨e,D,q,⟨v,d,n,o,F,A,j,k _ _ _ _ l,c⟩,g⟩
theorem zoC(i:FK 177 (zY [.expr,.expr] [.bool] (λx=>c x.1 x.2.1) (λx=>(d x.1 x.2.1,())))):FK 226 (F50 d c):=by
 refine dc (E:=TB d c) (zdj d c) λx p o a C g=>?_
 unfold G50 at a;split at a
 .rename_i l m u;simp only[Tr.val]at a;split at a
  .rename_i b;simp only[bj]at a;subst a;refine Reach.len 0 .expr l rfl λj=>?_
   refine Reach.weaken (Q:=λr h=>(r,h)=(.kb (OR d l m),[])) ?_ ?_
   .refine zF (n0:=0) (Cy i) (zdj d c) g (zu5 d c l m) ?_;unfold yZ at b;unfold OR;refine mU (λh=>?_) (λh=>?_)
    .rw[ze h];rfl
    .rw[zg (nD h)]at b|-;have:(Io l:Int)=Io m:=by simpa using h
     have:Io l=Io m:=by omega
     exact ztU i g l m this j _ 0 rfl (aL _) b
   .rintro r h k;cases k;refine⟨_,rfl,λw U ρ v n=>?_⟩;cases n;exact .bool _
  .simp at a
 .simp at a
def zcv(g c:za->za->Bool):cd:=Gk.add 226 (F50 g c)
theorem Wl(h:FK 177 (zY [.expr,.expr] [.bool] (λx=>c x.1 x.2.1) (λx=>(d x.1 x.2.1,())))):zu (zcv d c):=rc.add (zoC h)
def eqV(a b:V):Bool:=a.1==b.1&&(a.2.1==b.2.1&&(a.2.2==b.2.2&&Q3))
def Nx(g:za->za->Bool)(a b:za):Bool:=bif a.op==b.op then bif eqV a.v b.v then bif a.s==b.s then OR g a.l b.l else Q4 else Q4 else Q4
def J3(g c:za->za->Bool)(a b:za):Bool:=bif a.op==b.op then bif eqV a.v b.v then bif a.s==b.s then yZ g c a.l b.l else Q3 else Q3 else Q3
theorem YL(g c:za->za->Bool):zM (zcv g c).P 177 Tryz.f177 2:=bL kw
theorem zuM(g c:za->za->Bool)(l m:za):rn (zcv g c) 0 (λ_=>{}) Tryz.f177 [zI Q5 l,zI Q5 m] []=chk (J3 g c l m) (Tr.ok (zQ.ret (AV.bool (Nx g l m)) [])):=kw
theorem zhO(a:FK 177 (zY [.expr,.expr] [.bool] (λx=>c x.1 x.2.1) (λx=>(d x.1 x.2.1,())))):FK 177 (zY [.expr,.expr] [.bool] (λx=>J3 d c x.1 x.2.1) (λx=>(Nx d x.1 x.2.1,()))):=by
 refine aO (E:=zcv d c) (YL d c) λx b C h=>?_
 refine zF (n0:=0) (Wl a) (YL d c) (λid _=>h id) (zuM d c x.1 x.2.1) ?_;exact ft b rfl
mutual
def fJ:Nat->za->za->Bool
 |0=>λ_ _=>Q4
 |n+1=>Nx (fJ n)
def jz:Nat->za->za->Bool
 |0=>λ_ _=>Q4
 |n+1=>J3 (fJ n) (jz n)
end
theorem Ve:∀n,FK 177 (zY [.expr,.expr] [.bool] (λx=>jz n x.1 x.2.1) (λx=>(fJ n x.1 x.2.1,())))
 |0=>eH ⟨Tryz.f177,(YL (λ_ _=>Q4) (λ_ _=>Q4)).1,(YL (λ_ _=>Q4) (λ_ _=>Q4)).2.1,(YL (λ_ _=>Q4) (λ_ _=>Q4)).2.2.1⟩ (λ_=>rfl)
 |n+1=>zhO (Ve n)
def F29:z8:=zY [.expr,.expr] [.bool] (λx=>jz 16 x.1 x.2.1) (λx=>(fJ 16 x.1 x.2.1,()))
theorem zok:FK 177 F29:=Ve 16
def QV:=Gk.addL [(122,F15),(177,F29)]
theorem Gl:zu QV:=rc.addL<|fc zoa<|fc zok iw
def bu(v:V):Bool:=v.1==0&&(v.2.1==0&&(v.2.2==[]&&Q3))
def avB:AV->Option Bool
 |.bool b=>Q1 b
 |.kb b=>Q1 b
 |_=>Q2
theorem Reach.toBool{b:Bool}(h:Reach E C fn x L (λr h=>avB r=Q1 b/\h=z)):Reach E C fn x L (λr h=>(r,h)=(.bool b,z)):=by
 refine h.weaken λr g c=>?_
 obtain⟨a,rfl⟩:=c;refine⟨.bool b,rfl,λw U ρ v d=>?_⟩;cases r<;>simp[avB]at a<;>subst a<;>cases d<;>exact .bool _
def zi5(g:za->Int->Int->Bool×Int)(c:za->Int->Int->Bool):eW [Q2,Q1 .expr,Q1 zj]:=λx h=>match x,h with
 |(.ptr 0 0,e,d,_),[.box [.int .i64 n]]=>.chk (c e d n) (.ok (.bool (g e d n).1,[.box [.int .i64 (g e d n).2]]))
 |_,_=>.err
def NU(g:za->Int->Int->Bool×Int)(c:za->Int->Int->Bool):z8:=aW [Q2,Q1 .expr,Q1 zj] (zi5 g c)
def TA(g:za->Int->Int->Bool×Int)(c:za->Int->Int->Bool):cd:=QV.add 228 (NU g c)
variable {l:za->Int->Int->Bool×Int}{u:za->Int->Int->Bool}
theorem Cx(h:FK 228 (NU l u)):zu (TA l u):=Gl.add h
abbrev zrh:Nat->aT:=λj=>if j=12 then{slots:=[0,2,73,74,75]}else{ }
abbrev JY(x:Int)(l:LX)(i h j:Int):St:={tmps:=(tm 86 [(0,ptr 0 0),(2,ai x),(73,sl Q5 l),(74,ai i),(75,ai h)]),heap:=[Qa [ai j]]}
theorem YM(g:za->Int->Int->Bool×Int)(c:za->Int->Int->Bool):zM (TA g c).P 228 Tryz.f228 3:=bL kw
theorem zuS(g:za->Int->Int->Bool×Int)(c:za->Int->Int->Bool)(e:za)(d n:Int):rn (TA g c) 1 zrh Tryz.f228 [ptr 0 0,zI Q5 e,ai d] [Qa [ai n]]=let a:=Γ Δ (n+1);let h:=Tr.ok (zQ.ret (kb Q4) [Qa [ai a]]);br (cond (Q0 (d>12)) Q3 (cond (Q0 (Γ Δ (n+1)>60)) Q3 ((↑e.l.length:Int)!=dm e.op))) h (br (e.op==ot) (Tr.ok (zQ.ret (AV.bool (cond (e.s==[]) (bh e.v) Q4)) [Qa [ai a]])) (br (e.op==eK) (Tr.ok (zQ.ret (AV.bool (cond (bu e.v) (cond (eo e.s) (!jw e.s) Q4) Q4)) [Qa [ai a]])) (br (cond (!bu e.v) Q3 (!e.s==[])) h (Tr.ok (zQ.head 12 (aa Tryz.f228 12) (JY d e.l (↑e.l.length:Int) 0 a)))))):=kw
theorem RZ(g:za->Int->Int->Bool×Int)(c:za->Int->Int->Bool)(x:Int)(l:LX)(h i j:Int):rh (TA g c) 1 zrh Tryz.f228 12 (JY x l h i j)=let d:=l.getD i.toNat (zi Q5);let b:=zr d;let a:=g b (Γ Δ (x+1)) j;br (Q0 (i<h)) (chk (zK i (Io l)) (chk (c b (Γ Δ (x+1)) j) (br (!a.1) (Tr.ok (zQ.ret (kb Q4) [Qa [ai a.2]])) (Tr.ok (zQ.head 12 (aa Tryz.f228 12) (JY x l h (Γ Δ (i+1)) a.2)))))) (Tr.ok (zQ.ret (kb Q3) [Qa [ai j]])):=kw
def pF(g:za->Int->Int->Bool×Int)(d:Int):List za->Int->Bool×Int
 |[],n=>(Q3,n)
 |x::r,n=>if(!(g x (Γ Δ (d+1)) n).1)=Q3 then(Q4,(g x (Γ Δ (d+1)) n).2)else pF g d r (g x (Γ Δ (d+1)) n).2
def DB(g:za->Int->Int->Bool×Int)(c:za->Int->Int->Bool)(d:Int):List za->Int->Bool
 |[],_=>Q3
 |x::r,n=>if c x (Γ Δ (d+1)) n=Q3 then(ite ((!(g x (Γ Δ (d+1)) n).1)=Q3) Q3 (DB g c d r (g x (Γ Δ (d+1)) n).2))else Q4
theorem ztT(m:FK 228 (NU l u))(j:∀id,1<=id->C.ρ0 id=Q2)(d:Int)(x:List za)(q:Io x<=aJ):
  ∀(k i:Nat)(n:Int),Io x-i=k->i<=Io x->DB l u d (x.drop i) n=Q3->Reach (TA l u) C 228 (aa Tryz.f228 12) (JY d x (Io x) i n) (λr h=>avB r=Q1 (pF l d (x.drop i) n).1/\h=[.box [.int .i64 (pF l d (x.drop i) n).2]]):=by
 intro k
 induction k with
 | zero=>
  intro i n p o c;obtain rfl:i=Io x:=by omega
  refine zF (Cx m) (YM l u) j (RZ l u _ _ _ _ _) ?_;simp only[zG,Tr.val_brF,jM];exact⟨rfl,rfl⟩
 | succ k I=>
  intro i n p o c;have a:i<Io x:=by omega
  refine zF (Cx m) (YM l u) j (RZ l u _ _ _ _ _) ?_;rw[fO a]at c|-;rw[DB]at c;have b:=ru c;simp only[zL a,zz a,cP x _ a,za.eta,Tr.val_brT,Tr.val_chkT,b.1,zt i ow];refine mU (λh=>?_) (λh=>?_)
  .rw[pF,ze h];exact⟨rfl,rfl⟩
  .rw[pF,zg (nD h)];have g:=b.2;rw[zg (nD h)]at g;exact I (i+1) _ ow ow g
def AN(g:za->Int->Int->Bool×Int)(e:za)(d n:Int):Bool×Int:=if(cond (Q0 (d>12)) Q3 (cond (Q0 (Γ Δ (n+1)>60)) Q3 ((↑e.l.length:Int)!=dm e.op)))=Q3 then(Q4,Γ Δ (n+1))else if(e.op==ot)=Q3 then(cond (e.s==[]) (bh e.v) Q4,Γ Δ (n+1))else if(e.op==eK)=Q3 then(cond (bu e.v) (cond (eo e.s) (!jw e.s) Q4) Q4,Γ Δ (n+1))else if(cond (!bu e.v) Q3 (!e.s==[]))=Q3 then(Q4,Γ Δ (n+1))else pF g d e.l (Γ Δ (n+1))
def RI(g:za->Int->Int->Bool×Int)(c:za->Int->Int->Bool)(e:za)(d n:Int):Bool:=if(cond (Q0 (d>12)) Q3 (cond (Q0 (Γ Δ (n+1)>60)) Q3 ((↑e.l.length:Int)!=dm e.op)))=Q3 then Q3 else if(e.op==ot)=Q3 then Q3 else if(e.op==eK)=Q3 then Q3 else if(cond (!bu e.v) Q3 (!e.s==[]))=Q3 then Q3 else DB g c d e.l (Γ Δ (n+1))
theorem zh2{g:za->Int->Int->Bool×Int}(k:FK 228 (NU g u)):FK 228 (NU (AN g) (RI g u)):=by
 refine dc (E:=TA g u) (YM g u) λx p o a C j=>?_
 unfold zi5 at a;split at a
 .rename_i e d h n;simp only[Tr.val]at a;split at a
  .rename_i c;simp only[bj]at a;subst a;refine Reach.toBool ?_;refine zF (n0:=1) (Cx k) (YM g u) j (zuS g u e d n) ?_;generalize i:AN g e d n=y;unfold AN at i;unfold RI at c;repeat' (refine mU (λb=>?_) (λb=>?_)<;>first|(rw[ze b]at i c)|(rw[zg (nD b)]at i c))
   all_goals subst i
   .exact⟨rfl,rfl⟩
   .exact⟨rfl,rfl⟩
   .exact⟨rfl,rfl⟩
   .exact⟨rfl,rfl⟩
   .exact Reach.len 73 .expr e.l rfl λm=>ztT k j d e.l m _ 0 _ rfl (aL _) c
  .simp at a
 .simp at a
mutual
def iu:Nat->za->Int->Int->Bool×Int
 |0=>λ_ _ _=>(Q4,0)
 |n+1=>AN (iu n)
def vu:Nat->za->Int->Int->Bool
 |0=>λ_ _ _=>Q4
 |n+1=>RI (iu n) (vu n)
end
theorem Vf:∀n,FK 228 (NU (iu n) (vu n))
 | 0=>by
  have h:FK 228 (aW [Q2,Q1 .expr,Q1 zj] (λ_ _=>.err)):=dc (YM (λ_ _ _=>(Q4,0)) (λ_ _ _=>Q4)) (E:=QV) λx c b a=>by simp at a
  refine AS (ι:=Unit) (Gs:=λ_ _ _=>.err) (λ_=>h) λx c b a=>?_
  unfold zi5 at a;split at a
  .simp[Tr.val,vu]at a
  .simp at a
 |n+1=>zh2 (Vf n)
def F37:z8:=NU (iu 16) (vu 16)
theorem zop:FK 228 F37:=Vf 16
def Gm:=QV.add 228 F37
theorem w9:zu Gm:=Gl.add zop
end
end Cad
