/- Values. -/
import Derived.Test.YtjdjldbhjmgmkaaGreatDoorM08
namespace Cad
open Go Go.Proofs
open List renaming length->Io,drop->Qh,take->Qg,length->X
open IntKind renaming wrap->Γ,i64->Δ
open AO renaming box->Qa
open Sh renaming bool->Q7,str->Q6,expr->Q5
open Bool renaming false->Q4,true->Q3,true->O,false->S
open Option renaming none->Q2,some->Q1,some->M
open Decidable renaming decide->Q0,decide->N
open Int (toNat)
open Int renaming toNat->Z
open Tr (chk br)
open AV (nils agg tup ptr kb sl)
open AV renaming str->I,sl->T
open Cad renaming ai->L,Sem->J,ow->W
noncomputable section
def uY(x h:zp):zp:=if(!fJ x h)=O then(0,0,[])else ee (N (aG x h<0))
theorem zvm:zZ uC.P 234 Tryz.f234 2:=cI kw
theorem zx3(x h:zp):rn uC 0 (λ_=>{ }) Tryz.f234 [zX ze x,zX ze h] []=br (!fJ x h) (Tr.ok (zT.ret (agg [L 0,L 0,I []]) [])) (Tr.ok (zT.ret (agg [L (ee (N (aG x h<0))).1,L (ee (N (aG x h<0))).2.1,I (ee (N (aG x h<0))).2.2]) [])):=kw
def F43:ah:=aX [ze,ze] [ze] λx=>(uY x.1 x.2.1,())
theorem zrm:FK 234 F43:=by
 refine aw zvm λx C h=>?_
 refine bA lJ zvm (λid _=>h id) (zx3 x.1 x.2.1) ?_;simp only[Tr.val,uY];repeat' split
 all_goals rfl
def HA(x:zp):zp:=if N ((X x.2.2:Int)>60)=O then(x.1,x.2.1,Qg (Z 60-Z 0) (Qh (Z 0) x.2.2))else x
def PG(x:zp):Bool:=bif N ((X x.2.2:Int)>60)then N (0<=0)&&N (0<=60)&&N (60<=(X x.2.2:Int))else O
theorem zu6:zZ uC.P 41 Tryz.f41 1:=cI kw
theorem zxJ(x:zp):rn uC 0 (λ_=>{ }) Tryz.f41 [zX ze x] []=br (N ((X x.2.2:Int)>60)) (chk (N (0<=0)&&N (0<=60)&&N (60<=(X x.2.2:Int))) (Tr.ok (zT.ret (agg [L x.1,L x.2.1,I (Qg (Z 60-Z 0) (Qh (Z 0) x.2.2))]) []))) (Tr.ok (zT.ret (agg [L x.1,L x.2.1,I x.2.2]) [])):=kw
def F14:ah:=ac [ze] [ze] (λx=>PG x.1) λx=>(HA x.1,())
theorem zhC:FK 41 F14:=by
 refine aZ zu6 λx a C h=>?_
 refine bA lJ zu6 (λid _=>h id) (zxJ x.1) ?_;simp only[PG,Bool.cond_eq_ite]at a;simp only[Tr.val,HA];repeat' split
 all_goals first|rfl|simp_all
def kf(x:J Q6):J Q6:=if N ((X x:Int)>20)=O then Qg (Z 20-Z 0) (Qh (Z 0) x)else x
def Uz(x:J Q6):Bool:=bif N ((X x:Int)>20)then N (0<=0)&&N (0<=20)&&N (20<=(X x:Int))else O
theorem zu5:zZ uC.P 185 Tryz.f185 1:=cI kw
theorem zxI(x:J Q6):rn uC 0 (λ_=>{ }) Tryz.f185 [zX Q6 x] []=br (N ((X x:Int)>20)) (chk (N (0<=0)&&N (0<=20)&&N (20<=(X x:Int))) (Tr.ok (zT.ret (I (Qg (Z 20-Z 0) (Qh (Z 0) x))) []))) (Tr.ok (zT.ret (I x) [])):=kw
def F12:ah:=ac [Q6] [Q6] (λx=>Uz x.1) λx=>(kf x.1,())
theorem zhB:FK 185 F12:=by
 refine aZ zu5 λx a C h=>?_
 refine bA lJ zu5 (λid _=>h id) (zxI x.1) ?_;simp only[Uz,Bool.cond_eq_ite]at a;simp only[Tr.val,kf];repeat' split
 all_goals first|rfl|simp_all
def F79:ah:=bj (List.replicate 2 Q2) (fg uC Tryz.f311 (List.replicate 2 Q2))
theorem zrQ:FK 311 F79:=cj _ lJ (cI kw)
def F18:ah:=bj (List.replicate 2 Q2) (fg uC Tryz.f109 (List.replicate 2 Q2))
theorem zq4:FK 109 F18:=cj _ lJ (cI kw)
def zhW:=uC.addL [(234,F43),(41,F14),(185,F12),(311,F79),(109,F18)]
theorem yR:zw zhW:=lJ.addL<|fc zrm<|fc zhC<|fc zhB<|fc zrQ<|fc zq4 jb
open Go
def vY:(ks:List Sh)->zF (ks.map M++[Q2])->zF (ks.map M)×AV
 |[],x=>((),x.1)
 |_::ks,x=>((x.1,(vY ks x.2).1),(vY ks x.2).2)
theorem DG:∀(ks:List Sh)(x:zF (ks.map M++[Q2])),jn (ks.map M++[Q2]) x=jn (ks.map M) (vY ks x).1++[(vY ks x).2]
 |[],_=>rfl
 |s::ks,x=>congrArg (zX s x.1::·) (DG ks x.2)
def ZG(k:Nat):AV->Bool
 |.clo (.func j) [] []=>j==k
 |_=>S
variable {n:Nat}
theorem ZH{F:AV}(h:ZG n F=O):F=.clo (.func n) [] []:=by
 unfold ZG at h;split at h
 .rw[bW]at h;rw[h]
 .cases h
abbrev Xn(ks outs:List Sh):=Nat×(zF (ks.map M)->Bool)×(zF (ks.map M)->zF (outs.map M))
def zdH{ks outs:List Sh}(v:AV):List (Xn ks outs)->Option ((zF (ks.map M)->Bool)×(zF (ks.map M)->zF (outs.map M)))
 |[]=>Q2
 |(k,a)::r=>if ZG k v then M a else zdH v r
theorem M4{ks outs:List Sh}{F:AV}{a}:∀{l:List (Xn ks outs)},zdH F l=M a->∃k,F=.clo (.func k) [] []/\(k,a)∈l
 |[],h=>by cases h
 | (k,b)::r,h=>by
  unfold zdH at h;split at h
  next d=>cases h;exact⟨k,ZH d,uz ..⟩
  .have⟨j,x,c⟩:=M4 h;exact⟨j,x,mX _ c⟩
def T6(ks outs:List Sh)(l:List (Xn ks outs)):fz (ks.map M++[Q2]):=λx h=>match h with
 | []=>match zdH (vY ks x).2 l with
  |some (c,g)=>.chk (c (vY ks x).1) (.ok (BY outs (g (vY ks x).1),[]))
  |none=>.err
 |_=>.err
def zaW(ks outs:List Sh)(l:List (Xn ks outs)):ah:=bj (ks.map M++[Q2]) (T6 ks outs l)
variable {P:Program}{g:Nat->AV}{E:ct}{h:FuncId}{f:Func}{ks outs:List Sh}
theorem PO{l:List (Xn ks outs)}(n:zZ E.P h f (X ks+1))
  (b:∀j c a,(j,c,a)∈l->∀x,c x=O->∀C:eW,(∀id,C.ρ0 id=Q2)->Reach E C h (bu f) (bl f.ntmps (jn (ks.map M) x++[.clo (.func j) [] []]) []) (λr b=>bb b outs r=M (a x))) (s:E.P=P:=by rfl) (q:E.gl=g:=by rfl):nZ P g h (zaW ks outs l):=by
 subst s q;refine dw (by simpa using n) λx v u d C k=>?_
 unfold T6 at d;split at d
 .split at d
  .rename_i c a i;have⟨j,p,o⟩:=M4 i;simp only[Tr.val]at d;split at d
   next m=>simp only[bG]at d;subst d;rw[DG,p];exact Reach.plain (λid=>k id (by simp)) (b j c a o _ m C (λid=>k id (by simp)))
   .simp at d
  .simp at d
 .simp at d
inductive CP where
 |d (s:Sh)
 |nil
 |vec (e:Sh)
@[reducible] def zq:List CP->Type
 |[]=>Unit
 |.d s::r=>J s×zq r
 |.nil::r=>zq r
 |.vec e::r=>List (J e)×zq r
def fC:(n:Nat)->(p:List CP)->zq p->List AV
 |_,[],_=>[]
 |n,.d s::r,y=>zD s y.1++fC n r y.2
 |n,.nil::r,y=>.nils::fC n r y
 |n,.vec _::r,y=>.vec n::fC (n+1) r y.2
def il:(p:List CP)->zq p->List AO
 |[],_=>[]
 |.d _::r,y=>il r y.2
 |.nil::r,y=>il r y
 |.vec e::r,y=>.vec e y.1::il r y.2
def bc(ps:List CP)(y:zq ps):List AO:=.box (fC 1 ps y)::il ps y
def bq:List CP->Nat
 |[]=>0
 |.vec _::r=>bq r+1
 |_::r=>bq r
theorem cz:∀(p:List CP)(y:zq p),(il p y).length=bq p
 |[],_=>rfl
 |.d _::r,y=>cz r y.2
 |.nil::r,y=>cz r y
 |.vec _::r,y=>congrArg (·+1) (cz r y.2)
def dg(hp:Nat->AO):(n:Nat)->(p:List CP)->List AV->Option (zq p)
 |_,[],[]=>M ()
 | n,.d s::r,cs=>match dB (fun _=>.dead) s cs with
  | some (x,cs')=>match dg hp n r cs' with
   |some y=>M (x,y)
   |none=>Q2
  |none=>Q2
 |n,.nil::r,.nils::cs=>dg hp n r cs
 | n,.vec e::r,.vec id::cs=>if id=n then match hp id with
   | .vec a l=>if h:a=e then match dg hp (n+1) r cs with
     |some y=>M (h▸l,y)
     |none=>Q2
    else Q2
   |_=>Q2
  else Q2
 |_,_,_=>Q2
section
variable {w:World} {U:Nat->Prop} {ρ:Nat->Option Value}
variable {m:List AV}{A:List Value}
theorem di.app{H:List AV}{g:List Value}(h:di w U ρ m A)(b:di w U ρ H g):di w U ρ (m++H) (A++g) where
 len:=by simp[h.len,b.len]
 rv:=by
  intro j c v x a;by_cases d:j<X m
  .rw[qK d]at x;rw[qK (by rw[<-h.len];exact d)]at a;exact h.rv j c v x a
  .rw[pn W]at x;rw[pn (by rw[<-h.len];omega),<-h.len]at a;exact b.rv _ c v x a
variable {v:Value}
theorem di.tail{F:AV}(h:di w U ρ (F::m) (v::A)):di w U ρ m A:=
 ⟨by have:=h.len;simpa using this,λj c x a b=>h.rv (j+1) c x (by simpa using a) (by simpa using b)⟩
theorem di.consH{F:AV}(d:Rv w U ρ F v)(b:di w U ρ m A):di w U ρ (F::m) (v::A) where
 len:=by simp[b.len]
 rv:=by
  intro j c x h a;cases j with
  |zero=>simp at h a;subst h;subst a;exact d
  |succ j=>exact b.rv j c x (by simpa using h) (by simpa using a)
theorem gD{hp:Nat->AO}:∀(B:List CP)(n:Nat)(cs:List AV)(y:zq B)(a:List Value),dg hp n B cs=Q1 y->di w U ρ cs a->
  di w U ρ (fC n B y) a/\∀(j:Nat) o,(il B y)[j]?=M o->hp (n+j)=o
 |[],n,[],y,a,h,g=>⟨g,by simp[il]⟩
 |[],n,_::_,y,a,h,g=>by simp[dg]at h
 | .d s::r,n,cs,y,a,h,g=>by
  unfold dg at h;split at h
  .rename_i x cs' hi;split at h
   .rename_i F D;cases h
    have hk:=pK (w:=w) (U:=U) (U':=U) (ρ:=ρ) (hp:=λ_=>.dead) (λ_ h=>h) s cs x cs' (λj=>a.getD j undef) hi
     (λj c k=>by
      have u:j<X a:=by rw[<-g.len];exact(dC.1 k).1
      have:=g.rv j c a[j] k (af u);simpa[List.getD,af u]using this)
     (λid _=>⟨trivial,λb H=>by simp[aq,AO.owns]at H⟩)
    have⟨k1,G,k3⟩:=hk;have m:di w U ρ cs' (a.drop s.size):=by
     refine⟨by rw[G];simp[g.len],λj c v k i=>?_⟩;rw[G,Bm]at k;rw[Bm]at i;exact g.rv _ c v k i
    have⟨z,A⟩:=gD r n cs' F (a.drop s.size) D m;refine⟨?_,A⟩;have p:di w U ρ (zD s x) (a.take s.size):=by
     refine⟨by rw[au];have:=g.len;simp;omega,λj c v k i=>?_⟩;have q:j<s.size:=by rw[<-au s x];exact(dC.1 k).1
     rw[M1,zf q]at i;have:=k3 j c k;simpa[List.getD,i]using this
    have:=p.app z;rw[List.take_append_drop]at this;exact this
   .cases h
  .cases h
 | .nil::r,n,.nils::cs,y,a,h,g=>by
  match a,g with
  |[],g=>have:=g.len;simp at this
  | v::vs,g=>
   have i:=g.rv 0 _ v rfl rfl;have⟨z,A⟩:=gD r n cs y vs h g.tail;exact⟨di.consH i z,A⟩
 | .vec e::r,n,.vec id::cs,y,a,h,g=>by
  match a,g with
  |[],g=>have:=g.len;simp at this
  | v :: vs,g=>
   have i:=g.rv 0 _ v rfl rfl;unfold dg at h;split at h
   .rename_i C;subst C;split at h
    .rename_i e' l ho;split at h
     .rename_i P;subst P;split at h
      .rename_i F D;cases h;have⟨z,A⟩:=gD r (id+1) cs F vs D g.tail;refine⟨di.consH i z,λj o q=>?_⟩;cases j with
       |zero=>simp[il]at q;subst q;exact ho
       | succ j=>
        have:=A j o (by simpa[il]using q);rw[<-this];congr 1;omega
      .cases h
     .cases h
    .cases h
   .cases h
 |.nil::_,_,[],_,_,h,_=>by simp[dg]at h
 |.vec _::_,_,[],_,_,h,_=>by simp[dg]at h
 |.nil::_,_,.any::_,_,_,h,_|.nil::_,_,.kb _::_,_,_,h,_|.nil::_,_,.bool _::_,_,_,h,_|.nil::_,_,.int _ _::_,_,_,h,_|.nil::_,_,.str _::_,_,_,h,_
 |.nil::_,_,.sl _ _::_,_,_,h,_|.nil::_,_,.vec _::_,_,_,h,_|.nil::_,_,.ptr _ _::_,_,_,h,_|.nil::_,_,.vptr _ _ _ _::_,_,_,h,_|.nil::_,_,.eptr _ _::_,_,_,h,_
 |.nil::_,_,.nilp::_,_,_,h,_|.nil::_,_,.agg _::_,_,_,h,_|.nil::_,_,.tup _::_,_,_,h,_|.nil::_,_,.clo _ _ _::_,_,_,h,_|.nil::_,_,.nilf::_,_,_,h,_
 |.nil::_,_,.mp _::_,_,_,h,_|.nil::_,_,.ifc _::_,_,_,h,_|.nil::_,_,.tab _ _::_,_,_,h,_|.nil::_,_,.gint::_,_,_,h,_=>by simp[dg]at h
 |.vec _::_,_,.any::_,_,_,h,_|.vec _::_,_,.kb _::_,_,_,h,_|.vec _::_,_,.bool _::_,_,_,h,_|.vec _::_,_,.int _ _::_,_,_,h,_|.vec _::_,_,.str _::_,_,_,h,_
 |.vec _::_,_,.sl _ _::_,_,_,h,_|.vec _::_,_,.nils::_,_,_,h,_|.vec _::_,_,.ptr _ _::_,_,_,h,_|.vec _::_,_,.vptr _ _ _ _::_,_,_,h,_|.vec _::_,_,.eptr _ _::_,_,_,h,_
 |.vec _::_,_,.nilp::_,_,_,h,_|.vec _::_,_,.agg _::_,_,_,h,_|.vec _::_,_,.tup _::_,_,_,h,_|.vec _::_,_,.clo _ _ _::_,_,_,h,_|.vec _::_,_,.nilf::_,_,_,h,_
 |.vec _::_,_,.mp _::_,_,_,h,_|.vec _::_,_,.ifc _::_,_,_,h,_|.vec _::_,_,.tab _ _::_,_,_,h,_|.vec _::_,_,.gint::_,_,_,h,_=>by simp[dg]at h
end
variable {C:eW}{w:World}{U:Nat->Prop}{ρ:Nat->Option Value}{cs:List AV}{os:List AO}{p:List CP}
theorem fB.box{y:zq p}(i:fB C w U ρ (λj=>((Qa cs::os).getD j .dead)))(hl:X os=bq p)
  (F:dg (lc (.box cs::os)) 1 p cs=M y):fB C w U ρ (λj=>(bc p y).getD j .dead):=by
 have n:bz w U ρ 0 (.box cs):=i.ob 0;have⟨b,h,d,q,s,u,z,A⟩:=n;have⟨H,P⟩:=gD p 1 cs y d.toList F z;have c:∀id,id≠0->(bc p y).getD id .dead=(Qa cs::os).getD id .dead:=by
  intro id x;obtain⟨j,rfl⟩:∃j,id=j+1:=⟨id-1,W⟩;by_cases k:j<(il p y).length
  .have:=P j _ (af k);unfold bc;simp only[DB];rw[bx,af k];simp only[lc,kS 1 j,DB]at this;simpa using this.symm
  .have B:X os<=j:=by rw[cz]at k;omega
   unfold bc;simp only[DB];rw[bx,bx,fe W,fe B]
 have a:∀id b,aq ρ id ((bc p y).getD id .dead) b->aq ρ id ((Qa cs::os).getD id .dead) b:=by
  intro id g ho;by_cases x:id=0
  .subst x;have⟨_,v,G,D⟩:=ho;exact⟨rfl,v,G,D⟩
  .rw[c id x]at ho;exact ho
 refine⟨λid=>?_,λl m g o1 o2=>i.inj l m g (a _ _ o1) (a _ _ o2),λid g o=>i.blk id g (a _ _ o)⟩;by_cases x:id=0
 .subst x;exact⟨b,h,d,q,s,u,H,A⟩
 .show bz w U ρ id ((bc p y).getD id .dead);rw[c id x];exact i.ob id
def vn(p:List CP)(outs:List Sh)(r:AV)(h:List AO):Option (zF (outs.map M)×zq p):=match h with
 | .box c::os=>if Io os=bq p then match bb [] outs r,dg (lc (.box c::os)) 1 p c with
   |some a,M y=>M (a,y)
   |_,_=>Q2
  else Q2
 |_=>Q2
def zst(a:List CP)(ks outs:List Sh)(p:List CP)(c:zq a->zF (ks.map M)->Bool)(g:zq a->zF (ks.map M)->zF (outs.map M)×zq p):fz (Q2::ks.map M):=λx h=>match x.1,h with
 | .ptr 0 0,.box b::os=>if Io os=bq a then match dg (lc (.box b::os)) 1 a b with
   |some y=>.chk (c y x.2) (.ok (BY outs (g y x.2).1,bc p (g y x.2).2))
   |none=>.err
  else .err
 |_,_=>.err
def ro(ps:List CP)(ks outs:List Sh)(p:List CP)(c:zq ps->zF (ks.map M)->Bool)(g:zq ps->zF (ks.map M)->zF (outs.map M)×zq p):ah:=bj (Q2::ks.map M) (zst ps ks outs p c g)
theorem uB(p:List CP)(y:zq p):(bc p y).length=bq p+1:=by simp[bc,cz]
theorem JB{r:AV}{y:zF (outs.map M)}{v:Value}(h:bb [] outs r=M y)(j:Rv w U ρ r v):Rv w U ρ (BY outs y) v:=by
 have g:∀id,bz w U ρ id (lc [] id)/\∀b,aq ρ id (lc [] id) b->¬U b:=λid=>⟨by simp[lc,bz],λb d=>by simp[lc,aq,AO.owns]at d⟩
 have a:∀(outs:List Sh)(y:zF (outs.map M))(c:List AV),np (lc []) (λi=>i) (outs.map M) c=M y->Rv w U ρ (.tup c) v->Rv w U ρ (.tup (jn (outs.map M) y)) v:=by
  intro outs y c p l;cases l with
  |tup _ m n k=>
  have:=(kJ (w:=w) (U:=U) (ρ:=ρ) (U':=U) (ρ':=ρ) (hp:=lc []) (f:=λi=>i) (λb d=>d) (outs.map M) c m _ (rO outs c y p) ⟨n,k⟩ (λid _=>g id)
   (λid _=>rfl)).1
  simp only[qx,Bn,zC,zm,List.map_id']at this;exact .tup _ m this.len this.rv
 match outs,y,h with
 | [s],y,h=>
  simp only[bb]at h;split at h
  next x o=>cases h;exact DU o j (λb d=>d) (λid _=>g id)
  .cases h
 | [],y,h=>
  simp only[bb]at h;cases r with
  |tup c=>exact a [] y _ h j
  |_=>cases h
 | q::s2::ss,y,h=>
  simp only[bb]at h;cases r with
  |tup c=>exact a _ y _ h j
  |_=>cases h
variable {q:List CP}
theorem zdw{c:zq p->zF (ks.map some)->Bool}{d:zq p->zF (ks.map some)->zF (outs.map some)×zq q}(hf:zZ E.P h f (X ks+1))
  (i:∀y x,c y x=O->∀C:eW,(∀id,bq p+1<=id->C.ρ0 id=Q2)->Reach E C h (bu f) (bl f.ntmps (.ptr 0 0::jn (ks.map M) x) (bc p y)) (λr i=>vn q outs r i=M (d y x))) (qp:E.P=P:=by rfl) (qg:E.gl=g:=by rfl):
  nZ P g h (ro p ks outs q c d):=by
 subst qp qg;refine dw (by simpa using hf) λx h0 h8 l C hC=>?_
 obtain⟨x0,x⟩:=x;unfold zst at l;simp only at l;split at l
 .rename_i cs os;split at l
  .rename_i s;split at l
   .rename_i y hy;simp only[Tr.val]at l;split at l
    .rename_i hc;simp only[bG]at l;subst l;have hR:=i y x hc C (λid k=>hC id (by simpa[s]using k));intro b A a w U ρ h1 h2 m hW;have hH:fB C w U ρ (λj=>((Qa cs::os).getD j .dead)):=m.hp
     have u:Cn C (bl f.ntmps (.ptr 0 0::jn (ks.map M) x) (bc p y)) a w U ρ:=
      ⟨m.tm,hH.box s hy,λid k=>m.new id (by have k:(bc p y).length<=id:=k;rw[uB]at k;simpa[bl,s]using k),m.df,m.r0⟩
     obtain⟨e,w',fr,⟨v,r,h',U',ρ',he,n,h4,B,z,h3,D⟩,G,H,hl⟩:=hR b A a w U ρ h1 h2 u hW;unfold vn at n;split at n
     .rename_i h6 h7;split at n
      .rename_i o;split at n
       next a' y' F h5=>simp only[bG]at n;refine⟨e,w',fr,⟨v,_,_,U',ρ',he,by rw[<-n],JB F h4,B.box o h5,λid k=>z id (by rw[uB]at k;simpa[o]using k),h3,D⟩,G,H,hl⟩
       .cases n
      .cases n
     .cases n
    .simp at l
   .simp at l
  .simp at l
 .simp at l
def w8(E:ct)(n0:Nat)(keep:Nat->aY)(f:Func)(gas:Nat):Nat->List Item->St->Option (AV×List AO)
 |0,_,_=>Q2
 | n+1,K,a=>match (run E n0 keep f.results.toList gas K a).val with
  |some (.ret v h)=>M (v,h)
  |some (.head _ x s)=>w8 E n0 keep f gas n x s
  |_=>Q2
theorem ms{E:ct}{C:eW}{h:FuncId}{f:Func}{Q:AV->List AO->Prop}{n n0:Nat}(c:zw E)(d:zZ E.P h f n)(b:∀id,n0<=id->C.ρ0 id=Q2){keep:Nat->aY}{gas:Nat}:
  ∀(a:Nat)(K:List Item)(s:St)(r:AV×List AO),w8 E n0 keep f gas a K s=M r->Q r.1 r.2->Reach E C h K s Q
 |0,_,_,_,x,_=>by cases x
 | a+1,K,s,r,x,k=>by
  unfold w8 at x;split at x
  next v m g=>cases x;exact o7 c d b g k
  next j l i g=>exact o7 c d b g (ms c d b a l i r x k)
  .cases x
def cH:(outs:List Sh)->zF (outs.map M)
 |[]=>()
 |s::r=>(zi s,cH r)
def gg:(ps:List CP)->zq ps
 |[]=>()
 |.d s::r=>(zi s,gg r)
 |.nil::r=>gg r
 |.vec _::r=>([],gg r)
def bF:List Nat->(p:List CP)->zq p->List AV
 |_,[],_=>[]
 |n,.d s::r,y=>zD s y.1++bF n r y.2
 |n,.nil::r,y=>.nils::bF n r y
 |n,.vec _::r,y=>.vec (n.headD 0)::bF n.tail r y.2
def itO(E:ct)(keep:Nat->aY)(f:Func)(gas n:Nat)(ks outs:List Sh)(x:zF (ks.map M)):Option (zF (outs.map M)):=
 (w8 E 0 keep f gas n (bu f) (bl f.ntmps (jn (ks.map M) x) [])).bind λr=>bb r.2 outs r.1
def RD(ks outs:List Sh)(g:zF (ks.map M)->Option (zF (outs.map M))):ah:=ac ks outs (λx=>(g x).isSome) λx=>(g x).getD (cH outs)
variable {keep:Nat->aY}{gas:Nat}
theorem zlO{c:Nat}(l:zw E)(d:zZ E.P h f (X ks))(m:E.P=P:=by rfl)(q:E.gl=g:=by rfl):nZ P g h (RD ks outs (itO E keep f gas c ks outs)):=by
 subst m q;refine aZ d λx b C k=>?_
 rw[Option.isSome_iff_exists]at b;have⟨y,a⟩:=b;rw[a];unfold itO at a;rw[gA]at a;have⟨r,i,j⟩:=a;exact ms l d (λid _=>k id) c _ _ r i j
def itB(E:ct)(keep:Nat->aY)(f:Func)(gas n:Nat)(h:List CP)(ks outs:List Sh)(p:List CP)(y:zq h)(x:zF (ks.map M)):Option (zF (outs.map M)×zq p):=
 (w8 E (bq h+1) keep f gas n (bu f) (bl f.ntmps (.ptr 0 0::jn (ks.map M) x) (bc h y))).bind λr=>vn p outs r.1 r.2
def zwO(h:List CP)(ks outs:List Sh)(p:List CP)(g:zq h->zF (ks.map M)->Option (zF (outs.map M)×zq p)):ah:=
 ro h ks outs p (λy x=>(g y x).isSome) λy x=>(g y x).getD (cH outs,gg p)
theorem zdx{c:Nat}(l:zw E)(d:zZ E.P h f (X ks+1))(n:E.P=P:=by rfl)(m:E.gl=g:=by rfl):nZ P g h (zwO p ks outs q (itB E keep f gas c p ks outs q)):=by
 subst n m;refine zdw d λy x b C k=>?_
 rw[Option.isSome_iff_exists]at b;have⟨z,a⟩:=b;rw[a];unfold itB at a;rw[gA]at a;have⟨r,i,j⟩:=a;exact ms l d k c _ _ r i j
theorem PP{a:zF (ks.map M)->Option (zF (outs.map M))}{c:zF (ks.map M)->Bool}{i:zF (ks.map M)->zF (outs.map M)}(b:nZ P g h (RD ks outs a))(k:∀x,c x=O->a x=M (i x)):nZ P g h (ac ks outs c i):=by
 refine Cq (ι:=Unit) (Gs:=λ_=>gp ks outs (λx=>(a x).isSome) λx=>(a x).getD (cH outs)) (λ_=>b) λx m l d=>⟨(),?_⟩
 unfold gp at d|-;split at d
 .simp only[Tr.val]at d|-;split at d
  next j=>simp only[k x j,dv,zj,bI];exact d
  .simp at d
 .simp at d
theorem iX{a:zF (ks.map M)->Option (zF (outs.map M))}{c:zF (ks.map M)->zF (outs.map M)}(b:nZ P g h (RD ks outs a))(d:∀x,a x=M (c x)):nZ P g h (aX ks outs c):=
 SK (PP b λx _=>d x)
theorem zdy{c:zF (ks.map M)->Bool}{a:zF (ks.map M)->zF (outs.map M)}(b:zw E)(i:zZ E.P h f (X ks))
  (d:∀x,c x=(itO E keep f gas n ks outs x).isSome) (j:∀x,a x=(itO E keep f gas n ks outs x).getD (cH outs)) (k:E.P=P:=by rfl) (q:E.gl=g:=by rfl):nZ P g h (ac ks outs c a):=by
 subst k q;obtain rfl:c=λx=>(itO E keep f gas n ks outs x).isSome:=funext d
 obtain rfl:a=λx=>(itO E keep f gas n ks outs x).getD (cH outs):=funext j
 exact zlO b i
theorem XC{c:zq p->zF (ks.map M)->Bool}{a:zq p->zF (ks.map M)->zF (outs.map M)×zq q}(b:zw E)(i:zZ E.P h f (X ks+1))
  (d:∀y x,c y x=(itB E keep f gas n p ks outs q y x).isSome) (j:∀y x,a y x=(itB E keep f gas n p ks outs q y x).getD (cH outs,gg q)) (l:E.P=P:=by rfl) (k:E.gl=g:=by rfl):nZ P g h (ro p ks outs q c a):=by
 subst l k;obtain rfl:c=λy x=>(itB E keep f gas n p ks outs q y x).isSome:=funext λy=>funext λx=>d y x
 obtain rfl:a=λy x=>(itB E keep f gas n p ks outs q y x).getD (cH outs,gg q):=funext λy=>funext λx=>j y x
 exact zdx b i
abbrev az:=AV×List AO
variable {α:Type}
def Tr.map{β:Type}(f:α->β):Tr α->Tr β
 |.err=>.err
 |.chk c t=>.chk c (t.map f)
 |.br c t e=>.br c (t.map f) (e.map f)
 |.ok a=>.ok (f a)
theorem Tr.val_map{α β:Type}(f:α->β):∀t:Tr α,(t.map f).val=t.val.map f
 |.err=>rfl
 |.chk c t=>by simp only[Tr.map,Tr.val,val_map f t];split<;>rfl
 |.br c t e=>by simp only[Tr.map,Tr.val,val_map f t,val_map f e];split<;>rfl
 |.ok _=>rfl
variable {σ:Type}
abbrev Tr.to(s:σ):Tr (σ⊕az):=.ok (.inl s)
abbrev Tr.re(v:AV)(h:List AO):Tr (σ⊕az):=.ok (.inr (v,h))
def ej{σ:Type}(t:σ->Tr (σ⊕az)):Nat->σ->Option az
 |0,_=>Q2
 | n+1,s=>match (t s).val with
  |some (.inl h)=>ej t n h
  |some (.inr r)=>M r
  |none=>Q2
def bT(t:σ->Tr (σ⊕az))(n:Nat)(i:Tr (σ⊕az)):Option az:=match i.val with
 |some (.inl s)=>ej t n s
 |some (.inr r)=>M r
 |none=>Q2
def lf(f:Func)(e:σ->Nat×St):σ⊕az->zT
 |.inl s=>.head (e s).1 (ap f (e s).1) (e s).2
 |.inr r=>.ret r.1 r.2
def e0:Empty->Nat×St:=λx=>nomatch x
def t0:Empty->Tr (Empty⊕az):=λx=>nomatch x
section
variable {σ:Type} {E:ct} {n0:Nat} {keep:Nat->aY} {f:Func} {gas:Nat} {e:σ->Nat×St} {t:σ->Tr (σ⊕az)}
theorem Tx(h:∀s,run E n0 keep f.results.toList gas (ap f (e s).1) (e s).2=(t s).map (lf f e)):∀(n:Nat)(s:σ),w8 E n0 keep f gas n (ap f (e s).1) (e s).2=ej t n s
 |0,_=>rfl
 | n+1,s=>by
  rw[w8,h s,Tr.val_map,ej];cases(t s).val with
  |none=>rfl
  | some l=>
   cases l with
   |inl x=>exact Tx h n x
   |inr r=>rfl
theorem jY(x:∀s,run E n0 keep f.results.toList gas (ap f (e s).1) (e s).2=(t s).map (lf f e)){K:List Item}{a:St}{v:Tr (σ⊕az)}(h:run E n0 keep f.results.toList gas K a=v.map (lf f e))(n:Nat):w8 E n0 keep f gas (n+1) K a=bT t n v:=by
 rw[w8,h,Tr.val_map,bT];cases v.val with
 |none=>rfl
 | some l=>
  cases l with
  |inl s=>exact Tx x n s
  |inr r=>rfl
end
def ar(outs:List Sh)(t:σ->Tr (σ⊕az))(n:Nat)(i:Tr (σ⊕az)):Option (zF (outs.map M)):=(bT t n i).bind λr=>bb r.2 outs r.1
theorem XA{c:Nat}{e:σ->Nat×St}{t:σ->Tr (σ⊕az)}{i:zF (ks.map M)->Tr (σ⊕az)}{d:zF (ks.map M)->Bool}{a:zF (ks.map M)->zF (outs.map M)}
  (l:zw E) (n:zZ E.P h f (X ks)) (j:∀x,run E 0 keep f.results.toList gas (bu f) (bl f.ntmps (jn (ks.map M) x) [])=(i x).map (lf f e))
  (k:∀s,run E 0 keep f.results.toList gas (ap f (e s).1) (e s).2=(t s).map (lf f e))
  (m:∀x,d x=(ar outs t c (i x)).isSome) (o:∀x,a x=(ar outs t c (i x)).getD (cH outs)) (p:E.P=P:=by rfl) (q:E.gl=g:=by rfl):nZ P g h (ac ks outs d a):=by
 subst p q;have b:∀x,itO E keep f gas (c+1) ks outs x=ar outs t c (i x):=by
  intro x;unfold itO ar;rw[jY k (j x)]
 exact zdy (n:=c+1) l n (λx=>by rw[b,m]) (λx=>by rw[b,o])
variable {K:List Item}
theorem LP{m n0:Nat}{e:σ->Nat×St}{t:σ->Tr (σ⊕az)}{i:Tr (σ⊕az)}{d:St}{y:zF (outs.map M)}(k:zw E)(l:zZ E.P h f m)(j:∀id,n0<=id->C.ρ0 id=Q2)
  (a:run E n0 keep f.results.toList gas K d=i.map (lf f e)) (b:∀s,run E n0 keep f.results.toList gas (ap f (e s).1) (e s).2=(t s).map (lf f e)) (x:ar outs t n i=M y):Reach E C h K d (λr x=>bb x outs r=M y):=by unfold ar at x;rw[gA]at x;have⟨r,c,g⟩:=x;rw[<-jY b a n]at c;exact ms k l j (n+1) _ _ r c g
abbrev k0:Nat->aY:=λ_=>{ }
abbrev kG:List (Nat×List Nat)->Nat->aY
 |[],_=>{ }
 |p::r,j=>if j=p.1 then{slots:=p.2}else kG r j
variable {a:Sh}
def o1(o:Option (zF [M a])):J a:=(o.getD (cH [a])).1
def o2{b:Sh}(o:Option (zF [M a,M b])):J a×J b:=((o.getD (cH [a,b])).1,(o.getD (cH [a,b])).2.1)
def o3{b c:Sh}(o:Option (zF [M a,M b,M c])):J a×J b×J c:=((o.getD (cH [a,b,c])).1,(o.getD (cH [a,b,c])).2.1,(o.getD (cH [a,b,c])).q.1)
def FT(ks outs:List Sh)(o:zF (ks.map M)->Option (zF (outs.map M))):ah:=ac ks outs (λx=>(o x).isSome) λx=>(o x).getD (cH outs)
theorem zw.T1{e:σ->Nat×St}{t:σ->Tr (σ⊕az)}{i:zF (ks.map M)->Tr (σ⊕az)}(c:zw E)(gas:Nat:=400)
  (d:(E.P.funcs[h]?,f.name=="runtime.NumGoroutine",f.body.isNone,Q0 (ks.length<=f.ntmps))=(Q1 f,Q4,Q4,Q3):=by kernel_rfl)
  (a:∀x,run E 0 keep f.results.toList gas (bu f) (bl f.ntmps (jn (ks.map M) x) [])=(i x).map (lf f e):=by intro x;kernel_rfl)
  (b:∀s,run E 0 keep f.results.toList gas (ap f (e s).1) (e s).2=(t s).map (lf f e):=by intro s;cases s<;>kernel_rfl) (j:E.P=P:=by rfl) (q:E.gl=g:=by rfl):nZ P g h (FT ks outs λx=>ar outs t n (i x)):=by subst j q;exact XA c (cI d) a b (λ_=>rfl) λ_=>rfl
theorem on0(E:ct)(n0:Nat)(keep:Nat->aY)(f:Func)(gas:Nat):∀s,run E n0 keep f.results.toList gas (ap f (e0 s).1) (e0 s).2=(t0 s).map (lf f e0):=λs=>nomatch s
def kI(outs:List Sh)(p:List CP)(t:σ->Tr (σ⊕az))(n:Nat)(i:Tr (σ⊕az)):Option (zF (outs.map M)×zq p):=(bT t n i).bind λr=>vn p outs r.1 r.2
theorem zlL{c:Nat}{e:σ->Nat×St}{t:σ->Tr (σ⊕az)}{i:zq p->zF (ks.map M)->Tr (σ⊕az)}{d:zq p->zF (ks.map M)->Bool}{a:zq p->zF (ks.map M)->zF (outs.map M)×zq q}
  (l:zw E) (n:zZ E.P h f (X ks+1)) (j:∀y x,run E (bq p+1) keep f.results.toList gas (bu f) (bl f.ntmps (.ptr 0 0::jn (ks.map M) x) (bc p y))=(i y x).map (lf f e))
  (k:∀s,run E (bq p+1) keep f.results.toList gas (ap f (e s).1) (e s).2=(t s).map (lf f e))
  (m:∀y x,d y x=(kI outs q t c (i y x)).isSome) (o:∀y x,a y x=(kI outs q t c (i y x)).getD (cH outs,gg q)) (v:E.P=P:=by rfl) (u:E.gl=g:=by rfl):nZ P g h (ro p ks outs q d a):=by
 subst v u;have b:∀y x,itB E keep f gas (c+1) p ks outs q y x=kI outs q t c (i y x):=by
  intro y x;unfold itB kI;rw[jY k (j y x)]
 exact XC (n:=c+1) l n (λy x=>by rw[b,m]) (λy x=>by rw[b,o])
open Tr (chk br re)
theorem SS(h:Nat->AO)(e:Sh)(l:List (J e)):vj h e (.sl e l)=M l:=by simp[vj]
theorem ld(h:Nat->AO):∀(s:Sh)(x:J s)(r:List AV),dB h s (zD s x++r)=M (x,r)
 |.unit,_,_=>rfl
 |.bool,_,_=>rfl
 |.int k,n,r=>by simp[zD,dB]
 |.str,_,_=>rfl
 | .sl e,l,r=>by
  show(match vj h e (.sl e l)with|some l=>M (l,r)|none=>Q2)=_;rw[SS]
 | .pr a b,x,r=>by
  simp only[zD,dB,M2,ld h a,ld h b]
 | .expr,e,r=>by
  show w6 h _=_;simp only[zD,List.cons_append,HV,w6,SS];rw[show zg.mk e.op (e.v.1,e.v.2.1,e.v.q) e.s e.l=e from zg.eta e]
theorem ki{a:Nat->AO}:∀(p:List CP)(n:Nat)(y:zq p),(∀(j:Nat) o,(il p y)[j]?=M o->a (n+j)=o)->dg a n p (fC n p y)=M y
 |[],_,_,_=>rfl
 | .d s::r,n,y,h=>by
  simp only[fC,dg,ld];rw[ki r n y.2 h]
 | .nil::r,n,y,h=>by
  simp only[fC,dg];exact ki r n y h
 | .vec e::r,n,y,h=>by
  have x:=h 0 (.vec e y.1) rfl;simp only[ve]at x;simp only[fC,dg,zj,x,dite_true]
  rw[ki r (n+1) y.2 (λj o b=>by
   have:=h (j+1) o (by simpa[il]using b);rw[<-this];congr 1;omega)]
variable {ps:List CP}
theorem dM{r:AV}{a:zF (outs.map M)}(y:zq ps)(h:bb [] outs r=M a):vn ps outs r (bc ps y)=M (a,y):=by
 unfold vn bc;simp only[cz,zj,h]
 rw[ki ps 1 y (λj o x=>by
  unfold lc;rw[kS,DB,bx,x];rfl)]
section
variable {σ:Type} {t:σ->Tr (σ⊕az)}
theorem dO{β:Type}(c:Nat)(s:β->Nat->σ)(x:β->Nat->Prop)(Φ:az->Prop)(a:Nat)
  (d:∀b i,i<c->x b i->(∃j,x j (i+1)/\(t (s b i)).val=M (.inl (s j (i+1))))\/∃r,(t (s b i)).val=M (.inr r)/\Φ r)
  (g:∀b n,x b c->a<=n->∃r,ej t n (s b c)=M r/\Φ r):
  ∀(m i:Nat)(b:β)(n:Nat),c-i=m->i<=c->x b i->a+m<=n->∃r,ej t n (s b i)=M r/\Φ r
 | 0,i,b,n,v,u,p,y=>by
  obtain rfl:i=c:=by omega
  exact g b n p W
 | m+1,i,b,n,v,u,p,y=>by
  obtain⟨n,rfl⟩:∃k,n=k+1:=⟨n-1,W⟩;rcases d b i W p with⟨j,q,h⟩|⟨r,l,o⟩
  .have⟨r,l,o⟩:=dO c s x Φ a d g m (i+1) j n W W q W;exact⟨r,by rw[ej,h];exact l,o⟩
  .exact⟨r,by rw[ej,l],o⟩
theorem dc{n:Nat}{s:σ}:ej t (n+1) s=match(t s).val with
  |some (.inl h)=>ej t n h
  |some (.inr r)=>M r
  |none=>Q2:=rfl
end
variable {k:Nat}
theorem fB.cells{hp:Nat->AO}{cs':List AV}(c:fB C w U ρ hp)(l:hp k=.box cs)
  (y:∀vals,di w U ρ cs vals->di w U ρ cs' vals):fB C w U ρ (λj=>if j=k then .box cs' else hp j):=by
 have a:∀id b,aq ρ id (ite (id=k) (.box cs') (hp id)) b->aq ρ id (hp id) b:=by
  intro id b ho;by_cases x:id=k
  .subst x;rw[zf rfl]at ho;rw[l];have⟨_,v,z,u⟩:=ho;exact⟨rfl,v,z,u⟩
  .rw[zh x]at ho;exact ho
 refine⟨λid=>?_,λi d b o1 o2=>c.inj i d b (a _ _ o1) (a _ _ o2),λid b o=>c.blk id b (a _ _ o)⟩;by_cases x:id=k
 .subst x;have g:=c.ob id;rw[l]at g;have⟨b,h,vals,m,n,p,q,s⟩:=g;simp only[zj];exact⟨b,h,vals,m,n,p,y _ q,s⟩
 .simp only[zh x];exact c.ob id
def cT(p q:List CP)(y:zq p)(z:zq q):List AO:=.box (fC 2 p y)::.box (fC (2+bq p) q z)::(il p y++il q z)
theorem rr(p q:List CP)(y:zq p)(z:zq q):(cT p q y z).length=bq p+bq q+2:=by simp[cT,cz]
theorem fB.box2{H:List AV}{y:zq p}{z:zq q}(b:fB C w U ρ (λj=>((Qa cs::Qa H::os).getD j .dead)))(P:X os=bq p+bq q)
  (c:dg (lc (.box cs::.box H::os)) 2 p cs=M y) (a:dg (lc (.box cs::.box H::os)) (2+bq p) q H=M z):fB C w U ρ (λj=>(cT p q y z).getD j .dead):=by
 have d:=b.cells (k:=0) (cs:=cs) (cs':=fC 2 p y) rfl (λv h=>(gD p 2 cs y v c h).1);have g:=d.cells (k:=1) (cs:=H) (cs':=fC (2+bq p) q z) rfl (λv h=>(gD q _ H z v a h).1);have⟨F,B,u,_,_,_,o,_⟩:=b.ob 0;have⟨G,D,A,_,_,_,s,_⟩:=b.ob 1;have m:=(gD p 2 cs y u.toList c o).2;have n:=(gD q _ H z A.toList a s).2;have e:(λj=>(cT p q y z).getD j .dead)=λj=>if j=1 then .box (fC (2+bq p) q z)else if j=0 then .box (fC 2 p y)else(Qa cs::Qa H::os).getD j .dead:=by
  funext j
  match j with
  |0=>rfl
  |1=>rfl
  | j+2=>
   rw[zh W,zh W];simp only[cT,DB];by_cases i:j<bq p
   .have x:j<(il p y).length:=by rw[cz];exact i
    have:=m j _ (af x);simp only[lc,kS 2 j,DB]at this;rw[this,bx,qK x,af x];rfl
   .by_cases l:j<bq p+bq q
    .have x:j-bq p<(il q z).length:=by rw[cz];omega
     have:=n (j-bq p) _ (af x);rw[show 2+bq p+(j-bq p)=j+2 by omega]at this;simp only[lc,DB]at this;rw[this,bx,pn (by rw[cz];omega),cz,af x];rfl
    .rw[bx,bx,fe (by simp[cz];omega),fe W]
 rw[e];exact g
def Cw(p q:List CP)(outs:List Sh)(r:AV)(h:List AO):Option (zF (outs.map M)×zq p×zq q):=match h with
 | .box c::.box ds::os=>if Io os=bq p+bq q then match bb [] outs r,dg (lc (.box c::.box ds::os)) 2 p c,dg (lc (.box c::.box ds::os)) (2+bq p) q ds with
   |some a,M y,M z=>M (a,y,z)
   |_,_,_=>Q2
  else Q2
 |_=>Q2
def zhR(p d:List CP)(ks outs:List Sh)(a b:List CP)(c:zq p->zq d->zF (ks.map M)->Bool)(g:zq p->zq d->zF (ks.map M)->zF (outs.map M)×zq a×zq b):fz (Q2::Q2::ks.map M):=λx h=>match x.1,x.2.1,h with
 | .ptr 0 0,.ptr 1 0,.box i::.box ds::os=>if Io os=bq p+bq d then match dg (lc (.box i::.box ds::os)) 2 p i,dg (lc (.box i::.box ds::os)) (2+bq p) d ds with
   |some y,M z=>.chk (c y z x.q) (.ok (BY outs (g y z x.q).1,cT a b (g y z x.q).2.1 (g y z x.q).q))
   |_,_=>.err
  else .err
 |_,_,_=>.err
def Ya(ps qs:List CP)(ks outs:List Sh)(p q:List CP)(c:zq ps->zq qs->zF (ks.map M)->Bool)(g:zq ps->zq qs->zF (ks.map M)->zF (outs.map M)×zq p×zq q):ah:=bj (Q2::Q2::ks.map M) (zhR ps qs ks outs p q c g)
theorem XB{u A:List CP}{c:zq p->zq q->zF (ks.map some)->Bool}{d:zq p->zq q->zF (ks.map some)->zF (outs.map some)×zq u×zq A}(hf:zZ E.P h f (X ks+2))
  (i:∀y z x,c y z x=O->∀C:eW,(∀id,bq p+bq q+2<=id->C.ρ0 id=Q2)->Reach E C h (bu f) (bl f.ntmps (.ptr 0 0::.ptr 1 0::jn (ks.map M) x) (cT p q y z)) (λr i=>Cw u A outs r i=M (d y z x))) (qp:E.P=P:=by rfl) (qg:E.gl=g:=by rfl):
  nZ P g h (Ya p q ks outs u A c d):=by
 subst qp qg;refine dw (by simpa using hf) λx h0 x5 l C hC=>?_
 obtain⟨x0,x1,x⟩:=x;unfold zhR at l;simp only at l;split at l
 .rename_i cs ds os;split at l
  .rename_i s;split at l
   .rename_i y z hy hz;simp only[Tr.val]at l;split at l
    .rename_i hc;simp only[bG]at l;subst l;have hR:=i y z x hc C (λid k=>hC id (by simpa[s]using k));intro b F a w U ρ h1 h2 m hW;have hH:fB C w U ρ (λj=>((Qa cs::Qa ds::os).getD j .dead)):=m.hp
     have B:Cn C (bl f.ntmps (.ptr 0 0::.ptr 1 0::jn (ks.map M) x) (cT p q y z)) a w U ρ:=
      ⟨m.tm,hH.box2 s hy hz,λid k=>m.new id (by have k:(cT p q y z).length<=id:=k;rw[rr]at k;simpa[bl,s]using k),m.df,m.r0⟩
     obtain⟨e,w',fr,⟨v,r,h',U',ρ',he,n,h7,G,D,h6,H⟩,h4,h5,hl⟩:=hR b F a w U ρ h1 h2 B hW;unfold Cw at n;split at n
     .rename_i x2 x3 x4;split at n
      .rename_i o;split at n
       next a' y' z' h3 h8 h9=>simp only[bG]at n;refine⟨e,w',fr,⟨v,_,_,U',ρ',he,by rw[<-n],JB h3 h7,G.box2 o h8 h9,λid k=>D id (by rw[rr]at k;simpa[o]using k),h6,H⟩,h4,h5,hl⟩
       .cases n
      .cases n
     .cases n
    .simp at l
   .simp at l
  .simp at l
 .simp at l
def T3(outs:List Sh)(p q:List CP)(t:σ->Tr (σ⊕az))(n:Nat)(i:Tr (σ⊕az)):Option (zF (outs.map M)×zq p×zq q):=(bT t n i).bind λr=>Cw p q outs r.1 r.2
theorem zlM{qs:List CP}{e:σ->Nat×St}{t:σ->Tr (σ⊕az)}{i:zq ps->zq qs->zF (ks.map M)->Tr (σ⊕az)}{c:zq ps->zq qs->zF (ks.map M)->Bool}{a:zq ps->zq qs->zF (ks.map M)->zF (outs.map M)×zq p×zq q}
  (B:zw E) (m:zZ E.P h f (X ks+2)) (k:∀y z x,run E (bq ps+bq qs+2) keep f.results.toList gas (bu f) (bl f.ntmps (.ptr 0 0::.ptr 1 0::jn (ks.map M) x) (cT ps qs y z))=(i y z x).map (lf f e))
  (l:∀s,run E (bq ps+bq qs+2) keep f.results.toList gas (ap f (e s).1) (e s).2=(t s).map (lf f e))
  (D:∀y z x,c y z x=(T3 outs p q t n (i y z x)).isSome) (F:∀y z x,a y z x=(T3 outs p q t n (i y z x)).getD (cH outs,gg p,gg q)) (H:E.P=P:=by rfl) (G:E.gl=g:=by rfl):nZ P g h (Ya ps qs ks outs p q c a):=by
 subst H G;refine XB m λy z x d C A=>?_
 rw[D,Option.isSome_iff_exists]at d;have⟨u,j⟩:=d;rw[F,j];unfold T3 at j;rw[gA]at j;have⟨r,o,v⟩:=j;exact ms (Q:=λr b=>Cw p q outs r b=M u) B m A (n+1) _ _ r (by rw[jY l (k y z x)];exact o) v
section
variable {σ:Type} {t:σ->Tr (σ⊕az)}
def zU(t:σ->Tr (σ⊕az))(k:Nat)(s:σ)(r:az):Prop:=∀n,k<=n->ej t n s=M r
def zH(t:σ->Tr (σ⊕az))(m:Nat)(s s':σ):Prop:=∀k r,zU t k s' r->zU t (k+m) s r
variable {k:Nat}{s:σ}{r:az}
theorem zU.mono{c:Nat}(h:zU t k s r)(x:k<=c):zU t c s r:=λn a=>h n W
theorem zU.of(h:(t s).val=M (.inr r)):zU t 1 s r:=by intro n x;obtain⟨n,rfl⟩:∃k,n=k+1:=⟨n-1,W⟩;rw[ej,h]
variable {s':σ}
theorem zH.of(h:(t s).val=M (.inl s')):zH t 1 s s':=by intro k r x n a;obtain⟨n,rfl⟩:∃k,n=k+1:=⟨n-1,W⟩;rw[ej,h];exact x n W
theorem zH.refl(s:σ):zH t 0 s s:=λ_ _ h=>h
variable {a:Nat}
theorem zH.trans{b:Nat}{x:σ}(c:zH t a s s')(d:zH t b s' x):zH t (b+a) s x:=λk r h=>(c _ _ (d k r h)).mono W
theorem zH.mono{b:Nat}(h:zH t a s s')(c:a<=b):zH t b s s':=λk r x=>(h k r x).mono W
theorem zH.ends(h:zH t a s s')(x:zU t k s' r):zU t (k+a) s r:=h k r x
theorem zH.all(m:Nat)(s:Nat->σ):∀(x:Nat),(∀i,i<x->zH t m (s i) (s (i+1)))->zH t (x*m) (s 0) (s x)
 |0,_=>(zH.refl _).mono W
 |x+1,h=>((zH.all m s x λi a=>h i W).trans (h x W)).mono (by rw[qZ];omega)
theorem nG{Φ:az->Prop}(m:Nat)(s:Nat->σ)(P:Nat->Prop):∀(x:Nat),(∀i,i<x->(∀j,j<i->P j)->(P i/\zH t m (s i) (s (i+1)))\/(¬P i/\∃r,zU t m (s i) r/\Φ r))->
  ((∀i,i<x->P i)/\zH t (x*m) (s 0) (s x))\/((¬∀i,i<x->P i)/\∃r,zU t (x*m) (s 0) r/\Φ r)
 |0,_=>.inl ⟨λi a=>zz a W,(zH.refl _).mono W⟩
 | x+1,h=>by
  rcases nG m s P x λi a=>h i W with⟨b,c⟩|⟨b,r,c,k⟩
  .rcases h x W b with⟨d,g⟩|⟨d,r,g,l⟩
   .refine .inl ⟨λi a=>?_,(c.trans g).mono (by rw[qZ];omega)⟩;rcases Nat.lt_succ_iff_lt_or_eq.1 a with a|rfl
    .exact b i a
    .exact d
   .exact .inr ⟨λh=>d (h x W),r,(c.ends g).mono (by rw[qZ];omega),l⟩
  .exact .inr ⟨λh=>b λi a=>h i W,r,c.mono (by rw[qZ];omega),k⟩
variable {outs:List Sh}{n:Nat}{i:Tr (σ⊕az)}
theorem zA{y:zF (outs.map M)}(x:i.val=M (.inl s))(h:zU t k s r)(a:k<=n)(b:bb r.2 outs r.1=M y):ar outs t n i=M y:=by unfold ar bT;rw[x];show(ej t n s).bind _=_;rw[h n a];exact b
theorem zR{y:zF (outs.map M)}(h:i.val=M (.inr r))(x:bb r.2 outs r.1=M y):ar outs t n i=M y:=by unfold ar bT;rw[h];exact x
theorem zaO{ps:List CP}{v:Tr (σ⊕az)}{y:zF (outs.map M)×zq ps}(h:v.val=M (.inr r))(x:vn ps outs r.1 r.2=M y):kI outs ps t n v=M y:=by unfold kI bT;rw[h];exact x
end
variable {fn:FuncId}{x:List Item}{s:St}{Q:AV->List AO->Prop}
theorem Reach.lenA(j c:Nat)(e:Sh)(l:List (J e)){m:List AV}(n:s.tmps[j]?=M (.agg m))(o:m[c]?=M (.sl e l))(h:X l<=aE->Reach E C fn x s Q):Reach E C fn x s Q:=by
 intro b g a w U ρ z A i q;refine h ?_ b g a w U ρ z A i q;have d:j<a.tmps.toList.length:=by rw[<-i.tm.len];exact(dC.1 n).1
 have:=i.tm.rv j _ _ n (af d);generalize a.tmps.toList[j]=v at this;cases this with
 |agg _ p k _ y=>
 have d:c<X p:=by rw[<-k];exact(dC.1 o).1
 have:=y c _ _ o (af d);generalize p[c]=v at this;cases this with
 |sl0=>simp
 |sl _ _ _ _ _ _ _ u=>exact u
abbrev ztV:Nat->aY:=λj=>if j=3 then{slots:=[0,3,4],prom:=[(3,Q2,ze)]}else{ }
inductive UU where
 |h3 (l0:zr) (i4:Int) (lh_0:zr)
abbrev zwT:UU->Nat×St
 |.h3 h i l=>(3,⟨tm 24 [(0,T ze h),(3,AV.vec 0),(4,L i)],[AO.vec ze l]⟩)
def zyz(x:J ze.sl):Tr (UU⊕az):=Tr.to (UU.h3 x 0 [])
def zf7:UU->Tr (UU⊕az)
 | .h3 h i l=>
  let a:=h.getD i.toNat (zi ze)
  let x:=[HA a]
  br (cond (N (i<(X h:Int))) (N (i<14)) S)
  (chk (zL i (X h)) (chk (PG a) (chk (N (X l+X x<=1073741824)) (Tr.to (UU.h3 h (Γ Δ (i+1)) (l++x))))))
  (re (AV.vec 0) [AO.vec ze l])
def zuV(x:J ze.sl):=ar [ze.sl] zf7 100000000 (zyz x)
def zpw:=FT [ze.sl] [ze.sl] λx=>zuV x.1
theorem Xr:FK 17 zpw:=yR.T1 (f:=Tryz.f17) (keep:=ztV) (e:=zwT)
abbrev zuh:Nat->aY:=λj=>if j=3 then{slots:=[0,3,4],prom:=[(3,Q2,zn)]}else{ }
inductive PT where
 |h3 (l0:aV) (i4:Int) (lh_0:aV)
abbrev zw9:PT->Nat×St
 |.h3 h i l=>(3,⟨tm 33 [(0,T zn h),(3,AV.vec 0),(4,L i)],[AO.vec zn l]⟩)
def zyD(x:J zn.sl):Tr (PT⊕az):=Tr.to (PT.h3 x 0 [])
def zgb:PT->Tr (PT⊕az)
 | .h3 h i l=>
  let a:=h.getD i.toNat (zi zn)
  let x:=(X a.1:Int)
  let b:=[(Qg (Z 20-Z 0) (Qh (Z 0) a.1),a.2)]
  let c:=Γ Δ (i+1)
  let d:=[a]
  br (cond (N (i<(X h:Int))) (N (i<9)) S)
  (chk (zL i (X h)) (br (N (x>20)) (chk (N (0<=0)&&N (0<=20)&&N (20<=x)) (chk (N (X l+X b<=1073741824)) (Tr.to (PT.h3 h c (l++b))))) (chk (N (X l+X d<=1073741824)) (Tr.to (PT.h3 h c (l++d))))))
  (re (AV.vec 0) [AO.vec zn l])
def zuU(x:J zn.sl):=ar [zn.sl] zgb 100000000 (zyD x)
def zp7:=FT [zn.sl] [zn.sl] λx=>zuU x.1
theorem Xv:FK 56 zp7:=yR.T1 (f:=Tryz.f56) (keep:=zuh) (e:=zw9)
def oK(l:J ze.sl):J ze.sl:=(Qg 14 l).map HA
def kH(l:J zn.sl):J zn.sl:=(Qg 9 l).map λc:cF=>((kf c.1,c.2):cF)
theorem yp(k:Nat)(l:List α):l.take (min k (X l))=l.take k:=by
 rcases Nat.le_total k (X l)with h|h
 .rw[HW h]
 .rw[HU h,gB,HQ h]
theorem zfa{x:Nat}{K:Int}(c:K=(k:Int))(h:n<min k x):(cond (N ((n:Int)<(x:Int))) (N ((n:Int)<K)) S)=O:=by
 have a:(n:Int)<x:=by omega
 have b:(n:Int)<K:=by omega
 rw[zB a,zB b];rfl
theorem TE{K:Int}(x:K=(k:Int))(n:Nat):(cond (N (((min k n:Nat):Int)<(n:Int))) (N (((min k n:Nat):Int)<K)) S)=S:=by
 rcases Nat.le_total k n with h|h
 .rw[HW h,x];simp
 .rw[HU h];simp
theorem Ms{l:List α}(h:n<X l)(d:α):l.take (n+1)=l.take n++[l.getD n d]:=by rw[List.take_add_one,af h,bx,af h];rfl
def Nv:=zhW.addL [(17,zpw),(56,zp7)]
theorem yS:zw Nv:=yR.addL<|fc Xr<|fc Xv jb
theorem pl{c:zF (ks.map M)->Bool}{a:zF (ks.map M)->zF (outs.map M)}(b:nZ P g h (ac ks outs c a))(d:∀x,c x=O):nZ P g h (aX ks outs a):=
 SK (by rwa [show c=λ_=>O from funext d]at b)
theorem GW(v:V):PG v=O:=by
 unfold PG;cases h:N ((X v.2.2:Int)>60)
 .rfl
 .simp only[ba]at h;simp only[aN,aP,ba];omega
theorem R7(s:zK):Uz s=O:=by
 unfold Uz;cases h:N ((X s:Int)>20)
 .rfl
 .simp only[ba]at h;simp only[aN,aP,ba];omega
theorem Wl(l:zr):zuV l=M (oK l,()):=by
 have g:=zH.all (t:=zf7) 1 (λi=>.h3 l (i:Int) ((Qg i l).map HA)) (min 14 (X l)) λi x=>zH.of (by
  have h:i<X l:=by omega
  have a:N ((List.map HA (Qg i l)).length+[HA (l.getD i (zi ze))].length<=1073741824)=O:=by simp;omega
  simp only[zf7,Tr.val,zfa (k:=14) (K:=14) rfl x,zx h,zj,aJ,GW,a];rw[zu i um,Ms h (zi ze),ib];rfl)
 rw[yp]at g;refine zA rfl (g.ends (k:=1) (r:=(.vec 0,[.vec ze (oK l)])) (zU.of ?_)) W rfl;simp only[zf7,Tr.val,TE (k:=14) (K:=14) rfl,zC,zm];rfl
theorem Wj(l:aV):zuU l=M (kH l,()):=by
 have g:=zH.all (t:=zgb) 1 (λi=>.h3 l (i:Int) ((Qg i l).map λc:cF=>((kf c.1,c.2):cF))) (min 9 (X l)) λi j=>zH.of (by
  have d:i<X l:=by omega
  have n:(Qg (i+1) l).map (λc:cF=>((kf c.1,c.2):cF))=(Qg i l).map (λc:cF=>((kf c.1,c.2):cF))++[(kf (List.getD l i (zi zn)).1,(List.getD l i (zi zn)).2)]:=by rw[Ms d (zi zn),ib];rfl
  have b:((Qg i l).map (λc:cF=>((kf c.1,c.2):cF))).length<=9:=by rw[cW,rc];omega
  rw[n];generalize(Qg i l).map (λc:cF=>((kf c.1,c.2):cF))=a at b|-;have m:N (X a+1<=1073741824)=O:=zB W;simp only[zgb,Tr.val,zfa (k:=9) (K:=9) rfl j,zx d,zj,aJ,fA,qw,eV,m];rw[zu i um];unfold kf;by_cases h:(X (List.getD l i (zi zn)).1:Int)>20
  .have x:N ((20:Int)<=(X (List.getD l i (zi zn)).1:Int))=O:=zB W;simp only[zB h,x,zj];rfl
  .simp only[aC h,zC,zm])
 rw[yp]at g;refine zA rfl (g.ends (k:=1) (r:=(.vec 0,[.vec zn (kH l)])) (zU.of ?_)) W rfl;simp only[zgb,Tr.val,TE (k:=9) (K:=9) rfl,zC,zm];rfl
def zpx:ah:=aX [ze] [ze] λx=>(HA x.1,())
theorem zj8:FK 41 zpx:=pl zhC λx=>GW x.1
def zpo:ah:=aX [Q6] [Q6] λx=>(kf x.1,())
theorem zj1:FK 185 zpo:=pl zhB λx=>R7 x.1
def F6t:ah:=aX [ze.sl] [ze.sl] λx=>(oK x.1,())
theorem zrJ:FK 17 F6t:=iX Xr λx=>Wl x.1
def zps:ah:=aX [zn.sl] [zn.sl] λx=>(kH x.1,())
theorem zj5:FK 56 zps:=iX Xv λx=>Wj x.1
abbrev Ch:Nat->aY:=λ_=>{slots:=[0,1,7,8]}
def pM{K:List Item}{e:Sh}(l:List (J e))(p:J e->Bool)(s:Int->St)(h:List AO)(i:Int):Tr zT:=.br (N (i<(X l:Int))) (.chk (zL i (X l)) (.br (p (l.getD i.toNat (zi e))) (.ok (.ret (L i) h)) (.ok (.head 2 K (s (Γ Δ (i+1))))))) (.ok (.ret (L (-1)) h))
variable {z:List AO}
theorem lT{n0:Nat}{b:Nat}{e:Sh}(l:List (J e))(p:J e->Bool)(s:Int->St)
  (d:zw E) (j:zZ E.P h f n) (g:∀id,n0<=id->C.ρ0 id=Q2)
  (c:∀i,run E n0 keep f.results.toList b K (s i)=pM (K:=K) l p s z i) (o:X l<=aE):∀(m i:Nat),X l-i=m->i<=X l->
  Reach E C h K (s i) (λr x=>(r,x)=(L (aj p (l.drop i) i),z)):=by
 intro m
 induction m with
 | zero=>
  intro i d.mix' hi;obtain rfl:i=X l:=by omega
  refine zJ d j g (c _) ?_;simp only[pM,Tr.val,zM,ky];rfl
 | succ m k=>
  intro i d.mix' hi;have a:i<X l:=by omega
  refine zJ d j g (c _) ?_;rw[ij a];simp only[pM,Tr.val,zO a,zx a,dm l _ a,zu i W,zj,aj];split
  .rfl
  .exact k (i+1) W W
abbrev Dd(t:Int)(l:ed)(i:Int):St:={tmps:=[.sl zk l,.clo (.func 311) [] [.ptr 0 0],.any,.any,.any,.any,.any,L (X l),L i,.any,.any,.any,.any,.any,.any,.any,.any,.any,.any],heap:=[.box [L t]]}
theorem Zk(t:Int)(l:ed):run Nv 1 Ch Tryz.f338.results.toList 300 (bu Tryz.f338) (bl Tryz.f338.ntmps [.sl zk l,.clo (.func 311) [] [.ptr 0 0]] [.box [L t]])=.ok (.head 2 (ap Tryz.f338 2) (Dd t l 0)):=kw
theorem zaD(t:Int)(l:ed)(i:Int):run Nv 1 Ch Tryz.f338.results.toList 300 (ap Tryz.f338 2) (Dd t l i)=pM (K:=ap Tryz.f338 2) (e:=zk) l (λx=>bif x !=t then x !=0 else S) (Dd t l) [.box [L t]] i:=kw
theorem zao:zZ Nv.P 338 Tryz.f338 2:=cI kw
def zsa:fz [M (.sl zk),Q2]:=λx h=>match x,h with
 |(l,.clo (.func 311) [] [.ptr 0 0],_),[.box [L t]]=>.ok (L (aj (λx=>bif x !=t then x !=0 else S) l 0),[.box [L t]])
 |_,_=>.err
def zo9:ah:=bj [M (.sl zk),Q2] zsa
theorem zjM:FK 338 zo9:=by
 refine dw zao λx d c h C a=>?_
 unfold zsa at h;split at h
 .rename_i l u t;simp only[Tr.val_ok,bG]at h;subst h;refine Reach.len 0 zk l rfl λb=>?_
  refine zJ (n0:=1) yS zao a (Zk t l) ?_;exact lT l (λx=>bif x !=t then x !=0 else S) (Dd t l) yS zao a (zaD t l) b _ 0 rfl (aK _)
 .simp at h
def wM:=Nv.addL [(41,zpx),(185,zpo),(17,F6t),(56,zps),(338,zo9)]
theorem oz:zw wM:=yS.addL<|fc zj8<|fc zj1<|fc zrJ<|fc zj5<|fc zjM jb
def F78:ah:=bj [M (.sl zk),Q2] (fg wM Tryz.f310 [M (.sl zk),Q2])
theorem zrP:FK 310 F78:=cj _ oz (cI kw)
def eU(x:J Q6):J Q7:=sB x
theorem zvc:zZ wM.P 173 Tryz.f173 1:=cI kw
theorem zxP(x:J Q6):rn wM 0 (λ_=>{ }) Tryz.f173 [zX Q6 x] []=Tr.ok (zT.ret (AV.bool (sB x)) []):=kw
def F25:ah:=aX [Q6] [Q7] λx=>(eU x.1,())
theorem zq8:FK 173 F25:=by
 refine aw zvc λx C h=>?_
 refine bA oz zvc (λid _=>h id) (zxP x.1) ?_;simp only[Tr.val,eU];repeat' split
 all_goals rfl
def zY(x:am)(h:J Q6):zy:=aj (λc=>c.1==h) x.2.1 0
theorem zu8:zZ wM.P 108 Tryz.f108 2:=cI kw
theorem zxL(x:am)(h:J Q6):rn wM 0 (λ_=>{ }) Tryz.f108 [zX ab x,zX Q6 h] []=Tr.ok (zT.ret (L (aj (λc=>c.1==h) x.2.1 0)) []):=kw
def F17:ah:=aX [ab,Q6] [zk] λx=>(zY x.1 x.2.1,())
theorem zq3:FK 108 F17:=by
 refine aw zu8 λx C h=>?_
 refine bA oz zu8 (λid _=>h id) (zxL x.1 x.2.1) ?_;simp only[Tr.val,zY];repeat' split
 all_goals rfl
def aO(x:J zn.sl)(h:J Q6):zy:=aj (λc=>c.1==h) x 0
theorem zvr:zZ wM.P 238 Tryz.f238 2:=cI kw
theorem zx8(x:J zn.sl)(h:J Q6):rn wM 0 (λ_=>{ }) Tryz.f238 [zX zn.sl x,zX Q6 h] []=Tr.ok (zT.ret (L (aj (λc=>c.1==h) x 0)) []):=kw
def F48:ah:=aX [zn.sl,Q6] [zk] λx=>(aO x.1 x.2.1,())
theorem zrr:FK 238 F48:=by
 refine aw zvr λx C h=>?_
 refine bA oz zvr (λid _=>h id) (zx8 x.1 x.2.1) ?_;simp only[Tr.val,aO];repeat' split
 all_goals rfl
def H9:=wM.addL [(310,F78),(173,F25),(108,F17),(238,F48)]
theorem yT:zw H9:=oz.addL<|fc zrP<|fc zq8<|fc zq3<|fc zrr jb
def qL(h:J zk.sl)(a:zy):J Q7:=!Q0 (aj (λx=>bif x !=a then x !=0 else S) h 0>=0)
theorem zvC:zZ H9.P 271 Tryz.f271 2:=cI kw
theorem zyk(h:J zk.sl)(a:zy):rn H9 0 (λ_=>{ }) Tryz.f271 [zX zk.sl h,zX zk a] []=Tr.ok (zT.ret (AV.bool !Q0 (aj (λx=>bif x !=a then x !=0 else S) h 0>=0)) []):=kw
def F66:ah:=aX [zk.sl,zk] [Q7] λx=>(qL x.1 x.2.1,())
theorem zrH:FK 271 F66:=by
 refine aw zvC λx C h=>?_
 refine bA yT zvC (λid _=>h id) (zyk x.1 x.2.1) ?_;simp only[Tr.val,qL];repeat' split
 all_goals rfl
def aA(x:J Q6):J Q7:=bif eU x then !kd x else S
theorem zu7:zZ H9.P 107 Tryz.f107 1:=cI kw
theorem zxK(x:J Q6):rn H9 0 (λ_=>{ }) Tryz.f107 [zX Q6 x] []=Tr.ok (zT.ret (AV.bool (cond (eU x) (!kd x) S)) []):=kw
def F16:ah:=aX [Q6] [Q7] λx=>(aA x.1,())
theorem zq2:FK 107 F16:=by
 refine aw zu7 λx C h=>?_
 refine bA yT zu7 (λid _=>h id) (zxK x.1) ?_;simp only[Tr.val,aA];repeat' split
 all_goals rfl
def YM:=H9.addL [(271,F66),(107,F16)]
theorem Ia:zw YM:=yT.addL<|fc zrH<|fc zq2 jb
theorem fb{c:zF (ks.map Q1)->Bool}{a:zF (ks.map Q1)->zF (outs.map Q1)}(j:∃fn,P.funcs[h]?=Q1 fn/\(fn.name=="runtime.NumGoroutine")=Q4/\fn.body.isNone=Q4)(o:∀x,c x=Q4):nZ P g h (ac ks outs c a):=by
 refine⟨j,?_⟩;intro w U ρ p n d v f l b;exfalso;unfold ac bj at b;split at b
 .simp only at b;split at b
  .split at b
   .simp only[Tr.val_bind,gA]at b;have⟨k,i,m⟩:=b;unfold gp at i;grind[Tr.val]
   .simp at b
  .simp at b
 .simp at b
variable {Φ:zT->Prop}{t:Tr zT}
theorem oh{c:Bool}{f:Tr zT}(h:c=O->iy Φ t.val)(x:c=S->iy Φ f.val):iy Φ (br c t f).val:=by grind[Tr.val]
theorem fT{c:Bool}(x:c=O)(h:iy Φ t.val):iy Φ (chk c t).val:=by subst x;simpa[Tr.val]using h
theorem eo(h:iy Φ t.val):iy Φ (chk O t).val:=h
theorem oO{c:Bool}(h:c=S):¬c=O:=by rw[h];simp
theorem sT{c g:Bool}(h:(ite (c=O) g S)=O):c=O/\g=O:=by
 split at h
 .exact⟨‹_›,h⟩
 .cases h
theorem obr{c:Bool}{f:Tr zT}{α:Sort _}{a b y:α}{p q:Bool}(d:(ite (c=O) a b)=y)(x:(ite (c=O) p q)=O)(g:c=O->a=y->p=O->iy Φ t.val)(i:c=S->b=y->q=O->iy Φ f.val):iy Φ (Tr.br c t f).val:=
 oh (λh=>g h (by rwa [zf h]at d) (by rwa [zf h]at x)) (λh=>i h (by rwa [zh (oO h)]at d) (by rwa [zh (oO h)]at x))
theorem Fp{c:Bool}{f:Tr zT}{α:Sort _}{a b y:α}(x:(ite (c=O) a b)=y)(d:c=O->a=y->iy Φ t.val)(g:c=S->b=y->iy Φ f.val):iy Φ (Tr.br c t f).val:=
 oh (λh=>d h (by rwa [zf h]at x)) (λh=>g h (by rwa [zh (oO h)]at x))
theorem KU{c g:Bool}(x:(ite (c=O) g S)=O)(h:g=O->iy Φ t.val):iy Φ (Tr.chk c t).val:=
 fT (sT x).1 (h (sT x).2)
theorem Tr.val_brT(t f:Tr α):(br O t f).val=t.val:=rfl
theorem Tr.val_brF(t f:Tr α):(br S t f).val=f.val:=rfl
theorem Tr.val_chkT(t:Tr α):(chk O t).val=t.val:=rfl
instance:Inhabited zg:=⟨.mk [] (0,0,[]) [] []⟩
instance (s:Sh):Inhabited (J s):=⟨zi s⟩
variable {A:Prop}
theorem MC{G P:Prop}(h:A)(c:G)(k:A->G->P:=by
 intro x a
 try simp only[zg.eta,zo]
 repeat' (first|with_reducible refine obr x a (λ_ x a=>?_) (λ_ x a=>?_)|with_reducible refine Fp x (λ_ x=>?_) (λ_ x=>?_)|with_reducible refine KU a (λa=>?_)|with_reducible refine eo ?_)
 all_goals first|(cases a;done)|(subst x;first|rfl)):P:=k h c
theorem Uv{P:Prop}(h:A)(k:A->P:=by
 intro x
 try simp only[zg.eta,zo]
 repeat' (first|with_reducible refine Fp x (λ_ x=>?_) (λ_ x=>?_)|with_reducible refine eo ?_)
 all_goals first|(cases hc;done)|(subst x;first|rfl)):P:=k h
theorem zfR{G B P:Prop}(h:A)(c:G)(b:B)(k:A->G->B->P:=by
 intro hy hc hk
 try simp only[zg.eta,zo]
 repeat' (first|with_reducible refine obr hy hc (λ_ hy hc=>?_) (λ_ hy hc=>?_)|with_reducible refine Fp hy (λ_ hy=>?_) (λ_ hy=>?_)|with_reducible refine KU hc (λhc=>?_)|with_reducible refine eo ?_)
 all_goals first|(cases hc;done)|(subst hy;first|(change Reach _ _ _ _ _ _;apply hk<;>first|omega|assumption)|rfl)):P:=k h c b
theorem Pp{B P:Prop}(h:A)(b:B)(k:A->B->P:=by
 intro hy hk
 try simp only[zg.eta,zo]
 repeat' (first|with_reducible refine Fp hy (λ_ hy=>?_) (λ_ hy=>?_)|with_reducible refine eo ?_)
 all_goals first|(cases hc;done)|(subst hy;first|(change Reach _ _ _ _ _ _;apply hk<;>first|omega|assumption)|rfl)):P:=k h b
def VL(g:J Q5->cr->zy×zy)(c:J Q5->cr->Bool):ct:=YM.add 227 (ac [Q5,Sh.sl zn] [zk,zk] (λx=>c x.1 x.2.1) λx=>((g x.1 x.2.1).1,(g x.1 x.2.1).2,()))
theorem D5{g:J Q5->cr->zy×zy}{c:J Q5->cr->Bool}(h:FK 227 (ac [Q5,Sh.sl zn] [zk,zk] (λx=>c x.1 x.2.1) λx=>((g x.1 x.2.1).1,(g x.1 x.2.1).2,()))):zw (VL g c):=Ia.add h
abbrev zje:Nat->aY:=λj=>if j=3 then{slots:=[1,2,6,15,16,17],prom:=[(6,Q2,zk)]}else{ }
abbrev Gq(k:LC)(g:LX)(i h:Int)(j:zK)(x a:Int)(b c:zK)(d:LX)(l:LI):St:={tmps:=(tm 91 [(1,T zn k),(2,ptr 0 0),(6,AV.vec 1),(15,T Q5 g),(16,L i),(17,L h)]),heap:=[Qa [I j,L x,L a,I b,I c,T Q5 d],AO.vec zk l]}
theorem Fs(g:J Q5->cr->zy×zy)(c:J Q5->cr->Bool):zZ (VL g c).P 227 Tryz.f227 2:=cI kw
theorem zs8(g:J Q5->cr->zy×zy)(c:J Q5->cr->Bool)(x:J Q5)(h:J zn.sl):rn (VL g c) 0 zje Tryz.f227 [zX Q5 x,zX zn.sl h] []=Tr.ok (zT.head 3 (ap Tryz.f227 3) (Gq h (zg.l x) (↑(zg.l x).length:Int) 0 (zg.op x) (zg.v x).1 (zg.v x).2.1 (zg.v x).2.2 (zg.s x) (zg.l x) [])):=kw
theorem TY(g:J Q5->cr->zy×zy)(c:J Q5->cr->Bool)(h:LC)(a:LX)(b i:Int)(j:zK)(d m:Int)(n x:zK)(o:LX)(l:LI):rh (VL g c) 0 zje Tryz.f227 3 (Gq h a b i j d m n x o l)=let p:=Tr.ok (zT.ret (tup [L 0,L 5]) []);let q:=Tr.ok (zT.ret (tup [L 3,L 0]) []);let u:=chk (zL 0 (X l)&&(N (Z 0<X l)&&(zL 1 (X l)&&(N (Z 1<X l)&&bif l.getD (Z 0) (zi zk)==l.getD (Z 1) (zi zk)then O else zL 0 (X l)&&(N (Z 0<X l)&&bif l.getD (Z 0) (zi zk)==0 then O else zL 1 (X l)&&N (Z 1<X l)))))) (br (!bif l.getD (Z 0) (zi zk)==l.getD (Z 1) (zi zk)then O else bif l.getD (Z 0) (zi zk)==0 then O else l.getD (Z 1) (zi zk)==0) p q);let y:=a.getD i.toNat (zi Q5);let k:=zt y;let v:=br (!qL l 1) p (Tr.ok (zT.ret (tup [L 1,L 0]) []));let s:=br (!qL l 3) p q;
 br (N (i<b)) (chk (zL i (X a)) (chk (c k h) (br ((g k h).2!=0) (Tr.ok (zT.ret (tup [L 0,L (g k h).2]) [])) (chk (N (X l+[(g k h).1].length<=1073741824)) (Tr.ok (zT.head 3 (ap Tryz.f227 3) (Gq h a b (Γ Δ (i+1)) j d m n x o (l++[(g k h).1])))))))) (br (j==pt) (Tr.ok (zT.ret (tup [L d,L 0]) [])) (br (j==fh) (br (N (aO h x<0)) (Tr.ok (zT.ret (tup [L 0,L 4]) [])) (chk (zL (aO h x) (X h)) (Tr.ok (zT.ret (tup [L (h.getD (Z (aO h x)) (zi zn)).2.1,L 0]) [])))) (br (j==ox) s (br (j==ji) s (br (j==wy) s (br (j==[61]) u (br (j==[60]) u (br (j==[43]) v (br (j==[45]) v q))))))))):=kw
def bg(g:J Q5->cr->zy×zy)(c:J Q5->cr->Bool)(a:LC)(j:zK)(b d:Int)(k h:zK)(m:LX):List (J Q5)->Int->ed->zy×zy
 |[],_,l=>if(j==pt)=O then(b,0)
else
 if(j==fh)=O then
  if N (aO a h<0)=O then(0,4)
  else((a.getD (Z (aO a h)) (zi zn)).2.1,0)
 else
  if(j==ox)=O then if(!qL l 3)=O then(0,5)else(3,0)
  else
   if(j==ji)=O then if(!qL l 3)=O then(0,5)else(3,0)
   else
    if(j==wy)=O then if(!qL l 3)=O then(0,5)else(3,0)
    else
     if (j==[61])=true then
      if
        (!bif l.getD (Z 0) (zi zk)==l.getD (Z 1) (zi zk)then O
          else bif l.getD (Z 0) (zi zk)==0 then O else l.getD (Z 1) (zi zk)==0)=
         O then
       (0,5)
      else(3,0)
     else
      if (j==[60])=true then
       if
         (!bif l.getD (Z 0) (zi zk)==l.getD (Z 1) (zi zk)then O
           else
            bif l.getD (Z 0) (zi zk)==0 then O else l.getD (Z 1) (zi zk)==0)=
          O then
        (0,5)
       else(3,0)
      else
       if(j==[43])=O then if(!qL l 1)=O then(0,5)else(1,0)
       else if(j==[45])=O then if(!qL l 1)=O then(0,5)else(1,0)else(3,0)
 |x::r,i,l=>if((g x a).2!=0)=O then(0,(g x a).2)else bg g c a j b d k h m r (i+1) (l++[(g x a).1])
def g7(g:J Q5->cr->zy×zy)(c:J Q5->cr->Bool)(h:LC)(j:zK)(b d:Int)(k a:zK)(m:LX):List (J Q5)->Int->ed->Bool
 |[],_,l=>if(j==pt)=O then O
else
 if(j==fh)=O then
  if N (aO h a<0)=O then O else if zL (aO h a) (X h)=O then O else S
 else
  if(j==ox)=O then O
  else
   if(j==ji)=O then O
   else
    if(j==wy)=O then O
    else
     if (j == [61])=true then
      if
        (zL 0 (Io l)&&
          (Q0 (toNat 0<Io l)&&
           (zL 1 (Io l)&&
            (Q0 (toNat 1<Io l)&&
             bif l.getD (Z 0) (zi zk)==l.getD (Z 1) (zi zk)then O
             else
              zL 0 (X l)&&
               (N (Z 0<X l)&&
                bif l.getD (Z 0) (zi zk)==0 then O
                else zL 1 (X l)&&N (Z 1<X l))))))=
         O then
       O
      else S
     else
      if (j == [60])=true then
       if
         (zL 0 (Io l)&&
           (Q0 (toNat 0<Io l)&&
            (zL 1 (Io l)&&
             (Q0 (toNat 1<Io l)&&
              bif l.getD (Z 0) (zi zk)==l.getD (Z 1) (zi zk)then O
              else
               zL 0 (X l)&&
                (N (Z 0<X l)&&
                 bif l.getD (Z 0) (zi zk)==0 then O
                 else zL 1 (X l)&&N (Z 1<X l))))))=
          O then
        O
       else S
      else O
 |x::r,i,l=>if c x h=O then
 if((g x h).2!=0)=O then O
 else
  if N (X l+[(g x h).1].length<=1073741824)=O then
   g7 g c h j b d k a m r (i+1) (l++[(g x h).1])
  else S
else S
theorem zdL(g:J Q5->cr->zy×zy)(c:J Q5->cr->Bool)(D:FK 227 (ac [Q5,Sh.sl zn] [zk,zk] (λx=>c x.1 x.2.1) λx=>((g x.1 x.2.1).1,(g x.1 x.2.1).2,())))(B:∀id,C.ρ0 id=Q2)(v:LC)(j:zK)(k n:Int)(o p:zK)(q l:LX)(H:X l<=aE):∀(m i:Nat)(a:LI),X l-i=m->i<=X l->g7 g c v j k n o p q (l.drop i) i a=O->
  Reach (VL g c) C 227 (ap Tryz.f227 3) (Gq v l (X l:Int) (i:Int) j k n o p q a) (λr h=>bb h [zk,zk] r=M ((bg g c v j k n o p q (l.drop i) i a).1,(bg g c v j k n o p q (l.drop i) i a).2,())):=by
 intro m
 induction m with
 | zero=>
  intro i a G F d;obtain rfl:i=X l:=by omega
  rw[ky]at d|-;refine zJ (D5 D) (Fs g c) (λid _=>B id) (TY g c _ _ _ _ _ _ _ _ _ _ _) ?_;rw[g7]at d;generalize b:bg g c v j k n o p q [] _ a=y;rw[bg]at b;simp only[zg.eta,zM,Tr.val_brF];repeat' (first|with_reducible refine obr b d (λ_ b d=>?_) (λ_ b d=>?_)|with_reducible refine Fp b (λ_ b=>?_) (λ_ b=>?_)|with_reducible refine KU d (λd=>?_)|with_reducible refine eo ?_)
  all_goals(subst b;first|rfl)
 | succ m A=>
  intro i a G F d;have u:i<X l:=by omega
  have A:=A (i+1);have s:((i:Int)+1)=((i+1:Nat):Int):=by omega
  have z:=zu i W;rw[ij u]at d|-;refine zJ (D5 D) (Fs g c) (λid _=>B id) (TY g c _ _ _ _ _ _ _ _ _ _ _) ?_;rw[g7]at d;generalize b:bg g c v j k n o p q (l[i]::l.drop (i+1)) (i:Int) a=y;rw[bg]at b;simp only[zg.eta,zO u,zx u,dm l _ u,z,Tr.val_brT,Tr.val_chkT];clear z;simp only[s]at b
  try simp only[s]at d
  repeat' (first|with_reducible refine obr b d (λ_ b d=>?_) (λ_ b d=>?_)|with_reducible refine Fp b (λ_ b=>?_) (λ_ b=>?_)|with_reducible refine KU d (λd=>?_)|with_reducible refine eo ?_)
  all_goals(subst b;first|(change Reach _ _ _ _ _ _;apply A<;>first|omega|assumption)|rfl)
theorem XS(g:J Q5->cr->zy×zy)(c:J Q5->cr->Bool)(q:FK 227 (ac [Q5,Sh.sl zn] [zk,zk] (λx=>c x.1 x.2.1) λx=>((g x.1 x.2.1).1,(g x.1 x.2.1).2,())))(o:∀id,C.ρ0 id=Q2)(n:LC)(j:zK)(b d:Int)(i k:zK)(m a:LX)(l:LI)(p:g7 g c n j b d i k m a 0 l=O):
  Reach (VL g c) C 227 (ap Tryz.f227 3) (Gq n a (X a:Int) 0 j b d i k m l) (λr h=>bb h [zk,zk] r=M ((bg g c n j b d i k m a 0 l).1,(bg g c n j b d i k m a 0 l).2,())):=
 Reach.len 15 (Q5) a rfl λs=>zdL g c q o n j b d i k m a s _ 0 l rfl (aK _) p
def A9(g:J Q5->cr->zy×zy)(c:J Q5->cr->Bool)(x:J Q5)(h:J zn.sl):zy×zy:=bg g c h (zg.op x) (zg.v x).1 (zg.v x).2.1 (zg.v x).2.2 (zg.s x) (zg.l x) (zg.l x) 0 []
def Do(g:J Q5->cr->zy×zy)(c:J Q5->cr->Bool)(x:J Q5)(h:J zn.sl):Bool:=g7 g c h (zg.op x) (zg.v x).1 (zg.v x).2.1 (zg.v x).2.2 (zg.s x) (zg.l x) (zg.l x) 0 []
def zwA(g:J Q5->cr->zy×zy)(c:J Q5->cr->Bool):ah:=ac [Q5,zn.sl] [zk,zk] (λx=>Do g c x.1 x.2.1) λx=>((A9 g c x.1 x.2.1).1,(A9 g c x.1 x.2.1).2,())
theorem zkY(g:J Q5->cr->zy×zy)(c:J Q5->cr->Bool)(d:FK 227 (ac [Q5,Sh.sl zn] [zk,zk] (λx=>c x.1 x.2.1) λx=>((g x.1 x.2.1).1,(g x.1 x.2.1).2,()))):FK 227 (zwA g c):=by
 refine aZ (Fs g c) λx a C b=>?_
 unfold Do at a;refine zJ (D5 d) (Fs g c) (λid _=>b id) (zs8 g c x.1 x.2.1) ?_;generalize h:A9 g c x.1 x.2.1=y;unfold A9 at h
 try simp only[zg.eta,zo]
 repeat' (first|with_reducible refine obr h a (λ_ h a=>?_) (λ_ h a=>?_)|with_reducible refine Fp h (λ_ h=>?_) (λ_ h=>?_)|with_reducible refine KU a (λa=>?_)|with_reducible refine eo ?_)
 all_goals(subst h;first|(change Reach _ _ _ _ _ _;apply XS g c d b<;>first|assumption|exact a)|rfl)
mutual
def aa:Nat->J Q5->cr->zy×zy
 |0=>λ_ _=>default
 |n+1=>A9 (aa n) (bJ n)
def bJ:Nat->J Q5->cr->Bool
 |0=>λ_ _=>S
 |n+1=>Do (aa n) (bJ n)
end
theorem Xw:∀n,FK 227 (ac [Q5,Sh.sl zn] [zk,zk] (λx=>bJ n x.1 x.2.1) λx=>((aa n x.1 x.2.1).1,(aa n x.1 x.2.1).2,()))
 |0=>fb ⟨Tryz.f227,(Fs default default).1,(Fs default default).2.1,(Fs default default).q.1⟩ (λ_=>rfl)
 |n+1=>zkY (aa n) (bJ n) (Xw n)
def F51:ah:=ac [Q5,Sh.sl zn] [zk,zk] (λx=>bJ 16 x.1 x.2.1) λx=>((aa 16 x.1 x.2.1).1,(aa 16 x.1 x.2.1).2,())
theorem zru:FK 227 F51:=Xw 16
def Ib:=YM.add 227 F51
theorem sJ:zw Ib:=Ia.add zru
theorem zw.TT{e:σ->Nat×St}{t:σ->Tr (σ⊕az)}{i:zF (ks.map M)->Tr (σ⊕az)}{c:zF (ks.map M)->Bool}{a:zF (ks.map M)->zF (outs.map M)}(j:zw E)(gas:Nat:=400)
  (l:(E.P.funcs[h]?,f.name=="runtime.NumGoroutine",f.body.isNone,Q0 (ks.length<=f.ntmps))=(Q1 f,Q4,Q4,Q3):=by kernel_rfl)
  (b:∀x,run E 0 keep f.results.toList gas (bu f) (bl f.ntmps (jn (ks.map M) x) [])=(i x).map (lf f e):=by intro x;kernel_rfl)
  (d:∀s,run E 0 keep f.results.toList gas (ap f (e s).1) (e s).2=(t s).map (lf f e):=by intro s;cases s<;>kernel_rfl)
  (k:∀x,c x=(ar outs t n (i x)).isSome:=by intro x;kernel_rfl) (m:∀x,a x=(ar outs t n (i x)).getD (cH outs):=by intro x;kernel_rfl) (o:E.P=P:=by rfl) (q:E.gl=g:=by rfl):nZ P g h (ac ks outs c a):=
 XA j (cI l) b d k m o q
theorem zw.B1{e:σ->Nat×St}{t:σ->Tr (σ⊕az)}{i:zq ps->zF (ks.map M)->Tr (σ⊕az)}{c:zq ps->zF (ks.map M)->Bool}{a:zq ps->zF (ks.map M)->zF (outs.map M)×zq q}(j:zw E)(gas:Nat:=400)
  (l:(E.P.funcs[h]?,f.name=="runtime.NumGoroutine",f.body.isNone,Q0 (ks.length+1<=f.ntmps))=(Q1 f,Q4,Q4,Q3):=by kernel_rfl)
  (b:∀y x,run E (bq ps+1) keep f.results.toList gas (bu f) (bl f.ntmps (.ptr 0 0::jn (ks.map M) x) (bc ps y))=(i y x).map (lf f e):=by intro y x;kernel_rfl)
  (d:∀s,run E (bq ps+1) keep f.results.toList gas (ap f (e s).1) (e s).2=(t s).map (lf f e):=by intro s;cases s<;>kernel_rfl)
  (k:∀y x,c y x=(kI outs q t n (i y x)).isSome:=by intro y x;kernel_rfl) (m:∀y x,a y x=(kI outs q t n (i y x)).getD (cH outs,gg q):=by intro y x;kernel_rfl) (p:E.P=P:=by rfl) (o:E.gl=g:=by rfl):nZ P g h (ro ps ks outs q c a):=
 zlL j (cI l) b d k m p o
abbrev cpE:List CP:=[.d .expr]
abbrev zsv:List CP:=[.d .str,.d zk,.d zk,.d .str,.d .str,.vec .expr]
abbrev qN:List CP:=[.d .str,.d zk,.d zk,.d .str,.d .str,.nil]
def zhT(g:J Q5->zy->zy->J Q5×zy)(c:J Q5->zy->zy->Bool):ct:=Ib.add 122 (ac [Q5,zk,zk] [Q5,zk] (λx=>c x.1 x.2.1 x.q.1) λx=>((g x.1 x.2.1 x.q.1).1,(g x.1 x.2.1 x.q.1).2,()))
theorem VM{g:J Q5->zy->zy->J Q5×zy}{c:J Q5->zy->zy->Bool}(h:FK 122 (ac [Q5,zk,zk] [Q5,zk] (λx=>c x.1 x.2.1 x.q.1) λx=>((g x.1 x.2.1 x.q.1).1,(g x.1 x.2.1 x.q.1).2,()))):zw (zhT g c):=sJ.add h
abbrev zuF:Nat->aY:=λj=>if j=10 then{slots:=[1,2,3,6,8,9],prom:=[(8,M 5,Q5)]}else if j=500004 then{slots:=[1,2,3,6,8,30],cut:=O}else if j=500006 then{slots:=[1,2,3,6,8,39],cut:=O}else if j=500008 then{slots:=[1,2,3,6,8],cut:=O}else{ }
inductive B7 where
 |h500004 (i1:zy) (i2:zy) (b30:Bool) (z0:zq cpE) (z1:zq qN) (z2:zq qN)
 |h500006 (i1:zy) (i2:zy) (b39:Bool) (z0:zq cpE) (z1:zq qN) (z2:zq qN)
 |h500008 (i1:zy) (i2:Int) (z0:zq cpE) (z1:zq qN) (z2:zq qN)
 |h10 (i1:zy) (i2:Int) (i9:Int) (z0:zq cpE) (z1:zq qN) (z2:zq zsv)
abbrev zxq:B7->Nat×St
 |.h500004 i h b x a z=>(500004,⟨tm 88 [(1,L i),(2,L h),(3,ptr 0 0),(6,ptr 1 0),(8,ptr 2 0),(30,AV.bool b)],[Qa (bF [] cpE x),Qa (bF [] qN a),Qa (bF [] qN z)]⟩)
 |.h500006 i h c x a z=>(500006,⟨tm 88 [(1,L i),(2,L h),(3,ptr 0 0),(6,ptr 1 0),(8,ptr 2 0),(39,AV.bool c)],[Qa (bF [] cpE x),Qa (bF [] qN a),Qa (bF [] qN z)]⟩)
 |.h500008 i h x a z=>(500008,⟨tm 88 [(1,L i),(2,L h),(3,ptr 0 0),(6,ptr 1 0),(8,ptr 2 0)],[Qa (bF [] cpE x),Qa (bF [] qN a),Qa (bF [] qN z)]⟩)
 |.h10 i h d x a z=>(10,⟨tm 88 [(1,L i),(2,L h),(3,ptr 0 0),(6,ptr 1 0),(8,ptr 2 0),(9,L d)],[Qa (bF [] cpE x),Qa (bF [] qN a),Qa (bF [3] zsv z),AO.vec Q5 z.u.1]⟩)
def ze0(_:J Q5->zy->zy->J Q5×zy)(_:J Q5->zy->zy->Bool)(x:J Q5)(b d:zy):Tr (B7⊕az):=
 let a:=N ((↑(X (zg.s x)):Int)>20)
 let h:=((zg.v x).1,(zg.v x).2.1,(zg.v x).q,zg.s x,())
 br (N ((↑(X (zg.op x)):Int)>8))
 (chk (N (0<=0)&&N (0<=8)&&N (8<=(↑(X (zg.op x)):Int)))
  (Tr.to (B7.h500004 b d a (x,()) ([],0,0,[],[],()) (Qg (Z 8-Z 0) (Qh (Z 0) (zg.op x)),h))))
 (Tr.to (B7.h500004 b d a (x,()) ([],0,0,[],[],()) (zg.op x,h)))
def A7(g:J Q5->zy->zy->J Q5×zy)(c:J Q5->zy->zy->Bool):B7->Tr (B7⊕az)
 | .h500004 i x m h a z=>
  let d:=(X z.t.1:Int)
  let b:=(X z.r.1:Int)
  let j:=N (b>45)
  br m
  (chk (N (0<=0)&&N (0<=20)&&N (20<=d)) (Tr.to (B7.h500006 i x j h a (z.1,z.2.1,z.q.1,z.r.1,Qg (Z 20-Z 0) (Qh (Z 0) z.t.1),()))))
  (Tr.to (B7.h500006 i x j h a z))
 | .h500006 i x n h a z=>
  let d:=(X z.r.1:Int)
  let b:=Γ Δ (x-1)
  br n
  (chk (N (0<=0)&&N (0<=45)&&N (45<=d)) (Tr.to (B7.h500008 i b h a (z.1,z.2.1,z.q.1,Qg (Z 45-Z 0) (Qh (Z 0) z.r.1),z.t))))
  (Tr.to (B7.h500008 i b h a z))
 | .h500008 i x h a z=>
  Tr.to (B7.h10 i x 0 h a (z.1,z.2.1,z.q.1,z.r.1,z.t.1,[],()))
 | .h10 i x k h a z=>
  let d:=(↑(zg.l h.1).length:Int)
  let b:=zt ((zg.l h.1).getD k.toNat (zi Q5))
  let j:=Γ Δ (i-1)
  let o:=g b j x
  let p:=[zt o.1]
  br (cond (N (k<d)) (cond (N (k<3)) (cond (N (i>0)) (N (x>0)) S) S) S)
  (chk (zL k (zg.l h.1).length) (chk (c b j x) (chk (N (X z.u.1+X p<=1073741824)) (Tr.to (B7.h10 i o.2 (Γ Δ (k+1)) h a (z.1,z.2.1,z.q.1,z.r.1,z.t.1,z.u.1++p,()))))))
  (re (tup [agg [I z.1,L z.2.1,L z.q.1,I z.r.1,I z.t.1,AV.vec 0],L x]) [AO.vec Q5 z.u.1])
def Ns(o:Option (zF (List.map M [Q5,zk]))):J Q5×zy:=(λr:zF (List.map M [Q5,zk])=>(r.1,r.2.1)) (o.getD (cH [Q5,zk]))
def zsS(g:J Q5->zy->zy->J Q5×zy)(c:J Q5->zy->zy->Bool)(x:J Q5)(h a:zy):Option (zF (List.map M [Q5,zk])):=ar [Q5,zk] (A7 g c) 100000000 (ze0 g c x h a)
def qO:Nat->J Q5->zy->zy->Option (zF (List.map M [Q5,zk]))
 |0=>λ_ _ _=>Q2
 |n+1=>zsS (λx h a=>Ns (qO n x h a)) λx h a=>(qO n x h a).isSome
theorem znb:zZ Ib.P 122 Tryz.f122 3:=cI kw
theorem SH:∀n,FK 122 (ac [Q5,zk,zk] [Q5,zk] (λx=>(qO n x.1 x.2.1 x.q.1).isSome) λx=>((Ns (qO n x.1 x.2.1 x.q.1)).1,(Ns (qO n x.1 x.2.1 x.q.1)).2,()))
 |0=>fb ⟨Tryz.f122,znb.1,znb.2.1,znb.q.1⟩ (λ_=>rfl)
 |n+1=>(VM (SH n)).TT (f:=Tryz.f122) (E:=zhT (λh a b=>Ns (qO n h a b)) (λh a b=>(qO n h a b).isSome)) (ks:=[Q5,zk,zk]) (outs:=[Q5,zk]) (keep:=zuF) (n:=100000000) (e:=zxq) (t:=A7 (λh a b=>Ns (qO n h a b)) (λh a b=>(qO n h a b).isSome)) (i:=λx=>ze0 (λh a b=>Ns (qO n h a b)) (λh a b=>(qO n h a b).isSome) x.1 x.2.1 x.q.1)
def uj(h:Nat)(e:J Q5)(d n:zy):J Q5×zy:=Ns (qO h e d n)
def NN(h:Nat)(e:J Q5)(d n:zy):Bool:=(qO h e d n).isSome
def F15:ah:=ac [Q5,zk,zk] [Q5,zk] (λx=>NN 16 x.1 x.2.1 x.q.1) λx=>((uj 16 x.1 x.2.1 x.q.1).1,(uj 16 x.1 x.2.1 x.q.1).2,())
theorem zq1:FK 122 F15:=SH 16
def eqL(g:zg->zg->Bool):List zg->List zg->Bool
 |x::r,y::s=>if(!g x y)=O then S else eqL g r s
 |_,_=>O
def V1(g c:zg->zg->Bool):List zg->List zg->Bool
 |x::r,y::s=>if c x y=O then(ite ((!g x y)=O) O (V1 g c r s))else S
 |_,_=>O
def VK(g c:zg->zg->Bool):ct:=Ib.add 177 (ac [.expr,.expr] [.bool] (λx=>c x.1 x.2.1) (λx=>(g x.1 x.2.1,())))
variable {c d:zg->zg->Bool}
theorem D4(h:FK 177 (ac [.expr,.expr] [.bool] (λx=>c x.1 x.2.1) (λx=>(d x.1 x.2.1,())))):zw (VK d c):=sJ.add h
abbrev zun:Nat->aY:=λj=>if j=4 then{slots:=[1,2,15,16,17]}else{ }
abbrev Ux(x l:List zg)(i h:Int):St:={tmps:=(tm 32 [(1,T Q5 x),(2,AV.clo (Fn.func 177) [] []),(15,T Q5 l),(16,L i),(17,L h)]),heap:=[]}
theorem zfl(g c:zg->zg->Bool):zZ (VK g c).P 226 Tryz.f226 3:=cI kw
theorem zya(g c:zg->zg->Bool)(l m:List zg):rn (VK g c) 0 zun Tryz.f226 [T Q5 l,T Q5 m,AV.clo (Fn.func 177) [] []] []=br ((X l:Int)!=(X m:Int)) (Tr.ok (zT.ret (kb S) [])) (Tr.ok (zT.head 4 (ap Tryz.f226 4) (Ux m l (X l:Int) 0))):=kw
theorem zaF(g c:zg->zg->Bool)(x l:List zg)(h i:Int):rh (VK g c) 0 zun Tryz.f226 4 (Ux x l h i)=let d:=l.getD i.toNat (zi Q5);let j:=x.getD i.toNat (zi Q5);let a:=zt j;let b:=zt d;br (N (i<h)) (chk (zL i (X l)) (chk (zL i (X x)) (chk (c b a) (br (!g b a) (Tr.ok (zT.ret (kb S) [])) (Tr.ok (zT.head 4 (ap Tryz.f226 4) (Ux x l h (Γ Δ (i+1))))))))) (Tr.ok (zT.ret (kb O) [])):=kw
theorem zwM(p:FK 177 (ac [.expr,.expr] [.bool] (λx=>c x.1 x.2.1) (λx=>(d x.1 x.2.1,()))))(o:∀id,0<=id->C.ρ0 id=Q2)(l m:List zg)(v:X l=X m)(y:X l<=aE):
  ∀(k i:Nat),X l-i=k->i<=X l->V1 d c (l.drop i) (m.drop i)=O->Reach (VK d c) C 226 (ap Tryz.f226 4) (Ux m l (X l) i) (λr h=>(r,h)=(.kb (eqL d (l.drop i) (m.drop i)),[])):=by
 intro k
 induction k with
 | zero=>
  intro i u s j;obtain rfl:i=X l:=by omega
  refine zJ (D4 p) (zfl d c) o (zaF d c _ _ _ _) ?_;simp only[zM,Tr.val_brF,ky];rfl
 | succ k q=>
  intro i u s j;have b:i<X l:=by omega
  have a:i<X m:=by omega
  refine zJ (D4 p) (zfl d c) o (zaF d c _ _ _ _) ?_;rw[ij b,ij a]at j|-;rw[V1]at j;have g:=sT j;simp only[zO b,zx b,zx a,dm l _ b,dm m _ a,zg.eta,Tr.val_brT,Tr.val_chkT,g.1,zu i W];refine oh (λh=>?_) (λh=>?_)
  .rw[eqL,zf h];rfl
  .rw[eqL,zh (oO h)];have n:=g.2;rw[zh (oO h)]at n;exact q (i+1) W W n
def QP(g:zg->zg->Bool)(l m:List zg):Bool:=if((X l:Int)!=(X m:Int))=O then S else eqL g l m
def EB(g c:zg->zg->Bool)(l m:List zg):Bool:=if((X l:Int)!=(X m:Int))=O then O else V1 g c l m
def G50(g c:zg->zg->Bool):fz [M (.sl .expr),M (.sl .expr),Q2]:=λx h=>match x,h with
 |(l,m,.clo (.func 177) [] [],_),[]=>.chk (EB g c l m) (.ok (.bool (QP g l m),[]))
 |_,_=>.err
def F50(g c:zg->zg->Bool):ah:=bj [M (.sl .expr),M (.sl .expr),Q2] (G50 g c)
theorem Reach.weaken{m:AV->List AO->Prop}(h:Reach E C fn x s Q)(D:∀r h,Q r h->∃d,m d h/\∀w U ρ v,Rv w U ρ r v->Rv w U ρ d v):Reach E C fn x s m:=by intro b p a w U ρ u y A z;have⟨e,F,q,⟨v,r,n,o,G,B,i,l,c⟩,g⟩:=h b p a w U ρ u y A z;have⟨d,j,k⟩:=D r n i;exact⟨e,F,q,⟨v,d,n,o,G,B,j,k _ _ _ _ l,c⟩,g⟩
theorem zrt(i:FK 177 (ac [.expr,.expr] [.bool] (λx=>c x.1 x.2.1) (λx=>(d x.1 x.2.1,())))):FK 226 (F50 d c):=by
 refine dw (E:=VK d c) (zfl d c) λx p o a C g=>?_
 unfold G50 at a;split at a
 .rename_i l m u;simp only[Tr.val]at a;split at a
  .rename_i b;simp only[bG]at a;subst a;refine Reach.len 0 .expr l rfl λj=>?_
   refine Reach.weaken (Q:=λr h=>(r,h)=(.kb (QP d l m),[])) ?_ ?_
   .refine zJ (n0:=0) (D4 i) (zfl d c) g (zya d c l m) ?_;unfold EB at b;unfold QP;refine oh (λh=>?_) (λh=>?_)
    .rw[zf h];rfl
    .rw[zh (oO h)]at b|-;have:(X l:Int)=X m:=by simpa using h
     have:X l=X m:=by omega
     exact zwM i g l m this j _ 0 rfl (aK _) b
   .rintro r h k;cases k;refine⟨_,rfl,λw U ρ v n=>?_⟩;cases n;exact .bool _
  .simp at a
 .simp at a
def zet(g c:zg->zg->Bool):ct:=Ib.add 226 (F50 g c)
theorem Yz(h:FK 177 (ac [.expr,.expr] [.bool] (λx=>c x.1 x.2.1) (λx=>(d x.1 x.2.1,())))):zw (zet d c):=sJ.add (zrt h)
def eqV(a b:V):Bool:=a.1==b.1&&(a.2.1==b.2.1&&(a.q==b.q&&O))
def Pv(g:zg->zg->Bool)(a b:zg):Bool:=bif a.op==b.op then bif eqV a.v b.v then bif a.s==b.s then QP g a.l b.l else S else S else S
def L3(g c:zg->zg->Bool)(a b:zg):Bool:=bif a.op==b.op then bif eqV a.v b.v then bif a.s==b.s then EB g c a.l b.l else O else O else O
theorem zaw(g c:zg->zg->Bool):zZ (zet g c).P 177 Tryz.f177 2:=cI kw
theorem zxR(g c:zg->zg->Bool)(l m:zg):rn (zet g c) 0 (λ_=>{}) Tryz.f177 [zX Q5 l,zX Q5 m] []=chk (L3 g c l m) (Tr.ok (zT.ret (AV.bool (Pv g l m)) [])):=kw
theorem zkv(a:FK 177 (ac [.expr,.expr] [.bool] (λx=>c x.1 x.2.1) (λx=>(d x.1 x.2.1,())))):FK 177 (ac [.expr,.expr] [.bool] (λx=>L3 d c x.1 x.2.1) (λx=>(Pv d x.1 x.2.1,()))):=by
 refine aZ (E:=zet d c) (zaw d c) λx b C h=>?_
 refine zJ (n0:=0) (Yz a) (zaw d c) (λid _=>h id) (zxR d c x.1 x.2.1) ?_;exact fT b rfl
mutual
def gK:Nat->zg->zg->Bool
 |0=>λ_ _=>S
 |n+1=>Pv (gK n)
def lk:Nat->zg->zg->Bool
 |0=>λ_ _=>S
 |n+1=>L3 (gK n) (lk n)
end
theorem Xt:∀n,FK 177 (ac [.expr,.expr] [.bool] (λx=>lk n x.1 x.2.1) (λx=>(gK n x.1 x.2.1,())))
 |0=>fb ⟨Tryz.f177,(zaw (λ_ _=>S) (λ_ _=>S)).1,(zaw (λ_ _=>S) (λ_ _=>S)).2.1,(zaw (λ_ _=>S) (λ_ _=>S)).q.1⟩ (λ_=>rfl)
 |n+1=>zkv (Xt n)
def F29:ah:=ac [.expr,.expr] [.bool] (λx=>lk 16 x.1 x.2.1) (λx=>(gK 16 x.1 x.2.1,()))
theorem zrb:FK 177 F29:=Xt 16
def S8:=Ib.addL [(122,F15),(177,F29)]
theorem Ic:zw S8:=sJ.addL<|fc zq1<|fc zrb jb
def bD(v:V):Bool:=v.1==0&&(v.2.1==0&&(v.q==[]&&O))
def avB:AV->Option Bool
 |.bool b=>M b
 |.kb b=>M b
 |_=>Q2
theorem Reach.toBool{b:Bool}(h:Reach E C fn x s (λr h=>avB r=M b/\h=z)):Reach E C fn x s (λr h=>(r,h)=(.bool b,z)):=by
 refine h.weaken λr g c=>?_
 obtain⟨a,rfl⟩:=c;refine⟨.bool b,rfl,λw U ρ v d=>?_⟩;cases r<;>simp[avB]at a<;>subst a<;>cases d<;>exact .bool _
def zlQ(g:zg->Int->Int->Bool×Int)(c:zg->Int->Int->Bool):fz [Q2,M .expr,M zk]:=λx h=>match x,h with
 |(.ptr 0 0,e,d,_),[.box [L n]]=>.chk (c e d n) (.ok (.bool (g e d n).1,[.box [L (g e d n).2]]))
 |_,_=>.err
def PM(g:zg->Int->Int->Bool×Int)(c:zg->Int->Int->Bool):ah:=bj [Q2,M .expr,M zk] (zlQ g c)
def VJ(g:zg->Int->Int->Bool×Int)(c:zg->Int->Int->Bool):ct:=S8.add 228 (PM g c)
variable {l:zg->Int->Int->Bool×Int}{u:zg->Int->Int->Bool}
theorem D3(h:FK 228 (PM l u)):zw (VJ l u):=Ic.add h
abbrev zue:Nat->aY:=λj=>if j=12 then{slots:=[0,2,73,74,75]}else{ }
abbrev LZ(x:Int)(l:LX)(i h j:Int):St:={tmps:=(tm 86 [(0,ptr 0 0),(2,L x),(73,T Q5 l),(74,L i),(75,L h)]),heap:=[Qa [L j]]}
theorem zax(g:zg->Int->Int->Bool×Int)(c:zg->Int->Int->Bool):zZ (VJ g c).P 228 Tryz.f228 3:=cI kw
theorem zxX(g:zg->Int->Int->Bool×Int)(c:zg->Int->Int->Bool)(e:zg)(d n:Int):rn (VJ g c) 1 zue Tryz.f228 [ptr 0 0,zX Q5 e,L d] [Qa [L n]]=let a:=Γ Δ (n+1);let h:=Tr.ok (zT.ret (kb S) [Qa [L a]]);br (cond (N (d>12)) O (cond (N (Γ Δ (n+1)>60)) O ((e.l.length:Int)!=dT e.op))) h (br (e.op==pt) (Tr.ok (zT.ret (AV.bool (cond (e.s==[]) (bf e.v) S)) [Qa [L a]])) (br (e.op==fh) (Tr.ok (zT.ret (AV.bool (cond (bD e.v) (cond (eU e.s) (!kd e.s) S) S)) [Qa [L a]])) (br (cond (!bD e.v) O (!e.s==[])) h (Tr.ok (zT.head 12 (ap Tryz.f228 12) (LZ d e.l (e.l.length:Int) 0 a)))))):=kw
theorem TX(g:zg->Int->Int->Bool×Int)(c:zg->Int->Int->Bool)(x:Int)(l:LX)(h i j:Int):rh (VJ g c) 1 zue Tryz.f228 12 (LZ x l h i j)=let d:=l.getD i.toNat (zi Q5);let b:=zt d;let a:=g b (Γ Δ (x+1)) j;br (N (i<h)) (chk (zL i (X l)) (chk (c b (Γ Δ (x+1)) j) (br (!a.1) (Tr.ok (zT.ret (kb S) [Qa [L a.2]])) (Tr.ok (zT.head 12 (ap Tryz.f228 12) (LZ x l h (Γ Δ (i+1)) a.2)))))) (Tr.ok (zT.ret (kb O) [Qa [L j]])):=kw
def qR(g:zg->Int->Int->Bool×Int)(d:Int):List zg->Int->Bool×Int
 |[],n=>(O,n)
 |x::r,n=>if(!(g x (Γ Δ (d+1)) n).1)=O then(S,(g x (Γ Δ (d+1)) n).2)else qR g d r (g x (Γ Δ (d+1)) n).2
def Fh(g:zg->Int->Int->Bool×Int)(c:zg->Int->Int->Bool)(d:Int):List zg->Int->Bool
 |[],_=>O
 |x::r,n=>if c x (Γ Δ (d+1)) n=O then(ite ((!(g x (Γ Δ (d+1)) n).1)=O) O (Fh g c d r (g x (Γ Δ (d+1)) n).2))else S
theorem zwL(m:FK 228 (PM l u))(j:∀id,1<=id->C.ρ0 id=Q2)(d:Int)(x:List zg)(s:X x<=aE):
  ∀(k i:Nat)(n:Int),X x-i=k->i<=X x->Fh l u d (x.drop i) n=O->Reach (VJ l u) C 228 (ap Tryz.f228 12) (LZ d x (X x) i n) (λr h=>avB r=M (qR l d (x.drop i) n).1/\h=[.box [L (qR l d (x.drop i) n).2]]):=by
 intro k
 induction k with
 | zero=>
  intro i n q p c;obtain rfl:i=X x:=by omega
  refine zJ (D3 m) (zax l u) j (TX l u _ _ _ _ _) ?_;simp only[zM,Tr.val_brF,ky];exact⟨rfl,rfl⟩
 | succ k o=>
  intro i n q p c;have a:i<X x:=by omega
  refine zJ (D3 m) (zax l u) j (TX l u _ _ _ _ _) ?_;rw[ij a]at c|-;rw[Fh]at c;have b:=sT c;simp only[zO a,zx a,dm x _ a,zg.eta,Tr.val_brT,Tr.val_chkT,b.1,zu i W];refine oh (λh=>?_) (λh=>?_)
  .rw[qR,zf h];exact⟨rfl,rfl⟩
  .rw[qR,zh (oO h)];have g:=b.2;rw[zh (oO h)]at g;exact o (i+1) _ W W g
def Ci(g:zg->Int->Int->Bool×Int)(e:zg)(d n:Int):Bool×Int:=if(cond (N (d>12)) O (cond (N (Γ Δ (n+1)>60)) O ((e.l.length:Int)!=dT e.op)))=O then(S,Γ Δ (n+1))else if(e.op==pt)=O then(cond (e.s==[]) (bf e.v) S,Γ Δ (n+1))else if(e.op==fh)=O then(cond (bD e.v) (cond (eU e.s) (!kd e.s) S) S,Γ Δ (n+1))else if(cond (!bD e.v) O (!e.s==[]))=O then(S,Γ Δ (n+1))else qR g d e.l (Γ Δ (n+1))
def TF(g:zg->Int->Int->Bool×Int)(c:zg->Int->Int->Bool)(e:zg)(d n:Int):Bool:=if(cond (N (d>12)) O (cond (N (Γ Δ (n+1)>60)) O ((e.l.length:Int)!=dT e.op)))=O then O else if(e.op==pt)=O then O else if(e.op==fh)=O then O else if(cond (!bD e.v) O (!e.s==[]))=O then O else Fh g c d e.l (Γ Δ (n+1))
theorem zkL{g:zg->Int->Int->Bool×Int}(k:FK 228 (PM g u)):FK 228 (PM (Ci g) (TF g u)):=by
 refine dw (E:=VJ g u) (zax g u) λx p o a C j=>?_
 unfold zlQ at a;split at a
 .rename_i e d h n;simp only[Tr.val]at a;split at a
  .rename_i c;simp only[bG]at a;subst a;refine Reach.toBool ?_;refine zJ (n0:=1) (D3 k) (zax g u) j (zxX g u e d n) ?_;generalize i:Ci g e d n=y;unfold Ci at i;unfold TF at c;repeat' (refine oh (λb=>?_) (λb=>?_)<;>first|(rw[zf b]at i c)|(rw[zh (oO b)]at i c))
   all_goals subst i
   .exact⟨rfl,rfl⟩
   .exact⟨rfl,rfl⟩
   .exact⟨rfl,rfl⟩
   .exact⟨rfl,rfl⟩
   .exact Reach.len 73 .expr e.l rfl λm=>zwL k j d e.l m _ 0 _ rfl (aK _) c
  .simp at a
 .simp at a
mutual
def jk:Nat->zg->Int->Int->Bool×Int
 |0=>λ_ _ _=>(S,0)
 |n+1=>Ci (jk n)
def xf:Nat->zg->Int->Int->Bool
 |0=>λ_ _ _=>S
 |n+1=>TF (jk n) (xf n)
end
theorem Xu:∀n,FK 228 (PM (jk n) (xf n))
 | 0=>by
  have h:FK 228 (bj [Q2,M .expr,M zk] (λ_ _=>.err)):=dw (zax (λ_ _ _=>(S,0)) (λ_ _ _=>S)) (E:=S8) λx c b a=>by simp at a
  refine Cq (ι:=Unit) (Gs:=λ_ _ _=>.err) (λ_=>h) λx c b a=>?_
  unfold zlQ at a;split at a
  .simp[Tr.val,xf]at a
  .simp at a
 |n+1=>zkL (Xu n)
def F37:ah:=PM (jk 16) (xf 16)
theorem zrg:FK 228 F37:=Xu 16
def Id:=S8.add 228 F37
theorem yU:zw Id:=Ic.add zrg
end
end Cad
