/- Values. -/
import Derived.Test.YtjdjldbhjmgmkaaGreatDoorP08
namespace Cad
open Go Go.Proofs
open List renaming length->Io,drop->Qh,take->Qg,length->X
open IntKind renaming wrap->Γ,i64->Δ
open AO renaming box->Qa
open Sh renaming bool->Q7,str->Q6,expr->Q5
open Bool renaming false->Q4,true->Q3,true->O,false->S
open Option renaming none->Q2,some->Q1,some->M
open Decidable renaming decide->Q0,decide->T
open Int (toNat)
open Int renaming toNat->Z
open Tr (chk br)
open AV (nils agg tup ptr kb sl)
open AV renaming str->I,sl->N
open Cad renaming ze->R,ai->L,Sem->J,ow->W
noncomputable section
def uY(x h:zq):zq:=if(!fN x h)=O then(0,0,[])else eh (T (aF x h<0))
theorem zuP:zY uD.P 234 Tryz.f234 2:=cK kw
theorem zxy(x h:zq):rn uD 0 (λ_=>{ }) Tryz.f234 [zW R x,zW R h] []=br (!fN x h) (Tr.ok (zR.ret (agg [L 0,L 0,I []]) [])) (Tr.ok (zR.ret (agg [L (eh (T (aF x h<0))).1,L (eh (T (aF x h<0))).2.1,I (eh (T (aF x h<0))).2.2]) [])):=kw
def F43:ag:=aU [R,R] [R] λx=>(uY x.1 x.2.1,())
theorem zqU:FK 234 F43:=by
 refine aq zuP λx C h=>?_
 refine bw lN zuP (λid _=>h id) (zxy x.1 x.2.1) ?_;simp only[Tr.val,uY];repeat' split
 all_goals rfl
def HA(x:zq):zq:=if T ((X x.2.2:Int)>60)=O then(x.1,x.2.1,Qg (Z 60-Z 0) (Qh (Z 0) x.2.2))else x
def PI(x:zq):Bool:=bif T ((X x.2.2:Int)>60)then T (0<=0)&&T (0<=60)&&T (60<=(X x.2.2:Int))else O
theorem zuz:zY uD.P 41 Tryz.f41 1:=cK kw
theorem zxe(x:zq):rn uD 0 (λ_=>{ }) Tryz.f41 [zW R x] []=br (T ((X x.2.2:Int)>60)) (chk (T (0<=0)&&T (0<=60)&&T (60<=(X x.2.2:Int))) (Tr.ok (zR.ret (agg [L x.1,L x.2.1,I (Qg (Z 60-Z 0) (Qh (Z 0) x.2.2))]) []))) (Tr.ok (zR.ret (agg [L x.1,L x.2.1,I x.2.2]) [])):=kw
def F14:ag:=ac [R] [R] (λx=>PI x.1) λx=>(HA x.1,())
theorem zhl:FK 41 F14:=by
 refine aV zuz λx a C h=>?_
 refine bw lN zuz (λid _=>h id) (zxe x.1) ?_;simp only[PI,Bool.cond_eq_ite]at a;simp only[Tr.val,HA];repeat' split
 all_goals first|rfl|simp_all
def kj(x:J Q6):J Q6:=if T ((X x:Int)>20)=O then Qg (Z 20-Z 0) (Qh (Z 0) x)else x
def Uw(x:J Q6):Bool:=bif T ((X x:Int)>20)then T (0<=0)&&T (0<=20)&&T (20<=(X x:Int))else O
theorem zuy:zY uD.P 185 Tryz.f185 1:=cK kw
theorem zxd(x:J Q6):rn uD 0 (λ_=>{ }) Tryz.f185 [zW Q6 x] []=br (T ((X x:Int)>20)) (chk (T (0<=0)&&T (0<=20)&&T (20<=(X x:Int))) (Tr.ok (zR.ret (I (Qg (Z 20-Z 0) (Qh (Z 0) x))) []))) (Tr.ok (zR.ret (I x) [])):=kw
def F12:ag:=ac [Q6] [Q6] (λx=>Uw x.1) λx=>(kj x.1,())
theorem zhk:FK 185 F12:=by
 refine aV zuy λx a C h=>?_
 refine bw lN zuy (λid _=>h id) (zxd x.1) ?_;simp only[Uw,Bool.cond_eq_ite]at a;simp only[Tr.val,kj];repeat' split
 all_goals first|rfl|simp_all
def F79:ag:=bf (List.replicate 2 Q2) (fj uD Tryz.f311 (List.replicate 2 Q2))
theorem zrp:FK 311 F79:=cm _ lN (cK kw)
def F18:ag:=bf (List.replicate 2 Q2) (fj uD Tryz.f109 (List.replicate 2 Q2))
theorem zqC:FK 109 F18:=cm _ lN (cK kw)
def zhE:=uD.addL [(234,F43),(41,F14),(185,F12),(311,F79),(109,F18)]
theorem yR:zw zhE:=lN.addL<|fc zqU<|fc zhl<|fc zhk<|fc zrp<|fc zqC jg
open Go
def wb:(ks:List Sh)->zF (ks.map M++[Q2])->zF (ks.map M)×AV
 |[],x=>((),x.1)
 |_::ks,x=>((x.1,(wb ks x.2).1),(wb ks x.2).2)
theorem DJ:∀(ks:List Sh)(x:zF (ks.map M++[Q2])),jk (ks.map M++[Q2]) x=jk (ks.map M) (wb ks x).1++[(wb ks x).2]
 |[],_=>rfl
 |s::ks,x=>congrArg (zW s x.1::·) (DJ ks x.2)
def Zw(k:Nat):AV->Bool
 |.clo (.func j) [] []=>j==k
 |_=>S
variable {n:Nat}
theorem Zx{F:AV}(h:Zw n F=O):F=.clo (.func n) [] []:=by
 unfold Zw at h;split at h
 .rw[bW]at h;rw[h]
 .cases h
abbrev Xe(ks outs:List Sh):=Nat×(zF (ks.map M)->Bool)×(zF (ks.map M)->zF (outs.map M))
def zdu{ks outs:List Sh}(v:AV):List (Xe ks outs)->Option ((zF (ks.map M)->Bool)×(zF (ks.map M)->zF (outs.map M)))
 |[]=>Q2
 |(k,a)::r=>if Zw k v then M a else zdu v r
theorem M3{ks outs:List Sh}{F:AV}{a}:∀{l:List (Xe ks outs)},zdu F l=M a->∃k,F=.clo (.func k) [] []/\(k,a)∈l
 |[],h=>by cases h
 | (k,b)::r,h=>by
  unfold zdu at h;split at h
  next d=>cases h;exact⟨k,Zx d,uA ..⟩
  .have⟨j,x,c⟩:=M3 h;exact⟨j,x,nc _ c⟩
def T4(ks outs:List Sh)(l:List (Xe ks outs)):fD (ks.map M++[Q2]):=λx h=>match h with
 | []=>match zdu (wb ks x).2 l with
  |some (c,g)=>.chk (c (wb ks x).1) (.ok (BY outs (g (wb ks x).1),[]))
  |none=>.err
 |_=>.err
def zaN(ks outs:List Sh)(l:List (Xe ks outs)):ag:=bf (ks.map M++[Q2]) (T4 ks outs l)
variable {P:Program}{g:Nat->AV}{E:cu}{h:FuncId}{f:Func}{ks outs:List Sh}
theorem PQ{l:List (Xe ks outs)}(n:zY E.P h f (X ks+1))
  (b:∀j c a,(j,c,a)∈l->∀x,c x=O->∀C:eW,(∀id,C.ρ0 id=Q2)->Reach E C h (bq f) (bg f.ntmps (jk (ks.map M) x++[.clo (.func j) [] []]) []) (λr b=>aZ b outs r=M (a x))) (s:E.P=P:=by rfl) (q:E.gl=g:=by rfl):om P g h (zaN ks outs l):=by
 subst s q;refine dz (by simpa using n) λx v u d C k=>?_
 unfold T4 at d;split at d
 .split at d
  .rename_i c a i;have⟨j,p,o⟩:=M3 i;simp only[Tr.val]at d;split at d
   next m=>simp only[bG]at d;subst d;rw[DJ,p];exact Reach.plain (λid=>k id (by simp)) (b j c a o _ m C (λid=>k id (by simp)))
   .simp at d
  .simp at d
 .simp at d
inductive CP where
 |d (s:Sh)
 |nil
 |vec (e:Sh)
@[reducible] def zp:List CP->Type
 |[]=>Unit
 |.d s::r=>J s×zp r
 |.nil::r=>zp r
 |.vec e::r=>List (J e)×zp r
def fG:(n:Nat)->(p:List CP)->zp p->List AV
 |_,[],_=>[]
 |n,.d s::r,y=>zC s y.1++fG n r y.2
 |n,.nil::r,y=>.nils::fG n r y
 |n,.vec _::r,y=>.vec n::fG (n+1) r y.2
def im:(p:List CP)->zp p->List AO
 |[],_=>[]
 |.d _::r,y=>im r y.2
 |.nil::r,y=>im r y
 |.vec e::r,y=>.vec e y.1::im r y.2
def ba(ps:List CP)(y:zp ps):List AO:=.box (fG 1 ps y)::im ps y
def bl:List CP->Nat
 |[]=>0
 |.vec _::r=>bl r+1
 |_::r=>bl r
theorem cz:∀(p:List CP)(y:zp p),(im p y).length=bl p
 |[],_=>rfl
 |.d _::r,y=>cz r y.2
 |.nil::r,y=>cz r y
 |.vec _::r,y=>congrArg (·+1) (cz r y.2)
def dl(hp:Nat->AO):(n:Nat)->(p:List CP)->List AV->Option (zp p)
 |_,[],[]=>M ()
 | n,.d s::r,cs=>match dD (fun _=>.dead) s cs with
  | some (x,cs')=>match dl hp n r cs' with
   |some y=>M (x,y)
   |none=>Q2
  |none=>Q2
 |n,.nil::r,.nils::cs=>dl hp n r cs
 | n,.vec e::r,.vec id::cs=>if id=n then match hp id with
   | .vec a l=>if h:a=e then match dl hp (n+1) r cs with
     |some y=>M (h▸l,y)
     |none=>Q2
    else Q2
   |_=>Q2
  else Q2
 |_,_,_=>Q2
section
variable {w:World} {U:Nat->Prop} {ρ:Nat->Option Value}
variable {m:List AV}{A:List Value}
theorem dn.app{H:List AV}{g:List Value}(h:dn w U ρ m A)(b:dn w U ρ H g):dn w U ρ (m++H) (A++g) where
 len:=by simp[h.len,b.len]
 rv:=by
  intro j c v x a;by_cases d:j<X m
  .rw[rl d]at x;rw[rl (by rw[<-h.len];exact d)]at a;exact h.rv j c v x a
  .rw[pu W]at x;rw[pu (by rw[<-h.len];omega),<-h.len]at a;exact b.rv _ c v x a
variable {v:Value}
theorem dn.tail{F:AV}(h:dn w U ρ (F::m) (v::A)):dn w U ρ m A:=
 ⟨by have:=h.len;simpa using this,λj c x a b=>h.rv (j+1) c x (by simpa using a) (by simpa using b)⟩
theorem dn.consH{F:AV}(d:Rv w U ρ F v)(b:dn w U ρ m A):dn w U ρ (F::m) (v::A) where
 len:=by simp[b.len]
 rv:=by
  intro j c x h a;cases j with
  |zero=>simp at h a;subst h;subst a;exact d
  |succ j=>exact b.rv j c x (by simpa using h) (by simpa using a)
theorem gG{hp:Nat->AO}:∀(B:List CP)(n:Nat)(cs:List AV)(y:zp B)(a:List Value),dl hp n B cs=Q1 y->dn w U ρ cs a->
  dn w U ρ (fG n B y) a/\∀(j:Nat) o,(im B y)[j]?=M o->hp (n+j)=o
 |[],n,[],y,a,h,g=>⟨g,by simp[im]⟩
 |[],n,_::_,y,a,h,g=>by simp[dl]at h
 | .d s::r,n,cs,y,a,h,g=>by
  unfold dl at h;split at h
  .rename_i x cs' hi;split at h
   .rename_i F D;cases h
    have hk:=pP (w:=w) (U:=U) (U':=U) (ρ:=ρ) (hp:=λ_=>.dead) (λ_ h=>h) s cs x cs' (λj=>a.getD j undef) hi
     (λj c k=>by
      have u:j<X a:=by rw[<-g.len];exact(dF.1 k).1
      have:=g.rv j c a[j] k (af u);simpa[List.getD,af u]using this)
     (λid _=>⟨trivial,λb H=>by simp[an,AO.owns]at H⟩)
    have⟨k1,G,k3⟩:=hk;have m:dn w U ρ cs' (a.drop s.size):=by
     refine⟨by rw[G];simp[g.len],λj c v k i=>?_⟩;rw[G,DE]at k;rw[DE]at i;exact g.rv _ c v k i
    have⟨z,A⟩:=gG r n cs' F (a.drop s.size) D m;refine⟨?_,A⟩;have p:dn w U ρ (zC s x) (a.take s.size):=by
     refine⟨by rw[ao];have:=g.len;simp;omega,λj c v k i=>?_⟩;have q:j<s.size:=by rw[<-ao s x];exact(dF.1 k).1
     rw[List.getElem?_take,zf q]at i;have:=k3 j c k;simpa[List.getD,i]using this
    have:=p.app z;rw[List.take_append_drop]at this;exact this
   .cases h
  .cases h
 | .nil::r,n,.nils::cs,y,a,h,g=>by
  match a,g with
  |[],g=>have:=g.len;simp at this
  | v::vs,g=>
   have i:=g.rv 0 _ v rfl rfl;have⟨z,A⟩:=gG r n cs y vs h g.tail;exact⟨dn.consH i z,A⟩
 | .vec e::r,n,.vec id::cs,y,a,h,g=>by
  match a,g with
  |[],g=>have:=g.len;simp at this
  | v :: vs,g=>
   have i:=g.rv 0 _ v rfl rfl;unfold dl at h;split at h
   .rename_i C;subst C;split at h
    .rename_i e' l ho;split at h
     .rename_i P;subst P;split at h
      .rename_i F D;cases h;have⟨z,A⟩:=gG r (id+1) cs F vs D g.tail;refine⟨dn.consH i z,λj o q=>?_⟩;cases j with
       |zero=>simp[im]at q;subst q;exact ho
       | succ j=>
        have:=A j o (by simpa[im]using q);rw[<-this];congr 1;omega
      .cases h
     .cases h
    .cases h
   .cases h
 |.nil::_,_,[],_,_,h,_=>by simp[dl]at h
 |.vec _::_,_,[],_,_,h,_=>by simp[dl]at h
 |.nil::_,_,.any::_,_,_,h,_|.nil::_,_,.kb _::_,_,_,h,_|.nil::_,_,.bool _::_,_,_,h,_|.nil::_,_,.int _ _::_,_,_,h,_|.nil::_,_,.str _::_,_,_,h,_
 |.nil::_,_,.sl _ _::_,_,_,h,_|.nil::_,_,.vec _::_,_,_,h,_|.nil::_,_,.ptr _ _::_,_,_,h,_|.nil::_,_,.vptr _ _ _ _::_,_,_,h,_|.nil::_,_,.eptr _ _::_,_,_,h,_
 |.nil::_,_,.nilp::_,_,_,h,_|.nil::_,_,.agg _::_,_,_,h,_|.nil::_,_,.tup _::_,_,_,h,_|.nil::_,_,.clo _ _ _::_,_,_,h,_|.nil::_,_,.nilf::_,_,_,h,_
 |.nil::_,_,.mp _::_,_,_,h,_|.nil::_,_,.ifc _::_,_,_,h,_|.nil::_,_,.tab _ _::_,_,_,h,_|.nil::_,_,.gint::_,_,_,h,_=>by simp[dl]at h
 |.vec _::_,_,.any::_,_,_,h,_|.vec _::_,_,.kb _::_,_,_,h,_|.vec _::_,_,.bool _::_,_,_,h,_|.vec _::_,_,.int _ _::_,_,_,h,_|.vec _::_,_,.str _::_,_,_,h,_
 |.vec _::_,_,.sl _ _::_,_,_,h,_|.vec _::_,_,.nils::_,_,_,h,_|.vec _::_,_,.ptr _ _::_,_,_,h,_|.vec _::_,_,.vptr _ _ _ _::_,_,_,h,_|.vec _::_,_,.eptr _ _::_,_,_,h,_
 |.vec _::_,_,.nilp::_,_,_,h,_|.vec _::_,_,.agg _::_,_,_,h,_|.vec _::_,_,.tup _::_,_,_,h,_|.vec _::_,_,.clo _ _ _::_,_,_,h,_|.vec _::_,_,.nilf::_,_,_,h,_
 |.vec _::_,_,.mp _::_,_,_,h,_|.vec _::_,_,.ifc _::_,_,_,h,_|.vec _::_,_,.tab _ _::_,_,_,h,_|.vec _::_,_,.gint::_,_,_,h,_=>by simp[dl]at h
end
variable {C:eW}{w:World}{U:Nat->Prop}{ρ:Nat->Option Value}{cs:List AV}{os:List AO}{p:List CP}
theorem fF.box{y:zp p}(i:fF C w U ρ (λj=>((Qa cs::os).getD j .dead)))(hl:X os=bl p)
  (F:dl (lh (.box cs::os)) 1 p cs=M y):fF C w U ρ (λj=>(ba p y).getD j .dead):=by
 have n:bv w U ρ 0 (.box cs):=i.ob 0;have⟨b,h,d,q,s,u,z,A⟩:=n;have⟨H,P⟩:=gG p 1 cs y d.toList F z;have c:∀id,id≠0->(ba p y).getD id .dead=(Qa cs::os).getD id .dead:=by
  intro id x;obtain⟨j,rfl⟩:∃j,id=j+1:=⟨id-1,W⟩;by_cases k:j<(im p y).length
  .have:=P j _ (af k);unfold ba;simp only[DD];rw[bz,af k];simp only[lh,kV 1 j,DD]at this;simpa using this.symm
  .have B:X os<=j:=by rw[cz]at k;omega
   unfold ba;simp only[DD];rw[bz,bz,fg W,fg B]
 have a:∀id b,an ρ id ((ba p y).getD id .dead) b->an ρ id ((Qa cs::os).getD id .dead) b:=by
  intro id g ho;by_cases x:id=0
  .subst x;have⟨_,v,G,D⟩:=ho;exact⟨rfl,v,G,D⟩
  .rw[c id x]at ho;exact ho
 refine⟨λid=>?_,λl m g o1 o2=>i.inj l m g (a _ _ o1) (a _ _ o2),λid g o=>i.blk id g (a _ _ o)⟩;by_cases x:id=0
 .subst x;exact⟨b,h,d,q,s,u,H,A⟩
 .show bv w U ρ id ((ba p y).getD id .dead);rw[c id x];exact i.ob id
def vn(p:List CP)(outs:List Sh)(r:AV)(h:List AO):Option (zF (outs.map M)×zp p):=match h with
 | .box c::os=>if Io os=bl p then match aZ [] outs r,dl (lh (.box c::os)) 1 p c with
   |some a,M y=>M (a,y)
   |_,_=>Q2
  else Q2
 |_=>Q2
def zrZ(a:List CP)(ks outs:List Sh)(p:List CP)(c:zp a->zF (ks.map M)->Bool)(g:zp a->zF (ks.map M)->zF (outs.map M)×zp p):fD (Q2::ks.map M):=λx h=>match x.1,h with
 | .ptr 0 0,.box b::os=>if Io os=bl a then match dl (lh (.box b::os)) 1 a b with
   |some y=>.chk (c y x.2) (.ok (BY outs (g y x.2).1,ba p (g y x.2).2))
   |none=>.err
  else .err
 |_,_=>.err
def rq(ps:List CP)(ks outs:List Sh)(p:List CP)(c:zp ps->zF (ks.map M)->Bool)(g:zp ps->zF (ks.map M)->zF (outs.map M)×zp p):ag:=bf (Q2::ks.map M) (zrZ ps ks outs p c g)
theorem uC(p:List CP)(y:zp p):(ba p y).length=bl p+1:=by simp[ba,cz]
theorem JC{r:AV}{y:zF (outs.map M)}{v:Value}(h:aZ [] outs r=M y)(j:Rv w U ρ r v):Rv w U ρ (BY outs y) v:=by
 have g:∀id,bv w U ρ id (lh [] id)/\∀b,an ρ id (lh [] id) b->¬U b:=λid=>⟨by simp[lh,bv],λb d=>by simp[lh,an,AO.owns]at d⟩
 have a:∀(outs:List Sh)(y:zF (outs.map M))(c:List AV),nv (lh []) (λi=>i) (outs.map M) c=M y->Rv w U ρ (.tup c) v->Rv w U ρ (.tup (jk (outs.map M) y)) v:=by
  intro outs y c p l;cases l with
  |tup _ m n k=>
  have:=(kK (w:=w) (U:=U) (ρ:=ρ) (U':=U) (ρ':=ρ) (hp:=lh []) (f:=λi=>i) (λb d=>d) (outs.map M) c m _ (rR outs c y p) ⟨n,k⟩ (λid _=>g id)
   (λid _=>rfl)).1
  simp only[qC,Bn,zD,zm,List.map_id']at this;exact .tup _ m this.len this.rv
 match outs,y,h with
 | [s],y,h=>
  simp only[aZ]at h;split at h
  next x o=>cases h;exact DY o j (λb d=>d) (λid _=>g id)
  .cases h
 | [],y,h=>
  simp only[aZ]at h;cases r with
  |tup c=>exact a [] y _ h j
  |_=>cases h
 | q::s2::ss,y,h=>
  simp only[aZ]at h;cases r with
  |tup c=>exact a _ y _ h j
  |_=>cases h
variable {q:List CP}
theorem zdj{c:zp p->zF (ks.map some)->Bool}{d:zp p->zF (ks.map some)->zF (outs.map some)×zp q}(hf:zY E.P h f (X ks+1))
  (i:∀y x,c y x=O->∀C:eW,(∀id,bl p+1<=id->C.ρ0 id=Q2)->Reach E C h (bq f) (bg f.ntmps (.ptr 0 0::jk (ks.map M) x) (ba p y)) (λr i=>vn q outs r i=M (d y x))) (qp:E.P=P:=by rfl) (qg:E.gl=g:=by rfl):
  om P g h (rq p ks outs q c d):=by
 subst qp qg;refine dz (by simpa using hf) λx h0 h8 l C hC=>?_
 obtain⟨x0,x⟩:=x;unfold zrZ at l;simp only at l;split at l
 .rename_i cs os;split at l
  .rename_i s;split at l
   .rename_i y hy;simp only[Tr.val]at l;split at l
    .rename_i hc;simp only[bG]at l;subst l;have hR:=i y x hc C (λid k=>hC id (by simpa[s]using k));intro b A a w U ρ h1 h2 m hW;have hH:fF C w U ρ (λj=>((Qa cs::os).getD j .dead)):=m.hp
     have u:Cn C (bg f.ntmps (.ptr 0 0::jk (ks.map M) x) (ba p y)) a w U ρ:=
      ⟨m.tm,hH.box s hy,λid k=>m.new id (by have k:(ba p y).length<=id:=k;rw[uC]at k;simpa[bg,s]using k),m.df,m.r0⟩
     obtain⟨e,w',fr,⟨v,r,h',U',ρ',he,n,h4,B,z,h3,D⟩,G,H,hl⟩:=hR b A a w U ρ h1 h2 u hW;unfold vn at n;split at n
     .rename_i h6 h7;split at n
      .rename_i o;split at n
       next a' y' F h5=>simp only[bG]at n;refine⟨e,w',fr,⟨v,_,_,U',ρ',he,by rw[<-n],JC F h4,B.box o h5,λid k=>z id (by rw[uC]at k;simpa[o]using k),h3,D⟩,G,H,hl⟩
       .cases n
      .cases n
     .cases n
    .simp at l
   .simp at l
  .simp at l
 .simp at l
def w9(E:cu)(n0:Nat)(keep:Nat->aX)(f:Func)(gas:Nat):Nat->List Item->St->Option (AV×List AO)
 |0,_,_=>Q2
 | n+1,K,a=>match (run E n0 keep f.results.toList gas K a).val with
  |some (.ret v h)=>M (v,h)
  |some (.head _ x s)=>w9 E n0 keep f gas n x s
  |_=>Q2
theorem mz{E:cu}{C:eW}{h:FuncId}{f:Func}{Q:AV->List AO->Prop}{n n0:Nat}(c:zw E)(d:zY E.P h f n)(b:∀id,n0<=id->C.ρ0 id=Q2){keep:Nat->aX}{gas:Nat}:
  ∀(a:Nat)(K:List Item)(s:St)(r:AV×List AO),w9 E n0 keep f gas a K s=M r->Q r.1 r.2->Reach E C h K s Q
 |0,_,_,_,x,_=>by cases x
 | a+1,K,s,r,x,k=>by
  unfold w9 at x;split at x
  next v m g=>cases x;exact pe c d b g k
  next j l i g=>exact pe c d b g (mz c d b a l i r x k)
  .cases x
def cJ:(outs:List Sh)->zF (outs.map M)
 |[]=>()
 |s::r=>(zi s,cJ r)
def gj:(ps:List CP)->zp ps
 |[]=>()
 |.d s::r=>(zi s,gj r)
 |.nil::r=>gj r
 |.vec _::r=>([],gj r)
def bL:List Nat->(p:List CP)->zp p->List AV
 |_,[],_=>[]
 |n,.d s::r,y=>zC s y.1++bL n r y.2
 |n,.nil::r,y=>.nils::bL n r y
 |n,.vec _::r,y=>.vec (n.headD 0)::bL n.tail r y.2
def itO(E:cu)(keep:Nat->aX)(f:Func)(gas n:Nat)(ks outs:List Sh)(x:zF (ks.map M)):Option (zF (outs.map M)):=
 (w9 E 0 keep f gas n (bq f) (bg f.ntmps (jk (ks.map M) x) [])).bind λr=>aZ r.2 outs r.1
def RF(ks outs:List Sh)(g:zF (ks.map M)->Option (zF (outs.map M))):ag:=ac ks outs (λx=>(g x).isSome) λx=>(g x).getD (cJ outs)
variable {keep:Nat->aX}{gas:Nat}
theorem zlr{c:Nat}(l:zw E)(d:zY E.P h f (X ks))(m:E.P=P:=by rfl)(q:E.gl=g:=by rfl):om P g h (RF ks outs (itO E keep f gas c ks outs)):=by
 subst m q;refine aV d λx b C k=>?_
 rw[Option.isSome_iff_exists]at b;have⟨y,a⟩:=b;rw[a];unfold itO at a;rw[gC]at a;have⟨r,i,j⟩:=a;exact mz l d (λid _=>k id) c _ _ r i j
def itB(E:cu)(keep:Nat->aX)(f:Func)(gas n:Nat)(h:List CP)(ks outs:List Sh)(p:List CP)(y:zp h)(x:zF (ks.map M)):Option (zF (outs.map M)×zp p):=
 (w9 E (bl h+1) keep f gas n (bq f) (bg f.ntmps (.ptr 0 0::jk (ks.map M) x) (ba h y))).bind λr=>vn p outs r.1 r.2
def zwl(h:List CP)(ks outs:List Sh)(p:List CP)(g:zp h->zF (ks.map M)->Option (zF (outs.map M)×zp p)):ag:=
 rq h ks outs p (λy x=>(g y x).isSome) λy x=>(g y x).getD (cJ outs,gj p)
theorem zdk{c:Nat}(l:zw E)(d:zY E.P h f (X ks+1))(n:E.P=P:=by rfl)(m:E.gl=g:=by rfl):om P g h (zwl p ks outs q (itB E keep f gas c p ks outs q)):=by
 subst n m;refine zdj d λy x b C k=>?_
 rw[Option.isSome_iff_exists]at b;have⟨z,a⟩:=b;rw[a];unfold itB at a;rw[gC]at a;have⟨r,i,j⟩:=a;exact mz l d k c _ _ r i j
theorem PR{a:zF (ks.map M)->Option (zF (outs.map M))}{c:zF (ks.map M)->Bool}{i:zF (ks.map M)->zF (outs.map M)}(b:om P g h (RF ks outs a))(k:∀x,c x=O->a x=M (i x)):om P g h (ac ks outs c i):=by
 refine Cr (ι:=Unit) (Gs:=λ_=>gp ks outs (λx=>(a x).isSome) λx=>(a x).getD (cJ outs)) (λ_=>b) λx m l d=>⟨(),?_⟩
 unfold gp at d|-;split at d
 .simp only[Tr.val]at d|-;split at d
  next j=>simp only[k x j,dw,zj,bI];exact d
  .simp at d
 .simp at d
theorem iV{a:zF (ks.map M)->Option (zF (outs.map M))}{c:zF (ks.map M)->zF (outs.map M)}(b:om P g h (RF ks outs a))(d:∀x,a x=M (c x)):om P g h (aU ks outs c):=
 SI (PR b λx _=>d x)
theorem zdl{c:zF (ks.map M)->Bool}{a:zF (ks.map M)->zF (outs.map M)}(b:zw E)(i:zY E.P h f (X ks))
  (d:∀x,c x=(itO E keep f gas n ks outs x).isSome) (j:∀x,a x=(itO E keep f gas n ks outs x).getD (cJ outs)) (k:E.P=P:=by rfl) (q:E.gl=g:=by rfl):om P g h (ac ks outs c a):=by
 subst k q;obtain rfl:c=λx=>(itO E keep f gas n ks outs x).isSome:=funext d
 obtain rfl:a=λx=>(itO E keep f gas n ks outs x).getD (cJ outs):=funext j
 exact zlr b i
theorem Xt{c:zp p->zF (ks.map M)->Bool}{a:zp p->zF (ks.map M)->zF (outs.map M)×zp q}(b:zw E)(i:zY E.P h f (X ks+1))
  (d:∀y x,c y x=(itB E keep f gas n p ks outs q y x).isSome) (j:∀y x,a y x=(itB E keep f gas n p ks outs q y x).getD (cJ outs,gj q)) (l:E.P=P:=by rfl) (k:E.gl=g:=by rfl):om P g h (rq p ks outs q c a):=by
 subst l k;obtain rfl:c=λy x=>(itB E keep f gas n p ks outs q y x).isSome:=funext λy=>funext λx=>d y x
 obtain rfl:a=λy x=>(itB E keep f gas n p ks outs q y x).getD (cJ outs,gj q):=funext λy=>funext λx=>j y x
 exact zdk b i
abbrev aw:=AV×List AO
variable {α:Type}
def Tr.map{β:Type}(f:α->β):Tr α->Tr β
 |.err=>.err
 |.chk c t=>.chk c (t.map f)
 |.br c t e=>.br c (t.map f) (e.map f)
 |.ok a=>.ok (f a)
theorem Tr.val_map{α β:Type}(f:α->β):∀t:Tr α,(t.map f).val=t.val.map f
 |.err=>rfl
 |.chk c t=>by simp only[Tr.map,Tr.val,val_map f t];split<;>rfl
 |.br c t e=>by simp only[Tr.map,Tr.val,val_map f t,val_map f e];split<;>rfl
 |.ok _=>rfl
variable {σ:Type}
abbrev Tr.to(s:σ):Tr (σ⊕aw):=.ok (.inl s)
abbrev Tr.re(v:AV)(h:List AO):Tr (σ⊕aw):=.ok (.inr (v,h))
def em{σ:Type}(t:σ->Tr (σ⊕aw)):Nat->σ->Option aw
 |0,_=>Q2
 | n+1,s=>match (t s).val with
  |some (.inl h)=>em t n h
  |some (.inr r)=>M r
  |none=>Q2
def bV(t:σ->Tr (σ⊕aw))(n:Nat)(i:Tr (σ⊕aw)):Option aw:=match i.val with
 |some (.inl s)=>em t n s
 |some (.inr r)=>M r
 |none=>Q2
def lf(f:Func)(e:σ->Nat×St):σ⊕aw->zR
 |.inl s=>.head (e s).1 (am f (e s).1) (e s).2
 |.inr r=>.ret r.1 r.2
def e0:Empty->Nat×St:=λx=>nomatch x
def t0:Empty->Tr (Empty⊕aw):=λx=>nomatch x
section
variable {σ:Type} {E:cu} {n0:Nat} {keep:Nat->aX} {f:Func} {gas:Nat} {e:σ->Nat×St} {t:σ->Tr (σ⊕aw)}
theorem Tv(h:∀s,run E n0 keep f.results.toList gas (am f (e s).1) (e s).2=(t s).map (lf f e)):∀(n:Nat)(s:σ),w9 E n0 keep f gas n (am f (e s).1) (e s).2=em t n s
 |0,_=>rfl
 | n+1,s=>by
  rw[w9,h s,Tr.val_map,em];cases(t s).val with
  |none=>rfl
  | some l=>
   cases l with
   |inl x=>exact Tv h n x
   |inr r=>rfl
theorem kc(x:∀s,run E n0 keep f.results.toList gas (am f (e s).1) (e s).2=(t s).map (lf f e)){K:List Item}{a:St}{v:Tr (σ⊕aw)}(h:run E n0 keep f.results.toList gas K a=v.map (lf f e))(n:Nat):w9 E n0 keep f gas (n+1) K a=bV t n v:=by
 rw[w9,h,Tr.val_map,bV];cases v.val with
 |none=>rfl
 | some l=>
  cases l with
  |inl s=>exact Tv x n s
  |inr r=>rfl
end
def ap(outs:List Sh)(t:σ->Tr (σ⊕aw))(n:Nat)(i:Tr (σ⊕aw)):Option (zF (outs.map M)):=(bV t n i).bind λr=>aZ r.2 outs r.1
theorem Xr{c:Nat}{e:σ->Nat×St}{t:σ->Tr (σ⊕aw)}{i:zF (ks.map M)->Tr (σ⊕aw)}{d:zF (ks.map M)->Bool}{a:zF (ks.map M)->zF (outs.map M)}
  (l:zw E) (n:zY E.P h f (X ks)) (j:∀x,run E 0 keep f.results.toList gas (bq f) (bg f.ntmps (jk (ks.map M) x) [])=(i x).map (lf f e))
  (k:∀s,run E 0 keep f.results.toList gas (am f (e s).1) (e s).2=(t s).map (lf f e))
  (m:∀x,d x=(ap outs t c (i x)).isSome) (o:∀x,a x=(ap outs t c (i x)).getD (cJ outs)) (p:E.P=P:=by rfl) (q:E.gl=g:=by rfl):om P g h (ac ks outs d a):=by
 subst p q;have b:∀x,itO E keep f gas (c+1) ks outs x=ap outs t c (i x):=by
  intro x;unfold itO ap;rw[kc k (j x)]
 exact zdl (n:=c+1) l n (λx=>by rw[b,m]) (λx=>by rw[b,o])
variable {K:List Item}
theorem LP{m n0:Nat}{e:σ->Nat×St}{t:σ->Tr (σ⊕aw)}{i:Tr (σ⊕aw)}{d:St}{y:zF (outs.map M)}(k:zw E)(l:zY E.P h f m)(j:∀id,n0<=id->C.ρ0 id=Q2)
  (a:run E n0 keep f.results.toList gas K d=i.map (lf f e)) (b:∀s,run E n0 keep f.results.toList gas (am f (e s).1) (e s).2=(t s).map (lf f e)) (x:ap outs t n i=M y):Reach E C h K d (λr x=>aZ x outs r=M y):=by unfold ap at x;rw[gC]at x;have⟨r,c,g⟩:=x;rw[<-kc b a n]at c;exact mz k l j (n+1) _ _ r c g
abbrev k0:Nat->aX:=λ_=>{ }
abbrev kS:List (Nat×List Nat)->Nat->aX
 |[],_=>{ }
 |p::r,j=>if j=p.1 then{slots:=p.2}else kS r j
variable {a:Sh}
def o1(o:Option (zF [M a])):J a:=(o.getD (cJ [a])).1
def o2{b:Sh}(o:Option (zF [M a,M b])):J a×J b:=((o.getD (cJ [a,b])).1,(o.getD (cJ [a,b])).2.1)
def o3{b c:Sh}(o:Option (zF [M a,M b,M c])):J a×J b×J c:=((o.getD (cJ [a,b,c])).1,(o.getD (cJ [a,b,c])).2.1,(o.getD (cJ [a,b,c])).q.1)
def FT(ks outs:List Sh)(o:zF (ks.map M)->Option (zF (outs.map M))):ag:=ac ks outs (λx=>(o x).isSome) λx=>(o x).getD (cJ outs)
theorem zw.T1{e:σ->Nat×St}{t:σ->Tr (σ⊕aw)}{i:zF (ks.map M)->Tr (σ⊕aw)}(c:zw E)(gas:Nat:=400)
  (d:(E.P.funcs[h]?,f.name=="runtime.NumGoroutine",f.body.isNone,Q0 (ks.length<=f.ntmps))=(Q1 f,Q4,Q4,Q3):=by kernel_rfl)
  (a:∀x,run E 0 keep f.results.toList gas (bq f) (bg f.ntmps (jk (ks.map M) x) [])=(i x).map (lf f e):=by intro x;kernel_rfl)
  (b:∀s,run E 0 keep f.results.toList gas (am f (e s).1) (e s).2=(t s).map (lf f e):=by intro s;cases s<;>kernel_rfl) (j:E.P=P:=by rfl) (q:E.gl=g:=by rfl):om P g h (FT ks outs λx=>ap outs t n (i x)):=by subst j q;exact Xr c (cK d) a b (λ_=>rfl) λ_=>rfl
theorem on0(E:cu)(n0:Nat)(keep:Nat->aX)(f:Func)(gas:Nat):∀s,run E n0 keep f.results.toList gas (am f (e0 s).1) (e0 s).2=(t0 s).map (lf f e0):=λs=>nomatch s
def kJ(outs:List Sh)(p:List CP)(t:σ->Tr (σ⊕aw))(n:Nat)(i:Tr (σ⊕aw)):Option (zF (outs.map M)×zp p):=(bV t n i).bind λr=>vn p outs r.1 r.2
theorem zlo{c:Nat}{e:σ->Nat×St}{t:σ->Tr (σ⊕aw)}{i:zp p->zF (ks.map M)->Tr (σ⊕aw)}{d:zp p->zF (ks.map M)->Bool}{a:zp p->zF (ks.map M)->zF (outs.map M)×zp q}
  (l:zw E) (n:zY E.P h f (X ks+1)) (j:∀y x,run E (bl p+1) keep f.results.toList gas (bq f) (bg f.ntmps (.ptr 0 0::jk (ks.map M) x) (ba p y))=(i y x).map (lf f e))
  (k:∀s,run E (bl p+1) keep f.results.toList gas (am f (e s).1) (e s).2=(t s).map (lf f e))
  (m:∀y x,d y x=(kJ outs q t c (i y x)).isSome) (o:∀y x,a y x=(kJ outs q t c (i y x)).getD (cJ outs,gj q)) (v:E.P=P:=by rfl) (u:E.gl=g:=by rfl):om P g h (rq p ks outs q d a):=by
 subst v u;have b:∀y x,itB E keep f gas (c+1) p ks outs q y x=kJ outs q t c (i y x):=by
  intro y x;unfold itB kJ;rw[kc k (j y x)]
 exact Xt (n:=c+1) l n (λy x=>by rw[b,m]) (λy x=>by rw[b,o])
open Tr (chk br re)
theorem SQ(h:Nat->AO)(e:Sh)(l:List (J e)):vj h e (.sl e l)=M l:=by simp[vj]
theorem lk(h:Nat->AO):∀(s:Sh)(x:J s)(r:List AV),dD h s (zC s x++r)=M (x,r)
 |.unit,_,_=>rfl
 |.bool,_,_=>rfl
 |.int k,n,r=>by simp[zC,dD]
 |.str,_,_=>rfl
 | .sl e,l,r=>by
  show(match vj h e (.sl e l)with|some l=>M (l,r)|none=>Q2)=_;rw[SQ]
 | .pr a b,x,r=>by
  simp only[zC,dD,M1,lk h a,lk h b]
 | .expr,e,r=>by
  show w7 h _=_;simp only[zC,List.cons_append,HU,w7,SQ];rw[show zg.mk e.op (e.v.1,e.v.2.1,e.v.q) e.s e.l=e from zg.eta e]
theorem km{a:Nat->AO}:∀(p:List CP)(n:Nat)(y:zp p),(∀(j:Nat) o,(im p y)[j]?=M o->a (n+j)=o)->dl a n p (fG n p y)=M y
 |[],_,_,_=>rfl
 | .d s::r,n,y,h=>by
  simp only[fG,dl,lk];rw[km r n y.2 h]
 | .nil::r,n,y,h=>by
  simp only[fG,dl];exact km r n y h
 | .vec e::r,n,y,h=>by
  have x:=h 0 (.vec e y.1) rfl;simp only[ve]at x;simp only[fG,dl,zj,x,dite_true]
  rw[km r (n+1) y.2 (λj o b=>by
   have:=h (j+1) o (by simpa[im]using b);rw[<-this];congr 1;omega)]
variable {ps:List CP}
theorem dO{r:AV}{a:zF (outs.map M)}(y:zp ps)(h:aZ [] outs r=M a):vn ps outs r (ba ps y)=M (a,y):=by
 unfold vn ba;simp only[cz,zj,h]
 rw[km ps 1 y (λj o x=>by
  unfold lh;rw[kV,DD,bz,x];rfl)]
section
variable {σ:Type} {t:σ->Tr (σ⊕aw)}
theorem dP{β:Type}(c:Nat)(s:β->Nat->σ)(x:β->Nat->Prop)(Φ:aw->Prop)(a:Nat)
  (d:∀b i,i<c->x b i->(∃j,x j (i+1)/\(t (s b i)).val=M (.inl (s j (i+1))))\/∃r,(t (s b i)).val=M (.inr r)/\Φ r)
  (g:∀b n,x b c->a<=n->∃r,em t n (s b c)=M r/\Φ r):
  ∀(m i:Nat)(b:β)(n:Nat),c-i=m->i<=c->x b i->a+m<=n->∃r,em t n (s b i)=M r/\Φ r
 | 0,i,b,n,v,u,p,y=>by
  obtain rfl:i=c:=by omega
  exact g b n p W
 | m+1,i,b,n,v,u,p,y=>by
  obtain⟨n,rfl⟩:∃k,n=k+1:=⟨n-1,W⟩;rcases d b i W p with⟨j,q,h⟩|⟨r,l,o⟩
  .have⟨r,l,o⟩:=dP c s x Φ a d g m (i+1) j n W W q W;exact⟨r,by rw[em,h];exact l,o⟩
  .exact⟨r,by rw[em,l],o⟩
theorem dg{n:Nat}{s:σ}:em t (n+1) s=match(t s).val with
  |some (.inl h)=>em t n h
  |some (.inr r)=>M r
  |none=>Q2:=rfl
end
variable {k:Nat}
theorem fF.cells{hp:Nat->AO}{cs':List AV}(c:fF C w U ρ hp)(l:hp k=.box cs)
  (y:∀vals,dn w U ρ cs vals->dn w U ρ cs' vals):fF C w U ρ (λj=>if j=k then .box cs' else hp j):=by
 have a:∀id b,an ρ id (ite (id=k) (.box cs') (hp id)) b->an ρ id (hp id) b:=by
  intro id b ho;by_cases x:id=k
  .subst x;rw[zf rfl]at ho;rw[l];have⟨_,v,z,u⟩:=ho;exact⟨rfl,v,z,u⟩
  .rw[zh x]at ho;exact ho
 refine⟨λid=>?_,λi d b o1 o2=>c.inj i d b (a _ _ o1) (a _ _ o2),λid b o=>c.blk id b (a _ _ o)⟩;by_cases x:id=k
 .subst x;have g:=c.ob id;rw[l]at g;have⟨b,h,vals,m,n,p,q,s⟩:=g;simp only[zj];exact⟨b,h,vals,m,n,p,y _ q,s⟩
 .simp only[zh x];exact c.ob id
def cV(p q:List CP)(y:zp p)(z:zp q):List AO:=.box (fG 2 p y)::.box (fG (2+bl p) q z)::(im p y++im q z)
theorem ru(p q:List CP)(y:zp p)(z:zp q):(cV p q y z).length=bl p+bl q+2:=by simp[cV,cz]
theorem fF.box2{H:List AV}{y:zp p}{z:zp q}(b:fF C w U ρ (λj=>((Qa cs::Qa H::os).getD j .dead)))(P:X os=bl p+bl q)
  (c:dl (lh (.box cs::.box H::os)) 2 p cs=M y) (a:dl (lh (.box cs::.box H::os)) (2+bl p) q H=M z):fF C w U ρ (λj=>(cV p q y z).getD j .dead):=by
 have d:=b.cells (k:=0) (cs:=cs) (cs':=fG 2 p y) rfl (λv h=>(gG p 2 cs y v c h).1);have g:=d.cells (k:=1) (cs:=H) (cs':=fG (2+bl p) q z) rfl (λv h=>(gG q _ H z v a h).1);have⟨F,B,u,_,_,_,o,_⟩:=b.ob 0;have⟨G,D,A,_,_,_,s,_⟩:=b.ob 1;have m:=(gG p 2 cs y u.toList c o).2;have n:=(gG q _ H z A.toList a s).2;have e:(λj=>(cV p q y z).getD j .dead)=λj=>if j=1 then .box (fG (2+bl p) q z)else if j=0 then .box (fG 2 p y)else(Qa cs::Qa H::os).getD j .dead:=by
  funext j
  match j with
  |0=>rfl
  |1=>rfl
  | j+2=>
   rw[zh W,zh W];simp only[cV,DD];by_cases i:j<bl p
   .have x:j<(im p y).length:=by rw[cz];exact i
    have:=m j _ (af x);simp only[lh,kV 2 j,DD]at this;rw[this,bz,rl x,af x];rfl
   .by_cases l:j<bl p+bl q
    .have x:j-bl p<(im q z).length:=by rw[cz];omega
     have:=n (j-bl p) _ (af x);rw[show 2+bl p+(j-bl p)=j+2 by omega]at this;simp only[lh,DD]at this;rw[this,bz,pu (by rw[cz];omega),cz,af x];rfl
    .rw[bz,bz,fg (by simp[cz];omega),fg W]
 rw[e];exact g
def Cx(p q:List CP)(outs:List Sh)(r:AV)(h:List AO):Option (zF (outs.map M)×zp p×zp q):=match h with
 | .box c::.box ds::os=>if Io os=bl p+bl q then match aZ [] outs r,dl (lh (.box c::.box ds::os)) 2 p c,dl (lh (.box c::.box ds::os)) (2+bl p) q ds with
   |some a,M y,M z=>M (a,y,z)
   |_,_,_=>Q2
  else Q2
 |_=>Q2
def zhz(p d:List CP)(ks outs:List Sh)(a b:List CP)(c:zp p->zp d->zF (ks.map M)->Bool)(g:zp p->zp d->zF (ks.map M)->zF (outs.map M)×zp a×zp b):fD (Q2::Q2::ks.map M):=λx h=>match x.1,x.2.1,h with
 | .ptr 0 0,.ptr 1 0,.box i::.box ds::os=>if Io os=bl p+bl d then match dl (lh (.box i::.box ds::os)) 2 p i,dl (lh (.box i::.box ds::os)) (2+bl p) d ds with
   |some y,M z=>.chk (c y z x.q) (.ok (BY outs (g y z x.q).1,cV a b (g y z x.q).2.1 (g y z x.q).q))
   |_,_=>.err
  else .err
 |_,_,_=>.err
def XZ(ps qs:List CP)(ks outs:List Sh)(p q:List CP)(c:zp ps->zp qs->zF (ks.map M)->Bool)(g:zp ps->zp qs->zF (ks.map M)->zF (outs.map M)×zp p×zp q):ag:=bf (Q2::Q2::ks.map M) (zhz ps qs ks outs p q c g)
theorem Xs{u A:List CP}{c:zp p->zp q->zF (ks.map some)->Bool}{d:zp p->zp q->zF (ks.map some)->zF (outs.map some)×zp u×zp A}(hf:zY E.P h f (X ks+2))
  (i:∀y z x,c y z x=O->∀C:eW,(∀id,bl p+bl q+2<=id->C.ρ0 id=Q2)->Reach E C h (bq f) (bg f.ntmps (.ptr 0 0::.ptr 1 0::jk (ks.map M) x) (cV p q y z)) (λr i=>Cx u A outs r i=M (d y z x))) (qp:E.P=P:=by rfl) (qg:E.gl=g:=by rfl):
  om P g h (XZ p q ks outs u A c d):=by
 subst qp qg;refine dz (by simpa using hf) λx h0 x5 l C hC=>?_
 obtain⟨x0,x1,x⟩:=x;unfold zhz at l;simp only at l;split at l
 .rename_i cs ds os;split at l
  .rename_i s;split at l
   .rename_i y z hy hz;simp only[Tr.val]at l;split at l
    .rename_i hc;simp only[bG]at l;subst l;have hR:=i y z x hc C (λid k=>hC id (by simpa[s]using k));intro b F a w U ρ h1 h2 m hW;have hH:fF C w U ρ (λj=>((Qa cs::Qa ds::os).getD j .dead)):=m.hp
     have B:Cn C (bg f.ntmps (.ptr 0 0::.ptr 1 0::jk (ks.map M) x) (cV p q y z)) a w U ρ:=
      ⟨m.tm,hH.box2 s hy hz,λid k=>m.new id (by have k:(cV p q y z).length<=id:=k;rw[ru]at k;simpa[bg,s]using k),m.df,m.r0⟩
     obtain⟨e,w',fr,⟨v,r,h',U',ρ',he,n,h7,G,D,h6,H⟩,h4,h5,hl⟩:=hR b F a w U ρ h1 h2 B hW;unfold Cx at n;split at n
     .rename_i x2 x3 x4;split at n
      .rename_i o;split at n
       next a' y' z' h3 h8 h9=>simp only[bG]at n;refine⟨e,w',fr,⟨v,_,_,U',ρ',he,by rw[<-n],JC h3 h7,G.box2 o h8 h9,λid k=>D id (by rw[ru]at k;simpa[o]using k),h6,H⟩,h4,h5,hl⟩
       .cases n
      .cases n
     .cases n
    .simp at l
   .simp at l
  .simp at l
 .simp at l
def T0(outs:List Sh)(p q:List CP)(t:σ->Tr (σ⊕aw))(n:Nat)(i:Tr (σ⊕aw)):Option (zF (outs.map M)×zp p×zp q):=(bV t n i).bind λr=>Cx p q outs r.1 r.2
theorem zlp{qs:List CP}{e:σ->Nat×St}{t:σ->Tr (σ⊕aw)}{i:zp ps->zp qs->zF (ks.map M)->Tr (σ⊕aw)}{c:zp ps->zp qs->zF (ks.map M)->Bool}{a:zp ps->zp qs->zF (ks.map M)->zF (outs.map M)×zp p×zp q}
  (B:zw E) (m:zY E.P h f (X ks+2)) (k:∀y z x,run E (bl ps+bl qs+2) keep f.results.toList gas (bq f) (bg f.ntmps (.ptr 0 0::.ptr 1 0::jk (ks.map M) x) (cV ps qs y z))=(i y z x).map (lf f e))
  (l:∀s,run E (bl ps+bl qs+2) keep f.results.toList gas (am f (e s).1) (e s).2=(t s).map (lf f e))
  (D:∀y z x,c y z x=(T0 outs p q t n (i y z x)).isSome) (F:∀y z x,a y z x=(T0 outs p q t n (i y z x)).getD (cJ outs,gj p,gj q)) (H:E.P=P:=by rfl) (G:E.gl=g:=by rfl):om P g h (XZ ps qs ks outs p q c a):=by
 subst H G;refine Xs m λy z x d C A=>?_
 rw[D,Option.isSome_iff_exists]at d;have⟨u,j⟩:=d;rw[F,j];unfold T0 at j;rw[gC]at j;have⟨r,o,v⟩:=j;exact mz (Q:=λr b=>Cx p q outs r b=M u) B m A (n+1) _ _ r (by rw[kc l (k y z x)];exact o) v
section
variable {σ:Type} {t:σ->Tr (σ⊕aw)}
def zU(t:σ->Tr (σ⊕aw))(k:Nat)(s:σ)(r:aw):Prop:=∀n,k<=n->em t n s=M r
def zH(t:σ->Tr (σ⊕aw))(m:Nat)(s s':σ):Prop:=∀k r,zU t k s' r->zU t (k+m) s r
variable {k:Nat}{s:σ}{r:aw}
theorem zU.mono{c:Nat}(h:zU t k s r)(x:k<=c):zU t c s r:=λn a=>h n W
theorem zU.of(h:(t s).val=M (.inr r)):zU t 1 s r:=by intro n x;obtain⟨n,rfl⟩:∃k,n=k+1:=⟨n-1,W⟩;rw[em,h]
variable {s':σ}
theorem zH.of(h:(t s).val=M (.inl s')):zH t 1 s s':=by intro k r x n a;obtain⟨n,rfl⟩:∃k,n=k+1:=⟨n-1,W⟩;rw[em,h];exact x n W
theorem zH.refl(s:σ):zH t 0 s s:=λ_ _ h=>h
variable {a:Nat}
theorem zH.trans{b:Nat}{x:σ}(c:zH t a s s')(d:zH t b s' x):zH t (b+a) s x:=λk r h=>(c _ _ (d k r h)).mono W
theorem zH.mono{b:Nat}(h:zH t a s s')(c:a<=b):zH t b s s':=λk r x=>(h k r x).mono W
theorem zH.ends(h:zH t a s s')(x:zU t k s' r):zU t (k+a) s r:=h k r x
theorem zH.all(m:Nat)(s:Nat->σ):∀(x:Nat),(∀i,i<x->zH t m (s i) (s (i+1)))->zH t (x*m) (s 0) (s x)
 |0,_=>(zH.refl _).mono W
 |x+1,h=>((zH.all m s x λi a=>h i W).trans (h x W)).mono (by rw[rc];omega)
theorem nL{Φ:aw->Prop}(m:Nat)(s:Nat->σ)(P:Nat->Prop):∀(x:Nat),(∀i,i<x->(∀j,j<i->P j)->(P i/\zH t m (s i) (s (i+1)))\/(¬P i/\∃r,zU t m (s i) r/\Φ r))->
  ((∀i,i<x->P i)/\zH t (x*m) (s 0) (s x))\/((¬∀i,i<x->P i)/\∃r,zU t (x*m) (s 0) r/\Φ r)
 |0,_=>.inl ⟨λi a=>zA a W,(zH.refl _).mono W⟩
 | x+1,h=>by
  rcases nL m s P x λi a=>h i W with⟨b,c⟩|⟨b,r,c,k⟩
  .rcases h x W b with⟨d,g⟩|⟨d,r,g,l⟩
   .refine .inl ⟨λi a=>?_,(c.trans g).mono (by rw[rc];omega)⟩;rcases Nat.lt_succ_iff_lt_or_eq.1 a with a|rfl
    .exact b i a
    .exact d
   .exact .inr ⟨λh=>d (h x W),r,(c.ends g).mono (by rw[rc];omega),l⟩
  .exact .inr ⟨λh=>b λi a=>h i W,r,c.mono (by rw[rc];omega),k⟩
variable {outs:List Sh}{n:Nat}{i:Tr (σ⊕aw)}
theorem zz{y:zF (outs.map M)}(x:i.val=M (.inl s))(h:zU t k s r)(a:k<=n)(b:aZ r.2 outs r.1=M y):ap outs t n i=M y:=by unfold ap bV;rw[x];show(em t n s).bind _=_;rw[h n a];exact b
theorem zQ{y:zF (outs.map M)}(h:i.val=M (.inr r))(x:aZ r.2 outs r.1=M y):ap outs t n i=M y:=by unfold ap bV;rw[h];exact x
theorem zaF{ps:List CP}{v:Tr (σ⊕aw)}{y:zF (outs.map M)×zp ps}(h:v.val=M (.inr r))(x:vn ps outs r.1 r.2=M y):kJ outs ps t n v=M y:=by unfold kJ bV;rw[h];exact x
end
variable {fn:FuncId}{x:List Item}{s:St}{Q:AV->List AO->Prop}
theorem Reach.lenA(j c:Nat)(e:Sh)(l:List (J e)){m:List AV}(n:s.tmps[j]?=M (.agg m))(o:m[c]?=M (.sl e l))(h:X l<=aD->Reach E C fn x s Q):Reach E C fn x s Q:=by
 intro b g a w U ρ z A i q;refine h ?_ b g a w U ρ z A i q;have d:j<a.tmps.toList.length:=by rw[<-i.tm.len];exact(dF.1 n).1
 have:=i.tm.rv j _ _ n (af d);generalize a.tmps.toList[j]=v at this;cases this with
 |agg _ p k _ y=>
 have d:c<X p:=by rw[<-k];exact(dF.1 o).1
 have:=y c _ _ o (af d);generalize p[c]=v at this;cases this with
 |sl0=>simp
 |sl _ _ _ _ _ _ _ u=>exact u
abbrev ztq:Nat->aX:=λj=>if j=3 then{slots:=[0,3,4],prom:=[(3,Q2,R)]}else{ }
inductive UO where
 |h3 (l0:zr) (i4:Int) (lh_0:zr)
abbrev zwq:UO->Nat×St
 |.h3 h i l=>(3,⟨tm 24 [(0,N R h),(3,AV.vec 0),(4,L i)],[AO.vec R l]⟩)
def zx4(x:J ze.sl):Tr (UO⊕aw):=Tr.to (UO.h3 x 0 [])
def zfS:UO->Tr (UO⊕aw)
 | .h3 h i l=>
  let a:=h.getD i.toNat (zi R)
  let x:=[HA a]
  br (cond (T (i<(X h:Int))) (T (i<14)) S)
  (chk (zL i (X h)) (chk (PI a) (chk (T (X l+X x<=1073741824)) (Tr.to (UO.h3 h (Γ Δ (i+1)) (l++x))))))
  (re (AV.vec 0) [AO.vec R l])
def zuo(x:J ze.sl):=ap [ze.sl] zfS 100000000 (zx4 x)
def zo9:=FT [ze.sl] [ze.sl] λx=>zuo x.1
theorem Xi:FK 17 zo9:=yR.T1 (f:=Tryz.f17) (keep:=ztq) (e:=zwq)
abbrev ztM:Nat->aX:=λj=>if j=3 then{slots:=[0,3,4],prom:=[(3,Q2,zn)]}else{ }
inductive PV where
 |h3 (l0:aT) (i4:Int) (lh_0:aT)
abbrev zwG:PV->Nat×St
 |.h3 h i l=>(3,⟨tm 33 [(0,N zn h),(3,AV.vec 0),(4,L i)],[AO.vec zn l]⟩)
def zx8(x:J zn.sl):Tr (PV⊕aw):=Tr.to (PV.h3 x 0 [])
def zfW:PV->Tr (PV⊕aw)
 | .h3 h i l=>
  let a:=h.getD i.toNat (zi zn)
  let x:=(X a.1:Int)
  let b:=[(Qg (Z 20-Z 0) (Qh (Z 0) a.1),a.2)]
  let c:=Γ Δ (i+1)
  let d:=[a]
  br (cond (T (i<(X h:Int))) (T (i<9)) S)
  (chk (zL i (X h)) (br (T (x>20)) (chk (T (0<=0)&&T (0<=20)&&T (20<=x)) (chk (T (X l+X b<=1073741824)) (Tr.to (PV.h3 h c (l++b))))) (chk (T (X l+X d<=1073741824)) (Tr.to (PV.h3 h c (l++d))))))
  (re (AV.vec 0) [AO.vec zn l])
def zun(x:J zn.sl):=ap [zn.sl] zfW 100000000 (zx8 x)
def zpH:=FT [zn.sl] [zn.sl] λx=>zun x.1
theorem Xm:FK 56 zpH:=yR.T1 (f:=Tryz.f56) (keep:=ztM) (e:=zwG)
def oO(l:J ze.sl):J ze.sl:=(Qg 14 l).map HA
def kI(l:J zn.sl):J zn.sl:=(Qg 9 l).map λc:cH=>((kj c.1,c.2):cH)
theorem yn(k:Nat)(l:List α):l.take (min k (X l))=l.take k:=by
 rcases Nat.le_total k (X l)with h|h
 .rw[HV h]
 .rw[HT h,gE,MY h]
theorem zeY{x:Nat}{K:Int}(c:K=(k:Int))(h:n<min k x):(cond (T ((n:Int)<(x:Int))) (T ((n:Int)<K)) S)=O:=by
 have a:(n:Int)<x:=by omega
 have b:(n:Int)<K:=by omega
 rw[zB a,zB b];rfl
theorem TC{K:Int}(x:K=(k:Int))(n:Nat):(cond (T (((min k n:Nat):Int)<(n:Int))) (T (((min k n:Nat):Int)<K)) S)=S:=by
 rcases Nat.le_total k n with h|h
 .rw[HV h,x];simp
 .rw[HT h];simp
theorem Mr{l:List α}(h:n<X l)(d:α):l.take (n+1)=l.take n++[l.getD n d]:=by rw[List.take_add_one,af h,bz,af h];rfl
def Nu:=zhE.addL [(17,zo9),(56,zpH)]
theorem yS:zw Nu:=yR.addL<|fc Xi<|fc Xm jg
theorem pq{c:zF (ks.map M)->Bool}{a:zF (ks.map M)->zF (outs.map M)}(b:om P g h (ac ks outs c a))(d:∀x,c x=O):om P g h (aU ks outs a):=
 SI (by rwa [show c=λ_=>O from funext d]at b)
theorem GW(v:V):PI v=O:=by
 unfold PI;cases h:T ((X v.2.2:Int)>60)
 .rfl
 .simp only[aY]at h;simp only[aI,aN,aY];omega
theorem R8(s:zJ):Uw s=O:=by
 unfold Uw;cases h:T ((X s:Int)>20)
 .rfl
 .simp only[aY]at h;simp only[aI,aN,aY];omega
theorem Wb(l:zr):zuo l=M (oO l,()):=by
 have g:=zH.all (t:=zfS) 1 (λi=>.h3 l (i:Int) ((Qg i l).map HA)) (min 14 (X l)) λi x=>zH.of (by
  have h:i<X l:=by omega
  have a:T ((List.map HA (Qg i l)).length+[HA (l.getD i (zi R))].length<=1073741824)=O:=by simp;omega
  simp only[zfS,Tr.val,zeY (k:=14) (K:=14) rfl x,zx h,zj,aH,GW,a];rw[zu i um,Mr h (zi R),gh];rfl)
 rw[yn]at g;refine zz rfl (g.ends (k:=1) (r:=(.vec 0,[.vec R (oO l)])) (zU.of ?_)) W rfl;simp only[zfS,Tr.val,TC (k:=14) (K:=14) rfl,zD,zm];rfl
theorem V9(l:aT):zun l=M (kI l,()):=by
 have g:=zH.all (t:=zfW) 1 (λi=>.h3 l (i:Int) ((Qg i l).map λc:cH=>((kj c.1,c.2):cH))) (min 9 (X l)) λi j=>zH.of (by
  have d:i<X l:=by omega
  have n:(Qg (i+1) l).map (λc:cH=>((kj c.1,c.2):cH))=(Qg i l).map (λc:cH=>((kj c.1,c.2):cH))++[(kj (List.getD l i (zi zn)).1,(List.getD l i (zi zn)).2)]:=by rw[Mr d (zi zn),gh];rfl
  have b:((Qg i l).map (λc:cH=>((kj c.1,c.2):cH))).length<=9:=by rw[dc,oy];omega
  rw[n];generalize(Qg i l).map (λc:cH=>((kj c.1,c.2):cH))=a at b|-;have m:T (X a+1<=1073741824)=O:=zB W;simp only[zfW,Tr.val,zeY (k:=9) (K:=9) rfl j,zx d,zj,aH,fE,qA,eI,m];rw[zu i um];unfold kj;by_cases h:(X (List.getD l i (zi zn)).1:Int)>20
  .have x:T ((20:Int)<=(X (List.getD l i (zi zn)).1:Int))=O:=zB W;simp only[zB h,x,zj];rfl
  .simp only[aB h,zD,zm])
 rw[yn]at g;refine zz rfl (g.ends (k:=1) (r:=(.vec 0,[.vec zn (kI l)])) (zU.of ?_)) W rfl;simp only[zfW,Tr.val,TC (k:=9) (K:=9) rfl,zD,zm];rfl
def zpa:ag:=aU [R] [R] λx=>(HA x.1,())
theorem zjQ:FK 41 zpa:=pq zhl λx=>GW x.1
def zo1:ag:=aU [Q6] [Q6] λx=>(kj x.1,())
theorem zjJ:FK 185 zo1:=pq zhk λx=>R8 x.1
def F6t:ag:=aU [ze.sl] [ze.sl] λx=>(oO x.1,())
theorem zri:FK 17 F6t:=iV Xi λx=>Wb x.1
def zo5:ag:=aU [zn.sl] [zn.sl] λx=>(kI x.1,())
theorem zjN:FK 56 zo5:=iV Xm λx=>V9 x.1
abbrev Ci:Nat->aX:=λ_=>{slots:=[0,1,7,8]}
def pR{K:List Item}{e:Sh}(l:List (J e))(p:J e->Bool)(s:Int->St)(h:List AO)(i:Int):Tr zR:=.br (T (i<(X l:Int))) (.chk (zL i (X l)) (.br (p (l.getD i.toNat (zi e))) (.ok (.ret (L i) h)) (.ok (.head 2 K (s (Γ Δ (i+1))))))) (.ok (.ret (L (-1)) h))
variable {z:List AO}
theorem lX{n0:Nat}{b:Nat}{e:Sh}(l:List (J e))(p:J e->Bool)(s:Int->St)
  (d:zw E) (j:zY E.P h f n) (g:∀id,n0<=id->C.ρ0 id=Q2)
  (c:∀i,run E n0 keep f.results.toList b K (s i)=pR (K:=K) l p s z i) (o:X l<=aD):∀(m i:Nat),X l-i=m->i<=X l->
  Reach E C h K (s i) (λr x=>(r,x)=(L (ah p (l.drop i) i),z)):=by
 intro m
 induction m with
 | zero=>
  intro i d.mix' hi;obtain rfl:i=X l:=by omega
  refine zI d j g (c _) ?_;simp only[pR,Tr.val,zK,kD];rfl
 | succ m k=>
  intro i d.mix' hi;have a:i<X l:=by omega
  refine zI d j g (c _) ?_;rw[il a];simp only[pR,Tr.val,zN a,zx a,dq l _ a,zu i W,zj,ah];split
  .rfl
  .exact k (i+1) W W
abbrev Df(t:Int)(l:ee)(i:Int):St:={tmps:=[.sl zk l,.clo (.func 311) [] [.ptr 0 0],.any,.any,.any,.any,.any,L (X l),L i,.any,.any,.any,.any,.any,.any,.any,.any,.any,.any],heap:=[.box [L t]]}
theorem Y9(t:Int)(l:ee):run Nu 1 Ci Tryz.f338.results.toList 300 (bq Tryz.f338) (bg Tryz.f338.ntmps [.sl zk l,.clo (.func 311) [] [.ptr 0 0]] [.box [L t]])=.ok (.head 2 (am Tryz.f338 2) (Df t l 0)):=kw
theorem zau(t:Int)(l:ee)(i:Int):run Nu 1 Ci Tryz.f338.results.toList 300 (am Tryz.f338 2) (Df t l i)=pR (K:=am Tryz.f338 2) (e:=zk) l (λx=>bif x !=t then x !=0 else S) (Df t l) [.box [L t]] i:=kw
theorem zaf:zY Nu.P 338 Tryz.f338 2:=cK kw
def zrI:fD [M (.sl zk),Q2]:=λx h=>match x,h with
 |(l,.clo (.func 311) [] [.ptr 0 0],_),[.box [L t]]=>.ok (L (ah (λx=>bif x !=t then x !=0 else S) l 0),[.box [L t]])
 |_,_=>.err
def zoM:ag:=bf [M (.sl zk),Q2] zrI
theorem zju:FK 338 zoM:=by
 refine dz zaf λx d c h C a=>?_
 unfold zrI at h;split at h
 .rename_i l u t;simp only[Tr.val_ok,bG]at h;subst h;refine Reach.len 0 zk l rfl λb=>?_
  refine zI (n0:=1) yS zaf a (Y9 t l) ?_;exact lX l (λx=>bif x !=t then x !=0 else S) (Df t l) yS zaf a (zau t l) b _ 0 rfl (aG _)
 .simp at h
def wO:=Nu.addL [(41,zpa),(185,zo1),(17,F6t),(56,zo5),(338,zoM)]
theorem oF:zw wO:=yS.addL<|fc zjQ<|fc zjJ<|fc zri<|fc zjN<|fc zju jg
def F78:ag:=bf [M (.sl zk),Q2] (fj wO Tryz.f310 [M (.sl zk),Q2])
theorem zro:FK 310 F78:=cm _ oF (cK kw)
def eU(x:J Q6):J Q7:=sF x
theorem zuF:zY wO.P 173 Tryz.f173 1:=cK kw
theorem zxk(x:J Q6):rn wO 0 (λ_=>{ }) Tryz.f173 [zW Q6 x] []=Tr.ok (zR.ret (AV.bool (sF x)) []):=kw
def F25:ag:=aU [Q6] [Q7] λx=>(eU x.1,())
theorem zqG:FK 173 F25:=by
 refine aq zuF λx C h=>?_
 refine bw oF zuF (λid _=>h id) (zxk x.1) ?_;simp only[Tr.val,eU];repeat' split
 all_goals rfl
def zZ(x:al)(h:J Q6):zy:=ah (λc=>c.1==h) x.2.1 0
theorem zuB:zY wO.P 108 Tryz.f108 2:=cK kw
theorem zxg(x:al)(h:J Q6):rn wO 0 (λ_=>{ }) Tryz.f108 [zW ab x,zW Q6 h] []=Tr.ok (zR.ret (L (ah (λc=>c.1==h) x.2.1 0)) []):=kw
def F17:ag:=aU [ab,Q6] [zk] λx=>(zZ x.1 x.2.1,())
theorem zqB:FK 108 F17:=by
 refine aq zuB λx C h=>?_
 refine bw oF zuB (λid _=>h id) (zxg x.1 x.2.1) ?_;simp only[Tr.val,zZ];repeat' split
 all_goals rfl
def aK(x:J zn.sl)(h:J Q6):zy:=ah (λc=>c.1==h) x 0
theorem zuU:zY wO.P 238 Tryz.f238 2:=cK kw
theorem zxD(x:J zn.sl)(h:J Q6):rn wO 0 (λ_=>{ }) Tryz.f238 [zW zn.sl x,zW Q6 h] []=Tr.ok (zR.ret (L (ah (λc=>c.1==h) x 0)) []):=kw
def F48:ag:=aU [zn.sl,Q6] [zk] λx=>(aK x.1 x.2.1,())
theorem zqZ:FK 238 F48:=by
 refine aq zuU λx C h=>?_
 refine bw oF zuU (λid _=>h id) (zxD x.1 x.2.1) ?_;simp only[Tr.val,aK];repeat' split
 all_goals rfl
def H7:=wO.addL [(310,F78),(173,F25),(108,F17),(238,F48)]
theorem yT:zw H7:=oF.addL<|fc zro<|fc zqG<|fc zqB<|fc zqZ jg
def qQ(h:J zk.sl)(a:zy):J Q7:=!Q0 (ah (λx=>bif x !=a then x !=0 else S) h 0>=0)
theorem zu5:zY H7.P 271 Tryz.f271 2:=cK kw
theorem zxP(h:J zk.sl)(a:zy):rn H7 0 (λ_=>{ }) Tryz.f271 [zW zk.sl h,zW zk a] []=Tr.ok (zR.ret (AV.bool !Q0 (ah (λx=>bif x !=a then x !=0 else S) h 0>=0)) []):=kw
def F66:ag:=aU [zk.sl,zk] [Q7] λx=>(qQ x.1 x.2.1,())
theorem zrg:FK 271 F66:=by
 refine aq zu5 λx C h=>?_
 refine bw yT zu5 (λid _=>h id) (zxP x.1 x.2.1) ?_;simp only[Tr.val,qQ];repeat' split
 all_goals rfl
def az(x:J Q6):J Q7:=bif eU x then !kh x else S
theorem zuA:zY H7.P 107 Tryz.f107 1:=cK kw
theorem zxf(x:J Q6):rn H7 0 (λ_=>{ }) Tryz.f107 [zW Q6 x] []=Tr.ok (zR.ret (AV.bool (cond (eU x) (!kh x) S)) []):=kw
def F16:ag:=aU [Q6] [Q7] λx=>(az x.1,())
theorem zqA:FK 107 F16:=by
 refine aq zuA λx C h=>?_
 refine bw yT zuA (λid _=>h id) (zxf x.1) ?_;simp only[Tr.val,az];repeat' split
 all_goals rfl
def YC:=H7.addL [(271,F66),(107,F16)]
theorem H8:zw YC:=yT.addL<|fc zrg<|fc zqA jg
theorem ff{c:zF (ks.map Q1)->Bool}{a:zF (ks.map Q1)->zF (outs.map Q1)}(j:∃fn,P.funcs[h]?=Q1 fn/\(fn.name=="runtime.NumGoroutine")=Q4/\fn.body.isNone=Q4)(o:∀x,c x=Q4):om P g h (ac ks outs c a):=by
 refine⟨j,?_⟩;intro w U ρ p n d v f l b;exfalso;unfold ac bf at b;split at b
 .simp only at b;split at b
  .split at b
   .simp only[Tr.val_bind,gC]at b;have⟨k,i,m⟩:=b;unfold gp at i;grind[Tr.val]
   .simp at b
  .simp at b
 .simp at b
variable {Φ:zR->Prop}{t:Tr zR}
theorem ot{c:Bool}{f:Tr zR}(h:c=O->iz Φ t.val)(x:c=S->iz Φ f.val):iz Φ (br c t f).val:=by grind[Tr.val]
theorem fW{c:Bool}(x:c=O)(h:iz Φ t.val):iz Φ (chk c t).val:=by subst x;simpa[Tr.val]using h
theorem er(h:iz Φ t.val):iz Φ (chk O t).val:=h
theorem oT{c:Bool}(h:c=S):¬c=O:=by rw[h];simp
theorem sY{c g:Bool}(h:(ite (c=O) g S)=O):c=O/\g=O:=by
 split at h
 .exact⟨‹_›,h⟩
 .cases h
theorem obr{c:Bool}{f:Tr zR}{α:Sort _}{a b y:α}{p q:Bool}(d:(ite (c=O) a b)=y)(x:(ite (c=O) p q)=O)(g:c=O->a=y->p=O->iz Φ t.val)(i:c=S->b=y->q=O->iz Φ f.val):iz Φ (Tr.br c t f).val:=
 ot (λh=>g h (by rwa [zf h]at d) (by rwa [zf h]at x)) (λh=>i h (by rwa [zh (oT h)]at d) (by rwa [zh (oT h)]at x))
theorem Fq{c:Bool}{f:Tr zR}{α:Sort _}{a b y:α}(x:(ite (c=O) a b)=y)(d:c=O->a=y->iz Φ t.val)(g:c=S->b=y->iz Φ f.val):iz Φ (Tr.br c t f).val:=
 ot (λh=>d h (by rwa [zf h]at x)) (λh=>g h (by rwa [zh (oT h)]at x))
theorem KS{c g:Bool}(x:(ite (c=O) g S)=O)(h:g=O->iz Φ t.val):iz Φ (Tr.chk c t).val:=
 fW (sY x).1 (h (sY x).2)
theorem Tr.val_brT(t f:Tr α):(br O t f).val=t.val:=rfl
theorem Tr.val_brF(t f:Tr α):(br S t f).val=f.val:=rfl
theorem Tr.val_chkT(t:Tr α):(chk O t).val=t.val:=rfl
instance:Inhabited zg:=⟨.mk [] (0,0,[]) [] []⟩
instance (s:Sh):Inhabited (J s):=⟨zi s⟩
variable {A:Prop}
theorem MB{G P:Prop}(h:A)(c:G)(k:A->G->P:=by
 intro x a
 try simp only[zg.eta,zo]
 repeat' (first|with_reducible refine obr x a (λ_ x a=>?_) (λ_ x a=>?_)|with_reducible refine Fq x (λ_ x=>?_) (λ_ x=>?_)|with_reducible refine KS a (λa=>?_)|with_reducible refine er ?_)
 all_goals first|(cases a;done)|(subst x;first|rfl)):P:=k h c
theorem Us{P:Prop}(h:A)(k:A->P:=by
 intro x
 try simp only[zg.eta,zo]
 repeat' (first|with_reducible refine Fq x (λ_ x=>?_) (λ_ x=>?_)|with_reducible refine er ?_)
 all_goals first|(cases hc;done)|(subst x;first|rfl)):P:=k h
theorem zfC{G B P:Prop}(h:A)(c:G)(b:B)(k:A->G->B->P:=by
 intro hy hc hk
 try simp only[zg.eta,zo]
 repeat' (first|with_reducible refine obr hy hc (λ_ hy hc=>?_) (λ_ hy hc=>?_)|with_reducible refine Fq hy (λ_ hy=>?_) (λ_ hy=>?_)|with_reducible refine KS hc (λhc=>?_)|with_reducible refine er ?_)
 all_goals first|(cases hc;done)|(subst hy;first|(change Reach _ _ _ _ _ _;apply hk<;>first|omega|assumption)|rfl)):P:=k h c b
theorem Pq{B P:Prop}(h:A)(b:B)(k:A->B->P:=by
 intro hy hk
 try simp only[zg.eta,zo]
 repeat' (first|with_reducible refine Fq hy (λ_ hy=>?_) (λ_ hy=>?_)|with_reducible refine er ?_)
 all_goals first|(cases hc;done)|(subst hy;first|(change Reach _ _ _ _ _ _;apply hk<;>first|omega|assumption)|rfl)):P:=k h b
def VC(g:J Q5->ct->zy×zy)(c:J Q5->ct->Bool):cu:=YC.add 227 (ac [Q5,Sh.sl zn] [zk,zk] (λx=>c x.1 x.2.1) λx=>((g x.1 x.2.1).1,(g x.1 x.2.1).2,()))
theorem D9{g:J Q5->ct->zy×zy}{c:J Q5->ct->Bool}(h:FK 227 (ac [Q5,Sh.sl zn] [zk,zk] (λx=>c x.1 x.2.1) λx=>((g x.1 x.2.1).1,(g x.1 x.2.1).2,()))):zw (VC g c):=H8.add h
abbrev ziW:Nat->aX:=λj=>if j=3 then{slots:=[1,2,6,15,16,17],prom:=[(6,Q2,zk)]}else{ }
abbrev Gr(k:LC)(g:LX)(i h:Int)(j:zJ)(x a:Int)(b c:zJ)(d:LX)(l:LI):St:={tmps:=(tm 91 [(1,N zn k),(2,ptr 0 0),(6,AV.vec 1),(15,N Q5 g),(16,L i),(17,L h)]),heap:=[Qa [I j,L x,L a,I b,I c,N Q5 d],AO.vec zk l]}
theorem Ft(g:J Q5->ct->zy×zy)(c:J Q5->ct->Bool):zY (VC g c).P 227 Tryz.f227 2:=cK kw
theorem zsE(g:J Q5->ct->zy×zy)(c:J Q5->ct->Bool)(x:J Q5)(h:J zn.sl):rn (VC g c) 0 ziW Tryz.f227 [zW Q5 x,zW zn.sl h] []=Tr.ok (zR.head 3 (am Tryz.f227 3) (Gr h (zg.l x) (↑(zg.l x).length:Int) 0 (zg.op x) (zg.v x).1 (zg.v x).2.1 (zg.v x).2.2 (zg.s x) (zg.l x) [])):=kw
theorem TW(g:J Q5->ct->zy×zy)(c:J Q5->ct->Bool)(h:LC)(a:LX)(b i:Int)(j:zJ)(d m:Int)(n x:zJ)(o:LX)(l:LI):rh (VC g c) 0 ziW Tryz.f227 3 (Gr h a b i j d m n x o l)=let p:=Tr.ok (zR.ret (tup [L 0,L 5]) []);let q:=Tr.ok (zR.ret (tup [L 3,L 0]) []);let u:=chk (zL 0 (X l)&&(T (Z 0<X l)&&(zL 1 (X l)&&(T (Z 1<X l)&&bif l.getD (Z 0) (zi zk)==l.getD (Z 1) (zi zk)then O else zL 0 (X l)&&(T (Z 0<X l)&&bif l.getD (Z 0) (zi zk)==0 then O else zL 1 (X l)&&T (Z 1<X l)))))) (br (!bif l.getD (Z 0) (zi zk)==l.getD (Z 1) (zi zk)then O else bif l.getD (Z 0) (zi zk)==0 then O else l.getD (Z 1) (zi zk)==0) p q);let y:=a.getD i.toNat (zi Q5);let k:=zt y;let v:=br (!qQ l 1) p (Tr.ok (zR.ret (tup [L 1,L 0]) []));let s:=br (!qQ l 3) p q;
 br (T (i<b)) (chk (zL i (X a)) (chk (c k h) (br ((g k h).2!=0) (Tr.ok (zR.ret (tup [L 0,L (g k h).2]) [])) (chk (T (X l+[(g k h).1].length<=1073741824)) (Tr.ok (zR.head 3 (am Tryz.f227 3) (Gr h a b (Γ Δ (i+1)) j d m n x o (l++[(g k h).1])))))))) (br (j==pC) (Tr.ok (zR.ret (tup [L d,L 0]) [])) (br (j==fk) (br (T (aK h x<0)) (Tr.ok (zR.ret (tup [L 0,L 4]) [])) (chk (zL (aK h x) (X h)) (Tr.ok (zR.ret (tup [L (h.getD (Z (aK h x)) (zi zn)).2.1,L 0]) [])))) (br (j==oC) s (br (j==jf) s (br (j==wA) s (br (j==[61]) u (br (j==[60]) u (br (j==[43]) v (br (j==[45]) v q))))))))):=kw
def bd(g:J Q5->ct->zy×zy)(c:J Q5->ct->Bool)(a:LC)(j:zJ)(b d:Int)(k h:zJ)(m:LX):List (J Q5)->Int->ee->zy×zy
 |[],_,l=>if(j==pC)=O then(b,0)
else
 if(j==fk)=O then
  if T (aK a h<0)=O then(0,4)
  else((a.getD (Z (aK a h)) (zi zn)).2.1,0)
 else
  if(j==oC)=O then if(!qQ l 3)=O then(0,5)else(3,0)
  else
   if(j==jf)=O then if(!qQ l 3)=O then(0,5)else(3,0)
   else
    if(j==wA)=O then if(!qQ l 3)=O then(0,5)else(3,0)
    else
     if (j==[61])=true then
      if
        (!bif l.getD (Z 0) (zi zk)==l.getD (Z 1) (zi zk)then O
          else bif l.getD (Z 0) (zi zk)==0 then O else l.getD (Z 1) (zi zk)==0)=
         O then
       (0,5)
      else(3,0)
     else
      if (j==[60])=true then
       if
         (!bif l.getD (Z 0) (zi zk)==l.getD (Z 1) (zi zk)then O
           else
            bif l.getD (Z 0) (zi zk)==0 then O else l.getD (Z 1) (zi zk)==0)=
          O then
        (0,5)
       else(3,0)
      else
       if(j==[43])=O then if(!qQ l 1)=O then(0,5)else(1,0)
       else if(j==[45])=O then if(!qQ l 1)=O then(0,5)else(1,0)else(3,0)
 |x::r,i,l=>if((g x a).2!=0)=O then(0,(g x a).2)else bd g c a j b d k h m r (i+1) (l++[(g x a).1])
def g8(g:J Q5->ct->zy×zy)(c:J Q5->ct->Bool)(h:LC)(j:zJ)(b d:Int)(k a:zJ)(m:LX):List (J Q5)->Int->ee->Bool
 |[],_,l=>if(j==pC)=O then O
else
 if(j==fk)=O then
  if T (aK h a<0)=O then O else if zL (aK h a) (X h)=O then O else S
 else
  if(j==oC)=O then O
  else
   if(j==jf)=O then O
   else
    if(j==wA)=O then O
    else
     if (j == [61])=true then
      if
        (zL 0 (Io l)&&
          (Q0 (toNat 0<Io l)&&
           (zL 1 (Io l)&&
            (Q0 (toNat 1<Io l)&&
             bif l.getD (Z 0) (zi zk)==l.getD (Z 1) (zi zk)then O
             else
              zL 0 (X l)&&
               (T (Z 0<X l)&&
                bif l.getD (Z 0) (zi zk)==0 then O
                else zL 1 (X l)&&T (Z 1<X l))))))=
         O then
       O
      else S
     else
      if (j == [60])=true then
       if
         (zL 0 (Io l)&&
           (Q0 (toNat 0<Io l)&&
            (zL 1 (Io l)&&
             (Q0 (toNat 1<Io l)&&
              bif l.getD (Z 0) (zi zk)==l.getD (Z 1) (zi zk)then O
              else
               zL 0 (X l)&&
                (T (Z 0<X l)&&
                 bif l.getD (Z 0) (zi zk)==0 then O
                 else zL 1 (X l)&&T (Z 1<X l))))))=
          O then
        O
       else S
      else O
 |x::r,i,l=>if c x h=O then
 if((g x h).2!=0)=O then O
 else
  if T (X l+[(g x h).1].length<=1073741824)=O then
   g8 g c h j b d k a m r (i+1) (l++[(g x h).1])
  else S
else S
theorem zdy(g:J Q5->ct->zy×zy)(c:J Q5->ct->Bool)(D:FK 227 (ac [Q5,Sh.sl zn] [zk,zk] (λx=>c x.1 x.2.1) λx=>((g x.1 x.2.1).1,(g x.1 x.2.1).2,())))(B:∀id,C.ρ0 id=Q2)(v:LC)(j:zJ)(k n:Int)(o p:zJ)(q l:LX)(H:X l<=aD):∀(m i:Nat)(a:LI),X l-i=m->i<=X l->g8 g c v j k n o p q (l.drop i) i a=O->
  Reach (VC g c) C 227 (am Tryz.f227 3) (Gr v l (X l:Int) (i:Int) j k n o p q a) (λr h=>aZ h [zk,zk] r=M ((bd g c v j k n o p q (l.drop i) i a).1,(bd g c v j k n o p q (l.drop i) i a).2,())):=by
 intro m
 induction m with
 | zero=>
  intro i a G F d;obtain rfl:i=X l:=by omega
  rw[kD]at d|-;refine zI (D9 D) (Ft g c) (λid _=>B id) (TW g c _ _ _ _ _ _ _ _ _ _ _) ?_;rw[g8]at d;generalize b:bd g c v j k n o p q [] _ a=y;rw[bd]at b;simp only[zg.eta,zK,Tr.val_brF];repeat' (first|with_reducible refine obr b d (λ_ b d=>?_) (λ_ b d=>?_)|with_reducible refine Fq b (λ_ b=>?_) (λ_ b=>?_)|with_reducible refine KS d (λd=>?_)|with_reducible refine er ?_)
  all_goals(subst b;first|rfl)
 | succ m A=>
  intro i a G F d;have u:i<X l:=by omega
  have A:=A (i+1);have s:((i:Int)+1)=((i+1:Nat):Int):=by omega
  have z:=zu i W;rw[il u]at d|-;refine zI (D9 D) (Ft g c) (λid _=>B id) (TW g c _ _ _ _ _ _ _ _ _ _ _) ?_;rw[g8]at d;generalize b:bd g c v j k n o p q (l[i]::l.drop (i+1)) (i:Int) a=y;rw[bd]at b;simp only[zg.eta,zN u,zx u,dq l _ u,z,Tr.val_brT,Tr.val_chkT];clear z;simp only[s]at b
  try simp only[s]at d
  repeat' (first|with_reducible refine obr b d (λ_ b d=>?_) (λ_ b d=>?_)|with_reducible refine Fq b (λ_ b=>?_) (λ_ b=>?_)|with_reducible refine KS d (λd=>?_)|with_reducible refine er ?_)
  all_goals(subst b;first|(change Reach _ _ _ _ _ _;apply A<;>first|omega|assumption)|rfl)
theorem XK(g:J Q5->ct->zy×zy)(c:J Q5->ct->Bool)(q:FK 227 (ac [Q5,Sh.sl zn] [zk,zk] (λx=>c x.1 x.2.1) λx=>((g x.1 x.2.1).1,(g x.1 x.2.1).2,())))(o:∀id,C.ρ0 id=Q2)(n:LC)(j:zJ)(b d:Int)(i k:zJ)(m a:LX)(l:LI)(p:g8 g c n j b d i k m a 0 l=O):
  Reach (VC g c) C 227 (am Tryz.f227 3) (Gr n a (X a:Int) 0 j b d i k m l) (λr h=>aZ h [zk,zk] r=M ((bd g c n j b d i k m a 0 l).1,(bd g c n j b d i k m a 0 l).2,())):=
 Reach.len 15 (Q5) a rfl λs=>zdy g c q o n j b d i k m a s _ 0 l rfl (aG _) p
def A9(g:J Q5->ct->zy×zy)(c:J Q5->ct->Bool)(x:J Q5)(h:J zn.sl):zy×zy:=bd g c h (zg.op x) (zg.v x).1 (zg.v x).2.1 (zg.v x).2.2 (zg.s x) (zg.l x) (zg.l x) 0 []
def Dq(g:J Q5->ct->zy×zy)(c:J Q5->ct->Bool)(x:J Q5)(h:J zn.sl):Bool:=g8 g c h (zg.op x) (zg.v x).1 (zg.v x).2.1 (zg.v x).2.2 (zg.s x) (zg.l x) (zg.l x) 0 []
def zv7(g:J Q5->ct->zy×zy)(c:J Q5->ct->Bool):ag:=ac [Q5,zn.sl] [zk,zk] (λx=>Dq g c x.1 x.2.1) λx=>((A9 g c x.1 x.2.1).1,(A9 g c x.1 x.2.1).2,())
theorem zkC(g:J Q5->ct->zy×zy)(c:J Q5->ct->Bool)(d:FK 227 (ac [Q5,Sh.sl zn] [zk,zk] (λx=>c x.1 x.2.1) λx=>((g x.1 x.2.1).1,(g x.1 x.2.1).2,()))):FK 227 (zv7 g c):=by
 refine aV (Ft g c) λx a C b=>?_
 unfold Dq at a;refine zI (D9 d) (Ft g c) (λid _=>b id) (zsE g c x.1 x.2.1) ?_;generalize h:A9 g c x.1 x.2.1=y;unfold A9 at h
 try simp only[zg.eta,zo]
 repeat' (first|with_reducible refine obr h a (λ_ h a=>?_) (λ_ h a=>?_)|with_reducible refine Fq h (λ_ h=>?_) (λ_ h=>?_)|with_reducible refine KS a (λa=>?_)|with_reducible refine er ?_)
 all_goals(subst h;first|(change Reach _ _ _ _ _ _;apply XK g c d b<;>first|assumption|exact a)|rfl)
mutual
def aa:Nat->J Q5->ct->zy×zy
 |0=>λ_ _=>default
 |n+1=>A9 (aa n) (bJ n)
def bJ:Nat->J Q5->ct->Bool
 |0=>λ_ _=>S
 |n+1=>Dq (aa n) (bJ n)
end
theorem Xn:∀n,FK 227 (ac [Q5,Sh.sl zn] [zk,zk] (λx=>bJ n x.1 x.2.1) λx=>((aa n x.1 x.2.1).1,(aa n x.1 x.2.1).2,()))
 |0=>ff ⟨Tryz.f227,(Ft default default).1,(Ft default default).2.1,(Ft default default).q.1⟩ (λ_=>rfl)
 |n+1=>zkC (aa n) (bJ n) (Xn n)
def F51:ag:=ac [Q5,Sh.sl zn] [zk,zk] (λx=>bJ 16 x.1 x.2.1) λx=>((aa 16 x.1 x.2.1).1,(aa 16 x.1 x.2.1).2,())
theorem zq3:FK 227 F51:=Xn 16
def H9:=YC.add 227 F51
theorem sN:zw H9:=H8.add zq3
theorem zw.TT{e:σ->Nat×St}{t:σ->Tr (σ⊕aw)}{i:zF (ks.map M)->Tr (σ⊕aw)}{c:zF (ks.map M)->Bool}{a:zF (ks.map M)->zF (outs.map M)}(j:zw E)(gas:Nat:=400)
  (l:(E.P.funcs[h]?,f.name=="runtime.NumGoroutine",f.body.isNone,Q0 (ks.length<=f.ntmps))=(Q1 f,Q4,Q4,Q3):=by kernel_rfl)
  (b:∀x,run E 0 keep f.results.toList gas (bq f) (bg f.ntmps (jk (ks.map M) x) [])=(i x).map (lf f e):=by intro x;kernel_rfl)
  (d:∀s,run E 0 keep f.results.toList gas (am f (e s).1) (e s).2=(t s).map (lf f e):=by intro s;cases s<;>kernel_rfl)
  (k:∀x,c x=(ap outs t n (i x)).isSome:=by intro x;kernel_rfl) (m:∀x,a x=(ap outs t n (i x)).getD (cJ outs):=by intro x;kernel_rfl) (o:E.P=P:=by rfl) (q:E.gl=g:=by rfl):om P g h (ac ks outs c a):=
 Xr j (cK l) b d k m o q
theorem zw.B1{e:σ->Nat×St}{t:σ->Tr (σ⊕aw)}{i:zp ps->zF (ks.map M)->Tr (σ⊕aw)}{c:zp ps->zF (ks.map M)->Bool}{a:zp ps->zF (ks.map M)->zF (outs.map M)×zp q}(j:zw E)(gas:Nat:=400)
  (l:(E.P.funcs[h]?,f.name=="runtime.NumGoroutine",f.body.isNone,Q0 (ks.length+1<=f.ntmps))=(Q1 f,Q4,Q4,Q3):=by kernel_rfl)
  (b:∀y x,run E (bl ps+1) keep f.results.toList gas (bq f) (bg f.ntmps (.ptr 0 0::jk (ks.map M) x) (ba ps y))=(i y x).map (lf f e):=by intro y x;kernel_rfl)
  (d:∀s,run E (bl ps+1) keep f.results.toList gas (am f (e s).1) (e s).2=(t s).map (lf f e):=by intro s;cases s<;>kernel_rfl)
  (k:∀y x,c y x=(kJ outs q t n (i y x)).isSome:=by intro y x;kernel_rfl) (m:∀y x,a y x=(kJ outs q t n (i y x)).getD (cJ outs,gj q):=by intro y x;kernel_rfl) (p:E.P=P:=by rfl) (o:E.gl=g:=by rfl):om P g h (rq ps ks outs q c a):=
 zlo j (cK l) b d k m p o
abbrev cpE:List CP:=[.d .expr]
abbrev zr1:List CP:=[.d .str,.d zk,.d zk,.d .str,.d .str,.vec .expr]
abbrev qR:List CP:=[.d .str,.d zk,.d zk,.d .str,.d .str,.nil]
def zhB(g:J Q5->zy->zy->J Q5×zy)(c:J Q5->zy->zy->Bool):cu:=H9.add 122 (ac [Q5,zk,zk] [Q5,zk] (λx=>c x.1 x.2.1 x.q.1) λx=>((g x.1 x.2.1 x.q.1).1,(g x.1 x.2.1 x.q.1).2,()))
theorem VD{g:J Q5->zy->zy->J Q5×zy}{c:J Q5->zy->zy->Bool}(h:FK 122 (ac [Q5,zk,zk] [Q5,zk] (λx=>c x.1 x.2.1 x.q.1) λx=>((g x.1 x.2.1 x.q.1).1,(g x.1 x.2.1 x.q.1).2,()))):zw (zhB g c):=sN.add h
abbrev zt8:Nat->aX:=λj=>if j=10 then{slots:=[1,2,3,6,8,9],prom:=[(8,M 5,Q5)]}else if j=500004 then{slots:=[1,2,3,6,8,30],cut:=O}else if j=500006 then{slots:=[1,2,3,6,8,39],cut:=O}else if j=500008 then{slots:=[1,2,3,6,8],cut:=O}else{ }
inductive B8 where
 |h500004 (i1:zy) (i2:zy) (b30:Bool) (z0:zp cpE) (z1:zp qR) (z2:zp qR)
 |h500006 (i1:zy) (i2:zy) (b39:Bool) (z0:zp cpE) (z1:zp qR) (z2:zp qR)
 |h500008 (i1:zy) (i2:Int) (z0:zp cpE) (z1:zp qR) (z2:zp qR)
 |h10 (i1:zy) (i2:Int) (i9:Int) (z0:zp cpE) (z1:zp qR) (z2:zp zr1)
abbrev zwV:B8->Nat×St
 |.h500004 i h b x a z=>(500004,⟨tm 88 [(1,L i),(2,L h),(3,ptr 0 0),(6,ptr 1 0),(8,ptr 2 0),(30,AV.bool b)],[Qa (bL [] cpE x),Qa (bL [] qR a),Qa (bL [] qR z)]⟩)
 |.h500006 i h c x a z=>(500006,⟨tm 88 [(1,L i),(2,L h),(3,ptr 0 0),(6,ptr 1 0),(8,ptr 2 0),(39,AV.bool c)],[Qa (bL [] cpE x),Qa (bL [] qR a),Qa (bL [] qR z)]⟩)
 |.h500008 i h x a z=>(500008,⟨tm 88 [(1,L i),(2,L h),(3,ptr 0 0),(6,ptr 1 0),(8,ptr 2 0)],[Qa (bL [] cpE x),Qa (bL [] qR a),Qa (bL [] qR z)]⟩)
 |.h10 i h d x a z=>(10,⟨tm 88 [(1,L i),(2,L h),(3,ptr 0 0),(6,ptr 1 0),(8,ptr 2 0),(9,L d)],[Qa (bL [] cpE x),Qa (bL [] qR a),Qa (bL [3] zr1 z),AO.vec Q5 z.u.1]⟩)
def zeO(_:J Q5->zy->zy->J Q5×zy)(_:J Q5->zy->zy->Bool)(x:J Q5)(b d:zy):Tr (B8⊕aw):=
 let a:=T ((↑(X (zg.s x)):Int)>20)
 let h:=((zg.v x).1,(zg.v x).2.1,(zg.v x).q,zg.s x,())
 br (T ((↑(X (zg.op x)):Int)>8))
 (chk (T (0<=0)&&T (0<=8)&&T (8<=(↑(X (zg.op x)):Int)))
  (Tr.to (B8.h500004 b d a (x,()) ([],0,0,[],[],()) (Qg (Z 8-Z 0) (Qh (Z 0) (zg.op x)),h))))
 (Tr.to (B8.h500004 b d a (x,()) ([],0,0,[],[],()) (zg.op x,h)))
def A7(g:J Q5->zy->zy->J Q5×zy)(c:J Q5->zy->zy->Bool):B8->Tr (B8⊕aw)
 | .h500004 i x m h a z=>
  let d:=(X z.t.1:Int)
  let b:=(X z.r.1:Int)
  let j:=T (b>45)
  br m
  (chk (T (0<=0)&&T (0<=20)&&T (20<=d)) (Tr.to (B8.h500006 i x j h a (z.1,z.2.1,z.q.1,z.r.1,Qg (Z 20-Z 0) (Qh (Z 0) z.t.1),()))))
  (Tr.to (B8.h500006 i x j h a z))
 | .h500006 i x n h a z=>
  let d:=(X z.r.1:Int)
  let b:=Γ Δ (x-1)
  br n
  (chk (T (0<=0)&&T (0<=45)&&T (45<=d)) (Tr.to (B8.h500008 i b h a (z.1,z.2.1,z.q.1,Qg (Z 45-Z 0) (Qh (Z 0) z.r.1),z.t))))
  (Tr.to (B8.h500008 i b h a z))
 | .h500008 i x h a z=>
  Tr.to (B8.h10 i x 0 h a (z.1,z.2.1,z.q.1,z.r.1,z.t.1,[],()))
 | .h10 i x k h a z=>
  let d:=(↑(zg.l h.1).length:Int)
  let b:=zt ((zg.l h.1).getD k.toNat (zi Q5))
  let j:=Γ Δ (i-1)
  let o:=g b j x
  let p:=[zt o.1]
  br (cond (T (k<d)) (cond (T (k<3)) (cond (T (i>0)) (T (x>0)) S) S) S)
  (chk (zL k (zg.l h.1).length) (chk (c b j x) (chk (T (X z.u.1+X p<=1073741824)) (Tr.to (B8.h10 i o.2 (Γ Δ (k+1)) h a (z.1,z.2.1,z.q.1,z.r.1,z.t.1,z.u.1++p,()))))))
  (re (tup [agg [I z.1,L z.2.1,L z.q.1,I z.r.1,I z.t.1,AV.vec 0],L x]) [AO.vec Q5 z.u.1])
def Nr(o:Option (zF (List.map M [Q5,zk]))):J Q5×zy:=(λr:zF (List.map M [Q5,zk])=>(r.1,r.2.1)) (o.getD (cJ [Q5,zk]))
def zso(g:J Q5->zy->zy->J Q5×zy)(c:J Q5->zy->zy->Bool)(x:J Q5)(h a:zy):Option (zF (List.map M [Q5,zk])):=ap [Q5,zk] (A7 g c) 100000000 (zeO g c x h a)
def qS:Nat->J Q5->zy->zy->Option (zF (List.map M [Q5,zk]))
 |0=>λ_ _ _=>Q2
 |n+1=>zso (λx h a=>Nr (qS n x h a)) λx h a=>(qS n x h a).isSome
theorem zmQ:zY H9.P 122 Tryz.f122 3:=cK kw
theorem SF:∀n,FK 122 (ac [Q5,zk,zk] [Q5,zk] (λx=>(qS n x.1 x.2.1 x.q.1).isSome) λx=>((Nr (qS n x.1 x.2.1 x.q.1)).1,(Nr (qS n x.1 x.2.1 x.q.1)).2,()))
 |0=>ff ⟨Tryz.f122,zmQ.1,zmQ.2.1,zmQ.q.1⟩ (λ_=>rfl)
 |n+1=>(VD (SF n)).TT (f:=Tryz.f122) (E:=zhB (λh a b=>Nr (qS n h a b)) (λh a b=>(qS n h a b).isSome)) (ks:=[Q5,zk,zk]) (outs:=[Q5,zk]) (keep:=zt8) (n:=100000000) (e:=zwV) (t:=A7 (λh a b=>Nr (qS n h a b)) (λh a b=>(qS n h a b).isSome)) (i:=λx=>zeO (λh a b=>Nr (qS n h a b)) (λh a b=>(qS n h a b).isSome) x.1 x.2.1 x.q.1)
def uk(h:Nat)(e:J Q5)(d n:zy):J Q5×zy:=Nr (qS h e d n)
def NM(h:Nat)(e:J Q5)(d n:zy):Bool:=(qS h e d n).isSome
def F15:ag:=ac [Q5,zk,zk] [Q5,zk] (λx=>NM 16 x.1 x.2.1 x.q.1) λx=>((uk 16 x.1 x.2.1 x.q.1).1,(uk 16 x.1 x.2.1 x.q.1).2,())
theorem zqz:FK 122 F15:=SF 16
def eqL(g:zg->zg->Bool):List zg->List zg->Bool
 |x::r,y::s=>if(!g x y)=O then S else eqL g r s
 |_,_=>O
def VS(g c:zg->zg->Bool):List zg->List zg->Bool
 |x::r,y::s=>if c x y=O then(ite ((!g x y)=O) O (VS g c r s))else S
 |_,_=>O
def VB(g c:zg->zg->Bool):cu:=H9.add 177 (ac [.expr,.expr] [.bool] (λx=>c x.1 x.2.1) (λx=>(g x.1 x.2.1,())))
variable {c d:zg->zg->Bool}
theorem D8(h:FK 177 (ac [.expr,.expr] [.bool] (λx=>c x.1 x.2.1) (λx=>(d x.1 x.2.1,())))):zw (VB d c):=sN.add h
abbrev ztR:Nat->aX:=λj=>if j=4 then{slots:=[1,2,15,16,17]}else{ }
abbrev Uu(x l:List zg)(i h:Int):St:={tmps:=(tm 32 [(1,N Q5 x),(2,AV.clo (Fn.func 177) [] []),(15,N Q5 l),(16,L i),(17,L h)]),heap:=[]}
theorem ze7(g c:zg->zg->Bool):zY (VB g c).P 226 Tryz.f226 3:=cK kw
theorem zxF(g c:zg->zg->Bool)(l m:List zg):rn (VB g c) 0 ztR Tryz.f226 [N Q5 l,N Q5 m,AV.clo (Fn.func 177) [] []] []=br ((X l:Int)!=(X m:Int)) (Tr.ok (zR.ret (kb S) [])) (Tr.ok (zR.head 4 (am Tryz.f226 4) (Uu m l (X l:Int) 0))):=kw
theorem zaw(g c:zg->zg->Bool)(x l:List zg)(h i:Int):rh (VB g c) 0 ztR Tryz.f226 4 (Uu x l h i)=let d:=l.getD i.toNat (zi Q5);let j:=x.getD i.toNat (zi Q5);let a:=zt j;let b:=zt d;br (T (i<h)) (chk (zL i (X l)) (chk (zL i (X x)) (chk (c b a) (br (!g b a) (Tr.ok (zR.ret (kb S) [])) (Tr.ok (zR.head 4 (am Tryz.f226 4) (Uu x l h (Γ Δ (i+1))))))))) (Tr.ok (zR.ret (kb O) [])):=kw
theorem zwj(p:FK 177 (ac [.expr,.expr] [.bool] (λx=>c x.1 x.2.1) (λx=>(d x.1 x.2.1,()))))(o:∀id,0<=id->C.ρ0 id=Q2)(l m:List zg)(v:X l=X m)(y:X l<=aD):
  ∀(k i:Nat),X l-i=k->i<=X l->VS d c (l.drop i) (m.drop i)=O->Reach (VB d c) C 226 (am Tryz.f226 4) (Uu m l (X l) i) (λr h=>(r,h)=(.kb (eqL d (l.drop i) (m.drop i)),[])):=by
 intro k
 induction k with
 | zero=>
  intro i u s j;obtain rfl:i=X l:=by omega
  refine zI (D8 p) (ze7 d c) o (zaw d c _ _ _ _) ?_;simp only[zK,Tr.val_brF,kD];rfl
 | succ k q=>
  intro i u s j;have b:i<X l:=by omega
  have a:i<X m:=by omega
  refine zI (D8 p) (ze7 d c) o (zaw d c _ _ _ _) ?_;rw[il b,il a]at j|-;rw[VS]at j;have g:=sY j;simp only[zN b,zx b,zx a,dq l _ b,dq m _ a,zg.eta,Tr.val_brT,Tr.val_chkT,g.1,zu i W];refine ot (λh=>?_) (λh=>?_)
  .rw[eqL,zf h];rfl
  .rw[eqL,zh (oT h)];have n:=g.2;rw[zh (oT h)]at n;exact q (i+1) W W n
def QR(g:zg->zg->Bool)(l m:List zg):Bool:=if((X l:Int)!=(X m:Int))=O then S else eqL g l m
def EC(g c:zg->zg->Bool)(l m:List zg):Bool:=if((X l:Int)!=(X m:Int))=O then O else VS g c l m
def G50(g c:zg->zg->Bool):fD [M (.sl .expr),M (.sl .expr),Q2]:=λx h=>match x,h with
 |(l,m,.clo (.func 177) [] [],_),[]=>.chk (EC g c l m) (.ok (.bool (QR g l m),[]))
 |_,_=>.err
def F50(g c:zg->zg->Bool):ag:=bf [M (.sl .expr),M (.sl .expr),Q2] (G50 g c)
theorem Reach.weaken{m:AV->List AO->Prop}(h:Reach E C fn x s Q)(D:∀r h,Q r h->∃d,m d h/\∀w U ρ v,Rv w U ρ r v->Rv w U ρ d v):Reach E C fn x s m:=by intro b p a w U ρ u y A z;have⟨e,F,q,⟨v,r,n,o,G,B,i,l,c⟩,g⟩:=h b p a w U ρ u y A z;have⟨d,j,k⟩:=D r n i;exact⟨e,F,q,⟨v,d,n,o,G,B,j,k _ _ _ _ l,c⟩,g⟩
theorem zq2(i:FK 177 (ac [.expr,.expr] [.bool] (λx=>c x.1 x.2.1) (λx=>(d x.1 x.2.1,())))):FK 226 (F50 d c):=by
 refine dz (E:=VB d c) (ze7 d c) λx p o a C g=>?_
 unfold G50 at a;split at a
 .rename_i l m u;simp only[Tr.val]at a;split at a
  .rename_i b;simp only[bG]at a;subst a;refine Reach.len 0 .expr l rfl λj=>?_
   refine Reach.weaken (Q:=λr h=>(r,h)=(.kb (QR d l m),[])) ?_ ?_
   .refine zI (n0:=0) (D8 i) (ze7 d c) g (zxF d c l m) ?_;unfold EC at b;unfold QR;refine ot (λh=>?_) (λh=>?_)
    .rw[zf h];rfl
    .rw[zh (oT h)]at b|-;have:(X l:Int)=X m:=by simpa using h
     have:X l=X m:=by omega
     exact zwj i g l m this j _ 0 rfl (aG _) b
   .rintro r h k;cases k;refine⟨_,rfl,λw U ρ v n=>?_⟩;cases n;exact .bool _
  .simp at a
 .simp at a
def zeh(g c:zg->zg->Bool):cu:=H9.add 226 (F50 g c)
theorem Yp(h:FK 177 (ac [.expr,.expr] [.bool] (λx=>c x.1 x.2.1) (λx=>(d x.1 x.2.1,())))):zw (zeh d c):=sN.add (zq2 h)
def eqV(a b:V):Bool:=a.1==b.1&&(a.2.1==b.2.1&&(a.q==b.q&&O))
def Pw(g:zg->zg->Bool)(a b:zg):Bool:=bif a.op==b.op then bif eqV a.v b.v then bif a.s==b.s then QR g a.l b.l else S else S else S
def L3(g c:zg->zg->Bool)(a b:zg):Bool:=bif a.op==b.op then bif eqV a.v b.v then bif a.s==b.s then EC g c a.l b.l else O else O else O
theorem zan(g c:zg->zg->Bool):zY (zeh g c).P 177 Tryz.f177 2:=cK kw
theorem zxm(g c:zg->zg->Bool)(l m:zg):rn (zeh g c) 0 (λ_=>{}) Tryz.f177 [zW Q5 l,zW Q5 m] []=chk (L3 g c l m) (Tr.ok (zR.ret (AV.bool (Pw g l m)) [])):=kw
theorem zkb(a:FK 177 (ac [.expr,.expr] [.bool] (λx=>c x.1 x.2.1) (λx=>(d x.1 x.2.1,())))):FK 177 (ac [.expr,.expr] [.bool] (λx=>L3 d c x.1 x.2.1) (λx=>(Pw d x.1 x.2.1,()))):=by
 refine aV (E:=zeh d c) (zan d c) λx b C h=>?_
 refine zI (n0:=0) (Yp a) (zan d c) (λid _=>h id) (zxm d c x.1 x.2.1) ?_;exact fW b rfl
mutual
def gN:Nat->zg->zg->Bool
 |0=>λ_ _=>S
 |n+1=>Pw (gN n)
def lm:Nat->zg->zg->Bool
 |0=>λ_ _=>S
 |n+1=>L3 (gN n) (lm n)
end
theorem Xk:∀n,FK 177 (ac [.expr,.expr] [.bool] (λx=>lm n x.1 x.2.1) (λx=>(gN n x.1 x.2.1,())))
 |0=>ff ⟨Tryz.f177,(zan (λ_ _=>S) (λ_ _=>S)).1,(zan (λ_ _=>S) (λ_ _=>S)).2.1,(zan (λ_ _=>S) (λ_ _=>S)).q.1⟩ (λ_=>rfl)
 |n+1=>zkb (Xk n)
def F29:ag:=ac [.expr,.expr] [.bool] (λx=>lm 16 x.1 x.2.1) (λx=>(gN 16 x.1 x.2.1,()))
theorem zqJ:FK 177 F29:=Xk 16
def S6:=H9.addL [(122,F15),(177,F29)]
theorem Ia:zw S6:=sN.addL<|fc zqz<|fc zqJ jg
def bE(v:V):Bool:=v.1==0&&(v.2.1==0&&(v.q==[]&&O))
def avB:AV->Option Bool
 |.bool b=>M b
 |.kb b=>M b
 |_=>Q2
theorem Reach.toBool{b:Bool}(h:Reach E C fn x s (λr h=>avB r=M b/\h=z)):Reach E C fn x s (λr h=>(r,h)=(.bool b,z)):=by
 refine h.weaken λr g c=>?_
 obtain⟨a,rfl⟩:=c;refine⟨.bool b,rfl,λw U ρ v d=>?_⟩;cases r<;>simp[avB]at a<;>subst a<;>cases d<;>exact .bool _
def zlt(g:zg->Int->Int->Bool×Int)(c:zg->Int->Int->Bool):fD [Q2,M .expr,M zk]:=λx h=>match x,h with
 |(.ptr 0 0,e,d,_),[.box [L n]]=>.chk (c e d n) (.ok (.bool (g e d n).1,[.box [L (g e d n).2]]))
 |_,_=>.err
def PO(g:zg->Int->Int->Bool×Int)(c:zg->Int->Int->Bool):ag:=bf [Q2,M .expr,M zk] (zlt g c)
def VA(g:zg->Int->Int->Bool×Int)(c:zg->Int->Int->Bool):cu:=S6.add 228 (PO g c)
variable {l:zg->Int->Int->Bool×Int}{u:zg->Int->Int->Bool}
theorem D7(h:FK 228 (PO l u)):zw (VA l u):=Ia.add h
abbrev ztJ:Nat->aX:=λj=>if j=12 then{slots:=[0,2,73,74,75]}else{ }
abbrev LZ(x:Int)(l:LX)(i h j:Int):St:={tmps:=(tm 86 [(0,ptr 0 0),(2,L x),(73,N Q5 l),(74,L i),(75,L h)]),heap:=[Qa [L j]]}
theorem zao(g:zg->Int->Int->Bool×Int)(c:zg->Int->Int->Bool):zY (VA g c).P 228 Tryz.f228 3:=cK kw
theorem zxs(g:zg->Int->Int->Bool×Int)(c:zg->Int->Int->Bool)(e:zg)(d n:Int):rn (VA g c) 1 ztJ Tryz.f228 [ptr 0 0,zW Q5 e,L d] [Qa [L n]]=let a:=Γ Δ (n+1);let h:=Tr.ok (zR.ret (kb S) [Qa [L a]]);br (cond (T (d>12)) O (cond (T (Γ Δ (n+1)>60)) O ((e.l.length:Int)!=dU e.op))) h (br (e.op==pC) (Tr.ok (zR.ret (AV.bool (cond (e.s==[]) (be e.v) S)) [Qa [L a]])) (br (e.op==fk) (Tr.ok (zR.ret (AV.bool (cond (bE e.v) (cond (eU e.s) (!kh e.s) S) S)) [Qa [L a]])) (br (cond (!bE e.v) O (!e.s==[])) h (Tr.ok (zR.head 12 (am Tryz.f228 12) (LZ d e.l (e.l.length:Int) 0 a)))))):=kw
theorem TV(g:zg->Int->Int->Bool×Int)(c:zg->Int->Int->Bool)(x:Int)(l:LX)(h i j:Int):rh (VA g c) 1 ztJ Tryz.f228 12 (LZ x l h i j)=let d:=l.getD i.toNat (zi Q5);let b:=zt d;let a:=g b (Γ Δ (x+1)) j;br (T (i<h)) (chk (zL i (X l)) (chk (c b (Γ Δ (x+1)) j) (br (!a.1) (Tr.ok (zR.ret (kb S) [Qa [L a.2]])) (Tr.ok (zR.head 12 (am Tryz.f228 12) (LZ x l h (Γ Δ (i+1)) a.2)))))) (Tr.ok (zR.ret (kb O) [Qa [L j]])):=kw
def qU(g:zg->Int->Int->Bool×Int)(d:Int):List zg->Int->Bool×Int
 |[],n=>(O,n)
 |x::r,n=>if(!(g x (Γ Δ (d+1)) n).1)=O then(S,(g x (Γ Δ (d+1)) n).2)else qU g d r (g x (Γ Δ (d+1)) n).2
def Fi(g:zg->Int->Int->Bool×Int)(c:zg->Int->Int->Bool)(d:Int):List zg->Int->Bool
 |[],_=>O
 |x::r,n=>if c x (Γ Δ (d+1)) n=O then(ite ((!(g x (Γ Δ (d+1)) n).1)=O) O (Fi g c d r (g x (Γ Δ (d+1)) n).2))else S
theorem zwi(m:FK 228 (PO l u))(j:∀id,1<=id->C.ρ0 id=Q2)(d:Int)(x:List zg)(s:X x<=aD):
  ∀(k i:Nat)(n:Int),X x-i=k->i<=X x->Fi l u d (x.drop i) n=O->Reach (VA l u) C 228 (am Tryz.f228 12) (LZ d x (X x) i n) (λr h=>avB r=M (qU l d (x.drop i) n).1/\h=[.box [L (qU l d (x.drop i) n).2]]):=by
 intro k
 induction k with
 | zero=>
  intro i n q p c;obtain rfl:i=X x:=by omega
  refine zI (D7 m) (zao l u) j (TV l u _ _ _ _ _) ?_;simp only[zK,Tr.val_brF,kD];exact⟨rfl,rfl⟩
 | succ k o=>
  intro i n q p c;have a:i<X x:=by omega
  refine zI (D7 m) (zao l u) j (TV l u _ _ _ _ _) ?_;rw[il a]at c|-;rw[Fi]at c;have b:=sY c;simp only[zN a,zx a,dq x _ a,zg.eta,Tr.val_brT,Tr.val_chkT,b.1,zu i W];refine ot (λh=>?_) (λh=>?_)
  .rw[qU,zf h];exact⟨rfl,rfl⟩
  .rw[qU,zh (oT h)];have g:=b.2;rw[zh (oT h)]at g;exact o (i+1) _ W W g
def Cj(g:zg->Int->Int->Bool×Int)(e:zg)(d n:Int):Bool×Int:=if(cond (T (d>12)) O (cond (T (Γ Δ (n+1)>60)) O ((e.l.length:Int)!=dU e.op)))=O then(S,Γ Δ (n+1))else if(e.op==pC)=O then(cond (e.s==[]) (be e.v) S,Γ Δ (n+1))else if(e.op==fk)=O then(cond (bE e.v) (cond (eU e.s) (!kh e.s) S) S,Γ Δ (n+1))else if(cond (!bE e.v) O (!e.s==[]))=O then(S,Γ Δ (n+1))else qU g d e.l (Γ Δ (n+1))
def TD(g:zg->Int->Int->Bool×Int)(c:zg->Int->Int->Bool)(e:zg)(d n:Int):Bool:=if(cond (T (d>12)) O (cond (T (Γ Δ (n+1)>60)) O ((e.l.length:Int)!=dU e.op)))=O then O else if(e.op==pC)=O then O else if(e.op==fk)=O then O else if(cond (!bE e.v) O (!e.s==[]))=O then O else Fi g c d e.l (Γ Δ (n+1))
theorem zkq{g:zg->Int->Int->Bool×Int}(k:FK 228 (PO g u)):FK 228 (PO (Cj g) (TD g u)):=by
 refine dz (E:=VA g u) (zao g u) λx p o a C j=>?_
 unfold zlt at a;split at a
 .rename_i e d h n;simp only[Tr.val]at a;split at a
  .rename_i c;simp only[bG]at a;subst a;refine Reach.toBool ?_;refine zI (n0:=1) (D7 k) (zao g u) j (zxs g u e d n) ?_;generalize i:Cj g e d n=y;unfold Cj at i;unfold TD at c;repeat' (refine ot (λb=>?_) (λb=>?_)<;>first|(rw[zf b]at i c)|(rw[zh (oT b)]at i c))
   all_goals subst i
   .exact⟨rfl,rfl⟩
   .exact⟨rfl,rfl⟩
   .exact⟨rfl,rfl⟩
   .exact⟨rfl,rfl⟩
   .exact Reach.len 73 .expr e.l rfl λm=>zwi k j d e.l m _ 0 _ rfl (aG _) c
  .simp at a
 .simp at a
mutual
def jh:Nat->zg->Int->Int->Bool×Int
 |0=>λ_ _ _=>(S,0)
 |n+1=>Cj (jh n)
def xh:Nat->zg->Int->Int->Bool
 |0=>λ_ _ _=>S
 |n+1=>TD (jh n) (xh n)
end
theorem Xl:∀n,FK 228 (PO (jh n) (xh n))
 | 0=>by
  have h:FK 228 (bf [Q2,M .expr,M zk] (λ_ _=>.err)):=dz (zao (λ_ _ _=>(S,0)) (λ_ _ _=>S)) (E:=S6) λx c b a=>by simp at a
  refine Cr (ι:=Unit) (Gs:=λ_ _ _=>.err) (λ_=>h) λx c b a=>?_
  unfold zlt at a;split at a
  .simp[Tr.val,xh]at a
  .simp at a
 |n+1=>zkq (Xl n)
def F37:ag:=PO (jh 16) (xh 16)
theorem zqO:FK 228 F37:=Xl 16
def Ib:=S6.add 228 F37
theorem yU:zw Ib:=Ia.add zqO
end
end Cad
