/- Expressions: bounded ones; the same ones. Expressions: which may be. Expressions: their values. Expressions: may, bounded. Expressions: types and values. -/
import Derived.Test.YtjfdpfapcmcncaaGreatDoorL08
import Derived.Test.YtjfdpfapcmcncaaGreatDoorL05
import Derived.Test.YtjfdpfapcmcncaaGreatDoorL07
import Derived.Sort.Grow
import Derived.Deep.Draws
import Derived.Shelf.SlSortCmp.QuietGrown
import Derived.Shelf.GgClosure.StringsIndexFuncTop
import Derived.RegionTactic
import Derived.RegionCalls
import Derived.Deep.RegionWith
import Derived.StillTailTactics
namespace Cad
open Go Go.Proofs
open List renaming drop→Qh
open List renaming take→Qg
open AO renaming box→Qa
open Tr renaming val→Q8
open Sh renaming expr→Q5
open Bool renaming false→Q4
open Bool renaming true→Q3
open Option renaming none→Q2
open Option renaming some→Q1
open Decidable renaming decide→Q0
open Int (toNat)
open List (length)
open Tr (chk br re)
open AV (nils agg tup ptr kb str sl)
abbrev cpE:List CP:=[.d .expr]
abbrev zkb:List CP:=[.d .str,.d zg,.d zg,.d .str,.d .str,.vec .expr]
abbrev o8:List CP:=[.d .str,.d zg,.d zg,.d .str,.d .str,.nil]
noncomputable def JZ(g:Sem Q5->Sem zg->Sem zg->Sem Q5×Sem zg)(c:Sem Q5->Sem zg->Sem zg->Bool):bW:=Fo.add 21 (zN [Q5,zg,zg] [Q5,zg] (λx=>c x.1 x.2.1 x.2.2.1) λx=>((g x.1 x.2.1 x.2.2.1).1,(g x.1 x.2.1 x.2.2.1).2,()))
theorem QQ{g:Sem Q5->Sem zg->Sem zg->Sem Q5×Sem zg}{c:Sem Q5->Sem zg->Sem zg->Bool}(hg:FK 21 (zN [Q5,zg,zg] [Q5,zg] (λx=>c x.1 x.2.1 x.2.2.1) λx=>((g x.1 x.2.1 x.2.2.1).1,(g x.1 x.2.1 x.2.2.1).2,()))):zt (JZ g c):=qK.add hg
abbrev UT:Nat->aN:=λj=>if j=10 then{slots:=[1,2,3,6,8,9],prom:=[(8,Q1 5,Q5)]}else if j=500004 then{slots:=[1,2,3,6,8,30],cut:=Q3}else if j=500006 then{slots:=[1,2,3,6,8,39],cut:=Q3}else if j=500008 then{slots:=[1,2,3,6,8],cut:=Q3}else{ }
inductive Af where
 |h500004 (i1:Sem zg) (i2:Sem zg) (b30:Bool) (z0:zn cpE) (z1:zn o8) (z2:zn o8)
 |h500006 (i1:Sem zg) (i2:Sem zg) (b39:Bool) (z0:zn cpE) (z1:zn o8) (z2:zn o8)
 |h500008 (i1:Sem zg) (i2:Int) (z0:zn cpE) (z1:zn o8) (z2:zn o8)
 |h10 (i1:Sem zg) (i2:Int) (i9:Int) (z0:zn cpE) (z1:zn o8) (z2:zn zkb)
abbrev Tj:Af->Nat×St
 |.h500004 i1 i2 b30 z0 z1 z2=>(500004,⟨tm 88 [(1,ai i1),(2,ai i2),(3,ptr 0 0),(6,ptr 1 0),(8,ptr 2 0),(30,AV.bool b30)],[Qa (bF [] cpE z0),Qa (bF [] o8 z1),Qa (bF [] o8 z2)]⟩)
 |.h500006 i1 i2 b39 z0 z1 z2=>(500006,⟨tm 88 [(1,ai i1),(2,ai i2),(3,ptr 0 0),(6,ptr 1 0),(8,ptr 2 0),(39,AV.bool b39)],[Qa (bF [] cpE z0),Qa (bF [] o8 z1),Qa (bF [] o8 z2)]⟩)
 |.h500008 i1 i2 z0 z1 z2=>(500008,⟨tm 88 [(1,ai i1),(2,ai i2),(3,ptr 0 0),(6,ptr 1 0),(8,ptr 2 0)],[Qa (bF [] cpE z0),Qa (bF [] o8 z1),Qa (bF [] o8 z2)]⟩)
 |.h10 i1 i2 i9 z0 z1 z2=>(10,⟨tm 88 [(1,ai i1),(2,ai i2),(3,ptr 0 0),(6,ptr 1 0),(8,ptr 2 0),(9,ai i9)],[Qa (bF [] cpE z0),Qa (bF [] o8 z1),Qa (bF [3] zkb z2),AO.vec Q5 z2.t.2.1]⟩)
theorem zmZ(g:Sem Q5->Sem zg->Sem zg->Sem Q5×Sem zg)(c:Sem Q5->Sem zg->Sem zg->Bool):zI (JZ g c).P 21 Tryz.f21 3:=bR kw
def Uu(_:Sem Q5->Sem zg->Sem zg->Sem Q5×Sem zg)(_:Sem Q5->Sem zg->Sem zg->Bool)(x0:Sem Q5)(x1:Sem zg)(x2:Sem zg):Tr (Af⊕az):=
 let a0:=Q0 ((↑(length (ze.s x0)):Int)>20)
 let a1:=((ze.v x0).1,(ze.v x0).2.1,(ze.v x0).2.2,ze.s x0,())
 br (Q0 ((↑(length (ze.op x0)):Int)>8))
 (chk (Q0 (0<=0)&&Q0 (0<=8)&&Q0 (8<=(↑(length (ze.op x0)):Int)))
  (Tr.to (Af.h500004 x1 x2 a0 (x0,()) ([],0,0,[],[],()) (Qg (toNat 8-toNat 0) (Qh (toNat 0) (ze.op x0)),a1))))
 (Tr.to (Af.h500004 x1 x2 a0 (x0,()) ([],0,0,[],[],()) (ze.op x0,a1)))
theorem zkU(g:Sem Q5->Sem zg->Sem zg->Sem Q5×Sem zg)(c:Sem Q5->Sem zg->Sem zg->Bool)(x0:Sem Q5)(x1:Sem zg)(x2:Sem zg):rn (JZ g c) 0 UT Tryz.f21 [zz Q5 x0,zz zg x1,zz zg x2] []=(Uu g c x0 x1 x2).map (lf Tryz.f21 Tj):=kw
def wq(g:Sem Q5->Sem zg->Sem zg->Sem Q5×Sem zg)(c:Sem Q5->Sem zg->Sem zg->Bool):Af->Tr (Af⊕az)
 | .h500004 i1 i2 b30 z0 z1 z2=>
  let a0:=(↑(length z2.t.1):Int)
  let a1:=(↑(length z2.2.2.2.1):Int)
  let a2:=Q0 (a1>45)
  br b30
  (chk (Q0 (0<=0)&&Q0 (0<=20)&&Q0 (20<=a0)) (Tr.to (Af.h500006 i1 i2 a2 z0 z1 (z2.1,z2.2.1,z2.2.2.1,z2.2.2.2.1,Qg (toNat 20-toNat 0) (Qh (toNat 0) z2.t.1),()))))
  (Tr.to (Af.h500006 i1 i2 a2 z0 z1 z2))
 | .h500006 i1 i2 b39 z0 z1 z2=>
  let a0:=(↑(length z2.2.2.2.1):Int)
  let a1:=IntKind.i64.wrap (i2-1)
  br b39
  (chk (Q0 (0<=0)&&Q0 (0<=45)&&Q0 (45<=a0)) (Tr.to (Af.h500008 i1 a1 z0 z1 (z2.1,z2.2.1,z2.2.2.1,Qg (toNat 45-toNat 0) (Qh (toNat 0) z2.2.2.2.1),z2.t))))
  (Tr.to (Af.h500008 i1 a1 z0 z1 z2))
 | .h500008 i1 i2 z0 z1 z2=>
  Tr.to (Af.h10 i1 i2 0 z0 z1 (z2.1,z2.2.1,z2.2.2.1,z2.2.2.2.1,z2.t.1,[],()))
 | .h10 i1 i2 i9 z0 z1 z2=>
  let a0:=(↑(ze.l z0.1).length:Int)
  let a1:=zm ((ze.l z0.1).getD i9.toNat (zj Q5))
  let a2:=IntKind.i64.wrap (i1-1)
  let a3:=g a1 a2 i2
  let a4:=[zm a3.1]
  br (bif Q0 (i9<a0)then bif Q0 (i9<3)then bif Q0 (i1>0)then Q0 (i2>0)else Q4 else Q4 else Q4)
  (chk (zO i9 (ze.l z0.1).length) (chk (c a1 a2 i2) (chk (Q0 (z2.t.2.1.length+a4.length<=1073741824)) (Tr.to (Af.h10 i1 a3.2 (IntKind.i64.wrap (i9+1)) z0 z1 (z2.1,z2.2.1,z2.2.2.1,z2.2.2.2.1,z2.t.1,z2.t.2.1++a4,()))))))
  (re (tup [agg [str z2.1,ai z2.2.1,ai z2.2.2.1,str z2.2.2.2.1,str z2.t.1,AV.vec 0],ai i2]) [AO.vec Q5 z2.t.2.1])
theorem zno(g:Sem Q5->Sem zg->Sem zg->Sem Q5×Sem zg)(c:Sem Q5->Sem zg->Sem zg->Bool):∀s,run (JZ g c) 0 UT (Func.results Tryz.f21).toList 400 (ac Tryz.f21 (Tj s).1) (Tj s).2=(wq g c s).map (lf Tryz.f21 Tj):=by intro s;cases s<;>kernel_rfl
def JX(o:Option (zx (List.map Q1 [Q5,zg]))):Sem Q5×Sem zg:=(λr:zx (List.map Q1 [Q5,zg])=>(r.1,r.2.1)) (o.getD (cm [Q5,zg]))
def zkt(g:Sem Q5->Sem zg->Sem zg->Sem Q5×Sem zg)(c:Sem Q5->Sem zg->Sem zg->Bool)(x0:Sem Q5)(x1:Sem zg)(x2:Sem zg):Option (zx (List.map Q1 [Q5,zg])):=ah [Q5,zg] (wq g c) 100000000 (Uu g c x0 x1 x2)
def o9:Nat->Sem Q5->Sem zg->Sem zg->Option (zx (List.map Q1 [Q5,zg]))
 |0=>λ_ _ _=>Q2
 |n+1=>zkt (λx0 x1 x2=>JX (o9 n x0 x1 x2)) λx0 x1 x2=>(o9 n x0 x1 x2).isSome
theorem zfT:zI Fo.P 21 Tryz.f21 3:=bR kw
theorem N9:∀n,FK 21 (zN [Q5,zg,zg] [Q5,zg] (λx=>(o9 n x.1 x.2.1 x.2.2.1).isSome) λx=>((JX (o9 n x.1 x.2.1 x.2.2.1)).1,(JX (o9 n x.1 x.2.1 x.2.2.1)).2,()))
 |0=>eY ⟨Tryz.f21,zfT.1,zfT.2.1,zfT.2.2.1⟩ (λ_=>rfl)
 |n+1=>kK (E:=JZ (λx0 x1 x2=>JX (o9 n x0 x1 x2)) (λx0 x1 x2=>(o9 n x0 x1 x2).isSome)) (ks:=[Q5,zg,zg]) (outs:=[Q5,zg]) (keep:=UT) (gas:=400) (n:=100000000) (e:=Tj) (t:=wq (λx0 x1 x2=>JX (o9 n x0 x1 x2)) (λx0 x1 x2=>(o9 n x0 x1 x2).isSome)) (i:=λx=>Uu (λx0 x1 x2=>JX (o9 n x0 x1 x2)) (λx0 x1 x2=>(o9 n x0 x1 x2).isSome) x.1 x.2.1 x.2.2.1) (QQ (N9 n)) (zmZ _ _) (λx=>zkU _ _ x.1 x.2.1 x.2.2.1) (zno _ _) (λ_=>by kernel_rfl) (λ_=>by kernel_rfl)
def sj(N:Nat)(e:Sem Q5)(d n:Sem zg):Sem Q5×Sem zg:=JX (o9 N e d n)
def Kk(N:Nat)(e:Sem Q5)(d n:Sem zg):Bool:=(o9 N e d n).isSome
def F15:zV:=zN [Q5,zg,zg] [Q5,zg] (λx=>Kk 16 x.1 x.2.1 x.2.2.1) λx=>((sj 16 x.1 x.2.1 x.2.2.1).1,(sj 16 x.1 x.2.1 x.2.2.1).2,())
theorem ziN:FK 21 F15:=N9 16
def Y6(g:ze->ze->Bool):List ze->List ze->Bool
 |x::r,y::s=>if(!g x y)=Q3 then Q4 else Y6 g r s
 |_,_=>Q3
def Rb(g c:ze->ze->Bool):List ze->List ze->Bool
 |x::r,y::s=>if c x y=Q3 then(if(!g x y)=Q3 then Q3 else Rb g c r s)else Q4
 |_,_=>Q3
noncomputable def QO(g c:ze->ze->Bool):bW:=Fo.add 168 (zN [.expr,.expr] [.bool] (λx=>c x.1 x.2.1) (λx=>(g x.1 x.2.1,())))
theorem Cc{g c:ze->ze->Bool}(hg:FK 168 (zN [.expr,.expr] [.bool] (λx=>c x.1 x.2.1) (λx=>(g x.1 x.2.1,())))):zt (QO g c):=qK.add hg
abbrev zlM:Nat->aN:=λj=>if j=4 then{slots:=[1,2,15,16,17]}else{ }
abbrev PE(l1:List ze)(l15:List ze)(i16:Int)(i17:Int):St:={tmps:=(tm 32 [(1,sl Q5 l1),(2,AV.clo (Fn.func 168) [] []),(15,sl Q5 l15),(16,ai i16),(17,ai i17)]),heap:=[]}
theorem ZJ(g c:ze->ze->Bool):zI (QO g c).P 207 Tryz.f207 3:=bR kw
theorem zpe(g c:ze->ze->Bool)(l:List ze)(m:List ze):rn (QO g c) 0 zlM Tryz.f207 [sl Q5 l,sl Q5 m,AV.clo (Fn.func 168) [] []] []=br ((↑l.length:Int)!=(↑m.length:Int)) (Tr.ok (zD.ret (kb Q4) [])) (Tr.ok (zD.head 4 (ac Tryz.f207 4) (PE m l (↑l.length:Int) 0))):=kw
theorem VJ(g c:ze->ze->Bool)(l1:List ze)(l15:List ze)(i16:Int)(i17:Int):rh (QO g c) 0 zlM Tryz.f207 4 (PE l1 l15 i16 i17)=br (Q0 (i17<i16)) (chk (zO i17 l15.length) (chk (zO i17 l1.length) (chk (c (zm (l15.getD i17.toNat (zj Q5))) (zm (l1.getD i17.toNat (zj Q5)))) (br (!g (zm (l15.getD i17.toNat (zj Q5))) (zm (l1.getD i17.toNat (zj Q5)))) (Tr.ok (zD.ret (kb Q4) [])) (Tr.ok (zD.head 4 (ac Tryz.f207 4) (PE l1 l15 i16 (IntKind.i64.wrap (i17+1))))))))) (Tr.ok (zD.ret (kb Q3) [])):=kw
theorem zn6{g c:ze->ze->Bool}(hg:FK 168 (zN [.expr,.expr] [.bool] (λx=>c x.1 x.2.1) (λx=>(g x.1 x.2.1,())))){C:fh}(hC:∀id,0<=id->C.ρ0 id=Q2)(l m:List ze)(hlm:l.length=m.length)(hl:l.length<=aF):
  ∀(k i:Nat),l.length-i=k->i<=l.length->Rb g c (l.drop i) (m.drop i)=Q3->Reach (QO g c) C 207 (ac Tryz.f207 4) (PE m l l.length i) (λr h=>(r,h)=(.kb (Y6 g (l.drop i) (m.drop i)),[])):=by
 intro k
 induction k with
 | zero=>
  intro i hk hi hc;obtain rfl:i=l.length:=by omega
  refine zE (Cc hg) (ZJ g c) hC (VJ g c _ _ _ _) ?_;simp only[zC,Tr.val_brF,jH];rfl
 | succ k IH=>
  intro i hk hi hc;have hlt:i<l.length:=by omega
  have hlt':i<m.length:=by omega
  refine zE (Cc hg) (ZJ g c) hC (VJ g c _ _ _ _) ?_;rw[fH hlt,fH hlt']at hc⊢;rw[Rb]at hc;have hc1:=qU hc;simp only[zJ hlt,zw hlt,zw hlt',cI l _ hlt,cI m _ hlt',ze.eta,Tr.val_brT,Tr.val_chkT,hc1.1,zr i ow];refine mB (λh=>?_) (λh=>?_)
  ·rw[Y6,if_pos h];rfl
  ·rw[Y6,if_neg (mV h)];have h2:=hc1.2;rw[if_neg (mV h)]at h2;exact IH (i+1) ow ow h2
def MH(g:ze->ze->Bool)(l m:List ze):Bool:=if((↑l.length:Int)!=(↑m.length:Int))=Q3 then Q4 else Y6 g l m
def yG(g c:ze->ze->Bool)(l m:List ze):Bool:=if((↑l.length:Int)!=(↑m.length:Int))=Q3 then Q3 else Rb g c l m
def G50(g c:ze->ze->Bool):iV [Q1 (.sl .expr),Q1 (.sl .expr),Q2]:=λx h=>match x,h with
 |(l,m,.clo (.func 168) [] [],_),[]=>.chk (yG g c l m) (.ok (.bool (MH g l m),[]))
 |_,_=>.err
def F50(g c:ze->ze->Bool):zV:=bh [Q1 (.sl .expr),Q1 (.sl .expr),Q2] (G50 g c)
theorem Reach.weaken{E:bW}{C:fh}{fn:FuncId}{todo:List Item}{st:St}{Q Q':AV->List AO->Prop}(h:Reach E C fn todo st Q)(hq:∀r h,Q r h->∃r',Q' r' h/\∀w U ρ v,Rv w U ρ r v->Rv w U ρ r' v):Reach E C fn todo st Q':=by
 intro b cs a w U ρ h1 h2 hc hW;obtain⟨e,w',fr,⟨v,r,h',U',ρ',he,hq1,hrv,hrest⟩,hcm⟩:=h b cs a w U ρ h1 h2 hc hW;obtain⟨r',hq2,hrr⟩:=hq r h' hq1;exact⟨e,w',fr,⟨v,r',h',U',ρ',he,hq2,hrr _ _ _ _ hrv,hrest⟩,hcm⟩
theorem zjg{g c:ze->ze->Bool}(hg:FK 168 (zN [.expr,.expr] [.bool] (λx=>c x.1 x.2.1) (λx=>(g x.1 x.2.1,())))):FK 207 (F50 g c):=by
 refine dR (E:=QO g c) (ZJ g c) λx h0 res hx C hC=>?_
 unfold G50 at hx;split at hx
 ·rename_i l m u;simp only[Q8]at hx;split at hx
  ·rename_i hc;simp only[bB]at hx;subst hx;refine Reach.len 0 .expr l rfl λhl=>?_
   refine Reach.weaken (Q:=λr h=>(r,h)=(.kb (MH g l m),[])) ?_ ?_
   ·refine zE (n0:=0) (Cc hg) (ZJ g c) hC (zpe g c l m) ?_;unfold yG at hc;unfold MH;refine mB (λh=>?_) (λh=>?_)
    ·rw[if_pos h];rfl
    ·rw[if_neg (mV h)]at hc⊢;have:(l.length:Int)=m.length:=by simpa using h
     have:l.length=m.length:=by omega
     exact zn6 hg hC l m this hl _ 0 rfl (aY _) hc
   ·rintro r h hq;cases hq;refine⟨_,rfl,λw U ρ v hv=>?_⟩;cases hv;exact .bool _
  ·simp at hx
 ·simp at hx
noncomputable def Y3(g c:ze->ze->Bool):bW:=Fo.add 207 (F50 g c)
theorem Tq{g c:ze->ze->Bool}(hg:FK 168 (zN [.expr,.expr] [.bool] (λx=>c x.1 x.2.1) (λx=>(g x.1 x.2.1,())))):zt (Y3 g c):=qK.add (zjg hg)
def Xe(a b:V):Bool:=a.1==b.1&&(a.2.1==b.2.1&&(a.2.2==b.2.2&&Q3))
def LG(g:ze->ze->Bool)(a b:ze):Bool:=bif a.op==b.op then bif Xe a.v b.v then bif a.s==b.s then MH g a.l b.l else Q4 else Q4 else Q4
def IM(g c:ze->ze->Bool)(a b:ze):Bool:=bif a.op==b.op then bif Xe a.v b.v then bif a.s==b.s then yG g c a.l b.l else Q3 else Q3 else Q3
theorem Vz(g c:ze->ze->Bool):zI (Y3 g c).P 168 Tryz.f168 2:=bR kw
theorem zoV(g c:ze->ze->Bool)(l:ze)(m:ze):rn (Y3 g c) 0 (λ_=>{}) Tryz.f168 [zz Q5 l,zz Q5 m] []=chk (IM g c l m) (Tr.ok (zD.ret (AV.bool (LG g l m)) [])):=kw
theorem zdD{g c:ze->ze->Bool}(hg:FK 168 (zN [.expr,.expr] [.bool] (λx=>c x.1 x.2.1) (λx=>(g x.1 x.2.1,())))):FK 168 (zN [.expr,.expr] [.bool] (λx=>IM g c x.1 x.2.1) (λx=>(LG g x.1 x.2.1,()))):=by
 refine aJ (E:=Y3 g c) (Vz g c) λx hx C hC=>?_
 refine zE (n0:=0) (Tq hg) (Vz g c) (λid _=>hC id) (zoV g c x.1 x.2.1) ?_;exact mC hx rfl
mutual
def fF:Nat->ze->ze->Bool
 |0=>λ_ _=>Q4
 |n+1=>LG (fF n)
def ju:Nat->ze->ze->Bool
 |0=>λ_ _=>Q4
 |n+1=>IM (fF n) (ju n)
end
theorem Sq:∀n,FK 168 (zN [.expr,.expr] [.bool] (λx=>ju n x.1 x.2.1) (λx=>(fF n x.1 x.2.1,())))
 |0=>eY ⟨Tryz.f168,(Vz (λ_ _=>Q4) (λ_ _=>Q4)).1,(Vz (λ_ _=>Q4) (λ_ _=>Q4)).2.1,(Vz (λ_ _=>Q4) (λ_ _=>Q4)).2.2.1⟩ (λ_=>rfl)
 |n+1=>zdD (Sq n)
def F29:zV:=zN [.expr,.expr] [.bool] (λx=>ju 16 x.1 x.2.1) (λx=>(fF 16 x.1 x.2.1,()))
theorem ziX:FK 168 F29:=Sq 16
noncomputable def Ow:=Fo.addL [(21,F15),(168,F29)]
theorem Fp:zt Ow:=qK.addL<|fc ziN<|fc ziX ja
def aQ(v:V):Bool:=v.1==0&&(v.2.1==0&&(v.2.2==[]&&Q3))
def avB:AV->Option Bool
 |.bool b=>Q1 b
 |.kb b=>Q1 b
 |_=>Q2
theorem Reach.toBool{E:bW}{C:fh}{fn:FuncId}{todo:List Item}{st:St}{b:Bool}{hp:List AO}(h:Reach E C fn todo st (λr h=>avB r=Q1 b/\h=hp)):Reach E C fn todo st (λr h=>(r,h)=(.bool b,hp)):=by
 refine h.weaken λr h' hq=>?_
 obtain⟨h1,rfl⟩:=hq;refine⟨.bool b,rfl,λw U ρ v hv=>?_⟩;cases r<;>simp[avB]at h1<;>subst h1<;>cases hv<;>exact .bool _
def zeJ(g:ze->Int->Int->Bool×Int)(c:ze->Int->Int->Bool):iV [Q2,Q1 .expr,Q1 zg]:=λx h=>match x,h with
 |(.ptr 0 0,e,d,_),[.box [.int .i64 n]]=>.chk (c e d n) (.ok (.bool (g e d n).1,[.box [.int .i64 (g e d n).2]]))
 |_,_=>.err
def L7(g:ze->Int->Int->Bool×Int)(c:ze->Int->Int->Bool):zV:=bh [Q2,Q1 .expr,Q1 zg] (zeJ g c)
noncomputable def QN(g:ze->Int->Int->Bool×Int)(c:ze->Int->Int->Bool):bW:=Ow.add 80 (L7 g c)
theorem Cb{g:ze->Int->Int->Bool×Int}{c:ze->Int->Int->Bool}(hg:FK 80 (L7 g c)):zt (QN g c):=Fp.add hg
abbrev zlG:Nat->aN:=λj=>if j=12 then{slots:=[0,2,73,74,75]}else{ }
abbrev IJ(i2:Int)(l73:LX)(i74:Int)(i75:Int)(ja0:Int):St:={tmps:=(tm 86 [(0,ptr 0 0),(2,ai i2),(73,sl Q5 l73),(74,ai i74),(75,ai i75)]),heap:=[Qa [ai ja0]]}
theorem VA(g:ze->Int->Int->Bool×Int)(c:ze->Int->Int->Bool):zI (QN g c).P 80 Tryz.f80 3:=bR kw
theorem zo1(g:ze->Int->Int->Bool×Int)(c:ze->Int->Int->Bool)(e:ze)(d:Int)(n:Int):rn (QN g c) 1 zlG Tryz.f80 [ptr 0 0,zz Q5 e,ai d] [Qa [ai n]]=br (bif Q0 (d>12)then Q3 else bif Q0 (IntKind.i64.wrap (n+1)>60)then Q3 else(↑e.l.length:Int)!=cR e.op) (Tr.ok (zD.ret (kb Q4) [Qa [ai (IntKind.i64.wrap (n+1))]])) (br (e.op==mH) (Tr.ok (zD.ret (AV.bool (bif e.s==[]then bg e.v else Q4)) [Qa [ai (IntKind.i64.wrap (n+1))]])) (br (e.op==ee) (Tr.ok (zD.ret (AV.bool (bif aQ e.v then bif eb e.s then !jr e.s else Q4 else Q4)) [Qa [ai (IntKind.i64.wrap (n+1))]])) (br (bif !aQ e.v then Q3 else !e.s==[]) (Tr.ok (zD.ret (kb Q4) [Qa [ai (IntKind.i64.wrap (n+1))]])) (Tr.ok (zD.head 12 (ac Tryz.f80 12) (IJ d e.l (↑e.l.length:Int) 0 (IntKind.i64.wrap (n+1)))))))):=kw
theorem O7(g:ze->Int->Int->Bool×Int)(c:ze->Int->Int->Bool)(i2:Int)(l73:LX)(i74:Int)(i75:Int)(ja0:Int):rh (QN g c) 1 zlG Tryz.f80 12 (IJ i2 l73 i74 i75 ja0)=br (Q0 (i75<i74)) (chk (zO i75 l73.length) (chk (c (zm (l73.getD i75.toNat (zj Q5))) (IntKind.i64.wrap (i2+1)) ja0) (br (!(g (zm (l73.getD i75.toNat (zj Q5))) (IntKind.i64.wrap (i2+1)) ja0).1) (Tr.ok (zD.ret (kb Q4) [Qa [AV.int IntKind.i64 (g (zm (l73.getD i75.toNat (zj Q5))) (IntKind.i64.wrap (i2+1)) ja0).2]])) (Tr.ok (zD.head 12 (ac Tryz.f80 12) (IJ i2 l73 i74 (IntKind.i64.wrap (i75+1)) (g (zm (l73.getD i75.toNat (zj Q5))) (IntKind.i64.wrap (i2+1)) ja0).2)))))) (Tr.ok (zD.ret (kb Q3) [Qa [ai ja0]])):=kw
def pd(g:ze->Int->Int->Bool×Int)(d:Int):List ze->Int->Bool×Int
 |[],n=>(Q3,n)
 |x::r,n=>if(!(g x (IntKind.i64.wrap (d+1)) n).1)=Q3 then(Q4,(g x (IntKind.i64.wrap (d+1)) n).2)else pd g d r (g x (IntKind.i64.wrap (d+1)) n).2
def CW(g:ze->Int->Int->Bool×Int)(c:ze->Int->Int->Bool)(d:Int):List ze->Int->Bool
 |[],_=>Q3
 |x::r,n=>if c x (IntKind.i64.wrap (d+1)) n=Q3 then(if(!(g x (IntKind.i64.wrap (d+1)) n).1)=Q3 then Q3 else CW g c d r (g x (IntKind.i64.wrap (d+1)) n).2)else Q4
theorem zn5{g:ze->Int->Int->Bool×Int}{c:ze->Int->Int->Bool}(hg:FK 80 (L7 g c)){C:fh}(hC:∀id,1<=id->C.ρ0 id=Q2)(d:Int)(l:List ze)(hl:l.length<=aF):
  ∀(k i:Nat)(n:Int),l.length-i=k->i<=l.length->CW g c d (l.drop i) n=Q3->Reach (QN g c) C 80 (ac Tryz.f80 12) (IJ d l l.length i n) (λr h=>avB r=Q1 (pd g d (l.drop i) n).1/\h=[.box [.int .i64 (pd g d (l.drop i) n).2]]):=by
 intro k
 induction k with
 | zero=>
  intro i n hk hi hc;obtain rfl:i=l.length:=by omega
  refine zE (Cb hg) (VA g c) hC (O7 g c _ _ _ _ _) ?_;simp only[zC,Tr.val_brF,jH];exact⟨rfl,rfl⟩
 | succ k IH=>
  intro i n hk hi hc;have hlt:i<l.length:=by omega
  refine zE (Cb hg) (VA g c) hC (O7 g c _ _ _ _ _) ?_;rw[fH hlt]at hc⊢;rw[CW]at hc;have hc1:=qU hc;simp only[zJ hlt,zw hlt,cI l _ hlt,ze.eta,Tr.val_brT,Tr.val_chkT,hc1.1,zr i ow];refine mB (λh=>?_) (λh=>?_)
  ·rw[pd,if_pos h];exact⟨rfl,rfl⟩
  ·rw[pd,if_neg (mV h)];have h2:=hc1.2;rw[if_neg (mV h)]at h2;exact IH (i+1) _ ow ow h2
def Aq(g:ze->Int->Int->Bool×Int)(e:ze)(d n:Int):Bool×Int:=if(bif Q0 (d>12)then Q3 else bif Q0 (IntKind.i64.wrap (n+1)>60)then Q3 else(↑e.l.length:Int)!=cR e.op)=Q3 then(Q4,IntKind.i64.wrap (n+1))else if(e.op==mH)=Q3 then(bif e.s==[]then bg e.v else Q4,IntKind.i64.wrap (n+1))else if(e.op==ee)=Q3 then(bif aQ e.v then bif eb e.s then !jr e.s else Q4 else Q4,IntKind.i64.wrap (n+1))else if(bif !aQ e.v then Q3 else !e.s==[])=Q3 then(Q4,IntKind.i64.wrap (n+1))else pd g d e.l (IntKind.i64.wrap (n+1))
def OW(g:ze->Int->Int->Bool×Int)(c:ze->Int->Int->Bool)(e:ze)(d n:Int):Bool:=if(bif Q0 (d>12)then Q3 else bif Q0 (IntKind.i64.wrap (n+1)>60)then Q3 else(↑e.l.length:Int)!=cR e.op)=Q3 then Q3 else if(e.op==mH)=Q3 then Q3 else if(e.op==ee)=Q3 then Q3 else if(bif !aQ e.v then Q3 else !e.s==[])=Q3 then Q3 else CW g c d e.l (IntKind.i64.wrap (n+1))
theorem zdQ{g:ze->Int->Int->Bool×Int}{c:ze->Int->Int->Bool}(hg:FK 80 (L7 g c)):FK 80 (L7 (Aq g) (OW g c)):=by
 refine dR (E:=QN g c) (VA g c) λx h0 res hx C hC=>?_
 unfold zeJ at hx;split at hx
 ·rename_i e d u n;simp only[Q8]at hx;split at hx
  ·rename_i hc;simp only[bB]at hx;subst hx;refine Reach.toBool ?_;refine zE (n0:=1) (Cb hg) (VA g c) hC (zo1 g c e d n) ?_;generalize hy:Aq g e d n=y;unfold Aq at hy;unfold OW at hc;repeat' (refine mB (λhsp=>?_) (λhsp=>?_)<;>first|(rw[if_pos hsp]at hy hc)|(rw[if_neg (mV hsp)]at hy hc))
   all_goals subst hy
   ·exact⟨rfl,rfl⟩
   ·exact⟨rfl,rfl⟩
   ·exact⟨rfl,rfl⟩
   ·exact⟨rfl,rfl⟩
   ·exact Reach.len 73 .expr e.l rfl λhl=>zn5 hg hC d e.l hl _ 0 _ rfl (aY _) hc
  ·simp at hx
 ·simp at hx
mutual
def iw:Nat->ze->Int->Int->Bool×Int
 |0=>λ_ _ _=>(Q4,0)
 |n+1=>Aq (iw n)
def uZ:Nat->ze->Int->Int->Bool
 |0=>λ_ _ _=>Q4
 |n+1=>OW (iw n) (uZ n)
end
theorem Sr:∀n,FK 80 (L7 (iw n) (uZ n))
 | 0=>by
  have h:FK 80 (bh [Q2,Q1 .expr,Q1 zg] (λ_ _=>.err)):=dR (VA (λ_ _ _=>(Q4,0)) (λ_ _ _=>Q4)) (E:=Ow) λx h0 res hx=>by simp at hx
  refine Av (ι:=Unit) (Gs:=λ_ _ _=>.err) (λ_=>h) λx h0 res hx=>?_
  unfold zeJ at hx;split at hx
  ·simp[Q8,uZ]at hx
  ·simp at hx
 |n+1=>zdQ (Sr n)
def F37:zV:=L7 (iw 16) (uZ 16)
theorem zi2:FK 80 F37:=Sr 16
noncomputable def Fq:=Ow.add 80 F37
theorem wV:zt Fq:=Fp.add zi2
abbrev iZ:List (zB×AV):=[(cY,.clo (.func 317) [] []),(uw,.clo (.func 318) [] []),(mI,.clo (.func 319) [] []),([61],.clo (.func 321) [] []),([60],.clo (.func 322) [] []),([43],.clo (.func 323) [] []),([45],.clo (.func 324) [] []),(oP,.clo (.func 325) [] [])]
abbrev zpR:Nat->aN:=λ_=>{ }
theorem zmq:zI Fq.P 293 Tryz.f293 0:=bR kw
theorem zoS:(run Fq 0 zpR (Func.results Tryz.f293).toList 400 (bw Tryz.f293) (bd (Func.ntmps Tryz.f293) [] [])).val=Q1 (zD.ret (AV.mp 0) [AO.fmap iZ]):=kw
def G23:iV []:=λ_ h=>match h with
 |[]=>.ok (.mp 0,[.fmap iZ])
 |_=>.err
def F23:zV:=bh [] G23
theorem ziS:FK 293 F23:=by
 refine dR zmq λx h0 res hx C hC=>?_
 unfold G23 at hx;split at hx
 ·simp only[Q8,bB]at hx;subst hx;exact ng (n0:=0) wV zmq hC zoS rfl
 ·simp at hx
def opV(op:zB)(x y:V):V:=if(op==cY)=Q3 then ET x y else if(op==uw)=Q3 then Xf x y else if(op==mI)=Q3 then PT x y else if(op==[61])=Q3 then mv x y else if(op==[60])=Q3 then sV x y else if(op==[43])=Q3 then sW x y else if(op==[45])=Q3 then mw x y else if(op==oP)=Q3 then Jf x y else(0,0,[])
def opC(op:zB):Bool:=if(op==cY)=Q3 then Q3 else if(op==uw)=Q3 then Q3 else if(op==mI)=Q3 then Q3 else if(op==[61])=Q3 then Q3 else if(op==[60])=Q3 then Q3 else if(op==[43])=Q3 then Q3 else if(op==[45])=Q3 then Q3 else if(op==oP)=Q3 then Q3 else Q4
def opL(op:zB)(x y:V)(h:List AO):Option zD:=if(op==cY)=Q3 then Q1 (.ret (zz zf (ET x y)) h)else if(op==uw)=Q3 then Q1 (.ret (zz zf (Xf x y)) h)else if(op==mI)=Q3 then Q1 (.ret (zz zf (PT x y)) h)else if(op==[61])=Q3 then Q1 (.ret (zz zf (mv x y)) h)else if(op==[60])=Q3 then Q1 (.ret (zz zf (sV x y)) h)else if(op==[43])=Q3 then Q1 (.ret (zz zf (sW x y)) h)else if(op==[45])=Q3 then Q1 (.ret (zz zf (mw x y)) h)else if(op==oP)=Q3 then Q1 (.ret (zz zf (Jf x y)) h)else Q2
def zeI(g:List (Sem zi)->List (Sem zf)->ze->V)(c:List (Sem zi)->List (Sem zf)->ze->Bool):iV [Q2,Q1 .expr]:=λx h=>match x,h with
 | (.agg [.sl (.pr .str (.pr (.int .i64) .bool)) cols,.sl (.pr (.int .i64) (.pr (.int .i64) .str)) row,.mp 0],e,_),[.fmap [(k1,.clo (.func 317) [] []),(k2,.clo (.func 318) [] []),(k3,.clo (.func 319) [] []),(k4,.clo (.func 321) [] []),(k5,.clo (.func 322) [] []),(k6,.clo (.func 323) [] []),(k7,.clo (.func 324) [] []),(k8,.clo (.func 325) [] [])]]=>
  .chk (k1==cY&&(k2==uw&&(k3==mI&&(k4==[61]&&(k5==[60]&&(k6==[43]&&(k7==[45]&&(k8==oP)))))))) (.chk (c cols row e) (.ok (zz zf (g cols row e),[.fmap iZ])))
 |_,_=>.err
def PX(g:List (Sem zi)->List (Sem zf)->ze->V)(c:List (Sem zi)->List (Sem zf)->ze->Bool):zV:=bh [Q2,Q1 .expr] (zeI g c)
noncomputable def QL(g:List (Sem zi)->List (Sem zf)->ze->V)(c:List (Sem zi)->List (Sem zf)->ze->Bool):bW:=Fq.add 294 (PX g c)
theorem B9{g:List (Sem zi)->List (Sem zf)->ze->V}{c:List (Sem zi)->List (Sem zf)->ze->Bool}(hg:FK 294 (PX g c)):zt (QL g c):=wV.add hg
theorem Vx(g:List (Sem zi)->List (Sem zf)->ze->V)(c:List (Sem zi)->List (Sem zf)->ze->Bool):zI (QL g c).P 294 Tryz.f294 2:=bR kw
theorem zfz(g:List (Sem zi)->List (Sem zf)->ze->V)(c:List (Sem zi)->List (Sem zf)->ze->Bool)(cols:LC)(row:LV)(op:zB)(v:V)(s:zB):(run (QL g c) 1 unr (Func.results Tryz.f294).toList 600 (bw Tryz.f294) (bd (Func.ntmps Tryz.f294) [agg [sl zi cols,sl zf row,AV.mp 0],zz Q5 (.mk op v s [])] [AO.fmap iZ])).val=if(op==mH)=Q3 then Q1 (.ret (zz zf v) [.fmap iZ])else if(op==ee)=Q3 then(if(bif Q0 (ag cols s<0)then Q3 else Q0 (ag cols s>=(↑row.length:Int)))=Q3 then Q1 (.ret (zz zf (0,0,[])) [.fmap iZ])else if zO (ag cols s) row.length=Q3 then Q1 (.ret (zz zf (row.getD (toNat (ag cols s)) (zj zf))) [.fmap iZ])else Q2)else opL op (0,0,[]) (0,0,[]) [.fmap iZ]:=kw
theorem zfA(g:List (Sem zi)->List (Sem zf)->ze->V)(c:List (Sem zi)->List (Sem zf)->ze->Bool)(cols:LC)(row:LV)(op:zB)(v:V)(s:zB)(a:ze):(run (QL g c) 1 unr (Func.results Tryz.f294).toList 600 (bw Tryz.f294) (bd (Func.ntmps Tryz.f294) [agg [sl zi cols,sl zf row,AV.mp 0],zz Q5 (.mk op v s [a])] [AO.fmap iZ])).val=if(op==mH)=Q3 then Q1 (.ret (zz zf v) [.fmap iZ])else if(op==ee)=Q3 then(if(bif Q0 (ag cols s<0)then Q3 else Q0 (ag cols s>=(↑row.length:Int)))=Q3 then Q1 (.ret (zz zf (0,0,[])) [.fmap iZ])else if zO (ag cols s) row.length=Q3 then Q1 (.ret (zz zf (row.getD (toNat (ag cols s)) (zj zf))) [.fmap iZ])else Q2)else if c cols row (.mk a.op a.v a.s a.l)=Q3 then opL op (g cols row (.mk a.op a.v a.s a.l)) (0,0,[]) [.fmap iZ]else Q2:=kw
theorem zfB(g:List (Sem zi)->List (Sem zf)->ze->V)(c:List (Sem zi)->List (Sem zf)->ze->Bool)(cols:LC)(row:LV)(op:zB)(v:V)(s:zB)(a b:ze):(run (QL g c) 1 unr (Func.results Tryz.f294).toList 600 (bw Tryz.f294) (bd (Func.ntmps Tryz.f294) [agg [sl zi cols,sl zf row,AV.mp 0],zz Q5 (.mk op v s [a,b])] [AO.fmap iZ])).val=if(op==mH)=Q3 then Q1 (.ret (zz zf v) [.fmap iZ])else if(op==ee)=Q3 then(if(bif Q0 (ag cols s<0)then Q3 else Q0 (ag cols s>=(↑row.length:Int)))=Q3 then Q1 (.ret (zz zf (0,0,[])) [.fmap iZ])else if zO (ag cols s) row.length=Q3 then Q1 (.ret (zz zf (row.getD (toNat (ag cols s)) (zj zf))) [.fmap iZ])else Q2)else if c cols row (.mk a.op a.v a.s a.l)=Q3 then(if c cols row (.mk b.op b.v b.s b.l)=Q3 then opL op (g cols row (.mk a.op a.v a.s a.l)) (g cols row (.mk b.op b.v b.s b.l)) [.fmap iZ]else Q2)else Q2:=kw
theorem qG{Φ:zD->Prop}{c:Bool}{a b:Option zD}(h1:c=Q3->gC Φ a)(h2:c=Q4->gC Φ b):gC Φ (if c=Q3 then a else b):=by
 cases c
 ·simpa using h2 rfl
 ·simpa using h1 rfl
theorem xT{E:bW}{C:fh}{k:FuncId}{f:Func}{Q:AV->List AO->Prop}{n n0:Nat}(hE:zt E)(hf:zI E.P k f n)(hC:∀id,n0<=id->C.ρ0 id=Q2){keep:Nat->aN}{fuel:Nat}
  {todo:List Item} {st:St} {o:Option zD} (ht:(run E n0 keep f.results.toList fuel todo st).val=o) (h:gC (jX E C k Q) o):Reach E C k todo st Q:=
 zE hE hf hC rfl (by rw[ht];exact h)
theorem xF{E:bW}{C:fh}{op:zB}{x y:V}{h:List AO}(hc:opC op=Q3):gC (jX E C 294 (λr h'=>(r,h')=(zz zf (opV op x y),h))) (opL op x y h):=by
 generalize hy:opV op x y=z;unfold opC at hc;unfold opV at hy;unfold opL;repeat' (refine qG (λhsp=>?_) (λhsp=>?_)<;>first|(rw[if_pos hsp]at hy;try rw[if_pos hsp]at hc)|(rw[if_neg (mV hsp)]at hy;try rw[if_neg (mV hsp)]at hc))
 all_goals first|(cases hc;done)|(subst hy;rfl)
def sr(g:List (Sem zi)->List (Sem zf)->ze->V)(cols:LC)(row:LV):ze->V
 | .mk op v s l=>if (op==mH)=Q3 then v else
  if(op==ee)=Q3 then(if(bif Q0 (ag cols s<0)then Q3 else Q0 (ag cols s>=(↑row.length:Int)))=Q3 then(0,0,[])else row.getD (toNat (ag cols s)) (zj zf))else
  match l with
  |[]=>opV op (0,0,[]) (0,0,[])
  |[a]=>opV op (g cols row a) (0,0,[])
  |[a,b]=>opV op (g cols row a) (g cols row b)
  |_=>(0,0,[])
def wC(c:List (Sem zi)->List (Sem zf)->ze->Bool)(cols:LC)(row:LV):ze->Bool
 |.mk _ _ _ (_::_::_::_)=>Q4
 | .mk op _ s l=>if (op==mH)=Q3 then Q3 else
  if(op==ee)=Q3 then(if(bif Q0 (ag cols s<0)then Q3 else Q0 (ag cols s>=(↑row.length:Int)))=Q3 then Q3 else zO (ag cols s) row.length)else
  match l with
  |[]=>opC op
  |[a]=>if c cols row a=Q3 then opC op else Q4
  |[a,b]=>if c cols row a=Q3 then(if c cols row b=Q3 then opC op else Q4)else Q4
  |_=>Q4
theorem zdw{g:List (Sem zi)->List (Sem zf)->ze->V}{c:List (Sem zi)->List (Sem zf)->ze->Bool}(hg:FK 294 (PX g c)):FK 294 (PX (sr g) (wC c)):=by
 refine dR (E:=QL g c) (Vx g c) λx h0 res hx C hC=>?_
 unfold zeI at hx;split at hx
 ·rename_i cols row e u k1 k2 k3 k4 k5 k6 k7 k8;simp only[Q8]at hx;split at hx
  ·rename_i hk;split at hx
   ·rename_i hc;simp only[aE,aZ]at hk;obtain⟨rfl,rfl,rfl,rfl,rfl,rfl,rfl,rfl⟩:=hk;simp only[bB]at hx;subst hx;obtain⟨op,v,s,l⟩:=e
    match l,hc with
    | [],hc=>
     refine xT (n0:=1) (B9 hg) (Vx g c) hC (zfz g c cols row op v s) ?_;generalize hy:sr g cols row (.mk op v s [])=z;rw[wC]at hc;rw[sr]at hy;repeat' (first|(subst hy;exact xF hc)|refine qG (λhsp=>?_) (λhsp=>?_)<;>first|(first|rw[if_pos hsp]at hy hc|rw[if_pos hsp]at hc|rw[if_pos hsp]at hy)|(first|rw[if_neg (mV hsp)]at hy hc|rw[if_neg (mV hsp)]at hc|rw[if_neg (mV hsp)]at hy)|skip)
     all_goals first|(subst hy;exact xF hc)|(subst hy;rfl)|(rw[hc]at hsp;cases hsp)
    | [a],hc=>
     refine xT (n0:=1) (B9 hg) (Vx g c) hC (zfA g c cols row op v s a) ?_;generalize hy:sr g cols row (.mk op v s [a])=z;rw[wC]at hc;rw[sr]at hy;simp only[ze.eta];repeat' (first|(subst hy;exact xF hc)|refine qG (λhsp=>?_) (λhsp=>?_)<;>first|(first|rw[if_pos hsp]at hy hc|rw[if_pos hsp]at hc|rw[if_pos hsp]at hy)|(first|rw[if_neg (mV hsp)]at hy hc|rw[if_neg (mV hsp)]at hc|rw[if_neg (mV hsp)]at hy)|skip)
     all_goals first|(subst hy;exact xF hc)|(subst hy;rfl)|(cases hc;done)|(rw[hc]at hsp;cases hsp)
    | [a,b],hc=>
     refine xT (n0:=1) (B9 hg) (Vx g c) hC (zfB g c cols row op v s a b) ?_;generalize hy:sr g cols row (.mk op v s [a,b])=z;rw[wC]at hc;rw[sr]at hy;simp only[ze.eta];repeat' (first|(subst hy;exact xF hc)|refine qG (λhsp=>?_) (λhsp=>?_)<;>first|(first|rw[if_pos hsp]at hy hc|rw[if_pos hsp]at hc|rw[if_pos hsp]at hy)|(first|rw[if_neg (mV hsp)]at hy hc|rw[if_neg (mV hsp)]at hc|rw[if_neg (mV hsp)]at hy)|skip)
     all_goals first|(subst hy;exact xF hc)|(subst hy;rfl)|(cases hc;done)|(rw[hc]at hsp;cases hsp)
    | _::_::_::_,hc=>
     cases hc
   ·simp at hx
  ·simp at hx
 ·simp at hx
mutual
def dz:Nat->List (Sem zi)->List (Sem zf)->ze->V
 |0=>λ_ _ _=>(0,0,[])
 |n+1=>sr (dz n)
def wB:Nat->List (Sem zi)->List (Sem zf)->ze->Bool
 |0=>λ_ _ _=>Q4
 |n+1=>wC (wB n)
end
theorem So:∀n,FK 294 (PX (dz n) (wB n))
 | 0=>by
  have h:FK 294 (bh [Q2,Q1 .expr] (λ_ _=>.err)):=dR (Vx (λ_ _ _=>(0,0,[])) (λ_ _ _=>Q4)) (E:=Fq) λx h0 res hx=>by simp at hx
  refine Av (ι:=Unit) (Gs:=λ_ _ _=>.err) (λ_=>h) λx h0 res hx=>?_
  unfold zeI at hx;split at hx
  ·simp[Q8,wB]at hx
  ·simp at hx
 |n+1=>zdw (So n)
def F24:zV:=PX (dz 16) (wB 16)
theorem ziT:FK 294 F24:=So 16
noncomputable def Fr:=Fq.addL [(293,F23),(294,F24)]
theorem wW:zt Fr:=wV.addL<|fc ziS<|fc ziT ja
abbrev zpQ:Nat->aN:=λ_=>{ }
theorem zmp:zI (Fr).P 35 Tryz.f35 1:=bR kw
theorem zoR(x0:Sem Q5):rn Fr 0 zpQ Tryz.f35 [zz Q5 x0] []=chk (uZ 16 (zm x0) 1 0) (Tr.ok (zD.ret (AV.bool (iw 16 (zm x0) 1 0).1) [])):=kw
def cA(x0:Sem Q5):Sem Sh.bool:=(iw 16 x0 1 0).1
def yD(x0:Sem Q5):Bool:=if uZ 16 x0 1 0=Q3 then Q3 else Q4
def F22:zV:=zN [Q5] [Sh.bool] (λx=>yD x.1) λx=>(cA x.1,())
theorem zbt:FK 35 F22:=by
 refine aJ (zmp) λx hc C hC=>?_
 unfold yD at hc;refine zE wW (zmp) (λid _=>hC id) (zoR x.1) ?_;generalize hy:cA x.1=y;unfold cA at hy
 try simp only[ze.eta]
 repeat' (first|with_reducible refine vl hy hc (λ_ hy hc=>?_) (λ_ hy hc=>?_)|with_reducible refine dn hy (λ_ hy=>?_) (λ_ hy=>?_)|with_reducible refine iK hc (λhc=>?_)|with_reducible refine zK ?_)
 all_goals(subst hy;first|rfl)
abbrev kp7:Nat->aN:=λ_=>{ }
theorem ok7:zI (Fr).P 7 Tryz.f7 1:=bR kw
theorem go7(x0:Sem Q5):rn Fr 0 kp7 Tryz.f7 [zz Q5 x0] []=chk (Kk 16 (zm x0) 14 80) (Tr.ok (zD.ret (agg [str (ze.op (sj 16 (zm x0) 14 80).1),ai (ze.v (sj 16 (zm x0) 14 80).1).1,ai (ze.v (sj 16 (zm x0) 14 80).1).2.1,str (ze.v (sj 16 (zm x0) 14 80).1).2.2,str (ze.s (sj 16 (zm x0) 14 80).1),sl Q5 (ze.l (sj 16 (zm x0) 14 80).1)]) [])):=kw
def fK(x0:Sem Q5):Sem Q5:=ze.mk (ze.op (sj 16 x0 14 80).1) (ze.v (sj 16 x0 14 80).1) (ze.s (sj 16 x0 14 80).1) (ze.l (sj 16 x0 14 80).1)
def Ou(x0:Sem Q5):Bool:=if Kk 16 x0 14 80=Q3 then Q3 else Q4
def F7:zV:=zN [Q5] [Q5] (λx=>Ou x.1) λx=>(fK x.1,())
theorem zjx:FK 7 F7:=by
 refine aJ (ok7) λx hc C hC=>?_
 unfold Ou at hc;refine zE wW (ok7) (λid _=>hC id) (go7 x.1) ?_;generalize hy:fK x.1=y;unfold fK at hy
 try simp only[ze.eta]
 repeat' (first|with_reducible refine vl hy hc (λ_ hy hc=>?_) (λ_ hy hc=>?_)|with_reducible refine dn hy (λ_ hy=>?_) (λ_ hy=>?_)|with_reducible refine iK hc (λhc=>?_)|with_reducible refine zK ?_)
 all_goals(subst hy;first|rfl)
noncomputable def Fs:=Fr.addL [(35,F22),(7,F7)]
theorem wX:zt Fs:=wW.addL<|fc zbt<|fc zjx ja
abbrev zpS:Nat->aN:=λ_=>{ }
theorem zmt:zI (Fs).P 165 Tryz.f165 2:=bR kw
theorem zoW(x0:Sem Q5)(x1:Sem zi.sl):rn Fs 0 zpS Tryz.f165 [zz Q5 x0,zz zi.sl x1] []=chk (yD (zm x0)) (br (!cA (zm x0)) (Tr.ok (zD.ret (tup [ai 0,ai 1]) [])) (chk (bc 16 (zm x0) x1) (Tr.ok (zD.ret (tup [ai (zM 16 (zm x0) x1).1,ai (zM 16 (zm x0) x1).2]) [])))):=kw
def bJ(x0:Sem Q5)(x1:Sem zi.sl):Sem zg×Sem zg:=if(!cA x0)=Q3 then(0,1)else((zM 16 x0 x1).1,(zM 16 x0 x1).2)
def Hi(x0:Sem Q5)(x1:Sem zi.sl):Bool:=if yD x0=Q3 then if(!cA x0)=Q3 then Q3 else if bc 16 x0 x1=Q3 then Q3 else Q4 else Q4
def F30:zV:=zN [Q5,zi.sl] [zg,zg] (λx=>Hi x.1 x.2.1) λx=>((bJ x.1 x.2.1).1,(bJ x.1 x.2.1).2,())
theorem zbu:FK 165 F30:=by
 refine aJ (zmt) λx hc C hC=>?_
 unfold Hi at hc;refine zE wX (zmt) (λid _=>hC id) (zoW x.1 x.2.1) ?_;generalize hy:bJ x.1 x.2.1=y;unfold bJ at hy
 try simp only[ze.eta]
 repeat' (first|with_reducible refine vl hy hc (λ_ hy hc=>?_) (λ_ hy hc=>?_)|with_reducible refine dn hy (λ_ hy=>?_) (λ_ hy=>?_)|with_reducible refine iK hc (λhc=>?_)|with_reducible refine zK ?_)
 all_goals(subst hy;first|rfl)
abbrev zpP:Nat->aN:=λ_=>{ }
theorem zmj:zI (Fs).P 253 Tryz.f253 3:=bR kw
theorem zoL(x0:Sem Q5)(x1:Sem zi.sl)(x2:Sem zf.sl):rn Fs 0 zpP Tryz.f253 [zz Q5 x0,zz zi.sl x1,zz zf.sl x2] []=chk (yD (zm x0)) (br (!cA (zm x0)) (Tr.ok (zD.ret (agg [ai 0,ai 0,str []]) [])) (chk (cY==cY&&(uw==uw&&(mI==mI&&([61]==[61]&&([60]==[60]&&([43]==[43]&&([45]==[45]&&oP==oP))))))) (chk (wB 16 x1 x2 (zm x0)) (Tr.ok (zD.ret (agg [ai (dz 16 x1 x2 (zm x0)).1,ai (dz 16 x1 x2 (zm x0)).2.1,str (dz 16 x1 x2 (zm x0)).2.2]) []))))):=kw
def kd(x0:Sem Q5)(x1:Sem zi.sl)(x2:Sem zf.sl):Sem zf:=if(!cA x0)=Q3 then(0,0,[])else dz 16 x1 x2 x0
def Hg(x0:Sem Q5)(x1:Sem zi.sl)(x2:Sem zf.sl):Bool:=if yD x0=Q3 then if(!cA x0)=Q3 then Q3 else if(cY==cY&&(uw==uw&&(mI==mI&&([61]==[61]&&([60]==[60]&&([43]==[43]&&([45]==[45]&&oP==oP)))))))=Q3 then if wB 16 x1 x2 x0=Q3 then Q3 else Q4 else Q4 else Q4
def F11:zV:=zN [Q5,zi.sl,zf.sl] [zf] (λx=>Hg x.1 x.2.1 x.2.2.1) λx=>(kd x.1 x.2.1 x.2.2.1,())
theorem zbq:FK 253 F11:=by
 refine aJ (zmj) λx hc C hC=>?_
 unfold Hg at hc;refine zE wX (zmj) (λid _=>hC id) (zoL x.1 x.2.1 x.2.2.1) ?_;generalize hy:kd x.1 x.2.1 x.2.2.1=y;unfold kd at hy
 try simp only[ze.eta]
 repeat' (first|with_reducible refine vl hy hc (λ_ hy hc=>?_) (λ_ hy hc=>?_)|with_reducible refine dn hy (λ_ hy=>?_) (λ_ hy=>?_)|with_reducible refine iK hc (λhc=>?_)|with_reducible refine zK ?_)
 all_goals(subst hy;first|rfl)
noncomputable def zbD:=Fs.addL [(165,F30),(253,F11)]
theorem QT:zt zbD:=wX.addL<|fc zbu<|fc zbq ja
theorem lJ(d:Int)(h1:-1000<=d)(h2:d<=1000):IntKind.i64.wrap d=d:=by
 rw[gp];omega
theorem HA{P:Nat->ze->ze->Prop}(hP:∀N e(o t s:zB)(l:List ze),(∀y∈l,∃x∈ze.l e,P N x y)->l.length<=3->t.length<=45->s.length<=20->P (N+1) e (.mk o ((ze.v e).1,(ze.v e).2.1,t) s l)):
  ∀(N:Nat)(e:ze)(d n:Int),0<=d->d<N->N<=100->∃r m,o9 N e d n=Q1 (r,m,())/\P N e r
 |0,_,_,_,h1,h2,_=>by omega
 | N + 1,e,d,n,h1,h2,h3=>by
  have IH:∀x m,0<d->∃r k,o9 N x (IntKind.i64.wrap (d-1)) m=Q1 (r,k,())/\P N x r:=λx m hd=>by
   rw[lJ _ ow ow];exact HA hP N x (d-1) m ow ow ow
  generalize hg:(λx0 x1 x2=>JX (o9 N x0 x1 x2))=g;generalize hc:(λx0 x1 x2=>(o9 N x0 x1 x2).isSome)=c
  have key:∀(k i:Nat)(n:Int)(acc:List ze)(z1:zn o8)(o t s:zB),i+k=3->acc.length=i->(∀y∈acc,∃x∈ze.l e,P N x y)->
    ∃m r n',zX (wq g c) m (.h10 d n (i:Int) (e,()) z1 (o,(ze.v e).1,(ze.v e).2.1,t,s,acc,())) (.tup [.agg [.str o,.int .i64 (ze.v e).1,.int .i64 (ze.v e).2.1,.str t,.str s,.vec 0],.int .i64 n'],[.vec .expr r])/\m<=k+1/\(∀y∈r,∃x∈ze.l e,P N x y)/\r.length<=3:=by
   intro k
   induction k with
   | zero=>
    intro i n acc z1 o t s hi ha hq;refine⟨1,acc,n,zX.of ?_,ow,hq,ow⟩;have h3:Q0 ((i:Int)<3)=Q4:=by simp;omega
    simp only[wq,Q8,h3,aq,Bool.cond_self,zF,if_false]
   | succ k ih=>
    intro i n acc z1 o t s hi ha hq;by_cases hb:(bif Q0 ((i:Int)<(↑(ze.l e).length:Int))then bif Q0 ((i:Int)<3)then bif Q0 (d>0)then Q0 (n>0)else Q4 else Q4 else Q4)=Q3
    ·have hl:i<(ze.l e).length/\0<d:=by
      cases h1:Q0 ((i:Int)<(↑(ze.l e).length:Int))<;>cases h2:Q0 ((i:Int)<3)<;>cases h3:Q0 (d>0)<;>simp_all
     obtain⟨r,m,e1,e2⟩:=IH (ze.l e)[i] n hl.2;have gx:g (ze.l e)[i] (IntKind.i64.wrap (d-1)) n=(r,m):=by rw[<-hg];simp only[e1];rfl
     have cx:c (ze.l e)[i] (IntKind.i64.wrap (d-1)) n=Q3:=by rw[<-hc];simp only[e1];rfl
     obtain⟨m2,r2,n2,k1,k2,k3,k4⟩:=ih (i+1) m (acc++[r]) z1 o t s ow sg (λy hy=>by
      rcases cQ.1 hy with hy|hy
      ·exact hq y hy
      ·rw[gn]at hy;exact⟨_,bG hl.1,hy▸e2⟩)
     refine⟨m2+1,r2,n2,(zT.of ?_).ends k1,?_,k3,k4⟩
     ·have hn:(acc.length+[zm r].length<=1073741824):=by simp;omega
      have hin:zO (i:Int) (ze.l e).length=Q3:=by simp[zO,hl.1]
      have hgd:List.getD (ze.l e) (toNat (i:Int)) (zj Q5)=(ze.l e)[i]:=by rw[aK,ba,zQ hl.1,dp]
      simp only[wq,Q8,hb,hin,hgd,zk,gx,cx,if_true];rw[zk]at hn;rw[if_pos (zu hn),zr i um]
     ·omega
    ·refine⟨1,acc,n,zX.of ?_,ow,hq,ow⟩;simp only[wq,Q8];rw[if_neg hb]
  have h8:∀(z1:zn o8)(o t s:zB),t.length<=45->s.length<=20->∃r m R,zX (wq g c) 101 (.h500008 d (IntKind.i64.wrap (n-1)) (e,()) z1 (o,(ze.v e).1,(ze.v e).2.1,t,s,())) R/\aM R.2 [Q5,zg] R.1=Q1 (r,m,())/\P (N+1) e r:=λz1 o t s ht hs=>by
   obtain⟨m,r,n',k1,k2,k3,k4⟩:=key 3 0 (IntKind.i64.wrap (n-1)) [] z1 o t s rfl rfl sw;exact⟨.mk o ((ze.v e).1,(ze.v e).2.1,t) s r,n',_,((zT.of rfl).ends k1).mono ow,rfl,hP N e o t s r k3 k4 ht hs⟩
  have h6:∀(z1:zn o8)(o s:zB),s.length<=20->∃r m R,zX (wq g c) 102 (.h500006 d n (Q0 ((↑(length (ze.v e).2.2):Int)>45)) (e,()) z1 (o,(ze.v e).1,(ze.v e).2.1,(ze.v e).2.2,s,())) R/\aM R.2 [Q5,zg] R.1=Q1 (r,m,())/\P (N+1) e r:=λz1 o s hs=>by
   by_cases hb:(length (ze.v e).2.2:Int)>45
   ·obtain⟨r,m,R,e1,e2,e3⟩:=h8 z1 o (Qg (toNat 45-toNat 0) (Qh (toNat 0) (ze.v e).2.2)) s sg hs;refine⟨r,m,R,(zT.of ?_).ends e1,e2,e3⟩;have h45:Q0 ((45:Int)<=(length (ze.v e).2.2:Int))=Q3:=by simp;omega
    simp only[wq,Q8,zu hb,h45,if_true];rfl
   ·obtain⟨r,m,R,e1,e2,e3⟩:=h8 z1 o (ze.v e).2.2 s ow hs;refine⟨r,m,R,(zT.of ?_).ends e1,e2,e3⟩;simp only[wq,Q8,ao hb,zF,if_false]
  have h4:∀(z1:zn o8)(o:zB),∃r m R,zX (wq g c) 103 (.h500004 d n (Q0 ((↑(length (ze.s e)):Int)>20)) (e,()) z1 (o,(ze.v e).1,(ze.v e).2.1,(ze.v e).2.2,ze.s e,())) R/\aM R.2 [Q5,zg] R.1=Q1 (r,m,())/\P (N+1) e r:=λz1 o=>by
   by_cases hb:(length (ze.s e):Int)>20
   ·obtain⟨r,m,R,e1,e2,e3⟩:=h6 z1 o (Qg (toNat 20-toNat 0) (Qh (toNat 0) (ze.s e))) sg;refine⟨r,m,R,(zT.of ?_).ends e1,e2,e3⟩;have h20:Q0 ((20:Int)<=(length (ze.s e):Int))=Q3:=by simp;omega
    simp only[wq,Q8,zu hb,h20,if_true];rfl
   ·obtain⟨r,m,R,e1,e2,e3⟩:=h6 z1 o (ze.s e) ow;refine⟨r,m,R,(zT.of ?_).ends e1,e2,e3⟩;simp only[wq,Q8,ao hb,zF,if_false]
  have e0:o9 (N+1) e d n=zkt g c e d n:=by rw[<-hg,<-hc];rfl
  rw[e0];by_cases hb:(length (ze.op e):Int)>8
  ·obtain⟨r,m,R,e1,e2,e3⟩:=h4 ([],0,0,[],[],()) (Qg (toNat 8-toNat 0) (Qh (toNat 0) (ze.op e)));refine⟨r,m,zy ?_ e1 ow e2,e3⟩;have h8:Q0 ((8:Int)<=(length (ze.op e):Int))=Q3:=by simp;omega
   simp only[Uu,Q8,zu hb,h8,if_true];rfl
  ·obtain⟨r,m,R,e1,e2,e3⟩:=h4 ([],0,0,[],[],()) (ze.op e);refine⟨r,m,zy ?_ e1 ow e2,e3⟩;simp only[Uu,Q8,ao hb,zF,if_false]
theorem MO(N:Nat)(e:ze)(d n:Int)(h1:0<=d)(h2:d<N)(h3:N<=100):Kk N e d n=Q3:=by
 obtain⟨r,m,h,_⟩:=HA (P:=λ_ _ _=>True) (λ_ _ _ _ _ _ _ _ _ _=>trivial) N e d n h1 h2 h3;unfold Kk;rw[h];rfl
theorem CX{g:ze->Int->Int->Bool×Int}{c:ze->Int->Int->Bool}{d:Int}(h:∀x n,c x (IntKind.i64.wrap (d+1)) n=Q3):∀(l:List ze)(n:Int),CW g c d l n=Q3
 |[],_=>rfl
 | x::r,n=>by
  rw[CW,if_pos (h x n)];split
  ·rfl
  ·exact CX h r _
theorem CV:∀(N:Nat)(e:ze)(d n:Int),0<=d->d<=13->14<=d+N->uZ N e d n=Q3
 |0,_,_,_,_,_,_=>by omega
 | N+1,e,d,n,h1,h2,h3=>by
  rw[uZ];unfold OW;by_cases hd:d>12
  ·simp[hd]
  ·have hl:CW (iw N) (uZ N) d e.l (IntKind.i64.wrap (n+1))=Q3:=CX (λx m=>by
    rw[lJ _ ow ow];exact CV N x (d+1) m ow ow ow) _ _
   repeat' split
   all_goals first|rfl|exact hl
abbrev xD:ze:=.mk [] (0,0,[]) [] []
theorem NM(N:Nat)(e:ze):ju (N+1) e xD=Q3:=by
 rw[ju];unfold IM;have hl:yG (fF N) (ju N) e.l []=Q3:=by
  unfold yG;split
  ·rfl
  ·cases e.l<;>rfl
 show(bif e.op==[]then bif Xe e.v (0,0,[])then bif e.s==[]then yG (fF N) (ju N) e.l []else Q3 else Q3 else Q3)=Q3;rw[hl];cases e.op==[]<;>cases Xe e.v (0,0,[])<;>cases e.s==[]<;>rfl
theorem fU{α:Type}(p:α->Bool):∀(l:List α)(i:Nat),zR p l i=-1\/((i:Int)<=zR p l i/\zR p l i<i+l.length)
 |[],_=>.inl rfl
 | x::r,i=>by
  unfold zR;split
  ·exact .inr ⟨ow,sg⟩
  ·rcases fU p r (i+1)with h|⟨h1,h2⟩
   ·exact .inl h
   ·exact .inr ⟨ow,sg⟩
theorem Hc(l:List (Sem zi))(s:zB):ag l s=-1\/(0<=ag l s/\ag l s<l.length):=by
 have:=fU (λc:Sem zi=>c.1==s) l 0;unfold ag;simpa using this
theorem l5(op:zB):(cR op=0/\(op=mH\/op=ee))\/(cR op=1/\(op=mI\/op=oP))\/
  (cR op=2/\(op=cY\/op=uw\/op=[61]\/op=[60]\/op=[43]\/op=[45]))\/cR op=-1:=by
 unfold cR yT;simp only[PI];repeat' split
 all_goals simp_all
theorem xC{g:ze->Int->Int->Bool×Int}{e:ze}{d n:Int}(h:(Aq g e d n).1=Q3):(e.l.length:Int)=cR e.op/\
  ((e.op=mH\/e.op=ee)\/(pd g d e.l (IntKind.i64.wrap (n+1))).1=Q3):=by
 unfold Aq at h;split at h
 ·cases h
 ·rename_i h1;have hl:(e.l.length:Int)=cR e.op:=by
   cases h2:Q0 (d>12)<;>cases h3:Q0 (IntKind.i64.wrap (n+1)>60)<;>simp_all
  refine⟨hl,?_⟩;split at h
  ·rename_i h2;exact .inl (.inl (by simpa using h2))
  ·split at h
   ·rename_i h2;exact .inl (.inr (by simpa using h2))
   ·split at h
    ·cases h
    ·exact .inr h
theorem vd{g:ze->Int->Int->Bool×Int}{d:Int}:∀(l:List ze)(n:Int),(pd g d l n).1=Q3->∀x∈l,∃m,(g x (IntKind.i64.wrap (d+1)) m).1=Q3
 |[],_,_,_,hx=>by simp at hx
 | y::r,n,h,x,hx=>by
  rw[pd]at h;split at h
  ·cases h
  ·rename_i hy;rcases cr.1 hx with rfl|hx
   ·exact⟨n,by simpa using hy⟩
   ·exact vd r _ h x hx
theorem Ad{g:ze->List (Sem zi)->Int×Int}{c:ze->List (Sem zi)->Bool}{cols:List (Sem zi)}{op:zB}{a1 a2:Int}{a3 a4:zB}{w:List ze}:
    ∀(l:List ze)(i:Int)(acc:List Int),(∀x∈l,c x cols=Q3)->((acc.length:Int)+l.length)=cR op->f9 g c cols op a1 a2 a3 a4 w l i acc=Q3
  | [], i,acc,_,hp=>by
    have hp:(acc.length:Int)=cR op:=by simpa using hp
    have hcp:Q0 (ag cols a4<0)=Q3\/zO (ag cols a4) cols.length=Q3:=by
      rcases Hc cols a4 with h|⟨h1,h2⟩
      · exact .inl (by rw[h];rfl)
      · exact .inr (by simp[zO,h1,h2])
    have h2:op=[61]\/op=[60]->acc.length=2:=by
      rintro(rfl|rfl)
      · have:cR [61]=2:=by decide
        omega
      · have:cR [60]=2:=by decide
        omega
    unfold f9;repeat' split
    all_goals first
      |rfl
      |(exfalso;rcases hcp with h|h<;>simp_all;done)
      | (exfalso
         rename_i h7 h8;have h9:=h2 (by simp_all);rw[h9]at h8;exact h8 (by cases hA:(acc.getD (toNat 0) (zj zg)==acc.getD (toNat 1) (zj zg))<;>cases hB:(acc.getD (toNat 0) (zj zg)==0)<;>rfl))
  | x :: r,i,acc,hc,hp=>by
    have hle:cR op<=2:=by rcases l5 op with h|h|h|h<;>omega
    rw[f9,if_pos (hc x sw)];split
    · rfl
    · rw[if_pos (by simp at hp⊢;omega)]
      exact Ad r (i+1) _ (λy hy=>hc y (by simp[hy])) (by simp at hp⊢;omega)
theorem ww:∀(N:Nat)(e:ze)(d n:Int)(cols:List (Sem zi)),(iw N e d n).1=Q3->bc N e cols=Q3
 |0,_,_,_,_,h=>by cases h
 | N+1,e,d,n,cols,h=>by
  rw[iw]at h;obtain⟨hl,h2⟩:=xC h;rw[bc];unfold Bq;refine Ad e.l 0 [] (λx hx=>?_) (by simpa using hl);rcases h2 with h2|h2
  ·exfalso;have:cR e.op=0:=by
    rcases h2 with h2|h2<;>rw[h2]<;>decide
   rw[this]at hl;have:e.l=[]:=Ah ow;rw[this]at hx;simp at hx
  ·obtain⟨m,hm⟩:=vd e.l _ h2 x hx;exact ww N x _ _ cols hm
theorem Em:∀(N:Nat)(e:ze)(d n:Int)(cols:List (Sem zi))(row:List (Sem zf)),(iw N e d n).1=Q3->wB N cols row e=Q3
 |0,_,_,_,_,_,h=>by cases h
 | N + 1,.mk op v s l,d,n,cols,row,h=>by
  rw[iw]at h;obtain⟨hl,h2⟩:=xC h;have hl:(l.length:Int)=cR op:=hl;have h2:(op=mH\/op=ee)\/(pd (iw N) d l (IntKind.i64.wrap (n+1))).1=Q3:=h2;have hx:∀x∈l,(¬(op=mH\/op=ee))->wB N cols row x=Q3:=by
   intro x hx hno;rcases h2 with h2|h2
   ·exact(hno h2).elim
   ·obtain⟨m,hm⟩:=vd l _ h2 x hx;exact Em N x _ _ cols row hm
  have hcol:(if(bif Q0 (ag cols s<0)then Q3 else Q0 (ag cols s>=(↑row.length:Int)))=Q3 then Q3 else zO (ag cols s) row.length)=Q3:=by
   split
   ·rfl
   ·rename_i hh;have h1:0<=ag cols s/\ag cols s<row.length:=by
     cases hq:Q0 (ag cols s<0)
     ·rw[hq]at hh;simp at hq hh;exact⟨hq,hh⟩
     ·rw[hq]at hh;simp at hh
    simp[zO,h1.1,h1.2]
  rw[wB];rcases l5 op with⟨hp,ho⟩|⟨hp,ho⟩|⟨hp,ho⟩|hp
  ·have:l=[]:=Ah ow;subst this;rcases ho with rfl|rfl
   ·rfl
   ·rw[wC];exact hcol
  ·match l,hl,hx with
   | [a],_,hx=>
    rcases ho with rfl|rfl
    ·rw[wC];exact(if_pos (hx a sw (by decide))).trans rfl
    ·rw[wC];exact(if_pos (hx a sw (by decide))).trans rfl
   |[],hl,_=>simp at hl;omega
   |_::_::_,hl,_=>simp at hl;omega
  ·match l,hl,hx with
   | [a,b],_,hx=>
    rcases ho with rfl|rfl|rfl|rfl|rfl|rfl<;>
     (rw[wC];exact(if_pos (hx a sw (by decide))).trans ((if_pos (hx b sw (by decide))).trans rfl))
   |[],hl,_=>simp at hl;omega
   |[_],hl,_=>simp at hl;omega
   |_::_::_::_,hl,_=>simp at hl;omega
  ·omega
theorem tr(e:ze):yD e=Q3:=by
 unfold yD;rw[if_pos (CV 16 e 1 0 ow ow ow)]
theorem Mt(e:ze):Ou e=Q3:=by
 unfold Ou;rw[if_pos (MO 16 e 14 80 ow ow ow)]
theorem JY(e:ze)(cols:List (Sem zi)):Hi e cols=Q3:=by
 unfold Hi;rw[if_pos (tr e)];split
 ·rfl
 ·rename_i h;rw[if_pos (ww 16 e 1 0 cols (by simpa[cA]using h))]
theorem JW(e:ze)(cols:List (Sem zi))(row:List (Sem zf)):Hg e cols row=Q3:=by
 unfold Hg;rw[if_pos (tr e)];split
 ·rfl
 ·rename_i h;rw[if_pos (by decide),if_pos (Em 16 e 1 0 cols row (by simpa[cA]using h))]
def Xi:zV:=aG [Q5] [Sh.bool] λx=>(cA x.1,())
theorem Sn:FK 35 Xi:=nD zbt λx=>tr x.1
def F7t:zV:=aG [Q5] [Q5] λx=>(fK x.1,())
theorem zjF:FK 7 F7t:=nD zjx λx=>Mt x.1
def zhR:zV:=aG [Q5,zi.sl] [zg,zg] λx=>((bJ x.1 x.2.1).1,(bJ x.1 x.2.1).2,())
theorem zdH:FK 165 zhR:=nD zbu λx=>JY x.1 x.2.1
def zhk:zV:=aG [Q5,zi.sl,zf.sl] [zf] λx=>(kd x.1 x.2.1 x.2.2.1,())
theorem zc7:FK 253 zhk:=nD zbq λx=>JW x.1 x.2.1 x.2.2.1
noncomputable def zbE:=zbD.addL [(35,Xi),(7,F7t),(165,zhR),(253,zhk)]
theorem wY:zt zbE:=QT.addL<|fc Sn<|fc zjF<|fc zdH<|fc zc7 ja
open Go Go.Proofs Go.RowKit
set_option maxHeartbeats 4000000
set_option maxRecDepth 100000
attribute [local go_sem] Oper.semAt_some
theorem yU{k:FuncId}{F:zV}(hF:FK k F){args:List AV}{vals:List Value}{r:AV}{w:World}{U:Nat->Prop}{ρ:Nat->Option Value}(h:(F args (λ_=>.dead) 0).val=Q1 {val:=r})(hr:du w U ρ args vals)
  (hub:∀b,U b->b<w.heap.size) (hgl:sX CH w U) (hid:AV.idsL args=[]):
  Calls Tryz.prog k vals.toArray w λe w'=>∃v,e=.returned v/\Below w.heap.size w w'/\∃U' ρ',Rv w' U' ρ' r v:=by
 refine(hF.calls w U ρ (λ_=>.dead) 0 args vals _ [] h hr hub hgl ⟨sw,sw⟩ (by rw[hid];simp) sw sw).1.mono ?_;rintro e w' ⟨v,U',ρ',rfl,he⟩;exact⟨v,rfl,{size:=he.ext.sz,block:=λb hb=>he.same b hb sw,os:=he.ext.os,output:=he.ext.out,tape:=he.ext.tape},U',ρ',he.val⟩
theorem nC.mono{w0 W:World}{U:Nat->Prop}{ρ:Nat->Option Value}{e:ze}{a:Option Addr}{c:Nat}(h:nC w0 U ρ e a c)(hb:Below w0.heap.size w0 W):nC W U ρ e a c:=
 ⟨h.len,λj cc v hc hv=>(h.rv j cc v hc hv).mono hb.size (λb hb' _=>hb.block b hb') (λ_ _ h=>h) (λ_ _ h=>h)⟩
theorem nC.agg{w:World}{U:Nat->Prop}{ρ:Nat->Option Value}{e:ze}{a:Option Addr}{c:Nat}(h:nC w U ρ e a c):Rv w U ρ (zz .expr e) (.agg (bp e a c).toArray):=
 .agg _ _ rfl (by simp[Value.oneCell']) h.rv
abbrev su(v:Sem zf):List Value:=[.int .i64 v.1,.int .i64 v.2.1,.string ⟨v.2.2.toArray⟩]
def fM(cH:ze->zB->Sem zf×Bool)(name:zB):List ze->Sem zf×Bool
 |[]=>((0,0,[]),Q4)
 |x::r=>bif (cH x name).2 then((cH x name).1,Q3)else fM cH name r
theorem nh{tmps:Array Value}{w:World}{bv bo:Nat}{v:Sem zf}{b:Bool}(h4:tmps[4]?=Q1 (.pointer (Q1 ⟨bv,0,Q2⟩)))(h5:tmps[5]?=Q1 (.pointer (Q1 ⟨bo,0,Q2⟩)))
  (hv:w.heap[bv]?=Q1 (.cells (su v).toArray 27 (0,0))) (hb:w.heap[bo]?=Q1 (.cells #[.bool b] 4 (0,0))):(results Tryz.f14 tmps).run Tryz.prog w=.ok (.tuple #[.agg (su v).toArray,.bool b]) w:=by
 have g4:tmps.getD 4 undef=.pointer (Q1 ⟨bv,0,Q2⟩):=by rw[o5,h4];rfl
 have g5:tmps.getD 5 undef=.pointer (Q1 ⟨bo,0,Q2⟩):=by rw[o5,h5];rfl
 have l1:=run_loadVar_row (P:=Tryz.prog) w bv 27 27 _ (0,0) _ hv Tryz.underlying27 rfl kw;have l2:(loadVar 4 ⟨bo,0,Q2⟩).run Tryz.prog w=.ok (.bool b) w:=by
  have hc:w.cell? ⟨bo,0,Q2⟩=Q1 (.bool b):=by simp[World.cell?,hb]
  have ha:(isAgg 4).run Tryz.prog w=.ok Q4 w:=by
   unfold isAgg;rw[cF,bz Tryz.underlying4 w];rfl
  simp[loadVar,ha,load,Sem.run,hc]
 rw[uc,show Tryz.f14.results=#[.cell 4 27,.cell 5 4]from by kernel_rfl];simp[xW,g4,g5,asAddr,l1,l2]
section
variable {w:World} {U:Nat->Prop} {ρ:Nat->Option Value} (n:Nat) (p0 p1 p2 p3 p6 p7 p8 p9 p10 p11 p12 p13 p14 p15:Value) (ca:Option Addr) (cl cc:Nat) (key:Int) {e:ze} {a:Option Addr} {c:Nat}
abbrev Db:List Value:=[p0,p1,p2,p3,.slice ca cl cc,.int .i64 key,p6,p7,p8,p9,p10,p11,p12,p13,p14,p15]
theorem To(e:ze):(Xi [zz .expr e] (λ_=>.dead) 0).val=Q1 {val:=.bool (cA e)}:=by
 have h:(Xi [zz .expr e] (λ_=>.dead) 0).val=Q1 {val:=.bool (cA (zm e))}:=by kernel_rfl
 rw[h,zk]
theorem zgV{W:World}{B:Nat}{v:Sem zf}(h:W.heap[B]?=Q1 (.cells (su v).toArray 27 (0,0))):W.cell? ⟨B,0,Q2⟩=Q1 (.int .i64 v.1)/\W.cell? ⟨B,1,Q2⟩=Q1 (.int .i64 v.2.1)/\W.cell? ⟨B,2,Q2⟩=Q1 (.string ⟨v.2.2.toArray⟩)/\
  W.frozen? ⟨B,0,Q2⟩=Q4/\W.frozen? ⟨B,1,Q2⟩=Q4/\W.frozen? ⟨B,2,Q2⟩=Q4:=by
 refine⟨?_,?_,?_,?_,?_,?_⟩<;>simp[World.cell?,World.frozen?,h]
theorem zgD{W:World}{B:Nat}{v:Value}{t:TypeId}(h:W.heap[B]?=Q1 (.cells #[v] t (0,0))):W.cell? ⟨B,0,Q2⟩=Q1 v/\W.frozen? ⟨B,0,Q2⟩=Q4:=by
 constructor<;>simp[World.cell?,World.frozen?,h]
theorem heap_set{W:World}{B:Nat}{cs:Array Value}{t:TypeId}(h:W.heap[B]?=Q1 (.cells cs t (0,0)))(o:Nat)(v:Value):(W.setCell ⟨B,o,Q2⟩ v).heap[B]?=Q1 (.cells (cs.setIfInBounds o v) t (0,0)):=by
 obtain⟨hlt,h⟩:=dU.1 h;show(W.heap.modify B _)[B]?=_;rw[td (by rw[Array.size_modify];exact hlt),Array.getElem_modify_self,h];rfl
theorem jm{W:World}{B b:Nat}{x:Option Obj}(h:W.heap[b]?=x)(o:Nat)(v:Value)(hne:b≠B):(W.setCell ⟨B,o,Q2⟩ v).heap[b]?=x:=(Below.heap_setCell W ⟨B,o,Q2⟩ v b hne).trans h
abbrev zgJ(W:World)(B:Nat)(v:Sem zf):World:=((W.setCell ⟨B,0,Q2⟩ (.int .i64 v.1)).setCell ⟨B,1,Q2⟩ (.int .i64 v.2.1)).setCell ⟨B,2,Q2⟩ (.string ⟨v.2.2.toArray⟩)
theorem HZ{W:World}{B:Nat}{u:Sem zf}(h:W.heap[B]?=Q1 (.cells (su u).toArray 27 (0,0)))(v:Sem zf):(zgJ W B v).heap[B]?=Q1 (.cells (su v).toArray 27 (0,0)):=
 heap_set (heap_set (heap_set h 0 _) 1 _) 2 _
theorem vt{W:World}{B b:Nat}{x:Option Obj}(h:W.heap[b]?=x)(v:Sem zf)(hne:b≠B):(zgJ W B v).heap[b]?=x:=jm (jm (jm h 0 _ hne) 1 _ hne) 2 _ hne
theorem tV{W:World}{B n₀:Nat}(v:Sem zf)(h:n₀<=B):Below n₀ W (zgJ W B v):=(((Below.refl n₀ W).setCell (p:=⟨B,0,Q2⟩) h _).setCell (p:=⟨B,1,Q2⟩) h _).setCell (p:=⟨B,2,Q2⟩) h _
abbrev Qy(w:World)(pv ev:List Value):World:=(((w.alloc (.cells pv.toArray 40)).alloc (.cells ev.toArray 30)).alloc (.cells #[.int .i64 0,.int .i64 0,.string {data:=#[]}] 27)).alloc (.cells #[.bool Q4] 4)
theorem BU(w:World)(pv ev:List Value):Below w.heap.size w (Qy w pv ev):=((((Below.refl _ w).alloc (ae _) _).alloc sw _).alloc sg _).alloc sg _
theorem Qz(w:World)(pv ev:List Value):(Qy w pv ev).heap.size=w.heap.size+4:=by simp
theorem Oo(w:World)(pv ev:List Value):(Qy w pv ev).heap[w.heap.size]?=Q1 (.cells pv.toArray 40 (0,0))/\(Qy w pv ev).heap[w.heap.size+1]?=Q1 (.cells ev.toArray 30 (0,0))/\
  (Qy w pv ev).heap[w.heap.size+1+1]?=Q1 (.cells (su (0,0,[])).toArray 27 (0,0))/\(Qy w pv ev).heap[w.heap.size+1+1+1]?=Q1 (.cells #[.bool Q4] 4 (0,0)):=by
 have e0:=World.alloc_heap_new w (.cells pv.toArray 40);have e1:=World.alloc_heap_new (w.alloc (.cells pv.toArray 40)) (.cells ev.toArray 30);have e2:=World.alloc_heap_new ((w.alloc (.cells pv.toArray 40)).alloc (.cells ev.toArray 30)) (.cells #[.int .i64 0,.int .i64 0,.string {data:=#[]}] 27);have e3:=World.alloc_heap_new (((w.alloc (.cells pv.toArray 40)).alloc (.cells ev.toArray 30)).alloc (.cells #[.int .i64 0,.int .i64 0,.string {data:=#[]}] 27)) (.cells #[.bool Q4] 4);simp only[World.size_alloc]at e1 e2 e3;have b1:=λ(W:World)(o:Obj) k h=>Below.heap_alloc W o k h
 refine⟨?_,?_,?_,e3⟩
 ·exact(b1 _ _ _ (by simp<;>omega)).trans ((b1 _ _ _ (by simp<;>omega)).trans ((b1 _ _ _ sw).trans e0))
 ·exact(b1 _ _ _ (by simp<;>omega)).trans ((b1 _ _ _ sw).trans e1)
 ·exact(b1 _ _ _ sw).trans e2
theorem Gl(hub:∀b,U b->b<w.heap.size)(hgl:sX CH w U)(hx:nC w U ρ e a c){W:World}(hb:Below w.heap.size w W):
  CallsIn Fence.wide n Tryz.prog 35 #[.agg (bp e a c).toArray] W λe' w'=>e'=.returned (.bool (cA e))/\Below W.heap.size W w':=by
 refine(callsIn_wide.2 (yU Sn (args:=[zz .expr e]) (vals:=[.agg (bp e a c).toArray]) (U:=U) (ρ:=ρ) (To e) ⟨rfl,λj cc v hc hv=>?_⟩ (λb h=>ia (hub b h) hb.size) (λg=>(hgl g).mono hb.size (λb hb' _=>hb.block b hb') (λ_ _ h=>h) (λ_ _ h=>h)) rfl)).mono ?_
 ·match j,hc,hv with
  |0,hc,hv=>cases hc;cases hv;exact(hx.mono hb).agg
 ·rintro e' w' ⟨v,rfl,hb,U',ρ',hv⟩;cases hv;exact⟨rfl,hb⟩
theorem Qq(hub:∀b,U b->b<w.heap.size)(hgl:sX CH w U)(hx:nC w U ρ e a c)(hn:key<0\/(cl:Int)<=key\/cA e=Q4):
  CallsIn Fence.wide n Tryz.prog 14 #[.agg (Db p0 p1 p2 p3 p6 p7 p8 p9 p10 p11 p12 p13 p14 p15 ca cl cc key).toArray,.agg (bp e a c).toArray] w
   λe' w'=>e'=.returned (.tuple #[.agg (su (0,0,[])).toArray,.bool Q4])/\Below w.heap.size w w':=by
 obtain⟨x0,x1,x2,x3⟩:=Oo w (Db p0 p1 p2 p3 p6 p7 p8 p9 p10 p11 p12 p13 p14 p15 ca cl cc key) (bp e a c);have hb0:=BU w (Db p0 p1 p2 p3 p6 p7 p8 p9 p10 p11 p12 p13 p14 p15 ca cl cc key) (bp e a c);refine callsIn_of_wp_marks Tryz.func14 rfl trivial ?_ rfl;simp only[Tryz.ntmps14,List.size_toArray,eE,jI,Nat.reduceAdd,Nat.reduceSub,Array.replicate_succ,Array.replicate_zero,List.push_toArray,List.append_toArray,po,List.cons_append];by_cases h1:key<0
 ·have g1:Q0 (key<0)=Q3:=by simpa using h1
  gi_wp2
  refine⟨trivial,?_⟩
  gi_wp2
  exact⟨_,nh rfl rfl x2 x3,rfl,hb0⟩
 ·by_cases h2:(cl:Int)<=key
  ·have g1:Q0 (key<0)=Q4:=by simpa using h1
   have g2:Q0 ((cl:Int)<=key)=Q3:=by simpa using h2
   gi_wp2
   refine⟨trivial,?_⟩
   gi_wp2
   exact⟨_,nh rfl rfl x2 x3,rfl,hb0⟩
  ·have g1:Q0 (key<0)=Q4:=by simpa using h1
   have g2:Q0 ((cl:Int)<=key)=Q4:=by simpa using h2
   have hm:cA e=Q4:=(hn.resolve_left h1).resolve_left h2
   gi_wp2
   refine⟨trivial,λh=>(by cases h),(Gl _ hub hgl hx hb0).mono ?_⟩;rintro e' w' ⟨rfl,hb⟩;rw[hm];have c2:=(hb.block _ (dU.1 x2).1).trans x2;have c3:=(hb.block _ (dU.1 x3).1).trans x3;obtain⟨d0,d1,d2,d3,d4,d5⟩:=zgV c2;obtain⟨d6,d7⟩:=zgD c3
   gi_wp2
   refine⟨_,nh rfl rfl (jm (HZ c2 (0,0,[])) 0 _ ow) (heap_set (vt c3 (0,0,[]) ow) 0 _),rfl,?_⟩;exact((hb0.trans (hb.mono hb0.size)).trans (tV (0,0,[]) ow)).setCell (p:=⟨w.heap.size+1+1+1,0,Q2⟩) sg _
end
end Cad
namespace Go.Proofs
open Cad (ae zF)
open Go.Shelf Go.RowKit Go.Lib Go.Sort
open List renaming drop→Qh
open List renaming take→Qg
open Bool renaming false→Q4
open Bool renaming true→Q3
open Option renaming none→Q2
open Option renaming some→Q1
open Decidable renaming decide→Q0
open Int (toNat)
open List (length)
theorem gd_of{w w':World}(h:Below w.heap.size w w')(hd:w.drawn<=w'.drawn):∃q os',w'=grow (w.drewN q) os':=by
 refine⟨w'.drawn-w.drawn,w'.heap.extract w.heap.size w'.heap.size,?_⟩;have hh:w'.heap=w.heap++w'.heap.extract w.heap.size w'.heap.size:=by
  apply Array.ext_getElem?;intro i;by_cases hi:i<w.heap.size
  ·rw[Array.getElem?_append_left hi,h.block i hi]
  ·rw[Array.getElem?_append_right (by omega)];have hs:=h.size;by_cases hi2:i<w'.heap.size
   ·rw[Array.getElem?_extract,if_pos (by omega)];congr 1;omega
   ·rw[Array.getElem?_eq_none (by omega),Array.getElem?_eq_none (by simp;omega)]
 obtain⟨heap,tape,drawn,os,output⟩:=w;obtain⟨heap',tape',drawn',os',output'⟩:=w';have h1:=h.os;have h2:=h.tape;have h3:=h.output;simp only at h1 h2 h3 hd hh;subst h1 h2 h3;unfold grow World.drewN;simp only[World.mk.injEq,true_and,and_true];exact⟨hh,by omega⟩
set_option maxHeartbeats 1000000 in
theorem Tryz.odd63(r:Nat)(W:World):Calls Tryz.prog 176 #[.int .i32 (r:Int)] W λe w'=>e=.returned (.bool (Q0 ((r:Int)<32)||Q0 ((r:Int)>126)))/\w'=W:=by
 go_enter Tryz.func176,Tryz.ntmps176
 go_wp2
 ·go_ret
  exact⟨by simp,rfl⟩
 ·rename_i h
  go_ret
  exact⟨by simp,rfl⟩
set_option maxHeartbeats 4000000 in
set_option maxRecDepth 1000000 in
theorem Tryz.indexFunc112(p:Nat->Bool)(s:ByteArray)(w:World)(hp:∀(W:World)(x:Nat),Calls Tryz.prog 176 #[.int .i32 (x:Int)] W λe w'=>e=.returned (.bool (p x))/\w'=W):
  Calls Tryz.prog 222 #[.string s,.func (.func 176) #[] #[],.bool Q3] w λe w'=>e=.returned (.int .i64 (Lib.idxFunc p Q3 s))/\Below w.heap.size w w'/\w.drawn<=w'.drawn:=by
 go_enter Tryz.func222,Tryz.ntmps222
 go_wp2
 go_loopg [] s.size (λgf wx=>∃pos:Nat,wx.heap[w.heap.size]?=Q1 (.stringIter s pos)/\(Below w.heap.size w wx/\w.drawn<=wx.drawn)/\Lib.idxFuncFrom p Q3 s gf pos=Lib.idxFunc p Q3 s/\s.size<=pos+gf)
 case atStart=>exact⟨0,World.iter_heap w s 0,⟨(Below.refl _ w).alloc (ae _) _,ae _⟩,rfl,by omega⟩
 case round=>
  obtain⟨pos,hit,⟨hbw,hdr⟩,hleft,hfu⟩:=hrel;by_cases hps:pos<s.size
  ·obtain⟨g',rfl⟩:∃g',gk=g'+1:=⟨gk-1,by omega⟩;have hnx:∀ty,(Instr.next (.pointer (Q1 ⟨w.heap.size,0,Q2⟩)) Q3 ty).run Tryz.prog wr=_:=λty=>Lib.run_next_any_at wr w.heap.size s pos ty hit hps
   have hwd:=Lib.width_pos s pos;obtain⟨R,hR⟩:∃R,(Utf8.decode s pos).1=R:=⟨_,rfl⟩;obtain⟨K,hK⟩:∃K,(Utf8.decode s pos).2=K:=⟨_,rfl⟩;simp only[Lib.idxFuncFrom,hps,if_true,hR,hK]at hleft;rw[hR,hK]at hnx;rw[hK]at hwd;have hit2:=Lib.iterAt_heap wr w.heap.size s pos (pos+K) hit;have hbw2:=Lib.below_iterAt hbw (k:=w.heap.size) (ae _) s (pos+K);have hdr2:w.drawn<=(wr.iterAt w.heap.size s (pos+K)).drawn:=hdr;obtain⟨W,hWd⟩:∃W,wr.iterAt w.heap.size s (pos+K)=W:=⟨_,rfl⟩;rw[hWd]at hnx hit2 hbw2 hdr2;have cS:=hp W R;clear hp;cases hsp:p R<;>rw[hsp]at cS<;>simp only[hsp,if_true,zF,if_false]at hleft
   ·go_wp2_with (go_at_call 176;refine cS.mono ?_;rintro e W' ⟨rfl,rfl⟩)
    go_roundg g'
    case measure=>omega
    case rel=>exact⟨pos+K,hit2,⟨hbw2,hdr2⟩,hleft,by omega⟩
   ·go_wp2_with (go_at_call 176;refine cS.mono ?_;rintro e W' ⟨rfl,rfl⟩)
    go_ret
    exact⟨by rw[<-hleft]<;>rfl,hbw2,hdr2⟩
  ·have hnx:∀ty,(Instr.next (.pointer (Q1 ⟨w.heap.size,0,Q2⟩)) Q3 ty).run Tryz.prog wr=_:=λty=>Lib.run_next_end_at wr w.heap.size s pos ty hit hps
   rw[Lib.idxFuncFrom_end p Q3 s gk pos hps]at hleft
   go_wp2
   go_ret
   exact⟨by rw[<-hleft]<;>rfl,hbw,hdr⟩
theorem Tryz.indexFunc64(p:Nat->Bool)(s:ByteArray)(w:World)(hp:∀(W:World)(x:Nat),Calls Tryz.prog 176 #[.int .i32 (x:Int)] W λe w'=>e=.returned (.bool (p x))/\w'=W):
  Calls Tryz.prog 177 #[.string s,.func (.func 176) #[] #[]] w λe w'=>e=.returned (.int .i64 (Lib.idxFunc p Q3 s))/\Below w.heap.size w w'/\w.drawn<=w'.drawn:=by
 have h:=λW'=>Tryz.indexFunc112 p s W' hp
 go_enter Tryz.func177,Tryz.ntmps177
 go_wp2_with (go_at_call 222;refine(h _).mono ?_;rintro e w' ⟨rfl,h1,h2⟩)
 go_ret
 exact⟨rfl,h1,h2⟩
end Go.Proofs
namespace Cad
open Go Go.Proofs Go.Sort
open List renaming drop→Qh
open List renaming take→Qg
open AO renaming box→Qa
open Tr renaming val→Q8
open Sh renaming expr→Q5
open Bool renaming false→Q4
open Bool renaming true→Q3
open Option renaming none→Q2
open Option renaming some→Q1
open Decidable renaming decide→Q0
open Int (toNat)
open List (length)
set_option maxHeartbeats 4000000
open Tr (chk br)
open AV (nils agg tup ptr kb str sl)
theorem zmf(W:World)(x:Nat):Calls Tryz.prog 176 #[.int .i32 (x:Int)] W λe w'=>e=.returned (.bool (C3 x))/\w'=W:=
 (Tryz.odd63 x W).mono λe w' h=>⟨by rw[h.1];unfold C3;cases Q0 ((x:Int)<32)<;>rfl,h.2⟩
theorem zmd(k n:Int)(s:zB)(W:World):Calls Tryz.prog 129 #[.agg #[.int .i64 k,.int .i64 n,.string ⟨s.toArray⟩]] W λe w'=>e=.returned (.bool (bg (k,n,s)))/\RowKit.Below W.heap.size W w'/\W.drawn<=w'.drawn:=by
 have h:=λW'=>Tryz.indexFunc64 (λr=>C3 r) ⟨s.toArray⟩ W' zmf
 have ho:Lib.idxFunc (λr=>C3 r) Q3 ⟨s.toArray⟩=pU s:=rfl;rw[ho]at h;have hv:bg (k,n,s)=bg (k,n,s):=rfl;generalize hR:bg (k,n,s)=R at hv⊢;clear hv;unfold bg at hR;generalize pU s=I at h hR
 go_enter Tryz.func129,Tryz.ntmps129
 go_wp2_with (go_at_call 177;refine(h _).mono ?_;rintro e w' ⟨rfl,h1,h2⟩)
 all_goals
  go_ret
  refine⟨?_,?_,?_⟩
  ·rw[<-hR];congr 2;simp_all<;>(rw[<-hR];first|(rw[ao ow];rfl)|(rw[beq_false_of_ne ‹¬n=0›];first|rfl|(rw[beq_false_of_ne ‹¬n=1›];rfl)))
  ·first
   |exact(RowKit.Below.refl _ _).alloc (ae _) _
   |exact((RowKit.Below.refl _ W).alloc (ae _) _).trans (h1.mono sw)
  ·first
   |exact ae _
   |exact h2
theorem R0(W w':World)(a b c x y z:Value)(h:RowKit.Below ((W.alloc (.cells #[a,b,c] 27)).alloc (.cells #[x,y,z] 27)).heap.size ((W.alloc (.cells #[a,b,c] 27)).alloc (.cells #[x,y,z] 27)) w'):
  w'.cell? ⟨W.heap.size,0,Q2⟩=Q1 a/\w'.cell? ⟨W.heap.size,1,Q2⟩=Q1 b/\w'.cell? ⟨W.heap.size,2,Q2⟩=Q1 c/\
  w'.cell? ⟨W.heap.size+1,0,Q2⟩=Q1 x/\w'.cell? ⟨W.heap.size+1,1,Q2⟩=Q1 y/\w'.cell? ⟨W.heap.size+1,2,Q2⟩=Q1 z/\
  w'.frozen? ⟨W.heap.size+1,0,Q2⟩=Q4/\w'.frozen? ⟨W.heap.size+1,1,Q2⟩=Q4/\w'.frozen? ⟨W.heap.size+1,2,Q2⟩=Q4/\w'.heap[W.heap.size+1]?=Q1 (.cells #[x,y,z] 27 (0,0)):=by
 have b0:=h.block W.heap.size sg;have b1:=h.block (W.heap.size+1) sw;have e0:((W.alloc (.cells #[a,b,c] 27)).alloc (.cells #[x,y,z] 27)).heap[W.heap.size]?=Q1 (.cells #[a,b,c] 27 (0,0)):=(bj _ _ _ sw).trans (cD _ _);have e1:((W.alloc (.cells #[a,b,c] 27)).alloc (.cells #[x,y,z] 27)).heap[W.heap.size+1]?=Q1 (.cells #[x,y,z] 27 (0,0)):=by
  have:=cD (W.alloc (.cells #[a,b,c] 27)) (.cells #[x,y,z] 27)
  rwa [aX]at this
 rw[e0]at b0;rw[e1]at b1;simp[World.cell?,World.frozen?,b0,b1]
theorem KA(k n:Int)(s:zB)(W:World):Calls Tryz.prog 170 #[.agg #[.int .i64 k,.int .i64 n,.string ⟨s.toArray⟩]] W λe w'=>e=.returned (.agg #[.int .i64 (au (k,n,s)).1,.int .i64 (au (k,n,s)).2.1,.string ⟨(au (k,n,s)).2.2.toArray⟩])/\RowKit.Below W.heap.size W w'/\W.drawn<=w'.drawn:=by
 have h:=λW'=>zmd k n s W'
 unfold au;generalize bg (k,n,s)=R at h⊢
 go_enter Tryz.func170,Tryz.ntmps170
 go_wp2_with (go_at_call 129;refine(h _).mono ?_;rintro e w' ⟨rfl,h1,h2⟩;obtain⟨c0,c1,c2,d0,d1,d2,g0,g1,g2,bb⟩:=R0 W w' (.int .i64 k) (.int .i64 n) (.string ⟨s.toArray⟩) (.int .i64 0) (.int .i64 0) (.string ⟨#[]⟩) h1)
 all_goals
  have hB:RowKit.Below W.heap.size W w':=(((RowKit.Below.refl _ W).alloc (ae _) _).alloc sw _).trans (h1.mono sg);have hd:W.drawn<=w'.drawn:=h2;refine bodyPost_ret (results_cell_row rfl _ _ (W.heap.size+1) 27 _ (0,0) _ rfl (by simp[World.setCell,uj,bb];rfl) Tryz.underlying27 rfl kw) rfl ⟨?_,?_,?_⟩
  ·rfl
  ·exact((hB.setCell (p:=⟨W.heap.size+1,0,Q2⟩) sw _).setCell (p:=⟨W.heap.size+1,1,Q2⟩) sw _).setCell (p:=⟨W.heap.size+1,2,Q2⟩) sw _
  ·exact hd
open Go Go.Proofs
set_option maxRecDepth 100000
theorem Vi(x:Int)(W:World):Calls Tryz.prog 216 #[.int .i64 x] W λe w'=>e=.returned (.bool Q4)/\w'=W:=by
 go_enter Tryz.func216,Tryz.ntmps216
 go_wp2
 go_ret
 exact⟨sw,rfl⟩
theorem Vj(x:Int)(W:World):Calls Tryz.prog 217 #[.int .i64 x] W λe w'=>e=.returned (.bool Q4)/\w'=W:=by
 go_enter Tryz.func217,Tryz.ntmps217
 go_wp2
 go_ret
 exact⟨sw,rfl⟩
theorem Vk(x:ByteArray)(W:World):Calls Tryz.prog 218 #[.string x] W λe w'=>e=.returned (.bool Q4)/\w'=W:=by
 go_enter Tryz.func218,Tryz.ntmps218
 go_wp2
 go_ret
 exact⟨sw,rfl⟩
theorem S3(x y:Int):tn x y=(if x<y then -1 else if y<x then 1 else 0:Int):=by
 unfold tn;simp
theorem QD(x y:Int):kR x y=(if x<y then -1 else if y<x then 1 else 0:Int):=by
 unfold kR;simp
theorem ze8(x y:Int)(W:World):Calls Tryz.prog 172 #[.int .i64 x,.int .i64 y] W λe w'=>e=.returned (.int .i64 (tn x y))/\w'=W:=by
 have h1:=λW'=>Vi x W'
 have h2:=λW'=>Vi y W'
 rw[S3]
 go_enter Tryz.func172,Tryz.ntmps172
 go_wp2_with (first|(go_at_call 216;refine(h1 _).mono ?_;rintro e w' ⟨rfl,rfl⟩)|(go_at_call 216;refine(h2 _).mono ?_;rintro e w' ⟨rfl,rfl⟩))
 all_goals
  go_ret
  refine⟨?_,rfl⟩;congr 2
theorem ze9(x y:Int)(W:World):Calls Tryz.prog 173 #[.int .i64 x,.int .i64 y] W λe w'=>e=.returned (.int .i64 (kR x y))/\w'=W:=by
 have h1:=λW'=>Vj x W'
 have h2:=λW'=>Vj y W'
 rw[QD]
 go_enter Tryz.func173,Tryz.ntmps173
 go_wp2_with (first|(go_at_call 217;refine(h1 _).mono ?_;rintro e w' ⟨rfl,rfl⟩)|(go_at_call 217;refine(h2 _).mono ?_;rintro e w' ⟨rfl,rfl⟩))
 all_goals
  go_ret
  refine⟨?_,rfl⟩;congr 2
theorem zfa(x y:zB)(W:World):Calls Tryz.prog 174 #[.string ⟨x.toArray⟩,.string ⟨y.toArray⟩] W λe w'=>e=.returned (.int .i64 (o7 x y))/\w'=W:=by
 have h1:=λW'=>Vk ⟨x.toArray⟩ W'
 have h2:=λW'=>Vk ⟨y.toArray⟩ W'
 have hg:∀W',(binOp .gtr 9 (.string ⟨x.toArray⟩) (.string ⟨y.toArray⟩)).run Tryz.prog W'=.ok (.bool (!(Op.bytesLess x y||x==y))) W':=λW'=>by simp[binOp,Op.stringOp]
 have hc:o7 x y=(if Op.bytesLess x y=Q3 then -1 else if(!(Op.bytesLess x y||x==y))=Q3 then 1 else 0:Int):=by unfold o7;simp
 rw[hc];clear hc
 go_enter Tryz.func174,Tryz.ntmps174
 go_wp2_with (first|(go_at_call 218;refine(h1 _).mono ?_;rintro e w' ⟨rfl,rfl⟩)|(go_at_call 218;refine(h2 _).mono ?_;rintro e w' ⟨rfl,rfl⟩))
 all_goals
  go_ret
  refine⟨?_,rfl⟩;simp_all
theorem znu(x y z:Int)(b:Nat)(W:World)(h0:W.cell? ⟨b,0,Q2⟩=Q1 (.int .i64 x))(h1:W.cell? ⟨b,1,Q2⟩=Q1 (.int .i64 y))(h2:W.cell? ⟨b,2,Q2⟩=Q1 (.int .i64 z)):
  Calls Tryz.prog 171 #[.slice (Q1 ⟨b,0,Q2⟩) 3 3] W λe w'=>e=.returned (.int .i64 (HQ [x,y,z]))/\w'=W:=by
 have hv:HQ [x,y,z]=if x=0 then(if y=0 then z else y)else x:=by
  unfold HQ;unfold HQ;unfold HQ;unfold HQ;by_cases hx:x=0<;>by_cases hy:y=0<;>by_cases hz:z=0<;>simp[hx,hy,hz]
 rw[hv];clear hv
 go_enter Tryz.func171,Tryz.ntmps171
 go_wp2
 by_cases hx:x=0
 ·subst hx;by_cases hy:y=0
  ·subst hy;by_cases hz:z=0
   ·subst hz;refine wp_loop_rounds 4 ?_
    (rw[rounds_succ];go_wp2)
    (rw[rounds_succ];go_wp2)
    (rw[rounds_succ];go_wp2)
    (rw[rounds_succ];go_wp2)
    go_ret
    exact⟨by simp[*],rfl⟩
   ·refine wp_loop_rounds 4 ?_
    (rw[rounds_succ];go_wp2)
    (rw[rounds_succ];go_wp2)
    (rw[rounds_succ];go_wp2)
    go_ret
    exact⟨by simp[*],rfl⟩
  ·refine wp_loop_rounds 4 ?_
   (rw[rounds_succ];go_wp2)
   (rw[rounds_succ];go_wp2)
   go_ret
   exact⟨by simp[*],rfl⟩
 ·refine wp_loop_rounds 4 ?_
  (rw[rounds_succ];go_wp2)
  go_ret
  exact⟨by simp[*],rfl⟩
structure zn2 (p:Prop):Prop where
 out:p
theorem zcp{A w':World}{p q:Nat}{a b c x y z:Value}(e0:A.heap[p]?=Q1 (.cells #[a,b,c] 27 (0,0)))(e1:A.heap[q]?=Q1 (.cells #[x,y,z] 27 (0,0)))(h:RowKit.Below A.heap.size A w'):
  w'.heap[p]?=Q1 (.cells #[a,b,c] 27 (0,0))/\w'.heap[q]?=Q1 (.cells #[x,y,z] 27 (0,0)):=
 ⟨(h.block p (dU.1 e0).1).trans e0,(h.block q (dU.1 e1).1).trans e1⟩
theorem pz{A:World}{p:Nat}{a b c:Value}(e0:A.heap[p]?=Q1 (.cells #[a,b,c] 27 (0,0))):
  A.cell? ⟨p,0,Q2⟩=Q1 a/\A.cell? ⟨p,1,Q2⟩=Q1 b/\A.cell? ⟨p,2,Q2⟩=Q1 c/\A.frozen? ⟨p,0,Q2⟩=Q4/\A.frozen? ⟨p,1,Q2⟩=Q4/\A.frozen? ⟨p,2,Q2⟩=Q4:=by
 simp[World.cell?,World.frozen?,e0]
theorem ZT(k n:Int)(s:zB)(k' n':Int)(s':zB)(W:World):Calls Tryz.prog 122 #[.agg #[.int .i64 k,.int .i64 n,.string ⟨s.toArray⟩],.agg #[.int .i64 k',.int .i64 n',.string ⟨s'.toArray⟩]] W λe w'=>e=.returned (.int .i64 (cW (k,n,s) (k',n',s')))/\RowKit.Below W.heap.size W w'/\W.drawn<=w'.drawn:=by
 have hk:=λW'=>KA k n s W'
 have hk':=λW'=>KA k' n' s' W'
 have mixed:Tryz.prog.follows .mixedOrders=Q3:=by kernel_rfl
 unfold cW;generalize au (k,n,s)=a at hk⊢;generalize au (k',n',s')=b at hk'⊢;obtain⟨a1,a2,a3⟩:=a;obtain⟨b1,b2,b3⟩:=b
 dsimp only at hk hk'⊢
 have k1:=λW'=>ze8 a1 b1 W'
 have k2:=λW'=>ze9 a2 b2 W'
 have k3:=λW'=>zfa a3 b3 W'
 generalize tn a1 b1=m1 at k1⊢;generalize kR a2 b2=m2 at k2⊢;generalize o7 a3 b3=m3 at k3⊢
 go_enter Tryz.func122,Tryz.ntmps122
 go_wp2
 obtain⟨W2,hW2⟩:∃W2,(W.alloc (.cells #[.int .i64 k,.int .i64 n,.string ⟨s.toArray⟩] 27)).alloc (.cells #[.int .i64 k',.int .i64 n',.string ⟨s'.toArray⟩] 27)=W2:=⟨_,rfl⟩;have e0:W2.heap[W.heap.size]?=Q1 (.cells #[.int .i64 k,.int .i64 n,.string ⟨s.toArray⟩] 27 (0,0)):=by rw[<-hW2];exact(bj _ _ _ sw).trans (cD _ _)
 have e1:W2.heap[W.heap.size+1]?=Q1 (.cells #[.int .i64 k',.int .i64 n',.string ⟨s'.toArray⟩] 27 (0,0)):=by
  rw[<-hW2];have:=cD (W.alloc (.cells #[.int .i64 k,.int .i64 n,.string ⟨s.toArray⟩] 27)) (.cells #[.int .i64 k',.int .i64 n',.string ⟨s'.toArray⟩] 27)
  rwa [aX]at this
 have hB2:RowKit.Below W.heap.size W W2:=by rw[<-hW2];exact((RowKit.Below.refl _ W).alloc (ae _) _).alloc sw _
 have hd2:W.drawn<=W2.drawn:=by rw[<-hW2];exact ae _
 rw[hW2];clear hW2;obtain⟨c0,c1,c2,c3,c4,c5⟩:=pz e0;obtain⟨d0,d1,d2,d3,d4,d5⟩:=pz e1;rename_i K hK
 have hrest:∀W3:World,W3.heap[W.heap.size]?=Q1 (.cells #[.int .i64 a1,.int .i64 a2,.string ⟨a3.toArray⟩] 27 (0,0))->W3.heap[W.heap.size+1]?=Q1 (.cells #[.int .i64 b1,.int .i64 b2,.string ⟨b3.toArray⟩] 27 (0,0))->RowKit.Below W.heap.size W W3->W.drawn<=W3.drawn->
   K {tmps:=#[.agg #[.int .i64 k,.int .i64 n,.string ⟨s.toArray⟩],.agg #[.int .i64 k',.int .i64 n',.string ⟨s'.toArray⟩],.pointer (Q1 ⟨W.heap.size,0,Q2⟩),.pointer (Q1 ⟨W.heap.size+1,0,Q2⟩),.int .i64 0,.agg #[.int .i64 k,.int .i64 n,.string ⟨s.toArray⟩],.agg #[.int .i64 a1,.int .i64 a2,.string ⟨a3.toArray⟩],.agg #[.int .i64 k',.int .i64 n',.string ⟨s'.toArray⟩],.agg #[.int .i64 b1,.int .i64 b2,.string ⟨b3.toArray⟩],undef,undef,undef,undef,undef,undef,undef,undef,undef,undef,undef,undef,undef,undef,undef,undef,undef],defers:=[]} W3:=by
  intro W3 w0 w1 hB3 Sg;apply hK;clear hK;have hsz:W.heap.size+1<W3.heap.size:=(dU.1 w1).1;obtain⟨x0,x1,x2,x3,x4,x5⟩:=pz w0;obtain⟨y0,y1,y2,y3,y4,y5⟩:=pz w1
  go_wp2
  go_still_tail 15,mixed
  still_call (k1 _)
  repeat still_step
  still_call (k2 _)
  repeat still_step
  still_call (k3 _)
  refine wpStill_nil ?_;change wpList _ _ _ _ _ W3.drew;have hd4:W.drawn<=W3.drew.drawn:=cC Sg (Nat.le_succ _);have hB4:RowKit.Below W.heap.size W W3.drew:=hB3.drew;generalize W3.drew=W4 at hd4 hB4⊢
  go_wp2_with (go_at_call 171;refine(znu m1 m2 m3 W4.heap.size _ sw sw sw).mono ?_;rintro e w' ⟨rfl,rfl⟩)
  go_ret
  exact⟨rfl,hB4.alloc hB4.size _,hd4⟩
 have hrk:=zn2.mk hrest;clear hK hrest k1 k2 k3
 go_region_with (first
  |(go_at_call 170;refine(hk _).mono ?_;clear hk;rintro e w1 ⟨rfl,h1,Sg⟩;obtain⟨f0,f1⟩:=zcp (A:=W2.drew) e0 e1 h1;obtain⟨p0,p1,p2,p3,p4,p5⟩:=pz f0;obtain⟨q0,q1,q2,q3,q4,q5⟩:=pz f1)
  |(go_at_call 170;refine(hk' _).mono ?_;clear hk';rintro e w2 ⟨rfl,h2,hd4⟩;obtain⟨g0,g1⟩:=zcp f0 f1 h2;obtain⟨r0,r1,r2,r3,r4,r5⟩:=pz g0;obtain⟨s0,s1,s2,s3,s4,s5⟩:=pz g1))
 all_goals
  refine hrk.out _ ?_ ?_ ?_ ?_
  ·simp[World.setCell,uj,g0]
  ·simp[World.setCell,uj,g1]
  ·have hs1:=h1.size;have hs2:=h2.size;have hB5:RowKit.Below W.heap.size W w2:=(hB2.trans ((RowKit.Below.mono ⟨h1.os,h1.tape,h1.output,h1.size,h1.block⟩ hB2.size))).trans (h2.mono (cC hB2.size hs1));exact(((((hB5.setCell (p:=⟨W.heap.size,0,Q2⟩) sw _).setCell (p:=⟨W.heap.size,1,Q2⟩) sw _).setCell (p:=⟨W.heap.size,2,Q2⟩) sw _).setCell (p:=⟨W.heap.size+1,0,Q2⟩) sw _).setCell (p:=⟨W.heap.size+1,1,Q2⟩) sw _).setCell (p:=⟨W.heap.size+1,2,Q2⟩) sw _
  ·have hs3:W2.drawn+1<=w1.drawn:=Sg;have hs4:W.drawn<=w2.drawn:=by omega
   simpa[World.setCell]using hs4
theorem CC:∀(l:List R12)(i j:Nat)(hi:i<l.length),j<12->(flat12 l)[i*12+j]?=l[i].1[j]?
 | x::r,0,j,_,hj=>by
  show(x.1++flat12 r)[0*12+j]?=x.1[j]?;rw[mG (by rw[x.2.1];omega),Nat.zero_mul,jJ]
 | x::r,i+1,j,hi,hj=>by
  show(x.1++flat12 r)[(i+1)*12+j]?=_;rw[nG (by rw[x.2.1];omega),x.2.1,show(i+1)*12+j-12=i*12+j by omega,CC r i j (by simpa using hi) hj];rfl
@[match_pattern] abbrev znv:Sh:=.pr (.pr .str (.pr (.sl (.pr .str (.pr (.int .i64) .bool))) (.pr (.int .i64) (.pr (.sl (.int .i64)) (.pr (.sl (.pr (.int .i64) .str)) .expr))))) (.sl (.sl (.pr (.int .i64) (.pr (.int .i64) .str))))
def F91:zV:=λargs hp n=>match args with
 | [.clo (.func 108) [] [.ptr id 0]]=>match hp id with
  |.box [.sl znv l]=>.chk (Q0 (0<length l)) (.chk (Q0 (length l<=1000)) (.ok {val:=.vec n,nw:=[.vec zh l]}))
  |_=>.err
 |_=>.err
theorem Mq{w:World}{U:Nat->Prop}{ρ:Nat->Option Value}{hp:Nat->AO}{n Bs:Nat}{l:List (Sem zh)}{sv:Value}(hub:∀b,U b->b<w.heap.size)(hBs:w.cell? ⟨Bs,0,Q2⟩=Q1 sv)(hr:Rv w U ρ (.sl zh l) sv)(hn:ρ n=Q2)(h0:0<l.length)(h1:l.length<=1000):
  Calls Tryz.prog 106 #[.func (.func 108) #[] #[.pointer (Q1 ⟨Bs,0,Q2⟩)]] w λe w'=>∃v U' ρ',e=.returned v/\Ef n hp {val:=.vec n,nw:=[.vec zh l]} w U ρ v w' U' ρ':=by
 obtain⟨a,cap,rfl,hcap,hm,h⟩:=oG hr;rcases h with rfl|⟨b,o,rfl,hrr⟩
 ·simp at h0
 have e12:zh.size=12:=rfl;have hex:∀i(hi:i<l.length) j,j<12->∃c x,(zq zh l[i])[j]?=Q1 c/\w.cell? ⟨b,o+i*12+j,Q2⟩=Q1 x/\Rv w U ρ c x/\x.oneCell'=Q3:=by
  intro i hi j hj;have hlen:(zq zh l[i]).length=12:=zW zh l[i];have hget:(zq zh l[i])[j]?=Q1 ((zq zh l[i])[j]'(by rw[hlen];exact hj)):=zQ _;obtain⟨x,h1,h2⟩:=hrr i hi j _ hget;exact⟨_,x,hget,h1,h2,fL zh l[i] j _ x hget h2⟩
 have hb:b<w.heap.size:=by
  obtain⟨c,x,_,h2,_⟩:=hex 0 h0 0 ow;exact nJ h2
 let zs:List R12:=List.ofFn λi:Fin l.length=>⟨(List.range 12).map λj=>(w.cell? ⟨b,o+i.1*12+j,Q2⟩).getD undef,sw,λv hv=>by
  obtain⟨j,hj,rfl⟩:=bn.1 hv;obtain⟨c,x,_,h2,_,h4⟩:=hex i.1 i.2 j (by simpa using hj);rw[h2];exact h4⟩
 have hzl:zs.length=l.length:=by simp[zs]
 have hzc:∀i(hi:i<zs.length),∀j v,zs[i].1[j]?=Q1 v->w.cell? ⟨b,o+i*12+j,Q2⟩=Q1 v:=by
  intro i hi j v hv;simp only[zs,List.getElem_ofFn,fA,eD]at hv;obtain⟨q,hq,hv⟩:=hv;obtain⟨hlt,rfl⟩:=xS hq;obtain⟨c,x,_,h2,_,_⟩:=hex i (by rw[<-hzl];exact hi) q hlt;rw[h2]at hv;rw[h2,<-hv];rfl
 refine(callsIn_wide.1 (Tryz.collect_in Fence.wide 4 trivial trivial trivial rfl ow Bs b o cap zs ow w (nJ hBs) hb (by rw[hzl];exact hBs) hzc)).mono ?_;rintro e w' ⟨v,rfl,hown,hbel⟩;rcases hown.2 with⟨_,h⟩|⟨g,cap',cur,rfl,hg,hG,hle,_,hsz,htk⟩
 ·omega
 have hglt:g<w'.heap.size:=(dU.1 hG).1
 obtain⟨U2,u1,u2,u3⟩:∃U2:Nat->Prop,(∀b,b<w.heap.size->(U2 b↔U b))/\U2 g/\∀b,U2 b->b<w'.heap.size:=
  ⟨λb=>U b\/b=g,λb hb=>⟨λh=>h.elim id λe=>absurd e ow,.inl⟩,.inr rfl,λb h=>by
   rcases h with h|rfl
   ·exact ia (hub b h) hbel.size
   ·exact hglt⟩
 have hmono:∀{c:AV}{x:Value},Rv w U ρ c x->Rv w' U2 (mz ρ n (.slice (Q1 ⟨g,0,Q2⟩) zs.length cap')) c x:=λh=>h.mono hbel.size (λb' hb' _=>hbel.block b' hb') (λb hb h=>(u1 b hb).1 h) (eW hn)
 refine⟨_,U2,_,rfl,Ef.newVec sw hn rfl (mg.below hbel) (λb hb _=>hbel.block b hb) u3 u1 ?_ ?_⟩
 ·refine⟨_,cap',by rw[hzl];simp[mz],hm,.inr ⟨g,47,cur,rfl,ow,u2,hG,hsz,ow,?_⟩⟩;intro i hi j c hc;have hj:j<12:=by have:=(dh.1 hc).1;rwa [zW]at this
  obtain⟨c',x,h1,h2,h3,_⟩:=hex i hi j hj;rw[hc]at h1;cases h1;refine⟨x,?_,hmono h3⟩;have hz:(flat12 zs)[i*12+j]?=Q1 x:=by
   rw[CC zs i j (by rw[hzl];exact hi) hj];simp only[zs,List.getElem_ofFn,fA];rw[ym hj];simp[h2]
  rw[<-htk]at hz;have:=List.getElem?_take.symm.trans hz;split at this
  ·rw[e12,<-sA];exact this
  ·cases this
 ·intro b' hb';simp[fa]at hb';exact .inl ow
theorem zjQ:FK 106 F91 where
 fn:=⟨Tryz.f106,kw,kw,kw⟩
 calls:=λw U ρ hp n args vals f fp hf hr hub hgl hfp hin hcl hnw=>by
  unfold F91 at hf;split at hf
  ·rename_i id;split at hf
   ·rename_i l hbx;simp only[Tr.val_chk,Tr.val_ok,bB,aO]at hf;obtain⟨h0,h1,rfl⟩:=hf;have hl:=hr.len
    match vals,hl,hr with
    |[va],_,hr=>
    have r0:=hr.rv 0 _ va rfl rfl;cases r0 with
    |clo _ _ _ vf vc hf hc hrf hrc=>
    match vf,hf,vc,hc,hrc with
    |[],_,[pv],_,hrc=>
    have r1:=hrc 0 _ pv rfl rfl;cases r1 with
    |ptr _ _ b0 hb0=>
    have iid:id∈fp:=hin id (by simp[AV.idsL,AV.ids]);have ob:=hfp.ob id iid;rw[hbx]at ob;obtain⟨b',T,arr,e1,hUB,hBB,hrl,h1c⟩:=ob;rw[hb0]at e1;cases e1;have hal:=hrl.len;have hsv:=hrl.rv 0 _ (arr.toList[0]'(by rw[<-hal];simp)) rfl (zQ _);refine⟨Mq hub ?_ hsv (hnw 0 sw) h0 h1,sw⟩;rw[World.cell?,hBB];simp
   ·simp at hf
  ·simp at hf
end Cad
