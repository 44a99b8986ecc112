/- The document's values that are known; expressions' forms and types; the same tables. The document's order, logic; expressions that may be; the same plans. -/
import Derived.Test.YtjfdpfapcmcncaaGreatDoorL12
import Derived.Test.YtjfdpfapcmcncaaGreatDoorL08
namespace Cad
open Go Go.Proofs
open List renaming map→Qi,drop→Qh,take→Qg
open AV renaming ptr→Qf,tup→Qe,agg→Qd,nils→Qb
open Tr renaming chk→Qc,«to»→Q9
open AO renaming box→Qa
open Sh renaming bool→Q7,str→Q6,expr→Q5
open Bool renaming false→Q4,true→Q3
open Option renaming some→Q1
open Decidable renaming decide→Q0
open Int (toNat)
open List (getD length)
open Tr (chk br re)
open AV (nils agg tup ptr kb str sl)
noncomputable section
set_option maxHeartbeats 4000000
def zca(x0:Sem zf):Tr (Empty⊕az):=
 Qc (mq x0)
 (br (sQ x0) (re (Qd [ai x0.1,ai x0.2.1,str x0.2.2]) [])
  (re (Qd [ai 0,ai 0,str []]) []))
def vF(x0:Sem zf):=ah [zf] t0 100000000 (zca x0)
def rt(x0:Sem zf):=(vF x0).isSome
def fm(x0:Sem zf):=o1 (vF x0)
def zaA:=FT [zf] [zf] λx=>vF x.1
theorem Xo:FK 56 zaA:=mO.T1 (f:=Tryz.f56) (keep:=k0) (e:=e0)
def zb9(x0:Sem zf)(x1:Sem Q7):Tr (Empty⊕az):=
 Qc (lr x1) (re (AV.bool (x0.1==(aW x1).1&&(x0.2.1==(aW x1).2.1&&(x0.2.2==(aW x1).2.2&&Q3)))) [])
def K3(x0:Sem zf)(x1:Sem Q7):=ah [Q7] t0 100000000 (zb9 x0 x1)
def mX(x0:Sem zf)(x1:Sem Q7):=(K3 x0 x1).isSome
def qc(x0:Sem zf)(x1:Sem Q7):=o1 (K3 x0 x1)
def zay:=FT [zf,Q7] [Q7] λx=>K3 x.1 x.2.1
theorem Xm:FK 30 zay:=mO.T1 (f:=Tryz.f30) (keep:=k0) (e:=e0)
def Hl(g:Sem Q5->Sem zg->Sem Q7)(c:Sem Q5->Sem zg->Bool):bW:=FJ.add 103 (zN [Q5,zg] [Q7] (λx=>c x.1 x.2.1) λx=>(g x.1 x.2.1,()))
theorem Mw{g:Sem Q5->Sem zg->Sem Q7}{c:Sem Q5->Sem zg->Bool}(hg:FK 103 (zN [Q5,zg] [Q7] (λx=>c x.1 x.2.1) λx=>(g x.1 x.2.1,()))):zt (Hl g c):=mO.add hg
abbrev UM:Nat->aN:=λ_=>{ }
theorem zgs(g:Sem Q5->Sem zg->Sem Q7)(c:Sem Q5->Sem zg->Bool):zI (Hl g c).P 103 Tryz.f103 2:=bR kw
def OM(g:Sem Q5->Sem zg->Sem Q7)(c:Sem Q5->Sem zg->Bool)(x0:Sem Q5)(x1:Sem zg):Tr (Empty⊕az):=
 let a0:=(↑(ze.l x0).length:Int)==0
 let a1:=(ze.v x0).1==0&&((ze.v x0).2.1==0&&((ze.v x0).2.2==[]&&Q3))
 let a2:=(↑(ze.l x0).length:Int)==1
 let a3:=zO 0 (ze.l x0).length
 let a4:=zm ((ze.l x0).getD (toNat 0) (zj Q5))
 let a5:=IntKind.i64.wrap (x1-1)
 let a6:=c a4 a5
 let a7:=g a4 a5
 let a8:=(↑(ze.l x0).length:Int)==2
 let a9:=zm ((ze.l x0).getD (toNat 1) (zj Q5))
 br (x1==0) (re (kb Q4) [])
 (br (ze.op x0==mH)
  (Qc (mq (ze.v x0)) (re (AV.bool (bif sQ (ze.v x0)then bif ze.s x0==[]then a0 else Q4 else Q4)) []))
  (br (ze.op x0==ee) (Qc (bif a1 then vM (ze.s x0)&&bif tZ (ze.s x0)then DG (ze.s x0)else Q3 else Q3) (re (AV.bool (bif a1 then bif tZ (ze.s x0)then bif !Ll (ze.s x0)then a0 else Q4 else Q4 else Q4)) [])) (br (bif ze.op x0==mI then Q3 else ze.op x0==oP)
  (Qc (bif a1 then bif ze.s x0==[]then bif a2 then a3&&a6 else Q3 else Q3 else Q3) (re (AV.bool (bif a1 then bif ze.s x0==[]then bif a2 then a7 else Q4 else Q4 else Q4)) [])) (Qc (Id (ze.op x0)) (br (Pr (ze.op x0)) (Qc
  (bif a1 then bif ze.s x0==[]then bif a8 then a3&&(a6&&bif a7 then zO 1 (ze.l x0).length&&c a9 a5 else Q3)else Q3 else Q3 else Q3) (re (AV.bool (bif a1 then bif ze.s x0==[]then bif a8 then bif a7 then g a9 a5 else Q4 else Q4 else Q4 else Q4)) [])) (re (kb Q4) []))))))
theorem zft(g:Sem Q5->Sem zg->Sem Q7)(c:Sem Q5->Sem zg->Bool)(x0:Sem Q5)(x1:Sem zg):rn (Hl g c) 0 UM Tryz.f103 [zz Q5 x0,zz zg x1] []=(OM g c x0 x1).map (lf Tryz.f103 e0):=kw
def ox(o:Option (zx (Qi Q1 [Q7]))):Sem Q7:=(λr:zx (Qi Q1 [Q7])=>r.1) (o.getD (cm [Q7]))
def Ic(g:Sem Q5->Sem zg->Sem Q7)(c:Sem Q5->Sem zg->Bool)(x0:Sem Q5)(x1:Sem zg):Option (zx (Qi Q1 [Q7])):=ah [Q7] t0 100000000 (OM g c x0 x1)
def fX:Nat->Sem Q5->Sem zg->Option (zx (Qi Q1 [Q7]))
 |0=>λ_ _=>none
 |n+1=>Ic (λx0 x1=>ox (fX n x0 x1)) λx0 x1=>(fX n x0 x1).isSome
theorem UC:zI FJ.P 103 Tryz.f103 2:=bR kw
theorem Jm:∀n,FK 103 (zN [Q5,zg] [Q7] (λx=>(fX n x.1 x.2.1).isSome) λx=>(ox (fX n x.1 x.2.1),()))
 |0=>eY ⟨Tryz.f103,UC.1,UC.2.1,UC.2.2.1⟩ (λ_=>rfl)
 |n+1=>kK (E:=Hl (λx0 x1=>ox (fX n x0 x1)) (λx0 x1=>(fX n x0 x1).isSome)) (ks:=[Q5,zg]) (outs:=[Q7]) (keep:=UM) (gas:=400) (n:=100000000) (e:=e0) (t:=t0) (i:=λx=>OM (λx0 x1=>ox (fX n x0 x1)) (λx0 x1=>(fX n x0 x1).isSome) x.1 x.2.1) (Mw (Jm n)) (zgs _ _) (λx=>zft _ _ x.1 x.2.1) (VG _ _ _ _ _) (λ_=>by kernel_rfl) (λ_=>by kernel_rfl)
def Ib(x0:Sem Q5)(x1:Sem zg):Option (zx (Qi Q1 [Q7])):=fX 16 x0 x1
def A3(x0:Sem Q5)(x1:Sem zg):Bool:=(Ib x0 x1).isSome
def Ia(x0:Sem Q5)(x1:Sem zg):Sem Q7:=ox (Ib x0 x1)
def za0:zV:=zN [Q5,zg] [Q7] (λx=>A3 x.1 x.2.1) λx=>(Ia x.1 x.2.1,())
theorem XP:FK 103 za0:=Jm 16
def J1(g:Sem Q5->Sem (Sh.sl zi)->Sem zg×Sem zg)(c:Sem Q5->Sem (Sh.sl zi)->Bool):bW:=FJ.add 58 (zN [Q5,Sh.sl zi] [zg,zg] (λx=>c x.1 x.2.1) λx=>((g x.1 x.2.1).1,(g x.1 x.2.1).2,()))
theorem QS{g:Sem Q5->Sem (Sh.sl zi)->Sem zg×Sem zg}{c:Sem Q5->Sem (Sh.sl zi)->Bool}(hg:FK 58 (zN [Q5,Sh.sl zi] [zg,zg] (λx=>c x.1 x.2.1) λx=>((g x.1 x.2.1).1,(g x.1 x.2.1).2,()))):zt (J1 g c):=mO.add hg
abbrev UV:Nat->aN:=λj=>if j=5 then{slots:=[1,2,6]}else{ }
inductive P7 where
 |h5 (l1:LC) (i6:Int) (z0:zn [CP.d Q5])
abbrev Tl:P7->Nat×St
 |.h5 l1 i6 z0=>(5,⟨tm 116 [(1,sl zi l1),(2,Qf 0 0),(6,ai i6)],[Qa (bF [] [CP.d Q5] z0)]⟩)
theorem zm4(g:Sem Q5->Sem zi.sl->Sem zg×Sem zg)(c:Sem Q5->Sem zi.sl->Bool):zI (J1 g c).P 58 Tryz.f58 2:=bR kw
def CK(g:Sem Q5->Sem zi.sl->Sem zg×Sem zg)(c:Sem Q5->Sem zi.sl->Bool)(x0:Sem Q5)(x1:Sem zi.sl):Tr (P7⊕az):=
 let a0:=zm ((ze.l x0).getD (toNat 0) (zj Q5))
 let a1:=g a0 x1
 let a2:=zm ((ze.l x0).getD (toNat 1) (zj Q5))
 let a3:=g a2 x1
 let a4:=ze.op x0==oP
 let a5:=ze.op x0==[61]
 let a6:=a1.1!=0
 let a7:=a3.1!=0
 let a8:=ze.op x0==[60]
 let a9:=ze.op x0==[43]
 let a10:=a1.1!=1
 let a11:=bif a7 then a3.1!=1 else Q4
 let a12:=ze.op x0==[45]
 let a13:=a1.1!=3
 let a14:=bif a7 then a3.1!=3 else Q4
 let a15:=bif a6 then a10 else Q4
 let a16:=bif a6 then a13 else Q4
 br (ze.op x0==mH) (re (Qe [ai (ze.v x0).1,ai 0]) [])
 (br (ze.op x0==ee) (Q9 (P7.h5 x1 0 (x0,())))
  (Qc (zO 0 (ze.l x0).length) (Qc (c a0 x1) (br (a1.2!=0) (re (Qe [ai 0,ai a1.2]) []) (br ((↑(ze.l x0).length:Int)==2) (Qc (zO 1 (ze.l x0).length) (Qc (c a2 x1) (br (a3.2!=0) (re (Qe [ai 0,ai a3.2]) []) (br a4 (re (Qe [ai 3,ai 0]) []) (br a5
  (br (bif a6 then bif a7 then a1.1!=a3.1 else Q4 else Q4) (re (Qe [ai 0,ai 5]) []) (re (Qe [ai 3,ai 0]) [])) (br a8 (br (bif a6 then bif a7 then a1.1!=a3.1 else Q4 else Q4) (re (Qe [ai 0,ai 5]) []) (re (Qe [ai 3,ai 0]) [])) (br a9
  (br (bif a6 then bif a10 then Q3 else a11 else a11) (re (Qe [ai 0,ai 5]) []) (re (Qe [ai 1,ai 0]) [])) (br a12 (br (bif a6 then bif a10 then Q3 else a11 else a11) (re (Qe [ai 0,ai 5]) []) (re (Qe [ai 1,ai 0]) []))
  (br (bif a6 then bif a13 then Q3 else a14 else a14) (re (Qe [ai 0,ai 5]) []) (re (Qe [ai 3,ai 0]) [])))))))))) (br a4 (re (Qe [ai 3,ai 0]) []) (br a5 (br (bif a6 then bif a6 then a1.1!=a1.1 else Q4 else Q4) (re (Qe [ai 0,ai 5]) [])
  (re (Qe [ai 3,ai 0]) [])) (br a8 (br (bif a6 then bif a6 then a1.1!=a1.1 else Q4 else Q4) (re (Qe [ai 0,ai 5]) []) (re (Qe [ai 3,ai 0]) [])) (br a9 (br (bif a6 then bif a10 then Q3 else a15 else a15) (re (Qe [ai 0,ai 5]) [])
  (re (Qe [ai 1,ai 0]) [])) (br a12 (br (bif a6 then bif a10 then Q3 else a15 else a15) (re (Qe [ai 0,ai 5]) []) (re (Qe [ai 1,ai 0]) [])) (br (bif a6 then bif a13 then Q3 else a16 else a16) (re (Qe [ai 0,ai 5]) []) (re (Qe [ai 3,ai 0]) []))))))))))))
theorem zkW(g:Sem Q5->Sem zi.sl->Sem zg×Sem zg)(c:Sem Q5->Sem zi.sl->Bool)(x0:Sem Q5)(x1:Sem zi.sl):rn (J1 g c) 0 UV Tryz.f58 [zz Q5 x0,zz zi.sl x1] []=(CK g c x0 x1).map (lf Tryz.f58 Tl):=kw
def LR(_:Sem Q5->Sem zi.sl->Sem zg×Sem zg)(_:Sem Q5->Sem zi.sl->Bool):P7->Tr (P7⊕az)
 | .h5 l1 i6 z0=>
  let a0:=l1.getD i6.toNat (zj zi)
  br (Q0 (i6<(↑l1.length:Int)))
  (Qc (zO i6 l1.length)
   (br (a0.1==ze.s z0.1) (Qc (zO i6 l1.length) (re (Qe [ai a0.2.1,ai 0]) [])) (Q9 (P7.h5 l1 (IntKind.i64.wrap (i6+1)) z0))))
  (re (Qe [ai 0,ai 4]) [])
theorem znq(g:Sem Q5->Sem zi.sl->Sem zg×Sem zg)(c:Sem Q5->Sem zi.sl->Bool):∀s,run (J1 g c) 0 UV (Func.results Tryz.f58).toList 400 (ac Tryz.f58 (Tl s).1) (Tl s).2=(LR g c s).map (lf Tryz.f58 Tl)
 |.h5 l1 i6 z0=>by kernel_rfl
def fW(o:Option (zx (Qi Q1 [zg,zg]))):Sem zg×Sem zg:=(λr:zx (Qi Q1 [zg,zg])=>(r.1,r.2.1)) (o.getD (cm [zg,zg]))
def Pq(g:Sem Q5->Sem zi.sl->Sem zg×Sem zg)(c:Sem Q5->Sem zi.sl->Bool)(x0:Sem Q5)(x1:Sem zi.sl):Option (zx (Qi Q1 [zg,zg])):=ah [zg,zg] (LR g c) 100000000 (CK g c x0 x1)
def bY:Nat->Sem Q5->Sem zi.sl->Option (zx (Qi Q1 [zg,zg]))
 |0=>λ_ _=>none
 |n+1=>Pq (λx0 x1=>fW (bY n x0 x1)) λx0 x1=>(bY n x0 x1).isSome
theorem zfV:zI FJ.P 58 Tryz.f58 2:=bR kw
theorem Ob:∀n,FK 58 (zN [Q5,zi.sl] [zg,zg] (λx=>(bY n x.1 x.2.1).isSome) λx=>((fW (bY n x.1 x.2.1)).1,(fW (bY n x.1 x.2.1)).2,()))
 |0=>eY ⟨Tryz.f58,zfV.1,zfV.2.1,zfV.2.2.1⟩ (λ_=>rfl)
 |n+1=>kK (E:=J1 (λx0 x1=>fW (bY n x0 x1)) (λx0 x1=>(bY n x0 x1).isSome)) (ks:=[Q5,zi.sl]) (outs:=[zg,zg]) (keep:=UV) (gas:=400) (n:=100000000) (e:=Tl) (t:=LR (λx0 x1=>fW (bY n x0 x1)) (λx0 x1=>(bY n x0 x1).isSome)) (i:=λx=>CK (λx0 x1=>fW (bY n x0 x1)) (λx0 x1=>(bY n x0 x1).isSome) x.1 x.2.1) (QS (Ob n)) (zm4 _ _) (λx=>zkW _ _ x.1 x.2.1) (znq _ _) (λ_=>by kernel_rfl) (λ_=>by kernel_rfl)
def A2(x0:Sem Q5)(x1:Sem zi.sl):Option (zx (Qi Q1 [zg,zg])):=bY 16 x0 x1
def ov(x0:Sem Q5)(x1:Sem zi.sl):Bool:=(A2 x0 x1).isSome
def iM(x0:Sem Q5)(x1:Sem zi.sl):Sem zg×Sem zg:=fW (A2 x0 x1)
def ziF:zV:=zN [Q5,zi.sl] [zg,zg] (λx=>ov x.1 x.2.1) λx=>((iM x.1 x.2.1).1,(iM x.1 x.2.1).2,())
theorem zex:FK 58 ziF:=Ob 16
def Ts:=FJ.addL [(56,zaA),(30,zay),(103,za0),(58,ziF)]
theorem gV:zt Ts:=mO.addL<|fc Xo<|fc Xm<|fc XP<|fc zex ja
def zlh(x0:Sem zf)(x1:Sem zf):Tr (Empty⊕az):=
 let a0:=(fm x0).1==(fm x1).1
 let a1:=(fm x0).2.1==(fm x1).2.1
 Qc (rt x0)
 (Qc (rt x1)
  (br (a0&&(a1&&((fm x0).2.2==(fm x1).2.2&&Q3))) (re (ai 0) []) (br (bif Q0 ((fm x0).1<(fm x1).1)then Q3 else bif a0 then bif Q0 ((fm x0).2.1<(fm x1).2.1)then Q3 else bif a1 then Op.bytesLess (fm x0).2.2 (fm x1).2.2 else Q4 else Q4) (re (ai (-1)) []) (re (ai 1) []))))
def qe(x0:Sem zf)(x1:Sem zf):=ah [zg] t0 100000000 (zlh x0 x1)
def Dk(x0:Sem zf)(x1:Sem zf):=(qe x0 x1).isSome
def H6(x0:Sem zf)(x1:Sem zf):=o1 (qe x0 x1)
def zih:=FT [zf,zf] [zg] λx=>qe x.1 x.2.1
theorem zea:FK 28 zih:=gV.T1 (f:=Tryz.f28) (keep:=k0) (e:=e0)
def zcm(x0:Sem zf)(x1:Sem zf):Tr (Empty⊕az):=
 Qc (rt x0)
 (Qc (rt x1)
  (re (AV.bool (bif (fm x0).1==0 then Q3 else bif (fm x1).1==0 then Q3 else(fm x0).1!=(fm x1).1)) []))
def qf(x0:Sem zf)(x1:Sem zf):=ah [Q7] t0 100000000 (zcm x0 x1)
def mY(x0:Sem zf)(x1:Sem zf):=(qf x0 x1).isSome
def rp(x0:Sem zf)(x1:Sem zf):=o1 (qf x0 x1)
def zbj:=FT [zf,zf] [Q7] λx=>qf x.1 x.2.1
theorem X7:FK 105 zbj:=gV.T1 (f:=Tryz.f105) (keep:=k0) (e:=e0)
def zcg(x0:Sem zf)(x1:Sem zf):Tr (Empty⊕az):=
 Qc (mX x0 Q4&&bif qc x0 Q4 then Q3 else mX x1 Q4)
 (br (bif qc x0 Q4 then Q3 else qc x1 Q4)
  (Qc Q3 (re (Qd [ai (aW Q4).1,ai (aW Q4).2.1,str (aW Q4).2.2]) []))
  (Qc (mX x0 Q3&&bif qc x0 Q3 then mX x1 Q3 else Q3) (br (bif qc x0 Q3 then qc x1 Q3 else Q4) (Qc Q3 (re (Qd [ai (aW Q3).1,ai (aW Q3).2.1,str (aW Q3).2.2]) [])) (re (Qd [ai 0,ai 0,str []]) []))))
def Dg(x0:Sem zf)(x1:Sem zf):=ah [zf] t0 100000000 (zcg x0 x1)
def H2(x0:Sem zf)(x1:Sem zf):=(Dg x0 x1).isSome
def Gr(x0:Sem zf)(x1:Sem zf):=o1 (Dg x0 x1)
def za4:=FT [zf,zf] [zf] λx=>Dg x.1 x.2.1
theorem XT:FK 62 za4:=gV.T1 (f:=Tryz.f62) (keep:=k0) (e:=e0)
def zch(x0:Sem zf)(x1:Sem zf):Tr (Empty⊕az):=
 Qc (mX x0 Q3&&bif qc x0 Q3 then Q3 else mX x1 Q3)
 (br (bif qc x0 Q3 then Q3 else qc x1 Q3)
  (Qc Q3 (re (Qd [ai (aW Q3).1,ai (aW Q3).2.1,str (aW Q3).2.2]) []))
  (Qc (mX x0 Q4&&bif qc x0 Q4 then mX x1 Q4 else Q3) (br (bif qc x0 Q4 then qc x1 Q4 else Q4) (Qc Q3 (re (Qd [ai (aW Q4).1,ai (aW Q4).2.1,str (aW Q4).2.2]) [])) (re (Qd [ai 0,ai 0,str []]) []))))
def K6(x0:Sem zf)(x1:Sem zf):=ah [zf] t0 100000000 (zch x0 x1)
def Pm(x0:Sem zf)(x1:Sem zf):=(K6 x0 x1).isSome
def RI(x0:Sem zf)(x1:Sem zf):=o1 (K6 x0 x1)
def za5:=FT [zf,zf] [zf] λx=>K6 x.1 x.2.1
theorem XU:FK 63 za5:=gV.T1 (f:=Tryz.f63) (keep:=k0) (e:=e0)
def zcf(x0:Sem zf):Tr (Empty⊕az):=
 Qc (mX x0 Q3)
 (br (qc x0 Q3)
  (Qc Q3 (re (Qd [ai (aW Q4).1,ai (aW Q4).2.1,str (aW Q4).2.2]) []))
  (Qc (mX x0 Q4) (br (qc x0 Q4) (Qc Q3 (re (Qd [ai (aW Q3).1,ai (aW Q3).2.1,str (aW Q3).2.2]) [])) (re (Qd [ai 0,ai 0,str []]) []))))
def Dj(x0:Sem zf):=ah [zf] t0 100000000 (zcf x0)
def H5(x0:Sem zf):=(Dj x0).isSome
def Gu(x0:Sem zf):=o1 (Dj x0)
def za3:=FT [zf] [zf] λx=>Dj x.1
theorem XS:FK 60 za3:=gV.T1 (f:=Tryz.f60) (keep:=k0) (e:=e0)
def zlo(x0:Sem Q5):Tr (Empty⊕az):=
 let a0:=Ia (zm x0) 12
 Qc (A3 (zm x0) 12&&bif a0 then vH (zm x0)else Q3) (re (AV.bool (bif a0 then Q0 (A4 (zm x0)<=60)else Q4)) [])
def Dq(x0:Sem Q5):=ah [Q7] t0 100000000 (zlo x0)
def tX(x0:Sem Q5):=(Dq x0).isSome
def Dp(x0:Sem Q5):=o1 (Dq x0)
def ziE:=FT [Q5] [Q7] λx=>Dq x.1
theorem zew:FK 57 ziE:=gV.T1 (f:=Tryz.f57) (keep:=k0) (e:=e0)
def Tt:=Ts.addL [(28,zih),(105,zbj),(62,za4),(63,za5),(60,za3),(57,ziE)]
theorem Cf:zt Tt:=gV.addL<|fc zea<|fc X7<|fc XT<|fc XU<|fc XS<|fc zew ja
abbrev zga:=lW [(2,[0,3])]
inductive E4 where
 |h2 (i0:Sem zg) (s3:List UInt8)
abbrev zkp:E4->Nat×St
 |.h2 i0 s3=>(2,⟨tm 21 [(0,ai i0),(3,str s3)],[]⟩)
def zk5(x0:Sem zg):Tr (E4⊕az):=
 Q9 (E4.h2 x0 [])
def D9:E4->Tr (E4⊕az)
 | .h2 i0 s3=>
  let a0:=je [IntKind.u8.wrap (IntKind.i64.wrap (48-IntKind.i64.wrap (Int.tmod i0 10)))]
  br (bif Q0 (i0<0)then Q3 else s3==[])
  (Qc Q3 (Qc (Q0 (length a0+s3.length<=1099511627776)) (Qc Q3 (Q9 (E4.h2 (IntKind.i64.wrap (Int.tdiv i0 10)) (a0++s3))))))
  (re (str s3) [])
def rr(x0:Sem zg):=ah [Q6] D9 100000000 (zk5 x0)
def kF(x0:Sem zg):=(rr x0).isSome
def ls(x0:Sem zg):=o1 (rr x0)
def zbh:=FT [zg] [Q6] λx=>rr x.1
theorem X5:FK 179 zbh:=Cf.T1 (f:=Tryz.f179) (keep:=zga) (e:=zkp)
def Ty:=Tt.add 179 zbh
theorem Ch:zt Ty:=Cf.add X5
abbrev zf3:=lW [(13,[1,3,4])]
inductive Bw where
 |h13 (s3:List UInt8) (i4:Int) (z0:zn [CP.d zf])
abbrev zkk:Bw->Nat×St
 |.h13 s3 i4 z0=>(13,⟨tm 54 [(1,Qf 0 0),(3,str s3),(4,ai i4)],[Qa (bF [] [CP.d zf] z0)]⟩)
def yM(x0:Sem zf):Tr (Bw⊕az):=
 let a0:=IntKind.i64.wrap (0-x0.2.1)
 Qc (mq x0)
 (br (!sQ x0) (re (str []) [])
  (br (x0.1==0) (re (str ED) []) (br (x0.1==1) (br (Q0 (x0.2.1<0)) (Qc (kF x0.2.1) (Qc (Q0 ([45].length+length (ls x0.2.1)<=1099511627776)) (re (str ([45]++ls x0.2.1)) []))) (Qc (kF a0) (re (str (ls a0)) []))) (br (x0.1==2) (Q9 (Bw.h13 [39] 0 (x0,())))
  (br (x0.2.1==1) (re (str G9) []) (re (str G8) []))))))
def wl:Bw->Tr (Bw⊕az)
 | .h13 s3 i4 z0=>
  let a0:=(↑(length z0.1.2.2):Int)
  let a1:=IntKind.i64.wrap (i4+1)
  let a2:=Qg (a1.toNat-i4.toNat) (Qh i4.toNat z0.1.2.2)
  let a3:=s3++a2
  br (Q0 (i4<a0))
  (Qc (Q0 (0<=i4)&&Q0 (i4<=a1)&&Q0 (a1<=a0))
   (Qc (Q0 (s3.length+a2.length<=1099511627776)) (Qc (zO i4 (length z0.1.2.2)) (br ((↑(getD z0.1.2.2 i4.toNat 0).toNat:Int)==39) (Qc (Q0 (length a3+[39].length<=1099511627776)) (Q9 (Bw.h13 (a3++[39]) a1 z0))) (Q9 (Bw.h13 a3 a1 z0))))))
  (Qc (Q0 (s3.length+[39].length<=1099511627776)) (re (str (s3++[39])) []))
def AY(x0:Sem zf):=ah [Q6] wl 100000000 (yM x0)
def ko(x0:Sem zf):=(AY x0).isSome
def oq(x0:Sem zf):=o1 (AY x0)
def zaR:=FT [zf] [Q6] λx=>AY x.1
theorem XG:FK 138 zaR:=Ch.T1 (f:=Tryz.f138) (keep:=zf3) (e:=zkk)
def Hq:=Ty.add 138 zaR
theorem Ck:zt Hq:=Ch.add XG
def Hk(g:Sem Q5->Sem Q6)(c:Sem Q5->Bool):bW:=Hq.add 139 (zN [Q5] [Q6] (λx=>c x.1) λx=>(g x.1,()))
theorem Mv{g:Sem Q5->Sem Q6}{c:Sem Q5->Bool}(hg:FK 139 (zN [Q5] [Q6] (λx=>c x.1) λx=>(g x.1,()))):zt (Hk g c):=Ck.add hg
abbrev UL:Nat->aN:=λ_=>{ }
theorem zgr(g:Sem Q5->Sem Q6)(c:Sem Q5->Bool):zI (Hk g c).P 139 Tryz.f139 1:=bR kw
def oS(g:Sem Q5->Sem Q6)(c:Sem Q5->Bool)(x0:Sem Q5):Tr (Empty⊕az):=
 let a0:=zO 0 (ze.l x0).length
 let a1:=zm ((ze.l x0).getD (toNat 0) (zj Q5))
 let a2:=c a1
 let a3:=g a1
 let a4:=uu++a3
 let a5:=Q0 ([40].length+length a3<=1099511627776)
 let a6:=[40]++a3
 let a7:=zO 1 (ze.l x0).length
 let a8:=zm ((ze.l x0).getD (toNat 1) (zj Q5))
 let a9:=c a8
 let a10:=a6++Mk
 let a11:=g a8
 let a12:=a10++a11
 let a13:=a6++Ml
 let a14:=a13++a11
 let a15:=a6++[32]
 let a16:=a15++ze.op x0
 let a17:=a16++[32]
 let a18:=a17++a11
 br (ze.op x0==mH) (Qc (ko (ze.v x0)) (re (str (oq (ze.v x0))) []))
 (br (ze.op x0==ee) (re (str (ze.s x0)) [])
  (br (ze.op x0==mI) (Qc a0 (Qc a2 (Qc (Q0 (uu.length+length a3<=1099511627776)) (Qc (Q0 (length a4+[41].length<=1099511627776)) (re (str (a4++[41])) []))))) (br (ze.op x0==oP) (Qc a0 (Qc a2 (Qc a5
  (Qc (Q0 (length a6+BO.length<=1099511627776)) (re (str (a6++BO)) []))))) (br (ze.op x0==cY) (Qc a0 (Qc a2 (Qc a5 (Qc (Q0 (length a6+Mk.length<=1099511627776)) (Qc a7 (Qc a9
  (Qc (Q0 (length a10+length a11<=1099511627776)) (Qc (Q0 (length a12+[41].length<=1099511627776)) (re (str (a12++[41])) []))))))))) (br (ze.op x0==uw) (Qc a0 (Qc a2 (Qc a5 (Qc (Q0 (length a6+Ml.length<=1099511627776)) (Qc a7 (Qc a9
  (Qc (Q0 (length a13+length a11<=1099511627776)) (Qc (Q0 (length a14+[41].length<=1099511627776)) (re (str (a14++[41])) []))))))))) (Qc a0 (Qc a2 (Qc a5 (Qc (Q0 (length a6+[32].length<=1099511627776)) (Qc (Q0 (length a15+length (ze.op x0)<=1099511627776))
  (Qc (Q0 (length a16+[32].length<=1099511627776)) (Qc a7 (Qc a9 (Qc (Q0 (length a17+length a11<=1099511627776)) (Qc (Q0 (length a18+[41].length<=1099511627776)) (re (str (a18++[41])) []))))))))))))))))
theorem zfs(g:Sem Q5->Sem Q6)(c:Sem Q5->Bool)(x0:Sem Q5):rn (Hk g c) 0 UL Tryz.f139 [zz Q5 x0] []=(oS g c x0).map (lf Tryz.f139 e0):=kw
def iL(o:Option (zx (Qi Q1 [Q6]))):Sem Q6:=(λr:zx (Qi Q1 [Q6])=>r.1) (o.getD (cm [Q6]))
def Pp(g:Sem Q5->Sem Q6)(c:Sem Q5->Bool)(x0:Sem Q5):Option (zx (Qi Q1 [Q6])):=ah [Q6] t0 100000000 (oS g c x0)
def cJ:Nat->Sem Q5->Option (zx (Qi Q1 [Q6]))
 |0=>λ_=>none
 |n+1=>Pp (λx0=>iL (cJ n x0)) λx0=>(cJ n x0).isSome
theorem UB:zI Hq.P 139 Tryz.f139 1:=bR kw
theorem Jl:∀n,FK 139 (zN [Q5] [Q6] (λx=>(cJ n x.1).isSome) λx=>(iL (cJ n x.1),()))
 |0=>eY ⟨Tryz.f139,UB.1,UB.2.1,UB.2.2.1⟩ (λ_=>rfl)
 |n+1=>kK (E:=Hk (λx0=>iL (cJ n x0)) (λx0=>(cJ n x0).isSome)) (ks:=[Q5]) (outs:=[Q6]) (keep:=UL) (gas:=400) (n:=100000000) (e:=e0) (t:=t0) (i:=λx=>oS (λx0=>iL (cJ n x0)) (λx0=>(cJ n x0).isSome) x.1) (Mv (Jl n)) (zgr _ _) (λx=>zfs _ _ x.1) (VG _ _ _ _ _) (λ_=>by kernel_rfl) (λ_=>by kernel_rfl)
def H9(x0:Sem Q5):Option (zx (Qi Q1 [Q6])):=cJ 16 x0
def rC(x0:Sem Q5):Bool:=(H9 x0).isSome
def qh(x0:Sem Q5):Sem Q6:=iL (H9 x0)
def zaS:zV:=zN [Q5] [Q6] (λx=>rC x.1) λx=>(qh x.1,())
theorem XH:FK 139 zaS:=Jl 16
def MC:=Hq.add 139 zaS
theorem nN:zt MC:=Ck.add XH
def zk7(x0:Sem zo.sl)(x1:Sem zg)(x2:Sem Q6):Tr (Empty⊕az):=
 let a0:=Q0 (x1<(↑(length x0):Int))
 let a1:=getD x0 (toNat x1) (zj zo)
 let a2:=a1.1==1
 let a3:=a1.1==4
 let a4:=a1.2==x2
 Qc
 (bif a0 then zO x1 (length x0)&&bif a2 then zO x1 (length x0)else zO x1 (length x0)&&bif a3 then zO x1 (length x0)else Q3
 else Q3)
 (re (AV.bool (bif a0 then bif a2 then a4 else bif a3 then a4 else Q4 else Q4)) [])
def Wn(x0:Sem zo.sl)(x1:Sem zg)(x2:Sem Q6):=ah [Q7] t0 100000000 (zk7 x0 x1 x2)
def mc(x0:Sem zo.sl)(x1:Sem zg)(x2:Sem Q6):=(Wn x0 x1 x2).isSome
def vQ(x0:Sem zo.sl)(x1:Sem zg)(x2:Sem Q6):=o1 (Wn x0 x1 x2)
def zbn:=FT [zo.sl,zg,Q6] [Q7] λx=>Wn x.1 x.2.1 x.2.2.1
theorem Ya:FK 227 zbn:=nN.T1 (f:=Tryz.f227) (keep:=k0) (e:=e0)
abbrev zgd:=lW [(3,[0,2,4,5]),(10,[0,2,6,7]),(18,[0,2,6,8])]
inductive oM where
 |h3 (s0:Sem Q6) (l4:List (Sem zf)) (i5:Int) (z0:zn [CP.d zf])
 |h10 (s0:Sem Q6) (i7:Int) (z0:zn [CP.d zf]) (z1:zn [CP.d zf])
 |h18 (s0:Sem Q6) (i8:Int) (z0:zn [CP.d zf]) (z1:zn [CP.d zf])
abbrev zks:oM->Nat×St
 |.h3 s0 l4 i5 z0=>(3,⟨tm 145 [(0,str s0),(2,Qf 0 0),(4,sl zf l4),(5,ai i5)],[Qa (bF [] [CP.d zf] z0)]⟩)
 |.h10 s0 i7 z0 z1=>(10,⟨tm 145 [(0,str s0),(2,Qf 0 0),(6,Qf 1 0),(7,ai i7)],[Qa (bF [] [CP.d zf] z0),Qa (bF [] [CP.d zf] z1)]⟩)
 |.h18 s0 i8 z0 z1=>(18,⟨tm 145 [(0,str s0),(2,Qf 0 0),(6,Qf 1 0),(8,ai i8)],[Qa (bF [] [CP.d zf] z0),Qa (bF [] [CP.d zf] z1)]⟩)
def zk9(x0:Sem Q6):Tr (oM⊕az):=
 Q9 (oM.h3 x0 [(0,0,[]),(3,0,[]),(3,1,[])] 0 ((0,0,[]),()))
def znE:oM->Tr (oM⊕az)
 | .h3 s0 l4 i5 z0=>
  let a0:=l4.getD i5.toNat (zj zf)
  let a1:=Q0 ((↑(length s0):Int)>=2)
  let a2:=(↑(getD s0 (toNat 0) 0).toNat:Int)==39
  let a3:=IntKind.i64.wrap ((↑(length s0):Int)-1)
  br (Q0 (i5<(↑l4.length:Int)))
  (Qc (zO i5 l4.length) (Qc (ko a0) (br (oq a0==s0) (Qc (zO i5 l4.length) (re (Qe [Qd [ai a0.1,ai a0.2.1,str a0.2.2],kb Q3]) [])) (Q9 (oM.h3 s0 l4 (IntKind.i64.wrap (i5+1)) z0)))))
  (Qc (bif a1 then zO 0 (length s0)&&bif a2 then zO a3 (length s0)else Q3 else Q3) (br (bif a1 then bif a2 then(↑(getD s0 a3.toNat 0).toNat:Int)==39 else Q4 else Q4) (Q9 (oM.h10 s0 1 z0 ((2,0,[]),()))) (Q9 (oM.h18 s0 0 z0 ((1,0,[]),())))))
 | .h10 s0 i7 z0 z1=>
  let a0:=IntKind.i64.wrap ((↑(length s0):Int)-1)
  let a1:=IntKind.i64.wrap (i7+1)
  let a2:=Qg (a1.toNat-i7.toNat) (Qh i7.toNat s0)
  let a3:=((z1.1.1,z1.1.2.1,z1.1.2.2++a2),())
  br (Q0 (i7<a0))
  (Qc (Q0 (0<=i7)&&Q0 (i7<=a1)&&Q0 (a1<=(↑(length s0):Int))) (Qc (Q0 (length z1.1.2.2+a2.length<=1099511627776)) (Qc (zO i7 (length s0)) (br ((↑(getD s0 i7.toNat 0).toNat:Int)==39) (Q9 (oM.h10 s0 (IntKind.i64.wrap (a1+1)) z0 a3)) (Q9 (oM.h10 s0 a1 z0 a3))))))
  (Qc (ko z1.1) (re (Qe [Qd [ai z1.1.1,ai z1.1.2.1,str z1.1.2.2],AV.bool (oq z1.1==s0)]) []))
 | .h18 s0 i8 z0 z1=>
  let a0:=zO 0 (length s0)
  let a1:=(↑(getD s0 (toNat 0) 0).toNat:Int)
  let a2:=IntKind.i64.wrap (i8+1)
  let a3:=(↑(getD s0 i8.toNat 0).toNat:Int)
  let a4:=Q0 (a3<48)
  let a5:=Q0 (a3>57)
  let a6:=Q0 (z1.1.2.1< -922337203685477580)
  let a7:=z1.1.2.1==-922337203685477580
  let a8:=IntKind.i64.wrap (0-z1.1.2.1)
  let a9:=(z1.1.1,a8,z1.1.2.2)
  br (Q0 (i8<(↑(length s0):Int)))
  (Qc (bif i8==0 then a0 else Q3) (br (bif i8==0 then a1==45 else Q4) (Q9 (oM.h18 s0 a2 z0 z1)) (Qc (zO i8 (length s0)&&bif a4 then Q3 else zO i8 (length s0)&&bif a5 then Q3 else bif a6 then Q3 else bif a7 then zO i8 (length s0)else Q3)
  (br (bif a4 then Q3 else bif a5 then Q3 else bif a6 then Q3 else bif a7 then Q0 (a3>56)else Q4) (re (Qe [Qd [ai 0,ai 0,str []],kb Q4]) []) (Qc (zO i8 (length s0)) (Q9 (oM.h18 s0 a2 z0 ((z1.1.1,IntKind.i64.wrap (IntKind.i64.wrap (IntKind.i64.wrap (10*z1.1.2.1)-IntKind.i64.wrap a3)+48),z1.1.2.2),()))))))))
  (Qc (bif s0==[]then Q3 else a0) (br (bif s0==[]then Q3 else a1 !=45) (br (z1.1.2.1==-9223372036854775808) (re (Qe [Qd [ai 0,ai 0,str []],kb Q4]) []) (Qc (ko a9) (re (Qe [Qd [ai z1.1.1,ai a8,str z1.1.2.2],AV.bool (oq a9==s0)]) []))) (Qc (ko z1.1)
  (re (Qe [Qd [ai z1.1.1,ai z1.1.2.1,str z1.1.2.2],AV.bool (oq z1.1==s0)]) []))))
def Dm(x0:Sem Q6):=ah [zf,Q7] znE 100000000 (zk9 x0)
def K7(x0:Sem Q6):=(Dm x0).isSome
def vC(x0:Sem Q6):=o2 (Dm x0)
def zbp:=FT [Q6] [zf,Q7] λx=>Dm x.1
theorem Yc:FK 266 zbp:=nN.T1 (f:=Tryz.f266) (keep:=zgd) (e:=zks)
def zb2:=MC.addL [(227,zbn),(266,zbp)]
theorem FV:zt zb2:=nN.addL<|fc Ya<|fc Yc<|ja
abbrev zgc:=lW [(1,[0,1,4])]
inductive E5 where
 |h1 (s0:Sem Q6) (s1:Sem Q6) (z0:zn [CP.d zf])
abbrev zkr:E5->Nat×St
 |.h1 s0 s1 z0=>(1,⟨tm 25 [(0,str s0),(1,str s1),(4,Qf 0 0)],[Qa (bF [] [CP.d zf] z0)]⟩)
def zk8(x0:Sem Q6)(x1:Sem Q6):Tr (E5⊕az):=
 Q9 (E5.h1 x0 x1 ((0,0,[]),()))
def znD:E5->Tr (E5⊕az)
 | .h1 s0 s1 z0=>
  let a0:=Q0 ((↑(length s1):Int)>0)
  Qc (bif a0 then zO 0 (length s1)else Q3)
  (br (bif a0 then(↑(getD s1 (toNat 0) 0).toNat:Int)==48 else Q4) (Qc (Q0 (0<=1)&&Q0 (1<=(↑(length s1):Int))&&Q0 ((↑(length s1):Int)<=(↑(length s1):Int))) (Q9 (E5.h1 s0 (Qg ((↑(length s1):Int).toNat-toNat 1) (Qh (toNat 1) s1)) z0)))
  (br (s1==[]) (re (Qe [Qd [ai 1,ai 0,str []],kb Q3]) []) (Qc (Q0 (length s0+length s1<=1099511627776)) (Qc (K7 (s0++s1)) (re (Qe [Qd [ai (vC (s0++s1)).1.1,ai (vC (s0++s1)).1.2.1,str (vC (s0++s1)).1.2.2],AV.bool (vC (s0++s1)).2]) [])))))
def NB(x0:Sem Q6)(x1:Sem Q6):=ah [zf,Q7] znD 100000000 (zk8 x0 x1)
def Wo(x0:Sem Q6)(x1:Sem Q6):=(NB x0 x1).isSome
def zcK(x0:Sem Q6)(x1:Sem Q6):=o2 (NB x0 x1)
def zbo:=FT [Q6,Q6] [zf,Q7] λx=>NB x.1 x.2.1
theorem Yb:FK 265 zbo:=FV.T1 (f:=Tryz.f265) (keep:=zgc) (e:=zkr)
def zb3:=zb2.add 265 zbo
theorem FW:zt zb3:=FV.add Yb
def zk6(x0:Sem zo.sl)(x1:Sem zg):Tr (Empty⊕az):=
 let a0:=IntKind.i64.wrap (x1+1)
 let a1:=Q0 (a0>=(↑(length x0):Int))
 let a2:=zO a0 (length x0)
 let a3:=getD x0 a0.toNat (zj zo)
 let a4:=zcK [45] a3.2
 let a5:=getD x0 (toNat x1) (zj zo)
 let a6:=zcK [] a5.2
 let a7:=vQ x0 x1 G9
 let a8:=vQ x0 x1 G8
 let a9:=vC a5.2
 br (Q0 (x1>=(↑(length x0):Int)))
 (re (Qe [Qd [str [],ai 0,ai 0,str [],str [],Qb],ai (-1)]) [])
 (Qc (zO x1 (length x0))
  (Qc (mc x0 x1 [45]) (br (vQ x0 x1 [45]) (Qc (bif a1 then Q3 else a2) (br (bif a1 then Q3 else a3.1!=2) (re (Qe [Qd [str [],ai 0,ai 0,str [],str [],Qb],ai (-1)]) []) (Qc a2 (Qc (Wo [45] a3.2) (br (!a4.2)
  (re (Qe [Qd [str [],ai 0,ai 0,str [],str [],Qb],ai (-1)]) []) (re (Qe [Qd [str mH,ai a4.1.1,ai a4.1.2.1,str a4.1.2.2,str [],Qb],ai (IntKind.i64.wrap (x1+2))]) [])))))) (br (a5.1==2) (Qc (Wo [] a5.2) (br (!a6.2)
  (re (Qe [Qd [str [],ai 0,ai 0,str [],str [],Qb],ai (-1)]) []) (re (Qe [Qd [str mH,ai a6.1.1,ai a6.1.2.1,str a6.1.2.2,str [],Qb],ai a0]) []))) (br (a5.1==3) (re
  (Qe [Qd [str mH,ai 2,ai 0,str a5.2,str [],Qb],ai a0]) []) (Qc (mc x0 x1 [40]) (br (vQ x0 x1 [40]) Tr.err (Qc (mc x0 x1 G9&&bif a7 then Q3 else mc x0 x1 G8&&bif a8 then Q3 else mc x0 x1 ED)
  (br (bif a7 then Q3 else bif a8 then Q3 else vQ x0 x1 ED) (Qc (K7 a5.2) (re (Qe [Qd [str mH,ai a9.1.1,ai a9.1.2.1,str a9.1.2.2,str [],Qb],ai a0]) [])) (br (a5.1==1) (re (Qe [Qd [str ee,ai 0,ai 0,str [],str a5.2,Qb],
  ai a0]) []) (re (Qe [Qd [str [],ai 0,ai 0,str [],str [],Qb],ai (-1)]) [])))))))))))
def Iu(x0:Sem zo.sl)(x1:Sem zg):=ah [Q5,zg] t0 100000000 (zk6 x0 x1)
def Z4(x0:Sem zo.sl)(x1:Sem zg):=(Iu x0 x1).isSome
def ua(x0:Sem zo.sl)(x1:Sem zg):=o2 (Iu x0 x1)
def zbm:=FT [zo.sl,zg] [Q5,zg] λx=>Iu x.1 x.2.1
theorem X9:FK 226 zbm:=FW.T1 (f:=Tryz.f226) (keep:=k0) (e:=e0)
def OE:=zb3.add 226 zbm
theorem FX:zt OE:=FW.add X9
def B8(g:Sem zo.sl->Sem zg->Sem zg->Sem Q5×Sem zg)(c:Sem zo.sl->Sem zg->Sem zg->Bool):bW:=OE.add 180 (zN [zo.sl,zg,zg] [Q5,zg] (λx=>c x.1 x.2.1 x.2.2.1) λx=>((g x.1 x.2.1 x.2.2.1).1,(g x.1 x.2.1 x.2.2.1).2,()))
theorem My{g:Sem zo.sl->Sem zg->Sem zg->Sem Q5×Sem zg}{c:Sem zo.sl->Sem zg->Sem zg->Bool}(hg:FK 180 (zN [zo.sl,zg,zg] [Q5,zg] (λx=>c x.1 x.2.1 x.2.2.1) λx=>((g x.1 x.2.1 x.2.2.1).1,(g x.1 x.2.1 x.2.2.1).2,()))):zt (B8 g c):=FX.add hg
abbrev M4:=lW [(22,[0,2,6,15,16])]
inductive mA where
 |h22 (l0:List (Sem zo)) (i2:Sem zg) (i16:Sem zg) (z1:zn [CP.d Q5]) (ja0:List UInt8) (ja1:Int) (ja2:Int) (ja3:List UInt8) (ja4:List UInt8)
abbrev JV:mA->Nat×St
 |.h22 l0 i2 i16 z1 ja0 ja1 ja2 ja3 ja4=>(22,⟨tm 157 [(0,sl zo l0),(2,ai i2),(6,Qf 0 0),(15,Qf 1 0),(16,ai i16)],[Qa [str ja0,ai ja1,ai ja2,str ja3,str ja4,Qb],Qa (bF [] [CP.d Q5] z1)]⟩)
theorem zgu(g:Sem zo.sl->Sem zg->Sem zg->Sem Q5×Sem zg)(c:Sem zo.sl->Sem zg->Sem zg->Bool):zI (B8 g c).P 180 Tryz.f180 3:=bR kw
def Um(g:Sem zo.sl->Sem zg->Sem zg->Sem Q5×Sem zg)(c:Sem zo.sl->Sem zg->Sem zg->Bool)(x0:Sem zo.sl)(x1:Sem zg)(x2:Sem zg):Tr (mA⊕az):=
 let a0:=IntKind.i64.wrap (x1+1)
 let a1:=g x0 a0 2
 let a2:=g x0 x1 3
 let a3:=vQ x0 a2.2 [61]
 let a4:=IntKind.i64.wrap (a2.2+1)
 let a5:=getD x0 (toNat a2.2) (zj zo)
 let a6:=zm a2.1
 let a7:=g x0 a4 3
 let a8:=IntKind.i64.wrap (x2+1)
 let a9:=g x0 x1 a8
 br (Q0 (x1<0))
 (re (Qe [Qd [str [],ai 0,ai 0,str [],str [],Qb],ai (-1)]) [])
 (br (x2==4)
  (Qc (Z4 x0 x1) (re (Qe [Qd [str (ze.op (ua x0 x1).1),ai (ze.v (ua x0 x1).1).1,ai (ze.v (ua x0 x1).1).2.1,str (ze.v (ua x0 x1).1).2.2,str (ze.s (ua x0 x1).1),sl Q5 (ze.l (ua x0 x1).1)],ai (ua x0 x1).2]) []))
  (br (x2==2) (Qc (mc x0 x1 [78,79,84]) (br (vQ x0 x1 [78,79,84]) (Qc (c x0 a0 2) (re (Qe [Qd [str mI,ai 0,ai 0,str [],str [],sl Q5 [zm a1.1]],ai a1.2]) [])) (Qc (c x0 x1 3) (br (Q0 (a2.2<0))
  (re (Qe [Qd [str [],ai 0,ai 0,str [],str [],Qb],ai (-1)]) []) (Qc (mc x0 a2.2 [61]&&bif a3 then Q3 else mc x0 a2.2 [60]) (br (bif a3 then Q3 else vQ x0 a2.2 [60]) (Qc (zO a2.2 (length x0)) (Qc (c x0 a4 3) (re (Qe
  [Qd [str a5.2,ai 0,ai 0,str [],str [],sl Q5 [a6,zm a7.1]],ai a7.2]) []))) (Qc (mc x0 a2.2 [73,83]) (br (vQ x0 a2.2 [73,83]) (Qc (mc x0 a4 ED) (br (!vQ x0 a4 ED) (re (Qe [Qd [str [],ai 0,ai 0,str [],str [],Qb],ai (-1)]) [])
  (re (Qe [Qd [str oP,ai 0,ai 0,str [],str [],sl Q5 [a6]],ai (IntKind.i64.wrap (a2.2+2))]) []))) (re (Qe [Qd [str (ze.op a2.1),ai (ze.v a2.1).1,ai (ze.v a2.1).2.1,str (ze.v a2.1).2.2,str (ze.s a2.1),sl Q5 (ze.l a2.1)],ai a2.2])
  []))))))))) (Qc (c x0 x1 a8) (Q9 (mA.h22 x0 x2 a9.2 (a9.1,()) [] 0 0 [] [])))))
theorem zfx(g:Sem zo.sl->Sem zg->Sem zg->Sem Q5×Sem zg)(c:Sem zo.sl->Sem zg->Sem zg->Bool)(x0:Sem zo.sl)(x1:Sem zg)(x2:Sem zg):rn (B8 g c) 0 M4 Tryz.f180 [zz zo.sl x0,zz zg x1,zz zg x2] []=(Um g c x0 x1 x2).map (lf Tryz.f180 JV):=kw
def WL(g:Sem zo.sl->Sem zg->Sem zg->Sem Q5×Sem zg)(c:Sem zo.sl->Sem zg->Sem zg->Bool):mA->Tr (mA⊕az)
 | .h22 l0 i2 i16 z1 ja0 ja1 ja2 ja3 ja4=>
  let a0:=bif i2==1 then mc l0 i16 SU else Q3
  let a1:=bif i2==1 then vQ l0 i16 SU else Q4
  let a2:=vQ l0 i16 [43]
  let a3:=bif i2==3 then mc l0 i16 [43]&&bif a2 then Q3 else mc l0 i16 [45]else Q3
  let a4:=bif i2==3 then bif a2 then Q3 else vQ l0 i16 [45]else Q4
  let a5:=l0.getD (toNat i16) (zj zo)
  let a6:=IntKind.i64.wrap (i16+1)
  let a7:=IntKind.i64.wrap (i2+1)
  let a8:=c l0 a6 a7
  let a9:=g l0 a6 a7
  let a10:=[zm z1.1,zm a9.1]
  br (Q0 (i16>=0))
  (Qc (bif i2==0 then mc l0 i16 [79,82]else Q3) (br (bif i2==0 then vQ l0 i16 [79,82]else Q4) (Qc a0 (br a1 (Qc a3 (br a4 (Qc (zO i16 l0.length) (br (a5.2==[]) (re (Qe [Qd [str (ze.op z1.1),ai (ze.v z1.1).1,ai (ze.v z1.1).2.1,
  str (ze.v z1.1).2.2,str (ze.s z1.1),sl Q5 (ze.l z1.1)],ai i16]) []) (Qc a8 (Q9 (mA.h22 l0 i2 a9.2 (ze.mk a5.2 (0,0,[]) [] a10,()) ja0 ja1 ja2 ja3 ja4))))) (br Q4 (re (Qe [Qd [str (ze.op z1.1),ai (ze.v z1.1).1,ai (ze.v z1.1).2.1,
  str (ze.v z1.1).2.2,str (ze.s z1.1),sl Q5 (ze.l z1.1)],ai i16]) []) (Qc a8 (Q9 (mA.h22 l0 i2 a9.2 (ze.mk cY (0,0,[]) [] a10,()) ja0 ja1 ja2 ja3 ja4)))))) (Qc a3 (br a4 (Qc (zO i16 l0.length) (br (a5.2==[]) (re (Qe [Qd
  [str (ze.op z1.1),ai (ze.v z1.1).1,ai (ze.v z1.1).2.1,str (ze.v z1.1).2.2,str (ze.s z1.1),sl Q5 (ze.l z1.1)],ai i16]) []) (Qc a8 (Q9 (mA.h22 l0 i2 a9.2 (ze.mk a5.2 (0,0,[]) [] a10,()) ja0 ja1 ja2 ja3 ja4))))) (br Q4 (re (Qe [Qd
  [str (ze.op z1.1),ai (ze.v z1.1).1,ai (ze.v z1.1).2.1,str (ze.v z1.1).2.2,str (ze.s z1.1),sl Q5 (ze.l z1.1)],ai i16]) []) (Qc a8 (Q9 (mA.h22 l0 i2 a9.2 (ze.mk uw (0,0,[]) [] a10,()) ja0 ja1 ja2 ja3 ja4)))))))) (Qc a0 (br a1 (Qc a3 (br a4 (Qc (zO i16 l0.length)
  (br (a5.2==[]) (re (Qe [Qd [str (ze.op z1.1),ai (ze.v z1.1).1,ai (ze.v z1.1).2.1,str (ze.v z1.1).2.2,str (ze.s z1.1),sl Q5 (ze.l z1.1)],ai i16]) []) (Qc a8 (Q9 (mA.h22 l0 i2 a9.2 (ze.mk a5.2 (0,0,[]) [] a10,()) ja0 ja1 ja2 ja3 ja4))))) (br Q4 (re (Qe [Qd
  [str (ze.op z1.1),ai (ze.v z1.1).1,ai (ze.v z1.1).2.1,str (ze.v z1.1).2.2,str (ze.s z1.1),sl Q5 (ze.l z1.1)],ai i16]) []) (Qc a8 (Q9 (mA.h22 l0 i2 a9.2 (ze.mk cY (0,0,[]) [] a10,()) ja0 ja1 ja2 ja3 ja4)))))) (Qc a3 (br a4 (Qc (zO i16 l0.length) (br (a5.2==[]) (re
  (Qe [Qd [str (ze.op z1.1),ai (ze.v z1.1).1,ai (ze.v z1.1).2.1,str (ze.v z1.1).2.2,str (ze.s z1.1),sl Q5 (ze.l z1.1)],ai i16]) []) (Qc a8 (Q9 (mA.h22 l0 i2 a9.2 (ze.mk a5.2 (0,0,[]) [] a10,()) ja0 ja1 ja2 ja3 ja4))))) (br Q3 (re (Qe [Qd
  [str (ze.op z1.1),ai (ze.v z1.1).1,ai (ze.v z1.1).2.1,str (ze.v z1.1).2.2,str (ze.s z1.1),sl Q5 (ze.l z1.1)],ai i16]) []) (Qc a8 (Q9 (mA.h22 l0 i2 a9.2 (ze.mk [] (0,0,[]) [] a10,()) ja0 ja1 ja2 ja3 ja4))))))))))
  (re (Qe [Qd [str (ze.op z1.1),ai (ze.v z1.1).1,ai (ze.v z1.1).2.1,str (ze.v z1.1).2.2,str (ze.s z1.1),sl Q5 (ze.l z1.1)],ai i16]) [])
theorem zgB(g:Sem zo.sl->Sem zg->Sem zg->Sem Q5×Sem zg)(c:Sem zo.sl->Sem zg->Sem zg->Bool):∀s,run (B8 g c) 0 M4 (Func.results Tryz.f180).toList 400 (ac Tryz.f180 (JV s).1) (JV s).2=(WL g c s).map (lf Tryz.f180 JV):=by intro s;cases s<;>kernel_rfl
def lu(o:Option (zx (Qi Q1 [Q5,zg]))):Sem Q5×Sem zg:=(λr:zx (Qi Q1 [Q5,zg])=>(r.1,r.2.1)) (o.getD (cm [Q5,zg]))
def Wp(g:Sem zo.sl->Sem zg->Sem zg->Sem Q5×Sem zg)(c:Sem zo.sl->Sem zg->Sem zg->Bool)(x0:Sem zo.sl)(x1:Sem zg)(x2:Sem zg):Option (zx (Qi Q1 [Q5,zg])):=ah [Q5,zg] (WL g c) 100000000 (Um g c x0 x1 x2)
def fe:Nat->Sem zo.sl->Sem zg->Sem zg->Option (zx (Qi Q1 [Q5,zg]))
 |0=>λ_ _ _=>none
 |n+1=>Wp (λx0 x1 x2=>lu (fe n x0 x1 x2)) λx0 x1 x2=>(fe n x0 x1 x2).isSome
theorem UE:zI OE.P 180 Tryz.f180 3:=bR kw
theorem Jo:∀n,FK 180 (zN [zo.sl,zg,zg] [Q5,zg] (λx=>(fe n x.1 x.2.1 x.2.2.1).isSome) λx=>((lu (fe n x.1 x.2.1 x.2.2.1)).1,(lu (fe n x.1 x.2.1 x.2.2.1)).2,()))
 |0=>eY ⟨Tryz.f180,UE.1,UE.2.1,UE.2.2.1⟩ (λ_=>rfl)
 |n+1=>kK (E:=B8 (λx0 x1 x2=>lu (fe n x0 x1 x2)) (λx0 x1 x2=>(fe n x0 x1 x2).isSome)) (ks:=[zo.sl,zg,zg]) (outs:=[Q5,zg]) (keep:=M4) (gas:=400) (n:=100000000) (e:=JV) (t:=WL (λx0 x1 x2=>lu (fe n x0 x1 x2)) (λx0 x1 x2=>(fe n x0 x1 x2).isSome)) (i:=λx=>Um (λx0 x1 x2=>lu (fe n x0 x1 x2)) (λx0 x1 x2=>(fe n x0 x1 x2).isSome) x.1 x.2.1 x.2.2.1) (My (Jo n)) (zgu _ _) (λx=>zfx _ _ x.1 x.2.1 x.2.2.1) (zgB _ _) (λ_=>by kernel_rfl) (λ_=>by kernel_rfl)
def Lq(x0:Sem zo.sl)(x1:Sem zg)(x2:Sem zg):Option (zx (Qi Q1 [Q5,zg])):=fe 16 x0 x1 x2
def Lp(x0:Sem zo.sl)(x1:Sem zg)(x2:Sem zg):Bool:=(Lq x0 x1 x2).isSome
def Iw(x0:Sem zo.sl)(x1:Sem zg)(x2:Sem zg):Sem Q5×Sem zg:=lu (Lq x0 x1 x2)
def zbg:zV:=zN [zo.sl,zg,zg] [Q5,zg] (λx=>Lp x.1 x.2.1 x.2.2.1) λx=>((Iw x.1 x.2.1 x.2.2.1).1,(Iw x.1 x.2.1 x.2.2.1).2,())
theorem X4:FK 180 zbg:=Jo 16
def zb4:=OE.add 180 zbg
theorem FY:zt zb4:=FX.add X4
def zk3(x0:Sem zo.sl):Tr (Empty⊕az):=
 let a0:=Iw x0 0 0
 let a1:=Q0 (a0.2<0)
 let a2:=zm a0.1
 Qc (Lp x0 0 0)
 (Qc (bif a1 then Q3 else tX a2)
  (br (bif a1 then Q3 else !Dp a2) (re (Qe [Qd [str [],ai 0,ai 0,str [],str [],Qb],ai 0,kb Q4]) []) (re (Qe [Qd [str (ze.op a0.1),ai (ze.v a0.1).1,ai (ze.v a0.1).2.1,str (ze.v a0.1).2.2,str (ze.s a0.1),sl Q5 (ze.l a0.1)],ai a0.2,kb Q3])
  [])))
def DF(x0:Sem zo.sl):=ah [Q5,zg,Q7] t0 100000000 (zk3 x0)
def Wm(x0:Sem zo.sl):=(DF x0).isSome
def Z3(x0:Sem zo.sl):=o3 (DF x0)
def za7:=FT [zo.sl] [Q5,zg,Q7] λx=>DF x.1
theorem XW:FK 146 za7:=FY.T1 (f:=Tryz.f146) (keep:=k0) (e:=e0)
def OF:=zb4.add 146 za7
theorem FZ:zt OF:=FY.add XW
abbrev zcz:=lW []
theorem zna:zI OF.P 97 Tryz.f97 1:=bR kw
def zfR(y:zn aB):Tr (Empty⊕az):=
 let a0:=Qg ((↑(length y.1):Int).toNat-toNat y.2.1) (Qh (toNat y.2.1) y.1)
 let a1:=Z3 a0
 let a2:=IntKind.i64.wrap (y.2.1+a1.2.1)
 Qc (Q0 (0<=y.2.1)&&Q0 (y.2.1<=(↑(length y.1):Int))&&Q0 ((↑(length y.1):Int)<=(↑(length y.1):Int)))
 (Qc (Wm a0)
  (br (!a1.2.2) (re (Qd [str (ze.op a1.1),ai (ze.v a1.1).1,ai (ze.v a1.1).2.1,str (ze.v a1.1).2.2,str (ze.s a1.1),sl Q5 (ze.l a1.1)]) [Qa [sl zo y.1,ai a2,kb Q4]]) (re (Qd [str (ze.op a1.1),ai (ze.v a1.1).1,ai (ze.v a1.1).2.1,str (ze.v a1.1).2.2,
  str (ze.s a1.1),sl Q5 (ze.l a1.1)]) (ar aB (y.1,a2,y.2.2)))))
theorem zkY(y:zn aB):rn OF 1 zcz Tryz.f97 [Qf 0 0] (ar aB y)=(zfR y).map (lf Tryz.f97 e0):=kw
def Px(y:zn aB):Option (zx (Qi Q1 [Q5])×zn aB):=km [Q5] aB t0 100000000 (zfR y)
def ID(y:zn aB):Bool:=(Px y).isSome
def IC(y:zn aB):(Sem Q5)×zn aB:=(λr:zx (Qi Q1 [Q5])×zn aB=>(r.1.1,r.2)) ((Px y).getD (cm [Q5],fJ aB))
def ziL:zV:=se aB [] [Q5] aB (λy _=>ID y) λy _=>(((IC y).1,()),(IC y).2)
theorem zeE:FK 97 ziL:=jW (ps:=aB) (ks:=[]) (outs:=[Q5]) (keep:=zcz) (gas:=400) (n:=100000000) (e:=e0) (t:=t0) (i:=λy x=>zfR y) FZ zna (λy x=>zkY y) (VG _ _ _ _ _) (λ_ _=>by kernel_rfl) (λ_ _=>by kernel_rfl)
def TR:=OF.add 97 ziL
theorem xp:zt TR:=FZ.add zeE
abbrev zf7:=lW [(6,[1,3])]
inductive E3 where
 |h6 (i3:Int) (z0:zn [CP.d zo])
abbrev zko:E3->Nat×St
 |.h6 i3 z0=>(6,⟨tm 82 [(1,Qf 0 0),(3,ai i3)],[Qa (bF [] [CP.d zo] z0)]⟩)
def Ku(x0:Sem zo):Tr (E3⊕az):=
 let a0:=(2,0,x0.2)
 br (x0.1==1) (Qc (vM x0.2) (re (AV.bool (tZ x0.2)) []))
 (br (x0.1==2) (Q9 (E3.h6 0 (x0,())))
  (br (x0.1==3) (Qc (mq a0) (re (AV.bool (sQ a0)) [])) (br (x0.1==4) (re (AV.bool (bif x0.2==[40]then Q3 else bif x0.2==[41]then Q3 else bif x0.2==[44]then Q3 else bif x0.2==[61]then Q3 else bif x0.2==[60]then Q3 else bif x0.2==[43]then Q3 else bif x0.2==[45]then Q3 else x0.2==[42])) []) (re (kb Q4) []))))
def wn:E3->Tr (E3⊕az)
 | .h6 i3 z0=>
  let a0:=(↑(length z0.1.2):Int)
  let a1:=(↑(getD z0.1.2 i3.toNat 0).toNat:Int)
  br (Q0 (i3<a0))
  (Qc (zO i3 (length z0.1.2))
   (Qc (fP a1) (br (!gR a1) (re (kb Q4) []) (Q9 (E3.h6 (IntKind.i64.wrap (i3+1)) z0)))))
  (re (AV.bool (bif Q0 (1<=a0)then Q0 (a0<=19)else Q4)) [])
def Is(x0:Sem zo):=ah [Q7] wn 100000000 (Ku x0)
def iO(x0:Sem zo):=(Is x0).isSome
def ma(x0:Sem zo):=o1 (Is x0)
def zaZ:=FT [zo] [Q7] λx=>Is x.1
theorem XO:FK 144 zaZ:=xp.T1 (f:=Tryz.f144) (keep:=zf7) (e:=zko)
abbrev UI:=lW []
theorem zgo:zI TR.P 98 Tryz.f98 2:=bR kw
def Ug(y:zn aB)(x0:TS):Tr (Empty⊕az):=
 let a0:=(y.1,y.2.1,y.2.2.1,())
 let a1:=fu a0 x0
 let a2:=(a1.2.1,a1.2.2.1,a1.2.2.2.1,())
 let a3:=IC a2
 let a4:=bC a2 [40]
 let a5:=(a4.1,a4.2.1,a4.2.2.1,())
 let a6:=IC a5
 let a7:=(a6.2.1,a6.2.2.1,a6.2.2.2.1,())
 Qc (dV a0 x0)
 (br (!a1.1) (re (Qd [str [],ai 0,ai 0,str [],str [],Qb]) (ar aB a1.2))
  (br (x0==gD) (Qc (ID a2) (re (Qd [str (ze.op a3.1),ai (ze.v a3.1).1,ai (ze.v a3.1).2.1,str (ze.v a3.1).2.2,str (ze.s a3.1),sl Q5 (ze.l a3.1)]) (ar aB a3.2))) (Qc (aR a2 [40]) (Qc (ID a5) (Qc (aR a7 [41]) (re (Qd
  [str (ze.op a6.1),ai (ze.v a6.1).1,ai (ze.v a6.1).2.1,str (ze.v a6.1).2.2,str (ze.s a6.1),sl Q5 (ze.l a6.1)]) (ar aB (bC a7 [41]))))))))
theorem zfm(y:zn aB)(x0:TS):rn TR 1 UI Tryz.f98 [Qf 0 0,zz Q6 x0] (ar aB y)=(Ug y x0).map (lf Tryz.f98 e0):=kw
def Pw(y:zn aB)(x0:TS):Option (zx (Qi Q1 [Q5])×zn aB):=km [Q5] aB t0 100000000 (Ug y x0)
def dM(y:zn aB)(x0:TS):Bool:=(Pw y x0).isSome
def eU(y:zn aB)(x0:TS):(Sem Q5)×zn aB:=(λr:zx (Qi Q1 [Q5])×zn aB=>(r.1.1,r.2)) ((Pw y x0).getD (cm [Q5],fJ aB))
def zaF:zV:=se aB [Q6] [Q5] aB (λy x=>dM y x.1) λy x=>(((eU y x.1).1,()),(eU y x.1).2)
theorem Xu:FK 98 zaF:=jW (ps:=aB) (ks:=[Q6]) (outs:=[Q5]) (keep:=UI) (gas:=400) (n:=100000000) (e:=e0) (t:=t0) (i:=λy x=>Ug y x.1) xp zgo (λy x=>zfm y x.1) (VG _ _ _ _ _) (λ_ _=>by kernel_rfl) (λ_ _=>by kernel_rfl)
def zlm(x0:TS):Tr (Empty⊕az):=
 Qc (vM x0&&bif tZ x0 then DG x0 else Q3) (re (AV.bool (bif tZ x0 then !Ll x0 else Q4)) [])
def vR(x0:TS):=ah [Q7] t0 100000000 (zlm x0)
def dL(x0:TS):=(vR x0).isSome
def bm(x0:TS):=o1 (vR x0)
def ziA:=FT [Q6] [Q7] λx=>vR x.1
theorem zes:FK 82 ziA:=xp.T1 (f:=Tryz.f82) (keep:=k0) (e:=e0)
def zbP:=MC.addL [(144,zaZ),(98,zaF),(82,ziA)]
theorem qN:zt zbP:=nN.addL<|fc XO<|fc Xu<|fc zes ja
abbrev zl5:=lW [(3,[0,4,5]),(11,[0,4,5,6,7,8]),(15,[0,4,5,6,7,8]),(20,[0,4,5,8])]
inductive eB where
 |h3 (s0:TS) (i5:Int)
 |h11 (s0:TS) (i5:Int) (i6:Int) (i7:Int) (z0:zn [CP.d zo])
 |h15 (s0:TS) (i5:Int) (i6:Int) (i7:Int) (z0:zn [CP.d zo])
 |h20 (s0:TS) (i5:Int) (z0:zn [CP.d zo])
 |h3b (s0:TS) (i5:Int) (lh_0:LF)
 |h11b (s0:TS) (i5:Int) (i6:Int) (i7:Int) (z1:zn [CP.d zo]) (lh_0:LF)
 |h15b (s0:TS) (i5:Int) (i6:Int) (i7:Int) (z1:zn [CP.d zo]) (lh_0:LF)
 |h20b (s0:TS) (i5:Int) (z1:zn [CP.d zo]) (lh_0:LF)
abbrev zoC:eB->Nat×St
 |.h3 s0 i5=>(3,⟨tm 131 [(0,str s0),(4,Qb),(5,ai i5)],[]⟩)
 |.h11 s0 i5 i6 i7 z0=>(11,⟨tm 131 [(0,str s0),(4,Qb),(5,ai i5),(6,AV.int IntKind.u8 i6),(7,ai i7),(8,Qf 0 0)],[Qa (bF [] [CP.d zo] z0)]⟩)
 |.h15 s0 i5 i6 i7 z0=>(15,⟨tm 131 [(0,str s0),(4,Qb),(5,ai i5),(6,AV.int IntKind.u8 i6),(7,ai i7),(8,Qf 0 0)],[Qa (bF [] [CP.d zo] z0)]⟩)
 |.h20 s0 i5 z0=>(20,⟨tm 131 [(0,str s0),(4,Qb),(5,ai i5),(8,Qf 0 0)],[Qa (bF [] [CP.d zo] z0)]⟩)
 |.h3b s0 i5 lh_0=>(3,⟨tm 131 [(0,str s0),(4,AV.vec 0),(5,ai i5)],[AO.vec zo lh_0]⟩)
 |.h11b s0 i5 i6 i7 z1 lh_0=>(11,⟨tm 131 [(0,str s0),(4,AV.vec 0),(5,ai i5),(6,AV.int IntKind.u8 i6),(7,ai i7),(8,Qf 1 0)],[AO.vec zo lh_0,Qa (bF [] [CP.d zo] z1)]⟩)
 |.h15b s0 i5 i6 i7 z1 lh_0=>(15,⟨tm 131 [(0,str s0),(4,AV.vec 0),(5,ai i5),(6,AV.int IntKind.u8 i6),(7,ai i7),(8,Qf 1 0)],[AO.vec zo lh_0,Qa (bF [] [CP.d zo] z1)]⟩)
 |.h20b s0 i5 z1 lh_0=>(20,⟨tm 131 [(0,str s0),(4,AV.vec 0),(5,ai i5),(8,Qf 1 0)],[AO.vec zo lh_0,Qa (bF [] [CP.d zo] z1)]⟩)
def zpM(x0:TS):Tr (eB⊕az):=
 Q9 (eB.h3 x0 0)
def cT:eB->Tr (eB⊕az)
 | .h3 s0 i5=>
  let a0:=(↑(getD s0 i5.toNat 0).toNat:Int)
  let a1:=IntKind.i64.wrap (i5+1)
  let a2:=Qg (a1.toNat-i5.toNat) (Qh i5.toNat s0)
  let a3:=((4,a2),())
  let a4:=(4,a2)
  let a5:=[a4]
  br (Q0 (i5<(↑(length s0):Int)))
  (Qc (zO i5 (length s0))
   (br (bif a0==32 then Q3 else a0==10) (Q9 (eB.h3 s0 a1)) (Qc (Q0 (0<=i5)&&Q0 (i5<=a1)&&Q0 (a1<=(↑(length s0):Int))) (Qc (kH a0) (br (nc a0) (Q9 (eB.h11 s0 a1 a0 i5 a3)) (Qc (fP a0) (br (gR a0) (Q9 (eB.h15 s0 a1 a0 i5 a3)) (br (a0==39) (Q9 (eB.h20 s0 a1 ((3,[]),()))) (Qc (iO a4)
   (br (!ma a4) (re (Qe [Qb,kb Q4]) []) (Qc (Q0 (a5.length<=1073741824)) (Q9 (eB.h3b s0 a1 a5)))))))))))))
  (re (Qe [Qb,AV.bool Q3]) [])
 | .h11 s0 i5 i6 i7 z0=>
  let a0:=Q0 (i5<(↑(length s0):Int))
  let a1:=(↑(getD s0 i5.toNat 0).toNat:Int)
  let a2:=Qg (i5.toNat-i7.toNat) (Qh i7.toNat s0)
  let a3:=(1,a2)
  let a4:=[a3]
  Qc (bif a0 then zO i5 (length s0)&&rK a1 else Q3)
  (br (bif a0 then xP a1 else Q4) (Q9 (eB.h11 s0 (IntKind.i64.wrap (i5+1)) i6 i7 z0))
   (Qc (Q0 (0<=i7)&&Q0 (i7<=i5)&&Q0 (i5<=(↑(length s0):Int))) (Qc (fP i6) (br (gR i6) (Q9 (eB.h15 s0 i5 i6 i7 ((1,a2),()))) (br (i6==39) (Q9 (eB.h20 s0 i5 ((3,[]),()))) (Qc (iO a3) (br (!ma a3) (re (Qe [Qb,kb Q4]) []) (Qc (Q0 (a4.length<=1073741824)) (Q9 (eB.h3b s0 i5 a4))))))))))
 | .h15 s0 i5 i6 i7 z0=>
  let a0:=Q0 (i5<(↑(length s0):Int))
  let a1:=(↑(getD s0 i5.toNat 0).toNat:Int)
  let a2:=(2,Qg (i5.toNat-i7.toNat) (Qh i7.toNat s0))
  let a3:=[a2]
  Qc (bif a0 then zO i5 (length s0)&&fP a1 else Q3)
  (br (bif a0 then gR a1 else Q4) (Q9 (eB.h15 s0 (IntKind.i64.wrap (i5+1)) i6 i7 z0))
   (Qc (Q0 (0<=i7)&&Q0 (i7<=i5)&&Q0 (i5<=(↑(length s0):Int))) (br (i6==39) (Q9 (eB.h20 s0 i5 ((3,[]),()))) (Qc (iO a2) (br (!ma a2) (re (Qe [Qb,kb Q4]) []) (Qc (Q0 (a3.length<=1073741824)) (Q9 (eB.h3b s0 i5 a3))))))))
 | .h20 s0 i5 z0=>
  let a0:=Q0 (i5<(↑(length s0):Int))
  let a1:=(↑(getD s0 i5.toNat 0).toNat:Int)
  let a2:=a1 !=39
  let a3:=IntKind.i64.wrap (i5+1)
  let a4:=Q0 (a3<(↑(length s0):Int))
  let a5:=Qg (a3.toNat-i5.toNat) (Qh i5.toNat s0)
  let a6:=((z0.1.1,z0.1.2++a5),())
  Qc (bif a0 then zO i5 (length s0)&&bif a2 then Q3 else bif a4 then zO a3 (length s0)else Q3 else Q3)
  (br (bif a0 then bif a2 then Q3 else bif a4 then(↑(getD s0 a3.toNat 0).toNat:Int)==39 else Q4 else Q4)
   (Qc (Q0 (0<=i5)&&Q0 (i5<=a3)&&Q0 (a3<=(↑(length s0):Int))) (Qc (Q0 (length z0.1.2+a5.length<=1099511627776)) (Qc (zO i5 (length s0)) (br (a1==39) (Q9 (eB.h20 s0 (IntKind.i64.wrap (a3+1)) a6)) (Q9 (eB.h20 s0 a3 a6))))))
   (br (Q0 (i5>=(↑(length s0):Int))) (re (Qe [Qb,kb Q4]) []) (Qc (iO z0.1) (br (!ma z0.1) (re (Qe [Qb,kb Q4]) []) (Qc (Q0 ([z0.1].length<=1073741824)) (Q9 (eB.h3b s0 a3 [z0.1])))))))
 | .h3b s0 i5 lh_0=>
  let a0:=(↑(getD s0 i5.toNat 0).toNat:Int)
  let a1:=IntKind.i64.wrap (i5+1)
  let a2:=Qg (a1.toNat-i5.toNat) (Qh i5.toNat s0)
  let a3:=((4,a2),())
  let a4:=(4,a2)
  let a5:=[a4]
  br (Q0 (i5<(↑(length s0):Int)))
  (Qc (zO i5 (length s0))
   (br (bif a0==32 then Q3 else a0==10) (Q9 (eB.h3b s0 a1 lh_0)) (Qc (Q0 (0<=i5)&&Q0 (i5<=a1)&&Q0 (a1<=(↑(length s0):Int))) (Qc (kH a0) (br (nc a0) (Q9 (eB.h11b s0 a1 a0 i5 a3 lh_0)) (Qc (fP a0) (br (gR a0) (Q9 (eB.h15b s0 a1 a0 i5 a3 lh_0)) (br (a0==39) (Q9 (eB.h20b s0 a1 ((3,[]),()) lh_0))
   (Qc (iO a4) (br (!ma a4) (re (Qe [Qb,kb Q4]) []) (Qc (Q0 (lh_0.length+a5.length<=1073741824)) (Q9 (eB.h3b s0 a1 (lh_0++a5))))))))))))))
  (re (Qe [AV.vec 0,AV.bool (Q0 ((↑lh_0.length:Int)<=400))]) [AO.vec zo lh_0])
 | .h11b s0 i5 i6 i7 z1 lh_0=>
  let a0:=Q0 (i5<(↑(length s0):Int))
  let a1:=(↑(getD s0 i5.toNat 0).toNat:Int)
  let a2:=Qg (i5.toNat-i7.toNat) (Qh i7.toNat s0)
  let a3:=(1,a2)
  let a4:=[a3]
  Qc (bif a0 then zO i5 (length s0)&&rK a1 else Q3)
  (br (bif a0 then xP a1 else Q4) (Q9 (eB.h11b s0 (IntKind.i64.wrap (i5+1)) i6 i7 z1 lh_0))
   (Qc (Q0 (0<=i7)&&Q0 (i7<=i5)&&Q0 (i5<=(↑(length s0):Int))) (Qc (fP i6) (br (gR i6) (Q9 (eB.h15b s0 i5 i6 i7 ((1,a2),()) lh_0)) (br (i6==39) (Q9 (eB.h20b s0 i5 ((3,[]),()) lh_0)) (Qc (iO a3) (br (!ma a3) (re (Qe [Qb,kb Q4]) [])
   (Qc (Q0 (lh_0.length+a4.length<=1073741824)) (Q9 (eB.h3b s0 i5 (lh_0++a4)))))))))))
 | .h15b s0 i5 i6 i7 z1 lh_0=>
  let a0:=Q0 (i5<(↑(length s0):Int))
  let a1:=(↑(getD s0 i5.toNat 0).toNat:Int)
  let a2:=(2,Qg (i5.toNat-i7.toNat) (Qh i7.toNat s0))
  let a3:=[a2]
  Qc (bif a0 then zO i5 (length s0)&&fP a1 else Q3)
  (br (bif a0 then gR a1 else Q4) (Q9 (eB.h15b s0 (IntKind.i64.wrap (i5+1)) i6 i7 z1 lh_0))
   (Qc (Q0 (0<=i7)&&Q0 (i7<=i5)&&Q0 (i5<=(↑(length s0):Int))) (br (i6==39) (Q9 (eB.h20b s0 i5 ((3,[]),()) lh_0)) (Qc (iO a2) (br (!ma a2) (re (Qe [Qb,kb Q4]) []) (Qc (Q0 (lh_0.length+a3.length<=1073741824)) (Q9 (eB.h3b s0 i5 (lh_0++a3)))))))))
 | .h20b s0 i5 z1 lh_0=>
  let a0:=Q0 (i5<(↑(length s0):Int))
  let a1:=(↑(getD s0 i5.toNat 0).toNat:Int)
  let a2:=a1 !=39
  let a3:=IntKind.i64.wrap (i5+1)
  let a4:=Q0 (a3<(↑(length s0):Int))
  let a5:=Qg (a3.toNat-i5.toNat) (Qh i5.toNat s0)
  let a6:=((z1.1.1,z1.1.2++a5),())
  Qc (bif a0 then zO i5 (length s0)&&bif a2 then Q3 else bif a4 then zO a3 (length s0)else Q3 else Q3)
  (br (bif a0 then bif a2 then Q3 else bif a4 then(↑(getD s0 a3.toNat 0).toNat:Int)==39 else Q4 else Q4)
   (Qc (Q0 (0<=i5)&&Q0 (i5<=a3)&&Q0 (a3<=(↑(length s0):Int))) (Qc (Q0 (length z1.1.2+a5.length<=1099511627776)) (Qc (zO i5 (length s0)) (br (a1==39) (Q9 (eB.h20b s0 (IntKind.i64.wrap (a3+1)) a6 lh_0)) (Q9 (eB.h20b s0 a3 a6 lh_0))))))
   (br (Q0 (i5>=(↑(length s0):Int))) (re (Qe [Qb,kb Q4]) []) (Qc (iO z1.1) (br (!ma z1.1) (re (Qe [Qb,kb Q4]) []) (Qc (Q0 (lh_0.length+[z1.1].length<=1073741824)) (Q9 (eB.h3b s0 a3 (lh_0++[z1.1]))))))))
def Ir(x0:TS):=ah [zo.sl,Q7] cT 100000000 (zpM x0)
def Iq(x0:TS):=(Ir x0).isSome
def yW(x0:TS):=o2 (Ir x0)
def ziC:=FT [Q6] [zo.sl,Q7] λx=>Ir x.1
theorem zeu:FK 88 ziC:=qN.T1 (f:=Tryz.f88) (keep:=zl5) (e:=zoC)
def Kt(x0:Sem Q5)(x1:TS):Tr (Empty⊕az):=
 let a0:=x1++YC
 let a1:=a0++qh (zm x0)
 br (ze.op x0==[])
 (Qc (gP (zm x0) (ze.mk [] (0,0,[]) [] [])) (re (Qe [str [],AV.bool (fq (zm x0) (ze.mk [] (0,0,[]) [] []))]) []))
 (Qc (tX (zm x0))
  (br (!Dp (zm x0)) (re (Qe [str [],kb Q4]) []) (br (x1==gD) (Qc (rC (zm x0)) (Qc (Q0 (YF.length+length (qh (zm x0))<=1099511627776)) (re (Qe [str (YF++qh (zm x0)),kb Q3]) [])))
  (Qc (Q0 (length x1+YC.length<=1099511627776)) (Qc (rC (zm x0)) (Qc (Q0 (length a0+length (qh (zm x0))<=1099511627776)) (Qc (Q0 (length a1+iC.length<=1099511627776)) (re (Qe [str (a1++iC),kb Q3]) []))))))))
def Bb(x0:Sem Q5)(x1:TS):=ah [Q6,Q7] t0 100000000 (Kt x0 x1)
def vS(x0:Sem Q5)(x1:TS):=(Bb x0 x1).isSome
def DI(x0:Sem Q5)(x1:TS):=o2 (Bb x0 x1)
def zaP:=FT [Q5,Q6] [Q6,Q7] λx=>Bb x.1 x.2.1
theorem XE:FK 136 zaP:=qN.T1 (f:=Tryz.f136) (keep:=k0) (e:=e0)
abbrev zf4:=lW [(3,[0,4,5])]
inductive By where
 |h3 (l0:LS) (s4:List UInt8) (i5:Int)
abbrev zkl:By->Nat×St
 |.h3 l0 s4 i5=>(3,⟨tm 37 [(0,sl Q6 l0),(4,str s4),(5,ai i5)],[]⟩)
def zk0(x0:Sem Sh.str.sl):Tr (By⊕az):=
 Q9 (By.h3 x0 [] 0)
def D5:By->Tr (By⊕az)
 | .h3 l0 s4 i5=>
  let a0:=l0.getD i5.toNat (zj Q6)
  let a1:=s4++eZ
  let a2:=IntKind.i64.wrap (i5+1)
  let a3:=Q0 (1<=(↑l0.length:Int))
  br (Q0 (i5<(↑l0.length:Int)))
  (Qc (zO i5 l0.length)
   (Qc (dL a0) (br (!bm a0) (re (Qe [str [],kb Q4]) []) (br (Q0 (i5>0)) (Qc (Q0 (s4.length+eZ.length<=1099511627776)) (Qc (zO i5 l0.length) (Qc (Q0 (length a1+length a0<=1099511627776)) (Q9 (By.h3 l0 (a1++a0) a2)))))
   (Qc (zO i5 l0.length) (Qc (Q0 (s4.length+length a0<=1099511627776)) (Q9 (By.h3 l0 (s4++a0) a2))))))))
  (re (Qe [str (bif a3 then s4 else s4),AV.bool (bif a3 then Q0 ((↑l0.length:Int)<=8)else Q4)]) [])
def vT(x0:Sem Sh.str.sl):=ah [Q6,Q7] D5 100000000 (zk0 x0)
def DJ(x0:Sem Sh.str.sl):=(vT x0).isSome
def Iy(x0:Sem Sh.str.sl):=o2 (vT x0)
def zaT:=FT [Sh.str.sl] [Q6,Q7] λx=>vT x.1
theorem XI:FK 140 zaT:=qN.T1 (f:=Tryz.f140) (keep:=zf4) (e:=zkl)
def zbQ:=zbP.addL [(88,ziC),(136,zaP),(140,zaT)]
theorem mP:zt zbQ:=qN.addL<|fc zeu<|fc XE<|fc XI ja
abbrev zf2:=lW [(4,[1,4,5,6]),(15,[1,4,5,8]),(20,[1,4,5,9])]
inductive ph where
 |h4 (b4:Bool) (s5:zB) (i6:Int) (z0:zn [CP.d zl])
 |h15 (b4:Bool) (s5:zB) (i8:Int) (z0:zn [CP.d zl])
 |h20 (b4:Bool) (s5:zB) (i9:Int) (z0:zn [CP.d zl])
abbrev zkj:ph->Nat×St
 |.h4 b4 s5 i6 z0=>(4,⟨tm 174 [(1,Qf 0 0),(4,AV.bool b4),(5,str s5),(6,ai i6)],[Qa (bF [] [CP.d zl] z0)]⟩)
 |.h15 b4 s5 i8 z0=>(15,⟨tm 174 [(1,Qf 0 0),(4,AV.bool b4),(5,str s5),(8,ai i8)],[Qa (bF [] [CP.d zl] z0)]⟩)
 |.h20 b4 s5 i9 z0=>(20,⟨tm 174 [(1,Qf 0 0),(4,AV.bool b4),(5,str s5),(9,ai i9)],[Qa (bF [] [CP.d zl] z0)]⟩)
def Uj(x0:Sem zl):Tr (ph⊕az):=
 let a0:=YG++x0.2.1
 let a1:=(↑(length x0.t.1):Int)
 let a2:=(↑(length x0.t.q.1):Int)
 let a3:=(↑(length x0.t.q.2.1):Int)
 Qc (dL x0.t.2.1)
 (Qc (Q0 (YG.length+length x0.2.1<=1099511627776))
  (Qc (Q0 (length a0+Aj.length<=1099511627776)) (Q9 (ph.h4 (bif bm x0.t.2.1 then bif Q0 (1<=a1)then bif Q0 (a1<=8)then bif Q0 (a2<=8)then Q0 (a3<=8)else Q4 else Q4 else Q4 else Q4) (a0++Aj) 0 (x0,())))))
def fG:ph->Tr (ph⊕az)
 | .h4 b4 s5 i6 z0=>
  let a0:=(↑(length z0.1.t.1):Int)
  let a1:=getD z0.1.t.1 i6.toNat (zj zi)
  let a2:=a1.1++[32]
  let a3:=[[],BQ,BR,BP].getD (toNat a1.2.1) (zj Q6)
  let a4:=a2++a3
  let a5:=s5++a4
  let a6:=a5++ze1
  let a7:=IntKind.i64.wrap (i6+1)
  let a8:=ze4++z0.1.t.2.1
  let a9:=a8++iC
  br (Q0 (i6<a0))
  (Qc (zO i6 (length z0.1.t.1))
   (Qc (dL a1.1) (br (bif !bm a1.1 then Q3 else bif Q0 (a1.2.1<1)then Q3 else Q0 (a1.2.1>3)) (re (Qe [str [],kb Q4]) []) (Qc (Q0 (length a1.1+[32].length<=1099511627776)) (Qc (zO a1.2.1 [[],BQ,BR,BP].length) (Qc (Q0 (length a2+length a3<=1099511627776))
   (Qc (Q0 (length s5+length a4<=1099511627776)) (br a1.2.2 (Qc (Q0 (length a5+ze1.length<=1099511627776)) (Qc (Q0 (length a6+eZ.length<=1099511627776)) (Q9 (ph.h4 b4 (a6++eZ) a7 z0))))
   (Qc (Q0 (length a5+eZ.length<=1099511627776)) (Q9 (ph.h4 b4 (a5++eZ) a7 z0)))))))))))
  (Qc (Q0 (ze4.length+length z0.1.t.2.1<=1099511627776))
   (Qc (Q0 (length a8+iC.length<=1099511627776)) (Qc (Q0 (length s5+length a9<=1099511627776)) (Q9 (ph.h15 b4 (s5++a9) 0 z0)))))
 | .h15 b4 s5 i8 z0=>
  let a0:=(↑(length z0.1.t.q.1):Int)
  let a1:=zO i8 (length z0.1.t.q.1)
  let a2:=getD z0.1.t.q.1 i8.toNat (zj Q6)
  let a3:=zeZ++a2
  let a4:=a3++iC
  br (Q0 (i8<a0))
  (Qc (bif b4 then a1&&dL a2 else Q3)
   (Qc a1 (Qc (Q0 (zeZ.length+length a2<=1099511627776)) (Qc (Q0 (length a3+iC.length<=1099511627776)) (Qc (Q0 (length s5+length a4<=1099511627776)) (Q9 (ph.h15 (bif b4 then bm a2 else Q4) (s5++a4) (IntKind.i64.wrap (i8+1)) z0)))))))
  (Q9 (ph.h20 b4 s5 0 z0))
 | .h20 b4 s5 i9 z0=>
  let a0:=(↑(length z0.1.t.q.2.1):Int)
  let a1:=zO i9 (length z0.1.t.q.2.1)
  let a2:=getD z0.1.t.q.2.1 i9.toNat (zj jb)
  let a3:=bm a2.1
  let a4:=zeY++a2.1
  let a5:=a4++zeX
  let a6:=a5++a2.2
  let a7:=zm z0.1.t.t.1
  let a8:=DI a7 [32,44]
  let a9:=s5++a8.1
  let a10:=a9++iC
  br (Q0 (i9<a0))
  (Qc (bif b4 then a1&&(dL a2.1&&bif a3 then a1&&dL a2.2 else Q3)else Q3)
   (Qc a1 (Qc (Q0 (zeY.length+length a2.1<=1099511627776)) (Qc (Q0 (length a4+zeX.length<=1099511627776)) (Qc a1 (Qc (Q0 (length a5+length a2.2<=1099511627776)) (Qc (Q0 (length s5+length a6<=1099511627776))
   (Q9 (ph.h20 (bif b4 then bif a3 then bm a2.2 else Q4 else Q4) (s5++a6) (IntKind.i64.wrap (i9+1)) z0)))))))))
  (Qc (vS a7 [32,44])
   (Qc (Q0 (length s5+length a8.1<=1099511627776)&&Q0 (length a9+iC.length<=1099511627776)) (re (Qe [str (bif b4 then a10 else a10),AV.bool (bif b4 then a8.2 else Q4)]) [])))
def m4(x0:Sem zl):=ah [Q6,Q7] fG 100000000 (Uj x0)
def rG(x0:Sem zl):=(m4 x0).isSome
def qi(x0:Sem zl):=o2 (m4 x0)
def zaQ:=FT [zl] [Q6,Q7] λx=>m4 x.1
theorem XF:FK 137 zaQ:=mP.T1 (f:=Tryz.f137) (keep:=zf2) (e:=zkj)
abbrev zlH:=lW [(2,[0,1,5]),(5,[0,1,5,6])]
inductive Jr where
 |h2 (l0:List (Sem zh)) (l1:List (Sem Q6)) (i5:Int)
 |h5 (l0:List (Sem zh)) (l1:List (Sem Q6)) (i5:Int) (i6:Int)
abbrev zol:Jr->Nat×St
 |.h2 l0 l1 i5=>(2,⟨tm 47 [(0,sl zh l0),(1,sl Q6 l1),(5,ai i5)],[]⟩)
 |.h5 l0 l1 i5 i6=>(5,⟨tm 47 [(0,sl zh l0),(1,sl Q6 l1),(5,ai i5),(6,ai i6)],[]⟩)
def zpI(x0:Sem zh.sl)(x1:Sem Sh.str.sl):Tr (Jr⊕az):=
 Q9 (Jr.h2 x0 x1 0)
def qt:Jr->Tr (Jr⊕az)
 | .h2 l0 l1 i5=>
  br (Q0 (i5<(↑l0.length:Int))) (Q9 (Jr.h5 l0 l1 i5 0)) (re (kb Q4) [])
 | .h5 l0 l1 i5 i6=>
  let a0:=l0.getD i5.toNat (zj zh)
  let a1:=(↑(length a0.1.t.1):Int)
  let a2:=!Lo l1 a0.1.1
  let a3:=getD a0.1.t.1 i6.toNat (zj zo)
  Qc (zO i5 l0.length)
  (br (Q0 (i6<a1))
   (Qc (zO i5 l0.length&&(yY l1 a0.1.1&&bif a2 then zO i5 l0.length&&(zO i6 (length a0.1.t.1)&&yY l1 a3.2)else Q3)) (br (bif a2 then Lo l1 a3.2 else Q4) (re (kb Q3) []) (Q9 (Jr.h5 l0 l1 i5 (IntKind.i64.wrap (i6+1))))))
   (Q9 (Jr.h2 l0 l1 (IntKind.i64.wrap (i5+1)))))
def om(x0:Sem zh.sl)(x1:Sem Sh.str.sl):=ah [Q7] qt 100000000 (zpI x0 x1)
def tW(x0:Sem zh.sl)(x1:Sem Sh.str.sl):=(om x0 x1).isSome
def xJ(x0:Sem zh.sl)(x1:Sem Sh.str.sl):=o1 (om x0 x1)
def zh1:=FT [zh.sl,Sh.str.sl] [Q7] λx=>om x.1 x.2.1
theorem zdS:FK 48 zh1:=mP.T1 (f:=Tryz.f48) (keep:=zlH) (e:=zol)
abbrev zlJ:=lW [(3,[0,1,6,7]),(10,[6,9]),(13,[6,9,10])]
inductive pi where
 |h3 (l0:List (Sem zi)) (l1:List (Sem Q6)) (i7:Int)
 |h3b (l0:List (Sem zi)) (l1:List (Sem Q6)) (i7:Int) (lh_0:List (Sem zg))
 |h10 (i9:Int)
 |h10b (i9:Int) (lh_0:List (Sem zg))
 |h13 (i9:Int) (i10:Int)
 |h13b (i9:Int) (i10:Int) (lh_0:List (Sem zg))
abbrev zon:pi->Nat×St
 |.h3 l0 l1 i7=>(3,⟨tm 50 [(0,sl zi l0),(1,sl Q6 l1),(6,Qb),(7,ai i7)],[]⟩)
 |.h3b l0 l1 i7 lh_0=>(3,⟨tm 50 [(0,sl zi l0),(1,sl Q6 l1),(6,AV.vec 0),(7,ai i7)],[AO.vec zg lh_0]⟩)
 |.h10 i9=>(10,⟨tm 50 [(6,Qb),(9,ai i9)],[]⟩)
 |.h10b i9 lh_0=>(10,⟨tm 50 [(6,AV.vec 0),(9,ai i9)],[AO.vec zg lh_0]⟩)
 |.h13 i9 i10=>(13,⟨tm 50 [(6,Qb),(9,ai i9),(10,ai i10)],[]⟩)
 |.h13b i9 i10 lh_0=>(13,⟨tm 50 [(6,AV.vec 0),(9,ai i9),(10,ai i10)],[AO.vec zg lh_0]⟩)
def zle(x0:Sem zi.sl)(x1:Sem Sh.str.sl):Tr (pi⊕az):=
 Q9 (pi.h3 x0 x1 0)
def jT:pi->Tr (pi⊕az)
 | .h3 l0 l1 i7=>
  let a0:=l1.getD i7.toNat (zj Q6)
  let a1:=eS l0 a0
  let a2:=[a1]
  br (Q0 (i7<(↑l1.length:Int)))
  (Qc (zO i7 l1.length)
   (Qc (dH l0 a0) (br (Q0 (a1<0)) (re (Qe [Qb,ai 4]) []) (Qc (Q0 (a2.length<=1073741824)) (Q9 (pi.h3b l0 l1 (IntKind.i64.wrap (i7+1)) a2))))))
  (Q9 (pi.h10 0))
 | .h3b l0 l1 i7 lh_0=>
  let a0:=l1.getD i7.toNat (zj Q6)
  let a1:=eS l0 a0
  let a2:=[a1]
  br (Q0 (i7<(↑l1.length:Int)))
  (Qc (zO i7 l1.length)
   (Qc (dH l0 a0) (br (Q0 (a1<0)) (re (Qe [Qb,ai 4]) []) (Qc (Q0 (lh_0.length+a2.length<=1073741824)) (Q9 (pi.h3b l0 l1 (IntKind.i64.wrap (i7+1)) (lh_0++a2)))))))
  (Q9 (pi.h10b 0 lh_0))
 | .h10 i9=>
  br (Q0 (i9<0)) (Q9 (pi.h13 i9 0)) (re (Qe [Qb,ai 0]) [])
 | .h10b i9 lh_0=>
  br (Q0 (i9<(↑lh_0.length:Int))) (Q9 (pi.h13b i9 0 lh_0)) (re (Qe [AV.vec 0,ai 0]) [AO.vec zg lh_0])
 | .h13 i9 i10=>
  br (Q0 (i10<i9)) Tr.err (Q9 (pi.h10 (IntKind.i64.wrap (i9+1))))
 | .h13b i9 i10 lh_0=>
  br (Q0 (i10<i9))
  (Qc (zO i9 lh_0.length)
   (Qc (Q0 (i9.toNat<lh_0.length)) (Qc (zO i10 lh_0.length) (Qc (Q0 (i10.toNat<lh_0.length)) (br (lh_0.getD i9.toNat (zj zg)==lh_0.getD i10.toNat (zj zg)) (re (Qe [Qb,ai 7]) []) (Q9 (pi.h13b i9 (IntKind.i64.wrap (i10+1)) lh_0)))))))
  (Q9 (pi.h10b (IntKind.i64.wrap (i9+1)) lh_0))
def ol(x0:Sem zi.sl)(x1:Sem Sh.str.sl):=ah [zg.sl,zg] jT 100000000 (zle x0 x1)
def oh(x0:Sem zi.sl)(x1:Sem Sh.str.sl):=(ol x0 x1).isSome
def rk(x0:Sem zi.sl)(x1:Sem Sh.str.sl):=o2 (ol x0 x1)
def zh3:=FT [zi.sl,Sh.str.sl] [zg.sl,zg] λx=>ol x.1 x.2.1
theorem zdT:FK 49 zh3:=mP.T1 (f:=Tryz.f49) (keep:=zlJ) (e:=zon)
def Zo(x0:Sem Q5)(x1:Sem zi.sl):Tr (Empty⊕az):=
 br (ze.op x0==[]) (re (ai 0) [])
 (Qc (tX (zm x0))
  (br (!Dp (zm x0)) (re (ai 1) []) (Qc (ov (zm x0) x1) (br (bif (iM (zm x0) x1).2==0 then bif (iM (zm x0) x1).1!=0 then(iM (zm x0) x1).1!=3 else Q4 else Q4) (re (ai 5) []) (re (ai (iM (zm x0) x1).2) [])))))
def A6(x0:Sem Q5)(x1:Sem zi.sl):=ah [zg] t0 100000000 (Zo x0 x1)
def rI(x0:Sem Q5)(x1:Sem zi.sl):=(A6 x0 x1).isSome
def xN(x0:Sem Q5)(x1:Sem zi.sl):=o1 (A6 x0 x1)
def zh5:=FT [Q5,zi.sl] [zg] λx=>A6 x.1 x.2.1
theorem zdV:FK 29 zh5:=mP.T1 (f:=Tryz.f29) (keep:=k0) (e:=e0)
def Tz:=zbQ.addL [(137,zaQ),(48,zh1),(49,zh3),(29,zh5)]
theorem Ci:zt Tz:=mP.addL<|fc XF<|fc zdS<|fc zdT<|fc zdV ja
abbrev zkd:List CP:=[.d .str,.d .str,.d .str,.nil,.nil,.d .str,.nil,.nil,.d .str,.d zg,.d zg,.d .str,.d .str,.nil,.d (.sl zf),.nil,.d .str,.d zg,.d zg,.d .str,.d .str,.nil,.d .str]
abbrev zfd:List CP:=[.d .str,.d .str,.d .str,.nil,.nil,.d .str,.nil,.nil,.d .str,.d zg,.d zg,.d .str,.d .str,.nil,.nil,.d (.sl iq),.d .expr,.d .str]
abbrev zl3:=lW [(15,[1,3,5,12,13]),(27,[1,3,5,8,9,14,15])]
inductive Bz where
 |h15 (s12:List UInt8) (i13:Int) (z0:zn pg) (z1:zn jf) (z2:zn zkd)
 |h27 (s8:TS) (b9:Sem Q7) (s14:List UInt8) (i15:Int) (z0:zn pg) (z1:zn jf) (z2:zn zfd)
abbrev zoA:Bz->Nat×St
 |.h15 s12 i13 z0 z1 z2=>(15,⟨tm 430 [(1,Qf 0 0),(3,Qf 1 0),(5,Qf 2 0),(12,str s12),(13,ai i13)],[Qa (bF [] pg z0),Qa (bF [] jf z1),Qa (bF [] zkd z2)]⟩)
 |.h27 s8 b9 s14 i15 z0 z1 z2=>(27,⟨tm 430 [(1,Qf 0 0),(3,Qf 1 0),(5,Qf 2 0),(8,str s8),(9,AV.bool b9),(14,str s14),(15,ai i15)],[Qa (bF [] pg z0),Qa (bF [] jf z1),Qa (bF [] zfd z2)]⟩)
def gY(x0:Sem zl):Tr (Bz⊕az):=
 let a0:=zm x0.t.t.1
 let a1:=zm x0.t.t.q.2.1
 let a2:=(x0.1,x0.2.1,x0.2.2.1,x0.2.2.2.1,x0.t.1,x0.t.2.1,x0.t.q.1,x0.t.q.2.1,a0,x0.t.t.2.1,x0.t.t.q.1,a1,x0.t.t.t)
 let a3:=qi a2
 let a4:=DI a1 gD
 let a5:=YI++x0.2.1
 let a6:=YR++x0.2.1
 let a7:=SW++x0.2.1
 let a8:=a7++kP
 let a9:=a8++x0.2.2.1
 let a10:=a9++Aj
 let a11:=Iy x0.2.2.2.1
 let a12:=a10++a11.1
 let a13:=a12++iC
 let a14:=DI a0 []
 let a15:=dL x0.2.2.1
 let a16:=bm x0.2.2.1
 let a17:=ze6++x0.2.1
 let a18:=a17++kP
 let a19:=a18++x0.2.2.1
 let a20:=a19++eZ
 let a21:=a20++x0.t.t.t
 let a22:=a21++Ak
 let a23:=a22++x0.t.2.1
 let a24:=dL x0.t.t.t
 let a25:=bm x0.t.t.t
 let a26:=ze5++x0.2.1
 let a27:=a26++kP
 let a28:=a27++x0.2.2.1
 let a29:=zO 0 (length x0.2.2.2.1)
 let a30:=a28++Qs
 let a31:=getD x0.2.2.2.1 (toNat 0) (zj Q6)
 let a32:=a30++a31
 let a33:=zO 1 (length x0.2.2.2.1)
 let a34:=a32++Qt
 let a35:=getD x0.2.2.2.1 (toNat 1) (zj Q6)
 let a36:=a34++a35
 let a37:=zj3++x0.2.1
 let a38:=a37++Mm
 let a39:=zj4++x0.2.1
 let a40:=a39++Mm
 let a41:=zj6++x0.2.1
 let a42:=a41++kP
 let a43:=zj7++x0.2.1
 let a44:=a43++kP
 Qc (vS a0 [])
 (Qc (vS a1 gD)
  (br (x0.1==mJ) (Qc (rG a2) (re (Qe [str a3.1,Qd [str x0.1,str x0.2.1,str [],Qb,sl zi x0.t.1,str x0.t.2.1,sl Q6 x0.t.q.1,sl (Sh.str.pr Q6) x0.t.q.2.1,str (ze.op x0.t.t.1),ai (ze.v x0.t.t.1).1,
  ai (ze.v x0.t.t.1).2.1,str (ze.v x0.t.t.1).2.2,str (ze.s x0.t.t.1),sl Q5 (ze.l x0.t.t.1),Qb,Qb,str [],ai 0,ai 0,str [],str [],Qb,str []],AV.bool a3.2]) [])) (br (x0.1==EB)
  (Qc (Q0 (YK.length+length x0.2.1<=1099511627776)) (re (Qe [str (YK++x0.2.1),Qd [str x0.1,str x0.2.1,str [],Qb,Qb,str [],Qb,Qb,str [],ai 0,
  ai 0,str [],str [],Qb,Qb,Qb,str [],ai 0,ai 0,str [],str [],Qb,str []],kb Q3]) [])) (br (x0.1==G7) (Q9 (Bz.h15 [] 0 (x0,()) ([],[],[],[],[],0,0,[],[],[],0,0,[],[],[],())
  (x0.1,x0.2.1,[],[],[],0,0,[],[],x0.t.t.2.1,[],0,0,[],[],[],()))) (br (x0.1==o6) (Q9 (Bz.h27 a4.1 a4.2 [] 0 (x0,()) ([],[],[],[],[],0,0,[],[],[],0,0,[],[],[],()) (x0.1,x0.2.1,[],[],[],0,0,[],[],x0.t.t.q.1,x0.t.t.q.2.1,[],()))) (br (x0.1==Jh)
  (Qc (Q0 (YI.length+length x0.2.1<=1099511627776)) (Qc (Q0 (length a5+length a4.1<=1099511627776)) (re (Qe [str (a5++a4.1),Qd [str x0.1,str x0.2.1,str [],Qb,Qb,str [],Qb,Qb,str [],ai 0,
  ai 0,str [],str [],Qb,Qb,Qb,str (ze.op x0.t.t.q.2.1),ai (ze.v x0.t.t.q.2.1).1,ai (ze.v x0.t.t.q.2.1).2.1,str (ze.v x0.t.t.q.2.1).2.2,str (ze.s x0.t.t.q.2.1),sl Q5 (ze.l x0.t.t.q.2.1),str []],AV.bool a4.2]) [])))
  (br (x0.1==py) (Qc (Q0 (YR.length+length x0.2.1<=1099511627776)) (Qc (Q0 (length a6+length a4.1<=1099511627776)) (re (Qe [str (a6++a4.1),Qd [str x0.1,str x0.2.1,str [],Qb,Qb,str [],Qb,Qb,str [],ai 0,
  ai 0,str [],str [],Qb,Qb,Qb,str (ze.op x0.t.t.q.2.1),ai (ze.v x0.t.t.q.2.1).1,ai (ze.v x0.t.t.q.2.1).2.1,str (ze.v x0.t.t.q.2.1).2.2,str (ze.s x0.t.t.q.2.1),sl Q5 (ze.l x0.t.t.q.2.1),str []],AV.bool a4.2]) [])))
  (br (x0.1==dv) (Qc (DJ x0.2.2.2.1) (Qc (Q0 (SW.length+length x0.2.1<=1099511627776)) (Qc (Q0 (length a7+kP.length<=1099511627776)) (Qc (Q0 (length a8+length x0.2.2.1<=1099511627776))
  (Qc (Q0 (length a9+Aj.length<=1099511627776)) (Qc (Q0 (length a10+length a11.1<=1099511627776)) (Qc (Q0 (length a12+iC.length<=1099511627776)) (Qc (Q0 (length a13+length a14.1<=1099511627776)) (br a11.2 (br a14.2 (Qc a15 (re (Qe [str (a13++a14.1),Qd
  [str x0.1,str x0.2.1,str x0.2.2.1,sl Q6 x0.2.2.2.1,Qb,str [],Qb,Qb,str (ze.op x0.t.t.1),ai (ze.v x0.t.t.1).1,ai (ze.v x0.t.t.1).2.1,str (ze.v x0.t.t.1).2.2,str (ze.s x0.t.t.1),
  sl Q5 (ze.l x0.t.t.1),Qb,Qb,str [],ai 0,ai 0,str [],str [],Qb,str []],AV.bool a16]) [])) (re (Qe [str (a13++a14.1),Qd [str x0.1,str x0.2.1,str x0.2.2.1,sl Q6 x0.2.2.2.1,Qb,str [],Qb,Qb,str (ze.op x0.t.t.1),
  ai (ze.v x0.t.t.1).1,ai (ze.v x0.t.t.1).2.1,str (ze.v x0.t.t.1).2.2,str (ze.s x0.t.t.1),sl Q5 (ze.l x0.t.t.1),Qb,Qb,str [],ai 0,ai 0,str [],str [],Qb,str []],kb Q4]) [])) (re (Qe [str (a13++a14.1),Qd
  [str x0.1,str x0.2.1,str x0.2.2.1,sl Q6 x0.2.2.2.1,Qb,str [],Qb,Qb,str (ze.op x0.t.t.1),ai (ze.v x0.t.t.1).1,ai (ze.v x0.t.t.1).2.1,str (ze.v x0.t.t.1).2.2,str (ze.s x0.t.t.1),
  sl Q5 (ze.l x0.t.t.1),Qb,Qb,str [],ai 0,ai 0,str [],str [],Qb,str []],kb Q4]) [])))))))))) (br (x0.1==gK) (Qc (Q0 (ze6.length+length x0.2.1<=1099511627776))
  (Qc (Q0 (length a17+kP.length<=1099511627776)) (Qc (Q0 (length a18+length x0.2.2.1<=1099511627776)) (Qc (Q0 (length a19+eZ.length<=1099511627776)) (Qc (Q0 (length a20+length x0.t.t.t<=1099511627776))
  (Qc (Q0 (length a21+Ak.length<=1099511627776)) (Qc (Q0 (length a22+length x0.t.2.1<=1099511627776)) (Qc (Q0 (length a23+length a14.1<=1099511627776)) (br a14.2 (Qc a15 (br a16 (Qc a24 (br a25 (Qc (dL x0.t.2.1) (re (Qe [str (a23++a14.1),Qd
  [str x0.1,str x0.2.1,str x0.2.2.1,Qb,Qb,str x0.t.2.1,Qb,Qb,str (ze.op x0.t.t.1),ai (ze.v x0.t.t.1).1,ai (ze.v x0.t.t.1).2.1,str (ze.v x0.t.t.1).2.2,str (ze.s x0.t.t.1),sl Q5 (ze.l x0.t.t.1),Qb,Qb,str [],
  ai 0,ai 0,str [],str [],Qb,str x0.t.t.t],AV.bool (bm x0.t.2.1)]) [])) (re (Qe [str (a23++a14.1),Qd [str x0.1,str x0.2.1,str x0.2.2.1,Qb,Qb,str x0.t.2.1,Qb,Qb,str (ze.op x0.t.t.1),ai (ze.v x0.t.t.1).1,
  ai (ze.v x0.t.t.1).2.1,str (ze.v x0.t.t.1).2.2,str (ze.s x0.t.t.1),sl Q5 (ze.l x0.t.t.1),Qb,Qb,str [],ai 0,ai 0,str [],str [],Qb,str x0.t.t.t],kb Q4]) []))) (re (Qe [str (a23++a14.1),Qd
  [str x0.1,str x0.2.1,str x0.2.2.1,Qb,Qb,str x0.t.2.1,Qb,Qb,str (ze.op x0.t.t.1),ai (ze.v x0.t.t.1).1,ai (ze.v x0.t.t.1).2.1,str (ze.v x0.t.t.1).2.2,str (ze.s x0.t.t.1),sl Q5 (ze.l x0.t.t.1),Qb,Qb,str [],
  ai 0,ai 0,str [],str [],Qb,str x0.t.t.t],kb Q4]) []))) (re (Qe [str (a23++a14.1),Qd [str x0.1,str x0.2.1,str x0.2.2.1,Qb,Qb,str x0.t.2.1,Qb,Qb,str (ze.op x0.t.t.1),ai (ze.v x0.t.t.1).1,
  ai (ze.v x0.t.t.1).2.1,str (ze.v x0.t.t.1).2.2,str (ze.s x0.t.t.1),sl Q5 (ze.l x0.t.t.1),Qb,Qb,str [],ai 0,ai 0,str [],str [],Qb,str x0.t.t.t],kb Q4]) [])))))))))) (br (x0.1==nA)
  (br ((↑(length x0.2.2.2.1):Int)!=2) (re (Qe [str [],Qd [str x0.1,str x0.2.1,str x0.2.2.1,sl Q6 x0.2.2.2.1,Qb,str [],Qb,Qb,str (ze.op x0.t.t.1),ai (ze.v x0.t.t.1).1,ai (ze.v x0.t.t.1).2.1,
  str (ze.v x0.t.t.1).2.2,str (ze.s x0.t.t.1),sl Q5 (ze.l x0.t.t.1),Qb,Qb,str [],ai 0,ai 0,str [],str [],Qb,str []],kb Q4]) []) (Qc (Q0 (ze5.length+length x0.2.1<=1099511627776))
  (Qc (Q0 (length a26+kP.length<=1099511627776)) (Qc (Q0 (length a27+length x0.2.2.1<=1099511627776)) (Qc (Q0 (length a28+Qs.length<=1099511627776)) (Qc a29 (Qc (Q0 (length a30+length a31<=1099511627776))
  (Qc (Q0 (length a32+Qt.length<=1099511627776)) (Qc a33 (Qc (Q0 (length a34+length a35<=1099511627776)) (Qc (Q0 (length a36+length a14.1<=1099511627776)) (br a14.2 (Qc a15 (br a16 (Qc a29 (Qc (dL a31) (br (bm a31) (Qc a33 (Qc (dL a35) (re (Qe [str (a36++a14.1),
  Qd [str x0.1,str x0.2.1,str x0.2.2.1,sl Q6 x0.2.2.2.1,Qb,str [],Qb,Qb,str (ze.op x0.t.t.1),ai (ze.v x0.t.t.1).1,ai (ze.v x0.t.t.1).2.1,str (ze.v x0.t.t.1).2.2,str (ze.s x0.t.t.1),sl Q5 (ze.l x0.t.t.1),Qb,Qb,
  str [],ai 0,ai 0,str [],str [],Qb,str []],AV.bool (bm a35)]) []))) (re (Qe [str (a36++a14.1),Qd [str x0.1,str x0.2.1,str x0.2.2.1,sl Q6 x0.2.2.2.1,Qb,str [],Qb,Qb,str (ze.op x0.t.t.1),ai (ze.v x0.t.t.1).1,
  ai (ze.v x0.t.t.1).2.1,str (ze.v x0.t.t.1).2.2,str (ze.s x0.t.t.1),sl Q5 (ze.l x0.t.t.1),Qb,Qb,str [],ai 0,ai 0,str [],str [],Qb,str []],kb Q4]) [])))) (re (Qe [str (a36++a14.1),Qd
  [str x0.1,str x0.2.1,str x0.2.2.1,sl Q6 x0.2.2.2.1,Qb,str [],Qb,Qb,str (ze.op x0.t.t.1),ai (ze.v x0.t.t.1).1,ai (ze.v x0.t.t.1).2.1,str (ze.v x0.t.t.1).2.2,str (ze.s x0.t.t.1),
  sl Q5 (ze.l x0.t.t.1),Qb,Qb,str [],ai 0,ai 0,str [],str [],Qb,str []],kb Q4]) []))) (re (Qe [str (a36++a14.1),Qd [str x0.1,str x0.2.1,str x0.2.2.1,sl Q6 x0.2.2.2.1,Qb,str [],Qb,Qb,str (ze.op x0.t.t.1),
  ai (ze.v x0.t.t.1).1,ai (ze.v x0.t.t.1).2.1,str (ze.v x0.t.t.1).2.2,str (ze.s x0.t.t.1),sl Q5 (ze.l x0.t.t.1),Qb,Qb,str [],ai 0,ai 0,str [],str [],Qb,str []],kb Q4]) []))))))))))))) (br (x0.1==On)
  (Qc (Q0 (zj3.length+length x0.2.1<=1099511627776)) (Qc (Q0 (length a37+Mm.length<=1099511627776)) (Qc (Q0 (length a38+length x0.t.t.t<=1099511627776)) (Qc a24 (re (Qe [str (a38++x0.t.t.t),Qd
  [str x0.1,str x0.2.1,str [],Qb,Qb,str [],Qb,Qb,str [],ai 0,ai 0,str [],str [],Qb,Qb,Qb,str [],ai 0,ai 0,str [],str [],Qb,str x0.t.t.t],AV.bool a25]) []))))) (br (x0.1==wJ)
  (Qc (Q0 (zj4.length+length x0.2.1<=1099511627776)) (Qc (Q0 (length a39+Mm.length<=1099511627776)) (Qc (Q0 (length a40+length x0.t.t.t<=1099511627776)) (Qc a24 (re (Qe [str (a40++x0.t.t.t),Qd
  [str x0.1,str x0.2.1,str [],Qb,Qb,str [],Qb,Qb,str [],ai 0,ai 0,str [],str [],Qb,Qb,Qb,str [],ai 0,ai 0,str [],str [],Qb,str x0.t.t.t],AV.bool a25]) []))))) (br (x0.1==Ai)
  (Qc (Q0 (zj6.length+length x0.2.1<=1099511627776)) (Qc (Q0 (length a41+kP.length<=1099511627776)) (Qc (Q0 (length a42+length x0.t.t.t<=1099511627776)) (Qc a24 (re (Qe [str (a42++x0.t.t.t),Qd
  [str x0.1,str x0.2.1,str [],Qb,Qb,str [],Qb,Qb,str [],ai 0,ai 0,str [],str [],Qb,Qb,Qb,str [],ai 0,ai 0,str [],str [],Qb,str x0.t.t.t],AV.bool a25]) []))))) (br (x0.1==BN) (Qc
  (Q0 (zj7.length+length x0.2.1<=1099511627776)) (Qc (Q0 (length a43+kP.length<=1099511627776)) (Qc (Q0 (length a44+length x0.t.t.t<=1099511627776)) (Qc a24 (re (Qe [str (a44++x0.t.t.t),Qd
  [str x0.1,str x0.2.1,str [],Qb,Qb,str [],Qb,Qb,str [],ai 0,ai 0,str [],str [],Qb,Qb,Qb,str [],ai 0,ai 0,str [],str [],Qb,str x0.t.t.t],AV.bool a25]) []))))) (re (Qe [str [],Qd
  [str x0.1,str x0.2.1,str [],Qb,Qb,str [],Qb,Qb,str [],ai 0,ai 0,str [],str [],Qb,Qb,Qb,str [],ai 0,ai 0,str [],str [],Qb,str []],kb Q4]) [])))))))))))))))
def mu:Bz->Tr (Bz⊕az)
 | .h15 s12 i13 z0 z1 z2=>
  let a0:=(↑(length z0.1.t.t.2.1):Int)
  let a1:=zO i13 (length z0.1.t.t.2.1)
  let a2:=getD z0.1.t.t.2.1 i13.toNat (zj zf)
  let a3:=ko a2
  let a4:=s12++eZ
  let a5:=oq a2
  let a6:=IntKind.i64.wrap (i13+1)
  let a7:=SV++z0.1.2.1
  let a8:=a7++YE
  let a9:=a8++s12
  br (Q0 (i13<a0))
  (Qc a1
   (Qc (mq a2) (br (!sQ a2) (re (Qe [str [],Qd [str z2.1,str z2.2.1,str z2.2.2.1,Qb,Qb,str z2.2.2.2.1,Qb,Qb,str z2.t.1,ai z2.t.2.1,ai z2.t.q.1,str z2.t.q.2.1,str z2.t.t.1,Qb,sl zf z2.t.t.2.1,Qb,
   str z2.t.t.q.1,ai z2.t.t.q.2.1,ai z2.t.t.t.1,str z2.t.t.t.2.1,str z2.t.t.t.q.1,Qb,str z2.t.t.t.q.2.1],kb Q4]) []) (br (Q0 (i13>0)) (Qc (Q0 (s12.length+eZ.length<=1099511627776))
   (Qc a1 (Qc a3 (Qc (Q0 (length a4+length a5<=1099511627776)) (Q9 (Bz.h15 (a4++a5) a6 z0 z1 z2)))))) (Qc a1 (Qc a3 (Qc (Q0 (s12.length+length a5<=1099511627776)) (Q9 (Bz.h15 (s12++a5) a6 z0 z1 z2)))))))))
  (Qc (Q0 (SV.length+length z0.1.2.1<=1099511627776))
   (Qc (Q0 (length a7+YE.length<=1099511627776)) (Qc (Q0 (length a8+s12.length<=1099511627776)) (Qc (Q0 (length a9+iC.length<=1099511627776)) (br (Q0 (1<=a0)) (re (Qe [str (a9++iC),Qd
   [str z2.1,str z2.2.1,str z2.2.2.1,Qb,Qb,str z2.2.2.2.1,Qb,Qb,str z2.t.1,ai z2.t.2.1,ai z2.t.q.1,str z2.t.q.2.1,str z2.t.t.1,Qb,sl zf z2.t.t.2.1,Qb,str z2.t.t.q.1,ai z2.t.t.q.2.1,
   ai z2.t.t.t.1,str z2.t.t.t.2.1,str z2.t.t.t.q.1,Qb,str z2.t.t.t.q.2.1],AV.bool (Q0 (a0<=12))]) []) (re (Qe [str (a9++iC),Qd [str z2.1,str z2.2.1,str z2.2.2.1,Qb,Qb,str z2.2.2.2.1,Qb,Qb,
   str z2.t.1,ai z2.t.2.1,ai z2.t.q.1,str z2.t.q.2.1,str z2.t.t.1,Qb,sl zf z2.t.t.2.1,Qb,str z2.t.t.q.1,ai z2.t.t.q.2.1,ai z2.t.t.t.1,str z2.t.t.t.2.1,str z2.t.t.t.q.1,
   Qb,str z2.t.t.t.q.2.1],kb Q4]) []))))))
 | .h27 s8 b9 s14 i15 z0 z1 z2=>
  let a0:=(↑(length z0.1.t.t.q.1):Int)
  let a1:=zO i15 (length z0.1.t.t.q.1)
  let a2:=getD z0.1.t.t.q.1 i15.toNat (zj iq)
  let a3:=!bm a2.1
  let a4:=zm a2.2
  let a5:=Q0 (length a2.1+ze0.length<=1099511627776)
  let a6:=rC a4
  let a7:=a2.1++ze0
  let a8:=qh a4
  let a9:=Q0 (length a7+length a8<=1099511627776)
  let a10:=s14++eZ
  let a11:=a7++a8
  let a12:=IntKind.i64.wrap (i15+1)
  let a13:=SY++z0.1.2.1
  let a14:=a13++YD
  let a15:=a14++s14
  br (Q0 (i15<a0))
  (Qc (a1&&(dL a2.1&&bif a3 then Q3 else a1&&tX a4))
   (br (bif a3 then Q3 else !Dp a4) (re (Qe [str [],Qd [str z2.1,str z2.2.1,str z2.2.2.1,Qb,Qb,str z2.2.2.2.1,Qb,Qb,str z2.t.1,ai z2.t.2.1,ai z2.t.q.1,str z2.t.q.2.1,str z2.t.t.1,Qb,Qb,
   sl (Sh.str.pr Q5) z2.t.t.2.1,str (ze.op z2.t.t.q.1),ai (ze.v z2.t.t.q.1).1,ai (ze.v z2.t.t.q.1).2.1,str (ze.v z2.t.t.q.1).2.2,str (ze.s z2.t.t.q.1),sl Q5 (ze.l z2.t.t.q.1),str z2.t.t.q.2.1],kb Q4]) [])
   (br (Q0 (i15>0)) (Qc (Q0 (s14.length+eZ.length<=1099511627776)) (Qc a1 (Qc a5 (Qc a1 (Qc a6 (Qc a9 (Qc (Q0 (length a10+length a11<=1099511627776)) (Q9 (Bz.h27 s8 b9 (a10++a11) a12 z0 z1 z2))))))))) (Qc a1 (Qc a5 (Qc a1
   (Qc a6 (Qc a9 (Qc (Q0 (s14.length+length a11<=1099511627776)) (Q9 (Bz.h27 s8 b9 (s14++a11) a12 z0 z1 z2)))))))))))
  (Qc (Q0 (SY.length+length z0.1.2.1<=1099511627776))
   (Qc (Q0 (length a13+YD.length<=1099511627776)) (Qc (Q0 (length a14+s14.length<=1099511627776)) (Qc (Q0 (length a15+length s8<=1099511627776)) (br b9 (br (Q0 (1<=a0)) (re (Qe [str (a15++s8),Qd [str z2.1,str z2.2.1,str z2.2.2.1,Qb,Qb,str z2.2.2.2.1,Qb,Qb,
   str z2.t.1,ai z2.t.2.1,ai z2.t.q.1,str z2.t.q.2.1,str z2.t.t.1,Qb,Qb,sl (Sh.str.pr Q5) z2.t.t.2.1,str (ze.op z2.t.t.q.1),ai (ze.v z2.t.t.q.1).1,ai (ze.v z2.t.t.q.1).2.1,str (ze.v z2.t.t.q.1).2.2,
   str (ze.s z2.t.t.q.1),sl Q5 (ze.l z2.t.t.q.1),str z2.t.t.q.2.1],AV.bool (Q0 (a0<=8))]) []) (re (Qe [str (a15++s8),Qd [str z2.1,str z2.2.1,str z2.2.2.1,Qb,Qb,str z2.2.2.2.1,Qb,Qb,str z2.t.1,ai z2.t.2.1,ai z2.t.q.1,
   str z2.t.q.2.1,str z2.t.t.1,Qb,Qb,sl (Sh.str.pr Q5) z2.t.t.2.1,str (ze.op z2.t.t.q.1),ai (ze.v z2.t.t.q.1).1,ai (ze.v z2.t.t.q.1).2.1,str (ze.v z2.t.t.q.1).2.2,
   str (ze.s z2.t.t.q.1),sl Q5 (ze.l z2.t.t.q.1),str z2.t.t.q.2.1],kb Q4]) [])) (re (Qe [str (a15++s8),Qd [str z2.1,str z2.2.1,str z2.2.2.1,Qb,Qb,str z2.2.2.2.1,Qb,Qb,str z2.t.1,ai z2.t.2.1,ai z2.t.q.1,
   str z2.t.q.2.1,str z2.t.t.1,Qb,Qb,sl (Sh.str.pr Q5) z2.t.t.2.1,str (ze.op z2.t.t.q.1),ai (ze.v z2.t.t.q.1).1,ai (ze.v z2.t.t.q.1).2.1,str (ze.v z2.t.t.q.1).2.2,str (ze.s z2.t.t.q.1),
   sl Q5 (ze.l z2.t.t.q.1),str z2.t.t.q.2.1],kb Q4]) []))))))
def dI(x0:Sem zl):=ah [Q6,zl,Q7] mu 100000000 (gY x0)
def vU(x0:Sem zl):=(dI x0).isSome
def Bc(x0:Sem zl):=o3 (dI x0)
def ziz:=FT [zl] [Q6,zl,Q7] λx=>dI x.1
theorem zer:FK 86 ziz:=Ci.T1 (f:=Tryz.f86) (keep:=zl3) (e:=zoA)
def zbR:=Tz.add 86 ziz
theorem FL:zt zbR:=Ci.add zer
def zfM(x0:Sem zl):Tr (Empty⊕az):=
 let a0:=(x0.1,x0.2.1,x0.2.2.1,x0.2.2.2.1,x0.t.1,x0.t.2.1,x0.t.q.1,x0.t.q.2.1,zm x0.t.t.1,x0.t.t.2.1,x0.t.t.q.1,zm x0.t.t.q.2.1,x0.t.t.t)
 let a1:=Bc a0
 let a2:=!a1.2.2
 let a3:=!bm x0.2.1
 let a4:=(a1.2.1.1,a1.2.1.2.1,a1.2.1.2.2.1,a1.2.1.2.2.2.1,a1.2.1.t.1,a1.2.1.t.2.1,a1.2.1.t.q.1,a1.2.1.t.q.2.1,zm a1.2.1.t.t.1,a1.2.1.t.t.2.1,a1.2.1.t.t.q.1,zm a1.2.1.t.t.q.2.1,a1.2.1.t.t.t)
 let a5:=yW a1.1
 Qc (vU a0)
 (Qc (bif a2 then Q3 else dL x0.2.1&&bif a3 then Q3 else Ba a4 a0)
  (br (bif a2 then Q3 else bif a3 then Q3 else !ft a4 a0) (re (Qe [str [],kb Q4]) []) (Qc (Iq a1.1) (br (!a5.2) (re (Qe [str [],kb Q4]) []) (re (Qe [str a1.1,kb Q3]) [])))))
def oB(x0:Sem zl):=ah [Q6,Q7] t0 100000000 (zfM x0)
def iP(x0:Sem zl):=(oB x0).isSome
def lv(x0:Sem zl):=o2 (oB x0)
def zh0:=FT [zl] [Q6,Q7] λx=>oB x.1
theorem zdR:FK 44 zh0:=FL.T1 (f:=Tryz.f44) (keep:=k0) (e:=e0)
def Kd:=zbR.add 44 zh0
theorem FM:zt Kd:=FL.add zdR
abbrev mK:List CP:=[.d .str,.d .str,.d .str,.vec .str,.nil,.d .str,.nil,.nil,.d .expr,.nil,.nil,.d .str,.d zg,.d zg,.d .str,.d .str,.nil,.d .str]
abbrev YZ:List CP:=[.d .str,.d .str,.d .str,.vec .str,.nil,.d .str,.nil,.nil,.d .str,.d zg,.d zg,.d .str,.d .str,.nil,.nil,.nil,.d .str,.d zg,.d zg,.d .str,.d .str,.nil,.d .str]
abbrev M2:Nat->aN:=λj=>if j=14 then{slots:=[0,1,4],prom:=[(1,Q1 3,.str)]}else if j=1000000 then{prom:=[(1,Q1 3,.str)]}else{ }
inductive sy where
 |h14 (z0:zn aB) (z1:zn YZ)
 |h14b (b4:Sem Q7) (z0:zn aB) (z1:zn YZ)
abbrev JT:sy->Nat×St
 |.h14 z0 z1=>(14,⟨tm 117 [(0,Qf 0 0),(1,Qf 1 0),(4,kb Q3)],[Qa (bF [] aB z0),Qa (bF [2] YZ z1),AO.vec Q6 z1.2.2.2.1]⟩)
 |.h14b b4 z0 z1=>(14,⟨tm 117 [(0,Qf 0 0),(1,Qf 1 0),(4,AV.bool b4)],[Qa (bF [] aB z0),Qa (bF [2] YZ z1),AO.vec Q6 z1.2.2.2.1]⟩)
theorem zgq:zI Kd.P 101 Tryz.f101 2:=bR kw
def Ui(y:zn aB)(z:zn jf):Tr (sy⊕az):=
 let a0:=(y.1,y.2.1,y.2.2.1,())
 let a1:=fu a0 Qu
 let a2:=(a1.2.1,a1.2.2.1,a1.2.2.2.1,())
 let a3:=bQ a2
 let a4:=(a3.2.1,a3.2.2.1,a3.2.2.2.1,())
 let a5:=bC a4 uv
 let a6:=(a5.1,a5.2.1,a5.2.2.1,())
 let a7:=bQ a6
 let a8:=(a7.2.1,a7.2.2.1,a7.2.2.2.1,())
 let a9:=([],z.2.2.2)
 let a10:=bC a8 [44]
 let a11:=(a10.1,a10.2.1,a10.2.2.1,())
 let a12:=bQ a11
 let a13:=(a12.2.1,a12.2.2.1,a12.2.2.2.1,())
 let a14:=bC a13 EE
 let a15:=(a14.1,a14.2.1,a14.2.2.1,())
 let a16:=bQ a15
 let a17:=(a16.2.1,a16.2.2.1,a16.2.2.2.1,())
 let a18:=eU a17 iv
 let a19:=bC a8 EC
 let a20:=(a19.1,a19.2.1,a19.2.2.1,())
 let a21:=bQ a20
 let a22:=[a21.1]
 let a23:=(a21.2.1,a21.2.2.1,a21.2.2.2.1,())
 let a24:=bC a23 EF
 let a25:=(a24.1,a24.2.1,a24.2.2.1,())
 let a26:=bQ a25
 let a27:=[a26.1]
 let a28:=(a26.2.1,a26.2.2.1,a26.2.2.2.1,())
 let a29:=eU a28 iv
 let a30:=eU a8 iv
 let a31:=fu a2 Qw
 let a32:=(a31.2.1,a31.2.2.1,a31.2.2.2.1,())
 let a33:=bQ a32
 let a34:=(a33.2.1,a33.2.2.1,a33.2.2.2.1,())
 let a35:=bC a34 uv
 let a36:=(a35.1,a35.2.1,a35.2.2.1,())
 let a37:=bQ a36
 let a38:=(a37.2.1,a37.2.2.1,a37.2.2.2.1,())
 let a39:=bC a38 [44]
 let a40:=(a39.1,a39.2.1,a39.2.2.1,())
 let a41:=bQ a40
 let a42:=(a41.2.1,a41.2.2.1,a41.2.2.2.1,())
 let a43:=bC a42 EE
 let a44:=(a43.1,a43.2.1,a43.2.2.1,())
 let a45:=bQ a44
 let a46:=(a45.2.1,a45.2.2.1,a45.2.2.2.1,())
 let a47:=eU a46 iv
 let a48:=bC a38 EC
 let a49:=(a48.1,a48.2.1,a48.2.2.1,())
 let a50:=bQ a49
 let a51:=[a50.1]
 let a52:=(a50.2.1,a50.2.2.1,a50.2.2.2.1,())
 let a53:=bC a52 EF
 let a54:=(a53.1,a53.2.1,a53.2.2.1,())
 let a55:=bQ a54
 let a56:=[a55.1]
 let a57:=(a55.2.1,a55.2.2.1,a55.2.2.2.1,())
 let a58:=eU a57 iv
 let a59:=eU a38 iv
 let a60:=fu a32 Qv
 let a61:=(a60.2.1,a60.2.2.1,a60.2.2.2.1,())
 let a62:=bQ a61
 let a63:=(a62.2.1,a62.2.2.1,a62.2.2.2.1,())
 let a64:=bC a63 uv
 let a65:=(a64.1,a64.2.1,a64.2.2.1,())
 let a66:=bQ a65
 let a67:=(a66.2.1,a66.2.2.1,a66.2.2.2.1,())
 let a68:=bC a67 [44]
 let a69:=(a68.1,a68.2.1,a68.2.2.1,())
 let a70:=bQ a69
 let a71:=(a70.2.1,a70.2.2.1,a70.2.2.2.1,())
 let a72:=bC a71 EE
 let a73:=(a72.1,a72.2.1,a72.2.2.1,())
 let a74:=bQ a73
 let a75:=(a74.2.1,a74.2.2.1,a74.2.2.2.1,())
 let a76:=eU a75 iv
 let a77:=bC a67 EC
 let a78:=(a77.1,a77.2.1,a77.2.2.1,())
 let a79:=bQ a78
 let a80:=[a79.1]
 let a81:=(a79.2.1,a79.2.2.1,a79.2.2.2.1,())
 let a82:=bC a81 EF
 let a83:=(a82.1,a82.2.1,a82.2.2.1,())
 let a84:=bQ a83
 let a85:=[a84.1]
 let a86:=(a84.2.1,a84.2.2.1,a84.2.2.2.1,())
 let a87:=eU a86 iv
 let a88:=eU a67 iv
 let a89:=(a60.2.1,a60.2.2.1,Q4,())
 let a90:=bQ a89
 let a91:=(a90.2.1,a90.2.2.1,a90.2.2.2.1,())
 let a92:=bC a91 uv
 let a93:=(a92.1,a92.2.1,a92.2.2.1,())
 let a94:=bQ a93
 let a95:=(a94.2.1,a94.2.2.1,a94.2.2.2.1,())
 let a96:=bC a95 [44]
 let a97:=(a96.1,a96.2.1,a96.2.2.1,())
 let a98:=bQ a97
 let a99:=(a98.2.1,a98.2.2.1,a98.2.2.2.1,())
 let a100:=bC a99 EE
 let a101:=(a100.1,a100.2.1,a100.2.2.1,())
 let a102:=bQ a101
 let a103:=(a102.2.1,a102.2.2.1,a102.2.2.2.1,())
 let a104:=eU a103 iv
 let a105:=bC a95 EC
 let a106:=(a105.1,a105.2.1,a105.2.2.1,())
 let a107:=bQ a106
 let a108:=[a107.1]
 let a109:=(a107.2.1,a107.2.2.1,a107.2.2.2.1,())
 let a110:=bC a109 EF
 let a111:=(a110.1,a110.2.1,a110.2.2.1,())
 let a112:=bQ a111
 let a113:=[a112.1]
 let a114:=(a112.2.1,a112.2.2.1,a112.2.2.2.1,())
 let a115:=eU a114 iv
 let a116:=eU a95 iv
 Qc (dV a0 Qu)
 (br a1.1
  (Qc (bl a2) (Qc (aR a4 uv) (Qc (bl a6) (br Q3 (Qc (aR a8 [40]) (Q9 (sy.h14 (bC a8 [40]) (dv,a3.1,a7.1,a9)))) (br Q4 (Qc (aR a8 [44]) (Qc (bl a11) (Qc (aR a13 EE) (Qc (bl a15) (Qc (dM a17 iv) (re (Qe []) (ch aB mK a18.2
  (dv,a3.1,a7.1,[],a16.1,a18.1,z.t.t.2.1,z.t.t.q.1,z.t.t.q.2.1,z.t.t.t.1,z.t.t.t.2.1,a12.1,())))))))) (br Q4 (Qc (aR a8 EC) (Qc (bl a20) (Qc (Q0 (a22.length<=1073741824)) (Qc (aR a23 EF) (Qc (bl a25)
  (Qc (Q0 (a22.length+a27.length<=1073741824)) (Qc (dM a28 iv) (re (Qe []) (ch aB mK a29.2 (dv,a3.1,a7.1,a22++a27,z.2.2.2.1,a29.1,z.t.t.2)))))))))) (Qc (dM a8 iv) (re (Qe []) (ch aB mK a30.2
  (dv,a3.1,a7.1,[],z.2.2.2.1,a30.1,z.t.t.2))))))))))
  (Qc (dV a2 Qw) (br a31.1 (Qc (bl a32) (Qc (aR a34 uv) (Qc (bl a36) (br Q4 (Qc (aR a38 [40]) (Q9 (sy.h14 (bC a38 [40]) (gK,a33.1,a37.1,a9)))) (br Q3 (Qc (aR a38 [44]) (Qc (bl a40) (Qc (aR a42 EE) (Qc (bl a44)
  (Qc (dM a46 iv) (re (Qe []) (ch aB mK a47.2 (gK,a33.1,a37.1,[],a45.1,a47.1,z.t.t.2.1,z.t.t.q.1,z.t.t.q.2.1,z.t.t.t.1,z.t.t.t.2.1,a41.1,())))))))) (br Q4 (Qc (aR a38 EC) (Qc (bl a49)
  (Qc (Q0 (a51.length<=1073741824)) (Qc (aR a52 EF) (Qc (bl a54) (Qc (Q0 (a51.length+a56.length<=1073741824)) (Qc (dM a57 iv) (re (Qe []) (ch aB mK a58.2 (gK,a33.1,a37.1,a51++a56,z.2.2.2.1,a58.1,z.t.t.2)))))))))) (Qc (dM a38 iv)
  (re (Qe []) (ch aB mK a59.2 (gK,a33.1,a37.1,[],z.2.2.2.1,a59.1,z.t.t.2)))))))))) (Qc (dV a32 Qv) (br a60.1 (Qc (bl a61) (Qc (aR a63 uv) (Qc (bl a65) (br Q4 (Qc (aR a67 [40]) (Q9 (sy.h14 (bC a67 [40]) (nA,a62.1,a66.1,a9))))
  (br Q4 (Qc (aR a67 [44]) (Qc (bl a69) (Qc (aR a71 EE) (Qc (bl a73) (Qc (dM a75 iv) (re (Qe []) (ch aB mK a76.2 (nA,a62.1,a66.1,[],a74.1,a76.1,z.t.t.2.1,z.t.t.q.1,z.t.t.q.2.1,
  z.t.t.t.1,z.t.t.t.2.1,a70.1,())))))))) (br Q3 (Qc (aR a67 EC) (Qc (bl a78) (Qc (Q0 (a80.length<=1073741824)) (Qc (aR a81 EF) (Qc (bl a83) (Qc (Q0 (a80.length+a85.length<=1073741824)) (Qc (dM a86 iv) (re (Qe []) (ch aB mK a87.2
  (nA,a62.1,a66.1,a80++a85,z.2.2.2.1,a87.1,z.t.t.2)))))))))) (Qc (dM a67 iv) (re (Qe []) (ch aB mK a88.2 (nA,a62.1,a66.1,[],z.2.2.2.1,a88.1,z.t.t.2)))))))))) (Qc (bl a89) (Qc (aR a91 uv) (Qc (bl a93)
  (br (z.1==dv) (Qc (aR a95 [40]) (Q9 (sy.h14 (bC a95 [40]) (z.1,a90.1,a94.1,a9)))) (br (z.1==gK) (Qc (aR a95 [44]) (Qc (bl a97) (Qc (aR a99 EE) (Qc (bl a101) (Qc (dM a103 iv) (re (Qe []) (ch aB mK a104.2
  (z.1,a90.1,a94.1,[],a102.1,a104.1,z.t.t.2.1,z.t.t.q.1,z.t.t.q.2.1,z.t.t.t.1,z.t.t.t.2.1,a98.1,())))))))) (br (z.1==nA) (Qc (aR a95 EC) (Qc (bl a106) (Qc (Q0 (a108.length<=1073741824)) (Qc (aR a109 EF) (Qc (bl a111)
  (Qc (Q0 (a108.length+a113.length<=1073741824)) (Qc (dM a114 iv) (re (Qe []) (ch aB mK a115.2 (z.1,a90.1,a94.1,a108++a113,z.2.2.2.1,a115.1,z.t.t.2)))))))))) (Qc (dM a95 iv) (re (Qe []) (ch aB mK a116.2 (z.1,a90.1,a94.1,[],z.2.2.2.1,a116.1,z.t.t.2)))))))))))))))
theorem zfo(y:zn aB)(z:zn jf):rn Kd 2 M2 Tryz.f101 [Qf 0 0,Qf 1 0] (ch aB jf y z)=(Ui y z).map (lf Tryz.f101 JT):=kw
def WK:sy->Tr (sy⊕az)
 | .h14 z0 z1=>
  let a0:=(z0.1,z0.2.1,z0.2.2.1,())
  let a1:=bQ a0
  let a2:=[a1.1]
  let a3:=(a1.2.1,a1.2.2.1,a1.2.2.2.1,())
  let a4:=fu a3 [44]
  let a5:=bC a0 [41]
  let a6:=(a5.1,a5.2.1,a5.2.2.1,())
  let a7:=eU a6 iv
  br z0.2.2.1
  (Qc (bl a0)
   (Qc (Q0 (z1.2.2.2.1.length+a2.length<=1073741824)) (Qc (dV a3 [44]) (Q9 (sy.h14b a4.1 a4.2 (z1.1,z1.2.1,z1.2.2.1,z1.2.2.2.1++a2,z1.t))))))
  (Qc (aR a0 [41])
   (Qc (dM a6 iv) (re (Qe []) (ch aB mK a7.2 (z1.1,z1.2.1,z1.2.2.1,z1.2.2.2.1,z1.t.1,a7.1,z1.t.t.q)))))
 | .h14b b4 z0 z1=>
  let a0:=(z0.1,z0.2.1,z0.2.2.1,())
  let a1:=bQ a0
  let a2:=[a1.1]
  let a3:=(a1.2.1,a1.2.2.1,a1.2.2.2.1,())
  let a4:=fu a3 [44]
  let a5:=bC a0 [41]
  let a6:=(a5.1,a5.2.1,a5.2.2.1,())
  let a7:=eU a6 iv
  br (bif b4 then z0.2.2.1 else Q4)
  (Qc (bl a0)
   (Qc (Q0 (z1.2.2.2.1.length+a2.length<=1073741824)) (Qc (dV a3 [44]) (Q9 (sy.h14b a4.1 a4.2 (z1.1,z1.2.1,z1.2.2.1,z1.2.2.2.1++a2,z1.t))))))
  (Qc (aR a0 [41])
   (Qc (dM a6 iv) (re (Qe []) (ch aB mK a7.2 (z1.1,z1.2.1,z1.2.2.1,z1.2.2.2.1,z1.t.1,a7.1,z1.t.t.q)))))
theorem zgz:∀s,run Kd 2 M2 (Func.results Tryz.f101).toList 400 (ac Tryz.f101 (JT s).1) (JT s).2=(WK s).map (lf Tryz.f101 JT)
 |.h14 z0 z1=>by kernel_rfl
 |.h14b b4 z0 z1=>by kernel_rfl
def Wv(y:zn aB)(z:zn jf):Option (zx (Qi Q1 [])×zn aB×zn mK):=Pb [] aB mK WK 100000000 (Ui y z)
def Wu(y:zn aB)(z:zn jf):Bool:=(Wv y z).isSome
def zcL(y:zn aB)(z:zn jf):zn aB×zn mK:=(λr:zx (Qi Q1 [])×zn aB×zn mK=>r.2) ((Wv y z).getD (cm [],fJ aB,fJ mK))
def zaH:zV:=S0 aB jf [] [] aB mK (λy z _=>Wu y z) λy z _=>((),zcL y z)
theorem Xw:FK 101 zaH:=zeG (ps:=aB) (qs:=jf) (ks:=[]) (outs:=[]) (keep:=M2) (gas:=400) (n:=100000000) (e:=JT) (t:=WK) (i:=λy z x=>Ui y z) FM zgq (λy z x=>zfo y z) zgz (λ_ _ _=>by kernel_rfl) (λ_ _ _=>by kernel_rfl)
def zbS:=Kd.add 101 zaH
theorem FN:zt zbS:=FM.add Xw
end
end Cad
