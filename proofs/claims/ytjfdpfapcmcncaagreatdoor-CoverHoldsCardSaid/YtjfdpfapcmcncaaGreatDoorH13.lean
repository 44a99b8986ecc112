/- The document's values that are known. -/
import Derived.Test.YtjfdpfapcmcncaaGreatDoorH12
namespace Cad
open Go Go.Proofs
open List renaming length→Io,map→Qi,drop→Qh,take→Qg
open IntKind renaming wrap→Γ,i64→Δ
open AV renaming ptr→Qf,tup→Qe,agg→Qd,nils→Qb
open Tr renaming chk→Qc,«to»→Q9
open AO renaming box→Qa
open Sh renaming bool→Q7,str→Q6,expr→Q5
open Bool renaming false→Q4,true→Q3
open Option renaming some→Q1
open Decidable renaming decide→Q0
open Int (toNat)
open List (getD)
open Tr (chk br re)
open AV (nils agg tup ptr kb str sl)
noncomputable section
set_option maxHeartbeats 4000000
def zdN(h:Sem ze):Tr (Empty⊕aw):=
 Qc (mF h)
 (br (tk h) (re (Qd [ai h.1,ai h.2.1,str h.2.2]) [])
  (re (Qd [ai 0,ai 0,str []]) []))
def wa(h:Sem ze):=an [ze] t0 100000000 (zdN h)
def rP(h:Sem ze):=(wa h).isSome
def ft(h:Sem ze):=o1 (wa h)
def zca:=FT [ze] [ze] λx=>wa x.1
theorem YQ:FK 56 zca:=nc.T1 (f:=Tryz.f56) (keep:=k0) (e:=e0)
def zdM(o:Sem ze)(h:Sem Q7):Tr (Empty⊕aw):=
 Qc (lF h) (re (AV.bool (o.1==(bb h).1&&(o.2.1==(bb h).2.1&&(o.2.2==(bb h).2.2&&Q3)))) [])
def Mo(h:Sem ze)(o:Sem Q7):=an [Q7] t0 100000000 (zdM h o)
def lB(h:Sem ze)(o:Sem Q7):=(Mo h o).isSome
def oG(h:Sem ze)(o:Sem Q7):=o1 (Mo h o)
def zb8:=FT [ze,Q7] [Q7] λx=>Mo x.1 x.2.1
theorem YO:FK 30 zb8:=nc.T1 (f:=Tryz.f30) (keep:=k0) (e:=e0)
def Im(g:Sem Q5->Sem zg->Sem Q7)(c:Sem Q5->Sem zg->Bool):bY:=GF.add 103 (zT [Q5,zg] [Q7] (λx=>c x.1 x.2.1) λx=>(g x.1 x.2.1,()))
theorem NN{g:Sem Q5->Sem zg->Sem Q7}{c:Sem Q5->Sem zg->Bool}(h:FK 103 (zT [Q5,zg] [Q7] (λx=>c x.1 x.2.1) λx=>(g x.1 x.2.1,()))):zw (Im g c):=nc.add h
abbrev Wj:Nat->aM:=λ_=>{ }
theorem zil(g:Sem Q5->Sem zg->Sem Q7)(c:Sem Q5->Sem zg->Bool):zO (Im g c).P 103 Tryz.f103 2:=bU kw
def P5(g:Sem Q5->Sem zg->Sem Q7)(c:Sem Q5->Sem zg->Bool)(h:Sem Q5)(I:Sem zg):Tr (Empty⊕aw):=
 let B:=(↑(zf.l h).length:Int)==0
 let o:=(zf.v h).1==0&&((zf.v h).2.1==0&&((zf.v h).2.2==[]&&Q3))
 let C:=(↑(zf.l h).length:Int)==1
 let D:=zJ 0 (zf.l h).length
 let E:=zl ((zf.l h).getD (toNat 0) (zi Q5))
 let u:=Γ Δ (I-1)
 let F:=c E u
 let z:=g E u
 let G:=(↑(zf.l h).length:Int)==2
 let H:=zl ((zf.l h).getD (toNat 1) (zi Q5))
 br (I==0) (re (kb Q4) [])
 (br (zf.op h==kF)
  (Qc (mF (zf.v h)) (re (AV.bool (cond (tk (zf.v h)) (cond (zf.s h==[]) B Q4) Q4)) []))
  (br (zf.op h==cW) (Qc (cond o (wl (zf.s h)&&bif uv (zf.s h)then Ev (zf.s h)else Q3) Q3) (re (AV.bool (cond o (cond (uv (zf.s h)) (cond (!MI (zf.s h)) B Q4) Q4) Q4)) [])) (br (cond (zf.op h==mU) Q3 (zf.op h==pf))
  (Qc (cond o (cond (zf.s h==[]) (cond C (D&&F) Q3) Q3) Q3) (re (AV.bool (cond o (cond (zf.s h==[]) (cond C z Q4) Q4) Q4)) [])) (Qc (Jk (zf.op h)) (br (QS (zf.op h)) (Qc
  (cond o (cond (zf.s h==[]) (cond G (D&&(F&&bif z then zJ 1 (zf.l h).length&&c H u else Q3)) Q3) Q3) Q3) (re (AV.bool (cond o (cond (zf.s h==[]) (cond G (cond z (g H u) Q4) Q4) Q4) Q4)) [])) (re (kb Q4) []))))))
theorem zhi(g:Sem Q5->Sem zg->Sem Q7)(c:Sem Q5->Sem zg->Bool)(h:Sem Q5)(o:Sem zg):rn (Im g c) 0 Wj Tryz.f103 [zC Q5 h,zC zg o] []=(P5 g c h o).map (lf Tryz.f103 e0):=kw
def oQ(o:Option (zz (Qi Q1 [Q7]))):Sem Q7:=(λr:zz (Qi Q1 [Q7])=>r.1) (o.getD (bQ [Q7]))
def Jj(g:Sem Q5->Sem zg->Sem Q7)(c:Sem Q5->Sem zg->Bool)(h:Sem Q5)(o:Sem zg):Option (zz (Qi Q1 [Q7])):=an [Q7] t0 100000000 (P5 g c h o)
def fY:Nat->Sem Q5->Sem zg->Option (zz (Qi Q1 [Q7]))
 |0=>λ_ _=>none
 |n+1=>Jj (λh o=>oQ (fY n h o)) λh o=>(fY n h o).isSome
theorem V7:zO GF.P 103 Tryz.f103 2:=bU kw
theorem Kq:∀n,FK 103 (zT [Q5,zg] [Q7] (λx=>(fY n x.1 x.2.1).isSome) λx=>(oQ (fY n x.1 x.2.1),()))
 |0=>eX ⟨Tryz.f103,V7.1,V7.2.1,V7.2.2.1⟩ (λ_=>rfl)
 |n+1=>kU (E:=Im (λh o=>oQ (fY n h o)) (λh o=>(fY n h o).isSome)) (ks:=[Q5,zg]) (outs:=[Q7]) (keep:=Wj) (gas:=400) (n:=100000000) (e:=e0) (t:=t0) (i:=λx=>P5 (λh o=>oQ (fY n h o)) (λh o=>(fY n h o).isSome) x.1 x.2.1) (NN (Kq n)) (zil _ _) (λx=>zhi _ _ x.1 x.2.1) (Xd _ _ _ _ _) (λ_=>by kernel_rfl) (λ_=>by kernel_rfl)
def Ji(h:Sem Q5)(o:Sem zg):Option (zz (Qi Q1 [Q7])):=fY 16 h o
def BG(h:Sem Q5)(o:Sem zg):Bool:=(Ji h o).isSome
def Jh(h:Sem Q5)(o:Sem zg):Sem Q7:=oQ (Ji h o)
def zcA:ac:=zT [Q5,zg] [Q7] (λx=>BG x.1 x.2.1) λx=>(Jh x.1 x.2.1,())
theorem Zh:FK 103 zcA:=Kq 16
def K7(g:Sem Q5->Sem (Sh.sl zj)->Sem zg×Sem zg)(c:Sem Q5->Sem (Sh.sl zj)->Bool):bY:=GF.add 58 (zT [Q5,Sh.sl zj] [zg,zg] (λx=>c x.1 x.2.1) λx=>((g x.1 x.2.1).1,(g x.1 x.2.1).2,()))
theorem Ss{g:Sem Q5->Sem (Sh.sl zj)->Sem zg×Sem zg}{c:Sem Q5->Sem (Sh.sl zj)->Bool}(h:FK 58 (zT [Q5,Sh.sl zj] [zg,zg] (λx=>c x.1 x.2.1) λx=>((g x.1 x.2.1).1,(g x.1 x.2.1).2,()))):zw (K7 g c):=nc.add h
abbrev Ws:Nat->aM:=λj=>if j=5 then{slots:=[1,2,6]}else{ }
inductive RK where
 |h5 (l1:LC) (i6:Int) (z0:zm [CP.d Q5])
abbrev UN:RK->Nat×St
 |.h5 o h z=>(5,⟨tm 116 [(1,sl zj o),(2,Qf 0 0),(6,ai h)],[Qa (bf [] [CP.d Q5] z)]⟩)
theorem zpi(g:Sem Q5->Sem zj.sl->Sem zg×Sem zg)(c:Sem Q5->Sem zj.sl->Bool):zO (K7 g c).P 58 Tryz.f58 2:=bU kw
def Dv(g:Sem Q5->Sem zj.sl->Sem zg×Sem zg)(c:Sem Q5->Sem zj.sl->Bool)(o:Sem Q5)(I:Sem zj.sl):Tr (RK⊕aw):=
 let L:=zl ((zf.l o).getD (toNat 0) (zi Q5))
 let u:=g L I
 let M:=zl ((zf.l o).getD (toNat 1) (zi Q5))
 let E:=g M I
 let O:=zf.op o==pf
 let S:=zf.op o==[61]
 let h:=u.1!=0
 let J:=E.1!=0
 let T:=zf.op o==[60]
 let U:=zf.op o==[43]
 let z:=u.1!=1
 let B:=bif J then E.1!=1 else Q4
 let F:=zf.op o==[45]
 let D:=u.1!=3
 let G:=bif J then E.1!=3 else Q4
 let C:=bif h then z else Q4
 let H:=bif h then D else Q4
 br (zf.op o==kF) (re (Qe [ai (zf.v o).1,ai 0]) [])
 (br (zf.op o==cW) (Q9 (RK.h5 I 0 (o,())))
  (Qc (zJ 0 (zf.l o).length) (Qc (c L I) (br (u.2!=0) (re (Qe [ai 0,ai u.2]) []) (br ((↑(zf.l o).length:Int)==2) (Qc (zJ 1 (zf.l o).length) (Qc (c M I) (br (E.2!=0) (re (Qe [ai 0,ai E.2]) []) (br O (re (Qe [ai 3,ai 0]) []) (br S
  (br (cond h (cond J (u.1!=E.1) Q4) Q4) (re (Qe [ai 0,ai 5]) []) (re (Qe [ai 3,ai 0]) [])) (br T (br (cond h (cond J (u.1!=E.1) Q4) Q4) (re (Qe [ai 0,ai 5]) []) (re (Qe [ai 3,ai 0]) [])) (br U
  (br (cond h (cond z Q3 B) B) (re (Qe [ai 0,ai 5]) []) (re (Qe [ai 1,ai 0]) [])) (br F (br (cond h (cond z Q3 B) B) (re (Qe [ai 0,ai 5]) []) (re (Qe [ai 1,ai 0]) []))
  (br (cond h (cond D Q3 G) G) (re (Qe [ai 0,ai 5]) []) (re (Qe [ai 3,ai 0]) [])))))))))) (br O (re (Qe [ai 3,ai 0]) []) (br S (br (cond h (cond h (u.1!=u.1) Q4) Q4) (re (Qe [ai 0,ai 5]) [])
  (re (Qe [ai 3,ai 0]) [])) (br T (br (cond h (cond h (u.1!=u.1) Q4) Q4) (re (Qe [ai 0,ai 5]) []) (re (Qe [ai 3,ai 0]) [])) (br U (br (cond h (cond z Q3 C) C) (re (Qe [ai 0,ai 5]) [])
  (re (Qe [ai 1,ai 0]) [])) (br F (br (cond h (cond z Q3 C) C) (re (Qe [ai 0,ai 5]) []) (re (Qe [ai 1,ai 0]) [])) (br (cond h (cond D Q3 H) H) (re (Qe [ai 0,ai 5]) []) (re (Qe [ai 3,ai 0]) []))))))))))))
theorem zm0(g:Sem Q5->Sem zj.sl->Sem zg×Sem zg)(c:Sem Q5->Sem zj.sl->Bool)(h:Sem Q5)(o:Sem zj.sl):rn (K7 g c) 0 Ws Tryz.f58 [zC Q5 h,zC zj.sl o] []=(Dv g c h o).map (lf Tryz.f58 UN):=kw
def M9(_:Sem Q5->Sem zj.sl->Sem zg×Sem zg)(_:Sem Q5->Sem zj.sl->Bool):RK->Tr (RK⊕aw)
 | .h5 o h z=>
  let u:=o.getD h.toNat (zi zj)
  br (Q0 (h<(↑o.length:Int)))
  (Qc (zJ h (Io o))
   (br (u.1==zf.s z.1) (Qc (zJ h (Io o)) (re (Qe [ai u.2.1,ai 0]) [])) (Q9 (RK.h5 o (Γ Δ (h+1)) z))))
  (re (Qe [ai 0,ai 4]) [])
theorem zpE(g:Sem Q5->Sem zj.sl->Sem zg×Sem zg)(c:Sem Q5->Sem zj.sl->Bool):∀s,run (K7 g c) 0 Ws (Func.results Tryz.f58).toList 400 (aj Tryz.f58 (UN s).1) (UN s).2=(M9 g c s).map (lf Tryz.f58 UN)
 |.h5 o h z=>by kernel_rfl
def fX(o:Option (zz (Qi Q1 [zg,zg]))):Sem zg×Sem zg:=(λr:zz (Qi Q1 [zg,zg])=>(r.1,r.2.1)) (o.getD (bQ [zg,zg]))
def QR(g:Sem Q5->Sem zj.sl->Sem zg×Sem zg)(c:Sem Q5->Sem zj.sl->Bool)(h:Sem Q5)(o:Sem zj.sl):Option (zz (Qi Q1 [zg,zg])):=an [zg,zg] (M9 g c) 100000000 (Dv g c h o)
def cd:Nat->Sem Q5->Sem zj.sl->Option (zz (Qi Q1 [zg,zg]))
 |0=>λ_ _=>none
 |n+1=>QR (λh o=>fX (cd n h o)) λh o=>(cd n h o).isSome
theorem zhM:zO GF.P 58 Tryz.f58 2:=bU kw
theorem Px:∀n,FK 58 (zT [Q5,zj.sl] [zg,zg] (λx=>(cd n x.1 x.2.1).isSome) λx=>((fX (cd n x.1 x.2.1)).1,(fX (cd n x.1 x.2.1)).2,()))
 |0=>eX ⟨Tryz.f58,zhM.1,zhM.2.1,zhM.2.2.1⟩ (λ_=>rfl)
 |n+1=>kU (E:=K7 (λh o=>fX (cd n h o)) (λh o=>(cd n h o).isSome)) (ks:=[Q5,zj.sl]) (outs:=[zg,zg]) (keep:=Ws) (gas:=400) (n:=100000000) (e:=UN) (t:=M9 (λh o=>fX (cd n h o)) (λh o=>(cd n h o).isSome)) (i:=λx=>Dv (λh o=>fX (cd n h o)) (λh o=>(cd n h o).isSome) x.1 x.2.1) (Ss (Px n)) (zpi _ _) (λx=>zm0 _ _ x.1 x.2.1) (zpE _ _) (λ_=>by kernel_rfl) (λ_=>by kernel_rfl)
def BF(h:Sem Q5)(o:Sem zj.sl):Option (zz (Qi Q1 [zg,zg])):=cd 16 h o
def oP(h:Sem Q5)(o:Sem zj.sl):Bool:=(BF h o).isSome
def iK(h:Sem Q5)(o:Sem zj.sl):Sem zg×Sem zg:=fX (BF h o)
def zkI:ac:=zT [Q5,zj.sl] [zg,zg] (λx=>oP x.1 x.2.1) λx=>((iK x.1 x.2.1).1,(iK x.1 x.2.1).2,())
theorem zgl:FK 58 zkI:=Px 16
def UT:=GF.addL [(56,zca),(30,zb8),(103,zcA),(58,zkI)]
theorem gW:zw UT:=nc.addL<|fc YQ<|fc YO<|fc Zh<|fc zgl iA
def zno(h:Sem ze)(o:Sem ze):Tr (Empty⊕aw):=
 let u:=(ft h).1==(ft o).1
 let z:=(ft h).2.1==(ft o).2.1
 Qc (rP h)
 (Qc (rP o)
  (br (u&&(z&&((ft h).2.2==(ft o).2.2&&Q3))) (re (ai 0) []) (br (cond (Q0 ((ft h).1<(ft o).1)) Q3 (cond u (cond (Q0 ((ft h).2.1<(ft o).2.1)) Q3 (cond z (Op.bytesLess (ft h).2.2 (ft o).2.2) Q4)) Q4)) (re (ai (-1)) []) (re (ai 1) []))))
def qA(h:Sem ze)(o:Sem ze):=an [zg] t0 100000000 (zno h o)
def lD(h:Sem ze)(o:Sem ze):=(qA h o).isSome
def oI(h:Sem ze)(o:Sem ze):=o1 (qA h o)
def zkl:=FT [ze,ze] [zg] λx=>qA x.1 x.2.1
theorem zfY:FK 28 zkl:=gW.T1 (f:=Tryz.f28) (keep:=k0) (e:=e0)
def zdZ(h:Sem ze)(o:Sem ze):Tr (Empty⊕aw):=
 Qc (rP h)
 (Qc (rP o)
  (re (AV.bool (cond ((ft h).1==0) Q3 (cond ((ft o).1==0) Q3 ((ft h).1!=(ft o).1)))) []))
def qB(h:Sem ze)(o:Sem ze):=an [Q7] t0 100000000 (zdZ h o)
def nv(h:Sem ze)(o:Sem ze):=(qB h o).isSome
def rL(h:Sem ze)(o:Sem ze):=o1 (qB h o)
def zcT:=FT [ze,ze] [Q7] λx=>qB x.1 x.2.1
theorem Zz:FK 105 zcT:=gW.T1 (f:=Tryz.f105) (keep:=k0) (e:=e0)
def zdT(h:Sem ze)(o:Sem ze):Tr (Empty⊕aw):=
 Qc (lB h Q4&&bif oG h Q4 then Q3 else lB o Q4)
 (br (cond (oG h Q4) Q3 (oG o Q4))
  (Qc Q3 (re (Qd [ai (bb Q4).1,ai (bb Q4).2.1,str (bb Q4).2.2]) []))
  (Qc (lB h Q3&&bif oG h Q3 then lB o Q3 else Q3) (br (cond (oG h Q3) (oG o Q3) Q4) (Qc Q3 (re (Qd [ai (bb Q3).1,ai (bb Q3).2.1,str (bb Q3).2.2]) [])) (re (Qd [ai 0,ai 0,str []]) []))))
def D4(h:Sem ze)(o:Sem ze):=an [ze] t0 100000000 (zdT h o)
def Jb(h:Sem ze)(o:Sem ze):=(D4 h o).isSome
def Hs(h:Sem ze)(o:Sem ze):=o1 (D4 h o)
def zcE:=FT [ze,ze] [ze] λx=>D4 x.1 x.2.1
theorem Zl:FK 62 zcE:=gW.T1 (f:=Tryz.f62) (keep:=k0) (e:=e0)
def zdU(h:Sem ze)(o:Sem ze):Tr (Empty⊕aw):=
 Qc (lB h Q3&&bif oG h Q3 then Q3 else lB o Q3)
 (br (cond (oG h Q3) Q3 (oG o Q3))
  (Qc Q3 (re (Qd [ai (bb Q3).1,ai (bb Q3).2.1,str (bb Q3).2.2]) []))
  (Qc (lB h Q4&&bif oG h Q4 then lB o Q4 else Q3) (br (cond (oG h Q4) (oG o Q4) Q4) (Qc Q3 (re (Qd [ai (bb Q4).1,ai (bb Q4).2.1,str (bb Q4).2.2]) [])) (re (Qd [ai 0,ai 0,str []]) []))))
def Mr(h:Sem ze)(o:Sem ze):=an [ze] t0 100000000 (zdU h o)
def QN(h:Sem ze)(o:Sem ze):=(Mr h o).isSome
def Tb(h:Sem ze)(o:Sem ze):=o1 (Mr h o)
def zcF:=FT [ze,ze] [ze] λx=>Mr x.1 x.2.1
theorem Zm:FK 63 zcF:=gW.T1 (f:=Tryz.f63) (keep:=k0) (e:=e0)
def zdS(h:Sem ze):Tr (Empty⊕aw):=
 Qc (lB h Q3)
 (br (oG h Q3)
  (Qc Q3 (re (Qd [ai (bb Q4).1,ai (bb Q4).2.1,str (bb Q4).2.2]) []))
  (Qc (lB h Q4) (br (oG h Q4) (Qc Q3 (re (Qd [ai (bb Q3).1,ai (bb Q3).2.1,str (bb Q3).2.2]) [])) (re (Qd [ai 0,ai 0,str []]) []))))
def D8(h:Sem ze):=an [ze] t0 100000000 (zdS h)
def Jd(h:Sem ze):=(D8 h).isSome
def Hu(h:Sem ze):=o1 (D8 h)
def zcD:=FT [ze] [ze] λx=>D8 x.1
theorem Zk:FK 60 zcD:=gW.T1 (f:=Tryz.f60) (keep:=k0) (e:=e0)
def znv(h:Sem Q5):Tr (Empty⊕aw):=
 let o:=Jh (zl h) 12
 Qc (BG (zl h) 12&&bif o then wc (zl h)else Q3) (re (AV.bool (cond o (Q0 (BH (zl h)<=60)) Q4)) [])
def Ee(h:Sem Q5):=an [Q7] t0 100000000 (znv h)
def ut(h:Sem Q5):=(Ee h).isSome
def Ed(h:Sem Q5):=o1 (Ee h)
def zkH:=FT [Q5] [Q7] λx=>Ee x.1
theorem zgk:FK 57 zkH:=gW.T1 (f:=Tryz.f57) (keep:=k0) (e:=e0)
def UU:=UT.addL [(28,zkl),(105,zcT),(62,zcE),(63,zcF),(60,zcD),(57,zkH)]
theorem C1:zw UU:=gW.addL<|fc zfY<|fc Zz<|fc Zl<|fc Zm<|fc Zk<|fc zgk iA
abbrev zh2:=lu [(2,[0,3])]
inductive FW where
 |h2 (i0:Sem zg) (s3:List UInt8)
abbrev zmt:FW->Nat×St
 |.h2 h o=>(2,⟨tm 21 [(0,ai h),(3,str o)],[]⟩)
def zna(h:Sem zg):Tr (FW⊕aw):=
 Q9 (FW.h2 h [])
def EY:FW->Tr (FW⊕aw)
 | .h2 o h=>
  let u:=jj [IntKind.u8.wrap (Γ Δ (48-Γ Δ (Int.tmod o 10)))]
  br (cond (Q0 (o<0)) Q3 (h==[]))
  (Qc Q3 (Qc (Q0 (Io u+Io h<=1099511627776)) (Qc Q3 (Q9 (FW.h2 (Γ Δ (Int.tdiv o 10)) (u++h))))))
  (re (str h) [])
def rO(h:Sem zg):=an [Q6] EY 100000000 (zna h)
def kO(h:Sem zg):=(rO h).isSome
def lG(h:Sem zg):=o1 (rO h)
def zcR:=FT [zg] [Q6] λx=>rO x.1
theorem Zx:FK 179 zcR:=C1.T1 (f:=Tryz.f179) (keep:=zh2) (e:=zmt)
def UZ:=UU.add 179 zcR
theorem C3:zw UZ:=C1.add Zx
abbrev zhV:=lu [(13,[1,3,4])]
inductive Cb where
 |h13 (s3:List UInt8) (i4:Int) (z0:zm [CP.d ze])
abbrev zmo:Cb->Nat×St
 |.h13 o h z=>(13,⟨tm 54 [(1,Qf 0 0),(3,str o),(4,ai h)],[Qa (bf [] [CP.d ze] z)]⟩)
def Au(h:Sem ze):Tr (Cb⊕aw):=
 let o:=Γ Δ (0-h.2.1)
 Qc (mF h)
 (br (!tk h) (re (str []) [])
  (br (h.1==0) (re (str Ft) []) (br (h.1==1) (br (Q0 (h.2.1<0)) (Qc (kO h.2.1) (Qc (Q0 ([45].length+Io (lG h.2.1)<=1099511627776)) (re (str ([45]++lG h.2.1)) []))) (Qc (kO o) (re (str (lG o)) []))) (br (h.1==2) (Q9 (Cb.h13 [39] 0 (h,())))
  (br (h.2.1==1) (re (str H9) []) (re (str H8) []))))))
def wL:Cb->Tr (Cb⊕aw)
 | .h13 u h z=>
  let C:=(↑(Io z.1.2.2):Int)
  let o:=Γ Δ (h+1)
  let D:=Qg (o.toNat-h.toNat) (Qh h.toNat z.1.2.2)
  let B:=u++D
  br (Q0 (h<C))
  (Qc (Q0 (0<=h)&&Q0 (h<=o)&&Q0 (o<=C))
   (Qc (Q0 (Io u+Io D<=1099511627776)) (Qc (zJ h (Io z.1.2.2)) (br ((↑(getD z.1.2.2 h.toNat 0).toNat:Int)==39) (Qc (Q0 (Io B+[39].length<=1099511627776)) (Q9 (Cb.h13 (B++[39]) o z))) (Q9 (Cb.h13 B o z))))))
  (Qc (Q0 (Io u+[39].length<=1099511627776)) (re (str (u++[39])) []))
def BB(h:Sem ze):=an [Q6] wL 100000000 (Au h)
def kB(h:Sem ze):=(BB h).isSome
def oJ(h:Sem ze):=o1 (BB h)
def zcr:=FT [ze] [Q6] λx=>BB x.1
theorem Y8:FK 138 zcr:=C3.T1 (f:=Tryz.f138) (keep:=zhV) (e:=zmo)
def Is:=UZ.add 138 zcr
theorem C6:zw Is:=C3.add Y8
def Il(g:Sem Q5->Sem Q6)(c:Sem Q5->Bool):bY:=Is.add 139 (zT [Q5] [Q6] (λx=>c x.1) λx=>(g x.1,()))
theorem NM{g:Sem Q5->Sem Q6}{c:Sem Q5->Bool}(h:FK 139 (zT [Q5] [Q6] (λx=>c x.1) λx=>(g x.1,()))):zw (Il g c):=C6.add h
abbrev Wi:Nat->aM:=λ_=>{ }
theorem zik(g:Sem Q5->Sem Q6)(c:Sem Q5->Bool):zO (Il g c).P 139 Tryz.f139 1:=bU kw
def pi(g:Sem Q5->Sem Q6)(c:Sem Q5->Bool)(h:Sem Q5):Tr (Empty⊕aw):=
 let z:=zJ 0 (zf.l h).length
 let T:=zl ((zf.l h).getD (toNat 0) (zi Q5))
 let J:=c T
 let L:=g T
 let U:=uK++L
 let M:=Q0 ([40].length+Io L<=1099511627776)
 let u:=[40]++L
 let O:=zJ 1 (zf.l h).length
 let W:=zl ((zf.l h).getD (toNat 1) (zi Q5))
 let S:=c W
 let B:=u++Nz
 let o:=g W
 let C:=B++o
 let D:=u++NA
 let E:=D++o
 let F:=u++[32]
 let G:=F++zf.op h
 let H:=G++[32]
 let I:=H++o
 br (zf.op h==kF) (Qc (kB (zf.v h)) (re (str (oJ (zf.v h))) []))
 (br (zf.op h==cW) (re (str (zf.s h)) [])
  (br (zf.op h==mU) (Qc z (Qc J (Qc (Q0 (Io uK+Io L<=1099511627776)) (Qc (Q0 (Io U+[41].length<=1099511627776)) (re (str (U++[41])) []))))) (br (zf.op h==pf) (Qc z (Qc J (Qc M
  (Qc (Q0 (Io u+Io Cz<=1099511627776)) (re (str (u++Cz)) []))))) (br (zf.op h==ej) (Qc z (Qc J (Qc M (Qc (Q0 (Io u+Io Nz<=1099511627776)) (Qc O (Qc S
  (Qc (Q0 (Io B+Io o<=1099511627776)) (Qc (Q0 (Io C+[41].length<=1099511627776)) (re (str (C++[41])) []))))))))) (br (zf.op h==uM) (Qc z (Qc J (Qc M (Qc (Q0 (Io u+Io NA<=1099511627776)) (Qc O (Qc S
  (Qc (Q0 (Io D+Io o<=1099511627776)) (Qc (Q0 (Io E+[41].length<=1099511627776)) (re (str (E++[41])) []))))))))) (Qc z (Qc J (Qc M (Qc (Q0 (Io u+[32].length<=1099511627776)) (Qc (Q0 (Io F+Io (zf.op h)<=1099511627776))
  (Qc (Q0 (Io G+[32].length<=1099511627776)) (Qc O (Qc S (Qc (Q0 (Io H+Io o<=1099511627776)) (Qc (Q0 (Io I+[41].length<=1099511627776)) (re (str (I++[41])) []))))))))))))))))
theorem zhh(g:Sem Q5->Sem Q6)(c:Sem Q5->Bool)(h:Sem Q5):rn (Il g c) 0 Wi Tryz.f139 [zC Q5 h] []=(pi g c h).map (lf Tryz.f139 e0):=kw
def iJ(o:Option (zz (Qi Q1 [Q6]))):Sem Q6:=(λr:zz (Qi Q1 [Q6])=>r.1) (o.getD (bQ [Q6]))
def QQ(g:Sem Q5->Sem Q6)(c:Sem Q5->Bool)(h:Sem Q5):Option (zz (Qi Q1 [Q6])):=an [Q6] t0 100000000 (pi g c h)
def cM:Nat->Sem Q5->Option (zz (Qi Q1 [Q6]))
 |0=>λ_=>none
 |n+1=>QQ (λh=>iJ (cM n h)) λh=>(cM n h).isSome
theorem V6:zO Is.P 139 Tryz.f139 1:=bU kw
theorem Kp:∀n,FK 139 (zT [Q5] [Q6] (λx=>(cM n x.1).isSome) λx=>(iJ (cM n x.1),()))
 |0=>eX ⟨Tryz.f139,V6.1,V6.2.1,V6.2.2.1⟩ (λ_=>rfl)
 |n+1=>kU (E:=Il (λh=>iJ (cM n h)) (λh=>(cM n h).isSome)) (ks:=[Q5]) (outs:=[Q6]) (keep:=Wi) (gas:=400) (n:=100000000) (e:=e0) (t:=t0) (i:=λx=>pi (λh=>iJ (cM n h)) (λh=>(cM n h).isSome) x.1) (NM (Kp n)) (zik _ _) (λx=>zhh _ _ x.1) (Xd _ _ _ _ _) (λ_=>by kernel_rfl) (λ_=>by kernel_rfl)
def Jg(h:Sem Q5):Option (zz (Qi Q1 [Q6])):=cM 16 h
def rT(h:Sem Q5):Bool:=(Jg h).isSome
def qC(h:Sem Q5):Sem Q6:=iJ (Jg h)
def zcs:ac:=zT [Q5] [Q6] (λx=>rT x.1) λx=>(qC x.1,())
theorem Y9:FK 139 zcs:=Kp 16
def NT:=Is.add 139 zcs
theorem og:zw NT:=C6.add Y9
def znd(h:Sem zp.sl)(o:Sem zg)(E:Sem Q6):Tr (Empty⊕aw):=
 let z:=Q0 (o<(↑(Io h):Int))
 let u:=getD h (toNat o) (zi zp)
 let B:=u.1==1
 let C:=u.1==4
 let D:=u.2==E
 Qc
 (bif z then zJ o (Io h)&&bif B then zJ o (Io h)else zJ o (Io h)&&bif C then zJ o (Io h)else Q3
 else Q3)
 (re (AV.bool (cond z (cond B D (cond C D Q4)) Q4)) [])
def XT(h:Sem zp.sl)(o:Sem zg)(u:Sem Q6):=an [Q7] t0 100000000 (znd h o u)
def ms(h:Sem zp.sl)(o:Sem zg)(u:Sem Q6):=(XT h o u).isSome
def wq(h:Sem zp.sl)(o:Sem zg)(u:Sem Q6):=o1 (XT h o u)
def zcX:=FT [zp.sl,zg,Q6] [Q7] λx=>XT x.1 x.2.1 x.2.2.1
theorem ZC:FK 227 zcX:=og.T1 (f:=Tryz.f227) (keep:=k0) (e:=e0)
abbrev zh5:=lu [(3,[0,2,4,5]),(10,[0,2,6,7]),(18,[0,2,6,8])]
inductive o7 where
 |h3 (s0:Sem Q6) (l4:List (Sem ze)) (i5:Int) (z0:zm [CP.d ze])
 |h10 (s0:Sem Q6) (i7:Int) (z0:zm [CP.d ze]) (z1:zm [CP.d ze])
 |h18 (s0:Sem Q6) (i8:Int) (z0:zm [CP.d ze]) (z1:zm [CP.d ze])
abbrev zmw:o7->Nat×St
 |.h3 h D u z=>(3,⟨tm 145 [(0,str h),(2,Qf 0 0),(4,sl ze D),(5,ai u)],[Qa (bf [] [CP.d ze] z)]⟩)
 |.h10 h B z o=>(10,⟨tm 145 [(0,str h),(2,Qf 0 0),(6,Qf 1 0),(7,ai B)],[Qa (bf [] [CP.d ze] z),Qa (bf [] [CP.d ze] o)]⟩)
 |.h18 h C z o=>(18,⟨tm 145 [(0,str h),(2,Qf 0 0),(6,Qf 1 0),(8,ai C)],[Qa (bf [] [CP.d ze] z),Qa (bf [] [CP.d ze] o)]⟩)
def znf(h:Sem Q6):Tr (o7⊕aw):=
 Q9 (o7.h3 h [(0,0,[]),(3,0,[]),(3,1,[])] 0 ((0,0,[]),()))
def zpU:o7->Tr (o7⊕aw)
 | .h3 h H G D=>
  let u:=H.getD G.toNat (zi ze)
  let o:=Q0 ((↑(Io h):Int)>=2)
  let E:=(↑(getD h (toNat 0) 0).toNat:Int)==39
  let B:=Γ Δ ((↑(Io h):Int)-1)
  br (Q0 (G<(↑H.length:Int)))
  (Qc (zJ G (Io H)) (Qc (kB u) (br (oJ u==h) (Qc (zJ G (Io H)) (re (Qe [Qd [ai u.1,ai u.2.1,str u.2.2],kb Q3]) [])) (Q9 (o7.h3 h H (Γ Δ (G+1)) D)))))
  (Qc (cond o (zJ 0 (Io h)&&bif E then zJ B (Io h)else Q3) Q3) (br (cond o (cond E ((↑(getD h B.toNat 0).toNat:Int)==39) Q4) Q4) (Q9 (o7.h10 h 1 D ((2,0,[]),()))) (Q9 (o7.h18 h 0 D ((1,0,[]),())))))
 | .h10 h F D z=>
  let u:=Γ Δ ((↑(Io h):Int)-1)
  let o:=Γ Δ (F+1)
  let E:=Qg (o.toNat-F.toNat) (Qh F.toNat h)
  let B:=((z.1.1,z.1.2.1,z.1.2.2++E),())
  br (Q0 (F<u))
  (Qc (Q0 (0<=F)&&Q0 (F<=o)&&Q0 (o<=(↑(Io h):Int))) (Qc (Q0 (Io z.1.2.2+Io E<=1099511627776)) (Qc (zJ F (Io h)) (br ((↑(getD h F.toNat 0).toNat:Int)==39) (Q9 (o7.h10 h (Γ Δ (o+1)) D B)) (Q9 (o7.h10 h o D B))))))
  (Qc (kB z.1) (re (Qe [Qd [ai z.1.1,ai z.1.2.1,str z.1.2.2],AV.bool (oJ z.1==h)]) []))
 | .h18 h C D z=>
  let u:=zJ 0 (Io h)
  let o:=(↑(getD h (toNat 0) 0).toNat:Int)
  let E:=Γ Δ (C+1)
  let B:=(↑(getD h C.toNat 0).toNat:Int)
  let I:=Q0 (B<48)
  let J:=Q0 (B>57)
  let L:=Q0 (z.1.2.1< -922337203685477580)
  let M:=z.1.2.1==-922337203685477580
  let O:=Γ Δ (0-z.1.2.1)
  let S:=(z.1.1,O,z.1.2.2)
  br (Q0 (C<(↑(Io h):Int)))
  (Qc (cond (C==0) u Q3) (br (cond (C==0) (o==45) Q4) (Q9 (o7.h18 h E D z)) (Qc (zJ C (Io h)&&bif I then Q3 else zJ C (Io h)&&bif J then Q3 else bif L then Q3 else bif M then zJ C (Io h)else Q3)
  (br (cond I Q3 (cond J Q3 (cond L Q3 (cond M (Q0 (B>56)) Q4)))) (re (Qe [Qd [ai 0,ai 0,str []],kb Q4]) []) (Qc (zJ C (Io h)) (Q9 (o7.h18 h E D ((z.1.1,Γ Δ (Γ Δ (Γ Δ (10*z.1.2.1)-Γ Δ B)+48),z.1.2.2),()))))))))
  (Qc (cond (h==[]) Q3 u) (br (cond (h==[]) Q3 (o !=45)) (br (z.1.2.1==-9223372036854775808) (re (Qe [Qd [ai 0,ai 0,str []],kb Q4]) []) (Qc (kB S) (re (Qe [Qd [ai z.1.1,ai O,str z.1.2.2],AV.bool (oJ S==h)]) []))) (Qc (kB z.1)
  (re (Qe [Qd [ai z.1.1,ai z.1.2.1,str z.1.2.2],AV.bool (oJ z.1==h)]) []))))
def Ea(h:Sem Q6):=an [ze,Q7] zpU 100000000 (znf h)
def Ms(h:Sem Q6):=(Ea h).isSome
def vX(h:Sem Q6):=o2 (Ea h)
def zcZ:=FT [Q6] [ze,Q7] λx=>Ea x.1
theorem ZE:FK 266 zcZ:=og.T1 (f:=Tryz.f266) (keep:=zh5) (e:=zmw)
def zdF:=NT.addL [(227,zcX),(266,zcZ)]
theorem GR:zw zdF:=og.addL<|fc ZC<|fc ZE<|iA
abbrev zh4:=lu [(1,[0,1,4])]
inductive FX where
 |h1 (s0:Sem Q6) (s1:Sem Q6) (z0:zm [CP.d ze])
abbrev zmv:FX->Nat×St
 |.h1 h o z=>(1,⟨tm 25 [(0,str h),(1,str o),(4,Qf 0 0)],[Qa (bf [] [CP.d ze] z)]⟩)
def zne(h:Sem Q6)(o:Sem Q6):Tr (FX⊕aw):=
 Q9 (FX.h1 h o ((0,0,[]),()))
def zpT:FX->Tr (FX⊕aw)
 | .h1 o h z=>
  let u:=Q0 ((↑(Io h):Int)>0)
  Qc (cond u (zJ 0 (Io h)) Q3)
  (br (cond u ((↑(getD h (toNat 0) 0).toNat:Int)==48) Q4) (Qc (Q0 (0<=1)&&Q0 (1<=(↑(Io h):Int))&&Q0 ((↑(Io h):Int)<=(↑(Io h):Int))) (Q9 (FX.h1 o (Qg ((↑(Io h):Int).toNat-toNat 1) (Qh (toNat 1) h)) z)))
  (br (h==[]) (re (Qe [Qd [ai 1,ai 0,str []],kb Q3]) []) (Qc (Q0 (Io o+Io h<=1099511627776)) (Qc (Ms (o++h)) (re (Qe [Qd [ai (vX (o++h)).1.1,ai (vX (o++h)).1.2.1,str (vX (o++h)).1.2.2],AV.bool (vX (o++h)).2]) [])))))
def OW(h:Sem Q6)(o:Sem Q6):=an [ze,Q7] zpT 100000000 (zne h o)
def XU(h:Sem Q6)(o:Sem Q6):=(OW h o).isSome
def zeo(h:Sem Q6)(o:Sem Q6):=o2 (OW h o)
def zcY:=FT [Q6,Q6] [ze,Q7] λx=>OW x.1 x.2.1
theorem ZD:FK 265 zcY:=GR.T1 (f:=Tryz.f265) (keep:=zh4) (e:=zmv)
def zdG:=zdF.add 265 zcY
theorem GS:zw zdG:=GR.add ZD
def znc(h:Sem zp.sl)(o:Sem zg):Tr (Empty⊕aw):=
 let z:=Γ Δ (o+1)
 let F:=Q0 (z>=(↑(Io h):Int))
 let G:=zJ z (Io h)
 let D:=getD h z.toNat (zi zp)
 let B:=zeo [45] D.2
 let u:=getD h (toNat o) (zi zp)
 let C:=zeo [] u.2
 let H:=wq h o H9
 let I:=wq h o H8
 let E:=vX u.2
 br (Q0 (o>=(↑(Io h):Int)))
 (re (Qe [Qd [str [],ai 0,ai 0,str [],str [],Qb],ai (-1)]) [])
 (Qc (zJ o (Io h))
  (Qc (ms h o [45]) (br (wq h o [45]) (Qc (cond F Q3 G) (br (cond F Q3 (D.1!=2)) (re (Qe [Qd [str [],ai 0,ai 0,str [],str [],Qb],ai (-1)]) []) (Qc G (Qc (XU [45] D.2) (br (!B.2)
  (re (Qe [Qd [str [],ai 0,ai 0,str [],str [],Qb],ai (-1)]) []) (re (Qe [Qd [str kF,ai B.1.1,ai B.1.2.1,str B.1.2.2,str [],Qb],ai (Γ Δ (o+2))]) [])))))) (br (u.1==2) (Qc (XU [] u.2) (br (!C.2)
  (re (Qe [Qd [str [],ai 0,ai 0,str [],str [],Qb],ai (-1)]) []) (re (Qe [Qd [str kF,ai C.1.1,ai C.1.2.1,str C.1.2.2,str [],Qb],ai z]) []))) (br (u.1==3) (re
  (Qe [Qd [str kF,ai 2,ai 0,str u.2,str [],Qb],ai z]) []) (Qc (ms h o [40]) (br (wq h o [40]) Tr.err (Qc (ms h o H9&&bif H then Q3 else ms h o H8&&bif I then Q3 else ms h o Ft)
  (br (cond H Q3 (cond I Q3 (wq h o Ft))) (Qc (Ms u.2) (re (Qe [Qd [str kF,ai E.1.1,ai E.1.2.1,str E.1.2.2,str [],Qb],ai z]) [])) (br (u.1==1) (re (Qe [Qd [str cW,ai 0,ai 0,str [],str u.2,Qb],
  ai z]) []) (re (Qe [Qd [str [],ai 0,ai 0,str [],str [],Qb],ai (-1)]) [])))))))))))
def JD(h:Sem zp.sl)(o:Sem zg):=an [Q5,zg] t0 100000000 (znc h o)
def zbu(h:Sem zp.sl)(o:Sem zg):=(JD h o).isSome
def uw(h:Sem zp.sl)(o:Sem zg):=o2 (JD h o)
def zcW:=FT [zp.sl,zg] [Q5,zg] λx=>JD x.1 x.2.1
theorem ZB:FK 226 zcW:=GS.T1 (f:=Tryz.f226) (keep:=k0) (e:=e0)
def PX:=zdG.add 226 zcW
theorem GU:zw PX:=GS.add ZB
def CU(g:Sem zp.sl->Sem zg->Sem zg->Sem Q5×Sem zg)(c:Sem zp.sl->Sem zg->Sem zg->Bool):bY:=PX.add 180 (zT [zp.sl,zg,zg] [Q5,zg] (λx=>c x.1 x.2.1 x.2.2.1) λx=>((g x.1 x.2.1 x.2.2.1).1,(g x.1 x.2.1 x.2.2.1).2,()))
theorem NP{g:Sem zp.sl->Sem zg->Sem zg->Sem Q5×Sem zg}{c:Sem zp.sl->Sem zg->Sem zg->Bool}(h:FK 180 (zT [zp.sl,zg,zg] [Q5,zg] (λx=>c x.1 x.2.1 x.2.2.1) λx=>((g x.1 x.2.1 x.2.2.1).1,(g x.1 x.2.1 x.2.2.1).2,()))):zw (CU g c):=GU.add h
abbrev Om:=lu [(22,[0,2,6,15,16])]
inductive mM where
 |h22 (l0:List (Sem zp)) (i2:Sem zg) (i16:Sem zg) (z1:zm [CP.d Q5]) (ja0:List UInt8) (ja1:Int) (ja2:Int) (ja3:List UInt8) (ja4:List UInt8)
abbrev K1:mM->Nat×St
 |.h22 E D h F o u z B C=>(22,⟨tm 157 [(0,sl zp E),(2,ai D),(6,Qf 0 0),(15,Qf 1 0),(16,ai h)],[Qa [str o,ai u,ai z,str B,str C,Qb],Qa (bf [] [CP.d Q5] F)]⟩)
theorem zin(g:Sem zp.sl->Sem zg->Sem zg->Sem Q5×Sem zg)(c:Sem zp.sl->Sem zg->Sem zg->Bool):zO (CU g c).P 180 Tryz.f180 3:=bU kw
def VP(g:Sem zp.sl->Sem zg->Sem zg->Sem Q5×Sem zg)(c:Sem zp.sl->Sem zg->Sem zg->Bool)(h:Sem zp.sl)(u:Sem zg)(B:Sem zg):Tr (mM⊕aw):=
 let C:=Γ Δ (u+1)
 let D:=g h C 2
 let o:=g h u 3
 let E:=wq h o.2 [61]
 let z:=Γ Δ (o.2+1)
 let J:=getD h (toNat o.2) (zi zp)
 let F:=zl o.1
 let G:=g h z 3
 let H:=Γ Δ (B+1)
 let I:=g h u H
 br (Q0 (u<0))
 (re (Qe [Qd [str [],ai 0,ai 0,str [],str [],Qb],ai (-1)]) [])
 (br (B==4)
  (Qc (zbu h u) (re (Qe [Qd [str (zf.op (uw h u).1),ai (zf.v (uw h u).1).1,ai (zf.v (uw h u).1).2.1,str (zf.v (uw h u).1).2.2,str (zf.s (uw h u).1),sl Q5 (zf.l (uw h u).1)],ai (uw h u).2]) []))
  (br (B==2) (Qc (ms h u [78,79,84]) (br (wq h u [78,79,84]) (Qc (c h C 2) (re (Qe [Qd [str mU,ai 0,ai 0,str [],str [],sl Q5 [zl D.1]],ai D.2]) [])) (Qc (c h u 3) (br (Q0 (o.2<0))
  (re (Qe [Qd [str [],ai 0,ai 0,str [],str [],Qb],ai (-1)]) []) (Qc (ms h o.2 [61]&&bif E then Q3 else ms h o.2 [60]) (br (cond E Q3 (wq h o.2 [60])) (Qc (zJ o.2 (Io h)) (Qc (c h z 3) (re (Qe
  [Qd [str J.2,ai 0,ai 0,str [],str [],sl Q5 [F,zl G.1]],ai G.2]) []))) (Qc (ms h o.2 [73,83]) (br (wq h o.2 [73,83]) (Qc (ms h z Ft) (br (!wq h z Ft) (re (Qe [Qd [str [],ai 0,ai 0,str [],str [],Qb],ai (-1)]) [])
  (re (Qe [Qd [str pf,ai 0,ai 0,str [],str [],sl Q5 [F]],ai (Γ Δ (o.2+2))]) []))) (re (Qe [Qd [str (zf.op o.1),ai (zf.v o.1).1,ai (zf.v o.1).2.1,str (zf.v o.1).2.2,str (zf.s o.1),sl Q5 (zf.l o.1)],ai o.2])
  []))))))))) (Qc (c h u H) (Q9 (mM.h22 h B I.2 (I.1,()) [] 0 0 [] [])))))
theorem zhm(g:Sem zp.sl->Sem zg->Sem zg->Sem Q5×Sem zg)(c:Sem zp.sl->Sem zg->Sem zg->Bool)(h:Sem zp.sl)(o:Sem zg)(u:Sem zg):rn (CU g c) 0 Om Tryz.f180 [zC zp.sl h,zC zg o,zC zg u] []=(VP g c h o u).map (lf Tryz.f180 K1):=kw
def Yh(g:Sem zp.sl->Sem zg->Sem zg->Sem Q5×Sem zg)(c:Sem zp.sl->Sem zg->Sem zg->Bool):mM->Tr (mM⊕aw)
 | .h22 o G h z B C D E F=>
  let O:=bif G==1 then ms o h Ul else Q3
  let S:=bif G==1 then wq o h Ul else Q4
  let T:=wq o h [43]
  let L:=bif G==3 then ms o h [43]&&bif T then Q3 else ms o h [45]else Q3
  let M:=bif G==3 then bif T then Q3 else wq o h [45]else Q4
  let I:=o.getD (toNat h) (zi zp)
  let U:=Γ Δ (h+1)
  let W:=Γ Δ (G+1)
  let J:=c o U W
  let H:=g o U W
  let u:=[zl z.1,zl H.1]
  br (Q0 (h>=0))
  (Qc (cond (G==0) (ms o h [79,82]) Q3) (br (cond (G==0) (wq o h [79,82]) Q4) (Qc O (br S (Qc L (br M (Qc (zJ h (Io o)) (br (I.2==[]) (re (Qe [Qd [str (zf.op z.1),ai (zf.v z.1).1,ai (zf.v z.1).2.1,
  str (zf.v z.1).2.2,str (zf.s z.1),sl Q5 (zf.l z.1)],ai h]) []) (Qc J (Q9 (mM.h22 o G H.2 (zf.mk I.2 (0,0,[]) [] u,()) B C D E F))))) (br Q4 (re (Qe [Qd [str (zf.op z.1),ai (zf.v z.1).1,ai (zf.v z.1).2.1,
  str (zf.v z.1).2.2,str (zf.s z.1),sl Q5 (zf.l z.1)],ai h]) []) (Qc J (Q9 (mM.h22 o G H.2 (zf.mk ej (0,0,[]) [] u,()) B C D E F)))))) (Qc L (br M (Qc (zJ h (Io o)) (br (I.2==[]) (re (Qe [Qd
  [str (zf.op z.1),ai (zf.v z.1).1,ai (zf.v z.1).2.1,str (zf.v z.1).2.2,str (zf.s z.1),sl Q5 (zf.l z.1)],ai h]) []) (Qc J (Q9 (mM.h22 o G H.2 (zf.mk I.2 (0,0,[]) [] u,()) B C D E F))))) (br Q4 (re (Qe [Qd
  [str (zf.op z.1),ai (zf.v z.1).1,ai (zf.v z.1).2.1,str (zf.v z.1).2.2,str (zf.s z.1),sl Q5 (zf.l z.1)],ai h]) []) (Qc J (Q9 (mM.h22 o G H.2 (zf.mk uM (0,0,[]) [] u,()) B C D E F)))))))) (Qc O (br S (Qc L (br M (Qc (zJ h (Io o))
  (br (I.2==[]) (re (Qe [Qd [str (zf.op z.1),ai (zf.v z.1).1,ai (zf.v z.1).2.1,str (zf.v z.1).2.2,str (zf.s z.1),sl Q5 (zf.l z.1)],ai h]) []) (Qc J (Q9 (mM.h22 o G H.2 (zf.mk I.2 (0,0,[]) [] u,()) B C D E F))))) (br Q4 (re (Qe [Qd
  [str (zf.op z.1),ai (zf.v z.1).1,ai (zf.v z.1).2.1,str (zf.v z.1).2.2,str (zf.s z.1),sl Q5 (zf.l z.1)],ai h]) []) (Qc J (Q9 (mM.h22 o G H.2 (zf.mk ej (0,0,[]) [] u,()) B C D E F)))))) (Qc L (br M (Qc (zJ h (Io o)) (br (I.2==[]) (re
  (Qe [Qd [str (zf.op z.1),ai (zf.v z.1).1,ai (zf.v z.1).2.1,str (zf.v z.1).2.2,str (zf.s z.1),sl Q5 (zf.l z.1)],ai h]) []) (Qc J (Q9 (mM.h22 o G H.2 (zf.mk I.2 (0,0,[]) [] u,()) B C D E F))))) (br Q3 (re (Qe [Qd
  [str (zf.op z.1),ai (zf.v z.1).1,ai (zf.v z.1).2.1,str (zf.v z.1).2.2,str (zf.s z.1),sl Q5 (zf.l z.1)],ai h]) []) (Qc J (Q9 (mM.h22 o G H.2 (zf.mk [] (0,0,[]) [] u,()) B C D E F))))))))))
  (re (Qe [Qd [str (zf.op z.1),ai (zf.v z.1).1,ai (zf.v z.1).2.1,str (zf.v z.1).2.2,str (zf.s z.1),sl Q5 (zf.l z.1)],ai h]) [])
theorem ziv(g:Sem zp.sl->Sem zg->Sem zg->Sem Q5×Sem zg)(c:Sem zp.sl->Sem zg->Sem zg->Bool):∀s,run (CU g c) 0 Om (Func.results Tryz.f180).toList 400 (aj Tryz.f180 (K1 s).1) (K1 s).2=(Yh g c s).map (lf Tryz.f180 K1):=by intro s;cases s<;>kernel_rfl
def lI(o:Option (zz (Qi Q1 [Q5,zg]))):Sem Q5×Sem zg:=(λr:zz (Qi Q1 [Q5,zg])=>(r.1,r.2.1)) (o.getD (bQ [Q5,zg]))
def XV(g:Sem zp.sl->Sem zg->Sem zg->Sem Q5×Sem zg)(c:Sem zp.sl->Sem zg->Sem zg->Bool)(h:Sem zp.sl)(o:Sem zg)(u:Sem zg):Option (zz (Qi Q1 [Q5,zg])):=an [Q5,zg] (Yh g c) 100000000 (VP g c h o u)
def fb:Nat->Sem zp.sl->Sem zg->Sem zg->Option (zz (Qi Q1 [Q5,zg]))
 |0=>λ_ _ _=>none
 |n+1=>XV (λh o u=>lI (fb n h o u)) λh o u=>(fb n h o u).isSome
theorem V9:zO PX.P 180 Tryz.f180 3:=bU kw
theorem Ks:∀n,FK 180 (zT [zp.sl,zg,zg] [Q5,zg] (λx=>(fb n x.1 x.2.1 x.2.2.1).isSome) λx=>((lI (fb n x.1 x.2.1 x.2.2.1)).1,(lI (fb n x.1 x.2.1 x.2.2.1)).2,()))
 |0=>eX ⟨Tryz.f180,V9.1,V9.2.1,V9.2.2.1⟩ (λ_=>rfl)
 |n+1=>kU (E:=CU (λh o u=>lI (fb n h o u)) (λh o u=>(fb n h o u).isSome)) (ks:=[zp.sl,zg,zg]) (outs:=[Q5,zg]) (keep:=Om) (gas:=400) (n:=100000000) (e:=K1) (t:=Yh (λh o u=>lI (fb n h o u)) (λh o u=>(fb n h o u).isSome)) (i:=λx=>VP (λh o u=>lI (fb n h o u)) (λh o u=>(fb n h o u).isSome) x.1 x.2.1 x.2.2.1) (NP (Ks n)) (zin _ _) (λx=>zhm _ _ x.1 x.2.1 x.2.2.1) (ziv _ _) (λ_=>by kernel_rfl) (λ_=>by kernel_rfl)
def MN(h:Sem zp.sl)(o:Sem zg)(u:Sem zg):Option (zz (Qi Q1 [Q5,zg])):=fb 16 h o u
def MM(h:Sem zp.sl)(o:Sem zg)(u:Sem zg):Bool:=(MN h o u).isSome
def JF(h:Sem zp.sl)(o:Sem zg)(u:Sem zg):Sem Q5×Sem zg:=lI (MN h o u)
def zcQ:ac:=zT [zp.sl,zg,zg] [Q5,zg] (λx=>MM x.1 x.2.1 x.2.2.1) λx=>((JF x.1 x.2.1 x.2.2.1).1,(JF x.1 x.2.1 x.2.2.1).2,())
theorem Zw:FK 180 zcQ:=Ks 16
def zdH:=PX.add 180 zcQ
theorem GV:zw zdH:=GU.add Zw
def zm7(z:Sem zp.sl):Tr (Empty⊕aw):=
 let h:=JF z 0 0
 let o:=Q0 (h.2<0)
 let u:=zl h.1
 Qc (MM z 0 0)
 (Qc (cond o Q3 (ut u))
  (br (cond o Q3 (!Ed u)) (re (Qe [Qd [str [],ai 0,ai 0,str [],str [],Qb],ai 0,kb Q4]) []) (re (Qe [Qd [str (zf.op h.1),ai (zf.v h.1).1,ai (zf.v h.1).2.1,str (zf.v h.1).2.2,str (zf.s h.1),sl Q5 (zf.l h.1)],ai h.2,kb Q3])
  [])))
def Eu(h:Sem zp.sl):=an [Q5,zg,Q7] t0 100000000 (zm7 h)
def XS(h:Sem zp.sl):=(Eu h).isSome
def zbt(h:Sem zp.sl):=o3 (Eu h)
def zcH:=FT [zp.sl] [Q5,zg,Q7] λx=>Eu x.1
theorem Zo:FK 146 zcH:=GV.T1 (f:=Tryz.f146) (keep:=k0) (e:=e0)
def PY:=zdH.add 146 zcH
theorem GW:zw PY:=GV.add Zo
abbrev zed:=lu []
theorem zpo:zO PY.P 97 Tryz.f97 1:=bU kw
def zhI(y:zm aC):Tr (Empty⊕aw):=
 let o:=Qg ((↑(Io y.1):Int).toNat-toNat y.2.1) (Qh (toNat y.2.1) y.1)
 let h:=zbt o
 let u:=Γ Δ (y.2.1+h.2.1)
 Qc (Q0 (0<=y.2.1)&&Q0 (y.2.1<=(↑(Io y.1):Int))&&Q0 ((↑(Io y.1):Int)<=(↑(Io y.1):Int)))
 (Qc (XS o)
  (br (!h.2.2) (re (Qd [str (zf.op h.1),ai (zf.v h.1).1,ai (zf.v h.1).2.1,str (zf.v h.1).2.2,str (zf.s h.1),sl Q5 (zf.l h.1)]) [Qa [sl zp y.1,ai u,kb Q4]]) (re (Qd [str (zf.op h.1),ai (zf.v h.1).1,ai (zf.v h.1).2.1,str (zf.v h.1).2.2,
  str (zf.s h.1),sl Q5 (zf.l h.1)]) (ay aC (y.1,u,y.2.2)))))
theorem zm2(y:zm aC):rn PY 1 zed Tryz.f97 [Qf 0 0] (ay aC y)=(zhI y).map (lf Tryz.f97 e0):=kw
def QX(y:zm aC):Option (zz (Qi Q1 [Q5])×zm aC):=kA [Q5] aC t0 100000000 (zhI y)
def JL(y:zm aC):Bool:=(QX y).isSome
def JK(y:zm aC):(Sem Q5)×zm aC:=(λr:zz (Qi Q1 [Q5])×zm aC=>(r.1.1,r.2)) ((QX y).getD (bQ [Q5],fK aC))
def zkO:ac:=sE aC [] [Q5] aC (λy _=>JL y) λy _=>(((JK y).1,()),(JK y).2)
theorem zgs:FK 97 zkO:=kd (ps:=aC) (ks:=[]) (outs:=[Q5]) (keep:=zed) (gas:=400) (n:=100000000) (e:=e0) (t:=t0) (i:=λy x=>zhI y) GW zpo (λy x=>zm2 y) (Xd _ _ _ _ _) (λ_ _=>by kernel_rfl) (λ_ _=>by kernel_rfl)
def Vm:=PY.add 97 zkO
theorem xR:zw Vm:=GW.add zgs
abbrev zhZ:=lu [(6,[1,3])]
inductive FV where
 |h6 (i3:Int) (z0:zm [CP.d zp])
abbrev zms:FV->Nat×St
 |.h6 h z=>(6,⟨tm 82 [(1,Qf 0 0),(3,ai h)],[Qa (bf [] [CP.d zp] z)]⟩)
def LG(h:Sem zp):Tr (FV⊕aw):=
 let o:=(2,0,h.2)
 br (h.1==1) (Qc (wl h.2) (re (AV.bool (uv h.2)) []))
 (br (h.1==2) (Q9 (FV.h6 0 (h,())))
  (br (h.1==3) (Qc (mF o) (re (AV.bool (tk o)) [])) (br (h.1==4) (re (AV.bool (cond (h.2==[40]) Q3 (cond (h.2==[41]) Q3 (cond (h.2==[44]) Q3 (cond (h.2==[61]) Q3 (cond (h.2==[60]) Q3 (cond (h.2==[43]) Q3 (cond (h.2==[45]) Q3 (h.2==[42]))))))))) []) (re (kb Q4) []))))
def wN:FV->Tr (FV⊕aw)
 | .h6 h z=>
  let o:=(↑(Io z.1.2):Int)
  let u:=(↑(getD z.1.2 h.toNat 0).toNat:Int)
  br (Q0 (h<o))
  (Qc (zJ h (Io z.1.2))
   (Qc (fP u) (br (!gQ u) (re (kb Q4) []) (Q9 (FV.h6 (Γ Δ (h+1)) z)))))
  (re (AV.bool (cond (Q0 (1<=o)) (Q0 (o<=19)) Q4)) [])
def JB(h:Sem zp):=an [Q7] wN 100000000 (LG h)
def iM(h:Sem zp):=(JB h).isSome
def mq(h:Sem zp):=o1 (JB h)
def zcz:=FT [zp] [Q7] λx=>JB x.1
theorem Zg:FK 144 zcz:=xR.T1 (f:=Tryz.f144) (keep:=zhZ) (e:=zms)
abbrev Wf:=lu []
theorem zih:zO Vm.P 98 Tryz.f98 2:=bU kw
def VJ(y:zm aC)(C:TS):Tr (Empty⊕aw):=
 let D:=(y.1,y.2.1,y.2.2.1,())
 let u:=fx D C
 let z:=(u.2.1,u.2.2.1,u.2.2.2.1,())
 let o:=JK z
 let B:=bI z [40]
 let E:=(B.1,B.2.1,B.2.2.1,())
 let h:=JK E
 let F:=(h.2.1,h.2.2.1,h.2.2.2.1,())
 Qc (ea D C)
 (br (!u.1) (re (Qd [str [],ai 0,ai 0,str [],str [],Qb]) (ay aC u.2))
  (br (C==gE) (Qc (JL z) (re (Qd [str (zf.op o.1),ai (zf.v o.1).1,ai (zf.v o.1).2.1,str (zf.v o.1).2.2,str (zf.s o.1),sl Q5 (zf.l o.1)]) (ay aC o.2))) (Qc (aW z [40]) (Qc (JL E) (Qc (aW F [41]) (re (Qd
  [str (zf.op h.1),ai (zf.v h.1).1,ai (zf.v h.1).2.1,str (zf.v h.1).2.2,str (zf.s h.1),sl Q5 (zf.l h.1)]) (ay aC (bI F [41]))))))))
theorem zhb(y:zm aC)(h:TS):rn Vm 1 Wf Tryz.f98 [Qf 0 0,zC Q6 h] (ay aC y)=(VJ y h).map (lf Tryz.f98 e0):=kw
def QW(y:zm aC)(h:TS):Option (zz (Qi Q1 [Q5])×zm aC):=kA [Q5] aC t0 100000000 (VJ y h)
def dO(y:zm aC)(h:TS):Bool:=(QW y h).isSome
def eS(y:zm aC)(h:TS):(Sem Q5)×zm aC:=(λr:zz (Qi Q1 [Q5])×zm aC=>(r.1.1,r.2)) ((QW y h).getD (bQ [Q5],fK aC))
def zcf:ac:=sE aC [Q6] [Q5] aC (λy x=>dO y x.1) λy x=>(((eS y x.1).1,()),(eS y x.1).2)
theorem YW:FK 98 zcf:=kd (ps:=aC) (ks:=[Q6]) (outs:=[Q5]) (keep:=Wf) (gas:=400) (n:=100000000) (e:=e0) (t:=t0) (i:=λy x=>VJ y x.1) xR zih (λy x=>zhb y x.1) (Xd _ _ _ _ _) (λ_ _=>by kernel_rfl) (λ_ _=>by kernel_rfl)
def znt(h:TS):Tr (Empty⊕aw):=
 Qc (wl h&&bif uv h then Ev h else Q3) (re (AV.bool (cond (uv h) (!MI h) Q4)) [])
def ws(h:TS):=an [Q7] t0 100000000 (znt h)
def dN(h:TS):=(ws h).isSome
def bv(h:TS):=o1 (ws h)
def zkD:=FT [Q6] [Q7] λx=>ws x.1
theorem zgg:FK 82 zkD:=xR.T1 (f:=Tryz.f82) (keep:=k0) (e:=e0)
def zdp:=NT.addL [(144,zcz),(98,zcf),(82,zkD)]
theorem rc:zw zdp:=og.addL<|fc Zg<|fc YW<|fc zgg iA
abbrev zoi:=lu [(3,[0,4,5]),(11,[0,4,5,6,7,8]),(15,[0,4,5,6,7,8]),(20,[0,4,5,8])]
inductive ew where
 |h3 (s0:TS) (i5:Int)
 |h11 (s0:TS) (i5:Int) (i6:Int) (i7:Int) (z0:zm [CP.d zp])
 |h15 (s0:TS) (i5:Int) (i6:Int) (i7:Int) (z0:zm [CP.d zp])
 |h20 (s0:TS) (i5:Int) (z0:zm [CP.d zp])
 |h3b (s0:TS) (i5:Int) (lh_0:LF)
 |h11b (s0:TS) (i5:Int) (i6:Int) (i7:Int) (z1:zm [CP.d zp]) (lh_0:LF)
 |h15b (s0:TS) (i5:Int) (i6:Int) (i7:Int) (z1:zm [CP.d zp]) (lh_0:LF)
 |h20b (s0:TS) (i5:Int) (z1:zm [CP.d zp]) (lh_0:LF)
abbrev zqZ:ew->Nat×St
 |.h3 u o=>(3,⟨tm 131 [(0,str u),(4,Qb),(5,ai o)],[]⟩)
 |.h11 u o z B C=>(11,⟨tm 131 [(0,str u),(4,Qb),(5,ai o),(6,AV.int IntKind.u8 z),(7,ai B),(8,Qf 0 0)],[Qa (bf [] [CP.d zp] C)]⟩)
 |.h15 u o z B C=>(15,⟨tm 131 [(0,str u),(4,Qb),(5,ai o),(6,AV.int IntKind.u8 z),(7,ai B),(8,Qf 0 0)],[Qa (bf [] [CP.d zp] C)]⟩)
 |.h20 u o C=>(20,⟨tm 131 [(0,str u),(4,Qb),(5,ai o),(8,Qf 0 0)],[Qa (bf [] [CP.d zp] C)]⟩)
 |.h3b u o h=>(3,⟨tm 131 [(0,str u),(4,AV.vec 0),(5,ai o)],[AO.vec zp h]⟩)
 |.h11b u o z B D h=>(11,⟨tm 131 [(0,str u),(4,AV.vec 0),(5,ai o),(6,AV.int IntKind.u8 z),(7,ai B),(8,Qf 1 0)],[AO.vec zp h,Qa (bf [] [CP.d zp] D)]⟩)
 |.h15b u o z B D h=>(15,⟨tm 131 [(0,str u),(4,AV.vec 0),(5,ai o),(6,AV.int IntKind.u8 z),(7,ai B),(8,Qf 1 0)],[AO.vec zp h,Qa (bf [] [CP.d zp] D)]⟩)
 |.h20b u o D h=>(20,⟨tm 131 [(0,str u),(4,AV.vec 0),(5,ai o),(8,Qf 1 0)],[AO.vec zp h,Qa (bf [] [CP.d zp] D)]⟩)
def zr8(h:TS):Tr (ew⊕aw):=
 Q9 (ew.h3 h 0)
def cZ:ew->Tr (ew⊕aw)
 | .h3 h o=>
  let B:=(↑(getD h o.toNat 0).toNat:Int)
  let C:=Γ Δ (o+1)
  let D:=Qg (C.toNat-o.toNat) (Qh o.toNat h)
  let z:=((4,D),())
  let F:=(4,D)
  let H:=[F]
  br (Q0 (o<(↑(Io h):Int)))
  (Qc (zJ o (Io h))
   (br (cond (B==32) Q3 (B==10)) (Q9 (ew.h3 h C)) (Qc (Q0 (0<=o)&&Q0 (o<=C)&&Q0 (C<=(↑(Io h):Int))) (Qc (kQ B) (br (nF B) (Q9 (ew.h11 h C B o z)) (Qc (fP B) (br (gQ B) (Q9 (ew.h15 h C B o z)) (br (B==39) (Q9 (ew.h20 h C ((3,[]),()))) (Qc (iM F)
   (br (!mq F) (re (Qe [Qb,kb Q4]) []) (Qc (Q0 (Io H<=1073741824)) (Q9 (ew.h3b h C H)))))))))))))
  (re (Qe [Qb,AV.bool Q3]) [])
 | .h11 h o G E I=>
  let B:=Q0 (o<(↑(Io h):Int))
  let C:=(↑(getD h o.toNat 0).toNat:Int)
  let D:=Qg (o.toNat-E.toNat) (Qh E.toNat h)
  let z:=(1,D)
  let F:=[z]
  Qc (cond B (zJ o (Io h)&&r8 C) Q3)
  (br (cond B (yF C) Q4) (Q9 (ew.h11 h (Γ Δ (o+1)) G E I))
   (Qc (Q0 (0<=E)&&Q0 (E<=o)&&Q0 (o<=(↑(Io h):Int))) (Qc (fP G) (br (gQ G) (Q9 (ew.h15 h o G E ((1,D),()))) (br (G==39) (Q9 (ew.h20 h o ((3,[]),()))) (Qc (iM z) (br (!mq z) (re (Qe [Qb,kb Q4]) []) (Qc (Q0 (Io F<=1073741824)) (Q9 (ew.h3b h o F))))))))))
 | .h15 h o G E I=>
  let B:=Q0 (o<(↑(Io h):Int))
  let C:=(↑(getD h o.toNat 0).toNat:Int)
  let D:=(2,Qg (o.toNat-E.toNat) (Qh E.toNat h))
  let z:=[D]
  Qc (cond B (zJ o (Io h)&&fP C) Q3)
  (br (cond B (gQ C) Q4) (Q9 (ew.h15 h (Γ Δ (o+1)) G E I))
   (Qc (Q0 (0<=E)&&Q0 (E<=o)&&Q0 (o<=(↑(Io h):Int))) (br (G==39) (Q9 (ew.h20 h o ((3,[]),()))) (Qc (iM D) (br (!mq D) (re (Qe [Qb,kb Q4]) []) (Qc (Q0 (Io z<=1073741824)) (Q9 (ew.h3b h o z))))))))
 | .h20 h o I=>
  let B:=Q0 (o<(↑(Io h):Int))
  let C:=(↑(getD h o.toNat 0).toNat:Int)
  let D:=C !=39
  let z:=Γ Δ (o+1)
  let F:=Q0 (z<(↑(Io h):Int))
  let H:=Qg (z.toNat-o.toNat) (Qh o.toNat h)
  let L:=((I.1.1,I.1.2++H),())
  Qc (cond B (zJ o (Io h)&&bif D then Q3 else bif F then zJ z (Io h)else Q3) Q3)
  (br (cond B (cond D Q3 (cond F ((↑(getD h z.toNat 0).toNat:Int)==39) Q4)) Q4)
   (Qc (Q0 (0<=o)&&Q0 (o<=z)&&Q0 (z<=(↑(Io h):Int))) (Qc (Q0 (Io I.1.2+Io H<=1099511627776)) (Qc (zJ o (Io h)) (br (C==39) (Q9 (ew.h20 h (Γ Δ (z+1)) L)) (Q9 (ew.h20 h z L))))))
   (br (Q0 (o>=(↑(Io h):Int))) (re (Qe [Qb,kb Q4]) []) (Qc (iM I.1) (br (!mq I.1) (re (Qe [Qb,kb Q4]) []) (Qc (Q0 ([I.1].length<=1073741824)) (Q9 (ew.h3b h z [I.1])))))))
 | .h3b h o u=>
  let B:=(↑(getD h o.toNat 0).toNat:Int)
  let C:=Γ Δ (o+1)
  let D:=Qg (C.toNat-o.toNat) (Qh o.toNat h)
  let z:=((4,D),())
  let F:=(4,D)
  let H:=[F]
  br (Q0 (o<(↑(Io h):Int)))
  (Qc (zJ o (Io h))
   (br (cond (B==32) Q3 (B==10)) (Q9 (ew.h3b h C u)) (Qc (Q0 (0<=o)&&Q0 (o<=C)&&Q0 (C<=(↑(Io h):Int))) (Qc (kQ B) (br (nF B) (Q9 (ew.h11b h C B o z u)) (Qc (fP B) (br (gQ B) (Q9 (ew.h15b h C B o z u)) (br (B==39) (Q9 (ew.h20b h C ((3,[]),()) u))
   (Qc (iM F) (br (!mq F) (re (Qe [Qb,kb Q4]) []) (Qc (Q0 (Io u+Io H<=1073741824)) (Q9 (ew.h3b h C (u++H))))))))))))))
  (re (Qe [AV.vec 0,AV.bool (Q0 ((↑u.length:Int)<=400))]) [AO.vec zp u])
 | .h11b h o G E J u=>
  let B:=Q0 (o<(↑(Io h):Int))
  let C:=(↑(getD h o.toNat 0).toNat:Int)
  let D:=Qg (o.toNat-E.toNat) (Qh E.toNat h)
  let z:=(1,D)
  let F:=[z]
  Qc (cond B (zJ o (Io h)&&r8 C) Q3)
  (br (cond B (yF C) Q4) (Q9 (ew.h11b h (Γ Δ (o+1)) G E J u))
   (Qc (Q0 (0<=E)&&Q0 (E<=o)&&Q0 (o<=(↑(Io h):Int))) (Qc (fP G) (br (gQ G) (Q9 (ew.h15b h o G E ((1,D),()) u)) (br (G==39) (Q9 (ew.h20b h o ((3,[]),()) u)) (Qc (iM z) (br (!mq z) (re (Qe [Qb,kb Q4]) [])
   (Qc (Q0 (Io u+Io F<=1073741824)) (Q9 (ew.h3b h o (u++F)))))))))))
 | .h15b h o G E J u=>
  let B:=Q0 (o<(↑(Io h):Int))
  let C:=(↑(getD h o.toNat 0).toNat:Int)
  let D:=(2,Qg (o.toNat-E.toNat) (Qh E.toNat h))
  let z:=[D]
  Qc (cond B (zJ o (Io h)&&fP C) Q3)
  (br (cond B (gQ C) Q4) (Q9 (ew.h15b h (Γ Δ (o+1)) G E J u))
   (Qc (Q0 (0<=E)&&Q0 (E<=o)&&Q0 (o<=(↑(Io h):Int))) (br (G==39) (Q9 (ew.h20b h o ((3,[]),()) u)) (Qc (iM D) (br (!mq D) (re (Qe [Qb,kb Q4]) []) (Qc (Q0 (Io u+Io z<=1073741824)) (Q9 (ew.h3b h o (u++z)))))))))
 | .h20b h o J u=>
  let B:=Q0 (o<(↑(Io h):Int))
  let C:=(↑(getD h o.toNat 0).toNat:Int)
  let D:=C !=39
  let z:=Γ Δ (o+1)
  let F:=Q0 (z<(↑(Io h):Int))
  let H:=Qg (z.toNat-o.toNat) (Qh o.toNat h)
  let L:=((J.1.1,J.1.2++H),())
  Qc (cond B (zJ o (Io h)&&bif D then Q3 else bif F then zJ z (Io h)else Q3) Q3)
  (br (cond B (cond D Q3 (cond F ((↑(getD h z.toNat 0).toNat:Int)==39) Q4)) Q4)
   (Qc (Q0 (0<=o)&&Q0 (o<=z)&&Q0 (z<=(↑(Io h):Int))) (Qc (Q0 (Io J.1.2+Io H<=1099511627776)) (Qc (zJ o (Io h)) (br (C==39) (Q9 (ew.h20b h (Γ Δ (z+1)) L u)) (Q9 (ew.h20b h z L u))))))
   (br (Q0 (o>=(↑(Io h):Int))) (re (Qe [Qb,kb Q4]) []) (Qc (iM J.1) (br (!mq J.1) (re (Qe [Qb,kb Q4]) []) (Qc (Q0 (Io u+[J.1].length<=1073741824)) (Q9 (ew.h3b h z (u++[J.1]))))))))
def JA(h:TS):=an [zp.sl,Q7] cZ 100000000 (zr8 h)
def Jz(h:TS):=(JA h).isSome
def AH(h:TS):=o2 (JA h)
def zkF:=FT [Q6] [zp.sl,Q7] λx=>JA x.1
theorem zgi:FK 88 zkF:=rc.T1 (f:=Tryz.f88) (keep:=zoi) (e:=zqZ)
def LD(h:Sem Q5)(o:TS):Tr (Empty⊕aw):=
 let u:=o++Z4
 let z:=u++qC (zl h)
 br (zf.op h==[])
 (Qc (gO (zl h) (zf.mk [] (0,0,[]) [] [])) (re (Qe [str [],AV.bool (fu (zl h) (zf.mk [] (0,0,[]) [] []))]) []))
 (Qc (ut (zl h))
  (br (!Ed (zl h)) (re (Qe [str [],kb Q4]) []) (br (o==gE) (Qc (rT (zl h)) (Qc (Q0 (Io Z7+Io (qC (zl h))<=1099511627776)) (re (Qe [str (Z7++qC (zl h)),kb Q3]) [])))
  (Qc (Q0 (Io o+Io Z4<=1099511627776)) (Qc (rT (zl h)) (Qc (Q0 (Io u+Io (qC (zl h))<=1099511627776)) (Qc (Q0 (Io z+Io iw<=1099511627776)) (re (Qe [str (z++iw),kb Q3]) []))))))))
def BQ(h:Sem Q5)(o:TS):=an [Q6,Q7] t0 100000000 (LD h o)
def wt(h:Sem Q5)(o:TS):=(BQ h o).isSome
def Ex(h:Sem Q5)(o:TS):=o2 (BQ h o)
def zcp:=FT [Q5,Q6] [Q6,Q7] λx=>BQ x.1 x.2.1
theorem Y6:FK 136 zcp:=rc.T1 (f:=Tryz.f136) (keep:=k0) (e:=e0)
abbrev zhW:=lu [(3,[0,4,5])]
inductive Cc where
 |h3 (l0:LS) (s4:List UInt8) (i5:Int)
abbrev zmp:Cc->Nat×St
 |.h3 o u h=>(3,⟨tm 37 [(0,sl Q6 o),(4,str u),(5,ai h)],[]⟩)
def zm4(h:Sem Sh.str.sl):Tr (Cc⊕aw):=
 Q9 (Cc.h3 h [] 0)
def EU:Cc->Tr (Cc⊕aw)
 | .h3 h z o=>
  let u:=h.getD o.toNat (zi Q6)
  let B:=z++eZ
  let C:=Γ Δ (o+1)
  let D:=Q0 (1<=(↑h.length:Int))
  br (Q0 (o<(↑h.length:Int)))
  (Qc (zJ o (Io h))
   (Qc (dN u) (br (!bv u) (re (Qe [str [],kb Q4]) []) (br (Q0 (o>0)) (Qc (Q0 (Io z+Io eZ<=1099511627776)) (Qc (zJ o (Io h)) (Qc (Q0 (Io B+Io u<=1099511627776)) (Q9 (Cc.h3 h (B++u) C)))))
   (Qc (zJ o (Io h)) (Qc (Q0 (Io z+Io u<=1099511627776)) (Q9 (Cc.h3 h (z++u) C))))))))
  (re (Qe [str (cond D z z),AV.bool (cond D (Q0 ((↑h.length:Int)<=8)) Q4)]) [])
def wu(h:Sem Sh.str.sl):=an [Q6,Q7] EU 100000000 (zm4 h)
def Ey(h:Sem Sh.str.sl):=(wu h).isSome
def JG(h:Sem Sh.str.sl):=o2 (wu h)
def zct:=FT [Sh.str.sl] [Q6,Q7] λx=>wu x.1
theorem Za:FK 140 zct:=rc.T1 (f:=Tryz.f140) (keep:=zhW) (e:=zmp)
def zdq:=zdp.addL [(88,zkF),(136,zcp),(140,zct)]
theorem nf:zw zdq:=rc.addL<|fc zgi<|fc Y6<|fc Za iA
abbrev zhU:=lu [(4,[1,4,5,6]),(15,[1,4,5,8]),(20,[1,4,5,9])]
inductive pD where
 |h4 (b4:Bool) (s5:zD) (i6:Int) (z0:zm [CP.d zn])
 |h15 (b4:Bool) (s5:zD) (i8:Int) (z0:zm [CP.d zn])
 |h20 (b4:Bool) (s5:zD) (i9:Int) (z0:zm [CP.d zn])
abbrev zmn:pD->Nat×St
 |.h4 h o u z=>(4,⟨tm 174 [(1,Qf 0 0),(4,AV.bool h),(5,str o),(6,ai u)],[Qa (bf [] [CP.d zn] z)]⟩)
 |.h15 h o B z=>(15,⟨tm 174 [(1,Qf 0 0),(4,AV.bool h),(5,str o),(8,ai B)],[Qa (bf [] [CP.d zn] z)]⟩)
 |.h20 h o C z=>(20,⟨tm 174 [(1,Qf 0 0),(4,AV.bool h),(5,str o),(9,ai C)],[Qa (bf [] [CP.d zn] z)]⟩)
def VM(h:Sem zn):Tr (pD⊕aw):=
 let o:=Z8++h.2.1
 let u:=(↑(Io h.t.1):Int)
 let z:=(↑(Io h.t.q.1):Int)
 let B:=(↑(Io h.t.q.2.1):Int)
 Qc (dN h.t.2.1)
 (Qc (Q0 (Io Z8+Io h.2.1<=1099511627776))
  (Qc (Q0 (Io o+Io AY<=1099511627776)) (Q9 (pD.h4 (cond (bv h.t.2.1) (cond (Q0 (1<=u)) (cond (Q0 (u<=8)) (cond (Q0 (z<=8)) (Q0 (B<=8)) Q4) Q4) Q4) Q4) (o++AY) 0 (h,())))))
def fF:pD->Tr (pD⊕aw)
 | .h4 B u M z=>
  let G:=(↑(Io z.1.t.1):Int)
  let h:=getD z.1.t.1 M.toNat (zi zj)
  let o:=h.1++[32]
  let C:=[[],CB,CC,CA].getD (toNat h.2.1) (zi Q6)
  let D:=o++C
  let E:=u++D
  let I:=E++zgP
  let J:=Γ Δ (M+1)
  let F:=zgS++z.1.t.2.1
  let L:=F++iw
  br (Q0 (M<G))
  (Qc (zJ M (Io z.1.t.1))
   (Qc (dN h.1) (br (cond (!bv h.1) Q3 (cond (Q0 (h.2.1<1)) Q3 (Q0 (h.2.1>3)))) (re (Qe [str [],kb Q4]) []) (Qc (Q0 (Io h.1+[32].length<=1099511627776)) (Qc (zJ h.2.1 [[],CB,CC,CA].length) (Qc (Q0 (Io o+Io C<=1099511627776))
   (Qc (Q0 (Io u+Io D<=1099511627776)) (br h.2.2 (Qc (Q0 (Io E+Io zgP<=1099511627776)) (Qc (Q0 (Io I+Io eZ<=1099511627776)) (Q9 (pD.h4 B (I++eZ) J z))))
   (Qc (Q0 (Io E+Io eZ<=1099511627776)) (Q9 (pD.h4 B (E++eZ) J z)))))))))))
  (Qc (Q0 (Io zgS+Io z.1.t.2.1<=1099511627776))
   (Qc (Q0 (Io F+Io iw<=1099511627776)) (Qc (Q0 (Io u+Io L<=1099511627776)) (Q9 (pD.h15 B (u++L) 0 z)))))
 | .h15 B u O z=>
  let G:=(↑(Io z.1.t.q.1):Int)
  let h:=zJ O (Io z.1.t.q.1)
  let o:=getD z.1.t.q.1 O.toNat (zi Q6)
  let C:=zgN++o
  let D:=C++iw
  br (Q0 (O<G))
  (Qc (cond B (h&&dN o) Q3)
   (Qc h (Qc (Q0 (Io zgN+Io o<=1099511627776)) (Qc (Q0 (Io C+Io iw<=1099511627776)) (Qc (Q0 (Io u+Io D<=1099511627776)) (Q9 (pD.h15 (cond B (bv o) Q4) (u++D) (Γ Δ (O+1)) z)))))))
  (Q9 (pD.h20 B u 0 z))
 | .h20 B u S z=>
  let G:=(↑(Io z.1.t.q.2.1):Int)
  let h:=zJ S (Io z.1.t.q.2.1)
  let o:=getD z.1.t.q.2.1 S.toNat (zi jf)
  let C:=bv o.1
  let D:=zgM++o.1
  let E:=D++zgL
  let I:=E++o.2
  let J:=zl z.1.t.t.1
  let F:=Ex J [32,44]
  let L:=u++F.1
  let H:=L++iw
  br (Q0 (S<G))
  (Qc (cond B (h&&(dN o.1&&bif C then h&&dN o.2 else Q3)) Q3)
   (Qc h (Qc (Q0 (Io zgM+Io o.1<=1099511627776)) (Qc (Q0 (Io D+Io zgL<=1099511627776)) (Qc h (Qc (Q0 (Io E+Io o.2<=1099511627776)) (Qc (Q0 (Io u+Io I<=1099511627776))
   (Q9 (pD.h20 (cond B (cond C (bv o.2) Q4) Q4) (u++I) (Γ Δ (S+1)) z)))))))))
  (Qc (wt J [32,44])
   (Qc (Q0 (Io u+Io F.1<=1099511627776)&&Q0 (Io L+Io iw<=1099511627776)) (re (Qe [str (cond B H H),AV.bool (cond B F.2 Q4)]) [])))
def nz(h:Sem zn):=an [Q6,Q7] fF 100000000 (VM h)
def rW(h:Sem zn):=(nz h).isSome
def qD(h:Sem zn):=o2 (nz h)
def zcq:=FT [zn] [Q6,Q7] λx=>nz x.1
theorem Y7:FK 137 zcq:=nf.T1 (f:=Tryz.f137) (keep:=zhU) (e:=zmn)
abbrev znT:=lu [(2,[0,1,5]),(5,[0,1,5,6])]
inductive Kw where
 |h2 (l0:List (Sem zh)) (l1:List (Sem Q6)) (i5:Int)
 |h5 (l0:List (Sem zh)) (l1:List (Sem Q6)) (i5:Int) (i6:Int)
abbrev zqH:Kw->Nat×St
 |.h2 o u h=>(2,⟨tm 47 [(0,sl zh o),(1,sl Q6 u),(5,ai h)],[]⟩)
 |.h5 o u h z=>(5,⟨tm 47 [(0,sl zh o),(1,sl Q6 u),(5,ai h),(6,ai z)],[]⟩)
def zr4(h:Sem zh.sl)(o:Sem Sh.str.sl):Tr (Kw⊕aw):=
 Q9 (Kw.h2 h o 0)
def qL:Kw->Tr (Kw⊕aw)
 | .h2 o u h=>
  br (Q0 (h<(↑o.length:Int))) (Q9 (Kw.h5 o u h 0)) (re (kb Q4) [])
 | .h5 o u h B=>
  let z:=o.getD h.toNat (zi zh)
  let E:=(↑(Io z.1.t.1):Int)
  let C:=!ML u z.1.1
  let D:=getD z.1.t.1 B.toNat (zi zp)
  Qc (zJ h (Io o))
  (br (Q0 (B<E))
   (Qc (zJ h (Io o)&&(AJ u z.1.1&&bif C then zJ h (Io o)&&(zJ B (Io z.1.t.1)&&AJ u D.2)else Q3)) (br (cond C (ML u D.2) Q4) (re (kb Q3) []) (Q9 (Kw.h5 o u h (Γ Δ (B+1))))))
   (Q9 (Kw.h2 o u (Γ Δ (h+1)))))
def oF(h:Sem zh.sl)(o:Sem Sh.str.sl):=an [Q7] qL 100000000 (zr4 h o)
def uo(h:Sem zh.sl)(o:Sem Sh.str.sl):=(oF h o).isSome
def yu(h:Sem zh.sl)(o:Sem Sh.str.sl):=o1 (oF h o)
def zj4:=FT [zh.sl,Sh.str.sl] [Q7] λx=>oF x.1 x.2.1
theorem zfF:FK 48 zj4:=nf.T1 (f:=Tryz.f48) (keep:=znT) (e:=zqH)
abbrev znV:=lu [(3,[0,1,6,7]),(10,[6,9]),(13,[6,9,10])]
inductive pE where
 |h3 (l0:List (Sem zj)) (l1:List (Sem Q6)) (i7:Int)
 |h3b (l0:List (Sem zj)) (l1:List (Sem Q6)) (i7:Int) (lh_0:List (Sem zg))
 |h10 (i9:Int)
 |h10b (i9:Int) (lh_0:List (Sem zg))
 |h13 (i9:Int) (i10:Int)
 |h13b (i9:Int) (i10:Int) (lh_0:List (Sem zg))
abbrev zqJ:pE->Nat×St
 |.h3 B C z=>(3,⟨tm 50 [(0,sl zj B),(1,sl Q6 C),(6,Qb),(7,ai z)],[]⟩)
 |.h3b B C z h=>(3,⟨tm 50 [(0,sl zj B),(1,sl Q6 C),(6,AV.vec 0),(7,ai z)],[AO.vec zg h]⟩)
 |.h10 u=>(10,⟨tm 50 [(6,Qb),(9,ai u)],[]⟩)
 |.h10b u h=>(10,⟨tm 50 [(6,AV.vec 0),(9,ai u)],[AO.vec zg h]⟩)
 |.h13 u o=>(13,⟨tm 50 [(6,Qb),(9,ai u),(10,ai o)],[]⟩)
 |.h13b u o h=>(13,⟨tm 50 [(6,AV.vec 0),(9,ai u),(10,ai o)],[AO.vec zg h]⟩)
def znl(h:Sem zj.sl)(o:Sem Sh.str.sl):Tr (pE⊕aw):=
 Q9 (pE.h3 h o 0)
def jZ:pE->Tr (pE⊕aw)
 | .h3 C B z=>
  let D:=B.getD z.toNat (zi Q6)
  let E:=eP C D
  let F:=[E]
  br (Q0 (z<(↑B.length:Int)))
  (Qc (zJ z (Io B))
   (Qc (dJ C D) (br (Q0 (E<0)) (re (Qe [Qb,ai 4]) []) (Qc (Q0 (Io F<=1073741824)) (Q9 (pE.h3b C B (Γ Δ (z+1)) F))))))
  (Q9 (pE.h10 0))
 | .h3b C B z h=>
  let D:=B.getD z.toNat (zi Q6)
  let E:=eP C D
  let F:=[E]
  br (Q0 (z<(↑B.length:Int)))
  (Qc (zJ z (Io B))
   (Qc (dJ C D) (br (Q0 (E<0)) (re (Qe [Qb,ai 4]) []) (Qc (Q0 (Io h+Io F<=1073741824)) (Q9 (pE.h3b C B (Γ Δ (z+1)) (h++F)))))))
  (Q9 (pE.h10b 0 h))
 | .h10 u=>
  br (Q0 (u<0)) (Q9 (pE.h13 u 0)) (re (Qe [Qb,ai 0]) [])
 | .h10b u h=>
  br (Q0 (u<(↑h.length:Int))) (Q9 (pE.h13b u 0 h)) (re (Qe [AV.vec 0,ai 0]) [AO.vec zg h])
 | .h13 u o=>
  br (Q0 (o<u)) Tr.err (Q9 (pE.h10 (Γ Δ (u+1))))
 | .h13b u o h=>
  br (Q0 (o<u))
  (Qc (zJ u (Io h))
   (Qc (Q0 (u.toNat<Io h)) (Qc (zJ o (Io h)) (Qc (Q0 (o.toNat<Io h)) (br (h.getD u.toNat (zi zg)==h.getD o.toNat (zi zg)) (re (Qe [Qb,ai 7]) []) (Q9 (pE.h13b u (Γ Δ (o+1)) h)))))))
  (Q9 (pE.h10b (Γ Δ (u+1)) h))
def oE(h:Sem zj.sl)(o:Sem Sh.str.sl):=an [zg.sl,zg] jZ 100000000 (znl h o)
def oD(h:Sem zj.sl)(o:Sem Sh.str.sl):=(oE h o).isSome
def rH(h:Sem zj.sl)(o:Sem Sh.str.sl):=o2 (oE h o)
def zj6:=FT [zj.sl,Sh.str.sl] [zg.sl,zg] λx=>oE x.1 x.2.1
theorem zfG:FK 49 zj6:=nf.T1 (f:=Tryz.f49) (keep:=znV) (e:=zqJ)
def VX(h:Sem Q5)(o:Sem zj.sl):Tr (Empty⊕aw):=
 br (zf.op h==[]) (re (ai 0) [])
 (Qc (ut (zl h))
  (br (!Ed (zl h)) (re (ai 1) []) (Qc (oP (zl h) o) (br (cond ((iK (zl h) o).2==0) (cond ((iK (zl h) o).1!=0) ((iK (zl h) o).1!=3) Q4) Q4) (re (ai 5) []) (re (ai (iK (zl h) o).2) [])))))
def we(h:Sem Q5)(o:Sem zj.sl):=an [zg] t0 100000000 (VX h o)
def kC(h:Sem Q5)(o:Sem zj.sl):=(we h o).isSome
def eQ(h:Sem Q5)(o:Sem zj.sl):=o1 (we h o)
def zj8:=FT [Q5,zj.sl] [zg] λx=>we x.1 x.2.1
theorem zfI:FK 29 zj8:=nf.T1 (f:=Tryz.f29) (keep:=k0) (e:=e0)
def U2:=zdq.addL [(137,zcq),(48,zj4),(49,zj6),(29,zj8)]
theorem C4:zw U2:=nf.addL<|fc Y7<|fc zfF<|fc zfG<|fc zfI iA
abbrev zmh:List CP:=[.d .str,.d .str,.d .str,.nil,.nil,.d .str,.nil,.nil,.d .str,.d zg,.d zg,.d .str,.d .str,.nil,.d (.sl ze),.nil,.d .str,.d zg,.d zg,.d .str,.d .str,.nil,.d .str]
abbrev zg2:List CP:=[.d .str,.d .str,.d .str,.nil,.nil,.d .str,.nil,.nil,.d .str,.d zg,.d zg,.d .str,.d .str,.nil,.nil,.d (.sl ij),.d .expr,.d .str]
abbrev zog:=lu [(15,[1,3,5,12,13]),(27,[1,3,5,8,9,14,15])]
inductive Cd where
 |h15 (s12:List UInt8) (i13:Int) (z0:zm pC) (z1:zm jk) (z2:zm zmh)
 |h27 (s8:TS) (b9:Sem Q7) (s14:List UInt8) (i15:Int) (z0:zm pC) (z1:zm jk) (z2:zm zg2)
abbrev zqX:Cd->Nat×St
 |.h15 u h B C D=>(15,⟨tm 430 [(1,Qf 0 0),(3,Qf 1 0),(5,Qf 2 0),(12,str u),(13,ai h)],[Qa (bf [] pC B),Qa (bf [] jk C),Qa (bf [] zmh D)]⟩)
 |.h27 F E z o B C D=>(27,⟨tm 430 [(1,Qf 0 0),(3,Qf 1 0),(5,Qf 2 0),(8,str F),(9,AV.bool E),(14,str z),(15,ai o)],[Qa (bf [] pC B),Qa (bf [] jk C),Qa (bf [] zg2 D)]⟩)
def gY(h:Sem zn):Tr (Cd⊕aw):=
 let a0:=zl h.t.t.1
 let a1:=zl h.t.t.q.2.1
 let a2:=(h.1,h.2.1,h.2.2.1,h.2.2.2.1,h.t.1,h.t.2.1,h.t.q.1,h.t.q.2.1,a0,h.t.t.2.1,h.t.t.q.1,a1,h.t.t.t)
 let a3:=qD a2
 let G:=Ex a1 gE
 let a5:=zaa++h.2.1
 let a6:=zaj++h.2.1
 let a7:=Un++h.2.1
 let a8:=a7++kY
 let a9:=a8++h.2.2.1
 let L:=a9++AY
 let H:=JG h.2.2.2.1
 let M:=L++H.1
 let D:=M++iw
 let o:=Ex a0 []
 let I:=dN h.2.2.1
 let J:=bv h.2.2.1
 let O:=zgU++h.2.1
 let S:=O++kY
 let T:=S++h.2.2.1
 let U:=T++eZ
 let W:=U++h.t.t.t
 let X:=W++AZ
 let u:=X++h.t.2.1
 let z:=dN h.t.t.t
 let B:=bv h.t.t.t
 let Y:=zgT++h.2.1
 let Z:=Y++kY
 let h0:=Z++h.2.2.1
 let h1:=zJ 0 (Io h.2.2.2.1)
 let h2:=h0++R0
 let E:=getD h.2.2.2.1 (toNat 0) (zi Q6)
 let h3:=h2++E
 let h4:=zJ 1 (Io h.2.2.2.1)
 let h5:=h3++R1
 let F:=getD h.2.2.2.1 (toNat 1) (zi Q6)
 let C:=h5++F
 let h6:=zl7++h.2.1
 let h7:=h6++NB
 let h8:=zl8++h.2.1
 let h9:=h8++NB
 let x1:=zma++h.2.1
 let x2:=x1++kY
 let x3:=zmb++h.2.1
 let x4:=x3++kY
 Qc (wt a0 [])
 (Qc (wt a1 gE)
  (br (h.1==mV) (Qc (rW a2) (re (Qe [str a3.1,Qd [str h.1,str h.2.1,str [],Qb,sl zj h.t.1,str h.t.2.1,sl Q6 h.t.q.1,sl (Sh.str.pr Q6) h.t.q.2.1,str (zf.op h.t.t.1),ai (zf.v h.t.t.1).1,
  ai (zf.v h.t.t.1).2.1,str (zf.v h.t.t.1).2.2,str (zf.s h.t.t.1),sl Q5 (zf.l h.t.t.1),Qb,Qb,str [],ai 0,ai 0,str [],str [],Qb,str []],AV.bool a3.2]) [])) (br (h.1==Fr)
  (Qc (Q0 (Io zac+Io h.2.1<=1099511627776)) (re (Qe [str (zac++h.2.1),Qd [str h.1,str h.2.1,str [],Qb,Qb,str [],Qb,Qb,str [],ai 0,
  ai 0,str [],str [],Qb,Qb,Qb,str [],ai 0,ai 0,str [],str [],Qb,str []],kb Q3]) [])) (br (h.1==H7) (Q9 (Cd.h15 [] 0 (h,()) ([],[],[],[],[],0,0,[],[],[],0,0,[],[],[],())
  (h.1,h.2.1,[],[],[],0,0,[],[],h.t.t.2.1,[],0,0,[],[],[],()))) (br (h.1==px) (Q9 (Cd.h27 G.1 G.2 [] 0 (h,()) ([],[],[],[],[],0,0,[],[],[],0,0,[],[],[],()) (h.1,h.2.1,[],[],[],0,0,[],[],h.t.t.q.1,h.t.t.q.2.1,[],()))) (br (h.1==Kn)
  (Qc (Q0 (Io zaa+Io h.2.1<=1099511627776)) (Qc (Q0 (Io a5+Io G.1<=1099511627776)) (re (Qe [str (a5++G.1),Qd [str h.1,str h.2.1,str [],Qb,Qb,str [],Qb,Qb,str [],ai 0,
  ai 0,str [],str [],Qb,Qb,Qb,str (zf.op h.t.t.q.2.1),ai (zf.v h.t.t.q.2.1).1,ai (zf.v h.t.t.q.2.1).2.1,str (zf.v h.t.t.q.2.1).2.2,str (zf.s h.t.t.q.2.1),sl Q5 (zf.l h.t.t.q.2.1),str []],AV.bool G.2]) [])))
  (br (h.1==pO) (Qc (Q0 (Io zaj+Io h.2.1<=1099511627776)) (Qc (Q0 (Io a6+Io G.1<=1099511627776)) (re (Qe [str (a6++G.1),Qd [str h.1,str h.2.1,str [],Qb,Qb,str [],Qb,Qb,str [],ai 0,
  ai 0,str [],str [],Qb,Qb,Qb,str (zf.op h.t.t.q.2.1),ai (zf.v h.t.t.q.2.1).1,ai (zf.v h.t.t.q.2.1).2.1,str (zf.v h.t.t.q.2.1).2.2,str (zf.s h.t.t.q.2.1),sl Q5 (zf.l h.t.t.q.2.1),str []],AV.bool G.2]) [])))
  (br (h.1==cV) (Qc (Ey h.2.2.2.1) (Qc (Q0 (Io Un+Io h.2.1<=1099511627776)) (Qc (Q0 (Io a7+Io kY<=1099511627776)) (Qc (Q0 (Io a8+Io h.2.2.1<=1099511627776))
  (Qc (Q0 (Io a9+Io AY<=1099511627776)) (Qc (Q0 (Io L+Io H.1<=1099511627776)) (Qc (Q0 (Io M+Io iw<=1099511627776)) (Qc (Q0 (Io D+Io o.1<=1099511627776)) (br H.2 (br o.2 (Qc I (re (Qe [str (D++o.1),Qd
  [str h.1,str h.2.1,str h.2.2.1,sl Q6 h.2.2.2.1,Qb,str [],Qb,Qb,str (zf.op h.t.t.1),ai (zf.v h.t.t.1).1,ai (zf.v h.t.t.1).2.1,str (zf.v h.t.t.1).2.2,str (zf.s h.t.t.1),
  sl Q5 (zf.l h.t.t.1),Qb,Qb,str [],ai 0,ai 0,str [],str [],Qb,str []],AV.bool J]) [])) (re (Qe [str (D++o.1),Qd [str h.1,str h.2.1,str h.2.2.1,sl Q6 h.2.2.2.1,Qb,str [],Qb,Qb,str (zf.op h.t.t.1),
  ai (zf.v h.t.t.1).1,ai (zf.v h.t.t.1).2.1,str (zf.v h.t.t.1).2.2,str (zf.s h.t.t.1),sl Q5 (zf.l h.t.t.1),Qb,Qb,str [],ai 0,ai 0,str [],str [],Qb,str []],kb Q4]) [])) (re (Qe [str (D++o.1),Qd
  [str h.1,str h.2.1,str h.2.2.1,sl Q6 h.2.2.2.1,Qb,str [],Qb,Qb,str (zf.op h.t.t.1),ai (zf.v h.t.t.1).1,ai (zf.v h.t.t.1).2.1,str (zf.v h.t.t.1).2.2,str (zf.s h.t.t.1),
  sl Q5 (zf.l h.t.t.1),Qb,Qb,str [],ai 0,ai 0,str [],str [],Qb,str []],kb Q4]) [])))))))))) (br (h.1==eW) (Qc (Q0 (Io zgU+Io h.2.1<=1099511627776))
  (Qc (Q0 (Io O+Io kY<=1099511627776)) (Qc (Q0 (Io S+Io h.2.2.1<=1099511627776)) (Qc (Q0 (Io T+Io eZ<=1099511627776)) (Qc (Q0 (Io U+Io h.t.t.t<=1099511627776))
  (Qc (Q0 (Io W+Io AZ<=1099511627776)) (Qc (Q0 (Io X+Io h.t.2.1<=1099511627776)) (Qc (Q0 (Io u+Io o.1<=1099511627776)) (br o.2 (Qc I (br J (Qc z (br B (Qc (dN h.t.2.1) (re (Qe [str (u++o.1),Qd
  [str h.1,str h.2.1,str h.2.2.1,Qb,Qb,str h.t.2.1,Qb,Qb,str (zf.op h.t.t.1),ai (zf.v h.t.t.1).1,ai (zf.v h.t.t.1).2.1,str (zf.v h.t.t.1).2.2,str (zf.s h.t.t.1),sl Q5 (zf.l h.t.t.1),Qb,Qb,str [],
  ai 0,ai 0,str [],str [],Qb,str h.t.t.t],AV.bool (bv h.t.2.1)]) [])) (re (Qe [str (u++o.1),Qd [str h.1,str h.2.1,str h.2.2.1,Qb,Qb,str h.t.2.1,Qb,Qb,str (zf.op h.t.t.1),ai (zf.v h.t.t.1).1,
  ai (zf.v h.t.t.1).2.1,str (zf.v h.t.t.1).2.2,str (zf.s h.t.t.1),sl Q5 (zf.l h.t.t.1),Qb,Qb,str [],ai 0,ai 0,str [],str [],Qb,str h.t.t.t],kb Q4]) []))) (re (Qe [str (u++o.1),Qd
  [str h.1,str h.2.1,str h.2.2.1,Qb,Qb,str h.t.2.1,Qb,Qb,str (zf.op h.t.t.1),ai (zf.v h.t.t.1).1,ai (zf.v h.t.t.1).2.1,str (zf.v h.t.t.1).2.2,str (zf.s h.t.t.1),sl Q5 (zf.l h.t.t.1),Qb,Qb,str [],
  ai 0,ai 0,str [],str [],Qb,str h.t.t.t],kb Q4]) []))) (re (Qe [str (u++o.1),Qd [str h.1,str h.2.1,str h.2.2.1,Qb,Qb,str h.t.2.1,Qb,Qb,str (zf.op h.t.t.1),ai (zf.v h.t.t.1).1,
  ai (zf.v h.t.t.1).2.1,str (zf.v h.t.t.1).2.2,str (zf.s h.t.t.1),sl Q5 (zf.l h.t.t.1),Qb,Qb,str [],ai 0,ai 0,str [],str [],Qb,str h.t.t.t],kb Q4]) [])))))))))) (br (h.1==ku)
  (br ((↑(Io h.2.2.2.1):Int)!=2) (re (Qe [str [],Qd [str h.1,str h.2.1,str h.2.2.1,sl Q6 h.2.2.2.1,Qb,str [],Qb,Qb,str (zf.op h.t.t.1),ai (zf.v h.t.t.1).1,ai (zf.v h.t.t.1).2.1,
  str (zf.v h.t.t.1).2.2,str (zf.s h.t.t.1),sl Q5 (zf.l h.t.t.1),Qb,Qb,str [],ai 0,ai 0,str [],str [],Qb,str []],kb Q4]) []) (Qc (Q0 (Io zgT+Io h.2.1<=1099511627776))
  (Qc (Q0 (Io Y+Io kY<=1099511627776)) (Qc (Q0 (Io Z+Io h.2.2.1<=1099511627776)) (Qc (Q0 (Io h0+Io R0<=1099511627776)) (Qc h1 (Qc (Q0 (Io h2+Io E<=1099511627776))
  (Qc (Q0 (Io h3+Io R1<=1099511627776)) (Qc h4 (Qc (Q0 (Io h5+Io F<=1099511627776)) (Qc (Q0 (Io C+Io o.1<=1099511627776)) (br o.2 (Qc I (br J (Qc h1 (Qc (dN E) (br (bv E) (Qc h4 (Qc (dN F) (re (Qe [str (C++o.1),
  Qd [str h.1,str h.2.1,str h.2.2.1,sl Q6 h.2.2.2.1,Qb,str [],Qb,Qb,str (zf.op h.t.t.1),ai (zf.v h.t.t.1).1,ai (zf.v h.t.t.1).2.1,str (zf.v h.t.t.1).2.2,str (zf.s h.t.t.1),sl Q5 (zf.l h.t.t.1),Qb,Qb,
  str [],ai 0,ai 0,str [],str [],Qb,str []],AV.bool (bv F)]) []))) (re (Qe [str (C++o.1),Qd [str h.1,str h.2.1,str h.2.2.1,sl Q6 h.2.2.2.1,Qb,str [],Qb,Qb,str (zf.op h.t.t.1),ai (zf.v h.t.t.1).1,
  ai (zf.v h.t.t.1).2.1,str (zf.v h.t.t.1).2.2,str (zf.s h.t.t.1),sl Q5 (zf.l h.t.t.1),Qb,Qb,str [],ai 0,ai 0,str [],str [],Qb,str []],kb Q4]) [])))) (re (Qe [str (C++o.1),Qd
  [str h.1,str h.2.1,str h.2.2.1,sl Q6 h.2.2.2.1,Qb,str [],Qb,Qb,str (zf.op h.t.t.1),ai (zf.v h.t.t.1).1,ai (zf.v h.t.t.1).2.1,str (zf.v h.t.t.1).2.2,str (zf.s h.t.t.1),
  sl Q5 (zf.l h.t.t.1),Qb,Qb,str [],ai 0,ai 0,str [],str [],Qb,str []],kb Q4]) []))) (re (Qe [str (C++o.1),Qd [str h.1,str h.2.1,str h.2.2.1,sl Q6 h.2.2.2.1,Qb,str [],Qb,Qb,str (zf.op h.t.t.1),
  ai (zf.v h.t.t.1).1,ai (zf.v h.t.t.1).2.1,str (zf.v h.t.t.1).2.2,str (zf.s h.t.t.1),sl Q5 (zf.l h.t.t.1),Qb,Qb,str [],ai 0,ai 0,str [],str [],Qb,str []],kb Q4]) []))))))))))))) (br (h.1==PJ)
  (Qc (Q0 (Io zl7+Io h.2.1<=1099511627776)) (Qc (Q0 (Io h6+Io NB<=1099511627776)) (Qc (Q0 (Io h7+Io h.t.t.t<=1099511627776)) (Qc z (re (Qe [str (h7++h.t.t.t),Qd
  [str h.1,str h.2.1,str [],Qb,Qb,str [],Qb,Qb,str [],ai 0,ai 0,str [],str [],Qb,Qb,Qb,str [],ai 0,ai 0,str [],str [],Qb,str h.t.t.t],AV.bool B]) []))))) (br (h.1==xk)
  (Qc (Q0 (Io zl8+Io h.2.1<=1099511627776)) (Qc (Q0 (Io h8+Io NB<=1099511627776)) (Qc (Q0 (Io h9+Io h.t.t.t<=1099511627776)) (Qc z (re (Qe [str (h9++h.t.t.t),Qd
  [str h.1,str h.2.1,str [],Qb,Qb,str [],Qb,Qb,str [],ai 0,ai 0,str [],str [],Qb,Qb,Qb,str [],ai 0,ai 0,str [],str [],Qb,str h.t.t.t],AV.bool B]) []))))) (br (h.1==AX)
  (Qc (Q0 (Io zma+Io h.2.1<=1099511627776)) (Qc (Q0 (Io x1+Io kY<=1099511627776)) (Qc (Q0 (Io x2+Io h.t.t.t<=1099511627776)) (Qc z (re (Qe [str (x2++h.t.t.t),Qd
  [str h.1,str h.2.1,str [],Qb,Qb,str [],Qb,Qb,str [],ai 0,ai 0,str [],str [],Qb,Qb,Qb,str [],ai 0,ai 0,str [],str [],Qb,str h.t.t.t],AV.bool B]) []))))) (br (h.1==Cy) (Qc
  (Q0 (Io zmb+Io h.2.1<=1099511627776)) (Qc (Q0 (Io x3+Io kY<=1099511627776)) (Qc (Q0 (Io x4+Io h.t.t.t<=1099511627776)) (Qc z (re (Qe [str (x4++h.t.t.t),Qd
  [str h.1,str h.2.1,str [],Qb,Qb,str [],Qb,Qb,str [],ai 0,ai 0,str [],str [],Qb,Qb,Qb,str [],ai 0,ai 0,str [],str [],Qb,str h.t.t.t],AV.bool B]) []))))) (re (Qe [str [],Qd
  [str h.1,str h.2.1,str [],Qb,Qb,str [],Qb,Qb,str [],ai 0,ai 0,str [],str [],Qb,Qb,Qb,str [],ai 0,ai 0,str [],str [],Qb,str []],kb Q4]) [])))))))))))))))
def mI:Cd->Tr (Cd⊕aw)
 | .h15 o B h z1 z=>
  let H:=(↑(Io h.1.t.t.2.1):Int)
  let D:=zJ B (Io h.1.t.t.2.1)
  let E:=getD h.1.t.t.2.1 B.toNat (zi ze)
  let W:=kB E
  let I:=o++eZ
  let J:=oJ E
  let X:=Γ Δ (B+1)
  let Y:=Um++h.1.2.1
  let Z:=Y++Z6
  let L:=Z++o
  br (Q0 (B<H))
  (Qc D
   (Qc (mF E) (br (!tk E) (re (Qe [str [],Qd [str z.1,str z.2.1,str z.2.2.1,Qb,Qb,str z.2.2.2.1,Qb,Qb,str z.t.1,ai z.t.2.1,ai z.t.q.1,str z.t.q.2.1,str z.t.t.1,Qb,sl ze z.t.t.2.1,Qb,
   str z.t.t.q.1,ai z.t.t.q.2.1,ai z.t.t.t.1,str z.t.t.t.2.1,str z.t.t.t.q.1,Qb,str z.t.t.t.q.2.1],kb Q4]) []) (br (Q0 (B>0)) (Qc (Q0 (Io o+Io eZ<=1099511627776))
   (Qc D (Qc W (Qc (Q0 (Io I+Io J<=1099511627776)) (Q9 (Cd.h15 (I++J) X h z1 z)))))) (Qc D (Qc W (Qc (Q0 (Io o+Io J<=1099511627776)) (Q9 (Cd.h15 (o++J) X h z1 z)))))))))
  (Qc (Q0 (Io Um+Io h.1.2.1<=1099511627776))
   (Qc (Q0 (Io Y+Io Z6<=1099511627776)) (Qc (Q0 (Io Z+Io o<=1099511627776)) (Qc (Q0 (Io L+Io iw<=1099511627776)) (br (Q0 (1<=H)) (re (Qe [str (L++iw),Qd
   [str z.1,str z.2.1,str z.2.2.1,Qb,Qb,str z.2.2.2.1,Qb,Qb,str z.t.1,ai z.t.2.1,ai z.t.q.1,str z.t.q.2.1,str z.t.t.1,Qb,sl ze z.t.t.2.1,Qb,str z.t.t.q.1,ai z.t.t.q.2.1,
   ai z.t.t.t.1,str z.t.t.t.2.1,str z.t.t.t.q.1,Qb,str z.t.t.t.q.2.1],AV.bool (Q0 (H<=12))]) []) (re (Qe [str (L++iw),Qd [str z.1,str z.2.1,str z.2.2.1,Qb,Qb,str z.2.2.2.1,Qb,Qb,
   str z.t.1,ai z.t.2.1,ai z.t.q.1,str z.t.q.2.1,str z.t.t.1,Qb,sl ze z.t.t.2.1,Qb,str z.t.t.q.1,ai z.t.t.q.2.1,ai z.t.t.t.1,str z.t.t.t.2.1,str z.t.t.t.q.1,
   Qb,str z.t.t.t.q.2.1],kb Q4]) []))))))
 | .h27 M b9 u C h z1 z=>
  let H:=(↑(Io h.1.t.t.q.1):Int)
  let D:=zJ C (Io h.1.t.t.q.1)
  let E:=getD h.1.t.t.q.1 C.toNat (zi ij)
  let W:=!bv E.1
  let I:=zl E.2
  let J:=Q0 (Io E.1+Io zgO<=1099511627776)
  let X:=rT I
  let Y:=E.1++zgO
  let Z:=qC I
  let L:=Q0 (Io Y+Io Z<=1099511627776)
  let O:=u++eZ
  let F:=Y++Z
  let S:=Γ Δ (C+1)
  let T:=Up++h.1.2.1
  let U:=T++Z5
  let G:=U++u
  br (Q0 (C<H))
  (Qc (D&&(dN E.1&&bif W then Q3 else D&&ut I))
   (br (cond W Q3 (!Ed I)) (re (Qe [str [],Qd [str z.1,str z.2.1,str z.2.2.1,Qb,Qb,str z.2.2.2.1,Qb,Qb,str z.t.1,ai z.t.2.1,ai z.t.q.1,str z.t.q.2.1,str z.t.t.1,Qb,Qb,
   sl (Sh.str.pr Q5) z.t.t.2.1,str (zf.op z.t.t.q.1),ai (zf.v z.t.t.q.1).1,ai (zf.v z.t.t.q.1).2.1,str (zf.v z.t.t.q.1).2.2,str (zf.s z.t.t.q.1),sl Q5 (zf.l z.t.t.q.1),str z.t.t.q.2.1],kb Q4]) [])
   (br (Q0 (C>0)) (Qc (Q0 (Io u+Io eZ<=1099511627776)) (Qc D (Qc J (Qc D (Qc X (Qc L (Qc (Q0 (Io O+Io F<=1099511627776)) (Q9 (Cd.h27 M b9 (O++F) S h z1 z))))))))) (Qc D (Qc J (Qc D
   (Qc X (Qc L (Qc (Q0 (Io u+Io F<=1099511627776)) (Q9 (Cd.h27 M b9 (u++F) S h z1 z)))))))))))
  (Qc (Q0 (Io Up+Io h.1.2.1<=1099511627776))
   (Qc (Q0 (Io T+Io Z5<=1099511627776)) (Qc (Q0 (Io U+Io u<=1099511627776)) (Qc (Q0 (Io G+Io M<=1099511627776)) (br b9 (br (Q0 (1<=H)) (re (Qe [str (G++M),Qd [str z.1,str z.2.1,str z.2.2.1,Qb,Qb,str z.2.2.2.1,Qb,Qb,
   str z.t.1,ai z.t.2.1,ai z.t.q.1,str z.t.q.2.1,str z.t.t.1,Qb,Qb,sl (Sh.str.pr Q5) z.t.t.2.1,str (zf.op z.t.t.q.1),ai (zf.v z.t.t.q.1).1,ai (zf.v z.t.t.q.1).2.1,str (zf.v z.t.t.q.1).2.2,
   str (zf.s z.t.t.q.1),sl Q5 (zf.l z.t.t.q.1),str z.t.t.q.2.1],AV.bool (Q0 (H<=8))]) []) (re (Qe [str (G++M),Qd [str z.1,str z.2.1,str z.2.2.1,Qb,Qb,str z.2.2.2.1,Qb,Qb,str z.t.1,ai z.t.2.1,ai z.t.q.1,
   str z.t.q.2.1,str z.t.t.1,Qb,Qb,sl (Sh.str.pr Q5) z.t.t.2.1,str (zf.op z.t.t.q.1),ai (zf.v z.t.t.q.1).1,ai (zf.v z.t.t.q.1).2.1,str (zf.v z.t.t.q.1).2.2,
   str (zf.s z.t.t.q.1),sl Q5 (zf.l z.t.t.q.1),str z.t.t.q.2.1],kb Q4]) [])) (re (Qe [str (G++M),Qd [str z.1,str z.2.1,str z.2.2.1,Qb,Qb,str z.2.2.2.1,Qb,Qb,str z.t.1,ai z.t.2.1,ai z.t.q.1,
   str z.t.q.2.1,str z.t.t.1,Qb,Qb,sl (Sh.str.pr Q5) z.t.t.2.1,str (zf.op z.t.t.q.1),ai (zf.v z.t.t.q.1).1,ai (zf.v z.t.t.q.1).2.1,str (zf.v z.t.t.q.1).2.2,str (zf.s z.t.t.q.1),
   sl Q5 (zf.l z.t.t.q.1),str z.t.t.q.2.1],kb Q4]) []))))))
def dK(h:Sem zn):=an [Q6,zn,Q7] mI 100000000 (gY h)
def wv(h:Sem zn):=(dK h).isSome
def BR(h:Sem zn):=o3 (dK h)
def zkC:=FT [zn] [Q6,zn,Q7] λx=>dK x.1
theorem zgf:FK 86 zkC:=C4.T1 (f:=Tryz.f86) (keep:=zog) (e:=zqX)
def zdr:=U2.add 86 zkC
theorem GG:zw zdr:=C4.add zgf
def zhD(o:Sem zn):Tr (Empty⊕aw):=
 let u:=(o.1,o.2.1,o.2.2.1,o.2.2.2.1,o.t.1,o.t.2.1,o.t.q.1,o.t.q.2.1,zl o.t.t.1,o.t.t.2.1,o.t.t.q.1,zl o.t.t.q.2.1,o.t.t.t)
 let h:=BR u
 let z:=!h.2.2
 let B:=!bv o.2.1
 let C:=(h.2.1.1,h.2.1.2.1,h.2.1.2.2.1,h.2.1.2.2.2.1,h.2.1.t.1,h.2.1.t.2.1,h.2.1.t.q.1,h.2.1.t.q.2.1,zl h.2.1.t.t.1,h.2.1.t.t.2.1,h.2.1.t.t.q.1,zl h.2.1.t.t.q.2.1,h.2.1.t.t.t)
 let D:=AH h.1
 Qc (wv u)
 (Qc (cond z Q3 (dN o.2.1&&bif B then Q3 else BP C u))
  (br (cond z Q3 (cond B Q3 (!fw C u))) (re (Qe [str [],kb Q4]) []) (Qc (Jz h.1) (br (!D.2) (re (Qe [str [],kb Q4]) []) (re (Qe [str h.1,kb Q3]) [])))))
def oU(h:Sem zn):=an [Q6,Q7] t0 100000000 (zhD h)
def iN(h:Sem zn):=(oU h).isSome
def lJ(h:Sem zn):=o2 (oU h)
def zj3:=FT [zn] [Q6,Q7] λx=>oU x.1
theorem zfE:FK 44 zj3:=GG.T1 (f:=Tryz.f44) (keep:=k0) (e:=e0)
def Lj:=zdr.add 44 zj3
theorem GH:zw Lj:=GG.add zfE
abbrev mX:List CP:=[.d .str,.d .str,.d .str,.vec .str,.nil,.d .str,.nil,.nil,.d .expr,.nil,.nil,.d .str,.d zg,.d zg,.d .str,.d .str,.nil,.d .str]
abbrev zas:List CP:=[.d .str,.d .str,.d .str,.vec .str,.nil,.d .str,.nil,.nil,.d .str,.d zg,.d zg,.d .str,.d .str,.nil,.nil,.nil,.d .str,.d zg,.d zg,.d .str,.d .str,.nil,.d .str]
abbrev Ok:Nat->aM:=λj=>if j=14 then{slots:=[0,1,4],prom:=[(1,Q1 3,.str)]}else if j=1000000 then{prom:=[(1,Q1 3,.str)]}else{ }
inductive sQ where
 |h14 (z0:zm aC) (z1:zm zas)
 |h14b (b4:Sem Q7) (z0:zm aC) (z1:zm zas)
abbrev KZ:sQ->Nat×St
 |.h14 h z=>(14,⟨tm 117 [(0,Qf 0 0),(1,Qf 1 0),(4,kb Q3)],[Qa (bf [] aC h),Qa (bf [2] zas z),AO.vec Q6 z.2.2.2.1]⟩)
 |.h14b o h z=>(14,⟨tm 117 [(0,Qf 0 0),(1,Qf 1 0),(4,AV.bool o)],[Qa (bf [] aC h),Qa (bf [2] zas z),AO.vec Q6 z.2.2.2.1]⟩)
theorem zij:zO Lj.P 101 Tryz.f101 2:=bU kw
def VL(y:zm aC)(z:zm jk):Tr (sQ⊕aw):=
 let a0:=(y.1,y.2.1,y.2.2.1,())
 let a1:=fx a0 R2
 let a2:=(a1.2.1,a1.2.2.1,a1.2.2.2.1,())
 let a3:=bT a2
 let a4:=(a3.2.1,a3.2.2.1,a3.2.2.2.1,())
 let a5:=bI a4 uL
 let a6:=(a5.1,a5.2.1,a5.2.2.1,())
 let a7:=bT a6
 let a8:=(a7.2.1,a7.2.2.1,a7.2.2.2.1,())
 let a9:=([],z.2.2.2)
 let i0:=bI a8 [44]
 let j9:=(i0.1,i0.2.1,i0.2.2.1,())
 let U:=bT j9
 let k1:=(U.2.1,U.2.2.1,U.2.2.2.1,())
 let i1:=bI k1 Fu
 let k2:=(i1.1,i1.2.1,i1.2.2.1,())
 let W:=bT k2
 let k3:=(W.2.1,W.2.2.1,W.2.2.2.1,())
 let k4:=eS k3 im
 let i2:=bI a8 Fs
 let k5:=(i2.1,i2.2.1,i2.2.2.1,())
 let X:=bT k5
 let i3:=[X.1]
 let k6:=(X.2.1,X.2.2.1,X.2.2.2.1,())
 let i4:=bI k6 Fv
 let k7:=(i4.1,i4.2.1,i4.2.2.1,())
 let Y:=bT k7
 let k8:=[Y.1]
 let k9:=(Y.2.1,Y.2.2.1,Y.2.2.2.1,())
 let l0:=eS k9 im
 let l1:=eS a8 im
 let Z:=fx a2 R4
 let h0:=(Z.2.1,Z.2.2.1,Z.2.2.2.1,())
 let B:=bT h0
 let l2:=(B.2.1,B.2.2.1,B.2.2.2.1,())
 let i5:=bI l2 uL
 let l3:=(i5.1,i5.2.1,i5.2.2.1,())
 let C:=bT l3
 let h:=(C.2.1,C.2.2.1,C.2.2.2.1,())
 let i6:=bI h [44]
 let l4:=(i6.1,i6.2.1,i6.2.2.1,())
 let h1:=bT l4
 let l5:=(h1.2.1,h1.2.2.1,h1.2.2.2.1,())
 let i7:=bI l5 Fu
 let l6:=(i7.1,i7.2.1,i7.2.2.1,())
 let h2:=bT l6
 let l7:=(h2.2.1,h2.2.2.1,h2.2.2.2.1,())
 let l8:=eS l7 im
 let i8:=bI h Fs
 let l9:=(i8.1,i8.2.1,i8.2.2.1,())
 let h3:=bT l9
 let i9:=[h3.1]
 let m1:=(h3.2.1,h3.2.2.1,h3.2.2.2.1,())
 let j0:=bI m1 Fv
 let m2:=(j0.1,j0.2.1,j0.2.2.1,())
 let h4:=bT m2
 let m3:=[h4.1]
 let m4:=(h4.2.1,h4.2.2.1,h4.2.2.2.1,())
 let m6:=eS m4 im
 let m7:=eS h im
 let L:=fx h0 R3
 let m8:=(L.2.1,L.2.2.1,L.2.2.2.1,())
 let D:=bT m8
 let m9:=(D.2.1,D.2.2.1,D.2.2.2.1,())
 let j1:=bI m9 uL
 let n1:=(j1.1,j1.2.1,j1.2.2.1,())
 let E:=bT n1
 let o:=(E.2.1,E.2.2.1,E.2.2.2.1,())
 let j2:=bI o [44]
 let n2:=(j2.1,j2.2.1,j2.2.2.1,())
 let h5:=bT n2
 let n3:=(h5.2.1,h5.2.2.1,h5.2.2.2.1,())
 let j3:=bI n3 Fu
 let n4:=(j3.1,j3.2.1,j3.2.2.1,())
 let h6:=bT n4
 let n5:=(h6.2.1,h6.2.2.1,h6.2.2.2.1,())
 let n6:=eS n5 im
 let j4:=bI o Fs
 let n7:=(j4.1,j4.2.1,j4.2.2.1,())
 let h7:=bT n7
 let j5:=[h7.1]
 let n8:=(h7.2.1,h7.2.2.1,h7.2.2.2.1,())
 let j6:=bI n8 Fv
 let n9:=(j6.1,j6.2.1,j6.2.2.1,())
 let h8:=bT n9
 let a85:=[h8.1]
 let a86:=(h8.2.1,h8.2.2.1,h8.2.2.2.1,())
 let a87:=eS a86 im
 let a88:=eS o im
 let a89:=(L.2.1,L.2.2.1,Q4,())
 let F:=bT a89
 let a91:=(F.2.1,F.2.2.1,F.2.2.2.1,())
 let j7:=bI a91 uL
 let a93:=(j7.1,j7.2.1,j7.2.2.1,())
 let G:=bT a93
 let u:=(G.2.1,G.2.2.1,G.2.2.2.1,())
 let j8:=bI u [44]
 let a97:=(j8.1,j8.2.1,j8.2.2.1,())
 let h9:=bT a97
 let a99:=(h9.2.1,h9.2.2.1,h9.2.2.2.1,())
 let M:=bI a99 Fu
 let x0:=(M.1,M.2.1,M.2.2.1,())
 let H:=bT x0
 let x1:=(H.2.1,H.2.2.1,H.2.2.2.1,())
 let x2:=eS x1 im
 let O:=bI u Fs
 let x3:=(O.1,O.2.1,O.2.2.1,())
 let I:=bT x3
 let S:=[I.1]
 let x4:=(I.2.1,I.2.2.1,I.2.2.2.1,())
 let T:=bI x4 Fv
 let x5:=(T.1,T.2.1,T.2.2.1,())
 let J:=bT x5
 let x6:=[J.1]
 let x7:=(J.2.1,J.2.2.1,J.2.2.2.1,())
 let x8:=eS x7 im
 let x9:=eS u im
 Qc (ea a0 R2)
 (br a1.1
  (Qc (bu a2) (Qc (aW a4 uL) (Qc (bu a6) (br Q3 (Qc (aW a8 [40]) (Q9 (sQ.h14 (bI a8 [40]) (cV,a3.1,a7.1,a9)))) (br Q4 (Qc (aW a8 [44]) (Qc (bu j9) (Qc (aW k1 Fu) (Qc (bu k2) (Qc (dO k3 im) (re (Qe []) (cu aC mX k4.2
  (cV,a3.1,a7.1,[],W.1,k4.1,z.t.t.2.1,z.t.t.q.1,z.t.t.q.2.1,z.t.t.t.1,z.t.t.t.2.1,U.1,())))))))) (br Q4 (Qc (aW a8 Fs) (Qc (bu k5) (Qc (Q0 (Io i3<=1073741824)) (Qc (aW k6 Fv) (Qc (bu k7)
  (Qc (Q0 (Io i3+Io k8<=1073741824)) (Qc (dO k9 im) (re (Qe []) (cu aC mX l0.2 (cV,a3.1,a7.1,i3++k8,z.2.2.2.1,l0.1,z.t.t.2)))))))))) (Qc (dO a8 im) (re (Qe []) (cu aC mX l1.2
  (cV,a3.1,a7.1,[],z.2.2.2.1,l1.1,z.t.t.2))))))))))
  (Qc (ea a2 R4) (br Z.1 (Qc (bu h0) (Qc (aW l2 uL) (Qc (bu l3) (br Q4 (Qc (aW h [40]) (Q9 (sQ.h14 (bI h [40]) (eW,B.1,C.1,a9)))) (br Q3 (Qc (aW h [44]) (Qc (bu l4) (Qc (aW l5 Fu) (Qc (bu l6)
  (Qc (dO l7 im) (re (Qe []) (cu aC mX l8.2 (eW,B.1,C.1,[],h2.1,l8.1,z.t.t.2.1,z.t.t.q.1,z.t.t.q.2.1,z.t.t.t.1,z.t.t.t.2.1,h1.1,())))))))) (br Q4 (Qc (aW h Fs) (Qc (bu l9)
  (Qc (Q0 (Io i9<=1073741824)) (Qc (aW m1 Fv) (Qc (bu m2) (Qc (Q0 (Io i9+Io m3<=1073741824)) (Qc (dO m4 im) (re (Qe []) (cu aC mX m6.2 (eW,B.1,C.1,i9++m3,z.2.2.2.1,m6.1,z.t.t.2)))))))))) (Qc (dO h im)
  (re (Qe []) (cu aC mX m7.2 (eW,B.1,C.1,[],z.2.2.2.1,m7.1,z.t.t.2)))))))))) (Qc (ea h0 R3) (br L.1 (Qc (bu m8) (Qc (aW m9 uL) (Qc (bu n1) (br Q4 (Qc (aW o [40]) (Q9 (sQ.h14 (bI o [40]) (ku,D.1,E.1,a9))))
  (br Q4 (Qc (aW o [44]) (Qc (bu n2) (Qc (aW n3 Fu) (Qc (bu n4) (Qc (dO n5 im) (re (Qe []) (cu aC mX n6.2 (ku,D.1,E.1,[],h6.1,n6.1,z.t.t.2.1,z.t.t.q.1,z.t.t.q.2.1,
  z.t.t.t.1,z.t.t.t.2.1,h5.1,())))))))) (br Q3 (Qc (aW o Fs) (Qc (bu n7) (Qc (Q0 (Io j5<=1073741824)) (Qc (aW n8 Fv) (Qc (bu n9) (Qc (Q0 (Io j5+Io a85<=1073741824)) (Qc (dO a86 im) (re (Qe []) (cu aC mX a87.2
  (ku,D.1,E.1,j5++a85,z.2.2.2.1,a87.1,z.t.t.2)))))))))) (Qc (dO o im) (re (Qe []) (cu aC mX a88.2 (ku,D.1,E.1,[],z.2.2.2.1,a88.1,z.t.t.2)))))))))) (Qc (bu a89) (Qc (aW a91 uL) (Qc (bu a93)
  (br (z.1==cV) (Qc (aW u [40]) (Q9 (sQ.h14 (bI u [40]) (z.1,F.1,G.1,a9)))) (br (z.1==eW) (Qc (aW u [44]) (Qc (bu a97) (Qc (aW a99 Fu) (Qc (bu x0) (Qc (dO x1 im) (re (Qe []) (cu aC mX x2.2
  (z.1,F.1,G.1,[],H.1,x2.1,z.t.t.2.1,z.t.t.q.1,z.t.t.q.2.1,z.t.t.t.1,z.t.t.t.2.1,h9.1,())))))))) (br (z.1==ku) (Qc (aW u Fs) (Qc (bu x3) (Qc (Q0 (Io S<=1073741824)) (Qc (aW x4 Fv) (Qc (bu x5)
  (Qc (Q0 (Io S+Io x6<=1073741824)) (Qc (dO x7 im) (re (Qe []) (cu aC mX x8.2 (z.1,F.1,G.1,S++x6,z.2.2.2.1,x8.1,z.t.t.2)))))))))) (Qc (dO u im) (re (Qe []) (cu aC mX x9.2 (z.1,F.1,G.1,[],z.2.2.2.1,x9.1,z.t.t.2)))))))))))))))
theorem zhd(y:zm aC)(z:zm jk):rn Lj 2 Ok Tryz.f101 [Qf 0 0,Qf 1 0] (cu aC jk y z)=(VL y z).map (lf Tryz.f101 KZ):=kw
def Yg:sQ->Tr (sQ⊕aw)
 | .h14 u z=>
  let h:=(u.1,u.2.1,u.2.2.1,())
  let o:=bT h
  let C:=[o.1]
  let D:=(o.2.1,o.2.2.1,o.2.2.2.1,())
  let E:=fx D [44]
  let B:=bI h [41]
  let F:=(B.1,B.2.1,B.2.2.1,())
  let G:=eS F im
  br u.2.2.1
  (Qc (bu h)
   (Qc (Q0 (Io z.2.2.2.1+Io C<=1073741824)) (Qc (ea D [44]) (Q9 (sQ.h14b E.1 E.2 (z.1,z.2.1,z.2.2.1,z.2.2.2.1++C,z.t))))))
  (Qc (aW h [41])
   (Qc (dO F im) (re (Qe []) (cu aC mX G.2 (z.1,z.2.1,z.2.2.1,z.2.2.2.1,z.t.1,G.1,z.t.t.q)))))
 | .h14b H u z=>
  let h:=(u.1,u.2.1,u.2.2.1,())
  let o:=bT h
  let C:=[o.1]
  let D:=(o.2.1,o.2.2.1,o.2.2.2.1,())
  let E:=fx D [44]
  let B:=bI h [41]
  let F:=(B.1,B.2.1,B.2.2.1,())
  let G:=eS F im
  br (cond H u.2.2.1 Q4)
  (Qc (bu h)
   (Qc (Q0 (Io z.2.2.2.1+Io C<=1073741824)) (Qc (ea D [44]) (Q9 (sQ.h14b E.1 E.2 (z.1,z.2.1,z.2.2.1,z.2.2.2.1++C,z.t))))))
  (Qc (aW h [41])
   (Qc (dO F im) (re (Qe []) (cu aC mX G.2 (z.1,z.2.1,z.2.2.1,z.2.2.2.1,z.t.1,G.1,z.t.t.q)))))
theorem zit:∀s,run Lj 2 Ok (Func.results Tryz.f101).toList 400 (aj Tryz.f101 (KZ s).1) (KZ s).2=(Yg s).map (lf Tryz.f101 KZ)
 |.h14 z h=>by kernel_rfl
 |.h14b o z h=>by kernel_rfl
def X1(y:zm aC)(z:zm jk):Option (zz (Qi Q1 [])×zm aC×zm mX):=QD [] aC mX Yg 100000000 (VL y z)
def X0(y:zm aC)(z:zm jk):Bool:=(X1 y z).isSome
def zep(y:zm aC)(z:zm jk):zm aC×zm mX:=(λr:zz (Qi Q1 [])×zm aC×zm mX=>r.2) ((X1 y z).getD (bQ [],fK aC,fK mX))
def zch:ac:=Uq aC jk [] [] aC mX (λy z _=>X0 y z) λy z _=>((),zep y z)
theorem YY:FK 101 zch:=zgu (ps:=aC) (qs:=jk) (ks:=[]) (outs:=[]) (keep:=Ok) (gas:=400) (n:=100000000) (e:=KZ) (t:=Yg) (i:=λy z x=>VL y z) GH zij (λy z x=>zhd y z) zit (λ_ _ _=>by kernel_rfl) (λ_ _ _=>by kernel_rfl)
def zds:=Lj.add 101 zch
theorem GI:zw zds:=GH.add YY
end
end Cad
