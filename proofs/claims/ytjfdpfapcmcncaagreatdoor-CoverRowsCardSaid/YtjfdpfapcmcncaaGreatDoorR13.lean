/- The document's values that are known. -/
import Derived.Test.YtjfdpfapcmcncaaGreatDoorR12
namespace Cad
open Go Go.Proofs
open List renaming length→Io,map→Qi,drop→Qh,take→Qg
open IntKind renaming wrap→Γ,i64→Δ
open AV renaming ptr→Qf,tup→Qe,agg→Qd,nils→Qb
open Tr renaming chk→Qc,«to»→Q9
open AO renaming box→Qa
open Sh renaming bool→Q7,str→Q6,expr→Q5
open Bool renaming false→Q4,true→Q3
open Option renaming some→Q1
open Decidable renaming decide→Q0
open Int (toNat)
open List (getD)
open Tr (chk br re)
open AV (nils agg tup ptr kb str sl)
noncomputable section
set_option maxHeartbeats 4000000
def zdK(h:Sem ze):Tr (Empty⊕aw):=
 Qc (mC h)
 (br (tj h) (re (Qd [ai h.1,ai h.2.1,str h.2.2]) [])
  (re (Qd [ai 0,ai 0,str []]) []))
def wc(h:Sem ze):=al [ze] t0 100000000 (zdK h)
def rP(h:Sem ze):=(wc h).isSome
def fq(h:Sem ze):=o1 (wc h)
def zb6:=FT [ze] [ze] λx=>wc x.1
theorem YO:FK 56 zb6:=mZ.T1 (f:=Tryz.f56) (keep:=k0) (e:=e0)
def zdJ(o:Sem ze)(h:Sem Q7):Tr (Empty⊕aw):=
 Qc (lG h) (re (AV.bool (o.1==(bc h).1&&(o.2.1==(bc h).2.1&&(o.2.2==(bc h).2.2&&Q3)))) [])
def Mi(h:Sem ze)(o:Sem Q7):=al [Q7] t0 100000000 (zdJ h o)
def mn(h:Sem ze)(o:Sem Q7):=(Mi h o).isSome
def pA(h:Sem ze)(o:Sem Q7):=o1 (Mi h o)
def zb4:=FT [ze,Q7] [Q7] λx=>Mi x.1 x.2.1
theorem YM:FK 30 zb4:=mZ.T1 (f:=Tryz.f30) (keep:=k0) (e:=e0)
def Ij(g:Sem Q5->Sem zg->Sem Q7)(c:Sem Q5->Sem zg->Bool):bZ:=GH.add 103 (zT [Q5,zg] [Q7] (λx=>c x.1 x.2.1) λx=>(g x.1 x.2.1,()))
theorem NG{g:Sem Q5->Sem zg->Sem Q7}{c:Sem Q5->Sem zg->Bool}(h:FK 103 (zT [Q5,zg] [Q7] (λx=>c x.1 x.2.1) λx=>(g x.1 x.2.1,()))):zw (Ij g c):=mZ.add h
abbrev Wf:Nat->aN:=λ_=>{ }
theorem zif(g:Sem Q5->Sem zg->Sem Q7)(c:Sem Q5->Sem zg->Bool):zO (Ij g c).P 103 Tryz.f103 2:=bU kw
def PX(g:Sem Q5->Sem zg->Sem Q7)(c:Sem Q5->Sem zg->Bool)(h:Sem Q5)(I:Sem zg):Tr (Empty⊕aw):=
 let B:=(↑(zf.l h).length:Int)==0
 let o:=(zf.v h).1==0&&((zf.v h).2.1==0&&((zf.v h).2.2==[]&&Q3))
 let C:=(↑(zf.l h).length:Int)==1
 let D:=zJ 0 (zf.l h).length
 let E:=zm ((zf.l h).getD (toNat 0) (zi Q5))
 let u:=Γ Δ (I-1)
 let F:=c E u
 let z:=g E u
 let G:=(↑(zf.l h).length:Int)==2
 let H:=zm ((zf.l h).getD (toNat 1) (zi Q5))
 br (I==0) (re (kb Q4) [])
 (br (zf.op h==kH)
  (Qc (mC (zf.v h)) (re (AV.bool (cond (tj (zf.v h)) (cond (zf.s h==[]) B Q4) Q4)) []))
  (br (zf.op h==cX) (Qc (cond o (wm (zf.s h)&&bif uw (zf.s h)then Ew (zf.s h)else Q3) Q3) (re (AV.bool (cond o (cond (uw (zf.s h)) (cond (!MA (zf.s h)) B Q4) Q4) Q4)) [])) (br (cond (zf.op h==mS) Q3 (zf.op h==pb))
  (Qc (cond o (cond (zf.s h==[]) (cond C (D&&F) Q3) Q3) Q3) (re (AV.bool (cond o (cond (zf.s h==[]) (cond C z Q4) Q4) Q4)) [])) (Qc (Jh (zf.op h)) (br (QM (zf.op h)) (Qc
  (cond o (cond (zf.s h==[]) (cond G (D&&(F&&bif z then zJ 1 (zf.l h).length&&c H u else Q3)) Q3) Q3) Q3) (re (AV.bool (cond o (cond (zf.s h==[]) (cond G (cond z (g H u) Q4) Q4) Q4) Q4)) [])) (re (kb Q4) []))))))
theorem zhe(g:Sem Q5->Sem zg->Sem Q7)(c:Sem Q5->Sem zg->Bool)(h:Sem Q5)(o:Sem zg):rn (Ij g c) 0 Wf Tryz.f103 [zC Q5 h,zC zg o] []=(PX g c h o).map (lf Tryz.f103 e0):=kw
def oK(o:Option (zz (Qi Q1 [Q7]))):Sem Q7:=(λr:zz (Qi Q1 [Q7])=>r.1) (o.getD (bQ [Q7]))
def Jg(g:Sem Q5->Sem zg->Sem Q7)(c:Sem Q5->Sem zg->Bool)(h:Sem Q5)(o:Sem zg):Option (zz (Qi Q1 [Q7])):=al [Q7] t0 100000000 (PX g c h o)
def fY:Nat->Sem Q5->Sem zg->Option (zz (Qi Q1 [Q7]))
 |0=>λ_ _=>none
 |n+1=>Jg (λh o=>oK (fY n h o)) λh o=>(fY n h o).isSome
theorem V1:zO GH.P 103 Tryz.f103 2:=bU kw
theorem Kk:∀n,FK 103 (zT [Q5,zg] [Q7] (λx=>(fY n x.1 x.2.1).isSome) λx=>(oK (fY n x.1 x.2.1),()))
 |0=>eY ⟨Tryz.f103,V1.1,V1.2.1,V1.2.2.1⟩ (λ_=>rfl)
 |n+1=>kY (E:=Ij (λh o=>oK (fY n h o)) (λh o=>(fY n h o).isSome)) (ks:=[Q5,zg]) (outs:=[Q7]) (keep:=Wf) (gas:=400) (n:=100000000) (e:=e0) (t:=t0) (i:=λx=>PX (λh o=>oK (fY n h o)) (λh o=>(fY n h o).isSome) x.1 x.2.1) (NG (Kk n)) (zif _ _) (λx=>zhe _ _ x.1 x.2.1) (Xa _ _ _ _ _) (λ_=>by kernel_rfl) (λ_=>by kernel_rfl)
def Jf(h:Sem Q5)(o:Sem zg):Option (zz (Qi Q1 [Q7])):=fY 16 h o
def BG(h:Sem Q5)(o:Sem zg):Bool:=(Jf h o).isSome
def Je(h:Sem Q5)(o:Sem zg):Sem Q7:=oK (Jf h o)
def zcw:zZ:=zT [Q5,zg] [Q7] (λx=>BG x.1 x.2.1) λx=>(Je x.1 x.2.1,())
theorem Zf:FK 103 zcw:=Kk 16
def K1(g:Sem Q5->Sem (Sh.sl zj)->Sem zg×Sem zg)(c:Sem Q5->Sem (Sh.sl zj)->Bool):bZ:=GH.add 58 (zT [Q5,Sh.sl zj] [zg,zg] (λx=>c x.1 x.2.1) λx=>((g x.1 x.2.1).1,(g x.1 x.2.1).2,()))
theorem Sl{g:Sem Q5->Sem (Sh.sl zj)->Sem zg×Sem zg}{c:Sem Q5->Sem (Sh.sl zj)->Bool}(h:FK 58 (zT [Q5,Sh.sl zj] [zg,zg] (λx=>c x.1 x.2.1) λx=>((g x.1 x.2.1).1,(g x.1 x.2.1).2,()))):zw (K1 g c):=mZ.add h
abbrev Wo:Nat->aN:=λj=>if j=5 then{slots:=[1,2,6]}else{ }
inductive RD where
 |h5 (l1:LC) (i6:Int) (z0:zl [CP.d Q5])
abbrev UK:RD->Nat×St
 |.h5 o h z=>(5,⟨tm 116 [(1,sl zj o),(2,Qf 0 0),(6,ai h)],[Qa (bb [] [CP.d Q5] z)]⟩)
theorem zpe(g:Sem Q5->Sem zj.sl->Sem zg×Sem zg)(c:Sem Q5->Sem zj.sl->Bool):zO (K1 g c).P 58 Tryz.f58 2:=bU kw
def Dt(g:Sem Q5->Sem zj.sl->Sem zg×Sem zg)(c:Sem Q5->Sem zj.sl->Bool)(o:Sem Q5)(I:Sem zj.sl):Tr (RD⊕aw):=
 let L:=zm ((zf.l o).getD (toNat 0) (zi Q5))
 let u:=g L I
 let M:=zm ((zf.l o).getD (toNat 1) (zi Q5))
 let E:=g M I
 let O:=zf.op o==pb
 let S:=zf.op o==[61]
 let h:=u.1!=0
 let J:=E.1!=0
 let T:=zf.op o==[60]
 let U:=zf.op o==[43]
 let z:=u.1!=1
 let B:=bif J then E.1!=1 else Q4
 let F:=zf.op o==[45]
 let D:=u.1!=3
 let G:=bif J then E.1!=3 else Q4
 let C:=bif h then z else Q4
 let H:=bif h then D else Q4
 br (zf.op o==kH) (re (Qe [ai (zf.v o).1,ai 0]) [])
 (br (zf.op o==cX) (Q9 (RD.h5 I 0 (o,())))
  (Qc (zJ 0 (zf.l o).length) (Qc (c L I) (br (u.2!=0) (re (Qe [ai 0,ai u.2]) []) (br ((↑(zf.l o).length:Int)==2) (Qc (zJ 1 (zf.l o).length) (Qc (c M I) (br (E.2!=0) (re (Qe [ai 0,ai E.2]) []) (br O (re (Qe [ai 3,ai 0]) []) (br S
  (br (cond h (cond J (u.1!=E.1) Q4) Q4) (re (Qe [ai 0,ai 5]) []) (re (Qe [ai 3,ai 0]) [])) (br T (br (cond h (cond J (u.1!=E.1) Q4) Q4) (re (Qe [ai 0,ai 5]) []) (re (Qe [ai 3,ai 0]) [])) (br U
  (br (cond h (cond z Q3 B) B) (re (Qe [ai 0,ai 5]) []) (re (Qe [ai 1,ai 0]) [])) (br F (br (cond h (cond z Q3 B) B) (re (Qe [ai 0,ai 5]) []) (re (Qe [ai 1,ai 0]) []))
  (br (cond h (cond D Q3 G) G) (re (Qe [ai 0,ai 5]) []) (re (Qe [ai 3,ai 0]) [])))))))))) (br O (re (Qe [ai 3,ai 0]) []) (br S (br (cond h (cond h (u.1!=u.1) Q4) Q4) (re (Qe [ai 0,ai 5]) [])
  (re (Qe [ai 3,ai 0]) [])) (br T (br (cond h (cond h (u.1!=u.1) Q4) Q4) (re (Qe [ai 0,ai 5]) []) (re (Qe [ai 3,ai 0]) [])) (br U (br (cond h (cond z Q3 C) C) (re (Qe [ai 0,ai 5]) [])
  (re (Qe [ai 1,ai 0]) [])) (br F (br (cond h (cond z Q3 C) C) (re (Qe [ai 0,ai 5]) []) (re (Qe [ai 1,ai 0]) [])) (br (cond h (cond D Q3 H) H) (re (Qe [ai 0,ai 5]) []) (re (Qe [ai 3,ai 0]) []))))))))))))
theorem zmW(g:Sem Q5->Sem zj.sl->Sem zg×Sem zg)(c:Sem Q5->Sem zj.sl->Bool)(h:Sem Q5)(o:Sem zj.sl):rn (K1 g c) 0 Wo Tryz.f58 [zC Q5 h,zC zj.sl o] []=(Dt g c h o).map (lf Tryz.f58 UK):=kw
def M1(_:Sem Q5->Sem zj.sl->Sem zg×Sem zg)(_:Sem Q5->Sem zj.sl->Bool):RD->Tr (RD⊕aw)
 | .h5 o h z=>
  let u:=o.getD h.toNat (zi zj)
  br (Q0 (h<(↑o.length:Int)))
  (Qc (zJ h (Io o))
   (br (u.1==zf.s z.1) (Qc (zJ h (Io o)) (re (Qe [ai u.2.1,ai 0]) [])) (Q9 (RD.h5 o (Γ Δ (h+1)) z))))
  (re (Qe [ai 0,ai 4]) [])
theorem zpA(g:Sem Q5->Sem zj.sl->Sem zg×Sem zg)(c:Sem Q5->Sem zj.sl->Bool):∀s,run (K1 g c) 0 Wo (Func.results Tryz.f58).toList 400 (aj Tryz.f58 (UK s).1) (UK s).2=(M1 g c s).map (lf Tryz.f58 UK)
 |.h5 o h z=>by kernel_rfl
def fX(o:Option (zz (Qi Q1 [zg,zg]))):Sem zg×Sem zg:=(λr:zz (Qi Q1 [zg,zg])=>(r.1,r.2.1)) (o.getD (bQ [zg,zg]))
def QL(g:Sem Q5->Sem zj.sl->Sem zg×Sem zg)(c:Sem Q5->Sem zj.sl->Bool)(h:Sem Q5)(o:Sem zj.sl):Option (zz (Qi Q1 [zg,zg])):=al [zg,zg] (M1 g c) 100000000 (Dt g c h o)
def ce:Nat->Sem Q5->Sem zj.sl->Option (zz (Qi Q1 [zg,zg]))
 |0=>λ_ _=>none
 |n+1=>QL (λh o=>fX (ce n h o)) λh o=>(ce n h o).isSome
theorem zhH:zO GH.P 58 Tryz.f58 2:=bU kw
theorem Po:∀n,FK 58 (zT [Q5,zj.sl] [zg,zg] (λx=>(ce n x.1 x.2.1).isSome) λx=>((fX (ce n x.1 x.2.1)).1,(fX (ce n x.1 x.2.1)).2,()))
 |0=>eY ⟨Tryz.f58,zhH.1,zhH.2.1,zhH.2.2.1⟩ (λ_=>rfl)
 |n+1=>kY (E:=K1 (λh o=>fX (ce n h o)) (λh o=>(ce n h o).isSome)) (ks:=[Q5,zj.sl]) (outs:=[zg,zg]) (keep:=Wo) (gas:=400) (n:=100000000) (e:=UK) (t:=M1 (λh o=>fX (ce n h o)) (λh o=>(ce n h o).isSome)) (i:=λx=>Dt (λh o=>fX (ce n h o)) (λh o=>(ce n h o).isSome) x.1 x.2.1) (Sl (Po n)) (zpe _ _) (λx=>zmW _ _ x.1 x.2.1) (zpA _ _) (λ_=>by kernel_rfl) (λ_=>by kernel_rfl)
def BF(h:Sem Q5)(o:Sem zj.sl):Option (zz (Qi Q1 [zg,zg])):=ce 16 h o
def oJ(h:Sem Q5)(o:Sem zj.sl):Bool:=(BF h o).isSome
def iJ(h:Sem Q5)(o:Sem zj.sl):Sem zg×Sem zg:=fX (BF h o)
def zkE:zZ:=zT [Q5,zj.sl] [zg,zg] (λx=>oJ x.1 x.2.1) λx=>((iJ x.1 x.2.1).1,(iJ x.1 x.2.1).2,())
theorem zgh:FK 58 zkE:=Po 16
def UQ:=GH.addL [(56,zb6),(30,zb4),(103,zcw),(58,zkE)]
theorem gV:zw UQ:=mZ.addL<|fc YO<|fc YM<|fc Zf<|fc zgh iz
def znk(h:Sem ze)(o:Sem ze):Tr (Empty⊕aw):=
 let u:=(fq h).1==(fq o).1
 let z:=(fq h).2.1==(fq o).2.1
 Qc (rP h)
 (Qc (rP o)
  (br (u&&(z&&((fq h).2.2==(fq o).2.2&&Q3))) (re (ai 0) []) (br (cond (Q0 ((fq h).1<(fq o).1)) Q3 (cond u (cond (Q0 ((fq h).2.1<(fq o).2.1)) Q3 (cond z (Op.bytesLess (fq h).2.2 (fq o).2.2) Q4)) Q4)) (re (ai (-1)) []) (re (ai 1) []))))
def qB(h:Sem ze)(o:Sem ze):=al [zg] t0 100000000 (znk h o)
def lE(h:Sem ze)(o:Sem ze):=(qB h o).isSome
def oF(h:Sem ze)(o:Sem ze):=o1 (qB h o)
def zkh:=FT [ze,ze] [zg] λx=>qB x.1 x.2.1
theorem zfU:FK 28 zkh:=gV.T1 (f:=Tryz.f28) (keep:=k0) (e:=e0)
def zdW(h:Sem ze)(o:Sem ze):Tr (Empty⊕aw):=
 Qc (rP h)
 (Qc (rP o)
  (re (AV.bool (cond ((fq h).1==0) Q3 (cond ((fq o).1==0) Q3 ((fq h).1!=(fq o).1)))) []))
def qC(h:Sem ze)(o:Sem ze):=al [Q7] t0 100000000 (zdW h o)
def nr(h:Sem ze)(o:Sem ze):=(qC h o).isSome
def rL(h:Sem ze)(o:Sem ze):=o1 (qC h o)
def zcP:=FT [ze,ze] [Q7] λx=>qC x.1 x.2.1
theorem Zx:FK 105 zcP:=gV.T1 (f:=Tryz.f105) (keep:=k0) (e:=e0)
def zdQ(h:Sem ze)(o:Sem ze):Tr (Empty⊕aw):=
 Qc (mn h Q4&&bif pA h Q4 then Q3 else mn o Q4)
 (br (cond (pA h Q4) Q3 (pA o Q4))
  (Qc Q3 (re (Qd [ai (bc Q4).1,ai (bc Q4).2.1,str (bc Q4).2.2]) []))
  (Qc (mn h Q3&&bif pA h Q3 then mn o Q3 else Q3) (br (cond (pA h Q3) (pA o Q3) Q4) (Qc Q3 (re (Qd [ai (bc Q3).1,ai (bc Q3).2.1,str (bc Q3).2.2]) [])) (re (Qd [ai 0,ai 0,str []]) []))))
def D4(h:Sem ze)(o:Sem ze):=al [ze] t0 100000000 (zdQ h o)
def I7(h:Sem ze)(o:Sem ze):=(D4 h o).isSome
def Hs(h:Sem ze)(o:Sem ze):=o1 (D4 h o)
def zcA:=FT [ze,ze] [ze] λx=>D4 x.1 x.2.1
theorem Zj:FK 62 zcA:=gV.T1 (f:=Tryz.f62) (keep:=k0) (e:=e0)
def zdR(h:Sem ze)(o:Sem ze):Tr (Empty⊕aw):=
 Qc (mn h Q3&&bif pA h Q3 then Q3 else mn o Q3)
 (br (cond (pA h Q3) Q3 (pA o Q3))
  (Qc Q3 (re (Qd [ai (bc Q3).1,ai (bc Q3).2.1,str (bc Q3).2.2]) []))
  (Qc (mn h Q4&&bif pA h Q4 then mn o Q4 else Q3) (br (cond (pA h Q4) (pA o Q4) Q4) (Qc Q3 (re (Qd [ai (bc Q4).1,ai (bc Q4).2.1,str (bc Q4).2.2]) [])) (re (Qd [ai 0,ai 0,str []]) []))))
def Ml(h:Sem ze)(o:Sem ze):=al [ze] t0 100000000 (zdR h o)
def QH(h:Sem ze)(o:Sem ze):=(Ml h o).isSome
def S5(h:Sem ze)(o:Sem ze):=o1 (Ml h o)
def zcB:=FT [ze,ze] [ze] λx=>Ml x.1 x.2.1
theorem Zk:FK 63 zcB:=gV.T1 (f:=Tryz.f63) (keep:=k0) (e:=e0)
def zdP(h:Sem ze):Tr (Empty⊕aw):=
 Qc (mn h Q3)
 (br (pA h Q3)
  (Qc Q3 (re (Qd [ai (bc Q4).1,ai (bc Q4).2.1,str (bc Q4).2.2]) []))
  (Qc (mn h Q4) (br (pA h Q4) (Qc Q3 (re (Qd [ai (bc Q3).1,ai (bc Q3).2.1,str (bc Q3).2.2]) [])) (re (Qd [ai 0,ai 0,str []]) []))))
def D7(h:Sem ze):=al [ze] t0 100000000 (zdP h)
def Ja(h:Sem ze):=(D7 h).isSome
def Hu(h:Sem ze):=o1 (D7 h)
def zcz:=FT [ze] [ze] λx=>D7 x.1
theorem Zi:FK 60 zcz:=gV.T1 (f:=Tryz.f60) (keep:=k0) (e:=e0)
def znr(h:Sem Q5):Tr (Empty⊕aw):=
 let o:=Je (zm h) 12
 Qc (BG (zm h) 12&&bif o then wh (zm h)else Q3) (re (AV.bool (cond o (Q0 (BH (zm h)<=60)) Q4)) [])
def Ee(h:Sem Q5):=al [Q7] t0 100000000 (znr h)
def ut(h:Sem Q5):=(Ee h).isSome
def Ed(h:Sem Q5):=o1 (Ee h)
def zkD:=FT [Q5] [Q7] λx=>Ee x.1
theorem zgg:FK 57 zkD:=gV.T1 (f:=Tryz.f57) (keep:=k0) (e:=e0)
def UR:=UQ.addL [(28,zkh),(105,zcP),(62,zcA),(63,zcB),(60,zcz),(57,zkD)]
theorem CZ:zw UR:=gV.addL<|fc zfU<|fc Zx<|fc Zj<|fc Zk<|fc Zi<|fc zgg iz
abbrev zhW:=kR [(2,[0,3])]
inductive FX where
 |h2 (i0:Sem zg) (s3:List UInt8)
abbrev zmp:FX->Nat×St
 |.h2 h o=>(2,⟨tm 21 [(0,ai h),(3,str o)],[]⟩)
def zm6(h:Sem zg):Tr (FX⊕aw):=
 Q9 (FX.h2 h [])
def EZ:FX->Tr (FX⊕aw)
 | .h2 o h=>
  let u:=jf [IntKind.u8.wrap (Γ Δ (48-Γ Δ (Int.tmod o 10)))]
  br (cond (Q0 (o<0)) Q3 (h==[]))
  (Qc Q3 (Qc (Q0 (Io u+Io h<=1099511627776)) (Qc Q3 (Q9 (FX.h2 (Γ Δ (Int.tdiv o 10)) (u++h))))))
  (re (str h) [])
def rO(h:Sem zg):=al [Q6] EZ 100000000 (zm6 h)
def kS(h:Sem zg):=(rO h).isSome
def lH(h:Sem zg):=o1 (rO h)
def zcN:=FT [zg] [Q6] λx=>rO x.1
theorem Zv:FK 179 zcN:=CZ.T1 (f:=Tryz.f179) (keep:=zhW) (e:=zmp)
def UW:=UR.add 179 zcN
theorem C1:zw UW:=CZ.add Zv
abbrev zhP:=kR [(13,[1,3,4])]
inductive Ca where
 |h13 (s3:List UInt8) (i4:Int) (z0:zl [CP.d ze])
abbrev zmk:Ca->Nat×St
 |.h13 o h z=>(13,⟨tm 54 [(1,Qf 0 0),(3,str o),(4,ai h)],[Qa (bb [] [CP.d ze] z)]⟩)
def Aq(h:Sem ze):Tr (Ca⊕aw):=
 let o:=Γ Δ (0-h.2.1)
 Qc (mC h)
 (br (!tj h) (re (str []) [])
  (br (h.1==0) (re (str Fv) []) (br (h.1==1) (br (Q0 (h.2.1<0)) (Qc (kS h.2.1) (Qc (Q0 ([45].length+Io (lH h.2.1)<=1099511627776)) (re (str ([45]++lH h.2.1)) []))) (Qc (kS o) (re (str (lH o)) []))) (br (h.1==2) (Q9 (Ca.h13 [39] 0 (h,())))
  (br (h.2.1==1) (re (str H8) []) (re (str H7) []))))))
def wM:Ca->Tr (Ca⊕aw)
 | .h13 u h z=>
  let C:=(↑(Io z.1.2.2):Int)
  let o:=Γ Δ (h+1)
  let D:=Qg (o.toNat-h.toNat) (Qh h.toNat z.1.2.2)
  let B:=u++D
  br (Q0 (h<C))
  (Qc (Q0 (0<=h)&&Q0 (h<=o)&&Q0 (o<=C))
   (Qc (Q0 (Io u+Io D<=1099511627776)) (Qc (zJ h (Io z.1.2.2)) (br ((↑(getD z.1.2.2 h.toNat 0).toNat:Int)==39) (Qc (Q0 (Io B+[39].length<=1099511627776)) (Q9 (Ca.h13 (B++[39]) o z))) (Q9 (Ca.h13 B o z))))))
  (Qc (Q0 (Io u+[39].length<=1099511627776)) (re (str (u++[39])) []))
def BA(h:Sem ze):=al [Q6] wM 100000000 (Aq h)
def kC(h:Sem ze):=(BA h).isSome
def oG(h:Sem ze):=o1 (BA h)
def zcn:=FT [ze] [Q6] λx=>BA x.1
theorem Y6:FK 138 zcn:=C1.T1 (f:=Tryz.f138) (keep:=zhP) (e:=zmk)
def Ip:=UW.add 138 zcn
theorem C4:zw Ip:=C1.add Y6
def Ii(g:Sem Q5->Sem Q6)(c:Sem Q5->Bool):bZ:=Ip.add 139 (zT [Q5] [Q6] (λx=>c x.1) λx=>(g x.1,()))
theorem NF{g:Sem Q5->Sem Q6}{c:Sem Q5->Bool}(h:FK 139 (zT [Q5] [Q6] (λx=>c x.1) λx=>(g x.1,()))):zw (Ii g c):=C4.add h
abbrev We:Nat->aN:=λ_=>{ }
theorem zie(g:Sem Q5->Sem Q6)(c:Sem Q5->Bool):zO (Ii g c).P 139 Tryz.f139 1:=bU kw
def pg(g:Sem Q5->Sem Q6)(c:Sem Q5->Bool)(h:Sem Q5):Tr (Empty⊕aw):=
 let z:=zJ 0 (zf.l h).length
 let T:=zm ((zf.l h).getD (toNat 0) (zi Q5))
 let J:=c T
 let L:=g T
 let U:=uO++L
 let M:=Q0 ([40].length+Io L<=1099511627776)
 let u:=[40]++L
 let O:=zJ 1 (zf.l h).length
 let W:=zm ((zf.l h).getD (toNat 1) (zi Q5))
 let S:=c W
 let B:=u++Nt
 let o:=g W
 let C:=B++o
 let D:=u++Nu
 let E:=D++o
 let F:=u++[32]
 let G:=F++zf.op h
 let H:=G++[32]
 let I:=H++o
 br (zf.op h==kH) (Qc (kC (zf.v h)) (re (str (oG (zf.v h))) []))
 (br (zf.op h==cX) (re (str (zf.s h)) [])
  (br (zf.op h==mS) (Qc z (Qc J (Qc (Q0 (Io uO+Io L<=1099511627776)) (Qc (Q0 (Io U+[41].length<=1099511627776)) (re (str (U++[41])) []))))) (br (zf.op h==pb) (Qc z (Qc J (Qc M
  (Qc (Q0 (Io u+Io Cw<=1099511627776)) (re (str (u++Cw)) []))))) (br (zf.op h==em) (Qc z (Qc J (Qc M (Qc (Q0 (Io u+Io Nt<=1099511627776)) (Qc O (Qc S
  (Qc (Q0 (Io B+Io o<=1099511627776)) (Qc (Q0 (Io C+[41].length<=1099511627776)) (re (str (C++[41])) []))))))))) (br (zf.op h==uQ) (Qc z (Qc J (Qc M (Qc (Q0 (Io u+Io Nu<=1099511627776)) (Qc O (Qc S
  (Qc (Q0 (Io D+Io o<=1099511627776)) (Qc (Q0 (Io E+[41].length<=1099511627776)) (re (str (E++[41])) []))))))))) (Qc z (Qc J (Qc M (Qc (Q0 (Io u+[32].length<=1099511627776)) (Qc (Q0 (Io F+Io (zf.op h)<=1099511627776))
  (Qc (Q0 (Io G+[32].length<=1099511627776)) (Qc O (Qc S (Qc (Q0 (Io H+Io o<=1099511627776)) (Qc (Q0 (Io I+[41].length<=1099511627776)) (re (str (I++[41])) []))))))))))))))))
theorem zhd(g:Sem Q5->Sem Q6)(c:Sem Q5->Bool)(h:Sem Q5):rn (Ii g c) 0 We Tryz.f139 [zC Q5 h] []=(pg g c h).map (lf Tryz.f139 e0):=kw
def iI(o:Option (zz (Qi Q1 [Q6]))):Sem Q6:=(λr:zz (Qi Q1 [Q6])=>r.1) (o.getD (bQ [Q6]))
def QK(g:Sem Q5->Sem Q6)(c:Sem Q5->Bool)(h:Sem Q5):Option (zz (Qi Q1 [Q6])):=al [Q6] t0 100000000 (pg g c h)
def cN:Nat->Sem Q5->Option (zz (Qi Q1 [Q6]))
 |0=>λ_=>none
 |n+1=>QK (λh=>iI (cN n h)) λh=>(cN n h).isSome
theorem V0:zO Ip.P 139 Tryz.f139 1:=bU kw
theorem Kj:∀n,FK 139 (zT [Q5] [Q6] (λx=>(cN n x.1).isSome) λx=>(iI (cN n x.1),()))
 |0=>eY ⟨Tryz.f139,V0.1,V0.2.1,V0.2.2.1⟩ (λ_=>rfl)
 |n+1=>kY (E:=Ii (λh=>iI (cN n h)) (λh=>(cN n h).isSome)) (ks:=[Q5]) (outs:=[Q6]) (keep:=We) (gas:=400) (n:=100000000) (e:=e0) (t:=t0) (i:=λx=>pg (λh=>iI (cN n h)) (λh=>(cN n h).isSome) x.1) (NF (Kj n)) (zie _ _) (λx=>zhd _ _ x.1) (Xa _ _ _ _ _) (λ_=>by kernel_rfl) (λ_=>by kernel_rfl)
def Jd(h:Sem Q5):Option (zz (Qi Q1 [Q6])):=cN 16 h
def rU(h:Sem Q5):Bool:=(Jd h).isSome
def qD(h:Sem Q5):Sem Q6:=iI (Jd h)
def zco:zZ:=zT [Q5] [Q6] (λx=>rU x.1) λx=>(qD x.1,())
theorem Y7:FK 139 zco:=Kj 16
def NM:=Ip.add 139 zco
theorem nZ:zw NM:=C4.add Y7
def zm9(h:Sem zp.sl)(o:Sem zg)(E:Sem Q6):Tr (Empty⊕aw):=
 let z:=Q0 (o<(↑(Io h):Int))
 let u:=getD h (toNat o) (zi zp)
 let B:=u.1==1
 let C:=u.1==4
 let D:=u.2==E
 Qc
 (bif z then zJ o (Io h)&&bif B then zJ o (Io h)else zJ o (Io h)&&bif C then zJ o (Io h)else Q3
 else Q3)
 (re (AV.bool (cond z (cond B D (cond C D Q4)) Q4)) [])
def XR(h:Sem zp.sl)(o:Sem zg)(u:Sem Q6):=al [Q7] t0 100000000 (zm9 h o u)
def mr(h:Sem zp.sl)(o:Sem zg)(u:Sem Q6):=(XR h o u).isSome
def ws(h:Sem zp.sl)(o:Sem zg)(u:Sem Q6):=o1 (XR h o u)
def zcT:=FT [zp.sl,zg,Q6] [Q7] λx=>XR x.1 x.2.1 x.2.2.1
theorem ZA:FK 227 zcT:=nZ.T1 (f:=Tryz.f227) (keep:=k0) (e:=e0)
abbrev zhZ:=kR [(3,[0,2,4,5]),(10,[0,2,6,7]),(18,[0,2,6,8])]
inductive o5 where
 |h3 (s0:Sem Q6) (l4:List (Sem ze)) (i5:Int) (z0:zl [CP.d ze])
 |h10 (s0:Sem Q6) (i7:Int) (z0:zl [CP.d ze]) (z1:zl [CP.d ze])
 |h18 (s0:Sem Q6) (i8:Int) (z0:zl [CP.d ze]) (z1:zl [CP.d ze])
abbrev zms:o5->Nat×St
 |.h3 h D u z=>(3,⟨tm 145 [(0,str h),(2,Qf 0 0),(4,sl ze D),(5,ai u)],[Qa (bb [] [CP.d ze] z)]⟩)
 |.h10 h B z o=>(10,⟨tm 145 [(0,str h),(2,Qf 0 0),(6,Qf 1 0),(7,ai B)],[Qa (bb [] [CP.d ze] z),Qa (bb [] [CP.d ze] o)]⟩)
 |.h18 h C z o=>(18,⟨tm 145 [(0,str h),(2,Qf 0 0),(6,Qf 1 0),(8,ai C)],[Qa (bb [] [CP.d ze] z),Qa (bb [] [CP.d ze] o)]⟩)
def znb(h:Sem Q6):Tr (o5⊕aw):=
 Q9 (o5.h3 h [(0,0,[]),(3,0,[]),(3,1,[])] 0 ((0,0,[]),()))
def zpS:o5->Tr (o5⊕aw)
 | .h3 h H G D=>
  let u:=H.getD G.toNat (zi ze)
  let o:=Q0 ((↑(Io h):Int)>=2)
  let E:=(↑(getD h (toNat 0) 0).toNat:Int)==39
  let B:=Γ Δ ((↑(Io h):Int)-1)
  br (Q0 (G<(↑H.length:Int)))
  (Qc (zJ G (Io H)) (Qc (kC u) (br (oG u==h) (Qc (zJ G (Io H)) (re (Qe [Qd [ai u.1,ai u.2.1,str u.2.2],kb Q3]) [])) (Q9 (o5.h3 h H (Γ Δ (G+1)) D)))))
  (Qc (cond o (zJ 0 (Io h)&&bif E then zJ B (Io h)else Q3) Q3) (br (cond o (cond E ((↑(getD h B.toNat 0).toNat:Int)==39) Q4) Q4) (Q9 (o5.h10 h 1 D ((2,0,[]),()))) (Q9 (o5.h18 h 0 D ((1,0,[]),())))))
 | .h10 h F D z=>
  let u:=Γ Δ ((↑(Io h):Int)-1)
  let o:=Γ Δ (F+1)
  let E:=Qg (o.toNat-F.toNat) (Qh F.toNat h)
  let B:=((z.1.1,z.1.2.1,z.1.2.2++E),())
  br (Q0 (F<u))
  (Qc (Q0 (0<=F)&&Q0 (F<=o)&&Q0 (o<=(↑(Io h):Int))) (Qc (Q0 (Io z.1.2.2+Io E<=1099511627776)) (Qc (zJ F (Io h)) (br ((↑(getD h F.toNat 0).toNat:Int)==39) (Q9 (o5.h10 h (Γ Δ (o+1)) D B)) (Q9 (o5.h10 h o D B))))))
  (Qc (kC z.1) (re (Qe [Qd [ai z.1.1,ai z.1.2.1,str z.1.2.2],AV.bool (oG z.1==h)]) []))
 | .h18 h C D z=>
  let u:=zJ 0 (Io h)
  let o:=(↑(getD h (toNat 0) 0).toNat:Int)
  let E:=Γ Δ (C+1)
  let B:=(↑(getD h C.toNat 0).toNat:Int)
  let I:=Q0 (B<48)
  let J:=Q0 (B>57)
  let L:=Q0 (z.1.2.1< -922337203685477580)
  let M:=z.1.2.1==-922337203685477580
  let O:=Γ Δ (0-z.1.2.1)
  let S:=(z.1.1,O,z.1.2.2)
  br (Q0 (C<(↑(Io h):Int)))
  (Qc (cond (C==0) u Q3) (br (cond (C==0) (o==45) Q4) (Q9 (o5.h18 h E D z)) (Qc (zJ C (Io h)&&bif I then Q3 else zJ C (Io h)&&bif J then Q3 else bif L then Q3 else bif M then zJ C (Io h)else Q3)
  (br (cond I Q3 (cond J Q3 (cond L Q3 (cond M (Q0 (B>56)) Q4)))) (re (Qe [Qd [ai 0,ai 0,str []],kb Q4]) []) (Qc (zJ C (Io h)) (Q9 (o5.h18 h E D ((z.1.1,Γ Δ (Γ Δ (Γ Δ (10*z.1.2.1)-Γ Δ B)+48),z.1.2.2),()))))))))
  (Qc (cond (h==[]) Q3 u) (br (cond (h==[]) Q3 (o !=45)) (br (z.1.2.1==-9223372036854775808) (re (Qe [Qd [ai 0,ai 0,str []],kb Q4]) []) (Qc (kC S) (re (Qe [Qd [ai z.1.1,ai O,str z.1.2.2],AV.bool (oG S==h)]) []))) (Qc (kC z.1)
  (re (Qe [Qd [ai z.1.1,ai z.1.2.1,str z.1.2.2],AV.bool (oG z.1==h)]) []))))
def D9(h:Sem Q6):=al [ze,Q7] zpS 100000000 (znb h)
def Mm(h:Sem Q6):=(D9 h).isSome
def vZ(h:Sem Q6):=o2 (D9 h)
def zcV:=FT [Q6] [ze,Q7] λx=>D9 x.1
theorem ZC:FK 266 zcV:=nZ.T1 (f:=Tryz.f266) (keep:=zhZ) (e:=zms)
def zdC:=NM.addL [(227,zcT),(266,zcV)]
theorem GU:zw zdC:=nZ.addL<|fc ZA<|fc ZC<|iz
abbrev zhY:=kR [(1,[0,1,4])]
inductive FY where
 |h1 (s0:Sem Q6) (s1:Sem Q6) (z0:zl [CP.d ze])
abbrev zmr:FY->Nat×St
 |.h1 h o z=>(1,⟨tm 25 [(0,str h),(1,str o),(4,Qf 0 0)],[Qa (bb [] [CP.d ze] z)]⟩)
def zna(h:Sem Q6)(o:Sem Q6):Tr (FY⊕aw):=
 Q9 (FY.h1 h o ((0,0,[]),()))
def zpR:FY->Tr (FY⊕aw)
 | .h1 o h z=>
  let u:=Q0 ((↑(Io h):Int)>0)
  Qc (cond u (zJ 0 (Io h)) Q3)
  (br (cond u ((↑(getD h (toNat 0) 0).toNat:Int)==48) Q4) (Qc (Q0 (0<=1)&&Q0 (1<=(↑(Io h):Int))&&Q0 ((↑(Io h):Int)<=(↑(Io h):Int))) (Q9 (FY.h1 o (Qg ((↑(Io h):Int).toNat-toNat 1) (Qh (toNat 1) h)) z)))
  (br (h==[]) (re (Qe [Qd [ai 1,ai 0,str []],kb Q3]) []) (Qc (Q0 (Io o+Io h<=1099511627776)) (Qc (Mm (o++h)) (re (Qe [Qd [ai (vZ (o++h)).1.1,ai (vZ (o++h)).1.2.1,str (vZ (o++h)).1.2.2],AV.bool (vZ (o++h)).2]) [])))))
def ON(h:Sem Q6)(o:Sem Q6):=al [ze,Q7] zpR 100000000 (zna h o)
def XS(h:Sem Q6)(o:Sem Q6):=(ON h o).isSome
def zel(h:Sem Q6)(o:Sem Q6):=o2 (ON h o)
def zcU:=FT [Q6,Q6] [ze,Q7] λx=>ON x.1 x.2.1
theorem ZB:FK 265 zcU:=GU.T1 (f:=Tryz.f265) (keep:=zhY) (e:=zmr)
def zdD:=zdC.add 265 zcU
theorem GV:zw zdD:=GU.add ZB
def zm8(h:Sem zp.sl)(o:Sem zg):Tr (Empty⊕aw):=
 let z:=Γ Δ (o+1)
 let F:=Q0 (z>=(↑(Io h):Int))
 let G:=zJ z (Io h)
 let D:=getD h z.toNat (zi zp)
 let B:=zel [45] D.2
 let u:=getD h (toNat o) (zi zp)
 let C:=zel [] u.2
 let H:=ws h o H8
 let I:=ws h o H7
 let E:=vZ u.2
 br (Q0 (o>=(↑(Io h):Int)))
 (re (Qe [Qd [str [],ai 0,ai 0,str [],str [],Qb],ai (-1)]) [])
 (Qc (zJ o (Io h))
  (Qc (mr h o [45]) (br (ws h o [45]) (Qc (cond F Q3 G) (br (cond F Q3 (D.1!=2)) (re (Qe [Qd [str [],ai 0,ai 0,str [],str [],Qb],ai (-1)]) []) (Qc G (Qc (XS [45] D.2) (br (!B.2)
  (re (Qe [Qd [str [],ai 0,ai 0,str [],str [],Qb],ai (-1)]) []) (re (Qe [Qd [str kH,ai B.1.1,ai B.1.2.1,str B.1.2.2,str [],Qb],ai (Γ Δ (o+2))]) [])))))) (br (u.1==2) (Qc (XS [] u.2) (br (!C.2)
  (re (Qe [Qd [str [],ai 0,ai 0,str [],str [],Qb],ai (-1)]) []) (re (Qe [Qd [str kH,ai C.1.1,ai C.1.2.1,str C.1.2.2,str [],Qb],ai z]) []))) (br (u.1==3) (re
  (Qe [Qd [str kH,ai 2,ai 0,str u.2,str [],Qb],ai z]) []) (Qc (mr h o [40]) (br (ws h o [40]) Tr.err (Qc (mr h o H8&&bif H then Q3 else mr h o H7&&bif I then Q3 else mr h o Fv)
  (br (cond H Q3 (cond I Q3 (ws h o Fv))) (Qc (Mm u.2) (re (Qe [Qd [str kH,ai E.1.1,ai E.1.2.1,str E.1.2.2,str [],Qb],ai z]) [])) (br (u.1==1) (re (Qe [Qd [str cX,ai 0,ai 0,str [],str u.2,Qb],
  ai z]) []) (re (Qe [Qd [str [],ai 0,ai 0,str [],str [],Qb],ai (-1)]) [])))))))))))
def Jw(h:Sem zp.sl)(o:Sem zg):=al [Q5,zg] t0 100000000 (zm8 h o)
def zbs(h:Sem zp.sl)(o:Sem zg):=(Jw h o).isSome
def ux(h:Sem zp.sl)(o:Sem zg):=o2 (Jw h o)
def zcS:=FT [zp.sl,zg] [Q5,zg] λx=>Jw x.1 x.2.1
theorem Zz:FK 226 zcS:=GV.T1 (f:=Tryz.f226) (keep:=k0) (e:=e0)
def PP:=zdD.add 226 zcS
theorem GW:zw PP:=GV.add Zz
def CS(g:Sem zp.sl->Sem zg->Sem zg->Sem Q5×Sem zg)(c:Sem zp.sl->Sem zg->Sem zg->Bool):bZ:=PP.add 180 (zT [zp.sl,zg,zg] [Q5,zg] (λx=>c x.1 x.2.1 x.2.2.1) λx=>((g x.1 x.2.1 x.2.2.1).1,(g x.1 x.2.1 x.2.2.1).2,()))
theorem NI{g:Sem zp.sl->Sem zg->Sem zg->Sem Q5×Sem zg}{c:Sem zp.sl->Sem zg->Sem zg->Bool}(h:FK 180 (zT [zp.sl,zg,zg] [Q5,zg] (λx=>c x.1 x.2.1 x.2.2.1) λx=>((g x.1 x.2.1 x.2.2.1).1,(g x.1 x.2.1 x.2.2.1).2,()))):zw (CS g c):=GW.add h
abbrev Og:=kR [(22,[0,2,6,15,16])]
inductive mK where
 |h22 (l0:List (Sem zp)) (i2:Sem zg) (i16:Sem zg) (z1:zl [CP.d Q5]) (ja0:List UInt8) (ja1:Int) (ja2:Int) (ja3:List UInt8) (ja4:List UInt8)
abbrev KV:mK->Nat×St
 |.h22 E D h F o u z B C=>(22,⟨tm 157 [(0,sl zp E),(2,ai D),(6,Qf 0 0),(15,Qf 1 0),(16,ai h)],[Qa [str o,ai u,ai z,str B,str C,Qb],Qa (bb [] [CP.d Q5] F)]⟩)
theorem zih(g:Sem zp.sl->Sem zg->Sem zg->Sem Q5×Sem zg)(c:Sem zp.sl->Sem zg->Sem zg->Bool):zO (CS g c).P 180 Tryz.f180 3:=bU kw
def VL(g:Sem zp.sl->Sem zg->Sem zg->Sem Q5×Sem zg)(c:Sem zp.sl->Sem zg->Sem zg->Bool)(h:Sem zp.sl)(u:Sem zg)(B:Sem zg):Tr (mK⊕aw):=
 let C:=Γ Δ (u+1)
 let D:=g h C 2
 let o:=g h u 3
 let E:=ws h o.2 [61]
 let z:=Γ Δ (o.2+1)
 let J:=getD h (toNat o.2) (zi zp)
 let F:=zm o.1
 let G:=g h z 3
 let H:=Γ Δ (B+1)
 let I:=g h u H
 br (Q0 (u<0))
 (re (Qe [Qd [str [],ai 0,ai 0,str [],str [],Qb],ai (-1)]) [])
 (br (B==4)
  (Qc (zbs h u) (re (Qe [Qd [str (zf.op (ux h u).1),ai (zf.v (ux h u).1).1,ai (zf.v (ux h u).1).2.1,str (zf.v (ux h u).1).2.2,str (zf.s (ux h u).1),sl Q5 (zf.l (ux h u).1)],ai (ux h u).2]) []))
  (br (B==2) (Qc (mr h u [78,79,84]) (br (ws h u [78,79,84]) (Qc (c h C 2) (re (Qe [Qd [str mS,ai 0,ai 0,str [],str [],sl Q5 [zm D.1]],ai D.2]) [])) (Qc (c h u 3) (br (Q0 (o.2<0))
  (re (Qe [Qd [str [],ai 0,ai 0,str [],str [],Qb],ai (-1)]) []) (Qc (mr h o.2 [61]&&bif E then Q3 else mr h o.2 [60]) (br (cond E Q3 (ws h o.2 [60])) (Qc (zJ o.2 (Io h)) (Qc (c h z 3) (re (Qe
  [Qd [str J.2,ai 0,ai 0,str [],str [],sl Q5 [F,zm G.1]],ai G.2]) []))) (Qc (mr h o.2 [73,83]) (br (ws h o.2 [73,83]) (Qc (mr h z Fv) (br (!ws h z Fv) (re (Qe [Qd [str [],ai 0,ai 0,str [],str [],Qb],ai (-1)]) [])
  (re (Qe [Qd [str pb,ai 0,ai 0,str [],str [],sl Q5 [F]],ai (Γ Δ (o.2+2))]) []))) (re (Qe [Qd [str (zf.op o.1),ai (zf.v o.1).1,ai (zf.v o.1).2.1,str (zf.v o.1).2.2,str (zf.s o.1),sl Q5 (zf.l o.1)],ai o.2])
  []))))))))) (Qc (c h u H) (Q9 (mK.h22 h B I.2 (I.1,()) [] 0 0 [] [])))))
theorem zhi(g:Sem zp.sl->Sem zg->Sem zg->Sem Q5×Sem zg)(c:Sem zp.sl->Sem zg->Sem zg->Bool)(h:Sem zp.sl)(o:Sem zg)(u:Sem zg):rn (CS g c) 0 Og Tryz.f180 [zC zp.sl h,zC zg o,zC zg u] []=(VL g c h o u).map (lf Tryz.f180 KV):=kw
def Yf(g:Sem zp.sl->Sem zg->Sem zg->Sem Q5×Sem zg)(c:Sem zp.sl->Sem zg->Sem zg->Bool):mK->Tr (mK⊕aw)
 | .h22 o G h z B C D E F=>
  let O:=bif G==1 then mr o h Uh else Q3
  let S:=bif G==1 then ws o h Uh else Q4
  let T:=ws o h [43]
  let L:=bif G==3 then mr o h [43]&&bif T then Q3 else mr o h [45]else Q3
  let M:=bif G==3 then bif T then Q3 else ws o h [45]else Q4
  let I:=o.getD (toNat h) (zi zp)
  let U:=Γ Δ (h+1)
  let W:=Γ Δ (G+1)
  let J:=c o U W
  let H:=g o U W
  let u:=[zm z.1,zm H.1]
  br (Q0 (h>=0))
  (Qc (cond (G==0) (mr o h [79,82]) Q3) (br (cond (G==0) (ws o h [79,82]) Q4) (Qc O (br S (Qc L (br M (Qc (zJ h (Io o)) (br (I.2==[]) (re (Qe [Qd [str (zf.op z.1),ai (zf.v z.1).1,ai (zf.v z.1).2.1,
  str (zf.v z.1).2.2,str (zf.s z.1),sl Q5 (zf.l z.1)],ai h]) []) (Qc J (Q9 (mK.h22 o G H.2 (zf.mk I.2 (0,0,[]) [] u,()) B C D E F))))) (br Q4 (re (Qe [Qd [str (zf.op z.1),ai (zf.v z.1).1,ai (zf.v z.1).2.1,
  str (zf.v z.1).2.2,str (zf.s z.1),sl Q5 (zf.l z.1)],ai h]) []) (Qc J (Q9 (mK.h22 o G H.2 (zf.mk em (0,0,[]) [] u,()) B C D E F)))))) (Qc L (br M (Qc (zJ h (Io o)) (br (I.2==[]) (re (Qe [Qd
  [str (zf.op z.1),ai (zf.v z.1).1,ai (zf.v z.1).2.1,str (zf.v z.1).2.2,str (zf.s z.1),sl Q5 (zf.l z.1)],ai h]) []) (Qc J (Q9 (mK.h22 o G H.2 (zf.mk I.2 (0,0,[]) [] u,()) B C D E F))))) (br Q4 (re (Qe [Qd
  [str (zf.op z.1),ai (zf.v z.1).1,ai (zf.v z.1).2.1,str (zf.v z.1).2.2,str (zf.s z.1),sl Q5 (zf.l z.1)],ai h]) []) (Qc J (Q9 (mK.h22 o G H.2 (zf.mk uQ (0,0,[]) [] u,()) B C D E F)))))))) (Qc O (br S (Qc L (br M (Qc (zJ h (Io o))
  (br (I.2==[]) (re (Qe [Qd [str (zf.op z.1),ai (zf.v z.1).1,ai (zf.v z.1).2.1,str (zf.v z.1).2.2,str (zf.s z.1),sl Q5 (zf.l z.1)],ai h]) []) (Qc J (Q9 (mK.h22 o G H.2 (zf.mk I.2 (0,0,[]) [] u,()) B C D E F))))) (br Q4 (re (Qe [Qd
  [str (zf.op z.1),ai (zf.v z.1).1,ai (zf.v z.1).2.1,str (zf.v z.1).2.2,str (zf.s z.1),sl Q5 (zf.l z.1)],ai h]) []) (Qc J (Q9 (mK.h22 o G H.2 (zf.mk em (0,0,[]) [] u,()) B C D E F)))))) (Qc L (br M (Qc (zJ h (Io o)) (br (I.2==[]) (re
  (Qe [Qd [str (zf.op z.1),ai (zf.v z.1).1,ai (zf.v z.1).2.1,str (zf.v z.1).2.2,str (zf.s z.1),sl Q5 (zf.l z.1)],ai h]) []) (Qc J (Q9 (mK.h22 o G H.2 (zf.mk I.2 (0,0,[]) [] u,()) B C D E F))))) (br Q3 (re (Qe [Qd
  [str (zf.op z.1),ai (zf.v z.1).1,ai (zf.v z.1).2.1,str (zf.v z.1).2.2,str (zf.s z.1),sl Q5 (zf.l z.1)],ai h]) []) (Qc J (Q9 (mK.h22 o G H.2 (zf.mk [] (0,0,[]) [] u,()) B C D E F))))))))))
  (re (Qe [Qd [str (zf.op z.1),ai (zf.v z.1).1,ai (zf.v z.1).2.1,str (zf.v z.1).2.2,str (zf.s z.1),sl Q5 (zf.l z.1)],ai h]) [])
theorem zio(g:Sem zp.sl->Sem zg->Sem zg->Sem Q5×Sem zg)(c:Sem zp.sl->Sem zg->Sem zg->Bool):∀s,run (CS g c) 0 Og (Func.results Tryz.f180).toList 400 (aj Tryz.f180 (KV s).1) (KV s).2=(Yf g c s).map (lf Tryz.f180 KV):=by intro s;cases s<;>kernel_rfl
def lI(o:Option (zz (Qi Q1 [Q5,zg]))):Sem Q5×Sem zg:=(λr:zz (Qi Q1 [Q5,zg])=>(r.1,r.2.1)) (o.getD (bQ [Q5,zg]))
def XT(g:Sem zp.sl->Sem zg->Sem zg->Sem Q5×Sem zg)(c:Sem zp.sl->Sem zg->Sem zg->Bool)(h:Sem zp.sl)(o:Sem zg)(u:Sem zg):Option (zz (Qi Q1 [Q5,zg])):=al [Q5,zg] (Yf g c) 100000000 (VL g c h o u)
def fa:Nat->Sem zp.sl->Sem zg->Sem zg->Option (zz (Qi Q1 [Q5,zg]))
 |0=>λ_ _ _=>none
 |n+1=>XT (λh o u=>lI (fa n h o u)) λh o u=>(fa n h o u).isSome
theorem V4:zO PP.P 180 Tryz.f180 3:=bU kw
theorem Km:∀n,FK 180 (zT [zp.sl,zg,zg] [Q5,zg] (λx=>(fa n x.1 x.2.1 x.2.2.1).isSome) λx=>((lI (fa n x.1 x.2.1 x.2.2.1)).1,(lI (fa n x.1 x.2.1 x.2.2.1)).2,()))
 |0=>eY ⟨Tryz.f180,V4.1,V4.2.1,V4.2.2.1⟩ (λ_=>rfl)
 |n+1=>kY (E:=CS (λh o u=>lI (fa n h o u)) (λh o u=>(fa n h o u).isSome)) (ks:=[zp.sl,zg,zg]) (outs:=[Q5,zg]) (keep:=Og) (gas:=400) (n:=100000000) (e:=KV) (t:=Yf (λh o u=>lI (fa n h o u)) (λh o u=>(fa n h o u).isSome)) (i:=λx=>VL (λh o u=>lI (fa n h o u)) (λh o u=>(fa n h o u).isSome) x.1 x.2.1 x.2.2.1) (NI (Km n)) (zih _ _) (λx=>zhi _ _ x.1 x.2.1 x.2.2.1) (zio _ _) (λ_=>by kernel_rfl) (λ_=>by kernel_rfl)
def MF(h:Sem zp.sl)(o:Sem zg)(u:Sem zg):Option (zz (Qi Q1 [Q5,zg])):=fa 16 h o u
def ME(h:Sem zp.sl)(o:Sem zg)(u:Sem zg):Bool:=(MF h o u).isSome
def Jz(h:Sem zp.sl)(o:Sem zg)(u:Sem zg):Sem Q5×Sem zg:=lI (MF h o u)
def zcM:zZ:=zT [zp.sl,zg,zg] [Q5,zg] (λx=>ME x.1 x.2.1 x.2.2.1) λx=>((Jz x.1 x.2.1 x.2.2.1).1,(Jz x.1 x.2.1 x.2.2.1).2,())
theorem Zu:FK 180 zcM:=Km 16
def zdE:=PP.add 180 zcM
theorem GX:zw zdE:=GW.add Zu
def zm3(z:Sem zp.sl):Tr (Empty⊕aw):=
 let h:=Jz z 0 0
 let o:=Q0 (h.2<0)
 let u:=zm h.1
 Qc (ME z 0 0)
 (Qc (cond o Q3 (ut u))
  (br (cond o Q3 (!Ed u)) (re (Qe [Qd [str [],ai 0,ai 0,str [],str [],Qb],ai 0,kb Q4]) []) (re (Qe [Qd [str (zf.op h.1),ai (zf.v h.1).1,ai (zf.v h.1).2.1,str (zf.v h.1).2.2,str (zf.s h.1),sl Q5 (zf.l h.1)],ai h.2,kb Q3])
  [])))
def Ev(h:Sem zp.sl):=al [Q5,zg,Q7] t0 100000000 (zm3 h)
def XQ(h:Sem zp.sl):=(Ev h).isSome
def zbr(h:Sem zp.sl):=o3 (Ev h)
def zcD:=FT [zp.sl] [Q5,zg,Q7] λx=>Ev x.1
theorem Zm:FK 146 zcD:=GX.T1 (f:=Tryz.f146) (keep:=k0) (e:=e0)
def PQ:=zdE.add 146 zcD
theorem GY:zw PQ:=GX.add Zm
abbrev zea:=kR []
theorem zpk:zO PQ.P 97 Tryz.f97 1:=bU kw
def zhD(y:zl aC):Tr (Empty⊕aw):=
 let o:=Qg ((↑(Io y.1):Int).toNat-toNat y.2.1) (Qh (toNat y.2.1) y.1)
 let h:=zbr o
 let u:=Γ Δ (y.2.1+h.2.1)
 Qc (Q0 (0<=y.2.1)&&Q0 (y.2.1<=(↑(Io y.1):Int))&&Q0 ((↑(Io y.1):Int)<=(↑(Io y.1):Int)))
 (Qc (XQ o)
  (br (!h.2.2) (re (Qd [str (zf.op h.1),ai (zf.v h.1).1,ai (zf.v h.1).2.1,str (zf.v h.1).2.2,str (zf.s h.1),sl Q5 (zf.l h.1)]) [Qa [sl zp y.1,ai u,kb Q4]]) (re (Qd [str (zf.op h.1),ai (zf.v h.1).1,ai (zf.v h.1).2.1,str (zf.v h.1).2.2,
  str (zf.s h.1),sl Q5 (zf.l h.1)]) (ay aC (y.1,u,y.2.2)))))
theorem zmY(y:zl aC):rn PQ 1 zea Tryz.f97 [Qf 0 0] (ay aC y)=(zhD y).map (lf Tryz.f97 e0):=kw
def QQ(y:zl aC):Option (zz (Qi Q1 [Q5])×zl aC):=kB [Q5] aC t0 100000000 (zhD y)
def JF(y:zl aC):Bool:=(QQ y).isSome
def JE(y:zl aC):(Sem Q5)×zl aC:=(λr:zz (Qi Q1 [Q5])×zl aC=>(r.1.1,r.2)) ((QQ y).getD (bQ [Q5],fK aC))
def zkK:zZ:=sE aC [] [Q5] aC (λy _=>JF y) λy _=>(((JE y).1,()),(JE y).2)
theorem zgo:FK 97 zkK:=ka (ps:=aC) (ks:=[]) (outs:=[Q5]) (keep:=zea) (gas:=400) (n:=100000000) (e:=e0) (t:=t0) (i:=λy x=>zhD y) GY zpk (λy x=>zmY y) (Xa _ _ _ _ _) (λ_ _=>by kernel_rfl) (λ_ _=>by kernel_rfl)
def Vj:=PQ.add 97 zkK
theorem xS:zw Vj:=GY.add zgo
abbrev zhT:=kR [(6,[1,3])]
inductive FW where
 |h6 (i3:Int) (z0:zl [CP.d zp])
abbrev zmo:FW->Nat×St
 |.h6 h z=>(6,⟨tm 82 [(1,Qf 0 0),(3,ai h)],[Qa (bb [] [CP.d zp] z)]⟩)
def Ly(h:Sem zp):Tr (FW⊕aw):=
 let o:=(2,0,h.2)
 br (h.1==1) (Qc (wm h.2) (re (AV.bool (uw h.2)) []))
 (br (h.1==2) (Q9 (FW.h6 0 (h,())))
  (br (h.1==3) (Qc (mC o) (re (AV.bool (tj o)) [])) (br (h.1==4) (re (AV.bool (cond (h.2==[40]) Q3 (cond (h.2==[41]) Q3 (cond (h.2==[44]) Q3 (cond (h.2==[61]) Q3 (cond (h.2==[60]) Q3 (cond (h.2==[43]) Q3 (cond (h.2==[45]) Q3 (h.2==[42]))))))))) []) (re (kb Q4) []))))
def wO:FW->Tr (FW⊕aw)
 | .h6 h z=>
  let o:=(↑(Io z.1.2):Int)
  let u:=(↑(getD z.1.2 h.toNat 0).toNat:Int)
  br (Q0 (h<o))
  (Qc (zJ h (Io z.1.2))
   (Qc (fP u) (br (!gQ u) (re (kb Q4) []) (Q9 (FW.h6 (Γ Δ (h+1)) z)))))
  (re (AV.bool (cond (Q0 (1<=o)) (Q0 (o<=19)) Q4)) [])
def Ju(h:Sem zp):=al [Q7] wO 100000000 (Ly h)
def iL(h:Sem zp):=(Ju h).isSome
def mo(h:Sem zp):=o1 (Ju h)
def zcv:=FT [zp] [Q7] λx=>Ju x.1
theorem Ze:FK 144 zcv:=xS.T1 (f:=Tryz.f144) (keep:=zhT) (e:=zmo)
abbrev V9:=kR []
theorem zib:zO Vj.P 98 Tryz.f98 2:=bU kw
def VF(y:zl aC)(C:TS):Tr (Empty⊕aw):=
 let D:=(y.1,y.2.1,y.2.2.1,())
 let u:=fw D C
 let z:=(u.2.1,u.2.2.1,u.2.2.2.1,())
 let o:=JE z
 let B:=bI z [40]
 let E:=(B.1,B.2.1,B.2.2.1,())
 let h:=JE E
 let F:=(h.2.1,h.2.2.1,h.2.2.2.1,())
 Qc (eb D C)
 (br (!u.1) (re (Qd [str [],ai 0,ai 0,str [],str [],Qb]) (ay aC u.2))
  (br (C==gE) (Qc (JF z) (re (Qd [str (zf.op o.1),ai (zf.v o.1).1,ai (zf.v o.1).2.1,str (zf.v o.1).2.2,str (zf.s o.1),sl Q5 (zf.l o.1)]) (ay aC o.2))) (Qc (aW z [40]) (Qc (JF E) (Qc (aW F [41]) (re (Qd
  [str (zf.op h.1),ai (zf.v h.1).1,ai (zf.v h.1).2.1,str (zf.v h.1).2.2,str (zf.s h.1),sl Q5 (zf.l h.1)]) (ay aC (bI F [41]))))))))
theorem zg7(y:zl aC)(h:TS):rn Vj 1 V9 Tryz.f98 [Qf 0 0,zC Q6 h] (ay aC y)=(VF y h).map (lf Tryz.f98 e0):=kw
def QP(y:zl aC)(h:TS):Option (zz (Qi Q1 [Q5])×zl aC):=kB [Q5] aC t0 100000000 (VF y h)
def dR(y:zl aC)(h:TS):Bool:=(QP y h).isSome
def eT(y:zl aC)(h:TS):(Sem Q5)×zl aC:=(λr:zz (Qi Q1 [Q5])×zl aC=>(r.1.1,r.2)) ((QP y h).getD (bQ [Q5],fK aC))
def zcb:zZ:=sE aC [Q6] [Q5] aC (λy x=>dR y x.1) λy x=>(((eT y x.1).1,()),(eT y x.1).2)
theorem YU:FK 98 zcb:=ka (ps:=aC) (ks:=[Q6]) (outs:=[Q5]) (keep:=V9) (gas:=400) (n:=100000000) (e:=e0) (t:=t0) (i:=λy x=>VF y x.1) xS zib (λy x=>zg7 y x.1) (Xa _ _ _ _ _) (λ_ _=>by kernel_rfl) (λ_ _=>by kernel_rfl)
def znp(h:TS):Tr (Empty⊕aw):=
 Qc (wm h&&bif uw h then Ew h else Q3) (re (AV.bool (cond (uw h) (!MA h) Q4)) [])
def wt(h:TS):=al [Q7] t0 100000000 (znp h)
def dQ(h:TS):=(wt h).isSome
def bv(h:TS):=o1 (wt h)
def zkz:=FT [Q6] [Q7] λx=>wt x.1
theorem zgc:FK 82 zkz:=xS.T1 (f:=Tryz.f82) (keep:=k0) (e:=e0)
def zdm:=NM.addL [(144,zcv),(98,zcb),(82,zkz)]
theorem rg:zw zdm:=nZ.addL<|fc Ze<|fc YU<|fc zgc iz
abbrev zoe:=kR [(3,[0,4,5]),(11,[0,4,5,6,7,8]),(15,[0,4,5,6,7,8]),(20,[0,4,5,8])]
inductive eA where
 |h3 (s0:TS) (i5:Int)
 |h11 (s0:TS) (i5:Int) (i6:Int) (i7:Int) (z0:zl [CP.d zp])
 |h15 (s0:TS) (i5:Int) (i6:Int) (i7:Int) (z0:zl [CP.d zp])
 |h20 (s0:TS) (i5:Int) (z0:zl [CP.d zp])
 |h3b (s0:TS) (i5:Int) (lh_0:LF)
 |h11b (s0:TS) (i5:Int) (i6:Int) (i7:Int) (z1:zl [CP.d zp]) (lh_0:LF)
 |h15b (s0:TS) (i5:Int) (i6:Int) (i7:Int) (z1:zl [CP.d zp]) (lh_0:LF)
 |h20b (s0:TS) (i5:Int) (z1:zl [CP.d zp]) (lh_0:LF)
abbrev zqY:eA->Nat×St
 |.h3 u o=>(3,⟨tm 131 [(0,str u),(4,Qb),(5,ai o)],[]⟩)
 |.h11 u o z B C=>(11,⟨tm 131 [(0,str u),(4,Qb),(5,ai o),(6,AV.int IntKind.u8 z),(7,ai B),(8,Qf 0 0)],[Qa (bb [] [CP.d zp] C)]⟩)
 |.h15 u o z B C=>(15,⟨tm 131 [(0,str u),(4,Qb),(5,ai o),(6,AV.int IntKind.u8 z),(7,ai B),(8,Qf 0 0)],[Qa (bb [] [CP.d zp] C)]⟩)
 |.h20 u o C=>(20,⟨tm 131 [(0,str u),(4,Qb),(5,ai o),(8,Qf 0 0)],[Qa (bb [] [CP.d zp] C)]⟩)
 |.h3b u o h=>(3,⟨tm 131 [(0,str u),(4,AV.vec 0),(5,ai o)],[AO.vec zp h]⟩)
 |.h11b u o z B D h=>(11,⟨tm 131 [(0,str u),(4,AV.vec 0),(5,ai o),(6,AV.int IntKind.u8 z),(7,ai B),(8,Qf 1 0)],[AO.vec zp h,Qa (bb [] [CP.d zp] D)]⟩)
 |.h15b u o z B D h=>(15,⟨tm 131 [(0,str u),(4,AV.vec 0),(5,ai o),(6,AV.int IntKind.u8 z),(7,ai B),(8,Qf 1 0)],[AO.vec zp h,Qa (bb [] [CP.d zp] D)]⟩)
 |.h20b u o D h=>(20,⟨tm 131 [(0,str u),(4,AV.vec 0),(5,ai o),(8,Qf 1 0)],[AO.vec zp h,Qa (bb [] [CP.d zp] D)]⟩)
def zr9(h:TS):Tr (eA⊕aw):=
 Q9 (eA.h3 h 0)
def cZ:eA->Tr (eA⊕aw)
 | .h3 h o=>
  let B:=(↑(getD h o.toNat 0).toNat:Int)
  let C:=Γ Δ (o+1)
  let D:=Qg (C.toNat-o.toNat) (Qh o.toNat h)
  let z:=((4,D),())
  let F:=(4,D)
  let H:=[F]
  br (Q0 (o<(↑(Io h):Int)))
  (Qc (zJ o (Io h))
   (br (cond (B==32) Q3 (B==10)) (Q9 (eA.h3 h C)) (Qc (Q0 (0<=o)&&Q0 (o<=C)&&Q0 (C<=(↑(Io h):Int))) (Qc (kU B) (br (nC B) (Q9 (eA.h11 h C B o z)) (Qc (fP B) (br (gQ B) (Q9 (eA.h15 h C B o z)) (br (B==39) (Q9 (eA.h20 h C ((3,[]),()))) (Qc (iL F)
   (br (!mo F) (re (Qe [Qb,kb Q4]) []) (Qc (Q0 (Io H<=1073741824)) (Q9 (eA.h3b h C H)))))))))))))
  (re (Qe [Qb,AV.bool Q3]) [])
 | .h11 h o G E I=>
  let B:=Q0 (o<(↑(Io h):Int))
  let C:=(↑(getD h o.toNat 0).toNat:Int)
  let D:=Qg (o.toNat-E.toNat) (Qh E.toNat h)
  let z:=(1,D)
  let F:=[z]
  Qc (cond B (zJ o (Io h)&&r9 C) Q3)
  (br (cond B (yD C) Q4) (Q9 (eA.h11 h (Γ Δ (o+1)) G E I))
   (Qc (Q0 (0<=E)&&Q0 (E<=o)&&Q0 (o<=(↑(Io h):Int))) (Qc (fP G) (br (gQ G) (Q9 (eA.h15 h o G E ((1,D),()))) (br (G==39) (Q9 (eA.h20 h o ((3,[]),()))) (Qc (iL z) (br (!mo z) (re (Qe [Qb,kb Q4]) []) (Qc (Q0 (Io F<=1073741824)) (Q9 (eA.h3b h o F))))))))))
 | .h15 h o G E I=>
  let B:=Q0 (o<(↑(Io h):Int))
  let C:=(↑(getD h o.toNat 0).toNat:Int)
  let D:=(2,Qg (o.toNat-E.toNat) (Qh E.toNat h))
  let z:=[D]
  Qc (cond B (zJ o (Io h)&&fP C) Q3)
  (br (cond B (gQ C) Q4) (Q9 (eA.h15 h (Γ Δ (o+1)) G E I))
   (Qc (Q0 (0<=E)&&Q0 (E<=o)&&Q0 (o<=(↑(Io h):Int))) (br (G==39) (Q9 (eA.h20 h o ((3,[]),()))) (Qc (iL D) (br (!mo D) (re (Qe [Qb,kb Q4]) []) (Qc (Q0 (Io z<=1073741824)) (Q9 (eA.h3b h o z))))))))
 | .h20 h o I=>
  let B:=Q0 (o<(↑(Io h):Int))
  let C:=(↑(getD h o.toNat 0).toNat:Int)
  let D:=C !=39
  let z:=Γ Δ (o+1)
  let F:=Q0 (z<(↑(Io h):Int))
  let H:=Qg (z.toNat-o.toNat) (Qh o.toNat h)
  let L:=((I.1.1,I.1.2++H),())
  Qc (cond B (zJ o (Io h)&&bif D then Q3 else bif F then zJ z (Io h)else Q3) Q3)
  (br (cond B (cond D Q3 (cond F ((↑(getD h z.toNat 0).toNat:Int)==39) Q4)) Q4)
   (Qc (Q0 (0<=o)&&Q0 (o<=z)&&Q0 (z<=(↑(Io h):Int))) (Qc (Q0 (Io I.1.2+Io H<=1099511627776)) (Qc (zJ o (Io h)) (br (C==39) (Q9 (eA.h20 h (Γ Δ (z+1)) L)) (Q9 (eA.h20 h z L))))))
   (br (Q0 (o>=(↑(Io h):Int))) (re (Qe [Qb,kb Q4]) []) (Qc (iL I.1) (br (!mo I.1) (re (Qe [Qb,kb Q4]) []) (Qc (Q0 ([I.1].length<=1073741824)) (Q9 (eA.h3b h z [I.1])))))))
 | .h3b h o u=>
  let B:=(↑(getD h o.toNat 0).toNat:Int)
  let C:=Γ Δ (o+1)
  let D:=Qg (C.toNat-o.toNat) (Qh o.toNat h)
  let z:=((4,D),())
  let F:=(4,D)
  let H:=[F]
  br (Q0 (o<(↑(Io h):Int)))
  (Qc (zJ o (Io h))
   (br (cond (B==32) Q3 (B==10)) (Q9 (eA.h3b h C u)) (Qc (Q0 (0<=o)&&Q0 (o<=C)&&Q0 (C<=(↑(Io h):Int))) (Qc (kU B) (br (nC B) (Q9 (eA.h11b h C B o z u)) (Qc (fP B) (br (gQ B) (Q9 (eA.h15b h C B o z u)) (br (B==39) (Q9 (eA.h20b h C ((3,[]),()) u))
   (Qc (iL F) (br (!mo F) (re (Qe [Qb,kb Q4]) []) (Qc (Q0 (Io u+Io H<=1073741824)) (Q9 (eA.h3b h C (u++H))))))))))))))
  (re (Qe [AV.vec 0,AV.bool (Q0 ((↑u.length:Int)<=400))]) [AO.vec zp u])
 | .h11b h o G E J u=>
  let B:=Q0 (o<(↑(Io h):Int))
  let C:=(↑(getD h o.toNat 0).toNat:Int)
  let D:=Qg (o.toNat-E.toNat) (Qh E.toNat h)
  let z:=(1,D)
  let F:=[z]
  Qc (cond B (zJ o (Io h)&&r9 C) Q3)
  (br (cond B (yD C) Q4) (Q9 (eA.h11b h (Γ Δ (o+1)) G E J u))
   (Qc (Q0 (0<=E)&&Q0 (E<=o)&&Q0 (o<=(↑(Io h):Int))) (Qc (fP G) (br (gQ G) (Q9 (eA.h15b h o G E ((1,D),()) u)) (br (G==39) (Q9 (eA.h20b h o ((3,[]),()) u)) (Qc (iL z) (br (!mo z) (re (Qe [Qb,kb Q4]) [])
   (Qc (Q0 (Io u+Io F<=1073741824)) (Q9 (eA.h3b h o (u++F)))))))))))
 | .h15b h o G E J u=>
  let B:=Q0 (o<(↑(Io h):Int))
  let C:=(↑(getD h o.toNat 0).toNat:Int)
  let D:=(2,Qg (o.toNat-E.toNat) (Qh E.toNat h))
  let z:=[D]
  Qc (cond B (zJ o (Io h)&&fP C) Q3)
  (br (cond B (gQ C) Q4) (Q9 (eA.h15b h (Γ Δ (o+1)) G E J u))
   (Qc (Q0 (0<=E)&&Q0 (E<=o)&&Q0 (o<=(↑(Io h):Int))) (br (G==39) (Q9 (eA.h20b h o ((3,[]),()) u)) (Qc (iL D) (br (!mo D) (re (Qe [Qb,kb Q4]) []) (Qc (Q0 (Io u+Io z<=1073741824)) (Q9 (eA.h3b h o (u++z)))))))))
 | .h20b h o J u=>
  let B:=Q0 (o<(↑(Io h):Int))
  let C:=(↑(getD h o.toNat 0).toNat:Int)
  let D:=C !=39
  let z:=Γ Δ (o+1)
  let F:=Q0 (z<(↑(Io h):Int))
  let H:=Qg (z.toNat-o.toNat) (Qh o.toNat h)
  let L:=((J.1.1,J.1.2++H),())
  Qc (cond B (zJ o (Io h)&&bif D then Q3 else bif F then zJ z (Io h)else Q3) Q3)
  (br (cond B (cond D Q3 (cond F ((↑(getD h z.toNat 0).toNat:Int)==39) Q4)) Q4)
   (Qc (Q0 (0<=o)&&Q0 (o<=z)&&Q0 (z<=(↑(Io h):Int))) (Qc (Q0 (Io J.1.2+Io H<=1099511627776)) (Qc (zJ o (Io h)) (br (C==39) (Q9 (eA.h20b h (Γ Δ (z+1)) L u)) (Q9 (eA.h20b h z L u))))))
   (br (Q0 (o>=(↑(Io h):Int))) (re (Qe [Qb,kb Q4]) []) (Qc (iL J.1) (br (!mo J.1) (re (Qe [Qb,kb Q4]) []) (Qc (Q0 (Io u+[J.1].length<=1073741824)) (Q9 (eA.h3b h z (u++[J.1]))))))))
def Jt(h:TS):=al [zp.sl,Q7] cZ 100000000 (zr9 h)
def Js(h:TS):=(Jt h).isSome
def AB(h:TS):=o2 (Jt h)
def zkB:=FT [Q6] [zp.sl,Q7] λx=>Jt x.1
theorem zge:FK 88 zkB:=rg.T1 (f:=Tryz.f88) (keep:=zoe) (e:=zqY)
def Lw(h:Sem Q5)(o:TS):Tr (Empty⊕aw):=
 let u:=o++Z2
 let z:=u++qD (zm h)
 br (zf.op h==[])
 (Qc (gO (zm h) (zf.mk [] (0,0,[]) [] [])) (re (Qe [str [],AV.bool (ft (zm h) (zf.mk [] (0,0,[]) [] []))]) []))
 (Qc (ut (zm h))
  (br (!Ed (zm h)) (re (Qe [str [],kb Q4]) []) (br (o==gE) (Qc (rU (zm h)) (Qc (Q0 (Io Z5+Io (qD (zm h))<=1099511627776)) (re (Qe [str (Z5++qD (zm h)),kb Q3]) [])))
  (Qc (Q0 (Io o+Io Z2<=1099511627776)) (Qc (rU (zm h)) (Qc (Q0 (Io u+Io (qD (zm h))<=1099511627776)) (Qc (Q0 (Io z+Io iv<=1099511627776)) (re (Qe [str (z++iv),kb Q3]) []))))))))
def BQ(h:Sem Q5)(o:TS):=al [Q6,Q7] t0 100000000 (Lw h o)
def wu(h:Sem Q5)(o:TS):=(BQ h o).isSome
def Ey(h:Sem Q5)(o:TS):=o2 (BQ h o)
def zcl:=FT [Q5,Q6] [Q6,Q7] λx=>BQ x.1 x.2.1
theorem Y4:FK 136 zcl:=rg.T1 (f:=Tryz.f136) (keep:=k0) (e:=e0)
abbrev zhQ:=kR [(3,[0,4,5])]
inductive Cb where
 |h3 (l0:LS) (s4:List UInt8) (i5:Int)
abbrev zml:Cb->Nat×St
 |.h3 o u h=>(3,⟨tm 37 [(0,sl Q6 o),(4,str u),(5,ai h)],[]⟩)
def zm0(h:Sem Sh.str.sl):Tr (Cb⊕aw):=
 Q9 (Cb.h3 h [] 0)
def EV:Cb->Tr (Cb⊕aw)
 | .h3 h z o=>
  let u:=h.getD o.toNat (zi Q6)
  let B:=z++eZ
  let C:=Γ Δ (o+1)
  let D:=Q0 (1<=(↑h.length:Int))
  br (Q0 (o<(↑h.length:Int)))
  (Qc (zJ o (Io h))
   (Qc (dQ u) (br (!bv u) (re (Qe [str [],kb Q4]) []) (br (Q0 (o>0)) (Qc (Q0 (Io z+Io eZ<=1099511627776)) (Qc (zJ o (Io h)) (Qc (Q0 (Io B+Io u<=1099511627776)) (Q9 (Cb.h3 h (B++u) C)))))
   (Qc (zJ o (Io h)) (Qc (Q0 (Io z+Io u<=1099511627776)) (Q9 (Cb.h3 h (z++u) C))))))))
  (re (Qe [str (cond D z z),AV.bool (cond D (Q0 ((↑h.length:Int)<=8)) Q4)]) [])
def wv(h:Sem Sh.str.sl):=al [Q6,Q7] EV 100000000 (zm0 h)
def Ez(h:Sem Sh.str.sl):=(wv h).isSome
def JA(h:Sem Sh.str.sl):=o2 (wv h)
def zcp:=FT [Sh.str.sl] [Q6,Q7] λx=>wv x.1
theorem Y8:FK 140 zcp:=rg.T1 (f:=Tryz.f140) (keep:=zhQ) (e:=zml)
def zdn:=zdm.addL [(88,zkB),(136,zcl),(140,zcp)]
theorem na:zw zdn:=rg.addL<|fc zge<|fc Y4<|fc Y8 iz
abbrev zhO:=kR [(4,[1,4,5,6]),(15,[1,4,5,8]),(20,[1,4,5,9])]
inductive pD where
 |h4 (b4:Bool) (s5:zD) (i6:Int) (z0:zl [CP.d zn])
 |h15 (b4:Bool) (s5:zD) (i8:Int) (z0:zl [CP.d zn])
 |h20 (b4:Bool) (s5:zD) (i9:Int) (z0:zl [CP.d zn])
abbrev zmj:pD->Nat×St
 |.h4 h o u z=>(4,⟨tm 174 [(1,Qf 0 0),(4,AV.bool h),(5,str o),(6,ai u)],[Qa (bb [] [CP.d zn] z)]⟩)
 |.h15 h o B z=>(15,⟨tm 174 [(1,Qf 0 0),(4,AV.bool h),(5,str o),(8,ai B)],[Qa (bb [] [CP.d zn] z)]⟩)
 |.h20 h o C z=>(20,⟨tm 174 [(1,Qf 0 0),(4,AV.bool h),(5,str o),(9,ai C)],[Qa (bb [] [CP.d zn] z)]⟩)
def VI(h:Sem zn):Tr (pD⊕aw):=
 let o:=Z6++h.2.1
 let u:=(↑(Io h.t.1):Int)
 let z:=(↑(Io h.t.q.1):Int)
 let B:=(↑(Io h.t.q.2.1):Int)
 Qc (dQ h.t.2.1)
 (Qc (Q0 (Io Z6+Io h.2.1<=1099511627776))
  (Qc (Q0 (Io o+Io AS<=1099511627776)) (Q9 (pD.h4 (cond (bv h.t.2.1) (cond (Q0 (1<=u)) (cond (Q0 (u<=8)) (cond (Q0 (z<=8)) (Q0 (B<=8)) Q4) Q4) Q4) Q4) (o++AS) 0 (h,())))))
def fF:pD->Tr (pD⊕aw)
 | .h4 B u M z=>
  let G:=(↑(Io z.1.t.1):Int)
  let h:=getD z.1.t.1 M.toNat (zi zj)
  let o:=h.1++[32]
  let C:=[[],Cy,Cz,Cx].getD (toNat h.2.1) (zi Q6)
  let D:=o++C
  let E:=u++D
  let I:=E++zgM
  let J:=Γ Δ (M+1)
  let F:=zgP++z.1.t.2.1
  let L:=F++iv
  br (Q0 (M<G))
  (Qc (zJ M (Io z.1.t.1))
   (Qc (dQ h.1) (br (cond (!bv h.1) Q3 (cond (Q0 (h.2.1<1)) Q3 (Q0 (h.2.1>3)))) (re (Qe [str [],kb Q4]) []) (Qc (Q0 (Io h.1+[32].length<=1099511627776)) (Qc (zJ h.2.1 [[],Cy,Cz,Cx].length) (Qc (Q0 (Io o+Io C<=1099511627776))
   (Qc (Q0 (Io u+Io D<=1099511627776)) (br h.2.2 (Qc (Q0 (Io E+Io zgM<=1099511627776)) (Qc (Q0 (Io I+Io eZ<=1099511627776)) (Q9 (pD.h4 B (I++eZ) J z))))
   (Qc (Q0 (Io E+Io eZ<=1099511627776)) (Q9 (pD.h4 B (E++eZ) J z)))))))))))
  (Qc (Q0 (Io zgP+Io z.1.t.2.1<=1099511627776))
   (Qc (Q0 (Io F+Io iv<=1099511627776)) (Qc (Q0 (Io u+Io L<=1099511627776)) (Q9 (pD.h15 B (u++L) 0 z)))))
 | .h15 B u O z=>
  let G:=(↑(Io z.1.t.q.1):Int)
  let h:=zJ O (Io z.1.t.q.1)
  let o:=getD z.1.t.q.1 O.toNat (zi Q6)
  let C:=zgK++o
  let D:=C++iv
  br (Q0 (O<G))
  (Qc (cond B (h&&dQ o) Q3)
   (Qc h (Qc (Q0 (Io zgK+Io o<=1099511627776)) (Qc (Q0 (Io C+Io iv<=1099511627776)) (Qc (Q0 (Io u+Io D<=1099511627776)) (Q9 (pD.h15 (cond B (bv o) Q4) (u++D) (Γ Δ (O+1)) z)))))))
  (Q9 (pD.h20 B u 0 z))
 | .h20 B u S z=>
  let G:=(↑(Io z.1.t.q.2.1):Int)
  let h:=zJ S (Io z.1.t.q.2.1)
  let o:=getD z.1.t.q.2.1 S.toNat (zi jb)
  let C:=bv o.1
  let D:=zgJ++o.1
  let E:=D++zgI
  let I:=E++o.2
  let J:=zm z.1.t.t.1
  let F:=Ey J [32,44]
  let L:=u++F.1
  let H:=L++iv
  br (Q0 (S<G))
  (Qc (cond B (h&&(dQ o.1&&bif C then h&&dQ o.2 else Q3)) Q3)
   (Qc h (Qc (Q0 (Io zgJ+Io o.1<=1099511627776)) (Qc (Q0 (Io D+Io zgI<=1099511627776)) (Qc h (Qc (Q0 (Io E+Io o.2<=1099511627776)) (Qc (Q0 (Io u+Io I<=1099511627776))
   (Q9 (pD.h20 (cond B (cond C (bv o.2) Q4) Q4) (u++I) (Γ Δ (S+1)) z)))))))))
  (Qc (wu J [32,44])
   (Qc (Q0 (Io u+Io F.1<=1099511627776)&&Q0 (Io L+Io iv<=1099511627776)) (re (Qe [str (cond B H H),AV.bool (cond B F.2 Q4)]) [])))
def nu(h:Sem zn):=al [Q6,Q7] fF 100000000 (VI h)
def rX(h:Sem zn):=(nu h).isSome
def qE(h:Sem zn):=o2 (nu h)
def zcm:=FT [zn] [Q6,Q7] λx=>nu x.1
theorem Y5:FK 137 zcm:=na.T1 (f:=Tryz.f137) (keep:=zhO) (e:=zmj)
abbrev znP:=kR [(2,[0,1,5]),(5,[0,1,5,6])]
inductive Kq where
 |h2 (l0:List (Sem zh)) (l1:List (Sem Q6)) (i5:Int)
 |h5 (l0:List (Sem zh)) (l1:List (Sem Q6)) (i5:Int) (i6:Int)
abbrev zqG:Kq->Nat×St
 |.h2 o u h=>(2,⟨tm 47 [(0,sl zh o),(1,sl Q6 u),(5,ai h)],[]⟩)
 |.h5 o u h z=>(5,⟨tm 47 [(0,sl zh o),(1,sl Q6 u),(5,ai h),(6,ai z)],[]⟩)
def zr5(h:Sem zh.sl)(o:Sem Sh.str.sl):Tr (Kq⊕aw):=
 Q9 (Kq.h2 h o 0)
def qM:Kq->Tr (Kq⊕aw)
 | .h2 o u h=>
  br (Q0 (h<(↑o.length:Int))) (Q9 (Kq.h5 o u h 0)) (re (kb Q4) [])
 | .h5 o u h B=>
  let z:=o.getD h.toNat (zi zh)
  let E:=(↑(Io z.1.t.1):Int)
  let C:=!MD u z.1.1
  let D:=getD z.1.t.1 B.toNat (zi zp)
  Qc (zJ h (Io o))
  (br (Q0 (B<E))
   (Qc (zJ h (Io o)&&(AD u z.1.1&&bif C then zJ h (Io o)&&(zJ B (Io z.1.t.1)&&AD u D.2)else Q3)) (br (cond C (MD u D.2) Q4) (re (kb Q3) []) (Q9 (Kq.h5 o u h (Γ Δ (B+1))))))
   (Q9 (Kq.h2 o u (Γ Δ (h+1)))))
def oD(h:Sem zh.sl)(o:Sem Sh.str.sl):=al [Q7] qM 100000000 (zr5 h o)
def uo(h:Sem zh.sl)(o:Sem Sh.str.sl):=(oD h o).isSome
def yu(h:Sem zh.sl)(o:Sem Sh.str.sl):=o1 (oD h o)
def zj0:=FT [zh.sl,Sh.str.sl] [Q7] λx=>oD x.1 x.2.1
theorem zfB:FK 48 zj0:=na.T1 (f:=Tryz.f48) (keep:=znP) (e:=zqG)
abbrev znR:=kR [(3,[0,1,6,7]),(10,[6,9]),(13,[6,9,10])]
inductive pE where
 |h3 (l0:List (Sem zj)) (l1:List (Sem Q6)) (i7:Int)
 |h3b (l0:List (Sem zj)) (l1:List (Sem Q6)) (i7:Int) (lh_0:List (Sem zg))
 |h10 (i9:Int)
 |h10b (i9:Int) (lh_0:List (Sem zg))
 |h13 (i9:Int) (i10:Int)
 |h13b (i9:Int) (i10:Int) (lh_0:List (Sem zg))
abbrev zqI:pE->Nat×St
 |.h3 B C z=>(3,⟨tm 50 [(0,sl zj B),(1,sl Q6 C),(6,Qb),(7,ai z)],[]⟩)
 |.h3b B C z h=>(3,⟨tm 50 [(0,sl zj B),(1,sl Q6 C),(6,AV.vec 0),(7,ai z)],[AO.vec zg h]⟩)
 |.h10 u=>(10,⟨tm 50 [(6,Qb),(9,ai u)],[]⟩)
 |.h10b u h=>(10,⟨tm 50 [(6,AV.vec 0),(9,ai u)],[AO.vec zg h]⟩)
 |.h13 u o=>(13,⟨tm 50 [(6,Qb),(9,ai u),(10,ai o)],[]⟩)
 |.h13b u o h=>(13,⟨tm 50 [(6,AV.vec 0),(9,ai u),(10,ai o)],[AO.vec zg h]⟩)
def znh(h:Sem zj.sl)(o:Sem Sh.str.sl):Tr (pE⊕aw):=
 Q9 (pE.h3 h o 0)
def jX:pE->Tr (pE⊕aw)
 | .h3 C B z=>
  let D:=B.getD z.toNat (zi Q6)
  let E:=eR C D
  let F:=[E]
  br (Q0 (z<(↑B.length:Int)))
  (Qc (zJ z (Io B))
   (Qc (dM C D) (br (Q0 (E<0)) (re (Qe [Qb,ai 4]) []) (Qc (Q0 (Io F<=1073741824)) (Q9 (pE.h3b C B (Γ Δ (z+1)) F))))))
  (Q9 (pE.h10 0))
 | .h3b C B z h=>
  let D:=B.getD z.toNat (zi Q6)
  let E:=eR C D
  let F:=[E]
  br (Q0 (z<(↑B.length:Int)))
  (Qc (zJ z (Io B))
   (Qc (dM C D) (br (Q0 (E<0)) (re (Qe [Qb,ai 4]) []) (Qc (Q0 (Io h+Io F<=1073741824)) (Q9 (pE.h3b C B (Γ Δ (z+1)) (h++F)))))))
  (Q9 (pE.h10b 0 h))
 | .h10 u=>
  br (Q0 (u<0)) (Q9 (pE.h13 u 0)) (re (Qe [Qb,ai 0]) [])
 | .h10b u h=>
  br (Q0 (u<(↑h.length:Int))) (Q9 (pE.h13b u 0 h)) (re (Qe [AV.vec 0,ai 0]) [AO.vec zg h])
 | .h13 u o=>
  br (Q0 (o<u)) Tr.err (Q9 (pE.h10 (Γ Δ (u+1))))
 | .h13b u o h=>
  br (Q0 (o<u))
  (Qc (zJ u (Io h))
   (Qc (Q0 (u.toNat<Io h)) (Qc (zJ o (Io h)) (Qc (Q0 (o.toNat<Io h)) (br (h.getD u.toNat (zi zg)==h.getD o.toNat (zi zg)) (re (Qe [Qb,ai 7]) []) (Q9 (pE.h13b u (Γ Δ (o+1)) h)))))))
  (Q9 (pE.h10b (Γ Δ (u+1)) h))
def oC(h:Sem zj.sl)(o:Sem Sh.str.sl):=al [zg.sl,zg] jX 100000000 (znh h o)
def oB(h:Sem zj.sl)(o:Sem Sh.str.sl):=(oC h o).isSome
def rH(h:Sem zj.sl)(o:Sem Sh.str.sl):=o2 (oC h o)
def zj2:=FT [zj.sl,Sh.str.sl] [zg.sl,zg] λx=>oC x.1 x.2.1
theorem zfC:FK 49 zj2:=na.T1 (f:=Tryz.f49) (keep:=znR) (e:=zqI)
def zaO(h:Sem Q5)(o:Sem zj.sl):Tr (Empty⊕aw):=
 br (zf.op h==[]) (re (ai 0) [])
 (Qc (ut (zm h))
  (br (!Ed (zm h)) (re (ai 1) []) (Qc (oJ (zm h) o) (br (cond ((iJ (zm h) o).2==0) (cond ((iJ (zm h) o).1!=0) ((iJ (zm h) o).1!=3) Q4) Q4) (re (ai 5) []) (re (ai (iJ (zm h) o).2) [])))))
def BK(h:Sem Q5)(o:Sem zj.sl):=al [zg] t0 100000000 (zaO h o)
def oN(h:Sem Q5)(o:Sem zj.sl):=(BK h o).isSome
def uu(h:Sem Q5)(o:Sem zj.sl):=o1 (BK h o)
def zj4:=FT [Q5,zj.sl] [zg] λx=>BK x.1 x.2.1
theorem zfE:FK 29 zj4:=na.T1 (f:=Tryz.f29) (keep:=k0) (e:=e0)
def UX:=zdn.addL [(137,zcm),(48,zj0),(49,zj2),(29,zj4)]
theorem C2:zw UX:=na.addL<|fc Y5<|fc zfB<|fc zfC<|fc zfE iz
abbrev zmd:List CP:=[.d .str,.d .str,.d .str,.nil,.nil,.d .str,.nil,.nil,.d .str,.d zg,.d zg,.d .str,.d .str,.nil,.d (.sl ze),.nil,.d .str,.d zg,.d zg,.d .str,.d .str,.nil,.d .str]
abbrev zgY:List CP:=[.d .str,.d .str,.d .str,.nil,.nil,.d .str,.nil,.nil,.d .str,.d zg,.d zg,.d .str,.d .str,.nil,.nil,.d (.sl ig),.d .expr,.d .str]
abbrev zoc:=kR [(15,[1,3,5,12,13]),(27,[1,3,5,8,9,14,15])]
inductive Cc where
 |h15 (s12:List UInt8) (i13:Int) (z0:zl pC) (z1:zl jg) (z2:zl zmd)
 |h27 (s8:TS) (b9:Sem Q7) (s14:List UInt8) (i15:Int) (z0:zl pC) (z1:zl jg) (z2:zl zgY)
abbrev zqW:Cc->Nat×St
 |.h15 u h B C D=>(15,⟨tm 430 [(1,Qf 0 0),(3,Qf 1 0),(5,Qf 2 0),(12,str u),(13,ai h)],[Qa (bb [] pC B),Qa (bb [] jg C),Qa (bb [] zmd D)]⟩)
 |.h27 F E z o B C D=>(27,⟨tm 430 [(1,Qf 0 0),(3,Qf 1 0),(5,Qf 2 0),(8,str F),(9,AV.bool E),(14,str z),(15,ai o)],[Qa (bb [] pC B),Qa (bb [] jg C),Qa (bb [] zgY D)]⟩)
def gX(h:Sem zn):Tr (Cc⊕aw):=
 let a0:=zm h.t.t.1
 let a1:=zm h.t.t.q.2.1
 let a2:=(h.1,h.2.1,h.2.2.1,h.2.2.2.1,h.t.1,h.t.2.1,h.t.q.1,h.t.q.2.1,a0,h.t.t.2.1,h.t.t.q.1,a1,h.t.t.t)
 let a3:=qE a2
 let G:=Ey a1 gE
 let a5:=Z8++h.2.1
 let a6:=zah++h.2.1
 let a7:=Uj++h.2.1
 let a8:=a7++lg
 let a9:=a8++h.2.2.1
 let L:=a9++AS
 let H:=JA h.2.2.2.1
 let M:=L++H.1
 let D:=M++iv
 let o:=Ey a0 []
 let I:=dQ h.2.2.1
 let J:=bv h.2.2.1
 let O:=zgR++h.2.1
 let S:=O++lg
 let T:=S++h.2.2.1
 let U:=T++eZ
 let W:=U++h.t.t.t
 let X:=W++AT
 let u:=X++h.t.2.1
 let z:=dQ h.t.t.t
 let B:=bv h.t.t.t
 let Y:=zgQ++h.2.1
 let Z:=Y++lg
 let h0:=Z++h.2.2.1
 let h1:=zJ 0 (Io h.2.2.2.1)
 let h2:=h0++RT
 let E:=getD h.2.2.2.1 (toNat 0) (zi Q6)
 let h3:=h2++E
 let h4:=zJ 1 (Io h.2.2.2.1)
 let h5:=h3++RU
 let F:=getD h.2.2.2.1 (toNat 1) (zi Q6)
 let C:=h5++F
 let h6:=zl3++h.2.1
 let h7:=h6++Nv
 let h8:=zl4++h.2.1
 let h9:=h8++Nv
 let x1:=zl6++h.2.1
 let x2:=x1++lg
 let x3:=zl7++h.2.1
 let x4:=x3++lg
 Qc (wu a0 [])
 (Qc (wu a1 gE)
  (br (h.1==mT) (Qc (rX a2) (re (Qe [str a3.1,Qd [str h.1,str h.2.1,str [],Qb,sl zj h.t.1,str h.t.2.1,sl Q6 h.t.q.1,sl (Sh.str.pr Q6) h.t.q.2.1,str (zf.op h.t.t.1),ai (zf.v h.t.t.1).1,
  ai (zf.v h.t.t.1).2.1,str (zf.v h.t.t.1).2.2,str (zf.s h.t.t.1),sl Q5 (zf.l h.t.t.1),Qb,Qb,str [],ai 0,ai 0,str [],str [],Qb,str []],AV.bool a3.2]) [])) (br (h.1==Ft)
  (Qc (Q0 (Io zaa+Io h.2.1<=1099511627776)) (re (Qe [str (zaa++h.2.1),Qd [str h.1,str h.2.1,str [],Qb,Qb,str [],Qb,Qb,str [],ai 0,
  ai 0,str [],str [],Qb,Qb,Qb,str [],ai 0,ai 0,str [],str [],Qb,str []],kb Q3]) [])) (br (h.1==H6) (Q9 (Cc.h15 [] 0 (h,()) ([],[],[],[],[],0,0,[],[],[],0,0,[],[],[],())
  (h.1,h.2.1,[],[],[],0,0,[],[],h.t.t.2.1,[],0,0,[],[],[],()))) (br (h.1==pt) (Q9 (Cc.h27 G.1 G.2 [] 0 (h,()) ([],[],[],[],[],0,0,[],[],[],0,0,[],[],[],()) (h.1,h.2.1,[],[],[],0,0,[],[],h.t.t.q.1,h.t.t.q.2.1,[],()))) (br (h.1==Kh)
  (Qc (Q0 (Io Z8+Io h.2.1<=1099511627776)) (Qc (Q0 (Io a5+Io G.1<=1099511627776)) (re (Qe [str (a5++G.1),Qd [str h.1,str h.2.1,str [],Qb,Qb,str [],Qb,Qb,str [],ai 0,
  ai 0,str [],str [],Qb,Qb,Qb,str (zf.op h.t.t.q.2.1),ai (zf.v h.t.t.q.2.1).1,ai (zf.v h.t.t.q.2.1).2.1,str (zf.v h.t.t.q.2.1).2.2,str (zf.s h.t.t.q.2.1),sl Q5 (zf.l h.t.t.q.2.1),str []],AV.bool G.2]) [])))
  (br (h.1==pO) (Qc (Q0 (Io zah+Io h.2.1<=1099511627776)) (Qc (Q0 (Io a6+Io G.1<=1099511627776)) (re (Qe [str (a6++G.1),Qd [str h.1,str h.2.1,str [],Qb,Qb,str [],Qb,Qb,str [],ai 0,
  ai 0,str [],str [],Qb,Qb,Qb,str (zf.op h.t.t.q.2.1),ai (zf.v h.t.t.q.2.1).1,ai (zf.v h.t.t.q.2.1).2.1,str (zf.v h.t.t.q.2.1).2.2,str (zf.s h.t.t.q.2.1),sl Q5 (zf.l h.t.t.q.2.1),str []],AV.bool G.2]) [])))
  (br (h.1==cT) (Qc (Ez h.2.2.2.1) (Qc (Q0 (Io Uj+Io h.2.1<=1099511627776)) (Qc (Q0 (Io a7+Io lg<=1099511627776)) (Qc (Q0 (Io a8+Io h.2.2.1<=1099511627776))
  (Qc (Q0 (Io a9+Io AS<=1099511627776)) (Qc (Q0 (Io L+Io H.1<=1099511627776)) (Qc (Q0 (Io M+Io iv<=1099511627776)) (Qc (Q0 (Io D+Io o.1<=1099511627776)) (br H.2 (br o.2 (Qc I (re (Qe [str (D++o.1),Qd
  [str h.1,str h.2.1,str h.2.2.1,sl Q6 h.2.2.2.1,Qb,str [],Qb,Qb,str (zf.op h.t.t.1),ai (zf.v h.t.t.1).1,ai (zf.v h.t.t.1).2.1,str (zf.v h.t.t.1).2.2,str (zf.s h.t.t.1),
  sl Q5 (zf.l h.t.t.1),Qb,Qb,str [],ai 0,ai 0,str [],str [],Qb,str []],AV.bool J]) [])) (re (Qe [str (D++o.1),Qd [str h.1,str h.2.1,str h.2.2.1,sl Q6 h.2.2.2.1,Qb,str [],Qb,Qb,str (zf.op h.t.t.1),
  ai (zf.v h.t.t.1).1,ai (zf.v h.t.t.1).2.1,str (zf.v h.t.t.1).2.2,str (zf.s h.t.t.1),sl Q5 (zf.l h.t.t.1),Qb,Qb,str [],ai 0,ai 0,str [],str [],Qb,str []],kb Q4]) [])) (re (Qe [str (D++o.1),Qd
  [str h.1,str h.2.1,str h.2.2.1,sl Q6 h.2.2.2.1,Qb,str [],Qb,Qb,str (zf.op h.t.t.1),ai (zf.v h.t.t.1).1,ai (zf.v h.t.t.1).2.1,str (zf.v h.t.t.1).2.2,str (zf.s h.t.t.1),
  sl Q5 (zf.l h.t.t.1),Qb,Qb,str [],ai 0,ai 0,str [],str [],Qb,str []],kb Q4]) [])))))))))) (br (h.1==eX) (Qc (Q0 (Io zgR+Io h.2.1<=1099511627776))
  (Qc (Q0 (Io O+Io lg<=1099511627776)) (Qc (Q0 (Io S+Io h.2.2.1<=1099511627776)) (Qc (Q0 (Io T+Io eZ<=1099511627776)) (Qc (Q0 (Io U+Io h.t.t.t<=1099511627776))
  (Qc (Q0 (Io W+Io AT<=1099511627776)) (Qc (Q0 (Io X+Io h.t.2.1<=1099511627776)) (Qc (Q0 (Io u+Io o.1<=1099511627776)) (br o.2 (Qc I (br J (Qc z (br B (Qc (dQ h.t.2.1) (re (Qe [str (u++o.1),Qd
  [str h.1,str h.2.1,str h.2.2.1,Qb,Qb,str h.t.2.1,Qb,Qb,str (zf.op h.t.t.1),ai (zf.v h.t.t.1).1,ai (zf.v h.t.t.1).2.1,str (zf.v h.t.t.1).2.2,str (zf.s h.t.t.1),sl Q5 (zf.l h.t.t.1),Qb,Qb,str [],
  ai 0,ai 0,str [],str [],Qb,str h.t.t.t],AV.bool (bv h.t.2.1)]) [])) (re (Qe [str (u++o.1),Qd [str h.1,str h.2.1,str h.2.2.1,Qb,Qb,str h.t.2.1,Qb,Qb,str (zf.op h.t.t.1),ai (zf.v h.t.t.1).1,
  ai (zf.v h.t.t.1).2.1,str (zf.v h.t.t.1).2.2,str (zf.s h.t.t.1),sl Q5 (zf.l h.t.t.1),Qb,Qb,str [],ai 0,ai 0,str [],str [],Qb,str h.t.t.t],kb Q4]) []))) (re (Qe [str (u++o.1),Qd
  [str h.1,str h.2.1,str h.2.2.1,Qb,Qb,str h.t.2.1,Qb,Qb,str (zf.op h.t.t.1),ai (zf.v h.t.t.1).1,ai (zf.v h.t.t.1).2.1,str (zf.v h.t.t.1).2.2,str (zf.s h.t.t.1),sl Q5 (zf.l h.t.t.1),Qb,Qb,str [],
  ai 0,ai 0,str [],str [],Qb,str h.t.t.t],kb Q4]) []))) (re (Qe [str (u++o.1),Qd [str h.1,str h.2.1,str h.2.2.1,Qb,Qb,str h.t.2.1,Qb,Qb,str (zf.op h.t.t.1),ai (zf.v h.t.t.1).1,
  ai (zf.v h.t.t.1).2.1,str (zf.v h.t.t.1).2.2,str (zf.s h.t.t.1),sl Q5 (zf.l h.t.t.1),Qb,Qb,str [],ai 0,ai 0,str [],str [],Qb,str h.t.t.t],kb Q4]) [])))))))))) (br (h.1==kq)
  (br ((↑(Io h.2.2.2.1):Int)!=2) (re (Qe [str [],Qd [str h.1,str h.2.1,str h.2.2.1,sl Q6 h.2.2.2.1,Qb,str [],Qb,Qb,str (zf.op h.t.t.1),ai (zf.v h.t.t.1).1,ai (zf.v h.t.t.1).2.1,
  str (zf.v h.t.t.1).2.2,str (zf.s h.t.t.1),sl Q5 (zf.l h.t.t.1),Qb,Qb,str [],ai 0,ai 0,str [],str [],Qb,str []],kb Q4]) []) (Qc (Q0 (Io zgQ+Io h.2.1<=1099511627776))
  (Qc (Q0 (Io Y+Io lg<=1099511627776)) (Qc (Q0 (Io Z+Io h.2.2.1<=1099511627776)) (Qc (Q0 (Io h0+Io RT<=1099511627776)) (Qc h1 (Qc (Q0 (Io h2+Io E<=1099511627776))
  (Qc (Q0 (Io h3+Io RU<=1099511627776)) (Qc h4 (Qc (Q0 (Io h5+Io F<=1099511627776)) (Qc (Q0 (Io C+Io o.1<=1099511627776)) (br o.2 (Qc I (br J (Qc h1 (Qc (dQ E) (br (bv E) (Qc h4 (Qc (dQ F) (re (Qe [str (C++o.1),
  Qd [str h.1,str h.2.1,str h.2.2.1,sl Q6 h.2.2.2.1,Qb,str [],Qb,Qb,str (zf.op h.t.t.1),ai (zf.v h.t.t.1).1,ai (zf.v h.t.t.1).2.1,str (zf.v h.t.t.1).2.2,str (zf.s h.t.t.1),sl Q5 (zf.l h.t.t.1),Qb,Qb,
  str [],ai 0,ai 0,str [],str [],Qb,str []],AV.bool (bv F)]) []))) (re (Qe [str (C++o.1),Qd [str h.1,str h.2.1,str h.2.2.1,sl Q6 h.2.2.2.1,Qb,str [],Qb,Qb,str (zf.op h.t.t.1),ai (zf.v h.t.t.1).1,
  ai (zf.v h.t.t.1).2.1,str (zf.v h.t.t.1).2.2,str (zf.s h.t.t.1),sl Q5 (zf.l h.t.t.1),Qb,Qb,str [],ai 0,ai 0,str [],str [],Qb,str []],kb Q4]) [])))) (re (Qe [str (C++o.1),Qd
  [str h.1,str h.2.1,str h.2.2.1,sl Q6 h.2.2.2.1,Qb,str [],Qb,Qb,str (zf.op h.t.t.1),ai (zf.v h.t.t.1).1,ai (zf.v h.t.t.1).2.1,str (zf.v h.t.t.1).2.2,str (zf.s h.t.t.1),
  sl Q5 (zf.l h.t.t.1),Qb,Qb,str [],ai 0,ai 0,str [],str [],Qb,str []],kb Q4]) []))) (re (Qe [str (C++o.1),Qd [str h.1,str h.2.1,str h.2.2.1,sl Q6 h.2.2.2.1,Qb,str [],Qb,Qb,str (zf.op h.t.t.1),
  ai (zf.v h.t.t.1).1,ai (zf.v h.t.t.1).2.1,str (zf.v h.t.t.1).2.2,str (zf.s h.t.t.1),sl Q5 (zf.l h.t.t.1),Qb,Qb,str [],ai 0,ai 0,str [],str [],Qb,str []],kb Q4]) []))))))))))))) (br (h.1==PA)
  (Qc (Q0 (Io zl3+Io h.2.1<=1099511627776)) (Qc (Q0 (Io h6+Io Nv<=1099511627776)) (Qc (Q0 (Io h7+Io h.t.t.t<=1099511627776)) (Qc z (re (Qe [str (h7++h.t.t.t),Qd
  [str h.1,str h.2.1,str [],Qb,Qb,str [],Qb,Qb,str [],ai 0,ai 0,str [],str [],Qb,Qb,Qb,str [],ai 0,ai 0,str [],str [],Qb,str h.t.t.t],AV.bool B]) []))))) (br (h.1==xm)
  (Qc (Q0 (Io zl4+Io h.2.1<=1099511627776)) (Qc (Q0 (Io h8+Io Nv<=1099511627776)) (Qc (Q0 (Io h9+Io h.t.t.t<=1099511627776)) (Qc z (re (Qe [str (h9++h.t.t.t),Qd
  [str h.1,str h.2.1,str [],Qb,Qb,str [],Qb,Qb,str [],ai 0,ai 0,str [],str [],Qb,Qb,Qb,str [],ai 0,ai 0,str [],str [],Qb,str h.t.t.t],AV.bool B]) []))))) (br (h.1==AR)
  (Qc (Q0 (Io zl6+Io h.2.1<=1099511627776)) (Qc (Q0 (Io x1+Io lg<=1099511627776)) (Qc (Q0 (Io x2+Io h.t.t.t<=1099511627776)) (Qc z (re (Qe [str (x2++h.t.t.t),Qd
  [str h.1,str h.2.1,str [],Qb,Qb,str [],Qb,Qb,str [],ai 0,ai 0,str [],str [],Qb,Qb,Qb,str [],ai 0,ai 0,str [],str [],Qb,str h.t.t.t],AV.bool B]) []))))) (br (h.1==Cv) (Qc
  (Q0 (Io zl7+Io h.2.1<=1099511627776)) (Qc (Q0 (Io x3+Io lg<=1099511627776)) (Qc (Q0 (Io x4+Io h.t.t.t<=1099511627776)) (Qc z (re (Qe [str (x4++h.t.t.t),Qd
  [str h.1,str h.2.1,str [],Qb,Qb,str [],Qb,Qb,str [],ai 0,ai 0,str [],str [],Qb,Qb,Qb,str [],ai 0,ai 0,str [],str [],Qb,str h.t.t.t],AV.bool B]) []))))) (re (Qe [str [],Qd
  [str h.1,str h.2.1,str [],Qb,Qb,str [],Qb,Qb,str [],ai 0,ai 0,str [],str [],Qb,Qb,Qb,str [],ai 0,ai 0,str [],str [],Qb,str []],kb Q4]) [])))))))))))))))
def mF:Cc->Tr (Cc⊕aw)
 | .h15 o B h z1 z=>
  let H:=(↑(Io h.1.t.t.2.1):Int)
  let D:=zJ B (Io h.1.t.t.2.1)
  let E:=getD h.1.t.t.2.1 B.toNat (zi ze)
  let W:=kC E
  let I:=o++eZ
  let J:=oG E
  let X:=Γ Δ (B+1)
  let Y:=Ui++h.1.2.1
  let Z:=Y++Z4
  let L:=Z++o
  br (Q0 (B<H))
  (Qc D
   (Qc (mC E) (br (!tj E) (re (Qe [str [],Qd [str z.1,str z.2.1,str z.2.2.1,Qb,Qb,str z.2.2.2.1,Qb,Qb,str z.t.1,ai z.t.2.1,ai z.t.q.1,str z.t.q.2.1,str z.t.t.1,Qb,sl ze z.t.t.2.1,Qb,
   str z.t.t.q.1,ai z.t.t.q.2.1,ai z.t.t.t.1,str z.t.t.t.2.1,str z.t.t.t.q.1,Qb,str z.t.t.t.q.2.1],kb Q4]) []) (br (Q0 (B>0)) (Qc (Q0 (Io o+Io eZ<=1099511627776))
   (Qc D (Qc W (Qc (Q0 (Io I+Io J<=1099511627776)) (Q9 (Cc.h15 (I++J) X h z1 z)))))) (Qc D (Qc W (Qc (Q0 (Io o+Io J<=1099511627776)) (Q9 (Cc.h15 (o++J) X h z1 z)))))))))
  (Qc (Q0 (Io Ui+Io h.1.2.1<=1099511627776))
   (Qc (Q0 (Io Y+Io Z4<=1099511627776)) (Qc (Q0 (Io Z+Io o<=1099511627776)) (Qc (Q0 (Io L+Io iv<=1099511627776)) (br (Q0 (1<=H)) (re (Qe [str (L++iv),Qd
   [str z.1,str z.2.1,str z.2.2.1,Qb,Qb,str z.2.2.2.1,Qb,Qb,str z.t.1,ai z.t.2.1,ai z.t.q.1,str z.t.q.2.1,str z.t.t.1,Qb,sl ze z.t.t.2.1,Qb,str z.t.t.q.1,ai z.t.t.q.2.1,
   ai z.t.t.t.1,str z.t.t.t.2.1,str z.t.t.t.q.1,Qb,str z.t.t.t.q.2.1],AV.bool (Q0 (H<=12))]) []) (re (Qe [str (L++iv),Qd [str z.1,str z.2.1,str z.2.2.1,Qb,Qb,str z.2.2.2.1,Qb,Qb,
   str z.t.1,ai z.t.2.1,ai z.t.q.1,str z.t.q.2.1,str z.t.t.1,Qb,sl ze z.t.t.2.1,Qb,str z.t.t.q.1,ai z.t.t.q.2.1,ai z.t.t.t.1,str z.t.t.t.2.1,str z.t.t.t.q.1,
   Qb,str z.t.t.t.q.2.1],kb Q4]) []))))))
 | .h27 M b9 u C h z1 z=>
  let H:=(↑(Io h.1.t.t.q.1):Int)
  let D:=zJ C (Io h.1.t.t.q.1)
  let E:=getD h.1.t.t.q.1 C.toNat (zi ig)
  let W:=!bv E.1
  let I:=zm E.2
  let J:=Q0 (Io E.1+Io zgL<=1099511627776)
  let X:=rU I
  let Y:=E.1++zgL
  let Z:=qD I
  let L:=Q0 (Io Y+Io Z<=1099511627776)
  let O:=u++eZ
  let F:=Y++Z
  let S:=Γ Δ (C+1)
  let T:=Ul++h.1.2.1
  let U:=T++Z3
  let G:=U++u
  br (Q0 (C<H))
  (Qc (D&&(dQ E.1&&bif W then Q3 else D&&ut I))
   (br (cond W Q3 (!Ed I)) (re (Qe [str [],Qd [str z.1,str z.2.1,str z.2.2.1,Qb,Qb,str z.2.2.2.1,Qb,Qb,str z.t.1,ai z.t.2.1,ai z.t.q.1,str z.t.q.2.1,str z.t.t.1,Qb,Qb,
   sl (Sh.str.pr Q5) z.t.t.2.1,str (zf.op z.t.t.q.1),ai (zf.v z.t.t.q.1).1,ai (zf.v z.t.t.q.1).2.1,str (zf.v z.t.t.q.1).2.2,str (zf.s z.t.t.q.1),sl Q5 (zf.l z.t.t.q.1),str z.t.t.q.2.1],kb Q4]) [])
   (br (Q0 (C>0)) (Qc (Q0 (Io u+Io eZ<=1099511627776)) (Qc D (Qc J (Qc D (Qc X (Qc L (Qc (Q0 (Io O+Io F<=1099511627776)) (Q9 (Cc.h27 M b9 (O++F) S h z1 z))))))))) (Qc D (Qc J (Qc D
   (Qc X (Qc L (Qc (Q0 (Io u+Io F<=1099511627776)) (Q9 (Cc.h27 M b9 (u++F) S h z1 z)))))))))))
  (Qc (Q0 (Io Ul+Io h.1.2.1<=1099511627776))
   (Qc (Q0 (Io T+Io Z3<=1099511627776)) (Qc (Q0 (Io U+Io u<=1099511627776)) (Qc (Q0 (Io G+Io M<=1099511627776)) (br b9 (br (Q0 (1<=H)) (re (Qe [str (G++M),Qd [str z.1,str z.2.1,str z.2.2.1,Qb,Qb,str z.2.2.2.1,Qb,Qb,
   str z.t.1,ai z.t.2.1,ai z.t.q.1,str z.t.q.2.1,str z.t.t.1,Qb,Qb,sl (Sh.str.pr Q5) z.t.t.2.1,str (zf.op z.t.t.q.1),ai (zf.v z.t.t.q.1).1,ai (zf.v z.t.t.q.1).2.1,str (zf.v z.t.t.q.1).2.2,
   str (zf.s z.t.t.q.1),sl Q5 (zf.l z.t.t.q.1),str z.t.t.q.2.1],AV.bool (Q0 (H<=8))]) []) (re (Qe [str (G++M),Qd [str z.1,str z.2.1,str z.2.2.1,Qb,Qb,str z.2.2.2.1,Qb,Qb,str z.t.1,ai z.t.2.1,ai z.t.q.1,
   str z.t.q.2.1,str z.t.t.1,Qb,Qb,sl (Sh.str.pr Q5) z.t.t.2.1,str (zf.op z.t.t.q.1),ai (zf.v z.t.t.q.1).1,ai (zf.v z.t.t.q.1).2.1,str (zf.v z.t.t.q.1).2.2,
   str (zf.s z.t.t.q.1),sl Q5 (zf.l z.t.t.q.1),str z.t.t.q.2.1],kb Q4]) [])) (re (Qe [str (G++M),Qd [str z.1,str z.2.1,str z.2.2.1,Qb,Qb,str z.2.2.2.1,Qb,Qb,str z.t.1,ai z.t.2.1,ai z.t.q.1,
   str z.t.q.2.1,str z.t.t.1,Qb,Qb,sl (Sh.str.pr Q5) z.t.t.2.1,str (zf.op z.t.t.q.1),ai (zf.v z.t.t.q.1).1,ai (zf.v z.t.t.q.1).2.1,str (zf.v z.t.t.q.1).2.2,str (zf.s z.t.t.q.1),
   sl Q5 (zf.l z.t.t.q.1),str z.t.t.q.2.1],kb Q4]) []))))))
def dN(h:Sem zn):=al [Q6,zn,Q7] mF 100000000 (gX h)
def ww(h:Sem zn):=(dN h).isSome
def BR(h:Sem zn):=o3 (dN h)
def zky:=FT [zn] [Q6,zn,Q7] λx=>dN x.1
theorem zgb:FK 86 zky:=C2.T1 (f:=Tryz.f86) (keep:=zoc) (e:=zqW)
def zdo:=UX.add 86 zky
theorem GI:zw zdo:=C2.add zgb
def zhy(o:Sem zn):Tr (Empty⊕aw):=
 let u:=(o.1,o.2.1,o.2.2.1,o.2.2.2.1,o.t.1,o.t.2.1,o.t.q.1,o.t.q.2.1,zm o.t.t.1,o.t.t.2.1,o.t.t.q.1,zm o.t.t.q.2.1,o.t.t.t)
 let h:=BR u
 let z:=!h.2.2
 let B:=!bv o.2.1
 let C:=(h.2.1.1,h.2.1.2.1,h.2.1.2.2.1,h.2.1.2.2.2.1,h.2.1.t.1,h.2.1.t.2.1,h.2.1.t.q.1,h.2.1.t.q.2.1,zm h.2.1.t.t.1,h.2.1.t.t.2.1,h.2.1.t.t.q.1,zm h.2.1.t.t.q.2.1,h.2.1.t.t.t)
 let D:=AB h.1
 Qc (ww u)
 (Qc (cond z Q3 (dQ o.2.1&&bif B then Q3 else BP C u))
  (br (cond z Q3 (cond B Q3 (!fu C u))) (re (Qe [str [],kb Q4]) []) (Qc (Js h.1) (br (!D.2) (re (Qe [str [],kb Q4]) []) (re (Qe [str h.1,kb Q3]) [])))))
def oR(h:Sem zn):=al [Q6,Q7] t0 100000000 (zhy h)
def iM(h:Sem zn):=(oR h).isSome
def lJ(h:Sem zn):=o2 (oR h)
def zjZ:=FT [zn] [Q6,Q7] λx=>oR x.1
theorem zfA:FK 44 zjZ:=GI.T1 (f:=Tryz.f44) (keep:=k0) (e:=e0)
def Ld:=zdo.add 44 zjZ
theorem GJ:zw Ld:=GI.add zfA
abbrev mV:List CP:=[.d .str,.d .str,.d .str,.vec .str,.nil,.d .str,.nil,.nil,.d .expr,.nil,.nil,.d .str,.d zg,.d zg,.d .str,.d .str,.nil,.d .str]
abbrev zap:List CP:=[.d .str,.d .str,.d .str,.vec .str,.nil,.d .str,.nil,.nil,.d .str,.d zg,.d zg,.d .str,.d .str,.nil,.nil,.nil,.d .str,.d zg,.d zg,.d .str,.d .str,.nil,.d .str]
abbrev Oe:Nat->aN:=λj=>if j=14 then{slots:=[0,1,4],prom:=[(1,Q1 3,.str)]}else if j=1000000 then{prom:=[(1,Q1 3,.str)]}else{ }
inductive sQ where
 |h14 (z0:zl aC) (z1:zl zap)
 |h14b (b4:Sem Q7) (z0:zl aC) (z1:zl zap)
abbrev KT:sQ->Nat×St
 |.h14 h z=>(14,⟨tm 117 [(0,Qf 0 0),(1,Qf 1 0),(4,kb Q3)],[Qa (bb [] aC h),Qa (bb [2] zap z),AO.vec Q6 z.2.2.2.1]⟩)
 |.h14b o h z=>(14,⟨tm 117 [(0,Qf 0 0),(1,Qf 1 0),(4,AV.bool o)],[Qa (bb [] aC h),Qa (bb [2] zap z),AO.vec Q6 z.2.2.2.1]⟩)
theorem zid:zO Ld.P 101 Tryz.f101 2:=bU kw
def VH(y:zl aC)(z:zl jg):Tr (sQ⊕aw):=
 let a0:=(y.1,y.2.1,y.2.2.1,())
 let a1:=fw a0 RV
 let a2:=(a1.2.1,a1.2.2.1,a1.2.2.2.1,())
 let a3:=bT a2
 let a4:=(a3.2.1,a3.2.2.1,a3.2.2.2.1,())
 let a5:=bI a4 uP
 let a6:=(a5.1,a5.2.1,a5.2.2.1,())
 let a7:=bT a6
 let a8:=(a7.2.1,a7.2.2.1,a7.2.2.2.1,())
 let a9:=([],z.2.2.2)
 let i0:=bI a8 [44]
 let j9:=(i0.1,i0.2.1,i0.2.2.1,())
 let U:=bT j9
 let k1:=(U.2.1,U.2.2.1,U.2.2.2.1,())
 let i1:=bI k1 Fw
 let k2:=(i1.1,i1.2.1,i1.2.2.1,())
 let W:=bT k2
 let k3:=(W.2.1,W.2.2.1,W.2.2.2.1,())
 let k4:=eT k3 ij
 let i2:=bI a8 Fu
 let k5:=(i2.1,i2.2.1,i2.2.2.1,())
 let X:=bT k5
 let i3:=[X.1]
 let k6:=(X.2.1,X.2.2.1,X.2.2.2.1,())
 let i4:=bI k6 Fx
 let k7:=(i4.1,i4.2.1,i4.2.2.1,())
 let Y:=bT k7
 let k8:=[Y.1]
 let k9:=(Y.2.1,Y.2.2.1,Y.2.2.2.1,())
 let l0:=eT k9 ij
 let l1:=eT a8 ij
 let Z:=fw a2 RX
 let h0:=(Z.2.1,Z.2.2.1,Z.2.2.2.1,())
 let B:=bT h0
 let l2:=(B.2.1,B.2.2.1,B.2.2.2.1,())
 let i5:=bI l2 uP
 let l3:=(i5.1,i5.2.1,i5.2.2.1,())
 let C:=bT l3
 let h:=(C.2.1,C.2.2.1,C.2.2.2.1,())
 let i6:=bI h [44]
 let l4:=(i6.1,i6.2.1,i6.2.2.1,())
 let h1:=bT l4
 let l5:=(h1.2.1,h1.2.2.1,h1.2.2.2.1,())
 let i7:=bI l5 Fw
 let l6:=(i7.1,i7.2.1,i7.2.2.1,())
 let h2:=bT l6
 let l7:=(h2.2.1,h2.2.2.1,h2.2.2.2.1,())
 let l8:=eT l7 ij
 let i8:=bI h Fu
 let l9:=(i8.1,i8.2.1,i8.2.2.1,())
 let h3:=bT l9
 let i9:=[h3.1]
 let m1:=(h3.2.1,h3.2.2.1,h3.2.2.2.1,())
 let j0:=bI m1 Fx
 let m2:=(j0.1,j0.2.1,j0.2.2.1,())
 let h4:=bT m2
 let m3:=[h4.1]
 let m4:=(h4.2.1,h4.2.2.1,h4.2.2.2.1,())
 let m6:=eT m4 ij
 let m7:=eT h ij
 let L:=fw h0 RW
 let m8:=(L.2.1,L.2.2.1,L.2.2.2.1,())
 let D:=bT m8
 let m9:=(D.2.1,D.2.2.1,D.2.2.2.1,())
 let j1:=bI m9 uP
 let n1:=(j1.1,j1.2.1,j1.2.2.1,())
 let E:=bT n1
 let o:=(E.2.1,E.2.2.1,E.2.2.2.1,())
 let j2:=bI o [44]
 let n2:=(j2.1,j2.2.1,j2.2.2.1,())
 let h5:=bT n2
 let n3:=(h5.2.1,h5.2.2.1,h5.2.2.2.1,())
 let j3:=bI n3 Fw
 let n4:=(j3.1,j3.2.1,j3.2.2.1,())
 let h6:=bT n4
 let n5:=(h6.2.1,h6.2.2.1,h6.2.2.2.1,())
 let n6:=eT n5 ij
 let j4:=bI o Fu
 let n7:=(j4.1,j4.2.1,j4.2.2.1,())
 let h7:=bT n7
 let j5:=[h7.1]
 let n8:=(h7.2.1,h7.2.2.1,h7.2.2.2.1,())
 let j6:=bI n8 Fx
 let n9:=(j6.1,j6.2.1,j6.2.2.1,())
 let h8:=bT n9
 let a85:=[h8.1]
 let a86:=(h8.2.1,h8.2.2.1,h8.2.2.2.1,())
 let a87:=eT a86 ij
 let a88:=eT o ij
 let a89:=(L.2.1,L.2.2.1,Q4,())
 let F:=bT a89
 let a91:=(F.2.1,F.2.2.1,F.2.2.2.1,())
 let j7:=bI a91 uP
 let a93:=(j7.1,j7.2.1,j7.2.2.1,())
 let G:=bT a93
 let u:=(G.2.1,G.2.2.1,G.2.2.2.1,())
 let j8:=bI u [44]
 let a97:=(j8.1,j8.2.1,j8.2.2.1,())
 let h9:=bT a97
 let a99:=(h9.2.1,h9.2.2.1,h9.2.2.2.1,())
 let M:=bI a99 Fw
 let x0:=(M.1,M.2.1,M.2.2.1,())
 let H:=bT x0
 let x1:=(H.2.1,H.2.2.1,H.2.2.2.1,())
 let x2:=eT x1 ij
 let O:=bI u Fu
 let x3:=(O.1,O.2.1,O.2.2.1,())
 let I:=bT x3
 let S:=[I.1]
 let x4:=(I.2.1,I.2.2.1,I.2.2.2.1,())
 let T:=bI x4 Fx
 let x5:=(T.1,T.2.1,T.2.2.1,())
 let J:=bT x5
 let x6:=[J.1]
 let x7:=(J.2.1,J.2.2.1,J.2.2.2.1,())
 let x8:=eT x7 ij
 let x9:=eT u ij
 Qc (eb a0 RV)
 (br a1.1
  (Qc (bu a2) (Qc (aW a4 uP) (Qc (bu a6) (br Q3 (Qc (aW a8 [40]) (Q9 (sQ.h14 (bI a8 [40]) (cT,a3.1,a7.1,a9)))) (br Q4 (Qc (aW a8 [44]) (Qc (bu j9) (Qc (aW k1 Fw) (Qc (bu k2) (Qc (dR k3 ij) (re (Qe []) (cr aC mV k4.2
  (cT,a3.1,a7.1,[],W.1,k4.1,z.t.t.2.1,z.t.t.q.1,z.t.t.q.2.1,z.t.t.t.1,z.t.t.t.2.1,U.1,())))))))) (br Q4 (Qc (aW a8 Fu) (Qc (bu k5) (Qc (Q0 (Io i3<=1073741824)) (Qc (aW k6 Fx) (Qc (bu k7)
  (Qc (Q0 (Io i3+Io k8<=1073741824)) (Qc (dR k9 ij) (re (Qe []) (cr aC mV l0.2 (cT,a3.1,a7.1,i3++k8,z.2.2.2.1,l0.1,z.t.t.2)))))))))) (Qc (dR a8 ij) (re (Qe []) (cr aC mV l1.2
  (cT,a3.1,a7.1,[],z.2.2.2.1,l1.1,z.t.t.2))))))))))
  (Qc (eb a2 RX) (br Z.1 (Qc (bu h0) (Qc (aW l2 uP) (Qc (bu l3) (br Q4 (Qc (aW h [40]) (Q9 (sQ.h14 (bI h [40]) (eX,B.1,C.1,a9)))) (br Q3 (Qc (aW h [44]) (Qc (bu l4) (Qc (aW l5 Fw) (Qc (bu l6)
  (Qc (dR l7 ij) (re (Qe []) (cr aC mV l8.2 (eX,B.1,C.1,[],h2.1,l8.1,z.t.t.2.1,z.t.t.q.1,z.t.t.q.2.1,z.t.t.t.1,z.t.t.t.2.1,h1.1,())))))))) (br Q4 (Qc (aW h Fu) (Qc (bu l9)
  (Qc (Q0 (Io i9<=1073741824)) (Qc (aW m1 Fx) (Qc (bu m2) (Qc (Q0 (Io i9+Io m3<=1073741824)) (Qc (dR m4 ij) (re (Qe []) (cr aC mV m6.2 (eX,B.1,C.1,i9++m3,z.2.2.2.1,m6.1,z.t.t.2)))))))))) (Qc (dR h ij)
  (re (Qe []) (cr aC mV m7.2 (eX,B.1,C.1,[],z.2.2.2.1,m7.1,z.t.t.2)))))))))) (Qc (eb h0 RW) (br L.1 (Qc (bu m8) (Qc (aW m9 uP) (Qc (bu n1) (br Q4 (Qc (aW o [40]) (Q9 (sQ.h14 (bI o [40]) (kq,D.1,E.1,a9))))
  (br Q4 (Qc (aW o [44]) (Qc (bu n2) (Qc (aW n3 Fw) (Qc (bu n4) (Qc (dR n5 ij) (re (Qe []) (cr aC mV n6.2 (kq,D.1,E.1,[],h6.1,n6.1,z.t.t.2.1,z.t.t.q.1,z.t.t.q.2.1,
  z.t.t.t.1,z.t.t.t.2.1,h5.1,())))))))) (br Q3 (Qc (aW o Fu) (Qc (bu n7) (Qc (Q0 (Io j5<=1073741824)) (Qc (aW n8 Fx) (Qc (bu n9) (Qc (Q0 (Io j5+Io a85<=1073741824)) (Qc (dR a86 ij) (re (Qe []) (cr aC mV a87.2
  (kq,D.1,E.1,j5++a85,z.2.2.2.1,a87.1,z.t.t.2)))))))))) (Qc (dR o ij) (re (Qe []) (cr aC mV a88.2 (kq,D.1,E.1,[],z.2.2.2.1,a88.1,z.t.t.2)))))))))) (Qc (bu a89) (Qc (aW a91 uP) (Qc (bu a93)
  (br (z.1==cT) (Qc (aW u [40]) (Q9 (sQ.h14 (bI u [40]) (z.1,F.1,G.1,a9)))) (br (z.1==eX) (Qc (aW u [44]) (Qc (bu a97) (Qc (aW a99 Fw) (Qc (bu x0) (Qc (dR x1 ij) (re (Qe []) (cr aC mV x2.2
  (z.1,F.1,G.1,[],H.1,x2.1,z.t.t.2.1,z.t.t.q.1,z.t.t.q.2.1,z.t.t.t.1,z.t.t.t.2.1,h9.1,())))))))) (br (z.1==kq) (Qc (aW u Fu) (Qc (bu x3) (Qc (Q0 (Io S<=1073741824)) (Qc (aW x4 Fx) (Qc (bu x5)
  (Qc (Q0 (Io S+Io x6<=1073741824)) (Qc (dR x7 ij) (re (Qe []) (cr aC mV x8.2 (z.1,F.1,G.1,S++x6,z.2.2.2.1,x8.1,z.t.t.2)))))))))) (Qc (dR u ij) (re (Qe []) (cr aC mV x9.2 (z.1,F.1,G.1,[],z.2.2.2.1,x9.1,z.t.t.2)))))))))))))))
theorem zg9(y:zl aC)(z:zl jg):rn Ld 2 Oe Tryz.f101 [Qf 0 0,Qf 1 0] (cr aC jg y z)=(VH y z).map (lf Tryz.f101 KT):=kw
def Ye:sQ->Tr (sQ⊕aw)
 | .h14 u z=>
  let h:=(u.1,u.2.1,u.2.2.1,())
  let o:=bT h
  let C:=[o.1]
  let D:=(o.2.1,o.2.2.1,o.2.2.2.1,())
  let E:=fw D [44]
  let B:=bI h [41]
  let F:=(B.1,B.2.1,B.2.2.1,())
  let G:=eT F ij
  br u.2.2.1
  (Qc (bu h)
   (Qc (Q0 (Io z.2.2.2.1+Io C<=1073741824)) (Qc (eb D [44]) (Q9 (sQ.h14b E.1 E.2 (z.1,z.2.1,z.2.2.1,z.2.2.2.1++C,z.t))))))
  (Qc (aW h [41])
   (Qc (dR F ij) (re (Qe []) (cr aC mV G.2 (z.1,z.2.1,z.2.2.1,z.2.2.2.1,z.t.1,G.1,z.t.t.q)))))
 | .h14b H u z=>
  let h:=(u.1,u.2.1,u.2.2.1,())
  let o:=bT h
  let C:=[o.1]
  let D:=(o.2.1,o.2.2.1,o.2.2.2.1,())
  let E:=fw D [44]
  let B:=bI h [41]
  let F:=(B.1,B.2.1,B.2.2.1,())
  let G:=eT F ij
  br (cond H u.2.2.1 Q4)
  (Qc (bu h)
   (Qc (Q0 (Io z.2.2.2.1+Io C<=1073741824)) (Qc (eb D [44]) (Q9 (sQ.h14b E.1 E.2 (z.1,z.2.1,z.2.2.1,z.2.2.2.1++C,z.t))))))
  (Qc (aW h [41])
   (Qc (dR F ij) (re (Qe []) (cr aC mV G.2 (z.1,z.2.1,z.2.2.1,z.2.2.2.1,z.t.1,G.1,z.t.t.q)))))
theorem zim:∀s,run Ld 2 Oe (Func.results Tryz.f101).toList 400 (aj Tryz.f101 (KT s).1) (KT s).2=(Ye s).map (lf Tryz.f101 KT)
 |.h14 z h=>by kernel_rfl
 |.h14b o z h=>by kernel_rfl
def XZ(y:zl aC)(z:zl jg):Option (zz (Qi Q1 [])×zl aC×zl mV):=Qx [] aC mV Ye 100000000 (VH y z)
def XY(y:zl aC)(z:zl jg):Bool:=(XZ y z).isSome
def zem(y:zl aC)(z:zl jg):zl aC×zl mV:=(λr:zz (Qi Q1 [])×zl aC×zl mV=>r.2) ((XZ y z).getD (bQ [],fK aC,fK mV))
def zcd:zZ:=Um aC jg [] [] aC mV (λy z _=>XY y z) λy z _=>((),zem y z)
theorem YW:FK 101 zcd:=zgq (ps:=aC) (qs:=jg) (ks:=[]) (outs:=[]) (keep:=Oe) (gas:=400) (n:=100000000) (e:=KT) (t:=Ye) (i:=λy z x=>VH y z) GJ zid (λy z x=>zg9 y z) zim (λ_ _ _=>by kernel_rfl) (λ_ _ _=>by kernel_rfl)
def zdp:=Ld.add 101 zcd
theorem GK:zw zdp:=GJ.add YW
end
end Cad
