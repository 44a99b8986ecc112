/- Plans. -/
import Derived.Test.YtjdjldbhjmgmkaaGreatDoorK12
namespace Cad
open Go Go.Proofs
open List renaming length→Io,map→Qi,drop→Qh,take→Qg
open IntKind renaming wrap→Γ,i64→Δ
open AV renaming ptr→Qf,tup→Qe,agg→Qd,nils→Qb
open Tr renaming chk→Qc,«to»→Q9
open AO renaming box→Qa
open Sh renaming bool→Q7,str→Q6,expr→Q5
open Bool renaming false→Q4,true→Q3
open Option renaming some→Q1
open Decidable renaming decide→Q0
open Int (toNat)
open List (getD)
open Tr (chk br re)
open AV (nils agg tup ptr kb str sl)
noncomputable section
set_option maxHeartbeats 4000000
abbrev nF:AV:=Qd [str [],str [],str [],str [],Qb,ai 0,Qb,Qb,str [],ai 0,ai 0,str [],str [],Qb,Qb,ai 0]
abbrev xV(z:zn az):AV:=Qd [str z.t.1,str z.t.2.1,str z.t.q.1,str z.t.q.2.1,AV.vec 0,ai z.t.t.2.1,Qb,Qb,str (za.op z.t.t.q.1),ai (za.v z.t.t.q.1).1,ai (za.v z.t.t.q.1).2.1,str (za.v z.t.t.q.1).2.2,str (za.s z.t.t.q.1),sl Q5 (za.l z.t.t.q.1),sl zj z.t.t.q.2.1,ai z.t.t.t.1]
abbrev Jb(z:zn bB):AV:=Qd [str z.t.1,str z.t.2.1,str z.t.q.1,str z.t.q.2.1,Qb,ai z.t.t.1,Qb,Qb,str (za.op z.t.t.2.1),ai (za.v z.t.t.2.1).1,ai (za.v z.t.t.2.1).2.1,str (za.v z.t.t.2.1).2.2,str (za.s z.t.t.2.1),sl Q5 (za.l z.t.t.2.1),Qb,ai z.t.t.q.1]
def Md(_:Sem zk.sl)(s:zJ)(_:za)(_:Sem Q6×Sem (Sh.str.pr (Sh.str.pr (Sh.str.sl.pr (zl.sl.pr (Sh.str.pr (Sh.str.sl.pr (ja.sl.pr (Sh.expr.pr (zf.sl.pr (io.sl.pr (Sh.expr.pr Q6))))))))))))(_ n o p:Bool)(_:Sem zk.sl×zn [CP.d ar,CP.d ak,CP.d ak,CP.d Q6,CP.d Q6,CP.d Q6,CP.d Q6,CP.nil,CP.d zj,CP.nil,CP.nil,CP.d Q5,CP.nil,CP.d zj])(q:Bool)(g:zq×zn bB)(j:Bool)(i:Sem zk.sl×zn [CP.d ar,CP.d ak,CP.d ak,CP.d Q6,CP.d Q6,CP.d Q6,CP.d Q6,CP.nil,CP.d zj,CP.nil,CP.nil,CP.d Q5,CP.nil,CP.d zj])(a:zq×zn az)(k:Sem zk.sl×zn [CP.d ar,CP.d ak,CP.d ak,CP.d Q6,CP.d Q6,CP.d Q6,CP.d Q6,CP.vec zl,CP.d zj,CP.nil,CP.nil,CP.d Q5,CP.d zj.sl,CP.d zj])(b h:zq×zn az)(l:Sem zk.sl×zn [CP.d ar,CP.d ak,CP.d ak,CP.d Q6,CP.d Q6,CP.d Q6,CP.d Q6,CP.vec zl,CP.d zj,CP.nil,CP.nil,CP.d Q5,CP.d zj.sl,CP.d zj])(c x:zq×zn az)(m:Sem zk.sl×zn [CP.d ar,CP.d ak,CP.d ak,CP.d Q6,CP.d Q6,CP.d Q6,CP.d Q6,CP.vec zl,CP.d zj,CP.nil,CP.nil,CP.d Q5,CP.d zj.sl,CP.d zj])(e:zq×zn az):Tr (Empty⊕aw):=
 Qc Q3 (Qc Q3 (Qc Q3 (br (s.1==dj) (Qc n (br o (re (Qe [nF,ai 1]) []) (Qc p (Qc q (br j (Qc (IZ i) (br (a.1==0) (Qc (gW k) (br (b.1!=0) (re (Qe [nF,ai b.1]) []) (re (Qe [(xV b.2),ai 0]) [AO.vec zl b.t.t.2.1]))) (br (a.1!=0) (re (Qe [nF,ai a.1]) []) (re (Qe [(xV a.2),ai 0]) [AO.vec zl a.t.t.2.1])))) (br j Tr.err (br (g.1!=0) (re (Qe [nF,ai g.1]) []) (re (Qe [(Jb g.2),ai 0]) [])))))))) (br (s.1==gj) (Qc n (br o (re (Qe [nF,ai 1]) []) (Qc p (Qc q (br j (Qc (I1 i) (br (h.1==0) (Qc (gW l) (br (c.1!=0) (re (Qe [nF,ai c.1]) []) (re (Qe [(xV c.2),ai 0]) [AO.vec zl c.t.t.2.1]))) (br (h.1!=0) (re (Qe [nF,ai h.1]) []) (re (Qe [(xV h.2),ai 0]) [AO.vec zl h.t.t.2.1])))) (br j Tr.err (br (g.1!=0) (re (Qe [nF,ai g.1]) []) (re (Qe [(Jb g.2),ai 0]) [])))))))) (br (s.1==lm) (Qc n (br o (re (Qe [nF,ai 1]) []) (Qc p (Qc q (br j (Qc (A9 i) (br (x.1==0) (Qc (gW m) (br (e.1!=0) (re (Qe [nF,ai e.1]) []) (re (Qe [(xV e.2),ai 0]) [AO.vec zl e.t.t.2.1]))) (br (x.1!=0) (re (Qe [nF,ai x.1]) []) (re (Qe [(xV x.2),ai 0]) [AO.vec zl x.t.t.2.1])))) (br j Tr.err (br (g.1!=0) (re (Qe [nF,ai g.1]) []) (re (Qe [(Jb g.2),ai 0]) [])))))))) (re (Qe [nF,ai 1]) []))))))
def zkj(k:Sem zk.sl)(x:zJ):Tr (Empty⊕aw):=
 let i:=zr x.t.t.1
 let j:=(x.1,x.2.1,x.2.2.1,x.2.2.2.1,x.t.1,x.t.2.1,x.t.q.1,x.t.q.2.1,i,x.t.t.2.1,x.t.t.q.1,zr x.t.t.q.2.1,x.t.t.t)
 let o:=!eF j
 let u:=pd j&&bif o then Q3 else oo k
 let v:=bif o then Q3 else ll k !=0
 let w:=oe 16 i
 let p:=(k,j,([],[],0,[],[],za.mk [] (0,0,[]) [] []),([],[],0,[],[],za.mk [] (0,0,[]) [] []),x.1,x.2.2.1,x.t.t.t,x.2.1,0,i,0,())
 let y:=nB p
 let s:=nA p
 let z:=s.1==0
 let a:=TU s.2
 let h:=Hj a
 let b:=Rh h.2
 let l:=fG b
 let c:=Hk a
 let d:=Rh c.2
 let m:=fG d
 let e:=xO a
 let g:=Rh e.2
 let n:=fG g
 Md k x i j o u v w p y s z a h b l c d m e g n
def MK(x:Sem zk.sl)(h:zJ):=ao [am,zj] t0 100000000 (zkj x h)
def zlK(x:Sem zk.sl)(h:zJ):=(MK x h).isSome
def pOf(x:Sem zk.sl)(h:zJ):=o2 (MK x h)
def zmy:=FT [zk.sl,ar] [am,zj] λx=>MK x.1 x.2.1
theorem zhh:FK 84 zmy:=GD.T1 (f:=Tryz.f84) (keep:=k0) (e:=e0)
def Ra:=zfL.add 84 zmy
theorem nl:zu Ra:=GD.add zhh
abbrev aI:List CP:=[.d (.sl zA),.d zj,.d .bool]
def zgh(x:Sem (Sh.int IntKind.u8)):Tr (Empty⊕aw):=
 let a:=bif Q0 (97<=x)then Q0 (x<=122)else Q4
 re (AV.bool (cond (Q0 (65<=x)) (cond (Q0 (x<=90)) Q3 a) a)) []
def nO(x:Sem (Sh.int IntKind.u8)):=ao [Q7] t0 100000000 (zgh x)
def nN(x:Sem (Sh.int IntKind.u8)):=(nO x).isSome
def qG(x:Sem (Sh.int IntKind.u8)):=o1 (nO x)
def zeF:=FT [Sh.int IntKind.u8] [Q7] λx=>nO x.1
theorem zaX:FK 131 zeF:=nl.T1 (f:=Tryz.f131) (keep:=k0) (e:=e0)
def zqB(x:Sem (Sh.int IntKind.u8)):Tr (Empty⊕aw):=
 re (AV.bool (cond (Q0 (48<=x)) (Q0 (x<=57)) Q4)) []
def vU(x:Sem (Sh.int IntKind.u8)):=ao [Q7] t0 100000000 (zqB x)
def jV(x:Sem (Sh.int IntKind.u8)):=(vU x).isSome
def kL(x:Sem (Sh.int IntKind.u8)):=o1 (vU x)
def zeI:=FT [Sh.int IntKind.u8] [Q7] λx=>vU x.1
theorem za0:FK 133 zeI:=nl.T1 (f:=Tryz.f133) (keep:=k0) (e:=e0)
abbrev zrG:=kl [(2,[0,1,5])]
inductive S0 where
 |h2 (l0:LS) (s1:TS) (i5:Int)
abbrev zur:S0->Nat×St
 |.h2 l s i=>(2,⟨tm 18 [(0,sl Q6 l),(1,str s),(5,ai i)],[]⟩)
def zvC(x:Sem Sh.str.sl)(h:TS):Tr (S0⊕aw):=
 Q9 (S0.h2 x h 0)
def Qj:S0->Tr (S0⊕aw)
 | .h2 l s i=>
  br (Q0 (i<(↑l.length:Int)))
  (Qc (zK i (Io l)) (br (l.getD i.toNat (zi Q6)==s) (re (kb Q3) []) (Q9 (S0.h2 l s (Γ Δ (i+1))))))
  (re (kb Q4) [])
def Sp(x:Sem Sh.str.sl)(h:TS):=ao [Q7] Qj 100000000 (zvC x h)
def Au(x:Sem Sh.str.sl)(h:TS):=(Sp x h).isSome
def Ng(x:Sem Sh.str.sl)(h:TS):=o1 (Sp x h)
def znT:=FT [Sh.str.sl,Q6] [Q7] λx=>Sp x.1 x.2.1
theorem ziJ:FK 128 znT:=nl.T1 (f:=Tryz.f128) (keep:=zrG) (e:=zur)
abbrev XS:Nat->aT:=λ_=>{ }
theorem zld:zM Ra.P 75 Tryz.f75 2:=bL kw
def Xl(y:zn aI)(e:TS):Tr (Empty⊕aw):=
 let x:=Q0 (y.2.1<(↑(Io y.1):Int))
 let a:=zK y.2.1 (Io y.1)
 let h:=getD y.1 (toNat y.2.1) (zi zA)
 let b:=h.1==1
 let c:=h.1==4
 let d:=h.2==e
 Qc (cond x (a&&bif b then a else a&&bif c then a else Q3) Q3)
 (re (AV.bool (cond x (cond b d (cond c d Q4)) Q4)) (aB aI y))
theorem zjS(y:zn aI)(x:TS):rn Ra 1 XS Tryz.f75 [Qf 0 0,zI Q6 x] (aB aI y)=(Xl y x).map (lf Tryz.f75 e0):=kw
def ZH(y:zn aI)(x:TS):Option (zD (Qi Q1 [Q7])×zn aI):=kJ [Q7] aI t0 100000000 (Xl y x)
def JS(y:zn aI)(x:TS):Bool:=(ZH y x).isSome
def Nm(y:zn aI)(x:TS):(Sem Q7)×zn aI:=(λr:zD (Qi Q1 [Q7])×zn aI=>(r.1.1,r.2)) ((ZH y x).getD (cA [Q7],fR aI))
def zen:z8:=sC aI [Q6] [Q7] aI (λy x=>JS y x.1) λy x=>(((Nm y x.1).1,()),(Nm y x.1).2)
theorem zaF:FK 75 zen:=ka (ps:=aI) (ks:=[Q6]) (outs:=[Q7]) (keep:=XS) (gas:=400) (n:=100000000) (e:=e0) (t:=t0) (i:=λy x=>Xl y x.1) nl zld (λy x=>zjS y x.1) (U6 _ _ _ _ _) (λ_ _=>by kernel_rfl) (λ_ _=>by kernel_rfl)
def p8:=Ra.addL [(131,zeF),(133,zeI),(128,znT),(75,zen)]
theorem jn:zu p8:=nl.addL<|fc zaX<|fc za0<|fc ziJ<|fc zaF iw
abbrev zkE:=kl [(2,[1,3])]
inductive BO where
 |h2 (i3:Int) (z0:zn [CP.d zf])
abbrev zpH:BO->Nat×St
 |.h2 i z=>(2,⟨tm 66 [(1,Qf 0 0),(3,ai i)],[Qa (bI [] [CP.d zf] z)]⟩)
def zgc(x:zo):Tr (BO⊕aw):=
 Q9 (BO.h2 0 (x,()))
def te:BO->Tr (BO⊕aw)
 | .h2 i z=>
  let x:=(↑(Io z.1.2.2):Int)
  let b:=zK i (Io z.1.2.2)
  let c:=(↑(getD z.1.2.2 i.toNat 0).toNat:Int)
  let d:=Q0 (c<32)
  let h:=z.1.2.1==0
  let a:=z.1.2.2==[]
  br (Q0 (i<x))
  (Qc (b&&bif d then Q3 else b)
   (br (cond d Q3 (Q0 (c>126))) (re (kb Q4) []) (Q9 (BO.h2 (Γ Δ (i+1)) z))))
  (br (z.1.1==0) (re (AV.bool (cond h a Q4)) [])
   (br (z.1.1==1) (re (AV.bool a) []) (br (z.1.1==2) (re (AV.bool (cond h (Q0 (x<=40)) Q4)) []) (br (z.1.1==3) (re (AV.bool (cond h a (cond (z.1.2.1==1) a Q4))) []) (re (kb Q4) [])))))
def Ji(x:zo):=ao [Q7] te 100000000 (zgc x)
def mI(x:zo):=(Ji x).isSome
def tc(x:zo):=o1 (Ji x)
def zee:=FT [zf] [Q7] λx=>Ji x.1
theorem zav:FK 104 zee:=jn.T1 (f:=Tryz.f104) (keep:=zkE) (e:=zpH)
def zqC(x:Sem Q7):Tr (Empty⊕aw):=
 br x (re (Qd [ai 3,ai 1,str []]) []) (re (Qd [ai 3,ai 0,str []]) [])
def vL(x:Sem Q7):=ao [zf] t0 100000000 (zqC x)
def lI(x:Sem Q7):=(vL x).isSome
def bn(x:Sem Q7):=o1 (vL x)
def zeM:=FT [Q7] [zf] λx=>vL x.1
theorem za4:FK 166 zeM:=jn.T1 (f:=Tryz.f166) (keep:=k0) (e:=e0)
abbrev XW:Nat->aT:=λ_=>{ }
theorem zlk:zM p8.P 240 Tryz.f240 1:=bL kw
def Xr(x:TS):Tr (Empty⊕aw):=
 re
 (AV.bool
  (bif x==ir then Q3
  else bif x==uG then Q3 else bif x==[61]then Q3 else bif x==[60]then Q3 else bif x==[43]then Q3 else x==[45]))
 []
theorem zj4(x:TS):rn p8 0 XW Tryz.f240 [zI Q6 x] []=(Xr x).map (lf Tryz.f240 e0):=kw
def PF(x:TS):Option (zD (Qi Q1 [Q7])):=ao [Q7] t0 100000000 (Xr x)
def Jr(x:TS):Bool:=(PF x).isSome
def Sl(x:TS):Sem Q7:=(λr:zD (Qi Q1 [Q7])=>r.1) ((PF x).getD (cA [Q7]))
def ze4:z8:=zY [Q6] [Q7] (λx=>Jr x.1) λx=>(Sl x.1,())
theorem zbl:FK 240 ze4:=lg (ks:=[Q6]) (outs:=[Q7]) (keep:=XW) (gas:=400) (n:=100000000) (e:=e0) (t:=t0) (i:=λx=>Xr x.1) jn zlk (λx=>zj4 x.1) (U6 _ _ _ _ _) (λ_=>by kernel_rfl) (λ_=>by kernel_rfl)
abbrev X5:Nat->aT:=λj=>if j=2 then{slots:=[0,1,5]}else{ }
inductive KM where
 |h2 (l0:LC) (s1:TS) (i5:Int)
abbrev Wb:KM->Nat×St
 |.h2 l s i=>(2,⟨tm 20 [(0,sl zl l),(1,str s),(5,ai i)],[]⟩)
theorem zsk:zM p8.P 64 Tryz.f64 2:=bL kw
def zcY(x:Sem zl.sl)(h:TS):Tr (KM⊕aw):=
 Q9 (KM.h2 x h 0)
def Kk(l:LC)(s:TS)(i:Int)(a:bX):Tr (KM⊕aw):=
 br (Q0 (i<(↑l.length:Int)))
 (Qc (zK i (Io l)) (br (a.1==s) (re (ai i) []) (Q9 (KM.h2 l s (Γ Δ (i+1))))))
 (re (ai (-1)) [])
def P8(l:LC)(s:TS)(i:Int):Tr (KM⊕aw):=
 let a:=l.getD i.toNat (zi zl)
 Kk l s i a
theorem zqd(x:Sem zl.sl)(h:TS):rn p8 0 X5 Tryz.f64 [zI zl.sl x,zI Q6 h] []=(zcY x h).map (lf Tryz.f64 Wb):=kw
def P7:KM->Tr (KM⊕aw)
 |.h2 l s i=>P8 l s i
theorem zsX:∀s,run p8 0 X5 (Func.results Tryz.f64).toList 400 (aa Tryz.f64 (Wb s).1) (Wb s).2=(P7 s).map (lf Tryz.f64 Wb)
 |.h2 l h i=>by kernel_rfl
def D8(x:Sem zl.sl)(h:TS):Option (zD (Qi Q1 [zj])):=ao [zj] P7 100000000 (zcY x h)
def eP(x:Sem zl.sl)(h:TS):Bool:=(D8 x h).isSome
def gw(x:Sem zl.sl)(h:TS):zq:=(λr:zD (Qi Q1 [zj])=>r.1) ((D8 x h).getD (cA [zj]))
def znk:z8:=zY [zl.sl,Q6] [zj] (λx=>eP x.1 x.2.1) λx=>(gw x.1 x.2.1,())
theorem zh6:FK 64 znk:=lg (ks:=[zl.sl,Q6]) (outs:=[zj]) (keep:=X5) (gas:=400) (n:=100000000) (e:=Wb) (t:=P7) (i:=λx=>zcY x.1 x.2.1) jn zsk (λx=>zqd x.1 x.2.1) zsX (λ_=>by kernel_rfl) (λ_=>by kernel_rfl)
def Lu(g:Sem Q5->Sem Q5->Sem Q7)(c:Sem Q5->Sem Q5->Bool):cd:=p8.add 95 (zY [Q5,Q5] [Q7] (λx=>c x.1 x.2.1) λx=>(g x.1 x.2.1,()))
theorem TE{g:Sem Q5->Sem Q5->Sem Q7}{c:Sem Q5->Sem Q5->Bool}(h:FK 95 (zY [Q5,Q5] [Q7] (λx=>c x.1 x.2.1) λx=>(g x.1 x.2.1,()))):zu (Lu g c):=jn.add h
abbrev X9:Nat->aT:=λj=>if j=4 then{slots:=[2,3,5]}else{ }
inductive KQ where
 |h4 (i5:Int) (z0:zn [CP.d Q5]) (z1:zn [CP.d Q5])
abbrev Wg:KQ->Nat×St
 |.h4 i z h=>(4,⟨tm 53 [(2,Qf 0 0),(3,Qf 1 0),(5,ai i)],[Qa (bI [] [CP.d Q5] z),Qa (bI [] [CP.d Q5] h)]⟩)
theorem zsH(g:Sem Q5->Sem Q5->Sem Q7)(c:Sem Q5->Sem Q5->Bool):zM (Lu g c).P 95 Tryz.f95 2:=bL kw
def Dk(_:Sem Q5->Sem Q5->Sem Q7)(_:Sem Q5->Sem Q5->Bool)(x h:Sem Q5):Tr (KQ⊕aw):=
 br
 (bif !za.op x==za.op h then Q3
 else
  bif !((za.v x).1==(za.v h).1&&((za.v x).2.1==(za.v h).2.1&&((za.v x).2.2==(za.v h).2.2&&Q3)))then Q3
  else bif !za.s x==za.s h then Q3 else(↑(za.l x).length:Int)!=(↑(za.l h).length:Int))
 (re (kb Q4) []) (Q9 (KQ.h4 0 (x,()) (h,())))
def BK(g:Sem Q5->Sem Q5->Sem Q7)(c:Sem Q5->Sem Q5->Bool)(i:Int)(z x:zn [CP.d Q5])(b:Int)(a h:za):Tr (KQ⊕aw):=
 br (Q0 (i<b))
 (Qc (zK i (za.l z.1).length)
  (Qc (zK i (za.l x.1).length) (Qc (c a h) (br (!g a h) (re (kb Q4) []) (Q9 (KQ.h4 (Γ Δ (i+1)) z x))))))
 (re (kb Q3) [])
def Kq(g:Sem Q5->Sem Q5->Sem Q7)(c:Sem Q5->Sem Q5->Bool)(i:Int)(z h:zn [CP.d Q5]):Tr (KQ⊕aw):=
 let a:=(↑(za.l z.1).length:Int)
 let x:=zr ((za.l z.1).getD i.toNat (zi Q5))
 let b:=zr ((za.l h.1).getD i.toNat (zi Q5))
 BK g c i z h a x b
theorem zqp(g:Sem Q5->Sem Q5->Sem Q7)(c:Sem Q5->Sem Q5->Bool)(x h:Sem Q5):rn (Lu g c) 0 X9 Tryz.f95 [zI Q5 x,zI Q5 h] []=(Dk g c x h).map (lf Tryz.f95 Wg):=kw
def Ko(g:Sem Q5->Sem Q5->Sem Q7)(c:Sem Q5->Sem Q5->Bool):KQ->Tr (KQ⊕aw)
 |.h4 i z h=>Kq g c i z h
theorem zs5(g:Sem Q5->Sem Q5->Sem Q7)(c:Sem Q5->Sem Q5->Bool):∀s,run (Lu g c) 0 X9 (Func.results Tryz.f95).toList 400 (aa Tryz.f95 (Wg s).1) (Wg s).2=(Ko g c s).map (lf Tryz.f95 Wg)
 |.h4 i z h=>by kernel_rfl
def hA(o:Option (zD (Qi Q1 [Q7]))):Sem Q7:=(λr:zD (Qi Q1 [Q7])=>r.1) (o.getD (cA [Q7]))
def Jm(g:Sem Q5->Sem Q5->Sem Q7)(c:Sem Q5->Sem Q5->Bool)(x h:Sem Q5):Option (zD (Qi Q1 [Q7])):=ao [Q7] (Ko g c) 3000000000 (Dk g c x h)
def cq:Nat->Sem Q5->Sem Q5->Option (zD (Qi Q1 [Q7]))
 |0=>λ_ _=>none
 |n+1=>Jm (λx h=>hA (cq n x h)) λx h=>(cq n x h).isSome
theorem zkB:zM p8.P 95 Tryz.f95 2:=bL kw
theorem Qw:∀n,FK 95 (zY [Q5,Q5] [Q7] (λx=>(cq n x.1 x.2.1).isSome) λx=>(hA (cq n x.1 x.2.1),()))
 |0=>eH ⟨Tryz.f95,zkB.1,zkB.2.1,zkB.2.2.1⟩ (λ_=>rfl)
 |n+1=>lg (E:=Lu (λh a=>hA (cq n h a)) (λh a=>(cq n h a).isSome)) (ks:=[Q5,Q5]) (outs:=[Q7]) (keep:=X9) (gas:=400) (n:=3000000000) (e:=Wg) (t:=Ko (λh a=>hA (cq n h a)) (λh a=>(cq n h a).isSome)) (i:=λx=>Dk (λh a=>hA (cq n h a)) (λh a=>(cq n h a).isSome) x.1 x.2.1) (TE (Qw n)) (zsH _ _) (λx=>zqp _ _ x.1 x.2.1) (zs5 _ _) (λ_=>by kernel_rfl) (λ_=>by kernel_rfl)
def Bk(x h:Sem Q5):Option (zD (Qi Q1 [Q7])):=cq 16 x h
def g9(x h:Sem Q5):Bool:=(Bk x h).isSome
def fz(x h:Sem Q5):Sem Q7:=hA (Bk x h)
def znO:z8:=zY [Q5,Q5] [Q7] (λx=>g9 x.1 x.2.1) λx=>(fz x.1 x.2.1,())
theorem ziE:FK 95 znO:=Qw 16
def Cs(g:Sem Q5->zq)(c:Sem Q5->Bool):cd:=p8.add 194 (zY [Q5] [zj] (λx=>c x.1) λx=>(g x.1,()))
variable {c:Sem Q5->Bool}
theorem OA{g:Sem Q5->zq}(h:FK 194 (zY [Q5] [zj] (λx=>c x.1) λx=>(g x.1,()))):zu (Cs g c):=jn.add h
abbrev Pe:Nat->aT:=λj=>if j=3 then{slots:=[1,3,4]}else{ }
inductive uw where
 |h3 (i3:Int) (i4:Int) (z0:zn [CP.d Q5])
abbrev Lj:uw->Nat×St
 |.h3 i h z=>(3,⟨tm 21 [(1,Qf 0 0),(3,ai i),(4,ai h)],[Qa (bI [] [CP.d Q5] z)]⟩)
theorem zli(g:Sem Q5->zq)(c:Sem Q5->Bool):zM (Cs g c).P 194 Tryz.f194 1:=bL kw
def Ru(_:Sem Q5->zq)(_:Sem Q5->Bool)(x:Sem Q5):Tr (uw⊕aw):=
 Q9 (uw.h3 1 0 (x,()))
def EW(g:Sem Q5->zq)(c:Sem Q5->Bool)(h i:Int)(z:zn [CP.d Q5])(x:Int)(a:za):Tr (uw⊕aw):=
 br (Q0 (i<x))
 (Qc (zK i (za.l z.1).length) (Qc (c a) (Q9 (uw.h3 (Γ Δ (h+g a)) (Γ Δ (i+1)) z))))
 (re (ai h) [])
def Ke(g:Sem Q5->zq)(c:Sem Q5->Bool)(x i:Int)(z:zn [CP.d Q5]):Tr (uw⊕aw):=
 let a:=(↑(za.l z.1).length:Int)
 let h:=zr ((za.l z.1).getD i.toNat (zi Q5))
 EW g c x i z a h
theorem zj0(g:Sem Q5->zq)(c:Sem Q5->Bool)(x:Sem Q5):rn (Cs g c) 0 Pe Tryz.f194 [zI Q5 x] []=(Ru g c x).map (lf Tryz.f194 Lj):=kw
def EV(g:Sem Q5->zq)(c:Sem Q5->Bool):uw->Tr (uw⊕aw)
 |.h3 i h z=>Ke g c i h z
theorem zlt(g:Sem Q5->zq)(c:Sem Q5->Bool):∀s,run (Cs g c) 0 Pe (Func.results Tryz.f194).toList 400 (aa Tryz.f194 (Lj s).1) (Lj s).2=(EV g c s).map (lf Tryz.f194 Lj)
 |.h3 i h z=>by kernel_rfl
def iO(o:Option (zD (Qi Q1 [zj]))):zq:=(λr:zD (Qi Q1 [zj])=>r.1) (o.getD (cA [zj]))
def M3(g:Sem Q5->zq)(c:Sem Q5->Bool)(x:Sem Q5):Option (zD (Qi Q1 [zj])):=ao [zj] (EV g c) 100000000 (Ru g c x)
def cN:Nat->Sem Q5->Option (zD (Qi Q1 [zj]))
 |0=>λ_=>none
 |n+1=>M3 (λx=>iO (cN n x)) λx=>(cN n x).isSome
theorem XL:zM p8.P 194 Tryz.f194 1:=bL kw
theorem KH:∀n,FK 194 (zY [Q5] [zj] (λx=>(cN n x.1).isSome) λx=>(iO (cN n x.1),()))
 |0=>eH ⟨Tryz.f194,XL.1,XL.2.1,XL.2.2.1⟩ (λ_=>rfl)
 |n+1=>lg (E:=Cs (λh=>iO (cN n h)) (λh=>(cN n h).isSome)) (ks:=[Q5]) (outs:=[zj]) (keep:=Pe) (gas:=400) (n:=100000000) (e:=Lj) (t:=EV (λh=>iO (cN n h)) (λh=>(cN n h).isSome)) (i:=λx=>Ru (λh=>iO (cN n h)) (λh=>(cN n h).isSome) x.1) (OA (KH n)) (zli _ _) (λx=>zj0 _ _ x.1) (zlt _ _) (λ_=>by kernel_rfl) (λ_=>by kernel_rfl)
def D7(x:Sem Q5):Option (zD (Qi Q1 [zj])):=cN 16 x
def vO(x:Sem Q5):Bool:=(D7 x).isSome
def Bn(x:Sem Q5):zq:=iO (D7 x)
def zeL:z8:=zY [Q5] [zj] (λx=>vO x.1) λx=>(Bn x.1,())
theorem za3:FK 194 zeL:=KH 16
def Iw:=p8.addL [(104,zee),(166,zeM),(240,ze4),(64,znk),(95,znO),(194,zeL)]
theorem lu:zu Iw:=jn.addL<|fc zav<|fc za4<|fc zbl<|fc zh6<|fc ziE<|fc za3 iw
def zgi(x:Sem (Sh.int IntKind.u8)):Tr (Empty⊕aw):=
 Qc (jV x&&bif kL x then Q3 else nN x) (re (AV.bool (cond (kL x) Q3 (cond (qG x) Q3 (x==95)))) [])
def vW(x:Sem (Sh.int IntKind.u8)):=ao [Q7] t0 100000000 (zgi x)
def vV(x:Sem (Sh.int IntKind.u8)):=(vW x).isSome
def Ek(x:Sem (Sh.int IntKind.u8)):=o1 (vW x)
def zeH:=FT [Sh.int IntKind.u8] [Q7] λx=>vW x.1
theorem zaZ:FK 132 zeH:=lu.T1 (f:=Tryz.f132) (keep:=k0) (e:=e0)
abbrev zkO:=kl [(3,[0,3,4])]
inductive FV where
 |h3 (s0:TS) (l3:LS) (i4:Int)
abbrev zpO:FV->Nat×St
 |.h3 s l i=>(3,⟨tm 18 [(0,str s),(3,sl Q6 l),(4,ai i)],[]⟩)
def Xo(x:TS):Tr (FV⊕aw):=
 Q9
 (FV.h3 x
  [VN,[79,82],[78,79,84],[73,83],Ft,Ik,Ij,zb7,zcj,[75,69,89],[85,78,73,81,85,69],zpx,iq,zcb,zcd,
  zce,zcl,zck,[83,69,84],ma,zb9,uF,zci,zcc,zcg,Ti,[87,82,73,84,69],Fu,[84,79],
  zcf,Tf,Th,Tg,Fs,Fv,Cc,Cd,Cb]
  0)
def EU:FV->Tr (FV⊕aw)
 | .h3 s l i=>
  br (Q0 (i<(↑l.length:Int)))
  (Qc (zK i (Io l)) (br (l.getD i.toNat (zi Q6)==s) (re (kb Q3) []) (Q9 (FV.h3 s l (Γ Δ (i+1))))))
  (re (kb Q4) [])
def JH(x:TS):=ao [Q7] EU 100000000 (Xo x)
def En(x:TS):=(JH x).isSome
def Nc(x:TS):=o1 (JH x)
def zeD:=FT [Q6] [Q7] λx=>JH x.1
theorem zaV:FK 135 zeD:=lu.T1 (f:=Tryz.f135) (keep:=zkO) (e:=zpO)
abbrev XO:Nat->aT:=λ_=>{ }
theorem zk9:zM Iw.P 68 Tryz.f68 2:=bL kw
def Xh(y:zn aI)(x:TS):Tr (Empty⊕aw):=
 let h:=(y.1,y.2.1,y.2.2.1,())
 let a:=Nm h x
 Qc (JS h x)
 (br a.1 (re (kb Q3) (aB aI (a.2.1,Γ Δ (a.2.2.1+1),a.2.2.2)))
  (re (kb Q4) (aB aI a.2)))
theorem zjO(y:zn aI)(x:TS):rn Iw 1 XO Tryz.f68 [Qf 0 0,zI Q6 x] (aB aI y)=(Xh y x).map (lf Tryz.f68 e0):=kw
def Sw(y:zn aI)(x:TS):Option (zD (Qi Q1 [Q7])×zn aI):=kJ [Q7] aI t0 100000000 (Xh y x)
def eh(y:zn aI)(x:TS):Bool:=(Sw y x).isSome
def fB(y:zn aI)(x:TS):(Sem Q7)×zn aI:=(λr:zD (Qi Q1 [Q7])×zn aI=>(r.1.1,r.2)) ((Sw y x).getD (cA [Q7],fR aI))
def zei:z8:=sC aI [Q6] [Q7] aI (λy x=>eh y x.1) λy x=>(((fB y x.1).1,()),(fB y x.1).2)
theorem zaz:FK 68 zei:=ka (ps:=aI) (ks:=[Q6]) (outs:=[Q7]) (keep:=XO) (gas:=400) (n:=100000000) (e:=e0) (t:=t0) (i:=λy x=>Xh y x.1) lu zk9 (λy x=>zjO y x.1) (U6 _ _ _ _ _) (λ_ _=>by kernel_rfl) (λ_ _=>by kernel_rfl)
abbrev zrF:=kl [(6,[2,3,5]),(11,[2,3,6]),(16,[2,3,7]),(21,[2,3,8]),(26,[2,3,9]),(31,[2,3,10])]
inductive sA where
 |h6 (i5:Int) (z0:zn pG) (z1:zn pG)
 |h11 (i6:Int) (z0:zn pG) (z1:zn pG)
 |h16 (i7:Int) (z0:zn pG) (z1:zn pG)
 |h21 (i8:Int) (z0:zn pG) (z1:zn pG)
 |h26 (i9:Int) (z0:zn pG) (z1:zn pG)
 |h31 (i10:Int) (z0:zn pG) (z1:zn pG)
abbrev zuq:sA->Nat×St
 |.h6 x z h=>(6,⟨tm 238 [(2,Qf 0 0),(3,Qf 1 0),(5,ai x)],[Qa (bI [] pG z),Qa (bI [] pG h)]⟩)
 |.h11 a z h=>(11,⟨tm 238 [(2,Qf 0 0),(3,Qf 1 0),(6,ai a)],[Qa (bI [] pG z),Qa (bI [] pG h)]⟩)
 |.h16 b z h=>(16,⟨tm 238 [(2,Qf 0 0),(3,Qf 1 0),(7,ai b)],[Qa (bI [] pG z),Qa (bI [] pG h)]⟩)
 |.h21 c z h=>(21,⟨tm 238 [(2,Qf 0 0),(3,Qf 1 0),(8,ai c)],[Qa (bI [] pG z),Qa (bI [] pG h)]⟩)
 |.h26 d z h=>(26,⟨tm 238 [(2,Qf 0 0),(3,Qf 1 0),(9,ai d)],[Qa (bI [] pG z),Qa (bI [] pG h)]⟩)
 |.h31 i z h=>(31,⟨tm 238 [(2,Qf 0 0),(3,Qf 1 0),(10,ai i)],[Qa (bI [] pG z),Qa (bI [] pG h)]⟩)
def zc4(x h:zJ):Tr (sA⊕aw):=
 let a:=!x.1==h.1
 let b:=!x.2.1==h.2.1
 let c:=!x.2.2.1==h.2.2.1
 let d:=!x.t.2.1==h.t.2.1
 let e:=!x.t.t.t==h.t.t.t
 let g:=zr x.t.t.1
 let i:=zr h.t.t.1
 let j:=!fz g i
 let k:=zr x.t.t.q.2.1
 let l:=zr h.t.t.q.2.1
 Qc
 (bif a then Q3
 else bif b then Q3 else bif c then Q3 else bif d then Q3 else bif e then Q3 else g9 g i&&bif j then Q3 else g9 k l)
 (br (cond a Q3 (cond b Q3 (cond c Q3 (cond d Q3 (cond e Q3 (cond j Q3 (!fz k l)))))))
  (re (kb Q4) [])
  (br (bif (↑(Io x.2.2.2.1):Int)!=(↑(Io h.2.2.2.1):Int)then Q3 else bif (↑(Io x.t.1):Int)!=(↑(Io h.t.1):Int)then Q3 else bif (↑(Io x.t.q.1):Int)!=(↑(Io h.t.q.1):Int)then Q3 else bif (↑(Io x.t.q.2.1):Int)!=(↑(Io h.t.q.2.1):Int)then Q3
  else bif (↑(Io x.t.t.2.1):Int)!=(↑(Io h.t.t.2.1):Int)then Q3 else(↑(Io x.t.t.q.1):Int)!=(↑(Io h.t.t.q.1):Int)) (re (kb Q4) []) (Q9 (sA.h6 0 (x,()) (h,())))))
def uo:sA->Tr (sA⊕aw)
 | .h6 c z h=>
  let b:=(↑(Io z.1.2.2.2.1):Int)
  br (Q0 (c<b))
  (Qc (zK c (Io z.1.2.2.2.1))
   (Qc (zK c (Io h.1.2.2.2.1)) (br (!getD z.1.2.2.2.1 c.toNat (zi Q6)==getD h.1.2.2.2.1 c.toNat (zi Q6)) (re (kb Q4) []) (Q9 (sA.h6 (Γ Δ (c+1)) z h)))))
  (Q9 (sA.h11 0 z h))
 | .h11 d z h=>
  let b:=(↑(Io z.1.t.1):Int)
  let a:=getD z.1.t.1 d.toNat (zi zl)
  let x:=getD h.1.t.1 d.toNat (zi zl)
  br (Q0 (d<b))
  (Qc (zK d (Io z.1.t.1))
   (Qc (zK d (Io h.1.t.1)) (br (!(a.1==x.1&&(a.2.1==x.2.1&&(a.2.2==x.2.2&&Q3)))) (re (kb Q4) []) (Q9 (sA.h11 (Γ Δ (d+1)) z h)))))
  (Q9 (sA.h16 0 z h))
 | .h16 e z h=>
  let b:=(↑(Io z.1.t.q.1):Int)
  br (Q0 (e<b))
  (Qc (zK e (Io z.1.t.q.1))
   (Qc (zK e (Io h.1.t.q.1)) (br (!getD z.1.t.q.1 e.toNat (zi Q6)==getD h.1.t.q.1 e.toNat (zi Q6)) (re (kb Q4) []) (Q9 (sA.h16 (Γ Δ (e+1)) z h)))))
  (Q9 (sA.h21 0 z h))
 | .h21 g z h=>
  let b:=(↑(Io z.1.t.q.2.1):Int)
  let a:=getD z.1.t.q.2.1 g.toNat (zi ja)
  let x:=getD h.1.t.q.2.1 g.toNat (zi ja)
  br (Q0 (g<b))
  (Qc (zK g (Io z.1.t.q.2.1))
   (Qc (zK g (Io h.1.t.q.2.1)) (br (!(a.1==x.1&&(a.2==x.2&&Q3))) (re (kb Q4) []) (Q9 (sA.h21 (Γ Δ (g+1)) z h)))))
  (Q9 (sA.h26 0 z h))
 | .h26 j z h=>
  let b:=(↑(Io z.1.t.t.2.1):Int)
  let a:=getD z.1.t.t.2.1 j.toNat (zi zf)
  let x:=getD h.1.t.t.2.1 j.toNat (zi zf)
  br (Q0 (j<b))
  (Qc (zK j (Io z.1.t.t.2.1))
   (Qc (zK j (Io h.1.t.t.2.1)) (br (!(a.1==x.1&&(a.2.1==x.2.1&&(a.2.2==x.2.2&&Q3)))) (re (kb Q4) []) (Q9 (sA.h26 (Γ Δ (j+1)) z h)))))
  (Q9 (sA.h31 0 z h))
 | .h31 i z h=>
  let b:=(↑(Io z.1.t.t.q.1):Int)
  let a:=zK i (Io z.1.t.t.q.1)
  let x:=zK i (Io h.1.t.t.q.1)
  let k:=getD z.1.t.t.q.1 i.toNat (zi io)
  let l:=getD h.1.t.t.q.1 i.toNat (zi io)
  let m:=!k.1==l.1
  let n:=zr k.2
  let o:=zr l.2
  br (Q0 (i<b))
  (Qc (a&&(x&&bif m then Q3 else a&&(x&&g9 n o)))
   (br (cond m Q3 (!fz n o)) (re (kb Q4) []) (Q9 (sA.h31 (Γ Δ (i+1)) z h))))
  (re (kb Q3) [])
def r9(x h:zJ):=ao [Q7] uo 100000000 (zc4 x h)
def Bu(x h:zJ):=(r9 x h).isSome
def fA(x h:zJ):=o1 (r9 x h)
def znR:=FT [ar,ar] [Q7] λx=>r9 x.1 x.2.1
theorem ziH:FK 125 znR:=lu.T1 (f:=Tryz.f125) (keep:=zrF) (e:=zuq)
def GH:=Iw.addL [(132,zeH),(135,zeD),(68,zei),(125,znR)]
theorem rk:zu GH:=lu.addL<|fc zaZ<|fc zaV<|fc zaz<|fc ziH iw
abbrev zkM:=kl [(2,[0,3])]
inductive FU where
 |h2 (s0:TS) (i3:Int)
abbrev zpN:FU->Nat×St
 |.h2 s i=>(2,⟨tm 28 [(0,str s),(3,ai i)],[]⟩)
def zgg(x:TS):Tr (FU⊕aw):=
 Q9 (FU.h2 x 0)
def wt:FU->Tr (FU⊕aw)
 | .h2 s i=>
  let a:=(↑(getD s i.toNat 0).toNat:Int)
  let h:=Q0 (1<=(↑(Io s):Int))
  let x:=Q0 ((↑(Io s):Int)<=16)
  let b:=(↑(getD s (toNat 0) 0).toNat:Int)
  br (Q0 (i<(↑(Io s):Int)))
  (Qc (zK i (Io s)) (Qc (vV a) (br (!Ek a) (re (kb Q4) []) (Q9 (FU.h2 s (Γ Δ (i+1)))))))
  (Qc (cond h (cond x (zK 0 (Io s)&&nN b) Q3) Q3)
   (re (AV.bool (cond h (cond x (qG b) Q4) Q4)) []))
def Bt(x:TS):=ao [Q7] wt 100000000 (zgg x)
def vT(x:TS):=(Bt x).isSome
def uh(x:TS):=o1 (Bt x)
def zeB:=FT [Q6] [Q7] λx=>Bt x.1
theorem zaT:FK 191 zeB:=rk.T1 (f:=Tryz.f191) (keep:=zkM) (e:=zpN)
abbrev XP:Nat->aT:=λ_=>{ }
theorem zla:zM GH.P 70 Tryz.f70 2:=bL kw
def Xi(y:zn aI)(x:TS):Tr (Empty⊕aw):=
 let h:=(y.1,y.2.1,y.2.2.1,())
 let a:=fB h x
 Qc (eh h x)
 (br (!a.1) (re (Qe []) [Qa [sl zA a.2.1,ai a.2.2.1,kb Q4]])
  (re (Qe []) (aB aI a.2)))
theorem zjP(y:zn aI)(x:TS):rn GH 1 XP Tryz.f70 [Qf 0 0,zI Q6 x] (aB aI y)=(Xi y x).map (lf Tryz.f70 e0):=kw
def Su(y:zn aI)(x:TS):Option (zD (Qi Q1 [])×zn aI):=kJ [] aI t0 100000000 (Xi y x)
def be(y:zn aI)(x:TS):Bool:=(Su y x).isSome
def bP(y:zn aI)(x:TS):zn aI:=(λr:zD (Qi Q1 [])×zn aI=>r.2) ((Su y x).getD (cA [],fR aI))
def zek:z8:=sC aI [Q6] [] aI (λy x=>be y x.1) λy x=>((),bP y x.1)
theorem zaC:FK 70 zek:=ka (ps:=aI) (ks:=[Q6]) (outs:=[]) (keep:=XP) (gas:=400) (n:=100000000) (e:=e0) (t:=t0) (i:=λy x=>Xi y x.1) rk zla (λy x=>zjP y x.1) (U6 _ _ _ _ _) (λ_ _=>by kernel_rfl) (λ_ _=>by kernel_rfl)
abbrev XQ:Nat->aT:=λ_=>{ }
theorem zlb:zM GH.P 71 Tryz.f71 1:=bL kw
def Xj(y:zn aI):Tr (Empty⊕aw):=
 let h:=Q0 (y.2.1<(↑(Io y.1):Int))
 let x:=zK y.2.1 (Io y.1)
 let a:=getD y.1 (toNat y.2.1) (zi zA)
 let b:=a.1==1
 let c:=Γ Δ (y.2.1+1)
 let d:=Γ Δ (c-1)
 let e:=getD y.1 d.toNat (zi zA)
 Qc (cond h (x&&bif b then x&&En a.2 else Q3) Q3)
 (br (cond h (cond b (!Nc a.2) Q4) Q4)
  (Qc (zK d (Io y.1)) (re (str e.2) (aB aI (y.1,c,y.2.2))))
  (re (str []) [Qa [sl zA y.1,ai y.2.1,kb Q4]]))
theorem zjQ(y:zn aI):rn GH 1 XQ Tryz.f71 [Qf 0 0] (aB aI y)=(Xj y).map (lf Tryz.f71 e0):=kw
def Sv(y:zn aI):Option (zD (Qi Q1 [Q6])×zn aI):=kJ [Q6] aI t0 100000000 (Xj y)
def bH(y:zn aI):Bool:=(Sv y).isSome
def ct(y:zn aI):(Sem Q6)×zn aI:=(λr:zD (Qi Q1 [Q6])×zn aI=>(r.1.1,r.2)) ((Sv y).getD (cA [Q6],fR aI))
def zel:z8:=sC aI [] [Q6] aI (λy _=>bH y) λy _=>(((ct y).1,()),(ct y).2)
theorem zaD:FK 71 zel:=ka (ps:=aI) (ks:=[]) (outs:=[Q6]) (keep:=XQ) (gas:=400) (n:=100000000) (e:=e0) (t:=t0) (i:=λy x=>Xj y) rk zlb (λy x=>zjQ y) (U6 _ _ _ _ _) (λ_ _=>by kernel_rfl) (λ_ _=>by kernel_rfl)
def GI:=GH.addL [(191,zeB),(70,zek),(71,zel)]
theorem no:zu GI:=rk.addL<|fc zaT<|fc zaC<|fc zaD iw
def zge(x:zo):Tr (Empty⊕aw):=
 Qc (mI x)
 (br (tc x) (re (Qd [ai x.1,ai x.2.1,str x.2.2]) [])
  (re (Qd [ai 0,ai 0,str []]) []))
def vM(x:zo):=ao [zf] t0 100000000 (zge x)
def rQ(x:zo):=(vM x).isSome
def fy(x:zo):=o1 (vM x)
def zeh:=FT [zf] [zf] λx=>vM x.1
theorem zay:FK 96 zeh:=no.T1 (f:=Tryz.f96) (keep:=k0) (e:=e0)
def zgd(h:zo)(x:Sem Q7):Tr (Empty⊕aw):=
 Qc (lI x) (re (AV.bool (h.1==(bn x).1&&(h.2.1==(bn x).2.1&&(h.2.2==(bn x).2.2&&Q3)))) [])
def MU(x:zo)(h:Sem Q7):=ao [Q7] t0 100000000 (zgd x h)
def nG(x:zo)(h:Sem Q7):=(MU x h).isSome
def qw(x:zo)(h:Sem Q7):=o1 (MU x h)
def zef:=FT [zf,Q7] [Q7] λx=>MU x.1 x.2.1
theorem zaw:FK 105 zef:=no.T1 (f:=Tryz.f105) (keep:=k0) (e:=e0)
def Iu(g:Sem Q5->zq->Sem Q7)(c:Sem Q5->zq->Bool):cd:=GI.add 193 (zY [Q5,zj] [Q7] (λx=>c x.1 x.2.1) λx=>(g x.1 x.2.1,()))
theorem Oz{g:Sem Q5->zq->Sem Q7}{c:Sem Q5->zq->Bool}(h:FK 193 (zY [Q5,zj] [Q7] (λx=>c x.1 x.2.1) λx=>(g x.1 x.2.1,()))):zu (Iu g c):=no.add h
abbrev XV:Nat->aT:=λ_=>{ }
theorem zlh(g:Sem Q5->zq->Sem Q7)(c:Sem Q5->zq->Bool):zM (Iu g c).P 193 Tryz.f193 2:=bL kw
def Rt(g:Sem Q5->zq->Sem Q7)(c:Sem Q5->zq->Bool)(x:Sem Q5)(o:zq):Tr (Empty⊕aw):=
 let d:=(↑(za.l x).length:Int)==0
 let a:=(za.v x).1==0&&((za.v x).2.1==0&&((za.v x).2.2==[]&&Q3))
 let e:=(↑(za.l x).length:Int)==1
 let i:=zK 0 (za.l x).length
 let j:=zr ((za.l x).getD (toNat 0) (zi Q5))
 let h:=Γ Δ (o-1)
 let k:=c j h
 let b:=g j h
 let m:=(↑(za.l x).length:Int)==2
 let n:=zr ((za.l x).getD (toNat 1) (zi Q5))
 br (o==0) (re (kb Q4) [])
 (br (za.op x==ot)
  (Qc (mI (za.v x)) (re (AV.bool (cond (tc (za.v x)) (cond (za.s x==[]) d Q4) Q4)) []))
  (br (za.op x==eK) (Qc (cond a (vT (za.s x)&&bif uh (za.s x)then En (za.s x)else Q3) Q3) (re (AV.bool (cond a (cond (uh (za.s x)) (cond (!Nc (za.s x)) d Q4) Q4) Q4)) [])) (br (cond (za.op x==ng) Q3 (za.op x==pk))
  (Qc (cond a (cond (za.s x==[]) (cond e (i&&k) Q3) Q3) Q3) (re (AV.bool (cond a (cond (za.s x==[]) (cond e b Q4) Q4) Q4)) [])) (Qc (Jr (za.op x)) (br (Sl (za.op x)) (Qc
  (cond a (cond (za.s x==[]) (cond m (i&&(k&&bif b then zK 1 (za.l x).length&&c n h else Q3)) Q3) Q3) Q3) (re (AV.bool (cond a (cond (za.s x==[]) (cond m (cond b (g n h) Q4) Q4) Q4) Q4)) [])) (re (kb Q4) []))))))
theorem zjZ(g:Sem Q5->zq->Sem Q7)(c:Sem Q5->zq->Bool)(x:Sem Q5)(h:zq):rn (Iu g c) 0 XV Tryz.f193 [zI Q5 x,zI zj h] []=(Rt g c x h).map (lf Tryz.f193 e0):=kw
def oU(o:Option (zD (Qi Q1 [Q7]))):Sem Q7:=(λr:zD (Qi Q1 [Q7])=>r.1) (o.getD (cA [Q7]))
def Jq(g:Sem Q5->zq->Sem Q7)(c:Sem Q5->zq->Bool)(x:Sem Q5)(h:zq):Option (zD (Qi Q1 [Q7])):=ao [Q7] t0 100000000 (Rt g c x h)
def gv:Nat->Sem Q5->zq->Option (zD (Qi Q1 [Q7]))
 |0=>λ_ _=>none
 |n+1=>Jq (λx h=>oU (gv n x h)) λx h=>(gv n x h).isSome
theorem XK:zM GI.P 193 Tryz.f193 2:=bL kw
theorem KG:∀n,FK 193 (zY [Q5,zj] [Q7] (λx=>(gv n x.1 x.2.1).isSome) λx=>(oU (gv n x.1 x.2.1),()))
 |0=>eH ⟨Tryz.f193,XK.1,XK.2.1,XK.2.2.1⟩ (λ_=>rfl)
 |n+1=>lg (E:=Iu (λh a=>oU (gv n h a)) (λh a=>(gv n h a).isSome)) (ks:=[Q5,zj]) (outs:=[Q7]) (keep:=XV) (gas:=400) (n:=100000000) (e:=e0) (t:=t0) (i:=λx=>Rt (λh a=>oU (gv n h a)) (λh a=>(gv n h a).isSome) x.1 x.2.1) (Oz (KG n)) (zlh _ _) (λx=>zjZ _ _ x.1 x.2.1) (U6 _ _ _ _ _) (λ_=>by kernel_rfl) (λ_=>by kernel_rfl)
def Jp(x:Sem Q5)(h:zq):Option (zD (Qi Q1 [Q7])):=gv 16 x h
def Bm(x:Sem Q5)(h:zq):Bool:=(Jp x h).isSome
def Jo(x:Sem Q5)(h:zq):Sem Q7:=oU (Jp x h)
def zeK:z8:=zY [Q5,zj] [Q7] (λx=>Bm x.1 x.2.1) λx=>(Jo x.1 x.2.1,())
theorem za2:FK 193 zeK:=KG 16
def Lv(g:Sem Q5->bY->zq×zq)(c:Sem Q5->bY->Bool):cd:=GI.add 130 (zY [Q5,Sh.sl zl] [zj,zj] (λx=>c x.1 x.2.1) λx=>((g x.1 x.2.1).1,(g x.1 x.2.1).2,()))
theorem TF{g:Sem Q5->bY->zq×zq}{c:Sem Q5->bY->Bool}(h:FK 130 (zY [Q5,Sh.sl zl] [zj,zj] (λx=>c x.1 x.2.1) λx=>((g x.1 x.2.1).1,(g x.1 x.2.1).2,()))):zu (Lv g c):=no.add h
abbrev Ya:Nat->aT:=λj=>if j=5 then{slots:=[1,2,6]}else{ }
inductive S1 where
 |h5 (l1:LC) (i6:Int) (z0:zn [CP.d Q5])
abbrev Wh:S1->Nat×St
 |.h5 l i z=>(5,⟨tm 116 [(1,sl zl l),(2,Qf 0 0),(6,ai i)],[Qa (bI [] [CP.d Q5] z)]⟩)
theorem zsJ(g:Sem Q5->Sem zl.sl->zq×zq)(c:Sem Q5->Sem zl.sl->Bool):zM (Lv g c).P 130 Tryz.f130 2:=bL kw
def Dl(g:Sem Q5->Sem zl.sl->zq×zq)(c:Sem Q5->Sem zl.sl->Bool)(x:Sem Q5)(o:Sem zl.sl):Tr (S1⊕aw):=
 let q:=zr ((za.l x).getD (toNat 0) (zi Q5))
 let h:=g q o
 let s:=zr ((za.l x).getD (toNat 1) (zi Q5))
 let j:=g s o
 let t:=za.op x==pk
 let u:=za.op x==[61]
 let a:=h.1!=0
 let p:=j.1!=0
 let w:=za.op x==[60]
 let y:=za.op x==[43]
 let b:=h.1!=1
 let d:=bif p then j.1!=1 else Q4
 let k:=za.op x==[45]
 let i:=h.1!=3
 let m:=bif p then j.1!=3 else Q4
 let e:=bif a then b else Q4
 let n:=bif a then i else Q4
 br (za.op x==ot) (re (Qe [ai (za.v x).1,ai 0]) [])
 (br (za.op x==eK) (Q9 (S1.h5 o 0 (x,())))
  (Qc (zK 0 (za.l x).length) (Qc (c q o) (br (h.2!=0) (re (Qe [ai 0,ai h.2]) []) (br ((↑(za.l x).length:Int)==2) (Qc (zK 1 (za.l x).length) (Qc (c s o) (br (j.2!=0) (re (Qe [ai 0,ai j.2]) []) (br t (re (Qe [ai 3,ai 0]) []) (br u
  (br (cond a (cond p (h.1!=j.1) Q4) Q4) (re (Qe [ai 0,ai 5]) []) (re (Qe [ai 3,ai 0]) [])) (br w (br (cond a (cond p (h.1!=j.1) Q4) Q4) (re (Qe [ai 0,ai 5]) []) (re (Qe [ai 3,ai 0]) [])) (br y
  (br (cond a (cond b Q3 d) d) (re (Qe [ai 0,ai 5]) []) (re (Qe [ai 1,ai 0]) [])) (br k (br (cond a (cond b Q3 d) d) (re (Qe [ai 0,ai 5]) []) (re (Qe [ai 1,ai 0]) []))
  (br (cond a (cond i Q3 m) m) (re (Qe [ai 0,ai 5]) []) (re (Qe [ai 3,ai 0]) [])))))))))) (br t (re (Qe [ai 3,ai 0]) []) (br u (br (cond a (cond a (h.1!=h.1) Q4) Q4) (re (Qe [ai 0,ai 5]) [])
  (re (Qe [ai 3,ai 0]) [])) (br w (br (cond a (cond a (h.1!=h.1) Q4) Q4) (re (Qe [ai 0,ai 5]) []) (re (Qe [ai 3,ai 0]) [])) (br y (br (cond a (cond b Q3 e) e) (re (Qe [ai 0,ai 5]) [])
  (re (Qe [ai 1,ai 0]) [])) (br k (br (cond a (cond b Q3 e) e) (re (Qe [ai 0,ai 5]) []) (re (Qe [ai 1,ai 0]) [])) (br (cond a (cond i Q3 n) n) (re (Qe [ai 0,ai 5]) []) (re (Qe [ai 3,ai 0]) []))))))))))))
theorem zqq(g:Sem Q5->Sem zl.sl->zq×zq)(c:Sem Q5->Sem zl.sl->Bool)(x:Sem Q5)(h:Sem zl.sl):rn (Lv g c) 0 Ya Tryz.f130 [zI Q5 x,zI zl.sl h] []=(Dl g c x h).map (lf Tryz.f130 Wh):=kw
def NL(_:Sem Q5->Sem zl.sl->zq×zq)(_:Sem Q5->Sem zl.sl->Bool):S1->Tr (S1⊕aw)
 | .h5 l i z=>
  let a:=l.getD i.toNat (zi zl)
  br (Q0 (i<(↑l.length:Int)))
  (Qc (zK i (Io l))
   (br (a.1==za.s z.1) (Qc (zK i (Io l)) (re (Qe [ai a.2.1,ai 0]) [])) (Q9 (S1.h5 l (Γ Δ (i+1)) z))))
  (re (Qe [ai 0,ai 4]) [])
theorem zs6(g:Sem Q5->Sem zl.sl->zq×zq)(c:Sem Q5->Sem zl.sl->Bool):∀s,run (Lv g c) 0 Ya (Func.results Tryz.f130).toList 400 (aa Tryz.f130 (Wh s).1) (Wh s).2=(NL g c s).map (lf Tryz.f130 Wh)
 |.h5 l i z=>by kernel_rfl
def gu(o:Option (zD (Qi Q1 [zj,zj]))):zq×zq:=(λr:zD (Qi Q1 [zj,zj])=>(r.1,r.2.1)) (o.getD (cA [zj,zj]))
def Sk(g:Sem Q5->Sem zl.sl->zq×zq)(c:Sem Q5->Sem zl.sl->Bool)(x:Sem Q5)(h:Sem zl.sl):Option (zD (Qi Q1 [zj,zj])):=ao [zj,zj] (NL g c) 100000000 (Dl g c x h)
def cw:Nat->Sem Q5->Sem zl.sl->Option (zD (Qi Q1 [zj,zj]))
 |0=>λ_ _=>none
 |n+1=>Sk (λx h=>gu (cw n x h)) λx h=>(cw n x h).isSome
theorem zkC:zM GI.P 130 Tryz.f130 2:=bL kw
theorem Qx:∀n,FK 130 (zY [Q5,zl.sl] [zj,zj] (λx=>(cw n x.1 x.2.1).isSome) λx=>((gu (cw n x.1 x.2.1)).1,(gu (cw n x.1 x.2.1)).2,()))
 |0=>eH ⟨Tryz.f130,zkC.1,zkC.2.1,zkC.2.2.1⟩ (λ_=>rfl)
 |n+1=>lg (E:=Lv (λh a=>gu (cw n h a)) (λh a=>(cw n h a).isSome)) (ks:=[Q5,zl.sl]) (outs:=[zj,zj]) (keep:=Ya) (gas:=400) (n:=100000000) (e:=Wh) (t:=NL (λh a=>gu (cw n h a)) (λh a=>(cw n h a).isSome)) (i:=λx=>Dl (λh a=>gu (cw n h a)) (λh a=>(cw n h a).isSome) x.1 x.2.1) (TF (Qx n)) (zsJ _ _) (λx=>zqq _ _ x.1 x.2.1) (zs6 _ _) (λ_=>by kernel_rfl) (λ_=>by kernel_rfl)
def Bl(x:Sem Q5)(h:Sem zl.sl):Option (zD (Qi Q1 [zj,zj])):=cw 16 x h
def oT(x:Sem Q5)(h:Sem zl.sl):Bool:=(Bl x h).isSome
def iN(x:Sem Q5)(h:Sem zl.sl):zq×zq:=gu (Bl x h)
def znV:z8:=zY [Q5,zl.sl] [zj,zj] (λx=>oT x.1 x.2.1) λx=>((iN x.1 x.2.1).1,(iN x.1 x.2.1).2,())
theorem ziL:FK 130 znV:=Qx 16
def Wm:=GI.addL [(96,zeh),(105,zef),(193,zeK),(130,znV)]
theorem ib:zu Wm:=no.addL<|fc zay<|fc zaw<|fc za2<|fc ziL iw
def zqR(x h:zo):Tr (Empty⊕aw):=
 let a:=(fy x).1==(fy h).1
 let b:=(fy x).2.1==(fy h).2.1
 Qc (rQ x)
 (Qc (rQ h)
  (br (a&&(b&&((fy x).2.2==(fy h).2.2&&Q3))) (re (ai 0) []) (br (cond (Q0 ((fy x).1<(fy h).1)) Q3 (cond a (cond (Q0 ((fy x).2.1<(fy h).2.1)) Q3 (cond b (Op.bytesLess (fy x).2.2 (fy h).2.2) Q4)) Q4)) (re (ai (-1)) []) (re (ai 1) []))))
def qy(x h:zo):=ao [zj] t0 100000000 (zqR x h)
def DZ(x h:zo):=(qy x h).isSome
def Jk(x h:zo):=o1 (qy x h)
def zny:=FT [zf,zf] [zj] λx=>qy x.1 x.2.1
theorem zin:FK 37 zny:=ib.T1 (f:=Tryz.f37) (keep:=k0) (e:=e0)
def zgs(x h:zo):Tr (Empty⊕aw):=
 Qc (rQ x)
 (Qc (rQ h)
  (re (AV.bool (cond ((fy x).1==0) Q3 (cond ((fy h).1==0) Q3 ((fy x).1!=(fy h).1)))) []))
def qz(x h:zo):=ao [Q7] t0 100000000 (zgs x h)
def nH(x h:zo):=(qz x h).isSome
def rM(x h:zo):=o1 (qz x h)
def ze5:=FT [zf,zf] [Q7] λx=>qz x.1 x.2.1
theorem zbm:FK 165 ze5:=ib.T1 (f:=Tryz.f165) (keep:=k0) (e:=e0)
def zgk(x h:zo):Tr (Empty⊕aw):=
 Qc (nG x Q4&&bif qw x Q4 then Q3 else nG h Q4)
 (br (cond (qw x Q4) Q3 (qw h Q4))
  (Qc Q3 (re (Qd [ai (bn Q4).1,ai (bn Q4).2.1,str (bn Q4).2.2]) []))
  (Qc (nG x Q3&&bif qw x Q3 then nG h Q3 else Q3) (br (cond (qw x Q3) (qw h Q3) Q4) (Qc Q3 (re (Qd [ai (bn Q3).1,ai (bn Q3).2.1,str (bn Q3).2.2]) [])) (re (Qd [ai 0,ai 0,str []]) []))))
def DV(x h:zo):=ao [zf] t0 100000000 (zgk x h)
def Jg(x h:zo):=(DV x h).isSome
def Hs(x h:zo):=o1 (DV x h)
def zeO:=FT [zf,zf] [zf] λx=>DV x.1 x.2.1
theorem za6:FK 168 zeO:=ib.T1 (f:=Tryz.f168) (keep:=k0) (e:=e0)
def zgl(x h:zo):Tr (Empty⊕aw):=
 Qc (nG x Q3&&bif qw x Q3 then Q3 else nG h Q3)
 (br (cond (qw x Q3) Q3 (qw h Q3))
  (Qc Q3 (re (Qd [ai (bn Q3).1,ai (bn Q3).2.1,str (bn Q3).2.2]) []))
  (Qc (nG x Q4&&bif qw x Q4 then nG h Q4 else Q3) (br (cond (qw x Q4) (qw h Q4) Q4) (Qc Q3 (re (Qd [ai (bn Q4).1,ai (bn Q4).2.1,str (bn Q4).2.2]) [])) (re (Qd [ai 0,ai 0,str []]) []))))
def MX(x h:zo):=ao [zf] t0 100000000 (zgl x h)
def Sf(x h:zo):=(MX x h).isSome
def Ux(x h:zo):=o1 (MX x h)
def zeP:=FT [zf,zf] [zf] λx=>MX x.1 x.2.1
theorem za7:FK 169 zeP:=ib.T1 (f:=Tryz.f169) (keep:=k0) (e:=e0)
def zgj(x:zo):Tr (Empty⊕aw):=
 Qc (nG x Q3)
 (br (qw x Q3)
  (Qc Q3 (re (Qd [ai (bn Q4).1,ai (bn Q4).2.1,str (bn Q4).2.2]) []))
  (Qc (nG x Q4) (br (qw x Q4) (Qc Q3 (re (Qd [ai (bn Q3).1,ai (bn Q3).2.1,str (bn Q3).2.2]) [])) (re (Qd [ai 0,ai 0,str []]) []))))
def DY(x:zo):=ao [zf] t0 100000000 (zgj x)
def Jj(x:zo):=(DY x).isSome
def Hu(x:zo):=o1 (DY x)
def zeN:=FT [zf] [zf] λx=>DY x.1
theorem za5:FK 167 zeN:=ib.T1 (f:=Tryz.f167) (keep:=k0) (e:=e0)
def zqY(x:Sem Q5):Tr (Empty⊕aw):=
 let a:=Jo (zr x) 12
 Qc (Bm (zr x) 12&&bif a then vO (zr x)else Q3) (re (AV.bool (cond a (Q0 (Bn (zr x)<=60)) Q4)) [])
def D5(x:Sem Q5):=ao [Q7] t0 100000000 (zqY x)
def uf(x:Sem Q5):=(D5 x).isSome
def D4(x:Sem Q5):=o1 (D5 x)
def znU:=FT [Q5] [Q7] λx=>D5 x.1
theorem ziK:FK 129 znU:=ib.T1 (f:=Tryz.f129) (keep:=k0) (e:=e0)
def Wn:=Wm.addL [(37,zny),(165,ze5),(168,zeO),(169,zeP),(167,zeN),(129,znU)]
theorem CB:zu Wn:=ib.addL<|fc zin<|fc zbm<|fc za6<|fc za7<|fc za5<|fc ziK iw
abbrev zkU:=kl [(2,[0,3])]
inductive FY where
 |h2 (i0:zq) (s3:List UInt8)
abbrev zpS:FY->Nat×St
 |.h2 i s=>(2,⟨tm 21 [(0,ai i),(3,str s)],[]⟩)
def zqF(x:zq):Tr (FY⊕aw):=
 Q9 (FY.h2 x [])
def EX:FY->Tr (FY⊕aw)
 | .h2 i s=>
  let a:=jf [IntKind.u8.wrap (Γ Δ (48-Γ Δ (Int.tmod i 10)))]
  br (cond (Q0 (i<0)) Q3 (s==[]))
  (Qc Q3 (Qc (Q0 (Io a+Io s<=1099511627776)) (Qc Q3 (Q9 (FY.h2 (Γ Δ (Int.tdiv i 10)) (a++s))))))
  (re (str s) [])
def rP(x:zq):=ao [Q6] EX 100000000 (zqF x)
def kX(x:zq):=(rP x).isSome
def lJ(x:zq):=o1 (rP x)
def ze3:=FT [zj] [Q6] λx=>rP x.1
theorem zbk:FK 239 ze3:=CB.T1 (f:=Tryz.f239) (keep:=zkU) (e:=zpS)
def Ws:=Wn.add 239 ze3
theorem CD:zu Ws:=CB.add zbk
abbrev zkK:=kl [(13,[1,3,4])]
inductive BP where
 |h13 (s3:List UInt8) (i4:Int) (z0:zn [CP.d zf])
abbrev zpL:BP->Nat×St
 |.h13 s i z=>(13,⟨tm 54 [(1,Qf 0 0),(3,str s),(4,ai i)],[Qa (bI [] [CP.d zf] z)]⟩)
def Ah(x:zo):Tr (BP⊕aw):=
 let a:=Γ Δ (0-x.2.1)
 Qc (mI x)
 (br (!tc x) (re (str []) [])
  (br (x.1==0) (re (str Ft) []) (br (x.1==1) (br (Q0 (x.2.1<0)) (Qc (kX x.2.1) (Qc (Q0 ([45].length+Io (lJ x.2.1)<=1099511627776)) (re (str ([45]++lJ x.2.1)) []))) (Qc (kX a) (re (str (lJ a)) []))) (br (x.1==2) (Q9 (BP.h13 [39] 0 (x,())))
  (br (x.2.1==1) (re (str Ik) []) (re (str Ij) []))))))
def ws:BP->Tr (BP⊕aw)
 | .h13 s i z=>
  let x:=(↑(Io z.1.2.2):Int)
  let a:=Γ Δ (i+1)
  let b:=Qg (a.toNat-i.toNat) (Qh i.toNat z.1.2.2)
  let h:=s++b
  br (Q0 (i<x))
  (Qc (Q0 (0<=i)&&Q0 (i<=a)&&Q0 (a<=x))
   (Qc (Q0 (Io s+Io b<=1099511627776)) (Qc (zK i (Io z.1.2.2)) (br ((↑(getD z.1.2.2 i.toNat 0).toNat:Int)==39) (Qc (Q0 (Io h+[39].length<=1099511627776)) (Q9 (BP.h13 (h++[39]) a z))) (Q9 (BP.h13 h a z))))))
  (Qc (Q0 (Io s+[39].length<=1099511627776)) (re (str (s++[39])) []))
def Bh(x:zo):=ao [Q6] ws 100000000 (Ah x)
def kK(x:zo):=(Bh x).isSome
def oQ(x:zo):=o1 (Bh x)
def zey:=FT [zf] [Q6] λx=>Bh x.1
theorem zaQ:FK 188 zey:=CD.T1 (f:=Tryz.f188) (keep:=zkK) (e:=zpL)
def Iz:=Ws.add 188 zey
theorem CG:zu Iz:=CD.add zaQ
def It(g:Sem Q5->Sem Q6)(c:Sem Q5->Bool):cd:=Iz.add 189 (zY [Q5] [Q6] (λx=>c x.1) λx=>(g x.1,()))
theorem Oy{g:Sem Q5->Sem Q6}(h:FK 189 (zY [Q5] [Q6] (λx=>c x.1) λx=>(g x.1,()))):zu (It g c):=CG.add h
abbrev XU:Nat->aT:=λ_=>{ }
theorem zlf(g:Sem Q5->Sem Q6)(c:Sem Q5->Bool):zM (It g c).P 189 Tryz.f189 1:=bL kw
def pn(g:Sem Q5->Sem Q6)(c:Sem Q5->Bool)(x:Sem Q5):Tr (Empty⊕aw):=
 let b:=zK 0 (za.l x).length
 let y:=zr ((za.l x).getD (toNat 0) (zi Q5))
 let p:=c y
 let q:=g y
 let z:=uE++q
 let t:=Q0 ([40].length+Io q<=1099511627776)
 let h:=[40]++q
 let u:=zK 1 (za.l x).length
 let A:=zr ((za.l x).getD (toNat 1) (zi Q5))
 let w:=c A
 let d:=h++Of
 let a:=g A
 let e:=d++a
 let i:=h++Og
 let j:=i++a
 let k:=h++[32]
 let m:=k++za.op x
 let n:=m++[32]
 let o:=n++a
 br (za.op x==ot) (Qc (kK (za.v x)) (re (str (oQ (za.v x))) []))
 (br (za.op x==eK) (re (str (za.s x)) [])
  (br (za.op x==ng) (Qc b (Qc p (Qc (Q0 (Io uE+Io q<=1099511627776)) (Qc (Q0 (Io z+[41].length<=1099511627776)) (re (str (z++[41])) []))))) (br (za.op x==pk) (Qc b (Qc p (Qc t
  (Qc (Q0 (Io h+Io Ca<=1099511627776)) (re (str (h++Ca)) []))))) (br (za.op x==ir) (Qc b (Qc p (Qc t (Qc (Q0 (Io h+Io Of<=1099511627776)) (Qc u (Qc w
  (Qc (Q0 (Io d+Io a<=1099511627776)) (Qc (Q0 (Io e+[41].length<=1099511627776)) (re (str (e++[41])) []))))))))) (br (za.op x==uG) (Qc b (Qc p (Qc t (Qc (Q0 (Io h+Io Og<=1099511627776)) (Qc u (Qc w
  (Qc (Q0 (Io i+Io a<=1099511627776)) (Qc (Q0 (Io j+[41].length<=1099511627776)) (re (str (j++[41])) []))))))))) (Qc b (Qc p (Qc t (Qc (Q0 (Io h+[32].length<=1099511627776)) (Qc (Q0 (Io k+Io (za.op x)<=1099511627776))
  (Qc (Q0 (Io m+[32].length<=1099511627776)) (Qc u (Qc w (Qc (Q0 (Io n+Io a<=1099511627776)) (Qc (Q0 (Io o+[41].length<=1099511627776)) (re (str (o++[41])) []))))))))))))))))
theorem zjX(g:Sem Q5->Sem Q6)(c:Sem Q5->Bool)(x:Sem Q5):rn (It g c) 0 XU Tryz.f189 [zI Q5 x] []=(pn g c x).map (lf Tryz.f189 e0):=kw
def iM(o:Option (zD (Qi Q1 [Q6]))):Sem Q6:=(λr:zD (Qi Q1 [Q6])=>r.1) (o.getD (cA [Q6]))
def Sj(g:Sem Q5->Sem Q6)(c:Sem Q5->Bool)(x:Sem Q5):Option (zD (Qi Q1 [Q6])):=ao [Q6] t0 100000000 (pn g c x)
def cT:Nat->Sem Q5->Option (zD (Qi Q1 [Q6]))
 |0=>λ_=>none
 |n+1=>Sj (λx=>iM (cT n x)) λx=>(cT n x).isSome
theorem XJ:zM Iz.P 189 Tryz.f189 1:=bL kw
theorem KF:∀n,FK 189 (zY [Q5] [Q6] (λx=>(cT n x.1).isSome) λx=>(iM (cT n x.1),()))
 |0=>eH ⟨Tryz.f189,XJ.1,XJ.2.1,XJ.2.2.1⟩ (λ_=>rfl)
 |n+1=>lg (E:=It (λh=>iM (cT n h)) (λh=>(cT n h).isSome)) (ks:=[Q5]) (outs:=[Q6]) (keep:=XU) (gas:=400) (n:=100000000) (e:=e0) (t:=t0) (i:=λx=>pn (λh=>iM (cT n h)) (λh=>(cT n h).isSome) x.1) (Oy (KF n)) (zlf _ _) (λx=>zjX _ _ x.1) (U6 _ _ _ _ _) (λ_=>by kernel_rfl) (λ_=>by kernel_rfl)
def Jn(x:Sem Q5):Option (zD (Qi Q1 [Q6])):=cT 16 x
def rV(x:Sem Q5):Bool:=(Jn x).isSome
def qA(x:Sem Q5):Sem Q6:=iM (Jn x)
def zez:z8:=zY [Q5] [Q6] (λx=>rV x.1) λx=>(qA x.1,())
theorem zaR:FK 189 zez:=KF 16
def OF:=Iz.add 189 zez
theorem oy:zu OF:=CG.add zaR
def zqH(x:Sem zA.sl)(h:zq)(g:Sem Q6):Tr (Empty⊕aw):=
 let b:=Q0 (h<(↑(Io x):Int))
 let a:=getD x (toNat h) (zi zA)
 let c:=a.1==1
 let d:=a.1==4
 let e:=a.2==g
 Qc
 (bif b then zK h (Io x)&&bif c then zK h (Io x)else zK h (Io x)&&bif d then zK h (Io x)else Q3
 else Q3)
 (re (AV.bool (cond b (cond c e (cond d e Q4)) Q4)) [])
def Zy(x:Sem zA.sl)(h:zq)(a:Sem Q6):=ao [Q7] t0 100000000 (zqH x h a)
def mw(x:Sem zA.sl)(h:zq)(a:Sem Q6):=(Zy x h a).isSome
def vX(x:Sem zA.sl)(h:zq)(a:Sem Q6):=o1 (Zy x h a)
def zfb:=FT [zA.sl,zj,Q6] [Q7] λx=>Zy x.1 x.2.1 x.2.2.1
theorem zbr:FK 242 zfb:=oy.T1 (f:=Tryz.f242) (keep:=k0) (e:=e0)
abbrev zkX:=kl [(3,[0,2,4,5]),(10,[0,2,6,7]),(18,[0,2,6,8])]
inductive pf where
 |h3 (s0:Sem Q6) (l4:zw) (i5:Int) (z0:zn [CP.d zf])
 |h10 (s0:Sem Q6) (i7:Int) (z0:zn [CP.d zf]) (z1:zn [CP.d zf])
 |h18 (s0:Sem Q6) (i8:Int) (z0:zn [CP.d zf]) (z1:zn [CP.d zf])
abbrev zpV:pf->Nat×St
 |.h3 s l i z=>(3,⟨tm 145 [(0,str s),(2,Qf 0 0),(4,sl zf l),(5,ai i)],[Qa (bI [] [CP.d zf] z)]⟩)
 |.h10 s x z h=>(10,⟨tm 145 [(0,str s),(2,Qf 0 0),(6,Qf 1 0),(7,ai x)],[Qa (bI [] [CP.d zf] z),Qa (bI [] [CP.d zf] h)]⟩)
 |.h18 s a z h=>(18,⟨tm 145 [(0,str s),(2,Qf 0 0),(6,Qf 1 0),(8,ai a)],[Qa (bI [] [CP.d zf] z),Qa (bI [] [CP.d zf] h)]⟩)
def zqJ(x:Sem Q6):Tr (pf⊕aw):=
 Q9 (pf.h3 x [(0,0,[]),(3,0,[]),(3,1,[])] 0 ((0,0,[]),()))
def zto:pf->Tr (pf⊕aw)
 | .h3 s l e b=>
  let h:=l.getD e.toNat (zi zf)
  let a:=Q0 ((↑(Io s):Int)>=2)
  let c:=(↑(getD s (toNat 0) 0).toNat:Int)==39
  let x:=Γ Δ ((↑(Io s):Int)-1)
  br (Q0 (e<(↑l.length:Int)))
  (Qc (zK e (Io l)) (Qc (kK h) (br (oQ h==s) (Qc (zK e (Io l)) (re (Qe [Qd [ai h.1,ai h.2.1,str h.2.2],kb Q3]) [])) (Q9 (pf.h3 s l (Γ Δ (e+1)) b)))))
  (Qc (cond a (zK 0 (Io s)&&bif c then zK x (Io s)else Q3) Q3) (br (cond a (cond c ((↑(getD s x.toNat 0).toNat:Int)==39) Q4) Q4) (Q9 (pf.h10 s 1 b ((2,0,[]),()))) (Q9 (pf.h18 s 0 b ((1,0,[]),())))))
 | .h10 s d b z=>
  let h:=Γ Δ ((↑(Io s):Int)-1)
  let a:=Γ Δ (d+1)
  let c:=Qg (a.toNat-d.toNat) (Qh d.toNat s)
  let x:=((z.1.1,z.1.2.1,z.1.2.2++c),())
  br (Q0 (d<h))
  (Qc (Q0 (0<=d)&&Q0 (d<=a)&&Q0 (a<=(↑(Io s):Int))) (Qc (Q0 (Io z.1.2.2+Io c<=1099511627776)) (Qc (zK d (Io s)) (br ((↑(getD s d.toNat 0).toNat:Int)==39) (Q9 (pf.h10 s (Γ Δ (a+1)) b x)) (Q9 (pf.h10 s a b x))))))
  (Qc (kK z.1) (re (Qe [Qd [ai z.1.1,ai z.1.2.1,str z.1.2.2],AV.bool (oQ z.1==s)]) []))
 | .h18 s i b z=>
  let h:=zK 0 (Io s)
  let a:=(↑(getD s (toNat 0) 0).toNat:Int)
  let c:=Γ Δ (i+1)
  let x:=(↑(getD s i.toNat 0).toNat:Int)
  let g:=Q0 (x<48)
  let j:=Q0 (x>57)
  let k:=Q0 (z.1.2.1< -922337203685477580)
  let m:=z.1.2.1==-922337203685477580
  let n:=Γ Δ (0-z.1.2.1)
  let o:=(z.1.1,n,z.1.2.2)
  br (Q0 (i<(↑(Io s):Int)))
  (Qc (cond (i==0) h Q3) (br (cond (i==0) (a==45) Q4) (Q9 (pf.h18 s c b z)) (Qc (zK i (Io s)&&bif g then Q3 else zK i (Io s)&&bif j then Q3 else bif k then Q3 else bif m then zK i (Io s)else Q3)
  (br (cond g Q3 (cond j Q3 (cond k Q3 (cond m (Q0 (x>56)) Q4)))) (re (Qe [Qd [ai 0,ai 0,str []],kb Q4]) []) (Qc (zK i (Io s)) (Q9 (pf.h18 s c b ((z.1.1,Γ Δ (Γ Δ (Γ Δ (10*z.1.2.1)-Γ Δ x)+48),z.1.2.2),()))))))))
  (Qc (cond (s==[]) Q3 h) (br (cond (s==[]) Q3 (a !=45)) (br (z.1.2.1==-9223372036854775808) (re (Qe [Qd [ai 0,ai 0,str []],kb Q4]) []) (Qc (kK o) (re (Qe [Qd [ai z.1.1,ai n,str z.1.2.2],AV.bool (oQ o==s)]) []))) (Qc (kK z.1)
  (re (Qe [Qd [ai z.1.1,ai z.1.2.1,str z.1.2.2],AV.bool (oQ z.1==s)]) []))))
def D1(x:Sem Q6):=ao [zf,Q7] zto 100000000 (zqJ x)
def MY(x:Sem Q6):=(D1 x).isSome
def vJ(x:Sem Q6):=o2 (D1 x)
def zff:=FT [Q6] [zf,Q7] λx=>D1 x.1
theorem zbv:FK 278 zff:=oy.T1 (f:=Tryz.f278) (keep:=zkX) (e:=zpV)
def zf6:=OF.addL [(242,zfb),(278,zff)]
theorem GV:zu zf6:=oy.addL<|fc zbr<|fc zbv<|iw
abbrev zkW:=kl [(1,[0,1,4])]
inductive FZ where
 |h1 (s0:Sem Q6) (s1:Sem Q6) (z0:zn [CP.d zf])
abbrev zpU:FZ->Nat×St
 |.h1 s h z=>(1,⟨tm 25 [(0,str s),(1,str h),(4,Qf 0 0)],[Qa (bI [] [CP.d zf] z)]⟩)
def zqI(x h:Sem Q6):Tr (FZ⊕aw):=
 Q9 (FZ.h1 x h ((0,0,[]),()))
def ztn:FZ->Tr (FZ⊕aw)
 | .h1 h s z=>
  let a:=Q0 ((↑(Io s):Int)>0)
  Qc (cond a (zK 0 (Io s)) Q3)
  (br (cond a ((↑(getD s (toNat 0) 0).toNat:Int)==48) Q4) (Qc (Q0 (0<=1)&&Q0 (1<=(↑(Io s):Int))&&Q0 ((↑(Io s):Int)<=(↑(Io s):Int))) (Q9 (FZ.h1 h (Qg ((↑(Io s):Int).toNat-toNat 1) (Qh (toNat 1) s)) z)))
  (br (s==[]) (re (Qe [Qd [ai 1,ai 0,str []],kb Q3]) []) (Qc (Q0 (Io h+Io s<=1099511627776)) (Qc (MY (h++s)) (re (Qe [Qd [ai (vJ (h++s)).1.1,ai (vJ (h++s)).1.2.1,str (vJ (h++s)).1.2.2],AV.bool (vJ (h++s)).2]) [])))))
def PJ(x h:Sem Q6):=ao [zf,Q7] ztn 100000000 (zqI x h)
def Zz(x h:Sem Q6):=(PJ x h).isSome
def zgR(x h:Sem Q6):=o2 (PJ x h)
def zfe:=FT [Q6,Q6] [zf,Q7] λx=>PJ x.1 x.2.1
theorem zbu:FK 277 zfe:=GV.T1 (f:=Tryz.f277) (keep:=zkW) (e:=zpU)
def zf7:=zf6.add 277 zfe
theorem GW:zu zf7:=GV.add zbu
def zqG(x:Sem zA.sl)(h:zq):Tr (Empty⊕aw):=
 let b:=Γ Δ (h+1)
 let i:=Q0 (b>=(↑(Io x):Int))
 let j:=zK b (Io x)
 let e:=getD x b.toNat (zi zA)
 let c:=zgR [45] e.2
 let a:=getD x (toNat h) (zi zA)
 let d:=zgR [] a.2
 let k:=vX x h Ik
 let l:=vX x h Ij
 let g:=vJ a.2
 br (Q0 (h>=(↑(Io x):Int)))
 (re (Qe [Qd [str [],ai 0,ai 0,str [],str [],Qb],ai (-1)]) [])
 (Qc (zK h (Io x))
  (Qc (mw x h [45]) (br (vX x h [45]) (Qc (cond i Q3 j) (br (cond i Q3 (e.1!=2)) (re (Qe [Qd [str [],ai 0,ai 0,str [],str [],Qb],ai (-1)]) []) (Qc j (Qc (Zz [45] e.2) (br (!c.2)
  (re (Qe [Qd [str [],ai 0,ai 0,str [],str [],Qb],ai (-1)]) []) (re (Qe [Qd [str ot,ai c.1.1,ai c.1.2.1,str c.1.2.2,str [],Qb],ai (Γ Δ (h+2))]) [])))))) (br (a.1==2) (Qc (Zz [] a.2) (br (!d.2)
  (re (Qe [Qd [str [],ai 0,ai 0,str [],str [],Qb],ai (-1)]) []) (re (Qe [Qd [str ot,ai d.1.1,ai d.1.2.1,str d.1.2.2,str [],Qb],ai b]) []))) (br (a.1==3) (re
  (Qe [Qd [str ot,ai 2,ai 0,str a.2,str [],Qb],ai b]) []) (Qc (mw x h [40]) (br (vX x h [40]) Tr.err (Qc (mw x h Ik&&bif k then Q3 else mw x h Ij&&bif l then Q3 else mw x h Ft)
  (br (cond k Q3 (cond l Q3 (vX x h Ft))) (Qc (MY a.2) (re (Qe [Qd [str ot,ai g.1.1,ai g.1.2.1,str g.1.2.2,str [],Qb],ai b]) [])) (br (a.1==1) (re (Qe [Qd [str eK,ai 0,ai 0,str [],str a.2,Qb],
  ai b]) []) (re (Qe [Qd [str [],ai 0,ai 0,str [],str [],Qb],ai (-1)]) [])))))))))))
def JI(x:Sem zA.sl)(h:zq):=ao [Q5,zj] t0 100000000 (zqG x h)
def zdE(x:Sem zA.sl)(h:zq):=(JI x h).isSome
def uj(x:Sem zA.sl)(h:zq):=o2 (JI x h)
def zfa:=FT [zA.sl,zj] [Q5,zj] λx=>JI x.1 x.2.1
theorem zbq:FK 241 zfa:=GW.T1 (f:=Tryz.f241) (keep:=k0) (e:=e0)
def Rc:=zf7.add 241 zfa
theorem GX:zu Rc:=GW.add zbq
def Ct(g:Sem zA.sl->zq->zq->Sem Q5×zq)(c:Sem zA.sl->zq->zq->Bool):cd:=Rc.add 195 (zY [zA.sl,zj,zj] [Q5,zj] (λx=>c x.1 x.2.1 x.2.2.1) λx=>((g x.1 x.2.1 x.2.2.1).1,(g x.1 x.2.1 x.2.2.1).2,()))
theorem OB{g:Sem zA.sl->zq->zq->Sem Q5×zq}{c:Sem zA.sl->zq->zq->Bool}(h:FK 195 (zY [zA.sl,zj,zj] [Q5,zj] (λx=>c x.1 x.2.1 x.2.2.1) λx=>((g x.1 x.2.1 x.2.2.1).1,(g x.1 x.2.1 x.2.2.1).2,()))):zu (Ct g c):=GX.add h
abbrev Pf:=kl [(22,[0,2,6,15,16])]
inductive mT where
 |h22 (l0:dp) (i2:zq) (i16:zq) (z1:zn [CP.d Q5]) (ja0:List UInt8) (ja1:Int) (ja2:Int) (ja3:List UInt8) (ja4:List UInt8)
abbrev Lk:mT->Nat×St
 |.h22 l c i z j h x a b=>(22,⟨tm 157 [(0,sl zA l),(2,ai c),(6,Qf 0 0),(15,Qf 1 0),(16,ai i)],[Qa [str j,ai h,ai x,str a,str b,Qb],Qa (bI [] [CP.d Q5] z)]⟩)
theorem zlj(g:Sem zA.sl->zq->zq->Sem Q5×zq)(c:Sem zA.sl->zq->zq->Bool):zM (Ct g c).P 195 Tryz.f195 3:=bL kw
def Xq(g:Sem zA.sl->zq->zq->Sem Q5×zq)(c:Sem zA.sl->zq->zq->Bool)(x:Sem zA.sl)(h d:zq):Tr (mT⊕aw):=
 let e:=Γ Δ (h+1)
 let i:=g x e 2
 let a:=g x h 3
 let j:=vX x a.2 [61]
 let b:=Γ Δ (a.2+1)
 let p:=getD x (toNat a.2) (zi zA)
 let k:=zr a.1
 let m:=g x b 3
 let n:=Γ Δ (d+1)
 let o:=g x h n
 br (Q0 (h<0))
 (re (Qe [Qd [str [],ai 0,ai 0,str [],str [],Qb],ai (-1)]) [])
 (br (d==4)
  (Qc (zdE x h) (re (Qe [Qd [str (za.op (uj x h).1),ai (za.v (uj x h).1).1,ai (za.v (uj x h).1).2.1,str (za.v (uj x h).1).2.2,str (za.s (uj x h).1),sl Q5 (za.l (uj x h).1)],ai (uj x h).2]) []))
  (br (d==2) (Qc (mw x h [78,79,84]) (br (vX x h [78,79,84]) (Qc (c x e 2) (re (Qe [Qd [str ng,ai 0,ai 0,str [],str [],sl Q5 [zr i.1]],ai i.2]) [])) (Qc (c x h 3) (br (Q0 (a.2<0))
  (re (Qe [Qd [str [],ai 0,ai 0,str [],str [],Qb],ai (-1)]) []) (Qc (mw x a.2 [61]&&bif j then Q3 else mw x a.2 [60]) (br (cond j Q3 (vX x a.2 [60])) (Qc (zK a.2 (Io x)) (Qc (c x b 3) (re (Qe
  [Qd [str p.2,ai 0,ai 0,str [],str [],sl Q5 [k,zr m.1]],ai m.2]) []))) (Qc (mw x a.2 [73,83]) (br (vX x a.2 [73,83]) (Qc (mw x b Ft) (br (!vX x b Ft) (re (Qe [Qd [str [],ai 0,ai 0,str [],str [],Qb],ai (-1)]) [])
  (re (Qe [Qd [str pk,ai 0,ai 0,str [],str [],sl Q5 [k]],ai (Γ Δ (a.2+2))]) []))) (re (Qe [Qd [str (za.op a.1),ai (za.v a.1).1,ai (za.v a.1).2.1,str (za.v a.1).2.2,str (za.s a.1),sl Q5 (za.l a.1)],ai a.2])
  []))))))))) (Qc (c x h n) (Q9 (mT.h22 x d o.2 (o.1,()) [] 0 0 [] [])))))
theorem zj3(g:Sem zA.sl->zq->zq->Sem Q5×zq)(c:Sem zA.sl->zq->zq->Bool)(x:Sem zA.sl)(h a:zq):rn (Ct g c) 0 Pf Tryz.f195 [zI zA.sl x,zI zj h,zI zj a] []=(Xq g c x h a).map (lf Tryz.f195 Lk):=kw
def Z0(g:Sem zA.sl->zq->zq->Sem Q5×zq)(c:Sem zA.sl->zq->zq->Bool):mT->Tr (mT⊕aw)
 | .h22 h k i z j x b d e=>
  let t:=bif k==1 then mw h i VN else Q3
  let u:=bif k==1 then vX h i VN else Q4
  let w:=vX h i [43]
  let p:=bif k==3 then mw h i [43]&&bif w then Q3 else mw h i [45]else Q3
  let q:=bif k==3 then bif w then Q3 else vX h i [45]else Q4
  let n:=h.getD (toNat i) (zi zA)
  let y:=Γ Δ (i+1)
  let A:=Γ Δ (k+1)
  let o:=c h y A
  let m:=g h y A
  let a:=[zr z.1,zr m.1]
  br (Q0 (i>=0))
  (Qc (cond (k==0) (mw h i [79,82]) Q3) (br (cond (k==0) (vX h i [79,82]) Q4) (Qc t (br u (Qc p (br q (Qc (zK i (Io h)) (br (n.2==[]) (re (Qe [Qd [str (za.op z.1),ai (za.v z.1).1,ai (za.v z.1).2.1,
  str (za.v z.1).2.2,str (za.s z.1),sl Q5 (za.l z.1)],ai i]) []) (Qc o (Q9 (mT.h22 h k m.2 (za.mk n.2 (0,0,[]) [] a,()) j x b d e))))) (br Q4 (re (Qe [Qd [str (za.op z.1),ai (za.v z.1).1,ai (za.v z.1).2.1,
  str (za.v z.1).2.2,str (za.s z.1),sl Q5 (za.l z.1)],ai i]) []) (Qc o (Q9 (mT.h22 h k m.2 (za.mk ir (0,0,[]) [] a,()) j x b d e)))))) (Qc p (br q (Qc (zK i (Io h)) (br (n.2==[]) (re (Qe [Qd
  [str (za.op z.1),ai (za.v z.1).1,ai (za.v z.1).2.1,str (za.v z.1).2.2,str (za.s z.1),sl Q5 (za.l z.1)],ai i]) []) (Qc o (Q9 (mT.h22 h k m.2 (za.mk n.2 (0,0,[]) [] a,()) j x b d e))))) (br Q4 (re (Qe [Qd
  [str (za.op z.1),ai (za.v z.1).1,ai (za.v z.1).2.1,str (za.v z.1).2.2,str (za.s z.1),sl Q5 (za.l z.1)],ai i]) []) (Qc o (Q9 (mT.h22 h k m.2 (za.mk uG (0,0,[]) [] a,()) j x b d e)))))))) (Qc t (br u (Qc p (br q (Qc (zK i (Io h))
  (br (n.2==[]) (re (Qe [Qd [str (za.op z.1),ai (za.v z.1).1,ai (za.v z.1).2.1,str (za.v z.1).2.2,str (za.s z.1),sl Q5 (za.l z.1)],ai i]) []) (Qc o (Q9 (mT.h22 h k m.2 (za.mk n.2 (0,0,[]) [] a,()) j x b d e))))) (br Q4 (re (Qe [Qd
  [str (za.op z.1),ai (za.v z.1).1,ai (za.v z.1).2.1,str (za.v z.1).2.2,str (za.s z.1),sl Q5 (za.l z.1)],ai i]) []) (Qc o (Q9 (mT.h22 h k m.2 (za.mk ir (0,0,[]) [] a,()) j x b d e)))))) (Qc p (br q (Qc (zK i (Io h)) (br (n.2==[]) (re
  (Qe [Qd [str (za.op z.1),ai (za.v z.1).1,ai (za.v z.1).2.1,str (za.v z.1).2.2,str (za.s z.1),sl Q5 (za.l z.1)],ai i]) []) (Qc o (Q9 (mT.h22 h k m.2 (za.mk n.2 (0,0,[]) [] a,()) j x b d e))))) (br Q3 (re (Qe [Qd
  [str (za.op z.1),ai (za.v z.1).1,ai (za.v z.1).2.1,str (za.v z.1).2.2,str (za.s z.1),sl Q5 (za.l z.1)],ai i]) []) (Qc o (Q9 (mT.h22 h k m.2 (za.mk [] (0,0,[]) [] a,()) j x b d e))))))))))
  (re (Qe [Qd [str (za.op z.1),ai (za.v z.1).1,ai (za.v z.1).2.1,str (za.v z.1).2.2,str (za.s z.1),sl Q5 (za.l z.1)],ai i]) [])
theorem zlu(g:Sem zA.sl->zq->zq->Sem Q5×zq)(c:Sem zA.sl->zq->zq->Bool):∀s,run (Ct g c) 0 Pf (Func.results Tryz.f195).toList 400 (aa Tryz.f195 (Lk s).1) (Lk s).2=(Z0 g c s).map (lf Tryz.f195 Lk):=by intro s;cases s<;>kernel_rfl
def lK(o:Option (zD (Qi Q1 [Q5,zj]))):Sem Q5×zq:=(λr:zD (Qi Q1 [Q5,zj])=>(r.1,r.2.1)) (o.getD (cA [Q5,zj]))
def ZA(g:Sem zA.sl->zq->zq->Sem Q5×zq)(c:Sem zA.sl->zq->zq->Bool)(x:Sem zA.sl)(h a:zq):Option (zD (Qi Q1 [Q5,zj])):=ao [Q5,zj] (Z0 g c) 100000000 (Xq g c x h a)
def fj:Nat->Sem zA.sl->zq->zq->Option (zD (Qi Q1 [Q5,zj]))
 |0=>λ_ _ _=>none
 |n+1=>ZA (λx h a=>lK (fj n x h a)) λx h a=>(fj n x h a).isSome
theorem XM:zM Rc.P 195 Tryz.f195 3:=bL kw
theorem KI:∀n,FK 195 (zY [zA.sl,zj,zj] [Q5,zj] (λx=>(fj n x.1 x.2.1 x.2.2.1).isSome) λx=>((lK (fj n x.1 x.2.1 x.2.2.1)).1,(lK (fj n x.1 x.2.1 x.2.2.1)).2,()))
 |0=>eH ⟨Tryz.f195,XM.1,XM.2.1,XM.2.2.1⟩ (λ_=>rfl)
 |n+1=>lg (E:=Ct (λh a b=>lK (fj n h a b)) (λh a b=>(fj n h a b).isSome)) (ks:=[zA.sl,zj,zj]) (outs:=[Q5,zj]) (keep:=Pf) (gas:=400) (n:=100000000) (e:=Lk) (t:=Z0 (λh a b=>lK (fj n h a b)) (λh a b=>(fj n h a b).isSome)) (i:=λx=>Xq (λh a b=>lK (fj n h a b)) (λh a b=>(fj n h a b).isSome) x.1 x.2.1 x.2.2.1) (OB (KI n)) (zlj _ _) (λx=>zj3 _ _ x.1 x.2.1 x.2.2.1) (zlu _ _) (λ_=>by kernel_rfl) (λ_=>by kernel_rfl)
def Ni(x:Sem zA.sl)(h a:zq):Option (zD (Qi Q1 [Q5,zj])):=fj 16 x h a
def Nh(x:Sem zA.sl)(h a:zq):Bool:=(Ni x h a).isSome
def JK(x:Sem zA.sl)(h a:zq):Sem Q5×zq:=lK (Ni x h a)
def ze2:z8:=zY [zA.sl,zj,zj] [Q5,zj] (λx=>Nh x.1 x.2.1 x.2.2.1) λx=>((JK x.1 x.2.1 x.2.2.1).1,(JK x.1 x.2.1 x.2.2.1).2,())
theorem zbj:FK 195 ze2:=KI 16
def zf8:=Rc.add 195 ze2
theorem GY:zu zf8:=GX.add zbj
def zqD(b:Sem zA.sl):Tr (Empty⊕aw):=
 let a:=JK b 0 0
 let h:=Q0 (a.2<0)
 let x:=zr a.1
 Qc (Nh b 0 0)
 (Qc (cond h Q3 (uf x))
  (br (cond h Q3 (!D4 x)) (re (Qe [Qd [str [],ai 0,ai 0,str [],str [],Qb],ai 0,kb Q4]) []) (re (Qe [Qd [str (za.op a.1),ai (za.v a.1).1,ai (za.v a.1).2.1,str (za.v a.1).2.2,str (za.s a.1),sl Q5 (za.l a.1)],ai a.2,kb Q3])
  [])))
def Em(x:Sem zA.sl):=ao [Q5,zj,Q7] t0 100000000 (zqD x)
def Zx(x:Sem zA.sl):=(Em x).isSome
def zdD(x:Sem zA.sl):=o3 (Em x)
def zeR:=FT [zA.sl] [Q5,zj,Q7] λx=>Em x.1
theorem za9:FK 136 zeR:=GY.T1 (f:=Tryz.f136) (keep:=k0) (e:=e0)
def Rd:=zf8.add 136 zeR
theorem GZ:zu Rd:=GY.add za9
abbrev zgG:=kl []
theorem zsP:zM Rd.P 73 Tryz.f73 1:=bL kw
def zkx(y:zn aI):Tr (Empty⊕aw):=
 let h:=Qg ((↑(Io y.1):Int).toNat-toNat y.2.1) (Qh (toNat y.2.1) y.1)
 let a:=zdD h
 let x:=Γ Δ (y.2.1+a.2.1)
 Qc (Q0 (0<=y.2.1)&&Q0 (y.2.1<=(↑(Io y.1):Int))&&Q0 ((↑(Io y.1):Int)<=(↑(Io y.1):Int)))
 (Qc (Zx h)
  (br (!a.2.2) (re (Qd [str (za.op a.1),ai (za.v a.1).1,ai (za.v a.1).2.1,str (za.v a.1).2.2,str (za.s a.1),sl Q5 (za.l a.1)]) [Qa [sl zA y.1,ai x,kb Q4]]) (re (Qd [str (za.op a.1),ai (za.v a.1).1,ai (za.v a.1).2.1,str (za.v a.1).2.2,
  str (za.s a.1),sl Q5 (za.l a.1)]) (aB aI (y.1,x,y.2.2)))))
theorem zqx(y:zn aI):rn Rd 1 zgG Tryz.f73 [Qf 0 0] (aB aI y)=(zkx y).map (lf Tryz.f73 e0):=kw
def Ss(y:zn aI):Option (zD (Qi Q1 [Q5])×zn aI):=kJ [Q5] aI t0 100000000 (zkx y)
def JR(y:zn aI):Bool:=(Ss y).isSome
def JQ(y:zn aI):(Sem Q5)×zn aI:=(λr:zD (Qi Q1 [Q5])×zn aI=>(r.1.1,r.2)) ((Ss y).getD (cA [Q5],fR aI))
def zn8:z8:=sC aI [] [Q5] aI (λy _=>JR y) λy _=>(((JQ y).1,()),(JQ y).2)
theorem ziZ:FK 73 zn8:=ka (ps:=aI) (ks:=[]) (outs:=[Q5]) (keep:=zgG) (gas:=400) (n:=100000000) (e:=e0) (t:=t0) (i:=λy x=>zkx y) GZ zsP (λy x=>zqx y) (U6 _ _ _ _ _) (λ_ _=>by kernel_rfl) (λ_ _=>by kernel_rfl)
def WT:=Rd.add 73 zn8
theorem xy:zu WT:=GZ.add ziZ
abbrev zkP:=kl [(6,[1,3])]
inductive FW where
 |h6 (i3:Int) (z0:zn [CP.d zA])
abbrev zpP:FW->Nat×St
 |.h6 i z=>(6,⟨tm 82 [(1,Qf 0 0),(3,ai i)],[Qa (bI [] [CP.d zA] z)]⟩)
def Mf(x:bV):Tr (FW⊕aw):=
 let a:=(2,0,x.2)
 br (x.1==1) (Qc (vT x.2) (re (AV.bool (uh x.2)) []))
 (br (x.1==2) (Q9 (FW.h6 0 (x,())))
  (br (x.1==3) (Qc (mI a) (re (AV.bool (tc a)) [])) (br (x.1==4) (re (AV.bool (cond (x.2==[40]) Q3 (cond (x.2==[41]) Q3 (cond (x.2==[44]) Q3 (cond (x.2==[61]) Q3 (cond (x.2==[60]) Q3 (cond (x.2==[43]) Q3 (cond (x.2==[45]) Q3 (x.2==[42]))))))))) []) (re (kb Q4) []))))
def wu:FW->Tr (FW⊕aw)
 | .h6 i z=>
  let a:=(↑(Io z.1.2):Int)
  let h:=(↑(getD z.1.2 i.toNat 0).toNat:Int)
  br (Q0 (i<a))
  (Qc (zK i (Io z.1.2))
   (Qc (jV h) (br (!kL h) (re (kb Q4) []) (Q9 (FW.h6 (Γ Δ (i+1)) z)))))
  (re (AV.bool (cond (Q0 (1<=a)) (Q0 (a<=19)) Q4)) [])
def JG(x:bV):=ao [Q7] wu 100000000 (Mf x)
def mJ(x:bV):=(JG x).isSome
def td(x:bV):=o1 (JG x)
def zeJ:=FT [zA] [Q7] λx=>JG x.1
theorem za1:FK 134 zeJ:=xy.T1 (f:=Tryz.f134) (keep:=zkP) (e:=zpP)
abbrev XR:=kl []
theorem zlc:zM WT.P 74 Tryz.f74 2:=bL kw
def Xk(y:zn aI)(d:TS):Tr (Empty⊕aw):=
 let e:=(y.1,y.2.1,y.2.2.1,())
 let x:=fB e d
 let b:=(x.2.1,x.2.2.1,x.2.2.2.1,())
 let h:=JQ b
 let c:=bP b [40]
 let g:=(c.1,c.2.1,c.2.2.1,())
 let a:=JQ g
 let i:=(a.2.1,a.2.2.1,a.2.2.2.1,())
 Qc (eh e d)
 (br (!x.1) (re (Qd [str [],ai 0,ai 0,str [],str [],Qb]) (aB aI x.2))
  (br (d==ma) (Qc (JR b) (re (Qd [str (za.op h.1),ai (za.v h.1).1,ai (za.v h.1).2.1,str (za.v h.1).2.2,str (za.s h.1),sl Q5 (za.l h.1)]) (aB aI h.2))) (Qc (be b [40]) (Qc (JR g) (Qc (be i [41]) (re (Qd
  [str (za.op a.1),ai (za.v a.1).1,ai (za.v a.1).2.1,str (za.v a.1).2.2,str (za.s a.1),sl Q5 (za.l a.1)]) (aB aI (bP i [41]))))))))
theorem zjR(y:zn aI)(x:TS):rn WT 1 XR Tryz.f74 [Qf 0 0,zI Q6 x] (aB aI y)=(Xk y x).map (lf Tryz.f74 e0):=kw
def Sr(y:zn aI)(x:TS):Option (zD (Qi Q1 [Q5])×zn aI):=kJ [Q5] aI t0 100000000 (Xk y x)
def eb(y:zn aI)(x:TS):Bool:=(Sr y x).isSome
def fb(y:zn aI)(x:TS):(Sem Q5)×zn aI:=(λr:zD (Qi Q1 [Q5])×zn aI=>(r.1.1,r.2)) ((Sr y x).getD (cA [Q5],fR aI))
def zem:z8:=sC aI [Q6] [Q5] aI (λy x=>eb y x.1) λy x=>(((fb y x.1).1,()),(fb y x.1).2)
theorem zaE:FK 74 zem:=ka (ps:=aI) (ks:=[Q6]) (outs:=[Q5]) (keep:=XR) (gas:=400) (n:=100000000) (e:=e0) (t:=t0) (i:=λy x=>Xk y x.1) xy zlc (λy x=>zjR y x.1) (U6 _ _ _ _ _) (λ_ _=>by kernel_rfl) (λ_ _=>by kernel_rfl)
def zqW(x:TS):Tr (Empty⊕aw):=
 Qc (vT x&&bif uh x then En x else Q3) (re (AV.bool (cond (uh x) (!Nc x) Q4)) [])
def vY(x:TS):=ao [Q7] t0 100000000 (zqW x)
def ea(x:TS):=(vY x).isSome
def bN(x:TS):=o1 (vY x)
def znQ:=FT [Q6] [Q7] λx=>vY x.1
theorem ziG:FK 124 znQ:=xy.T1 (f:=Tryz.f124) (keep:=k0) (e:=e0)
def zfN:=OF.addL [(134,zeJ),(74,zem),(124,znQ)]
theorem rl:zu zfN:=oy.addL<|fc za1<|fc zaE<|fc ziG iw
abbrev zrx:Nat->aT:=λj=>if j=3 then{slots:=[0,4,5],prom:=[(4,none,zA)]}else if j=11 then{slots:=[0,4,5,6,7,8]}else if j=15 then{slots:=[0,4,5,6,7,8]}else if j=20 then{slots:=[0,4,5,8]}else{ }
inductive jK where
 |h3 (s0:TS) (i5:Int) (lh_0:LF)
 |h11 (s0:TS) (i5:Int) (i6:Int) (i7:Int) (z1:zn [CP.d zA]) (lh_0:LF)
 |h15 (s0:TS) (i5:Int) (i6:Int) (i7:Int) (z1:zn [CP.d zA]) (lh_0:LF)
 |h20 (s0:TS) (i5:Int) (z1:zn [CP.d zA]) (lh_0:LF)
abbrev zul:jK->Nat×St
 |.h3 s i l=>(3,⟨tm 131 [(0,str s),(4,AV.vec 0),(5,ai i)],[AO.vec zA l]⟩)
 |.h11 s i h x z l=>(11,⟨tm 131 [(0,str s),(4,AV.vec 0),(5,ai i),(6,AV.int IntKind.u8 h),(7,ai x),(8,Qf 1 0)],[AO.vec zA l,Qa (bI [] [CP.d zA] z)]⟩)
 |.h15 s i h x z l=>(15,⟨tm 131 [(0,str s),(4,AV.vec 0),(5,ai i),(6,AV.int IntKind.u8 h),(7,ai x),(8,Qf 1 0)],[AO.vec zA l,Qa (bI [] [CP.d zA] z)]⟩)
 |.h20 s i z l=>(20,⟨tm 131 [(0,str s),(4,AV.vec 0),(5,ai i),(8,Qf 1 0)],[AO.vec zA l,Qa (bI [] [CP.d zA] z)]⟩)
def zvB(x:TS):Tr (jK⊕aw):=
 Q9 (jK.h3 x 0 [])
def f7:jK->Tr (jK⊕aw)
 | .h3 s i l=>
  let h:=(↑(getD s i.toNat 0).toNat:Int)
  let x:=Γ Δ (i+1)
  let b:=Qg (x.toNat-i.toNat) (Qh i.toNat s)
  let a:=((4,b),())
  let d:=(4,b)
  let g:=[d]
  br (Q0 (i<(↑(Io s):Int)))
  (Qc (zK i (Io s)) (br (cond (h==32) Q3 (h==10)) (Q9 (jK.h3 s x l)) (Qc (Q0 (0<=i)&&Q0 (i<=x)&&Q0 (x<=(↑(Io s):Int))) (Qc (nN h) (br (qG h) (Q9 (jK.h11 s x h i a l)) (Qc (jV h) (br (kL h) (Q9 (jK.h15 s x h i a l))
  (br (h==39) (Q9 (jK.h20 s x ((3,[]),()) l)) (Qc (mJ d) (br (!td d) (re (Qe [Qb,kb Q4]) []) (Qc (Q0 (Io l+Io g<=1073741824)) (Q9 (jK.h3 s x (l++g))))))))))))))
  (re (Qe [AV.vec 0,AV.bool (Q0 ((↑l.length:Int)<=400))]) [AO.vec zA l])
 | .h11 s i e c z l=>
  let h:=Q0 (i<(↑(Io s):Int))
  let x:=(↑(getD s i.toNat 0).toNat:Int)
  let b:=Qg (i.toNat-c.toNat) (Qh c.toNat s)
  let a:=(1,b)
  let d:=[a]
  Qc (cond h (zK i (Io s)&&vV x) Q3)
  (br (cond h (Ek x) Q4) (Q9 (jK.h11 s (Γ Δ (i+1)) e c z l)) (Qc (Q0 (0<=c)&&Q0 (c<=i)&&Q0 (i<=(↑(Io s):Int))) (Qc (jV e) (br (kL e) (Q9 (jK.h15 s i e c ((1,b),()) l)) (br (e==39) (Q9 (jK.h20 s i ((3,[]),()) l)) (Qc (mJ a)
  (br (!td a) (re (Qe [Qb,kb Q4]) []) (Qc (Q0 (Io l+Io d<=1073741824)) (Q9 (jK.h3 s i (l++d)))))))))))
 | .h15 s i e c z l=>
  let h:=Q0 (i<(↑(Io s):Int))
  let x:=(↑(getD s i.toNat 0).toNat:Int)
  let b:=(2,Qg (i.toNat-c.toNat) (Qh c.toNat s))
  let a:=[b]
  Qc (cond h (zK i (Io s)&&jV x) Q3)
  (br (cond h (kL x) Q4) (Q9 (jK.h15 s (Γ Δ (i+1)) e c z l)) (Qc (Q0 (0<=c)&&Q0 (c<=i)&&Q0 (i<=(↑(Io s):Int))) (br (e==39) (Q9 (jK.h20 s i ((3,[]),()) l)) (Qc (mJ b) (br (!td b) (re (Qe [Qb,kb Q4]) [])
  (Qc (Q0 (Io l+Io a<=1073741824)) (Q9 (jK.h3 s i (l++a)))))))))
 | .h20 s i z l=>
  let h:=Q0 (i<(↑(Io s):Int))
  let x:=(↑(getD s i.toNat 0).toNat:Int)
  let b:=x !=39
  let a:=Γ Δ (i+1)
  let d:=Q0 (a<(↑(Io s):Int))
  let g:=Qg (a.toNat-i.toNat) (Qh i.toNat s)
  let j:=((z.1.1,z.1.2++g),())
  Qc (cond h (zK i (Io s)&&bif b then Q3 else bif d then zK a (Io s)else Q3) Q3)
  (br (cond h (cond b Q3 (cond d ((↑(getD s a.toNat 0).toNat:Int)==39) Q4)) Q4) (Qc (Q0 (0<=i)&&Q0 (i<=a)&&Q0 (a<=(↑(Io s):Int))) (Qc (Q0 (Io z.1.2+Io g<=1099511627776))
  (Qc (zK i (Io s)) (br (x==39) (Q9 (jK.h20 s (Γ Δ (a+1)) j l)) (Q9 (jK.h20 s a j l)))))) (br (Q0 (i>=(↑(Io s):Int))) (re (Qe [Qb,kb Q4]) []) (Qc (mJ z.1) (br (!td z.1) (re (Qe [Qb,kb Q4]) [])
  (Qc (Q0 (Io l+[z.1].length<=1073741824)) (Q9 (jK.h3 s a (l++[z.1]))))))))
def JF(x:TS):=ao [zA.sl,Q7] f7 100000000 (zvB x)
def JE(x:TS):=(JF x).isSome
def As(x:TS):=o2 (JF x)
def znG:=FT [Q6] [zA.sl,Q7] λx=>JF x.1
theorem zix:FK 67 znG:=rl.T1 (f:=Tryz.f67) (keep:=zrx) (e:=zul)
def Me(x:Sem Q5)(h:TS):Tr (Empty⊕aw):=
 let a:=h++zb2
 let b:=a++qA (zr x)
 br (za.op x==[])
 (Qc (g9 (zr x) (za.mk [] (0,0,[]) [] [])) (re (Qe [str [],AV.bool (fz (zr x) (za.mk [] (0,0,[]) [] []))]) []))
 (Qc (uf (zr x))
  (br (!D4 (zr x)) (re (Qe [str [],kb Q4]) []) (br (h==ma) (Qc (rV (zr x)) (Qc (Q0 (Io zb5+Io (qA (zr x))<=1099511627776)) (re (Qe [str (zb5++qA (zr x)),kb Q3]) [])))
  (Qc (Q0 (Io h+Io zb2<=1099511627776)) (Qc (rV (zr x)) (Qc (Q0 (Io a+Io (qA (zr x))<=1099511627776)) (Qc (Q0 (Io b+Io iB<=1099511627776)) (re (Qe [str (b++iB),kb Q3]) []))))))))
def Bv(x:Sem Q5)(h:TS):=ao [Q6,Q7] t0 100000000 (Me x h)
def o7(x:Sem Q5)(h:TS):=(Bv x h).isSome
def uk(x:Sem Q5)(h:TS):=o2 (Bv x h)
def zew:=FT [Q5,Q6] [Q6,Q7] λx=>Bv x.1 x.2.1
theorem zaO:FK 186 zew:=rl.T1 (f:=Tryz.f186) (keep:=k0) (e:=e0)
abbrev zkL:=kl [(3,[0,4,5])]
inductive BQ where
 |h3 (l0:LS) (s4:List UInt8) (i5:Int)
abbrev zpM:BQ->Nat×St
 |.h3 l s i=>(3,⟨tm 37 [(0,sl Q6 l),(4,str s),(5,ai i)],[]⟩)
def zqA(x:Sem Sh.str.sl):Tr (BQ⊕aw):=
 Q9 (BQ.h3 x [] 0)
def ET:BQ->Tr (BQ⊕aw)
 | .h3 l s i=>
  let a:=l.getD i.toNat (zi Q6)
  let h:=s++fh
  let x:=Γ Δ (i+1)
  let b:=Q0 (1<=(↑l.length:Int))
  br (Q0 (i<(↑l.length:Int)))
  (Qc (zK i (Io l))
   (Qc (ea a) (br (!bN a) (re (Qe [str [],kb Q4]) []) (br (Q0 (i>0)) (Qc (Q0 (Io s+Io fh<=1099511627776)) (Qc (zK i (Io l)) (Qc (Q0 (Io h+Io a<=1099511627776)) (Q9 (BQ.h3 l (h++a) x)))))
   (Qc (zK i (Io l)) (Qc (Q0 (Io s+Io a<=1099511627776)) (Q9 (BQ.h3 l (s++a) x))))))))
  (re (Qe [str (cond b s s),AV.bool (cond b (Q0 ((↑l.length:Int)<=8)) Q4)]) [])
def vZ(x:Sem Sh.str.sl):=ao [Q6,Q7] ET 100000000 (zqA x)
def Er(x:Sem Sh.str.sl):=(vZ x).isSome
def JL(x:Sem Sh.str.sl):=o2 (vZ x)
def zeA:=FT [Sh.str.sl] [Q6,Q7] λx=>vZ x.1
theorem zaS:FK 190 zeA:=rl.T1 (f:=Tryz.f190) (keep:=zkL) (e:=zpM)
def zfO:=zfN.addL [(67,znG),(186,zew),(190,zeA)]
theorem np:zu zfO:=rl.addL<|fc zix<|fc zaO<|fc zaS iw
abbrev zkJ:=kl [(4,[1,4,5,6]),(15,[1,4,5,8]),(20,[1,4,5,9])]
inductive pH where
 |h4 (b4:Bool) (s5:zH) (i6:Int) (z0:zn [CP.d ar])
 |h15 (b4:Bool) (s5:zH) (i8:Int) (z0:zn [CP.d ar])
 |h20 (b4:Bool) (s5:zH) (i9:Int) (z0:zn [CP.d ar])
abbrev zpK:pH->Nat×St
 |.h4 b s i z=>(4,⟨tm 174 [(1,Qf 0 0),(4,AV.bool b),(5,str s),(6,ai i)],[Qa (bI [] [CP.d ar] z)]⟩)
 |.h15 b s h z=>(15,⟨tm 174 [(1,Qf 0 0),(4,AV.bool b),(5,str s),(8,ai h)],[Qa (bI [] [CP.d ar] z)]⟩)
 |.h20 b s x z=>(20,⟨tm 174 [(1,Qf 0 0),(4,AV.bool b),(5,str s),(9,ai x)],[Qa (bI [] [CP.d ar] z)]⟩)
def Xn(x:zJ):Tr (pH⊕aw):=
 let a:=zb6++x.2.1
 let h:=(↑(Io x.t.1):Int)
 let b:=(↑(Io x.t.q.1):Int)
 let c:=(↑(Io x.t.q.2.1):Int)
 Qc (ea x.t.2.1)
 (Qc (Q0 (Io zb6+Io x.2.1<=1099511627776))
  (Qc (Q0 (Io a+Io AG<=1099511627776)) (Q9 (pH.h4 (cond (bN x.t.2.1) (cond (Q0 (1<=h)) (cond (Q0 (h<=8)) (cond (Q0 (b<=8)) (Q0 (c<=8)) Q4) Q4) Q4) Q4) (a++AG) 0 (x,())))))
def fK:pH->Tr (pH⊕aw)
 | .h4 b s m z=>
  let g:=(↑(Io z.1.t.1):Int)
  let a:=getD z.1.t.1 m.toNat (zi zl)
  let h:=a.1++[32]
  let x:=[[],Cc,Cd,Cb].getD (toNat a.2.1) (zi Q6)
  let c:=h++x
  let d:=s++c
  let j:=d++zjt
  let k:=Γ Δ (m+1)
  let e:=zjw++z.1.t.2.1
  let l:=e++iB
  br (Q0 (m<g))
  (Qc (zK m (Io z.1.t.1))
   (Qc (ea a.1) (br (cond (!bN a.1) Q3 (cond (Q0 (a.2.1<1)) Q3 (Q0 (a.2.1>3)))) (re (Qe [str [],kb Q4]) []) (Qc (Q0 (Io a.1+[32].length<=1099511627776)) (Qc (zK a.2.1 [[],Cc,Cd,Cb].length) (Qc (Q0 (Io h+Io x<=1099511627776))
   (Qc (Q0 (Io s+Io c<=1099511627776)) (br a.2.2 (Qc (Q0 (Io d+Io zjt<=1099511627776)) (Qc (Q0 (Io j+Io fh<=1099511627776)) (Q9 (pH.h4 b (j++fh) k z))))
   (Qc (Q0 (Io d+Io fh<=1099511627776)) (Q9 (pH.h4 b (d++fh) k z)))))))))))
  (Qc (Q0 (Io zjw+Io z.1.t.2.1<=1099511627776))
   (Qc (Q0 (Io e+Io iB<=1099511627776)) (Qc (Q0 (Io s+Io l<=1099511627776)) (Q9 (pH.h15 b (s++l) 0 z)))))
 | .h15 b s n z=>
  let g:=(↑(Io z.1.t.q.1):Int)
  let a:=zK n (Io z.1.t.q.1)
  let h:=getD z.1.t.q.1 n.toNat (zi Q6)
  let x:=zjr++h
  let c:=x++iB
  br (Q0 (n<g))
  (Qc (cond b (a&&ea h) Q3)
   (Qc a (Qc (Q0 (Io zjr+Io h<=1099511627776)) (Qc (Q0 (Io x+Io iB<=1099511627776)) (Qc (Q0 (Io s+Io c<=1099511627776)) (Q9 (pH.h15 (cond b (bN h) Q4) (s++c) (Γ Δ (n+1)) z)))))))
  (Q9 (pH.h20 b s 0 z))
 | .h20 b s o z=>
  let g:=(↑(Io z.1.t.q.2.1):Int)
  let a:=zK o (Io z.1.t.q.2.1)
  let h:=getD z.1.t.q.2.1 o.toNat (zi ja)
  let x:=bN h.1
  let c:=zjq++h.1
  let d:=c++zjp
  let j:=d++h.2
  let k:=zr z.1.t.t.1
  let e:=uk k [32,44]
  let l:=s++e.1
  let i:=l++iB
  br (Q0 (o<g))
  (Qc (cond b (a&&(ea h.1&&bif x then a&&ea h.2 else Q3)) Q3)
   (Qc a (Qc (Q0 (Io zjq+Io h.1<=1099511627776)) (Qc (Q0 (Io c+Io zjp<=1099511627776)) (Qc a (Qc (Q0 (Io d+Io h.2<=1099511627776)) (Qc (Q0 (Io s+Io j<=1099511627776))
   (Q9 (pH.h20 (cond b (cond x (bN h.2) Q4) Q4) (s++j) (Γ Δ (o+1)) z)))))))))
  (Qc (o7 k [32,44])
   (Qc (Q0 (Io s+Io e.1<=1099511627776)&&Q0 (Io l+Io iB<=1099511627776)) (re (Qe [str (cond b i i),AV.bool (cond b e.2 Q4)]) [])))
def nJ(x:zJ):=ao [Q6,Q7] fK 100000000 (Xn x)
def rY(x:zJ):=(nJ x).isSome
def qB(x:zJ):=o2 (nJ x)
def zex:=FT [ar] [Q6,Q7] λx=>nJ x.1
theorem zaP:FK 187 zex:=np.T1 (f:=Tryz.f187) (keep:=zkJ) (e:=zpK)
abbrev zri:=kl [(2,[0,1,5]),(5,[0,1,5,6])]
inductive KL where
 |h2 (l0:zP) (l1:List (Sem Q6)) (i5:Int)
 |h5 (l0:zP) (l1:List (Sem Q6)) (i5:Int) (i6:Int)
abbrev zua:KL->Nat×St
 |.h2 l h i=>(2,⟨tm 47 [(0,sl zk l),(1,sl Q6 h),(5,ai i)],[]⟩)
 |.h5 l h i x=>(5,⟨tm 47 [(0,sl zk l),(1,sl Q6 h),(5,ai i),(6,ai x)],[]⟩)
def zvx(x:Sem zk.sl)(h:Sem Sh.str.sl):Tr (KL⊕aw):=
 Q9 (KL.h2 x h 0)
def qM:KL->Tr (KL⊕aw)
 | .h2 l h i=>
  br (Q0 (i<(↑l.length:Int))) (Q9 (KL.h5 l h i 0)) (re (kb Q4) [])
 | .h5 l h i x=>
  let a:=l.getD i.toNat (zi zk)
  let d:=(↑(Io a.1.t.1):Int)
  let b:=!Ng h a.1.1
  let c:=getD a.1.t.1 x.toNat (zi zA)
  Qc (zK i (Io l))
  (br (Q0 (x<d))
   (Qc (zK i (Io l)&&(Au h a.1.1&&bif b then zK i (Io l)&&(zK x (Io a.1.t.1)&&Au h c.2)else Q3)) (br (cond b (Ng h c.2) Q4) (re (kb Q3) []) (Q9 (KL.h5 l h i (Γ Δ (x+1))))))
   (Q9 (KL.h2 l h (Γ Δ (i+1)))))
def oO(x:Sem zk.sl)(h:Sem Sh.str.sl):=ao [Q7] qM 100000000 (zvx x h)
def ue(x:Sem zk.sl)(h:Sem Sh.str.sl):=(oO x h).isSome
def xW(x:Sem zk.sl)(h:Sem Sh.str.sl):=o1 (oO x h)
def znh:=FT [zk.sl,Sh.str.sl] [Q7] λx=>oO x.1 x.2.1
theorem zh4:FK 62 znh:=np.T1 (f:=Tryz.f62) (keep:=zri) (e:=zua)
abbrev zrk:=kl [(3,[0,1,6,7]),(10,[6,9]),(13,[6,9,10])]
inductive pJ where
 |h3 (l0:aM) (l1:List (Sem Q6)) (i7:Int)
 |h3b (l0:aM) (l1:List (Sem Q6)) (i7:Int) (lh_0:dI)
 |h10 (i9:Int)
 |h10b (i9:Int) (lh_0:dI)
 |h13 (i9:Int) (i10:Int)
 |h13b (i9:Int) (i10:Int) (lh_0:dI)
abbrev zuc:pJ->Nat×St
 |.h3 a b x=>(3,⟨tm 50 [(0,sl zl a),(1,sl Q6 b),(6,Qb),(7,ai x)],[]⟩)
 |.h3b a b x l=>(3,⟨tm 50 [(0,sl zl a),(1,sl Q6 b),(6,AV.vec 0),(7,ai x)],[AO.vec zj l]⟩)
 |.h10 h=>(10,⟨tm 50 [(6,Qb),(9,ai h)],[]⟩)
 |.h10b h l=>(10,⟨tm 50 [(6,AV.vec 0),(9,ai h)],[AO.vec zj l]⟩)
 |.h13 h i=>(13,⟨tm 50 [(6,Qb),(9,ai h),(10,ai i)],[]⟩)
 |.h13b h i l=>(13,⟨tm 50 [(6,AV.vec 0),(9,ai h),(10,ai i)],[AO.vec zj l]⟩)
def zqO(x:Sem zl.sl)(h:Sem Sh.str.sl):Tr (pJ⊕aw):=
 Q9 (pJ.h3 x h 0)
def jY:pJ->Tr (pJ⊕aw)
 | .h3 b a x=>
  let c:=a.getD x.toNat (zi Q6)
  let d:=gw b c
  let e:=[d]
  br (Q0 (x<(↑a.length:Int)))
  (Qc (zK x (Io a))
   (Qc (eP b c) (br (Q0 (d<0)) (re (Qe [Qb,ai 4]) []) (Qc (Q0 (Io e<=1073741824)) (Q9 (pJ.h3b b a (Γ Δ (x+1)) e))))))
  (Q9 (pJ.h10 0))
 | .h3b b a x l=>
  let c:=a.getD x.toNat (zi Q6)
  let d:=gw b c
  let e:=[d]
  br (Q0 (x<(↑a.length:Int)))
  (Qc (zK x (Io a))
   (Qc (eP b c) (br (Q0 (d<0)) (re (Qe [Qb,ai 4]) []) (Qc (Q0 (Io l+Io e<=1073741824)) (Q9 (pJ.h3b b a (Γ Δ (x+1)) (l++e)))))))
  (Q9 (pJ.h10b 0 l))
 | .h10 h=>
  br (Q0 (h<0)) (Q9 (pJ.h13 h 0)) (re (Qe [Qb,ai 0]) [])
 | .h10b h l=>
  br (Q0 (h<(↑l.length:Int))) (Q9 (pJ.h13b h 0 l)) (re (Qe [AV.vec 0,ai 0]) [AO.vec zj l])
 | .h13 h i=>
  br (Q0 (i<h)) Tr.err (Q9 (pJ.h10 (Γ Δ (h+1))))
 | .h13b h i l=>
  br (Q0 (i<h))
  (Qc (zK h (Io l))
   (Qc (Q0 (h.toNat<Io l)) (Qc (zK i (Io l)) (Qc (Q0 (i.toNat<Io l)) (br (l.getD h.toNat (zi zj)==l.getD i.toNat (zi zj)) (re (Qe [Qb,ai 7]) []) (Q9 (pJ.h13b h (Γ Δ (i+1)) l)))))))
  (Q9 (pJ.h10b (Γ Δ (h+1)) l))
def oN(x:Sem zl.sl)(h:Sem Sh.str.sl):=ao [zj.sl,zj] jY 100000000 (zqO x h)
def oM(x:Sem zl.sl)(h:Sem Sh.str.sl):=(oN x h).isSome
def rJ(x:Sem zl.sl)(h:Sem Sh.str.sl):=o2 (oN x h)
def znj:=FT [zl.sl,Sh.str.sl] [zj.sl,zj] λx=>oN x.1 x.2.1
theorem zh5:FK 63 znj:=np.T1 (f:=Tryz.f63) (keep:=zrk) (e:=zuc)
def zcZ(x:Sem Q5)(h:Sem zl.sl):Tr (Empty⊕aw):=
 br (za.op x==[]) (re (ai 0) [])
 (Qc (uf (zr x))
  (br (!D4 (zr x)) (re (ai 1) []) (Qc (oT (zr x) h) (br (cond ((iN (zr x) h).2==0) (cond ((iN (zr x) h).1!=0) ((iN (zr x) h).1!=3) Q4) Q4) (re (ai 5) []) (re (ai (iN (zr x) h).2) [])))))
def Bp(x:Sem Q5)(h:Sem zl.sl):=ao [zj] t0 100000000 (zcZ x h)
def oX(x:Sem Q5)(h:Sem zl.sl):=(Bp x h).isSome
def qD(x:Sem Q5)(h:Sem zl.sl):=o1 (Bp x h)
def znl:=FT [Q5,zl.sl] [zj] λx=>Bp x.1 x.2.1
theorem zh7:FK 65 znl:=np.T1 (f:=Tryz.f65) (keep:=k0) (e:=e0)
def Wt:=zfO.addL [(187,zex),(62,znh),(63,znj),(65,znl)]
theorem CE:zu Wt:=np.addL<|fc zaP<|fc zh4<|fc zh5<|fc zh7 iw
end
end Cad
