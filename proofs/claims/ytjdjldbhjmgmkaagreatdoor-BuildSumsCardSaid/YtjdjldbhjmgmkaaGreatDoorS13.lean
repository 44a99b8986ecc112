/- Plans. -/
import Derived.Test.YtjdjldbhjmgmkaaGreatDoorS12
namespace Cad
open Go Go.Proofs
open List renaming length→Io,map→Qi,drop→Qh,take→Qg
open IntKind renaming wrap→Γ,i64→Δ
open AV renaming ptr→Qf,tup→Qe,agg→Qd,nils→Qb
open Tr renaming chk→Qc,«to»→Q9
open AO renaming box→Qa
open Sh renaming bool→Q7,str→Q6,expr→Q5
open Bool renaming false→Q4,true→Q3
open Option renaming some→Q1
open Decidable renaming decide→Q0
open Int (toNat)
open List (getD)
open Tr (chk br re)
open AV (nils agg tup ptr kb str sl)
noncomputable section
set_option maxHeartbeats 4000000
abbrev nH:AV:=Qd [str [],str [],str [],str [],Qb,ai 0,Qb,Qb,str [],ai 0,ai 0,str [],str [],Qb,Qb,ai 0]
abbrev xU(z:zo az):AV:=Qd [str z.t.1,str z.t.2.1,str z.t.q.1,str z.t.q.2.1,AV.vec 0,ai z.t.t.2.1,Qb,Qb,str (za.op z.t.t.q.1),ai (za.v z.t.t.q.1).1,ai (za.v z.t.t.q.1).2.1,str (za.v z.t.t.q.1).2.2,str (za.s z.t.t.q.1),sl Q5 (za.l z.t.t.q.1),sl zj z.t.t.q.2.1,ai z.t.t.t.1]
abbrev I7(z:zo bB):AV:=Qd [str z.t.1,str z.t.2.1,str z.t.q.1,str z.t.q.2.1,Qb,ai z.t.t.1,Qb,Qb,str (za.op z.t.t.2.1),ai (za.v z.t.t.2.1).1,ai (za.v z.t.t.2.1).2.1,str (za.v z.t.t.2.1).2.2,str (za.s z.t.t.2.1),sl Q5 (za.l z.t.t.2.1),Qb,ai z.t.t.q.1]
def L9(_:Sem zk.sl)(s:zN)(_:za)(_:Sem Q6×Sem (Sh.str.pr (Sh.str.pr (Sh.str.sl.pr (zl.sl.pr (Sh.str.pr (Sh.str.sl.pr (kC.sl.pr (Sh.expr.pr (zf.sl.pr (jY.sl.pr (Sh.expr.pr Q6))))))))))))(_ n o p:Bool)(_:Sem zk.sl×zo [CP.d aC,CP.d aj,CP.d aj,CP.d Q6,CP.d Q6,CP.d Q6,CP.d Q6,CP.nil,CP.d zj,CP.nil,CP.nil,CP.d Q5,CP.nil,CP.d zj])(q:Bool)(g:zq×zo bB)(j:Bool)(i:Sem zk.sl×zo [CP.d aC,CP.d aj,CP.d aj,CP.d Q6,CP.d Q6,CP.d Q6,CP.d Q6,CP.nil,CP.d zj,CP.nil,CP.nil,CP.d Q5,CP.nil,CP.d zj])(a:zq×zo az)(k:Sem zk.sl×zo [CP.d aC,CP.d aj,CP.d aj,CP.d Q6,CP.d Q6,CP.d Q6,CP.d Q6,CP.vec zl,CP.d zj,CP.nil,CP.nil,CP.d Q5,CP.d zj.sl,CP.d zj])(b h:zq×zo az)(l:Sem zk.sl×zo [CP.d aC,CP.d aj,CP.d aj,CP.d Q6,CP.d Q6,CP.d Q6,CP.d Q6,CP.vec zl,CP.d zj,CP.nil,CP.nil,CP.d Q5,CP.d zj.sl,CP.d zj])(c x:zq×zo az)(m:Sem zk.sl×zo [CP.d aC,CP.d aj,CP.d aj,CP.d Q6,CP.d Q6,CP.d Q6,CP.d Q6,CP.vec zl,CP.d zj,CP.nil,CP.nil,CP.d Q5,CP.d zj.sl,CP.d zj])(e:zq×zo az):Tr (Empty⊕au):=
 Qc Q3 (Qc Q3 (Qc Q3 (br (s.1==dm) (Qc n (br o (re (Qe [nH,ai 1]) []) (Qc p (Qc q (br j (Qc (IW i) (br (a.1==0) (Qc (gW k) (br (b.1!=0) (re (Qe [nH,ai b.1]) []) (re (Qe [(xU b.2),ai 0]) [AO.vec zl b.t.t.2.1]))) (br (a.1!=0) (re (Qe [nH,ai a.1]) []) (re (Qe [(xU a.2),ai 0]) [AO.vec zl a.t.t.2.1])))) (br j Tr.err (br (g.1!=0) (re (Qe [nH,ai g.1]) []) (re (Qe [(I7 g.2),ai 0]) [])))))))) (br (s.1==gm) (Qc n (br o (re (Qe [nH,ai 1]) []) (Qc p (Qc q (br j (Qc (IY i) (br (h.1==0) (Qc (gW l) (br (c.1!=0) (re (Qe [nH,ai c.1]) []) (re (Qe [(xU c.2),ai 0]) [AO.vec zl c.t.t.2.1]))) (br (h.1!=0) (re (Qe [nH,ai h.1]) []) (re (Qe [(xU h.2),ai 0]) [AO.vec zl h.t.t.2.1])))) (br j Tr.err (br (g.1!=0) (re (Qe [nH,ai g.1]) []) (re (Qe [(I7 g.2),ai 0]) [])))))))) (br (s.1==mU) (Qc n (br o (re (Qe [nH,ai 1]) []) (Qc p (Qc q (br j (Qc (Ba i) (br (x.1==0) (Qc (gW m) (br (e.1!=0) (re (Qe [nH,ai e.1]) []) (re (Qe [(xU e.2),ai 0]) [AO.vec zl e.t.t.2.1]))) (br (x.1!=0) (re (Qe [nH,ai x.1]) []) (re (Qe [(xU x.2),ai 0]) [AO.vec zl x.t.t.2.1])))) (br j Tr.err (br (g.1!=0) (re (Qe [nH,ai g.1]) []) (re (Qe [(I7 g.2),ai 0]) [])))))))) (re (Qe [nH,ai 1]) []))))))
def zkw(k:Sem zk.sl)(x:zN):Tr (Empty⊕au):=
 let i:=zr x.t.t.1
 let j:=(x.1,x.2.1,x.2.2.1,x.2.2.2.1,x.t.1,x.t.2.1,x.t.q.1,x.t.q.2.1,i,x.t.t.2.1,x.t.t.q.1,zr x.t.t.q.2.1,x.t.t.t)
 let o:=!eG j
 let u:=pg j&&bif o then Q3 else oq k
 let v:=bif o then Q3 else kh k !=0
 let w:=pZ 16 i
 let p:=(k,j,([],[],0,[],[],za.mk [] (0,0,[]) [] []),([],[],0,[],[],za.mk [] (0,0,[]) [] []),x.1,x.2.2.1,x.t.t.t,x.2.1,0,i,0,())
 let y:=nD p
 let s:=nC p
 let z:=s.1==0
 let a:=TW s.2
 let h:=Hg a
 let b:=Rl h.2
 let l:=fH b
 let c:=Hh a
 let d:=Rl c.2
 let m:=fH d
 let e:=xN a
 let g:=Rl e.2
 let n:=fH g
 L9 k x i j o u v w p y s z a h b l c d m e g n
def MC(x:Sem zk.sl)(h:zN):=an [aq,zj] t0 100000000 (zkw x h)
def zlY(x:Sem zk.sl)(h:zN):=(MC x h).isSome
def pOf(x:Sem zk.sl)(h:zN):=o2 (MC x h)
def zmM:=FT [zk.sl,aC] [aq,zj] λx=>MC x.1 x.2.1
theorem zhx:FK 84 zmM:=Gy.T1 (f:=Tryz.f84) (keep:=k0) (e:=e0)
def Re:=zf1.add 84 zmM
theorem np:zw Re:=Gy.add zhx
abbrev aH:List CP:=[.d (.sl zB),.d zj,.d .bool]
def zgx(x:Sem (Sh.int IntKind.u8)):Tr (Empty⊕au):=
 let a:=bif Q0 (97<=x)then Q0 (x<=122)else Q4
 re (AV.bool (cond (Q0 (65<=x)) (cond (Q0 (x<=90)) Q3 a) a)) []
def nQ(x:Sem (Sh.int IntKind.u8)):=an [Q7] t0 100000000 (zgx x)
def nP(x:Sem (Sh.int IntKind.u8)):=(nQ x).isSome
def qH(x:Sem (Sh.int IntKind.u8)):=o1 (nQ x)
def zeV:=FT [Sh.int IntKind.u8] [Q7] λx=>nQ x.1
theorem za5:FK 131 zeV:=np.T1 (f:=Tryz.f131) (keep:=k0) (e:=e0)
def zqS(x:Sem (Sh.int IntKind.u8)):Tr (Empty⊕au):=
 re (AV.bool (cond (Q0 (48<=x)) (Q0 (x<=57)) Q4)) []
def vT(x:Sem (Sh.int IntKind.u8)):=an [Q7] t0 100000000 (zqS x)
def jV(x:Sem (Sh.int IntKind.u8)):=(vT x).isSome
def kO(x:Sem (Sh.int IntKind.u8)):=o1 (vT x)
def zeY:=FT [Sh.int IntKind.u8] [Q7] λx=>vT x.1
theorem za8:FK 133 zeY:=np.T1 (f:=Tryz.f133) (keep:=k0) (e:=e0)
abbrev zrV:=kJ [(2,[0,1,5])]
inductive S4 where
 |h2 (l0:LS) (s1:TS) (i5:Int)
abbrev zuC:S4->Nat×St
 |.h2 l s i=>(2,⟨tm 18 [(0,sl Q6 l),(1,str s),(5,ai i)],[]⟩)
def zvN(x:Sem Sh.str.sl)(h:TS):Tr (S4⊕au):=
 Q9 (S4.h2 x h 0)
def Qm:S4->Tr (S4⊕au)
 | .h2 l s i=>
  br (Q0 (i<(↑l.length:Int)))
  (Qc (zK i (Io l)) (br (l.getD i.toNat (zi Q6)==s) (re (kb Q3) []) (Q9 (S4.h2 l s (Γ Δ (i+1))))))
  (re (kb Q4) [])
def Sr(x:Sem Sh.str.sl)(h:TS):=an [Q7] Qm 100000000 (zvN x h)
def Au(x:Sem Sh.str.sl)(h:TS):=(Sr x h).isSome
def M8(x:Sem Sh.str.sl)(h:TS):=o1 (Sr x h)
def zn6:=FT [Sh.str.sl,Q6] [Q7] λx=>Sr x.1 x.2.1
theorem ziY:FK 128 zn6:=np.T1 (f:=Tryz.f128) (keep:=zrV) (e:=zuC)
abbrev XV:Nat->aP:=λ_=>{ }
theorem zlr:zM Re.P 75 Tryz.f75 2:=bL kw
def Xm(y:zo aH)(e:TS):Tr (Empty⊕au):=
 let x:=Q0 (y.2.1<(↑(Io y.1):Int))
 let a:=zK y.2.1 (Io y.1)
 let h:=getD y.1 (toNat y.2.1) (zi zB)
 let b:=h.1==1
 let c:=h.1==4
 let d:=h.2==e
 Qc (cond x (a&&bif b then a else a&&bif c then a else Q3) Q3)
 (re (AV.bool (cond x (cond b d (cond c d Q4)) Q4)) (aB aH y))
theorem zj6(y:zo aH)(x:TS):rn Re 1 XV Tryz.f75 [Qf 0 0,zL Q6 x] (aB aH y)=(Xm y x).map (lf Tryz.f75 e0):=kw
def ZJ(y:zo aH)(x:TS):Option (zD (Qi Q1 [Q7])×zo aH):=kM [Q7] aH t0 100000000 (Xm y x)
def JN(y:zo aH)(x:TS):Bool:=(ZJ y x).isSome
def Nf(y:zo aH)(x:TS):(Sem Q7)×zo aH:=(λr:zD (Qi Q1 [Q7])×zo aH=>(r.1.1,r.2)) ((ZJ y x).getD (cA [Q7],fU aH))
def zeD:z8:=sA aH [Q6] [Q7] aH (λy x=>JN y x.1) λy x=>(((Nf y x.1).1,()),(Nf y x.1).2)
theorem zaN:FK 75 zeD:=kd (ps:=aH) (ks:=[Q6]) (outs:=[Q7]) (keep:=XV) (gas:=400) (n:=100000000) (e:=e0) (t:=t0) (i:=λy x=>Xm y x.1) np zlr (λy x=>zj6 y x.1) (U7 _ _ _ _ _) (λ_ _=>by kernel_rfl) (λ_ _=>by kernel_rfl)
def qa:=Re.addL [(131,zeV),(133,zeY),(128,zn6),(75,zeD)]
theorem jo:zw qa:=np.addL<|fc za5<|fc za8<|fc ziY<|fc zaN iH
abbrev zkR:=kJ [(2,[1,3])]
inductive BP where
 |h2 (i3:Int) (z0:zo [CP.d zf])
abbrev zpY:BP->Nat×St
 |.h2 i z=>(2,⟨tm 66 [(1,Qf 0 0),(3,ai i)],[Qa (bI [] [CP.d zf] z)]⟩)
def zgs(x:zp):Tr (BP⊕au):=
 Q9 (BP.h2 0 (x,()))
def ta:BP->Tr (BP⊕au)
 | .h2 i z=>
  let x:=(↑(Io z.1.2.2):Int)
  let b:=zK i (Io z.1.2.2)
  let c:=(↑(getD z.1.2.2 i.toNat 0).toNat:Int)
  let d:=Q0 (c<32)
  let h:=z.1.2.1==0
  let a:=z.1.2.2==[]
  br (Q0 (i<x))
  (Qc (b&&bif d then Q3 else b)
   (br (cond d Q3 (Q0 (c>126))) (re (kb Q4) []) (Q9 (BP.h2 (Γ Δ (i+1)) z))))
  (br (z.1.1==0) (re (AV.bool (cond h a Q4)) [])
   (br (z.1.1==1) (re (AV.bool a) []) (br (z.1.1==2) (re (AV.bool (cond h (Q0 (x<=40)) Q4)) []) (br (z.1.1==3) (re (AV.bool (cond h a (cond (z.1.2.1==1) a Q4))) []) (re (kb Q4) [])))))
def Jd(x:zp):=an [Q7] ta 100000000 (zgs x)
def mK(x:zp):=(Jd x).isSome
def sY(x:zp):=o1 (Jd x)
def zeu:=FT [zf] [Q7] λx=>Jd x.1
theorem zaD:FK 104 zeu:=jo.T1 (f:=Tryz.f104) (keep:=zkR) (e:=zpY)
def zqT(x:Sem Q7):Tr (Empty⊕au):=
 br x (re (Qd [ai 3,ai 1,str []]) []) (re (Qd [ai 3,ai 0,str []]) [])
def vK(x:Sem Q7):=an [zf] t0 100000000 (zqT x)
def lJ(x:Sem Q7):=(vK x).isSome
def bn(x:Sem Q7):=o1 (vK x)
def ze2:=FT [Q7] [zf] λx=>vK x.1
theorem zbc:FK 166 ze2:=jo.T1 (f:=Tryz.f166) (keep:=k0) (e:=e0)
abbrev XZ:Nat->aP:=λ_=>{ }
theorem zly:zM qa.P 240 Tryz.f240 1:=bL kw
def Xs(x:TS):Tr (Empty⊕au):=
 re
 (AV.bool
  (bif x==iw then Q3
  else bif x==uD then Q3 else bif x==[61]then Q3 else bif x==[60]then Q3 else bif x==[43]then Q3 else x==[45]))
 []
theorem zki(x:TS):rn qa 0 XZ Tryz.f240 [zL Q6 x] []=(Xs x).map (lf Tryz.f240 e0):=kw
def PG(x:TS):Option (zD (Qi Q1 [Q7])):=an [Q7] t0 100000000 (Xs x)
def Jm(x:TS):Bool:=(PG x).isSome
def Sn(x:TS):Sem Q7:=(λr:zD (Qi Q1 [Q7])=>r.1) ((PG x).getD (cA [Q7]))
def zfk:z8:=zZ [Q6] [Q7] (λx=>Jm x.1) λx=>(Sn x.1,())
theorem zbt:FK 240 zfk:=lj (ks:=[Q6]) (outs:=[Q7]) (keep:=XZ) (gas:=400) (n:=100000000) (e:=e0) (t:=t0) (i:=λx=>Xs x.1) jo zly (λx=>zki x.1) (U7 _ _ _ _ _) (λ_=>by kernel_rfl) (λ_=>by kernel_rfl)
abbrev X8:Nat->aP:=λj=>if j=2 then{slots:=[0,1,5]}else{ }
inductive KG where
 |h2 (l0:LC) (s1:TS) (i5:Int)
abbrev Wb:KG->Nat×St
 |.h2 l s i=>(2,⟨tm 20 [(0,sl zl l),(1,str s),(5,ai i)],[]⟩)
theorem zsz:zM qa.P 64 Tryz.f64 2:=bL kw
def zc8(x:Sem zl.sl)(h:TS):Tr (KG⊕au):=
 Q9 (KG.h2 x h 0)
def Kf(l:LC)(s:TS)(i:Int)(a:bR):Tr (KG⊕au):=
 br (Q0 (i<(↑l.length:Int)))
 (Qc (zK i (Io l)) (br (a.1==s) (re (ai i) []) (Q9 (KG.h2 l s (Γ Δ (i+1))))))
 (re (ai (-1)) [])
def Qk(l:LC)(s:TS)(i:Int):Tr (KG⊕au):=
 let a:=l.getD i.toNat (zi zl)
 Kf l s i a
theorem zqu(x:Sem zl.sl)(h:TS):rn qa 0 X8 Tryz.f64 [zL zl.sl x,zL Q6 h] []=(zc8 x h).map (lf Tryz.f64 Wb):=kw
def Qj:KG->Tr (KG⊕au)
 |.h2 l s i=>Qk l s i
theorem ztc:∀s,run qa 0 X8 (Func.results Tryz.f64).toList 400 (ab Tryz.f64 (Wb s).1) (Wb s).2=(Qj s).map (lf Tryz.f64 Wb)
 |.h2 l h i=>by kernel_rfl
def D5(x:Sem zl.sl)(h:TS):Option (zD (Qi Q1 [zj])):=an [zj] Qj 100000000 (zc8 x h)
def eQ(x:Sem zl.sl)(h:TS):Bool:=(D5 x h).isSome
def gz(x:Sem zl.sl)(h:TS):zq:=(λr:zD (Qi Q1 [zj])=>r.1) ((D5 x h).getD (cA [zj]))
def znx:z8:=zZ [zl.sl,Q6] [zj] (λx=>eQ x.1 x.2.1) λx=>(gz x.1 x.2.1,())
theorem zil:FK 64 znx:=lj (ks:=[zl.sl,Q6]) (outs:=[zj]) (keep:=X8) (gas:=400) (n:=100000000) (e:=Wb) (t:=Qj) (i:=λx=>zc8 x.1 x.2.1) jo zsz (λx=>zqu x.1 x.2.1) ztc (λ_=>by kernel_rfl) (λ_=>by kernel_rfl)
def Lp(g:Sem Q5->Sem Q5->Sem Q7)(c:Sem Q5->Sem Q5->Bool):cg:=qa.add 95 (zZ [Q5,Q5] [Q7] (λx=>c x.1 x.2.1) λx=>(g x.1 x.2.1,()))
theorem TG{g:Sem Q5->Sem Q5->Sem Q7}{c:Sem Q5->Sem Q5->Bool}(h:FK 95 (zZ [Q5,Q5] [Q7] (λx=>c x.1 x.2.1) λx=>(g x.1 x.2.1,()))):zw (Lp g c):=jo.add h
abbrev Yc:Nat->aP:=λj=>if j=4 then{slots:=[2,3,5]}else{ }
inductive KK where
 |h4 (i5:Int) (z0:zo [CP.d Q5]) (z1:zo [CP.d Q5])
abbrev Wg:KK->Nat×St
 |.h4 i z h=>(4,⟨tm 53 [(2,Qf 0 0),(3,Qf 1 0),(5,ai i)],[Qa (bI [] [CP.d Q5] z),Qa (bI [] [CP.d Q5] h)]⟩)
theorem zsW(g:Sem Q5->Sem Q5->Sem Q7)(c:Sem Q5->Sem Q5->Bool):zM (Lp g c).P 95 Tryz.f95 2:=bL kw
def Dk(_:Sem Q5->Sem Q5->Sem Q7)(_:Sem Q5->Sem Q5->Bool)(x h:Sem Q5):Tr (KK⊕au):=
 br
 (bif !za.op x==za.op h then Q3
 else
  bif !((za.v x).1==(za.v h).1&&((za.v x).2.1==(za.v h).2.1&&((za.v x).2.2==(za.v h).2.2&&Q3)))then Q3
  else bif !za.s x==za.s h then Q3 else(↑(za.l x).length:Int)!=(↑(za.l h).length:Int))
 (re (kb Q4) []) (Q9 (KK.h4 0 (x,()) (h,())))
def BL(g:Sem Q5->Sem Q5->Sem Q7)(c:Sem Q5->Sem Q5->Bool)(i:Int)(z x:zo [CP.d Q5])(b:Int)(a h:za):Tr (KK⊕au):=
 br (Q0 (i<b))
 (Qc (zK i (za.l z.1).length)
  (Qc (zK i (za.l x.1).length) (Qc (c a h) (br (!g a h) (re (kb Q4) []) (Q9 (KK.h4 (Γ Δ (i+1)) z x))))))
 (re (kb Q3) [])
def Kk(g:Sem Q5->Sem Q5->Sem Q7)(c:Sem Q5->Sem Q5->Bool)(i:Int)(z h:zo [CP.d Q5]):Tr (KK⊕au):=
 let a:=(↑(za.l z.1).length:Int)
 let x:=zr ((za.l z.1).getD i.toNat (zi Q5))
 let b:=zr ((za.l h.1).getD i.toNat (zi Q5))
 BL g c i z h a x b
theorem zqG(g:Sem Q5->Sem Q5->Sem Q7)(c:Sem Q5->Sem Q5->Bool)(x h:Sem Q5):rn (Lp g c) 0 Yc Tryz.f95 [zL Q5 x,zL Q5 h] []=(Dk g c x h).map (lf Tryz.f95 Wg):=kw
def Kj(g:Sem Q5->Sem Q5->Sem Q7)(c:Sem Q5->Sem Q5->Bool):KK->Tr (KK⊕au)
 |.h4 i z h=>Kk g c i z h
theorem ztk(g:Sem Q5->Sem Q5->Sem Q7)(c:Sem Q5->Sem Q5->Bool):∀s,run (Lp g c) 0 Yc (Func.results Tryz.f95).toList 400 (ab Tryz.f95 (Wg s).1) (Wg s).2=(Kj g c s).map (lf Tryz.f95 Wg)
 |.h4 i z h=>by kernel_rfl
def hI(o:Option (zD (Qi Q1 [Q7]))):Sem Q7:=(λr:zD (Qi Q1 [Q7])=>r.1) (o.getD (cA [Q7]))
def Jh(g:Sem Q5->Sem Q5->Sem Q7)(c:Sem Q5->Sem Q5->Bool)(x h:Sem Q5):Option (zD (Qi Q1 [Q7])):=an [Q7] (Kj g c) 3000000000 (Dk g c x h)
def cr:Nat->Sem Q5->Sem Q5->Option (zD (Qi Q1 [Q7]))
 |0=>λ_ _=>none
 |n+1=>Jh (λx h=>hI (cr n x h)) λx h=>(cr n x h).isSome
theorem zkO:zM qa.P 95 Tryz.f95 2:=bL kw
theorem QA:∀n,FK 95 (zZ [Q5,Q5] [Q7] (λx=>(cr n x.1 x.2.1).isSome) λx=>(hI (cr n x.1 x.2.1),()))
 |0=>eI ⟨Tryz.f95,zkO.1,zkO.2.1,zkO.2.2.1⟩ (λ_=>rfl)
 |n+1=>lj (E:=Lp (λh a=>hI (cr n h a)) (λh a=>(cr n h a).isSome)) (ks:=[Q5,Q5]) (outs:=[Q7]) (keep:=Yc) (gas:=400) (n:=3000000000) (e:=Wg) (t:=Kj (λh a=>hI (cr n h a)) (λh a=>(cr n h a).isSome)) (i:=λx=>Dk (λh a=>hI (cr n h a)) (λh a=>(cr n h a).isSome) x.1 x.2.1) (TG (QA n)) (zsW _ _) (λx=>zqG _ _ x.1 x.2.1) (ztk _ _) (λ_=>by kernel_rfl) (λ_=>by kernel_rfl)
def Bl(x h:Sem Q5):Option (zD (Qi Q1 [Q7])):=cr 16 x h
def hA(x h:Sem Q5):Bool:=(Bl x h).isSome
def fB(x h:Sem Q5):Sem Q7:=hI (Bl x h)
def zn1:z8:=zZ [Q5,Q5] [Q7] (λx=>hA x.1 x.2.1) λx=>(fB x.1 x.2.1,())
theorem ziT:FK 95 zn1:=QA 16
def Cu(g:Sem Q5->zq)(c:Sem Q5->Bool):cg:=qa.add 194 (zZ [Q5] [zj] (λx=>c x.1) λx=>(g x.1,()))
variable {c:Sem Q5->Bool}
theorem Ov{g:Sem Q5->zq}(h:FK 194 (zZ [Q5] [zj] (λx=>c x.1) λx=>(g x.1,()))):zw (Cu g c):=jo.add h
abbrev Pb:Nat->aP:=λj=>if j=3 then{slots:=[1,3,4]}else{ }
inductive un where
 |h3 (i3:Int) (i4:Int) (z0:zo [CP.d Q5])
abbrev Le:un->Nat×St
 |.h3 i h z=>(3,⟨tm 21 [(1,Qf 0 0),(3,ai i),(4,ai h)],[Qa (bI [] [CP.d Q5] z)]⟩)
theorem zlw(g:Sem Q5->zq)(c:Sem Q5->Bool):zM (Cu g c).P 194 Tryz.f194 1:=bL kw
def Rz(_:Sem Q5->zq)(_:Sem Q5->Bool)(x:Sem Q5):Tr (un⊕au):=
 Q9 (un.h3 1 0 (x,()))
def EX(g:Sem Q5->zq)(c:Sem Q5->Bool)(h i:Int)(z:zo [CP.d Q5])(x:Int)(a:za):Tr (un⊕au):=
 br (Q0 (i<x))
 (Qc (zK i (za.l z.1).length) (Qc (c a) (Q9 (un.h3 (Γ Δ (h+g a)) (Γ Δ (i+1)) z))))
 (re (ai h) [])
def J9(g:Sem Q5->zq)(c:Sem Q5->Bool)(x i:Int)(z:zo [CP.d Q5]):Tr (un⊕au):=
 let a:=(↑(za.l z.1).length:Int)
 let h:=zr ((za.l z.1).getD i.toNat (zi Q5))
 EX g c x i z a h
theorem zke(g:Sem Q5->zq)(c:Sem Q5->Bool)(x:Sem Q5):rn (Cu g c) 0 Pb Tryz.f194 [zL Q5 x] []=(Rz g c x).map (lf Tryz.f194 Le):=kw
def EW(g:Sem Q5->zq)(c:Sem Q5->Bool):un->Tr (un⊕au)
 |.h3 i h z=>J9 g c i h z
theorem zlH(g:Sem Q5->zq)(c:Sem Q5->Bool):∀s,run (Cu g c) 0 Pb (Func.results Tryz.f194).toList 400 (ab Tryz.f194 (Le s).1) (Le s).2=(EW g c s).map (lf Tryz.f194 Le)
 |.h3 i h z=>by kernel_rfl
def iR(o:Option (zD (Qi Q1 [zj]))):zq:=(λr:zD (Qi Q1 [zj])=>r.1) (o.getD (cA [zj]))
def MW(g:Sem Q5->zq)(c:Sem Q5->Bool)(x:Sem Q5):Option (zD (Qi Q1 [zj])):=an [zj] (EW g c) 100000000 (Rz g c x)
def cM:Nat->Sem Q5->Option (zD (Qi Q1 [zj]))
 |0=>λ_=>none
 |n+1=>MW (λx=>iR (cM n x)) λx=>(cM n x).isSome
theorem XO:zM qa.P 194 Tryz.f194 1:=bL kw
theorem KB:∀n,FK 194 (zZ [Q5] [zj] (λx=>(cM n x.1).isSome) λx=>(iR (cM n x.1),()))
 |0=>eI ⟨Tryz.f194,XO.1,XO.2.1,XO.2.2.1⟩ (λ_=>rfl)
 |n+1=>lj (E:=Cu (λh=>iR (cM n h)) (λh=>(cM n h).isSome)) (ks:=[Q5]) (outs:=[zj]) (keep:=Pb) (gas:=400) (n:=100000000) (e:=Le) (t:=EW (λh=>iR (cM n h)) (λh=>(cM n h).isSome)) (i:=λx=>Rz (λh=>iR (cM n h)) (λh=>(cM n h).isSome) x.1) (Ov (KB n)) (zlw _ _) (λx=>zke _ _ x.1) (zlH _ _) (λ_=>by kernel_rfl) (λ_=>by kernel_rfl)
def D4(x:Sem Q5):Option (zD (Qi Q1 [zj])):=cM 16 x
def vN(x:Sem Q5):Bool:=(D4 x).isSome
def Bo(x:Sem Q5):zq:=iR (D4 x)
def ze1:z8:=zZ [Q5] [zj] (λx=>vN x.1) λx=>(Bo x.1,())
theorem zbb:FK 194 ze1:=KB 16
def It:=qa.addL [(104,zeu),(166,ze2),(240,zfk),(64,znx),(95,zn1),(194,ze1)]
theorem lv:zw It:=jo.addL<|fc zaD<|fc zbc<|fc zbt<|fc zil<|fc ziT<|fc zbb iH
def zgy(x:Sem (Sh.int IntKind.u8)):Tr (Empty⊕au):=
 Qc (jV x&&bif kO x then Q3 else nP x) (re (AV.bool (cond (kO x) Q3 (cond (qH x) Q3 (x==95)))) [])
def vV(x:Sem (Sh.int IntKind.u8)):=an [Q7] t0 100000000 (zgy x)
def vU(x:Sem (Sh.int IntKind.u8)):=(vV x).isSome
def Eh(x:Sem (Sh.int IntKind.u8)):=o1 (vV x)
def zeX:=FT [Sh.int IntKind.u8] [Q7] λx=>vV x.1
theorem za7:FK 132 zeX:=lv.T1 (f:=Tryz.f132) (keep:=k0) (e:=e0)
abbrev zk1:=kJ [(3,[0,3,4])]
inductive FR where
 |h3 (s0:TS) (l3:LS) (i4:Int)
abbrev zp5:FR->Nat×St
 |.h3 s l i=>(3,⟨tm 18 [(0,str s),(3,sl Q6 l),(4,ai i)],[]⟩)
def Xp(x:TS):Tr (FR⊕au):=
 Q9
 (FR.h3 x
  [VP,[79,82],[78,79,84],[73,83],Fs,Ii,Ih,zcg,zcs,[75,69,89],[85,78,73,81,85,69],zpK,iv,zck,zcm,
  zcn,zcu,zct,[83,69,84],md,zci,uC,zcr,zcl,zcp,Tm,[87,82,73,84,69],Ft,[84,79],
  zco,Tj,Tl,Tk,Fr,Fu,Ce,Cf,Cd]
  0)
def EV:FR->Tr (FR⊕au)
 | .h3 s l i=>
  br (Q0 (i<(↑l.length:Int)))
  (Qc (zK i (Io l)) (br (l.getD i.toNat (zi Q6)==s) (re (kb Q3) []) (Q9 (FR.h3 s l (Γ Δ (i+1))))))
  (re (kb Q4) [])
def JC(x:TS):=an [Q7] EV 100000000 (Xp x)
def Ek(x:TS):=(JC x).isSome
def M5(x:TS):=o1 (JC x)
def zeT:=FT [Q6] [Q7] λx=>JC x.1
theorem za3:FK 135 zeT:=lv.T1 (f:=Tryz.f135) (keep:=zk1) (e:=zp5)
abbrev XR:Nat->aP:=λ_=>{ }
theorem zln:zM It.P 68 Tryz.f68 2:=bL kw
def Xi(y:zo aH)(x:TS):Tr (Empty⊕au):=
 let h:=(y.1,y.2.1,y.2.2.1,())
 let a:=Nf h x
 Qc (JN h x)
 (br a.1 (re (kb Q3) (aB aH (a.2.1,Γ Δ (a.2.2.1+1),a.2.2.2)))
  (re (kb Q4) (aB aH a.2)))
theorem zj2(y:zo aH)(x:TS):rn It 1 XR Tryz.f68 [Qf 0 0,zL Q6 x] (aB aH y)=(Xi y x).map (lf Tryz.f68 e0):=kw
def Sy(y:zo aH)(x:TS):Option (zD (Qi Q1 [Q7])×zo aH):=kM [Q7] aH t0 100000000 (Xi y x)
def ej(y:zo aH)(x:TS):Bool:=(Sy y x).isSome
def fD(y:zo aH)(x:TS):(Sem Q7)×zo aH:=(λr:zD (Qi Q1 [Q7])×zo aH=>(r.1.1,r.2)) ((Sy y x).getD (cA [Q7],fU aH))
def zey:z8:=sA aH [Q6] [Q7] aH (λy x=>ej y x.1) λy x=>(((fD y x.1).1,()),(fD y x.1).2)
theorem zaH:FK 68 zey:=kd (ps:=aH) (ks:=[Q6]) (outs:=[Q7]) (keep:=XR) (gas:=400) (n:=100000000) (e:=e0) (t:=t0) (i:=λy x=>Xi y x.1) lv zln (λy x=>zj2 y x.1) (U7 _ _ _ _ _) (λ_ _=>by kernel_rfl) (λ_ _=>by kernel_rfl)
abbrev zrU:=kJ [(6,[2,3,5]),(11,[2,3,6]),(16,[2,3,7]),(21,[2,3,8]),(26,[2,3,9]),(31,[2,3,10])]
inductive sx where
 |h6 (i5:Int) (z0:zo sK) (z1:zo sK)
 |h11 (i6:Int) (z0:zo sK) (z1:zo sK)
 |h16 (i7:Int) (z0:zo sK) (z1:zo sK)
 |h21 (i8:Int) (z0:zo sK) (z1:zo sK)
 |h26 (i9:Int) (z0:zo sK) (z1:zo sK)
 |h31 (i10:Int) (z0:zo sK) (z1:zo sK)
abbrev zuB:sx->Nat×St
 |.h6 x z h=>(6,⟨tm 238 [(2,Qf 0 0),(3,Qf 1 0),(5,ai x)],[Qa (bI [] sK z),Qa (bI [] sK h)]⟩)
 |.h11 a z h=>(11,⟨tm 238 [(2,Qf 0 0),(3,Qf 1 0),(6,ai a)],[Qa (bI [] sK z),Qa (bI [] sK h)]⟩)
 |.h16 b z h=>(16,⟨tm 238 [(2,Qf 0 0),(3,Qf 1 0),(7,ai b)],[Qa (bI [] sK z),Qa (bI [] sK h)]⟩)
 |.h21 c z h=>(21,⟨tm 238 [(2,Qf 0 0),(3,Qf 1 0),(8,ai c)],[Qa (bI [] sK z),Qa (bI [] sK h)]⟩)
 |.h26 d z h=>(26,⟨tm 238 [(2,Qf 0 0),(3,Qf 1 0),(9,ai d)],[Qa (bI [] sK z),Qa (bI [] sK h)]⟩)
 |.h31 i z h=>(31,⟨tm 238 [(2,Qf 0 0),(3,Qf 1 0),(10,ai i)],[Qa (bI [] sK z),Qa (bI [] sK h)]⟩)
def zde(x h:zN):Tr (sx⊕au):=
 let a:=!x.1==h.1
 let b:=!x.2.1==h.2.1
 let c:=!x.2.2.1==h.2.2.1
 let d:=!x.t.2.1==h.t.2.1
 let e:=!x.t.t.t==h.t.t.t
 let g:=zr x.t.t.1
 let i:=zr h.t.t.1
 let j:=!fB g i
 let k:=zr x.t.t.q.2.1
 let l:=zr h.t.t.q.2.1
 Qc
 (bif a then Q3
 else bif b then Q3 else bif c then Q3 else bif d then Q3 else bif e then Q3 else hA g i&&bif j then Q3 else hA k l)
 (br (cond a Q3 (cond b Q3 (cond c Q3 (cond d Q3 (cond e Q3 (cond j Q3 (!fB k l)))))))
  (re (kb Q4) [])
  (br (bif (↑(Io x.2.2.2.1):Int)!=(↑(Io h.2.2.2.1):Int)then Q3 else bif (↑(Io x.t.1):Int)!=(↑(Io h.t.1):Int)then Q3 else bif (↑(Io x.t.q.1):Int)!=(↑(Io h.t.q.1):Int)then Q3 else bif (↑(Io x.t.q.2.1):Int)!=(↑(Io h.t.q.2.1):Int)then Q3
  else bif (↑(Io x.t.t.2.1):Int)!=(↑(Io h.t.t.2.1):Int)then Q3 else(↑(Io x.t.t.q.1):Int)!=(↑(Io h.t.t.q.1):Int)) (re (kb Q4) []) (Q9 (sx.h6 0 (x,()) (h,())))))
def uh:sx->Tr (sx⊕au)
 | .h6 c z h=>
  let b:=(↑(Io z.1.2.2.2.1):Int)
  br (Q0 (c<b))
  (Qc (zK c (Io z.1.2.2.2.1))
   (Qc (zK c (Io h.1.2.2.2.1)) (br (!getD z.1.2.2.2.1 c.toNat (zi Q6)==getD h.1.2.2.2.1 c.toNat (zi Q6)) (re (kb Q4) []) (Q9 (sx.h6 (Γ Δ (c+1)) z h)))))
  (Q9 (sx.h11 0 z h))
 | .h11 d z h=>
  let b:=(↑(Io z.1.t.1):Int)
  let a:=getD z.1.t.1 d.toNat (zi zl)
  let x:=getD h.1.t.1 d.toNat (zi zl)
  br (Q0 (d<b))
  (Qc (zK d (Io z.1.t.1))
   (Qc (zK d (Io h.1.t.1)) (br (!(a.1==x.1&&(a.2.1==x.2.1&&(a.2.2==x.2.2&&Q3)))) (re (kb Q4) []) (Q9 (sx.h11 (Γ Δ (d+1)) z h)))))
  (Q9 (sx.h16 0 z h))
 | .h16 e z h=>
  let b:=(↑(Io z.1.t.q.1):Int)
  br (Q0 (e<b))
  (Qc (zK e (Io z.1.t.q.1))
   (Qc (zK e (Io h.1.t.q.1)) (br (!getD z.1.t.q.1 e.toNat (zi Q6)==getD h.1.t.q.1 e.toNat (zi Q6)) (re (kb Q4) []) (Q9 (sx.h16 (Γ Δ (e+1)) z h)))))
  (Q9 (sx.h21 0 z h))
 | .h21 g z h=>
  let b:=(↑(Io z.1.t.q.2.1):Int)
  let a:=getD z.1.t.q.2.1 g.toNat (zi kC)
  let x:=getD h.1.t.q.2.1 g.toNat (zi kC)
  br (Q0 (g<b))
  (Qc (zK g (Io z.1.t.q.2.1))
   (Qc (zK g (Io h.1.t.q.2.1)) (br (!(a.1==x.1&&(a.2==x.2&&Q3))) (re (kb Q4) []) (Q9 (sx.h21 (Γ Δ (g+1)) z h)))))
  (Q9 (sx.h26 0 z h))
 | .h26 j z h=>
  let b:=(↑(Io z.1.t.t.2.1):Int)
  let a:=getD z.1.t.t.2.1 j.toNat (zi zf)
  let x:=getD h.1.t.t.2.1 j.toNat (zi zf)
  br (Q0 (j<b))
  (Qc (zK j (Io z.1.t.t.2.1))
   (Qc (zK j (Io h.1.t.t.2.1)) (br (!(a.1==x.1&&(a.2.1==x.2.1&&(a.2.2==x.2.2&&Q3)))) (re (kb Q4) []) (Q9 (sx.h26 (Γ Δ (j+1)) z h)))))
  (Q9 (sx.h31 0 z h))
 | .h31 i z h=>
  let b:=(↑(Io z.1.t.t.q.1):Int)
  let a:=zK i (Io z.1.t.t.q.1)
  let x:=zK i (Io h.1.t.t.q.1)
  let k:=getD z.1.t.t.q.1 i.toNat (zi jY)
  let l:=getD h.1.t.t.q.1 i.toNat (zi jY)
  let m:=!k.1==l.1
  let n:=zr k.2
  let o:=zr l.2
  br (Q0 (i<b))
  (Qc (a&&(x&&bif m then Q3 else a&&(x&&hA n o)))
   (br (cond m Q3 (!fB n o)) (re (kb Q4) []) (Q9 (sx.h31 (Γ Δ (i+1)) z h))))
  (re (kb Q3) [])
def r8(x h:zN):=an [Q7] uh 100000000 (zde x h)
def Bv(x h:zN):=(r8 x h).isSome
def fC(x h:zN):=o1 (r8 x h)
def zn4:=FT [aC,aC] [Q7] λx=>r8 x.1 x.2.1
theorem ziW:FK 125 zn4:=lv.T1 (f:=Tryz.f125) (keep:=zrU) (e:=zuB)
def GB:=It.addL [(132,zeX),(135,zeT),(68,zey),(125,zn4)]
theorem rk:zw GB:=lv.addL<|fc za7<|fc za3<|fc zaH<|fc ziW iH
abbrev zkZ:=kJ [(2,[0,3])]
inductive FQ where
 |h2 (s0:TS) (i3:Int)
abbrev zp4:FQ->Nat×St
 |.h2 s i=>(2,⟨tm 28 [(0,str s),(3,ai i)],[]⟩)
def zgw(x:TS):Tr (FQ⊕au):=
 Q9 (FQ.h2 x 0)
def ws:FQ->Tr (FQ⊕au)
 | .h2 s i=>
  let a:=(↑(getD s i.toNat 0).toNat:Int)
  let h:=Q0 (1<=(↑(Io s):Int))
  let x:=Q0 ((↑(Io s):Int)<=16)
  let b:=(↑(getD s (toNat 0) 0).toNat:Int)
  br (Q0 (i<(↑(Io s):Int)))
  (Qc (zK i (Io s)) (Qc (vU a) (br (!Eh a) (re (kb Q4) []) (Q9 (FQ.h2 s (Γ Δ (i+1)))))))
  (Qc (cond h (cond x (zK 0 (Io s)&&nP b) Q3) Q3)
   (re (AV.bool (cond h (cond x (qH b) Q4) Q4)) []))
def Bu(x:TS):=an [Q7] ws 100000000 (zgw x)
def vS(x:TS):=(Bu x).isSome
def t7(x:TS):=o1 (Bu x)
def zeR:=FT [Q6] [Q7] λx=>Bu x.1
theorem za1:FK 191 zeR:=rk.T1 (f:=Tryz.f191) (keep:=zkZ) (e:=zp4)
abbrev XS:Nat->aP:=λ_=>{ }
theorem zlo:zM GB.P 70 Tryz.f70 2:=bL kw
def Xj(y:zo aH)(x:TS):Tr (Empty⊕au):=
 let h:=(y.1,y.2.1,y.2.2.1,())
 let a:=fD h x
 Qc (ej h x)
 (br (!a.1) (re (Qe []) [Qa [sl zB a.2.1,ai a.2.2.1,kb Q4]])
  (re (Qe []) (aB aH a.2)))
theorem zj3(y:zo aH)(x:TS):rn GB 1 XS Tryz.f70 [Qf 0 0,zL Q6 x] (aB aH y)=(Xj y x).map (lf Tryz.f70 e0):=kw
def Sw(y:zo aH)(x:TS):Option (zD (Qi Q1 [])×zo aH):=kM [] aH t0 100000000 (Xj y x)
def bb(y:zo aH)(x:TS):Bool:=(Sw y x).isSome
def bN(y:zo aH)(x:TS):zo aH:=(λr:zD (Qi Q1 [])×zo aH=>r.2) ((Sw y x).getD (cA [],fU aH))
def zeA:z8:=sA aH [Q6] [] aH (λy x=>bb y x.1) λy x=>((),bN y x.1)
theorem zaK:FK 70 zeA:=kd (ps:=aH) (ks:=[Q6]) (outs:=[]) (keep:=XS) (gas:=400) (n:=100000000) (e:=e0) (t:=t0) (i:=λy x=>Xj y x.1) rk zlo (λy x=>zj3 y x.1) (U7 _ _ _ _ _) (λ_ _=>by kernel_rfl) (λ_ _=>by kernel_rfl)
abbrev XT:Nat->aP:=λ_=>{ }
theorem zlp:zM GB.P 71 Tryz.f71 1:=bL kw
def Xk(y:zo aH):Tr (Empty⊕au):=
 let h:=Q0 (y.2.1<(↑(Io y.1):Int))
 let x:=zK y.2.1 (Io y.1)
 let a:=getD y.1 (toNat y.2.1) (zi zB)
 let b:=a.1==1
 let c:=Γ Δ (y.2.1+1)
 let d:=Γ Δ (c-1)
 let e:=getD y.1 d.toNat (zi zB)
 Qc (cond h (x&&bif b then x&&Ek a.2 else Q3) Q3)
 (br (cond h (cond b (!M5 a.2) Q4) Q4)
  (Qc (zK d (Io y.1)) (re (str e.2) (aB aH (y.1,c,y.2.2))))
  (re (str []) [Qa [sl zB y.1,ai y.2.1,kb Q4]]))
theorem zj4(y:zo aH):rn GB 1 XT Tryz.f71 [Qf 0 0] (aB aH y)=(Xk y).map (lf Tryz.f71 e0):=kw
def Sx(y:zo aH):Option (zD (Qi Q1 [Q6])×zo aH):=kM [Q6] aH t0 100000000 (Xk y)
def bH(y:zo aH):Bool:=(Sx y).isSome
def cu(y:zo aH):(Sem Q6)×zo aH:=(λr:zD (Qi Q1 [Q6])×zo aH=>(r.1.1,r.2)) ((Sx y).getD (cA [Q6],fU aH))
def zeB:z8:=sA aH [] [Q6] aH (λy _=>bH y) λy _=>(((cu y).1,()),(cu y).2)
theorem zaL:FK 71 zeB:=kd (ps:=aH) (ks:=[]) (outs:=[Q6]) (keep:=XT) (gas:=400) (n:=100000000) (e:=e0) (t:=t0) (i:=λy x=>Xk y) rk zlp (λy x=>zj4 y) (U7 _ _ _ _ _) (λ_ _=>by kernel_rfl) (λ_ _=>by kernel_rfl)
def GC:=GB.addL [(191,zeR),(70,zeA),(71,zeB)]
theorem nr:zw GC:=rk.addL<|fc za1<|fc zaK<|fc zaL iH
def zgu(x:zp):Tr (Empty⊕au):=
 Qc (mK x)
 (br (sY x) (re (Qd [ai x.1,ai x.2.1,str x.2.2]) [])
  (re (Qd [ai 0,ai 0,str []]) []))
def vL(x:zp):=an [zf] t0 100000000 (zgu x)
def rP(x:zp):=(vL x).isSome
def fA(x:zp):=o1 (vL x)
def zex:=FT [zf] [zf] λx=>vL x.1
theorem zaG:FK 96 zex:=nr.T1 (f:=Tryz.f96) (keep:=k0) (e:=e0)
def zgt(h:zp)(x:Sem Q7):Tr (Empty⊕au):=
 Qc (lJ x) (re (AV.bool (h.1==(bn x).1&&(h.2.1==(bn x).2.1&&(h.2.2==(bn x).2.2&&Q3)))) [])
def MN(x:zp)(h:Sem Q7):=an [Q7] t0 100000000 (zgt x h)
def nI(x:zp)(h:Sem Q7):=(MN x h).isSome
def qx(x:zp)(h:Sem Q7):=o1 (MN x h)
def zev:=FT [zf,Q7] [Q7] λx=>MN x.1 x.2.1
theorem zaE:FK 105 zev:=nr.T1 (f:=Tryz.f105) (keep:=k0) (e:=e0)
def Ir(g:Sem Q5->zq->Sem Q7)(c:Sem Q5->zq->Bool):cg:=GC.add 193 (zZ [Q5,zj] [Q7] (λx=>c x.1 x.2.1) λx=>(g x.1 x.2.1,()))
theorem Ou{g:Sem Q5->zq->Sem Q7}{c:Sem Q5->zq->Bool}(h:FK 193 (zZ [Q5,zj] [Q7] (λx=>c x.1 x.2.1) λx=>(g x.1 x.2.1,()))):zw (Ir g c):=nr.add h
abbrev XY:Nat->aP:=λ_=>{ }
theorem zlv(g:Sem Q5->zq->Sem Q7)(c:Sem Q5->zq->Bool):zM (Ir g c).P 193 Tryz.f193 2:=bL kw
def Ry(g:Sem Q5->zq->Sem Q7)(c:Sem Q5->zq->Bool)(x:Sem Q5)(o:zq):Tr (Empty⊕au):=
 let d:=(↑(za.l x).length:Int)==0
 let a:=(za.v x).1==0&&((za.v x).2.1==0&&((za.v x).2.2==[]&&Q3))
 let e:=(↑(za.l x).length:Int)==1
 let i:=zK 0 (za.l x).length
 let j:=zr ((za.l x).getD (toNat 0) (zi Q5))
 let h:=Γ Δ (o-1)
 let k:=c j h
 let b:=g j h
 let m:=(↑(za.l x).length:Int)==2
 let n:=zr ((za.l x).getD (toNat 1) (zi Q5))
 br (o==0) (re (kb Q4) [])
 (br (za.op x==ou)
  (Qc (mK (za.v x)) (re (AV.bool (cond (sY (za.v x)) (cond (za.s x==[]) d Q4) Q4)) []))
  (br (za.op x==eL) (Qc (cond a (vS (za.s x)&&bif t7 (za.s x)then Ek (za.s x)else Q3) Q3) (re (AV.bool (cond a (cond (t7 (za.s x)) (cond (!M5 (za.s x)) d Q4) Q4) Q4)) [])) (br (cond (za.op x==ni) Q3 (za.op x==po))
  (Qc (cond a (cond (za.s x==[]) (cond e (i&&k) Q3) Q3) Q3) (re (AV.bool (cond a (cond (za.s x==[]) (cond e b Q4) Q4) Q4)) [])) (Qc (Jm (za.op x)) (br (Sn (za.op x)) (Qc
  (cond a (cond (za.s x==[]) (cond m (i&&(k&&bif b then zK 1 (za.l x).length&&c n h else Q3)) Q3) Q3) Q3) (re (AV.bool (cond a (cond (za.s x==[]) (cond m (cond b (g n h) Q4) Q4) Q4) Q4)) [])) (re (kb Q4) []))))))
theorem zkd(g:Sem Q5->zq->Sem Q7)(c:Sem Q5->zq->Bool)(x:Sem Q5)(h:zq):rn (Ir g c) 0 XY Tryz.f193 [zL Q5 x,zL zj h] []=(Ry g c x h).map (lf Tryz.f193 e0):=kw
def oX(o:Option (zD (Qi Q1 [Q7]))):Sem Q7:=(λr:zD (Qi Q1 [Q7])=>r.1) (o.getD (cA [Q7]))
def Jl(g:Sem Q5->zq->Sem Q7)(c:Sem Q5->zq->Bool)(x:Sem Q5)(h:zq):Option (zD (Qi Q1 [Q7])):=an [Q7] t0 100000000 (Ry g c x h)
def gy:Nat->Sem Q5->zq->Option (zD (Qi Q1 [Q7]))
 |0=>λ_ _=>none
 |n+1=>Jl (λx h=>oX (gy n x h)) λx h=>(gy n x h).isSome
theorem XN:zM GC.P 193 Tryz.f193 2:=bL kw
theorem KA:∀n,FK 193 (zZ [Q5,zj] [Q7] (λx=>(gy n x.1 x.2.1).isSome) λx=>(oX (gy n x.1 x.2.1),()))
 |0=>eI ⟨Tryz.f193,XN.1,XN.2.1,XN.2.2.1⟩ (λ_=>rfl)
 |n+1=>lj (E:=Ir (λh a=>oX (gy n h a)) (λh a=>(gy n h a).isSome)) (ks:=[Q5,zj]) (outs:=[Q7]) (keep:=XY) (gas:=400) (n:=100000000) (e:=e0) (t:=t0) (i:=λx=>Ry (λh a=>oX (gy n h a)) (λh a=>(gy n h a).isSome) x.1 x.2.1) (Ou (KA n)) (zlv _ _) (λx=>zkd _ _ x.1 x.2.1) (U7 _ _ _ _ _) (λ_=>by kernel_rfl) (λ_=>by kernel_rfl)
def Jk(x:Sem Q5)(h:zq):Option (zD (Qi Q1 [Q7])):=gy 16 x h
def Bn(x:Sem Q5)(h:zq):Bool:=(Jk x h).isSome
def Jj(x:Sem Q5)(h:zq):Sem Q7:=oX (Jk x h)
def ze0:z8:=zZ [Q5,zj] [Q7] (λx=>Bn x.1 x.2.1) λx=>(Jj x.1 x.2.1,())
theorem zba:FK 193 ze0:=KA 16
def Lq(g:Sem Q5->bZ->zq×zq)(c:Sem Q5->bZ->Bool):cg:=GC.add 130 (zZ [Q5,Sh.sl zl] [zj,zj] (λx=>c x.1 x.2.1) λx=>((g x.1 x.2.1).1,(g x.1 x.2.1).2,()))
theorem TH{g:Sem Q5->bZ->zq×zq}{c:Sem Q5->bZ->Bool}(h:FK 130 (zZ [Q5,Sh.sl zl] [zj,zj] (λx=>c x.1 x.2.1) λx=>((g x.1 x.2.1).1,(g x.1 x.2.1).2,()))):zw (Lq g c):=nr.add h
abbrev Yd:Nat->aP:=λj=>if j=5 then{slots:=[1,2,6]}else{ }
inductive S5 where
 |h5 (l1:LC) (i6:Int) (z0:zo [CP.d Q5])
abbrev Wh:S5->Nat×St
 |.h5 l i z=>(5,⟨tm 116 [(1,sl zl l),(2,Qf 0 0),(6,ai i)],[Qa (bI [] [CP.d Q5] z)]⟩)
theorem zsY(g:Sem Q5->Sem zl.sl->zq×zq)(c:Sem Q5->Sem zl.sl->Bool):zM (Lq g c).P 130 Tryz.f130 2:=bL kw
def Dl(g:Sem Q5->Sem zl.sl->zq×zq)(c:Sem Q5->Sem zl.sl->Bool)(x:Sem Q5)(o:Sem zl.sl):Tr (S5⊕au):=
 let q:=zr ((za.l x).getD (toNat 0) (zi Q5))
 let h:=g q o
 let s:=zr ((za.l x).getD (toNat 1) (zi Q5))
 let j:=g s o
 let t:=za.op x==po
 let u:=za.op x==[61]
 let a:=h.1!=0
 let p:=j.1!=0
 let w:=za.op x==[60]
 let y:=za.op x==[43]
 let b:=h.1!=1
 let d:=bif p then j.1!=1 else Q4
 let k:=za.op x==[45]
 let i:=h.1!=3
 let m:=bif p then j.1!=3 else Q4
 let e:=bif a then b else Q4
 let n:=bif a then i else Q4
 br (za.op x==ou) (re (Qe [ai (za.v x).1,ai 0]) [])
 (br (za.op x==eL) (Q9 (S5.h5 o 0 (x,())))
  (Qc (zK 0 (za.l x).length) (Qc (c q o) (br (h.2!=0) (re (Qe [ai 0,ai h.2]) []) (br ((↑(za.l x).length:Int)==2) (Qc (zK 1 (za.l x).length) (Qc (c s o) (br (j.2!=0) (re (Qe [ai 0,ai j.2]) []) (br t (re (Qe [ai 3,ai 0]) []) (br u
  (br (cond a (cond p (h.1!=j.1) Q4) Q4) (re (Qe [ai 0,ai 5]) []) (re (Qe [ai 3,ai 0]) [])) (br w (br (cond a (cond p (h.1!=j.1) Q4) Q4) (re (Qe [ai 0,ai 5]) []) (re (Qe [ai 3,ai 0]) [])) (br y
  (br (cond a (cond b Q3 d) d) (re (Qe [ai 0,ai 5]) []) (re (Qe [ai 1,ai 0]) [])) (br k (br (cond a (cond b Q3 d) d) (re (Qe [ai 0,ai 5]) []) (re (Qe [ai 1,ai 0]) []))
  (br (cond a (cond i Q3 m) m) (re (Qe [ai 0,ai 5]) []) (re (Qe [ai 3,ai 0]) [])))))))))) (br t (re (Qe [ai 3,ai 0]) []) (br u (br (cond a (cond a (h.1!=h.1) Q4) Q4) (re (Qe [ai 0,ai 5]) [])
  (re (Qe [ai 3,ai 0]) [])) (br w (br (cond a (cond a (h.1!=h.1) Q4) Q4) (re (Qe [ai 0,ai 5]) []) (re (Qe [ai 3,ai 0]) [])) (br y (br (cond a (cond b Q3 e) e) (re (Qe [ai 0,ai 5]) [])
  (re (Qe [ai 1,ai 0]) [])) (br k (br (cond a (cond b Q3 e) e) (re (Qe [ai 0,ai 5]) []) (re (Qe [ai 1,ai 0]) [])) (br (cond a (cond i Q3 n) n) (re (Qe [ai 0,ai 5]) []) (re (Qe [ai 3,ai 0]) []))))))))))))
theorem zqH(g:Sem Q5->Sem zl.sl->zq×zq)(c:Sem Q5->Sem zl.sl->Bool)(x:Sem Q5)(h:Sem zl.sl):rn (Lq g c) 0 Yd Tryz.f130 [zL Q5 x,zL zl.sl h] []=(Dl g c x h).map (lf Tryz.f130 Wh):=kw
def NI(_:Sem Q5->Sem zl.sl->zq×zq)(_:Sem Q5->Sem zl.sl->Bool):S5->Tr (S5⊕au)
 | .h5 l i z=>
  let a:=l.getD i.toNat (zi zl)
  br (Q0 (i<(↑l.length:Int)))
  (Qc (zK i (Io l))
   (br (a.1==za.s z.1) (Qc (zK i (Io l)) (re (Qe [ai a.2.1,ai 0]) [])) (Q9 (S5.h5 l (Γ Δ (i+1)) z))))
  (re (Qe [ai 0,ai 4]) [])
theorem ztl(g:Sem Q5->Sem zl.sl->zq×zq)(c:Sem Q5->Sem zl.sl->Bool):∀s,run (Lq g c) 0 Yd (Func.results Tryz.f130).toList 400 (ab Tryz.f130 (Wh s).1) (Wh s).2=(NI g c s).map (lf Tryz.f130 Wh)
 |.h5 l i z=>by kernel_rfl
def gw(o:Option (zD (Qi Q1 [zj,zj]))):zq×zq:=(λr:zD (Qi Q1 [zj,zj])=>(r.1,r.2.1)) (o.getD (cA [zj,zj]))
def Sm(g:Sem Q5->Sem zl.sl->zq×zq)(c:Sem Q5->Sem zl.sl->Bool)(x:Sem Q5)(h:Sem zl.sl):Option (zD (Qi Q1 [zj,zj])):=an [zj,zj] (NI g c) 100000000 (Dl g c x h)
def cy:Nat->Sem Q5->Sem zl.sl->Option (zD (Qi Q1 [zj,zj]))
 |0=>λ_ _=>none
 |n+1=>Sm (λx h=>gw (cy n x h)) λx h=>(cy n x h).isSome
theorem zkP:zM GC.P 130 Tryz.f130 2:=bL kw
theorem QB:∀n,FK 130 (zZ [Q5,zl.sl] [zj,zj] (λx=>(cy n x.1 x.2.1).isSome) λx=>((gw (cy n x.1 x.2.1)).1,(gw (cy n x.1 x.2.1)).2,()))
 |0=>eI ⟨Tryz.f130,zkP.1,zkP.2.1,zkP.2.2.1⟩ (λ_=>rfl)
 |n+1=>lj (E:=Lq (λh a=>gw (cy n h a)) (λh a=>(cy n h a).isSome)) (ks:=[Q5,zl.sl]) (outs:=[zj,zj]) (keep:=Yd) (gas:=400) (n:=100000000) (e:=Wh) (t:=NI (λh a=>gw (cy n h a)) (λh a=>(cy n h a).isSome)) (i:=λx=>Dl (λh a=>gw (cy n h a)) (λh a=>(cy n h a).isSome) x.1 x.2.1) (TH (QB n)) (zsY _ _) (λx=>zqH _ _ x.1 x.2.1) (ztl _ _) (λ_=>by kernel_rfl) (λ_=>by kernel_rfl)
def Bm(x:Sem Q5)(h:Sem zl.sl):Option (zD (Qi Q1 [zj,zj])):=cy 16 x h
def oW(x:Sem Q5)(h:Sem zl.sl):Bool:=(Bm x h).isSome
def iQ(x:Sem Q5)(h:Sem zl.sl):zq×zq:=gw (Bm x h)
def zn8:z8:=zZ [Q5,zl.sl] [zj,zj] (λx=>oW x.1 x.2.1) λx=>((iQ x.1 x.2.1).1,(iQ x.1 x.2.1).2,())
theorem zi0:FK 130 zn8:=QB 16
def Wm:=GC.addL [(96,zex),(105,zev),(193,ze0),(130,zn8)]
theorem ib:zw Wm:=nr.addL<|fc zaG<|fc zaE<|fc zba<|fc zi0 iH
def zq8(x h:zp):Tr (Empty⊕au):=
 let a:=(fA x).1==(fA h).1
 let b:=(fA x).2.1==(fA h).2.1
 Qc (rP x)
 (Qc (rP h)
  (br (a&&(b&&((fA x).2.2==(fA h).2.2&&Q3))) (re (ai 0) []) (br (cond (Q0 ((fA x).1<(fA h).1)) Q3 (cond a (cond (Q0 ((fA x).2.1<(fA h).2.1)) Q3 (cond b (Op.bytesLess (fA x).2.2 (fA h).2.2) Q4)) Q4)) (re (ai (-1)) []) (re (ai 1) []))))
def qz(x h:zp):=an [zj] t0 100000000 (zq8 x h)
def DW(x h:zp):=(qz x h).isSome
def Jf(x h:zp):=o1 (qz x h)
def znL:=FT [zf,zf] [zj] λx=>qz x.1 x.2.1
theorem ziD:FK 37 znL:=ib.T1 (f:=Tryz.f37) (keep:=k0) (e:=e0)
def zgI(x h:zp):Tr (Empty⊕au):=
 Qc (rP x)
 (Qc (rP h)
  (re (AV.bool (cond ((fA x).1==0) Q3 (cond ((fA h).1==0) Q3 ((fA x).1!=(fA h).1)))) []))
def qA(x h:zp):=an [Q7] t0 100000000 (zgI x h)
def nJ(x h:zp):=(qA x h).isSome
def rL(x h:zp):=o1 (qA x h)
def zfl:=FT [zf,zf] [Q7] λx=>qA x.1 x.2.1
theorem zbu:FK 165 zfl:=ib.T1 (f:=Tryz.f165) (keep:=k0) (e:=e0)
def zgA(x h:zp):Tr (Empty⊕au):=
 Qc (nI x Q4&&bif qx x Q4 then Q3 else nI h Q4)
 (br (cond (qx x Q4) Q3 (qx h Q4))
  (Qc Q3 (re (Qd [ai (bn Q4).1,ai (bn Q4).2.1,str (bn Q4).2.2]) []))
  (Qc (nI x Q3&&bif qx x Q3 then nI h Q3 else Q3) (br (cond (qx x Q3) (qx h Q3) Q4) (Qc Q3 (re (Qd [ai (bn Q3).1,ai (bn Q3).2.1,str (bn Q3).2.2]) [])) (re (Qd [ai 0,ai 0,str []]) []))))
def DS(x h:zp):=an [zf] t0 100000000 (zgA x h)
def Jb(x h:zp):=(DS x h).isSome
def Hq(x h:zp):=o1 (DS x h)
def ze4:=FT [zf,zf] [zf] λx=>DS x.1 x.2.1
theorem zbe:FK 168 ze4:=ib.T1 (f:=Tryz.f168) (keep:=k0) (e:=e0)
def zgB(x h:zp):Tr (Empty⊕au):=
 Qc (nI x Q3&&bif qx x Q3 then Q3 else nI h Q3)
 (br (cond (qx x Q3) Q3 (qx h Q3))
  (Qc Q3 (re (Qd [ai (bn Q3).1,ai (bn Q3).2.1,str (bn Q3).2.2]) []))
  (Qc (nI x Q4&&bif qx x Q4 then nI h Q4 else Q3) (br (cond (qx x Q4) (qx h Q4) Q4) (Qc Q3 (re (Qd [ai (bn Q4).1,ai (bn Q4).2.1,str (bn Q4).2.2]) [])) (re (Qd [ai 0,ai 0,str []]) []))))
def MQ(x h:zp):=an [zf] t0 100000000 (zgB x h)
def Si(x h:zp):=(MQ x h).isSome
def Uy(x h:zp):=o1 (MQ x h)
def ze5:=FT [zf,zf] [zf] λx=>MQ x.1 x.2.1
theorem zbf:FK 169 ze5:=ib.T1 (f:=Tryz.f169) (keep:=k0) (e:=e0)
def zgz(x:zp):Tr (Empty⊕au):=
 Qc (nI x Q3)
 (br (qx x Q3)
  (Qc Q3 (re (Qd [ai (bn Q4).1,ai (bn Q4).2.1,str (bn Q4).2.2]) []))
  (Qc (nI x Q4) (br (qx x Q4) (Qc Q3 (re (Qd [ai (bn Q3).1,ai (bn Q3).2.1,str (bn Q3).2.2]) [])) (re (Qd [ai 0,ai 0,str []]) []))))
def DV(x:zp):=an [zf] t0 100000000 (zgz x)
def Je(x:zp):=(DV x).isSome
def Hs(x:zp):=o1 (DV x)
def ze3:=FT [zf] [zf] λx=>DV x.1
theorem zbd:FK 167 ze3:=ib.T1 (f:=Tryz.f167) (keep:=k0) (e:=e0)
def zre(x:Sem Q5):Tr (Empty⊕au):=
 let a:=Jj (zr x) 12
 Qc (Bn (zr x) 12&&bif a then vN (zr x)else Q3) (re (AV.bool (cond a (Q0 (Bo (zr x)<=60)) Q4)) [])
def D2(x:Sem Q5):=an [Q7] t0 100000000 (zre x)
def tY(x:Sem Q5):=(D2 x).isSome
def D1(x:Sem Q5):=o1 (D2 x)
def zn7:=FT [Q5] [Q7] λx=>D2 x.1
theorem ziZ:FK 129 zn7:=ib.T1 (f:=Tryz.f129) (keep:=k0) (e:=e0)
def Wn:=Wm.addL [(37,znL),(165,zfl),(168,ze4),(169,ze5),(167,ze3),(129,zn7)]
theorem CD:zw Wn:=ib.addL<|fc ziD<|fc zbu<|fc zbe<|fc zbf<|fc zbd<|fc ziZ iH
abbrev zk7:=kJ [(2,[0,3])]
inductive FV where
 |h2 (i0:zq) (s3:List UInt8)
abbrev zp9:FV->Nat×St
 |.h2 i s=>(2,⟨tm 21 [(0,ai i),(3,str s)],[]⟩)
def zqW(x:zq):Tr (FV⊕au):=
 Q9 (FV.h2 x [])
def EY:FV->Tr (FV⊕au)
 | .h2 i s=>
  let a:=jh [IntKind.u8.wrap (Γ Δ (48-Γ Δ (Int.tmod i 10)))]
  br (cond (Q0 (i<0)) Q3 (s==[]))
  (Qc Q3 (Qc (Q0 (Io a+Io s<=1099511627776)) (Qc Q3 (Q9 (FV.h2 (Γ Δ (Int.tdiv i 10)) (a++s))))))
  (re (str s) [])
def rO(x:zq):=an [Q6] EY 100000000 (zqW x)
def lc(x:zq):=(rO x).isSome
def lK(x:zq):=o1 (rO x)
def zfj:=FT [zj] [Q6] λx=>rO x.1
theorem zbs:FK 239 zfj:=CD.T1 (f:=Tryz.f239) (keep:=zk7) (e:=zp9)
def Ws:=Wn.add 239 zfj
theorem CF:zw Ws:=CD.add zbs
abbrev zkX:=kJ [(13,[1,3,4])]
inductive BQ where
 |h13 (s3:List UInt8) (i4:Int) (z0:zo [CP.d zf])
abbrev zp2:BQ->Nat×St
 |.h13 s i z=>(13,⟨tm 54 [(1,Qf 0 0),(3,str s),(4,ai i)],[Qa (bI [] [CP.d zf] z)]⟩)
def Ai(x:zp):Tr (BQ⊕au):=
 let a:=Γ Δ (0-x.2.1)
 Qc (mK x)
 (br (!sY x) (re (str []) [])
  (br (x.1==0) (re (str Fs) []) (br (x.1==1) (br (Q0 (x.2.1<0)) (Qc (lc x.2.1) (Qc (Q0 ([45].length+Io (lK x.2.1)<=1099511627776)) (re (str ([45]++lK x.2.1)) []))) (Qc (lc a) (re (str (lK a)) []))) (br (x.1==2) (Q9 (BQ.h13 [39] 0 (x,())))
  (br (x.2.1==1) (re (str Ii) []) (re (str Ih) []))))))
def wq:BQ->Tr (BQ⊕au)
 | .h13 s i z=>
  let x:=(↑(Io z.1.2.2):Int)
  let a:=Γ Δ (i+1)
  let b:=Qg (a.toNat-i.toNat) (Qh i.toNat z.1.2.2)
  let h:=s++b
  br (Q0 (i<x))
  (Qc (Q0 (0<=i)&&Q0 (i<=a)&&Q0 (a<=x))
   (Qc (Q0 (Io s+Io b<=1099511627776)) (Qc (zK i (Io z.1.2.2)) (br ((↑(getD z.1.2.2 i.toNat 0).toNat:Int)==39) (Qc (Q0 (Io h+[39].length<=1099511627776)) (Q9 (BQ.h13 (h++[39]) a z))) (Q9 (BQ.h13 h a z))))))
  (Qc (Q0 (Io s+[39].length<=1099511627776)) (re (str (s++[39])) []))
def Bi(x:zp):=an [Q6] wq 100000000 (Ai x)
def kN(x:zp):=(Bi x).isSome
def oT(x:zp):=o1 (Bi x)
def zeO:=FT [zf] [Q6] λx=>Bi x.1
theorem zaY:FK 188 zeO:=CF.T1 (f:=Tryz.f188) (keep:=zkX) (e:=zp2)
def Iw:=Ws.add 188 zeO
theorem CI:zw Iw:=CF.add zaY
def Iq(g:Sem Q5->Sem Q6)(c:Sem Q5->Bool):cg:=Iw.add 189 (zZ [Q5] [Q6] (λx=>c x.1) λx=>(g x.1,()))
theorem Ot{g:Sem Q5->Sem Q6}(h:FK 189 (zZ [Q5] [Q6] (λx=>c x.1) λx=>(g x.1,()))):zw (Iq g c):=CI.add h
abbrev XX:Nat->aP:=λ_=>{ }
theorem zlt(g:Sem Q5->Sem Q6)(c:Sem Q5->Bool):zM (Iq g c).P 189 Tryz.f189 1:=bL kw
def pt(g:Sem Q5->Sem Q6)(c:Sem Q5->Bool)(x:Sem Q5):Tr (Empty⊕au):=
 let b:=zK 0 (za.l x).length
 let y:=zr ((za.l x).getD (toNat 0) (zi Q5))
 let p:=c y
 let q:=g y
 let z:=uB++q
 let t:=Q0 ([40].length+Io q<=1099511627776)
 let h:=[40]++q
 let u:=zK 1 (za.l x).length
 let A:=zr ((za.l x).getD (toNat 1) (zi Q5))
 let w:=c A
 let d:=h++Ob
 let a:=g A
 let e:=d++a
 let i:=h++Oc
 let j:=i++a
 let k:=h++[32]
 let m:=k++za.op x
 let n:=m++[32]
 let o:=n++a
 br (za.op x==ou) (Qc (kN (za.v x)) (re (str (oT (za.v x))) []))
 (br (za.op x==eL) (re (str (za.s x)) [])
  (br (za.op x==ni) (Qc b (Qc p (Qc (Q0 (Io uB+Io q<=1099511627776)) (Qc (Q0 (Io z+[41].length<=1099511627776)) (re (str (z++[41])) []))))) (br (za.op x==po) (Qc b (Qc p (Qc t
  (Qc (Q0 (Io h+Io Cc<=1099511627776)) (re (str (h++Cc)) []))))) (br (za.op x==iw) (Qc b (Qc p (Qc t (Qc (Q0 (Io h+Io Ob<=1099511627776)) (Qc u (Qc w
  (Qc (Q0 (Io d+Io a<=1099511627776)) (Qc (Q0 (Io e+[41].length<=1099511627776)) (re (str (e++[41])) []))))))))) (br (za.op x==uD) (Qc b (Qc p (Qc t (Qc (Q0 (Io h+Io Oc<=1099511627776)) (Qc u (Qc w
  (Qc (Q0 (Io i+Io a<=1099511627776)) (Qc (Q0 (Io j+[41].length<=1099511627776)) (re (str (j++[41])) []))))))))) (Qc b (Qc p (Qc t (Qc (Q0 (Io h+[32].length<=1099511627776)) (Qc (Q0 (Io k+Io (za.op x)<=1099511627776))
  (Qc (Q0 (Io m+[32].length<=1099511627776)) (Qc u (Qc w (Qc (Q0 (Io n+Io a<=1099511627776)) (Qc (Q0 (Io o+[41].length<=1099511627776)) (re (str (o++[41])) []))))))))))))))))
theorem zkb(g:Sem Q5->Sem Q6)(c:Sem Q5->Bool)(x:Sem Q5):rn (Iq g c) 0 XX Tryz.f189 [zL Q5 x] []=(pt g c x).map (lf Tryz.f189 e0):=kw
def iP(o:Option (zD (Qi Q1 [Q6]))):Sem Q6:=(λr:zD (Qi Q1 [Q6])=>r.1) (o.getD (cA [Q6]))
def Sl(g:Sem Q5->Sem Q6)(c:Sem Q5->Bool)(x:Sem Q5):Option (zD (Qi Q1 [Q6])):=an [Q6] t0 100000000 (pt g c x)
def cR:Nat->Sem Q5->Option (zD (Qi Q1 [Q6]))
 |0=>λ_=>none
 |n+1=>Sl (λx=>iP (cR n x)) λx=>(cR n x).isSome
theorem XM:zM Iw.P 189 Tryz.f189 1:=bL kw
theorem Kz:∀n,FK 189 (zZ [Q5] [Q6] (λx=>(cR n x.1).isSome) λx=>(iP (cR n x.1),()))
 |0=>eI ⟨Tryz.f189,XM.1,XM.2.1,XM.2.2.1⟩ (λ_=>rfl)
 |n+1=>lj (E:=Iq (λh=>iP (cR n h)) (λh=>(cR n h).isSome)) (ks:=[Q5]) (outs:=[Q6]) (keep:=XX) (gas:=400) (n:=100000000) (e:=e0) (t:=t0) (i:=λx=>pt (λh=>iP (cR n h)) (λh=>(cR n h).isSome) x.1) (Ot (Kz n)) (zlt _ _) (λx=>zkb _ _ x.1) (U7 _ _ _ _ _) (λ_=>by kernel_rfl) (λ_=>by kernel_rfl)
def Ji(x:Sem Q5):Option (zD (Qi Q1 [Q6])):=cR 16 x
def rU(x:Sem Q5):Bool:=(Ji x).isSome
def qB(x:Sem Q5):Sem Q6:=iP (Ji x)
def zeP:z8:=zZ [Q5] [Q6] (λx=>rU x.1) λx=>(qB x.1,())
theorem zaZ:FK 189 zeP:=Kz 16
def OA:=Iw.add 189 zeP
theorem oB:zw OA:=CI.add zaZ
def zqY(x:Sem zB.sl)(h:zq)(g:Sem Q6):Tr (Empty⊕au):=
 let b:=Q0 (h<(↑(Io x):Int))
 let a:=getD x (toNat h) (zi zB)
 let c:=a.1==1
 let d:=a.1==4
 let e:=a.2==g
 Qc
 (bif b then zK h (Io x)&&bif c then zK h (Io x)else zK h (Io x)&&bif d then zK h (Io x)else Q3
 else Q3)
 (re (AV.bool (cond b (cond c e (cond d e Q4)) Q4)) [])
def ZA(x:Sem zB.sl)(h:zq)(a:Sem Q6):=an [Q7] t0 100000000 (zqY x h a)
def mz(x:Sem zB.sl)(h:zq)(a:Sem Q6):=(ZA x h a).isSome
def vW(x:Sem zB.sl)(h:zq)(a:Sem Q6):=o1 (ZA x h a)
def zfr:=FT [zB.sl,zj,Q6] [Q7] λx=>ZA x.1 x.2.1 x.2.2.1
theorem zbz:FK 242 zfr:=oB.T1 (f:=Tryz.f242) (keep:=k0) (e:=e0)
abbrev zla:=kJ [(3,[0,2,4,5]),(10,[0,2,6,7]),(18,[0,2,6,8])]
inductive pj where
 |h3 (s0:Sem Q6) (l4:zt) (i5:Int) (z0:zo [CP.d zf])
 |h10 (s0:Sem Q6) (i7:Int) (z0:zo [CP.d zf]) (z1:zo [CP.d zf])
 |h18 (s0:Sem Q6) (i8:Int) (z0:zo [CP.d zf]) (z1:zo [CP.d zf])
abbrev zqc:pj->Nat×St
 |.h3 s l i z=>(3,⟨tm 145 [(0,str s),(2,Qf 0 0),(4,sl zf l),(5,ai i)],[Qa (bI [] [CP.d zf] z)]⟩)
 |.h10 s x z h=>(10,⟨tm 145 [(0,str s),(2,Qf 0 0),(6,Qf 1 0),(7,ai x)],[Qa (bI [] [CP.d zf] z),Qa (bI [] [CP.d zf] h)]⟩)
 |.h18 s a z h=>(18,⟨tm 145 [(0,str s),(2,Qf 0 0),(6,Qf 1 0),(8,ai a)],[Qa (bI [] [CP.d zf] z),Qa (bI [] [CP.d zf] h)]⟩)
def zq0(x:Sem Q6):Tr (pj⊕au):=
 Q9 (pj.h3 x [(0,0,[]),(3,0,[]),(3,1,[])] 0 ((0,0,[]),()))
def ztD:pj->Tr (pj⊕au)
 | .h3 s l e b=>
  let h:=l.getD e.toNat (zi zf)
  let a:=Q0 ((↑(Io s):Int)>=2)
  let c:=(↑(getD s (toNat 0) 0).toNat:Int)==39
  let x:=Γ Δ ((↑(Io s):Int)-1)
  br (Q0 (e<(↑l.length:Int)))
  (Qc (zK e (Io l)) (Qc (kN h) (br (oT h==s) (Qc (zK e (Io l)) (re (Qe [Qd [ai h.1,ai h.2.1,str h.2.2],kb Q3]) [])) (Q9 (pj.h3 s l (Γ Δ (e+1)) b)))))
  (Qc (cond a (zK 0 (Io s)&&bif c then zK x (Io s)else Q3) Q3) (br (cond a (cond c ((↑(getD s x.toNat 0).toNat:Int)==39) Q4) Q4) (Q9 (pj.h10 s 1 b ((2,0,[]),()))) (Q9 (pj.h18 s 0 b ((1,0,[]),())))))
 | .h10 s d b z=>
  let h:=Γ Δ ((↑(Io s):Int)-1)
  let a:=Γ Δ (d+1)
  let c:=Qg (a.toNat-d.toNat) (Qh d.toNat s)
  let x:=((z.1.1,z.1.2.1,z.1.2.2++c),())
  br (Q0 (d<h))
  (Qc (Q0 (0<=d)&&Q0 (d<=a)&&Q0 (a<=(↑(Io s):Int))) (Qc (Q0 (Io z.1.2.2+Io c<=1099511627776)) (Qc (zK d (Io s)) (br ((↑(getD s d.toNat 0).toNat:Int)==39) (Q9 (pj.h10 s (Γ Δ (a+1)) b x)) (Q9 (pj.h10 s a b x))))))
  (Qc (kN z.1) (re (Qe [Qd [ai z.1.1,ai z.1.2.1,str z.1.2.2],AV.bool (oT z.1==s)]) []))
 | .h18 s i b z=>
  let h:=zK 0 (Io s)
  let a:=(↑(getD s (toNat 0) 0).toNat:Int)
  let c:=Γ Δ (i+1)
  let x:=(↑(getD s i.toNat 0).toNat:Int)
  let g:=Q0 (x<48)
  let j:=Q0 (x>57)
  let k:=Q0 (z.1.2.1< -922337203685477580)
  let m:=z.1.2.1==-922337203685477580
  let n:=Γ Δ (0-z.1.2.1)
  let o:=(z.1.1,n,z.1.2.2)
  br (Q0 (i<(↑(Io s):Int)))
  (Qc (cond (i==0) h Q3) (br (cond (i==0) (a==45) Q4) (Q9 (pj.h18 s c b z)) (Qc (zK i (Io s)&&bif g then Q3 else zK i (Io s)&&bif j then Q3 else bif k then Q3 else bif m then zK i (Io s)else Q3)
  (br (cond g Q3 (cond j Q3 (cond k Q3 (cond m (Q0 (x>56)) Q4)))) (re (Qe [Qd [ai 0,ai 0,str []],kb Q4]) []) (Qc (zK i (Io s)) (Q9 (pj.h18 s c b ((z.1.1,Γ Δ (Γ Δ (Γ Δ (10*z.1.2.1)-Γ Δ x)+48),z.1.2.2),()))))))))
  (Qc (cond (s==[]) Q3 h) (br (cond (s==[]) Q3 (a !=45)) (br (z.1.2.1==-9223372036854775808) (re (Qe [Qd [ai 0,ai 0,str []],kb Q4]) []) (Qc (kN o) (re (Qe [Qd [ai z.1.1,ai n,str z.1.2.2],AV.bool (oT o==s)]) []))) (Qc (kN z.1)
  (re (Qe [Qd [ai z.1.1,ai z.1.2.1,str z.1.2.2],AV.bool (oT z.1==s)]) []))))
def DY(x:Sem Q6):=an [zf,Q7] ztD 100000000 (zq0 x)
def MR(x:Sem Q6):=(DY x).isSome
def vI(x:Sem Q6):=o2 (DY x)
def zfv:=FT [Q6] [zf,Q7] λx=>DY x.1
theorem zbD:FK 278 zfv:=oB.T1 (f:=Tryz.f278) (keep:=zla) (e:=zqc)
def zgm:=OA.addL [(242,zfr),(278,zfv)]
theorem GP:zw zgm:=oB.addL<|fc zbz<|fc zbD<|iH
abbrev zk9:=kJ [(1,[0,1,4])]
inductive FW where
 |h1 (s0:Sem Q6) (s1:Sem Q6) (z0:zo [CP.d zf])
abbrev zqb:FW->Nat×St
 |.h1 s h z=>(1,⟨tm 25 [(0,str s),(1,str h),(4,Qf 0 0)],[Qa (bI [] [CP.d zf] z)]⟩)
def zqZ(x h:Sem Q6):Tr (FW⊕au):=
 Q9 (FW.h1 x h ((0,0,[]),()))
def ztC:FW->Tr (FW⊕au)
 | .h1 h s z=>
  let a:=Q0 ((↑(Io s):Int)>0)
  Qc (cond a (zK 0 (Io s)) Q3)
  (br (cond a ((↑(getD s (toNat 0) 0).toNat:Int)==48) Q4) (Qc (Q0 (0<=1)&&Q0 (1<=(↑(Io s):Int))&&Q0 ((↑(Io s):Int)<=(↑(Io s):Int))) (Q9 (FW.h1 h (Qg ((↑(Io s):Int).toNat-toNat 1) (Qh (toNat 1) s)) z)))
  (br (s==[]) (re (Qe [Qd [ai 1,ai 0,str []],kb Q3]) []) (Qc (Q0 (Io h+Io s<=1099511627776)) (Qc (MR (h++s)) (re (Qe [Qd [ai (vI (h++s)).1.1,ai (vI (h++s)).1.2.1,str (vI (h++s)).1.2.2],AV.bool (vI (h++s)).2]) [])))))
def PK(x h:Sem Q6):=an [zf,Q7] ztC 100000000 (zqZ x h)
def ZB(x h:Sem Q6):=(PK x h).isSome
def zg7(x h:Sem Q6):=o2 (PK x h)
def zfu:=FT [Q6,Q6] [zf,Q7] λx=>PK x.1 x.2.1
theorem zbC:FK 277 zfu:=GP.T1 (f:=Tryz.f277) (keep:=zk9) (e:=zqb)
def zgn:=zgm.add 277 zfu
theorem GQ:zw zgn:=GP.add zbC
def zqX(x:Sem zB.sl)(h:zq):Tr (Empty⊕au):=
 let b:=Γ Δ (h+1)
 let i:=Q0 (b>=(↑(Io x):Int))
 let j:=zK b (Io x)
 let e:=getD x b.toNat (zi zB)
 let c:=zg7 [45] e.2
 let a:=getD x (toNat h) (zi zB)
 let d:=zg7 [] a.2
 let k:=vW x h Ii
 let l:=vW x h Ih
 let g:=vI a.2
 br (Q0 (h>=(↑(Io x):Int)))
 (re (Qe [Qd [str [],ai 0,ai 0,str [],str [],Qb],ai (-1)]) [])
 (Qc (zK h (Io x))
  (Qc (mz x h [45]) (br (vW x h [45]) (Qc (cond i Q3 j) (br (cond i Q3 (e.1!=2)) (re (Qe [Qd [str [],ai 0,ai 0,str [],str [],Qb],ai (-1)]) []) (Qc j (Qc (ZB [45] e.2) (br (!c.2)
  (re (Qe [Qd [str [],ai 0,ai 0,str [],str [],Qb],ai (-1)]) []) (re (Qe [Qd [str ou,ai c.1.1,ai c.1.2.1,str c.1.2.2,str [],Qb],ai (Γ Δ (h+2))]) [])))))) (br (a.1==2) (Qc (ZB [] a.2) (br (!d.2)
  (re (Qe [Qd [str [],ai 0,ai 0,str [],str [],Qb],ai (-1)]) []) (re (Qe [Qd [str ou,ai d.1.1,ai d.1.2.1,str d.1.2.2,str [],Qb],ai b]) []))) (br (a.1==3) (re
  (Qe [Qd [str ou,ai 2,ai 0,str a.2,str [],Qb],ai b]) []) (Qc (mz x h [40]) (br (vW x h [40]) Tr.err (Qc (mz x h Ii&&bif k then Q3 else mz x h Ih&&bif l then Q3 else mz x h Fs)
  (br (cond k Q3 (cond l Q3 (vW x h Fs))) (Qc (MR a.2) (re (Qe [Qd [str ou,ai g.1.1,ai g.1.2.1,str g.1.2.2,str [],Qb],ai b]) [])) (br (a.1==1) (re (Qe [Qd [str eL,ai 0,ai 0,str [],str a.2,Qb],
  ai b]) []) (re (Qe [Qd [str [],ai 0,ai 0,str [],str [],Qb],ai (-1)]) [])))))))))))
def JD(x:Sem zB.sl)(h:zq):=an [Q5,zj] t0 100000000 (zqX x h)
def zdQ(x:Sem zB.sl)(h:zq):=(JD x h).isSome
def uc(x:Sem zB.sl)(h:zq):=o2 (JD x h)
def zfq:=FT [zB.sl,zj] [Q5,zj] λx=>JD x.1 x.2.1
theorem zby:FK 241 zfq:=GQ.T1 (f:=Tryz.f241) (keep:=k0) (e:=e0)
def Rg:=zgn.add 241 zfq
theorem GR:zw Rg:=GQ.add zby
def Cv(g:Sem zB.sl->zq->zq->Sem Q5×zq)(c:Sem zB.sl->zq->zq->Bool):cg:=Rg.add 195 (zZ [zB.sl,zj,zj] [Q5,zj] (λx=>c x.1 x.2.1 x.2.2.1) λx=>((g x.1 x.2.1 x.2.2.1).1,(g x.1 x.2.1 x.2.2.1).2,()))
theorem Ow{g:Sem zB.sl->zq->zq->Sem Q5×zq}{c:Sem zB.sl->zq->zq->Bool}(h:FK 195 (zZ [zB.sl,zj,zj] [Q5,zj] (λx=>c x.1 x.2.1 x.2.2.1) λx=>((g x.1 x.2.1 x.2.2.1).1,(g x.1 x.2.1 x.2.2.1).2,()))):zw (Cv g c):=GR.add h
abbrev Pc:=kJ [(22,[0,2,6,15,16])]
inductive mW where
 |h22 (l0:dr) (i2:zq) (i16:zq) (z1:zo [CP.d Q5]) (ja0:List UInt8) (ja1:Int) (ja2:Int) (ja3:List UInt8) (ja4:List UInt8)
abbrev Lf:mW->Nat×St
 |.h22 l c i z j h x a b=>(22,⟨tm 157 [(0,sl zB l),(2,ai c),(6,Qf 0 0),(15,Qf 1 0),(16,ai i)],[Qa [str j,ai h,ai x,str a,str b,Qb],Qa (bI [] [CP.d Q5] z)]⟩)
theorem zlx(g:Sem zB.sl->zq->zq->Sem Q5×zq)(c:Sem zB.sl->zq->zq->Bool):zM (Cv g c).P 195 Tryz.f195 3:=bL kw
def Xr(g:Sem zB.sl->zq->zq->Sem Q5×zq)(c:Sem zB.sl->zq->zq->Bool)(x:Sem zB.sl)(h d:zq):Tr (mW⊕au):=
 let e:=Γ Δ (h+1)
 let i:=g x e 2
 let a:=g x h 3
 let j:=vW x a.2 [61]
 let b:=Γ Δ (a.2+1)
 let p:=getD x (toNat a.2) (zi zB)
 let k:=zr a.1
 let m:=g x b 3
 let n:=Γ Δ (d+1)
 let o:=g x h n
 br (Q0 (h<0))
 (re (Qe [Qd [str [],ai 0,ai 0,str [],str [],Qb],ai (-1)]) [])
 (br (d==4)
  (Qc (zdQ x h) (re (Qe [Qd [str (za.op (uc x h).1),ai (za.v (uc x h).1).1,ai (za.v (uc x h).1).2.1,str (za.v (uc x h).1).2.2,str (za.s (uc x h).1),sl Q5 (za.l (uc x h).1)],ai (uc x h).2]) []))
  (br (d==2) (Qc (mz x h [78,79,84]) (br (vW x h [78,79,84]) (Qc (c x e 2) (re (Qe [Qd [str ni,ai 0,ai 0,str [],str [],sl Q5 [zr i.1]],ai i.2]) [])) (Qc (c x h 3) (br (Q0 (a.2<0))
  (re (Qe [Qd [str [],ai 0,ai 0,str [],str [],Qb],ai (-1)]) []) (Qc (mz x a.2 [61]&&bif j then Q3 else mz x a.2 [60]) (br (cond j Q3 (vW x a.2 [60])) (Qc (zK a.2 (Io x)) (Qc (c x b 3) (re (Qe
  [Qd [str p.2,ai 0,ai 0,str [],str [],sl Q5 [k,zr m.1]],ai m.2]) []))) (Qc (mz x a.2 [73,83]) (br (vW x a.2 [73,83]) (Qc (mz x b Fs) (br (!vW x b Fs) (re (Qe [Qd [str [],ai 0,ai 0,str [],str [],Qb],ai (-1)]) [])
  (re (Qe [Qd [str po,ai 0,ai 0,str [],str [],sl Q5 [k]],ai (Γ Δ (a.2+2))]) []))) (re (Qe [Qd [str (za.op a.1),ai (za.v a.1).1,ai (za.v a.1).2.1,str (za.v a.1).2.2,str (za.s a.1),sl Q5 (za.l a.1)],ai a.2])
  []))))))))) (Qc (c x h n) (Q9 (mW.h22 x d o.2 (o.1,()) [] 0 0 [] [])))))
theorem zkh(g:Sem zB.sl->zq->zq->Sem Q5×zq)(c:Sem zB.sl->zq->zq->Bool)(x:Sem zB.sl)(h a:zq):rn (Cv g c) 0 Pc Tryz.f195 [zL zB.sl x,zL zj h,zL zj a] []=(Xr g c x h a).map (lf Tryz.f195 Lf):=kw
def Z7(g:Sem zB.sl->zq->zq->Sem Q5×zq)(c:Sem zB.sl->zq->zq->Bool):mW->Tr (mW⊕au)
 | .h22 h k i z j x b d e=>
  let t:=bif k==1 then mz h i VP else Q3
  let u:=bif k==1 then vW h i VP else Q4
  let w:=vW h i [43]
  let p:=bif k==3 then mz h i [43]&&bif w then Q3 else mz h i [45]else Q3
  let q:=bif k==3 then bif w then Q3 else vW h i [45]else Q4
  let n:=h.getD (toNat i) (zi zB)
  let y:=Γ Δ (i+1)
  let A:=Γ Δ (k+1)
  let o:=c h y A
  let m:=g h y A
  let a:=[zr z.1,zr m.1]
  br (Q0 (i>=0))
  (Qc (cond (k==0) (mz h i [79,82]) Q3) (br (cond (k==0) (vW h i [79,82]) Q4) (Qc t (br u (Qc p (br q (Qc (zK i (Io h)) (br (n.2==[]) (re (Qe [Qd [str (za.op z.1),ai (za.v z.1).1,ai (za.v z.1).2.1,
  str (za.v z.1).2.2,str (za.s z.1),sl Q5 (za.l z.1)],ai i]) []) (Qc o (Q9 (mW.h22 h k m.2 (za.mk n.2 (0,0,[]) [] a,()) j x b d e))))) (br Q4 (re (Qe [Qd [str (za.op z.1),ai (za.v z.1).1,ai (za.v z.1).2.1,
  str (za.v z.1).2.2,str (za.s z.1),sl Q5 (za.l z.1)],ai i]) []) (Qc o (Q9 (mW.h22 h k m.2 (za.mk iw (0,0,[]) [] a,()) j x b d e)))))) (Qc p (br q (Qc (zK i (Io h)) (br (n.2==[]) (re (Qe [Qd
  [str (za.op z.1),ai (za.v z.1).1,ai (za.v z.1).2.1,str (za.v z.1).2.2,str (za.s z.1),sl Q5 (za.l z.1)],ai i]) []) (Qc o (Q9 (mW.h22 h k m.2 (za.mk n.2 (0,0,[]) [] a,()) j x b d e))))) (br Q4 (re (Qe [Qd
  [str (za.op z.1),ai (za.v z.1).1,ai (za.v z.1).2.1,str (za.v z.1).2.2,str (za.s z.1),sl Q5 (za.l z.1)],ai i]) []) (Qc o (Q9 (mW.h22 h k m.2 (za.mk uD (0,0,[]) [] a,()) j x b d e)))))))) (Qc t (br u (Qc p (br q (Qc (zK i (Io h))
  (br (n.2==[]) (re (Qe [Qd [str (za.op z.1),ai (za.v z.1).1,ai (za.v z.1).2.1,str (za.v z.1).2.2,str (za.s z.1),sl Q5 (za.l z.1)],ai i]) []) (Qc o (Q9 (mW.h22 h k m.2 (za.mk n.2 (0,0,[]) [] a,()) j x b d e))))) (br Q4 (re (Qe [Qd
  [str (za.op z.1),ai (za.v z.1).1,ai (za.v z.1).2.1,str (za.v z.1).2.2,str (za.s z.1),sl Q5 (za.l z.1)],ai i]) []) (Qc o (Q9 (mW.h22 h k m.2 (za.mk iw (0,0,[]) [] a,()) j x b d e)))))) (Qc p (br q (Qc (zK i (Io h)) (br (n.2==[]) (re
  (Qe [Qd [str (za.op z.1),ai (za.v z.1).1,ai (za.v z.1).2.1,str (za.v z.1).2.2,str (za.s z.1),sl Q5 (za.l z.1)],ai i]) []) (Qc o (Q9 (mW.h22 h k m.2 (za.mk n.2 (0,0,[]) [] a,()) j x b d e))))) (br Q3 (re (Qe [Qd
  [str (za.op z.1),ai (za.v z.1).1,ai (za.v z.1).2.1,str (za.v z.1).2.2,str (za.s z.1),sl Q5 (za.l z.1)],ai i]) []) (Qc o (Q9 (mW.h22 h k m.2 (za.mk [] (0,0,[]) [] a,()) j x b d e))))))))))
  (re (Qe [Qd [str (za.op z.1),ai (za.v z.1).1,ai (za.v z.1).2.1,str (za.v z.1).2.2,str (za.s z.1),sl Q5 (za.l z.1)],ai i]) [])
theorem zlI(g:Sem zB.sl->zq->zq->Sem Q5×zq)(c:Sem zB.sl->zq->zq->Bool):∀s,run (Cv g c) 0 Pc (Func.results Tryz.f195).toList 400 (ab Tryz.f195 (Lf s).1) (Lf s).2=(Z7 g c s).map (lf Tryz.f195 Lf):=by intro s;cases s<;>kernel_rfl
def lL(o:Option (zD (Qi Q1 [Q5,zj]))):Sem Q5×zq:=(λr:zD (Qi Q1 [Q5,zj])=>(r.1,r.2.1)) (o.getD (cA [Q5,zj]))
def ZC(g:Sem zB.sl->zq->zq->Sem Q5×zq)(c:Sem zB.sl->zq->zq->Bool)(x:Sem zB.sl)(h a:zq):Option (zD (Qi Q1 [Q5,zj])):=an [Q5,zj] (Z7 g c) 100000000 (Xr g c x h a)
def fm:Nat->Sem zB.sl->zq->zq->Option (zD (Qi Q1 [Q5,zj]))
 |0=>λ_ _ _=>none
 |n+1=>ZC (λx h a=>lL (fm n x h a)) λx h a=>(fm n x h a).isSome
theorem XP:zM Rg.P 195 Tryz.f195 3:=bL kw
theorem KC:∀n,FK 195 (zZ [zB.sl,zj,zj] [Q5,zj] (λx=>(fm n x.1 x.2.1 x.2.2.1).isSome) λx=>((lL (fm n x.1 x.2.1 x.2.2.1)).1,(lL (fm n x.1 x.2.1 x.2.2.1)).2,()))
 |0=>eI ⟨Tryz.f195,XP.1,XP.2.1,XP.2.2.1⟩ (λ_=>rfl)
 |n+1=>lj (E:=Cv (λh a b=>lL (fm n h a b)) (λh a b=>(fm n h a b).isSome)) (ks:=[zB.sl,zj,zj]) (outs:=[Q5,zj]) (keep:=Pc) (gas:=400) (n:=100000000) (e:=Lf) (t:=Z7 (λh a b=>lL (fm n h a b)) (λh a b=>(fm n h a b).isSome)) (i:=λx=>Xr (λh a b=>lL (fm n h a b)) (λh a b=>(fm n h a b).isSome) x.1 x.2.1 x.2.2.1) (Ow (KC n)) (zlx _ _) (λx=>zkh _ _ x.1 x.2.1 x.2.2.1) (zlI _ _) (λ_=>by kernel_rfl) (λ_=>by kernel_rfl)
def Na(x:Sem zB.sl)(h a:zq):Option (zD (Qi Q1 [Q5,zj])):=fm 16 x h a
def M9(x:Sem zB.sl)(h a:zq):Bool:=(Na x h a).isSome
def JF(x:Sem zB.sl)(h a:zq):Sem Q5×zq:=lL (Na x h a)
def zfi:z8:=zZ [zB.sl,zj,zj] [Q5,zj] (λx=>M9 x.1 x.2.1 x.2.2.1) λx=>((JF x.1 x.2.1 x.2.2.1).1,(JF x.1 x.2.1 x.2.2.1).2,())
theorem zbr:FK 195 zfi:=KC 16
def zgo:=Rg.add 195 zfi
theorem GS:zw zgo:=GR.add zbr
def zqU(b:Sem zB.sl):Tr (Empty⊕au):=
 let a:=JF b 0 0
 let h:=Q0 (a.2<0)
 let x:=zr a.1
 Qc (M9 b 0 0)
 (Qc (cond h Q3 (tY x))
  (br (cond h Q3 (!D1 x)) (re (Qe [Qd [str [],ai 0,ai 0,str [],str [],Qb],ai 0,kb Q4]) []) (re (Qe [Qd [str (za.op a.1),ai (za.v a.1).1,ai (za.v a.1).2.1,str (za.v a.1).2.2,str (za.s a.1),sl Q5 (za.l a.1)],ai a.2,kb Q3])
  [])))
def Ej(x:Sem zB.sl):=an [Q5,zj,Q7] t0 100000000 (zqU x)
def Zz(x:Sem zB.sl):=(Ej x).isSome
def zdP(x:Sem zB.sl):=o3 (Ej x)
def ze7:=FT [zB.sl] [Q5,zj,Q7] λx=>Ej x.1
theorem zbh:FK 136 ze7:=GS.T1 (f:=Tryz.f136) (keep:=k0) (e:=e0)
def Rh:=zgo.add 136 ze7
theorem GU:zw Rh:=GS.add zbh
abbrev zgW:=kJ []
theorem zs4:zM Rh.P 73 Tryz.f73 1:=bL kw
def zkK(y:zo aH):Tr (Empty⊕au):=
 let h:=Qg ((↑(Io y.1):Int).toNat-toNat y.2.1) (Qh (toNat y.2.1) y.1)
 let a:=zdP h
 let x:=Γ Δ (y.2.1+a.2.1)
 Qc (Q0 (0<=y.2.1)&&Q0 (y.2.1<=(↑(Io y.1):Int))&&Q0 ((↑(Io y.1):Int)<=(↑(Io y.1):Int)))
 (Qc (Zz h)
  (br (!a.2.2) (re (Qd [str (za.op a.1),ai (za.v a.1).1,ai (za.v a.1).2.1,str (za.v a.1).2.2,str (za.s a.1),sl Q5 (za.l a.1)]) [Qa [sl zB y.1,ai x,kb Q4]]) (re (Qd [str (za.op a.1),ai (za.v a.1).1,ai (za.v a.1).2.1,str (za.v a.1).2.2,
  str (za.s a.1),sl Q5 (za.l a.1)]) (aB aH (y.1,x,y.2.2)))))
theorem zqO(y:zo aH):rn Rh 1 zgW Tryz.f73 [Qf 0 0] (aB aH y)=(zkK y).map (lf Tryz.f73 e0):=kw
def Sv(y:zo aH):Option (zD (Qi Q1 [Q5])×zo aH):=kM [Q5] aH t0 100000000 (zkK y)
def JM(y:zo aH):Bool:=(Sv y).isSome
def JL(y:zo aH):(Sem Q5)×zo aH:=(λr:zD (Qi Q1 [Q5])×zo aH=>(r.1.1,r.2)) ((Sv y).getD (cA [Q5],fU aH))
def zol:z8:=sA aH [] [Q5] aH (λy _=>JM y) λy _=>(((JL y).1,()),(JL y).2)
theorem zje:FK 73 zol:=kd (ps:=aH) (ks:=[]) (outs:=[Q5]) (keep:=zgW) (gas:=400) (n:=100000000) (e:=e0) (t:=t0) (i:=λy x=>zkK y) GU zs4 (λy x=>zqO y) (U7 _ _ _ _ _) (λ_ _=>by kernel_rfl) (λ_ _=>by kernel_rfl)
def WT:=Rh.add 73 zol
theorem xy:zw WT:=GU.add zje
abbrev zk2:=kJ [(6,[1,3])]
inductive FS where
 |h6 (i3:Int) (z0:zo [CP.d zB])
abbrev zp6:FS->Nat×St
 |.h6 i z=>(6,⟨tm 82 [(1,Qf 0 0),(3,ai i)],[Qa (bI [] [CP.d zB] z)]⟩)
def Mb(x:bW):Tr (FS⊕au):=
 let a:=(2,0,x.2)
 br (x.1==1) (Qc (vS x.2) (re (AV.bool (t7 x.2)) []))
 (br (x.1==2) (Q9 (FS.h6 0 (x,())))
  (br (x.1==3) (Qc (mK a) (re (AV.bool (sY a)) [])) (br (x.1==4) (re (AV.bool (cond (x.2==[40]) Q3 (cond (x.2==[41]) Q3 (cond (x.2==[44]) Q3 (cond (x.2==[61]) Q3 (cond (x.2==[60]) Q3 (cond (x.2==[43]) Q3 (cond (x.2==[45]) Q3 (x.2==[42]))))))))) []) (re (kb Q4) []))))
def wt:FS->Tr (FS⊕au)
 | .h6 i z=>
  let a:=(↑(Io z.1.2):Int)
  let h:=(↑(getD z.1.2 i.toNat 0).toNat:Int)
  br (Q0 (i<a))
  (Qc (zK i (Io z.1.2))
   (Qc (jV h) (br (!kO h) (re (kb Q4) []) (Q9 (FS.h6 (Γ Δ (i+1)) z)))))
  (re (AV.bool (cond (Q0 (1<=a)) (Q0 (a<=19)) Q4)) [])
def JB(x:bW):=an [Q7] wt 100000000 (Mb x)
def mL(x:bW):=(JB x).isSome
def sZ(x:bW):=o1 (JB x)
def zeZ:=FT [zB] [Q7] λx=>JB x.1
theorem za9:FK 134 zeZ:=xy.T1 (f:=Tryz.f134) (keep:=zk2) (e:=zp6)
abbrev XU:=kJ []
theorem zlq:zM WT.P 74 Tryz.f74 2:=bL kw
def Xl(y:zo aH)(d:TS):Tr (Empty⊕au):=
 let e:=(y.1,y.2.1,y.2.2.1,())
 let x:=fD e d
 let b:=(x.2.1,x.2.2.1,x.2.2.2.1,())
 let h:=JL b
 let c:=bN b [40]
 let g:=(c.1,c.2.1,c.2.2.1,())
 let a:=JL g
 let i:=(a.2.1,a.2.2.1,a.2.2.2.1,())
 Qc (ej e d)
 (br (!x.1) (re (Qd [str [],ai 0,ai 0,str [],str [],Qb]) (aB aH x.2))
  (br (d==md) (Qc (JM b) (re (Qd [str (za.op h.1),ai (za.v h.1).1,ai (za.v h.1).2.1,str (za.v h.1).2.2,str (za.s h.1),sl Q5 (za.l h.1)]) (aB aH h.2))) (Qc (bb b [40]) (Qc (JM g) (Qc (bb i [41]) (re (Qd
  [str (za.op a.1),ai (za.v a.1).1,ai (za.v a.1).2.1,str (za.v a.1).2.2,str (za.s a.1),sl Q5 (za.l a.1)]) (aB aH (bN i [41]))))))))
theorem zj5(y:zo aH)(x:TS):rn WT 1 XU Tryz.f74 [Qf 0 0,zL Q6 x] (aB aH y)=(Xl y x).map (lf Tryz.f74 e0):=kw
def Su(y:zo aH)(x:TS):Option (zD (Qi Q1 [Q5])×zo aH):=kM [Q5] aH t0 100000000 (Xl y x)
def ec(y:zo aH)(x:TS):Bool:=(Su y x).isSome
def fe(y:zo aH)(x:TS):(Sem Q5)×zo aH:=(λr:zD (Qi Q1 [Q5])×zo aH=>(r.1.1,r.2)) ((Su y x).getD (cA [Q5],fU aH))
def zeC:z8:=sA aH [Q6] [Q5] aH (λy x=>ec y x.1) λy x=>(((fe y x.1).1,()),(fe y x.1).2)
theorem zaM:FK 74 zeC:=kd (ps:=aH) (ks:=[Q6]) (outs:=[Q5]) (keep:=XU) (gas:=400) (n:=100000000) (e:=e0) (t:=t0) (i:=λy x=>Xl y x.1) xy zlq (λy x=>zj5 y x.1) (U7 _ _ _ _ _) (λ_ _=>by kernel_rfl) (λ_ _=>by kernel_rfl)
def zrd(x:TS):Tr (Empty⊕au):=
 Qc (vS x&&bif t7 x then Ek x else Q3) (re (AV.bool (cond (t7 x) (!M5 x) Q4)) [])
def vX(x:TS):=an [Q7] t0 100000000 (zrd x)
def eb(x:TS):=(vX x).isSome
def bM(x:TS):=o1 (vX x)
def zn3:=FT [Q6] [Q7] λx=>vX x.1
theorem ziV:FK 124 zn3:=xy.T1 (f:=Tryz.f124) (keep:=k0) (e:=e0)
def zf3:=OA.addL [(134,zeZ),(74,zeC),(124,zn3)]
theorem rl:zw zf3:=oB.addL<|fc za9<|fc zaM<|fc ziV iH
abbrev zrM:Nat->aP:=λj=>if j=3 then{slots:=[0,4,5],prom:=[(4,none,zB)]}else if j=11 then{slots:=[0,4,5,6,7,8]}else if j=15 then{slots:=[0,4,5,6,7,8]}else if j=20 then{slots:=[0,4,5,8]}else{ }
inductive jL where
 |h3 (s0:TS) (i5:Int) (lh_0:LF)
 |h11 (s0:TS) (i5:Int) (i6:Int) (i7:Int) (z1:zo [CP.d zB]) (lh_0:LF)
 |h15 (s0:TS) (i5:Int) (i6:Int) (i7:Int) (z1:zo [CP.d zB]) (lh_0:LF)
 |h20 (s0:TS) (i5:Int) (z1:zo [CP.d zB]) (lh_0:LF)
abbrev zuw:jL->Nat×St
 |.h3 s i l=>(3,⟨tm 131 [(0,str s),(4,AV.vec 0),(5,ai i)],[AO.vec zB l]⟩)
 |.h11 s i h x z l=>(11,⟨tm 131 [(0,str s),(4,AV.vec 0),(5,ai i),(6,AV.int IntKind.u8 h),(7,ai x),(8,Qf 1 0)],[AO.vec zB l,Qa (bI [] [CP.d zB] z)]⟩)
 |.h15 s i h x z l=>(15,⟨tm 131 [(0,str s),(4,AV.vec 0),(5,ai i),(6,AV.int IntKind.u8 h),(7,ai x),(8,Qf 1 0)],[AO.vec zB l,Qa (bI [] [CP.d zB] z)]⟩)
 |.h20 s i z l=>(20,⟨tm 131 [(0,str s),(4,AV.vec 0),(5,ai i),(8,Qf 1 0)],[AO.vec zB l,Qa (bI [] [CP.d zB] z)]⟩)
def zvL(x:TS):Tr (jL⊕au):=
 Q9 (jL.h3 x 0 [])
def gg:jL->Tr (jL⊕au)
 | .h3 s i l=>
  let h:=(↑(getD s i.toNat 0).toNat:Int)
  let x:=Γ Δ (i+1)
  let b:=Qg (x.toNat-i.toNat) (Qh i.toNat s)
  let a:=((4,b),())
  let d:=(4,b)
  let g:=[d]
  br (Q0 (i<(↑(Io s):Int)))
  (Qc (zK i (Io s)) (br (cond (h==32) Q3 (h==10)) (Q9 (jL.h3 s x l)) (Qc (Q0 (0<=i)&&Q0 (i<=x)&&Q0 (x<=(↑(Io s):Int))) (Qc (nP h) (br (qH h) (Q9 (jL.h11 s x h i a l)) (Qc (jV h) (br (kO h) (Q9 (jL.h15 s x h i a l))
  (br (h==39) (Q9 (jL.h20 s x ((3,[]),()) l)) (Qc (mL d) (br (!sZ d) (re (Qe [Qb,kb Q4]) []) (Qc (Q0 (Io l+Io g<=1073741824)) (Q9 (jL.h3 s x (l++g))))))))))))))
  (re (Qe [AV.vec 0,AV.bool (Q0 ((↑l.length:Int)<=400))]) [AO.vec zB l])
 | .h11 s i e c z l=>
  let h:=Q0 (i<(↑(Io s):Int))
  let x:=(↑(getD s i.toNat 0).toNat:Int)
  let b:=Qg (i.toNat-c.toNat) (Qh c.toNat s)
  let a:=(1,b)
  let d:=[a]
  Qc (cond h (zK i (Io s)&&vU x) Q3)
  (br (cond h (Eh x) Q4) (Q9 (jL.h11 s (Γ Δ (i+1)) e c z l)) (Qc (Q0 (0<=c)&&Q0 (c<=i)&&Q0 (i<=(↑(Io s):Int))) (Qc (jV e) (br (kO e) (Q9 (jL.h15 s i e c ((1,b),()) l)) (br (e==39) (Q9 (jL.h20 s i ((3,[]),()) l)) (Qc (mL a)
  (br (!sZ a) (re (Qe [Qb,kb Q4]) []) (Qc (Q0 (Io l+Io d<=1073741824)) (Q9 (jL.h3 s i (l++d)))))))))))
 | .h15 s i e c z l=>
  let h:=Q0 (i<(↑(Io s):Int))
  let x:=(↑(getD s i.toNat 0).toNat:Int)
  let b:=(2,Qg (i.toNat-c.toNat) (Qh c.toNat s))
  let a:=[b]
  Qc (cond h (zK i (Io s)&&jV x) Q3)
  (br (cond h (kO x) Q4) (Q9 (jL.h15 s (Γ Δ (i+1)) e c z l)) (Qc (Q0 (0<=c)&&Q0 (c<=i)&&Q0 (i<=(↑(Io s):Int))) (br (e==39) (Q9 (jL.h20 s i ((3,[]),()) l)) (Qc (mL b) (br (!sZ b) (re (Qe [Qb,kb Q4]) [])
  (Qc (Q0 (Io l+Io a<=1073741824)) (Q9 (jL.h3 s i (l++a)))))))))
 | .h20 s i z l=>
  let h:=Q0 (i<(↑(Io s):Int))
  let x:=(↑(getD s i.toNat 0).toNat:Int)
  let b:=x !=39
  let a:=Γ Δ (i+1)
  let d:=Q0 (a<(↑(Io s):Int))
  let g:=Qg (a.toNat-i.toNat) (Qh i.toNat s)
  let j:=((z.1.1,z.1.2++g),())
  Qc (cond h (zK i (Io s)&&bif b then Q3 else bif d then zK a (Io s)else Q3) Q3)
  (br (cond h (cond b Q3 (cond d ((↑(getD s a.toNat 0).toNat:Int)==39) Q4)) Q4) (Qc (Q0 (0<=i)&&Q0 (i<=a)&&Q0 (a<=(↑(Io s):Int))) (Qc (Q0 (Io z.1.2+Io g<=1099511627776))
  (Qc (zK i (Io s)) (br (x==39) (Q9 (jL.h20 s (Γ Δ (a+1)) j l)) (Q9 (jL.h20 s a j l)))))) (br (Q0 (i>=(↑(Io s):Int))) (re (Qe [Qb,kb Q4]) []) (Qc (mL z.1) (br (!sZ z.1) (re (Qe [Qb,kb Q4]) [])
  (Qc (Q0 (Io l+[z.1].length<=1073741824)) (Q9 (jL.h3 s a (l++[z.1]))))))))
def JA(x:TS):=an [zB.sl,Q7] gg 100000000 (zvL x)
def Jz(x:TS):=(JA x).isSome
def As(x:TS):=o2 (JA x)
def znT:=FT [Q6] [zB.sl,Q7] λx=>JA x.1
theorem ziM:FK 67 znT:=rl.T1 (f:=Tryz.f67) (keep:=zrM) (e:=zuw)
def Ma(x:Sem Q5)(h:TS):Tr (Empty⊕au):=
 let a:=h++zcb
 let b:=a++qB (zr x)
 br (za.op x==[])
 (Qc (hA (zr x) (za.mk [] (0,0,[]) [] [])) (re (Qe [str [],AV.bool (fB (zr x) (za.mk [] (0,0,[]) [] []))]) []))
 (Qc (tY (zr x))
  (br (!D1 (zr x)) (re (Qe [str [],kb Q4]) []) (br (h==md) (Qc (rU (zr x)) (Qc (Q0 (Io zce+Io (qB (zr x))<=1099511627776)) (re (Qe [str (zce++qB (zr x)),kb Q3]) [])))
  (Qc (Q0 (Io h+Io zcb<=1099511627776)) (Qc (rU (zr x)) (Qc (Q0 (Io a+Io (qB (zr x))<=1099511627776)) (Qc (Q0 (Io b+Io iE<=1099511627776)) (re (Qe [str (b++iE),kb Q3]) []))))))))
def Bw(x:Sem Q5)(h:TS):=an [Q6,Q7] t0 100000000 (Ma x h)
def pb(x:Sem Q5)(h:TS):=(Bw x h).isSome
def ud(x:Sem Q5)(h:TS):=o2 (Bw x h)
def zeM:=FT [Q5,Q6] [Q6,Q7] λx=>Bw x.1 x.2.1
theorem zaW:FK 186 zeM:=rl.T1 (f:=Tryz.f186) (keep:=k0) (e:=e0)
abbrev zkY:=kJ [(3,[0,4,5])]
inductive BR where
 |h3 (l0:LS) (s4:List UInt8) (i5:Int)
abbrev zp3:BR->Nat×St
 |.h3 l s i=>(3,⟨tm 37 [(0,sl Q6 l),(4,str s),(5,ai i)],[]⟩)
def zqR(x:Sem Sh.str.sl):Tr (BR⊕au):=
 Q9 (BR.h3 x [] 0)
def EU:BR->Tr (BR⊕au)
 | .h3 l s i=>
  let a:=l.getD i.toNat (zi Q6)
  let h:=s++fi
  let x:=Γ Δ (i+1)
  let b:=Q0 (1<=(↑l.length:Int))
  br (Q0 (i<(↑l.length:Int)))
  (Qc (zK i (Io l))
   (Qc (eb a) (br (!bM a) (re (Qe [str [],kb Q4]) []) (br (Q0 (i>0)) (Qc (Q0 (Io s+Io fi<=1099511627776)) (Qc (zK i (Io l)) (Qc (Q0 (Io h+Io a<=1099511627776)) (Q9 (BR.h3 l (h++a) x)))))
   (Qc (zK i (Io l)) (Qc (Q0 (Io s+Io a<=1099511627776)) (Q9 (BR.h3 l (s++a) x))))))))
  (re (Qe [str (cond b s s),AV.bool (cond b (Q0 ((↑l.length:Int)<=8)) Q4)]) [])
def vY(x:Sem Sh.str.sl):=an [Q6,Q7] EU 100000000 (zqR x)
def En(x:Sem Sh.str.sl):=(vY x).isSome
def JG(x:Sem Sh.str.sl):=o2 (vY x)
def zeQ:=FT [Sh.str.sl] [Q6,Q7] λx=>vY x.1
theorem za0:FK 190 zeQ:=rl.T1 (f:=Tryz.f190) (keep:=zkY) (e:=zp3)
def zf4:=zf3.addL [(67,znT),(186,zeM),(190,zeQ)]
theorem nt:zw zf4:=rl.addL<|fc ziM<|fc zaW<|fc za0 iH
abbrev zkW:=kJ [(4,[1,4,5,6]),(15,[1,4,5,8]),(20,[1,4,5,9])]
inductive pI where
 |h4 (b4:Bool) (s5:zH) (i6:Int) (z0:zo [CP.d aC])
 |h15 (b4:Bool) (s5:zH) (i8:Int) (z0:zo [CP.d aC])
 |h20 (b4:Bool) (s5:zH) (i9:Int) (z0:zo [CP.d aC])
abbrev zp1:pI->Nat×St
 |.h4 b s i z=>(4,⟨tm 174 [(1,Qf 0 0),(4,AV.bool b),(5,str s),(6,ai i)],[Qa (bI [] [CP.d aC] z)]⟩)
 |.h15 b s h z=>(15,⟨tm 174 [(1,Qf 0 0),(4,AV.bool b),(5,str s),(8,ai h)],[Qa (bI [] [CP.d aC] z)]⟩)
 |.h20 b s x z=>(20,⟨tm 174 [(1,Qf 0 0),(4,AV.bool b),(5,str s),(9,ai x)],[Qa (bI [] [CP.d aC] z)]⟩)
def Xo(x:zN):Tr (pI⊕au):=
 let a:=zcf++x.2.1
 let h:=(↑(Io x.t.1):Int)
 let b:=(↑(Io x.t.q.1):Int)
 let c:=(↑(Io x.t.q.2.1):Int)
 Qc (eb x.t.2.1)
 (Qc (Q0 (Io zcf+Io x.2.1<=1099511627776))
  (Qc (Q0 (Io a+Io AH<=1099511627776)) (Q9 (pI.h4 (cond (bM x.t.2.1) (cond (Q0 (1<=h)) (cond (Q0 (h<=8)) (cond (Q0 (b<=8)) (Q0 (c<=8)) Q4) Q4) Q4) Q4) (a++AH) 0 (x,())))))
def fL:pI->Tr (pI⊕au)
 | .h4 b s m z=>
  let g:=(↑(Io z.1.t.1):Int)
  let a:=getD z.1.t.1 m.toNat (zi zl)
  let h:=a.1++[32]
  let x:=[[],Ce,Cf,Cd].getD (toNat a.2.1) (zi Q6)
  let c:=h++x
  let d:=s++c
  let j:=d++zjI
  let k:=Γ Δ (m+1)
  let e:=zjL++z.1.t.2.1
  let l:=e++iE
  br (Q0 (m<g))
  (Qc (zK m (Io z.1.t.1))
   (Qc (eb a.1) (br (cond (!bM a.1) Q3 (cond (Q0 (a.2.1<1)) Q3 (Q0 (a.2.1>3)))) (re (Qe [str [],kb Q4]) []) (Qc (Q0 (Io a.1+[32].length<=1099511627776)) (Qc (zK a.2.1 [[],Ce,Cf,Cd].length) (Qc (Q0 (Io h+Io x<=1099511627776))
   (Qc (Q0 (Io s+Io c<=1099511627776)) (br a.2.2 (Qc (Q0 (Io d+Io zjI<=1099511627776)) (Qc (Q0 (Io j+Io fi<=1099511627776)) (Q9 (pI.h4 b (j++fi) k z))))
   (Qc (Q0 (Io d+Io fi<=1099511627776)) (Q9 (pI.h4 b (d++fi) k z)))))))))))
  (Qc (Q0 (Io zjL+Io z.1.t.2.1<=1099511627776))
   (Qc (Q0 (Io e+Io iE<=1099511627776)) (Qc (Q0 (Io s+Io l<=1099511627776)) (Q9 (pI.h15 b (s++l) 0 z)))))
 | .h15 b s n z=>
  let g:=(↑(Io z.1.t.q.1):Int)
  let a:=zK n (Io z.1.t.q.1)
  let h:=getD z.1.t.q.1 n.toNat (zi Q6)
  let x:=zjG++h
  let c:=x++iE
  br (Q0 (n<g))
  (Qc (cond b (a&&eb h) Q3)
   (Qc a (Qc (Q0 (Io zjG+Io h<=1099511627776)) (Qc (Q0 (Io x+Io iE<=1099511627776)) (Qc (Q0 (Io s+Io c<=1099511627776)) (Q9 (pI.h15 (cond b (bM h) Q4) (s++c) (Γ Δ (n+1)) z)))))))
  (Q9 (pI.h20 b s 0 z))
 | .h20 b s o z=>
  let g:=(↑(Io z.1.t.q.2.1):Int)
  let a:=zK o (Io z.1.t.q.2.1)
  let h:=getD z.1.t.q.2.1 o.toNat (zi kC)
  let x:=bM h.1
  let c:=zjF++h.1
  let d:=c++zjE
  let j:=d++h.2
  let k:=zr z.1.t.t.1
  let e:=ud k [32,44]
  let l:=s++e.1
  let i:=l++iE
  br (Q0 (o<g))
  (Qc (cond b (a&&(eb h.1&&bif x then a&&eb h.2 else Q3)) Q3)
   (Qc a (Qc (Q0 (Io zjF+Io h.1<=1099511627776)) (Qc (Q0 (Io c+Io zjE<=1099511627776)) (Qc a (Qc (Q0 (Io d+Io h.2<=1099511627776)) (Qc (Q0 (Io s+Io j<=1099511627776))
   (Q9 (pI.h20 (cond b (cond x (bM h.2) Q4) Q4) (s++j) (Γ Δ (o+1)) z)))))))))
  (Qc (pb k [32,44])
   (Qc (Q0 (Io s+Io e.1<=1099511627776)&&Q0 (Io l+Io iE<=1099511627776)) (re (Qe [str (cond b i i),AV.bool (cond b e.2 Q4)]) [])))
def nL(x:zN):=an [Q6,Q7] fL 100000000 (Xo x)
def rX(x:zN):=(nL x).isSome
def qC(x:zN):=o2 (nL x)
def zeN:=FT [aC] [Q6,Q7] λx=>nL x.1
theorem zaX:FK 187 zeN:=nt.T1 (f:=Tryz.f187) (keep:=zkW) (e:=zp1)
abbrev zrx:=kJ [(2,[0,1,5]),(5,[0,1,5,6])]
inductive KF where
 |h2 (l0:zR) (l1:List (Sem Q6)) (i5:Int)
 |h5 (l0:zR) (l1:List (Sem Q6)) (i5:Int) (i6:Int)
abbrev zul:KF->Nat×St
 |.h2 l h i=>(2,⟨tm 47 [(0,sl zk l),(1,sl Q6 h),(5,ai i)],[]⟩)
 |.h5 l h i x=>(5,⟨tm 47 [(0,sl zk l),(1,sl Q6 h),(5,ai i),(6,ai x)],[]⟩)
def zvH(x:Sem zk.sl)(h:Sem Sh.str.sl):Tr (KF⊕au):=
 Q9 (KF.h2 x h 0)
def qN:KF->Tr (KF⊕au)
 | .h2 l h i=>
  br (Q0 (i<(↑l.length:Int))) (Q9 (KF.h5 l h i 0)) (re (kb Q4) [])
 | .h5 l h i x=>
  let a:=l.getD i.toNat (zi zk)
  let d:=(↑(Io a.1.t.1):Int)
  let b:=!M8 h a.1.1
  let c:=getD a.1.t.1 x.toNat (zi zB)
  Qc (zK i (Io l))
  (br (Q0 (x<d))
   (Qc (zK i (Io l)&&(Au h a.1.1&&bif b then zK i (Io l)&&(zK x (Io a.1.t.1)&&Au h c.2)else Q3)) (br (cond b (M8 h c.2) Q4) (re (kb Q3) []) (Q9 (KF.h5 l h i (Γ Δ (x+1))))))
   (Q9 (KF.h2 l h (Γ Δ (i+1)))))
def oR(x:Sem zk.sl)(h:Sem Sh.str.sl):=an [Q7] qN 100000000 (zvH x h)
def tX(x:Sem zk.sl)(h:Sem Sh.str.sl):=(oR x h).isSome
def xV(x:Sem zk.sl)(h:Sem Sh.str.sl):=o1 (oR x h)
def znu:=FT [zk.sl,Sh.str.sl] [Q7] λx=>oR x.1 x.2.1
theorem zij:FK 62 znu:=nt.T1 (f:=Tryz.f62) (keep:=zrx) (e:=zul)
abbrev zrz:=kJ [(3,[0,1,6,7]),(10,[6,9]),(13,[6,9,10])]
inductive pK where
 |h3 (l0:aN) (l1:List (Sem Q6)) (i7:Int)
 |h3b (l0:aN) (l1:List (Sem Q6)) (i7:Int) (lh_0:dA)
 |h10 (i9:Int)
 |h10b (i9:Int) (lh_0:dA)
 |h13 (i9:Int) (i10:Int)
 |h13b (i9:Int) (i10:Int) (lh_0:dA)
abbrev zun:pK->Nat×St
 |.h3 a b x=>(3,⟨tm 50 [(0,sl zl a),(1,sl Q6 b),(6,Qb),(7,ai x)],[]⟩)
 |.h3b a b x l=>(3,⟨tm 50 [(0,sl zl a),(1,sl Q6 b),(6,AV.vec 0),(7,ai x)],[AO.vec zj l]⟩)
 |.h10 h=>(10,⟨tm 50 [(6,Qb),(9,ai h)],[]⟩)
 |.h10b h l=>(10,⟨tm 50 [(6,AV.vec 0),(9,ai h)],[AO.vec zj l]⟩)
 |.h13 h i=>(13,⟨tm 50 [(6,Qb),(9,ai h),(10,ai i)],[]⟩)
 |.h13b h i l=>(13,⟨tm 50 [(6,AV.vec 0),(9,ai h),(10,ai i)],[AO.vec zj l]⟩)
def zq5(x:Sem zl.sl)(h:Sem Sh.str.sl):Tr (pK⊕au):=
 Q9 (pK.h3 x h 0)
def ka:pK->Tr (pK⊕au)
 | .h3 b a x=>
  let c:=a.getD x.toNat (zi Q6)
  let d:=gz b c
  let e:=[d]
  br (Q0 (x<(↑a.length:Int)))
  (Qc (zK x (Io a))
   (Qc (eQ b c) (br (Q0 (d<0)) (re (Qe [Qb,ai 4]) []) (Qc (Q0 (Io e<=1073741824)) (Q9 (pK.h3b b a (Γ Δ (x+1)) e))))))
  (Q9 (pK.h10 0))
 | .h3b b a x l=>
  let c:=a.getD x.toNat (zi Q6)
  let d:=gz b c
  let e:=[d]
  br (Q0 (x<(↑a.length:Int)))
  (Qc (zK x (Io a))
   (Qc (eQ b c) (br (Q0 (d<0)) (re (Qe [Qb,ai 4]) []) (Qc (Q0 (Io l+Io e<=1073741824)) (Q9 (pK.h3b b a (Γ Δ (x+1)) (l++e)))))))
  (Q9 (pK.h10b 0 l))
 | .h10 h=>
  br (Q0 (h<0)) (Q9 (pK.h13 h 0)) (re (Qe [Qb,ai 0]) [])
 | .h10b h l=>
  br (Q0 (h<(↑l.length:Int))) (Q9 (pK.h13b h 0 l)) (re (Qe [AV.vec 0,ai 0]) [AO.vec zj l])
 | .h13 h i=>
  br (Q0 (i<h)) Tr.err (Q9 (pK.h10 (Γ Δ (h+1))))
 | .h13b h i l=>
  br (Q0 (i<h))
  (Qc (zK h (Io l))
   (Qc (Q0 (h.toNat<Io l)) (Qc (zK i (Io l)) (Qc (Q0 (i.toNat<Io l)) (br (l.getD h.toNat (zi zj)==l.getD i.toNat (zi zj)) (re (Qe [Qb,ai 7]) []) (Q9 (pK.h13b h (Γ Δ (i+1)) l)))))))
  (Q9 (pK.h10b (Γ Δ (h+1)) l))
def oQ(x:Sem zl.sl)(h:Sem Sh.str.sl):=an [zj.sl,zj] ka 100000000 (zq5 x h)
def oP(x:Sem zl.sl)(h:Sem Sh.str.sl):=(oQ x h).isSome
def rI(x:Sem zl.sl)(h:Sem Sh.str.sl):=o2 (oQ x h)
def znw:=FT [zl.sl,Sh.str.sl] [zj.sl,zj] λx=>oQ x.1 x.2.1
theorem zik:FK 63 znw:=nt.T1 (f:=Tryz.f63) (keep:=zrz) (e:=zun)
def zc9(x:Sem Q5)(h:Sem zl.sl):Tr (Empty⊕au):=
 br (za.op x==[]) (re (ai 0) [])
 (Qc (tY (zr x))
  (br (!D1 (zr x)) (re (ai 1) []) (Qc (oW (zr x) h) (br (cond ((iQ (zr x) h).2==0) (cond ((iQ (zr x) h).1!=0) ((iQ (zr x) h).1!=3) Q4) Q4) (re (ai 5) []) (re (ai (iQ (zr x) h).2) [])))))
def Bq(x:Sem Q5)(h:Sem zl.sl):=an [zj] t0 100000000 (zc9 x h)
def o6(x:Sem Q5)(h:Sem zl.sl):=(Bq x h).isSome
def qE(x:Sem Q5)(h:Sem zl.sl):=o1 (Bq x h)
def zny:=FT [Q5,zl.sl] [zj] λx=>Bq x.1 x.2.1
theorem zim:FK 65 zny:=nt.T1 (f:=Tryz.f65) (keep:=k0) (e:=e0)
def Wt:=zf4.addL [(187,zeN),(62,znu),(63,znw),(65,zny)]
theorem CG:zw Wt:=nt.addL<|fc zaX<|fc zij<|fc zik<|fc zim iH
end
end Cad
