/- Plans. -/
import Derived.Test.YtgcekmmgphhofaaGreatDoorR17
namespace Cad
open Go Go.Proofs Tryz
open List renaming map->Qi,drop->Qh,take->Qg,length->M
open IntKind renaming wrap->Γ,i64->Δ
open Tr renaming chk->Qd,«to»->Qa
open AV renaming nils->Qc
open AO renaming box->Qb
open Sh renaming bool->Q8,str->Q7,expr->Q6
open Bool renaming false->J,true->Z
open Option renaming some->Y
open Decidable renaming decide->L
open Int renaming toNat->T
open List renaming getD->W
open Tr (chk br re)
open AV (nils agg tup ptr kb)
open AV renaming str->X,sl->O
open Cad renaming Sem->N,ai->I,Tr->K,ze->Q,AV->R
noncomputable section
set_option maxHeartbeats 4000000
abbrev zhG:Nat->aR:=λ_=>{ }
theorem WW:zJ (xm).P 282 f282 2:=bG kw
theorem zgW(x:N zi.sl)(h:zy):rn xm 0 zhG f282 [zI zi.sl x,zI zi h] []=Tr.ok (zM.ret (AV.bool (L (jM x h>=0))) []):=kw
def rU(x:N zi.sl)(h:zy):N Q8:=(L (jM x h>=0))
def zbL:zV:=ay [zi.sl,zi] [Q8] λx=>(rU x.1 x.2.1,())
theorem YJ:FK 282 zbL:=by
 refine z7 (WW) λx C a=>?_
 refine zB p6 (WW) (λid _=>a id) (zgW x.1 x.2.1) ?_;generalize h:rU x.1 x.2.1=y;unfold rU at h;exact SY h
abbrev zoD:Nat->aR:=λ_=>{ }
theorem zdV:zJ (xm).P 227 f227 2:=bG kw
theorem znh(x:N Sh.str.sl)(h:TS):rn xm 0 zoD f227 [zI Sh.str.sl x,zI Q7 h] []=Tr.ok (zM.ret (AV.bool (L (Ke x h>=0))) []):=kw
def bJ(x:N Sh.str.sl)(h:TS):N Q8:=(L (Ke x h>=0))
def zkr:zV:=ay [Sh.str.sl,Q7] [Q8] λx=>(bJ x.1 x.2.1,())
theorem zft:FK 227 zkr:=by
 refine z7 (zdV) λx C a=>?_
 refine zB p6 (zdV) (λid _=>a id) (znh x.1 x.2.1) ?_;generalize h:bJ x.1 x.2.1=y;unfold bJ at h;exact SY h
abbrev zoQ:Nat->aR:=λ_=>{ }
theorem zdX:zJ (xm).P 222 f222 2:=bG kw
theorem znp(x:N zW.sl)(h:bV):rn xm 0 zoQ f222 [zI zW.sl x,zI zW h] []=Tr.ok (zM.ret (AV.bool (L (Kd x h>=0))) []):=kw
def kP(x:N zW.sl)(h:bV):N Q8:=(L (Kd x h>=0))
def zkN:zV:=ay [zW.sl,zW] [Q8] λx=>(kP x.1 x.2.1,())
theorem zfT:FK 222 zkN:=by
 refine z7 (zdX) λx C a=>?_
 refine zB p6 (zdX) (λid _=>a id) (znp x.1 x.2.1) ?_;generalize h:kP x.1 x.2.1=y;unfold kP at h;exact SY h
def zcM:=xm.addL [(282,zbL),(227,zkr),(222,zkN)]
theorem Ev:zm zcM:=p6.addL<|fc YJ<|fc zft<|fc zfT ip
abbrev zoq:Nat->aR:=λj=>if j=2 then{slots:=[0,12,13,14]}else{ }
inductive IA where
 |h2 (i13:Int) (i14:Int) (z0:zn al)
abbrev zrU:IA->Nat×St
 |.h2 i h z=>(2,⟨tm 65 [(0,ptr 0 0),(12,AV.vec 1),(13,I i),(14,I h)],[Qb (fD [1] al z),AO.vec zu z.x.1]⟩)
def zhn(y:zn al):K (IA⊕ac):=Qa (IA.h2 (M y.x.1:Int) 0 y)
def H5(a i:Int)(h:zn al)(c:zg)(d:ci)(b:zy×zy):K (IA⊕ac):=br (L (i<a)) (Qd (zT i (M h.x.1)) (Qd (L (i.toNat<M h.x.1)) (br (ah (h.w.1,h.x.1,h.y.1,[],[],c) d.1!=i) (re (I 7) (aE al h)) (Qa (IA.h2 a (Γ Δ (i+1)) h))))) (br (zg.op h.z.1==[]) (re (I 0) (aE al h)) (br (cond (b.2==0) (cond (b.1!=3) (b.1!=0) J) J) (re (I 5) (aE al h)) (re (I b.2) (aE al h))))
def NS(a i:Int)(h:zn al):K (IA⊕ac):=
 let b:=zP h.z.1
 let c:=h.x.1.getD i.toNat (zk zu)
 let d:=fJ b h.x.1
 H5 a i h b c d
def NR:IA->K (IA⊕ac)
 |.h2 i h z=>NS i h z
def tL(y:zn al):Option (zA (Qi Y [zi])×zn al):=ls [zi] al NR 100000000 (zhn y)
def gw(y:zn al):Bool:=(tL y).isSome
def fA(y:zn al):zy×zn al:=(λr:zA (Qi Y [zi])×zn al=>(r.1.1,r.2)) ((tL y).getD (dL [zi],jH al))
def zkf:zV:=uO al [] [zi] al (λy _=>gw y) λy _=>(((fA y).1,()),(fA y).2)
theorem zfh:FK 170 zkf:=Ev.B1 (f:=f170) (keep:=zoq) (n:=100000000) (e:=zrU) (t:=NR) (i:=λy x=>zhn y)
def U8:=zcM.add 170 zkf
theorem Ew:zm U8:=Ev.add zfh
def zkT:zV:=au (List.replicate 2 none) (eJ U8 f226 (List.replicate 2 none))
theorem zfY:FK 226 zkT:=bM _ Ew (bG kw)
def Jz:=U8.add 226 zkT
theorem vE:zm Jz:=Ew.add zfY
abbrev yY(s:List zD)(l:LF)(i:Int):St:={tmps:=[.sl zW l,.clo (.func 226) [] [.ptr 0 0],.any,.any,.any,.any,.any,I (M l),I i,.any,.any,.any,.any,.any,.any,.any,.any,.any,.any],heap:=[.box [.sl .str s]]}
theorem VQ(s:List zD)(l:LF):run Jz 1 yi f287.results.toList 300 (aK f287) (aC f287.ntmps [.sl zW l,.clo (.func 226) [] [.ptr 0 0]] [.box [.sl .str s]])=.ok (.head 2 (zZ f287 2) (yY s l 0)):=kw
theorem Xm(s:List zD)(l:LF)(i:Int):run Jz 1 yi f287.results.toList 300 (zZ f287 2) (yY s l i)=nI (K:=zZ f287 2) (e:=zW) l (λx=>bJ s x.2) (yY s l) [.box [.sl .str s]] i:=kw
theorem Xe:zJ Jz.P 287 f287 2:=bG kw
def zmr:ee [Y (.sl zW),none]:=λx h=>match x,h with
 |(l,.clo (.func 226) [] [.ptr 0 0],_),[.box [.sl .str s]]=>.ok (I (aj (λx=>bJ s x.2) l 0),[.box [.sl .str s]])
 |_,_=>.err
def zla:zV:=au [Y (.sl zW),none] zmr
theorem zgg:FK 287 zla:=by
 refine cP Xe λx d c h C a=>?_
 unfold zmr at h;split at h
 .rename_i l u s;simp only[Tr.val_ok,ax]at h;subst h;refine Reach.len 0 zW l rfl λb=>?_
  refine zB (n0:=1) vE Xe a (VQ s l) ?_;exact kr l (λx=>bJ s x.2) (yY s l) vE Xe a (Xm s l) b _ 0 rfl (zU _)
 .simp at h
def U9:=Jz.add 287 zla
theorem Ex:zm U9:=vE.add zgg
def zkU:zV:=au (List.replicate 2 none) (eJ U9 f228 (List.replicate 2 none))
theorem zfZ:FK 228 zkU:=bM _ Ex (bG kw)
def zcN:=U9.add 228 zkU
theorem Ey:zm zcN:=Ex.add zfZ
abbrev cpR:List CP:=[.d zl]
abbrev zgM:List CP:=[.d .str,.nil,.d zi,.nil,.nil,.d .str,.d zi,.d zi,.d .str,.d .str,.nil,.nil]
abbrev zmP:List CP:=[.d zN,.vec (.sl Q)]
abbrev LD:List CP:=[.d bQ]
abbrev Jd:List CP:=[.d .str,.d .str,.d .str,.nil,.nil,.d .str,.nil,.nil,.d .str,.d zi,.d zi,.d .str,.d .str,.nil,.nil,.nil,.d .str,.d zi,.d zi,.d .str,.d .str,.nil,.d .str]
abbrev zry:List CP:=[.d .str,.d .str,.d .str,.d (.sl .str),.d (.sl zu),.d .str,.d (.sl .str),.vec Lf,.d .expr,.d (.sl Q),.nil,.d .expr,.d .str]
abbrev zrz:List CP:=[.d .str,.d .str,.d .str,.d (.sl .str),.d (.sl zu),.d .str,.d (.sl .str),.vec Lf,.d .expr,.d (.sl Q),.vec pM,.d .expr,.d .str]
abbrev zn7:Nat->aR:=λj=>if j=6 then{slots:=[1,2,3,4,5],prom:=[(3,Y 11,.sl Q)]}else{ }
inductive LO where
 |h6 (i4:Int) (i5:Int) (z0:zn cpR) (z1:zn zgM) (z2:zn zmP)
abbrev zrK:LO->Nat×St
 |.h6 i h x a z=>(6,⟨tm 38 [(1,ptr 0 0),(2,ptr 1 0),(3,ptr 2 0),(4,I i),(5,I h)],[Qb (fD [] cpR x),Qb (fD [] zgM a),Qb (fD [3] zmP z),AO.vec ze.sl z.2.1]⟩)
def zhh(x:zX):K (LO⊕ac):=
 let a:=(C0 (x.1.1,x.1.2.1,x.1.q.1,x.1.r.1,x.1.t.1,zP x.1.u),[],())
 br (L ((M x.2:Int)>200)) (Qa (LO.h6 201 0 (x,()) ([],0,[],0,0,[],[],()) a))
 (Qa (LO.h6 40 0 (x,()) ([],0,[],0,0,[],[],()) a))
def X8:LO->K (LO⊕ac)
 | .h6 x i h c z=>
  let b:=(M h.1.2:Int)
  let a:=[xD (W h.1.2 i.toNat (zk ze.sl))]
  br (cond (L (i<b)) (L (i<x)) J)
  (Qd (zT i (M h.1.2))
   (Qd (L (M z.2.1+M a<=1073741824)) (Qa (LO.h6 x (Γ Δ (i+1)) h c (z.1,z.2.1++a,())))))
  (re
   (agg ([X z.1.1,O zu z.1.2.1,I z.1.q.1,O zi z.1.r.1,O zW z.1.t.1]++xE z.1.u++[AV.vec 0]))
   [AO.vec ze.sl z.2.1])
def BL(x:zX):=aA [zl] X8 100000000 (zhh x)
def M7(x:zX):=(BL x).isSome
def xC(x:zX):=o1 (BL x)
def zjS:=FT [zl] [zl] λx=>BL x.1
theorem zeP:FK 33 zjS:=Ey.T1 (f:=f33) (keep:=zn7) (e:=zrK)
inductive H8p where
 |h3 (i4:Int) (z0:zn LD) (z1:zn Jd) (z2:zn zry)
 |h7 (i5:Int) (z0:zn LD) (z1:zn Jd) (z2:zn zrz)
def zcT:=zcN.addL [(33,zjS)]
theorem EC:zm zcT:=Ey.addL<|fc zeP<|ip
abbrev ztT:Nat->aR:=λj=>if j=3 then{slots:=[0,3,4],prom:=[(3,none,zl)]}else{ }
inductive H7p where
 |h3 (l0:zH) (i4:Int) (lh_0:zH)
abbrev e7p:H7p->Nat×St
 |.h3 h i l=>(3,⟨tm 24 [(0,O zl h),(3,AV.vec 0),(4,I i)],[AO.vec zl l]⟩)
def i7p(x:N zl.sl):K (H7p⊕ac):=
 Qa (H7p.h3 x 0 [])
def t7p:H7p->K (H7p⊕ac)
 | .h3 x i l=>
  let a:=x.getD i.toNat (zk zl)
  let b:=((a.1.1,a.1.2.1,a.1.q.1,a.1.r.1,a.1.t.1,zP a.1.u),a.2)
  let h:=xC b
  let c:=[((h.1.1,h.1.2.1,h.1.q.1,h.1.r.1,h.1.t.1,zP h.1.u),h.2)]
  br (cond (L (i<(M x:Int))) (L (i<13)) J)
  (Qd (zT i (M x))
   (Qd (M7 b) (Qd (L (M l+M c<=1073741824)) (Qa (H7p.h3 x (Γ Δ (i+1)) (l++c))))))
  (re (AV.vec 0)
   [AO.vec zl l])
def BM(x:N zl.sl):=aA [zl.sl] t7p 100000000 (i7p x)
def GO(x:N zl.sl):=(BM x).isSome
def ot(x:N zl.sl):=o1 (BM x)
def F7p:=FT [zl.sl] [zl.sl] λx=>BM x.1
theorem zl2:FK 10 F7p:=EC.T1 (f:=f10) (keep:=ztT) (e:=e7p)
def zcU:=zcT.add 10 F7p
theorem ED:zm zcU:=EC.add zl2
abbrev zon:Nat->aR:=λj=>if j=3 then{slots:=[0,3,14,15,16]}else if j=11 then{slots:=[0,3,55,56,57]}else{ }
inductive uL where
 |h3 (l14:LS) (i15:Int) (i16:Int) (z0:zn bF) (jb0:LS)
 |h11 (l55:zH) (i56:Int) (i57:Int) (z0:zn bF) (jb0:LS)
abbrev zrS:uL->Nat×St
 |.h3 l i h z j=>(3,⟨tm 122 [(0,ptr 0 0),(3,ptr 1 0),(14,O Q7 l),(15,I i),(16,I h)],[Qb (fD [] bF z),Qb [O Q7 j]]⟩)
 |.h11 b x a z j=>(11,⟨tm 122 [(0,ptr 0 0),(3,ptr 1 0),(55,O zl b),(56,I x),(57,I a)],[Qb (fD [] bF z),Qb [O Q7 j]]⟩)
def zhm(y:zn bF):K (uL⊕ac):=
 let a:=kT (y.t.1,y.u.1,y.v.1,(y.w.1,[],y.x.1,[],[],zP y.y.1),[],y.z.1)
 Qa (uL.h3 a (M a:Int) 0 y a)
def H4(l:LS)(h i:Int)(z:zn bF)(j:LS)(a x:zy):K (uL⊕ac):=br (L (i<h)) (Qd (zT i (M l)) (br (L (a<0)) (re (I 6) (aE bF z)) (Qa (uL.h3 l h (Γ Δ (i+1)) z j)))) (br (cond (L (x>=0)) Z (z.u.1==z.v.1)) (re (I 7) (aE bF z)) (Qa (uL.h11 z.1 (M z.1:Int) 0 z j)))
def NQ(l:LS)(h i:Int)(z:zn bF)(j:LS):K (uL⊕ac):=
 let a:=ab z.1 (l.getD i.toNat (zk Q7))
 let x:=ab z.1 z.2.1.2.1
 H4 l h i z j a x
def CX(l:zH)(h i:Int)(z:zn bF)(j:LS)(x:zX)(b:Int)(c d:zy)(a e:zX):K (uL⊕ac):=br (L (i<h)) (Qd (zT i (M l)) (br (!bJ j x.1.1) (br (L (b>=0)) (re (I 10) (aE bF z)) (Qa (uL.h11 l h (Γ Δ (i+1)) z j))) (Qa (uL.h11 l h (Γ Δ (i+1)) z j)))) (Qd (zT c (M z.1)) (br (!z.v.1==[]) (Qd (zT d (M z.1)) (re (I 0) (aE bF (z.1,z.2.1,a.1,e.1,z.t)))) (re (I 0) (aE bF (z.1,z.2.1,a.1,z.r)))))
def H3(l:zH)(h i:Int)(z:zn bF)(j:LS):K (uL⊕ac):=
 let a:=l.getD i.toNat (zk zl)
 let d:=aj (λx=>bJ j x.2) a.1.t.1 0
 let b:=ab z.1 z.u.1
 let c:=ab z.1 z.v.1
 let e:=W z.1 (T b) (zk zl)
 let g:=W z.1 (T c) (zk zl)
 CX l h i z j a d b c e g
def DH:uL->K (uL⊕ac)
 |.h3 l i h z j=>NQ l i h z j
 |.h11 b x a z j=>H3 b x a z j
def qm(y:zn bF):Option (zA (Qi Y [zi])×zn bF):=ls [zi] bF DH 100000000 (zhm y)
def mD(y:zn bF):Bool:=(qm y).isSome
def mC(y:zn bF):zy×zn bF:=(λr:zA (Qi Y [zi])×zn bF=>(r.1.1,r.2)) ((qm y).getD (dL [zi],jH bF))
def zkd:zV:=uO bF [] [zi] bF (λy _=>mD y) λy _=>(((mC y).1,()),(mC y).2)
theorem zff:FK 169 zkd:=ED.B1 (f:=f169) (keep:=zon) (n:=100000000) (e:=zrS) (t:=DH) (i:=λy x=>zhm y)
def zcO:=zcU.add 169 zkd
theorem Ez:zm zcO:=ED.add zff
abbrev eb:List CP:=[.d (.sl zl),.d bQ,.d zN,.d zN,.d .str,.d .str,.d .str,.d .str,.vec zu,.d zi,.nil,.nil,.d .expr,.vec zi,.d zi]
abbrev zoN:Nat->aR:=λj=>if j=3 then{slots:=[1,3,14,15,16,0],prom:=[(0,Y 60,.int .i64),(0,Y 50,zu)]}else if j=12 then{slots:=[1,63,64,65,0]}else if j=1000000 then{sett:=[(0,60)]}else{ }
inductive rx where
 |h3 (l14:LS) (i15:Int) (i16:Int) (z0:zn eb)
 |h12 (i64:Int) (i65:Int) (z0:zn eb)
 |h12b (i64:Int) (i65:Int) (z0:zn eb)
abbrev zr5:rx->Nat×St
 |.h3 l a b z=>(3,⟨tm 80 [(0,ptr 0 0),(1,ptr 1 0),(3,AV.clo (Fn.func 281) [] [ptr 1 0]),(14,O Q7 l),(15,I a),(16,I b)],[Qb (fD [2,3] eb z),Qb [ptr 0 0],AO.vec zu z.x.1,AO.vec zi z.s.1]⟩)
 |.h12 i h z=>(12,⟨tm 80 [(0,ptr 0 0),(1,ptr 1 0),(63,AV.vec 2),(64,I i),(65,I h)],[Qb (fD [3,2] eb z),Qb [ptr 0 0],AO.vec zi z.s.1,AO.vec zu z.x.1]⟩)
 |.h12b i h z=>(12,⟨tm 80 [(0,ptr 0 0),(1,ptr 1 0),(63,AV.vec 2),(64,I i),(65,I h)],[Qb (fD [3,2] eb z),Qb [ptr 0 0],AO.frz zi z.s.1,AO.vec zu z.x.1]⟩)
def zhr(y:zn bF):K (rx⊕ac):=Qa (rx.h3 y.2.1.r.1 (M y.2.1.r.1:Int) 0 (y.1,y.2.1,y.q.1,y.r.1,y.t.1,y.u.1,y.v.1,y.w.1,[],y.x.1,y.y.1,[],y.z))
def H7(l:LS)(a i:Int)(h:zn eb)(b:zy)(c:LI)(d:LC):K (rx⊕ac):=br (L (i<a)) (Qd (zT i (M l)) (br (L (b<0)) (re (I 4) (aE al h)) (Qd (L (M h.s.1+M c<=1073741824)) (Qd (zT b (M h.q.1.2.1)) (Qd (L (M h.x.1+M d<=1073741824)) (Qa (rx.h3 l a (Γ Δ (i+1)) (h.1,h.2.1,h.q.1,h.r.1,h.t.1,h.u.1,h.v.1,h.w.1,h.x.1++d,h.y.1,h.z.1,h.s.1++c,h.p)))))))) (Qa (rx.h12 (M h.s.1:Int) 0 h))
def NU(l:LS)(h i:Int)(z:zn eb):K (rx⊕ac):=
 let a:=ah (z.q.1.1,z.q.1.2.1,z.q.1.q.1,z.q.1.r.1,z.q.1.t.1,zP z.q.1.u) (l.getD i.toNat (zk Q7))
 let x:=[a]
 let b:=[W z.q.1.2.1 (T a) (zk zu)]
 H7 l h i z a x b
def CZ(h i:Int)(z:zn eb)(a:Int):K (rx⊕ac):=br (L (i<h)) (Qd (zT i (M z.s.1)) (Qd (L (i.toNat<M z.s.1)) (Qd (L (0<=0)&&L (0<=i)&&L (i<=a)) (br (rU (Qg (i.toNat-T 0) (Qh (T 0) z.s.1)) (z.s.1.getD i.toNat (zk zi))) (re (I 7) (aE al z)) (Qa (rx.h12b h (Γ Δ (i+1)) z)))))) (re (I 0) (aE al z))
def H6(i h:Int)(z:zn eb):K (rx⊕ac):=
 let a:=(M z.s.1:Int)
 CZ i h z a
def wA(h i:Int)(z:zn eb)(a:Int):K (rx⊕ac):=br (L (i<h)) (Qd (zT i (M z.s.1)) (Qd (L (0<=0)&&L (0<=i)&&L (i<=a)) (br (rU (Qg (i.toNat-T 0) (Qh (T 0) z.s.1)) (z.s.1.getD i.toNat (zk zi))) (re (I 7) (aE al z)) (Qa (rx.h12b h (Γ Δ (i+1)) z))))) (re (I 0) (aE al z))
def CY(i h:Int)(z:zn eb):K (rx⊕ac):=
 let a:=(M z.s.1:Int)
 wA i h z a
def qU:rx->K (rx⊕ac)
 |.h3 l x a z=>NU l x a z
 |.h12 i h z=>H6 i h z
 |.h12b i h z=>CY i h z
def yJ(y:zn bF):Option (zA (Qi Y [zi])×zn al):=ls [zi] al qU 100000000 (zhr y)
def nK(y:zn bF):Bool:=(yJ y).isSome
def jz(y:zn bF):zy×zn al:=(λr:zA (Qi Y [zi])×zn al=>(r.1.1,r.2)) ((yJ y).getD (dL [zi],jH al))
def zkH:zV:=uO bF [] [zi] al (λy _=>nK y) λy _=>(((jz y).1,()),(jz y).2)
theorem zfN:FK 220 zkH:=Ez.B1 (f:=f220) (ps:=bF) (ks:=[]) (outs:=[zi]) (keep:=zoN) (n:=100000000) (e:=zr5) (t:=qU) (i:=λy x=>zhr y)
def zcP:=zcO.add 220 zkH
theorem vF:zm zcP:=Ez.add zfN
abbrev Vz(y:zn bF):zn bF:=(y.1,(y.2.1.1,y.2.1.2.1,y.2.1.q.1,y.2.1.r.1,y.2.1.t.1,y.2.1.u.1,y.2.1.v.1,y.2.1.w.1,zP y.2.1.x.1,y.2.1.y.1,y.2.1.z.1,zP y.2.1.s.1,y.2.1.p),(y.q.1.1,y.q.1.2.1,y.q.1.q.1,y.q.1.r.1,y.q.1.t.1,zP y.q.1.u),(y.r.1.1,y.r.1.2.1,y.r.1.q.1,y.r.1.r.1,y.r.1.t.1,zP y.r.1.u),y.t.1,y.u.1,y.v.1,y.w.1,y.x.1,zP y.y.1,y.z.1,())
abbrev O4(y:zn al):zn al:=(y.1,(y.2.1.1,y.2.1.2.1,y.2.1.q.1,y.2.1.r.1,y.2.1.t.1,y.2.1.u.1,y.2.1.v.1,y.2.1.w.1,zP y.2.1.x.1,y.2.1.y.1,y.2.1.z.1,zP y.2.1.s.1,y.2.1.p),(y.q.1.1,y.q.1.2.1,y.q.1.q.1,y.q.1.r.1,y.q.1.t.1,zP y.q.1.u),(y.r.1.1,y.r.1.2.1,y.r.1.q.1,y.r.1.r.1,y.r.1.t.1,zP y.r.1.u),y.t.1,y.u.1,y.v.1,y.w.1,y.x.1,y.y.1,zP y.z.1,y.s.1,y.p.1,())
abbrev zof:Nat->aR:=λ_=>{ }
def V1(_:zn bF)(b:N zl.sl×zn [CP.d bQ,CP.d zN,CP.d zN,CP.d Q7,CP.d Q7,CP.d Q7,CP.d Q7,CP.nil,CP.d zi,CP.nil,CP.nil,CP.d Q6,CP.nil,CP.d zi])(a:zy×zn al)(h:zy):K (Empty⊕ac):=Qd (nK b) (br (a.1!=0) (re (I a.1) (aE al a.2)) (br (L (h<0)) (re (I 1) (aE al (a.2.1,a.q.1,a.r.1,a.t.1,a.u.1,a.v.1,a.w.1,a.x.1,a.y.1,h,a.s))) (re (I 0) (aE al (a.2.1,a.q.1,a.r.1,a.t.1,a.u.1,a.v.1,a.w.1,a.x.1,a.y.1,h,a.s)))))
def zam(y:zn bF):K (Empty⊕ac):=
 let h:=Vz y
 let a:=jz h
 let x:=jM a.p.1 a.r.1.q.1
 V1 y h a x
def GV(y:zn bF):Option (zA (Qi Y [zi])×zn al):=ls [zi] al t0 100000000 (zam y)
def GU(y:zn bF):Bool:=(GV y).isSome
def Fk(y:zn bF):zy×zn al:=(λr:zA (Qi Y [zi])×zn al=>(r.1.1,r.2)) ((GV y).getD (dL [zi],jH al))
def zj2:zV:=uO bF [] [zi] al (λy _=>GU y) λy _=>(((Fk y).1,()),(Fk y).2)
theorem ze4:FK 164 zj2:=vF.B1 (f:=f164) (keep:=zof) (n:=100000000) (e:=e0) (t:=t0) (i:=λy x=>zam y)
abbrev zoj:Nat->aR:=λ_=>{ }
def V2(_:zn bF)(c:N zl.sl×zn [CP.d bQ,CP.d zN,CP.d zN,CP.d Q7,CP.d Q7,CP.d Q7,CP.d Q7,CP.nil,CP.d zi,CP.nil,CP.nil,CP.d Q6,CP.nil,CP.d zi])(a:zy×zn al)(e _:ci)(h:LC)(b:ci):K (Empty⊕ac):=Qd (nK c) (br (a.1!=0) (re (I a.1) (aE al a.2)) (Qd (zT 1 (M a.y.1)) (Qd (L (T 1<M a.y.1)) (br (e.2.1!=1) (re (I 5) (aE al a.2)) (Qd (zT 0 (M a.y.1)) (Qd (L (T 0<M a.y.1)) (Qd (zT 1 (M h)) (Qd (L (T 1<M h)) (re (I 0) (aE al (a.2.1,a.q.1,a.r.1,a.t.1,a.u.1,a.v.1,a.w.1,a.x.1,h.set (T 1) (b.1,b.2.1,J),a.z)))))))))))
def zaq(y:zn bF):K (Empty⊕ac):=
 let x:=Vz y
 let a:=jz x
 let c:=a.y.1.getD (T 1) (zk zu)
 let h:=a.y.1.getD (T 0) (zk zu)
 let b:=a.y.1.set (T 0) (h.1,h.2.1,Z)
 let d:=b.getD (T 1) (zk zu)
 V2 y x a c h b d
def yI(y:zn bF):Option (zA (Qi Y [zi])×zn al):=ls [zi] al t0 100000000 (zaq y)
def yH(y:zn bF):Bool:=(yI y).isSome
def we(y:zn bF):zy×zn al:=(λr:zA (Qi Y [zi])×zn al=>(r.1.1,r.2)) ((yI y).getD (dL [zi],jH al))
def zj8:zV:=uO bF [] [zi] al (λy _=>yH y) λy _=>(((we y).1,()),(we y).2)
theorem zfa:FK 166 zj8:=vF.B1 (f:=f166) (keep:=zoj) (n:=100000000) (e:=e0) (t:=t0) (i:=λy x=>zaq y)
def zcQ:=zcP.addL [(164,zj2),(166,zj8)]
theorem EA:zm zcQ:=vF.addL<|fc ze4<|fc zfa ip
abbrev zoh:Nat->aR:=λj=>if j=11 then{slots:=[0,83,84,85],prom:=[(0,Y 60,.int .i64)]}else if j=1000000 then{prom:=[(0,Y 50,zu),(0,Y 60,.int .i64)],sett:=[(0,60)]}else{ }
inductive Di where
 |h11 (l83:LC) (i84:Int) (i85:Int) (z0:zn eb)
abbrev zrO:Di->Nat×St
 |.h11 l i h z=>(11,⟨tm 124 [(0,ptr 0 0),(83,O zu l),(84,I i),(85,I h)],[Qb (fD [1,2] eb z),AO.vec zu z.x.1,AO.vec zi z.s.1]⟩)
def J7(y:zn bF)(h:zy)(a:N Q6×da×zy×Unit)(b c:Int):K (Di⊕ac):=br (L (h<0)) (re (I 4) (aE al (y.1,y.2.1,y.q.1,y.r.1,y.t.1,y.u.1,y.v.1,y.w.1,[],y.x.1,a))) (br (!kP y.q.1.t.1 (h,y.v.1)) (re (I 10) (aE al (y.1,y.2.1,y.q.1,y.r.1,y.t.1,y.u.1,y.v.1,y.w.1,[],y.x.1,a))) (br (L (c>8)) (re (I 13) (aE al (y.1,y.2.1,y.q.1,y.r.1,y.t.1,y.u.1,y.v.1,y.w.1,[],y.x.1,a))) (Qd (L (M y.q.1.2.1<=1073741824)) (Qa (Di.h11 y.r.1.2.1 b 0 (y.1,y.2.1,y.q.1,y.r.1,y.t.1,y.u.1,y.v.1,y.w.1,y.q.1.2.1,y.q.1.q.1,a))))))
def J6(y:zn bF):K (Di⊕ac):=
 let a:=ah (y.q.1.1,y.q.1.2.1,y.q.1.q.1,y.q.1.r.1,y.q.1.t.1,zP y.q.1.u) y.2.1.u.1
 let x:=(y.y.1,[],a,())
 let h:=(M y.r.1.2.1:Int)
 let b:=Γ Δ (Γ Δ ((M y.q.1.2.1:Int)+h)-1)
 J7 y a x h b
def CW(l:LC)(a i:Int)(h:zn eb)(b:LC)(c:Int):K (Di⊕ac):=br (L (i<a)) (Qd (zT i (M l)) (br (i !=h.r.1.q.1) (Qd (L (M h.s.1+[i].length<=1073741824)) (Qd (L (M h.x.1+M b<=1073741824)) (Qa (Di.h11 l a c (h.1,h.2.1,h.q.1,h.r.1,h.t.1,h.u.1,h.v.1,h.w.1,h.x.1++b,h.y.1,h.z.1,h.s.1++[i],h.p))))) (Qa (Di.h11 l a c h)))) (re (I 0) (aE al h))
def H2(l:LC)(h i:Int)(z:zn eb):K (Di⊕ac):=
 let a:=[l.getD i.toNat (zk zu)]
 let x:=Γ Δ (i+1)
 CW l h i z a x
def NP:Di->K (Di⊕ac)
 |.h11 l i h z=>H2 l i h z
def BR(y:zn bF):Option (zA (Qi Y [zi])×zn al):=ls [zi] al NP 100000000 (J6 y)
def GW(y:zn bF):Bool:=(BR y).isSome
def Fl(y:zn bF):zy×zn al:=(λr:zA (Qi Y [zi])×zn al=>(r.1.1,r.2)) ((BR y).getD (dL [zi],jH al))
def zj5:zV:=uO bF [] [zi] al (λy _=>GW y) λy _=>(((Fl y).1,()),(Fl y).2)
theorem ze7:FK 165 zj5:=EA.B1 (f:=f165) (keep:=zoh) (n:=100000000) (e:=zrO) (t:=NP) (i:=λy x=>J6 y)
def zcR:=zcQ.add 165 zj5
theorem EB:zm zcR:=EA.add ze7
abbrev mH:R:=agg ([X [],X [],X [],X [],Qc,I 0,Qc,Qc]++zE++[Qc,I 0])
abbrev wl(z:zn al):R:=agg ([X z.t.1,X z.u.1,X z.v.1,X z.w.1,AV.vec 0,I z.y.1,Qc,Qc]++xE z.z.1++[O zi z.s.1,I z.p.1])
abbrev He(z:zn bF):R:=agg ([X z.t.1,X z.u.1,X z.v.1,X z.w.1,Qc,I z.x.1,Qc,Qc]++xE z.y.1++[Qc,I z.z.1])
def Fd(_:N zl.sl)(s:aG)(_:zg)(_:N Q7×N (Sh.str.pr (Sh.str.pr (Sh.str.sl.pr (zu.sl.pr (Sh.str.pr (Sh.str.sl.pr (Lf.sl.pr (Sh.expr.pr (ze.sl.pr (pM.sl.pr (Sh.expr.pr Q7))))))))))))(_ n o p:Bool)(_:N zl.sl×zn [CP.d bQ,CP.d zN,CP.d zN,CP.d Q7,CP.d Q7,CP.d Q7,CP.d Q7,CP.nil,CP.d zi,CP.nil,CP.nil,CP.d Q6,CP.nil,CP.d zi])(q:Bool)(g:zy×zn bF)(j:Bool)(i:N zl.sl×zn [CP.d bQ,CP.d zN,CP.d zN,CP.d Q7,CP.d Q7,CP.d Q7,CP.d Q7,CP.nil,CP.d zi,CP.nil,CP.nil,CP.d Q6,CP.nil,CP.d zi])(a:zy×zn al)(k:N zl.sl×zn [CP.d bQ,CP.d zN,CP.d zN,CP.d Q7,CP.d Q7,CP.d Q7,CP.d Q7,CP.vec zu,CP.d zi,CP.nil,CP.nil,CP.d Q6,CP.d zi.sl,CP.d zi])(b h:zy×zn al)(l:N zl.sl×zn [CP.d bQ,CP.d zN,CP.d zN,CP.d Q7,CP.d Q7,CP.d Q7,CP.d Q7,CP.vec zu,CP.d zi,CP.nil,CP.nil,CP.d Q6,CP.d zi.sl,CP.d zi])(c x:zy×zn al)(m:N zl.sl×zn [CP.d bQ,CP.d zN,CP.d zN,CP.d Q7,CP.d Q7,CP.d Q7,CP.d Q7,CP.vec zu,CP.d zi,CP.nil,CP.nil,CP.d Q6,CP.d zi.sl,CP.d zi])(e:zy×zn al):K (Empty⊕ac):=
 Qd Z (Qd Z (Qd Z (br (s.1==eR) (Qd n (br o (re (tup [mH,I 1]) []) (Qd p (Qd q (br j (Qd (GU i) (br (a.1==0) (Qd (gw k) (br (b.1!=0) (re (tup [mH,I b.1]) []) (re (tup [(wl b.2),I 0]) [AO.vec zu b.y.1]))) (br (a.1!=0) (re (tup [mH,I a.1]) []) (re (tup [(wl a.2),I 0]) [AO.vec zu a.y.1])))) (br j Tr.err (br (g.1!=0) (re (tup [mH,I g.1]) []) (re (tup [(He g.2),I 0]) [])))))))) (br (s.1==iK) (Qd n (br o (re (tup [mH,I 1]) []) (Qd p (Qd q (br j (Qd (GW i) (br (h.1==0) (Qd (gw l) (br (c.1!=0) (re (tup [mH,I c.1]) []) (re (tup [(wl c.2),I 0]) [AO.vec zu c.y.1]))) (br (h.1!=0) (re (tup [mH,I h.1]) []) (re (tup [(wl h.2),I 0]) [AO.vec zu h.y.1])))) (br j Tr.err (br (g.1!=0) (re (tup [mH,I g.1]) []) (re (tup [(He g.2),I 0]) [])))))))) (br (s.1==yu) (Qd n (br o (re (tup [mH,I 1]) []) (Qd p (Qd q (br j (Qd (yH i) (br (x.1==0) (Qd (gw m) (br (e.1!=0) (re (tup [mH,I e.1]) []) (re (tup [(wl e.2),I 0]) [AO.vec zu e.y.1]))) (br (x.1!=0) (re (tup [mH,I x.1]) []) (re (tup [(wl x.2),I 0]) [AO.vec zu x.y.1])))) (br j Tr.err (br (g.1!=0) (re (tup [mH,I g.1]) []) (re (tup [(He g.2),I 0]) [])))))))) (re (tup [mH,I 1]) []))))))
def zhg(l:N zl.sl)(h:aG):K (Empty⊕ac):=
 let j:=zP h.x.1
 let k:=(h.1,h.2.1,h.q.1,h.r.1,h.t.1,h.u.1,h.v.1,h.w.1,j,h.y.1,h.z.1,zP h.s.1,h.p)
 let A:=!gA k
 let E:=lh k&&bif A then Z else jS l
 let F:=bif A then Z else fI l !=0
 let G:=oI 16 j
 let C:=(l,k,([],[],0,[],[],zg.mk [] (0,0,[]) [] []),([],[],0,[],[],zg.mk [] (0,0,[]) [] []),h.1,h.q.1,h.p,h.2.1,0,j,0,())
 let H:=mD C
 let D:=mC C
 let P:=D.1==0
 let a:=Vz D.2
 let b:=Fk a
 let c:=O4 b.2
 let m:=fA c
 let d:=Fl a
 let e:=O4 d.2
 let n:=fA e
 let g:=we a
 let i:=O4 g.2
 let o:=fA i
 Fd l h j k A E F G C H D P a b c m d e n g i o
def G8(x:N zl.sl)(h:aG):=aA [ao,zi] t0 100000000 (zhg x h)
def Xs(x:N zl.sl)(h:aG):=(G8 x h).isSome
def pOf(x:N zl.sl)(h:aG):=o2 (G8 x h)
def zjq:=FT [zl.sl,bQ] [ao,zi] λx=>G8 x.1 x.2.1
theorem zep:FK 118 zjq:=EB.T1 (f:=f118) (keep:=k0) (e:=e0)
def zcS:=zcR.add 118 zjq
theorem RH:zm zcS:=EB.add zep
abbrev ZN:List CP:=[.d (.sl zW),.d zi,.d .bool]
def zdy(x:N (Sh.int IntKind.u8)):K (Empty⊕ac):=
 let a:=bif L (97<=x)then L (x<=122)else J
 re (AV.bool (cond (L (65<=x)) (cond (L (x<=90)) Z a) a)) []
def qw(x:N (Sh.int IntKind.u8)):=aA [Q8] t0 100000000 (zdy x)
def mJ(x:N (Sh.int IntKind.u8)):=(qw x).isSome
def pJ(x:N (Sh.int IntKind.u8)):=o1 (qw x)
def znC(x:N (Sh.int IntKind.u8)):K (Empty⊕ac):=
 re (AV.bool (cond (L (48<=x)) (L (x<=57)) J)) []
def Cu(x:N (Sh.int IntKind.u8)):=aA [Q8] t0 100000000 (znC x)
def kW(x:N (Sh.int IntKind.u8)):=(Cu x).isSome
def lP(x:N (Sh.int IntKind.u8)):=o1 (Cu x)
inductive zv9 where
 |h2 (l0:LS) (s1:TS) (i5:Int)
def OU:=zcS
theorem EE:zm OU:=RH
inductive DO where
 |h2 (i3:Int) (z0:zn [CP.d Q])
def zdu(x:zw):K (DO⊕ac):=
 Qa (DO.h2 0 (x,()))
def rq:DO->K (DO⊕ac)
 | .h2 i z=>
  let x:=(M z.1.q:Int)
  let b:=zT i (M z.1.q)
  let c:=(↑(W z.1.q i.toNat 0).toNat:Int)
  let d:=L (c<32)
  let h:=z.1.2.1==0
  let a:=z.1.q==[]
  br (L (i<x))
  (Qd (b&&bif d then Z else b)
   (br (cond d Z (L (c>126))) (re (kb J) []) (Qa (DO.h2 (Γ Δ (i+1)) z))))
  (br (z.1.1==0) (re (AV.bool (cond h a J)) [])
   (br (z.1.1==1) (re (AV.bool a) []) (br (z.1.1==2) (re (AV.bool (cond h (L (x<=40)) J)) []) (br (z.1.1==3) (re (AV.bool (cond h a (cond (z.1.2.1==1) a J))) []) (re (kb J) [])))))
def Nq(x:zw):=aA [Q8] rq 100000000 (zdu x)
def Hg(x:zw):=(Nq x).isSome
def PW(x:zw):=o1 (Nq x)
inductive zvY where
 |h2 (l0:LC) (s1:TS) (i5:Int)
def zcB(g:N Q6->N Q6->N Q8)(c:N Q6->N Q6->Bool):bS:=OU.add 90 (ae [Q6,Q6] [Q8] (λx=>c x.1 x.2.1) λx=>(g x.1 x.2.1,()))
theorem RB{g:N Q6->N Q6->N Q8}{c:N Q6->N Q6->Bool}(h:FK 90 (ae [Q6,Q6] [Q8] (λx=>c x.1 x.2.1) λx=>(g x.1 x.2.1,()))):zm (zcB g c):=EE.add h
abbrev zoY:Nat->aR:=λj=>if j=4 then{slots:=[2,3,5]}else{ }
inductive IK where
 |h4 (i5:Int) (z0:zn [CP.d Q6]) (z1:zn [CP.d Q6])
abbrev zsc:IK->Nat×St
 |.h4 i z h=>(4,⟨tm 53 [(2,ptr 0 0),(3,ptr 1 0),(5,I i)],[Qb (fD [] [CP.d Q6] z),Qb (fD [] [CP.d Q6] h)]⟩)
def V5(_:N Q6->N Q6->N Q8)(_:N Q6->N Q6->Bool)(x h:N Q6):K (IK⊕ac):=
 br
 (bif !zg.op x==zg.op h then Z
 else
  bif !((zg.v x).1==(zg.v h).1&&((zg.v x).2.1==(zg.v h).2.1&&((zg.v x).q==(zg.v h).q&&Z)))then Z
  else bif !zg.s x==zg.s h then Z else(↑(zg.l x).length:Int)!=(↑(zg.l h).length:Int))
 (re (kb J) []) (Qa (IK.h4 0 (x,()) (h,())))
def H9(g:N Q6->N Q6->N Q8)(c:N Q6->N Q6->Bool)(i:Int)(z x:zn [CP.d Q6])(b:Int)(a h:zg):K (IK⊕ac):=
 br (L (i<b))
 (Qd (zT i (zg.l z.1).length)
  (Qd (zT i (zg.l x.1).length) (Qd (c a h) (br (!g a h) (re (kb J) []) (Qa (IK.h4 (Γ Δ (i+1)) z x))))))
 (re (kb Z) [])
def NW(g:N Q6->N Q6->N Q8)(c:N Q6->N Q6->Bool)(i:Int)(z h:zn [CP.d Q6]):K (IK⊕ac):=
 let a:=(↑(zg.l z.1).length:Int)
 let x:=zP ((zg.l z.1).getD i.toNat (zk Q6))
 let b:=zP ((zg.l h.1).getD i.toNat (zk Q6))
 H9 g c i z h a x b
def NV(g:N Q6->N Q6->N Q8)(c:N Q6->N Q6->Bool):IK->K (IK⊕ac)
 |.h4 i z h=>NW g c i z h
def gH(o:Option (zA (Qi Y [Q8]))):N Q8:=(λr:zA (Qi Y [Q8])=>r.1) (o.getD (dL [Q8]))
def PY(g:N Q6->N Q6->N Q8)(c:N Q6->N Q6->Bool)(x h:N Q6):Option (zA (Qi Y [Q8])):=aA [Q8] (NV g c) 3000000000 (V5 g c x h)
def cf:Nat->N Q6->N Q6->Option (zA (Qi Y [Q8]))
 |0=>λ_ _=>none
 |n+1=>PY (λx h=>gH (cf n x h)) λx h=>(cf n x h).isSome
theorem zhA:zJ OU.P 90 f90 2:=bG kw
theorem Om:∀n,FK 90 (ae [Q6,Q6] [Q8] (λx=>(cf n x.1 x.2.1).isSome) λx=>(gH (cf n x.1 x.2.1),()))
 |0=>kz ⟨f90,zhA.1,zhA.2.1,zhA.q.1⟩ (λ_=>rfl)
 |n+1=>(RB (Om n)).TT (f:=f90) (E:=zcB (λh a=>gH (cf n h a)) (λh a=>(cf n h a).isSome)) (ks:=[Q6,Q6]) (outs:=[Q8]) (keep:=zoY) (n:=3000000000) (e:=zsc) (t:=NV (λh a=>gH (cf n h a)) (λh a=>(cf n h a).isSome)) (i:=λx=>V5 (λh a=>gH (cf n h a)) (λh a=>(cf n h a).isSome) x.1 x.2.1)
def Hl(x h:N Q6):Option (zA (Qi Y [Q8])):=cf 16 x h
def yO(x h:N Q6):Bool:=(Hl x h).isSome
def r8(x h:N Q6):N Q8:=gH (Hl x h)
def zkV:zV:=ae [Q6,Q6] [Q8] (λx=>yO x.1 x.2.1) λx=>(r8 x.1 x.2.1,())
theorem zf0:FK 90 zkV:=Om 16
inductive zvB where
 |h3 (i3:Int) (i4:Int) (z0:zn [CP.d Q6])
def UI:=OU.addL [(90,zkV)]
theorem Ml:zm UI:=EE.addL<|fc zf0<|ip
def zdz(x:N (Sh.int IntKind.u8)):K (Empty⊕ac):=
 Qd (kW x&&bif lP x then Z else mJ x) (re (AV.bool (cond (lP x) Z (cond (pJ x) Z (x==95)))) [])
def yS(x:N (Sh.int IntKind.u8)):=aA [Q8] t0 100000000 (zdz x)
def yR(x:N (Sh.int IntKind.u8)):=(yS x).isSome
def Hw(x:N (Sh.int IntKind.u8)):=o1 (yS x)
inductive zvA where
 |h3 (s0:TS) (l3:LS) (i4:Int)
inductive zv8 where
 |h6 (i5:Int) (z0:zn LD) (z1:zn LD)
 |h11 (i6:Int) (z0:zn LD) (z1:zn LD)
 |h16 (i7:Int) (z0:zn LD) (z1:zn LD)
 |h21 (i8:Int) (z0:zn LD) (z1:zn LD)
 |h26 (i9:Int) (z0:zn LD) (z1:zn LD)
 |h31 (i10:Int) (z0:zn LD) (z1:zn LD)
def zcV:=UI
theorem RI:zm zcV:=Ml
inductive Iu where
 |h2 (s0:TS) (i3:Int)
def zdx(x:TS):K (Iu⊕ac):=
 Qa (Iu.h2 x 0)
def up:Iu->K (Iu⊕ac)
 | .h2 s i=>
  let a:=(↑(W s i.toNat 0).toNat:Int)
  let h:=L (1<=(M s:Int))
  let x:=L ((M s:Int)<=16)
  let b:=(↑(W s (T 0) 0).toNat:Int)
  br (L (i<(M s:Int)))
  (Qd (zT i (M s)) (Qd (yR a) (br (!Hw a) (re (kb J) []) (Qa (Iu.h2 s (Γ Δ (i+1)))))))
  (Qd (cond h (cond x (zT 0 (M s)&&mJ b) Z) Z)
   (re (AV.bool (cond h (cond x (pJ b) J) J)) []))
def Hv(x:TS):=aA [Q8] up 100000000 (zdx x)
def Hu(x:TS):=(Hv x).isSome
def Nv(x:TS):=o1 (Hv x)
def zcW:=zcV
theorem RJ:zm zcW:=RI
inductive zwa where
 |h5 (l1:LC) (i6:Int) (z0:zn [CP.d Q6])
def UJ:=zcW
theorem Mm:zm UJ:=RJ
def UK:=UJ
theorem Mn:zm UK:=Mm
inductive Iw where
 |h2 (i0:zy) (s3:List UInt8)
def znF(x:zy):K (Iw⊕ac):=
 Qa (Iw.h2 x [])
def CT:Iw->K (Iw⊕ac)
 | .h2 i s=>
  let a:=aL [IntKind.u8.wrap (Γ Δ (48-Γ Δ (Int.tmod i 10)))]
  br (cond (L (i<0)) Z (s==[]))
  (Qd Z (Qd (L (M a+M s<=1099511627776)) (Qd Z (Qa (Iw.h2 (Γ Δ (Int.tdiv i 10)) (a++s))))))
  (re (X s) [])
def wm(x:zy):=aA [Q7] CT 100000000 (znF x)
def kq(x:zy):=(wm x).isSome
def kV(x:zy):=o1 (wm x)
def UQ:=UK
theorem Ms:zm UQ:=Mn
inductive DS where
 |h13 (s3:List UInt8) (i4:Int) (z0:zn [CP.d Q])
def xu(x:zw):K (DS⊕ac):=
 let a:=Γ Δ (0-x.2.1)
 Qd (Hg x)
 (br (!PW x) (re (X []) [])
  (br (x.1==0) (re (X L6) []) (br (x.1==1) (br (L (x.2.1<0)) (Qd (kq x.2.1) (Qd (L ([45].length+M (kV x.2.1)<=1099511627776)) (re (X ([45]++kV x.2.1)) []))) (Qd (kq a) (re (X (kV a)) []))) (br (x.1==2) (Qa (DS.h13 [39] 0 (x,())))
  (br (x.2.1==1) (re (X I3) []) (re (X I2) []))))))
def uo:DS->K (DS⊕ac)
 | .h13 s i z=>
  let x:=(M z.1.q:Int)
  let a:=Γ Δ (i+1)
  let b:=Qg (a.toNat-i.toNat) (Qh i.toNat z.1.q)
  let h:=s++b
  br (L (i<x))
  (Qd (L (0<=i)&&L (i<=a)&&L (a<=x))
   (Qd (L (M s+M b<=1099511627776)) (Qd (zT i (M z.1.q)) (br ((↑(W z.1.q i.toNat 0).toNat:Int)==39) (Qd (L (M h+[39].length<=1099511627776)) (Qa (DS.h13 (h++[39]) a z))) (Qa (DS.h13 h a z))))))
  (Qd (L (M s+[39].length<=1099511627776)) (re (X (s++[39])) []))
def Hi(x:zw):=aA [Q7] uo 100000000 (xu x)
def yM(x:zw):=(Hi x).isSome
def Hh(x:zw):=o1 (Hi x)
def UU:=UQ
theorem Mw:zm UU:=Ms
def rl(g:N Q6->N Q7)(c:N Q6->Bool)(x:N Q6):K (Empty⊕ac):=
 let b:=zT 0 (zg.l x).length
 let y:=zP ((zg.l x).getD (T 0) (zk Q6))
 let p:=c y
 let q:=g y
 let z:=sI++q
 let t:=L ([40].length+M q<=1099511627776)
 let h:=[40]++q
 let u:=zT 1 (zg.l x).length
 let A:=zP ((zg.l x).getD (T 1) (zk Q6))
 let w:=c A
 let d:=h++L4
 let a:=g A
 let e:=d++a
 let i:=h++L5
 let j:=i++a
 let k:=h++[32]
 let m:=k++zg.op x
 let n:=m++[32]
 let o:=n++a
 br (zg.op x==sJ) (Qd (yM (zg.v x)) (re (X (Hh (zg.v x))) []))
 (br (zg.op x==ic) (re (X (zg.s x)) [])
  (br (zg.op x==sK) (Qd b (Qd p (Qd (L (M sI+M q<=1099511627776)) (Qd (L (M z+[41].length<=1099511627776)) (re (X (z++[41])) []))))) (br (zg.op x==xY) (Qd b (Qd p (Qd t
  (Qd (L (M h+M xX<=1099511627776)) (re (X (h++xX)) []))))) (br (zg.op x==lq) (Qd b (Qd p (Qd t (Qd (L (M h+M L4<=1099511627776)) (Qd u (Qd w
  (Qd (L (M d+M a<=1099511627776)) (Qd (L (M e+[41].length<=1099511627776)) (re (X (e++[41])) []))))))))) (br (zg.op x==Dg) (Qd b (Qd p (Qd t (Qd (L (M h+M L5<=1099511627776)) (Qd u (Qd w
  (Qd (L (M i+M a<=1099511627776)) (Qd (L (M j+[41].length<=1099511627776)) (re (X (j++[41])) []))))))))) (Qd b (Qd p (Qd t (Qd (L (M h+[32].length<=1099511627776)) (Qd (L (M k+M (zg.op x)<=1099511627776))
  (Qd (L (M m+[32].length<=1099511627776)) (Qd u (Qd w (Qd (L (M n+M a<=1099511627776)) (Qd (L (M o+[41].length<=1099511627776)) (re (X (o++[41])) []))))))))))))))))
def lO(o:Option (zA (Qi Y [Q7]))):N Q7:=(λr:zA (Qi Y [Q7])=>r.1) (o.getD (dL [Q7]))
def P0(g:N Q6->N Q7)(c:N Q6->Bool)(x:N Q6):Option (zA (Qi Y [Q7])):=aA [Q7] t0 100000000 (rl g c x)
def ei:Nat->N Q6->Option (zA (Qi Y [Q7]))
 |0=>λ_=>none
 |n+1=>P0 (λx=>lO (ei n x)) λx=>(ei n x).isSome
def Hm(x:N Q6):Option (zA (Qi Y [Q7])):=ei 16 x
def PZ(x:N Q6):Bool:=(Hm x).isSome
def XI(x:N Q6):N Q7:=lO (Hm x)
def UV:=UU
theorem Mx:zm UV:=Mw
inductive zvE where
 |h3 (s0:N Q7) (l4:zo) (i5:Int) (z0:zn [CP.d Q])
 |h10 (s0:N Q7) (i7:Int) (z0:zn [CP.d Q]) (z1:zn [CP.d Q])
 |h18 (s0:N Q7) (i8:Int) (z0:zn [CP.d Q]) (z1:zn [CP.d Q])
inductive zvD where
 |h1 (s0:N Q7) (s1:N Q7) (z0:zn [CP.d Q])
inductive zvC where
 |h22 (l0:eu) (i2:zy) (i16:zy) (z1:zn [CP.d Q6]) (ja0:List UInt8) (ja1:Int) (ja2:Int) (ja3:List UInt8) (ja4:List UInt8)
inductive Iv where
 |h6 (i3:Int) (z0:zn [CP.d zW])
def J5(x:bV):K (Iv⊕ac):=
 let a:=(2,0,x.2)
 br (x.1==1) (Qd (Hu x.2) (re (AV.bool (Nv x.2)) []))
 (br (x.1==2) (Qa (Iv.h6 0 (x,())))
  (br (x.1==3) (Qd (Hg a) (re (AV.bool (PW a)) [])) (br (x.1==4) (re (AV.bool (cond (x.2==[40]) Z (cond (x.2==[41]) Z (cond (x.2==[44]) Z (cond (x.2==[61]) Z (cond (x.2==[60]) Z (cond (x.2==[43]) Z (cond (x.2==[45]) Z (x.2==[42]))))))))) []) (re (kb J) []))))
def ut:Iv->K (Iv⊕ac)
 | .h6 i z=>
  let a:=(M z.1.2:Int)
  let h:=(↑(W z.1.2 i.toNat 0).toNat:Int)
  br (L (i<a))
  (Qd (zT i (M z.1.2))
   (Qd (kW h) (br (!lP h) (re (kb J) []) (Qa (Iv.h6 (Γ Δ (i+1)) z)))))
  (re (AV.bool (cond (L (1<=a)) (L (a<=19)) J)) [])
def Nu(x:bV):=aA [Q8] ut 100000000 (J5 x)
def pI(x:bV):=(Nu x).isSome
def xI(x:bV):=o1 (Nu x)
def zcX:=UV
theorem RK:zm zcX:=Mx
inductive lp where
 |h3 (s0:TS) (i5:Int) (lh_0:LF)
 |h11 (s0:TS) (i5:Int) (i6:Int) (i7:Int) (z1:zn [CP.d zW]) (lh_0:LF)
 |h15 (s0:TS) (i5:Int) (i6:Int) (i7:Int) (z1:zn [CP.d zW]) (lh_0:LF)
 |h20 (s0:TS) (i5:Int) (z1:zn [CP.d zW]) (lh_0:LF)
def DI:lp->K (lp⊕ac)
 | .h3 s i l=>
  let h:=(↑(W s i.toNat 0).toNat:Int)
  let x:=Γ Δ (i+1)
  let b:=Qg (x.toNat-i.toNat) (Qh i.toNat s)
  let a:=((4,b),())
  let d:=(4,b)
  let g:=[d]
  br (L (i<(M s:Int)))
  (Qd (zT i (M s)) (br (cond (h==32) Z (h==10)) (Qa (lp.h3 s x l)) (Qd (L (0<=i)&&L (i<=x)&&L (x<=(M s:Int))) (Qd (mJ h) (br (pJ h) (Qa (lp.h11 s x h i a l)) (Qd (kW h) (br (lP h) (Qa (lp.h15 s x h i a l))
  (br (h==39) (Qa (lp.h20 s x ((3,[]),()) l)) (Qd (pI d) (br (!xI d) (re (tup [Qc,kb J]) []) (Qd (L (M l+M g<=1073741824)) (Qa (lp.h3 s x (l++g))))))))))))))
  (re (tup [AV.vec 0,AV.bool (L ((M l:Int)<=400))]) [AO.vec zW l])
 | .h11 s i e c z l=>
  let h:=L (i<(M s:Int))
  let x:=(↑(W s i.toNat 0).toNat:Int)
  let b:=Qg (i.toNat-c.toNat) (Qh c.toNat s)
  let a:=(1,b)
  let d:=[a]
  Qd (cond h (zT i (M s)&&yR x) Z)
  (br (cond h (Hw x) J) (Qa (lp.h11 s (Γ Δ (i+1)) e c z l)) (Qd (L (0<=c)&&L (c<=i)&&L (i<=(M s:Int))) (Qd (kW e) (br (lP e) (Qa (lp.h15 s i e c ((1,b),()) l)) (br (e==39) (Qa (lp.h20 s i ((3,[]),()) l)) (Qd (pI a)
  (br (!xI a) (re (tup [Qc,kb J]) []) (Qd (L (M l+M d<=1073741824)) (Qa (lp.h3 s i (l++d)))))))))))
 | .h15 s i e c z l=>
  let h:=L (i<(M s:Int))
  let x:=(↑(W s i.toNat 0).toNat:Int)
  let b:=(2,Qg (i.toNat-c.toNat) (Qh c.toNat s))
  let a:=[b]
  Qd (cond h (zT i (M s)&&kW x) Z)
  (br (cond h (lP x) J) (Qa (lp.h15 s (Γ Δ (i+1)) e c z l)) (Qd (L (0<=c)&&L (c<=i)&&L (i<=(M s:Int))) (br (e==39) (Qa (lp.h20 s i ((3,[]),()) l)) (Qd (pI b) (br (!xI b) (re (tup [Qc,kb J]) [])
  (Qd (L (M l+M a<=1073741824)) (Qa (lp.h3 s i (l++a)))))))))
 | .h20 s i z l=>
  let h:=L (i<(M s:Int))
  let x:=(↑(W s i.toNat 0).toNat:Int)
  let b:=x !=39
  let a:=Γ Δ (i+1)
  let d:=L (a<(M s:Int))
  let g:=Qg (a.toNat-i.toNat) (Qh i.toNat s)
  let j:=((z.1.1,z.1.2++g),())
  Qd (cond h (zT i (M s)&&bif b then Z else bif d then zT a (M s)else Z) Z)
  (br (cond h (cond b Z (cond d ((↑(W s a.toNat 0).toNat:Int)==39) J)) J) (Qd (L (0<=i)&&L (i<=a)&&L (a<=(M s:Int))) (Qd (L (M z.1.2+M g<=1099511627776))
  (Qd (zT i (M s)) (br (x==39) (Qa (lp.h20 s (Γ Δ (a+1)) j l)) (Qa (lp.h20 s a j l)))))) (br (L (i>=(M s:Int))) (re (tup [Qc,kb J]) []) (Qd (pI z.1) (br (!xI z.1) (re (tup [Qc,kb J]) [])
  (Qd (L (M l+[z.1].length<=1073741824)) (Qa (lp.h3 s a (l++[z.1]))))))))
inductive zvz where
 |h3 (l0:LS) (s4:List UInt8) (i5:Int)
def zcY:=zcX
theorem RL:zm zcY:=RK
end
end Cad
