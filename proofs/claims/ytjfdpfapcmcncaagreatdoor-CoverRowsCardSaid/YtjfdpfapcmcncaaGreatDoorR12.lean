/- Bases. -/
import Derived.Test.YtjfdpfapcmcncaaGreatDoorR11
namespace Cad
open Go Go.Proofs
open List renaming length→Io,map→Qi
open IntKind renaming wrap→Γ,i64→Δ
open AV renaming ptr→Qf
open Tr renaming chk→Qc,«to»→Q9
open AO renaming box→Qa
open Sh renaming bool→Q7,str→Q6,expr→Q5
open Bool renaming false→Q4,true→Q3
open Option renaming none→Q2,some→Q1
open Decidable renaming decide→Q0
open Int (toNat)
open List (getD)
open Tr (chk br re)
open AV (nils agg tup ptr kb str sl)
noncomputable section
set_option maxHeartbeats 4000000
def zkJ:zZ:=bp (List.replicate 2 Q2) (fA pd Tryz.f203 (List.replicate 2 Q2))
theorem zgn:FK 203 zkJ:=ch _ jn (bU kw)
abbrev znF:Nat->aN:=λ_=>{ }
theorem zeg:zO (pd).P 40 Tryz.f40 1:=bU kw
theorem zmD(h:TS):rn pd 0 znF Tryz.f40 [zC Q6 h] []=br (Q0 ((↑(Io h):Int)>20)) (Qc (Q0 (0<=0)&&Q0 (0<=20)&&Q0 (20<=(↑(Io h):Int))) (Tr.ok (zG.ret (str (List.take (toNat 20-toNat 0) (List.drop (toNat 0) h))) []))) (Tr.ok (zG.ret (str h) [])):=kw
def di(h:TS):Sem Q6:=(ite (Q0 ((↑(Io h):Int)>20)=Q3) (List.take (toNat 20-toNat 0) (List.drop (toNat 0) h)) h)
def fB(h:TS):Bool:=(ite (Q0 ((↑(Io h):Int)>20)=Q3) (ite ((Q0 (0<=0)&&Q0 (0<=20)&&Q0 (20<=(↑(Io h):Int)))=Q3) Q3 Q4) Q3)
def zjC:zZ:=zT [Q6] [Q6] (λx=>fB x.1) λx=>(di x.1,())
theorem zfa:FK 40 zjC:=by
 refine aM (zeg) λx o C u=>?_
 unfold fB at o;refine zK jn (zeg) (λid _=>u id) (zmD x.1) ?_;generalize h:di x.1=y;unfold di at h
 try simp only[zf.eta]
 repeat' (first|with_reducible refine vK h o (λ_ h o=>?_) (λ_ h o=>?_)|with_reducible refine du h (λ_ h=>?_) (λ_ h=>?_)|with_reducible refine iH o (λo=>?_)|with_reducible refine zP ?_)
 all_goals first|(cases o;done)|(subst h;first|rfl)
abbrev zhV:Nat->aN:=λ_=>{ }
theorem WW:zO (pd).P 126 Tryz.f126 3:=bU kw
theorem zhh(o:Sem ze.sl)(h:Sem zg)(u:Sem ze):rn pd 0 zhV Tryz.f126 [zC ze.sl o,zC zg h,zC ze u] []=Qc (cond (Q0 (h>=0)) (cond (Q0 (h<(↑(Io o):Int))) (zJ h (Io o)) Q3) Q3) (Tr.ok (zG.ret (AV.bool (cond (Q0 (h>=0)) (cond (Q0 (h<(↑(Io o):Int))) ((getD o (toNat h) (zi ze)).1==u.1&&((getD o (toNat h) (zi ze)).2.1==u.2.1&&((getD o (toNat h) (zi ze)).2.2==u.2.2&&Q3))) Q4) Q4)) [])):=kw
def bf(o:Sem ze.sl)(h:Sem zg)(u:Sem ze):Sem Q7:=(cond (Q0 (h>=0)) (cond (Q0 (h<(↑(Io o):Int))) ((getD o (toNat h) (zi ze)).1==u.1&&((getD o (toNat h) (zi ze)).2.1==u.2.1&&((getD o (toNat h) (zi ze)).2.2==u.2.2&&Q3))) Q4) Q4)
def BS(o:Sem ze.sl)(h:Sem zg)(_:Sem ze):Bool:=(ite ((cond (Q0 (h>=0)) (cond (Q0 (h<(↑(Io o):Int))) (zJ h (Io o)) Q3) Q3)=Q3) Q3 Q4)
def zcK:zZ:=zT [ze.sl,zg,ze] [Q7] (λx=>BS x.1 x.2.1 x.2.2.1) λx=>(bf x.1 x.2.1 x.2.2.1,())
theorem Pj:FK 126 zcK:=by
 refine aM (WW) λx o C u=>?_
 unfold BS at o;refine zK jn (WW) (λid _=>u id) (zhh x.1 x.2.1 x.2.2.1) ?_;generalize h:bf x.1 x.2.1 x.2.2.1=y;unfold bf at h
 try simp only[zf.eta]
 repeat' (first|with_reducible refine vK h o (λ_ h o=>?_) (λ_ h o=>?_)|with_reducible refine du h (λ_ h=>?_) (λ_ h=>?_)|with_reducible refine iH o (λo=>?_)|with_reducible refine zP ?_)
 all_goals first|(cases o;done)|(subst h;first|rfl)
abbrev zd2:Nat->aN:=λj=>if j=2 then{slots:=[0,1,5]}else{ }
abbrev EJ(o:List (Sem zh))(u:TS)(h:Int):St:={tmps:=(tm 21 [(0,sl zh o),(1,str u),(5,ai h)]),heap:=[]}
theorem Qn:zO (pd).P 47 Tryz.f47 2:=bU kw
theorem zmB(h:Sem zh.sl)(o:TS):rn pd 0 zd2 Tryz.f47 [zC zh.sl h,zC Q6 o] []=Tr.ok (zG.head 2 (aj Tryz.f47 2) (EJ h o 0)):=kw
theorem Qr(o:List (Sem zh))(u:TS)(h:Int):rh pd 0 zd2 Tryz.f47 2 (EJ o u h)=br (Q0 (h<(↑o.length:Int))) (Qc (zJ h (Io o)) (br ((o.getD h.toNat (zi zh)).1.1==u) (Tr.ok (zG.ret (ai h) [])) (Tr.ok (zG.head 2 (aj Tryz.f47 2) (EJ o u (Γ Δ (h+1))))))) (Tr.ok (zG.ret (ai (-1)) [])):=kw
def gH(o:TS):List
 (Sem zh)->Int->Sem zg
 |[],_=>(-1)
 |x::r,h=>(ite ((x.1.1==o)=Q3) h (gH o r (h+1)))
theorem ZQ{C:ff}(F:∀id,C.ρ0 id=Q2)(E:TS)(z:List
 (Sem zh)) (J:Io z<=aG):∀(m i:Nat),Io z-i=m->i<=Io z->
  Reach (pd) C 47 (aj Tryz.f47 2) (EJ z E (i:Int)) (λr h=>aI h [zg] r=Q1 (gH E (z.drop i) i,())):=by
 intro m
 induction m with
 | zero=>
  intro i H G;obtain rfl:i=Io z:=by omega
  rw[jK];refine zK jn (Qn) (λid _=>F id) (Qr _ _ _) ?_;generalize o:gH E [] _=y;rw[gH]at o;simp only[zB,Tr.val_brF];repeat' (first|with_reducible refine du o (λ_ o=>?_) (λ_ o=>?_)|with_reducible refine zP ?_)
  all_goals first|(cases hc;done)|(subst o;first|rfl)
 | succ m I=>
  intro i H G;have u:i<Io z:=by omega
  have I:=I (i+1);have B:((i:Int)+1)=((i+1:Nat):Int):=by omega
  have D:=zr i ow;rw[fj u];refine zK jn (Qn) (λid _=>F id) (Qr _ _ _) ?_;generalize o:gH E (z[i]::z.drop (i+1)) (i:Int)=y;rw[gH]at o;simp only[zF u,zt u,cM z _ u,D,Tr.val_brT,Tr.val_chkT];clear D
  try simp only[zt u]at o
  simp only[B]at o;repeat' (first|with_reducible refine du o (λ_ o=>?_) (λ_ o=>?_)|with_reducible refine zP ?_)
  all_goals first|(cases hc;done)|(subst o;first|(change Reach _ _ _ _ _ _;apply I<;>first|omega|assumption)|rfl)
theorem Ub{C:ff}(z:∀id,C.ρ0 id=Q2)(u:TS)(o:List
 (Sem zh)):
  Reach (pd) C 47 (aj Tryz.f47 2) (EJ o u 0) (λr h=>aI h [zg] r=Q1 (gH u o 0,())):=
 Reach.len 0 zh o rfl λB=>ZQ z u o B _ 0 rfl (aO _)
def lK(h:Sem zh.sl)(o:TS):Sem zg:=(gH o h 0)
def zjm:zZ:=aH [zh.sl,Q6] [zg] λx=>(lK x.1 x.2.1,())
theorem zeT:FK 47 zjm:=by
 refine ag (Qn) λx C o=>?_
 refine zK jn (Qn) (λid _=>o id) (zmB x.1 x.2.1) ?_;generalize h:lK x.1 x.2.1=y;unfold lK at h
 try simp only[zf.eta]
 repeat' (first|with_reducible refine du h (λ_ h=>?_) (λ_ h=>?_)|with_reducible refine zP ?_)
 all_goals first|(cases hc;done)|(subst h;first|(change Reach _ _ _ _ _ _;apply Ub o<;>first|assumption|exact hc)|rfl)
def sY:=pd.addL [(203,zkJ),(40,zjC),(126,zcK),(47,zjm)]
theorem kN:zw sY:=jn.addL<|fc zgn<|fc zfa<|fc Pj<|fc zeT iz
theorem JD(x:Sem (Sh.sl ze))(c:Int)(v:Sem ze):BS x c v=Q3:=by
 unfold BS;by_cases h:(c:Int)>=0
 ·by_cases o:c<(Io x:Int)
  ·have u:zJ c (Io x)=Q3:=by simp[zJ];exact⟨h,o⟩
   simp[zx h,zx o,u]
  ·simp[zx h,aq o]
 ·simp[aq h]
def zcL:zZ:=aH [Sh.sl ze,zg,ze] [Q7] λx=>(bf x.1 x.2.1 x.2.2.1,())
theorem Zt:FK 126 zcL:=nQ Pj λx=>JD x.1 x.2.1 x.2.2.1
abbrev zd3:Nat->aN:=λj=>if j=3 then{slots:=[0,3,4],prom:=[(3,Q2,.str)]}else{ }
abbrev EK(u:LS)(o:Int)(h:LS):St:={tmps:=(tm 24 [(0,sl Q6 u),(3,AV.vec 0),(4,ai o)]),heap:=[AO.vec Q6 h]}
theorem Qo:zO (sY).P 41 Tryz.f41 1:=bU kw
theorem zmE(h:Sem Sh.str.sl):rn sY 0 zd3 Tryz.f41 [zC Sh.str.sl h] []=Tr.ok (zG.head 3 (aj Tryz.f41 3) (EK h 0 [])):=kw
theorem Qs(u:LS)(o:Int)(h:LS):rh sY 0 zd3 Tryz.f41 3 (EK u o h)=br (cond (Q0 (o<(↑u.length:Int))) (Q0 (o<10)) Q4) (Qc (zJ o (Io u)) (Qc (fB (u.getD o.toNat (zi Q6))) (Qc (Q0 (Io h+[di (u.getD o.toNat (zi Q6))].length<=1073741824)) (Tr.ok (zG.head 3 (aj Tryz.f41 3) (EK u (Γ Δ (o+1)) (h++[di (u.getD o.toNat (zi Q6))]))))))) (Tr.ok (zG.ret (AV.vec 0) [AO.vec Q6 h])):=kw
def eI:List (Sem Q6)->Int->List (Sem Q6)->Sem Sh.str.sl
 |[],_,h=>(h)
 |x::r,o,h=>(ite (Q0 (o<10)=Q3) (eI r (o+1) (h++[di x])) h)
def fN:List (Sem Q6)->Int->List (Sem Q6)->Bool
 |[],_,_=>(Q3)
 |x::r,o,h=>(if Q0 (o<10)=Q3 then
 if fB x=Q3 then if Q0 (Io h+[di x].length<=1073741824)=Q3 then fN r (o+1) (h++[di x])else Q4 else Q4
else Q3)
theorem ZR{C:ff}(G:∀id,C.ρ0 id=Q2)(E:LS)(L:Io E<=aG):∀(m i:Nat)(o:LS),Io E-i=m->i<=Io E->fN (E.drop i) i o=Q3->
  Reach (sY) C 41 (aj Tryz.f41 3) (EK E (i:Int) o) (λr h=>aI h [Sh.str.sl] r=Q1 (eI (E.drop i) i o,())):=by
 intro m
 induction m with
 | zero=>
  intro i o J H u;obtain rfl:i=Io E:=by omega
  rw[jK]at u⊢;refine zK kN (Qo) (λid _=>G id) (Qs _ _ _) ?_;rw[fN]at u;generalize z:eI [] _ o=y;rw[eI]at z;simp only[zB,ao,Tr.val_brF];repeat' (first|with_reducible refine vK z u (λ_ z u=>?_) (λ_ z u=>?_)|with_reducible refine du z (λ_ z=>?_) (λ_ z=>?_)|with_reducible refine iH u (λu=>?_)|with_reducible refine zP ?_)
  all_goals first|(cases u;done)|(subst z;first|rfl)
 | succ m I=>
  intro i o J H u;have B:i<Io E:=by omega
  have I:=I (i+1);have D:((i:Int)+1)=((i+1:Nat):Int):=by omega
  have F:=zr i ow;rw[fj B]at u⊢;refine zK kN (Qo) (λid _=>G id) (Qs _ _ _) ?_;rw[fN]at u;generalize z:eI (E[i]::E.drop (i+1)) (i:Int) o=y;rw[eI]at z;simp only[zF B,zt B,cM E _ B,F,af];clear F
  try simp only[zt B]at z
  simp only[D]at z
  try simp only[zt B]at u
  try simp only[D]at u
  repeat' (first|with_reducible refine vK z u (λ_ z u=>?_) (λ_ z u=>?_)|with_reducible refine du z (λ_ z=>?_) (λ_ z=>?_)|with_reducible refine iH u (λu=>?_)|with_reducible refine zP ?_)
  all_goals first|(cases u;done)|(subst z;first|(change Reach _ _ _ _ _ _;apply I<;>first|omega|assumption)|rfl)
theorem Uc{C:ff}(z:∀id,C.ρ0 id=Q2)(u:LS)(o:LS)(B:fN u 0 o=Q3):
  Reach (sY) C 41 (aj Tryz.f41 3) (EK u 0 o) (λr h=>aI h [Sh.str.sl] r=Q1 (eI u 0 o,())):=
 Reach.len 0 (Q6) u rfl λD=>ZR z u D _ 0 o rfl (aO _) B
def ky(h:Sem Sh.str.sl):Sem Sh.str.sl:=(eI h 0 [])
def qo(h:Sem Sh.str.sl):Bool:=(fN h 0 [])
def zjE:zZ:=zT [Sh.str.sl] [Sh.str.sl] (λx=>qo x.1) λx=>(ky x.1,())
theorem zfc:FK 41 zjE:=by
 refine aM (Qo) λx h C u=>?_
 unfold qo at h;refine zK kN (Qo) (λid _=>u id) (zmE x.1) ?_;generalize o:ky x.1=y;unfold ky at o
 try simp only[zf.eta]
 repeat' (first|with_reducible refine vK o h (λ_ o h=>?_) (λ_ o h=>?_)|with_reducible refine du o (λ_ o=>?_) (λ_ o=>?_)|with_reducible refine iH h (λh=>?_)|with_reducible refine zP ?_)
 all_goals first|(cases h;done)|(subst o;first|(change Reach _ _ _ _ _ _;apply Uc u<;>first|assumption|exact h)|rfl)
abbrev BW(s:zD)(l:List (Sem zh))(i:Int):St:={tmps:=[.sl zh l,.clo (.func 203) [] [.ptr 0 0],.any,.any,.any,.any,.any,.int .i64 (Io l),.int .i64 i,.any,.any,.any,.any,.any,.any,.any,.any,.any,.any],heap:=[.box [.str s]]}
theorem Vv(s:zD)(l:List (Sem zh)):run sY 1 AY Tryz.f202.results.toList 300 (bC Tryz.f202) (bl Tryz.f202.ntmps [.sl zh l,.clo (.func 203) [] [.ptr 0 0]] [.box [.str s]])=.ok (.head 2 (aj Tryz.f202 2) (BW s l 0)):=kw
theorem Xf(s:zD)(l:List (Sem zh))(i:Int):run sY 1 AY Tryz.f202.results.toList 300 (aj Tryz.f202 2) (BW s l i)=ox (K:=aj Tryz.f202 2) (e:=zh) l (λx=>x.1.1==s) (BW s l) [.box [.str s]] i:=kw
theorem W7:zO sY.P 202 Tryz.f202 2:=bU kw
def zl0:iU [Q1 (.sl zh),Q2]:=λx h=>match x,h with
 |(l,.clo (.func 203) [] [.ptr 0 0],_),[.box [.str s]]=>.ok (.int .i64 (zW (λx=>x.1.1==s) l 0),[.box [.str s]])
 |_,_=>.err
def zkI:zZ:=bp [Q1 (.sl zh),Q2] zl0
theorem zgl:FK 202 zkI:=by
 refine dX W7 λx D B h C o=>?_
 unfold zl0 at h;split at h
 ·rename_i l u s;simp only[Tr.val_ok,bH]at h;subst h;refine Reach.len 0 zh l rfl λz=>?_
  refine zK (n0:=1) kN W7 o (Vv s l) ?_;exact kV l (λx=>x.1.1==s) (BW s l) kN W7 o (Xf s l) z _ 0 rfl (aO _)
 ·simp at h
def K5:=sY.addL [(126,zcL),(41,zjE),(202,zkI)]
theorem xI:zw K5:=kN.addL<|fc Zt<|fc zfc<|fc zgl iz
def zcJ:zZ:=bp (List.replicate 3 Q2) (fA K5 Tryz.f255 (List.replicate 3 Q2))
theorem Zs:FK 255 zcJ:=ch _ xI (bU kw)
abbrev znX:Nat->aN:=λ_=>{ }
theorem zej:zO (K5).P 161 Tryz.f161 2:=bU kw
theorem zmN(h:Sem zh.sl)(o:TS):rn K5 0 znX Tryz.f161 [zC zh.sl h,zC Q6 o] []=Tr.ok (zG.ret (ai (zW (λx=>x.1.1==o) h 0)) []):=kw
def zX(h:Sem zh.sl)(o:TS):Sem zg:=(zW (λx=>x.1.1==o) h 0)
def zka:zZ:=aH [zh.sl,Q6] [zg] λx=>(zX x.1 x.2.1,())
theorem zfK:FK 161 zka:=by
 refine ag (zej) λx C o=>?_
 refine zK xI (zej) (λid _=>o id) (zmN x.1 x.2.1) ?_;generalize h:zX x.1 x.2.1=y;unfold zX at h
 try simp only[zf.eta]
 repeat' (first|with_reducible refine du h (λ_ h=>?_) (λ_ h=>?_)|with_reducible refine zP ?_)
 all_goals first|(cases hc;done)|(subst h;first|rfl)
def K6:=K5.addL [(255,zcJ),(161,zka)]
theorem xJ:zw K6:=xI.addL<|fc Zs<|fc zfK iz
abbrev sj(c a b:Int)(s:zD)(l:List (Sem (Sh.sl ze)))(i:Int):St:={tmps:=[.sl (Sh.sl ze) l,.clo (.func 255) [] [.ptr 0 0,.ptr 1 0],.any,.any,.any,.any,.any,.int .i64 (Io l),.int .i64 i,.any,.any,.any,.any,.any,.any,.any,.any,.any,.any],heap:=[.box [.int .i64 c],.box [.int .i64 a,.int .i64 b,.str s]]}
theorem N3(c a b:Int)(s:zD)(l:List (Sem (Sh.sl ze))):run K6 2 AY Tryz.f124.results.toList 300 (bC Tryz.f124) (bl Tryz.f124.ntmps [.sl (Sh.sl ze) l,.clo (.func 255) [] [.ptr 0 0,.ptr 1 0]] [.box [.int .i64 c],.box [.int .i64 a,.int .i64 b,.str s]])=.ok (.head 2 (aj Tryz.f124 2) (sj c a b s l 0)):=kw
theorem Ou(c a b:Int)(s:zD)(l:List (Sem (Sh.sl ze)))(i:Int):run K6 2 AY Tryz.f124.results.toList 300 (aj Tryz.f124 2) (sj c a b s l i)=ox (K:=aj Tryz.f124 2) (e:=(Sh.sl ze)) l (λx=>bf x c (a,b,s)) (sj c a b s l) [.box [.int .i64 c],.box [.int .i64 a,.int .i64 b,.str s]] i:=kw
theorem Oq:zO K6.P 124 Tryz.f124 2:=bU kw
def zc2:iU [Q1 (.sl (Sh.sl ze)),Q2]:=λx h=>match x,h with
 |(l,.clo (.func 255) [] [.ptr 0 0,.ptr 1 0],_),[.box [.int .i64 c],.box [.int .i64 a,.int .i64 b,.str s]]=>.ok (.int .i64 (zW (λx=>bf x c (a,b,s)) l 0),[.box [.int .i64 c],.box [.int .i64 a,.int .i64 b,.str s]])
 |_,_=>.err
def zcR:zZ:=bp [Q1 (.sl (Sh.sl ze)),Q2] zc2
theorem Zy:FK 124 zcR:=by
 refine dX Oq λx D B h C o=>?_
 unfold zc2 at h;split at h
 ·rename_i l u c a b s;simp only[Tr.val_ok,bH]at h;subst h;refine Reach.len 0 (Sh.sl ze) l rfl λz=>?_
  refine zK (n0:=2) xJ Oq o (N3 c a b s l) ?_;exact kV l (λx=>bf x c (a,b,s)) (sj c a b s l) xJ Oq o (Ou c a b s l) z _ 0 rfl (aO _)
 ·simp at h
def U7:=K6.add 124 zcR
theorem Gu:zw U7:=xJ.add Zy
def zcI:zZ:=bp (List.replicate 2 Q2) (fA U7 Tryz.f254 (List.replicate 2 Q2))
theorem Zr:FK 254 zcI:=ch _ Gu (bU kw)
def PL:=U7.add 254 zcI
theorem xK:zw PL:=Gu.add Zr
abbrev zhN:Nat->aN:=λ_=>{ }
theorem WT:zO (PL).P 201 Tryz.f201 3:=bU kw
theorem zhc(h:Sem zh)(o:Sem zg)(u:Sem ze):rn PL 0 zhN Tryz.f201 [zC zh h,zC zg o,zC ze u] []=Tr.ok (zG.ret (AV.bool (Q0 (zW (λx=>bf x o u) h.2 0>=0))) []):=kw
def gg(h:Sem zh)(o:Sem zg)(u:Sem ze):Sem Q7:=(Q0 (zW (λx=>bf x o u) h.2 0>=0))
def zck:zZ:=aH [zh,zg,ze] [Q7] λx=>(gg x.1 x.2.1 x.2.2.1,())
theorem Y3:FK 201 zck:=by
 refine ag (WT) λx C o=>?_
 refine zK xK (WT) (λid _=>o id) (zhc x.1 x.2.1 x.2.2.1) ?_;generalize h:gg x.1 x.2.1 x.2.2.1=y;unfold gg at h
 try simp only[zf.eta]
 repeat' (first|with_reducible refine du h (λ_ h=>?_) (λ_ h=>?_)|with_reducible refine zP ?_)
 all_goals first|(cases hc;done)|(subst h;first|rfl)
abbrev zhM:=kR [(3,[1,5,11,12,13])]
inductive FS where
 |h3 (i1:Sem zg) (l11:List (Sem ze.sl)) (i12:Int) (i13:Int) (mh_0:List ((Int×Int×zD)×Int))
abbrev zmi:FS->Nat×St
 |.h3 B z o u h=>(3,⟨tm 37 [(1,ai B),(5,AV.mp 0),(11,sl ze.sl z),(12,ai o),(13,ai u)],[AO.vmap Q4 h]⟩)
def zdL(h:Sem zh)(o:Sem zg):Tr (FS⊕aw):=Q9 (FS.h3 o h.2 (↑(Io h.2):Int) 0 [])
def AH:FS->Tr (FS⊕aw)
 | .h3 C u B o h=>
  let D:=u.getD o.toNat (zi ze.sl)
  let z:=getD D (toNat C) (zi ze)
  let E:=(↑(lT h z):Int)
  let F:=jZ h z
  let G:=ko F E.toNat (Γ Δ (gB h z+1))
  let H:=gB G z
  br (Q0 (o<B))
  (Qc (zJ o (Io u))
   (Qc (zJ C (Io D)) (Qc (Q0 (Io h<=1073741824)) (Qc (zJ E (Io F)) (br (cond (z.1!=0) (Q0 (H>1)) Q4) (re (kb Q3) []) (Q9 (FS.h3 C u B (Γ Δ (o+1)) G)))))))
  (re (kb Q4) [])
def BT(h:Sem zh)(o:Sem zg):=al [Q7] AH 100000000 (zdL h o)
def sd(h:Sem zh)(o:Sem zg):=(BT h o).isSome
def yE(h:Sem zh)(o:Sem zg):=o1 (BT h o)
def zcj:=FT [zh,zg] [Q7] λx=>BT x.1 x.2.1
theorem Y2:FK 200 zcj:=xK.T1 (f:=Tryz.f200) (keep:=zhM) (e:=zmi)
def zdh:=PL.addL [(201,zck),(200,zcj)]
theorem xL:zw zdh:=xK.addL<|fc Y3<|fc Y2 iz
abbrev zoa:=kR [(6,[1,18,19,20]),(15,[1,39,40,41]),(21,[1,8])]
inductive Fq where
 |h6 (l18:List (Sem ze.sl)) (i19:Int) (i20:Int) (z0:zl [CP.d zh])
 |h15 (l39:LI) (i40:Int) (i41:Int) (z0:zl [CP.d zh])
 |h21 (i8:Int) (z0:zl [CP.d zh])
abbrev zqU:Fq->Nat×St
 |.h6 C h o z=>(6,⟨tm 79 [(1,Qf 0 0),(18,sl ze.sl C),(19,ai h),(20,ai o)],[Qa (bb [] [CP.d zh] z)]⟩)
 |.h15 D u B z=>(15,⟨tm 79 [(1,Qf 0 0),(39,sl zg D),(40,ai u),(41,ai B)],[Qa (bb [] [CP.d zh] z)]⟩)
 |.h21 E z=>(21,⟨tm 79 [(1,Qf 0 0),(8,ai E)],[Qa (bb [] [CP.d zh] z)]⟩)
def SD(h:Sem zh):Tr (Fq⊕aw):=br (!dp (h.1.1,h.1.2.1,h.1.2.2.1,h.1.2.2.2.1,h.1.t.1,zm h.1.t.2)) (re (ai 1) []) (br (Q0 ((↑(Io h.2):Int)>200)) (re (ai 13) []) (Q9 (Fq.h6 h.2 (↑(Io h.2):Int) 0 (h,()))))
def im:Fq->Tr (Fq⊕aw)
 | .h6 C F h z=>
  let B:=(z.1.1.1,z.1.1.2.1,z.1.1.2.2.1,z.1.1.2.2.2.1,z.1.1.t.1,zm z.1.1.t.2)
  let u:=dc B (C.getD h.toNat (zi ze.sl))
  let E:=(B,z.1.2)
  br (Q0 (h<F))
  (Qc (zJ h (Io C)) (br (u !=0) (re (ai u) []) (Q9 (Fq.h6 C F (Γ Δ (h+1)) z))))
  (Qc (sd E z.1.1.2.2.1)
   (br (yE E z.1.1.2.2.1) (re (ai 7) []) (Q9 (Fq.h15 z.1.1.2.2.2.1 (↑(Io z.1.1.2.2.2.1):Int) 0 z))))
 | .h15 D G o z=>
  let B:=((z.1.1.1,z.1.1.2.1,z.1.1.2.2.1,z.1.1.2.2.2.1,z.1.1.t.1,zm z.1.1.t.2),z.1.2)
  let u:=D.getD o.toNat (zi zg)
  br (Q0 (o<G))
  (Qc (zJ o (Io D))
   (Qc (sd B u) (br (yE B u) (re (ai 7) []) (Q9 (Fq.h15 D G (Γ Δ (o+1)) z)))))
  (Q9 (Fq.h21 1 z))
 | .h21 H z=>
  let B:=(↑(Io z.1.2):Int)
  let u:=Γ Δ (H-1)
  let E:=getD z.1.2 u.toNat (zi ze.sl)
  let I:=getD z.1.2 H.toNat (zi ze.sl)
  let J:=aX (getD E (toNat z.1.1.2.2.1) (zi ze)) (getD I (toNat z.1.1.2.2.1) (zi ze))
  br (Q0 (H<B))
  (Qc (zJ u (Io z.1.2))
   (Qc (zJ z.1.1.2.2.1 (Io E)) (Qc (zJ H (Io z.1.2)) (Qc (zJ z.1.1.2.2.1 (Io I)) (br (Q0 (J>=0)) (re (ai 15) []) (Q9 (Fq.h21 (Γ Δ (H+1)) z)))))))
  (re (ai 0) [])
def oS(h:Sem zh):=al [zg] im 100000000 (SD h)
def JB(h:Sem zh):=(oS h).isSome
def OT(h:Sem zh):=o1 (oS h)
def zkt:=FT [zh] [zg] λx=>oS x.1
theorem zf6:FK 158 zkt:=xL.T1 (f:=Tryz.f158) (keep:=zoa) (e:=zqU)
abbrev zob:=kR [(2,[0,11,12,13]),(5,[0,4,11,12,13,19,20,21]),(11,[0,4,6,7,11,12,13,19,20,21,32,33,34])]
inductive Fr where
 |h2 (l0:List (Sem zh)) (l11:List (Sem zh)) (i12:Int) (i13:Int)
 |h5 (l0:List (Sem zh)) (l11:List (Sem zh)) (i12:Int) (i13:Int) (l19:LF) (i20:Int) (i21:Int) (z0:zl [CP.d zh])
 |h11 (l0:List (Sem zh)) (i7:Sem zg) (l11:List (Sem zh)) (i12:Int) (i13:Int) (l19:LF) (i20:Int) (i21:Int) (l32:List (Sem ze.sl)) (i33:Int) (i34:Int) (z0:zl [CP.d zh]) (z1:zl [CP.d zp])
abbrev zqV:Fr->Nat×St
 |.h2 D u h o=>(2,⟨tm 64 [(0,sl zh D),(11,sl zh u),(12,ai h),(13,ai o)],[]⟩)
 |.h5 D u h o C z B H=>(5,⟨tm 64 [(0,sl zh D),(4,Qf 0 0),(11,sl zh u),(12,ai h),(13,ai o),(19,sl zp C),(20,ai z),(21,ai B)],[Qa (bb [] [CP.d zh] H)]⟩)
 |.h11 D I u h o C z B G E F H J=>(11,⟨tm 64 [(0,sl zh D),(4,Qf 0 0),(6,Qf 1 0),(7,ai I),(11,sl zh u),(12,ai h),(13,ai o),(19,sl zp C),(20,ai z),(21,ai B),(32,sl ze.sl G),(33,ai E),(34,ai F)],[Qa (bb [] [CP.d zh] H),Qa (bb [] [CP.d zp] J)]⟩)
def zno(h:Sem zh.sl):Tr (Fr⊕aw):=Q9 (Fr.h2 h h (↑(Io h):Int) 0)
def gJ:Fr->Tr (Fr⊕aw)
 | .h2 D o u h=>
  let E:=o.getD h.toNat (zi zh)
  br (Q0 (h<u))
  (Qc (zJ h (Io o)) (Q9 (Fr.h5 D o u h E.1.t.1 (↑(Io E.1.t.1):Int) 0 (E,()))))
  (re (kb Q3) [])
 | .h5 D o u h B C z I=>
  let E:=B.getD z.toNat (zi zp)
  let J:=zX D E.2
  br (Q0 (z<C))
  (Qc (zJ z (Io B))
   (br (Q0 (J<0)) (re (kb Q4) []) (Q9 (Fr.h11 D J o u h B C z I.1.2 (↑(Io I.1.2):Int) 0 I (E,())))))
  (Q9 (Fr.h2 D o u (Γ Δ (h+1))))
 | .h11 D M o u h B C z H L F I O=>
  let E:=H.getD F.toNat (zi ze.sl)
  let J:=getD E (toNat O.1.1) (zi ze)
  let S:=J.1!=0
  let G:=D.getD (toNat M) (zi zh)
  br (Q0 (F<L))
  (Qc (zJ F (Io H))
   (Qc (zJ O.1.1 (Io E)) (Qc (cond S (zJ M (Io D)&&zJ M (Io D)) Q3) (br (cond S (!gg ((G.1.1,G.1.2.1,G.1.2.2.1,G.1.2.2.2.1,G.1.t.1,zm G.1.t.2),G.2) G.1.2.2.1 J) Q4) (re (kb Q4) []) (Q9 (Fr.h11 D M o u h B C z H L (Γ Δ (F+1)) I O))))))
  (Q9 (Fr.h5 D o u h B C (Γ Δ (z+1)) I))
def Ba(h:Sem zh.sl):=al [Q7] gJ 100000000 (zno h)
def H4(h:Sem zh.sl):=(Ba h).isSome
def Ns(h:Sem zh.sl):=o1 (Ba h)
def zku:=FT [zh.sl] [Q7] λx=>Ba x.1
theorem zf7:FK 159 zku:=xL.T1 (f:=Tryz.f159) (keep:=zob) (e:=zqV)
def zdi:=zdh.addL [(158,zkt),(159,zku)]
theorem Gv:zw zdi:=xL.addL<|fc zf6<|fc zf7 iz
abbrev znN:=kR [(4,[0,3]),(9,[0,30,31,32])]
inductive Ko where
 |h4 (l0:List (Sem zh)) (i3:Int)
 |h9 (l0:List (Sem zh)) (l30:List (Sem zh)) (i31:Int) (i32:Int)
abbrev zqF:Ko->Nat×St
 |.h4 u B=>(4,⟨tm 45 [(0,sl zh u),(3,ai B)],[]⟩)
 |.h9 u z h o=>(9,⟨tm 45 [(0,sl zh u),(30,sl zh z),(31,ai h),(32,ai o)],[]⟩)
def zaK(h:Sem zh.sl):Tr (Ko⊕aw):=br (Q0 ((↑(Io h):Int)>12)) (re (ai 13) []) (Q9 (Ko.h4 h 1))
def oX:Ko->Tr (Ko⊕aw)
 | .h4 h B=>
  let o:=Γ Δ (B-1)
  let D:=h.getD o.toNat (zi zh)
  let E:=h.getD B.toNat (zi zh)
  br (Q0 (B<(↑h.length:Int)))
  (Qc (zJ o (Io h))
   (Qc (zJ B (Io h)) (br (!Op.bytesLess D.1.1 E.1.1) (re (ai 15) []) (Q9 (Ko.h4 h (Γ Δ (B+1)))))))
  (Q9 (Ko.h9 h h (↑h.length:Int) 0))
 | .h9 h z C u=>
  let o:=z.getD u.toNat (zi zh)
  let D:=((o.1.1,o.1.2.1,o.1.2.2.1,o.1.2.2.2.1,o.1.t.1,zm o.1.t.2),o.2)
  let E:=OT D
  br (Q0 (u<C))
  (Qc (zJ u (Io z))
   (Qc (JB D) (br (E !=0) (re (ai E) []) (Q9 (Ko.h9 h z C (Γ Δ (u+1)))))))
  (Qc (H4 h) (br (!Ns h) (re (ai 10) []) (re (ai 0) [])))
def uM(h:Sem zh.sl):=al [zg] oX 100000000 (zaK h)
def nT(h:Sem zh.sl):=(uM h).isSome
def ld(h:Sem zh.sl):=o1 (uM h)
def zjU:=FT [zh.sl] [zg] λx=>uM x.1
theorem zfu:FK 114 zjU:=Gv.T1 (f:=Tryz.f114) (keep:=znN) (e:=zqF)
def ib:=zdi.add 114 zjU
theorem dZ:zw ib:=Gv.add zfu
abbrev zq:Sh:=.pr .str (.pr .str (.pr .str (.pr zo (.pr (.sl zg) zg))))
abbrev bm:List CP:=[.d (.sl zh),.d zn,.d zo,.d zo,.d .str,.d .str,.d .str,.d .str,.nil,.d zg,.nil,.nil,.d .expr,.nil,.d zg]
abbrev au:List CP:=[.d (.sl zh),.d zn,.d zo,.d zo,.d .str,.d .str,.d .str,.d .str,.vec zj,.d zg,.nil,.nil,.d .expr,.d (.sl zg),.d zg]
abbrev zd8:Nat->aN:=λj=>if j=2 then{slots:=[0,1,7,8]}else{ }
abbrev EM(z:LI)(h:Sem zg)(o:Int)(u:Int):St:={tmps:=(tm 19 [(0,sl zg z),(1,ai h),(7,ai o),(8,ai u)]),heap:=[]}
theorem Qp:zO (ib).P 153 Tryz.f153 2:=bU kw
theorem zmS(h:Sem zg.sl)(o:Sem zg):rn ib 0 zd8 Tryz.f153 [zC zg.sl h,zC zg o] []=Tr.ok (zG.head 2 (aj Tryz.f153 2) (EM h o (↑(Io h):Int) 0)):=kw
theorem Qv(o:LI)(u:Sem zg)(z:Int)(h:Int):rh ib 0 zd8 Tryz.f153 2 (EM o u z h)=br (Q0 (h<z)) (Qc (zJ h (Io o)) (br (u==o.getD h.toNat (zi zg)) (Tr.ok (zG.ret (ai h) [])) (Tr.ok (zG.head 2 (aj Tryz.f153 2) (EM o u z (Γ Δ (h+1))))))) (Tr.ok (zG.ret (ai (-1)) [])):=kw
def eO(o:Sem zg):List (Sem zg)->Int->Sem zg
 |[],_=>(-1)
 |x::r,h=>(ite ((o==x)=Q3) h (eO o r (h+1)))
theorem ZT{C:ff}(F:∀id,C.ρ0 id=Q2)(E:Sem zg)(z:LI)(J:Io z<=aG):∀(m i:Nat),Io z-i=m->i<=Io z->
  Reach (ib) C 153 (aj Tryz.f153 2) (EM z E (Io z:Int) (i:Int)) (λr h=>aI h [zg] r=Q1 (eO E (z.drop i) i,())):=by
 intro m
 induction m with
 | zero=>
  intro i H G;obtain rfl:i=Io z:=by omega
  rw[jK];refine zK dZ (Qp) (λid _=>F id) (Qv _ _ _ _) ?_;generalize o:eO E [] _=y;rw[eO]at o;simp only[zB,Tr.val_brF];repeat' (first|with_reducible refine du o (λ_ o=>?_) (λ_ o=>?_)|with_reducible refine zP ?_)
  all_goals first|(cases hc;done)|(subst o;first|rfl)
 | succ m I=>
  intro i H G;have u:i<Io z:=by omega
  have I:=I (i+1);have B:((i:Int)+1)=((i+1:Nat):Int):=by omega
  have D:=zr i ow;rw[fj u];refine zK dZ (Qp) (λid _=>F id) (Qv _ _ _ _) ?_;generalize o:eO E (z[i]::z.drop (i+1)) (i:Int)=y;rw[eO]at o;simp only[zF u,zt u,cM z _ u,D,Tr.val_brT,Tr.val_chkT];clear D
  try simp only[zt u]at o
  simp only[B]at o;repeat' (first|with_reducible refine du o (λ_ o=>?_) (λ_ o=>?_)|with_reducible refine zP ?_)
  all_goals first|(cases hc;done)|(subst o;first|(change Reach _ _ _ _ _ _;apply I<;>first|omega|assumption)|rfl)
theorem Ue{C:ff}(z:∀id,C.ρ0 id=Q2)(u:Sem zg)(o:LI):
  Reach (ib) C 153 (aj Tryz.f153 2) (EM o u (Io o:Int) 0) (λr h=>aI h [zg] r=Q1 (eO u o 0,())):=
 Reach.len 0 (Sh.int IntKind.i64) o rfl λB=>ZT z u o B _ 0 rfl (aO _)
def gF(h:Sem zg.sl)(o:Sem zg):Sem zg:=(eO o h 0)
def zko:zZ:=aH [zg.sl,zg] [zg] λx=>(gF x.1 x.2.1,())
theorem zf2:FK 153 zko:=by
 refine ag (Qp) λx C o=>?_
 refine zK dZ (Qp) (λid _=>o id) (zmS x.1 x.2.1) ?_;generalize h:gF x.1 x.2.1=y;unfold gF at h
 try simp only[zf.eta]
 repeat' (first|with_reducible refine du h (λ_ h=>?_) (λ_ h=>?_)|with_reducible refine zP ?_)
 all_goals first|(cases hc;done)|(subst h;first|(change Reach _ _ _ _ _ _;apply Ue o<;>first|assumption|exact hc)|rfl)
abbrev zd9:Nat->aN:=λj=>if j=2 then{slots:=[0,1,7,8]}else{ }
abbrev EN(u:LS)(z:TS)(h:Int)(o:Int):St:={tmps:=(tm 19 [(0,sl Q6 u),(1,str z),(7,ai h),(8,ai o)]),heap:=[]}
theorem Qq:zO (ib).P 204 Tryz.f204 2:=bU kw
theorem zmX(h:Sem Sh.str.sl)(o:TS):rn ib 0 zd9 Tryz.f204 [zC Sh.str.sl h,zC Q6 o] []=Tr.ok (zG.head 2 (aj Tryz.f204 2) (EN h o (↑(Io h):Int) 0)):=kw
theorem Qw(o:LS)(z:TS)(u:Int)(h:Int):rh ib 0 zd9 Tryz.f204 2 (EN o z u h)=br (Q0 (h<u)) (Qc (zJ h (Io o)) (br (z==o.getD h.toNat (zi Q6)) (Tr.ok (zG.ret (ai h) [])) (Tr.ok (zG.head 2 (aj Tryz.f204 2) (EN o z u (Γ Δ (h+1))))))) (Tr.ok (zG.ret (ai (-1)) [])):=kw
def iD(o:TS):List (Sem Q6)->Int->Sem zg
 |[],_=>(-1)
 |x::r,h=>(ite ((o==x)=Q3) h (iD o r (h+1)))
theorem ZU{C:ff}(F:∀id,C.ρ0 id=Q2)(E:TS)(z:LS)(J:Io z<=aG):∀(m i:Nat),Io z-i=m->i<=Io z->
  Reach (ib) C 204 (aj Tryz.f204 2) (EN z E (Io z:Int) (i:Int)) (λr h=>aI h [zg] r=Q1 (iD E (z.drop i) i,())):=by
 intro m
 induction m with
 | zero=>
  intro i H G;obtain rfl:i=Io z:=by omega
  rw[jK];refine zK dZ (Qq) (λid _=>F id) (Qw _ _ _ _) ?_;generalize o:iD E [] _=y;rw[iD]at o;simp only[zB,Tr.val_brF];repeat' (first|with_reducible refine du o (λ_ o=>?_) (λ_ o=>?_)|with_reducible refine zP ?_)
  all_goals first|(cases hc;done)|(subst o;first|rfl)
 | succ m I=>
  intro i H G;have u:i<Io z:=by omega
  have I:=I (i+1);have B:((i:Int)+1)=((i+1:Nat):Int):=by omega
  have D:=zr i ow;rw[fj u];refine zK dZ (Qq) (λid _=>F id) (Qw _ _ _ _) ?_;generalize o:iD E (z[i]::z.drop (i+1)) (i:Int)=y;rw[iD]at o;simp only[zF u,zt u,cM z _ u,D,Tr.val_brT,Tr.val_chkT];clear D
  try simp only[zt u]at o
  simp only[B]at o;repeat' (first|with_reducible refine du o (λ_ o=>?_) (λ_ o=>?_)|with_reducible refine zP ?_)
  all_goals first|(cases hc;done)|(subst o;first|(change Reach _ _ _ _ _ _;apply I<;>first|omega|assumption)|rfl)
theorem Ug{C:ff}(z:∀id,C.ρ0 id=Q2)(u:TS)(o:LS):
  Reach (ib) C 204 (aj Tryz.f204 2) (EN o u (Io o:Int) 0) (λr h=>aI h [zg] r=Q1 (iD u o 0,())):=
 Reach.len 0 (Q6) o rfl λB=>ZU z u o B _ 0 rfl (aO _)
def LH(h:Sem Sh.str.sl)(o:TS):Sem zg:=(iD o h 0)
def zkH:zZ:=aH [Sh.str.sl,Q6] [zg] λx=>(LH x.1 x.2.1,())
theorem zgk:FK 204 zkH:=by
 refine ag (Qq) λx C o=>?_
 refine zK dZ (Qq) (λid _=>o id) (zmX x.1 x.2.1) ?_;generalize h:LH x.1 x.2.1=y;unfold LH at h
 try simp only[zf.eta]
 repeat' (first|with_reducible refine du h (λ_ h=>?_) (λ_ h=>?_)|with_reducible refine zP ?_)
 all_goals first|(cases hc;done)|(subst h;first|(change Reach _ _ _ _ _ _;apply Ug o<;>first|assumption|exact hc)|rfl)
abbrev Wc:Nat->aN:=λj=>if j=2 then{slots:=[0,3,7,8]}else{ }
abbrev wE(B:LF)(u:Int)(z:Int)(h:Sem zg)(o:TS):St:={tmps:=(tm 19 [(0,sl zp B),(3,Qf 0 0),(7,ai u),(8,ai z)]),heap:=[Qa [ai h,str o]]}
theorem IR:zO (ib).P 195 Tryz.f195 2:=bU kw
theorem zhb(h:Sem zp.sl)(o:Sem zp):rn ib 0 Wc Tryz.f195 [zC zp.sl h,zC zp o] []=Tr.ok (zG.head 2 (aj Tryz.f195 2) (wE h (↑(Io h):Int) 0 o.1 o.2)):=kw
theorem L6(z:LF)(B:Int)(h:Int)(o:Sem zg)(u:TS):rh ib 0 Wc Tryz.f195 2 (wE z B h o u)=br (Q0 (h<B)) (Qc (zJ h (Io z)) (br (o==(z.getD h.toNat (zi zp)).1&&(u==(z.getD h.toNat (zi zp)).2&&Q3)) (Tr.ok (zG.ret (ai h) [])) (Tr.ok (zG.head 2 (aj Tryz.f195 2) (wE z B (Γ Δ (h+1)) o u))))) (Tr.ok (zG.ret (ai (-1)) [])):=kw
def iC(h:Sem zg)(o:TS):List (Sem zp)->Int->Sem zg
 |[],_=>(-1)
 |x::r,u=>(ite ((h==x.1&&(o==x.2&&Q3))=Q3) u (iC h o r (u+1)))
theorem Ua{C:ff}(G:∀id,C.ρ0 id=Q2)(B:Sem zg)(D:TS)(z:LF)(L:Io z<=aG):∀(m i:Nat),Io z-i=m->i<=Io z->
  Reach (ib) C 195 (aj Tryz.f195 2) (wE z (Io z:Int) (i:Int) B D) (λr h=>aI h [zg] r=Q1 (iC B D (z.drop i) i,())):=by
 intro m
 induction m with
 | zero=>
  intro i J H;obtain rfl:i=Io z:=by omega
  rw[jK];refine zK dZ (IR) (λid _=>G id) (L6 _ _ _ _ _) ?_;generalize o:iC B D [] _=y;rw[iC]at o;simp only[zB,Tr.val_brF];repeat' (first|with_reducible refine du o (λ_ o=>?_) (λ_ o=>?_)|with_reducible refine zP ?_)
  all_goals first|(cases hc;done)|(subst o;first|rfl)
 | succ m I=>
  intro i J H;have u:i<Io z:=by omega
  have I:=I (i+1);have E:((i:Int)+1)=((i+1:Nat):Int):=by omega
  have F:=zr i ow;rw[fj u];refine zK dZ (IR) (λid _=>G id) (L6 _ _ _ _ _) ?_;generalize o:iC B D (z[i]::z.drop (i+1)) (i:Int)=y;rw[iC]at o;simp only[zF u,zt u,cM z _ u,F,Tr.val_brT,Tr.val_chkT];clear F
  try simp only[zt u]at o
  simp only[E]at o;repeat' (first|with_reducible refine du o (λ_ o=>?_) (λ_ o=>?_)|with_reducible refine zP ?_)
  all_goals first|(cases hc;done)|(subst o;first|(change Reach _ _ _ _ _ _;apply I<;>first|omega|assumption)|rfl)
theorem RR{C:ff}(B:∀id,C.ρ0 id=Q2)(o:Sem zg)(u:TS)(z:LF):
  Reach (ib) C 195 (aj Tryz.f195 2) (wE z (Io z:Int) 0 o u) (λr h=>aI h [zg] r=Q1 (iC o u z 0,())):=
 Reach.len 0 (zg.pr Q6) z rfl λD=>Ua B o u z D _ 0 rfl (aO _)
def LD(o:Sem zp.sl)(h:Sem zp):Sem zg:=(iC h.1 h.2 o 0)
def zcg:zZ:=aH [zp.sl,zp] [zg] λx=>(LD x.1 x.2.1,())
theorem YZ:FK 195 zcg:=by
 refine ag (IR) λx C o=>?_
 refine zK dZ (IR) (λid _=>o id) (zhb x.1 x.2.1) ?_;generalize h:LD x.1 x.2.1=y;unfold LD at h
 try simp only[zf.eta]
 repeat' (first|with_reducible refine du h (λ_ h=>?_) (λ_ h=>?_)|with_reducible refine zP ?_)
 all_goals first|(cases hc;done)|(subst h;first|(change Reach _ _ _ _ _ _;apply RR o<;>first|assumption|exact hc)|rfl)
abbrev znA:Nat->aN:=λ_=>{ }
theorem zef:zO (ib).P 69 Tryz.f69 1:=bU kw
theorem zmC(h:Sem zq):rn ib 0 znA Tryz.f69 [zC zq h] []=br (h.2.2.1==[]) (Tr.ok (zG.ret (sl Q6 [h.2.1]) [])) (Tr.ok (zG.ret (sl Q6 [h.2.1,h.2.2.1]) [])):=kw
def lB(h:Sem zq):Sem Sh.str.sl:=(ite ((h.2.2.1==[])=Q3) [h.2.1] [h.2.1,h.2.2.1])
def zjv:zZ:=aH [zq] [Sh.str.sl] λx=>(lB x.1,())
theorem ze1:FK 69 zjv:=by
 refine ag (zef) λx C o=>?_
 refine zK dZ (zef) (λid _=>o id) (zmC x.1) ?_;generalize h:lB x.1=y;unfold lB at h
 try simp only[zf.eta]
 repeat' (first|with_reducible refine du h (λ_ h=>?_) (λ_ h=>?_)|with_reducible refine zP ?_)
 all_goals first|(cases hc;done)|(subst h;first|rfl)
def zce:zZ:=bp (List.replicate 2 Q2) (fA ib Tryz.f191 (List.replicate 2 Q2))
theorem YX:FK 191 zce:=ch _ dZ (bU kw)
def Ai:=ib.addL [(153,zko),(204,zkH),(195,zcg),(69,zjv),(191,zce)]
theorem rb:zw Ai:=dZ.addL<|fc zf2<|fc zgk<|fc YZ<|fc ze1<|fc YX iz
abbrev zhL:Nat->aN:=λ_=>{ }
theorem WS:zO (Ai).P 192 Tryz.f192 2:=bU kw
theorem zha(h:Sem zg.sl)(o:Sem zg):rn Ai 0 zhL Tryz.f192 [zC zg.sl h,zC zg o] []=Tr.ok (zG.ret (AV.bool (Q0 (gF h o>=0))) []):=kw
def ud(h:Sem zg.sl)(o:Sem zg):Sem Q7:=(Q0 (gF h o>=0))
def zcf:zZ:=aH [zg.sl,zg] [Q7] λx=>(ud x.1 x.2.1,())
theorem YY:FK 192 zcf:=by
 refine ag (WS) λx C o=>?_
 refine zK rb (WS) (λid _=>o id) (zha x.1 x.2.1) ?_;generalize h:ud x.1 x.2.1=y;unfold ud at h
 try simp only[zf.eta]
 repeat' (first|with_reducible refine du h (λ_ h=>?_) (λ_ h=>?_)|with_reducible refine zP ?_)
 all_goals first|(cases hc;done)|(subst h;first|rfl)
abbrev znV:Nat->aN:=λ_=>{ }
theorem zei:zO (Ai).P 163 Tryz.f163 2:=bU kw
theorem zmM(h:Sem Sh.str.sl)(o:TS):rn Ai 0 znV Tryz.f163 [zC Sh.str.sl h,zC Q6 o] []=Tr.ok (zG.ret (AV.bool (Q0 (LH h o>=0))) []):=kw
def aB(h:Sem Sh.str.sl)(o:TS):Sem Q7:=(Q0 (LH h o>=0))
def zj8:zZ:=aH [Sh.str.sl,Q6] [Q7] λx=>(aB x.1 x.2.1,())
theorem zfI:FK 163 zj8:=by
 refine ag (zei) λx C o=>?_
 refine zK rb (zei) (λid _=>o id) (zmM x.1 x.2.1) ?_;generalize h:aB x.1 x.2.1=y;unfold aB at h
 try simp only[zf.eta]
 repeat' (first|with_reducible refine du h (λ_ h=>?_) (λ_ h=>?_)|with_reducible refine zP ?_)
 all_goals first|(cases hc;done)|(subst h;first|rfl)
abbrev zn5:Nat->aN:=λ_=>{ }
theorem zek:zO (Ai).P 155 Tryz.f155 2:=bU kw
theorem zmT(h:Sem zp.sl)(o:Sem zp):rn Ai 0 zn5 Tryz.f155 [zC zp.sl h,zC zp o] []=Tr.ok (zG.ret (AV.bool (Q0 (LD h o>=0))) []):=kw
def jp(h:Sem zp.sl)(o:Sem zp):Sem Q7:=(Q0 (LD h o>=0))
def zkq:zZ:=aH [zp.sl,zp] [Q7] λx=>(jp x.1 x.2.1,())
theorem zf4:FK 155 zkq:=by
 refine ag (zek) λx C o=>?_
 refine zK rb (zek) (λid _=>o id) (zmT x.1 x.2.1) ?_;generalize h:jp x.1 x.2.1=y;unfold jp at h
 try simp only[zf.eta]
 repeat' (first|with_reducible refine du h (λ_ h=>?_) (λ_ h=>?_)|with_reducible refine zP ?_)
 all_goals first|(cases hc;done)|(subst h;first|rfl)
def K7:=Ai.addL [(192,zcf),(163,zj8),(155,zkq)]
theorem Gw:zw K7:=rb.addL<|fc YY<|fc zfI<|fc zf4 iz
abbrev Wj:Nat->aN:=λj=>if j=2 then{slots:=[0,12,13,14]}else{ }
inductive Kp where
 |h2 (i13:Int) (i14:Int) (z0:zl au)
abbrev UF:Kp->Nat×St
 |.h2 h o z=>(2,⟨tm 65 [(0,Qf 0 0),(12,AV.vec 1),(13,ai h),(14,ai o)],[Qa (bb [1] au z),AO.vec zj z.t.t.1]⟩)
theorem zoK:zO K7.P 117 Tryz.f117 1:=bU kw
def zaM(y:zl au):Tr (Kp⊕aw):=Q9 (Kp.h2 (↑y.t.t.1.length:Int) 0 y)
def J1(o:Int)(h:Int)(z:zl au)(B:zf)(C:Sem zj)(u:Sem zg×Sem zg):Tr (Kp⊕aw):=br (Q0 (h<o)) (Qc (zJ h (Io z.t.t.1)) (Qc (Q0 (h.toNat<Io z.t.t.1)) (br (zR (z.t.q.2.1,z.t.t.1,z.t.t.2.1,[],[],B) C.1!=h) (re (ai 7) (ay au z)) (Q9 (Kp.h2 o (Γ Δ (h+1)) z))))) (br (zf.op z.t.t.q.1==[]) (re (ai 0) (ay au z)) (br (cond (u.2==0) (cond (u.1!=3) (u.1!=0) Q4) Q4) (re (ai 5) (ay au z)) (re (ai u.2) (ay au z))))
def O6(o:Int)(h:Int)(z:zl au):Tr (Kp⊕aw):=
 let u:=zm z.t.t.q.1
 let B:=z.t.t.1.getD h.toNat (zi zj)
 let C:=bM u z.t.t.1
 J1 o h z u B C
theorem zmJ(y:zl au):rn K7 2 Wj Tryz.f117 [Qf 0 0] (ay au y)=(zaM y).map (lf Tryz.f117 UF):=kw
def M0:Kp->Tr (Kp⊕aw)
 |.h2 h o z=>O6 h o z
theorem zpr:∀s,run K7 2 Wj (Func.results Tryz.f117).toList 400 (aj Tryz.f117 (UF s).1) (UF s).2=(M0 s).map (lf Tryz.f117 UF)|.h2 h o z=>by kernel_rfl
def vF(y:zl au):Option (zz (Qi Q1 [zg])×zl au):=kB [zg] au M0 100000000 (zaM y)
def gG(y:zl au):Bool:=(vF y).isSome
def fC(y:zl au):(Sem zg)×zl au:=(λr:zz (Qi Q1 [zg])×zl au=>(r.1.1,r.2)) ((vF y).getD (bQ [zg],fK au))
def zjY:zZ:=sE au [] [zg] au (λy _=>gG y) λy _=>(((fC y).1,()),(fC y).2)
theorem zfy:FK 117 zjY:=ka (keep:=Wj) (gas:=400) (n:=100000000) (e:=UF) (t:=M0) (i:=λy x=>zaM y) Gw zoK (λy x=>zmJ y) zpr (λ_ _=>by kernel_rfl) (λ_ _=>by kernel_rfl)
def U8:=K7.add 117 zjY
theorem Gx:zw U8:=Gw.add zfy
def zkv:zZ:=bp (List.replicate 2 Q2) (fA U8 Tryz.f162 (List.replicate 2 Q2))
theorem zf8:FK 162 zkv:=ch _ Gx (bU kw)
def K8:=U8.add 162 zkv
theorem xM:zw K8:=Gx.add zf8
abbrev BX(s:List zD)(l:LF)(i:Int):St:={tmps:=[.sl zp l,.clo (.func 162) [] [.ptr 0 0],.any,.any,.any,.any,.any,.int .i64 (Io l),.int .i64 i,.any,.any,.any,.any,.any,.any,.any,.any,.any,.any],heap:=[.box [.sl .str s]]}
theorem Vw(s:List zD)(l:LF):run K8 1 AY Tryz.f205.results.toList 300 (bC Tryz.f205) (bl Tryz.f205.ntmps [.sl zp l,.clo (.func 162) [] [.ptr 0 0]] [.box [.sl .str s]])=.ok (.head 2 (aj Tryz.f205 2) (BX s l 0)):=kw
theorem Xh(s:List zD)(l:LF)(i:Int):run K8 1 AY Tryz.f205.results.toList 300 (aj Tryz.f205 2) (BX s l i)=ox (K:=aj Tryz.f205 2) (e:=zp) l (λx=>aB s x.2) (BX s l) [.box [.sl .str s]] i:=kw
theorem W8:zO K8.P 205 Tryz.f205 2:=bU kw
def zl1:iU [Q1 (.sl zp),Q2]:=λx h=>match x,h with
 |(l,.clo (.func 162) [] [.ptr 0 0],_),[.box [.sl .str s]]=>.ok (.int .i64 (zW (λx=>aB s x.2) l 0),[.box [.sl .str s]])
 |_,_=>.err
def zkL:zZ:=bp [Q1 (.sl zp),Q2] zl1
theorem zgp:FK 205 zkL:=by
 refine dX W8 λx D B h C o=>?_
 unfold zl1 at h;split at h
 ·rename_i l u s;simp only[Tr.val_ok,bH]at h;subst h;refine Reach.len 0 zp l rfl λz=>?_
  refine zK (n0:=1) xM W8 o (Vw s l) ?_;exact kV l (λx=>aB s x.2) (BX s l) xM W8 o (Xh s l) z _ 0 rfl (aO _)
 ·simp at h
def U9:=K8.add 205 zkL
theorem Gy:zw U9:=xM.add zgp
def zkw:zZ:=bp (List.replicate 2 Q2) (fA U9 Tryz.f164 (List.replicate 2 Q2))
theorem zf9:FK 164 zkw:=ch _ Gy (bU kw)
def zdj:=U9.add 164 zkw
theorem xN:zw zdj:=Gy.add zf9
abbrev cpR:List CP:=[.d zh]
abbrev zgX:List CP:=[.d .str,.nil,.d zg,.nil,.nil,.d .str,.d zg,.d zg,.d .str,.d .str,.nil,.nil]
abbrev zmc:List CP:=[.d zo,.vec (.sl ze)]
abbrev pC:List CP:=[.d zn]
abbrev jg:List CP:=[.d .str,.d .str,.d .str,.nil,.nil,.d .str,.nil,.nil,.d .str,.d zg,.d zg,.d .str,.d .str,.nil,.nil,.nil,.d .str,.d zg,.d zg,.d .str,.d .str,.nil,.d .str]
abbrev Ut:List CP:=[.d .str,.d .str,.d .str,.d (.sl .str),.d (.sl zj),.d .str,.d (.sl .str),.vec jb,.d .expr,.d (.sl ze),.nil,.d .expr,.d .str]
abbrev Uu:List CP:=[.d .str,.d .str,.d .str,.d (.sl .str),.d (.sl zj),.d .str,.d (.sl .str),.vec jb,.d .expr,.d (.sl ze),.vec ig,.d .expr,.d .str]
abbrev znE:Nat->aN:=λj=>if j=6 then{slots:=[1,2,3,4,5],prom:=[(3,Q1 11,.sl ze)]}else{ }
inductive Ng where
 |h6 (i4:Int) (i5:Int) (z0:zl cpR) (z1:zl zgX) (z2:zl zmc)
abbrev zqy:Ng->Nat×St
 |.h6 h o u B z=>(6,⟨tm 38 [(1,Qf 0 0),(2,Qf 1 0),(3,Qf 2 0),(4,ai h),(5,ai o)],[Qa (bb [] cpR u),Qa (bb [] zgX B),Qa (bb [3] zmc z),AO.vec ze.sl z.2.1]⟩)
def zhs(h:Sem zh):Tr (Ng⊕aw):=
 let o:=(E7 (h.1.1,h.1.2.1,h.1.2.2.1,h.1.2.2.2.1,h.1.t.1,zm h.1.t.2),[],())
 br (Q0 ((↑(Io h.2):Int)>200)) (Q9 (Ng.h6 201 0 (h,()) ([],0,[],0,0,[],[],()) o))
 (Q9 (Ng.h6 40 0 (h,()) ([],0,[],0,0,[],[],()) o))
def Tk:Ng->Tr (Ng⊕aw)
 | .h6 B h o D z=>
  let C:=(↑(Io o.1.2):Int)
  let u:=[mh (getD o.1.2 h.toNat (zi ze.sl))]
  br (cond (Q0 (h<C)) (Q0 (h<B)) Q4)
  (Qc (zJ h (Io o.1.2))
   (Qc (Q0 (Io z.2.1+Io u<=1073741824)) (Q9 (Ng.h6 B (Γ Δ (h+1)) o D (z.1,z.2.1++u,())))))
  (re
   (agg [str z.1.1,sl zj z.1.2.1,ai z.1.2.2.1,sl zg z.1.2.2.2.1,sl zp z.1.t.1,str (zf.op z.1.t.2),ai (zf.v z.1.t.2).1,ai (zf.v z.1.t.2).2.1,str (zf.v z.1.t.2).2.2,str (zf.s z.1.t.2),sl Q5 (zf.l z.1.t.2),AV.vec 0])
   [AO.vec ze.sl z.2.1])
def Dz(h:Sem zh):=al [zh] Tk 100000000 (zhs h)
def Oj(h:Sem zh):=(Dz h).isSome
def Aw(h:Sem zh):=o1 (Dz h)
def zjB:=FT [zh] [zh] λx=>Dz x.1
theorem ze9:FK 39 zjB:=xN.T1 (f:=Tryz.f39) (keep:=znE) (e:=zqy)
abbrev zso:Nat->aN:=λj=>if j=3 then{slots:=[1,2,3,4],prom:=[(3,Q1 7,jb)]}else if j=7 then{slots:=[1,2,3,5],prom:=[(3,Q1 15,ig)]}else{ }
inductive H8p where
 |h3 (i4:Int) (z0:zl pC) (z1:zl jg) (z2:zl Ut)
 |h7 (i5:Int) (z0:zl pC) (z1:zl jg) (z2:zl Uu)
abbrev e8p:H8p->Nat×St
 |.h3 u h o z=>(3,⟨tm 103 [(1,Qf 0 0),(2,Qf 1 0),(3,Qf 2 0),(4,ai u)],[Qa (bb [] pC h),Qa (bb [] jg o),Qa (bb [3] Ut z),AO.vec (Sh.str.pr Q6) z.t.q.2.1]⟩)
 |.h7 B h o z=>(7,⟨tm 103 [(1,Qf 0 0),(2,Qf 1 0),(3,Qf 2 0),(5,ai B)],[Qa (bb [] pC h),Qa (bb [] jg o),Qa (bb [3,4] Uu z),AO.vec (Sh.str.pr Q6) z.t.q.2.1,AO.vec (Sh.str.pr Q5) z.t.t.q.1]⟩)
def i8p(h:Sem zn):Tr (H8p⊕aw):=
 Qc (fB h.1)
 (Qc (fB h.2.1)
  (Qc (fB h.2.2.1) (Qc (fB h.t.2.1) (Qc (fB h.t.t.t) (Qc (qo h.2.2.2.1) (Qc (qo h.t.q.1) (Q9 (H8p.h3 0 (h,()) ([],[],[],[],[],0,0,[],[],[],0,0,[],[],[],()) (di h.1,di h.2.1,di h.2.2.1,ky h.2.2.2.1,jQ h.t.1,
  di h.t.2.1,ky h.t.q.1,[],dw (zm h.t.t.1),mh h.t.t.2.1,dw (zm h.t.t.q.2.1),di h.t.t.t,())))))))))
def t8p:H8p->Tr (H8p⊕aw)
 | .h3 C h E z=>
  let F:=(↑(Io h.1.t.q.2.1):Int)
  let u:=zJ C (Io h.1.t.q.2.1)
  let o:=getD h.1.t.q.2.1 C.toNat (zi jb)
  let B:=[(di o.1,di o.2)]
  br (cond (Q0 (C<F)) (Q0 (C<10)) Q4)
  (Qc u
   (Qc (fB o.1) (Qc u (Qc (fB o.2) (Qc (Q0 (Io z.t.q.2.1+Io B<=1073741824)) (Q9 (H8p.h3 (Γ Δ (C+1)) h E (z.1,z.2.1,z.2.2.1,z.2.2.2.1,z.t.1,z.t.2.1,z.t.q.1,z.t.q.2.1++B,z.t.t))))))))
  (Q9
   (H8p.h7 0 h E (z.1,z.2.1,z.2.2.1,z.2.2.2.1,z.t.1,z.t.2.1,z.t.q.1,z.t.q.2.1,z.t.t.1,z.t.t.2.1,[],z.t.t.q)))
 | .h7 D h E z=>
  let F:=(↑(Io h.1.t.t.q.1):Int)
  let u:=zJ D (Io h.1.t.t.q.1)
  let o:=getD h.1.t.t.q.1 D.toNat (zi ig)
  let B:=[(di o.1,zm (dw (zm o.2)))]
  br (cond (Q0 (D<F)) (Q0 (D<10)) Q4)
  (Qc u
   (Qc (fB o.1) (Qc u (Qc (Q0 (Io z.t.t.q.1+Io B<=1073741824)) (Q9 (H8p.h7 (Γ Δ (D+1)) h E (z.1,z.2.1,z.2.2.1,z.2.2.2.1,z.t.1,z.t.2.1,z.t.q.1,z.t.q.2.1,z.t.t.1,z.t.t.2.1,z.t.t.q.1++B,z.t.t.q.2)))))))
  (re
   (agg [str z.1,str z.2.1,str z.2.2.1,sl Q6 z.2.2.2.1,sl zj z.t.1,str z.t.2.1,sl Q6 z.t.q.1,AV.vec 0,str (zf.op z.t.t.1),ai (zf.v z.t.t.1).1,ai (zf.v z.t.t.1).2.1,str (zf.v z.t.t.1).2.2,str (zf.s z.t.t.1),
   sl Q5 (zf.l z.t.t.1),sl ze z.t.t.2.1,AV.vec 1,str (zf.op z.t.t.q.2.1),ai (zf.v z.t.t.q.2.1).1,ai (zf.v z.t.t.q.2.1).2.1,str (zf.v z.t.t.q.2.1).2.2,str (zf.s z.t.t.q.2.1),
   sl Q5 (zf.l z.t.t.q.2.1),str z.t.t.t.1])
   [AO.vec (Sh.str.pr Q6) z.t.q.2.1,AO.vec (Sh.str.pr Q5) z.t.t.q.1])
def yf(h:Sem zn):=al [zn] t8p 100000000 (i8p h)
def Oh(h:Sem zn):=(yf h).isSome
def Wp(h:Sem zn):=o1 (yf h)
def F8p:=FT [zn] [zn] λx=>yf x.1
theorem zlM:FK 18 F8p:=xN.T1 (f:=Tryz.f18) (keep:=zso) (e:=e8p)
def zdl:=zdj.addL [(39,zjB),(18,F8p)]
theorem GD:zw zdl:=xN.addL<|fc ze9<|fc zlM iz
abbrev zsj:Nat->aN:=λj=>if j=3 then{slots:=[0,3,4],prom:=[(3,Q2,zh)]}else{ }
inductive H7p where
 |h3 (l0:List (Sem zh)) (i4:Int) (lh_0:List (Sem zh))
abbrev e7p:H7p->Nat×St
 |.h3 u o h=>(3,⟨tm 24 [(0,sl zh u),(3,AV.vec 0),(4,ai o)],[AO.vec zh h]⟩)
def i7p(h:Sem zh.sl):Tr (H7p⊕aw):=
 Q9 (H7p.h3 h 0 [])
def t7p:H7p->Tr (H7p⊕aw)
 | .h3 B z h=>
  let o:=B.getD z.toNat (zi zh)
  let C:=((o.1.1,o.1.2.1,o.1.2.2.1,o.1.2.2.2.1,o.1.t.1,zm o.1.t.2),o.2)
  let u:=Aw C
  let D:=[((u.1.1,u.1.2.1,u.1.2.2.1,u.1.2.2.2.1,u.1.t.1,zm u.1.t.2),u.2)]
  br (cond (Q0 (z<(↑B.length:Int))) (Q0 (z<13)) Q4)
  (Qc (zJ z (Io B))
   (Qc (Oj C) (Qc (Q0 (Io h+Io D<=1073741824)) (Q9 (H7p.h3 B (Γ Δ (z+1)) (h++D))))))
  (re (AV.vec 0)
   [AO.vec zh h])
def DA(h:Sem zh.sl):=al [zh.sl] t7p 100000000 (i7p h)
def Ok(h:Sem zh.sl):=(DA h).isSome
def Hc(h:Sem zh.sl):=o1 (DA h)
def F7p:=FT [zh.sl] [zh.sl] λx=>DA x.1
theorem zlD:FK 17 F7p:=GD.T1 (f:=Tryz.f17) (keep:=zsj) (e:=e7p)
def Lc:=zdl.add 17 F7p
theorem GF:zw Lc:=GD.add zlD
abbrev Wi:Nat->aN:=λj=>if j=3 then{slots:=[0,3,14,15,16]}else if j=11 then{slots:=[0,3,55,56,57]}else{ }
inductive xh where
 |h3 (l14:LS) (i15:Int) (i16:Int) (z0:zl bm) (jb0:LS)
 |h11 (l55:List (Sem zh)) (i56:Int) (i57:Int) (z0:zl bm) (jb0:LS)
abbrev UE:xh->Nat×St
 |.h3 C o u E h=>(3,⟨tm 122 [(0,Qf 0 0),(3,Qf 1 0),(14,sl Q6 C),(15,ai o),(16,ai u)],[Qa (bb [] bm E),Qa [sl Q6 h]]⟩)
 |.h11 D z B E h=>(11,⟨tm 122 [(0,Qf 0 0),(3,Qf 1 0),(55,sl zh D),(56,ai z),(57,ai B)],[Qa (bb [] bm E),Qa [sl Q6 h]]⟩)
theorem zoJ:zO Lc.P 116 Tryz.f116 1:=bU kw
def zaL(y:zl bm):Tr (xh⊕aw):=
 let h:=lB (y.t.1,y.t.2.1,y.t.q.1,(y.t.q.2.1,[],y.t.t.1,[],[],zm y.t.t.2.1),[],y.t.t.q.1)
 Q9 (xh.h3 h (↑(Io h):Int) 0 y h)
def J0(B:LS)(o:Int)(h:Int)(z:zl bm)(u:LS)(C:Sem zg)(D:Sem zg):Tr (xh⊕aw):=br (Q0 (h<o)) (Qc (zJ h (Io B)) (br (Q0 (C<0)) (re (ai 6) (ay bm z)) (Q9 (xh.h3 B o (Γ Δ (h+1)) z u)))) (br (cond (Q0 (D>=0)) Q3 (z.t.2.1==z.t.q.1)) (re (ai 7) (ay bm z)) (Q9 (xh.h11 z.1 (↑(Io z.1):Int) 0 z u)))
def O5(o:LS)(u:Int)(h:Int)(z:zl bm)(B:LS):Tr (xh⊕aw):=
 let C:=zX z.1 (o.getD h.toNat (zi Q6))
 let D:=zX z.1 z.2.1.2.1
 J0 o u h z B C D
def E3(B:List (Sem zh))(o:Int)(h:Int)(z:zl bm)(u:LS)(D:Sem zh)(E:Int)(F:Sem zg)(G:Sem zg)(C:Sem zh)(H:Sem zh):Tr (xh⊕aw):=br (Q0 (h<o)) (Qc (zJ h (Io B)) (br (!aB u D.1.1) (br (Q0 (E>=0)) (re (ai 10) (ay bm z)) (Q9 (xh.h11 B o (Γ Δ (h+1)) z u))) (Q9 (xh.h11 B o (Γ Δ (h+1)) z u)))) (Qc (zJ F (Io z.1)) (br (!z.t.q.1==[]) (Qc (zJ G (Io z.1)) (re (ai 0) (ay bm (z.1,z.2.1,C.1,H.1,z.t)))) (re (ai 0) (ay bm (z.1,z.2.1,C.1,z.2.2.2)))))
def JZ(u:List (Sem zh))(B:Int)(h:Int)(z:zl bm)(o:LS):Tr (xh⊕aw):=
 let C:=u.getD h.toNat (zi zh)
 let F:=zW (λx=>aB o x.2) C.1.t.1 0
 let D:=zX z.1 z.t.2.1
 let E:=zX z.1 z.t.q.1
 let G:=getD z.1 (toNat D) (zi zh)
 let H:=getD z.1 (toNat E) (zi zh)
 E3 u B h z o C F D E G H
theorem zmI(y:zl bm):rn Lc 1 Wi Tryz.f116 [Qf 0 0] (ay bm y)=(zaL y).map (lf Tryz.f116 UE):=kw
def E2:xh->Tr (xh⊕aw)
 |.h3 C o u E h=>O5 C o u E h
 |.h11 D z B E h=>JZ D z B E h
theorem zpq:∀s,run Lc 1 Wi (Func.results Tryz.f116).toList 400 (aj Tryz.f116 (UE s).1) (UE s).2=(E2 s).map (lf Tryz.f116 UE)|.h3 C o u E h=>by kernel_rfl|.h11 D z B E h=>by kernel_rfl
def rA(y:zl bm):Option (zz (Qi Q1 [zg])×zl bm):=kB [zg] bm E2 100000000 (zaL y)
def ni(y:zl bm):Bool:=(rA y).isSome
def nh(y:zl bm):(Sem zg)×zl bm:=(λr:zz (Qi Q1 [zg])×zl bm=>(r.1.1,r.2)) ((rA y).getD (bQ [zg],fK bm))
def zjW:zZ:=sE bm [] [zg] bm (λy _=>ni y) λy _=>(((nh y).1,()),(nh y).2)
theorem zfw:FK 116 zjW:=ka (keep:=Wi) (gas:=400) (n:=100000000) (e:=UE) (t:=E2) (i:=λy x=>zaL y) GF zoJ (λy x=>zmI y) zpq (λ_ _=>by kernel_rfl) (λ_ _=>by kernel_rfl)
def K9:=Lc.add 116 zjW
theorem Gz:zw K9:=GF.add zfw
abbrev dW:List CP:=[.d (.sl zh),.d zn,.d zo,.d zo,.d .str,.d .str,.d .str,.d .str,.vec zj,.d zg,.nil,.nil,.d .expr,.vec zg,.d zg]
abbrev Wl:Nat->aN:=λj=>if j=3 then{slots:=[1,3,14,15,16,0],prom:=[(0,Q1 60,.int .i64),(0,Q1 50,zj)]}else if j=12 then{slots:=[1,63,64,65,0]}else if j=1000000 then{sett:=[(0,60)]}else{ }
inductive tu where
 |h3 (l14:LS) (i15:Int) (i16:Int) (z0:zl dW)
 |h12 (i64:Int) (i65:Int) (z0:zl dW)
 |h12b (i64:Int) (i65:Int) (z0:zl dW)
abbrev UH:tu->Nat×St
 |.h3 C u B z=>(3,⟨tm 80 [(0,Qf 0 0),(1,Qf 1 0),(3,AV.clo (Fn.func 191) [] [Qf 1 0]),(14,sl Q6 C),(15,ai u),(16,ai B)],[Qa (bb [2,3] dW z),Qa [Qf 0 0],AO.vec zj z.t.t.1,AO.vec zg z.t.t.q.2.1]⟩)
 |.h12 h o z=>(12,⟨tm 80 [(0,Qf 0 0),(1,Qf 1 0),(63,AV.vec 2),(64,ai h),(65,ai o)],[Qa (bb [3,2] dW z),Qa [Qf 0 0],AO.vec zg z.t.t.q.2.1,AO.vec zj z.t.t.1]⟩)
 |.h12b h o z=>(12,⟨tm 80 [(0,Qf 0 0),(1,Qf 1 0),(63,AV.vec 2),(64,ai h),(65,ai o)],[Qa (bb [3,2] dW z),Qa [Qf 0 0],AO.frz zg z.t.t.q.2.1,AO.vec zj z.t.t.1]⟩)
theorem zo7:zO K9.P 152 Tryz.f152 1:=bU kw
def zaR(y:zl bm):Tr (tu⊕aw):=Q9 (tu.h3 y.2.1.2.2.2.1 (↑(Io y.2.1.2.2.2.1):Int) 0 (y.1,y.2.1,y.2.2.1,y.2.2.2.1,y.t.1,y.t.2.1,y.t.q.1,y.t.q.2.1,[],y.t.t.1,y.t.t.2.1,[],y.t.t.q))
def J4(u:LS)(o:Int)(h:Int)(z:zl dW)(B:Sem zg)(C:LI)(D:LC):Tr (tu⊕aw):=br (Q0 (h<o)) (Qc (zJ h (Io u)) (br (Q0 (B<0)) (re (ai 4) (ay au z)) (Qc (Q0 (Io z.t.t.q.2.1+Io C<=1073741824)) (Qc (zJ B (Io z.2.2.1.2.1)) (Qc (Q0 (Io z.t.t.1+Io D<=1073741824)) (Q9 (tu.h3 u o (Γ Δ (h+1)) (z.1,z.2.1,z.2.2.1,z.2.2.2.1,z.t.1,z.t.2.1,z.t.q.1,z.t.q.2.1,z.t.t.1++D,z.t.t.2.1,z.t.t.q.1,z.t.t.q.2.1++C,z.t.t.t)))))))) (Q9 (tu.h12 (↑z.t.t.q.2.1.length:Int) 0 z))
def O9(o:LS)(B:Int)(h:Int)(z:zl dW):Tr (tu⊕aw):=
 let u:=zR (z.2.2.1.1,z.2.2.1.2.1,z.2.2.1.2.2.1,z.2.2.1.2.2.2.1,z.2.2.1.t.1,zm z.2.2.1.t.2) (o.getD h.toNat (zi Q6))
 let C:=[u]
 let D:=[getD z.2.2.1.2.1 (toNat u) (zi zj)]
 J4 o B h z u C D
def E6(o:Int)(h:Int)(z:zl dW)(u:Int):Tr (tu⊕aw):=br (Q0 (h<o)) (Qc (zJ h (Io z.t.t.q.2.1)) (Qc (Q0 (h.toNat<Io z.t.t.q.2.1)) (Qc (Q0 (0<=0)&&Q0 (0<=h)&&Q0 (h<=u)) (br (ud (List.take (h.toNat-toNat 0) (List.drop (toNat 0) z.t.t.q.2.1)) (z.t.t.q.2.1.getD h.toNat (zi zg))) (re (ai 7) (ay au z)) (Q9 (tu.h12b o (Γ Δ (h+1)) z)))))) (re (ai 0) (ay au z))
def J3(h:Int)(o:Int)(z:zl dW):Tr (tu⊕aw):=
 let u:=(↑z.t.t.q.2.1.length:Int)
 E6 h o z u
def yM(o:Int)(h:Int)(z:zl dW)(u:Int):Tr (tu⊕aw):=br (Q0 (h<o)) (Qc (zJ h (Io z.t.t.q.2.1)) (Qc (Q0 (0<=0)&&Q0 (0<=h)&&Q0 (h<=u)) (br (ud (List.take (h.toNat-toNat 0) (List.drop (toNat 0) z.t.t.q.2.1)) (z.t.t.q.2.1.getD h.toNat (zi zg))) (re (ai 7) (ay au z)) (Q9 (tu.h12b o (Γ Δ (h+1)) z))))) (re (ai 0) (ay au z))
def E5(h:Int)(o:Int)(z:zl dW):Tr (tu⊕aw):=
 let u:=(↑z.t.t.q.2.1.length:Int)
 yM h o z u
theorem zmR(y:zl bm):rn K9 1 Wl Tryz.f152 [Qf 0 0] (ay bm y)=(zaR y).map (lf Tryz.f152 UH):=kw
def qN:tu->Tr (tu⊕aw)
 |.h3 C u B z=>O9 C u B z
 |.h12 h o z=>J3 h o z
 |.h12b h o z=>E5 h o z
theorem zpx:∀s,run K9 1 Wl (Func.results Tryz.f152).toList 400 (aj Tryz.f152 (UH s).1) (UH s).2=(qN s).map (lf Tryz.f152 UH)|.h3 C u B z=>by kernel_rfl|.h12 h o z=>by kernel_rfl|.h12b h o z=>by kernel_rfl
def Br(y:zl bm):Option (zz (Qi Q1 [zg])×zl au):=kB [zg] au qN 100000000 (zaR y)
def oz(y:zl bm):Bool:=(Br y).isSome
def kl(y:zl bm):(Sem zg)×zl au:=(λr:zz (Qi Q1 [zg])×zl au=>(r.1.1,r.2)) ((Br y).getD (bQ [zg],fK au))
def zkm:zZ:=sE bm [] [zg] au (λy _=>oz y) λy _=>(((kl y).1,()),(kl y).2)
theorem zf0:FK 152 zkm:=ka (ps:=bm) (ks:=[]) (outs:=[zg]) (keep:=Wl) (gas:=400) (n:=100000000) (e:=UH) (t:=qN) (i:=λy x=>zaR y) Gz zo7 (λy x=>zmR y) zpx (λ_ _=>by kernel_rfl) (λ_ _=>by kernel_rfl)
def GA:=K9.add 152 zkm
theorem xO:zw GA:=Gz.add zf0
abbrev Sx(y:zl bm):zl bm:=(y.1,(y.2.1.1,y.2.1.2.1,y.2.1.2.2.1,y.2.1.2.2.2.1,y.2.1.t.1,y.2.1.t.2.1,y.2.1.t.q.1,y.2.1.t.q.2.1,zm y.2.1.t.t.1,y.2.1.t.t.2.1,y.2.1.t.t.q.1,zm y.2.1.t.t.q.2.1,y.2.1.t.t.t),(y.2.2.1.1,y.2.2.1.2.1,y.2.2.1.2.2.1,y.2.2.1.2.2.2.1,y.2.2.1.t.1,zm y.2.2.1.t.2),(y.2.2.2.1.1,y.2.2.2.1.2.1,y.2.2.2.1.2.2.1,y.2.2.2.1.2.2.2.1,y.2.2.2.1.t.1,zm y.2.2.2.1.t.2),y.t.1,y.t.2.1,y.t.q.1,y.t.q.2.1,y.t.t.1,zm y.t.t.2.1,y.t.t.q.1,())
abbrev PT(y:zl au):zl au:=(y.1,(y.2.1.1,y.2.1.2.1,y.2.1.2.2.1,y.2.1.2.2.2.1,y.2.1.t.1,y.2.1.t.2.1,y.2.1.t.q.1,y.2.1.t.q.2.1,zm y.2.1.t.t.1,y.2.1.t.t.2.1,y.2.1.t.t.q.1,zm y.2.1.t.t.q.2.1,y.2.1.t.t.t),(y.2.2.1.1,y.2.2.1.2.1,y.2.2.1.2.2.1,y.2.2.1.2.2.2.1,y.2.2.1.t.1,zm y.2.2.1.t.2),(y.2.2.2.1.1,y.2.2.2.1.2.1,y.2.2.2.1.2.2.1,y.2.2.2.1.2.2.2.1,y.2.2.2.1.t.1,zm y.2.2.2.1.t.2),y.t.1,y.t.2.1,y.t.q.1,y.t.q.2.1,y.t.t.1,y.t.t.2.1,zm y.t.t.q.1,y.t.t.q.2.1,y.t.t.t.1,())
abbrev zd4:Nat->aN:=λ_=>{ }
theorem zoE:zO GA.P 110 Tryz.f110 1:=bU kw
def VQ(_:zl bm)(u:Sem zh.sl×zl [CP.d zn,CP.d zo,CP.d zo,CP.d Q6,CP.d Q6,CP.d Q6,CP.d Q6,CP.nil,CP.d zg,CP.nil,CP.nil,CP.d Q5,CP.nil,CP.d zg])(h:Sem zg×zl au)(o:Sem zg):Tr (Empty⊕aw):=Qc (oz u) (br (h.1!=0) (re (ai h.1) (ay au h.2)) (br (Q0 (o<0)) (re (ai 1) (ay au (h.2.1,h.2.2.1,h.2.2.2.1,h.t.1,h.t.2.1,h.t.q.1,h.t.q.2.1,h.t.t.1,h.t.t.2.1,o,h.t.t.q.2))) (re (ai 0) (ay au (h.2.1,h.2.2.1,h.2.2.2.1,h.t.1,h.t.2.1,h.t.q.1,h.t.q.2.1,h.t.t.1,h.t.t.2.1,o,h.t.t.q.2)))))
def VP(y:zl bm):Tr (Empty⊕aw):=
 let o:=Sx y
 let h:=kl o
 let u:=gF h.t.t.t.1 h.2.2.2.1.2.2.1
 VQ y o h u
theorem zmF(y:zl bm):rn GA 1 zd4 Tryz.f110 [Qf 0 0] (ay bm y)=(VP y).map (lf Tryz.f110 e0):=kw
def IN(y:zl bm):Option (zz (Qi Q1 [zg])×zl au):=kB [zg] au t0 100000000 (VP y)
def IM(y:zl bm):Bool:=(IN y).isSome
def Hi(y:zl bm):(Sem zg)×zl au:=(λr:zz (Qi Q1 [zg])×zl au=>(r.1.1,r.2)) ((IN y).getD (bQ [zg],fK au))
def zjP:zZ:=sE bm [] [zg] au (λy _=>IM y) λy _=>(((Hi y).1,()),(Hi y).2)
theorem zfp:FK 110 zjP:=ka (keep:=zd4) (gas:=400) (n:=100000000) (e:=e0) (t:=t0) (i:=λy x=>VP y) xO zoE (λy x=>zmF y) (Xa _ _ _ _ _) (λ_ _=>by kernel_rfl) (λ_ _=>by kernel_rfl)
abbrev zd6:Nat->aN:=λ_=>{ }
theorem zoH:zO GA.P 112 Tryz.f112 1:=bU kw
def VS(_:zl bm)(z:Sem zh.sl×zl [CP.d zn,CP.d zo,CP.d zo,CP.d Q6,CP.d Q6,CP.d Q6,CP.d Q6,CP.nil,CP.d zg,CP.nil,CP.nil,CP.d Q5,CP.nil,CP.d zg])(h:Sem zg×zl au)(B:Sem zj)(_:Sem zj)(o:LC)(u:Sem zj):Tr (Empty⊕aw):=Qc (oz z) (br (h.1!=0) (re (ai h.1) (ay au h.2)) (Qc (zJ 1 (Io h.t.t.2.1)) (Qc (Q0 (toNat 1<Io h.t.t.2.1)) (br (B.2.1!=1) (re (ai 5) (ay au h.2)) (Qc (zJ 0 (Io h.t.t.2.1)) (Qc (Q0 (toNat 0<Io h.t.t.2.1)) (Qc (zJ 1 (Io o)) (Qc (Q0 (toNat 1<Io o)) (re (ai 0) (ay au (h.2.1,h.2.2.1,h.2.2.2.1,h.t.1,h.t.2.1,h.t.q.1,h.t.q.2.1,h.t.t.1,o.set (toNat 1) (u.1,u.2.1,Q4),h.t.t.q)))))))))))
def VR(y:zl bm):Tr (Empty⊕aw):=
 let u:=Sx y
 let h:=kl u
 let B:=h.t.t.2.1.getD (toNat 1) (zi zj)
 let o:=h.t.t.2.1.getD (toNat 0) (zi zj)
 let z:=h.t.t.2.1.set (toNat 0) (o.1,o.2.1,Q3)
 let C:=z.getD (toNat 1) (zi zj)
 VS y u h B o z C
theorem zmH(y:zl bm):rn GA 1 zd6 Tryz.f112 [Qf 0 0] (ay bm y)=(VR y).map (lf Tryz.f112 e0):=kw
def Bq(y:zl bm):Option (zz (Qi Q1 [zg])×zl au):=kB [zg] au t0 100000000 (VR y)
def Bp(y:zl bm):Bool:=(Bq y).isSome
def yh(y:zl bm):(Sem zg)×zl au:=(λr:zz (Qi Q1 [zg])×zl au=>(r.1.1,r.2)) ((Bq y).getD (bQ [zg],fK au))
def zjT:zZ:=sE bm [] [zg] au (λy _=>Bp y) λy _=>(((yh y).1,()),(yh y).2)
theorem zft:FK 112 zjT:=ka (keep:=zd6) (gas:=400) (n:=100000000) (e:=e0) (t:=t0) (i:=λy x=>VR y) xO zoH (λy x=>zmH y) (Xa _ _ _ _ _) (λ_ _=>by kernel_rfl) (λ_ _=>by kernel_rfl)
def Lb:=GA.addL [(110,zjP),(112,zjT)]
theorem GB:zw Lb:=xO.addL<|fc zfp<|fc zft iz
abbrev Wh:Nat->aN:=λj=>if j=11 then{slots:=[0,83,84,85],prom:=[(0,Q1 60,.int .i64)]}else if j=1000000 then{prom:=[(0,Q1 50,zj),(0,Q1 60,.int .i64)],sett:=[(0,60)]}else{ }
inductive Fo where
 |h11 (l83:LC) (i84:Int) (i85:Int) (z0:zl dW)
abbrev UD:Fo->Nat×St
 |.h11 u h o z=>(11,⟨tm 124 [(0,Qf 0 0),(83,sl zj u),(84,ai h),(85,ai o)],[Qa (bb [1,2] dW z),AO.vec zj z.t.t.1,AO.vec zg z.t.t.q.2.1]⟩)
theorem zoG:zO Lb.P 111 Tryz.f111 1:=bU kw
def Lz(y:zl bm)(o:Sem zg)(h:Sem Q5×List (Sem zg)×Sem zg×Unit)(u:Int)(z:Int):Tr (Fo⊕aw):=br (Q0 (o<0)) (re (ai 4) (ay au (y.1,y.2.1,y.2.2.1,y.2.2.2.1,y.t.1,y.t.2.1,y.t.q.1,y.t.q.2.1,[],y.t.t.1,h))) (br (!jp y.2.2.1.t.1 (o,y.t.q.1)) (re (ai 10) (ay au (y.1,y.2.1,y.2.2.1,y.2.2.2.1,y.t.1,y.t.2.1,y.t.q.1,y.t.q.2.1,[],y.t.t.1,h))) (br (Q0 (z>8)) (re (ai 13) (ay au (y.1,y.2.1,y.2.2.1,y.2.2.2.1,y.t.1,y.t.2.1,y.t.q.1,y.t.q.2.1,[],y.t.t.1,h))) (Qc (Q0 (Io y.2.2.1.2.1<=1073741824)) (Q9 (Fo.h11 y.2.2.2.1.2.1 u 0 (y.1,y.2.1,y.2.2.1,y.2.2.2.1,y.t.1,y.t.2.1,y.t.q.1,y.t.q.2.1,y.2.2.1.2.1,y.2.2.1.2.2.1,h))))))
def IB(y:zl bm):Tr (Fo⊕aw):=
 let h:=zR (y.2.2.1.1,y.2.2.1.2.1,y.2.2.1.2.2.1,y.2.2.1.2.2.2.1,y.2.2.1.t.1,zm y.2.2.1.t.2) y.2.1.t.2.1
 let u:=(y.t.t.2.1,[],h,())
 let o:=(↑(Io y.2.2.2.1.2.1):Int)
 let z:=Γ Δ (Γ Δ ((↑(Io y.2.2.1.2.1):Int)+o)-1)
 Lz y h u o z
def E1(u:LC)(o:Int)(h:Int)(z:zl dW)(B:LC)(C:Int):Tr (Fo⊕aw):=br (Q0 (h<o)) (Qc (zJ h (Io u)) (br (h !=z.2.2.2.1.2.2.1) (Qc (Q0 (Io z.t.t.q.2.1+[h].length<=1073741824)) (Qc (Q0 (Io z.t.t.1+Io B<=1073741824)) (Q9 (Fo.h11 u o C (z.1,z.2.1,z.2.2.1,z.2.2.2.1,z.t.1,z.t.2.1,z.t.q.1,z.t.q.2.1,z.t.t.1++B,z.t.t.2.1,z.t.t.q.1,z.t.t.q.2.1++[h],z.t.t.t))))) (Q9 (Fo.h11 u o C z)))) (re (ai 0) (ay au z))
def JY(o:LC)(u:Int)(h:Int)(C:zl dW):Tr (Fo⊕aw):=
 let z:=[o.getD h.toNat (zi zj)]
 let B:=Γ Δ (h+1)
 E1 o u h C z B
theorem zmG(y:zl bm):rn Lb 1 Wh Tryz.f111 [Qf 0 0] (ay bm y)=(IB y).map (lf Tryz.f111 UD):=kw
def MZ:Fo->Tr (Fo⊕aw)
 |.h11 u h o z=>JY u h o z
theorem zpn:∀s,run Lb 1 Wh (Func.results Tryz.f111).toList 400 (aj Tryz.f111 (UD s).1) (UD s).2=(MZ s).map (lf Tryz.f111 UD)|.h11 u h o z=>by kernel_rfl
def DD(y:zl bm):Option (zz (Qi Q1 [zg])×zl au):=kB [zg] au MZ 100000000 (IB y)
def IP(y:zl bm):Bool:=(DD y).isSome
def Hj(y:zl bm):(Sem zg)×zl au:=(λr:zz (Qi Q1 [zg])×zl au=>(r.1.1,r.2)) ((DD y).getD (bQ [zg],fK au))
def zjR:zZ:=sE bm [] [zg] au (λy _=>IP y) λy _=>(((Hj y).1,()),(Hj y).2)
theorem zfr:FK 111 zjR:=ka (keep:=Wh) (gas:=400) (n:=100000000) (e:=UD) (t:=MZ) (i:=λy x=>IB y) GB zoG (λy x=>zmG y) zpn (λ_ _=>by kernel_rfl) (λ_ _=>by kernel_rfl)
def zdk:=Lb.add 111 zjR
theorem GC:zw zdk:=GB.add zfr
abbrev nl:AV:=agg [str [],str [],str [],str [],nils,ai 0,nils,nils,str [],ai 0,ai 0,str [],str [],nils,nils,ai 0]
abbrev yq(z:zl au):AV:=agg [str z.t.1,str z.t.2.1,str z.t.q.1,str z.t.q.2.1,AV.vec 0,ai z.t.t.2.1,nils,nils,str (zf.op z.t.t.q.1),ai (zf.v z.t.t.q.1).1,ai (zf.v z.t.t.q.1).2.1,str (zf.v z.t.t.q.1).2.2,str (zf.s z.t.t.q.1),sl Q5 (zf.l z.t.t.q.1),sl zg z.t.t.q.2.1,ai z.t.t.t.1]
abbrev I0(z:zl bm):AV:=agg [str z.t.1,str z.t.2.1,str z.t.q.1,str z.t.q.2.1,nils,ai z.t.t.1,nils,nils,str (zf.op z.t.t.2.1),ai (zf.v z.t.t.2.1).1,ai (zf.v z.t.t.2.1).2.1,str (zf.v z.t.t.2.1).2.2,str (zf.s z.t.t.2.1),sl Q5 (zf.l z.t.t.2.1),nils,ai z.t.t.q.1]
def Lv(_:Sem zh.sl)(S:Sem zn)(_:zf)(_:Sem Q6×Sem (Sh.str.pr (Sh.str.pr (Sh.str.sl.pr (zj.sl.pr (Sh.str.pr (Sh.str.sl.pr (jb.sl.pr (Sh.expr.pr (ze.sl.pr (ig.sl.pr (Sh.expr.pr Q6))))))))))))(_:Bool)(J:Bool)(L:Bool)(M:Bool)(_:Sem zh.sl×zl [CP.d zn,CP.d zo,CP.d zo,CP.d Q6,CP.d Q6,CP.d Q6,CP.d Q6,CP.nil,CP.d zg,CP.nil,CP.nil,CP.d Q5,CP.nil,CP.d zg])(O:Bool)(D:Sem zg×zl bm)(F:Bool)(E:Sem zh.sl×zl [CP.d zn,CP.d zo,CP.d zo,CP.d Q6,CP.d Q6,CP.d Q6,CP.d Q6,CP.nil,CP.d zg,CP.nil,CP.nil,CP.d Q5,CP.nil,CP.d zg])(h:Sem zg×zl au)(G:Sem zh.sl×zl [CP.d zn,CP.d zo,CP.d zo,CP.d Q6,CP.d Q6,CP.d Q6,CP.d Q6,CP.vec zj,CP.d zg,CP.nil,CP.nil,CP.d Q5,CP.d zg.sl,CP.d zg])(z:Sem zg×zl au)(o:Sem zg×zl au)(H:Sem zh.sl×zl [CP.d zn,CP.d zo,CP.d zo,CP.d Q6,CP.d Q6,CP.d Q6,CP.d Q6,CP.vec zj,CP.d zg,CP.nil,CP.nil,CP.d Q5,CP.d zg.sl,CP.d zg])(B:Sem zg×zl au)(u:Sem zg×zl au)(I:Sem zh.sl×zl [CP.d zn,CP.d zo,CP.d zo,CP.d Q6,CP.d Q6,CP.d Q6,CP.d Q6,CP.vec zj,CP.d zg,CP.nil,CP.nil,CP.d Q5,CP.d zg.sl,CP.d zg])(C:Sem zg×zl au):Tr (Empty⊕aw):=
 Qc Q3 (Qc Q3 (Qc Q3 (br (S.1==cT) (Qc J (br L (re (tup [nl,ai 1]) []) (Qc M (Qc O (br F (Qc (IM E) (br (h.1==0) (Qc (gG G) (br (z.1!=0) (re (tup [nl,ai z.1]) []) (re (tup [(yq z.2),ai 0]) [AO.vec zj z.t.t.2.1]))) (br (h.1!=0) (re (tup [nl,ai h.1]) []) (re (tup [(yq h.2),ai 0]) [AO.vec zj h.t.t.2.1])))) (br F Tr.err (br (D.1!=0) (re (tup [nl,ai D.1]) []) (re (tup [(I0 D.2),ai 0]) [])))))))) (br (S.1==eX) (Qc J (br L (re (tup [nl,ai 1]) []) (Qc M (Qc O (br F (Qc (IP E) (br (o.1==0) (Qc (gG H) (br (B.1!=0) (re (tup [nl,ai B.1]) []) (re (tup [(yq B.2),ai 0]) [AO.vec zj B.t.t.2.1]))) (br (o.1!=0) (re (tup [nl,ai o.1]) []) (re (tup [(yq o.2),ai 0]) [AO.vec zj o.t.t.2.1])))) (br F Tr.err (br (D.1!=0) (re (tup [nl,ai D.1]) []) (re (tup [(I0 D.2),ai 0]) [])))))))) (br (S.1==kq) (Qc J (br L (re (tup [nl,ai 1]) []) (Qc M (Qc O (br F (Qc (Bp E) (br (u.1==0) (Qc (gG I) (br (C.1!=0) (re (tup [nl,ai C.1]) []) (re (tup [(yq C.2),ai 0]) [AO.vec zj C.t.t.2.1]))) (br (u.1!=0) (re (tup [nl,ai u.1]) []) (re (tup [(yq u.2),ai 0]) [AO.vec zj u.t.t.2.1])))) (br F Tr.err (br (D.1!=0) (re (tup [nl,ai D.1]) []) (re (tup [(I0 D.2),ai 0]) [])))))))) (re (tup [nl,ai 1]) []))))))
def zhq(H:Sem zh.sl)(h:Sem zn):Tr (Empty⊕aw):=
 let F:=zm h.t.t.1
 let G:=(h.1,h.2.1,h.2.2.1,h.2.2.2.1,h.t.1,h.t.2.1,h.t.q.1,h.t.q.2.1,F,h.t.t.2.1,h.t.t.q.1,zm h.t.t.q.2.1,h.t.t.t)
 let M:=!ew G
 let T:=oW G&&bif M then Q3 else nT H
 let U:=bif M then Q3 else ld H !=0
 let W:=sG 16 F
 let O:=(H,G,([],[],0,[],[],zf.mk [] (0,0,[]) [] []),([],[],0,[],[],zf.mk [] (0,0,[]) [] []),h.1,h.2.2.1,h.t.t.t,h.2.1,0,F,0,())
 let X:=ni O
 let S:=nh O
 let Y:=S.1==0
 let o:=Sx S.2
 let u:=Hi o
 let z:=PT u.2
 let I:=fC z
 let B:=Hj o
 let C:=PT B.2
 let J:=fC C
 let D:=yh o
 let E:=PT D.2
 let L:=fC E
 Lv H h F G M T U W O X S Y o u z I B C J D E L
def L8(h:Sem zh.sl)(o:Sem zn):=al [zq,zg] t0 100000000 (zhq h o)
def zit(h:Sem zh.sl)(o:Sem zn):=(L8 h o).isSome
def pOf(h:Sem zh.sl)(o:Sem zn):=o2 (L8 h o)
def zjb:=FT [zh.sl,zn] [zq,zg] λx=>L8 x.1 x.2.1
theorem zeI:FK 74 zjb:=GC.T1 (f:=Tryz.f74) (keep:=k0) (e:=e0)
def PM:=zdk.add 74 zjb
theorem mY:zw PM:=GC.add zeI
abbrev aC:List CP:=[.d (.sl zp),.d zg,.d .bool]
def zdN(h:Sem (Sh.int IntKind.u8)):Tr (Empty⊕aw):=
 let o:=bif Q0 (97<=h)then Q0 (h<=122)else Q4
 re (AV.bool (cond (Q0 (65<=h)) (cond (Q0 (h<=90)) Q3 o) o)) []
def nD(h:Sem (Sh.int IntKind.u8)):=al [Q7] t0 100000000 (zdN h)
def kU(h:Sem (Sh.int IntKind.u8)):=(nD h).isSome
def nC(h:Sem (Sh.int IntKind.u8)):=o1 (nD h)
def zcs:=FT [Sh.int IntKind.u8] [Q7] λx=>nD x.1
theorem Zb:FK 141 zcs:=mY.T1 (f:=Tryz.f141) (keep:=k0) (e:=e0)
def zm1(h:Sem (Sh.int IntKind.u8)):Tr (Empty⊕aw):=
 re (AV.bool (cond (Q0 (48<=h)) (Q0 (h<=57)) Q4)) []
def wn(h:Sem (Sh.int IntKind.u8)):=al [Q7] t0 100000000 (zm1 h)
def fP(h:Sem (Sh.int IntKind.u8)):=(wn h).isSome
def gQ(h:Sem (Sh.int IntKind.u8)):=o1 (wn h)
def zcu:=FT [Sh.int IntKind.u8] [Q7] λx=>wn x.1
theorem Zd:FK 143 zcu:=mY.T1 (f:=Tryz.f143) (keep:=k0) (e:=e0)
abbrev zof:=kR [(2,[0,1,5])]
inductive RC where
 |h2 (l0:LS) (s1:TS) (i5:Int)
abbrev zqZ:RC->Nat×St
 |.h2 o u h=>(2,⟨tm 18 [(0,sl Q6 o),(1,str u),(5,ai h)],[]⟩)
def zsa(h:Sem Sh.str.sl)(o:TS):Tr (RC⊕aw):=
 Q9 (RC.h2 h o 0)
def Pa:RC->Tr (RC⊕aw)
 | .h2 o u h=>
  br (Q0 (h<(↑o.length:Int)))
  (Qc (zJ h (Io o)) (br (o.getD h.toNat (zi Q6)==u) (re (kb Q3) []) (Q9 (RC.h2 o u (Γ Δ (h+1))))))
  (re (kb Q4) [])
def QO(h:Sem Sh.str.sl)(o:TS):=al [Q7] Pa 100000000 (zsa h o)
def AD(h:Sem Sh.str.sl)(o:TS):=(QO h o).isSome
def MD(h:Sem Sh.str.sl)(o:TS):=o1 (QO h o)
def zkC:=FT [Sh.str.sl,Q6] [Q7] λx=>QO x.1 x.2.1
theorem zgf:FK 91 zkC:=mY.T1 (f:=Tryz.f91) (keep:=zof) (e:=zqZ)
abbrev Wb:Nat->aN:=λ_=>{ }
theorem zic:zO PM.P 99 Tryz.f99 2:=bU kw
def VG(y:zl aC)(D:TS):Tr (Empty⊕aw):=
 let u:=Q0 (y.2.1<(↑(Io y.1):Int))
 let h:=zJ y.2.1 (Io y.1)
 let o:=getD y.1 (toNat y.2.1) (zi zp)
 let z:=o.1==1
 let B:=o.1==4
 let C:=o.2==D
 Qc (cond u (h&&bif z then h else h&&bif B then h else Q3) Q3)
 (re (AV.bool (cond u (cond z C (cond B C Q4)) Q4)) (ay aC y))
theorem zg8(y:zl aC)(h:TS):rn PM 1 Wb Tryz.f99 [Qf 0 0,zC Q6 h] (ay aC y)=(VG y h).map (lf Tryz.f99 e0):=kw
def X0(y:zl aC)(h:TS):Option (zz (Qi Q1 [Q7])×zl aC):=kB [Q7] aC t0 100000000 (VG y h)
def JG(y:zl aC)(h:TS):Bool:=(X0 y h).isSome
def MI(y:zl aC)(h:TS):(Sem Q7)×zl aC:=(λr:zz (Qi Q1 [Q7])×zl aC=>(r.1.1,r.2)) ((X0 y h).getD (bQ [Q7],fK aC))
def zcc:zZ:=sE aC [Q6] [Q7] aC (λy x=>JG y x.1) λy x=>(((MI y x.1).1,()),(MI y x.1).2)
theorem YV:FK 99 zcc:=ka (ps:=aC) (ks:=[Q6]) (outs:=[Q7]) (keep:=Wb) (gas:=400) (n:=100000000) (e:=e0) (t:=t0) (i:=λy x=>VG y x.1) mY zic (λy x=>zg8 y x.1) (Xa _ _ _ _ _) (λ_ _=>by kernel_rfl) (λ_ _=>by kernel_rfl)
def pY:=PM.addL [(141,zcs),(143,zcu),(91,zkC),(99,zcc)]
theorem jo:zw pY:=mY.addL<|fc Zb<|fc Zd<|fc zgf<|fc YV iz
abbrev zhJ:=kR [(2,[1,3])]
inductive B9 where
 |h2 (i3:Int) (z0:zl [CP.d ze])
abbrev zmg:B9->Nat×St
 |.h2 h z=>(2,⟨tm 66 [(1,Qf 0 0),(3,ai h)],[Qa (bb [] [CP.d ze] z)]⟩)
def zdI(h:Sem ze):Tr (B9⊕aw):=
 Q9 (B9.h2 0 (h,()))
def tn:B9->Tr (B9⊕aw)
 | .h2 o z=>
  let B:=(↑(Io z.1.2.2):Int)
  let C:=zJ o (Io z.1.2.2)
  let D:=(↑(getD z.1.2.2 o.toNat 0).toNat:Int)
  let E:=Q0 (D<32)
  let u:=z.1.2.1==0
  let h:=z.1.2.2==[]
  br (Q0 (o<B))
  (Qc (C&&bif E then Q3 else C)
   (br (cond E Q3 (Q0 (D>126))) (re (kb Q4) []) (Q9 (B9.h2 (Γ Δ (o+1)) z))))
  (br (z.1.1==0) (re (AV.bool (cond u h Q4)) [])
   (br (z.1.1==1) (re (AV.bool h) []) (br (z.1.1==2) (re (AV.bool (cond u (Q0 (B<=40)) Q4)) []) (br (z.1.1==3) (re (AV.bool (cond u h (cond (z.1.2.1==1) h Q4))) []) (re (kb Q4) [])))))
def I9(h:Sem ze):=al [Q7] tn 100000000 (zdI h)
def mC(h:Sem ze):=(I9 h).isSome
def tj(h:Sem ze):=o1 (I9 h)
def zb3:=FT [ze] [Q7] λx=>I9 x.1
theorem YL:FK 61 zb3:=jo.T1 (f:=Tryz.f61) (keep:=zhJ) (e:=zmg)
def zm2(h:Sem Q7):Tr (Empty⊕aw):=
 br h (re (agg [ai 3,ai 1,str []]) []) (re (agg [ai 3,ai 0,str []]) [])
def wb(h:Sem Q7):=al [ze] t0 100000000 (zm2 h)
def lG(h:Sem Q7):=(wb h).isSome
def bc(h:Sem Q7):=o1 (wb h)
def zcy:=FT [Q7] [ze] λx=>wb x.1
theorem Zh:FK 59 zcy:=jo.T1 (f:=Tryz.f59) (keep:=k0) (e:=e0)
abbrev Wg:Nat->aN:=λ_=>{ }
theorem zii:zO pY.P 147 Tryz.f147 1:=bU kw
def VM(h:TS):Tr (Empty⊕aw):=
 re
 (AV.bool
  (bif h==em then Q3
  else bif h==uQ then Q3 else bif h==[61]then Q3 else bif h==[60]then Q3 else bif h==[43]then Q3 else h==[45]))
 []
theorem zhj(h:TS):rn pY 0 Wg Tryz.f147 [zC Q6 h] []=(VM h).map (lf Tryz.f147 e0):=kw
def OK(h:TS):Option (zz (Qi Q1 [Q7])):=al [Q7] t0 100000000 (VM h)
def Jh(h:TS):Bool:=(OK h).isSome
def QM(h:TS):Sem Q7:=(λr:zz (Qi Q1 [Q7])=>r.1) ((OK h).getD (bQ [Q7]))
def zcO:zZ:=zT [Q6] [Q7] (λx=>Jh x.1) λx=>(QM x.1,())
theorem Zw:FK 147 zcO:=kY (ks:=[Q6]) (outs:=[Q7]) (keep:=Wg) (gas:=400) (n:=100000000) (e:=e0) (t:=t0) (i:=λx=>VM x.1) jo zii (λx=>zhj x.1) (Xa _ _ _ _ _) (λ_=>by kernel_rfl) (λ_=>by kernel_rfl)
abbrev Wk:Nat->aN:=λj=>if j=2 then{slots:=[0,1,5]}else{ }
inductive Kr where
 |h2 (l0:LC) (s1:TS) (i5:Int)
abbrev UG:Kr->Nat×St
 |.h2 o u h=>(2,⟨tm 20 [(0,sl zj o),(1,str u),(5,ai h)],[]⟩)
theorem zoQ:zO pY.P 50 Tryz.f50 2:=bU kw
def zaN(h:Sem zj.sl)(o:TS):Tr (Kr⊕aw):=
 Q9 (Kr.h2 h o 0)
def J2(o:LC)(u:TS)(h:Int)(z:Sem zj):Tr (Kr⊕aw):=
 br (Q0 (h<(↑o.length:Int)))
 (Qc (zJ h (Io o)) (br (z.1==u) (re (ai h) []) (Q9 (Kr.h2 o u (Γ Δ (h+1))))))
 (re (ai (-1)) [])
def O8(o:LC)(z:TS)(h:Int):Tr (Kr⊕aw):=
 let u:=o.getD h.toNat (zi zj)
 J2 o z h u
theorem zmK(h:Sem zj.sl)(o:TS):rn pY 0 Wk Tryz.f50 [zC zj.sl h,zC Q6 o] []=(zaN h o).map (lf Tryz.f50 UG):=kw
def O7:Kr->Tr (Kr⊕aw)
 |.h2 o u h=>O8 o u h
theorem zps:∀s,run pY 0 Wk (Func.results Tryz.f50).toList 400 (aj Tryz.f50 (UG s).1) (UG s).2=(O7 s).map (lf Tryz.f50 UG)
 |.h2 o u h=>by kernel_rfl
def Ei(h:Sem zj.sl)(o:TS):Option (zz (Qi Q1 [zg])):=al [zg] O7 100000000 (zaN h o)
def dM(h:Sem zj.sl)(o:TS):Bool:=(Ei h o).isSome
def eR(h:Sem zj.sl)(o:TS):Sem zg:=(λr:zz (Qi Q1 [zg])=>r.1) ((Ei h o).getD (bQ [zg]))
def zj3:zZ:=zT [zj.sl,Q6] [zg] (λx=>dM x.1 x.2.1) λx=>(eR x.1 x.2.1,())
theorem zfD:FK 50 zj3:=kY (ks:=[zj.sl,Q6]) (outs:=[zg]) (keep:=Wk) (gas:=400) (n:=100000000) (e:=UG) (t:=O7) (i:=λx=>zaN x.1 x.2.1) jo zoQ (λx=>zmK x.1 x.2.1) zps (λ_=>by kernel_rfl) (λ_=>by kernel_rfl)
def K0(g:Sem Q5->Sem Q5->Sem Q7)(c:Sem Q5->Sem Q5->Bool):bZ:=pY.add 134 (zT [Q5,Q5] [Q7] (λx=>c x.1 x.2.1) λx=>(g x.1 x.2.1,()))
theorem Sk{g:Sem Q5->Sem Q5->Sem Q7}{c:Sem Q5->Sem Q5->Bool}(h:FK 134 (zT [Q5,Q5] [Q7] (λx=>c x.1 x.2.1) λx=>(g x.1 x.2.1,()))):zw (K0 g c):=jo.add h
abbrev Wn:Nat->aN:=λj=>if j=4 then{slots:=[2,3,5]}else{ }
inductive Kv where
 |h4 (i5:Int) (z0:zl [CP.d Q5]) (z1:zl [CP.d Q5])
abbrev UJ:Kv->Nat×St
 |.h4 h z o=>(4,⟨tm 53 [(2,Qf 0 0),(3,Qf 1 0),(5,ai h)],[Qa (bb [] [CP.d Q5] z),Qa (bb [] [CP.d Q5] o)]⟩)
theorem zpc(g:Sem Q5->Sem Q5->Sem Q7)(c:Sem Q5->Sem Q5->Bool):zO (K0 g c).P 134 Tryz.f134 2:=bU kw
def Ds(_:Sem Q5->Sem Q5->Sem Q7)(_:Sem Q5->Sem Q5->Bool)(h:Sem Q5)(o:Sem Q5):Tr (Kv⊕aw):=
 br
 (bif !zf.op h==zf.op o then Q3
 else
  bif !((zf.v h).1==(zf.v o).1&&((zf.v h).2.1==(zf.v o).2.1&&((zf.v h).2.2==(zf.v o).2.2&&Q3)))then Q3
  else bif !zf.s h==zf.s o then Q3 else(↑(zf.l h).length:Int)!=(↑(zf.l o).length:Int))
 (re (kb Q4) []) (Q9 (Kv.h4 0 (h,()) (o,())))
def B5(g:Sem Q5->Sem Q5->Sem Q7)(c:Sem Q5->Sem Q5->Bool)(h:Int)(z:zl [CP.d Q5])(B:zl [CP.d Q5])(C:Int)(o:zf)(u:zf):Tr (Kv⊕aw):=
 br (Q0 (h<C))
 (Qc (zJ h (zf.l z.1).length)
  (Qc (zJ h (zf.l B.1).length) (Qc (c o u) (br (!g o u) (re (kb Q4) []) (Q9 (Kv.h4 (Γ Δ (h+1)) z B))))))
 (re (kb Q3) [])
def J7(g:Sem Q5->Sem Q5->Sem Q7)(c:Sem Q5->Sem Q5->Bool)(h:Int)(z:zl [CP.d Q5])(o:zl [CP.d Q5]):Tr (Kv⊕aw):=
 let u:=(↑(zf.l z.1).length:Int)
 let B:=zm ((zf.l z.1).getD h.toNat (zi Q5))
 let C:=zm ((zf.l o.1).getD h.toNat (zi Q5))
 B5 g c h z o u B C
theorem zmV(g:Sem Q5->Sem Q5->Sem Q7)(c:Sem Q5->Sem Q5->Bool)(h:Sem Q5)(o:Sem Q5):rn (K0 g c) 0 Wn Tryz.f134 [zC Q5 h,zC Q5 o] []=(Ds g c h o).map (lf Tryz.f134 UJ):=kw
def J6(g:Sem Q5->Sem Q5->Sem Q7)(c:Sem Q5->Sem Q5->Bool):Kv->Tr (Kv⊕aw)
 |.h4 h z o=>J7 g c h z o
theorem zpz(g:Sem Q5->Sem Q5->Sem Q7)(c:Sem Q5->Sem Q5->Bool):∀s,run (K0 g c) 0 Wn (Func.results Tryz.f134).toList 400 (aj Tryz.f134 (UJ s).1) (UJ s).2=(J6 g c s).map (lf Tryz.f134 UJ)
 |.h4 h z o=>by kernel_rfl
def gP(o:Option (zz (Qi Q1 [Q7]))):Sem Q7:=(λr:zz (Qi Q1 [Q7])=>r.1) (o.getD (bQ [Q7]))
def Jc(g:Sem Q5->Sem Q5->Sem Q7)(c:Sem Q5->Sem Q5->Bool)(h:Sem Q5)(o:Sem Q5):Option (zz (Qi Q1 [Q7])):=al [Q7] (J6 g c) 3000000000 (Ds g c h o)
def bS:Nat->Sem Q5->Sem Q5->Option (zz (Qi Q1 [Q7]))
 |0=>λ_ _=>Q2
 |n+1=>Jc (λh o=>gP (bS n h o)) λh o=>(bS n h o).isSome
theorem zhG:zO pY.P 134 Tryz.f134 2:=bU kw
theorem Pn:∀n,FK 134 (zT [Q5,Q5] [Q7] (λx=>(bS n x.1 x.2.1).isSome) λx=>(gP (bS n x.1 x.2.1),()))
 |0=>eY ⟨Tryz.f134,zhG.1,zhG.2.1,zhG.2.2.1⟩ (λ_=>rfl)
 |n+1=>kY (E:=K0 (λh o=>gP (bS n h o)) (λh o=>(bS n h o).isSome)) (ks:=[Q5,Q5]) (outs:=[Q7]) (keep:=Wn) (gas:=400) (n:=3000000000) (e:=UJ) (t:=J6 (λh o=>gP (bS n h o)) (λh o=>(bS n h o).isSome)) (i:=λx=>Ds (λh o=>gP (bS n h o)) (λh o=>(bS n h o).isSome) x.1 x.2.1) (Sk (Pn n)) (zpc _ _) (λx=>zmV _ _ x.1 x.2.1) (zpz _ _) (λ_=>by kernel_rfl) (λ_=>by kernel_rfl)
def BE(h:Sem Q5)(o:Sem Q5):Option (zz (Qi Q1 [Q7])):=bS 16 h o
def gO(h:Sem Q5)(o:Sem Q5):Bool:=(BE h o).isSome
def ft(h:Sem Q5)(o:Sem Q5):Sem Q7:=gP (BE h o)
def zkx:zZ:=zT [Q5,Q5] [Q7] (λx=>gO x.1 x.2.1) λx=>(ft x.1 x.2.1,())
theorem zga:FK 134 zkx:=Pn 16
def CR(g:Sem Q5->Sem zg)(c:Sem Q5->Bool):bZ:=pY.add 104 (zT [Q5] [zg] (λx=>c x.1) λx=>(g x.1,()))
theorem NH{g:Sem Q5->Sem zg}{c:Sem Q5->Bool}(h:FK 104 (zT [Q5] [zg] (λx=>c x.1) λx=>(g x.1,()))):zw (CR g c):=jo.add h
abbrev Of:Nat->aN:=λj=>if j=3 then{slots:=[1,3,4]}else{ }
inductive uD where
 |h3 (i3:Int) (i4:Int) (z0:zl [CP.d Q5])
abbrev KU:uD->Nat×St
 |.h3 h o z=>(3,⟨tm 21 [(1,Qf 0 0),(3,ai h),(4,ai o)],[Qa (bb [] [CP.d Q5] z)]⟩)
theorem zig(g:Sem Q5->Sem zg)(c:Sem Q5->Bool):zO (CR g c).P 104 Tryz.f104 1:=bU kw
def PY(_:Sem Q5->Sem zg)(_:Sem Q5->Bool)(h:Sem Q5):Tr (uD⊕aw):=
 Q9 (uD.h3 1 0 (h,()))
def EY(g:Sem Q5->Sem zg)(c:Sem Q5->Bool)(u:Int)(h:Int)(z:zl [CP.d Q5])(B:Int)(o:zf):Tr (uD⊕aw):=
 br (Q0 (h<B))
 (Qc (zJ h (zf.l z.1).length) (Qc (c o) (Q9 (uD.h3 (Γ Δ (u+g o)) (Γ Δ (h+1)) z))))
 (re (ai u) [])
def JX(g:Sem Q5->Sem zg)(c:Sem Q5->Bool)(B:Int)(h:Int)(z:zl [CP.d Q5]):Tr (uD⊕aw):=
 let o:=(↑(zf.l z.1).length:Int)
 let u:=zm ((zf.l z.1).getD h.toNat (zi Q5))
 EY g c B h z o u
theorem zhf(g:Sem Q5->Sem zg)(c:Sem Q5->Bool)(h:Sem Q5):rn (CR g c) 0 Of Tryz.f104 [zC Q5 h] []=(PY g c h).map (lf Tryz.f104 KU):=kw
def EX(g:Sem Q5->Sem zg)(c:Sem Q5->Bool):uD->Tr (uD⊕aw)
 |.h3 h o z=>JX g c h o z
theorem zin(g:Sem Q5->Sem zg)(c:Sem Q5->Bool):∀s,run (CR g c) 0 Of (Func.results Tryz.f104).toList 400 (aj Tryz.f104 (KU s).1) (KU s).2=(EX g c s).map (lf Tryz.f104 KU)
 |.h3 h o z=>by kernel_rfl
def iK(o:Option (zz (Qi Q1 [zg]))):Sem zg:=(λr:zz (Qi Q1 [zg])=>r.1) (o.getD (bQ [zg]))
def Mr(g:Sem Q5->Sem zg)(c:Sem Q5->Bool)(h:Sem Q5):Option (zz (Qi Q1 [zg])):=al [zg] (EX g c) 100000000 (PY g c h)
def cD:Nat->Sem Q5->Option (zz (Qi Q1 [zg]))
 |0=>λ_=>Q2
 |n+1=>Mr (λh=>iK (cD n h)) λh=>(cD n h).isSome
theorem V2:zO pY.P 104 Tryz.f104 1:=bU kw
theorem Kl:∀n,FK 104 (zT [Q5] [zg] (λx=>(cD n x.1).isSome) λx=>(iK (cD n x.1),()))
 |0=>eY ⟨Tryz.f104,V2.1,V2.2.1,V2.2.2.1⟩ (λ_=>rfl)
 |n+1=>kY (E:=CR (λh=>iK (cD n h)) (λh=>(cD n h).isSome)) (ks:=[Q5]) (outs:=[zg]) (keep:=Of) (gas:=400) (n:=100000000) (e:=KU) (t:=EX (λh=>iK (cD n h)) (λh=>(cD n h).isSome)) (i:=λx=>PY (λh=>iK (cD n h)) (λh=>(cD n h).isSome) x.1) (NH (Kl n)) (zig _ _) (λx=>zhf _ _ x.1) (zin _ _) (λ_=>by kernel_rfl) (λ_=>by kernel_rfl)
def Eh(h:Sem Q5):Option (zz (Qi Q1 [zg])):=cD 16 h
def wh(h:Sem Q5):Bool:=(Eh h).isSome
def BH(h:Sem Q5):Sem zg:=iK (Eh h)
def zcx:zZ:=zT [Q5] [zg] (λx=>wh x.1) λx=>(BH x.1,())
theorem Zg:FK 104 zcx:=Kl 16
def Il:=pY.addL [(61,zb3),(59,zcy),(147,zcO),(50,zj3),(134,zkx),(104,zcx)]
theorem ll:zw Il:=jo.addL<|fc YL<|fc Zh<|fc Zw<|fc zfD<|fc zga<|fc Zg iz
def zdO(h:Sem (Sh.int IntKind.u8)):Tr (Empty⊕aw):=
 Qc (fP h&&bif gQ h then Q3 else kU h) (re (AV.bool (cond (gQ h) Q3 (cond (nC h) Q3 (h==95)))) [])
def wo(h:Sem (Sh.int IntKind.u8)):=al [Q7] t0 100000000 (zdO h)
def r9(h:Sem (Sh.int IntKind.u8)):=(wo h).isSome
def yD(h:Sem (Sh.int IntKind.u8)):=o1 (wo h)
def zct:=FT [Sh.int IntKind.u8] [Q7] λx=>wo x.1
theorem Zc:FK 142 zct:=ll.T1 (f:=Tryz.f142) (keep:=k0) (e:=e0)
abbrev zhS:=kR [(3,[0,3,4])]
inductive FV where
 |h3 (s0:TS) (l3:LS) (i4:Int)
abbrev zmn:FV->Nat×St
 |.h3 u o h=>(3,⟨tm 18 [(0,str u),(3,sl Q6 o),(4,ai h)],[]⟩)
def VJ(h:TS):Tr (FV⊕aw):=
 Q9
 (FV.h3 h
  [Uh,[79,82],[78,79,84],[73,83],Fv,H8,H7,Z7,zaj,[75,69,89],[85,78,73,81,85,69],zl5,ij,zab,zad,
  zae,zal,zak,[83,69,84],gE,Z9,uP,zai,zac,zag,RY,[87,82,73,84,69],Fw,[84,79],
  zaf,RV,RX,RW,Fu,Fx,Cy,Cz,Cx]
  0)
def EW:FV->Tr (FV⊕aw)
 | .h3 u o h=>
  br (Q0 (h<(↑o.length:Int)))
  (Qc (zJ h (Io o)) (br (o.getD h.toNat (zi Q6)==u) (re (kb Q3) []) (Q9 (FV.h3 u o (Γ Δ (h+1))))))
  (re (kb Q4) [])
def Jv(h:TS):=al [Q7] EW 100000000 (VJ h)
def Ew(h:TS):=(Jv h).isSome
def MA(h:TS):=o1 (Jv h)
def zcr:=FT [Q6] [Q7] λx=>Jv x.1
theorem Za:FK 133 zcr:=ll.T1 (f:=Tryz.f133) (keep:=zhS) (e:=zmn)
abbrev V6:Nat->aN:=λ_=>{ }
theorem zh8:zO Il.P 92 Tryz.f92 2:=bU kw
def VC(y:zl aC)(u:TS):Tr (Empty⊕aw):=
 let o:=(y.1,y.2.1,y.2.2.1,())
 let h:=MI o u
 Qc (JG o u)
 (br h.1 (re (kb Q3) (ay aC (h.2.1,Γ Δ (h.2.2.1+1),h.2.2.2)))
  (re (kb Q4) (ay aC h.2)))
theorem zg4(y:zl aC)(h:TS):rn Il 1 V6 Tryz.f92 [Qf 0 0,zC Q6 h] (ay aC y)=(VC y h).map (lf Tryz.f92 e0):=kw
def QT(y:zl aC)(h:TS):Option (zz (Qi Q1 [Q7])×zl aC):=kB [Q7] aC t0 100000000 (VC y h)
def eb(y:zl aC)(h:TS):Bool:=(QT y h).isSome
def fw(y:zl aC)(h:TS):(Sem Q7)×zl aC:=(λr:zz (Qi Q1 [Q7])×zl aC=>(r.1.1,r.2)) ((QT y h).getD (bQ [Q7],fK aC))
def zb7:zZ:=sE aC [Q6] [Q7] aC (λy x=>eb y x.1) λy x=>(((fw y x.1).1,()),(fw y x.1).2)
theorem YP:FK 92 zb7:=ka (ps:=aC) (ks:=[Q6]) (outs:=[Q7]) (keep:=V6) (gas:=400) (n:=100000000) (e:=e0) (t:=t0) (i:=λy x=>VC y x.1) ll zh8 (λy x=>zg4 y x.1) (Xa _ _ _ _ _) (λ_ _=>by kernel_rfl) (λ_ _=>by kernel_rfl)
abbrev zod:=kR [(6,[2,3,5]),(11,[2,3,6]),(16,[2,3,7]),(21,[2,3,8]),(26,[2,3,9]),(31,[2,3,10])]
inductive sC where
 |h6 (i5:Int) (z0:zl pC) (z1:zl pC)
 |h11 (i6:Int) (z0:zl pC) (z1:zl pC)
 |h16 (i7:Int) (z0:zl pC) (z1:zl pC)
 |h21 (i8:Int) (z0:zl pC) (z1:zl pC)
 |h26 (i9:Int) (z0:zl pC) (z1:zl pC)
 |h31 (i10:Int) (z0:zl pC) (z1:zl pC)
abbrev zqX:sC->Nat×St
 |.h6 u z h=>(6,⟨tm 238 [(2,Qf 0 0),(3,Qf 1 0),(5,ai u)],[Qa (bb [] pC z),Qa (bb [] pC h)]⟩)
 |.h11 B z h=>(11,⟨tm 238 [(2,Qf 0 0),(3,Qf 1 0),(6,ai B)],[Qa (bb [] pC z),Qa (bb [] pC h)]⟩)
 |.h16 C z h=>(16,⟨tm 238 [(2,Qf 0 0),(3,Qf 1 0),(7,ai C)],[Qa (bb [] pC z),Qa (bb [] pC h)]⟩)
 |.h21 D z h=>(21,⟨tm 238 [(2,Qf 0 0),(3,Qf 1 0),(8,ai D)],[Qa (bb [] pC z),Qa (bb [] pC h)]⟩)
 |.h26 E z h=>(26,⟨tm 238 [(2,Qf 0 0),(3,Qf 1 0),(9,ai E)],[Qa (bb [] pC z),Qa (bb [] pC h)]⟩)
 |.h31 o z h=>(31,⟨tm 238 [(2,Qf 0 0),(3,Qf 1 0),(10,ai o)],[Qa (bb [] pC z),Qa (bb [] pC h)]⟩)
def zaS(h:Sem zn)(o:Sem zn):Tr (sC⊕aw):=
 let u:=!h.1==o.1
 let z:=!h.2.1==o.2.1
 let B:=!h.2.2.1==o.2.2.1
 let C:=!h.t.2.1==o.t.2.1
 let D:=!h.t.t.t==o.t.t.t
 let E:=zm h.t.t.1
 let F:=zm o.t.t.1
 let G:=!ft E F
 let H:=zm h.t.t.q.2.1
 let I:=zm o.t.t.q.2.1
 Qc
 (bif u then Q3
 else bif z then Q3 else bif B then Q3 else bif C then Q3 else bif D then Q3 else gO E F&&bif G then Q3 else gO H I)
 (br (cond u Q3 (cond z Q3 (cond B Q3 (cond C Q3 (cond D Q3 (cond G Q3 (!ft H I)))))))
  (re (kb Q4) [])
  (br (bif (↑(Io h.2.2.2.1):Int)!=(↑(Io o.2.2.2.1):Int)then Q3 else bif (↑(Io h.t.1):Int)!=(↑(Io o.t.1):Int)then Q3 else bif (↑(Io h.t.q.1):Int)!=(↑(Io o.t.q.1):Int)then Q3 else bif (↑(Io h.t.q.2.1):Int)!=(↑(Io o.t.q.2.1):Int)then Q3
  else bif (↑(Io h.t.t.2.1):Int)!=(↑(Io o.t.t.2.1):Int)then Q3 else(↑(Io h.t.t.q.1):Int)!=(↑(Io o.t.t.q.1):Int)) (re (kb Q4) []) (Q9 (sC.h6 0 (h,()) (o,())))))
def uB:sC->Tr (sC⊕aw)
 | .h6 D z h=>
  let C:=(↑(Io z.1.2.2.2.1):Int)
  br (Q0 (D<C))
  (Qc (zJ D (Io z.1.2.2.2.1))
   (Qc (zJ D (Io h.1.2.2.2.1)) (br (!getD z.1.2.2.2.1 D.toNat (zi Q6)==getD h.1.2.2.2.1 D.toNat (zi Q6)) (re (kb Q4) []) (Q9 (sC.h6 (Γ Δ (D+1)) z h)))))
  (Q9 (sC.h11 0 z h))
 | .h11 E z h=>
  let C:=(↑(Io z.1.t.1):Int)
  let o:=getD z.1.t.1 E.toNat (zi zj)
  let u:=getD h.1.t.1 E.toNat (zi zj)
  br (Q0 (E<C))
  (Qc (zJ E (Io z.1.t.1))
   (Qc (zJ E (Io h.1.t.1)) (br (!(o.1==u.1&&(o.2.1==u.2.1&&(o.2.2==u.2.2&&Q3)))) (re (kb Q4) []) (Q9 (sC.h11 (Γ Δ (E+1)) z h)))))
  (Q9 (sC.h16 0 z h))
 | .h16 F z h=>
  let C:=(↑(Io z.1.t.q.1):Int)
  br (Q0 (F<C))
  (Qc (zJ F (Io z.1.t.q.1))
   (Qc (zJ F (Io h.1.t.q.1)) (br (!getD z.1.t.q.1 F.toNat (zi Q6)==getD h.1.t.q.1 F.toNat (zi Q6)) (re (kb Q4) []) (Q9 (sC.h16 (Γ Δ (F+1)) z h)))))
  (Q9 (sC.h21 0 z h))
 | .h21 G z h=>
  let C:=(↑(Io z.1.t.q.2.1):Int)
  let o:=getD z.1.t.q.2.1 G.toNat (zi jb)
  let u:=getD h.1.t.q.2.1 G.toNat (zi jb)
  br (Q0 (G<C))
  (Qc (zJ G (Io z.1.t.q.2.1))
   (Qc (zJ G (Io h.1.t.q.2.1)) (br (!(o.1==u.1&&(o.2==u.2&&Q3))) (re (kb Q4) []) (Q9 (sC.h21 (Γ Δ (G+1)) z h)))))
  (Q9 (sC.h26 0 z h))
 | .h26 H z h=>
  let C:=(↑(Io z.1.t.t.2.1):Int)
  let o:=getD z.1.t.t.2.1 H.toNat (zi ze)
  let u:=getD h.1.t.t.2.1 H.toNat (zi ze)
  br (Q0 (H<C))
  (Qc (zJ H (Io z.1.t.t.2.1))
   (Qc (zJ H (Io h.1.t.t.2.1)) (br (!(o.1==u.1&&(o.2.1==u.2.1&&(o.2.2==u.2.2&&Q3)))) (re (kb Q4) []) (Q9 (sC.h26 (Γ Δ (H+1)) z h)))))
  (Q9 (sC.h31 0 z h))
 | .h31 B z h=>
  let C:=(↑(Io z.1.t.t.q.1):Int)
  let o:=zJ B (Io z.1.t.t.q.1)
  let u:=zJ B (Io h.1.t.t.q.1)
  let I:=getD z.1.t.t.q.1 B.toNat (zi ig)
  let J:=getD h.1.t.t.q.1 B.toNat (zi ig)
  let L:=!I.1==J.1
  let M:=zm I.2
  let O:=zm J.2
  br (Q0 (B<C))
  (Qc (o&&(u&&bif L then Q3 else o&&(u&&gO M O)))
   (br (cond L Q3 (!ft M O)) (re (kb Q4) []) (Q9 (sC.h31 (Γ Δ (B+1)) z h))))
  (re (kb Q3) [])
def sb(h:Sem zn)(o:Sem zn):=al [Q7] uB 100000000 (zaS h o)
def BP(h:Sem zn)(o:Sem zn):=(sb h o).isSome
def fu(h:Sem zn)(o:Sem zn):=o1 (sb h o)
def zkA:=FT [zn,zn] [Q7] λx=>sb x.1 x.2.1
theorem zgd:FK 87 zkA:=ll.T1 (f:=Tryz.f87) (keep:=zod) (e:=zqX)
def GG:=Il.addL [(142,zct),(133,zcr),(92,zb7),(87,zkA)]
theorem rc:zw GG:=ll.addL<|fc Zc<|fc Za<|fc YP<|fc zgd iz
abbrev zhR:=kR [(2,[0,3])]
inductive FU where
 |h2 (s0:TS) (i3:Int)
abbrev zmm:FU->Nat×St
 |.h2 o h=>(2,⟨tm 28 [(0,str o),(3,ai h)],[]⟩)
def zdM(h:TS):Tr (FU⊕aw):=
 Q9 (FU.h2 h 0)
def wN:FU->Tr (FU⊕aw)
 | .h2 h o=>
  let u:=(↑(getD h o.toNat 0).toNat:Int)
  let z:=Q0 (1<=(↑(Io h):Int))
  let B:=Q0 ((↑(Io h):Int)<=16)
  let C:=(↑(getD h (toNat 0) 0).toNat:Int)
  br (Q0 (o<(↑(Io h):Int)))
  (Qc (zJ o (Io h)) (Qc (r9 u) (br (!yD u) (re (kb Q4) []) (Q9 (FU.h2 h (Γ Δ (o+1)))))))
  (Qc (cond z (cond B (zJ 0 (Io h)&&kU C) Q3) Q3)
   (re (AV.bool (cond z (cond B (nC C) Q4) Q4)) []))
def BO(h:TS):=al [Q7] wN 100000000 (zdM h)
def wm(h:TS):=(BO h).isSome
def uw(h:TS):=o1 (BO h)
def zcq:=FT [Q6] [Q7] λx=>BO x.1
theorem Y9:FK 132 zcq:=rc.T1 (f:=Tryz.f132) (keep:=zhR) (e:=zmm)
abbrev V7:Nat->aN:=λ_=>{ }
theorem zh9:zO GG.P 94 Tryz.f94 2:=bU kw
def VD(y:zl aC)(u:TS):Tr (Empty⊕aw):=
 let o:=(y.1,y.2.1,y.2.2.1,())
 let h:=fw o u
 Qc (eb o u)
 (br (!h.1) (re (tup []) [Qa [sl zp h.2.1,ai h.2.2.1,kb Q4]])
  (re (tup []) (ay aC h.2)))
theorem zg5(y:zl aC)(h:TS):rn GG 1 V7 Tryz.f94 [Qf 0 0,zC Q6 h] (ay aC y)=(VD y h).map (lf Tryz.f94 e0):=kw
def QR(y:zl aC)(h:TS):Option (zz (Qi Q1 [])×zl aC):=kB [] aC t0 100000000 (VD y h)
def aW(y:zl aC)(h:TS):Bool:=(QR y h).isSome
def bI(y:zl aC)(h:TS):zl aC:=(λr:zz (Qi Q1 [])×zl aC=>r.2) ((QR y h).getD (bQ [],fK aC))
def zb9:zZ:=sE aC [Q6] [] aC (λy x=>aW y x.1) λy x=>((),bI y x.1)
theorem YS:FK 94 zb9:=ka (ps:=aC) (ks:=[Q6]) (outs:=[]) (keep:=V7) (gas:=400) (n:=100000000) (e:=e0) (t:=t0) (i:=λy x=>VD y x.1) rc zh9 (λy x=>zg5 y x.1) (Xa _ _ _ _ _) (λ_ _=>by kernel_rfl) (λ_ _=>by kernel_rfl)
abbrev V8:Nat->aN:=λ_=>{ }
theorem zia:zO GG.P 95 Tryz.f95 1:=bU kw
def VE(y:zl aC):Tr (Empty⊕aw):=
 let o:=Q0 (y.2.1<(↑(Io y.1):Int))
 let u:=zJ y.2.1 (Io y.1)
 let h:=getD y.1 (toNat y.2.1) (zi zp)
 let z:=h.1==1
 let B:=Γ Δ (y.2.1+1)
 let C:=Γ Δ (B-1)
 let D:=getD y.1 C.toNat (zi zp)
 Qc (cond o (u&&bif z then u&&Ew h.2 else Q3) Q3)
 (br (cond o (cond z (!MA h.2) Q4) Q4)
  (Qc (zJ C (Io y.1)) (re (str D.2) (ay aC (y.1,B,y.2.2))))
  (re (str []) [Qa [sl zp y.1,ai y.2.1,kb Q4]]))
theorem zg6(y:zl aC):rn GG 1 V8 Tryz.f95 [Qf 0 0] (ay aC y)=(VE y).map (lf Tryz.f95 e0):=kw
def QS(y:zl aC):Option (zz (Qi Q1 [Q6])×zl aC):=kB [Q6] aC t0 100000000 (VE y)
def bu(y:zl aC):Bool:=(QS y).isSome
def bT(y:zl aC):(Sem Q6)×zl aC:=(λr:zz (Qi Q1 [Q6])×zl aC=>(r.1.1,r.2)) ((QS y).getD (bQ [Q6],fK aC))
def zca:zZ:=sE aC [] [Q6] aC (λy _=>bu y) λy _=>(((bT y).1,()),(bT y).2)
theorem YT:FK 95 zca:=ka (ps:=aC) (ks:=[]) (outs:=[Q6]) (keep:=V8) (gas:=400) (n:=100000000) (e:=e0) (t:=t0) (i:=λy x=>VE y) rc zia (λy x=>zg6 y) (Xa _ _ _ _ _) (λ_ _=>by kernel_rfl) (λ_ _=>by kernel_rfl)
def GH:=GG.addL [(132,zcq),(94,zb9),(95,zca)]
theorem mZ:zw GH:=rc.addL<|fc Y9<|fc YS<|fc YT iz
end
end Cad
