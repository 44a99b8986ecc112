/- Bases. -/
import Derived.Test.YtjfdpfapcmcncaaGreatDoorH11
namespace Cad
open Go Go.Proofs
open List renaming length→Io,map→Qi
open IntKind renaming wrap→Γ,i64→Δ
open AV renaming ptr→Qf
open Tr renaming chk→Qc,«to»→Q9
open AO renaming box→Qa
open Sh renaming bool→Q7,str→Q6,expr→Q5
open Bool renaming false→Q4,true→Q3
open Option renaming none→Q2,some→Q1
open Decidable renaming decide→Q0
open Int (toNat)
open List (getD)
open Tr (chk br re)
open AV (nils agg tup ptr kb str sl)
noncomputable section
set_option maxHeartbeats 4000000
def zkN:ac:=bp (List.replicate 2 Q2) (fA pg Tryz.f203 (List.replicate 2 Q2))
theorem zgr:FK 203 zkN:=ch _ jq (bU kw)
abbrev znJ:Nat->aM:=λ_=>{ }
theorem zej:zO (pg).P 40 Tryz.f40 1:=bU kw
theorem zmH(h:TS):rn pg 0 znJ Tryz.f40 [zC Q6 h] []=br (Q0 ((↑(Io h):Int)>20)) (Qc (Q0 (0<=0)&&Q0 (0<=20)&&Q0 (20<=(↑(Io h):Int))) (Tr.ok (zF.ret (str (List.take (toNat 20-toNat 0) (List.drop (toNat 0) h))) []))) (Tr.ok (zF.ret (str h) [])):=kw
def di(h:TS):Sem Q6:=(ite (Q0 ((↑(Io h):Int)>20)=Q3) (List.take (toNat 20-toNat 0) (List.drop (toNat 0) h)) h)
def fB(h:TS):Bool:=(ite (Q0 ((↑(Io h):Int)>20)=Q3) (ite ((Q0 (0<=0)&&Q0 (0<=20)&&Q0 (20<=(↑(Io h):Int)))=Q3) Q3 Q4) Q3)
def zjG:ac:=zT [Q6] [Q6] (λx=>fB x.1) λx=>(di x.1,())
theorem zfe:FK 40 zjG:=by
 refine aL (zej) λx o C u=>?_
 unfold fB at o;refine zI jq (zej) (λid _=>u id) (zmH x.1) ?_;generalize h:di x.1=y;unfold di at h
 try simp only[zf.eta]
 repeat' (first|with_reducible refine vI h o (λ_ h o=>?_) (λ_ h o=>?_)|with_reducible refine du h (λ_ h=>?_) (λ_ h=>?_)|with_reducible refine iI o (λo=>?_)|with_reducible refine zP ?_)
 all_goals first|(cases o;done)|(subst h;first|rfl)
abbrev zh1:Nat->aM:=λ_=>{ }
theorem WZ:zO (pg).P 126 Tryz.f126 3:=bU kw
theorem zhl(o:Sem ze.sl)(h:Sem zg)(u:Sem ze):rn pg 0 zh1 Tryz.f126 [zC ze.sl o,zC zg h,zC ze u] []=Qc (cond (Q0 (h>=0)) (cond (Q0 (h<(↑(Io o):Int))) (zJ h (Io o)) Q3) Q3) (Tr.ok (zF.ret (AV.bool (cond (Q0 (h>=0)) (cond (Q0 (h<(↑(Io o):Int))) ((getD o (toNat h) (zi ze)).1==u.1&&((getD o (toNat h) (zi ze)).2.1==u.2.1&&((getD o (toNat h) (zi ze)).2.2==u.2.2&&Q3))) Q4) Q4)) [])):=kw
def bl(o:Sem ze.sl)(h:Sem zg)(u:Sem ze):Sem Q7:=(cond (Q0 (h>=0)) (cond (Q0 (h<(↑(Io o):Int))) ((getD o (toNat h) (zi ze)).1==u.1&&((getD o (toNat h) (zi ze)).2.1==u.2.1&&((getD o (toNat h) (zi ze)).2.2==u.2.2&&Q3))) Q4) Q4)
def BS(o:Sem ze.sl)(h:Sem zg)(_:Sem ze):Bool:=(ite ((cond (Q0 (h>=0)) (cond (Q0 (h<(↑(Io o):Int))) (zJ h (Io o)) Q3) Q3)=Q3) Q3 Q4)
def zcO:ac:=zT [ze.sl,zg,ze] [Q7] (λx=>BS x.1 x.2.1 x.2.2.1) λx=>(bl x.1 x.2.1 x.2.2.1,())
theorem Pt:FK 126 zcO:=by
 refine aL (WZ) λx o C u=>?_
 unfold BS at o;refine zI jq (WZ) (λid _=>u id) (zhl x.1 x.2.1 x.2.2.1) ?_;generalize h:bl x.1 x.2.1 x.2.2.1=y;unfold bl at h
 try simp only[zf.eta]
 repeat' (first|with_reducible refine vI h o (λ_ h o=>?_) (λ_ h o=>?_)|with_reducible refine du h (λ_ h=>?_) (λ_ h=>?_)|with_reducible refine iI o (λo=>?_)|with_reducible refine zP ?_)
 all_goals first|(cases o;done)|(subst h;first|rfl)
abbrev zd5:Nat->aM:=λj=>if j=2 then{slots:=[0,1,5]}else{ }
abbrev EI(o:List (Sem zh))(u:TS)(h:Int):St:={tmps:=(tm 21 [(0,sl zh o),(1,str u),(5,ai h)]),heap:=[]}
theorem Qt:zO (pg).P 47 Tryz.f47 2:=bU kw
theorem zmF(h:Sem zh.sl)(o:TS):rn pg 0 zd5 Tryz.f47 [zC zh.sl h,zC Q6 o] []=Tr.ok (zF.head 2 (aj Tryz.f47 2) (EI h o 0)):=kw
theorem Qx(o:List (Sem zh))(u:TS)(h:Int):rh pg 0 zd5 Tryz.f47 2 (EI o u h)=br (Q0 (h<(↑o.length:Int))) (Qc (zJ h (Io o)) (br ((o.getD h.toNat (zi zh)).1.1==u) (Tr.ok (zF.ret (ai h) [])) (Tr.ok (zF.head 2 (aj Tryz.f47 2) (EI o u (Γ Δ (h+1))))))) (Tr.ok (zF.ret (ai (-1)) [])):=kw
def gH(o:TS):List
 (Sem zh)->Int->Sem zg
 |[],_=>(-1)
 |x::r,h=>(ite ((x.1.1==o)=Q3) h (gH o r (h+1)))
theorem ZS{C:fg}(F:∀id,C.ρ0 id=Q2)(E:TS)(z:List
 (Sem zh)) (J:Io z<=aF):∀(m i:Nat),Io z-i=m->i<=Io z->
  Reach (pg) C 47 (aj Tryz.f47 2) (EI z E (i:Int)) (λr h=>aI h [zg] r=Q1 (gH E (z.drop i) i,())):=by
 intro m
 induction m with
 | zero=>
  intro i H G;obtain rfl:i=Io z:=by omega
  rw[jM];refine zI jq (Qt) (λid _=>F id) (Qx _ _ _) ?_;generalize o:gH E [] _=y;rw[gH]at o;simp only[zB,Tr.val_brF];repeat' (first|with_reducible refine du o (λ_ o=>?_) (λ_ o=>?_)|with_reducible refine zP ?_)
  all_goals first|(cases hc;done)|(subst o;first|rfl)
 | succ m I=>
  intro i H G;have u:i<Io z:=by omega
  have I:=I (i+1);have B:((i:Int)+1)=((i+1:Nat):Int):=by omega
  have D:=zr i ow;rw[fk u];refine zI jq (Qt) (λid _=>F id) (Qx _ _ _) ?_;generalize o:gH E (z[i]::z.drop (i+1)) (i:Int)=y;rw[gH]at o;simp only[zE u,zt u,cL z _ u,D,Tr.val_brT,Tr.val_chkT];clear D
  try simp only[zt u]at o
  simp only[B]at o;repeat' (first|with_reducible refine du o (λ_ o=>?_) (λ_ o=>?_)|with_reducible refine zP ?_)
  all_goals first|(cases hc;done)|(subst o;first|(change Reach _ _ _ _ _ _;apply I<;>first|omega|assumption)|rfl)
theorem Uf{C:fg}(z:∀id,C.ρ0 id=Q2)(u:TS)(o:List
 (Sem zh)):
  Reach (pg) C 47 (aj Tryz.f47 2) (EI o u 0) (λr h=>aI h [zg] r=Q1 (gH u o 0,())):=
 Reach.len 0 zh o rfl λB=>ZS z u o B _ 0 rfl (aQ _)
def lK(h:Sem zh.sl)(o:TS):Sem zg:=(gH o h 0)
def zjq:ac:=aH [zh.sl,Q6] [zg] λx=>(lK x.1 x.2.1,())
theorem zeX:FK 47 zjq:=by
 refine ag (Qt) λx C o=>?_
 refine zI jq (Qt) (λid _=>o id) (zmF x.1 x.2.1) ?_;generalize h:lK x.1 x.2.1=y;unfold lK at h
 try simp only[zf.eta]
 repeat' (first|with_reducible refine du h (λ_ h=>?_) (λ_ h=>?_)|with_reducible refine zP ?_)
 all_goals first|(cases hc;done)|(subst h;first|(change Reach _ _ _ _ _ _;apply Uf o<;>first|assumption|exact hc)|rfl)
def sZ:=pg.addL [(203,zkN),(40,zjG),(126,zcO),(47,zjq)]
theorem kL:zw sZ:=jq.addL<|fc zgr<|fc zfe<|fc Pt<|fc zeX iA
theorem JJ(x:Sem (Sh.sl ze))(c:Int)(v:Sem ze):BS x c v=Q3:=by
 unfold BS;by_cases h:(c:Int)>=0
 ·by_cases o:c<(Io x:Int)
  ·have u:zJ c (Io x)=Q3:=by simp[zJ];exact⟨h,o⟩
   simp[zx h,zx o,u]
  ·simp[zx h,aq o]
 ·simp[aq h]
def zcP:ac:=aH [Sh.sl ze,zg,ze] [Q7] λx=>(bl x.1 x.2.1 x.2.2.1,())
theorem Zv:FK 126 zcP:=nS Pt λx=>JJ x.1 x.2.1 x.2.2.1
abbrev zd6:Nat->aM:=λj=>if j=3 then{slots:=[0,3,4],prom:=[(3,Q2,.str)]}else{ }
abbrev EJ(u:LS)(o:Int)(h:LS):St:={tmps:=(tm 24 [(0,sl Q6 u),(3,AV.vec 0),(4,ai o)]),heap:=[AO.vec Q6 h]}
theorem Qu:zO (sZ).P 41 Tryz.f41 1:=bU kw
theorem zmI(h:Sem Sh.str.sl):rn sZ 0 zd6 Tryz.f41 [zC Sh.str.sl h] []=Tr.ok (zF.head 3 (aj Tryz.f41 3) (EJ h 0 [])):=kw
theorem Qy(u:LS)(o:Int)(h:LS):rh sZ 0 zd6 Tryz.f41 3 (EJ u o h)=br (cond (Q0 (o<(↑u.length:Int))) (Q0 (o<10)) Q4) (Qc (zJ o (Io u)) (Qc (fB (u.getD o.toNat (zi Q6))) (Qc (Q0 (Io h+[di (u.getD o.toNat (zi Q6))].length<=1073741824)) (Tr.ok (zF.head 3 (aj Tryz.f41 3) (EJ u (Γ Δ (o+1)) (h++[di (u.getD o.toNat (zi Q6))]))))))) (Tr.ok (zF.ret (AV.vec 0) [AO.vec Q6 h])):=kw
def eH:List (Sem Q6)->Int->List (Sem Q6)->Sem Sh.str.sl
 |[],_,h=>(h)
 |x::r,o,h=>(ite (Q0 (o<10)=Q3) (eH r (o+1) (h++[di x])) h)
def fN:List (Sem Q6)->Int->List (Sem Q6)->Bool
 |[],_,_=>(Q3)
 |x::r,o,h=>(if Q0 (o<10)=Q3 then
 if fB x=Q3 then if Q0 (Io h+[di x].length<=1073741824)=Q3 then fN r (o+1) (h++[di x])else Q4 else Q4
else Q3)
theorem ZT{C:fg}(G:∀id,C.ρ0 id=Q2)(E:LS)(L:Io E<=aF):∀(m i:Nat)(o:LS),Io E-i=m->i<=Io E->fN (E.drop i) i o=Q3->
  Reach (sZ) C 41 (aj Tryz.f41 3) (EJ E (i:Int) o) (λr h=>aI h [Sh.str.sl] r=Q1 (eH (E.drop i) i o,())):=by
 intro m
 induction m with
 | zero=>
  intro i o J H u;obtain rfl:i=Io E:=by omega
  rw[jM]at u⊢;refine zI kL (Qu) (λid _=>G id) (Qy _ _ _) ?_;rw[fN]at u;generalize z:eH [] _ o=y;rw[eH]at z;simp only[zB,al,Tr.val_brF];repeat' (first|with_reducible refine vI z u (λ_ z u=>?_) (λ_ z u=>?_)|with_reducible refine du z (λ_ z=>?_) (λ_ z=>?_)|with_reducible refine iI u (λu=>?_)|with_reducible refine zP ?_)
  all_goals first|(cases u;done)|(subst z;first|rfl)
 | succ m I=>
  intro i o J H u;have B:i<Io E:=by omega
  have I:=I (i+1);have D:((i:Int)+1)=((i+1:Nat):Int):=by omega
  have F:=zr i ow;rw[fk B]at u⊢;refine zI kL (Qu) (λid _=>G id) (Qy _ _ _) ?_;rw[fN]at u;generalize z:eH (E[i]::E.drop (i+1)) (i:Int) o=y;rw[eH]at z;simp only[zE B,zt B,cL E _ B,F,zY];clear F
  try simp only[zt B]at z
  simp only[D]at z
  try simp only[zt B]at u
  try simp only[D]at u
  repeat' (first|with_reducible refine vI z u (λ_ z u=>?_) (λ_ z u=>?_)|with_reducible refine du z (λ_ z=>?_) (λ_ z=>?_)|with_reducible refine iI u (λu=>?_)|with_reducible refine zP ?_)
  all_goals first|(cases u;done)|(subst z;first|(change Reach _ _ _ _ _ _;apply I<;>first|omega|assumption)|rfl)
theorem Ug{C:fg}(z:∀id,C.ρ0 id=Q2)(u:LS)(o:LS)(B:fN u 0 o=Q3):
  Reach (sZ) C 41 (aj Tryz.f41 3) (EJ u 0 o) (λr h=>aI h [Sh.str.sl] r=Q1 (eH u 0 o,())):=
 Reach.len 0 (Q6) u rfl λD=>ZT z u D _ 0 o rfl (aQ _) B
def kx(h:Sem Sh.str.sl):Sem Sh.str.sl:=(eH h 0 [])
def qo(h:Sem Sh.str.sl):Bool:=(fN h 0 [])
def zjI:ac:=zT [Sh.str.sl] [Sh.str.sl] (λx=>qo x.1) λx=>(kx x.1,())
theorem zfg:FK 41 zjI:=by
 refine aL (Qu) λx h C u=>?_
 unfold qo at h;refine zI kL (Qu) (λid _=>u id) (zmI x.1) ?_;generalize o:kx x.1=y;unfold kx at o
 try simp only[zf.eta]
 repeat' (first|with_reducible refine vI o h (λ_ o h=>?_) (λ_ o h=>?_)|with_reducible refine du o (λ_ o=>?_) (λ_ o=>?_)|with_reducible refine iI h (λh=>?_)|with_reducible refine zP ?_)
 all_goals first|(cases h;done)|(subst o;first|(change Reach _ _ _ _ _ _;apply Ug u<;>first|assumption|exact h)|rfl)
abbrev BW(s:zD)(l:List (Sem zh))(i:Int):St:={tmps:=[.sl zh l,.clo (.func 203) [] [.ptr 0 0],.any,.any,.any,.any,.any,.int .i64 (Io l),.int .i64 i,.any,.any,.any,.any,.any,.any,.any,.any,.any,.any],heap:=[.box [.str s]]}
theorem Vy(s:zD)(l:List (Sem zh)):run sZ 1 A3 Tryz.f202.results.toList 300 (bC Tryz.f202) (bj Tryz.f202.ntmps [.sl zh l,.clo (.func 203) [] [.ptr 0 0]] [.box [.str s]])=.ok (.head 2 (aj Tryz.f202 2) (BW s l 0)):=kw
theorem Xi(s:zD)(l:List (Sem zh))(i:Int):run sZ 1 A3 Tryz.f202.results.toList 300 (aj Tryz.f202 2) (BW s l i)=oz (K:=aj Tryz.f202 2) (e:=zh) l (λx=>x.1.1==s) (BW s l) [.box [.str s]] i:=kw
theorem Xa:zO sZ.P 202 Tryz.f202 2:=bU kw
def zl4:iV [Q1 (.sl zh),Q2]:=λx h=>match x,h with
 |(l,.clo (.func 203) [] [.ptr 0 0],_),[.box [.str s]]=>.ok (.int .i64 (zW (λx=>x.1.1==s) l 0),[.box [.str s]])
 |_,_=>.err
def zkM:ac:=bp [Q1 (.sl zh),Q2] zl4
theorem zgp:FK 202 zkM:=by
 refine dV Xa λx D B h C o=>?_
 unfold zl4 at h;split at h
 ·rename_i l u s;simp only[Tr.val_ok,bH]at h;subst h;refine Reach.len 0 zh l rfl λz=>?_
  refine zI (n0:=1) kL Xa o (Vy s l) ?_;exact kR l (λx=>x.1.1==s) (BW s l) kL Xa o (Xi s l) z _ 0 rfl (aQ _)
 ·simp at h
def Lb:=sZ.addL [(126,zcP),(41,zjI),(202,zkM)]
theorem xH:zw Lb:=kL.addL<|fc Zv<|fc zfg<|fc zgp iA
def zcN:ac:=bp (List.replicate 3 Q2) (fA Lb Tryz.f255 (List.replicate 3 Q2))
theorem Zu:FK 255 zcN:=ch _ xH (bU kw)
abbrev zn1:Nat->aM:=λ_=>{ }
theorem zem:zO (Lb).P 161 Tryz.f161 2:=bU kw
theorem zmR(h:Sem zh.sl)(o:TS):rn Lb 0 zn1 Tryz.f161 [zC zh.sl h,zC Q6 o] []=Tr.ok (zF.ret (ai (zW (λx=>x.1.1==o) h 0)) []):=kw
def zX(h:Sem zh.sl)(o:TS):Sem zg:=(zW (λx=>x.1.1==o) h 0)
def zke:ac:=aH [zh.sl,Q6] [zg] λx=>(zX x.1 x.2.1,())
theorem zfO:FK 161 zke:=by
 refine ag (zem) λx C o=>?_
 refine zI xH (zem) (λid _=>o id) (zmR x.1 x.2.1) ?_;generalize h:zX x.1 x.2.1=y;unfold zX at h
 try simp only[zf.eta]
 repeat' (first|with_reducible refine du h (λ_ h=>?_) (λ_ h=>?_)|with_reducible refine zP ?_)
 all_goals first|(cases hc;done)|(subst h;first|rfl)
def Lc:=Lb.addL [(255,zcN),(161,zke)]
theorem xI:zw Lc:=xH.addL<|fc Zu<|fc zfO iA
abbrev si(c a b:Int)(s:zD)(l:List (Sem (Sh.sl ze)))(i:Int):St:={tmps:=[.sl (Sh.sl ze) l,.clo (.func 255) [] [.ptr 0 0,.ptr 1 0],.any,.any,.any,.any,.any,.int .i64 (Io l),.int .i64 i,.any,.any,.any,.any,.any,.any,.any,.any,.any,.any],heap:=[.box [.int .i64 c],.box [.int .i64 a,.int .i64 b,.str s]]}
theorem Oa(c a b:Int)(s:zD)(l:List (Sem (Sh.sl ze))):run Lc 2 A3 Tryz.f124.results.toList 300 (bC Tryz.f124) (bj Tryz.f124.ntmps [.sl (Sh.sl ze) l,.clo (.func 255) [] [.ptr 0 0,.ptr 1 0]] [.box [.int .i64 c],.box [.int .i64 a,.int .i64 b,.str s]])=.ok (.head 2 (aj Tryz.f124 2) (si c a b s l 0)):=kw
theorem OB(c a b:Int)(s:zD)(l:List (Sem (Sh.sl ze)))(i:Int):run Lc 2 A3 Tryz.f124.results.toList 300 (aj Tryz.f124 2) (si c a b s l i)=oz (K:=aj Tryz.f124 2) (e:=(Sh.sl ze)) l (λx=>bl x c (a,b,s)) (si c a b s l) [.box [.int .i64 c],.box [.int .i64 a,.int .i64 b,.str s]] i:=kw
theorem Oz:zO Lc.P 124 Tryz.f124 2:=bU kw
def zc6:iV [Q1 (.sl (Sh.sl ze)),Q2]:=λx h=>match x,h with
 |(l,.clo (.func 255) [] [.ptr 0 0,.ptr 1 0],_),[.box [.int .i64 c],.box [.int .i64 a,.int .i64 b,.str s]]=>.ok (.int .i64 (zW (λx=>bl x c (a,b,s)) l 0),[.box [.int .i64 c],.box [.int .i64 a,.int .i64 b,.str s]])
 |_,_=>.err
def zcV:ac:=bp [Q1 (.sl (Sh.sl ze)),Q2] zc6
theorem ZA:FK 124 zcV:=by
 refine dV Oz λx D B h C o=>?_
 unfold zc6 at h;split at h
 ·rename_i l u c a b s;simp only[Tr.val_ok,bH]at h;subst h;refine Reach.len 0 (Sh.sl ze) l rfl λz=>?_
  refine zI (n0:=2) xI Oz o (Oa c a b s l) ?_;exact kR l (λx=>bl x c (a,b,s)) (si c a b s l) xI Oz o (OB c a b s l) z _ 0 rfl (aQ _)
 ·simp at h
def Va:=Lc.add 124 zcV
theorem Gr:zw Va:=xI.add ZA
def zcM:ac:=bp (List.replicate 2 Q2) (fA Va Tryz.f254 (List.replicate 2 Q2))
theorem Zt:FK 254 zcM:=ch _ Gr (bU kw)
def PT:=Va.add 254 zcM
theorem xJ:zw PT:=Gr.add Zt
abbrev zhT:Nat->aM:=λ_=>{ }
theorem WW:zO (PT).P 201 Tryz.f201 3:=bU kw
theorem zhg(h:Sem zh)(o:Sem zg)(u:Sem ze):rn PT 0 zhT Tryz.f201 [zC zh h,zC zg o,zC ze u] []=Tr.ok (zF.ret (AV.bool (Q0 (zW (λx=>bl x o u) h.2 0>=0))) []):=kw
def f5(h:Sem zh)(o:Sem zg)(u:Sem ze):Sem Q7:=(Q0 (zW (λx=>bl x o u) h.2 0>=0))
def zco:ac:=aH [zh,zg,ze] [Q7] λx=>(f5 x.1 x.2.1 x.2.2.1,())
theorem Y5:FK 201 zco:=by
 refine ag (WW) λx C o=>?_
 refine zI xJ (WW) (λid _=>o id) (zhg x.1 x.2.1 x.2.2.1) ?_;generalize h:f5 x.1 x.2.1 x.2.2.1=y;unfold f5 at h
 try simp only[zf.eta]
 repeat' (first|with_reducible refine du h (λ_ h=>?_) (λ_ h=>?_)|with_reducible refine zP ?_)
 all_goals first|(cases hc;done)|(subst h;first|rfl)
abbrev zhS:=lu [(3,[1,5,11,12,13])]
inductive FR where
 |h3 (i1:Sem zg) (l11:List (Sem ze.sl)) (i12:Int) (i13:Int) (mh_0:List ((Int×Int×zD)×Int))
abbrev zmm:FR->Nat×St
 |.h3 B z o u h=>(3,⟨tm 37 [(1,ai B),(5,AV.mp 0),(11,sl ze.sl z),(12,ai o),(13,ai u)],[AO.vmap Q4 h]⟩)
def zdO(h:Sem zh)(o:Sem zg):Tr (FR⊕aw):=Q9 (FR.h3 o h.2 (↑(Io h.2):Int) 0 [])
def AN:FR->Tr (FR⊕aw)
 | .h3 C u B o h=>
  let D:=u.getD o.toNat (zi ze.sl)
  let z:=getD D (toNat C) (zi ze)
  let E:=(↑(lU h z):Int)
  let F:=kc h z
  let G:=ko F E.toNat (Γ Δ (gB h z+1))
  let H:=gB G z
  br (Q0 (o<B))
  (Qc (zJ o (Io u))
   (Qc (zJ C (Io D)) (Qc (Q0 (Io h<=1073741824)) (Qc (zJ E (Io F)) (br (cond (z.1!=0) (Q0 (H>1)) Q4) (re (kb Q3) []) (Q9 (FR.h3 C u B (Γ Δ (o+1)) G)))))))
  (re (kb Q4) [])
def BT(h:Sem zh)(o:Sem zg):=an [Q7] AN 100000000 (zdO h o)
def sc(h:Sem zh)(o:Sem zg):=(BT h o).isSome
def yG(h:Sem zh)(o:Sem zg):=o1 (BT h o)
def zcn:=FT [zh,zg] [Q7] λx=>BT x.1 x.2.1
theorem Y4:FK 200 zcn:=xJ.T1 (f:=Tryz.f200) (keep:=zhS) (e:=zmm)
def zdk:=PT.addL [(201,zco),(200,zcn)]
theorem xK:zw zdk:=xJ.addL<|fc Y5<|fc Y4 iA
abbrev zoe:=lu [(6,[1,18,19,20]),(15,[1,39,40,41]),(21,[1,8])]
inductive Fo where
 |h6 (l18:List (Sem ze.sl)) (i19:Int) (i20:Int) (z0:zm [CP.d zh])
 |h15 (l39:LI) (i40:Int) (i41:Int) (z0:zm [CP.d zh])
 |h21 (i8:Int) (z0:zm [CP.d zh])
abbrev zqV:Fo->Nat×St
 |.h6 C h o z=>(6,⟨tm 79 [(1,Qf 0 0),(18,sl ze.sl C),(19,ai h),(20,ai o)],[Qa (bf [] [CP.d zh] z)]⟩)
 |.h15 D u B z=>(15,⟨tm 79 [(1,Qf 0 0),(39,sl zg D),(40,ai u),(41,ai B)],[Qa (bf [] [CP.d zh] z)]⟩)
 |.h21 E z=>(21,⟨tm 79 [(1,Qf 0 0),(8,ai E)],[Qa (bf [] [CP.d zh] z)]⟩)
def SK(h:Sem zh):Tr (Fo⊕aw):=br (!dA (h.1.1,h.1.2.1,h.1.2.2.1,h.1.2.2.2.1,h.1.t.1,zl h.1.t.2)) (re (ai 1) []) (br (Q0 ((↑(Io h.2):Int)>200)) (re (ai 13) []) (Q9 (Fo.h6 h.2 (↑(Io h.2):Int) 0 (h,()))))
def ip:Fo->Tr (Fo⊕aw)
 | .h6 C F h z=>
  let B:=(z.1.1.1,z.1.1.2.1,z.1.1.2.2.1,z.1.1.2.2.2.1,z.1.1.t.1,zl z.1.1.t.2)
  let u:=dc B (C.getD h.toNat (zi ze.sl))
  let E:=(B,z.1.2)
  br (Q0 (h<F))
  (Qc (zJ h (Io C)) (br (u !=0) (re (ai u) []) (Q9 (Fo.h6 C F (Γ Δ (h+1)) z))))
  (Qc (sc E z.1.1.2.2.1)
   (br (yG E z.1.1.2.2.1) (re (ai 7) []) (Q9 (Fo.h15 z.1.1.2.2.2.1 (↑(Io z.1.1.2.2.2.1):Int) 0 z))))
 | .h15 D G o z=>
  let B:=((z.1.1.1,z.1.1.2.1,z.1.1.2.2.1,z.1.1.2.2.2.1,z.1.1.t.1,zl z.1.1.t.2),z.1.2)
  let u:=D.getD o.toNat (zi zg)
  br (Q0 (o<G))
  (Qc (zJ o (Io D))
   (Qc (sc B u) (br (yG B u) (re (ai 7) []) (Q9 (Fo.h15 D G (Γ Δ (o+1)) z)))))
  (Q9 (Fo.h21 1 z))
 | .h21 H z=>
  let B:=(↑(Io z.1.2):Int)
  let u:=Γ Δ (H-1)
  let E:=getD z.1.2 u.toNat (zi ze.sl)
  let I:=getD z.1.2 H.toNat (zi ze.sl)
  let J:=aX (getD E (toNat z.1.1.2.2.1) (zi ze)) (getD I (toNat z.1.1.2.2.1) (zi ze))
  br (Q0 (H<B))
  (Qc (zJ u (Io z.1.2))
   (Qc (zJ z.1.1.2.2.1 (Io E)) (Qc (zJ H (Io z.1.2)) (Qc (zJ z.1.1.2.2.1 (Io I)) (br (Q0 (J>=0)) (re (ai 15) []) (Q9 (Fo.h21 (Γ Δ (H+1)) z)))))))
  (re (ai 0) [])
def oV(h:Sem zh):=an [zg] ip 100000000 (SK h)
def JH(h:Sem zh):=(oV h).isSome
def O2(h:Sem zh):=o1 (oV h)
def zkx:=FT [zh] [zg] λx=>oV x.1
theorem zga:FK 158 zkx:=xK.T1 (f:=Tryz.f158) (keep:=zoe) (e:=zqV)
abbrev zof:=lu [(2,[0,11,12,13]),(5,[0,4,11,12,13,19,20,21]),(11,[0,4,6,7,11,12,13,19,20,21,32,33,34])]
inductive Fp where
 |h2 (l0:List (Sem zh)) (l11:List (Sem zh)) (i12:Int) (i13:Int)
 |h5 (l0:List (Sem zh)) (l11:List (Sem zh)) (i12:Int) (i13:Int) (l19:LF) (i20:Int) (i21:Int) (z0:zm [CP.d zh])
 |h11 (l0:List (Sem zh)) (i7:Sem zg) (l11:List (Sem zh)) (i12:Int) (i13:Int) (l19:LF) (i20:Int) (i21:Int) (l32:List (Sem ze.sl)) (i33:Int) (i34:Int) (z0:zm [CP.d zh]) (z1:zm [CP.d zp])
abbrev zqW:Fp->Nat×St
 |.h2 D u h o=>(2,⟨tm 64 [(0,sl zh D),(11,sl zh u),(12,ai h),(13,ai o)],[]⟩)
 |.h5 D u h o C z B H=>(5,⟨tm 64 [(0,sl zh D),(4,Qf 0 0),(11,sl zh u),(12,ai h),(13,ai o),(19,sl zp C),(20,ai z),(21,ai B)],[Qa (bf [] [CP.d zh] H)]⟩)
 |.h11 D I u h o C z B G E F H J=>(11,⟨tm 64 [(0,sl zh D),(4,Qf 0 0),(6,Qf 1 0),(7,ai I),(11,sl zh u),(12,ai h),(13,ai o),(19,sl zp C),(20,ai z),(21,ai B),(32,sl ze.sl G),(33,ai E),(34,ai F)],[Qa (bf [] [CP.d zh] H),Qa (bf [] [CP.d zp] J)]⟩)
def zns(h:Sem zh.sl):Tr (Fp⊕aw):=Q9 (Fp.h2 h h (↑(Io h):Int) 0)
def gJ:Fp->Tr (Fp⊕aw)
 | .h2 D o u h=>
  let E:=o.getD h.toNat (zi zh)
  br (Q0 (h<u))
  (Qc (zJ h (Io o)) (Q9 (Fp.h5 D o u h E.1.t.1 (↑(Io E.1.t.1):Int) 0 (E,()))))
  (re (kb Q3) [])
 | .h5 D o u h B C z I=>
  let E:=B.getD z.toNat (zi zp)
  let J:=zX D E.2
  br (Q0 (z<C))
  (Qc (zJ z (Io B))
   (br (Q0 (J<0)) (re (kb Q4) []) (Q9 (Fp.h11 D J o u h B C z I.1.2 (↑(Io I.1.2):Int) 0 I (E,())))))
  (Q9 (Fp.h2 D o u (Γ Δ (h+1))))
 | .h11 D M o u h B C z H L F I O=>
  let E:=H.getD F.toNat (zi ze.sl)
  let J:=getD E (toNat O.1.1) (zi ze)
  let S:=J.1!=0
  let G:=D.getD (toNat M) (zi zh)
  br (Q0 (F<L))
  (Qc (zJ F (Io H))
   (Qc (zJ O.1.1 (Io E)) (Qc (cond S (zJ M (Io D)&&zJ M (Io D)) Q3) (br (cond S (!f5 ((G.1.1,G.1.2.1,G.1.2.2.1,G.1.2.2.2.1,G.1.t.1,zl G.1.t.2),G.2) G.1.2.2.1 J) Q4) (re (kb Q4) []) (Q9 (Fp.h11 D M o u h B C z H L (Γ Δ (F+1)) I O))))))
  (Q9 (Fp.h5 D o u h B C (Γ Δ (z+1)) I))
def Be(h:Sem zh.sl):=an [Q7] gJ 100000000 (zns h)
def H5(h:Sem zh.sl):=(Be h).isSome
def Ny(h:Sem zh.sl):=o1 (Be h)
def zky:=FT [zh.sl] [Q7] λx=>Be x.1
theorem zgb:FK 159 zky:=xK.T1 (f:=Tryz.f159) (keep:=zof) (e:=zqW)
def zdl:=zdk.addL [(158,zkx),(159,zky)]
theorem Gt:zw zdl:=xK.addL<|fc zga<|fc zgb iA
abbrev znR:=lu [(4,[0,3]),(9,[0,30,31,32])]
inductive Ku where
 |h4 (l0:List (Sem zh)) (i3:Int)
 |h9 (l0:List (Sem zh)) (l30:List (Sem zh)) (i31:Int) (i32:Int)
abbrev zqG:Ku->Nat×St
 |.h4 u B=>(4,⟨tm 45 [(0,sl zh u),(3,ai B)],[]⟩)
 |.h9 u z h o=>(9,⟨tm 45 [(0,sl zh u),(30,sl zh z),(31,ai h),(32,ai o)],[]⟩)
def zaO(h:Sem zh.sl):Tr (Ku⊕aw):=br (Q0 ((↑(Io h):Int)>12)) (re (ai 13) []) (Q9 (Ku.h4 h 1))
def o5:Ku->Tr (Ku⊕aw)
 | .h4 h B=>
  let o:=Γ Δ (B-1)
  let D:=h.getD o.toNat (zi zh)
  let E:=h.getD B.toNat (zi zh)
  br (Q0 (B<(↑h.length:Int)))
  (Qc (zJ o (Io h))
   (Qc (zJ B (Io h)) (br (!Op.bytesLess D.1.1 E.1.1) (re (ai 15) []) (Q9 (Ku.h4 h (Γ Δ (B+1)))))))
  (Q9 (Ku.h9 h h (↑h.length:Int) 0))
 | .h9 h z C u=>
  let o:=z.getD u.toNat (zi zh)
  let D:=((o.1.1,o.1.2.1,o.1.2.2.1,o.1.2.2.2.1,o.1.t.1,zl o.1.t.2),o.2)
  let E:=O2 D
  br (Q0 (u<C))
  (Qc (zJ u (Io z))
   (Qc (JH D) (br (E !=0) (re (ai E) []) (Q9 (Ku.h9 h z C (Γ Δ (u+1)))))))
  (Qc (H5 h) (br (!Ny h) (re (ai 10) []) (re (ai 0) [])))
def uI(h:Sem zh.sl):=an [zg] o5 100000000 (zaO h)
def nV(h:Sem zh.sl):=(uI h).isSome
def kX(h:Sem zh.sl):=o1 (uI h)
def zjY:=FT [zh.sl] [zg] λx=>uI x.1
theorem zfy:FK 114 zjY:=Gt.T1 (f:=Tryz.f114) (keep:=znR) (e:=zqG)
def ie:=zdl.add 114 zjY
theorem dX:zw ie:=Gt.add zfy
abbrev zq:Sh:=.pr .str (.pr .str (.pr .str (.pr zo (.pr (.sl zg) zg))))
abbrev bm:List CP:=[.d (.sl zh),.d zn,.d zo,.d zo,.d .str,.d .str,.d .str,.d .str,.nil,.d zg,.nil,.nil,.d .expr,.nil,.d zg]
abbrev au:List CP:=[.d (.sl zh),.d zn,.d zo,.d zo,.d .str,.d .str,.d .str,.d .str,.vec zj,.d zg,.nil,.nil,.d .expr,.d (.sl zg),.d zg]
abbrev zeb:Nat->aM:=λj=>if j=2 then{slots:=[0,1,7,8]}else{ }
abbrev EL(z:LI)(h:Sem zg)(o:Int)(u:Int):St:={tmps:=(tm 19 [(0,sl zg z),(1,ai h),(7,ai o),(8,ai u)]),heap:=[]}
theorem Qv:zO (ie).P 153 Tryz.f153 2:=bU kw
theorem zmW(h:Sem zg.sl)(o:Sem zg):rn ie 0 zeb Tryz.f153 [zC zg.sl h,zC zg o] []=Tr.ok (zF.head 2 (aj Tryz.f153 2) (EL h o (↑(Io h):Int) 0)):=kw
theorem QB(o:LI)(u:Sem zg)(z:Int)(h:Int):rh ie 0 zeb Tryz.f153 2 (EL o u z h)=br (Q0 (h<z)) (Qc (zJ h (Io o)) (br (u==o.getD h.toNat (zi zg)) (Tr.ok (zF.ret (ai h) [])) (Tr.ok (zF.head 2 (aj Tryz.f153 2) (EL o u z (Γ Δ (h+1))))))) (Tr.ok (zF.ret (ai (-1)) [])):=kw
def eL(o:Sem zg):List (Sem zg)->Int->Sem zg
 |[],_=>(-1)
 |x::r,h=>(ite ((o==x)=Q3) h (eL o r (h+1)))
theorem ZV{C:fg}(F:∀id,C.ρ0 id=Q2)(E:Sem zg)(z:LI)(J:Io z<=aF):∀(m i:Nat),Io z-i=m->i<=Io z->
  Reach (ie) C 153 (aj Tryz.f153 2) (EL z E (Io z:Int) (i:Int)) (λr h=>aI h [zg] r=Q1 (eL E (z.drop i) i,())):=by
 intro m
 induction m with
 | zero=>
  intro i H G;obtain rfl:i=Io z:=by omega
  rw[jM];refine zI dX (Qv) (λid _=>F id) (QB _ _ _ _) ?_;generalize o:eL E [] _=y;rw[eL]at o;simp only[zB,Tr.val_brF];repeat' (first|with_reducible refine du o (λ_ o=>?_) (λ_ o=>?_)|with_reducible refine zP ?_)
  all_goals first|(cases hc;done)|(subst o;first|rfl)
 | succ m I=>
  intro i H G;have u:i<Io z:=by omega
  have I:=I (i+1);have B:((i:Int)+1)=((i+1:Nat):Int):=by omega
  have D:=zr i ow;rw[fk u];refine zI dX (Qv) (λid _=>F id) (QB _ _ _ _) ?_;generalize o:eL E (z[i]::z.drop (i+1)) (i:Int)=y;rw[eL]at o;simp only[zE u,zt u,cL z _ u,D,Tr.val_brT,Tr.val_chkT];clear D
  try simp only[zt u]at o
  simp only[B]at o;repeat' (first|with_reducible refine du o (λ_ o=>?_) (λ_ o=>?_)|with_reducible refine zP ?_)
  all_goals first|(cases hc;done)|(subst o;first|(change Reach _ _ _ _ _ _;apply I<;>first|omega|assumption)|rfl)
theorem Ui{C:fg}(z:∀id,C.ρ0 id=Q2)(u:Sem zg)(o:LI):
  Reach (ie) C 153 (aj Tryz.f153 2) (EL o u (Io o:Int) 0) (λr h=>aI h [zg] r=Q1 (eL u o 0,())):=
 Reach.len 0 (Sh.int IntKind.i64) o rfl λB=>ZV z u o B _ 0 rfl (aQ _)
def gF(h:Sem zg.sl)(o:Sem zg):Sem zg:=(eL o h 0)
def zks:ac:=aH [zg.sl,zg] [zg] λx=>(gF x.1 x.2.1,())
theorem zf6:FK 153 zks:=by
 refine ag (Qv) λx C o=>?_
 refine zI dX (Qv) (λid _=>o id) (zmW x.1 x.2.1) ?_;generalize h:gF x.1 x.2.1=y;unfold gF at h
 try simp only[zf.eta]
 repeat' (first|with_reducible refine du h (λ_ h=>?_) (λ_ h=>?_)|with_reducible refine zP ?_)
 all_goals first|(cases hc;done)|(subst h;first|(change Reach _ _ _ _ _ _;apply Ui o<;>first|assumption|exact hc)|rfl)
abbrev zec:Nat->aM:=λj=>if j=2 then{slots:=[0,1,7,8]}else{ }
abbrev EM(u:LS)(z:TS)(h:Int)(o:Int):St:={tmps:=(tm 19 [(0,sl Q6 u),(1,str z),(7,ai h),(8,ai o)]),heap:=[]}
theorem Qw:zO (ie).P 204 Tryz.f204 2:=bU kw
theorem zm1(h:Sem Sh.str.sl)(o:TS):rn ie 0 zec Tryz.f204 [zC Sh.str.sl h,zC Q6 o] []=Tr.ok (zF.head 2 (aj Tryz.f204 2) (EM h o (↑(Io h):Int) 0)):=kw
theorem QC(o:LS)(z:TS)(u:Int)(h:Int):rh ie 0 zec Tryz.f204 2 (EM o z u h)=br (Q0 (h<u)) (Qc (zJ h (Io o)) (br (z==o.getD h.toNat (zi Q6)) (Tr.ok (zF.ret (ai h) [])) (Tr.ok (zF.head 2 (aj Tryz.f204 2) (EM o z u (Γ Δ (h+1))))))) (Tr.ok (zF.ret (ai (-1)) [])):=kw
def iE(o:TS):List (Sem Q6)->Int->Sem zg
 |[],_=>(-1)
 |x::r,h=>(ite ((o==x)=Q3) h (iE o r (h+1)))
theorem ZW{C:fg}(F:∀id,C.ρ0 id=Q2)(E:TS)(z:LS)(J:Io z<=aF):∀(m i:Nat),Io z-i=m->i<=Io z->
  Reach (ie) C 204 (aj Tryz.f204 2) (EM z E (Io z:Int) (i:Int)) (λr h=>aI h [zg] r=Q1 (iE E (z.drop i) i,())):=by
 intro m
 induction m with
 | zero=>
  intro i H G;obtain rfl:i=Io z:=by omega
  rw[jM];refine zI dX (Qw) (λid _=>F id) (QC _ _ _ _) ?_;generalize o:iE E [] _=y;rw[iE]at o;simp only[zB,Tr.val_brF];repeat' (first|with_reducible refine du o (λ_ o=>?_) (λ_ o=>?_)|with_reducible refine zP ?_)
  all_goals first|(cases hc;done)|(subst o;first|rfl)
 | succ m I=>
  intro i H G;have u:i<Io z:=by omega
  have I:=I (i+1);have B:((i:Int)+1)=((i+1:Nat):Int):=by omega
  have D:=zr i ow;rw[fk u];refine zI dX (Qw) (λid _=>F id) (QC _ _ _ _) ?_;generalize o:iE E (z[i]::z.drop (i+1)) (i:Int)=y;rw[iE]at o;simp only[zE u,zt u,cL z _ u,D,Tr.val_brT,Tr.val_chkT];clear D
  try simp only[zt u]at o
  simp only[B]at o;repeat' (first|with_reducible refine du o (λ_ o=>?_) (λ_ o=>?_)|with_reducible refine zP ?_)
  all_goals first|(cases hc;done)|(subst o;first|(change Reach _ _ _ _ _ _;apply I<;>first|omega|assumption)|rfl)
theorem Uk{C:fg}(z:∀id,C.ρ0 id=Q2)(u:TS)(o:LS):
  Reach (ie) C 204 (aj Tryz.f204 2) (EM o u (Io o:Int) 0) (λr h=>aI h [zg] r=Q1 (iE u o 0,())):=
 Reach.len 0 (Q6) o rfl λB=>ZW z u o B _ 0 rfl (aQ _)
def LP(h:Sem Sh.str.sl)(o:TS):Sem zg:=(iE o h 0)
def zkL:ac:=aH [Sh.str.sl,Q6] [zg] λx=>(LP x.1 x.2.1,())
theorem zgo:FK 204 zkL:=by
 refine ag (Qw) λx C o=>?_
 refine zI dX (Qw) (λid _=>o id) (zm1 x.1 x.2.1) ?_;generalize h:LP x.1 x.2.1=y;unfold LP at h
 try simp only[zf.eta]
 repeat' (first|with_reducible refine du h (λ_ h=>?_) (λ_ h=>?_)|with_reducible refine zP ?_)
 all_goals first|(cases hc;done)|(subst h;first|(change Reach _ _ _ _ _ _;apply Uk o<;>first|assumption|exact hc)|rfl)
abbrev Wh:Nat->aM:=λj=>if j=2 then{slots:=[0,3,7,8]}else{ }
abbrev wD(B:LF)(u:Int)(z:Int)(h:Sem zg)(o:TS):St:={tmps:=(tm 19 [(0,sl zp B),(3,Qf 0 0),(7,ai u),(8,ai z)]),heap:=[Qa [ai h,str o]]}
theorem IX:zO (ie).P 195 Tryz.f195 2:=bU kw
theorem zhf(h:Sem zp.sl)(o:Sem zp):rn ie 0 Wh Tryz.f195 [zC zp.sl h,zC zp o] []=Tr.ok (zF.head 2 (aj Tryz.f195 2) (wD h (↑(Io h):Int) 0 o.1 o.2)):=kw
theorem Mc(z:LF)(B:Int)(h:Int)(o:Sem zg)(u:TS):rh ie 0 Wh Tryz.f195 2 (wD z B h o u)=br (Q0 (h<B)) (Qc (zJ h (Io z)) (br (o==(z.getD h.toNat (zi zp)).1&&(u==(z.getD h.toNat (zi zp)).2&&Q3)) (Tr.ok (zF.ret (ai h) [])) (Tr.ok (zF.head 2 (aj Tryz.f195 2) (wD z B (Γ Δ (h+1)) o u))))) (Tr.ok (zF.ret (ai (-1)) [])):=kw
def iD(h:Sem zg)(o:TS):List (Sem zp)->Int->Sem zg
 |[],_=>(-1)
 |x::r,u=>(ite ((h==x.1&&(o==x.2&&Q3))=Q3) u (iD h o r (u+1)))
theorem Ue{C:fg}(G:∀id,C.ρ0 id=Q2)(B:Sem zg)(D:TS)(z:LF)(L:Io z<=aF):∀(m i:Nat),Io z-i=m->i<=Io z->
  Reach (ie) C 195 (aj Tryz.f195 2) (wD z (Io z:Int) (i:Int) B D) (λr h=>aI h [zg] r=Q1 (iD B D (z.drop i) i,())):=by
 intro m
 induction m with
 | zero=>
  intro i J H;obtain rfl:i=Io z:=by omega
  rw[jM];refine zI dX (IX) (λid _=>G id) (Mc _ _ _ _ _) ?_;generalize o:iD B D [] _=y;rw[iD]at o;simp only[zB,Tr.val_brF];repeat' (first|with_reducible refine du o (λ_ o=>?_) (λ_ o=>?_)|with_reducible refine zP ?_)
  all_goals first|(cases hc;done)|(subst o;first|rfl)
 | succ m I=>
  intro i J H;have u:i<Io z:=by omega
  have I:=I (i+1);have E:((i:Int)+1)=((i+1:Nat):Int):=by omega
  have F:=zr i ow;rw[fk u];refine zI dX (IX) (λid _=>G id) (Mc _ _ _ _ _) ?_;generalize o:iD B D (z[i]::z.drop (i+1)) (i:Int)=y;rw[iD]at o;simp only[zE u,zt u,cL z _ u,F,Tr.val_brT,Tr.val_chkT];clear F
  try simp only[zt u]at o
  simp only[E]at o;repeat' (first|with_reducible refine du o (λ_ o=>?_) (λ_ o=>?_)|with_reducible refine zP ?_)
  all_goals first|(cases hc;done)|(subst o;first|(change Reach _ _ _ _ _ _;apply I<;>first|omega|assumption)|rfl)
theorem RZ{C:fg}(B:∀id,C.ρ0 id=Q2)(o:Sem zg)(u:TS)(z:LF):
  Reach (ie) C 195 (aj Tryz.f195 2) (wD z (Io z:Int) 0 o u) (λr h=>aI h [zg] r=Q1 (iD o u z 0,())):=
 Reach.len 0 (zg.pr Q6) z rfl λD=>Ue B o u z D _ 0 rfl (aQ _)
def LN(o:Sem zp.sl)(h:Sem zp):Sem zg:=(iD h.1 h.2 o 0)
def zck:ac:=aH [zp.sl,zp] [zg] λx=>(LN x.1 x.2.1,())
theorem Y1:FK 195 zck:=by
 refine ag (IX) λx C o=>?_
 refine zI dX (IX) (λid _=>o id) (zhf x.1 x.2.1) ?_;generalize h:LN x.1 x.2.1=y;unfold LN at h
 try simp only[zf.eta]
 repeat' (first|with_reducible refine du h (λ_ h=>?_) (λ_ h=>?_)|with_reducible refine zP ?_)
 all_goals first|(cases hc;done)|(subst h;first|(change Reach _ _ _ _ _ _;apply RZ o<;>first|assumption|exact hc)|rfl)
abbrev znE:Nat->aM:=λ_=>{ }
theorem zei:zO (ie).P 69 Tryz.f69 1:=bU kw
theorem zmG(h:Sem zq):rn ie 0 znE Tryz.f69 [zC zq h] []=br (h.2.2.1==[]) (Tr.ok (zF.ret (sl Q6 [h.2.1]) [])) (Tr.ok (zF.ret (sl Q6 [h.2.1,h.2.2.1]) [])):=kw
def lz(h:Sem zq):Sem Sh.str.sl:=(ite ((h.2.2.1==[])=Q3) [h.2.1] [h.2.1,h.2.2.1])
def zjz:ac:=aH [zq] [Sh.str.sl] λx=>(lz x.1,())
theorem ze5:FK 69 zjz:=by
 refine ag (zei) λx C o=>?_
 refine zI dX (zei) (λid _=>o id) (zmG x.1) ?_;generalize h:lz x.1=y;unfold lz at h
 try simp only[zf.eta]
 repeat' (first|with_reducible refine du h (λ_ h=>?_) (λ_ h=>?_)|with_reducible refine zP ?_)
 all_goals first|(cases hc;done)|(subst h;first|rfl)
def zci:ac:=bp (List.replicate 2 Q2) (fA ie Tryz.f191 (List.replicate 2 Q2))
theorem YZ:FK 191 zci:=ch _ dX (bU kw)
def Am:=ie.addL [(153,zks),(204,zkL),(195,zck),(69,zjz),(191,zci)]
theorem ra:zw Am:=dX.addL<|fc zf6<|fc zgo<|fc Y1<|fc ze5<|fc YZ iA
abbrev zhR:Nat->aM:=λ_=>{ }
theorem WV:zO (Am).P 192 Tryz.f192 2:=bU kw
theorem zhe(h:Sem zg.sl)(o:Sem zg):rn Am 0 zhR Tryz.f192 [zC zg.sl h,zC zg o] []=Tr.ok (zF.ret (AV.bool (Q0 (gF h o>=0))) []):=kw
def ud(h:Sem zg.sl)(o:Sem zg):Sem Q7:=(Q0 (gF h o>=0))
def zcj:ac:=aH [zg.sl,zg] [Q7] λx=>(ud x.1 x.2.1,())
theorem Y0:FK 192 zcj:=by
 refine ag (WV) λx C o=>?_
 refine zI ra (WV) (λid _=>o id) (zhe x.1 x.2.1) ?_;generalize h:ud x.1 x.2.1=y;unfold ud at h
 try simp only[zf.eta]
 repeat' (first|with_reducible refine du h (λ_ h=>?_) (λ_ h=>?_)|with_reducible refine zP ?_)
 all_goals first|(cases hc;done)|(subst h;first|rfl)
abbrev znZ:Nat->aM:=λ_=>{ }
theorem zel:zO (Am).P 163 Tryz.f163 2:=bU kw
theorem zmQ(h:Sem Sh.str.sl)(o:TS):rn Am 0 znZ Tryz.f163 [zC Sh.str.sl h,zC Q6 o] []=Tr.ok (zF.ret (AV.bool (Q0 (LP h o>=0))) []):=kw
def aB(h:Sem Sh.str.sl)(o:TS):Sem Q7:=(Q0 (LP h o>=0))
def zkc:ac:=aH [Sh.str.sl,Q6] [Q7] λx=>(aB x.1 x.2.1,())
theorem zfM:FK 163 zkc:=by
 refine ag (zel) λx C o=>?_
 refine zI ra (zel) (λid _=>o id) (zmQ x.1 x.2.1) ?_;generalize h:aB x.1 x.2.1=y;unfold aB at h
 try simp only[zf.eta]
 repeat' (first|with_reducible refine du h (λ_ h=>?_) (λ_ h=>?_)|with_reducible refine zP ?_)
 all_goals first|(cases hc;done)|(subst h;first|rfl)
abbrev zn9:Nat->aM:=λ_=>{ }
theorem zen:zO (Am).P 155 Tryz.f155 2:=bU kw
theorem zmX(h:Sem zp.sl)(o:Sem zp):rn Am 0 zn9 Tryz.f155 [zC zp.sl h,zC zp o] []=Tr.ok (zF.ret (AV.bool (Q0 (LN h o>=0))) []):=kw
def js(h:Sem zp.sl)(o:Sem zp):Sem Q7:=(Q0 (LN h o>=0))
def zku:ac:=aH [zp.sl,zp] [Q7] λx=>(js x.1 x.2.1,())
theorem zf8:FK 155 zku:=by
 refine ag (zen) λx C o=>?_
 refine zI ra (zen) (λid _=>o id) (zmX x.1 x.2.1) ?_;generalize h:js x.1 x.2.1=y;unfold js at h
 try simp only[zf.eta]
 repeat' (first|with_reducible refine du h (λ_ h=>?_) (λ_ h=>?_)|with_reducible refine zP ?_)
 all_goals first|(cases hc;done)|(subst h;first|rfl)
def Ld:=Am.addL [(192,zcj),(163,zkc),(155,zku)]
theorem Gu:zw Ld:=ra.addL<|fc Y0<|fc zfM<|fc zf8 iA
abbrev Wn:Nat->aM:=λj=>if j=2 then{slots:=[0,12,13,14]}else{ }
inductive Kv where
 |h2 (i13:Int) (i14:Int) (z0:zm au)
abbrev UI:Kv->Nat×St
 |.h2 h o z=>(2,⟨tm 65 [(0,Qf 0 0),(12,AV.vec 1),(13,ai h),(14,ai o)],[Qa (bf [1] au z),AO.vec zj z.t.t.1]⟩)
theorem zoO:zO Ld.P 117 Tryz.f117 1:=bU kw
def zaQ(y:zm au):Tr (Kv⊕aw):=Q9 (Kv.h2 (↑y.t.t.1.length:Int) 0 y)
def J7(o:Int)(h:Int)(z:zm au)(B:zf)(C:Sem zj)(u:Sem zg×Sem zg):Tr (Kv⊕aw):=br (Q0 (h<o)) (Qc (zJ h (Io z.t.t.1)) (Qc (Q0 (h.toNat<Io z.t.t.1)) (br (zR (z.t.q.2.1,z.t.t.1,z.t.t.2.1,[],[],B) C.1!=h) (re (ai 7) (ay au z)) (Q9 (Kv.h2 o (Γ Δ (h+1)) z))))) (br (zf.op z.t.t.q.1==[]) (re (ai 0) (ay au z)) (br (cond (u.2==0) (cond (u.1!=3) (u.1!=0) Q4) Q4) (re (ai 5) (ay au z)) (re (ai u.2) (ay au z))))
def Pf(o:Int)(h:Int)(z:zm au):Tr (Kv⊕aw):=
 let u:=zl z.t.t.q.1
 let B:=z.t.t.1.getD h.toNat (zi zj)
 let C:=bM u z.t.t.1
 J7 o h z u B C
theorem zmN(y:zm au):rn Ld 2 Wn Tryz.f117 [Qf 0 0] (ay au y)=(zaQ y).map (lf Tryz.f117 UI):=kw
def M8:Kv->Tr (Kv⊕aw)
 |.h2 h o z=>Pf h o z
theorem zpv:∀s,run Ld 2 Wn (Func.results Tryz.f117).toList 400 (aj Tryz.f117 (UI s).1) (UI s).2=(M8 s).map (lf Tryz.f117 UI)|.h2 h o z=>by kernel_rfl
def vC(y:zm au):Option (zz (Qi Q1 [zg])×zm au):=kA [zg] au M8 100000000 (zaQ y)
def gG(y:zm au):Bool:=(vC y).isSome
def fC(y:zm au):(Sem zg)×zm au:=(λr:zz (Qi Q1 [zg])×zm au=>(r.1.1,r.2)) ((vC y).getD (bQ [zg],fK au))
def zj2:ac:=sE au [] [zg] au (λy _=>gG y) λy _=>(((fC y).1,()),(fC y).2)
theorem zfC:FK 117 zj2:=kd (keep:=Wn) (gas:=400) (n:=100000000) (e:=UI) (t:=M8) (i:=λy x=>zaQ y) Gu zoO (λy x=>zmN y) zpv (λ_ _=>by kernel_rfl) (λ_ _=>by kernel_rfl)
def Vb:=Ld.add 117 zj2
theorem Gv:zw Vb:=Gu.add zfC
def zkz:ac:=bp (List.replicate 2 Q2) (fA Vb Tryz.f162 (List.replicate 2 Q2))
theorem zgc:FK 162 zkz:=ch _ Gv (bU kw)
def Le:=Vb.add 162 zkz
theorem xL:zw Le:=Gv.add zgc
abbrev BX(s:List zD)(l:LF)(i:Int):St:={tmps:=[.sl zp l,.clo (.func 162) [] [.ptr 0 0],.any,.any,.any,.any,.any,.int .i64 (Io l),.int .i64 i,.any,.any,.any,.any,.any,.any,.any,.any,.any,.any],heap:=[.box [.sl .str s]]}
theorem Vz(s:List zD)(l:LF):run Le 1 A3 Tryz.f205.results.toList 300 (bC Tryz.f205) (bj Tryz.f205.ntmps [.sl zp l,.clo (.func 162) [] [.ptr 0 0]] [.box [.sl .str s]])=.ok (.head 2 (aj Tryz.f205 2) (BX s l 0)):=kw
theorem Xk(s:List zD)(l:LF)(i:Int):run Le 1 A3 Tryz.f205.results.toList 300 (aj Tryz.f205 2) (BX s l i)=oz (K:=aj Tryz.f205 2) (e:=zp) l (λx=>aB s x.2) (BX s l) [.box [.sl .str s]] i:=kw
theorem Xb:zO Le.P 205 Tryz.f205 2:=bU kw
def zl5:iV [Q1 (.sl zp),Q2]:=λx h=>match x,h with
 |(l,.clo (.func 162) [] [.ptr 0 0],_),[.box [.sl .str s]]=>.ok (.int .i64 (zW (λx=>aB s x.2) l 0),[.box [.sl .str s]])
 |_,_=>.err
def zkP:ac:=bp [Q1 (.sl zp),Q2] zl5
theorem zgt:FK 205 zkP:=by
 refine dV Xb λx D B h C o=>?_
 unfold zl5 at h;split at h
 ·rename_i l u s;simp only[Tr.val_ok,bH]at h;subst h;refine Reach.len 0 zp l rfl λz=>?_
  refine zI (n0:=1) xL Xb o (Vz s l) ?_;exact kR l (λx=>aB s x.2) (BX s l) xL Xb o (Xk s l) z _ 0 rfl (aQ _)
 ·simp at h
def Vc:=Le.add 205 zkP
theorem Gw:zw Vc:=xL.add zgt
def zkA:ac:=bp (List.replicate 2 Q2) (fA Vc Tryz.f164 (List.replicate 2 Q2))
theorem zgd:FK 164 zkA:=ch _ Gw (bU kw)
def zdm:=Vc.add 164 zkA
theorem xM:zw zdm:=Gw.add zgd
abbrev cpR:List CP:=[.d zh]
abbrev zg1:List CP:=[.d .str,.nil,.d zg,.nil,.nil,.d .str,.d zg,.d zg,.d .str,.d .str,.nil,.nil]
abbrev zmg:List CP:=[.d zo,.vec (.sl ze)]
abbrev pC:List CP:=[.d zn]
abbrev jk:List CP:=[.d .str,.d .str,.d .str,.nil,.nil,.d .str,.nil,.nil,.d .str,.d zg,.d zg,.d .str,.d .str,.nil,.nil,.nil,.d .str,.d zg,.d zg,.d .str,.d .str,.nil,.d .str]
abbrev Uy:List CP:=[.d .str,.d .str,.d .str,.d (.sl .str),.d (.sl zj),.d .str,.d (.sl .str),.vec jf,.d .expr,.d (.sl ze),.nil,.d .expr,.d .str]
abbrev Uz:List CP:=[.d .str,.d .str,.d .str,.d (.sl .str),.d (.sl zj),.d .str,.d (.sl .str),.vec jf,.d .expr,.d (.sl ze),.vec ij,.d .expr,.d .str]
abbrev znI:Nat->aM:=λj=>if j=6 then{slots:=[1,2,3,4,5],prom:=[(3,Q1 11,.sl ze)]}else{ }
inductive Np where
 |h6 (i4:Int) (i5:Int) (z0:zm cpR) (z1:zm zg1) (z2:zm zmg)
abbrev zqz:Np->Nat×St
 |.h6 h o u B z=>(6,⟨tm 38 [(1,Qf 0 0),(2,Qf 1 0),(3,Qf 2 0),(4,ai h),(5,ai o)],[Qa (bf [] cpR u),Qa (bf [] zg1 B),Qa (bf [3] zmg z),AO.vec ze.sl z.2.1]⟩)
def zhx(h:Sem zh):Tr (Np⊕aw):=
 let o:=(E6 (h.1.1,h.1.2.1,h.1.2.2.1,h.1.2.2.2.1,h.1.t.1,zl h.1.t.2),[],())
 br (Q0 ((↑(Io h.2):Int)>200)) (Q9 (Np.h6 201 0 (h,()) ([],0,[],0,0,[],[],()) o))
 (Q9 (Np.h6 40 0 (h,()) ([],0,[],0,0,[],[],()) o))
def Tp:Np->Tr (Np⊕aw)
 | .h6 B h o D z=>
  let C:=(↑(Io o.1.2):Int)
  let u:=[mi (getD o.1.2 h.toNat (zi ze.sl))]
  br (cond (Q0 (h<C)) (Q0 (h<B)) Q4)
  (Qc (zJ h (Io o.1.2))
   (Qc (Q0 (Io z.2.1+Io u<=1073741824)) (Q9 (Np.h6 B (Γ Δ (h+1)) o D (z.1,z.2.1++u,())))))
  (re
   (agg [str z.1.1,sl zj z.1.2.1,ai z.1.2.2.1,sl zg z.1.2.2.2.1,sl zp z.1.t.1,str (zf.op z.1.t.2),ai (zf.v z.1.t.2).1,ai (zf.v z.1.t.2).2.1,str (zf.v z.1.t.2).2.2,str (zf.s z.1.t.2),sl Q5 (zf.l z.1.t.2),AV.vec 0])
   [AO.vec ze.sl z.2.1])
def Dz(h:Sem zh):=an [zh] Tp 100000000 (zhx h)
def Oq(h:Sem zh):=(Dz h).isSome
def AC(h:Sem zh):=o1 (Dz h)
def zjF:=FT [zh] [zh] λx=>Dz x.1
theorem zfd:FK 39 zjF:=xM.T1 (f:=Tryz.f39) (keep:=znI) (e:=zqz)
abbrev zsm:Nat->aM:=λj=>if j=3 then{slots:=[1,2,3,4],prom:=[(3,Q1 7,jf)]}else if j=7 then{slots:=[1,2,3,5],prom:=[(3,Q1 15,ij)]}else{ }
inductive H8p where
 |h3 (i4:Int) (z0:zm pC) (z1:zm jk) (z2:zm Uy)
 |h7 (i5:Int) (z0:zm pC) (z1:zm jk) (z2:zm Uz)
abbrev e8p:H8p->Nat×St
 |.h3 u h o z=>(3,⟨tm 103 [(1,Qf 0 0),(2,Qf 1 0),(3,Qf 2 0),(4,ai u)],[Qa (bf [] pC h),Qa (bf [] jk o),Qa (bf [3] Uy z),AO.vec (Sh.str.pr Q6) z.t.q.2.1]⟩)
 |.h7 B h o z=>(7,⟨tm 103 [(1,Qf 0 0),(2,Qf 1 0),(3,Qf 2 0),(5,ai B)],[Qa (bf [] pC h),Qa (bf [] jk o),Qa (bf [3,4] Uz z),AO.vec (Sh.str.pr Q6) z.t.q.2.1,AO.vec (Sh.str.pr Q5) z.t.t.q.1]⟩)
def i8p(h:Sem zn):Tr (H8p⊕aw):=
 Qc (fB h.1)
 (Qc (fB h.2.1)
  (Qc (fB h.2.2.1) (Qc (fB h.t.2.1) (Qc (fB h.t.t.t) (Qc (qo h.2.2.2.1) (Qc (qo h.t.q.1) (Q9 (H8p.h3 0 (h,()) ([],[],[],[],[],0,0,[],[],[],0,0,[],[],[],()) (di h.1,di h.2.1,di h.2.2.1,kx h.2.2.2.1,jS h.t.1,
  di h.t.2.1,kx h.t.q.1,[],e8 (zl h.t.t.1),mi h.t.t.2.1,e8 (zl h.t.t.q.2.1),di h.t.t.t,())))))))))
def t8p:H8p->Tr (H8p⊕aw)
 | .h3 C h E z=>
  let F:=(↑(Io h.1.t.q.2.1):Int)
  let u:=zJ C (Io h.1.t.q.2.1)
  let o:=getD h.1.t.q.2.1 C.toNat (zi jf)
  let B:=[(di o.1,di o.2)]
  br (cond (Q0 (C<F)) (Q0 (C<10)) Q4)
  (Qc u
   (Qc (fB o.1) (Qc u (Qc (fB o.2) (Qc (Q0 (Io z.t.q.2.1+Io B<=1073741824)) (Q9 (H8p.h3 (Γ Δ (C+1)) h E (z.1,z.2.1,z.2.2.1,z.2.2.2.1,z.t.1,z.t.2.1,z.t.q.1,z.t.q.2.1++B,z.t.t))))))))
  (Q9
   (H8p.h7 0 h E (z.1,z.2.1,z.2.2.1,z.2.2.2.1,z.t.1,z.t.2.1,z.t.q.1,z.t.q.2.1,z.t.t.1,z.t.t.2.1,[],z.t.t.q)))
 | .h7 D h E z=>
  let F:=(↑(Io h.1.t.t.q.1):Int)
  let u:=zJ D (Io h.1.t.t.q.1)
  let o:=getD h.1.t.t.q.1 D.toNat (zi ij)
  let B:=[(di o.1,zl (e8 (zl o.2)))]
  br (cond (Q0 (D<F)) (Q0 (D<10)) Q4)
  (Qc u
   (Qc (fB o.1) (Qc u (Qc (Q0 (Io z.t.t.q.1+Io B<=1073741824)) (Q9 (H8p.h7 (Γ Δ (D+1)) h E (z.1,z.2.1,z.2.2.1,z.2.2.2.1,z.t.1,z.t.2.1,z.t.q.1,z.t.q.2.1,z.t.t.1,z.t.t.2.1,z.t.t.q.1++B,z.t.t.q.2)))))))
  (re
   (agg [str z.1,str z.2.1,str z.2.2.1,sl Q6 z.2.2.2.1,sl zj z.t.1,str z.t.2.1,sl Q6 z.t.q.1,AV.vec 0,str (zf.op z.t.t.1),ai (zf.v z.t.t.1).1,ai (zf.v z.t.t.1).2.1,str (zf.v z.t.t.1).2.2,str (zf.s z.t.t.1),
   sl Q5 (zf.l z.t.t.1),sl ze z.t.t.2.1,AV.vec 1,str (zf.op z.t.t.q.2.1),ai (zf.v z.t.t.q.2.1).1,ai (zf.v z.t.t.q.2.1).2.1,str (zf.v z.t.t.q.2.1).2.2,str (zf.s z.t.t.q.2.1),
   sl Q5 (zf.l z.t.t.q.2.1),str z.t.t.t.1])
   [AO.vec (Sh.str.pr Q6) z.t.q.2.1,AO.vec (Sh.str.pr Q5) z.t.t.q.1])
def yf(h:Sem zn):=an [zn] t8p 100000000 (i8p h)
def On(h:Sem zn):=(yf h).isSome
def Wt(h:Sem zn):=o1 (yf h)
def F8p:=FT [zn] [zn] λx=>yf x.1
theorem zlQ:FK 18 F8p:=xM.T1 (f:=Tryz.f18) (keep:=zsm) (e:=e8p)
def zdo:=zdm.addL [(39,zjF),(18,F8p)]
theorem GB:zw zdo:=xM.addL<|fc zfd<|fc zlQ iA
abbrev zsh:Nat->aM:=λj=>if j=3 then{slots:=[0,3,4],prom:=[(3,Q2,zh)]}else{ }
inductive H7p where
 |h3 (l0:List (Sem zh)) (i4:Int) (lh_0:List (Sem zh))
abbrev e7p:H7p->Nat×St
 |.h3 u o h=>(3,⟨tm 24 [(0,sl zh u),(3,AV.vec 0),(4,ai o)],[AO.vec zh h]⟩)
def i7p(h:Sem zh.sl):Tr (H7p⊕aw):=
 Q9 (H7p.h3 h 0 [])
def t7p:H7p->Tr (H7p⊕aw)
 | .h3 B z h=>
  let o:=B.getD z.toNat (zi zh)
  let C:=((o.1.1,o.1.2.1,o.1.2.2.1,o.1.2.2.2.1,o.1.t.1,zl o.1.t.2),o.2)
  let u:=AC C
  let D:=[((u.1.1,u.1.2.1,u.1.2.2.1,u.1.2.2.2.1,u.1.t.1,zl u.1.t.2),u.2)]
  br (cond (Q0 (z<(↑B.length:Int))) (Q0 (z<13)) Q4)
  (Qc (zJ z (Io B))
   (Qc (Oq C) (Qc (Q0 (Io h+Io D<=1073741824)) (Q9 (H7p.h3 B (Γ Δ (z+1)) (h++D))))))
  (re (AV.vec 0)
   [AO.vec zh h])
def DA(h:Sem zh.sl):=an [zh.sl] t7p 100000000 (i7p h)
def Ot(h:Sem zh.sl):=(DA h).isSome
def Hc(h:Sem zh.sl):=o1 (DA h)
def F7p:=FT [zh.sl] [zh.sl] λx=>DA x.1
theorem zlH:FK 17 F7p:=GB.T1 (f:=Tryz.f17) (keep:=zsh) (e:=e7p)
def Li:=zdo.add 17 F7p
theorem GC:zw Li:=GB.add zlH
abbrev Wm:Nat->aM:=λj=>if j=3 then{slots:=[0,3,14,15,16]}else if j=11 then{slots:=[0,3,55,56,57]}else{ }
inductive xh where
 |h3 (l14:LS) (i15:Int) (i16:Int) (z0:zm bm) (jb0:LS)
 |h11 (l55:List (Sem zh)) (i56:Int) (i57:Int) (z0:zm bm) (jb0:LS)
abbrev UH:xh->Nat×St
 |.h3 C o u E h=>(3,⟨tm 122 [(0,Qf 0 0),(3,Qf 1 0),(14,sl Q6 C),(15,ai o),(16,ai u)],[Qa (bf [] bm E),Qa [sl Q6 h]]⟩)
 |.h11 D z B E h=>(11,⟨tm 122 [(0,Qf 0 0),(3,Qf 1 0),(55,sl zh D),(56,ai z),(57,ai B)],[Qa (bf [] bm E),Qa [sl Q6 h]]⟩)
theorem zoN:zO Li.P 116 Tryz.f116 1:=bU kw
def zaP(y:zm bm):Tr (xh⊕aw):=
 let h:=lz (y.t.1,y.t.2.1,y.t.q.1,(y.t.q.2.1,[],y.t.t.1,[],[],zl y.t.t.2.1),[],y.t.t.q.1)
 Q9 (xh.h3 h (↑(Io h):Int) 0 y h)
def J6(B:LS)(o:Int)(h:Int)(z:zm bm)(u:LS)(C:Sem zg)(D:Sem zg):Tr (xh⊕aw):=br (Q0 (h<o)) (Qc (zJ h (Io B)) (br (Q0 (C<0)) (re (ai 6) (ay bm z)) (Q9 (xh.h3 B o (Γ Δ (h+1)) z u)))) (br (cond (Q0 (D>=0)) Q3 (z.t.2.1==z.t.q.1)) (re (ai 7) (ay bm z)) (Q9 (xh.h11 z.1 (↑(Io z.1):Int) 0 z u)))
def Pe(o:LS)(u:Int)(h:Int)(z:zm bm)(B:LS):Tr (xh⊕aw):=
 let C:=zX z.1 (o.getD h.toNat (zi Q6))
 let D:=zX z.1 z.2.1.2.1
 J6 o u h z B C D
def E2(B:List (Sem zh))(o:Int)(h:Int)(z:zm bm)(u:LS)(D:Sem zh)(E:Int)(F:Sem zg)(G:Sem zg)(C:Sem zh)(H:Sem zh):Tr (xh⊕aw):=br (Q0 (h<o)) (Qc (zJ h (Io B)) (br (!aB u D.1.1) (br (Q0 (E>=0)) (re (ai 10) (ay bm z)) (Q9 (xh.h11 B o (Γ Δ (h+1)) z u))) (Q9 (xh.h11 B o (Γ Δ (h+1)) z u)))) (Qc (zJ F (Io z.1)) (br (!z.t.q.1==[]) (Qc (zJ G (Io z.1)) (re (ai 0) (ay bm (z.1,z.2.1,C.1,H.1,z.t)))) (re (ai 0) (ay bm (z.1,z.2.1,C.1,z.2.2.2)))))
def J5(u:List (Sem zh))(B:Int)(h:Int)(z:zm bm)(o:LS):Tr (xh⊕aw):=
 let C:=u.getD h.toNat (zi zh)
 let F:=zW (λx=>aB o x.2) C.1.t.1 0
 let D:=zX z.1 z.t.2.1
 let E:=zX z.1 z.t.q.1
 let G:=getD z.1 (toNat D) (zi zh)
 let H:=getD z.1 (toNat E) (zi zh)
 E2 u B h z o C F D E G H
theorem zmM(y:zm bm):rn Li 1 Wm Tryz.f116 [Qf 0 0] (ay bm y)=(zaP y).map (lf Tryz.f116 UH):=kw
def E1:xh->Tr (xh⊕aw)
 |.h3 C o u E h=>Pe C o u E h
 |.h11 D z B E h=>J5 D z B E h
theorem zpu:∀s,run Li 1 Wm (Func.results Tryz.f116).toList 400 (aj Tryz.f116 (UH s).1) (UH s).2=(E1 s).map (lf Tryz.f116 UH)|.h3 C o u E h=>by kernel_rfl|.h11 D z B E h=>by kernel_rfl
def rA(y:zm bm):Option (zz (Qi Q1 [zg])×zm bm):=kA [zg] bm E1 100000000 (zaP y)
def np(y:zm bm):Bool:=(rA y).isSome
def nl(y:zm bm):(Sem zg)×zm bm:=(λr:zz (Qi Q1 [zg])×zm bm=>(r.1.1,r.2)) ((rA y).getD (bQ [zg],fK bm))
def zj0:ac:=sE bm [] [zg] bm (λy _=>np y) λy _=>(((nl y).1,()),(nl y).2)
theorem zfA:FK 116 zj0:=kd (keep:=Wm) (gas:=400) (n:=100000000) (e:=UH) (t:=E1) (i:=λy x=>zaP y) GC zoN (λy x=>zmM y) zpu (λ_ _=>by kernel_rfl) (λ_ _=>by kernel_rfl)
def Lf:=Li.add 116 zj0
theorem Gx:zw Lf:=GC.add zfA
abbrev dU:List CP:=[.d (.sl zh),.d zn,.d zo,.d zo,.d .str,.d .str,.d .str,.d .str,.vec zj,.d zg,.nil,.nil,.d .expr,.vec zg,.d zg]
abbrev Wp:Nat->aM:=λj=>if j=3 then{slots:=[1,3,14,15,16,0],prom:=[(0,Q1 60,.int .i64),(0,Q1 50,zj)]}else if j=12 then{slots:=[1,63,64,65,0]}else if j=1000000 then{sett:=[(0,60)]}else{ }
inductive tv where
 |h3 (l14:LS) (i15:Int) (i16:Int) (z0:zm dU)
 |h12 (i64:Int) (i65:Int) (z0:zm dU)
 |h12b (i64:Int) (i65:Int) (z0:zm dU)
abbrev UK:tv->Nat×St
 |.h3 C u B z=>(3,⟨tm 80 [(0,Qf 0 0),(1,Qf 1 0),(3,AV.clo (Fn.func 191) [] [Qf 1 0]),(14,sl Q6 C),(15,ai u),(16,ai B)],[Qa (bf [2,3] dU z),Qa [Qf 0 0],AO.vec zj z.t.t.1,AO.vec zg z.t.t.q.2.1]⟩)
 |.h12 h o z=>(12,⟨tm 80 [(0,Qf 0 0),(1,Qf 1 0),(63,AV.vec 2),(64,ai h),(65,ai o)],[Qa (bf [3,2] dU z),Qa [Qf 0 0],AO.vec zg z.t.t.q.2.1,AO.vec zj z.t.t.1]⟩)
 |.h12b h o z=>(12,⟨tm 80 [(0,Qf 0 0),(1,Qf 1 0),(63,AV.vec 2),(64,ai h),(65,ai o)],[Qa (bf [3,2] dU z),Qa [Qf 0 0],AO.frz zg z.t.t.q.2.1,AO.vec zj z.t.t.1]⟩)
theorem zpb:zO Lf.P 152 Tryz.f152 1:=bU kw
def zaU(y:zm bm):Tr (tv⊕aw):=Q9 (tv.h3 y.2.1.2.2.2.1 (↑(Io y.2.1.2.2.2.1):Int) 0 (y.1,y.2.1,y.2.2.1,y.2.2.2.1,y.t.1,y.t.2.1,y.t.q.1,y.t.q.2.1,[],y.t.t.1,y.t.t.2.1,[],y.t.t.q))
def Ka(u:LS)(o:Int)(h:Int)(z:zm dU)(B:Sem zg)(C:LI)(D:LC):Tr (tv⊕aw):=br (Q0 (h<o)) (Qc (zJ h (Io u)) (br (Q0 (B<0)) (re (ai 4) (ay au z)) (Qc (Q0 (Io z.t.t.q.2.1+Io C<=1073741824)) (Qc (zJ B (Io z.2.2.1.2.1)) (Qc (Q0 (Io z.t.t.1+Io D<=1073741824)) (Q9 (tv.h3 u o (Γ Δ (h+1)) (z.1,z.2.1,z.2.2.1,z.2.2.2.1,z.t.1,z.t.2.1,z.t.q.1,z.t.q.2.1,z.t.t.1++D,z.t.t.2.1,z.t.t.q.1,z.t.t.q.2.1++C,z.t.t.t)))))))) (Q9 (tv.h12 (↑z.t.t.q.2.1.length:Int) 0 z))
def Pi(o:LS)(B:Int)(h:Int)(z:zm dU):Tr (tv⊕aw):=
 let u:=zR (z.2.2.1.1,z.2.2.1.2.1,z.2.2.1.2.2.1,z.2.2.1.2.2.2.1,z.2.2.1.t.1,zl z.2.2.1.t.2) (o.getD h.toNat (zi Q6))
 let C:=[u]
 let D:=[getD z.2.2.1.2.1 (toNat u) (zi zj)]
 Ka o B h z u C D
def E5(o:Int)(h:Int)(z:zm dU)(u:Int):Tr (tv⊕aw):=br (Q0 (h<o)) (Qc (zJ h (Io z.t.t.q.2.1)) (Qc (Q0 (h.toNat<Io z.t.t.q.2.1)) (Qc (Q0 (0<=0)&&Q0 (0<=h)&&Q0 (h<=u)) (br (ud (List.take (h.toNat-toNat 0) (List.drop (toNat 0) z.t.t.q.2.1)) (z.t.t.q.2.1.getD h.toNat (zi zg))) (re (ai 7) (ay au z)) (Q9 (tv.h12b o (Γ Δ (h+1)) z)))))) (re (ai 0) (ay au z))
def J9(h:Int)(o:Int)(z:zm dU):Tr (tv⊕aw):=
 let u:=(↑z.t.t.q.2.1.length:Int)
 E5 h o z u
def yO(o:Int)(h:Int)(z:zm dU)(u:Int):Tr (tv⊕aw):=br (Q0 (h<o)) (Qc (zJ h (Io z.t.t.q.2.1)) (Qc (Q0 (0<=0)&&Q0 (0<=h)&&Q0 (h<=u)) (br (ud (List.take (h.toNat-toNat 0) (List.drop (toNat 0) z.t.t.q.2.1)) (z.t.t.q.2.1.getD h.toNat (zi zg))) (re (ai 7) (ay au z)) (Q9 (tv.h12b o (Γ Δ (h+1)) z))))) (re (ai 0) (ay au z))
def E4(h:Int)(o:Int)(z:zm dU):Tr (tv⊕aw):=
 let u:=(↑z.t.t.q.2.1.length:Int)
 yO h o z u
theorem zmV(y:zm bm):rn Lf 1 Wp Tryz.f152 [Qf 0 0] (ay bm y)=(zaU y).map (lf Tryz.f152 UK):=kw
def qM:tv->Tr (tv⊕aw)
 |.h3 C u B z=>Pi C u B z
 |.h12 h o z=>J9 h o z
 |.h12b h o z=>E4 h o z
theorem zpB:∀s,run Lf 1 Wp (Func.results Tryz.f152).toList 400 (aj Tryz.f152 (UK s).1) (UK s).2=(qM s).map (lf Tryz.f152 UK)|.h3 C u B z=>by kernel_rfl|.h12 h o z=>by kernel_rfl|.h12b h o z=>by kernel_rfl
def Bu(y:zm bm):Option (zz (Qi Q1 [zg])×zm au):=kA [zg] au qM 100000000 (zaU y)
def oB(y:zm bm):Bool:=(Bu y).isSome
def kl(y:zm bm):(Sem zg)×zm au:=(λr:zz (Qi Q1 [zg])×zm au=>(r.1.1,r.2)) ((Bu y).getD (bQ [zg],fK au))
def zkq:ac:=sE bm [] [zg] au (λy _=>oB y) λy _=>(((kl y).1,()),(kl y).2)
theorem zf4:FK 152 zkq:=kd (ps:=bm) (ks:=[]) (outs:=[zg]) (keep:=Wp) (gas:=400) (n:=100000000) (e:=UK) (t:=qM) (i:=λy x=>zaU y) Gx zpb (λy x=>zmV y) zpB (λ_ _=>by kernel_rfl) (λ_ _=>by kernel_rfl)
def Gy:=Lf.add 152 zkq
theorem xN:zw Gy:=Gx.add zf4
abbrev SD(y:zm bm):zm bm:=(y.1,(y.2.1.1,y.2.1.2.1,y.2.1.2.2.1,y.2.1.2.2.2.1,y.2.1.t.1,y.2.1.t.2.1,y.2.1.t.q.1,y.2.1.t.q.2.1,zl y.2.1.t.t.1,y.2.1.t.t.2.1,y.2.1.t.t.q.1,zl y.2.1.t.t.q.2.1,y.2.1.t.t.t),(y.2.2.1.1,y.2.2.1.2.1,y.2.2.1.2.2.1,y.2.2.1.2.2.2.1,y.2.2.1.t.1,zl y.2.2.1.t.2),(y.2.2.2.1.1,y.2.2.2.1.2.1,y.2.2.2.1.2.2.1,y.2.2.2.1.2.2.2.1,y.2.2.2.1.t.1,zl y.2.2.2.1.t.2),y.t.1,y.t.2.1,y.t.q.1,y.t.q.2.1,y.t.t.1,zl y.t.t.2.1,y.t.t.q.1,())
abbrev P1(y:zm au):zm au:=(y.1,(y.2.1.1,y.2.1.2.1,y.2.1.2.2.1,y.2.1.2.2.2.1,y.2.1.t.1,y.2.1.t.2.1,y.2.1.t.q.1,y.2.1.t.q.2.1,zl y.2.1.t.t.1,y.2.1.t.t.2.1,y.2.1.t.t.q.1,zl y.2.1.t.t.q.2.1,y.2.1.t.t.t),(y.2.2.1.1,y.2.2.1.2.1,y.2.2.1.2.2.1,y.2.2.1.2.2.2.1,y.2.2.1.t.1,zl y.2.2.1.t.2),(y.2.2.2.1.1,y.2.2.2.1.2.1,y.2.2.2.1.2.2.1,y.2.2.2.1.2.2.2.1,y.2.2.2.1.t.1,zl y.2.2.2.1.t.2),y.t.1,y.t.2.1,y.t.q.1,y.t.q.2.1,y.t.t.1,y.t.t.2.1,zl y.t.t.q.1,y.t.t.q.2.1,y.t.t.t.1,())
abbrev zd7:Nat->aM:=λ_=>{ }
theorem zoI:zO Gy.P 110 Tryz.f110 1:=bU kw
def VU(_:zm bm)(u:Sem zh.sl×zm [CP.d zn,CP.d zo,CP.d zo,CP.d Q6,CP.d Q6,CP.d Q6,CP.d Q6,CP.nil,CP.d zg,CP.nil,CP.nil,CP.d Q5,CP.nil,CP.d zg])(h:Sem zg×zm au)(o:Sem zg):Tr (Empty⊕aw):=Qc (oB u) (br (h.1!=0) (re (ai h.1) (ay au h.2)) (br (Q0 (o<0)) (re (ai 1) (ay au (h.2.1,h.2.2.1,h.2.2.2.1,h.t.1,h.t.2.1,h.t.q.1,h.t.q.2.1,h.t.t.1,h.t.t.2.1,o,h.t.t.q.2))) (re (ai 0) (ay au (h.2.1,h.2.2.1,h.2.2.2.1,h.t.1,h.t.2.1,h.t.q.1,h.t.q.2.1,h.t.t.1,h.t.t.2.1,o,h.t.t.q.2)))))
def VT(y:zm bm):Tr (Empty⊕aw):=
 let o:=SD y
 let h:=kl o
 let u:=gF h.t.t.t.1 h.2.2.2.1.2.2.1
 VU y o h u
theorem zmJ(y:zm bm):rn Gy 1 zd7 Tryz.f110 [Qf 0 0] (ay bm y)=(VT y).map (lf Tryz.f110 e0):=kw
def IU(y:zm bm):Option (zz (Qi Q1 [zg])×zm au):=kA [zg] au t0 100000000 (VT y)
def IR(y:zm bm):Bool:=(IU y).isSome
def Hi(y:zm bm):(Sem zg)×zm au:=(λr:zz (Qi Q1 [zg])×zm au=>(r.1.1,r.2)) ((IU y).getD (bQ [zg],fK au))
def zjT:ac:=sE bm [] [zg] au (λy _=>IR y) λy _=>(((Hi y).1,()),(Hi y).2)
theorem zft:FK 110 zjT:=kd (keep:=zd7) (gas:=400) (n:=100000000) (e:=e0) (t:=t0) (i:=λy x=>VT y) xN zoI (λy x=>zmJ y) (Xd _ _ _ _ _) (λ_ _=>by kernel_rfl) (λ_ _=>by kernel_rfl)
abbrev zd9:Nat->aM:=λ_=>{ }
theorem zoL:zO Gy.P 112 Tryz.f112 1:=bU kw
def VW(_:zm bm)(z:Sem zh.sl×zm [CP.d zn,CP.d zo,CP.d zo,CP.d Q6,CP.d Q6,CP.d Q6,CP.d Q6,CP.nil,CP.d zg,CP.nil,CP.nil,CP.d Q5,CP.nil,CP.d zg])(h:Sem zg×zm au)(B:Sem zj)(_:Sem zj)(o:LC)(u:Sem zj):Tr (Empty⊕aw):=Qc (oB z) (br (h.1!=0) (re (ai h.1) (ay au h.2)) (Qc (zJ 1 (Io h.t.t.2.1)) (Qc (Q0 (toNat 1<Io h.t.t.2.1)) (br (B.2.1!=1) (re (ai 5) (ay au h.2)) (Qc (zJ 0 (Io h.t.t.2.1)) (Qc (Q0 (toNat 0<Io h.t.t.2.1)) (Qc (zJ 1 (Io o)) (Qc (Q0 (toNat 1<Io o)) (re (ai 0) (ay au (h.2.1,h.2.2.1,h.2.2.2.1,h.t.1,h.t.2.1,h.t.q.1,h.t.q.2.1,h.t.t.1,o.set (toNat 1) (u.1,u.2.1,Q4),h.t.t.q)))))))))))
def VV(y:zm bm):Tr (Empty⊕aw):=
 let u:=SD y
 let h:=kl u
 let B:=h.t.t.2.1.getD (toNat 1) (zi zj)
 let o:=h.t.t.2.1.getD (toNat 0) (zi zj)
 let z:=h.t.t.2.1.set (toNat 0) (o.1,o.2.1,Q3)
 let C:=z.getD (toNat 1) (zi zj)
 VW y u h B o z C
theorem zmL(y:zm bm):rn Gy 1 zd9 Tryz.f112 [Qf 0 0] (ay bm y)=(VV y).map (lf Tryz.f112 e0):=kw
def Bt(y:zm bm):Option (zz (Qi Q1 [zg])×zm au):=kA [zg] au t0 100000000 (VV y)
def Br(y:zm bm):Bool:=(Bt y).isSome
def yh(y:zm bm):(Sem zg)×zm au:=(λr:zz (Qi Q1 [zg])×zm au=>(r.1.1,r.2)) ((Bt y).getD (bQ [zg],fK au))
def zjX:ac:=sE bm [] [zg] au (λy _=>Br y) λy _=>(((yh y).1,()),(yh y).2)
theorem zfx:FK 112 zjX:=kd (keep:=zd9) (gas:=400) (n:=100000000) (e:=e0) (t:=t0) (i:=λy x=>VV y) xN zoL (λy x=>zmL y) (Xd _ _ _ _ _) (λ_ _=>by kernel_rfl) (λ_ _=>by kernel_rfl)
def Lh:=Gy.addL [(110,zjT),(112,zjX)]
theorem Gz:zw Lh:=xN.addL<|fc zft<|fc zfx iA
abbrev Wl:Nat->aM:=λj=>if j=11 then{slots:=[0,83,84,85],prom:=[(0,Q1 60,.int .i64)]}else if j=1000000 then{prom:=[(0,Q1 50,zj),(0,Q1 60,.int .i64)],sett:=[(0,60)]}else{ }
inductive Fl where
 |h11 (l83:LC) (i84:Int) (i85:Int) (z0:zm dU)
abbrev UG:Fl->Nat×St
 |.h11 u h o z=>(11,⟨tm 124 [(0,Qf 0 0),(83,sl zj u),(84,ai h),(85,ai o)],[Qa (bf [1,2] dU z),AO.vec zj z.t.t.1,AO.vec zg z.t.t.q.2.1]⟩)
theorem zoK:zO Lh.P 111 Tryz.f111 1:=bU kw
def LH(y:zm bm)(o:Sem zg)(h:Sem Q5×List (Sem zg)×Sem zg×Unit)(u:Int)(z:Int):Tr (Fl⊕aw):=br (Q0 (o<0)) (re (ai 4) (ay au (y.1,y.2.1,y.2.2.1,y.2.2.2.1,y.t.1,y.t.2.1,y.t.q.1,y.t.q.2.1,[],y.t.t.1,h))) (br (!js y.2.2.1.t.1 (o,y.t.q.1)) (re (ai 10) (ay au (y.1,y.2.1,y.2.2.1,y.2.2.2.1,y.t.1,y.t.2.1,y.t.q.1,y.t.q.2.1,[],y.t.t.1,h))) (br (Q0 (z>8)) (re (ai 13) (ay au (y.1,y.2.1,y.2.2.1,y.2.2.2.1,y.t.1,y.t.2.1,y.t.q.1,y.t.q.2.1,[],y.t.t.1,h))) (Qc (Q0 (Io y.2.2.1.2.1<=1073741824)) (Q9 (Fl.h11 y.2.2.2.1.2.1 u 0 (y.1,y.2.1,y.2.2.1,y.2.2.2.1,y.t.1,y.t.2.1,y.t.q.1,y.t.q.2.1,y.2.2.1.2.1,y.2.2.1.2.2.1,h))))))
def IE(y:zm bm):Tr (Fl⊕aw):=
 let h:=zR (y.2.2.1.1,y.2.2.1.2.1,y.2.2.1.2.2.1,y.2.2.1.2.2.2.1,y.2.2.1.t.1,zl y.2.2.1.t.2) y.2.1.t.2.1
 let u:=(y.t.t.2.1,[],h,())
 let o:=(↑(Io y.2.2.2.1.2.1):Int)
 let z:=Γ Δ (Γ Δ ((↑(Io y.2.2.1.2.1):Int)+o)-1)
 LH y h u o z
def EZ(u:LC)(o:Int)(h:Int)(z:zm dU)(B:LC)(C:Int):Tr (Fl⊕aw):=br (Q0 (h<o)) (Qc (zJ h (Io u)) (br (h !=z.2.2.2.1.2.2.1) (Qc (Q0 (Io z.t.t.q.2.1+[h].length<=1073741824)) (Qc (Q0 (Io z.t.t.1+Io B<=1073741824)) (Q9 (Fl.h11 u o C (z.1,z.2.1,z.2.2.1,z.2.2.2.1,z.t.1,z.t.2.1,z.t.q.1,z.t.q.2.1,z.t.t.1++B,z.t.t.2.1,z.t.t.q.1,z.t.t.q.2.1++[h],z.t.t.t))))) (Q9 (Fl.h11 u o C z)))) (re (ai 0) (ay au z))
def J4(o:LC)(u:Int)(h:Int)(C:zm dU):Tr (Fl⊕aw):=
 let z:=[o.getD h.toNat (zi zj)]
 let B:=Γ Δ (h+1)
 EZ o u h C z B
theorem zmK(y:zm bm):rn Lh 1 Wl Tryz.f111 [Qf 0 0] (ay bm y)=(IE y).map (lf Tryz.f111 UG):=kw
def M7:Fl->Tr (Fl⊕aw)
 |.h11 u h o z=>J4 u h o z
theorem zpr:∀s,run Lh 1 Wl (Func.results Tryz.f111).toList 400 (aj Tryz.f111 (UG s).1) (UG s).2=(M7 s).map (lf Tryz.f111 UG)|.h11 u h o z=>by kernel_rfl
def DD(y:zm bm):Option (zz (Qi Q1 [zg])×zm au):=kA [zg] au M7 100000000 (IE y)
def IV(y:zm bm):Bool:=(DD y).isSome
def Hj(y:zm bm):(Sem zg)×zm au:=(λr:zz (Qi Q1 [zg])×zm au=>(r.1.1,r.2)) ((DD y).getD (bQ [zg],fK au))
def zjV:ac:=sE bm [] [zg] au (λy _=>IV y) λy _=>(((Hj y).1,()),(Hj y).2)
theorem zfv:FK 111 zjV:=kd (keep:=Wl) (gas:=400) (n:=100000000) (e:=UG) (t:=M7) (i:=λy x=>IE y) Gz zoK (λy x=>zmK y) zpr (λ_ _=>by kernel_rfl) (λ_ _=>by kernel_rfl)
def zdn:=Lh.add 111 zjV
theorem GA:zw zdn:=Gz.add zfv
abbrev nt:AV:=agg [str [],str [],str [],str [],nils,ai 0,nils,nils,str [],ai 0,ai 0,str [],str [],nils,nils,ai 0]
abbrev yq(z:zm au):AV:=agg [str z.t.1,str z.t.2.1,str z.t.q.1,str z.t.q.2.1,AV.vec 0,ai z.t.t.2.1,nils,nils,str (zf.op z.t.t.q.1),ai (zf.v z.t.t.q.1).1,ai (zf.v z.t.t.q.1).2.1,str (zf.v z.t.t.q.1).2.2,str (zf.s z.t.t.q.1),sl Q5 (zf.l z.t.t.q.1),sl zg z.t.t.q.2.1,ai z.t.t.t.1]
abbrev I4(z:zm bm):AV:=agg [str z.t.1,str z.t.2.1,str z.t.q.1,str z.t.q.2.1,nils,ai z.t.t.1,nils,nils,str (zf.op z.t.t.2.1),ai (zf.v z.t.t.2.1).1,ai (zf.v z.t.t.2.1).2.1,str (zf.v z.t.t.2.1).2.2,str (zf.s z.t.t.2.1),sl Q5 (zf.l z.t.t.2.1),nils,ai z.t.t.q.1]
def LB(_:Sem zh.sl)(S:Sem zn)(_:zf)(_:Sem Q6×Sem (Sh.str.pr (Sh.str.pr (Sh.str.sl.pr (zj.sl.pr (Sh.str.pr (Sh.str.sl.pr (jf.sl.pr (Sh.expr.pr (ze.sl.pr (ij.sl.pr (Sh.expr.pr Q6))))))))))))(_:Bool)(J:Bool)(L:Bool)(M:Bool)(_:Sem zh.sl×zm [CP.d zn,CP.d zo,CP.d zo,CP.d Q6,CP.d Q6,CP.d Q6,CP.d Q6,CP.nil,CP.d zg,CP.nil,CP.nil,CP.d Q5,CP.nil,CP.d zg])(O:Bool)(D:Sem zg×zm bm)(F:Bool)(E:Sem zh.sl×zm [CP.d zn,CP.d zo,CP.d zo,CP.d Q6,CP.d Q6,CP.d Q6,CP.d Q6,CP.nil,CP.d zg,CP.nil,CP.nil,CP.d Q5,CP.nil,CP.d zg])(h:Sem zg×zm au)(G:Sem zh.sl×zm [CP.d zn,CP.d zo,CP.d zo,CP.d Q6,CP.d Q6,CP.d Q6,CP.d Q6,CP.vec zj,CP.d zg,CP.nil,CP.nil,CP.d Q5,CP.d zg.sl,CP.d zg])(z:Sem zg×zm au)(o:Sem zg×zm au)(H:Sem zh.sl×zm [CP.d zn,CP.d zo,CP.d zo,CP.d Q6,CP.d Q6,CP.d Q6,CP.d Q6,CP.vec zj,CP.d zg,CP.nil,CP.nil,CP.d Q5,CP.d zg.sl,CP.d zg])(B:Sem zg×zm au)(u:Sem zg×zm au)(I:Sem zh.sl×zm [CP.d zn,CP.d zo,CP.d zo,CP.d Q6,CP.d Q6,CP.d Q6,CP.d Q6,CP.vec zj,CP.d zg,CP.nil,CP.nil,CP.d Q5,CP.d zg.sl,CP.d zg])(C:Sem zg×zm au):Tr (Empty⊕aw):=
 Qc Q3 (Qc Q3 (Qc Q3 (br (S.1==cV) (Qc J (br L (re (tup [nt,ai 1]) []) (Qc M (Qc O (br F (Qc (IR E) (br (h.1==0) (Qc (gG G) (br (z.1!=0) (re (tup [nt,ai z.1]) []) (re (tup [(yq z.2),ai 0]) [AO.vec zj z.t.t.2.1]))) (br (h.1!=0) (re (tup [nt,ai h.1]) []) (re (tup [(yq h.2),ai 0]) [AO.vec zj h.t.t.2.1])))) (br F Tr.err (br (D.1!=0) (re (tup [nt,ai D.1]) []) (re (tup [(I4 D.2),ai 0]) [])))))))) (br (S.1==eW) (Qc J (br L (re (tup [nt,ai 1]) []) (Qc M (Qc O (br F (Qc (IV E) (br (o.1==0) (Qc (gG H) (br (B.1!=0) (re (tup [nt,ai B.1]) []) (re (tup [(yq B.2),ai 0]) [AO.vec zj B.t.t.2.1]))) (br (o.1!=0) (re (tup [nt,ai o.1]) []) (re (tup [(yq o.2),ai 0]) [AO.vec zj o.t.t.2.1])))) (br F Tr.err (br (D.1!=0) (re (tup [nt,ai D.1]) []) (re (tup [(I4 D.2),ai 0]) [])))))))) (br (S.1==ku) (Qc J (br L (re (tup [nt,ai 1]) []) (Qc M (Qc O (br F (Qc (Br E) (br (u.1==0) (Qc (gG I) (br (C.1!=0) (re (tup [nt,ai C.1]) []) (re (tup [(yq C.2),ai 0]) [AO.vec zj C.t.t.2.1]))) (br (u.1!=0) (re (tup [nt,ai u.1]) []) (re (tup [(yq u.2),ai 0]) [AO.vec zj u.t.t.2.1])))) (br F Tr.err (br (D.1!=0) (re (tup [nt,ai D.1]) []) (re (tup [(I4 D.2),ai 0]) [])))))))) (re (tup [nt,ai 1]) []))))))
def zhu(H:Sem zh.sl)(h:Sem zn):Tr (Empty⊕aw):=
 let F:=zl h.t.t.1
 let G:=(h.1,h.2.1,h.2.2.1,h.2.2.2.1,h.t.1,h.t.2.1,h.t.q.1,h.t.q.2.1,F,h.t.t.2.1,h.t.t.q.1,zl h.t.t.q.2.1,h.t.t.t)
 let M:=!er G
 let T:=oZ G&&bif M then Q3 else nV H
 let U:=bif M then Q3 else kX H !=0
 let W:=sG 16 F
 let O:=(H,G,([],[],0,[],[],zf.mk [] (0,0,[]) [] []),([],[],0,[],[],zf.mk [] (0,0,[]) [] []),h.1,h.2.2.1,h.t.t.t,h.2.1,0,F,0,())
 let X:=np O
 let S:=nl O
 let Y:=S.1==0
 let o:=SD S.2
 let u:=Hi o
 let z:=P1 u.2
 let I:=fC z
 let B:=Hj o
 let C:=P1 B.2
 let J:=fC C
 let D:=yh o
 let E:=P1 D.2
 let L:=fC E
 LB H h F G M T U W O X S Y o u z I B C J D E L
def Me(h:Sem zh.sl)(o:Sem zn):=an [zq,zg] t0 100000000 (zhu h o)
def ziz(h:Sem zh.sl)(o:Sem zn):=(Me h o).isSome
def pOf(h:Sem zh.sl)(o:Sem zn):=o2 (Me h o)
def zjf:=FT [zh.sl,zn] [zq,zg] λx=>Me x.1 x.2.1
theorem zeM:FK 74 zjf:=GA.T1 (f:=Tryz.f74) (keep:=k0) (e:=e0)
def PU:=zdn.add 74 zjf
theorem na:zw PU:=GA.add zeM
abbrev aC:List CP:=[.d (.sl zp),.d zg,.d .bool]
def zdQ(h:Sem (Sh.int IntKind.u8)):Tr (Empty⊕aw):=
 let o:=bif Q0 (97<=h)then Q0 (h<=122)else Q4
 re (AV.bool (cond (Q0 (65<=h)) (cond (Q0 (h<=90)) Q3 o) o)) []
def nG(h:Sem (Sh.int IntKind.u8)):=an [Q7] t0 100000000 (zdQ h)
def kQ(h:Sem (Sh.int IntKind.u8)):=(nG h).isSome
def nF(h:Sem (Sh.int IntKind.u8)):=o1 (nG h)
def zcw:=FT [Sh.int IntKind.u8] [Q7] λx=>nG x.1
theorem Zd:FK 141 zcw:=na.T1 (f:=Tryz.f141) (keep:=k0) (e:=e0)
def zm5(h:Sem (Sh.int IntKind.u8)):Tr (Empty⊕aw):=
 re (AV.bool (cond (Q0 (48<=h)) (Q0 (h<=57)) Q4)) []
def wm(h:Sem (Sh.int IntKind.u8)):=an [Q7] t0 100000000 (zm5 h)
def fP(h:Sem (Sh.int IntKind.u8)):=(wm h).isSome
def gQ(h:Sem (Sh.int IntKind.u8)):=o1 (wm h)
def zcy:=FT [Sh.int IntKind.u8] [Q7] λx=>wm x.1
theorem Zf:FK 143 zcy:=na.T1 (f:=Tryz.f143) (keep:=k0) (e:=e0)
abbrev zoj:=lu [(2,[0,1,5])]
inductive RJ where
 |h2 (l0:LS) (s1:TS) (i5:Int)
abbrev zq0:RJ->Nat×St
 |.h2 o u h=>(2,⟨tm 18 [(0,sl Q6 o),(1,str u),(5,ai h)],[]⟩)
def zr9(h:Sem Sh.str.sl)(o:TS):Tr (RJ⊕aw):=
 Q9 (RJ.h2 h o 0)
def Pj:RJ->Tr (RJ⊕aw)
 | .h2 o u h=>
  br (Q0 (h<(↑o.length:Int)))
  (Qc (zJ h (Io o)) (br (o.getD h.toNat (zi Q6)==u) (re (kb Q3) []) (Q9 (RJ.h2 o u (Γ Δ (h+1))))))
  (re (kb Q4) [])
def QV(h:Sem Sh.str.sl)(o:TS):=an [Q7] Pj 100000000 (zr9 h o)
def AJ(h:Sem Sh.str.sl)(o:TS):=(QV h o).isSome
def ML(h:Sem Sh.str.sl)(o:TS):=o1 (QV h o)
def zkG:=FT [Sh.str.sl,Q6] [Q7] λx=>QV x.1 x.2.1
theorem zgj:FK 91 zkG:=na.T1 (f:=Tryz.f91) (keep:=zoj) (e:=zq0)
abbrev Wg:Nat->aM:=λ_=>{ }
theorem zii:zO PU.P 99 Tryz.f99 2:=bU kw
def VK(y:zm aC)(D:TS):Tr (Empty⊕aw):=
 let u:=Q0 (y.2.1<(↑(Io y.1):Int))
 let h:=zJ y.2.1 (Io y.1)
 let o:=getD y.1 (toNat y.2.1) (zi zp)
 let z:=o.1==1
 let B:=o.1==4
 let C:=o.2==D
 Qc (cond u (h&&bif z then h else h&&bif B then h else Q3) Q3)
 (re (AV.bool (cond u (cond z C (cond B C Q4)) Q4)) (ay aC y))
theorem zhc(y:zm aC)(h:TS):rn PU 1 Wg Tryz.f99 [Qf 0 0,zC Q6 h] (ay aC y)=(VK y h).map (lf Tryz.f99 e0):=kw
def X2(y:zm aC)(h:TS):Option (zz (Qi Q1 [Q7])×zm aC):=kA [Q7] aC t0 100000000 (VK y h)
def JM(y:zm aC)(h:TS):Bool:=(X2 y h).isSome
def MQ(y:zm aC)(h:TS):(Sem Q7)×zm aC:=(λr:zz (Qi Q1 [Q7])×zm aC=>(r.1.1,r.2)) ((X2 y h).getD (bQ [Q7],fK aC))
def zcg:ac:=sE aC [Q6] [Q7] aC (λy x=>JM y x.1) λy x=>(((MQ y x.1).1,()),(MQ y x.1).2)
theorem YX:FK 99 zcg:=kd (ps:=aC) (ks:=[Q6]) (outs:=[Q7]) (keep:=Wg) (gas:=400) (n:=100000000) (e:=e0) (t:=t0) (i:=λy x=>VK y x.1) na zii (λy x=>zhc y x.1) (Xd _ _ _ _ _) (λ_ _=>by kernel_rfl) (λ_ _=>by kernel_rfl)
def pY:=PU.addL [(141,zcw),(143,zcy),(91,zkG),(99,zcg)]
theorem jr:zw pY:=na.addL<|fc Zd<|fc Zf<|fc zgj<|fc YX iA
abbrev zhP:=lu [(2,[1,3])]
inductive Ca where
 |h2 (i3:Int) (z0:zm [CP.d ze])
abbrev zmk:Ca->Nat×St
 |.h2 h z=>(2,⟨tm 66 [(1,Qf 0 0),(3,ai h)],[Qa (bf [] [CP.d ze] z)]⟩)
def zdL(h:Sem ze):Tr (Ca⊕aw):=
 Q9 (Ca.h2 0 (h,()))
def tp:Ca->Tr (Ca⊕aw)
 | .h2 o z=>
  let B:=(↑(Io z.1.2.2):Int)
  let C:=zJ o (Io z.1.2.2)
  let D:=(↑(getD z.1.2.2 o.toNat 0).toNat:Int)
  let E:=Q0 (D<32)
  let u:=z.1.2.1==0
  let h:=z.1.2.2==[]
  br (Q0 (o<B))
  (Qc (C&&bif E then Q3 else C)
   (br (cond E Q3 (Q0 (D>126))) (re (kb Q4) []) (Q9 (Ca.h2 (Γ Δ (o+1)) z))))
  (br (z.1.1==0) (re (AV.bool (cond u h Q4)) [])
   (br (z.1.1==1) (re (AV.bool h) []) (br (z.1.1==2) (re (AV.bool (cond u (Q0 (B<=40)) Q4)) []) (br (z.1.1==3) (re (AV.bool (cond u h (cond (z.1.2.1==1) h Q4))) []) (re (kb Q4) [])))))
def Jc(h:Sem ze):=an [Q7] tp 100000000 (zdL h)
def mF(h:Sem ze):=(Jc h).isSome
def tk(h:Sem ze):=o1 (Jc h)
def zb7:=FT [ze] [Q7] λx=>Jc x.1
theorem YN:FK 61 zb7:=jr.T1 (f:=Tryz.f61) (keep:=zhP) (e:=zmk)
def zm6(h:Sem Q7):Tr (Empty⊕aw):=
 br h (re (agg [ai 3,ai 1,str []]) []) (re (agg [ai 3,ai 0,str []]) [])
def vZ(h:Sem Q7):=an [ze] t0 100000000 (zm6 h)
def lF(h:Sem Q7):=(vZ h).isSome
def bb(h:Sem Q7):=o1 (vZ h)
def zcC:=FT [Q7] [ze] λx=>vZ x.1
theorem Zj:FK 59 zcC:=jr.T1 (f:=Tryz.f59) (keep:=k0) (e:=e0)
abbrev Wk:Nat->aM:=λ_=>{ }
theorem zio:zO pY.P 147 Tryz.f147 1:=bU kw
def VQ(h:TS):Tr (Empty⊕aw):=
 re
 (AV.bool
  (bif h==ej then Q3
  else bif h==uM then Q3 else bif h==[61]then Q3 else bif h==[60]then Q3 else bif h==[43]then Q3 else h==[45]))
 []
theorem zhn(h:TS):rn pY 0 Wk Tryz.f147 [zC Q6 h] []=(VQ h).map (lf Tryz.f147 e0):=kw
def OS(h:TS):Option (zz (Qi Q1 [Q7])):=an [Q7] t0 100000000 (VQ h)
def Jk(h:TS):Bool:=(OS h).isSome
def QS(h:TS):Sem Q7:=(λr:zz (Qi Q1 [Q7])=>r.1) ((OS h).getD (bQ [Q7]))
def zcS:ac:=zT [Q6] [Q7] (λx=>Jk x.1) λx=>(QS x.1,())
theorem Zy:FK 147 zcS:=kU (ks:=[Q6]) (outs:=[Q7]) (keep:=Wk) (gas:=400) (n:=100000000) (e:=e0) (t:=t0) (i:=λx=>VQ x.1) jr zio (λx=>zhn x.1) (Xd _ _ _ _ _) (λ_=>by kernel_rfl) (λ_=>by kernel_rfl)
abbrev Wo:Nat->aM:=λj=>if j=2 then{slots:=[0,1,5]}else{ }
inductive Kx where
 |h2 (l0:LC) (s1:TS) (i5:Int)
abbrev UJ:Kx->Nat×St
 |.h2 o u h=>(2,⟨tm 20 [(0,sl zj o),(1,str u),(5,ai h)],[]⟩)
theorem zoU:zO pY.P 50 Tryz.f50 2:=bU kw
def zaR(h:Sem zj.sl)(o:TS):Tr (Kx⊕aw):=
 Q9 (Kx.h2 h o 0)
def J8(o:LC)(u:TS)(h:Int)(z:Sem zj):Tr (Kx⊕aw):=
 br (Q0 (h<(↑o.length:Int)))
 (Qc (zJ h (Io o)) (br (z.1==u) (re (ai h) []) (Q9 (Kx.h2 o u (Γ Δ (h+1))))))
 (re (ai (-1)) [])
def Ph(o:LC)(z:TS)(h:Int):Tr (Kx⊕aw):=
 let u:=o.getD h.toNat (zi zj)
 J8 o z h u
theorem zmO(h:Sem zj.sl)(o:TS):rn pY 0 Wo Tryz.f50 [zC zj.sl h,zC Q6 o] []=(zaR h o).map (lf Tryz.f50 UJ):=kw
def Pg:Kx->Tr (Kx⊕aw)
 |.h2 o u h=>Ph o u h
theorem zpw:∀s,run pY 0 Wo (Func.results Tryz.f50).toList 400 (aj Tryz.f50 (UJ s).1) (UJ s).2=(Pg s).map (lf Tryz.f50 UJ)
 |.h2 o u h=>by kernel_rfl
def Ei(h:Sem zj.sl)(o:TS):Option (zz (Qi Q1 [zg])):=an [zg] Pg 100000000 (zaR h o)
def dJ(h:Sem zj.sl)(o:TS):Bool:=(Ei h o).isSome
def eP(h:Sem zj.sl)(o:TS):Sem zg:=(λr:zz (Qi Q1 [zg])=>r.1) ((Ei h o).getD (bQ [zg]))
def zj7:ac:=zT [zj.sl,Q6] [zg] (λx=>dJ x.1 x.2.1) λx=>(eP x.1 x.2.1,())
theorem zfH:FK 50 zj7:=kU (ks:=[zj.sl,Q6]) (outs:=[zg]) (keep:=Wo) (gas:=400) (n:=100000000) (e:=UJ) (t:=Pg) (i:=λx=>zaR x.1 x.2.1) jr zoU (λx=>zmO x.1 x.2.1) zpw (λ_=>by kernel_rfl) (λ_=>by kernel_rfl)
def K6(g:Sem Q5->Sem Q5->Sem Q7)(c:Sem Q5->Sem Q5->Bool):bY:=pY.add 134 (zT [Q5,Q5] [Q7] (λx=>c x.1 x.2.1) λx=>(g x.1 x.2.1,()))
theorem Sr{g:Sem Q5->Sem Q5->Sem Q7}{c:Sem Q5->Sem Q5->Bool}(h:FK 134 (zT [Q5,Q5] [Q7] (λx=>c x.1 x.2.1) λx=>(g x.1 x.2.1,()))):zw (K6 g c):=jr.add h
abbrev Wr:Nat->aM:=λj=>if j=4 then{slots:=[2,3,5]}else{ }
inductive KB where
 |h4 (i5:Int) (z0:zm [CP.d Q5]) (z1:zm [CP.d Q5])
abbrev UM:KB->Nat×St
 |.h4 h z o=>(4,⟨tm 53 [(2,Qf 0 0),(3,Qf 1 0),(5,ai h)],[Qa (bf [] [CP.d Q5] z),Qa (bf [] [CP.d Q5] o)]⟩)
theorem zpg(g:Sem Q5->Sem Q5->Sem Q7)(c:Sem Q5->Sem Q5->Bool):zO (K6 g c).P 134 Tryz.f134 2:=bU kw
def Du(_:Sem Q5->Sem Q5->Sem Q7)(_:Sem Q5->Sem Q5->Bool)(h:Sem Q5)(o:Sem Q5):Tr (KB⊕aw):=
 br
 (bif !zf.op h==zf.op o then Q3
 else
  bif !((zf.v h).1==(zf.v o).1&&((zf.v h).2.1==(zf.v o).2.1&&((zf.v h).2.2==(zf.v o).2.2&&Q3)))then Q3
  else bif !zf.s h==zf.s o then Q3 else(↑(zf.l h).length:Int)!=(↑(zf.l o).length:Int))
 (re (kb Q4) []) (Q9 (KB.h4 0 (h,()) (o,())))
def B5(g:Sem Q5->Sem Q5->Sem Q7)(c:Sem Q5->Sem Q5->Bool)(h:Int)(z:zm [CP.d Q5])(B:zm [CP.d Q5])(C:Int)(o:zf)(u:zf):Tr (KB⊕aw):=
 br (Q0 (h<C))
 (Qc (zJ h (zf.l z.1).length)
  (Qc (zJ h (zf.l B.1).length) (Qc (c o u) (br (!g o u) (re (kb Q4) []) (Q9 (KB.h4 (Γ Δ (h+1)) z B))))))
 (re (kb Q3) [])
def Kd(g:Sem Q5->Sem Q5->Sem Q7)(c:Sem Q5->Sem Q5->Bool)(h:Int)(z:zm [CP.d Q5])(o:zm [CP.d Q5]):Tr (KB⊕aw):=
 let u:=(↑(zf.l z.1).length:Int)
 let B:=zl ((zf.l z.1).getD h.toNat (zi Q5))
 let C:=zl ((zf.l o.1).getD h.toNat (zi Q5))
 B5 g c h z o u B C
theorem zmZ(g:Sem Q5->Sem Q5->Sem Q7)(c:Sem Q5->Sem Q5->Bool)(h:Sem Q5)(o:Sem Q5):rn (K6 g c) 0 Wr Tryz.f134 [zC Q5 h,zC Q5 o] []=(Du g c h o).map (lf Tryz.f134 UM):=kw
def Kc(g:Sem Q5->Sem Q5->Sem Q7)(c:Sem Q5->Sem Q5->Bool):KB->Tr (KB⊕aw)
 |.h4 h z o=>Kd g c h z o
theorem zpD(g:Sem Q5->Sem Q5->Sem Q7)(c:Sem Q5->Sem Q5->Bool):∀s,run (K6 g c) 0 Wr (Func.results Tryz.f134).toList 400 (aj Tryz.f134 (UM s).1) (UM s).2=(Kc g c s).map (lf Tryz.f134 UM)
 |.h4 h z o=>by kernel_rfl
def gP(o:Option (zz (Qi Q1 [Q7]))):Sem Q7:=(λr:zz (Qi Q1 [Q7])=>r.1) (o.getD (bQ [Q7]))
def Jf(g:Sem Q5->Sem Q5->Sem Q7)(c:Sem Q5->Sem Q5->Bool)(h:Sem Q5)(o:Sem Q5):Option (zz (Qi Q1 [Q7])):=an [Q7] (Kc g c) 3000000000 (Du g c h o)
def bS:Nat->Sem Q5->Sem Q5->Option (zz (Qi Q1 [Q7]))
 |0=>λ_ _=>Q2
 |n+1=>Jf (λh o=>gP (bS n h o)) λh o=>(bS n h o).isSome
theorem zhL:zO pY.P 134 Tryz.f134 2:=bU kw
theorem Pw:∀n,FK 134 (zT [Q5,Q5] [Q7] (λx=>(bS n x.1 x.2.1).isSome) λx=>(gP (bS n x.1 x.2.1),()))
 |0=>eX ⟨Tryz.f134,zhL.1,zhL.2.1,zhL.2.2.1⟩ (λ_=>rfl)
 |n+1=>kU (E:=K6 (λh o=>gP (bS n h o)) (λh o=>(bS n h o).isSome)) (ks:=[Q5,Q5]) (outs:=[Q7]) (keep:=Wr) (gas:=400) (n:=3000000000) (e:=UM) (t:=Kc (λh o=>gP (bS n h o)) (λh o=>(bS n h o).isSome)) (i:=λx=>Du (λh o=>gP (bS n h o)) (λh o=>(bS n h o).isSome) x.1 x.2.1) (Sr (Pw n)) (zpg _ _) (λx=>zmZ _ _ x.1 x.2.1) (zpD _ _) (λ_=>by kernel_rfl) (λ_=>by kernel_rfl)
def BE(h:Sem Q5)(o:Sem Q5):Option (zz (Qi Q1 [Q7])):=bS 16 h o
def gO(h:Sem Q5)(o:Sem Q5):Bool:=(BE h o).isSome
def fu(h:Sem Q5)(o:Sem Q5):Sem Q7:=gP (BE h o)
def zkB:ac:=zT [Q5,Q5] [Q7] (λx=>gO x.1 x.2.1) λx=>(fu x.1 x.2.1,())
theorem zge:FK 134 zkB:=Pw 16
def CT(g:Sem Q5->Sem zg)(c:Sem Q5->Bool):bY:=pY.add 104 (zT [Q5] [zg] (λx=>c x.1) λx=>(g x.1,()))
theorem NO{g:Sem Q5->Sem zg}{c:Sem Q5->Bool}(h:FK 104 (zT [Q5] [zg] (λx=>c x.1) λx=>(g x.1,()))):zw (CT g c):=jr.add h
abbrev Ol:Nat->aM:=λj=>if j=3 then{slots:=[1,3,4]}else{ }
inductive uC where
 |h3 (i3:Int) (i4:Int) (z0:zm [CP.d Q5])
abbrev K0:uC->Nat×St
 |.h3 h o z=>(3,⟨tm 21 [(1,Qf 0 0),(3,ai h),(4,ai o)],[Qa (bf [] [CP.d Q5] z)]⟩)
theorem zim(g:Sem Q5->Sem zg)(c:Sem Q5->Bool):zO (CT g c).P 104 Tryz.f104 1:=bU kw
def P6(_:Sem Q5->Sem zg)(_:Sem Q5->Bool)(h:Sem Q5):Tr (uC⊕aw):=
 Q9 (uC.h3 1 0 (h,()))
def EX(g:Sem Q5->Sem zg)(c:Sem Q5->Bool)(u:Int)(h:Int)(z:zm [CP.d Q5])(B:Int)(o:zf):Tr (uC⊕aw):=
 br (Q0 (h<B))
 (Qc (zJ h (zf.l z.1).length) (Qc (c o) (Q9 (uC.h3 (Γ Δ (u+g o)) (Γ Δ (h+1)) z))))
 (re (ai u) [])
def J3(g:Sem Q5->Sem zg)(c:Sem Q5->Bool)(B:Int)(h:Int)(z:zm [CP.d Q5]):Tr (uC⊕aw):=
 let o:=(↑(zf.l z.1).length:Int)
 let u:=zl ((zf.l z.1).getD h.toNat (zi Q5))
 EX g c B h z o u
theorem zhj(g:Sem Q5->Sem zg)(c:Sem Q5->Bool)(h:Sem Q5):rn (CT g c) 0 Ol Tryz.f104 [zC Q5 h] []=(P6 g c h).map (lf Tryz.f104 K0):=kw
def EW(g:Sem Q5->Sem zg)(c:Sem Q5->Bool):uC->Tr (uC⊕aw)
 |.h3 h o z=>J3 g c h o z
theorem ziu(g:Sem Q5->Sem zg)(c:Sem Q5->Bool):∀s,run (CT g c) 0 Ol (Func.results Tryz.f104).toList 400 (aj Tryz.f104 (K0 s).1) (K0 s).2=(EW g c s).map (lf Tryz.f104 K0)
 |.h3 h o z=>by kernel_rfl
def iL(o:Option (zz (Qi Q1 [zg]))):Sem zg:=(λr:zz (Qi Q1 [zg])=>r.1) (o.getD (bQ [zg]))
def My(g:Sem Q5->Sem zg)(c:Sem Q5->Bool)(h:Sem Q5):Option (zz (Qi Q1 [zg])):=an [zg] (EW g c) 100000000 (P6 g c h)
def cD:Nat->Sem Q5->Option (zz (Qi Q1 [zg]))
 |0=>λ_=>Q2
 |n+1=>My (λh=>iL (cD n h)) λh=>(cD n h).isSome
theorem V8:zO pY.P 104 Tryz.f104 1:=bU kw
theorem Kr:∀n,FK 104 (zT [Q5] [zg] (λx=>(cD n x.1).isSome) λx=>(iL (cD n x.1),()))
 |0=>eX ⟨Tryz.f104,V8.1,V8.2.1,V8.2.2.1⟩ (λ_=>rfl)
 |n+1=>kU (E:=CT (λh=>iL (cD n h)) (λh=>(cD n h).isSome)) (ks:=[Q5]) (outs:=[zg]) (keep:=Ol) (gas:=400) (n:=100000000) (e:=K0) (t:=EW (λh=>iL (cD n h)) (λh=>(cD n h).isSome)) (i:=λx=>P6 (λh=>iL (cD n h)) (λh=>(cD n h).isSome) x.1) (NO (Kr n)) (zim _ _) (λx=>zhj _ _ x.1) (ziu _ _) (λ_=>by kernel_rfl) (λ_=>by kernel_rfl)
def Eh(h:Sem Q5):Option (zz (Qi Q1 [zg])):=cD 16 h
def wc(h:Sem Q5):Bool:=(Eh h).isSome
def BH(h:Sem Q5):Sem zg:=iL (Eh h)
def zcB:ac:=zT [Q5] [zg] (λx=>wc x.1) λx=>(BH x.1,())
theorem Zi:FK 104 zcB:=Kr 16
def Ip:=pY.addL [(61,zb7),(59,zcC),(147,zcS),(50,zj7),(134,zkB),(104,zcB)]
theorem ld:zw Ip:=jr.addL<|fc YN<|fc Zj<|fc Zy<|fc zfH<|fc zge<|fc Zi iA
def zdR(h:Sem (Sh.int IntKind.u8)):Tr (Empty⊕aw):=
 Qc (fP h&&bif gQ h then Q3 else kQ h) (re (AV.bool (cond (gQ h) Q3 (cond (nF h) Q3 (h==95)))) [])
def wn(h:Sem (Sh.int IntKind.u8)):=an [Q7] t0 100000000 (zdR h)
def r8(h:Sem (Sh.int IntKind.u8)):=(wn h).isSome
def yF(h:Sem (Sh.int IntKind.u8)):=o1 (wn h)
def zcx:=FT [Sh.int IntKind.u8] [Q7] λx=>wn x.1
theorem Ze:FK 142 zcx:=ld.T1 (f:=Tryz.f142) (keep:=k0) (e:=e0)
abbrev zhY:=lu [(3,[0,3,4])]
inductive FU where
 |h3 (s0:TS) (l3:LS) (i4:Int)
abbrev zmr:FU->Nat×St
 |.h3 u o h=>(3,⟨tm 18 [(0,str u),(3,sl Q6 o),(4,ai h)],[]⟩)
def VN(h:TS):Tr (FU⊕aw):=
 Q9
 (FU.h3 h
  [Ul,[79,82],[78,79,84],[73,83],Ft,H9,H8,Z9,zal,[75,69,89],[85,78,73,81,85,69],zl9,im,zad,zaf,
  zag,zan,zam,[83,69,84],gE,zab,uL,zak,zae,zai,R5,[87,82,73,84,69],Fu,[84,79],
  zah,R2,R4,R3,Fs,Fv,CB,CC,CA]
  0)
def EV:FU->Tr (FU⊕aw)
 | .h3 u o h=>
  br (Q0 (h<(↑o.length:Int)))
  (Qc (zJ h (Io o)) (br (o.getD h.toNat (zi Q6)==u) (re (kb Q3) []) (Q9 (FU.h3 u o (Γ Δ (h+1))))))
  (re (kb Q4) [])
def JC(h:TS):=an [Q7] EV 100000000 (VN h)
def Ev(h:TS):=(JC h).isSome
def MI(h:TS):=o1 (JC h)
def zcv:=FT [Q6] [Q7] λx=>JC x.1
theorem Zc:FK 133 zcv:=ld.T1 (f:=Tryz.f133) (keep:=zhY) (e:=zmr)
abbrev Wb:Nat->aM:=λ_=>{ }
theorem zie:zO Ip.P 92 Tryz.f92 2:=bU kw
def VG(y:zm aC)(u:TS):Tr (Empty⊕aw):=
 let o:=(y.1,y.2.1,y.2.2.1,())
 let h:=MQ o u
 Qc (JM o u)
 (br h.1 (re (kb Q3) (ay aC (h.2.1,Γ Δ (h.2.2.1+1),h.2.2.2)))
  (re (kb Q4) (ay aC h.2)))
theorem zg8(y:zm aC)(h:TS):rn Ip 1 Wb Tryz.f92 [Qf 0 0,zC Q6 h] (ay aC y)=(VG y h).map (lf Tryz.f92 e0):=kw
def Ra(y:zm aC)(h:TS):Option (zz (Qi Q1 [Q7])×zm aC):=kA [Q7] aC t0 100000000 (VG y h)
def ea(y:zm aC)(h:TS):Bool:=(Ra y h).isSome
def fx(y:zm aC)(h:TS):(Sem Q7)×zm aC:=(λr:zz (Qi Q1 [Q7])×zm aC=>(r.1.1,r.2)) ((Ra y h).getD (bQ [Q7],fK aC))
def zcb:ac:=sE aC [Q6] [Q7] aC (λy x=>ea y x.1) λy x=>(((fx y x.1).1,()),(fx y x.1).2)
theorem YR:FK 92 zcb:=kd (ps:=aC) (ks:=[Q6]) (outs:=[Q7]) (keep:=Wb) (gas:=400) (n:=100000000) (e:=e0) (t:=t0) (i:=λy x=>VG y x.1) ld zie (λy x=>zg8 y x.1) (Xd _ _ _ _ _) (λ_ _=>by kernel_rfl) (λ_ _=>by kernel_rfl)
abbrev zoh:=lu [(6,[2,3,5]),(11,[2,3,6]),(16,[2,3,7]),(21,[2,3,8]),(26,[2,3,9]),(31,[2,3,10])]
inductive sB where
 |h6 (i5:Int) (z0:zm pC) (z1:zm pC)
 |h11 (i6:Int) (z0:zm pC) (z1:zm pC)
 |h16 (i7:Int) (z0:zm pC) (z1:zm pC)
 |h21 (i8:Int) (z0:zm pC) (z1:zm pC)
 |h26 (i9:Int) (z0:zm pC) (z1:zm pC)
 |h31 (i10:Int) (z0:zm pC) (z1:zm pC)
abbrev zqY:sB->Nat×St
 |.h6 u z h=>(6,⟨tm 238 [(2,Qf 0 0),(3,Qf 1 0),(5,ai u)],[Qa (bf [] pC z),Qa (bf [] pC h)]⟩)
 |.h11 B z h=>(11,⟨tm 238 [(2,Qf 0 0),(3,Qf 1 0),(6,ai B)],[Qa (bf [] pC z),Qa (bf [] pC h)]⟩)
 |.h16 C z h=>(16,⟨tm 238 [(2,Qf 0 0),(3,Qf 1 0),(7,ai C)],[Qa (bf [] pC z),Qa (bf [] pC h)]⟩)
 |.h21 D z h=>(21,⟨tm 238 [(2,Qf 0 0),(3,Qf 1 0),(8,ai D)],[Qa (bf [] pC z),Qa (bf [] pC h)]⟩)
 |.h26 E z h=>(26,⟨tm 238 [(2,Qf 0 0),(3,Qf 1 0),(9,ai E)],[Qa (bf [] pC z),Qa (bf [] pC h)]⟩)
 |.h31 o z h=>(31,⟨tm 238 [(2,Qf 0 0),(3,Qf 1 0),(10,ai o)],[Qa (bf [] pC z),Qa (bf [] pC h)]⟩)
def zaV(h:Sem zn)(o:Sem zn):Tr (sB⊕aw):=
 let u:=!h.1==o.1
 let z:=!h.2.1==o.2.1
 let B:=!h.2.2.1==o.2.2.1
 let C:=!h.t.2.1==o.t.2.1
 let D:=!h.t.t.t==o.t.t.t
 let E:=zl h.t.t.1
 let F:=zl o.t.t.1
 let G:=!fu E F
 let H:=zl h.t.t.q.2.1
 let I:=zl o.t.t.q.2.1
 Qc
 (bif u then Q3
 else bif z then Q3 else bif B then Q3 else bif C then Q3 else bif D then Q3 else gO E F&&bif G then Q3 else gO H I)
 (br (cond u Q3 (cond z Q3 (cond B Q3 (cond C Q3 (cond D Q3 (cond G Q3 (!fu H I)))))))
  (re (kb Q4) [])
  (br (bif (↑(Io h.2.2.2.1):Int)!=(↑(Io o.2.2.2.1):Int)then Q3 else bif (↑(Io h.t.1):Int)!=(↑(Io o.t.1):Int)then Q3 else bif (↑(Io h.t.q.1):Int)!=(↑(Io o.t.q.1):Int)then Q3 else bif (↑(Io h.t.q.2.1):Int)!=(↑(Io o.t.q.2.1):Int)then Q3
  else bif (↑(Io h.t.t.2.1):Int)!=(↑(Io o.t.t.2.1):Int)then Q3 else(↑(Io h.t.t.q.1):Int)!=(↑(Io o.t.t.q.1):Int)) (re (kb Q4) []) (Q9 (sB.h6 0 (h,()) (o,())))))
def uA:sB->Tr (sB⊕aw)
 | .h6 D z h=>
  let C:=(↑(Io z.1.2.2.2.1):Int)
  br (Q0 (D<C))
  (Qc (zJ D (Io z.1.2.2.2.1))
   (Qc (zJ D (Io h.1.2.2.2.1)) (br (!getD z.1.2.2.2.1 D.toNat (zi Q6)==getD h.1.2.2.2.1 D.toNat (zi Q6)) (re (kb Q4) []) (Q9 (sB.h6 (Γ Δ (D+1)) z h)))))
  (Q9 (sB.h11 0 z h))
 | .h11 E z h=>
  let C:=(↑(Io z.1.t.1):Int)
  let o:=getD z.1.t.1 E.toNat (zi zj)
  let u:=getD h.1.t.1 E.toNat (zi zj)
  br (Q0 (E<C))
  (Qc (zJ E (Io z.1.t.1))
   (Qc (zJ E (Io h.1.t.1)) (br (!(o.1==u.1&&(o.2.1==u.2.1&&(o.2.2==u.2.2&&Q3)))) (re (kb Q4) []) (Q9 (sB.h11 (Γ Δ (E+1)) z h)))))
  (Q9 (sB.h16 0 z h))
 | .h16 F z h=>
  let C:=(↑(Io z.1.t.q.1):Int)
  br (Q0 (F<C))
  (Qc (zJ F (Io z.1.t.q.1))
   (Qc (zJ F (Io h.1.t.q.1)) (br (!getD z.1.t.q.1 F.toNat (zi Q6)==getD h.1.t.q.1 F.toNat (zi Q6)) (re (kb Q4) []) (Q9 (sB.h16 (Γ Δ (F+1)) z h)))))
  (Q9 (sB.h21 0 z h))
 | .h21 G z h=>
  let C:=(↑(Io z.1.t.q.2.1):Int)
  let o:=getD z.1.t.q.2.1 G.toNat (zi jf)
  let u:=getD h.1.t.q.2.1 G.toNat (zi jf)
  br (Q0 (G<C))
  (Qc (zJ G (Io z.1.t.q.2.1))
   (Qc (zJ G (Io h.1.t.q.2.1)) (br (!(o.1==u.1&&(o.2==u.2&&Q3))) (re (kb Q4) []) (Q9 (sB.h21 (Γ Δ (G+1)) z h)))))
  (Q9 (sB.h26 0 z h))
 | .h26 H z h=>
  let C:=(↑(Io z.1.t.t.2.1):Int)
  let o:=getD z.1.t.t.2.1 H.toNat (zi ze)
  let u:=getD h.1.t.t.2.1 H.toNat (zi ze)
  br (Q0 (H<C))
  (Qc (zJ H (Io z.1.t.t.2.1))
   (Qc (zJ H (Io h.1.t.t.2.1)) (br (!(o.1==u.1&&(o.2.1==u.2.1&&(o.2.2==u.2.2&&Q3)))) (re (kb Q4) []) (Q9 (sB.h26 (Γ Δ (H+1)) z h)))))
  (Q9 (sB.h31 0 z h))
 | .h31 B z h=>
  let C:=(↑(Io z.1.t.t.q.1):Int)
  let o:=zJ B (Io z.1.t.t.q.1)
  let u:=zJ B (Io h.1.t.t.q.1)
  let I:=getD z.1.t.t.q.1 B.toNat (zi ij)
  let J:=getD h.1.t.t.q.1 B.toNat (zi ij)
  let L:=!I.1==J.1
  let M:=zl I.2
  let O:=zl J.2
  br (Q0 (B<C))
  (Qc (o&&(u&&bif L then Q3 else o&&(u&&gO M O)))
   (br (cond L Q3 (!fu M O)) (re (kb Q4) []) (Q9 (sB.h31 (Γ Δ (B+1)) z h))))
  (re (kb Q3) [])
def sa(h:Sem zn)(o:Sem zn):=an [Q7] uA 100000000 (zaV h o)
def BP(h:Sem zn)(o:Sem zn):=(sa h o).isSome
def fw(h:Sem zn)(o:Sem zn):=o1 (sa h o)
def zkE:=FT [zn,zn] [Q7] λx=>sa x.1 x.2.1
theorem zgh:FK 87 zkE:=ld.T1 (f:=Tryz.f87) (keep:=zoh) (e:=zqY)
def GD:=Ip.addL [(142,zcx),(133,zcv),(92,zcb),(87,zkE)]
theorem rb:zw GD:=ld.addL<|fc Ze<|fc Zc<|fc YR<|fc zgh iA
abbrev zhX:=lu [(2,[0,3])]
inductive FS where
 |h2 (s0:TS) (i3:Int)
abbrev zmq:FS->Nat×St
 |.h2 o h=>(2,⟨tm 28 [(0,str o),(3,ai h)],[]⟩)
def zdP(h:TS):Tr (FS⊕aw):=
 Q9 (FS.h2 h 0)
def wM:FS->Tr (FS⊕aw)
 | .h2 h o=>
  let u:=(↑(getD h o.toNat 0).toNat:Int)
  let z:=Q0 (1<=(↑(Io h):Int))
  let B:=Q0 ((↑(Io h):Int)<=16)
  let C:=(↑(getD h (toNat 0) 0).toNat:Int)
  br (Q0 (o<(↑(Io h):Int)))
  (Qc (zJ o (Io h)) (Qc (r8 u) (br (!yF u) (re (kb Q4) []) (Q9 (FS.h2 h (Γ Δ (o+1)))))))
  (Qc (cond z (cond B (zJ 0 (Io h)&&kQ C) Q3) Q3)
   (re (AV.bool (cond z (cond B (nF C) Q4) Q4)) []))
def BO(h:TS):=an [Q7] wM 100000000 (zdP h)
def wl(h:TS):=(BO h).isSome
def uv(h:TS):=o1 (BO h)
def zcu:=FT [Q6] [Q7] λx=>BO x.1
theorem Zb:FK 132 zcu:=rb.T1 (f:=Tryz.f132) (keep:=zhX) (e:=zmq)
abbrev Wc:Nat->aM:=λ_=>{ }
theorem zif:zO GD.P 94 Tryz.f94 2:=bU kw
def VH(y:zm aC)(u:TS):Tr (Empty⊕aw):=
 let o:=(y.1,y.2.1,y.2.2.1,())
 let h:=fx o u
 Qc (ea o u)
 (br (!h.1) (re (tup []) [Qa [sl zp h.2.1,ai h.2.2.1,kb Q4]])
  (re (tup []) (ay aC h.2)))
theorem zg9(y:zm aC)(h:TS):rn GD 1 Wc Tryz.f94 [Qf 0 0,zC Q6 h] (ay aC y)=(VH y h).map (lf Tryz.f94 e0):=kw
def QY(y:zm aC)(h:TS):Option (zz (Qi Q1 [])×zm aC):=kA [] aC t0 100000000 (VH y h)
def aW(y:zm aC)(h:TS):Bool:=(QY y h).isSome
def bI(y:zm aC)(h:TS):zm aC:=(λr:zz (Qi Q1 [])×zm aC=>r.2) ((QY y h).getD (bQ [],fK aC))
def zcd:ac:=sE aC [Q6] [] aC (λy x=>aW y x.1) λy x=>((),bI y x.1)
theorem YU:FK 94 zcd:=kd (ps:=aC) (ks:=[Q6]) (outs:=[]) (keep:=Wc) (gas:=400) (n:=100000000) (e:=e0) (t:=t0) (i:=λy x=>VH y x.1) rb zif (λy x=>zg9 y x.1) (Xd _ _ _ _ _) (λ_ _=>by kernel_rfl) (λ_ _=>by kernel_rfl)
abbrev We:Nat->aM:=λ_=>{ }
theorem zig:zO GD.P 95 Tryz.f95 1:=bU kw
def VI(y:zm aC):Tr (Empty⊕aw):=
 let o:=Q0 (y.2.1<(↑(Io y.1):Int))
 let u:=zJ y.2.1 (Io y.1)
 let h:=getD y.1 (toNat y.2.1) (zi zp)
 let z:=h.1==1
 let B:=Γ Δ (y.2.1+1)
 let C:=Γ Δ (B-1)
 let D:=getD y.1 C.toNat (zi zp)
 Qc (cond o (u&&bif z then u&&Ev h.2 else Q3) Q3)
 (br (cond o (cond z (!MI h.2) Q4) Q4)
  (Qc (zJ C (Io y.1)) (re (str D.2) (ay aC (y.1,B,y.2.2))))
  (re (str []) [Qa [sl zp y.1,ai y.2.1,kb Q4]]))
theorem zha(y:zm aC):rn GD 1 We Tryz.f95 [Qf 0 0] (ay aC y)=(VI y).map (lf Tryz.f95 e0):=kw
def QZ(y:zm aC):Option (zz (Qi Q1 [Q6])×zm aC):=kA [Q6] aC t0 100000000 (VI y)
def bu(y:zm aC):Bool:=(QZ y).isSome
def bT(y:zm aC):(Sem Q6)×zm aC:=(λr:zz (Qi Q1 [Q6])×zm aC=>(r.1.1,r.2)) ((QZ y).getD (bQ [Q6],fK aC))
def zce:ac:=sE aC [] [Q6] aC (λy _=>bu y) λy _=>(((bT y).1,()),(bT y).2)
theorem YV:FK 95 zce:=kd (ps:=aC) (ks:=[]) (outs:=[Q6]) (keep:=We) (gas:=400) (n:=100000000) (e:=e0) (t:=t0) (i:=λy x=>VI y) rb zig (λy x=>zha y) (Xd _ _ _ _ _) (λ_ _=>by kernel_rfl) (λ_ _=>by kernel_rfl)
def GF:=GD.addL [(132,zcu),(94,zcd),(95,zce)]
theorem nc:zw GF:=rb.addL<|fc Zb<|fc YU<|fc YV iA
end
end Cad
