/- Bases: small things. Bases: few. Bases: few, and where a table is. Bases: few tables; has. Tables with rows: has. Tables with rows: has, check. -/
import Derived.Test.YtjfdpfapcmcncaaGreatDoorL11
import Derived.Test.YtjfdpfapcmcncaaGreatDoorL08
namespace Cad
open Go Go.Proofs
open List renaming map→Qi
open AV renaming ptr→Qf
open Tr renaming chk→Qc,«to»→Q9
open AO renaming box→Qa
open Sh renaming bool→Q7,str→Q6,expr→Q5
open Bool renaming false→Q4,true→Q3
open Option renaming none→Q2,some→Q1
open Decidable renaming decide→Q0
open Int (toNat)
open List (getD length)
open Tr (chk br re)
open AV (nils agg tup ptr kb str sl)
noncomputable section
set_option maxHeartbeats 4000000
def ziK:zV:=bh (List.replicate 2 Q2) (fB oQ Tryz.f203 (List.replicate 2 Q2))
theorem zeD:FK 203 ziK:=cd _ jk (bR kw)
abbrev zlz:Nat->aN:=λ_=>{ }
theorem zcF:zI (oQ).P 40 Tryz.f40 1:=bR kw
theorem zkD(x0:TS):rn oQ 0 zlz Tryz.f40 [zz Q6 x0] []=br (Q0 ((↑(length x0):Int)>20)) (Qc (Q0 (0<=0)&&Q0 (0<=20)&&Q0 (20<=(↑(length x0):Int))) (Tr.ok (zD.ret (str (List.take (toNat 20-toNat 0) (List.drop (toNat 0) x0))) []))) (Tr.ok (zD.ret (str x0) [])):=kw
def dc(x0:TS):Sem Q6:=(if Q0 ((↑(length x0):Int)>20)=Q3 then List.take (toNat 20-toNat 0) (List.drop (toNat 0) x0)else x0)
def fC(x0:TS):Bool:=(if Q0 ((↑(length x0):Int)>20)=Q3 then if(Q0 (0<=0)&&Q0 (0<=20)&&Q0 (20<=(↑(length x0):Int)))=Q3 then Q3 else Q4 else Q3)
def zhG:zV:=zN [Q6] [Q6] (λx=>fC x.1) λx=>(dc x.1,())
theorem zdu:FK 40 zhG:=by
 refine aJ (zcF) λx hc C hC=>?_
 unfold fC at hc;refine zE jk (zcF) (λid _=>hC id) (zkD x.1) ?_;generalize hy:dc x.1=y;unfold dc at hy
 try simp only[ze.eta]
 repeat' (first|with_reducible refine vl hy hc (λ_ hy hc=>?_) (λ_ hy hc=>?_)|with_reducible refine dn hy (λ_ hy=>?_) (λ_ hy=>?_)|with_reducible refine iK hc (λhc=>?_)|with_reducible refine zK ?_)
 all_goals first|(cases hc;done)|(subst hy;first|rfl)
abbrev zf9:Nat->aN:=λ_=>{ }
theorem Vw:zI (oQ).P 126 Tryz.f126 3:=bR kw
theorem zfw(x0:Sem zf.sl)(x1:Sem zg)(x2:Sem zf):rn oQ 0 zf9 Tryz.f126 [zz zf.sl x0,zz zg x1,zz zf x2] []=Qc (bif Q0 (x1>=0)then bif Q0 (x1<(↑(length x0):Int))then zO x1 (length x0)else Q3 else Q3) (Tr.ok (zD.ret (AV.bool (bif Q0 (x1>=0)then bif Q0 (x1<(↑(length x0):Int))then(getD x0 (toNat x1) (zj zf)).1==x2.1&&((getD x0 (toNat x1) (zj zf)).2.1==x2.2.1&&((getD x0 (toNat x1) (zj zf)).2.2==x2.2.2&&Q3))else Q4 else Q4)) [])):=kw
def bx(x0:Sem zf.sl)(x1:Sem zg)(x2:Sem zf):Sem Q7:=(bif Q0 (x1>=0)then bif Q0 (x1<(↑(length x0):Int))then(getD x0 (toNat x1) (zj zf)).1==x2.1&&((getD x0 (toNat x1) (zj zf)).2.1==x2.2.1&&((getD x0 (toNat x1) (zj zf)).2.2==x2.2.2&&Q3))else Q4 else Q4)
def Bd(x0:Sem zf.sl)(x1:Sem zg)(_:Sem zf):Bool:=(if(bif Q0 (x1>=0)then bif Q0 (x1<(↑(length x0):Int))then zO x1 (length x0)else Q3 else Q3)=Q3 then Q3 else Q4)
def zbe:zV:=zN [zf.sl,zg,zf] [Q7] (λx=>Bd x.1 x.2.1 x.2.2.1) λx=>(bx x.1 x.2.1 x.2.2.1,())
theorem N7:FK 126 zbe:=by
 refine aJ (Vw) λx hc C hC=>?_
 unfold Bd at hc;refine zE jk (Vw) (λid _=>hC id) (zfw x.1 x.2.1 x.2.2.1) ?_;generalize hy:bx x.1 x.2.1 x.2.2.1=y;unfold bx at hy
 try simp only[ze.eta]
 repeat' (first|with_reducible refine vl hy hc (λ_ hy hc=>?_) (λ_ hy hc=>?_)|with_reducible refine dn hy (λ_ hy=>?_) (λ_ hy=>?_)|with_reducible refine iK hc (λhc=>?_)|with_reducible refine zK ?_)
 all_goals first|(cases hc;done)|(subst hy;first|rfl)
abbrev zcr:Nat->aN:=λj=>if j=2 then{slots:=[0,1,5]}else{ }
abbrev DT(l0:List (Sem zh))(s1:TS)(i5:Int):St:={tmps:=(tm 21 [(0,sl zh l0),(1,str s1),(5,ai i5)]),heap:=[]}
theorem O1:zI (oQ).P 47 Tryz.f47 2:=bR kw
theorem zkB(x0:Sem zh.sl)(x1:TS):rn oQ 0 zcr Tryz.f47 [zz zh.sl x0,zz Q6 x1] []=Tr.ok (zD.head 2 (ac Tryz.f47 2) (DT x0 x1 0)):=kw
theorem O5(l0:List (Sem zh))(s1:TS)(i5:Int):rh oQ 0 zcr Tryz.f47 2 (DT l0 s1 i5)=br (Q0 (i5<(↑l0.length:Int))) (Qc (zO i5 l0.length) (br ((l0.getD i5.toNat (zj zh)).1.1==s1) (Tr.ok (zD.ret (ai i5) [])) (Tr.ok (zD.head 2 (ac Tryz.f47 2) (DT l0 s1 (IntKind.i64.wrap (i5+1))))))) (Tr.ok (zD.ret (ai (-1)) [])):=kw
def gH(s1:TS):List
 (Sem zh)->Int->Sem zg
 |[],_=>(-1)
 |x::r,i5=>(if(x.1.1==s1)=Q3 then i5 else gH s1 r (i5+1))
theorem Yq{C:fh}(hC:∀id,C.ρ0 id=Q2)(s1:TS)(l0:List
 (Sem zh)) (hl:l0.length<=aF):∀(m i:Nat),l0.length-i=m->i<=l0.length->
  Reach (oQ) C 47 (ac Tryz.f47 2) (DT l0 s1 (i:Int)) (λr h=>aM h [zg] r=Q1 (gH s1 (l0.drop i) i,())):=by
 intro m
 induction m with
 | zero=>
  intro i hm hi;obtain rfl:i=l0.length:=by omega
  rw[jH];refine zE jk (O1) (λid _=>hC id) (O5 _ _ _) ?_;generalize hy:gH s1 [] _=y;rw[gH]at hy;simp only[zC,Tr.val_brF];repeat' (first|with_reducible refine dn hy (λ_ hy=>?_) (λ_ hy=>?_)|with_reducible refine zK ?_)
  all_goals first|(cases hc;done)|(subst hy;first|rfl)
 | succ m IH=>
  intro i hm hi;have hlt:i<l0.length:=by omega
  have IH:=IH (i+1);have hcast:((i:Int)+1)=((i+1:Nat):Int):=by omega
  have hwr:=zr i ow;rw[fH hlt];refine zE jk (O1) (λid _=>hC id) (O5 _ _ _) ?_;generalize hy:gH s1 (l0[i]::l0.drop (i+1)) (i:Int)=y;rw[gH]at hy;simp only[zJ hlt,zw hlt,cI l0 _ hlt,hwr,Tr.val_brT,Tr.val_chkT];clear hwr
  try simp only[zw hlt]at hy
  simp only[hcast]at hy;repeat' (first|with_reducible refine dn hy (λ_ hy=>?_) (λ_ hy=>?_)|with_reducible refine zK ?_)
  all_goals first|(cases hc;done)|(subst hy;first|(change Reach _ _ _ _ _ _;apply IH<;>first|omega|assumption)|rfl)
theorem SO{C:fh}(hC:∀id,C.ρ0 id=Q2)(s1:TS)(l0:List
 (Sem zh)):
  Reach (oQ) C 47 (ac Tryz.f47 2) (DT l0 s1 0) (λr h=>aM h [zg] r=Q1 (gH s1 l0 0,())):=
 Reach.len 0 zh l0 rfl λhl=>Yq hC s1 l0 hl _ 0 rfl (aY _)
def lw(x0:Sem zh.sl)(x1:TS):Sem zg:=(gH x1 x0 0)
def zht:zV:=aG [zh.sl,Q6] [zg] λx=>(lw x.1 x.2.1,())
theorem zdg:FK 47 zht:=by
 refine zY (O1) λx C hC=>?_
 refine zE jk (O1) (λid _=>hC id) (zkB x.1 x.2.1) ?_;generalize hy:lw x.1 x.2.1=y;unfold lw at hy
 try simp only[ze.eta]
 repeat' (first|with_reducible refine dn hy (λ_ hy=>?_) (λ_ hy=>?_)|with_reducible refine zK ?_)
 all_goals first|(cases hc;done)|(subst hy;first|(change Reach _ _ _ _ _ _;apply SO hC<;>first|assumption|exact hc)|rfl)
def sF:=oQ.addL [(203,ziK),(40,zhG),(126,zbe),(47,zht)]
theorem kC:zt sF:=jk.addL<|fc zeD<|fc zdu<|fc N7<|fc zdg ja
theorem IB(x:Sem (Sh.sl zf))(c:Int)(v:Sem zf):Bd x c v=Q3:=by
 unfold Bd;by_cases h1:(c:Int)>=0
 ·by_cases h2:c<(length x:Int)
  ·have h3:zO c (length x)=Q3:=by simp[zO];exact⟨h1,h2⟩
   simp[zu h1,zu h2,h3]
  ·simp[zu h1,ao h2]
 ·simp[ao h1]
def zbf:zV:=aG [Sh.sl zf,zg,zf] [Q7] λx=>(bx x.1 x.2.1 x.2.2.1,())
theorem X3:FK 126 zbf:=nD N7 λx=>IB x.1 x.2.1 x.2.2.1
abbrev zcs:Nat->aN:=λj=>if j=3 then{slots:=[0,3,4],prom:=[(3,Q2,.str)]}else{ }
abbrev DU(l0:LS)(i4:Int)(lh_0:LS):St:={tmps:=(tm 24 [(0,sl Q6 l0),(3,AV.vec 0),(4,ai i4)]),heap:=[AO.vec Q6 lh_0]}
theorem O2:zI (sF).P 41 Tryz.f41 1:=bR kw
theorem zkE(x0:Sem Sh.str.sl):rn sF 0 zcs Tryz.f41 [zz Sh.str.sl x0] []=Tr.ok (zD.head 3 (ac Tryz.f41 3) (DU x0 0 [])):=kw
theorem O6(l0:LS)(i4:Int)(lh_0:LS):rh sF 0 zcs Tryz.f41 3 (DU l0 i4 lh_0)=br (bif Q0 (i4<(↑l0.length:Int))then Q0 (i4<10)else Q4) (Qc (zO i4 l0.length) (Qc (fC (l0.getD i4.toNat (zj Q6))) (Qc (Q0 (lh_0.length+[dc (l0.getD i4.toNat (zj Q6))].length<=1073741824)) (Tr.ok (zD.head 3 (ac Tryz.f41 3) (DU l0 (IntKind.i64.wrap (i4+1)) (lh_0++[dc (l0.getD i4.toNat (zj Q6))]))))))) (Tr.ok (zD.ret (AV.vec 0) [AO.vec Q6 lh_0])):=kw
def eJ:List (Sem Q6)->Int->List (Sem Q6)->Sem Sh.str.sl
 |[],_,lh_0=>(lh_0)
 |x::r,i4,lh_0=>(if Q0 (i4<10)=Q3 then eJ r (i4+1) (lh_0++[dc x])else lh_0)
def fO:List (Sem Q6)->Int->List (Sem Q6)->Bool
 |[],_,_=>(Q3)
 |x::r,i4,lh_0=>(if Q0 (i4<10)=Q3 then
 if fC x=Q3 then if Q0 (lh_0.length+[dc x].length<=1073741824)=Q3 then fO r (i4+1) (lh_0++[dc x])else Q4 else Q4
else Q3)
theorem Yr{C:fh}(hC:∀id,C.ρ0 id=Q2)(l0:LS)(hl:l0.length<=aF):∀(m i:Nat)(lh_0:LS),l0.length-i=m->i<=l0.length->fO (l0.drop i) i lh_0=Q3->
  Reach (sF) C 41 (ac Tryz.f41 3) (DU l0 (i:Int) lh_0) (λr h=>aM h [Sh.str.sl] r=Q1 (eJ (l0.drop i) i lh_0,())):=by
 intro m
 induction m with
 | zero=>
  intro i lh_0 hm hi hc;obtain rfl:i=l0.length:=by omega
  rw[jH]at hc⊢;refine zE kC (O2) (λid _=>hC id) (O6 _ _ _) ?_;rw[fO]at hc;generalize hy:eJ [] _ lh_0=y;rw[eJ]at hy;simp only[zC,aq,Tr.val_brF];repeat' (first|with_reducible refine vl hy hc (λ_ hy hc=>?_) (λ_ hy hc=>?_)|with_reducible refine dn hy (λ_ hy=>?_) (λ_ hy=>?_)|with_reducible refine iK hc (λhc=>?_)|with_reducible refine zK ?_)
  all_goals first|(cases hc;done)|(subst hy;first|rfl)
 | succ m IH=>
  intro i lh_0 hm hi hc;have hlt:i<l0.length:=by omega
  have IH:=IH (i+1);have hcast:((i:Int)+1)=((i+1:Nat):Int):=by omega
  have hwr:=zr i ow;rw[fH hlt]at hc⊢;refine zE kC (O2) (λid _=>hC id) (O6 _ _ _) ?_;rw[fO]at hc;generalize hy:eJ (l0[i]::l0.drop (i+1)) (i:Int) lh_0=y;rw[eJ]at hy;simp only[zJ hlt,zw hlt,cI l0 _ hlt,hwr,zZ];clear hwr
  try simp only[zw hlt]at hy
  simp only[hcast]at hy
  try simp only[zw hlt]at hc
  try simp only[hcast]at hc
  repeat' (first|with_reducible refine vl hy hc (λ_ hy hc=>?_) (λ_ hy hc=>?_)|with_reducible refine dn hy (λ_ hy=>?_) (λ_ hy=>?_)|with_reducible refine iK hc (λhc=>?_)|with_reducible refine zK ?_)
  all_goals first|(cases hc;done)|(subst hy;first|(change Reach _ _ _ _ _ _;apply IH<;>first|omega|assumption)|rfl)
theorem SP{C:fh}(hC:∀id,C.ρ0 id=Q2)(l0:LS)(lh_0:LS)(hc:fO l0 0 lh_0=Q3):
  Reach (sF) C 41 (ac Tryz.f41 3) (DU l0 0 lh_0) (λr h=>aM h [Sh.str.sl] r=Q1 (eJ l0 0 lh_0,())):=
 Reach.len 0 (Q6) l0 rfl λhl=>Yr hC l0 hl _ 0 lh_0 rfl (aY _) hc
def ki(x0:Sem Sh.str.sl):Sem Sh.str.sl:=(eJ x0 0 [])
def pT(x0:Sem Sh.str.sl):Bool:=(fO x0 0 [])
def zhH:zV:=zN [Sh.str.sl] [Sh.str.sl] (λx=>pT x.1) λx=>(ki x.1,())
theorem zdv:FK 41 zhH:=by
 refine aJ (O2) λx hc C hC=>?_
 unfold pT at hc;refine zE kC (O2) (λid _=>hC id) (zkE x.1) ?_;generalize hy:ki x.1=y;unfold ki at hy
 try simp only[ze.eta]
 repeat' (first|with_reducible refine vl hy hc (λ_ hy hc=>?_) (λ_ hy hc=>?_)|with_reducible refine dn hy (λ_ hy=>?_) (λ_ hy=>?_)|with_reducible refine iK hc (λhc=>?_)|with_reducible refine zK ?_)
 all_goals first|(cases hc;done)|(subst hy;first|(change Reach _ _ _ _ _ _;apply SP hC<;>first|assumption|exact hc)|rfl)
abbrev Bh(s:zB)(l:List (Sem zh))(i:Int):St:={tmps:=[.sl zh l,.clo (.func 203) [] [.ptr 0 0],.any,.any,.any,.any,.any,.int .i64 l.length,.int .i64 i,.any,.any,.any,.any,.any,.any,.any,.any,.any,.any],heap:=[.box [.str s]]}
theorem T5(s:zB)(l:List (Sem zh)):run sF 1 Ap Tryz.f202.results.toList 300 (bw Tryz.f202) (bd Tryz.f202.ntmps [.sl zh l,.clo (.func 203) [] [.ptr 0 0]] [.box [.str s]])=.ok (.head 2 (ac Tryz.f202 2) (Bh s l 0)):=kw
theorem VL(s:zB)(l:List (Sem zh))(i:Int):run sF 1 Ap Tryz.f202.results.toList 300 (ac Tryz.f202 2) (Bh s l i)=nX (K:=ac Tryz.f202 2) (e:=zh) l (λx=>x.1.1==s) (Bh s l) [.box [.str s]] i:=kw
theorem VD:zI sF.P 202 Tryz.f202 2:=bR kw
def zj0:iV [Q1 (.sl zh),Q2]:=λx h=>match x,h with
 |(l,.clo (.func 203) [] [.ptr 0 0],_),[.box [.str s]]=>.ok (.int .i64 (zR (λx=>x.1.1==s) l 0),[.box [.str s]])
 |_,_=>.err
def ziJ:zV:=bh [Q1 (.sl zh),Q2] zj0
theorem zeB:FK 202 ziJ:=by
 refine dR VD λx h0 res hx C hC=>?_
 unfold zj0 at hx;split at hx
 ·rename_i l u s;simp only[Tr.val_ok,bB]at hx;subst hx;refine Reach.len 0 zh l rfl λhl=>?_
  refine zE (n0:=1) kC VD hC (T5 s l) ?_;exact kI l (λx=>x.1.1==s) (Bh s l) kC VD hC (VL s l) hl _ 0 rfl (aY _)
 ·simp at hx
def J5:=sF.addL [(126,zbf),(41,zhH),(202,ziJ)]
theorem xe:zt J5:=kC.addL<|fc X3<|fc zdv<|fc zeB ja
def zbd:zV:=bh (List.replicate 3 Q2) (fB J5 Tryz.f255 (List.replicate 3 Q2))
theorem X2:FK 255 zbd:=cd _ xe (bR kw)
abbrev zlP:Nat->aN:=λ_=>{ }
theorem zcI:zI (J5).P 161 Tryz.f161 2:=bR kw
theorem zkN(x0:Sem zh.sl)(x1:TS):rn J5 0 zlP Tryz.f161 [zz zh.sl x0,zz Q6 x1] []=Tr.ok (zD.ret (ai (zR (λx=>x.1.1==x1) x0 0)) []):=kw
def zS(x0:Sem zh.sl)(x1:TS):Sem zg:=(zR (λx=>x.1.1==x1) x0 0)
def zib:zV:=aG [zh.sl,Q6] [zg] λx=>(zS x.1 x.2.1,())
theorem zd1:FK 161 zib:=by
 refine zY (zcI) λx C hC=>?_
 refine zE xe (zcI) (λid _=>hC id) (zkN x.1 x.2.1) ?_;generalize hy:zS x.1 x.2.1=y;unfold zS at hy
 try simp only[ze.eta]
 repeat' (first|with_reducible refine dn hy (λ_ hy=>?_) (λ_ hy=>?_)|with_reducible refine zK ?_)
 all_goals first|(cases hc;done)|(subst hy;first|rfl)
def J6:=J5.addL [(255,zbd),(161,zib)]
theorem xf:zt J6:=xe.addL<|fc X2<|fc zd1 ja
abbrev rT(c a b:Int)(s:zB)(l:List (Sem (Sh.sl zf)))(i:Int):St:={tmps:=[.sl (Sh.sl zf) l,.clo (.func 255) [] [.ptr 0 0,.ptr 1 0],.any,.any,.any,.any,.any,.int .i64 l.length,.int .i64 i,.any,.any,.any,.any,.any,.any,.any,.any,.any,.any],heap:=[.box [.int .i64 c],.box [.int .i64 a,.int .i64 b,.str s]]}
theorem MS(c a b:Int)(s:zB)(l:List (Sem (Sh.sl zf))):run J6 2 Ap Tryz.f124.results.toList 300 (bw Tryz.f124) (bd Tryz.f124.ntmps [.sl (Sh.sl zf) l,.clo (.func 255) [] [.ptr 0 0,.ptr 1 0]] [.box [.int .i64 c],.box [.int .i64 a,.int .i64 b,.str s]])=.ok (.head 2 (ac Tryz.f124 2) (rT c a b s l 0)):=kw
theorem Ng(c a b:Int)(s:zB)(l:List (Sem (Sh.sl zf)))(i:Int):run J6 2 Ap Tryz.f124.results.toList 300 (ac Tryz.f124 2) (rT c a b s l i)=nX (K:=ac Tryz.f124 2) (e:=(Sh.sl zf)) l (λx=>bx x c (a,b,s)) (rT c a b s l) [.box [.int .i64 c],.box [.int .i64 a,.int .i64 b,.str s]] i:=kw
theorem Nd:zI J6.P 124 Tryz.f124 2:=bR kw
def zbw:iV [Q1 (.sl (Sh.sl zf)),Q2]:=λx h=>match x,h with
 |(l,.clo (.func 255) [] [.ptr 0 0,.ptr 1 0],_),[.box [.int .i64 c],.box [.int .i64 a,.int .i64 b,.str s]]=>.ok (.int .i64 (zR (λx=>bx x c (a,b,s)) l 0),[.box [.int .i64 c],.box [.int .i64 a,.int .i64 b,.str s]])
 |_,_=>.err
def zbl:zV:=bh [Q1 (.sl (Sh.sl zf)),Q2] zbw
theorem X8:FK 124 zbl:=by
 refine dR Nd λx h0 res hx C hC=>?_
 unfold zbw at hx;split at hx
 ·rename_i l u c a b s;simp only[Tr.val_ok,bB]at hx;subst hx;refine Reach.len 0 (Sh.sl zf) l rfl λhl=>?_
  refine zE (n0:=2) xf Nd hC (MS c a b s l) ?_;exact kI l (λx=>bx x c (a,b,s)) (rT c a b s l) xf Nd hC (Ng c a b s l) hl _ 0 rfl (aY _)
 ·simp at hx
def TH:=J6.add 124 zbl
theorem Fx:zt TH:=xf.add X8
def zbc:zV:=bh (List.replicate 2 Q2) (fB TH Tryz.f254 (List.replicate 2 Q2))
theorem X1:FK 254 zbc:=cd _ Fx (bR kw)
def OA:=TH.add 254 zbc
theorem xg:zt OA:=Fx.add X1
abbrev zf1:Nat->aN:=λ_=>{ }
theorem Vt:zI (OA).P 201 Tryz.f201 3:=bR kw
theorem zfr(x0:Sem zh)(x1:Sem zg)(x2:Sem zf):rn OA 0 zf1 Tryz.f201 [zz zh x0,zz zg x1,zz zf x2] []=Tr.ok (zD.ret (AV.bool (Q0 (zR (λx=>bx x x1 x2) x0.2 0>=0))) []):=kw
def gZ(x0:Sem zh)(x1:Sem zg)(x2:Sem zf):Sem Q7:=(Q0 (zR (λx=>bx x x1 x2) x0.2 0>=0))
def zaO:zV:=aG [zh,zg,zf] [Q7] λx=>(gZ x.1 x.2.1 x.2.2.1,())
theorem XD:FK 201 zaO:=by
 refine zY (Vt) λx C hC=>?_
 refine zE xg (Vt) (λid _=>hC id) (zfr x.1 x.2.1 x.2.2.1) ?_;generalize hy:gZ x.1 x.2.1 x.2.2.1=y;unfold gZ at hy
 try simp only[ze.eta]
 repeat' (first|with_reducible refine dn hy (λ_ hy=>?_) (λ_ hy=>?_)|with_reducible refine zK ?_)
 all_goals first|(cases hc;done)|(subst hy;first|rfl)
abbrev zf0:=lW [(3,[1,5,11,12,13])]
inductive EZ where
 |h3 (i1:Sem zg) (l11:List (Sem zf.sl)) (i12:Int) (i13:Int) (mh_0:List ((Int×Int×zB)×Int))
abbrev zki:EZ->Nat×St
 |.h3 i1 l11 i12 i13 mh_0=>(3,⟨tm 37 [(1,ai i1),(5,AV.mp 0),(11,sl zf.sl l11),(12,ai i12),(13,ai i13)],[AO.vmap Q4 mh_0]⟩)
def zcb(x0:Sem zh)(x1:Sem zg):Tr (EZ⊕az):=Q9 (EZ.h3 x1 x0.2 (↑(length x0.2):Int) 0 [])
def Ac:EZ->Tr (EZ⊕az)
 | .h3 i1 l11 i12 i13 mh_0=>
  let a0:=l11.getD i13.toNat (zj zf.sl)
  let a1:=getD a0 (toNat i1) (zj zf)
  let a2:=(↑(lI mh_0 a1):Int)
  let a3:=jV mh_0 a1
  let a4:=j8 a3 a2.toNat (IntKind.i64.wrap (gB mh_0 a1+1))
  let a5:=gB a4 a1
  br (Q0 (i13<i12))
  (Qc (zO i13 l11.length)
   (Qc (zO i1 (length a0)) (Qc (Q0 (mh_0.length<=1073741824)) (Qc (zO a2 a3.length) (br (bif a1.1!=0 then Q0 (a5>1)else Q4) (re (kb Q3) []) (Q9 (EZ.h3 i1 l11 i12 (IntKind.i64.wrap (i13+1)) a4)))))))
  (re (kb Q4) [])
def Be(x0:Sem zh)(x1:Sem zg):=ah [Q7] Ac 100000000 (zcb x0 x1)
def rP(x0:Sem zh)(x1:Sem zg):=(Be x0 x1).isSome
def xQ(x0:Sem zh)(x1:Sem zg):=o1 (Be x0 x1)
def zaN:=FT [zh,zg] [Q7] λx=>Be x.1 x.2.1
theorem XC:FK 200 zaN:=xg.T1 (f:=Tryz.f200) (keep:=zf0) (e:=zki)
def zbK:=OA.addL [(201,zaO),(200,zaN)]
theorem xh:zt zbK:=xg.addL<|fc XD<|fc XC ja
abbrev zl1:=lW [(6,[1,18,19,20]),(15,[1,39,40,41]),(21,[1,8])]
inductive Ey where
 |h6 (l18:List (Sem zf.sl)) (i19:Int) (i20:Int) (z0:zn [CP.d zh])
 |h15 (l39:LI) (i40:Int) (i41:Int) (z0:zn [CP.d zh])
 |h21 (i8:Int) (z0:zn [CP.d zh])
abbrev zoy:Ey->Nat×St
 |.h6 l18 i19 i20 z0=>(6,⟨tm 79 [(1,Qf 0 0),(18,sl zf.sl l18),(19,ai i19),(20,ai i20)],[Qa (bF [] [CP.d zh] z0)]⟩)
 |.h15 l39 i40 i41 z0=>(15,⟨tm 79 [(1,Qf 0 0),(39,sl zg l39),(40,ai i40),(41,ai i41)],[Qa (bF [] [CP.d zh] z0)]⟩)
 |.h21 i8 z0=>(21,⟨tm 79 [(1,Qf 0 0),(8,ai i8)],[Qa (bF [] [CP.d zh] z0)]⟩)
def Rh(x0:Sem zh):Tr (Ey⊕az):=br (!eM (x0.1.1,x0.1.2.1,x0.1.2.2.1,x0.1.2.2.2.1,x0.1.t.1,zm x0.1.t.2)) (re (ai 1) []) (br (Q0 ((↑(length x0.2):Int)>200)) (re (ai 13) []) (Q9 (Ey.h6 x0.2 (↑(length x0.2):Int) 0 (x0,()))))
def iy:Ey->Tr (Ey⊕az)
 | .h6 l18 i19 i20 z0=>
  let a0:=(z0.1.1.1,z0.1.1.2.1,z0.1.1.2.2.1,z0.1.1.2.2.2.1,z0.1.1.t.1,zm z0.1.1.t.2)
  let a1:=eu a0 (l18.getD i20.toNat (zj zf.sl))
  let a2:=(a0,z0.1.2)
  br (Q0 (i20<i19))
  (Qc (zO i20 l18.length) (br (a1 !=0) (re (ai a1) []) (Q9 (Ey.h6 l18 i19 (IntKind.i64.wrap (i20+1)) z0))))
  (Qc (rP a2 z0.1.1.2.2.1)
   (br (xQ a2 z0.1.1.2.2.1) (re (ai 7) []) (Q9 (Ey.h15 z0.1.1.2.2.2.1 (↑(length z0.1.1.2.2.2.1):Int) 0 z0))))
 | .h15 l39 i40 i41 z0=>
  let a0:=((z0.1.1.1,z0.1.1.2.1,z0.1.1.2.2.1,z0.1.1.2.2.2.1,z0.1.1.t.1,zm z0.1.1.t.2),z0.1.2)
  let a1:=l39.getD i41.toNat (zj zg)
  br (Q0 (i41<i40))
  (Qc (zO i41 l39.length)
   (Qc (rP a0 a1) (br (xQ a0 a1) (re (ai 7) []) (Q9 (Ey.h15 l39 i40 (IntKind.i64.wrap (i41+1)) z0)))))
  (Q9 (Ey.h21 1 z0))
 | .h21 i8 z0=>
  let a0:=(↑(length z0.1.2):Int)
  let a1:=IntKind.i64.wrap (i8-1)
  let a2:=getD z0.1.2 a1.toNat (zj zf.sl)
  let a3:=getD z0.1.2 i8.toNat (zj zf.sl)
  let a4:=cW (getD a2 (toNat z0.1.1.2.2.1) (zj zf)) (getD a3 (toNat z0.1.1.2.2.1) (zj zf))
  br (Q0 (i8<a0))
  (Qc (zO a1 (length z0.1.2))
   (Qc (zO z0.1.1.2.2.1 (length a2)) (Qc (zO i8 (length z0.1.2)) (Qc (zO z0.1.1.2.2.1 (length a3)) (br (Q0 (a4>=0)) (re (ai 15) []) (Q9 (Ey.h21 (IntKind.i64.wrap (i8+1)) z0)))))))
  (re (ai 0) [])
def oC(x0:Sem zh):=ah [zg] iy 100000000 (Rh x0)
def Iz(x0:Sem zh):=(oC x0).isSome
def NH(x0:Sem zh):=o1 (oC x0)
def ziu:=FT [zh] [zg] λx=>oC x.1
theorem zem:FK 158 ziu:=xh.T1 (f:=Tryz.f158) (keep:=zl1) (e:=zoy)
abbrev zl2:=lW [(2,[0,11,12,13]),(5,[0,4,11,12,13,19,20,21]),(11,[0,4,6,7,11,12,13,19,20,21,32,33,34])]
inductive Ez where
 |h2 (l0:List (Sem zh)) (l11:List (Sem zh)) (i12:Int) (i13:Int)
 |h5 (l0:List (Sem zh)) (l11:List (Sem zh)) (i12:Int) (i13:Int) (l19:LF) (i20:Int) (i21:Int) (z0:zn [CP.d zh])
 |h11 (l0:List (Sem zh)) (i7:Sem zg) (l11:List (Sem zh)) (i12:Int) (i13:Int) (l19:LF) (i20:Int) (i21:Int) (l32:List (Sem zf.sl)) (i33:Int) (i34:Int) (z0:zn [CP.d zh]) (z1:zn [CP.d zo])
abbrev zoz:Ez->Nat×St
 |.h2 l0 l11 i12 i13=>(2,⟨tm 64 [(0,sl zh l0),(11,sl zh l11),(12,ai i12),(13,ai i13)],[]⟩)
 |.h5 l0 l11 i12 i13 l19 i20 i21 z0=>(5,⟨tm 64 [(0,sl zh l0),(4,Qf 0 0),(11,sl zh l11),(12,ai i12),(13,ai i13),(19,sl zo l19),(20,ai i20),(21,ai i21)],[Qa (bF [] [CP.d zh] z0)]⟩)
 |.h11 l0 i7 l11 i12 i13 l19 i20 i21 l32 i33 i34 z0 z1=>(11,⟨tm 64 [(0,sl zh l0),(4,Qf 0 0),(6,Qf 1 0),(7,ai i7),(11,sl zh l11),(12,ai i12),(13,ai i13),(19,sl zo l19),(20,ai i20),(21,ai i21),(32,sl zf.sl l32),(33,ai i33),(34,ai i34)],[Qa (bF [] [CP.d zh] z0),Qa (bF [] [CP.d zo] z1)]⟩)
def zll(x0:Sem zh.sl):Tr (Ez⊕az):=Q9 (Ez.h2 x0 x0 (↑(length x0):Int) 0)
def gJ:Ez->Tr (Ez⊕az)
 | .h2 l0 l11 i12 i13=>
  let a0:=l11.getD i13.toNat (zj zh)
  br (Q0 (i13<i12))
  (Qc (zO i13 l11.length) (Q9 (Ez.h5 l0 l11 i12 i13 a0.1.t.1 (↑(length a0.1.t.1):Int) 0 (a0,()))))
  (re (kb Q3) [])
 | .h5 l0 l11 i12 i13 l19 i20 i21 z0=>
  let a0:=l19.getD i21.toNat (zj zo)
  let a1:=zS l0 a0.2
  br (Q0 (i21<i20))
  (Qc (zO i21 l19.length)
   (br (Q0 (a1<0)) (re (kb Q4) []) (Q9 (Ez.h11 l0 a1 l11 i12 i13 l19 i20 i21 z0.1.2 (↑(length z0.1.2):Int) 0 z0 (a0,())))))
  (Q9 (Ez.h2 l0 l11 i12 (IntKind.i64.wrap (i13+1))))
 | .h11 l0 i7 l11 i12 i13 l19 i20 i21 l32 i33 i34 z0 z1=>
  let a0:=l32.getD i34.toNat (zj zf.sl)
  let a1:=getD a0 (toNat z1.1.1) (zj zf)
  let a2:=a1.1!=0
  let a3:=l0.getD (toNat i7) (zj zh)
  br (Q0 (i34<i33))
  (Qc (zO i34 l32.length)
   (Qc (zO z1.1.1 (length a0)) (Qc (bif a2 then zO i7 l0.length&&zO i7 l0.length else Q3) (br (bif a2 then !gZ ((a3.1.1,a3.1.2.1,a3.1.2.2.1,a3.1.2.2.2.1,a3.1.t.1,zm a3.1.t.2),a3.2) a3.1.2.2.1 a1 else Q4) (re (kb Q4) []) (Q9 (Ez.h11 l0 i7 l11 i12 i13 l19 i20 i21 l32 i33 (IntKind.i64.wrap (i34+1)) z0 z1))))))
  (Q9 (Ez.h5 l0 l11 i12 i13 l19 i20 (IntKind.i64.wrap (i21+1)) z0))
def AB(x0:Sem zh.sl):=ah [Q7] gJ 100000000 (zll x0)
def G5(x0:Sem zh.sl):=(AB x0).isSome
def Mj(x0:Sem zh.sl):=o1 (AB x0)
def ziv:=FT [zh.sl] [Q7] λx=>AB x.1
theorem zen:FK 159 ziv:=xh.T1 (f:=Tryz.f159) (keep:=zl2) (e:=zoz)
def zbL:=zbK.addL [(158,ziu),(159,ziv)]
theorem Fy:zt zbL:=xh.addL<|fc zem<|fc zen ja
abbrev zlF:=lW [(4,[0,3]),(9,[0,30,31,32])]
inductive Jp where
 |h4 (l0:List (Sem zh)) (i3:Int)
 |h9 (l0:List (Sem zh)) (l30:List (Sem zh)) (i31:Int) (i32:Int)
abbrev zok:Jp->Nat×St
 |.h4 l0 i3=>(4,⟨tm 45 [(0,sl zh l0),(3,ai i3)],[]⟩)
 |.h9 l0 l30 i31 i32=>(9,⟨tm 45 [(0,sl zh l0),(30,sl zh l30),(31,ai i31),(32,ai i32)],[]⟩)
def Zj(x0:Sem zh.sl):Tr (Jp⊕az):=br (Q0 ((↑(length x0):Int)>12)) (re (ai 13) []) (Q9 (Jp.h4 x0 1))
def oJ:Jp->Tr (Jp⊕az)
 | .h4 l0 i3=>
  let a0:=IntKind.i64.wrap (i3-1)
  let a1:=l0.getD a0.toNat (zj zh)
  let a2:=l0.getD i3.toNat (zj zh)
  br (Q0 (i3<(↑l0.length:Int)))
  (Qc (zO a0 l0.length)
   (Qc (zO i3 l0.length) (br (!Op.bytesLess a1.1.1 a2.1.1) (re (ai 15) []) (Q9 (Jp.h4 l0 (IntKind.i64.wrap (i3+1)))))))
  (Q9 (Jp.h9 l0 l0 (↑l0.length:Int) 0))
 | .h9 l0 l30 i31 i32=>
  let a0:=l30.getD i32.toNat (zj zh)
  let a1:=((a0.1.1,a0.1.2.1,a0.1.2.2.1,a0.1.2.2.2.1,a0.1.t.1,zm a0.1.t.2),a0.2)
  let a2:=NH a1
  br (Q0 (i32<i31))
  (Qc (zO i32 l30.length)
   (Qc (Iz a1) (br (a2 !=0) (re (ai a2) []) (Q9 (Jp.h9 l0 l30 i31 (IntKind.i64.wrap (i32+1)))))))
  (Qc (G5 l0) (br (!Mj l0) (re (ai 10) []) (re (ai 0) [])))
def ur(x0:Sem zh.sl):=ah [zg] oJ 100000000 (Zj x0)
def nH(x0:Sem zh.sl):=(ur x0).isSome
def kO(x0:Sem zh.sl):=o1 (ur x0)
def zhV:=FT [zh.sl] [zg] λx=>ur x.1
theorem zdL:FK 114 zhV:=Fy.T1 (f:=Tryz.f114) (keep:=zlF) (e:=zok)
def ig:=zbL.add 114 zhV
theorem dT:zt ig:=Fy.add zdL
abbrev zA:Sh:=.pr .str (.pr .str (.pr .str (.pr zp (.pr (.sl zg) zg))))
abbrev be:List CP:=[.d (.sl zh),.d zl,.d zp,.d zp,.d .str,.d .str,.d .str,.d .str,.nil,.d zg,.nil,.nil,.d .expr,.nil,.d zg]
abbrev ap:List CP:=[.d (.sl zh),.d zl,.d zp,.d zp,.d .str,.d .str,.d .str,.d .str,.vec zi,.d zg,.nil,.nil,.d .expr,.d (.sl zg),.d zg]
abbrev zcx:Nat->aN:=λj=>if j=2 then{slots:=[0,1,7,8]}else{ }
abbrev DW(l0:LI)(i1:Sem zg)(i7:Int)(i8:Int):St:={tmps:=(tm 19 [(0,sl zg l0),(1,ai i1),(7,ai i7),(8,ai i8)]),heap:=[]}
theorem O3:zI (ig).P 153 Tryz.f153 2:=bR kw
theorem zkS(x0:Sem zg.sl)(x1:Sem zg):rn ig 0 zcx Tryz.f153 [zz zg.sl x0,zz zg x1] []=Tr.ok (zD.head 2 (ac Tryz.f153 2) (DW x0 x1 (↑(length x0):Int) 0)):=kw
theorem O9(l0:LI)(i1:Sem zg)(i7:Int)(i8:Int):rh ig 0 zcx Tryz.f153 2 (DW l0 i1 i7 i8)=br (Q0 (i8<i7)) (Qc (zO i8 l0.length) (br (i1==l0.getD i8.toNat (zj zg)) (Tr.ok (zD.ret (ai i8) [])) (Tr.ok (zD.head 2 (ac Tryz.f153 2) (DW l0 i1 i7 (IntKind.i64.wrap (i8+1))))))) (Tr.ok (zD.ret (ai (-1)) [])):=kw
def eP(i1:Sem zg):List (Sem zg)->Int->Sem zg
 |[],_=>(-1)
 |x::r,i8=>(if(i1==x)=Q3 then i8 else eP i1 r (i8+1))
theorem Yt{C:fh}(hC:∀id,C.ρ0 id=Q2)(i1:Sem zg)(l0:LI)(hl:l0.length<=aF):∀(m i:Nat),l0.length-i=m->i<=l0.length->
  Reach (ig) C 153 (ac Tryz.f153 2) (DW l0 i1 (l0.length:Int) (i:Int)) (λr h=>aM h [zg] r=Q1 (eP i1 (l0.drop i) i,())):=by
 intro m
 induction m with
 | zero=>
  intro i hm hi;obtain rfl:i=l0.length:=by omega
  rw[jH];refine zE dT (O3) (λid _=>hC id) (O9 _ _ _ _) ?_;generalize hy:eP i1 [] _=y;rw[eP]at hy;simp only[zC,Tr.val_brF];repeat' (first|with_reducible refine dn hy (λ_ hy=>?_) (λ_ hy=>?_)|with_reducible refine zK ?_)
  all_goals first|(cases hc;done)|(subst hy;first|rfl)
 | succ m IH=>
  intro i hm hi;have hlt:i<l0.length:=by omega
  have IH:=IH (i+1);have hcast:((i:Int)+1)=((i+1:Nat):Int):=by omega
  have hwr:=zr i ow;rw[fH hlt];refine zE dT (O3) (λid _=>hC id) (O9 _ _ _ _) ?_;generalize hy:eP i1 (l0[i]::l0.drop (i+1)) (i:Int)=y;rw[eP]at hy;simp only[zJ hlt,zw hlt,cI l0 _ hlt,hwr,Tr.val_brT,Tr.val_chkT];clear hwr
  try simp only[zw hlt]at hy
  simp only[hcast]at hy;repeat' (first|with_reducible refine dn hy (λ_ hy=>?_) (λ_ hy=>?_)|with_reducible refine zK ?_)
  all_goals first|(cases hc;done)|(subst hy;first|(change Reach _ _ _ _ _ _;apply IH<;>first|omega|assumption)|rfl)
theorem SR{C:fh}(hC:∀id,C.ρ0 id=Q2)(i1:Sem zg)(l0:LI):
  Reach (ig) C 153 (ac Tryz.f153 2) (DW l0 i1 (l0.length:Int) 0) (λr h=>aM h [zg] r=Q1 (eP i1 l0 0,())):=
 Reach.len 0 (Sh.int IntKind.i64) l0 rfl λhl=>Yt hC i1 l0 hl _ 0 rfl (aY _)
def ij(x0:Sem zg.sl)(x1:Sem zg):Sem zg:=(eP x1 x0 0)
def zio:zV:=aG [zg.sl,zg] [zg] λx=>(ij x.1 x.2.1,())
theorem zei:FK 153 zio:=by
 refine zY (O3) λx C hC=>?_
 refine zE dT (O3) (λid _=>hC id) (zkS x.1 x.2.1) ?_;generalize hy:ij x.1 x.2.1=y;unfold ij at hy
 try simp only[ze.eta]
 repeat' (first|with_reducible refine dn hy (λ_ hy=>?_) (λ_ hy=>?_)|with_reducible refine zK ?_)
 all_goals first|(cases hc;done)|(subst hy;first|(change Reach _ _ _ _ _ _;apply SR hC<;>first|assumption|exact hc)|rfl)
abbrev zcy:Nat->aN:=λj=>if j=2 then{slots:=[0,1,7,8]}else{ }
abbrev DX(l0:LS)(s1:TS)(i7:Int)(i8:Int):St:={tmps:=(tm 19 [(0,sl Q6 l0),(1,str s1),(7,ai i7),(8,ai i8)]),heap:=[]}
theorem O4:zI (ig).P 204 Tryz.f204 2:=bR kw
theorem zkX(x0:Sem Sh.str.sl)(x1:TS):rn ig 0 zcy Tryz.f204 [zz Sh.str.sl x0,zz Q6 x1] []=Tr.ok (zD.head 2 (ac Tryz.f204 2) (DX x0 x1 (↑(length x0):Int) 0)):=kw
theorem Pa(l0:LS)(s1:TS)(i7:Int)(i8:Int):rh ig 0 zcy Tryz.f204 2 (DX l0 s1 i7 i8)=br (Q0 (i8<i7)) (Qc (zO i8 l0.length) (br (s1==l0.getD i8.toNat (zj Q6)) (Tr.ok (zD.ret (ai i8) [])) (Tr.ok (zD.head 2 (ac Tryz.f204 2) (DX l0 s1 i7 (IntKind.i64.wrap (i8+1))))))) (Tr.ok (zD.ret (ai (-1)) [])):=kw
def iG(s1:TS):List (Sem Q6)->Int->Sem zg
 |[],_=>(-1)
 |x::r,i8=>(if(s1==x)=Q3 then i8 else iG s1 r (i8+1))
theorem Yu{C:fh}(hC:∀id,C.ρ0 id=Q2)(s1:TS)(l0:LS)(hl:l0.length<=aF):∀(m i:Nat),l0.length-i=m->i<=l0.length->
  Reach (ig) C 204 (ac Tryz.f204 2) (DX l0 s1 (l0.length:Int) (i:Int)) (λr h=>aM h [zg] r=Q1 (iG s1 (l0.drop i) i,())):=by
 intro m
 induction m with
 | zero=>
  intro i hm hi;obtain rfl:i=l0.length:=by omega
  rw[jH];refine zE dT (O4) (λid _=>hC id) (Pa _ _ _ _) ?_;generalize hy:iG s1 [] _=y;rw[iG]at hy;simp only[zC,Tr.val_brF];repeat' (first|with_reducible refine dn hy (λ_ hy=>?_) (λ_ hy=>?_)|with_reducible refine zK ?_)
  all_goals first|(cases hc;done)|(subst hy;first|rfl)
 | succ m IH=>
  intro i hm hi;have hlt:i<l0.length:=by omega
  have IH:=IH (i+1);have hcast:((i:Int)+1)=((i+1:Nat):Int):=by omega
  have hwr:=zr i ow;rw[fH hlt];refine zE dT (O4) (λid _=>hC id) (Pa _ _ _ _) ?_;generalize hy:iG s1 (l0[i]::l0.drop (i+1)) (i:Int)=y;rw[iG]at hy;simp only[zJ hlt,zw hlt,cI l0 _ hlt,hwr,Tr.val_brT,Tr.val_chkT];clear hwr
  try simp only[zw hlt]at hy
  simp only[hcast]at hy;repeat' (first|with_reducible refine dn hy (λ_ hy=>?_) (λ_ hy=>?_)|with_reducible refine zK ?_)
  all_goals first|(cases hc;done)|(subst hy;first|(change Reach _ _ _ _ _ _;apply IH<;>first|omega|assumption)|rfl)
theorem ST{C:fh}(hC:∀id,C.ρ0 id=Q2)(s1:TS)(l0:LS):
  Reach (ig) C 204 (ac Tryz.f204 2) (DX l0 s1 (l0.length:Int) 0) (λr h=>aM h [zg] r=Q1 (iG s1 l0 0,())):=
 Reach.len 0 (Q6) l0 rfl λhl=>Yu hC s1 l0 hl _ 0 rfl (aY _)
def Kz(x0:Sem Sh.str.sl)(x1:TS):Sem zg:=(iG x1 x0 0)
def ziI:zV:=aG [Sh.str.sl,Q6] [zg] λx=>(Kz x.1 x.2.1,())
theorem zeA:FK 204 ziI:=by
 refine zY (O4) λx C hC=>?_
 refine zE dT (O4) (λid _=>hC id) (zkX x.1 x.2.1) ?_;generalize hy:Kz x.1 x.2.1=y;unfold Kz at hy
 try simp only[ze.eta]
 repeat' (first|with_reducible refine dn hy (λ_ hy=>?_) (λ_ hy=>?_)|with_reducible refine zK ?_)
 all_goals first|(cases hc;done)|(subst hy;first|(change Reach _ _ _ _ _ _;apply ST hC<;>first|assumption|exact hc)|rfl)
abbrev UK:Nat->aN:=λj=>if j=2 then{slots:=[0,3,7,8]}else{ }
abbrev wb(l0:LF)(i7:Int)(i8:Int)(ja0:Sem zg)(ja1:TS):St:={tmps:=(tm 19 [(0,sl zo l0),(3,Qf 0 0),(7,ai i7),(8,ai i8)]),heap:=[Qa [ai ja0,str ja1]]}
theorem HP:zI (ig).P 195 Tryz.f195 2:=bR kw
theorem zfq(x0:Sem zo.sl)(x1:Sem zo):rn ig 0 UK Tryz.f195 [zz zo.sl x0,zz zo x1] []=Tr.ok (zD.head 2 (ac Tryz.f195 2) (wb x0 (↑(length x0):Int) 0 x1.1 x1.2)):=kw
theorem KS(l0:LF)(i7:Int)(i8:Int)(ja0:Sem zg)(ja1:TS):rh ig 0 UK Tryz.f195 2 (wb l0 i7 i8 ja0 ja1)=br (Q0 (i8<i7)) (Qc (zO i8 l0.length) (br (ja0==(l0.getD i8.toNat (zj zo)).1&&(ja1==(l0.getD i8.toNat (zj zo)).2&&Q3)) (Tr.ok (zD.ret (ai i8) [])) (Tr.ok (zD.head 2 (ac Tryz.f195 2) (wb l0 i7 (IntKind.i64.wrap (i8+1)) ja0 ja1))))) (Tr.ok (zD.ret (ai (-1)) [])):=kw
def iF(ja0:Sem zg)(ja1:TS):List (Sem zo)->Int->Sem zg
 |[],_=>(-1)
 |x::r,i8=>(if(ja0==x.1&&(ja1==x.2&&Q3))=Q3 then i8 else iF ja0 ja1 r (i8+1))
theorem SN{C:fh}(hC:∀id,C.ρ0 id=Q2)(ja0:Sem zg)(ja1:TS)(l0:LF)(hl:l0.length<=aF):∀(m i:Nat),l0.length-i=m->i<=l0.length->
  Reach (ig) C 195 (ac Tryz.f195 2) (wb l0 (l0.length:Int) (i:Int) ja0 ja1) (λr h=>aM h [zg] r=Q1 (iF ja0 ja1 (l0.drop i) i,())):=by
 intro m
 induction m with
 | zero=>
  intro i hm hi;obtain rfl:i=l0.length:=by omega
  rw[jH];refine zE dT (HP) (λid _=>hC id) (KS _ _ _ _ _) ?_;generalize hy:iF ja0 ja1 [] _=y;rw[iF]at hy;simp only[zC,Tr.val_brF];repeat' (first|with_reducible refine dn hy (λ_ hy=>?_) (λ_ hy=>?_)|with_reducible refine zK ?_)
  all_goals first|(cases hc;done)|(subst hy;first|rfl)
 | succ m IH=>
  intro i hm hi;have hlt:i<l0.length:=by omega
  have IH:=IH (i+1);have hcast:((i:Int)+1)=((i+1:Nat):Int):=by omega
  have hwr:=zr i ow;rw[fH hlt];refine zE dT (HP) (λid _=>hC id) (KS _ _ _ _ _) ?_;generalize hy:iF ja0 ja1 (l0[i]::l0.drop (i+1)) (i:Int)=y;rw[iF]at hy;simp only[zJ hlt,zw hlt,cI l0 _ hlt,hwr,Tr.val_brT,Tr.val_chkT];clear hwr
  try simp only[zw hlt]at hy
  simp only[hcast]at hy;repeat' (first|with_reducible refine dn hy (λ_ hy=>?_) (λ_ hy=>?_)|with_reducible refine zK ?_)
  all_goals first|(cases hc;done)|(subst hy;first|(change Reach _ _ _ _ _ _;apply IH<;>first|omega|assumption)|rfl)
theorem Qr{C:fh}(hC:∀id,C.ρ0 id=Q2)(ja0:Sem zg)(ja1:TS)(l0:LF):
  Reach (ig) C 195 (ac Tryz.f195 2) (wb l0 (l0.length:Int) 0 ja0 ja1) (λr h=>aM h [zg] r=Q1 (iF ja0 ja1 l0 0,())):=
 Reach.len 0 (zg.pr Q6) l0 rfl λhl=>SN hC ja0 ja1 l0 hl _ 0 rfl (aY _)
def Ky(x0:Sem zo.sl)(x1:Sem zo):Sem zg:=(iF x1.1 x1.2 x0 0)
def zaK:zV:=aG [zo.sl,zo] [zg] λx=>(Ky x.1 x.2.1,())
theorem Xz:FK 195 zaK:=by
 refine zY (HP) λx C hC=>?_
 refine zE dT (HP) (λid _=>hC id) (zfq x.1 x.2.1) ?_;generalize hy:Ky x.1 x.2.1=y;unfold Ky at hy
 try simp only[ze.eta]
 repeat' (first|with_reducible refine dn hy (λ_ hy=>?_) (λ_ hy=>?_)|with_reducible refine zK ?_)
 all_goals first|(cases hc;done)|(subst hy;first|(change Reach _ _ _ _ _ _;apply Qr hC<;>first|assumption|exact hc)|rfl)
abbrev zlx:Nat->aN:=λ_=>{ }
theorem zcE:zI (ig).P 69 Tryz.f69 1:=bR kw
theorem zkC(x0:Sem zA):rn ig 0 zlx Tryz.f69 [zz zA x0] []=br (x0.2.2.1==[]) (Tr.ok (zD.ret (sl Q6 [x0.2.1]) [])) (Tr.ok (zD.ret (sl Q6 [x0.2.1,x0.2.2.1]) [])):=kw
def lm(x0:Sem zA):Sem Sh.str.sl:=(if(x0.2.2.1==[])=Q3 then[x0.2.1]else[x0.2.1,x0.2.2.1])
def zhC:zV:=aG [zA] [Sh.str.sl] λx=>(lm x.1,())
theorem zdo:FK 69 zhC:=by
 refine zY (zcE) λx C hC=>?_
 refine zE dT (zcE) (λid _=>hC id) (zkC x.1) ?_;generalize hy:lm x.1=y;unfold lm at hy
 try simp only[ze.eta]
 repeat' (first|with_reducible refine dn hy (λ_ hy=>?_) (λ_ hy=>?_)|with_reducible refine zK ?_)
 all_goals first|(cases hc;done)|(subst hy;first|rfl)
def zaI:zV:=bh (List.replicate 2 Q2) (fB ig Tryz.f191 (List.replicate 2 Q2))
theorem Xx:FK 191 zaI:=cd _ dT (bR kw)
def yE:=ig.addL [(153,zio),(204,ziI),(195,zaK),(69,zhC),(191,zaI)]
theorem qL:zt yE:=dT.addL<|fc zei<|fc zeA<|fc Xz<|fc zdo<|fc Xx ja
abbrev zfZ:Nat->aN:=λ_=>{ }
theorem Vs:zI (yE).P 192 Tryz.f192 2:=bR kw
theorem zfp(x0:Sem zg.sl)(x1:Sem zg):rn yE 0 zfZ Tryz.f192 [zz zg.sl x0,zz zg x1] []=Tr.ok (zD.ret (AV.bool (Q0 (ij x0 x1>=0))) []):=kw
def tM(x0:Sem zg.sl)(x1:Sem zg):Sem Q7:=(Q0 (ij x0 x1>=0))
def zaJ:zV:=aG [zg.sl,zg] [Q7] λx=>(tM x.1 x.2.1,())
theorem Xy:FK 192 zaJ:=by
 refine zY (Vs) λx C hC=>?_
 refine zE qL (Vs) (λid _=>hC id) (zfp x.1 x.2.1) ?_;generalize hy:tM x.1 x.2.1=y;unfold tM at hy
 try simp only[ze.eta]
 repeat' (first|with_reducible refine dn hy (λ_ hy=>?_) (λ_ hy=>?_)|with_reducible refine zK ?_)
 all_goals first|(cases hc;done)|(subst hy;first|rfl)
abbrev zlN:Nat->aN:=λ_=>{ }
theorem zcH:zI (yE).P 163 Tryz.f163 2:=bR kw
theorem zkM(x0:Sem Sh.str.sl)(x1:TS):rn yE 0 zlN Tryz.f163 [zz Sh.str.sl x0,zz Q6 x1] []=Tr.ok (zD.ret (AV.bool (Q0 (Kz x0 x1>=0))) []):=kw
def aC(x0:Sem Sh.str.sl)(x1:TS):Sem Q7:=(Q0 (Kz x0 x1>=0))
def zh9:zV:=aG [Sh.str.sl,Q6] [Q7] λx=>(aC x.1 x.2.1,())
theorem zdZ:FK 163 zh9:=by
 refine zY (zcH) λx C hC=>?_
 refine zE qL (zcH) (λid _=>hC id) (zkM x.1 x.2.1) ?_;generalize hy:aC x.1 x.2.1=y;unfold aC at hy
 try simp only[ze.eta]
 repeat' (first|with_reducible refine dn hy (λ_ hy=>?_) (λ_ hy=>?_)|with_reducible refine zK ?_)
 all_goals first|(cases hc;done)|(subst hy;first|rfl)
abbrev zlW:Nat->aN:=λ_=>{ }
theorem zcJ:zI (yE).P 155 Tryz.f155 2:=bR kw
theorem zkT(x0:Sem zo.sl)(x1:Sem zo):rn yE 0 zlW Tryz.f155 [zz zo.sl x0,zz zo x1] []=Tr.ok (zD.ret (AV.bool (Q0 (Ky x0 x1>=0))) []):=kw
def j4(x0:Sem zo.sl)(x1:Sem zo):Sem Q7:=(Q0 (Ky x0 x1>=0))
def zir:zV:=aG [zo.sl,zo] [Q7] λx=>(j4 x.1 x.2.1,())
theorem zek:FK 155 zir:=by
 refine zY (zcJ) λx C hC=>?_
 refine zE qL (zcJ) (λid _=>hC id) (zkT x.1 x.2.1) ?_;generalize hy:j4 x.1 x.2.1=y;unfold j4 at hy
 try simp only[ze.eta]
 repeat' (first|with_reducible refine dn hy (λ_ hy=>?_) (λ_ hy=>?_)|with_reducible refine zK ?_)
 all_goals first|(cases hc;done)|(subst hy;first|rfl)
def J7:=yE.addL [(192,zaJ),(163,zh9),(155,zir)]
theorem Fz:zt J7:=qL.addL<|fc Xy<|fc zdZ<|fc zek ja
abbrev UQ:Nat->aN:=λj=>if j=2 then{slots:=[0,12,13,14]}else{ }
inductive Jq where
 |h2 (i13:Int) (i14:Int) (z0:zn ap)
abbrev Tg:Jq->Nat×St
 |.h2 i13 i14 z0=>(2,⟨tm 65 [(0,Qf 0 0),(12,AV.vec 1),(13,ai i13),(14,ai i14)],[Qa (bF [1] ap z0),AO.vec zi z0.t.t.1]⟩)
theorem zmA:zI J7.P 117 Tryz.f117 1:=bR kw
def Zl(y:zn ap):Tr (Jq⊕az):=Q9 (Jq.h2 (↑y.t.t.1.length:Int) 0 y)
def I0(i13:Int)(i14:Int)(z0:zn ap)(a0:ze)(a1:Sem zi)(a2:Sem zg×Sem zg):Tr (Jq⊕az):=br (Q0 (i14<i13)) (Qc (zO i14 z0.t.t.1.length) (Qc (Q0 (i14.toNat<z0.t.t.1.length)) (br (zP (z0.t.q.2.1,z0.t.t.1,z0.t.t.2.1,[],[],a0) a1.1!=i14) (re (ai 7) (ar ap z0)) (Q9 (Jq.h2 i13 (IntKind.i64.wrap (i14+1)) z0))))) (br (ze.op z0.t.t.q.1==[]) (re (ai 0) (ar ap z0)) (br (bif a2.2==0 then bif a2.1!=3 then a2.1!=0 else Q4 else Q4) (re (ai 5) (ar ap z0)) (re (ai a2.2) (ar ap z0))))
def NU(i13:Int)(i14:Int)(z0:zn ap):Tr (Jq⊕az):=
 let a0:=zm z0.t.t.q.1
 let a1:=z0.t.t.1.getD i14.toNat (zj zi)
 let a2:=bJ a0 z0.t.t.1
 I0 i13 i14 z0 a0 a1 a2
theorem zkJ(y:zn ap):rn J7 2 UQ Tryz.f117 [Qf 0 0] (ar ap y)=(Zl y).map (lf Tryz.f117 Tg):=kw
def LQ:Jq->Tr (Jq⊕az)
 |.h2 i13 i14 z0=>NU i13 i14 z0
theorem znh:∀s,run J7 2 UQ (Func.results Tryz.f117).toList 400 (ac Tryz.f117 (Tg s).1) (Tg s).2=(LQ s).map (lf Tryz.f117 Tg)|.h2 i13 i14 z0=>by kernel_rfl
def uY(y:zn ap):Option (zx (Qi Q1 [zg])×zn ap):=km [zg] ap LQ 100000000 (Zl y)
def gF(y:zn ap):Bool:=(uY y).isSome
def fD(y:zn ap):(Sem zg)×zn ap:=(λr:zx (Qi Q1 [zg])×zn ap=>(r.1.1,r.2)) ((uY y).getD (cm [zg],fJ ap))
def zhZ:zV:=se ap [] [zg] ap (λy _=>gF y) λy _=>(((fD y).1,()),(fD y).2)
theorem zdP:FK 117 zhZ:=jW (keep:=UQ) (gas:=400) (n:=100000000) (e:=Tg) (t:=LQ) (i:=λy x=>Zl y) Fz zmA (λy x=>zkJ y) znh (λ_ _=>by kernel_rfl) (λ_ _=>by kernel_rfl)
def TI:=J7.add 117 zhZ
theorem FA:zt TI:=Fz.add zdP
def ziw:zV:=bh (List.replicate 2 Q2) (fB TI Tryz.f162 (List.replicate 2 Q2))
theorem zeo:FK 162 ziw:=cd _ FA (bR kw)
def J8:=TI.add 162 ziw
theorem xi:zt J8:=FA.add zeo
abbrev Bi(s:List zB)(l:LF)(i:Int):St:={tmps:=[.sl zo l,.clo (.func 162) [] [.ptr 0 0],.any,.any,.any,.any,.any,.int .i64 l.length,.int .i64 i,.any,.any,.any,.any,.any,.any,.any,.any,.any,.any],heap:=[.box [.sl .str s]]}
theorem T6(s:List zB)(l:LF):run J8 1 Ap Tryz.f205.results.toList 300 (bw Tryz.f205) (bd Tryz.f205.ntmps [.sl zo l,.clo (.func 162) [] [.ptr 0 0]] [.box [.sl .str s]])=.ok (.head 2 (ac Tryz.f205 2) (Bi s l 0)):=kw
theorem VN(s:List zB)(l:LF)(i:Int):run J8 1 Ap Tryz.f205.results.toList 300 (ac Tryz.f205 2) (Bi s l i)=nX (K:=ac Tryz.f205 2) (e:=zo) l (λx=>aC s x.2) (Bi s l) [.box [.sl .str s]] i:=kw
theorem VE:zI J8.P 205 Tryz.f205 2:=bR kw
def zj1:iV [Q1 (.sl zo),Q2]:=λx h=>match x,h with
 |(l,.clo (.func 162) [] [.ptr 0 0],_),[.box [.sl .str s]]=>.ok (.int .i64 (zR (λx=>aC s x.2) l 0),[.box [.sl .str s]])
 |_,_=>.err
def ziM:zV:=bh [Q1 (.sl zo),Q2] zj1
theorem zeF:FK 205 ziM:=by
 refine dR VE λx h0 res hx C hC=>?_
 unfold zj1 at hx;split at hx
 ·rename_i l u s;simp only[Tr.val_ok,bB]at hx;subst hx;refine Reach.len 0 zo l rfl λhl=>?_
  refine zE (n0:=1) xi VE hC (T6 s l) ?_;exact kI l (λx=>aC s x.2) (Bi s l) xi VE hC (VN s l) hl _ 0 rfl (aY _)
 ·simp at hx
def TJ:=J8.add 205 ziM
theorem FB:zt TJ:=xi.add zeF
def zix:zV:=bh (List.replicate 2 Q2) (fB TJ Tryz.f164 (List.replicate 2 Q2))
theorem zep:FK 164 zix:=cd _ FB (bR kw)
def zbM:=TJ.add 164 zix
theorem xj:zt zbM:=FB.add zep
abbrev cpR:List CP:=[.d zh]
abbrev zfc:List CP:=[.d .str,.nil,.d zg,.nil,.nil,.d .str,.d zg,.d zg,.d .str,.d .str,.nil,.nil]
abbrev zkc:List CP:=[.d zp,.vec (.sl zf)]
abbrev pg:List CP:=[.d zl]
abbrev jf:List CP:=[.d .str,.d .str,.d .str,.nil,.nil,.d .str,.nil,.nil,.d .str,.d zg,.d zg,.d .str,.d .str,.nil,.nil,.nil,.d .str,.d zg,.d zg,.d .str,.d .str,.nil,.d .str]
abbrev S7:List CP:=[.d .str,.d .str,.d .str,.d (.sl .str),.d (.sl zi),.d .str,.d (.sl .str),.vec jb,.d .expr,.d (.sl zf),.nil,.d .expr,.d .str]
abbrev S8:List CP:=[.d .str,.d .str,.d .str,.d (.sl .str),.d (.sl zi),.d .str,.d (.sl .str),.vec jb,.d .expr,.d (.sl zf),.vec iq,.d .expr,.d .str]
abbrev zly:Nat->aN:=λj=>if j=6 then{slots:=[1,2,3,4,5],prom:=[(3,Q1 11,.sl zf)]}else{ }
inductive Mc where
 |h6 (i4:Int) (i5:Int) (z0:zn cpR) (z1:zn zfc) (z2:zn zkc)
abbrev zof:Mc->Nat×St
 |.h6 i4 i5 z0 z1 z2=>(6,⟨tm 38 [(1,Qf 0 0),(2,Qf 1 0),(3,Qf 2 0),(4,ai i4),(5,ai i5)],[Qa (bF [] cpR z0),Qa (bF [] zfc z1),Qa (bF [3] zkc z2),AO.vec zf.sl z2.2.1]⟩)
def zfH(x0:Sem zh):Tr (Mc⊕az):=
 let a0:=(Eh (x0.1.1,x0.1.2.1,x0.1.2.2.1,x0.1.2.2.2.1,x0.1.t.1,zm x0.1.t.2),[],())
 br (Q0 ((↑(length x0.2):Int)>200)) (Q9 (Mc.h6 201 0 (x0,()) ([],0,[],0,0,[],[],()) a0))
 (Q9 (Mc.h6 40 0 (x0,()) ([],0,[],0,0,[],[],()) a0))
def RX:Mc->Tr (Mc⊕az)
 | .h6 i4 i5 z0 z1 z2=>
  let a0:=(↑(length z0.1.2):Int)
  let a1:=[lX (getD z0.1.2 i5.toNat (zj zf.sl))]
  br (bif Q0 (i5<a0)then Q0 (i5<i4)else Q4)
  (Qc (zO i5 (length z0.1.2))
   (Qc (Q0 (z2.2.1.length+a1.length<=1073741824)) (Q9 (Mc.h6 i4 (IntKind.i64.wrap (i5+1)) z0 z1 (z2.1,z2.2.1++a1,())))))
  (re
   (agg [str z2.1.1,sl zi z2.1.2.1,ai z2.1.2.2.1,sl zg z2.1.2.2.2.1,sl zo z2.1.t.1,str (ze.op z2.1.t.2),ai (ze.v z2.1.t.2).1,ai (ze.v z2.1.t.2).2.1,str (ze.v z2.1.t.2).2.2,str (ze.s z2.1.t.2),sl Q5 (ze.l z2.1.t.2),AV.vec 0])
   [AO.vec zf.sl z2.2.1])
def CO(x0:Sem zh):=ah [zh] RX 100000000 (zfH x0)
def M7(x0:Sem zh):=(CO x0).isSome
def yS(x0:Sem zh):=o1 (CO x0)
def zhF:=FT [zh] [zh] λx=>CO x.1
theorem zdt:FK 39 zhF:=xj.T1 (f:=Tryz.f39) (keep:=zly) (e:=zof)
abbrev zp0:Nat->aN:=λj=>if j=3 then{slots:=[1,2,3,4],prom:=[(3,Q1 7,jb)]}else if j=7 then{slots:=[1,2,3,5],prom:=[(3,Q1 15,iq)]}else{ }
inductive H8p where
 |h3 (i4:Int) (z0:zn pg) (z1:zn jf) (z2:zn S7)
 |h7 (i5:Int) (z0:zn pg) (z1:zn jf) (z2:zn S8)
abbrev e8p:H8p->Nat×St
 |.h3 i4 z0 z1 z2=>(3,⟨tm 103 [(1,Qf 0 0),(2,Qf 1 0),(3,Qf 2 0),(4,ai i4)],[Qa (bF [] pg z0),Qa (bF [] jf z1),Qa (bF [3] S7 z2),AO.vec (Sh.str.pr Q6) z2.t.q.2.1]⟩)
 |.h7 i5 z0 z1 z2=>(7,⟨tm 103 [(1,Qf 0 0),(2,Qf 1 0),(3,Qf 2 0),(5,ai i5)],[Qa (bF [] pg z0),Qa (bF [] jf z1),Qa (bF [3,4] S8 z2),AO.vec (Sh.str.pr Q6) z2.t.q.2.1,AO.vec (Sh.str.pr Q5) z2.t.t.q.1]⟩)
def i8p(x0:Sem zl):Tr (H8p⊕az):=
 Qc (fC x0.1)
 (Qc (fC x0.2.1)
  (Qc (fC x0.2.2.1) (Qc (fC x0.t.2.1) (Qc (fC x0.t.t.t) (Qc (pT x0.2.2.2.1) (Qc (pT x0.t.q.1) (Q9 (H8p.h3 0 (x0,()) ([],[],[],[],[],0,0,[],[],[],0,0,[],[],[],()) (dc x0.1,dc x0.2.1,dc x0.2.2.1,ki x0.2.2.2.1,jN x0.t.1,
  dc x0.t.2.1,ki x0.t.q.1,[],fK (zm x0.t.t.1),lX x0.t.t.2.1,fK (zm x0.t.t.q.2.1),dc x0.t.t.t,())))))))))
def t8p:H8p->Tr (H8p⊕az)
 | .h3 i4 z0 z1 z2=>
  let a0:=(↑(length z0.1.t.q.2.1):Int)
  let a1:=zO i4 (length z0.1.t.q.2.1)
  let a2:=getD z0.1.t.q.2.1 i4.toNat (zj jb)
  let a3:=[(dc a2.1,dc a2.2)]
  br (bif Q0 (i4<a0)then Q0 (i4<10)else Q4)
  (Qc a1
   (Qc (fC a2.1) (Qc a1 (Qc (fC a2.2) (Qc (Q0 (z2.t.q.2.1.length+a3.length<=1073741824)) (Q9 (H8p.h3 (IntKind.i64.wrap (i4+1)) z0 z1 (z2.1,z2.2.1,z2.2.2.1,z2.2.2.2.1,z2.t.1,z2.t.2.1,z2.t.q.1,z2.t.q.2.1++a3,z2.t.t))))))))
  (Q9
   (H8p.h7 0 z0 z1 (z2.1,z2.2.1,z2.2.2.1,z2.2.2.2.1,z2.t.1,z2.t.2.1,z2.t.q.1,z2.t.q.2.1,z2.t.t.1,z2.t.t.2.1,[],z2.t.t.q)))
 | .h7 i5 z0 z1 z2=>
  let a0:=(↑(length z0.1.t.t.q.1):Int)
  let a1:=zO i5 (length z0.1.t.t.q.1)
  let a2:=getD z0.1.t.t.q.1 i5.toNat (zj iq)
  let a3:=[(dc a2.1,zm (fK (zm a2.2)))]
  br (bif Q0 (i5<a0)then Q0 (i5<10)else Q4)
  (Qc a1
   (Qc (fC a2.1) (Qc a1 (Qc (Q0 (z2.t.t.q.1.length+a3.length<=1073741824)) (Q9 (H8p.h7 (IntKind.i64.wrap (i5+1)) z0 z1 (z2.1,z2.2.1,z2.2.2.1,z2.2.2.2.1,z2.t.1,z2.t.2.1,z2.t.q.1,z2.t.q.2.1,z2.t.t.1,z2.t.t.2.1,z2.t.t.q.1++a3,z2.t.t.q.2)))))))
  (re
   (agg [str z2.1,str z2.2.1,str z2.2.2.1,sl Q6 z2.2.2.2.1,sl zi z2.t.1,str z2.t.2.1,sl Q6 z2.t.q.1,AV.vec 0,str (ze.op z2.t.t.1),ai (ze.v z2.t.t.1).1,ai (ze.v z2.t.t.1).2.1,str (ze.v z2.t.t.1).2.2,str (ze.s z2.t.t.1),
   sl Q5 (ze.l z2.t.t.1),sl zf z2.t.t.2.1,AV.vec 1,str (ze.op z2.t.t.q.2.1),ai (ze.v z2.t.t.q.2.1).1,ai (ze.v z2.t.t.q.2.1).2.1,str (ze.v z2.t.t.q.2.1).2.2,str (ze.s z2.t.t.q.2.1),
   sl Q5 (ze.l z2.t.t.q.2.1),str z2.t.t.t.1])
   [AO.vec (Sh.str.pr Q6) z2.t.q.2.1,AO.vec (Sh.str.pr Q5) z2.t.t.q.1])
def xy(x0:Sem zl):=ah [zl] t8p 100000000 (i8p x0)
def M5(x0:Sem zl):=(xy x0).isSome
def UW(x0:Sem zl):=o1 (xy x0)
def F8p:=FT [zl] [zl] λx=>xy x.1
theorem zjN:FK 18 F8p:=xj.T1 (f:=Tryz.f18) (keep:=zp0) (e:=e8p)
def zbO:=zbM.addL [(39,zhF),(18,F8p)]
theorem FG:zt zbO:=xj.addL<|fc zdt<|fc zjN ja
abbrev zpV:Nat->aN:=λj=>if j=3 then{slots:=[0,3,4],prom:=[(3,Q2,zh)]}else{ }
inductive H7p where
 |h3 (l0:List (Sem zh)) (i4:Int) (lh_0:List (Sem zh))
abbrev e7p:H7p->Nat×St
 |.h3 l0 i4 lh_0=>(3,⟨tm 24 [(0,sl zh l0),(3,AV.vec 0),(4,ai i4)],[AO.vec zh lh_0]⟩)
def i7p(x0:Sem zh.sl):Tr (H7p⊕az):=
 Q9 (H7p.h3 x0 0 [])
def t7p:H7p->Tr (H7p⊕az)
 | .h3 l0 i4 lh_0=>
  let a0:=l0.getD i4.toNat (zj zh)
  let a1:=((a0.1.1,a0.1.2.1,a0.1.2.2.1,a0.1.2.2.2.1,a0.1.t.1,zm a0.1.t.2),a0.2)
  let a2:=yS a1
  let a3:=[((a2.1.1,a2.1.2.1,a2.1.2.2.1,a2.1.2.2.2.1,a2.1.t.1,zm a2.1.t.2),a2.2)]
  br (bif Q0 (i4<(↑l0.length:Int))then Q0 (i4<13)else Q4)
  (Qc (zO i4 l0.length)
   (Qc (M7 a1) (Qc (Q0 (lh_0.length+a3.length<=1073741824)) (Q9 (H7p.h3 l0 (IntKind.i64.wrap (i4+1)) (lh_0++a3))))))
  (re (AV.vec 0)
   [AO.vec zh lh_0])
def CQ(x0:Sem zh.sl):=ah [zh.sl] t7p 100000000 (i7p x0)
def M8(x0:Sem zh.sl):=(CQ x0).isSome
def Ge(x0:Sem zh.sl):=o1 (CQ x0)
def F7p:=FT [zh.sl] [zh.sl] λx=>CQ x.1
theorem zjE:FK 17 F7p:=FG.T1 (f:=Tryz.f17) (keep:=zpV) (e:=e7p)
def Kc:=zbO.add 17 F7p
theorem FH:zt Kc:=FG.add zjE
abbrev UP:Nat->aN:=λj=>if j=3 then{slots:=[0,3,14,15,16]}else if j=11 then{slots:=[0,3,55,56,57]}else{ }
inductive wG where
 |h3 (l14:LS) (i15:Int) (i16:Int) (z0:zn be) (jb0:LS)
 |h11 (l55:List (Sem zh)) (i56:Int) (i57:Int) (z0:zn be) (jb0:LS)
abbrev Tf:wG->Nat×St
 |.h3 l14 i15 i16 z0 jb0=>(3,⟨tm 122 [(0,Qf 0 0),(3,Qf 1 0),(14,sl Q6 l14),(15,ai i15),(16,ai i16)],[Qa (bF [] be z0),Qa [sl Q6 jb0]]⟩)
 |.h11 l55 i56 i57 z0 jb0=>(11,⟨tm 122 [(0,Qf 0 0),(3,Qf 1 0),(55,sl zh l55),(56,ai i56),(57,ai i57)],[Qa (bF [] be z0),Qa [sl Q6 jb0]]⟩)
theorem zmz:zI Kc.P 116 Tryz.f116 1:=bR kw
def Zk(y:zn be):Tr (wG⊕az):=
 let a0:=lm (y.t.1,y.t.2.1,y.t.q.1,(y.t.q.2.1,[],y.t.t.1,[],[],zm y.t.t.2.1),[],y.t.t.q.1)
 Q9 (wG.h3 a0 (↑(length a0):Int) 0 y a0)
def IZ(l14:LS)(i15:Int)(i16:Int)(z0:zn be)(jb0:LS)(a0:Sem zg)(a1:Sem zg):Tr (wG⊕az):=br (Q0 (i16<i15)) (Qc (zO i16 l14.length) (br (Q0 (a0<0)) (re (ai 6) (ar be z0)) (Q9 (wG.h3 l14 i15 (IntKind.i64.wrap (i16+1)) z0 jb0)))) (br (bif Q0 (a1>=0)then Q3 else z0.t.2.1==z0.t.q.1) (re (ai 7) (ar be z0)) (Q9 (wG.h11 z0.1 (↑(length z0.1):Int) 0 z0 jb0)))
def NT(l14:LS)(i15:Int)(i16:Int)(z0:zn be)(jb0:LS):Tr (wG⊕az):=
 let a0:=zS z0.1 (l14.getD i16.toNat (zj Q6))
 let a1:=zS z0.1 z0.2.1.2.1
 IZ l14 i15 i16 z0 jb0 a0 a1
def Ec(l55:List (Sem zh))(i56:Int)(i57:Int)(z0:zn be)(jb0:LS)(a0:Sem zh)(a1:Int)(a2:Sem zg)(a3:Sem zg)(a4:Sem zh)(a5:Sem zh):Tr (wG⊕az):=br (Q0 (i57<i56)) (Qc (zO i57 l55.length) (br (!aC jb0 a0.1.1) (br (Q0 (a1>=0)) (re (ai 10) (ar be z0)) (Q9 (wG.h11 l55 i56 (IntKind.i64.wrap (i57+1)) z0 jb0))) (Q9 (wG.h11 l55 i56 (IntKind.i64.wrap (i57+1)) z0 jb0)))) (Qc (zO a2 (length z0.1)) (br (!z0.t.q.1==[]) (Qc (zO a3 (length z0.1)) (re (ai 0) (ar be (z0.1,z0.2.1,a4.1,a5.1,z0.t)))) (re (ai 0) (ar be (z0.1,z0.2.1,a4.1,z0.2.2.2)))))
def IY(l55:List (Sem zh))(i56:Int)(i57:Int)(z0:zn be)(jb0:LS):Tr (wG⊕az):=
 let a0:=l55.getD i57.toNat (zj zh)
 let a1:=zR (λx=>aC jb0 x.2) a0.1.t.1 0
 let a2:=zS z0.1 z0.t.2.1
 let a3:=zS z0.1 z0.t.q.1
 let a4:=getD z0.1 (toNat a2) (zj zh)
 let a5:=getD z0.1 (toNat a3) (zj zh)
 Ec l55 i56 i57 z0 jb0 a0 a1 a2 a3 a4 a5
theorem zkI(y:zn be):rn Kc 1 UP Tryz.f116 [Qf 0 0] (ar be y)=(Zk y).map (lf Tryz.f116 Tf):=kw
def Eb:wG->Tr (wG⊕az)
 |.h3 l14 i15 i16 z0 jb0=>NT l14 i15 i16 z0 jb0
 |.h11 l55 i56 i57 z0 jb0=>IY l55 i56 i57 z0 jb0
theorem zng:∀s,run Kc 1 UP (Func.results Tryz.f116).toList 400 (ac Tryz.f116 (Tf s).1) (Tf s).2=(Eb s).map (lf Tryz.f116 Tf)|.h3 l14 i15 i16 z0 jb0=>by kernel_rfl|.h11 l55 i56 i57 z0 jb0=>by kernel_rfl
def qY(y:zn be):Option (zx (Qi Q1 [zg])×zn be):=km [zg] be Eb 100000000 (Zk y)
def mU(y:zn be):Bool:=(qY y).isSome
def mT(y:zn be):(Sem zg)×zn be:=(λr:zx (Qi Q1 [zg])×zn be=>(r.1.1,r.2)) ((qY y).getD (cm [zg],fJ be))
def zhX:zV:=se be [] [zg] be (λy _=>mU y) λy _=>(((mT y).1,()),(mT y).2)
theorem zdN:FK 116 zhX:=jW (keep:=UP) (gas:=400) (n:=100000000) (e:=Tf) (t:=Eb) (i:=λy x=>Zk y) FH zmz (λy x=>zkI y) zng (λ_ _=>by kernel_rfl) (λ_ _=>by kernel_rfl)
def J9:=Kc.add 116 zhX
theorem FC:zt J9:=FH.add zdN
abbrev dP:List CP:=[.d (.sl zh),.d zl,.d zp,.d zp,.d .str,.d .str,.d .str,.d .str,.vec zi,.d zg,.nil,.nil,.d .expr,.vec zg,.d zg]
abbrev US:Nat->aN:=λj=>if j=3 then{slots:=[1,3,14,15,16,0],prom:=[(0,Q1 60,.int .i64),(0,Q1 50,zi)]}else if j=12 then{slots:=[1,63,64,65,0]}else if j=1000000 then{sett:=[(0,60)]}else{ }
inductive sY where
 |h3 (l14:LS) (i15:Int) (i16:Int) (z0:zn dP)
 |h12 (i64:Int) (i65:Int) (z0:zn dP)
 |h12b (i64:Int) (i65:Int) (z0:zn dP)
abbrev Ti:sY->Nat×St
 |.h3 l14 i15 i16 z0=>(3,⟨tm 80 [(0,Qf 0 0),(1,Qf 1 0),(3,AV.clo (Fn.func 191) [] [Qf 1 0]),(14,sl Q6 l14),(15,ai i15),(16,ai i16)],[Qa (bF [2,3] dP z0),Qa [Qf 0 0],AO.vec zi z0.t.t.1,AO.vec zg z0.t.t.q.2.1]⟩)
 |.h12 i64 i65 z0=>(12,⟨tm 80 [(0,Qf 0 0),(1,Qf 1 0),(63,AV.vec 2),(64,ai i64),(65,ai i65)],[Qa (bF [3,2] dP z0),Qa [Qf 0 0],AO.vec zg z0.t.t.q.2.1,AO.vec zi z0.t.t.1]⟩)
 |.h12b i64 i65 z0=>(12,⟨tm 80 [(0,Qf 0 0),(1,Qf 1 0),(63,AV.vec 2),(64,ai i64),(65,ai i65)],[Qa (bF [3,2] dP z0),Qa [Qf 0 0],AO.frz zg z0.t.t.q.2.1,AO.vec zi z0.t.t.1]⟩)
theorem zmX:zI J9.P 152 Tryz.f152 1:=bR kw
def Zr(y:zn be):Tr (sY⊕az):=Q9 (sY.h3 y.2.1.2.2.2.1 (↑(length y.2.1.2.2.2.1):Int) 0 (y.1,y.2.1,y.2.2.1,y.2.2.2.1,y.t.1,y.t.2.1,y.t.q.1,y.t.q.2.1,[],y.t.t.1,y.t.t.2.1,[],y.t.t.q))
def I3(l14:LS)(i15:Int)(i16:Int)(z0:zn dP)(a0:Sem zg)(a1:LI)(a2:LC):Tr (sY⊕az):=br (Q0 (i16<i15)) (Qc (zO i16 l14.length) (br (Q0 (a0<0)) (re (ai 4) (ar ap z0)) (Qc (Q0 (z0.t.t.q.2.1.length+a1.length<=1073741824)) (Qc (zO a0 (length z0.2.2.1.2.1)) (Qc (Q0 (z0.t.t.1.length+a2.length<=1073741824)) (Q9 (sY.h3 l14 i15 (IntKind.i64.wrap (i16+1)) (z0.1,z0.2.1,z0.2.2.1,z0.2.2.2.1,z0.t.1,z0.t.2.1,z0.t.q.1,z0.t.q.2.1,z0.t.t.1++a2,z0.t.t.2.1,z0.t.t.q.1,z0.t.t.q.2.1++a1,z0.t.t.t)))))))) (Q9 (sY.h12 (↑z0.t.t.q.2.1.length:Int) 0 z0))
def NX(l14:LS)(i15:Int)(i16:Int)(z0:zn dP):Tr (sY⊕az):=
 let a0:=zP (z0.2.2.1.1,z0.2.2.1.2.1,z0.2.2.1.2.2.1,z0.2.2.1.2.2.2.1,z0.2.2.1.t.1,zm z0.2.2.1.t.2) (l14.getD i16.toNat (zj Q6))
 let a1:=[a0]
 let a2:=[getD z0.2.2.1.2.1 (toNat a0) (zj zi)]
 I3 l14 i15 i16 z0 a0 a1 a2
def Eg(i64:Int)(i65:Int)(z0:zn dP)(a0:Int):Tr (sY⊕az):=br (Q0 (i65<i64)) (Qc (zO i65 z0.t.t.q.2.1.length) (Qc (Q0 (i65.toNat<z0.t.t.q.2.1.length)) (Qc (Q0 (0<=0)&&Q0 (0<=i65)&&Q0 (i65<=a0)) (br (tM (List.take (i65.toNat-toNat 0) (List.drop (toNat 0) z0.t.t.q.2.1)) (z0.t.t.q.2.1.getD i65.toNat (zj zg))) (re (ai 7) (ar ap z0)) (Q9 (sY.h12b i64 (IntKind.i64.wrap (i65+1)) z0)))))) (re (ai 0) (ar ap z0))
def I2(i64:Int)(i65:Int)(z0:zn dP):Tr (sY⊕az):=
 let a0:=(↑z0.t.t.q.2.1.length:Int)
 Eg i64 i65 z0 a0
def xY(i64:Int)(i65:Int)(z0:zn dP)(a0:Int):Tr (sY⊕az):=br (Q0 (i65<i64)) (Qc (zO i65 z0.t.t.q.2.1.length) (Qc (Q0 (0<=0)&&Q0 (0<=i65)&&Q0 (i65<=a0)) (br (tM (List.take (i65.toNat-toNat 0) (List.drop (toNat 0) z0.t.t.q.2.1)) (z0.t.t.q.2.1.getD i65.toNat (zj zg))) (re (ai 7) (ar ap z0)) (Q9 (sY.h12b i64 (IntKind.i64.wrap (i65+1)) z0))))) (re (ai 0) (ar ap z0))
def Ee(i64:Int)(i65:Int)(z0:zn dP):Tr (sY⊕az):=
 let a0:=(↑z0.t.t.q.2.1.length:Int)
 xY i64 i65 z0 a0
theorem zkR(y:zn be):rn J9 1 US Tryz.f152 [Qf 0 0] (ar be y)=(Zr y).map (lf Tryz.f152 Ti):=kw
def qu:sY->Tr (sY⊕az)
 |.h3 l14 i15 i16 z0=>NX l14 i15 i16 z0
 |.h12 i64 i65 z0=>I2 i64 i65 z0
 |.h12b i64 i65 z0=>Ee i64 i65 z0
theorem znn:∀s,run J9 1 US (Func.results Tryz.f152).toList 400 (ac Tryz.f152 (Ti s).1) (Ti s).2=(qu s).map (lf Tryz.f152 Ti)|.h3 l14 i15 i16 z0=>by kernel_rfl|.h12 i64 i65 z0=>by kernel_rfl|.h12b i64 i65 z0=>by kernel_rfl
def AS(y:zn be):Option (zx (Qi Q1 [zg])×zn ap):=km [zg] ap qu 100000000 (Zr y)
def nZ(y:zn be):Bool:=(AS y).isSome
def j7(y:zn be):(Sem zg)×zn ap:=(λr:zx (Qi Q1 [zg])×zn ap=>(r.1.1,r.2)) ((AS y).getD (cm [zg],fJ ap))
def zim:zV:=se be [] [zg] ap (λy _=>nZ y) λy _=>(((j7 y).1,()),(j7 y).2)
theorem zeg:FK 152 zim:=jW (ps:=be) (ks:=[]) (outs:=[zg]) (keep:=US) (gas:=400) (n:=100000000) (e:=Ti) (t:=qu) (i:=λy x=>Zr y) FC zmX (λy x=>zkR y) znn (λ_ _=>by kernel_rfl) (λ_ _=>by kernel_rfl)
def FD:=J9.add 152 zim
theorem xk:zt FD:=FC.add zeg
abbrev Rc(y:zn be):zn be:=(y.1,(y.2.1.1,y.2.1.2.1,y.2.1.2.2.1,y.2.1.2.2.2.1,y.2.1.t.1,y.2.1.t.2.1,y.2.1.t.q.1,y.2.1.t.q.2.1,zm y.2.1.t.t.1,y.2.1.t.t.2.1,y.2.1.t.t.q.1,zm y.2.1.t.t.q.2.1,y.2.1.t.t.t),(y.2.2.1.1,y.2.2.1.2.1,y.2.2.1.2.2.1,y.2.2.1.2.2.2.1,y.2.2.1.t.1,zm y.2.2.1.t.2),(y.2.2.2.1.1,y.2.2.2.1.2.1,y.2.2.2.1.2.2.1,y.2.2.2.1.2.2.2.1,y.2.2.2.1.t.1,zm y.2.2.2.1.t.2),y.t.1,y.t.2.1,y.t.q.1,y.t.q.2.1,y.t.t.1,zm y.t.t.2.1,y.t.t.q.1,())
abbrev OI(y:zn ap):zn ap:=(y.1,(y.2.1.1,y.2.1.2.1,y.2.1.2.2.1,y.2.1.2.2.2.1,y.2.1.t.1,y.2.1.t.2.1,y.2.1.t.q.1,y.2.1.t.q.2.1,zm y.2.1.t.t.1,y.2.1.t.t.2.1,y.2.1.t.t.q.1,zm y.2.1.t.t.q.2.1,y.2.1.t.t.t),(y.2.2.1.1,y.2.2.1.2.1,y.2.2.1.2.2.1,y.2.2.1.2.2.2.1,y.2.2.1.t.1,zm y.2.2.1.t.2),(y.2.2.2.1.1,y.2.2.2.1.2.1,y.2.2.2.1.2.2.1,y.2.2.2.1.2.2.2.1,y.2.2.2.1.t.1,zm y.2.2.2.1.t.2),y.t.1,y.t.2.1,y.t.q.1,y.t.q.2.1,y.t.t.1,y.t.t.2.1,zm y.t.t.q.1,y.t.t.q.2.1,y.t.t.t.1,())
abbrev zct:Nat->aN:=λ_=>{ }
theorem zmu:zI FD.P 110 Tryz.f110 1:=bR kw
def Ur(_:zn be)(a0:Sem zh.sl×zn [CP.d zl,CP.d zp,CP.d zp,CP.d Q6,CP.d Q6,CP.d Q6,CP.d Q6,CP.nil,CP.d zg,CP.nil,CP.nil,CP.d Q5,CP.nil,CP.d zg])(a1:Sem zg×zn ap)(a2:Sem zg):Tr (Empty⊕az):=Qc (nZ a0) (br (a1.1!=0) (re (ai a1.1) (ar ap a1.2)) (br (Q0 (a2<0)) (re (ai 1) (ar ap (a1.2.1,a1.2.2.1,a1.2.2.2.1,a1.t.1,a1.t.2.1,a1.t.q.1,a1.t.q.2.1,a1.t.t.1,a1.t.t.2.1,a2,a1.t.t.q.2))) (re (ai 0) (ar ap (a1.2.1,a1.2.2.1,a1.2.2.2.1,a1.t.1,a1.t.2.1,a1.t.q.1,a1.t.q.2.1,a1.t.t.1,a1.t.t.2.1,a2,a1.t.t.q.2)))))
def Uq(y:zn be):Tr (Empty⊕az):=
 let a0:=Rc y
 let a1:=j7 a0
 let a2:=ij a1.t.t.t.1 a1.2.2.2.1.2.2.1
 Ur y a0 a1 a2
theorem zkF(y:zn be):rn FD 1 zct Tryz.f110 [Qf 0 0] (ar be y)=(Uq y).map (lf Tryz.f110 e0):=kw
def HM(y:zn be):Option (zx (Qi Q1 [zg])×zn ap):=km [zg] ap t0 100000000 (Uq y)
def HL(y:zn be):Bool:=(HM y).isSome
def Gh(y:zn be):(Sem zg)×zn ap:=(λr:zx (Qi Q1 [zg])×zn ap=>(r.1.1,r.2)) ((HM y).getD (cm [zg],fJ ap))
def zhQ:zV:=se be [] [zg] ap (λy _=>HL y) λy _=>(((Gh y).1,()),(Gh y).2)
theorem zdG:FK 110 zhQ:=jW (keep:=zct) (gas:=400) (n:=100000000) (e:=e0) (t:=t0) (i:=λy x=>Uq y) xk zmu (λy x=>zkF y) (VG _ _ _ _ _) (λ_ _=>by kernel_rfl) (λ_ _=>by kernel_rfl)
abbrev zcv:Nat->aN:=λ_=>{ }
theorem zmx:zI FD.P 112 Tryz.f112 1:=bR kw
def Ut(_:zn be)(a0:Sem zh.sl×zn [CP.d zl,CP.d zp,CP.d zp,CP.d Q6,CP.d Q6,CP.d Q6,CP.d Q6,CP.nil,CP.d zg,CP.nil,CP.nil,CP.d Q5,CP.nil,CP.d zg])(a1:Sem zg×zn ap)(a2:Sem zi)(_:Sem zi)(a4:LC)(a5:Sem zi):Tr (Empty⊕az):=Qc (nZ a0) (br (a1.1!=0) (re (ai a1.1) (ar ap a1.2)) (Qc (zO 1 a1.t.t.2.1.length) (Qc (Q0 (toNat 1<a1.t.t.2.1.length)) (br (a2.2.1!=1) (re (ai 5) (ar ap a1.2)) (Qc (zO 0 a1.t.t.2.1.length) (Qc (Q0 (toNat 0<a1.t.t.2.1.length)) (Qc (zO 1 a4.length) (Qc (Q0 (toNat 1<a4.length)) (re (ai 0) (ar ap (a1.2.1,a1.2.2.1,a1.2.2.2.1,a1.t.1,a1.t.2.1,a1.t.q.1,a1.t.q.2.1,a1.t.t.1,a4.set (toNat 1) (a5.1,a5.2.1,Q4),a1.t.t.q)))))))))))
def Us(y:zn be):Tr (Empty⊕az):=
 let a0:=Rc y
 let a1:=j7 a0
 let a2:=a1.t.t.2.1.getD (toNat 1) (zj zi)
 let a3:=a1.t.t.2.1.getD (toNat 0) (zj zi)
 let a4:=a1.t.t.2.1.set (toNat 0) (a3.1,a3.2.1,Q3)
 let a5:=a4.getD (toNat 1) (zj zi)
 Ut y a0 a1 a2 a3 a4 a5
theorem zkH(y:zn be):rn FD 1 zcv Tryz.f112 [Qf 0 0] (ar be y)=(Us y).map (lf Tryz.f112 e0):=kw
def AR(y:zn be):Option (zx (Qi Q1 [zg])×zn ap):=km [zg] ap t0 100000000 (Us y)
def AQ(y:zn be):Bool:=(AR y).isSome
def xA(y:zn be):(Sem zg)×zn ap:=(λr:zx (Qi Q1 [zg])×zn ap=>(r.1.1,r.2)) ((AR y).getD (cm [zg],fJ ap))
def zhU:zV:=se be [] [zg] ap (λy _=>AQ y) λy _=>(((xA y).1,()),(xA y).2)
theorem zdK:FK 112 zhU:=jW (keep:=zcv) (gas:=400) (n:=100000000) (e:=e0) (t:=t0) (i:=λy x=>Us y) xk zmx (λy x=>zkH y) (VG _ _ _ _ _) (λ_ _=>by kernel_rfl) (λ_ _=>by kernel_rfl)
def Kb:=FD.addL [(110,zhQ),(112,zhU)]
theorem FE:zt Kb:=xk.addL<|fc zdG<|fc zdK ja
abbrev UO:Nat->aN:=λj=>if j=11 then{slots:=[0,83,84,85],prom:=[(0,Q1 60,.int .i64)]}else if j=1000000 then{prom:=[(0,Q1 50,zi),(0,Q1 60,.int .i64)],sett:=[(0,60)]}else{ }
inductive Ew where
 |h11 (l83:LC) (i84:Int) (i85:Int) (z0:zn dP)
abbrev Te:Ew->Nat×St
 |.h11 l83 i84 i85 z0=>(11,⟨tm 124 [(0,Qf 0 0),(83,sl zi l83),(84,ai i84),(85,ai i85)],[Qa (bF [1,2] dP z0),AO.vec zi z0.t.t.1,AO.vec zg z0.t.t.q.2.1]⟩)
theorem zmw:zI Kb.P 111 Tryz.f111 1:=bR kw
def Kv(y:zn be)(a0:Sem zg)(a1:Sem Q5×List (Sem zg)×Sem zg×Unit)(a2:Int)(a3:Int):Tr (Ew⊕az):=br (Q0 (a0<0)) (re (ai 4) (ar ap (y.1,y.2.1,y.2.2.1,y.2.2.2.1,y.t.1,y.t.2.1,y.t.q.1,y.t.q.2.1,[],y.t.t.1,a1))) (br (!j4 y.2.2.1.t.1 (a0,y.t.q.1)) (re (ai 10) (ar ap (y.1,y.2.1,y.2.2.1,y.2.2.2.1,y.t.1,y.t.2.1,y.t.q.1,y.t.q.2.1,[],y.t.t.1,a1))) (br (Q0 (a3>8)) (re (ai 13) (ar ap (y.1,y.2.1,y.2.2.1,y.2.2.2.1,y.t.1,y.t.2.1,y.t.q.1,y.t.q.2.1,[],y.t.t.1,a1))) (Qc (Q0 (length y.2.2.1.2.1<=1073741824)) (Q9 (Ew.h11 y.2.2.2.1.2.1 a2 0 (y.1,y.2.1,y.2.2.1,y.2.2.2.1,y.t.1,y.t.2.1,y.t.q.1,y.t.q.2.1,y.2.2.1.2.1,y.2.2.1.2.2.1,a1))))))
def HB(y:zn be):Tr (Ew⊕az):=
 let a0:=zP (y.2.2.1.1,y.2.2.1.2.1,y.2.2.1.2.2.1,y.2.2.1.2.2.2.1,y.2.2.1.t.1,zm y.2.2.1.t.2) y.2.1.t.2.1
 let a1:=(y.t.t.2.1,[],a0,())
 let a2:=(↑(length y.2.2.2.1.2.1):Int)
 let a3:=IntKind.i64.wrap (IntKind.i64.wrap ((↑(length y.2.2.1.2.1):Int)+a2)-1)
 Kv y a0 a1 a2 a3
def Ea(l83:LC)(i84:Int)(i85:Int)(z0:zn dP)(a0:LC)(a1:Int):Tr (Ew⊕az):=br (Q0 (i85<i84)) (Qc (zO i85 l83.length) (br (i85 !=z0.2.2.2.1.2.2.1) (Qc (Q0 (z0.t.t.q.2.1.length+[i85].length<=1073741824)) (Qc (Q0 (z0.t.t.1.length+a0.length<=1073741824)) (Q9 (Ew.h11 l83 i84 a1 (z0.1,z0.2.1,z0.2.2.1,z0.2.2.2.1,z0.t.1,z0.t.2.1,z0.t.q.1,z0.t.q.2.1,z0.t.t.1++a0,z0.t.t.2.1,z0.t.t.q.1,z0.t.t.q.2.1++[i85],z0.t.t.t))))) (Q9 (Ew.h11 l83 i84 a1 z0)))) (re (ai 0) (ar ap z0))
def IX(l83:LC)(i84:Int)(i85:Int)(z0:zn dP):Tr (Ew⊕az):=
 let a0:=[l83.getD i85.toNat (zj zi)]
 let a1:=IntKind.i64.wrap (i85+1)
 Ea l83 i84 i85 z0 a0 a1
theorem zkG(y:zn be):rn Kb 1 UO Tryz.f111 [Qf 0 0] (ar be y)=(HB y).map (lf Tryz.f111 Te):=kw
def LP:Ew->Tr (Ew⊕az)
 |.h11 l83 i84 i85 z0=>IX l83 i84 i85 z0
theorem znd:∀s,run Kb 1 UO (Func.results Tryz.f111).toList 400 (ac Tryz.f111 (Te s).1) (Te s).2=(LP s).map (lf Tryz.f111 Te)|.h11 l83 i84 i85 z0=>by kernel_rfl
def CT(y:zn be):Option (zx (Qi Q1 [zg])×zn ap):=km [zg] ap LP 100000000 (HB y)
def HN(y:zn be):Bool:=(CT y).isSome
def Gi(y:zn be):(Sem zg)×zn ap:=(λr:zx (Qi Q1 [zg])×zn ap=>(r.1.1,r.2)) ((CT y).getD (cm [zg],fJ ap))
def zhS:zV:=se be [] [zg] ap (λy _=>HN y) λy _=>(((Gi y).1,()),(Gi y).2)
theorem zdI:FK 111 zhS:=jW (keep:=UO) (gas:=400) (n:=100000000) (e:=Te) (t:=LP) (i:=λy x=>HB y) FE zmw (λy x=>zkG y) znd (λ_ _=>by kernel_rfl) (λ_ _=>by kernel_rfl)
def zbN:=Kb.add 111 zhS
theorem FF:zt zbN:=FE.add zdI
abbrev mW:AV:=agg [str [],str [],str [],str [],nils,ai 0,nils,nils,str [],ai 0,ai 0,str [],str [],nils,nils,ai 0]
abbrev xI(z:zn ap):AV:=agg [str z.t.1,str z.t.2.1,str z.t.q.1,str z.t.q.2.1,AV.vec 0,ai z.t.t.2.1,nils,nils,str (ze.op z.t.t.q.1),ai (ze.v z.t.t.q.1).1,ai (ze.v z.t.t.q.1).2.1,str (ze.v z.t.t.q.1).2.2,str (ze.s z.t.t.q.1),sl Q5 (ze.l z.t.t.q.1),sl zg z.t.t.q.2.1,ai z.t.t.t.1]
abbrev HY(z:zn be):AV:=agg [str z.t.1,str z.t.2.1,str z.t.q.1,str z.t.q.2.1,nils,ai z.t.t.1,nils,nils,str (ze.op z.t.t.2.1),ai (ze.v z.t.t.2.1).1,ai (ze.v z.t.t.2.1).2.1,str (ze.v z.t.t.2.1).2.2,str (ze.s z.t.t.2.1),sl Q5 (ze.l z.t.t.2.1),nils,ai z.t.t.q.1]
def Ks(_:Sem zh.sl)(x1:Sem zl)(_:ze)(_:Sem Q6×Sem (Sh.str.pr (Sh.str.pr (Sh.str.sl.pr (zi.sl.pr (Sh.str.pr (Sh.str.sl.pr (jb.sl.pr (Sh.expr.pr (zf.sl.pr (iq.sl.pr (Sh.expr.pr Q6))))))))))))(_:Bool)(a3:Bool)(a4:Bool)(a5:Bool)(_:Sem zh.sl×zn [CP.d zl,CP.d zp,CP.d zp,CP.d Q6,CP.d Q6,CP.d Q6,CP.d Q6,CP.nil,CP.d zg,CP.nil,CP.nil,CP.d Q5,CP.nil,CP.d zg])(a7:Bool)(a8:Sem zg×zn be)(a9:Bool)(a10:Sem zh.sl×zn [CP.d zl,CP.d zp,CP.d zp,CP.d Q6,CP.d Q6,CP.d Q6,CP.d Q6,CP.nil,CP.d zg,CP.nil,CP.nil,CP.d Q5,CP.nil,CP.d zg])(a11:Sem zg×zn ap)(a12:Sem zh.sl×zn [CP.d zl,CP.d zp,CP.d zp,CP.d Q6,CP.d Q6,CP.d Q6,CP.d Q6,CP.vec zi,CP.d zg,CP.nil,CP.nil,CP.d Q5,CP.d zg.sl,CP.d zg])(a13:Sem zg×zn ap)(a14:Sem zg×zn ap)(a15:Sem zh.sl×zn [CP.d zl,CP.d zp,CP.d zp,CP.d Q6,CP.d Q6,CP.d Q6,CP.d Q6,CP.vec zi,CP.d zg,CP.nil,CP.nil,CP.d Q5,CP.d zg.sl,CP.d zg])(a16:Sem zg×zn ap)(a17:Sem zg×zn ap)(a18:Sem zh.sl×zn [CP.d zl,CP.d zp,CP.d zp,CP.d Q6,CP.d Q6,CP.d Q6,CP.d Q6,CP.vec zi,CP.d zg,CP.nil,CP.nil,CP.d Q5,CP.d zg.sl,CP.d zg])(a19:Sem zg×zn ap):Tr (Empty⊕az):=
 Qc Q3 (Qc Q3 (Qc Q3 (br (x1.1==dv) (Qc a3 (br a4 (re (tup [mW,ai 1]) []) (Qc a5 (Qc a7 (br a9 (Qc (HL a10) (br (a11.1==0) (Qc (gF a12) (br (a13.1!=0) (re (tup [mW,ai a13.1]) []) (re (tup [(xI a13.2),ai 0]) [AO.vec zi a13.t.t.2.1]))) (br (a11.1!=0) (re (tup [mW,ai a11.1]) []) (re (tup [(xI a11.2),ai 0]) [AO.vec zi a11.t.t.2.1])))) (br a9 Tr.err (br (a8.1!=0) (re (tup [mW,ai a8.1]) []) (re (tup [(HY a8.2),ai 0]) [])))))))) (br (x1.1==gK) (Qc a3 (br a4 (re (tup [mW,ai 1]) []) (Qc a5 (Qc a7 (br a9 (Qc (HN a10) (br (a14.1==0) (Qc (gF a15) (br (a16.1!=0) (re (tup [mW,ai a16.1]) []) (re (tup [(xI a16.2),ai 0]) [AO.vec zi a16.t.t.2.1]))) (br (a14.1!=0) (re (tup [mW,ai a14.1]) []) (re (tup [(xI a14.2),ai 0]) [AO.vec zi a14.t.t.2.1])))) (br a9 Tr.err (br (a8.1!=0) (re (tup [mW,ai a8.1]) []) (re (tup [(HY a8.2),ai 0]) [])))))))) (br (x1.1==nA) (Qc a3 (br a4 (re (tup [mW,ai 1]) []) (Qc a5 (Qc a7 (br a9 (Qc (AQ a10) (br (a17.1==0) (Qc (gF a18) (br (a19.1!=0) (re (tup [mW,ai a19.1]) []) (re (tup [(xI a19.2),ai 0]) [AO.vec zi a19.t.t.2.1]))) (br (a17.1!=0) (re (tup [mW,ai a17.1]) []) (re (tup [(xI a17.2),ai 0]) [AO.vec zi a17.t.t.2.1])))) (br a9 Tr.err (br (a8.1!=0) (re (tup [mW,ai a8.1]) []) (re (tup [(HY a8.2),ai 0]) [])))))))) (re (tup [mW,ai 1]) []))))))
def zfF(x0:Sem zh.sl)(x1:Sem zl):Tr (Empty⊕az):=
 let a0:=zm x1.t.t.1
 let a1:=(x1.1,x1.2.1,x1.2.2.1,x1.2.2.2.1,x1.t.1,x1.t.2.1,x1.t.q.1,x1.t.q.2.1,a0,x1.t.t.2.1,x1.t.t.q.1,zm x1.t.t.q.2.1,x1.t.t.t)
 let a2:=!eo a1
 let a3:=oI a1&&bif a2 then Q3 else nH x0
 let a4:=bif a2 then Q3 else kO x0 !=0
 let a5:=si 16 a0
 let a6:=(x0,a1,([],[],0,[],[],ze.mk [] (0,0,[]) [] []),([],[],0,[],[],ze.mk [] (0,0,[]) [] []),x1.1,x1.2.2.1,x1.t.t.t,x1.2.1,0,a0,0,())
 let a7:=mU a6
 let a8:=mT a6
 let a9:=a8.1==0
 let a10:=Rc a8.2
 let a11:=Gh a10
 let a12:=OI a11.2
 let a13:=fD a12
 let a14:=Gi a10
 let a15:=OI a14.2
 let a16:=fD a15
 let a17:=xA a10
 let a18:=OI a17.2
 let a19:=fD a18
 Ks x0 x1 a0 a1 a2 a3 a4 a5 a6 a7 a8 a9 a10 a11 a12 a13 a14 a15 a16 a17 a18 a19
def KU(x0:Sem zh.sl)(x1:Sem zl):=ah [zA,zg] t0 100000000 (zfF x0 x1)
def zgF(x0:Sem zh.sl)(x1:Sem zl):=(KU x0 x1).isSome
def pOf(x0:Sem zh.sl)(x1:Sem zl):=o2 (KU x0 x1)
def zhj:=FT [zh.sl,zl] [zA,zg] λx=>KU x.1 x.2.1
theorem zc6:FK 74 zhj:=FF.T1 (f:=Tryz.f74) (keep:=k0) (e:=e0)
def OB:=zbN.add 74 zhj
theorem mN:zt OB:=FF.add zc6
abbrev aB:List CP:=[.d (.sl zo),.d zg,.d .bool]
def zcd(x0:Sem (Sh.int IntKind.u8)):Tr (Empty⊕az):=
 let a0:=bif Q0 (97<=x0)then Q0 (x0<=122)else Q4
 re (AV.bool (bif Q0 (65<=x0)then bif Q0 (x0<=90)then Q3 else a0 else a0)) []
def nf(x0:Sem (Sh.int IntKind.u8)):=ah [Q7] t0 100000000 (zcd x0)
def kH(x0:Sem (Sh.int IntKind.u8)):=(nf x0).isSome
def nc(x0:Sem (Sh.int IntKind.u8)):=o1 (nf x0)
def zaW:=FT [Sh.int IntKind.u8] [Q7] λx=>nf x.1
theorem XL:FK 141 zaW:=mN.T1 (f:=Tryz.f141) (keep:=k0) (e:=e0)
def zk1(x0:Sem (Sh.int IntKind.u8)):Tr (Empty⊕az):=
 re (AV.bool (bif Q0 (48<=x0)then Q0 (x0<=57)else Q4)) []
def vN(x0:Sem (Sh.int IntKind.u8)):=ah [Q7] t0 100000000 (zk1 x0)
def fP(x0:Sem (Sh.int IntKind.u8)):=(vN x0).isSome
def gR(x0:Sem (Sh.int IntKind.u8)):=o1 (vN x0)
def zaY:=FT [Sh.int IntKind.u8] [Q7] λx=>vN x.1
theorem XN:FK 143 zaY:=mN.T1 (f:=Tryz.f143) (keep:=k0) (e:=e0)
abbrev zl6:=lW [(2,[0,1,5])]
inductive P6 where
 |h2 (l0:LS) (s1:TS) (i5:Int)
abbrev zoD:P6->Nat×St
 |.h2 l0 s1 i5=>(2,⟨tm 18 [(0,sl Q6 l0),(1,str s1),(5,ai i5)],[]⟩)
def zpN(x0:Sem Sh.str.sl)(x1:TS):Tr (P6⊕az):=
 Q9 (P6.h2 x0 x1 0)
def NY:P6->Tr (P6⊕az)
 | .h2 l0 s1 i5=>
  br (Q0 (i5<(↑l0.length:Int)))
  (Qc (zO i5 l0.length) (br (l0.getD i5.toNat (zj Q6)==s1) (re (kb Q3) []) (Q9 (P6.h2 l0 s1 (IntKind.i64.wrap (i5+1))))))
  (re (kb Q4) [])
def Pv(x0:Sem Sh.str.sl)(x1:TS):=ah [Q7] NY 100000000 (zpN x0 x1)
def yY(x0:Sem Sh.str.sl)(x1:TS):=(Pv x0 x1).isSome
def Lo(x0:Sem Sh.str.sl)(x1:TS):=o1 (Pv x0 x1)
def ziD:=FT [Sh.str.sl,Q6] [Q7] λx=>Pv x.1 x.2.1
theorem zev:FK 91 ziD:=mN.T1 (f:=Tryz.f91) (keep:=zl6) (e:=zoD)
abbrev UJ:Nat->aN:=λ_=>{ }
theorem zgp:zI OB.P 99 Tryz.f99 2:=bR kw
def Uh(y:zn aB)(x0:TS):Tr (Empty⊕az):=
 let a0:=Q0 (y.2.1<(↑(length y.1):Int))
 let a1:=zO y.2.1 (length y.1)
 let a2:=getD y.1 (toNat y.2.1) (zj zo)
 let a3:=a2.1==1
 let a4:=a2.1==4
 let a5:=a2.2==x0
 Qc (bif a0 then a1&&bif a3 then a1 else a1&&bif a4 then a1 else Q3 else Q3)
 (re (AV.bool (bif a0 then bif a3 then a5 else bif a4 then a5 else Q4 else Q4)) (ar aB y))
theorem zfn(y:zn aB)(x0:TS):rn OB 1 UJ Tryz.f99 [Qf 0 0,zz Q6 x0] (ar aB y)=(Uh y x0).map (lf Tryz.f99 e0):=kw
def Ww(y:zn aB)(x0:TS):Option (zx (Qi Q1 [Q7])×zn aB):=km [Q7] aB t0 100000000 (Uh y x0)
def IE(y:zn aB)(x0:TS):Bool:=(Ww y x0).isSome
def Lt(y:zn aB)(x0:TS):(Sem Q7)×zn aB:=(λr:zx (Qi Q1 [Q7])×zn aB=>(r.1.1,r.2)) ((Ww y x0).getD (cm [Q7],fJ aB))
def zaG:zV:=se aB [Q6] [Q7] aB (λy x=>IE y x.1) λy x=>(((Lt y x.1).1,()),(Lt y x.1).2)
theorem Xv:FK 99 zaG:=jW (ps:=aB) (ks:=[Q6]) (outs:=[Q7]) (keep:=UJ) (gas:=400) (n:=100000000) (e:=e0) (t:=t0) (i:=λy x=>Uh y x.1) mN zgp (λy x=>zfn y x.1) (VG _ _ _ _ _) (λ_ _=>by kernel_rfl) (λ_ _=>by kernel_rfl)
def pG:=OB.addL [(141,zaW),(143,zaY),(91,ziD),(99,zaG)]
theorem jl:zt pG:=mN.addL<|fc XL<|fc XN<|fc zev<|fc Xv ja
abbrev zfX:=lW [(2,[1,3])]
inductive Bv where
 |h2 (i3:Int) (z0:zn [CP.d zf])
abbrev zkg:Bv->Nat×St
 |.h2 i3 z0=>(2,⟨tm 66 [(1,Qf 0 0),(3,ai i3)],[Qa (bF [] [CP.d zf] z0)]⟩)
def zb8(x0:Sem zf):Tr (Bv⊕az):=
 Q9 (Bv.h2 0 (x0,()))
def sT:Bv->Tr (Bv⊕az)
 | .h2 i3 z0=>
  let a0:=(↑(length z0.1.2.2):Int)
  let a1:=zO i3 (length z0.1.2.2)
  let a2:=(↑(getD z0.1.2.2 i3.toNat 0).toNat:Int)
  let a3:=Q0 (a2<32)
  let a4:=z0.1.2.1==0
  let a5:=z0.1.2.2==[]
  br (Q0 (i3<a0))
  (Qc (a1&&bif a3 then Q3 else a1)
   (br (bif a3 then Q3 else Q0 (a2>126)) (re (kb Q4) []) (Q9 (Bv.h2 (IntKind.i64.wrap (i3+1)) z0))))
  (br (z0.1.1==0) (re (AV.bool (bif a4 then a5 else Q4)) [])
   (br (z0.1.1==1) (re (AV.bool a5) []) (br (z0.1.1==2) (re (AV.bool (bif a4 then Q0 (a0<=40)else Q4)) []) (br (z0.1.1==3) (re (AV.bool (bif a4 then a5 else bif z0.1.2.1==1 then a5 else Q4)) []) (re (kb Q4) [])))))
def H4(x0:Sem zf):=ah [Q7] sT 100000000 (zb8 x0)
def mq(x0:Sem zf):=(H4 x0).isSome
def sQ(x0:Sem zf):=o1 (H4 x0)
def zax:=FT [zf] [Q7] λx=>H4 x.1
theorem Xl:FK 61 zax:=jl.T1 (f:=Tryz.f61) (keep:=zfX) (e:=zkg)
def zk2(x0:Sem Q7):Tr (Empty⊕az):=
 br x0 (re (agg [ai 3,ai 1,str []]) []) (re (agg [ai 3,ai 0,str []]) [])
def vE(x0:Sem Q7):=ah [zf] t0 100000000 (zk2 x0)
def lr(x0:Sem Q7):=(vE x0).isSome
def aW(x0:Sem Q7):=o1 (vE x0)
def za2:=FT [Q7] [zf] λx=>vE x.1
theorem XR:FK 59 za2:=jl.T1 (f:=Tryz.f59) (keep:=k0) (e:=e0)
abbrev UN:Nat->aN:=λ_=>{ }
theorem zgv:zI pG.P 147 Tryz.f147 1:=bR kw
def Un(x0:TS):Tr (Empty⊕az):=
 re
 (AV.bool
  (bif x0==cY then Q3
  else bif x0==uw then Q3 else bif x0==[61]then Q3 else bif x0==[60]then Q3 else bif x0==[43]then Q3 else x0==[45]))
 []
theorem zfy(x0:TS):rn pG 0 UN Tryz.f147 [zz Q6 x0] []=(Un x0).map (lf Tryz.f147 e0):=kw
def Nx(x0:TS):Option (zx (Qi Q1 [Q7])):=ah [Q7] t0 100000000 (Un x0)
def Id(x0:TS):Bool:=(Nx x0).isSome
def Pr(x0:TS):Sem Q7:=(λr:zx (Qi Q1 [Q7])=>r.1) ((Nx x0).getD (cm [Q7]))
def zbi:zV:=zN [Q6] [Q7] (λx=>Id x.1) λx=>(Pr x.1,())
theorem X6:FK 147 zbi:=kK (ks:=[Q6]) (outs:=[Q7]) (keep:=UN) (gas:=400) (n:=100000000) (e:=e0) (t:=t0) (i:=λx=>Un x.1) jl zgv (λx=>zfy x.1) (VG _ _ _ _ _) (λ_=>by kernel_rfl) (λ_=>by kernel_rfl)
abbrev UR:Nat->aN:=λj=>if j=2 then{slots:=[0,1,5]}else{ }
inductive Js where
 |h2 (l0:LC) (s1:TS) (i5:Int)
abbrev Th:Js->Nat×St
 |.h2 l0 s1 i5=>(2,⟨tm 20 [(0,sl zi l0),(1,str s1),(5,ai i5)],[]⟩)
theorem zmG:zI pG.P 50 Tryz.f50 2:=bR kw
def Zn(x0:Sem zi.sl)(x1:TS):Tr (Js⊕az):=
 Q9 (Js.h2 x0 x1 0)
def I1(l0:LC)(s1:TS)(i5:Int)(a0:Sem zi):Tr (Js⊕az):=
 br (Q0 (i5<(↑l0.length:Int)))
 (Qc (zO i5 l0.length) (br (a0.1==s1) (re (ai i5) []) (Q9 (Js.h2 l0 s1 (IntKind.i64.wrap (i5+1))))))
 (re (ai (-1)) [])
def NW(l0:LC)(s1:TS)(i5:Int):Tr (Js⊕az):=
 let a0:=l0.getD i5.toNat (zj zi)
 I1 l0 s1 i5 a0
theorem zkK(x0:Sem zi.sl)(x1:TS):rn pG 0 UR Tryz.f50 [zz zi.sl x0,zz Q6 x1] []=(Zn x0 x1).map (lf Tryz.f50 Th):=kw
def NV:Js->Tr (Js⊕az)
 |.h2 l0 s1 i5=>NW l0 s1 i5
theorem zni:∀s,run pG 0 UR (Func.results Tryz.f50).toList 400 (ac Tryz.f50 (Th s).1) (Th s).2=(NV s).map (lf Tryz.f50 Th)
 |.h2 l0 s1 i5=>by kernel_rfl
def Dt(x0:Sem zi.sl)(x1:TS):Option (zx (Qi Q1 [zg])):=ah [zg] NV 100000000 (Zn x0 x1)
def dH(x0:Sem zi.sl)(x1:TS):Bool:=(Dt x0 x1).isSome
def eS(x0:Sem zi.sl)(x1:TS):Sem zg:=(λr:zx (Qi Q1 [zg])=>r.1) ((Dt x0 x1).getD (cm [zg]))
def zh4:zV:=zN [zi.sl,Q6] [zg] (λx=>dH x.1 x.2.1) λx=>(eS x.1 x.2.1,())
theorem zdU:FK 50 zh4:=kK (ks:=[zi.sl,Q6]) (outs:=[zg]) (keep:=UR) (gas:=400) (n:=100000000) (e:=Th) (t:=NV) (i:=λx=>Zn x.1 x.2.1) jl zmG (λx=>zkK x.1 x.2.1) zni (λ_=>by kernel_rfl) (λ_=>by kernel_rfl)
def J0(g:Sem Q5->Sem Q5->Sem Q7)(c:Sem Q5->Sem Q5->Bool):bW:=pG.add 134 (zN [Q5,Q5] [Q7] (λx=>c x.1 x.2.1) λx=>(g x.1 x.2.1,()))
theorem QR{g:Sem Q5->Sem Q5->Sem Q7}{c:Sem Q5->Sem Q5->Bool}(hg:FK 134 (zN [Q5,Q5] [Q7] (λx=>c x.1 x.2.1) λx=>(g x.1 x.2.1,()))):zt (J0 g c):=jl.add hg
abbrev UU:Nat->aN:=λj=>if j=4 then{slots:=[2,3,5]}else{ }
inductive Jw where
 |h4 (i5:Int) (z0:zn [CP.d Q5]) (z1:zn [CP.d Q5])
abbrev Tk:Jw->Nat×St
 |.h4 i5 z0 z1=>(4,⟨tm 53 [(2,Qf 0 0),(3,Qf 1 0),(5,ai i5)],[Qa (bF [] [CP.d Q5] z0),Qa (bF [] [CP.d Q5] z1)]⟩)
theorem zm2(g:Sem Q5->Sem Q5->Sem Q7)(c:Sem Q5->Sem Q5->Bool):zI (J0 g c).P 134 Tryz.f134 2:=bR kw
def CJ(_:Sem Q5->Sem Q5->Sem Q7)(_:Sem Q5->Sem Q5->Bool)(x0:Sem Q5)(x1:Sem Q5):Tr (Jw⊕az):=
 br
 (bif !ze.op x0==ze.op x1 then Q3
 else
  bif !((ze.v x0).1==(ze.v x1).1&&((ze.v x0).2.1==(ze.v x1).2.1&&((ze.v x0).2.2==(ze.v x1).2.2&&Q3)))then Q3
  else bif !ze.s x0==ze.s x1 then Q3 else(↑(ze.l x0).length:Int)!=(↑(ze.l x1).length:Int))
 (re (kb Q4) []) (Q9 (Jw.h4 0 (x0,()) (x1,())))
def Bo(g:Sem Q5->Sem Q5->Sem Q7)(c:Sem Q5->Sem Q5->Bool)(i5:Int)(z0:zn [CP.d Q5])(z1:zn [CP.d Q5])(a0:Int)(a1:ze)(a2:ze):Tr (Jw⊕az):=
 br (Q0 (i5<a0))
 (Qc (zO i5 (ze.l z0.1).length)
  (Qc (zO i5 (ze.l z1.1).length) (Qc (c a1 a2) (br (!g a1 a2) (re (kb Q4) []) (Q9 (Jw.h4 (IntKind.i64.wrap (i5+1)) z0 z1))))))
 (re (kb Q3) [])
def I6(g:Sem Q5->Sem Q5->Sem Q7)(c:Sem Q5->Sem Q5->Bool)(i5:Int)(z0:zn [CP.d Q5])(z1:zn [CP.d Q5]):Tr (Jw⊕az):=
 let a0:=(↑(ze.l z0.1).length:Int)
 let a1:=zm ((ze.l z0.1).getD i5.toNat (zj Q5))
 let a2:=zm ((ze.l z1.1).getD i5.toNat (zj Q5))
 Bo g c i5 z0 z1 a0 a1 a2
theorem zkV(g:Sem Q5->Sem Q5->Sem Q7)(c:Sem Q5->Sem Q5->Bool)(x0:Sem Q5)(x1:Sem Q5):rn (J0 g c) 0 UU Tryz.f134 [zz Q5 x0,zz Q5 x1] []=(CJ g c x0 x1).map (lf Tryz.f134 Tk):=kw
def I5(g:Sem Q5->Sem Q5->Sem Q7)(c:Sem Q5->Sem Q5->Bool):Jw->Tr (Jw⊕az)
 |.h4 i5 z0 z1=>I6 g c i5 z0 z1
theorem znp(g:Sem Q5->Sem Q5->Sem Q7)(c:Sem Q5->Sem Q5->Bool):∀s,run (J0 g c) 0 UU (Func.results Tryz.f134).toList 400 (ac Tryz.f134 (Tk s).1) (Tk s).2=(I5 g c s).map (lf Tryz.f134 Tk)
 |.h4 i5 z0 z1=>by kernel_rfl
def gQ(o:Option (zx (Qi Q1 [Q7]))):Sem Q7:=(λr:zx (Qi Q1 [Q7])=>r.1) (o.getD (cm [Q7]))
def H8(g:Sem Q5->Sem Q5->Sem Q7)(c:Sem Q5->Sem Q5->Bool)(x0:Sem Q5)(x1:Sem Q5):Option (zx (Qi Q1 [Q7])):=ah [Q7] (I5 g c) 3000000000 (CJ g c x0 x1)
def bP:Nat->Sem Q5->Sem Q5->Option (zx (Qi Q1 [Q7]))
 |0=>λ_ _=>Q2
 |n+1=>H8 (λx0 x1=>gQ (bP n x0 x1)) λx0 x1=>(bP n x0 x1).isSome
theorem zfU:zI pG.P 134 Tryz.f134 2:=bR kw
theorem Oa:∀n,FK 134 (zN [Q5,Q5] [Q7] (λx=>(bP n x.1 x.2.1).isSome) λx=>(gQ (bP n x.1 x.2.1),()))
 |0=>eY ⟨Tryz.f134,zfU.1,zfU.2.1,zfU.2.2.1⟩ (λ_=>rfl)
 |n+1=>kK (E:=J0 (λx0 x1=>gQ (bP n x0 x1)) (λx0 x1=>(bP n x0 x1).isSome)) (ks:=[Q5,Q5]) (outs:=[Q7]) (keep:=UU) (gas:=400) (n:=3000000000) (e:=Tk) (t:=I5 (λx0 x1=>gQ (bP n x0 x1)) (λx0 x1=>(bP n x0 x1).isSome)) (i:=λx=>CJ (λx0 x1=>gQ (bP n x0 x1)) (λx0 x1=>(bP n x0 x1).isSome) x.1 x.2.1) (QR (Oa n)) (zm2 _ _) (λx=>zkV _ _ x.1 x.2.1) (znp _ _) (λ_=>by kernel_rfl) (λ_=>by kernel_rfl)
def A1(x0:Sem Q5)(x1:Sem Q5):Option (zx (Qi Q1 [Q7])):=bP 16 x0 x1
def gP(x0:Sem Q5)(x1:Sem Q5):Bool:=(A1 x0 x1).isSome
def fq(x0:Sem Q5)(x1:Sem Q5):Sem Q7:=gQ (A1 x0 x1)
def ziy:zV:=zN [Q5,Q5] [Q7] (λx=>gP x.1 x.2.1) λx=>(fq x.1 x.2.1,())
theorem zeq:FK 134 ziy:=Oa 16
def B7(g:Sem Q5->Sem zg)(c:Sem Q5->Bool):bW:=pG.add 104 (zN [Q5] [zg] (λx=>c x.1) λx=>(g x.1,()))
theorem Mx{g:Sem Q5->Sem zg}{c:Sem Q5->Bool}(hg:FK 104 (zN [Q5] [zg] (λx=>c x.1) λx=>(g x.1,()))):zt (B7 g c):=jl.add hg
abbrev M3:Nat->aN:=λj=>if j=3 then{slots:=[1,3,4]}else{ }
inductive ui where
 |h3 (i3:Int) (i4:Int) (z0:zn [CP.d Q5])
abbrev JU:ui->Nat×St
 |.h3 i3 i4 z0=>(3,⟨tm 21 [(1,Qf 0 0),(3,ai i3),(4,ai i4)],[Qa (bF [] [CP.d Q5] z0)]⟩)
theorem zgt(g:Sem Q5->Sem zg)(c:Sem Q5->Bool):zI (B7 g c).P 104 Tryz.f104 1:=bR kw
def ON(_:Sem Q5->Sem zg)(_:Sem Q5->Bool)(x0:Sem Q5):Tr (ui⊕az):=
 Q9 (ui.h3 1 0 (x0,()))
def D8(g:Sem Q5->Sem zg)(c:Sem Q5->Bool)(i3:Int)(i4:Int)(z0:zn [CP.d Q5])(a0:Int)(a1:ze):Tr (ui⊕az):=
 br (Q0 (i4<a0))
 (Qc (zO i4 (ze.l z0.1).length) (Qc (c a1) (Q9 (ui.h3 (IntKind.i64.wrap (i3+g a1)) (IntKind.i64.wrap (i4+1)) z0))))
 (re (ai i3) [])
def IW(g:Sem Q5->Sem zg)(c:Sem Q5->Bool)(i3:Int)(i4:Int)(z0:zn [CP.d Q5]):Tr (ui⊕az):=
 let a0:=(↑(ze.l z0.1).length:Int)
 let a1:=zm ((ze.l z0.1).getD i4.toNat (zj Q5))
 D8 g c i3 i4 z0 a0 a1
theorem zfu(g:Sem Q5->Sem zg)(c:Sem Q5->Bool)(x0:Sem Q5):rn (B7 g c) 0 M3 Tryz.f104 [zz Q5 x0] []=(ON g c x0).map (lf Tryz.f104 JU):=kw
def D7(g:Sem Q5->Sem zg)(c:Sem Q5->Bool):ui->Tr (ui⊕az)
 |.h3 i3 i4 z0=>IW g c i3 i4 z0
theorem zgA(g:Sem Q5->Sem zg)(c:Sem Q5->Bool):∀s,run (B7 g c) 0 M3 (Func.results Tryz.f104).toList 400 (ac Tryz.f104 (JU s).1) (JU s).2=(D7 g c s).map (lf Tryz.f104 JU)
 |.h3 i3 i4 z0=>by kernel_rfl
def iN(o:Option (zx (Qi Q1 [zg]))):Sem zg:=(λr:zx (Qi Q1 [zg])=>r.1) (o.getD (cm [zg]))
def Lc(g:Sem Q5->Sem zg)(c:Sem Q5->Bool)(x0:Sem Q5):Option (zx (Qi Q1 [zg])):=ah [zg] (D7 g c) 100000000 (ON g c x0)
def cw:Nat->Sem Q5->Option (zx (Qi Q1 [zg]))
 |0=>λ_=>Q2
 |n+1=>Lc (λx0=>iN (cw n x0)) λx0=>(cw n x0).isSome
theorem UD:zI pG.P 104 Tryz.f104 1:=bR kw
theorem Jn:∀n,FK 104 (zN [Q5] [zg] (λx=>(cw n x.1).isSome) λx=>(iN (cw n x.1),()))
 |0=>eY ⟨Tryz.f104,UD.1,UD.2.1,UD.2.2.1⟩ (λ_=>rfl)
 |n+1=>kK (E:=B7 (λx0=>iN (cw n x0)) (λx0=>(cw n x0).isSome)) (ks:=[Q5]) (outs:=[zg]) (keep:=M3) (gas:=400) (n:=100000000) (e:=JU) (t:=D7 (λx0=>iN (cw n x0)) (λx0=>(cw n x0).isSome)) (i:=λx=>ON (λx0=>iN (cw n x0)) (λx0=>(cw n x0).isSome) x.1) (Mx (Jn n)) (zgt _ _) (λx=>zfu _ _ x.1) (zgA _ _) (λ_=>by kernel_rfl) (λ_=>by kernel_rfl)
def Ds(x0:Sem Q5):Option (zx (Qi Q1 [zg])):=cw 16 x0
def vH(x0:Sem Q5):Bool:=(Ds x0).isSome
def A4(x0:Sem Q5):Sem zg:=iN (Ds x0)
def za1:zV:=zN [Q5] [zg] (λx=>vH x.1) λx=>(A4 x.1,())
theorem XQ:FK 104 za1:=Jn 16
def Hn:=pG.addL [(61,zax),(59,za2),(147,zbi),(50,zh4),(134,ziy),(104,za1)]
theorem kU:zt Hn:=jl.addL<|fc Xl<|fc XR<|fc X6<|fc zdU<|fc zeq<|fc XQ ja
def zce(x0:Sem (Sh.int IntKind.u8)):Tr (Empty⊕az):=
 Qc (fP x0&&bif gR x0 then Q3 else kH x0) (re (AV.bool (bif gR x0 then Q3 else bif nc x0 then Q3 else x0==95)) [])
def vO(x0:Sem (Sh.int IntKind.u8)):=ah [Q7] t0 100000000 (zce x0)
def rK(x0:Sem (Sh.int IntKind.u8)):=(vO x0).isSome
def xP(x0:Sem (Sh.int IntKind.u8)):=o1 (vO x0)
def zaX:=FT [Sh.int IntKind.u8] [Q7] λx=>vO x.1
theorem XM:FK 142 zaX:=kU.T1 (f:=Tryz.f142) (keep:=k0) (e:=e0)
abbrev zf6:=lW [(3,[0,3,4])]
inductive E2 where
 |h3 (s0:TS) (l3:LS) (i4:Int)
abbrev zkn:E2->Nat×St
 |.h3 s0 l3 i4=>(3,⟨tm 18 [(0,str s0),(3,sl Q6 l3),(4,ai i4)],[]⟩)
def Uk(x0:TS):Tr (E2⊕az):=
 Q9
 (E2.h3 x0
  [SU,[79,82],[78,79,84],[73,83],ED,G9,G8,YH,YT,[75,69,89],[85,78,73,81,85,69],zj5,iv,YL,YN,
  YO,YV,YU,[83,69,84],gD,YJ,uv,YS,YM,YQ,Qx,[87,82,73,84,69],EE,[84,79],
  YP,Qu,Qw,Qv,EC,EF,BQ,BR,BP]
  0)
def D6:E2->Tr (E2⊕az)
 | .h3 s0 l3 i4=>
  br (Q0 (i4<(↑l3.length:Int)))
  (Qc (zO i4 l3.length) (br (l3.getD i4.toNat (zj Q6)==s0) (re (kb Q3) []) (Q9 (E2.h3 s0 l3 (IntKind.i64.wrap (i4+1))))))
  (re (kb Q4) [])
def It(x0:TS):=ah [Q7] D6 100000000 (Uk x0)
def DG(x0:TS):=(It x0).isSome
def Ll(x0:TS):=o1 (It x0)
def zaV:=FT [Q6] [Q7] λx=>It x.1
theorem XK:FK 133 zaV:=kU.T1 (f:=Tryz.f133) (keep:=zf6) (e:=zkn)
abbrev UF:Nat->aN:=λ_=>{ }
theorem zgl:zI Hn.P 92 Tryz.f92 2:=bR kw
def Ud(y:zn aB)(x0:TS):Tr (Empty⊕az):=
 let a0:=(y.1,y.2.1,y.2.2.1,())
 let a1:=Lt a0 x0
 Qc (IE a0 x0)
 (br a1.1 (re (kb Q3) (ar aB (a1.2.1,IntKind.i64.wrap (a1.2.2.1+1),a1.2.2.2)))
  (re (kb Q4) (ar aB a1.2)))
theorem zfj(y:zn aB)(x0:TS):rn Hn 1 UF Tryz.f92 [Qf 0 0,zz Q6 x0] (ar aB y)=(Ud y x0).map (lf Tryz.f92 e0):=kw
def PA(y:zn aB)(x0:TS):Option (zx (Qi Q1 [Q7])×zn aB):=km [Q7] aB t0 100000000 (Ud y x0)
def dV(y:zn aB)(x0:TS):Bool:=(PA y x0).isSome
def fu(y:zn aB)(x0:TS):(Sem Q7)×zn aB:=(λr:zx (Qi Q1 [Q7])×zn aB=>(r.1.1,r.2)) ((PA y x0).getD (cm [Q7],fJ aB))
def zaB:zV:=se aB [Q6] [Q7] aB (λy x=>dV y x.1) λy x=>(((fu y x.1).1,()),(fu y x.1).2)
theorem Xp:FK 92 zaB:=jW (ps:=aB) (ks:=[Q6]) (outs:=[Q7]) (keep:=UF) (gas:=400) (n:=100000000) (e:=e0) (t:=t0) (i:=λy x=>Ud y x.1) kU zgl (λy x=>zfj y x.1) (VG _ _ _ _ _) (λ_ _=>by kernel_rfl) (λ_ _=>by kernel_rfl)
abbrev zl4:=lW [(6,[2,3,5]),(11,[2,3,6]),(16,[2,3,7]),(21,[2,3,8]),(26,[2,3,9]),(31,[2,3,10])]
inductive r9 where
 |h6 (i5:Int) (z0:zn pg) (z1:zn pg)
 |h11 (i6:Int) (z0:zn pg) (z1:zn pg)
 |h16 (i7:Int) (z0:zn pg) (z1:zn pg)
 |h21 (i8:Int) (z0:zn pg) (z1:zn pg)
 |h26 (i9:Int) (z0:zn pg) (z1:zn pg)
 |h31 (i10:Int) (z0:zn pg) (z1:zn pg)
abbrev zoB:r9->Nat×St
 |.h6 i5 z0 z1=>(6,⟨tm 238 [(2,Qf 0 0),(3,Qf 1 0),(5,ai i5)],[Qa (bF [] pg z0),Qa (bF [] pg z1)]⟩)
 |.h11 i6 z0 z1=>(11,⟨tm 238 [(2,Qf 0 0),(3,Qf 1 0),(6,ai i6)],[Qa (bF [] pg z0),Qa (bF [] pg z1)]⟩)
 |.h16 i7 z0 z1=>(16,⟨tm 238 [(2,Qf 0 0),(3,Qf 1 0),(7,ai i7)],[Qa (bF [] pg z0),Qa (bF [] pg z1)]⟩)
 |.h21 i8 z0 z1=>(21,⟨tm 238 [(2,Qf 0 0),(3,Qf 1 0),(8,ai i8)],[Qa (bF [] pg z0),Qa (bF [] pg z1)]⟩)
 |.h26 i9 z0 z1=>(26,⟨tm 238 [(2,Qf 0 0),(3,Qf 1 0),(9,ai i9)],[Qa (bF [] pg z0),Qa (bF [] pg z1)]⟩)
 |.h31 i10 z0 z1=>(31,⟨tm 238 [(2,Qf 0 0),(3,Qf 1 0),(10,ai i10)],[Qa (bF [] pg z0),Qa (bF [] pg z1)]⟩)
def Zs(x0:Sem zl)(x1:Sem zl):Tr (r9⊕az):=
 let a0:=!x0.1==x1.1
 let a1:=!x0.2.1==x1.2.1
 let a2:=!x0.2.2.1==x1.2.2.1
 let a3:=!x0.t.2.1==x1.t.2.1
 let a4:=!x0.t.t.t==x1.t.t.t
 let a5:=zm x0.t.t.1
 let a6:=zm x1.t.t.1
 let a7:=!fq a5 a6
 let a8:=zm x0.t.t.q.2.1
 let a9:=zm x1.t.t.q.2.1
 Qc
 (bif a0 then Q3
 else bif a1 then Q3 else bif a2 then Q3 else bif a3 then Q3 else bif a4 then Q3 else gP a5 a6&&bif a7 then Q3 else gP a8 a9)
 (br (bif a0 then Q3 else bif a1 then Q3 else bif a2 then Q3 else bif a3 then Q3 else bif a4 then Q3 else bif a7 then Q3 else !fq a8 a9)
  (re (kb Q4) [])
  (br (bif (↑(length x0.2.2.2.1):Int)!=(↑(length x1.2.2.2.1):Int)then Q3 else bif (↑(length x0.t.1):Int)!=(↑(length x1.t.1):Int)then Q3 else bif (↑(length x0.t.q.1):Int)!=(↑(length x1.t.q.1):Int)then Q3 else bif (↑(length x0.t.q.2.1):Int)!=(↑(length x1.t.q.2.1):Int)then Q3
  else bif (↑(length x0.t.t.2.1):Int)!=(↑(length x1.t.t.2.1):Int)then Q3 else(↑(length x0.t.t.q.1):Int)!=(↑(length x1.t.t.q.1):Int)) (re (kb Q4) []) (Q9 (r9.h6 0 (x0,()) (x1,())))))
def uf:r9->Tr (r9⊕az)
 | .h6 i5 z0 z1=>
  let a0:=(↑(length z0.1.2.2.2.1):Int)
  br (Q0 (i5<a0))
  (Qc (zO i5 (length z0.1.2.2.2.1))
   (Qc (zO i5 (length z1.1.2.2.2.1)) (br (!getD z0.1.2.2.2.1 i5.toNat (zj Q6)==getD z1.1.2.2.2.1 i5.toNat (zj Q6)) (re (kb Q4) []) (Q9 (r9.h6 (IntKind.i64.wrap (i5+1)) z0 z1)))))
  (Q9 (r9.h11 0 z0 z1))
 | .h11 i6 z0 z1=>
  let a0:=(↑(length z0.1.t.1):Int)
  let a1:=getD z0.1.t.1 i6.toNat (zj zi)
  let a2:=getD z1.1.t.1 i6.toNat (zj zi)
  br (Q0 (i6<a0))
  (Qc (zO i6 (length z0.1.t.1))
   (Qc (zO i6 (length z1.1.t.1)) (br (!(a1.1==a2.1&&(a1.2.1==a2.2.1&&(a1.2.2==a2.2.2&&Q3)))) (re (kb Q4) []) (Q9 (r9.h11 (IntKind.i64.wrap (i6+1)) z0 z1)))))
  (Q9 (r9.h16 0 z0 z1))
 | .h16 i7 z0 z1=>
  let a0:=(↑(length z0.1.t.q.1):Int)
  br (Q0 (i7<a0))
  (Qc (zO i7 (length z0.1.t.q.1))
   (Qc (zO i7 (length z1.1.t.q.1)) (br (!getD z0.1.t.q.1 i7.toNat (zj Q6)==getD z1.1.t.q.1 i7.toNat (zj Q6)) (re (kb Q4) []) (Q9 (r9.h16 (IntKind.i64.wrap (i7+1)) z0 z1)))))
  (Q9 (r9.h21 0 z0 z1))
 | .h21 i8 z0 z1=>
  let a0:=(↑(length z0.1.t.q.2.1):Int)
  let a1:=getD z0.1.t.q.2.1 i8.toNat (zj jb)
  let a2:=getD z1.1.t.q.2.1 i8.toNat (zj jb)
  br (Q0 (i8<a0))
  (Qc (zO i8 (length z0.1.t.q.2.1))
   (Qc (zO i8 (length z1.1.t.q.2.1)) (br (!(a1.1==a2.1&&(a1.2==a2.2&&Q3))) (re (kb Q4) []) (Q9 (r9.h21 (IntKind.i64.wrap (i8+1)) z0 z1)))))
  (Q9 (r9.h26 0 z0 z1))
 | .h26 i9 z0 z1=>
  let a0:=(↑(length z0.1.t.t.2.1):Int)
  let a1:=getD z0.1.t.t.2.1 i9.toNat (zj zf)
  let a2:=getD z1.1.t.t.2.1 i9.toNat (zj zf)
  br (Q0 (i9<a0))
  (Qc (zO i9 (length z0.1.t.t.2.1))
   (Qc (zO i9 (length z1.1.t.t.2.1)) (br (!(a1.1==a2.1&&(a1.2.1==a2.2.1&&(a1.2.2==a2.2.2&&Q3)))) (re (kb Q4) []) (Q9 (r9.h26 (IntKind.i64.wrap (i9+1)) z0 z1)))))
  (Q9 (r9.h31 0 z0 z1))
 | .h31 i10 z0 z1=>
  let a0:=(↑(length z0.1.t.t.q.1):Int)
  let a1:=zO i10 (length z0.1.t.t.q.1)
  let a2:=zO i10 (length z1.1.t.t.q.1)
  let a3:=getD z0.1.t.t.q.1 i10.toNat (zj iq)
  let a4:=getD z1.1.t.t.q.1 i10.toNat (zj iq)
  let a5:=!a3.1==a4.1
  let a6:=zm a3.2
  let a7:=zm a4.2
  br (Q0 (i10<a0))
  (Qc (a1&&(a2&&bif a5 then Q3 else a1&&(a2&&gP a6 a7)))
   (br (bif a5 then Q3 else !fq a6 a7) (re (kb Q4) []) (Q9 (r9.h31 (IntKind.i64.wrap (i10+1)) z0 z1))))
  (re (kb Q3) [])
def rM(x0:Sem zl)(x1:Sem zl):=ah [Q7] uf 100000000 (Zs x0 x1)
def Ba(x0:Sem zl)(x1:Sem zl):=(rM x0 x1).isSome
def ft(x0:Sem zl)(x1:Sem zl):=o1 (rM x0 x1)
def ziB:=FT [zl,zl] [Q7] λx=>rM x.1 x.2.1
theorem zet:FK 87 ziB:=kU.T1 (f:=Tryz.f87) (keep:=zl4) (e:=zoB)
def FI:=Hn.addL [(142,zaX),(133,zaV),(92,zaB),(87,ziB)]
theorem qM:zt FI:=kU.addL<|fc XM<|fc XK<|fc Xp<|fc zet ja
abbrev zf5:=lW [(2,[0,3])]
inductive E1 where
 |h2 (s0:TS) (i3:Int)
abbrev zkm:E1->Nat×St
 |.h2 s0 i3=>(2,⟨tm 28 [(0,str s0),(3,ai i3)],[]⟩)
def zcc(x0:TS):Tr (E1⊕az):=
 Q9 (E1.h2 x0 0)
def wm:E1->Tr (E1⊕az)
 | .h2 s0 i3=>
  let a0:=(↑(getD s0 i3.toNat 0).toNat:Int)
  let a1:=Q0 (1<=(↑(length s0):Int))
  let a2:=Q0 ((↑(length s0):Int)<=16)
  let a3:=(↑(getD s0 (toNat 0) 0).toNat:Int)
  br (Q0 (i3<(↑(length s0):Int)))
  (Qc (zO i3 (length s0)) (Qc (rK a0) (br (!xP a0) (re (kb Q4) []) (Q9 (E1.h2 s0 (IntKind.i64.wrap (i3+1)))))))
  (Qc (bif a1 then bif a2 then zO 0 (length s0)&&kH a3 else Q3 else Q3)
   (re (AV.bool (bif a1 then bif a2 then nc a3 else Q4 else Q4)) []))
def A9(x0:TS):=ah [Q7] wm 100000000 (zcc x0)
def vM(x0:TS):=(A9 x0).isSome
def tZ(x0:TS):=o1 (A9 x0)
def zaU:=FT [Q6] [Q7] λx=>A9 x.1
theorem XJ:FK 132 zaU:=qM.T1 (f:=Tryz.f132) (keep:=zf5) (e:=zkm)
abbrev UG:Nat->aN:=λ_=>{ }
theorem zgm:zI FI.P 94 Tryz.f94 2:=bR kw
def Ue(y:zn aB)(x0:TS):Tr (Empty⊕az):=
 let a0:=(y.1,y.2.1,y.2.2.1,())
 let a1:=fu a0 x0
 Qc (dV a0 x0)
 (br (!a1.1) (re (tup []) [Qa [sl zo a1.2.1,ai a1.2.2.1,kb Q4]])
  (re (tup []) (ar aB a1.2)))
theorem zfk(y:zn aB)(x0:TS):rn FI 1 UG Tryz.f94 [Qf 0 0,zz Q6 x0] (ar aB y)=(Ue y x0).map (lf Tryz.f94 e0):=kw
def Py(y:zn aB)(x0:TS):Option (zx (Qi Q1 [])×zn aB):=km [] aB t0 100000000 (Ue y x0)
def aR(y:zn aB)(x0:TS):Bool:=(Py y x0).isSome
def bC(y:zn aB)(x0:TS):zn aB:=(λr:zx (Qi Q1 [])×zn aB=>r.2) ((Py y x0).getD (cm [],fJ aB))
def zaD:zV:=se aB [Q6] [] aB (λy x=>aR y x.1) λy x=>((),bC y x.1)
theorem Xs:FK 94 zaD:=jW (ps:=aB) (ks:=[Q6]) (outs:=[]) (keep:=UG) (gas:=400) (n:=100000000) (e:=e0) (t:=t0) (i:=λy x=>Ue y x.1) qM zgm (λy x=>zfk y x.1) (VG _ _ _ _ _) (λ_ _=>by kernel_rfl) (λ_ _=>by kernel_rfl)
abbrev UH:Nat->aN:=λ_=>{ }
theorem zgn:zI FI.P 95 Tryz.f95 1:=bR kw
def Uf(y:zn aB):Tr (Empty⊕az):=
 let a0:=Q0 (y.2.1<(↑(length y.1):Int))
 let a1:=zO y.2.1 (length y.1)
 let a2:=getD y.1 (toNat y.2.1) (zj zo)
 let a3:=a2.1==1
 let a4:=IntKind.i64.wrap (y.2.1+1)
 let a5:=IntKind.i64.wrap (a4-1)
 let a6:=getD y.1 a5.toNat (zj zo)
 Qc (bif a0 then a1&&bif a3 then a1&&DG a2.2 else Q3 else Q3)
 (br (bif a0 then bif a3 then !Ll a2.2 else Q4 else Q4)
  (Qc (zO a5 (length y.1)) (re (str a6.2) (ar aB (y.1,a4,y.2.2))))
  (re (str []) [Qa [sl zo y.1,ai y.2.1,kb Q4]]))
theorem zfl(y:zn aB):rn FI 1 UH Tryz.f95 [Qf 0 0] (ar aB y)=(Uf y).map (lf Tryz.f95 e0):=kw
def Pz(y:zn aB):Option (zx (Qi Q1 [Q6])×zn aB):=km [Q6] aB t0 100000000 (Uf y)
def bl(y:zn aB):Bool:=(Pz y).isSome
def bQ(y:zn aB):(Sem Q6)×zn aB:=(λr:zx (Qi Q1 [Q6])×zn aB=>(r.1.1,r.2)) ((Pz y).getD (cm [Q6],fJ aB))
def zaE:zV:=se aB [] [Q6] aB (λy _=>bl y) λy _=>(((bQ y).1,()),(bQ y).2)
theorem Xt:FK 95 zaE:=jW (ps:=aB) (ks:=[]) (outs:=[Q6]) (keep:=UH) (gas:=400) (n:=100000000) (e:=e0) (t:=t0) (i:=λy x=>Uf y) qM zgn (λy x=>zfl y) (VG _ _ _ _ _) (λ_ _=>by kernel_rfl) (λ_ _=>by kernel_rfl)
def FJ:=FI.addL [(132,zaU),(94,zaD),(95,zaE)]
theorem mO:zt FJ:=qM.addL<|fc XJ<|fc Xs<|fc Xt ja
end
end Cad
