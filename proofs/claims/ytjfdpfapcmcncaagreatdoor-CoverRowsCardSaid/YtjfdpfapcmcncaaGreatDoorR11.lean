/- Checks. -/
import Derived.Test.YtjfdpfapcmcncaaGreatDoorR09
namespace Cad
open Go Go.Proofs
open List renaming length→Io,drop→Qh,take→Qg
open IntKind renaming wrap→Γ,i64→Δ
open Tr renaming chk→Qc,«to»→Q9,val→Q8
open AO renaming box→Qa
open Sh renaming bool→Q7,str→Q6,expr→Q5
open Bool renaming false→Q4,true→Q3
open Option renaming none→Q2,some→Q1
open Decidable renaming decide→Q0
open Int (toNat)
open List (getD)
open Tr (chk br re)
open AV (nils agg tup ptr kb str sl)
noncomputable section
set_option maxHeartbeats 4000000
abbrev uV:List CP:=[.d zo]
abbrev zaq:List CP:=[.d .str,.nil,.d zg,.nil,.nil,.d .str,.d zg,.d zg,.d .str,.d .str,.nil]
abbrev zme:List CP:=[.d .str,.d (.sl zj),.d zg,.vec zg,.nil,.d .expr]
abbrev zmf:List CP:=[.d .str,.d (.sl zj),.d zg,.vec zg,.vec zp,.d .expr]
def VK(h:Sem Q5)(o:Sem zj.sl):Tr (Empty⊕aw):=Qc (jz 16 (zm h) (zf.mk [] (0,0,[]) [] [])) (br (fE 16 (zm h) (zf.mk [] (0,0,[]) [] [])) (re (ai 0) []) (br (cond ((bM (zm h) o).2==0) (cond ((bM (zm h) o).1!=3) ((bM (zm h) o).1!=0) Q4) Q4) (re (ai 5) []) (re (ai (bM (zm h) o).2) [])))
def MQ(h:Sem Q5)(o:Sem zj.sl):=al [zg] t0 100000000 (VK h o)
def zcH:=FT [Q5,zj.sl] [zg] λx=>MQ x.1 x.2.1
theorem Pi:FK 221 zcH:=xD.T1 (f:=Tryz.f221) (keep:=k0) (e:=e0)
abbrev zn9:Nat->aN:=λj=>if j=3 then{slots:=[1,2,3,4],prom:=[(3,Q1 3,zg)]}else if j=7 then{slots:=[1,2,3,5],prom:=[(3,Q1 4,zp)]}else{ }
inductive Ku where
 |h3 (i4:Int) (z0:zl uV) (z1:zl zaq) (z2:zl zme)
 |h7 (i5:Int) (z0:zl uV) (z1:zl zaq) (z2:zl zmf)
abbrev zqT:Ku->Nat×St
 |.h3 u h o z=>(3,⟨tm 70 [(1,ptr 0 0),(2,ptr 1 0),(3,ptr 2 0),(4,ai u)],[Qa (bb [] uV h),Qa (bb [] zaq o),Qa (bb [3] zme z),AO.vec zg z.2.2.2.1]⟩)
 |.h7 B h o z=>(7,⟨tm 70 [(1,ptr 0 0),(2,ptr 1 0),(3,ptr 2 0),(5,ai B)],[Qa (bb [] uV h),Qa (bb [] zaq o),Qa (bb [3,4] zmf z),AO.vec zg z.2.2.2.1,AO.vec zp z.t.1]⟩)
def zhC(h:Sem zo):Tr (Ku⊕aw):=Q9 (Ku.h3 0 (h,()) ([],0,[],0,0,[],[],()) (jy h.1,jQ h.2.1,h.2.2.1,[],dw (zm h.t.2),()))
def J5:Ku->Tr (Ku⊕aw)
 | .h3 u h C z=>
  let D:=(↑(Io h.1.2.2.2.1):Int)
  let o:=[getD h.1.2.2.2.1 u.toNat (zi zg)]
  br (cond (Q0 (u<D)) (Q0 (u<10)) Q4)
  (Qc (zJ u (Io h.1.2.2.2.1)) (Qc (Q0 (Io z.2.2.2.1+Io o<=1073741824)) (Q9 (Ku.h3 (Γ Δ (u+1)) h C (z.1,z.2.1,z.2.2.1,z.2.2.2.1++o,z.t)))))
  (Q9 (Ku.h7 0 h C (z.1,z.2.1,z.2.2.1,z.2.2.2.1,[],z.t)))
 | .h7 B h C z=>
  let D:=(↑(Io h.1.t.1):Int)
  let o:=zJ B (Io h.1.t.1)
  let E:=getD h.1.t.1 B.toNat (zi zp)
  let F:=[(E.1,jy E.2)]
  br (cond (Q0 (B<D)) (Q0 (B<10)) Q4)
  (Qc o (Qc o (Qc (Q0 (Io z.t.1+Io F<=1073741824)) (Q9 (Ku.h7 (Γ Δ (B+1)) h C (z.1,z.2.1,z.2.2.1,z.2.2.2.1,z.t.1++F,z.t.2))))))
  (re (agg [str z.1,sl zj z.2.1,ai z.2.2.1,AV.vec 0,AV.vec 1,str (zf.op z.t.2.1),ai (zf.v z.t.2.1).1,ai (zf.v z.t.2.1).2.1,str (zf.v z.t.2.1).2.2,str (zf.s z.t.2.1),sl Q5 (zf.l z.t.2.1)]) [AO.vec zg z.2.2.2.1,AO.vec zp z.t.1])
def Yi(h:Sem zo):=al [zo] J5 100000000 (zhC h)
def zks:=FT [zo] [zo] λx=>Yi x.1
theorem TU:FK 84 zks:=xD.T1 (f:=Tryz.f84) (keep:=zn9) (e:=zqT)
def iO(h:Sem Q5)(o:Sem zj.sl):Sem zg:=if fE 16 h (zf.mk [] (0,0,[]) [] [])=Q3 then 0 else if(cond ((bM h o).2==0) (cond ((bM h o).1!=3) ((bM h o).1!=0) Q4) Q4)=Q3 then 5 else(bM h o).2
theorem OW(e:zf)(h:LC):MQ e h=Q1 (iO e h,()):=by
 have o:(VK e h).val=Q1 (.inr (.int .i64 (iO e h),[])):=by
  unfold iO;simp only[VK,zk,Q8];rw[if_pos (OY 15 e)];repeat' split
  all_goals rfl
 exact zM o rfl
def E7(t:Sem zo):Sem zo:=(jy t.1,jQ t.2.1,t.2.2.1,Qg 10 t.2.2.2.1,(Qg 10 t.t.1).map (λf:Sem zp=>((f.1,jy f.2):Sem zp)),dw t.t.2)
theorem Yj(t:Sem zo):Yi t=Q1 (E7 t,()):=by
 have u:=zL.all (t:=J5) 1 (λi=>.h3 (i:Int) (t,()) ([],0,[],0,0,[],[],()) (jy t.1,jQ t.2.1,t.2.2.1,Qg i t.2.2.2.1,dw t.t.2,())) (min 10 (Io t.2.2.2.1)) λi o=>zL.of (by
  have h:i<Io t.2.2.2.1:=by omega
  simp only[J5,Q8,za0 (k:=10) (K:=10) rfl o,zt h,if_true,aD];rw[if_pos sg,zr i um,Ka h (zi zg)])
 have z:zL J5 1 (.h3 ((min 10 (Io t.2.2.2.1):Nat):Int) (t,()) ([],0,[],0,0,[],[],()) (jy t.1,jQ t.2.1,t.2.2.1,Qg (min 10 (Io t.2.2.2.1)) t.2.2.2.1,dw t.t.2,())) (.h7 ((0:Nat):Int) (t,()) ([],0,[],0,0,[],[],()) (jy t.1,jQ t.2.1,t.2.2.1,Qg (min 10 (Io t.2.2.2.1)) t.2.2.2.1,[],dw t.t.2,())):=zL.of (by
  simp only[J5,Q8,P7 (k:=10) (K:=10) rfl,zA,if_false];rfl)
 rw[wT]at u z;have B:=zL.all (t:=J5) 1 (λi=>.h7 (i:Int) (t,()) ([],0,[],0,0,[],[],()) (jy t.1,jQ t.2.1,t.2.2.1,Qg 10 t.2.2.2.1,(Qg i t.t.1).map (λf:Sem zp=>((f.1,jy f.2):Sem zp)),dw t.t.2,())) (min 10 (Io t.t.1)) λi o=>zL.of (by
  have h:i<Io t.t.1:=by omega
  simp only[J5,Q8,za0 (k:=10) (K:=10) rfl o,zt h,if_true,aD];rw[if_pos sg,zr i um,Ka h (zi zp),gD];rfl)
 rw[wT]at B;have C:zV J5 1 (.h7 ((min 10 (Io t.t.1):Nat):Int) (t,()) ([],0,[],0,0,[],[],()) (jy t.1,jQ t.2.1,t.2.2.1,Qg 10 t.2.2.2.1,(Qg 10 t.t.1).map (λf:Sem zp=>((f.1,jy f.2):Sem zp)),dw t.t.2,())) _:=zV.of (by
  simp only[J5,Q8,P7 (k:=10) (K:=10) rfl,zA,if_false];rfl)
 have D:(zhC t).val=Q1 (.inl (.h3 ((0:Nat):Int) (t,()) ([],0,[],0,0,[],[],()) (jy t.1,jQ t.2.1,t.2.2.1,Qg 0 t.2.2.2.1,dw t.t.2,()))):=by
  simp only[zhC,zk,Q8];rfl
 unfold E7;rw[<-zk (dw t.t.2)];exact zy D (((u.trans z).trans B).ends C) ow rfl
def zdc:=zdb.addL [(221,zcH),(84,zks)]
theorem Sn:zw zdc:=xD.addL<|fc Pi<|fc TU iz
end
def zjz:zZ:=aH [Q5,zj.sl] [zg] λx=>(iO x.1 x.2.1,())
theorem ze7:FK 221 zjz:=g6 Pi λx=>OW x.1 x.2.1
def F5t:zZ:=aH [zo] [zo] λx=>(E7 x.1,())
theorem zln:FK 84 F5t:=g6 TU λx=>Yj x.1
noncomputable def U5:=zdc.addL [(221,zjz),(84,F5t)]
theorem Gp:zw U5:=Sn.addL<|fc ze7<|fc zln iz
abbrev zhK:=kR [(4,[1,27,28,29]),(11,[1,5,59,60,61]),(17,[1,5,71,72,73])]
inductive sP where
 |h4 (l27:LC) (i28:Int) (i29:Int) (z0:zl uV)
 |h11 (l59:LI) (i60:Int) (i61:Int) (z0:zl uV)
 |h17 (l71:LF) (i72:Int) (i73:Int) (z0:zl uV)
abbrev zmh:sP->Nat×St
 |.h4 E h o z=>(4,⟨tm 110 [(1,ptr 0 0),(27,sl zj E),(28,ai h),(29,ai o)],[Qa (bb [] uV z)]⟩)
 |.h11 F u B z=>(11,⟨tm 110 [(1,ptr 0 0),(5,AV.clo (Fn.func 220) [] [ptr 0 0]),(59,sl zg F),(60,ai u),(61,ai B)],[Qa (bb [] uV z)]⟩)
 |.h17 G C D z=>(17,⟨tm 110 [(1,ptr 0 0),(5,AV.clo (Fn.func 220) [] [ptr 0 0]),(71,sl zp G),(72,ai C),(73,ai D)],[Qa (bb [] uV z)]⟩)
noncomputable def Lu(h:Sem zo):Tr (sP⊕aw):=
 let o:=(↑(Io h.2.1):Int)
 br (cond (!zQ h.1) Q3 (cond (Q0 (o<1)) Q3 (Q0 (o>8)))) (re (kb Q4) [])
 (Q9 (sP.h4 h.2.1 o 0 (h,())))
noncomputable def pm:sP->Tr (sP⊕aw)
 | .h4 C F o z=>
  let h:=C.getD o.toNat (zi zj)
  br (Q0 (o<F))
  (Qc (zJ o (Io C)) (br (cond (!zQ h.1) Q3 (cond (Q0 (h.2.1<1)) Q3 (cond (Q0 (h.2.1>3)) Q3 (zR (z.1.1,z.1.2.1,z.1.2.2.1,z.1.2.2.2.1,z.1.t.1,zm z.1.t.2) h.1!=o)))) (re (kb Q4) []) (Q9 (sP.h4 C F (Γ Δ (o+1)) z))))
  (Q9 (sP.h11 z.1.2.2.2.1 (↑(Io z.1.2.2.2.1):Int) 0 z))
 | .h11 D G u z=>
  let h:=D.getD u.toNat (zi zg)
  let I:=(↑(Io z.1.2.1):Int)
  br (Q0 (u<G))
  (Qc (zJ u (Io D)) (br (!bif Q0 (h>=0)then Q0 (h<I)else Q4) (re (kb Q4) []) (Q9 (sP.h11 D G (Γ Δ (u+1)) z))))
  (Q9 (sP.h17 z.1.t.1 (↑(Io z.1.t.1):Int) 0 z))
 | .h17 E H B z=>
  let h:=E.getD B.toNat (zi zp)
  let I:=(↑(Io z.1.2.1):Int)
  let J:=getD z.1.2.1 (toNat z.1.2.2.1) (zi zj)
  br (Q0 (B<H))
  (Qc (zJ B (Io E)) (br (!bif Q0 (h.1>=0)then Q0 (h.1<I)else Q4) (re (kb Q4) []) (br (!zQ h.2) (re (kb Q4) []) (Q9 (sP.h17 E H (Γ Δ (B+1)) z)))))
  (br (cond (Q0 (z.1.2.2.1>=0)) (Q0 (z.1.2.2.1<I)) Q4) (Qc (zJ z.1.2.2.1 (Io z.1.2.1)) (br J.2.2 (re (AV.bool (iO (zm z.1.t.2) z.1.2.1==0)) []) (re (kb Q4) []))) (re (kb Q4) []))
noncomputable def ziH(h:Sem zo):=al [Q7] pm 40000000000000000000 (Lu h)
theorem Vr{σ:Type}{t:σ->Tr (σ⊕aw)}{st:Nat->σ}{N:Nat}{b:Nat->Bool}{R:aw}(h:∀i,i<N->(t (st i)).val=if b i=Q3 then Q1 (.inl (st (i+1)))else Q1 (.inr R)):
  ((List.range N).all b=Q3/\zL t N (st 0) (st N))\/((List.range N).all b=Q4/\zV t N (st 0) R):=by
 rcases mI (t:=t) (Φ:=λr=>r=R) 1 st (λi=>b i=Q3) N (λi o _=>by
  cases B:b i
  ·exact .inr ⟨sw,R,zV.of (by rw[h i o,B];rfl),rfl⟩
  ·exact .inl ⟨rfl,zL.of (by rw[h i o,B];rfl)⟩)with⟨u,z⟩|⟨u,r,z,rfl⟩
 ·exact .inl ⟨by rw[ep];exact λi o=>u i (pL.1 o),z.mono ow⟩
 ·refine .inr ⟨?_,z.mono ow⟩;rw[Bool.eq_false_iff,Ne,ep];exact λq=>u λi o=>q i (pL.2 o)
def xX(x:Int)(n:Nat):Bool:=bif Q0 (x>=0)then Q0 (x<(n:Int))else Q4
def Nz(t:Sem zo)(i:Nat):Bool:=!(cond (!zQ (getD t.2.1 i (zi zj)).1) Q3 (cond (Q0 ((getD t.2.1 i (zi zj)).2.1<1)) Q3 (cond (Q0 ((getD t.2.1 i (zi zj)).2.1>3)) Q3 (zR t (getD t.2.1 i (zi zj)).1!=(i:Int)))))
def zbv(t:Sem zo)(i:Nat):Bool:=xX (getD t.t.1 i (zi zp)).1 (Io t.2.1)&&zQ (getD t.t.1 i (zi zp)).2
def dp(t:Sem zo):Sem Q7:=!(cond (!zQ t.1) Q3 (cond (Q0 ((↑(Io t.2.1):Int)<1)) Q3 (Q0 ((↑(Io t.2.1):Int)>8))))&&((List.range (Io t.2.1)).all (Nz t)&&((List.range (Io t.2.2.2.1)).all (λi=>xX (getD t.2.2.2.1 i (zi zg)) (Io t.2.1))&&((List.range (Io t.t.1)).all (zbv t)&&(xX t.2.2.1 (Io t.2.1)&&((getD t.2.1 (toNat t.2.2.1) (zi zj)).2.2&&(iO t.t.2 t.2.1==0))))))
theorem Yk{t:Sem zo}(S:Io t.2.2.2.1<=aG)(T:Io t.t.1<=aG):ziH t=Q1 (dp t,()):=by
 unfold dp;by_cases o:(cond (!zQ t.1) Q3 (cond (Q0 ((↑(Io t.2.1):Int)<1)) Q3 (Q0 ((↑(Io t.2.1):Int)>8))))=Q3
 ·rw[o];refine zM (r:=(.kb Q4,[])) ?_ rfl;simp only[Lu,Q8];exact if_pos o
 have U:Io t.2.1<=8:=by
  cases J:zQ t.1
  ·rw[J]at o;simp at o
  ·rw[J]at o;simp at o;omega
 have C:(Lu t).val=Q1 (.inl (.h4 t.2.1 (Io t.2.1:Int) ((0:Nat):Int) (t,()))):=by
  simp only[Lu,Q8];exact if_neg o
 rw[g8]at o;rw[o];have W:aG=9223372036854775807:=rfl
 rcases Vr (t:=pm) (R:=(.kb Q4,[])) (N:=Io t.2.1) (st:=λi=>.h4 t.2.1 (Io t.2.1:Int) (i:Int) (t,())) (b:=Nz t) (λi h=>by
  simp only[pm,Q8,zF h,zt h,if_true,aD,zk,Prod.eta,zr i (show i<aG by omega)];unfold Nz;split
  ·rename_i c;rw[c];rfl
  ·rename_i c;rw[g8]at c;rw[c];rfl)with⟨D,G⟩|⟨D,G⟩
 rotate_left
 ·rw[D];exact zy C G ow rfl
 have u:=G.trans (zL.of (s':=.h11 t.2.2.2.1 (Io t.2.2.2.1:Int) ((0:Nat):Int) (t,())) (by
  simp only[pm,Q8,zB,zA,if_false];rfl))
 rw[D]
 rcases Vr (t:=pm) (R:=(.kb Q4,[])) (N:=Io t.2.2.2.1) (st:=λi=>.h11 t.2.2.2.1 (Io t.2.2.2.1:Int) (i:Int) (t,())) (b:=λi=>xX (getD t.2.2.2.1 i (zi zg)) (Io t.2.1)) (λi h=>by
  simp only[pm,Q8,zF h,zt h,if_true,aD,zr i (show i<aG by omega)];unfold xX;split
  ·rename_i c;rw[sT]at c;rw[c];rfl
  ·rename_i c;rw[g8,Bool.not_eq_false']at c;rw[c];rfl)with⟨E,H⟩|⟨E,H⟩
 rotate_left
 ·rw[E];exact zy C (u.ends H) ow rfl
 have z:=(u.trans H).trans (zL.of (s':=.h17 t.t.1 (Io t.t.1:Int) ((0:Nat):Int) (t,())) (by
  simp only[pm,Q8,zB,zA,if_false];rfl))
 rw[E]
 rcases Vr (t:=pm) (R:=(.kb Q4,[])) (N:=Io t.t.1) (st:=λi=>.h17 t.t.1 (Io t.t.1:Int) (i:Int) (t,())) (b:=zbv t) (λi h=>by
  simp only[pm,Q8,zF h,zt h,if_true,aD,zr i (show i<aG by omega)];unfold zbv xX;split
  ·rename_i c;rw[sT]at c;rw[c];rfl
  ·rename_i c;rw[g8,Bool.not_eq_false']at c;rw[c];cases zQ (getD t.t.1 i (zi zp)).2<;>rfl)with⟨F,I⟩|⟨F,I⟩
 rotate_left
 ·rw[F];exact zy C (z.ends I) ow rfl
 rw[F];have B:∃r,(pm (.h17 t.t.1 (Io t.t.1:Int) (Io t.t.1:Int) (t,()))).val=Q1 (.inr r)/\aI r.2 [Q7] r.1=Q1 ((xX t.2.2.1 (Io t.2.1)&&((getD t.2.1 (toNat t.2.2.1) (zi zj)).2.2&&(iO t.t.2 t.2.1==0))),()):=by
  simp only[pm,Q8,zB,zk,zA,if_false];unfold xX;cases c:(cond (Q0 (t.2.2.1>=0)) (Q0 (t.2.2.1<(↑(Io t.2.1):Int))) Q4)
  ·exact⟨_,rfl,rfl⟩
  ·have h:zJ t.2.2.1 (Io t.2.1)=Q3:=by
    cases O:Q0 (t.2.2.1>=0)<;>simp_all[zJ]
   rw[h];cases(getD t.2.1 (toNat t.2.2.1) (zi zj)).2.2
   ·exact⟨_,rfl,rfl⟩
   ·exact⟨_,rfl,rfl⟩
 obtain⟨r,L,M⟩:=B;exact zy C ((z.trans I).ends (zV.of L)) ow M
theorem ok8:zO U5.P 175 Tryz.f175 1:=bU kw
def F8t:zZ:=aH [zo] [Q7] λx=>(dp x.1,())
theorem zlN:FK 175 F8t:=ag ok8 λx C u=>Reach.lenA 0 3 zg x.1.2.2.2.1 rfl rfl λh=>Reach.lenA 0 4 zp x.1.t.1 rfl rfl λo=>
 zbu (n0:=0) (t:=pm) (e:=zmh) (keep:=zhK) (gas:=400) (i:=Lu x.1) Gp ok8 (λid _=>u id) kw (by intro s;cases s<;>kernel_rfl) (Yk h o)
noncomputable def zdd:=U5.add 175 F8t
theorem Gq:zw zdd:=Gp.add zlN
abbrev zhX:=kR [(4,[1,2,19,20,21]),(10,[1,2,30,31])]
inductive yU where
 |h4 (l1:LV) (l19:LV) (i20:Int) (i21:Int) (z0:zl uV)
 |h10 (l1:LV) (i30:Int) (i31:Int) (z0:zl uV)
abbrev zmq:yU->Nat×St
 |.h4 B C h o D=>(4,⟨tm 79 [(1,sl ze B),(2,ptr 0 0),(19,sl ze C),(20,ai h),(21,ai o)],[Qa (bb [] uV D)]⟩)
 |.h10 B u z D=>(10,⟨tm 79 [(1,sl ze B),(2,ptr 0 0),(30,ai u),(31,ai z)],[Qa (bb [] uV D)]⟩)
noncomputable def VN(h:Sem zo)(o:Sem ze.sl):Tr (yU⊕aw):=br (cond (!dp (h.1,h.2.1,h.2.2.1,h.2.2.2.1,h.t.1,zm h.t.2)) Q3 ((↑(Io o):Int)!=(↑(Io h.2.1):Int))) (re (ai 1) []) (Q9 (yU.h4 o o (↑(Io o):Int) 0 (h,())))
noncomputable def wP:yU->Tr (yU⊕aw)
 | .h4 o B C u z=>
  br (Q0 (u<C))
  (Qc (zJ u (Io B)) (br (!aU (B.getD u.toNat (zi ze))) (re (ai 1) []) (Q9 (yU.h4 o B C (Γ Δ (u+1)) z))))
  (Q9 (yU.h10 o (↑o.length:Int) 0 z))
 | .h10 o D h z=>
  let E:=o.getD h.toNat (zi ze)
  let G:=E.1==0
  let H:=zJ h (Io z.1.2.1)
  let I:=getD z.1.2.1 h.toNat (zi zj)
  let J:=E.1!=0
  let F:=kr (zm z.1.t.2) z.1.2.1 o
  br (Q0 (h<D))
  (Qc (zJ h (Io o)&&bif G then H else Q3) (br (cond G I.2.2 Q4) (re (ai 8) []) (Qc (zJ h (Io o)&&bif J then zJ h (Io o)&&H else Q3) (br (cond J (E.1!=I.2.1) Q4) (re (ai 5) []) (Q9 (yU.h10 o D (Γ Δ (h+1)) z))))))
  (br (F.1==3&&(F.2.1==0&&(F.2.2==[]&&Q3))) (re (ai 9) []) (re (ai 0) []))
noncomputable def Rd(h:Sem zo)(o:Sem ze.sl):=al [zg] wP 100000000 (VN h o)
noncomputable def zcQ:=FT [zo,ze.sl] [zg] λx=>Rd x.1 x.2.1
theorem Pk:FK 199 zcQ:=Gq.T1 (f:=Tryz.f199) (keep:=zhX) (e:=zmq)
def eH(t:Sem zo)(row:LV):List (Sem ze)->Int->Sem zg
 |[],_=>if((kr t.t.2 t.2.1 row).1==3&&((kr t.t.2 t.2.1 row).2.1==0&&((kr t.t.2 t.2.1 row).2.2==[]&&Q3)))=Q3 then 9 else 0
 |x::r,i=>if(cond (x.1==0) ((getD t.2.1 i.toNat (zi zj)).2.2) Q4)=Q3 then 8 else if(cond (x.1!=0) (x.1!=(getD t.2.1 i.toNat (zi zj)).2.1) Q4)=Q3 then 5 else eH t row r (i+1)
def gu(t:Sem zo)(row:LV):List (Sem ze)->Int->Sem zg
 |[],_=>eH t row row 0
 |x::r,i=>if(!aU x)=Q3 then 1 else gu t row r (i+1)
def dc(t:Sem zo)(row:Sem ze.sl):Sem zg:=if(cond (!dp t) Q3 ((↑(Io row):Int)!=(↑(Io t.2.1):Int)))=Q3 then 1 else gu t row row 0
theorem Qj{t:Sem zo}(h:dp t=Q3):Io t.2.1<=8:=by
 unfold dp at h;rw[aE]at h;have h:=h.1;cases o:zQ t.1
 ·rw[o]at h;simp at h
 ·rw[o]at h;simp at h;omega
theorem Tm(t:Sem zo)(o:LV):Rd t o=Q1 (dc t o,()):=by
 unfold dc;by_cases h:(cond (!dp t) Q3 ((↑(Io o):Int)!=(↑(Io t.2.1):Int)))=Q3
 ·rw[if_pos h];refine zM (r:=(.int .i64 1,[])) ?_ rfl;simp only[VN,zk,Prod.eta,Q8];exact if_pos h
 rw[if_neg h];have B:dp t=Q3/\Io o=Io t.2.1:=by
  cases B:dp t
  ·rw[B]at h;simp at h
  ·rw[B]at h;simp at h;exact⟨rfl,ow⟩
 have J:=Qj B.1;have D:∀(m i:Nat),Io o-i=m->i<=Io o->zV wP (m+1) (.h10 o (Io o) i (t,())) (.int .i64 (eH t o (o.drop i) i),[]):=by
  intro m
  induction m with
  | zero=>
   intro i F G;obtain rfl:i=Io o:=by omega
   rw[jK,eH];refine zV.of ?_;simp only[wP,Q8,zB,zk,zA,if_false];split<;>rfl
  | succ m H=>
   intro i F G;have u:i<Io o:=by omega
   have E:getD o i (zi ze)=o[i]:=cM _ _ u;rw[fj u,eH];have z:(wP (.h10 o (Io o) i (t,()))).val=if(cond (o[i].1==0) ((getD t.2.1 i (zi zj)).2.2) Q4)=Q3 then Q1 (.inr (.int .i64 8,[]))else if(cond (o[i].1!=0) (o[i].1!=(getD t.2.1 i (zi zj)).2.1) Q4)=Q3 then Q1 (.inr (.int .i64 5,[]))else Q1 (.inl (.h10 o (Io o) ((i+1:Nat):Int) (t,()))):=by
    simp only[wP,Q8,zF u,zt u,zt (show i<Io t.2.1 by omega),aD,E,dV,Bool.cond_self,if_true,zr i (show i<aG by unfold aG;omega)]
   simp only[aD];split
   ·rename_i c;exact(zV.of (by rw[z,if_pos c])).mono ow
   ·rename_i c;split
    ·rename_i C;exact(zV.of (by rw[z,if_neg c,if_pos C])).mono ow
    ·rename_i C;exact(zL.of (by rw[z,if_neg c,if_neg C])).ends (H (i+1) ow ow)
 have I:∀(m i:Nat),Io o-i=m->i<=Io o->zV wP (m+Io o+2) (.h4 o o (Io o) i (t,())) (.int .i64 (gu t o (o.drop i) i),[]):=by
  intro m
  induction m with
  | zero=>
   intro i F G;obtain rfl:i=Io o:=by omega
   rw[jK,gu];refine((zL.of (s':=.h10 o (Io o) ((0:Nat):Int) (t,())) ?_).ends (D (Io o) 0 ow ow)).mono ow;simp only[wP,Q8,zB,zA,if_false];rfl
  | succ m H=>
   intro i F G;have u:i<Io o:=by omega
   have E:getD o i (zi ze)=o[i]:=cM _ _ u;rw[fj u,gu];have z:(wP (.h4 o o (Io o) i (t,()))).val=if(!aU o[i])=Q3 then Q1 (.inr (.int .i64 1,[]))else Q1 (.inl (.h4 o o (Io o) ((i+1:Nat):Int) (t,()))):=by
    simp only[wP,Q8,zF u,zt u,aD,E,if_true,zr i (show i<aG by unfold aG;omega)]
   split
   ·rename_i c;exact(zV.of (by rw[z,if_pos c])).mono ow
   ·rename_i c;exact((zL.of (by rw[z,if_neg c])).ends (H (i+1) ow ow)).mono ow
 refine zy (s:=.h4 o o (Io o) ((0:Nat):Int) (t,())) ?_ (I (Io o) 0 ow ow) ow rfl;simp only[VN,zk,Prod.eta,Q8];exact if_neg h
noncomputable def zde:=zdd.add 199 zcQ
theorem So:zw zde:=Gq.add Pk
def zi6:zZ:=aH [zo,ze.sl] [zg] λx=>(dc x.1 x.2.1,())
theorem zeD:FK 199 zi6:=g6 Pk λx=>Tm x.1 x.2.1
noncomputable def C6:=zde.add 199 zi6
theorem Sq:zw C6:=So.add zeD
open Go.RowKit Go.Lib in
theorem zfV:FK 223 (zT [.str,.str] [.bool] (λx=>Io x.2.1==1) λx=>(Q0 (0<=Lib.indexByte x.1 (x.2.1.headD 0)),())):=by
 refine fg (E:=C6) ⟨Tryz.f223,kw,kw,kw⟩ λx X S h=>?_
 unfold eQ at h;split at h
 ·simp only[Q8]at h;split at h
  ·rename_i F;simp only[bH]at h;subst h;obtain⟨s,B,u⟩:=x;have F:(Io B==1)=Q3:=F
   match B,F with
   | [c],_=>
    intro C w U ρ D _ z J o G L;have M:=z.len
    match D,M,z with
    | [T,W],_,z=>
     have H:=z.rv 0 (.str s) T rfl rfl;have I:=z.rv 1 (.str [c]) W rfl rfl;cases H with
     |str _ Y=>
     cases I with
     |str _ O=>
     refine(Tryz.strings_Contains_one ⟨s.toArray⟩ c w).mono ?_;rintro e Z ⟨rfl,rfl⟩;exact en J o G L (Below.refl _ _) (.bool _)
  ·cases h
 ·simp at h
def F63:zZ:=zT [.str,.str] [.bool] (λx=>Io x.2.1==1) λx=>(Q0 (0<=Lib.indexByte x.1 (x.2.1.headD 0)),())
theorem zlr:FK 223 F63:=zfV
def F89:zZ:=zT [.str] [.str] (λx=>Q0 (Io x.1<=140737488355328)&&x.1.all λb=>Q0 (b.toNat<128)) λx=>(Lib.toUpperA x.1,())
open Go.RowKit Go.Lib in
theorem zlL:FK 242 F89:=by
 refine fg (E:=C6) ⟨Tryz.f242,kw,kw,kw⟩ λx Z X h=>?_
 unfold eQ at h;split at h
 ·simp only[Q8]at h;split at h
  ·rename_i o;simp only[bH]at h;subst h;obtain⟨s,u⟩:=x;have o:(Q0 (Io s<=140737488355328)&&s.all λb=>Q0 (b.toNat<128))=Q3:=o;simp only[aE,aQ]at o;obtain⟨G,o⟩:=o;intro C w U ρ B _ D J z H L;have S:=D.len
   match B,S,D with
   | [Y],_,D=>
    have I:=D.rv 0 (.str s) Y rfl rfl;cases I with
    |str _ W=>
    refine(Tryz.strings_ToUpper_ascii ⟨s.toArray⟩ w (by simpa[ByteArray.size]using G) (λj b O=>?_)).mono ?_
    ·have T:b∈s:=pI (by simpa using O);simp only[ep,aQ]at o;exact o b T
    ·rintro e w' ⟨rfl,M⟩;have F:=en (r:=.str (Lib.toUpperA s)) J z H L M (.str _ (by simpa[Lib.toUpperA]using W));exact F
  ·cases h
 ·simp at h
def nX:Nat->Nat->zD
 |0,_=>[]
 |f+1,n=>if n<10 then[UInt8.ofNat (48+n)]else nX f (n/10)++[UInt8.ofNat (48+n%10)]
def tc(n:Int):zD:=if n<0 then 45::nX 20 n.natAbs else nX 20 n.natAbs
theorem Id:∀(f n:Nat),n<10^f->0<f->nX f n=Lib.decDigits n
 |0,_,_,h=>by omega
 | f+1,n,h,_=>by
  rw[nX,Lib.decDigits];split
  ·rfl
  ·rename_i u;have o:0<f:=by
    cases f with
    |zero=>simp at h;omega
    |succ f=>omega
   rw[Id f (n/10) (by rw[tA]at h;omega) o]
theorem CM:∀(f n:Nat),(nX f n).length<=f
 |0,_=>by simp[nX]
 | f+1,n=>by
  rw[nX];split
  ·simp
  ·have:=CM f (n/10);simp;omega
theorem G9(n:Int):(tc n).length<=21:=by
 unfold tc;have:=CM 20 n.natAbs;split<;>simp<;>omega
theorem VY(n:Int)(h:cy .i64 n):Lib.itoa n=tc n:=by
 have o:-9223372036854775808<=n:=h.1;have u:n<=9223372036854775807:=h.2;unfold Lib.itoa tc;split
 ·rw[Id 20 _ ow ow]
 ·rw[Id 20 _ ow ow];congr 1;omega
def zjf:zZ:=zT [zg,zg] [.str] (λx=>x.2.1==10) λx=>(tc x.1,())
open Go.RowKit Go.Lib in
theorem zeM:FK 288 zjf:=by
 refine fg (E:=C6) ⟨Tryz.f288,kw,kw,kw⟩ λx h0 h3 h=>?_
 unfold eQ at h;split at h
 ·simp only[Q8]at h;split at h
  ·rename_i F;simp only[bH]at h;subst h;obtain⟨n,b,u⟩:=x;have F:(b==10)=Q3:=F;simp only[bh]at F;subst F;intro C w U ρ D _ z O o H I;have Y:=z.len
   match D,Y,z with
   | [v1,v2],_,z=>
    have J:=z.rv 0 (.int .i64 n) v1 rfl rfl;have L:=z.rv 1 (.int .i64 10) v2 rfl rfl;cases J with
    |int _ _ G=>
    cases L;have M:Rv w U (λ_=>Q2) (.tab .u64 mB) (.pointer (Q1 ⟨5,0,Q2⟩)):=I.gl 5;have B:Lib.TabIs Tryz.prog w "internal/strconv.uint64pow10" .u64 Lib.pow10Tab:=by
     cases M with
     |tab _ _ _ T fr S hU=>
     have W:Tryz.prog.globalNamed "internal/strconv.uint64pow10"=Q1 5:=by kernel_rfl
     have Z:Lib.pow10Tab=mB:=by decide+kernel
     unfold Lib.TabIs World.var?;rw[W,Z];simp only[Option.bind_some,S]
    refine(Tryz.strconv_FormatInt_10 n G.1 G.2 w B).mono ?_;rintro e w' ⟨rfl,k,os,rfl⟩;rw[VY n G];exact en (r:=.str (tc n)) O o H I ⟨rfl,rfl,rfl,by show w.heap.size<=(w.heap++os).size;simp,λj X=>by show(w.heap++os)[j]?=w.heap[j]?;rw[Array.getElem?_append_left X]⟩ (.str _ (by have:=G9 n;unfold aG;omega))
  ·cases h
 ·simp at h
theorem wz(o h:zD):∀(k:Nat)(s:zD),(Lib.replaceK o h k s).length<=Io s+k*Io h
 |0,s=>by simp[Lib.replaceK]
 | k+1,s=>by
  rw[Lib.replaceK];split
  ·omega
  ·have:=wz o h k (s.drop ((Lib.index s o).toNat+Io o));simp only[ip,o7,List.length_drop]at this⊢;rw[gT];omega
theorem lL(s o h:zD):(Lib.replaceAll s o h).length<=Io s+(Io s+1)*Io h:=by
 unfold Lib.replaceAll Lib.replace;split
 ·omega
 ·refine bt (wz o h _ s) ?_;have u:=Lib.count_le s o;have:Lib.replaceNum s o (-1)=Lib.count s o:=by unfold Lib.replaceNum;rw[if_pos (.inl ow)]
  rw[this];have:=fH (Io h) u;omega
def wy(s o h:zD):Bool:=Q0 (Io s<=4000000000)&&(Q0 (1<=Io o)&&Q0 (Io h<=1000))
def zjg:zZ:=zT [.str,.str,.str] [.str] (λx=>wy x.1 x.2.1 x.2.2.1) λx=>(Lib.replaceAll x.1 x.2.1 x.2.2.1,())
open Go.RowKit Go.Lib in
theorem zeN:FK 289 zjg:=by
 refine fg (E:=C6) ⟨Tryz.f289,kw,kw,kw⟩ λx h0 x0 z=>?_
 unfold eQ at z;split at z
 ·simp only[Q8]at z;split at z
  ·rename_i F;simp only[bH]at z;subst z;obtain⟨s,o,h,u⟩:=x;have F:wy s o h=Q3:=F;unfold wy at F;simp only[aE,aQ]at F;obtain⟨h5,G,H⟩:=F;intro C w U ρ L _ B hH I X Y;have hl:=B.len
   match L,hl,B with
   | [v1,v2,v3],_,B=>
    have h1:=B.rv 0 (.str s) v1 rfl rfl;have h2:=B.rv 1 (.str o) v2 rfl rfl;have h3:=B.rv 2 (.str h) v3 rfl rfl;cases h1 with
    |str _ h7=>
    cases h2 with
    |str _ h8=>
    cases h3 with
    |str _ h9=>
    have M:Rv w U (λ_=>Q2) .gint (.pointer (Q1 ⟨0,0,Q2⟩)):=Y.gl 0;have O:∃m:Int,w.cell? ⟨0,0,Q2⟩=Q1 (.int .i64 m):=by
     cases M with
     |gint m _ T fr _ hb _=>exact⟨m,by simp[World.cell?,hb]⟩
    obtain⟨m,hm⟩:=O;have h6:=Lib.countB_le (⟨o.toArray⟩:ByteArray) (by simpa[ByteArray.size]using G) (Io s) (⟨s.toArray⟩:ByteArray) (by simp[ByteArray.size]);have J:(⟨s.toArray⟩:ByteArray).size=Io s:=by simp[ByteArray.size]
    have W:(⟨h.toArray⟩:ByteArray).size=Io h:=by simp[ByteArray.size]
    have h4:Lib.countB (⟨s.toArray⟩:ByteArray) ⟨o.toArray⟩*Io h<=4000000000*1000:=Ga ow H;refine(Tryz.strings_ReplaceAll ⟨s.toArray⟩ ⟨o.toArray⟩ ⟨h.toArray⟩ m w (by rw[J];omega) hm (by simpa[ByteArray.size]using G) (by rw[J,W];omega)).mono ?_;rintro e w' ⟨rfl,D⟩;refine en (r:=.str (Lib.replaceAll s o h)) hH I X Y D (.str _ ?_);have Z:=lL s o h;have S:(Io s+1)*Io h<=4000000001*1000:=Ga ow H;unfold aG;omega
  ·cases z
 ·simp at z
def zje:zZ:=zT [.sl .str,.str] [.str] (λx=>Q0 (Io x.1<=140737488355328)&&Q0 ((Lib.join x.1 x.2.1).length<=140737488355328)) λx=>(Lib.join x.1 x.2.1,())
open Go.RowKit Go.Lib in
theorem zeL:FK 287 zje:=by
 refine fg (E:=C6) ⟨Tryz.f287,kw,kw,kw⟩ λx h0 h7 z=>?_
 unfold eQ at z;split at z
 ·simp only[Q8]at z;split at z
  ·rename_i F;simp only[bH]at z;subst z;obtain⟨l,h,u⟩:=x;have F:(Q0 (Io l<=140737488355328)&&Q0 ((Lib.join l h).length<=140737488355328))=Q3:=F;simp only[aE,aQ]at F;obtain⟨M,F⟩:=F;have h5:aG=9223372036854775807:=rfl;intro C w U ρ W _ J hH D T hW;have hl:=J.len
   match W,hl,J with
   | [v1,v2],_,J=>
    have Z:=J.rv 0 (.sl .str l) v1 rfl rfl;have h2:=J.rv 1 (.str h) v2 rfl rfl;cases h2 with
    |str _ h6=>
    generalize O:l=l0 at Z F M J;cases Z with
    | sl0 _ a c=>
     subst O;refine(Tryz.strings_Join_none a c ⟨h.toArray⟩ w).mono ?_;rintro e w' ⟨rfl,rfl⟩;exact en (r:=.str []) hH D T hW (Below.refl _ _) (.str _ sw)
    | sl _ _ b o c H X hm hb hU G Y=>
     subst O;have z:∀(j:Nat) x,(l.map λs=>(⟨s.toArray⟩:ByteArray))[j]?=Q1 x->w.cell? ⟨b,o+j,Q2⟩=Q1 (.string x):=by
      intro j x I;simp only[eL,eB]at I;obtain⟨s,hs,rfl⟩:=I;obtain⟨S,rfl⟩:=dn.1 hs;have h3:=G j 0 S (by simp[Sh.size]);have h4:=Y j S 0 (.str l[j]) rfl;simp only[Sh.size,Nat.mul_one,Aa]at h3;rw[h3];generalize H j 0=vv at h4;cases h4;rfl
     have B:(l.map λs=>(⟨s.toArray⟩:ByteArray)).map (·.data.toList)=l:=by
      simp[uH]
     have I:=Tryz.strings_Join b o c (l.map λs=>(⟨s.toArray⟩:ByteArray)) ⟨h.toArray⟩ w z hb (by simpa using M) (by simpa using X) (by rw[B];exact F);rw[B]at I;simp only[cz]at I;refine I.mono ?_;rintro e w' ⟨rfl,L⟩;exact en (r:=.str (Lib.join l h)) hH D T hW L (.str _ ow)
  ·cases z
 ·simp at z
noncomputable def sX:=C6.addL [(223,F63),(242,F89),(288,zjf),(289,zjg),(287,zje)]
theorem jl:zw sX:=Sq.addL<|fc zlr<|fc zlL<|fc zeM<|fc zeN<|fc zeL iz
theorem Reach.promNil{E:bZ}{C:ff}{M:FuncId}{B:List Item}{st:St}(e:Sh)(hC:∀id,C.ρ0 id=Q2)(h:Reach E C M B st (λr h=>(r,h)=(.nils,[]))):Reach E C M B st (λr h=>(r,h)=(.vec 0,[.vec e []])):=by
 intro b cs a w U ρ Z h2 hc hW;obtain⟨W,T,X,⟨v,r,h',L,ρ',he,hq,J,hH,O,h6,G⟩,H,hf,hl⟩:=h b cs a w U ρ Z h2 hc hW;cases hq;cases J with
 |nils F=>
 have u:∀id o b,o=(AO.vec e []:AO)\/o=AO.dead->¬ar (λid=>if id=0 then Q1 (.slice F 0 0)else Q2) id o b:=by
  rintro id o b ho ⟨h3,x,h4,h5⟩;rcases ho with rfl|rfl
  ·simp only at h4;split at h4
   ·cases h4;cases F<;>simp[e7]at h5
   ·cases h4
  ·simp[AO.owns]at h3
 have D:∀id,(([AO.vec e []]:List AO).getD id .dead)=(ite (id=0) (AO.vec e []) AO.dead):=by
  intro id;cases id<;>simp
 refine⟨W,T,X,⟨_,_,_,L,λid=>if id=0 then Q1 (.slice F 0 0)else Q2,he,rfl,.vec 0 _ sw (by simp[Value.oneCell']),⟨λid=>?_,λid1 h7 b o=>?_,λid b o=>?_⟩,λid I=>?_,λid v S=>?_,G⟩,H,hf,hl⟩
 ·show bF T L _ id (([AO.vec e []]:List AO).getD id .dead);rw[D];split
  ·rename_i Y;subst Y;exact⟨F,0,sw,sw,.inl ⟨rfl,rfl⟩⟩
  ·trivial
 ·exfalso;have z:ar (λid=>if id=0 then Q1 (.slice F 0 0)else Q2) id1 (([AO.vec e []]:List AO).getD id1 .dead) b:=o;rw[D]at z;split at z
  ·exact u _ _ _ (.inl rfl) z
  ·exact u _ _ _ (.inr rfl) z
 ·exfalso;have z:ar (λid=>if id=0 then Q1 (.slice F 0 0)else Q2) id (([AO.vec e []]:List AO).getD id .dead) b:=o;rw[D]at z;split at z
  ·exact u _ _ _ (.inl rfl) z
  ·exact u _ _ _ (.inr rfl) z
 ·simp at I;simp;omega
 ·rw[hC id]at S;cases S
def iA:Tr zG->List Item×List Item×St
 |.ok (.fork _ h o st)=>(h,o,st)
 |_=>([],[],⟨[],[]⟩)
abbrev kpC:Nat->aN:=λ_=>{ }
noncomputable abbrev KM(l:List zf):Tr zG:=run sX 0 kpC (Func.results Tryz.f160).toList 300 (bC Tryz.f160) (bl (Func.ntmps Tryz.f160) [.sl .expr l] [])
theorem za8:zO sX.P 160 Tryz.f160 1:=bU kw
theorem zrC(l:List zf):KM l=.ok (.fork l.isEmpty (iA (KM l)).1 (iA (KM l)).2.1 (iA (KM l)).2.2):=kw
theorem zpt(l:List zf):run sX 0 kpC (Func.results Tryz.f160).toList 300 (iA (KM l)).1 (iA (KM l)).2.2=.ok (.ret .nils []):=kw
theorem zpu(l:List zf):run sX 0 kpC (Func.results Tryz.f160).toList 300 (iA (KM l)).2.1 (iA (KM l)).2.2=.chk (Q0 (Io l<=1073741824)) (.ok (.ret (.vec 0) [.vec .expr l])):=kw
def G53:iU [Q1 (.sl .expr)]:=λx h=>match h with
 |[]=>.chk (Q0 (Io x.1<=1073741824)) (.ok (.vec 0,[.vec .expr x.1]))
 |_=>.err
def F53:zZ:=bp [Q1 (.sl .expr)] G53
theorem zlh:FK 160 F53:=by
 refine dX za8 λx H G o C z=>?_
 unfold G53 at o;split at o
 ·simp only[Q8]at o;split at o
  ·rename_i D;simp only[bH]at o;subst o;obtain⟨l,u⟩:=x;refine zK (n0:=0) jl za8 z (zrC l) ?_;refine⟨λB=>?_,?_⟩
   ·have E:l=[]:=List.isEmpty_iff.1 B;refine Reach.weaken (Q:=λr h=>(r,h)=(.vec 0,[.vec .expr []])) (Reach.promNil .expr (λid=>z id sw) (zK (n0:=0) jl za8 z (zpt l) rfl)) ?_;intro r h F;cases F;refine⟨_,?_,λ_ _ _ _ h=>h⟩;show(AV.vec 0,[AO.vec Q5 []])=(AV.vec 0,[AO.vec Q5 l]);rw[E]
   ·exact zK (n0:=0) jl za8 z (zpu l) (mM D rfl)
  ·cases o
 ·simp at o
noncomputable abbrev KL(l:List (Sem zj)):Tr zG:=run sX 0 kpC (Func.results Tryz.f156).toList 300 (bC Tryz.f156) (bl (Func.ntmps Tryz.f156) [.sl zj l] [])
theorem za6:zO sX.P 156 Tryz.f156 1:=bU kw
theorem zrk(l:List (Sem zj)):KL l=.ok (.fork l.isEmpty (iA (KL l)).1 (iA (KL l)).2.1 (iA (KL l)).2.2):=kw
theorem zpo(l:List (Sem zj)):run sX 0 kpC (Func.results Tryz.f156).toList 300 (iA (KL l)).1 (iA (KL l)).2.2=.ok (.ret .nils []):=kw
theorem zpp(l:List (Sem zj)):run sX 0 kpC (Func.results Tryz.f156).toList 300 (iA (KL l)).2.1 (iA (KL l)).2.2=.chk (Q0 (Io l<=1073741824)) (.ok (.ret (.vec 0) [.vec zj l])):=kw
def G32:iU [Q1 (.sl zj)]:=λx h=>match h with
 |[]=>.chk (Q0 (Io x.1<=1073741824)) (.ok (.vec 0,[.vec zj x.1]))
 |_=>.err
def F32:zZ:=bp [Q1 (.sl zj)] G32
theorem zkY:FK 156 F32:=by
 refine dX za6 λx H G o C z=>?_
 unfold G32 at o;split at o
 ·simp only[Q8]at o;split at o
  ·rename_i D;simp only[bH]at o;subst o;obtain⟨l,u⟩:=x;refine zK (n0:=0) jl za6 z (zrk l) ?_;refine⟨λB=>?_,?_⟩
   ·have E:l=[]:=List.isEmpty_iff.1 B;refine Reach.weaken (Q:=λr h=>(r,h)=(.vec 0,[.vec zj []])) (Reach.promNil zj (λid=>z id sw) (zK (n0:=0) jl za6 z (zpo l) rfl)) ?_;intro r h F;cases F;refine⟨_,?_,λ_ _ _ _ h=>h⟩;show(AV.vec 0,[AO.vec zj []])=(AV.vec 0,[AO.vec zj l]);rw[E]
   ·exact zK (n0:=0) jl za6 z (zpp l) (mM D rfl)
  ·cases o
 ·simp at o
noncomputable def zg1:=sX.addL [(160,F53),(156,F32)]
theorem Lf:zw zg1:=jl.addL<|fc zlh<|fc zkY iz
def TK(c:zf->Bool):zZ:=zT [.expr] [.expr] (λx=>c x.1) λx=>(x.1,())
noncomputable def Se(c:zf->Bool):bZ:=zg1.add 115 (TK c)
theorem CU{c:zf->Bool}(h:FK 115 (TK c)):zw (Se c):=Lf.add h
abbrev znM:Nat->aN:=λj=>if j=3 then{slots:=[1,2,10,11]}else{ }
abbrev QW(o:Int)(u:Int)(z:zD)(B:Int)(C:Int)(D:zD)(E:zD)(h:List (Sem Q5)):St:={
 tmps:=
  (tm 26 [(1,ptr 0 0),(2,ptr 1 0),(10,ai o),(11,ai u)]),
 heap:=
  [Qa [str z,ai B,ai C,str D,str E,AV.vec 2],
   Qa [str [],ai 0,ai 0,str [],str [],nils],AO.vec Q5 h]}
theorem Ot(c:zf->Bool):zO (Se c).P 115 Tryz.f115 1:=bU kw
theorem zrl(c:zf->Bool)(o:zD)(v:V)(s:zD)(l:List zf):rn (Se c) 0 znM Tryz.f115 [zC Q5 (zf.mk o v s l)] []=
 Qc (Q0 (Io l<=1073741824)) (Tr.ok (zG.head 3 (aj Tryz.f115 3) (QW (↑l.length:Int) 0 o v.1 v.2.1 v.2.2 s l))):=kw
theorem Xc(c:zf->Bool)(u:Int)(o:Int)(z:zD)(B:Int)(C:Int)(D:zD)(E:zD)(h:List (Sem Sh.expr)):rh (Se c) 0 znM Tryz.f115 3 (QW u o z B C D E h)=
 br (Q0 (o<u))
 (chk (zJ o (Io h))
  (chk (decide (o.toNat<Io h))
   (chk (c (zm (h.getD o.toNat (zi Sh.expr))))
    (chk (zJ o (Io h))
     (chk (decide (o.toNat<Io h))
      (Tr.ok
       (zG.head 3 (aj Tryz.f115 3)
        (QW u (Γ Δ (o+1)) z B C D E
         (h.set o.toNat
          (zm (h.getD o.toNat (zi Q5))))))))))))
 (Tr.ok
  (zG.ret (agg [str z,ai B,ai C,str D,str E,AV.vec 0]) [AO.vec Q5 h])):=kw
theorem zqj{c:zf->Bool}(B:FK 115 (TK c)){C:ff}(z:∀id,C.ρ0 id=Q2)(D:zD)(v:V)(s:zD)(l:List zf)(L:Io l<=1073741824)(u:l.all c=Q3):
  ∀(k i:Nat),Io l-i=k->i<=Io l->Reach (Se c) C 115 (aj Tryz.f115 3) (QW (Io l) i D v.1 v.2.1 v.2.2 s l) (λr h=>aI h [.expr] r=Q1 (zf.mk D v s l,())):=by
 intro k
 induction k with
 | zero=>
  intro i J H;obtain rfl:i=Io l:=by omega
  refine zK (n0:=0) (CU B) (Ot c) (λid _=>z id) (Xc c _ _ _ _ _ _ _ _) ?_;simp only[zB,Tr.val_brF];rfl
 | succ k I=>
  intro i J H;have o:i<Io l:=by omega
  refine zK (n0:=0) (CU B) (Ot c) (λid _=>z id) (Xc c _ _ _ _ _ _ _ _) ?_;have E:c l[i]=Q3:=ep.1 u _ (aK o);have F:Q0 ((i:Int).toNat<Io l)=Q3:=by simpa using o
  have G:l.set (i:Int).toNat l[i]=l:=by simp
  simp only[zF o,zt o,cM l _ o,zf.eta,Tr.val_brT,Tr.val_chkT,E,F,G,zr i um];exact I (i+1) ow ow
def sG:Nat->zf->Bool
 |0,_=>Q4
 |n+1,.mk _ _ _ l=>Q0 (Io l<=1073741824)&&l.all (sG n)
theorem Na:∀n,FK 115 (TK (sG n))
 |0=>eY ⟨Tryz.f115,(Ot (λ_=>Q4)).1,(Ot (λ_=>Q4)).2.1,(Ot (λ_=>Q4)).2.2.1⟩ (λ_=>rfl)
 | n+1=>by
  refine aM (E:=Se (sG n)) (Ot _) λx h C o=>?_
  obtain⟨⟨z,v,s,l⟩,u⟩:=x;have h:(Q0 (Io l<=1073741824)&&l.all (sG n))=Q3:=h;simp only[aE,aQ]at h;refine zK (n0:=0) (CU (Na n)) (Ot _) (λid _=>o id) (zrl _ z v s l) ?_;refine mM (by simpa using h.1) ?_;exact zqj (Na n) o z v s l h.1 h.2 _ 0 rfl (aO _)
def F33:zZ:=TK (sG 16)
theorem zkZ:FK 115 F33:=Na 16
noncomputable def mc:=zg1.add 115 F33
theorem jm:zw mc:=Lf.add zkZ
abbrev jb:Sh:=.pr .str .str
abbrev ig:Sh:=.pr .str .expr
abbrev zn:Sh:=.pr .str (.pr .str (.pr .str (.pr (.sl .str) (.pr (.sl zj) (.pr .str (.pr (.sl .str) (.pr (.sl jb) (.pr .expr (.pr (.sl ze) (.pr (.sl ig) (.pr .expr .str)))))))))))
def Fz(x:Sem zn):Sem zn:=(x.1,x.2.1,x.2.2.1,x.2.2.2.1,x.2.2.2.2.1,x.2.2.2.2.2.1,x.2.2.2.2.2.2.1,x.2.2.2.2.2.2.2.1,zm x.2.2.2.2.2.2.2.2.1,x.2.2.2.2.2.2.2.2.2.1,x.2.2.2.2.2.2.2.2.2.2.1,zm x.2.2.2.2.2.2.2.2.2.2.2.1,x.2.2.2.2.2.2.2.2.2.2.2.2)
theorem PU(x:Sem zn):Fz x=x:=by unfold Fz;rw[zk,zk]
abbrev zd1:Nat->aN:=λj=>if j=2 then{slots:=[0,2,4]}else{ }
abbrev EI(z:TS)(u:Int)(h:Int)(o:List UInt8):St:={tmps:=(tm 37 [(0,str z),(2,ptr 0 0),(4,ai u)]),heap:=[Qa [ai h,str o]]}
theorem WU:zO (mc).P 292 Tryz.f292 1:=bU kw
theorem zmA(h:TS):rn mc 0 zd1 Tryz.f292 [zC Q6 h] []=Tr.ok (zG.head 2 (aj Tryz.f292 2) (EI h 1 0 [])):=kw
theorem zbb(o:TS)(h:Int)(u:Int)(z:List UInt8):rh mc 0 zd1 Tryz.f292 2 (EI o h u z)=br (Q0 (h<(↑(Io o):Int))) (Qc (zJ h (Io o)) (br ((↑(getD o h.toNat 0).toNat:Int)!=39) (Tr.ok (zG.head 2 (aj Tryz.f292 2) (EI o (Γ Δ (h+1)) u z))) (Qc (cond (Q0 (Γ Δ (h+1)<(↑(Io o):Int))) (zJ (Γ Δ (h+1)) (Io o)) Q3) (br (cond (Q0 (Γ Δ (h+1)<(↑(Io o):Int))) ((↑(getD o (Γ Δ (h+1)).toNat 0).toNat:Int)==39) Q4) (Tr.ok (zG.head 2 (aj Tryz.f292 2) (EI o (Γ Δ (Γ Δ (h+1)+1)) u z))) (Qc (Q0 (0<=1)&&Q0 (1<=h)&&Q0 (h<=(↑(Io o):Int))) (Qc (wy (Qg (h.toNat-toNat 1) (Qh (toNat 1) o)) nU [39]) (Tr.ok (zG.ret (tup [agg [ai 3,str (Lib.replaceAll (Qg (h.toNat-toNat 1) (Qh (toNat 1) o)) nU [39])],ai (Γ Δ (h+1))]) [])))))))) (Tr.ok (zG.ret (tup [agg [ai 0,str []],ai 0]) [])):=kw
def e8:Nat->(Sem Sh.str)->Int->Int->(List UInt8)->Sem cg×Sem zg
 |0,_,_,_,_=>default
 |n+1,o,h,u,z=>(if Q0 (h<(↑(Io o):Int))=Q3 then
 if((↑(getD o h.toNat 0).toNat:Int)!=39)=Q3 then e8 n o (Γ Δ (h+1)) u z
 else
  if
    (bif Q0 (Γ Δ (h+1)<(↑(Io o):Int))then(↑(getD o (Γ Δ (h+1)).toNat 0).toNat:Int)==39
     else Q4)=
     Q3 then
   e8 n o (Γ Δ (Γ Δ (h+1)+1)) u z
  else((3,Lib.replaceAll (Qg (h.toNat-toNat 1) (Qh (toNat 1) o)) nU [39]),Γ Δ (h+1))
else((0,[]),0))
def jv:Nat->(Sem Sh.str)->Int->Int->(List UInt8)->Bool
 |0,_,_,_,_=>Q4
 |n+1,o,h,u,z=>(if Q0 (h<(↑(Io o):Int))=Q3 then
 if zJ h (Io o)=true then
  if((↑(getD o h.toNat 0).toNat:Int)!=39)=Q3 then jv n o (Γ Δ (h+1)) u z
  else
   if (cond (decide (Γ Δ (h+1) < (↑(Io o):Int))) (zJ (Γ Δ (h+1)) (Io o)) true)=true then
    if
      (bif Q0 (Γ Δ (h+1)<(↑(Io o):Int))then(↑(getD o (Γ Δ (h+1)).toNat 0).toNat:Int)==39
       else Q4)=
       Q3 then
     jv n o (Γ Δ (Γ Δ (h+1)+1)) u z
    else
     if(Q0 (0<=1)&&Q0 (1<=h)&&Q0 (h<=(↑(Io o):Int)))=Q3 then
      if wy (Qg (h.toNat-toNat 1) (Qh (toNat 1) o)) nU [39]=Q3 then Q3 else Q4
     else Q4
   else Q4
 else Q4
else Q3)
theorem Pw{C:ff}(F:∀id,C.ρ0 id=Q2):∀(n:Nat)(E:TS)(D:Int)(o:Int)(u:List UInt8),jv n E D o u=Q3->
  Reach (mc) C 292 (aj Tryz.f292 2) (EI E D o u) (λr h=>aI h [cg,zg] r=Q1 ((e8 n E D o u).1,(e8 n E D o u).2,()))
 |0,E,D,o,u,z=>by cases z
 | n+1,E,D,o,u,z=>by
  refine zK jm (WU) (λid _=>F id) (zbb _ _ _ _) ?_;rw[jv]at z;generalize B:e8 (n+1) E D o u=y;rw[e8]at B
  try simp only[zf.eta,zk]
  repeat' (first|with_reducible refine vK B z (λ_ B z=>?_) (λ_ B z=>?_)|with_reducible refine du B (λ_ B=>?_) (λ_ B=>?_)|with_reducible refine iH z (λz=>?_)|with_reducible refine zP ?_)
  all_goals first|(cases z;done)|(subst B;first|(change Reach _ _ _ _ _ _;refine Pw F n _ _ _ _ ?_<;>exact z)|rfl)
def eo(h:TS):Sem cg×Sem zg:=(e8 (Io h+1) h 1 0 [])
def kE(h:TS):Bool:=(jv (Io h+1) h 1 0 [])
def zji:zZ:=zT [Q6] [cg,zg] (λx=>kE x.1) λx=>((eo x.1).1,(eo x.1).2,())
theorem zeP:FK 292 zji:=by
 refine aM (WU) λx h C u=>?_
 unfold kE at h;refine zK jm (WU) (λid _=>u id) (zmA x.1) ?_;generalize o:eo x.1=y;unfold eo at o
 try simp only[zf.eta,zk]
 repeat' (first|with_reducible refine vK o h (λ_ o h=>?_) (λ_ o h=>?_)|with_reducible refine du o (λ_ o=>?_) (λ_ o=>?_)|with_reducible refine iH h (λh=>?_)|with_reducible refine zP ?_)
 all_goals first|(cases h;done)|(subst o;first|(change Reach _ _ _ _ _ _;refine Pw u _ _ _ _ _ ?_<;>exact h)|rfl)
abbrev znu:Nat->aN:=λ_=>{ }
theorem zed:zO (mc).P 276 Tryz.f276 1:=bU kw
theorem zmy(h:Sem Q5):rn mc 0 znu Tryz.f276 [zC Q5 h] []=Tr.ok (zG.ret (AV.bool (cond (zf.op h==[]) (cond ((zf.v h).1==0&&((zf.v h).2.1==0&&((zf.v h).2.2==[]&&Q3))) (cond (zf.s h==[]) ((↑(zf.l h).length:Int)==0) Q4) Q4) Q4)) []):=kw
def g9(h:Sem Q5):Sem Q7:=(cond (zf.op h==[]) (cond ((zf.v h).1==0&&((zf.v h).2.1==0&&((zf.v h).2.2==[]&&Q3))) (cond (zf.s h==[]) ((↑(zf.l h).length:Int)==0) Q4) Q4) Q4)
def zi8:zZ:=aH [Q5] [Q7] λx=>(g9 x.1,())
theorem zeF:FK 276 zi8:=by
 refine ag (zed) λx C o=>?_
 refine zK jm (zed) (λid _=>o id) (zmy x.1) ?_;generalize h:g9 x.1=y;unfold g9 at h
 try simp only[zf.eta,zk]
 repeat' (first|with_reducible refine du h (λ_ h=>?_) (λ_ h=>?_)|with_reducible refine zP ?_)
 all_goals first|(cases hc;done)|(subst h;first|rfl)
abbrev zsn:Nat->aN:=λ_=>{ }
theorem zph:zO (mc).P 241 Tryz.f241 1:=bU kw
theorem zrT(h:TS):rn mc 0 zsn Tryz.f241 [zC Q6 h] []=Tr.ok (zG.ret (str h) []):=kw
def ms(h:TS):Sem Q6:=(h)
def F88:zZ:=aH [Q6] [Q6] λx=>(ms x.1,())
theorem zlK:FK 241 F88:=by
 refine ag (zph) λx C o=>?_
 refine zK jm (zph) (λid _=>o id) (zrT x.1) ?_;generalize h:ms x.1=y;unfold ms at h
 try simp only[zf.eta,zk]
 repeat' (first|with_reducible refine du h (λ_ h=>?_) (λ_ h=>?_)|with_reducible refine zP ?_)
 all_goals first|(cases hc;done)|(subst h;first|rfl)
abbrev zsk:Nat->aN:=λ_=>{ }
theorem zpd:zO (mc).P 233 Tryz.f233 1:=bU kw
theorem zrQ(h:TS):rn mc 0 zsk Tryz.f233 [zC Q6 h] []=Tr.ok (zG.ret (AV.bool (cond (ei h) (!jw h) Q4)) []):=kw
def bV(h:TS):Sem Q7:=(cond (ei h) (!jw h) Q4)
def F80:zZ:=aH [Q6] [Q7] λx=>(bV x.1,())
theorem zlG:FK 233 F80:=by
 refine ag (zpd) λx C o=>?_
 refine zK jm (zpd) (λid _=>o id) (zrQ x.1) ?_;generalize h:bV x.1=y;unfold bV at h
 try simp only[zf.eta,zk]
 repeat' (first|with_reducible refine du h (λ_ h=>?_) (λ_ h=>?_)|with_reducible refine zP ?_)
 all_goals first|(cases hc;done)|(subst h;first|rfl)
abbrev znT:Nat->aN:=λ_=>{unroll:=Q3}
theorem zeh:zO (mc).P 178 Tryz.f178 1:=bU kw
theorem zmL(h:Sem cg):rn mc 0 znT Tryz.f178 [zC cg h] []=br (h.1==3) (Tr.ok (zG.ret (AV.bool (aU (2,0,h.2))) [])) (br (h.1==4) (Qc (cond ((↑(Io h.2):Int)==1) (Io h.2==1) Q3) (Tr.ok (zG.ret (AV.bool (cond ((↑(Io h.2):Int)==1) (Q0 (0<=Lib.indexByte zgN (List.headD h.2 0))) Q4)) []))) (br Q3 (Qc Q3 (br (1==h.1) (Tr.ok (zG.ret (AV.bool (cond (Q0 ((↑(Io h.2):Int)>=1)) (cond (Q0 ((↑(Io h.2):Int)<=16)) ((↑(aP aL bz h.2):Int)==(↑(Io h.2):Int)) Q4) Q4)) [])) (br Q3 (Qc Q3 (br (2==h.1) (Tr.ok (zG.ret (AV.bool (cond (Q0 ((↑(Io h.2):Int)>=1)) (cond (Q0 ((↑(Io h.2):Int)<=19)) ((↑(aP zY zY h.2):Int)==(↑(Io h.2):Int)) Q4) Q4)) [])) (br Q4 Tr.err (Tr.ok (zG.ret (kb Q4) []))))) (Tr.ok (zG.ret (kb Q4) []))))) (Tr.ok (zG.ret (kb Q4) [])))):=kw
def cq(h:Sem cg):Sem Q7:=(ite ((h.1==3)=Q3) (aU (2,0,h.2)) (ite ((h.1==4)=Q3) (cond ((↑(Io h.2):Int)==1) (Q0 (0<=Lib.indexByte zgN (List.headD h.2 0))) Q4) (ite (Q3=Q3) (ite ((1==h.1)=Q3) (cond (Q0 ((↑(Io h.2):Int)>=1)) (cond (Q0 ((↑(Io h.2):Int)<=16)) ((↑(aP aL bz h.2):Int)==(↑(Io h.2):Int)) Q4) Q4) (ite (Q3=Q3) (ite ((2==h.1)=Q3) (cond (Q0 ((↑(Io h.2):Int)>=1)) (cond (Q0 ((↑(Io h.2):Int)<=19)) ((↑(aP zY zY h.2):Int)==(↑(Io h.2):Int)) Q4) Q4) (ite (Q4=Q3) default Q4)) Q4)) Q4)))
def su(h:Sem cg):Bool:=(ite ((h.1==3)=Q3) Q3 (ite ((h.1==4)=Q3) (ite ((cond ((↑(Io h.2):Int)==1) (Io h.2==1) Q3)=Q3) Q3 Q4) (ite (Q3=Q3) (ite (Q3=Q3) (ite ((1==h.1)=Q3) Q3 (ite (Q3=Q3) (ite (Q3=Q3) (ite ((2==h.1)=Q3) Q3 (ite (Q4=Q3) Q4 Q3)) Q4) Q3)) Q4) Q3)))
def zj7:zZ:=zT [cg] [Q7] (λx=>su x.1) λx=>(cq x.1,())
theorem zfH:FK 178 zj7:=by
 refine aM (zeh) λx o C u=>?_
 unfold su at o;refine zK jm (zeh) (λid _=>u id) (zmL x.1) ?_;generalize h:cq x.1=y;unfold cq at h
 try simp only[zf.eta,zk]
 repeat' (first|with_reducible refine vK h o (λ_ h o=>?_) (λ_ h o=>?_)|with_reducible refine du h (λ_ h=>?_) (λ_ h=>?_)|with_reducible refine iH o (λo=>?_)|with_reducible refine zP ?_)
 all_goals first|(cases o;done)|(subst h;first|rfl)
noncomputable def lp:=mc.addL [(292,zji),(276,zi8),(241,F88),(233,F80),(178,zj7)]
theorem ia:zw lp:=jm.addL<|fc zeP<|fc zeF<|fc zlK<|fc zlG<|fc zfH iz
abbrev zsl:Nat->aN:=λ_=>{ }
theorem zpf:zO (lp).P 238 Tryz.f238 1:=bU kw
theorem zrR(h:Sem Q5):rn lp 0 zsl Tryz.f238 [zC Q5 h] []=Tr.ok (zG.ret (AV.bool (cond (g9 (zm h)) Q3 (cG (zm h)))) []):=kw
def bW(h:Sem Q5):Sem Q7:=(cond (g9 h) Q3 (cG h))
def F85:zZ:=aH [Q5] [Q7] λx=>(bW x.1,())
theorem zlH:FK 238 F85:=by
 refine ag (zpf) λx C o=>?_
 refine zK ia (zpf) (λid _=>o id) (zrR x.1) ?_;generalize h:bW x.1=y;unfold bW at h
 try simp only[zf.eta]
 repeat' (first|with_reducible refine du h (λ_ h=>?_) (λ_ h=>?_)|with_reducible refine zP ?_)
 all_goals first|(cases hc;done)|(subst h;first|rfl)
def zma(h:Sem zj):Sem Q7:=(cond (bV h.1) (cond (Q0 (h.2.1>=1)) (Q0 (h.2.1<=3)) Q4) Q4)
def zpH(h:Sem jb):Sem Q7:=(cond (bV h.1) (bV h.2) Q4)
abbrev zsp:Nat->aN:=λ_=>{ }
theorem zpi:zO (lp).P 245 Tryz.f245 1:=bU kw
theorem zrU(h:Sem ze):rn lp 0 zsp Tryz.f245 [zC ze h] []=br (!aU h) (Tr.ok (zG.ret (str []) [])) (br (h.1==1) (Qc (10==10) (Tr.ok (zG.ret (str (tc h.2.1)) []))) (br (h.1==2) (Qc (wy h.2.2 [39] nU) (Qc (Q0 ([39].length+(Lib.replaceAll h.2.2 [39] nU).length<=1099511627776)) (Qc (Q0 (Io ([39]++Lib.replaceAll h.2.2 [39] nU)+[39].length<=1099511627776)) (Tr.ok (zG.ret (str ([39]++Lib.replaceAll h.2.2 [39] nU++[39])) []))))) (br (h.1==3) (br (eh h==2) (Tr.ok (zG.ret (str H8) [])) (Tr.ok (zG.ret (str H7) []))) (Tr.ok (zG.ret (str Fv) []))))):=kw
def ii(h:Sem ze):Sem Q6:=(ite ((!aU h)=Q3) [] (ite ((h.1==1)=Q3) (tc h.2.1) (ite ((h.1==2)=Q3) ([39]++Lib.replaceAll h.2.2 [39] nU++[39]) (ite ((h.1==3)=Q3) (ite ((eh h==2)=Q3) H8 H7) Fv))))
def yQ(h:Sem ze):Bool:=(ite ((!aU h)=Q3) Q3 (ite ((h.1==1)=Q3) (ite ((10==10)=Q3) Q3 Q4) (ite ((h.1==2)=Q3) (ite (wy h.2.2 [39] nU=Q3) (ite (Q0 ([39].length+(Lib.replaceAll h.2.2 [39] nU).length<=1099511627776)=Q3) (ite (Q0 (Io ([39]++Lib.replaceAll h.2.2 [39] nU)+[39].length<=1099511627776)=Q3) Q3 Q4) Q4) Q4) Q3)))
def F92:zZ:=zT [ze] [Q6] (λx=>yQ x.1) λx=>(ii x.1,())
theorem zlQ:FK 245 F92:=by
 refine aM (zpi) λx o C u=>?_
 unfold yQ at o;refine zK ia (zpi) (λid _=>u id) (zrU x.1) ?_;generalize h:ii x.1=y;unfold ii at h
 try simp only[zf.eta,zk]
 repeat' (first|with_reducible refine vK h o (λ_ h o=>?_) (λ_ h o=>?_)|with_reducible refine du h (λ_ h=>?_) (λ_ h=>?_)|with_reducible refine iH o (λo=>?_)|with_reducible refine zP ?_)
 all_goals first|(cases o;done)|(subst h;first|rfl)
abbrev zsm:Nat->aN:=λ_=>{ }
theorem zpg:zO (lp).P 240 Tryz.f240 1:=bU kw
theorem zrS(h:Sem zn):rn lp 0 zsm Tryz.f240 [zC zn h] []=Qc (Q0 (Io h.2.1+Io h.2.2.1<=1099511627776)) (Qc (Q0 (Io (h.2.1++h.2.2.1)+Io h.2.2.2.2.2.1<=1099511627776)) (Qc (Q0 (Io (h.2.1++h.2.2.1++h.2.2.2.2.2.1)+Io h.2.2.2.2.2.2.2.2.2.2.2.2<=1099511627776)) (Tr.ok (zG.ret (AV.bool (cond (h.2.1++h.2.2.1++h.2.2.2.2.2.1++h.2.2.2.2.2.2.2.2.2.2.2.2==[]) (cond (Γ Δ (Γ Δ (Γ Δ (Γ Δ (Γ Δ ((↑(Io h.2.2.2.1):Int)+(↑(Io h.2.2.2.2.1):Int))+(↑(Io h.2.2.2.2.2.2.1):Int))+(↑(Io h.2.2.2.2.2.2.2.1):Int))+(↑(Io h.2.2.2.2.2.2.2.2.2.1):Int))+(↑(Io h.2.2.2.2.2.2.2.2.2.2.1):Int))==0) (cond (g9 (zm h.2.2.2.2.2.2.2.2.1)) (g9 (zm h.2.2.2.2.2.2.2.2.2.2.2.1)) Q4) Q4) Q4)) [])))):=kw
def eJ(h:Sem zn):Sem Q7:=(cond (h.2.1++h.2.2.1++h.2.2.2.2.2.1++h.2.2.2.2.2.2.2.2.2.2.2.2==[]) (cond (Γ Δ (Γ Δ (Γ Δ (Γ Δ (Γ Δ ((↑(Io h.2.2.2.1):Int)+(↑(Io h.2.2.2.2.1):Int))+(↑(Io h.2.2.2.2.2.2.1):Int))+(↑(Io h.2.2.2.2.2.2.2.1):Int))+(↑(Io h.2.2.2.2.2.2.2.2.2.1):Int))+(↑(Io h.2.2.2.2.2.2.2.2.2.2.1):Int))==0) (cond (g9 h.2.2.2.2.2.2.2.2.1) (g9 h.2.2.2.2.2.2.2.2.2.2.2.1) Q4) Q4) Q4)
def ez(h:Sem zn):Bool:=(ite (Q0 (Io h.2.1+Io h.2.2.1<=1099511627776)=Q3) (ite (Q0 (Io (h.2.1++h.2.2.1)+Io h.2.2.2.2.2.1<=1099511627776)=Q3) (ite (Q0 (Io (h.2.1++h.2.2.1++h.2.2.2.2.2.1)+Io h.2.2.2.2.2.2.2.2.2.2.2.2<=1099511627776)=Q3) Q3 Q4) Q4) Q4)
def F87:zZ:=zT [zn] [Q7] (λx=>ez x.1) λx=>(eJ x.1,())
theorem zlJ:FK 240 F87:=by
 refine aM (zpg) λx o C u=>?_
 unfold ez at o;refine zK ia (zpg) (λid _=>u id) (zrS x.1) ?_;generalize h:eJ x.1=y;unfold eJ at h
 try simp only[zf.eta]
 repeat' (first|with_reducible refine vK h o (λ_ h o=>?_) (λ_ h o=>?_)|with_reducible refine du h (λ_ h=>?_) (λ_ h=>?_)|with_reducible refine iH o (λo=>?_)|with_reducible refine zP ?_)
 all_goals first|(cases o;done)|(subst h;first|rfl)
abbrev zss:Nat->aN:=λ_=>{unroll:=Q3}
theorem zpm:zO (lp).P 252 Tryz.f252 1:=bU kw
theorem zrY(h:TS):rn lp 0 zss Tryz.f252 [zC Q6 h] []=br Q3 (Qc Q3 (br (Q0 ((↑(aP aL bz h):Int)>0)) (Qc (Q0 (0<=0)&&Q0 (0<=(↑(aP aL bz h):Int))&&Q0 ((↑(aP aL bz h):Int)<=(↑(Io h):Int))) (Tr.ok (zG.ret (tup [agg [ai 1,str (Qg ((↑(aP aL bz h):Int).toNat-toNat 0) (Qh (toNat 0) h))],ai (↑(aP aL bz h):Int)]) []))) (br Q3 (Qc Q3 (br (Q0 ((↑(aP zY zY h):Int)>0)) (Qc (Q0 (0<=0)&&Q0 (0<=(↑(aP zY zY h):Int))&&Q0 ((↑(aP zY zY h):Int)<=(↑(Io h):Int))) (Tr.ok (zG.ret (tup [agg [ai 2,str (Qg ((↑(aP zY zY h):Int).toNat-toNat 0) (Qh (toNat 0) h))],ai (↑(aP zY zY h):Int)]) []))) (br Q4 Tr.err (Qc (zJ 0 (Io h)) (br ((↑(getD h (toNat 0) 0).toNat:Int)==39) (Qc (kE h) (Tr.ok (zG.ret (tup [agg [ai (eo h).1.1,str (eo h).1.2],ai (eo h).2]) []))) (Qc (Q0 (0<=0)&&Q0 (0<=1)&&Q0 (1<=(↑(Io h):Int))) (Tr.ok (zG.ret (tup [agg [ai 4,str (Qg (toNat 1-toNat 0) (Qh (toNat 0) h))],ai 1]) [])))))))) (Qc (zJ 0 (Io h)) (br ((↑(getD h (toNat 0) 0).toNat:Int)==39)
 (Qc (kE h) (Tr.ok (zG.ret (tup [agg [ai (eo h).1.1,str (eo h).1.2],ai (eo h).2]) []))) (Qc (Q0 (0<=0)&&Q0 (0<=1)&&Q0 (1<=(↑(Io h):Int))) (Tr.ok (zG.ret (tup [agg [ai 4,str (Qg (toNat 1-toNat 0) (Qh (toNat 0) h))],ai 1]) [])))))))) (Qc (zJ 0 (Io h)) (br ((↑(getD h (toNat 0) 0).toNat:Int)==39) (Qc (kE h) (Tr.ok (zG.ret (tup [agg [ai (eo h).1.1,str (eo h).1.2],ai (eo h).2]) []))) (Qc (Q0 (0<=0)&&Q0 (0<=1)&&Q0 (1<=(↑(Io h):Int))) (Tr.ok (zG.ret (tup [agg [ai 4,str (Qg (toNat 1-toNat 0) (Qh (toNat 0) h))],ai 1]) []))))):=kw
def bJ(h:TS):Sem cg×Sem zg:=(ite (Q3=Q3) (ite (Q0 ((↑(aP aL bz h):Int)>0)=Q3) ((1,Qg ((↑(aP aL bz h):Int).toNat-toNat 0) (Qh (toNat 0) h)),(↑(aP aL bz h):Int)) (ite (Q3=Q3) (ite (Q0 ((↑(aP zY zY h):Int)>0)=Q3) ((2,Qg ((↑(aP zY zY h):Int).toNat-toNat 0) (Qh (toNat 0) h)),(↑(aP zY zY h):Int)) (ite (Q4=Q3) default (ite (((↑(getD h (toNat 0) 0).toNat:Int)==39)=Q3) ((eo h).1,(eo h).2) ((4,Qg (toNat 1-toNat 0) (Qh (toNat 0) h)),1)))) (ite (((↑(getD h (toNat 0) 0).toNat:Int)==39)=Q3) ((eo h).1,(eo h).2) ((4,Qg (toNat 1-toNat 0) (Qh (toNat 0) h)),1)))) (ite (((↑(getD h (toNat 0) 0).toNat:Int)==39)=Q3) ((eo h).1,(eo h).2) ((4,Qg (toNat 1-toNat 0) (Qh (toNat 0) h)),1)))
def kW(h:TS):Bool:=(ite (Q3=Q3) (ite (Q3=Q3) (ite (Q0 ((↑(aP aL bz h):Int)>0)=Q3) (ite ((Q0 (0<=0)&&Q0 (0<=(↑(aP aL bz h):Int))&&Q0 ((↑(aP aL bz h):Int)<=(↑(Io h):Int)))=Q3) Q3 Q4) (ite (Q3=Q3) (ite (Q3=Q3) (ite (Q0 ((↑(aP zY zY h):Int)>0)=Q3) (ite ((Q0 (0<=0)&&Q0 (0<=(↑(aP zY zY h):Int))&&Q0 ((↑(aP zY zY h):Int)<=(↑(Io h):Int)))=Q3) Q3 Q4) (ite (Q4=Q3) Q4 (ite (zJ 0 (Io h)=Q3) (ite (((↑(getD h (toNat 0) 0).toNat:Int)==39)=Q3) (ite (kE h=Q3) Q3 Q4) (ite ((Q0 (0<=0)&&Q0 (0<=1)&&Q0 (1<=(↑(Io h):Int)))=Q3) Q3 Q4)) Q4))) Q4) (ite (zJ 0 (Io h)=Q3) (ite (((↑(getD h (toNat 0) 0).toNat:Int)==39)=Q3) (ite (kE h=Q3) Q3 Q4) (ite ((Q0 (0<=0)&&Q0 (0<=1)&&Q0 (1<=(↑(Io h):Int)))=Q3) Q3 Q4)) Q4))) Q4) (ite (zJ 0 (Io h)=Q3) (ite (((↑(getD h (toNat 0) 0).toNat:Int)==39)=Q3) (ite (kE h=Q3) Q3 Q4) (ite ((Q0 (0<=0)&&Q0 (0<=1)&&Q0 (1<=(↑(Io h):Int)))=Q3) Q3 Q4)) Q4))
def F99:zZ:=zT [Q6] [cg,zg] (λx=>kW x.1) λx=>((bJ x.1).1,(bJ x.1).2,())
theorem zlU:FK 252 F99:=by
 refine aM (zpm) λx o C u=>?_
 unfold kW at o;refine zK ia (zpm) (λid _=>u id) (zrY x.1) ?_;generalize h:bJ x.1=y;unfold bJ at h
 try simp only[zf.eta,zk]
 repeat' (first|with_reducible refine vK h o (λ_ h o=>?_) (λ_ h o=>?_)|with_reducible refine du h (λ_ h=>?_) (λ_ h=>?_)|with_reducible refine iH o (λo=>?_)|with_reducible refine zP ?_)
 all_goals first|(cases o;done)|(subst h;first|rfl)
abbrev zoi:Nat->aN:=λj=>if j=3 then{slots:=[1,5,8,9,10],prom:=[(5,Q2,.str)]}else{ }
abbrev MP(z:LS)(u:Int)(o:Int)(h:LS):St:={tmps:=(tm 23 [(1,AV.clo (Fn.func 241) [] []),(5,AV.vec 0),(8,sl Q6 z),(9,ai u),(10,ai o)]),heap:=[AO.vec Q6 h]}
theorem zba:zO (lp).P 250 Tryz.f250 2:=bU kw
theorem zrW(h:Sem Sh.str.sl):rn lp 0 zoi Tryz.f250 [zC Sh.str.sl h,AV.clo (Fn.func 241) [] []] []=Tr.ok (zG.head 3 (aj Tryz.f250 3) (MP h (↑(Io h):Int) 0 [])):=kw
theorem Xg(u:LS)(z:Int)(o:Int)(h:LS):rh lp 0 zoi Tryz.f250 3 (MP u z o h)=br (Q0 (o<z)) (Qc (zJ o (Io u)) (Qc (Q0 (Io h+[ms (u.getD o.toNat (zi Q6))].length<=1073741824)) (Tr.ok (zG.head 3 (aj Tryz.f250 3) (MP u z (Γ Δ (o+1)) (h++[ms (u.getD o.toNat (zi Q6))])))))) (Qc (Q0 (Io h<=140737488355328)&&Q0 ((Lib.join h eZ).length<=140737488355328)) (Tr.ok (zG.ret (str (Lib.join h eZ)) []))):=kw
def dO:List (Sem Q6)->Int->List (Sem Q6)->Sem Q6
 |[],_,h=>(Lib.join h eZ)
 |x::r,o,h=>(dO r (o+1) (h++[ms x]))
def ef:List (Sem Q6)->Int->List (Sem Q6)->Bool
 |[],_,h=>(ite ((Q0 (Io h<=140737488355328)&&Q0 ((Lib.join h eZ).length<=140737488355328))=Q3) Q3 Q4)
 |x::r,o,h=>(ite (Q0 (Io h+[ms x].length<=1073741824)=Q3) (ef r (o+1) (h++[ms x])) Q4)
theorem zgC{C:ff}(G:∀id,C.ρ0 id=Q2)(D:LS)(L:Io D<=aG):∀(m i:Nat)(o:LS),Io D-i=m->i<=Io D->ef (D.drop i) i o=Q3->
  Reach (lp) C 250 (aj Tryz.f250 3) (MP D (Io D:Int) (i:Int) o) (λr h=>aI h [Q6] r=Q1 (dO (D.drop i) i o,())):=by
 intro m
 induction m with
 | zero=>
  intro i o J H u;obtain rfl:i=Io D:=by omega
  rw[jK]at u⊢;refine zK ia (zba) (λid _=>G id) (Xg _ _ _ _) ?_;rw[ef]at u;generalize z:dO [] _ o=y;rw[dO]at z;simp only[zB,Tr.val_brF];repeat' (first|with_reducible refine vK z u (λ_ z u=>?_) (λ_ z u=>?_)|with_reducible refine du z (λ_ z=>?_) (λ_ z=>?_)|with_reducible refine iH u (λu=>?_)|with_reducible refine zP ?_)
  all_goals first|(cases u;done)|(subst z;first|rfl)
 | succ m I=>
  intro i o J H u;have B:i<Io D:=by omega
  have I:=I (i+1);have E:((i:Int)+1)=((i+1:Nat):Int):=by omega
  have F:=zr i ow;rw[fj B]at u⊢;refine zK ia (zba) (λid _=>G id) (Xg _ _ _ _) ?_;rw[ef]at u;generalize z:dO (D[i]::D.drop (i+1)) (i:Int) o=y;rw[dO]at z;simp only[zF B,zt B,cM D _ B,F,Tr.val_brT,Tr.val_chkT];clear F
  try simp only[zt B]at z
  simp only[E]at z
  try simp only[zt B]at u
  try simp only[E]at u
  repeat' (first|with_reducible refine vK z u (λ_ z u=>?_) (λ_ z u=>?_)|with_reducible refine du z (λ_ z=>?_) (λ_ z=>?_)|with_reducible refine iH u (λu=>?_)|with_reducible refine zP ?_)
  all_goals first|(cases u;done)|(subst z;first|(change Reach _ _ _ _ _ _;apply I<;>first|omega|assumption)|rfl)
theorem ZV{C:ff}(z:∀id,C.ρ0 id=Q2)(u:LS)(o:LS)(B:ef u 0 o=Q3):
  Reach (lp) C 250 (aj Tryz.f250 3) (MP u (Io u:Int) 0 o) (λr h=>aI h [Q6] r=Q1 (dO u 0 o,())):=
 Reach.len 8 (Q6) u rfl λD=>zgC z u D _ 0 o rfl (aO _) B
def gI(h:Sem Sh.str.sl):Sem Q6:=(dO h 0 [])
def nK(h:Sem Sh.str.sl):Bool:=(ef h 0 [])
def F97:zZ:=Xu [Sh.str.sl] [Q6] [(241,(λx=>nK x.1),λx=>(gI x.1,()))]
theorem zlS:FK 250 F97:=by
 refine Nb (zba) λj c g z x h C u=>?_
 simp only[eD,cF]at z;obtain⟨rfl,rfl,rfl⟩:=z
 replace h:nK x.1=Q3:=h
 unfold nK at h;refine zK ia (zba) (λid _=>u id) (zrW x.1) ?_;generalize o:gI x.1=y;unfold gI at o
 skip
 repeat' (first|with_reducible refine vK o h (λ_ o h=>?_) (λ_ o h=>?_)|with_reducible refine du o (λ_ o=>?_) (λ_ o=>?_)|with_reducible refine iH h (λh=>?_)|with_reducible refine zP ?_)
 all_goals first|(cases h;done)|(subst o;first|(change Reach _ _ _ _ _ _;apply ZV u<;>first|assumption|exact h)|rfl)
noncomputable def PI:=lp.addL [(238,F85),(245,F92),(240,F87),(252,F99),(250,F97)]
theorem xE:zw PI:=ia.addL<|fc zlH<|fc zlQ<|fc zlJ<|fc zlU<|fc zlS iz
noncomputable def zja:zZ:=bp (List.replicate 2 Q2) (fA PI Tryz.f278 (List.replicate 2 Q2))
theorem zeH:FK 278 zja:=ch _ xE (bU kw)
noncomputable def UO(g:Sem Q5->Sem Q6)(c:Sem Q5->Bool):bZ:=PI.add 316 (zT [Q5] [Q6] (λx=>c x.1) λx=>(g x.1,()))
theorem Sc{g:Sem Q5->Sem Q6}{c:Sem Q5->Bool}(h:FK 316 (zT [Q5] [Q6] (λx=>c x.1) λx=>(g x.1,()))):zw (UO g c):=xE.add h
abbrev zhU:Nat->aN:=λ_=>{ }
theorem DO(g:Sem Q5->Sem Q6)(c:Sem Q5->Bool):zO (UO g c).P 316 Tryz.f316 1:=bU kw
theorem zhg(g:Sem Q5->Sem Q6)(c:Sem Q5->Bool)(h:Sem Q5):rn (UO g c) 0 zhU Tryz.f316 [zC Q5 h] []=br (zf.op h==kH) (Qc (yQ (zf.v h)) (Tr.ok (zG.ret (str (ii (zf.v h))) []))) (br (zf.op h==cX) (Tr.ok (zG.ret (str (zf.s h)) [])) (br (zf.op h==mS) (Qc (zJ 0 (zf.l h).length) (Qc (c (zm ((zf.l h).getD (toNat 0) (zi Q5)))) (Qc (Q0 (Io uO+Io (g (zm ((zf.l h).getD (toNat 0) (zi Q5))))<=1099511627776)) (Qc (Q0 (Io (uO++g (zm ((zf.l h).getD (toNat 0) (zi Q5))))+[41].length<=1099511627776)) (Tr.ok (zG.ret (str (uO++g (zm ((zf.l h).getD (toNat 0) (zi Q5)))++[41])) [])))))) (br (zf.op h==pb) (Qc (zJ 0 (zf.l h).length) (Qc (c (zm ((zf.l h).getD (toNat 0) (zi Q5)))) (Qc (Q0 ([40].length+Io (g (zm ((zf.l h).getD (toNat 0) (zi Q5))))<=1099511627776)) (Qc (Q0 (Io ([40]++g (zm ((zf.l h).getD (toNat 0) (zi Q5))))+Io Cw<=1099511627776)) (Tr.ok (zG.ret (str ([40]++g (zm ((zf.l h).getD (toNat 0) (zi Q5)))++Cw)) [])))))) (Qc (zJ 0 (zf.l h).length) (Qc (c (zm ((zf.l h).getD (toNat 0) (zi Q5)))) (Qc (Q0 ([40].length+Io (g
 (zm ((zf.l h).getD (toNat 0) (zi Q5))))<=1099511627776)) (Qc (Q0 (Io ([40]++g (zm ((zf.l h).getD (toNat 0) (zi Q5))))+[32].length<=1099511627776)) (Qc (Q0 (Io (zf.op h)<=140737488355328)&&List.all (zf.op h) λb=>Q0 (b.toNat<128)) (Qc (Q0 (Io ([40]++g (zm ((zf.l h).getD (toNat 0) (zi Q5)))++[32])+(Lib.toUpperA (zf.op h)).length<=1099511627776)) (Qc (Q0 (Io ([40]++g (zm ((zf.l h).getD (toNat 0) (zi Q5)))++[32]++Lib.toUpperA (zf.op h))+[32].length<=1099511627776)) (Qc (zJ 1 (zf.l h).length) (Qc (c (zm ((zf.l h).getD (toNat 1) (zi Q5)))) (Qc (Q0 (Io ([40]++g (zm ((zf.l h).getD (toNat 0) (zi Q5)))++[32]++Lib.toUpperA (zf.op h)++[32])+Io (g (zm ((zf.l h).getD (toNat 1) (zi Q5))))<=1099511627776)) (Qc (Q0 (Io ([40]++g (zm ((zf.l h).getD (toNat 0) (zi Q5)))++[32]++Lib.toUpperA (zf.op h)++[32]++g (zm ((zf.l h).getD (toNat 1) (zi Q5))))+[41].length<=1099511627776)) (Tr.ok (zG.ret (str ([40]++g (zm ((zf.l h).getD (toNat 0) (zi Q5)))++[32]++Lib.toUpperA (zf.op h)++[32]++g (zm ((zf.l h).getD (toNat 1) (zi Q5)))++[41])) [])))))))))))))))):=kw
def tO(g:Sem Q5->Sem Q6)(_:Sem Q5->Bool)(h:Sem Q5):Sem Q6:=(ite ((zf.op h==kH)=Q3) (ii (zf.v h)) (ite ((zf.op h==cX)=Q3) (zf.s h) (ite ((zf.op h==mS)=Q3) (uO++g ((zf.l h).getD (toNat 0) (zi Q5))++[41]) (ite ((zf.op h==pb)=Q3) ([40]++g ((zf.l h).getD (toNat 0) (zi Q5))++Cw) ([40]++g ((zf.l h).getD (toNat 0) (zi Q5))++[32]++Lib.toUpperA (zf.op h)++[32]++g ((zf.l h).getD (toNat 1) (zi Q5))++[41])))))
def Bh(g:Sem Q5->Sem Q6)(c:Sem Q5->Bool)(h:Sem Q5):Bool:=(if(zf.op h==kH)=Q3 then if yQ (zf.v h)=Q3 then Q3 else Q4 else if(zf.op h==cX)=Q3 then Q3 else if(zf.op h==mS)=Q3 then if zJ 0 (zf.l h).length=Q3 then if c ((zf.l h).getD (toNat 0) (zi Q5))=Q3 then if Q0 (Io uO+Io (g ((zf.l h).getD (toNat 0) (zi Q5)))<=1099511627776)=Q3 then if Q0 (Io (uO++g ((zf.l h).getD (toNat 0) (zi Q5)))+[41].length<=1099511627776)=Q3 then Q3 else Q4 else Q4 else Q4 else Q4 else if(zf.op h==pb)=Q3 then if zJ 0 (zf.l h).length=Q3 then if c ((zf.l h).getD (toNat 0) (zi Q5))=Q3 then if Q0 ([40].length+Io (g ((zf.l h).getD (toNat 0) (zi Q5)))<=1099511627776)=Q3 then if Q0 (Io ([40]++g ((zf.l h).getD (toNat 0) (zi Q5)))+Io Cw<=1099511627776)=Q3 then Q3 else Q4 else Q4 else Q4 else Q4 else if zJ 0 (zf.l h).length=Q3 then if c ((zf.l h).getD (toNat 0) (zi Q5))=Q3 then if Q0 ([40].length+Io (g ((zf.l h).getD (toNat 0) (zi Q5)))<=1099511627776)=Q3 then if Q0 (Io ([40]++g ((zf.l h).getD (toNat 0) (zi Q5)))+[32].length<=1099511627776)=Q3 then
 if(Q0 (Io (zf.op h)<=140737488355328)&&List.all (zf.op h) λb=>Q0 (b.toNat<128))=Q3 then if Q0 (Io ([40]++g ((zf.l h).getD (toNat 0) (zi Q5))++[32])+(Lib.toUpperA (zf.op h)).length<=1099511627776)=Q3 then if Q0 (Io ([40]++g ((zf.l h).getD (toNat 0) (zi Q5))++[32]++Lib.toUpperA (zf.op h))+[32].length<=1099511627776)=Q3 then if zJ 1 (zf.l h).length=Q3 then if c ((zf.l h).getD (toNat 1) (zi Q5))=Q3 then if Q0 (Io ([40]++g ((zf.l h).getD (toNat 0) (zi Q5))++[32]++Lib.toUpperA (zf.op h)++[32])+Io (g ((zf.l h).getD (toNat 1) (zi Q5)))<=1099511627776)=Q3 then if Q0 (Io ([40]++g ((zf.l h).getD (toNat 0) (zi Q5))++[32]++Lib.toUpperA (zf.op h)++[32]++g ((zf.l h).getD (toNat 1) (zi Q5)))+[41].length<=1099511627776)=Q3 then Q3 else Q4 else Q4 else Q4 else Q4 else Q4 else Q4 else Q4 else Q4 else Q4 else Q4 else Q4)
def zjp(g:Sem Q5->Sem Q6)(c:Sem Q5->Bool):zZ:=zT [Q5] [Q6] (λx=>Bh g c x.1) λx=>(tO g c x.1,())
theorem Zq(g:Sem Q5->Sem Q6)(c:Sem Q5->Bool)(z:FK 316 (zT [Q5] [Q6] (λx=>c x.1) λx=>(g x.1,()))):FK 316 (zjp g c):=by
 refine aM (DO g c) λx o C u=>?_
 unfold Bh at o;refine zK (Sc z) (DO g c) (λid _=>u id) (zhg g c x.1) ?_;generalize h:tO g c x.1=y;unfold tO at h
 try simp only[zf.eta]
 repeat' (first|with_reducible refine vK h o (λ_ h o=>?_) (λ_ h o=>?_)|with_reducible refine du h (λ_ h=>?_) (λ_ h=>?_)|with_reducible refine iH o (λo=>?_)|with_reducible refine zP ?_)
 all_goals first|(cases o;done)|(subst h;first|rfl)
mutual
def aR:Nat->Sem Q5->Sem Q6
 |0=>λ_=>default
 |n+1=>tO (aR n) (gL n)
def gL:Nat->Sem Q5->Bool
 |0=>λ_=>Q4
 |n+1=>Bh (aR n) (gL n)
end
theorem Ph:∀n,FK 316 (zT [Q5] [Q6] (λx=>gL n x.1) λx=>(aR n x.1,()))
 |0=>eY ⟨Tryz.f316,(DO default default).1,(DO default default).2.1,(DO default default).2.2.1⟩ (λ_=>rfl)
 |n+1=>Zq (aR n) (gL n) (Ph n)
def zjo:zZ:=zT [Q5] [Q6] (λx=>gL 16 x.1) λx=>(aR 16 x.1,())
theorem zeV:FK 316 zjo:=Ph 16
noncomputable def pX:=PI.addL [(278,zja),(316,zjo)]
theorem kM:zw pX:=xE.addL<|fc zeH<|fc zeV iz
abbrev wF(l:LS)(i:Int):St:={tmps:=[.sl Q6 l,.clo (.func 278) [] [.ptr 0 0],.any,.any,.any,.any,.any,.int .i64 (Io l),.int .i64 i,.any,.any,.any,.any,.any,.any,.any,.any,.any,.any],heap:=[.box [.clo (.func 233) [] []]]}
theorem Sy(l:LS):run pX 1 AY Tryz.f306.results.toList 300 (bC Tryz.f306) (bl Tryz.f306.ntmps [.sl Q6 l,.clo (.func 278) [] [.ptr 0 0]] [.box [.clo (.func 233) [] []]])=.ok (.head 2 (aj Tryz.f306 2) (wF l 0)):=kw
theorem SY(l:LS)(i:Int):run pX 1 AY Tryz.f306.results.toList 300 (aj Tryz.f306 2) (wF l i)=ox (K:=aj Tryz.f306 2) (e:=Q6) l (λx=>!bV x) (wF l) [.box [.clo (.func 233) [] []]] i:=kw
theorem WV:zO pX.P 306 Tryz.f306 2:=bU kw
def zlY:iU [Q1 (.sl Q6),Q2]:=λx h=>match x,h with
 |(l,.clo (.func 278) [] [.ptr 0 0],_),[.box [.clo (.func 233) [] []]]=>.ok (.int .i64 (zW (λx=>!bV x) l 0),[.box [.clo (.func 233) [] []]])
 |_,_=>.err
def zjl:zZ:=bp [Q1 (.sl Q6),Q2] zlY
theorem zeS:FK 306 zjl:=by
 refine dX WV λx D B h C o=>?_
 unfold zlY at h;split at h
 ·rename_i l u;simp only[Tr.val_ok,bH]at h;subst h;refine Reach.len 0 Q6 l rfl λz=>?_
  refine zK (n0:=1) kM WV o (Sy l) ?_;exact kV l (λx=>!bV x) (wF l) kM WV o (SY l) z _ 0 rfl (aO _)
 ·simp at h
abbrev znw:Nat->aN:=λ_=>{ }
theorem zee:zO (pX).P 291 Tryz.f291 1:=bU kw
theorem zmz(h:Sem Q5):rn pX 0 znw Tryz.f291 [zC Q5 h] []=br (!cG (zm h)) (Tr.ok (zG.ret (tup [str [],ai 1]) [])) (Qc (gL 16 (zm h)) (Tr.ok (zG.ret (tup [str (aR 16 (zm h)),ai 0]) []))):=kw
def om(h:Sem Q5):Sem Q6×Sem zg:=(ite ((!cG h)=Q3) ([],1) (aR 16 h,0))
def rm(h:Sem Q5):Bool:=(ite ((!cG h)=Q3) Q3 (ite (gL 16 h=Q3) Q3 Q4))
def zjh:zZ:=zT [Q5] [Q6,zg] (λx=>rm x.1) λx=>((om x.1).1,(om x.1).2,())
theorem zeO:FK 291 zjh:=by
 refine aM (zee) λx o C u=>?_
 unfold rm at o;refine zK kM (zee) (λid _=>u id) (zmz x.1) ?_;generalize h:om x.1=y;unfold om at h
 try simp only[zf.eta]
 repeat' (first|with_reducible refine vK h o (λ_ h o=>?_) (λ_ h o=>?_)|with_reducible refine du h (λ_ h=>?_) (λ_ h=>?_)|with_reducible refine iH o (λo=>?_)|with_reducible refine zP ?_)
 all_goals first|(cases o;done)|(subst h;first|rfl)
abbrev zn6:Nat->aN:=λj=>if j=3 then{slots:=[0,4,5],prom:=[(4,Q2,cg)]}else{ }
abbrev MO(u:TS)(o:Int)(h:LF):St:={tmps:=(tm 47 [(0,str u),(4,AV.vec 0),(5,ai o)]),heap:=[AO.vec zp h]}
theorem zij:zO (pX).P 198 Tryz.f198 1:=bU kw
theorem zrL(h:TS):rn pX 0 zn6 Tryz.f198 [zC Q6 h] []=Tr.ok (zG.head 3 (aj Tryz.f198 3) (MO h 0 [])):=kw
theorem ziq(h:TS)(o:Int)(u:LF):rh pX 0 zn6 Tryz.f198 3 (MO h o u)=br (Q0 (o<(↑(Io h):Int))) (Qc (zJ o (Io h)&&bif (↑(getD h o.toNat 0).toNat:Int)==32 then Q3 else zJ o (Io h)) (br (cond ((↑(getD h o.toNat 0).toNat:Int)==32) Q3 ((↑(getD h o.toNat 0).toNat:Int)==10)) (Tr.ok (zG.head 3 (aj Tryz.f198 3) (MO h (Γ Δ (o+1)) u))) (Qc (Q0 (0<=o)&&Q0 (o<=(↑(Io h):Int))&&Q0 ((↑(Io h):Int)<=(↑(Io h):Int))) (Qc (kW (Qg ((↑(Io h):Int).toNat-o.toNat) (Qh o.toNat h))) (Qc (su (bJ (Qg ((↑(Io h):Int).toNat-o.toNat) (Qh o.toNat h))).1) (br (cond (!cq (bJ (Qg ((↑(Io h):Int).toNat-o.toNat) (Qh o.toNat h))).1) Q3 ((↑u.length:Int)==400)) (Tr.ok (zG.ret (tup [nils,ai 2]) [])) (Qc (Q0 (Io u+[(bJ (Qg ((↑(Io h):Int).toNat-o.toNat) (Qh o.toNat h))).1].length<=1073741824)) (Tr.ok (zG.head 3 (aj Tryz.f198 3) (MO h (Γ Δ (o+(bJ (Qg ((↑(Io h):Int).toNat-o.toNat) (Qh o.toNat h))).2))
 (u++[(bJ (Qg ((↑(Io h):Int).toNat-o.toNat) (Qh o.toNat h))).1]))))))))))) (Tr.ok (zG.ret (tup [AV.vec 0,ai 0]) [AO.vec zp u])):=kw
def uW:Nat->(Sem Sh.str)->Int->(List (Sem zp))->Sem cg.sl×Sem zg
 |0,_,_,_=>default
 |n+1,u,o,h=>(if Q0 (o<(↑(Io u):Int))=Q3 then
 if(cond ((↑(getD u o.toNat 0).toNat:Int)==32) Q3 ((↑(getD u o.toNat 0).toNat:Int)==10))=Q3 then
  uW n u (Γ Δ (o+1)) h
 else
  if
    (bif !cq (bJ (Qg ((↑(Io u):Int).toNat-o.toNat) (Qh o.toNat u))).1 then Q3
     else(↑h.length:Int)==400)=
     Q3 then
   ([],2)
  else
   uW n u (Γ Δ (o+(bJ (Qg ((↑(Io u):Int).toNat-o.toNat) (Qh o.toNat u))).2))
    (h++[(bJ (Qg ((↑(Io u):Int).toNat-o.toNat) (Qh o.toNat u))).1])
else(h,0))
def tL:Nat->(Sem Sh.str)->Int->(List (Sem zp))->Bool
 |0,_,_,_=>Q4
 |n+1,h,o,u=>(if Q0 (o<(↑(Io h):Int))=Q3 then
 if (zJ o (Io h)&&bif (↑(getD h o.toNat 0).toNat:Int)==32 then true else zJ o (Io h))=true then
  if(cond ((↑(getD h o.toNat 0).toNat:Int)==32) Q3 ((↑(getD h o.toNat 0).toNat:Int)==10))=Q3 then
   tL n h (Γ Δ (o+1)) u
  else
   if (decide (0≤o)&&decide (o≤(↑(Io h):Int))&&decide ((↑(Io h):Int)≤(↑(Io h):Int)))=true then
    if kW (List.take ((↑(Io h):Int).toNat-o.toNat) (List.drop o.toNat h))=true then
     if su (bJ (List.take ((↑(Io h):Int).toNat-o.toNat) (List.drop o.toNat h))).1=true then
      if
        (bif !cq (bJ (Qg ((↑(Io h):Int).toNat-o.toNat) (Qh o.toNat h))).1 then Q3
         else(↑u.length:Int)==400)=
         Q3 then
       Q3
      else
       if
         Q0 (Io u+[(bJ (Qg ((↑(Io h):Int).toNat-o.toNat) (Qh o.toNat h))).1].length<=1073741824)=
          Q3 then
        tL n h (Γ Δ (o+(bJ (Qg ((↑(Io h):Int).toNat-o.toNat) (Qh o.toNat h))).2))
         (u++[(bJ (Qg ((↑(Io h):Int).toNat-o.toNat) (Qh o.toNat h))).1])
       else Q4
     else Q4
    else Q4
   else Q4
 else Q4
else Q3)
theorem Uf{C:ff}(E:∀id,C.ρ0 id=Q2):∀(n:Nat)(D:TS)(B:Int)(o:LF),tL n D B o=Q3->
  Reach (pX) C 198 (aj Tryz.f198 3) (MO D B o) (λr h=>aI h [cg.sl,zg] r=Q1 ((uW n D B o).1,(uW n D B o).2,()))
 |0,D,B,o,u=>by cases u
 | n+1,D,B,o,u=>by
  refine zK kM (zij) (λid _=>E id) (ziq _ _ _) ?_;rw[tL]at u;generalize z:uW (n+1) D B o=y;rw[uW]at z
  try simp only[zf.eta,zk]
  repeat' (first|with_reducible refine vK z u (λ_ z u=>?_) (λ_ z u=>?_)|with_reducible refine du z (λ_ z=>?_) (λ_ z=>?_)|with_reducible refine iH u (λu=>?_)|with_reducible refine zP ?_)
  all_goals first|(cases u;done)|(subst z;first|(change Reach _ _ _ _ _ _;refine Uf E n _ _ _ ?_<;>exact u)|rfl)
def cut(h:TS):Sem cg.sl×Sem zg:=(uW (Io h+1) h 0 [])
def Uw(h:TS):Bool:=(tL (Io h+1) h 0 [])
def F69:zZ:=zT [Q6] [cg.sl,zg] (λx=>Uw x.1) λx=>((cut x.1).1,(cut x.1).2,())
theorem zlu:FK 198 F69:=by
 refine aM (zij) λx h C u=>?_
 unfold Uw at h;refine zK kM (zij) (λid _=>u id) (zrL x.1) ?_;generalize o:cut x.1=y;unfold cut at o
 try simp only[zf.eta,zk]
 repeat' (first|with_reducible refine vK o h (λ_ o h=>?_) (λ_ o h=>?_)|with_reducible refine du o (λ_ o=>?_) (λ_ o=>?_)|with_reducible refine iH h (λh=>?_)|with_reducible refine zP ?_)
 all_goals first|(cases h;done)|(subst o;first|(change Reach _ _ _ _ _ _;refine Uf u _ _ _ _ ?_<;>exact h)|rfl)
noncomputable def K3:=pX.addL [(306,zjl),(291,zjh),(198,F69)]
theorem xF:zw K3:=kM.addL<|fc zeS<|fc zeO<|fc zlu iz
noncomputable def zi9:zZ:=bp (List.replicate 2 Q2) (fA K3 Tryz.f277 (List.replicate 2 Q2))
theorem zeG:FK 277 zi9:=ch _ xF (bU kw)
abbrev zsq:Nat->aN:=λ_=>{ }
theorem zpj:zO (K3).P 247 Tryz.f247 1:=bU kw
theorem zrV(h:Sem Q5):rn K3 0 zsq Tryz.f247 [zC Q5 h] []=Qc (rm (zm h)) (Tr.ok (zG.ret (str (om (zm h)).1) [])):=kw
def iT(h:Sem Q5):Sem Q6:=((om h).1)
def qW(h:Sem Q5):Bool:=(ite (rm h=Q3) Q3 Q4)
def F94:zZ:=zT [Q5] [Q6] (λx=>qW x.1) λx=>(iT x.1,())
theorem zlR:FK 247 F94:=by
 refine aM (zpj) λx o C u=>?_
 unfold qW at o;refine zK xF (zpj) (λid _=>u id) (zrV x.1) ?_;generalize h:iT x.1=y;unfold iT at h
 try simp only[zf.eta]
 repeat' (first|with_reducible refine vK h o (λ_ h o=>?_) (λ_ h o=>?_)|with_reducible refine du h (λ_ h=>?_) (λ_ h=>?_)|with_reducible refine iH o (λo=>?_)|with_reducible refine zP ?_)
 all_goals first|(cases o;done)|(subst h;first|rfl)
noncomputable def K4:=K3.addL [(277,zi9),(247,F94)]
theorem xG:zw K4:=xF.addL<|fc zeG<|fc zlR iz
noncomputable def F86:zZ:=bp (List.replicate 4 Q2) (fA K4 Tryz.f239 (List.replicate 4 Q2))
theorem zlI:FK 239 F86:=ch _ xG (bU kw)
abbrev zsr:Nat->aN:=λ_=>{ }
theorem zpl:zO (K4).P 251 Tryz.f251 2:=bU kw
theorem zrX(o:TS)(h:Sem Q5):rn K4 0 zsr Tryz.f251 [zC Q6 o,zC Q5 h] []=br (g9 (zm h)) (Tr.ok (zG.ret (str []) [])) (Qc (Q0 (Io o+Io KI<=1099511627776)) (Qc (qW (zm h)) (Qc (Q0 (Io (o++KI)+Io (iT (zm h))<=1099511627776)) (Qc (Q0 (Io (o++KI++iT (zm h))+Io iv<=1099511627776)) (Tr.ok (zG.ret (str (o++KI++iT (zm h)++iv)) [])))))):=kw
def lh(o:TS)(h:Sem Q5):Sem Q6:=(ite (g9 h=Q3) [] (o++KI++iT h++iv))
def uR(o:TS)(h:Sem Q5):Bool:=(ite (g9 h=Q3) Q3 (ite (Q0 (Io o+Io KI<=1099511627776)=Q3) (ite (qW h=Q3) (ite (Q0 (Io (o++KI)+Io (iT h)<=1099511627776)=Q3) (ite (Q0 (Io (o++KI++iT h)+Io iv<=1099511627776)=Q3) Q3 Q4) Q4) Q4) Q4))
def F98:zZ:=zT [Q6,Q5] [Q6] (λx=>uR x.1 x.2.1) λx=>(lh x.1 x.2.1,())
theorem zlT:FK 251 F98:=by
 refine aM (zpl) λx o C u=>?_
 unfold uR at o;refine zK xG (zpl) (λid _=>u id) (zrX x.1 x.2.1) ?_;generalize h:lh x.1 x.2.1=y;unfold lh at h
 try simp only[zf.eta]
 repeat' (first|with_reducible refine vK h o (λ_ h o=>?_) (λ_ h o=>?_)|with_reducible refine du h (λ_ h=>?_) (λ_ h=>?_)|with_reducible refine iH o (λo=>?_)|with_reducible refine zP ?_)
 all_goals first|(cases o;done)|(subst h;first|rfl)
noncomputable def zdf:=K4.addL [(239,F86),(251,F98)]
theorem Sr:zw zdf:=xG.addL<|fc zlI<|fc zlT iz
def zp3(h:Sem zn):Sem Q7:=(cond (cond (Q0 ((↑(Io h.2.2.2.2.1):Int)<1)) Q3 (Q0 ((↑(Io h.2.2.2.2.1):Int)>8))) Q4 (bif !Q0 (zW (λx=>!zma x) h.2.2.2.2.1 0>=0)then bif bV h.2.2.2.2.2.1 then bif bif Q0 ((↑(Io h.2.2.2.2.2.2.1):Int)<0)then Q3 else Q0 ((↑(Io h.2.2.2.2.2.2.1):Int)>8)then Q4 else bif !Q0 (zW (λx=>!bV x) h.2.2.2.2.2.2.1 0>=0)then bif bif Q0 ((↑(Io h.2.2.2.2.2.2.2.1):Int)<0)then Q3 else Q0 ((↑(Io h.2.2.2.2.2.2.2.1):Int)>8)then Q4 else bif !Q0 (zW (λx=>!zpH x) h.2.2.2.2.2.2.2.1 0>=0)then bW h.2.2.2.2.2.2.2.2.1 else Q4 else Q4 else Q4 else Q4))
noncomputable def zdg:=zdf
theorem xH:zw zdg:=Sr
noncomputable section
def vw(h:Sem zn):Tr (Empty⊕aw):=
 let M:=zm h.t.t.1
 let T:=zm h.t.t.q.2.1
 let W:=(h.t.t.2.1,h.t.t.q.1,T,h.t.t.t)
 let X:=(h.1,[],h.2.2.1,h.2.2.2.1,h.t.1,h.t.2.1,h.t.q.1,h.t.q.2.1,M,W)
 let O:=bif bV h.2.1 then bW T else Q4
 let S:=(h.1,[],h.2.2.1,h.2.2.2.1,h.t.1,h.t.2.1,h.t.q.1,h.t.q.2.1,M,h.t.t.2.1,h.t.t.q.1,zf.mk [] (0,0,[]) [] [],h.t.t.t)
 let Y:=bV h.t.t.t
 let u:=bif bV h.2.1 then Y else Q4
 let Z:=(h.t.t.2.1,h.t.t.q.1,T,[])
 let z:=(h.1,[],h.2.2.1,h.2.2.2.1,h.t.1,h.t.2.1,h.t.q.1,h.t.q.2.1,M,Z)
 let B:=bV h.2.2.1
 let o:=(↑(Io h.2.2.2.1):Int)
 let U:=zW (λx=>!bV x) h.2.2.2.1 0
 let C:=bW M
 let D:=bif !Q0 (U>=0)then C else Q4
 let E:=bif bV h.2.1 then bif B then bif bif Q0 (o<1)then Q3 else Q0 (o>8)then Q4 else D else Q4 else Q4
 let F:=(h.1,[],[],[],h.t.1,h.t.2.1,h.t.q.1,h.t.q.2.1,zf.mk [] (0,0,[]) [] [],W)
 let G:=ez F
 let H:=eJ F
 let I:=bif bV h.2.1 then bif B then bif bV h.t.2.1 then bif Y then C else Q4 else Q4 else Q4 else Q4
 let J:=(h.1,[],[],h.2.2.2.1,h.t.1,[],h.t.q.1,h.t.q.2.1,zf.mk [] (0,0,[]) [] [],Z)
 let L:=bif bV h.2.1 then bif B then bif bif Q0 (o<2)then Q3 else Q0 (o>2)then Q4 else D else Q4 else Q4
 br (h.1==mT) (br (bV h.2.1) Tr.err (re (kb Q4) []))
 (br (h.1==Ft)
  (Qc (cond (bV h.2.1) (ez X) Q3) (re (AV.bool (cond (bV h.2.1) (eJ X) Q4)) []))
  (br (h.1==H6) (br (bV h.2.1) Tr.err (re (kb Q4) [])) (br (h.1==pt) (br (bV h.2.1) Tr.err (re (kb Q4) [])) (br (h.1==Kh) (Qc (cond O (ez S) Q3) (re (AV.bool (cond O (eJ S) Q4)) []))
  (br (h.1==pO) (Qc (cond O (ez S) Q3) (re (AV.bool (cond O (eJ S) Q4)) [])) (br (h.1==PA) (Qc (cond u (ez z) Q3) (re (AV.bool (cond u (eJ z) Q4)) []))
  (br (h.1==xm) (Qc (cond u (ez z) Q3) (re (AV.bool (cond u (eJ z) Q4)) [])) (br (h.1==AR) (Qc (cond u (ez z) Q3) (re (AV.bool (cond u (eJ z) Q4)) [])) (br (h.1==Cv)
  (Qc (cond u (ez z) Q3) (re (AV.bool (cond u (eJ z) Q4)) [])) (br (h.1==cT) (Qc (cond E G Q3) (re (AV.bool (cond E H Q4)) [])) (br (h.1==eX) (Qc (cond I (ez J) Q3) (re (AV.bool (cond I (eJ J) Q4)) []))
  (br (h.1==kq) (Qc (cond L G Q3) (re (AV.bool (cond L H Q4)) [])) (re (kb Q4) [])))))))))))))
def BZ(h:Sem zn):=al [Q7] t0 100000000 (vw h)
def wG(h:Sem zn):=(BZ h).isSome
def fx(h:Sem zn):=o1 (BZ h)
def zch:=FT [zn] [Q7] λx=>BZ x.1
theorem Y0:FK 196 zch:=xH.T1 (f:=Tryz.f196) (keep:=k0) (e:=e0)
def Ap(h:Sem zn):Tr (Empty⊕aw):=
 let a0:=Q0 (Io h.1<=140737488355328)&&List.all h.1 λb=>Q0 (b.toNat<128)
 let a1:=Uk++Lib.toUpperA h.1
 let a2:=a1++[32]
 let a3:=a2++h.2.1
 let a4:=a3++lg
 let a5:=zgO++Lib.toUpperA h.1
 let a6:=a5++AT
 let a7:=a6++h.2.1
 let a8:=a7++Nv
 let a9:=Qg ((↑(Io h.1):Int).toNat-toNat 2) (Qh (toNat 2) h.1)
 let B:=Lib.toUpperA a9
 let C:=zgS++B
 let D:=C++AT
 let E:=D++h.2.1
 let z:=E++lg
 let o:=a4++h.2.2.1
 let G:=o++AS
 let H:=gI h.2.2.2.1
 let I:=G++H
 let J:=zm h.t.t.1
 let F:=uR [32] J
 let L:=I++iv
 let u:=lh [32] J
 let M:=o++eZ
 let O:=M++h.t.t.t
 let S:=O++AT
 let T:=S++h.t.2.1
 let U:=o++RT
 let W:=getD h.2.2.2.1 (toNat 0) (zi Q6)
 let X:=U++W
 let Y:=X++RU
 let Z:=getD h.2.2.2.1 (toNat 1) (zi Q6)
 let h0:=Y++Z
 Qc a0
 (Qc (Q0 (Io Uk+(Lib.toUpperA h.1).length<=1099511627776))
  (Qc (Q0 (Io a1+[32].length<=1099511627776)) (Qc (Q0 (Io a2+Io h.2.1<=1099511627776)) (Qc (Q0 (Io a3+Io lg<=1099511627776)) (Qc (Q0 (Io a4+Io h.2.2.1<=1099511627776)) (br (h.1==mT) Tr.err (br (h.1==Ft)
  (Qc (Q0 (Io zaa+Io h.2.1<=1099511627776)) (re (str (zaa++h.2.1)) [])) (br (h.1==H6) (Qc (Q0 (Io Ui+Io h.2.1<=1099511627776)) (Qc (decide
  (Io (Ui++h.2.1)+Io Z4<=1099511627776)) Tr.err)) (br (h.1==pt) (Qc (Q0 (Io Ul+Io h.2.1<=1099511627776))
  (Qc (Q0 (Io (Ul++h.2.1)+Io Z3<=1099511627776)) Tr.err)) (br (h.1==Kh) (Qc (Q0 (Io Z8+Io h.2.1<=1099511627776)) Tr.err) (br (h.1==pO)
  (Qc (Q0 (Io zah+Io h.2.1<=1099511627776)) Tr.err) (br (h.1==PA) (Qc a0 (Qc (Q0 (Io zgO+(Lib.toUpperA h.1).length<=1099511627776)) (Qc (Q0 (Io a5+Io AT<=1099511627776))
  (Qc (Q0 (Io a6+Io h.2.1<=1099511627776)) (Qc (Q0 (Io a7+Io Nv<=1099511627776)) (Qc (Q0 (Io a8+Io h.t.t.t<=1099511627776)) (re (str (a8++h.t.t.t)) []))))))) (br (h.1==xm) (Qc a0
  (Qc (Q0 (Io zgO+(Lib.toUpperA h.1).length<=1099511627776)) (Qc (Q0 (Io a5+Io AT<=1099511627776)) (Qc (Q0 (Io a6+Io h.2.1<=1099511627776)) (Qc (Q0 (Io a7+Io Nv<=1099511627776))
  (Qc (Q0 (Io a8+Io h.t.t.t<=1099511627776)) (re (str (a8++h.t.t.t)) []))))))) (br (h.1==AR) (Qc (Q0 (0<=2)&&Q0 (2<=(↑(Io h.1):Int))&&Q0 ((↑(Io h.1):Int)<=(↑(Io h.1):Int)))
  (Qc (Q0 (Io a9<=140737488355328)&&a9.all λb=>Q0 (b.toNat<128)) (Qc (Q0 (Io zgS+Io B<=1099511627776)) (Qc (Q0 (Io C+Io AT<=1099511627776)) (Qc (Q0 (Io D+Io h.2.1<=1099511627776))
  (Qc (Q0 (Io E+Io lg<=1099511627776)) (Qc (Q0 (Io z+Io h.t.t.t<=1099511627776)) (re (str (z++h.t.t.t)) [])))))))) (br (h.1==Cv) (Qc (Q0 (0<=2)&&Q0 (2<=(↑(Io h.1):Int))&&
  Q0 ((↑(Io h.1):Int)<=(↑(Io h.1):Int))) (Qc (Q0 (Io a9<=140737488355328)&&a9.all λb=>Q0 (b.toNat<128)) (Qc (Q0 (Io zgS+Io B<=1099511627776)) (Qc (Q0 (Io C+Io AT<=1099511627776)) (Qc (Q0 (Io D+Io h.2.1<=1099511627776))
  (Qc (Q0 (Io E+Io lg<=1099511627776)) (Qc (Q0 (Io z+Io h.t.t.t<=1099511627776)) (re (str (z++h.t.t.t)) [])))))))) (br (h.1==cT) (Qc (Q0 (Io o+Io AS<=1099511627776)) (Qc (nK h.2.2.2.1)
  (Qc (Q0 (Io G+Io H<=1099511627776)) (Qc (Q0 (Io I+Io iv<=1099511627776)) (Qc F (Qc (Q0 (Io L+Io u<=1099511627776)) (re (str (L++u)) []))))))) (br (h.1==eX) (Qc (Q0 (Io o+Io eZ<=1099511627776))
  (Qc (Q0 (Io M+Io h.t.t.t<=1099511627776)) (Qc (Q0 (Io O+Io AT<=1099511627776)) (Qc (Q0 (Io S+Io h.t.2.1<=1099511627776)) (Qc F (Qc (Q0 (Io T+Io u<=1099511627776)) (re (str (T++u)) [])))))))
  (Qc (Q0 (Io o+Io RT<=1099511627776)) (Qc (zJ 0 (Io h.2.2.2.1)) (Qc (Q0 (Io U+Io W<=1099511627776)) (Qc (Q0 (Io X+Io RU<=1099511627776)) (Qc (zJ 1 (Io h.2.2.2.1)) (Qc (Q0 (Io Y+Io Z<=1099511627776)) (Qc F
  (Qc (Q0 (Io h0+Io u<=1099511627776)) (re (str (h0++u)) []))))))))))))))))))))))))))
def JN(h:Sem zn):=al [Q6] t0 100000000 (Ap h)
def EP(h:Sem zn):=(JN h).isSome
def iP(h:Sem zn):=o1 (JN h)
def zci:=FT [zn] [Q6] λx=>JN x.1
theorem Y1:FK 197 zci:=xH.T1 (f:=Tryz.f197) (keep:=k0) (e:=e0)
def PJ:=zdg.addL [(196,zch),(197,zci)]
theorem Gr:zw PJ:=xH.addL<|fc Y0<|fc Y1<|iz
end
abbrev zsh:Nat->aN:=λ_=>{ }
theorem zoY:zO (PJ).P 157 Tryz.f157 1:=bU kw
theorem zrB(h:Sem zn):rn PJ 0 zsh Tryz.f157 [zC zn h] []=Qc (wG (Fz h)) (br (!fx (Fz h)) (Tr.ok (zG.ret (tup [str [],ai 1]) [])) (Qc (EP (Fz h)) (Qc (Uw (iP (Fz h))) (br ((cut (iP (Fz h))).2!=0) (Tr.ok (zG.ret (tup [str [],ai 1]) [])) (Tr.ok (zG.ret (tup [str (iP (Fz h)),ai 0]) [])))))):=kw
noncomputable def qI(h:Sem zn):Sem Q6×Sem zg:=(ite ((!fx h)=Q3) ([],1) (ite (((cut (iP h)).2!=0)=Q3) ([],1) (iP h,0)))
noncomputable def wK(h:Sem zn):Bool:=(ite (wG h=Q3) (ite ((!fx h)=Q3) Q3 (ite (EP h=Q3) (ite (Uw (iP h)=Q3) Q3 Q4) Q4)) Q4)
noncomputable def F52:zZ:=zT [zn] [Q6,zg] (λx=>wK x.1) λx=>((qI x.1).1,(qI x.1).2,())
theorem zlg:FK 157 F52:=by
 refine aM (zoY) λx o C u=>?_
 unfold wK at o;refine zK Gr (zoY) (λid _=>u id) (zrB x.1) ?_;generalize h:qI x.1=y;unfold qI at h
 try simp only[PU]
 repeat' (first|with_reducible refine vK h o (λ_ h o=>?_) (λ_ h o=>?_)|with_reducible refine du h (λ_ h=>?_) (λ_ h=>?_)|with_reducible refine iH o (λo=>?_)|with_reducible refine zP ?_)
 all_goals first|(cases o;done)|(subst h;first|rfl)
noncomputable def PK:=PJ.add 157 F52
theorem Gt:zw PK:=Gr.add zlg
abbrev zsg:Nat->aN:=λ_=>{ }
theorem zoF:zO (PK).P 113 Tryz.f113 1:=bU kw
theorem zrj(h:Sem zn):rn PK 0 zsg Tryz.f113 [zC zn h] []=Qc (wK (Fz h)) (Tr.ok (zG.ret (AV.bool ((qI (Fz h)).2==0)) [])):=kw
noncomputable def ew(h:Sem zn):Sem Q7:=((qI h).2==0)
noncomputable def oW(h:Sem zn):Bool:=(ite (wK h=Q3) Q3 Q4)
noncomputable def F31:zZ:=zT [zn] [Q7] (λx=>oW x.1) λx=>(ew x.1,())
theorem zkX:FK 113 F31:=by
 refine aM (zoF) λx o C u=>?_
 unfold oW at o;refine zK Gt (zoF) (λid _=>u id) (zrj x.1) ?_;generalize h:ew x.1=y;unfold ew at h
 try simp only[PU]
 repeat' (first|with_reducible refine vK h o (λ_ h o=>?_) (λ_ h o=>?_)|with_reducible refine du h (λ_ h=>?_) (λ_ h=>?_)|with_reducible refine iH o (λo=>?_)|with_reducible refine zP ?_)
 all_goals first|(cases o;done)|(subst h;first|rfl)
noncomputable def pd:=PK.add 113 F31
theorem jn:zw pd:=Gt.add zkX
end Cad
