/- Checks. -/
import Derived.Test.YtjfdpfapcmcncaaGreatDoorH09
namespace Cad
open Go Go.Proofs
open List renaming length→Io,drop→Qh,take→Qg
open IntKind renaming wrap→Γ,i64→Δ
open Tr renaming chk→Qc,«to»→Q9,val→Q8
open AO renaming box→Qa
open Sh renaming bool→Q7,str→Q6,expr→Q5
open Bool renaming false→Q4,true→Q3
open Option renaming none→Q2,some→Q1
open Decidable renaming decide→Q0
open Int (toNat)
open List (getD)
open Tr (chk br re)
open AV (nils agg tup ptr kb str sl)
noncomputable section
set_option maxHeartbeats 4000000
abbrev uS:List CP:=[.d zo]
abbrev zat:List CP:=[.d .str,.nil,.d zg,.nil,.nil,.d .str,.d zg,.d zg,.d .str,.d .str,.nil]
abbrev zmi:List CP:=[.d .str,.d (.sl zj),.d zg,.vec zg,.nil,.d .expr]
abbrev zmj:List CP:=[.d .str,.d (.sl zj),.d zg,.vec zg,.vec zp,.d .expr]
def VO(h:Sem Q5)(o:Sem zj.sl):Tr (Empty⊕aw):=Qc (jB 16 (zl h) (zf.mk [] (0,0,[]) [] [])) (br (fE 16 (zl h) (zf.mk [] (0,0,[]) [] [])) (re (ai 0) []) (br (cond ((bM (zl h) o).2==0) (cond ((bM (zl h) o).1!=3) ((bM (zl h) o).1!=0) Q4) Q4) (re (ai 5) []) (re (ai (bM (zl h) o).2) [])))
def MY(h:Sem Q5)(o:Sem zj.sl):=an [zg] t0 100000000 (VO h o)
def zcL:=FT [Q5,zj.sl] [zg] λx=>MY x.1 x.2.1
theorem Ps:FK 221 zcL:=xC.T1 (f:=Tryz.f221) (keep:=k0) (e:=e0)
abbrev zod:Nat->aM:=λj=>if j=3 then{slots:=[1,2,3,4],prom:=[(3,Q1 3,zg)]}else if j=7 then{slots:=[1,2,3,5],prom:=[(3,Q1 4,zp)]}else{ }
inductive KA where
 |h3 (i4:Int) (z0:zm uS) (z1:zm zat) (z2:zm zmi)
 |h7 (i5:Int) (z0:zm uS) (z1:zm zat) (z2:zm zmj)
abbrev zqU:KA->Nat×St
 |.h3 u h o z=>(3,⟨tm 70 [(1,ptr 0 0),(2,ptr 1 0),(3,ptr 2 0),(4,ai u)],[Qa (bf [] uS h),Qa (bf [] zat o),Qa (bf [3] zmi z),AO.vec zg z.2.2.2.1]⟩)
 |.h7 B h o z=>(7,⟨tm 70 [(1,ptr 0 0),(2,ptr 1 0),(3,ptr 2 0),(5,ai B)],[Qa (bf [] uS h),Qa (bf [] zat o),Qa (bf [3,4] zmj z),AO.vec zg z.2.2.2.1,AO.vec zp z.t.1]⟩)
def zhH(h:Sem zo):Tr (KA⊕aw):=Q9 (KA.h3 0 (h,()) ([],0,[],0,0,[],[],()) (jA h.1,jS h.2.1,h.2.2.1,[],e8 (zl h.t.2),()))
def Kb:KA->Tr (KA⊕aw)
 | .h3 u h C z=>
  let D:=(↑(Io h.1.2.2.2.1):Int)
  let o:=[getD h.1.2.2.2.1 u.toNat (zi zg)]
  br (cond (Q0 (u<D)) (Q0 (u<10)) Q4)
  (Qc (zJ u (Io h.1.2.2.2.1)) (Qc (Q0 (Io z.2.2.2.1+Io o<=1073741824)) (Q9 (KA.h3 (Γ Δ (u+1)) h C (z.1,z.2.1,z.2.2.1,z.2.2.2.1++o,z.t)))))
  (Q9 (KA.h7 0 h C (z.1,z.2.1,z.2.2.1,z.2.2.2.1,[],z.t)))
 | .h7 B h C z=>
  let D:=(↑(Io h.1.t.1):Int)
  let o:=zJ B (Io h.1.t.1)
  let E:=getD h.1.t.1 B.toNat (zi zp)
  let F:=[(E.1,jA E.2)]
  br (cond (Q0 (B<D)) (Q0 (B<10)) Q4)
  (Qc o (Qc o (Qc (Q0 (Io z.t.1+Io F<=1073741824)) (Q9 (KA.h7 (Γ Δ (B+1)) h C (z.1,z.2.1,z.2.2.1,z.2.2.2.1,z.t.1++F,z.t.2))))))
  (re (agg [str z.1,sl zj z.2.1,ai z.2.2.1,AV.vec 0,AV.vec 1,str (zf.op z.t.2.1),ai (zf.v z.t.2.1).1,ai (zf.v z.t.2.1).2.1,str (zf.v z.t.2.1).2.2,str (zf.s z.t.2.1),sl Q5 (zf.l z.t.2.1)]) [AO.vec zg z.2.2.2.1,AO.vec zp z.t.1])
def Yk(h:Sem zo):=an [zo] Kb 100000000 (zhH h)
def zkw:=FT [zo] [zo] λx=>Yk x.1
theorem TY:FK 84 zkw:=xC.T1 (f:=Tryz.f84) (keep:=zod) (e:=zqU)
def iP(h:Sem Q5)(o:Sem zj.sl):Sem zg:=if fE 16 h (zf.mk [] (0,0,[]) [] [])=Q3 then 0 else if(cond ((bM h o).2==0) (cond ((bM h o).1!=3) ((bM h o).1!=0) Q4) Q4)=Q3 then 5 else(bM h o).2
theorem O5(e:zf)(h:LC):MY e h=Q1 (iP e h,()):=by
 have o:(VO e h).val=Q1 (.inr (.int .i64 (iP e h),[])):=by
  unfold iP;simp only[VO,zk,Q8];rw[if_pos (O7 15 e)];repeat' split
  all_goals rfl
 exact zH o rfl
def E6(t:Sem zo):Sem zo:=(jA t.1,jS t.2.1,t.2.2.1,Qg 10 t.2.2.2.1,(Qg 10 t.t.1).map (λf:Sem zp=>((f.1,jA f.2):Sem zp)),e8 t.t.2)
theorem Yl(t:Sem zo):Yk t=Q1 (E6 t,()):=by
 have u:=zL.all (t:=Kb) 1 (λi=>.h3 (i:Int) (t,()) ([],0,[],0,0,[],[],()) (jA t.1,jS t.2.1,t.2.2.1,Qg i t.2.2.2.1,e8 t.t.2,())) (min 10 (Io t.2.2.2.1)) λi o=>zL.of (by
  have h:i<Io t.2.2.2.1:=by omega
  simp only[Kb,Q8,za3 (k:=10) (K:=10) rfl o,zt h,if_true,aD];rw[if_pos sg,zr i um,Kg h (zi zg)])
 have z:zL Kb 1 (.h3 ((min 10 (Io t.2.2.2.1):Nat):Int) (t,()) ([],0,[],0,0,[],[],()) (jA t.1,jS t.2.1,t.2.2.1,Qg (min 10 (Io t.2.2.2.1)) t.2.2.2.1,e8 t.t.2,())) (.h7 ((0:Nat):Int) (t,()) ([],0,[],0,0,[],[],()) (jA t.1,jS t.2.1,t.2.2.1,Qg (min 10 (Io t.2.2.2.1)) t.2.2.2.1,[],e8 t.t.2,())):=zL.of (by
  simp only[Kb,Q8,Qn (k:=10) (K:=10) rfl,zA,if_false];rfl)
 rw[wS]at u z;have B:=zL.all (t:=Kb) 1 (λi=>.h7 (i:Int) (t,()) ([],0,[],0,0,[],[],()) (jA t.1,jS t.2.1,t.2.2.1,Qg 10 t.2.2.2.1,(Qg i t.t.1).map (λf:Sem zp=>((f.1,jA f.2):Sem zp)),e8 t.t.2,())) (min 10 (Io t.t.1)) λi o=>zL.of (by
  have h:i<Io t.t.1:=by omega
  simp only[Kb,Q8,za3 (k:=10) (K:=10) rfl o,zt h,if_true,aD];rw[if_pos sg,zr i um,Kg h (zi zp),gD];rfl)
 rw[wS]at B;have C:zV Kb 1 (.h7 ((min 10 (Io t.t.1):Nat):Int) (t,()) ([],0,[],0,0,[],[],()) (jA t.1,jS t.2.1,t.2.2.1,Qg 10 t.2.2.2.1,(Qg 10 t.t.1).map (λf:Sem zp=>((f.1,jA f.2):Sem zp)),e8 t.t.2,())) _:=zV.of (by
  simp only[Kb,Q8,Qn (k:=10) (K:=10) rfl,zA,if_false];rfl)
 have D:(zhH t).val=Q1 (.inl (.h3 ((0:Nat):Int) (t,()) ([],0,[],0,0,[],[],()) (jA t.1,jS t.2.1,t.2.2.1,Qg 0 t.2.2.2.1,e8 t.t.2,()))):=by
  simp only[zhH,zk,Q8];rfl
 unfold E6;rw[<-zk (e8 t.t.2)];exact zy D (((u.trans z).trans B).ends C) ow rfl
def zdf:=zde.addL [(221,zcL),(84,zkw)]
theorem Sv:zw zdf:=xC.addL<|fc Ps<|fc TY iA
end
def zjD:ac:=aH [Q5,zj.sl] [zg] λx=>(iP x.1 x.2.1,())
theorem zfb:FK 221 zjD:=g7 Ps λx=>O5 x.1 x.2.1
def F5t:ac:=aH [zo] [zo] λx=>(E6 x.1,())
theorem zls:FK 84 F5t:=g7 TY λx=>Yl x.1
noncomputable def U8:=zdf.addL [(221,zjD),(84,F5t)]
theorem Gm:zw U8:=Sv.addL<|fc zfb<|fc zls iA
abbrev zhQ:=lu [(4,[1,27,28,29]),(11,[1,5,59,60,61]),(17,[1,5,71,72,73])]
inductive sP where
 |h4 (l27:LC) (i28:Int) (i29:Int) (z0:zm uS)
 |h11 (l59:LI) (i60:Int) (i61:Int) (z0:zm uS)
 |h17 (l71:LF) (i72:Int) (i73:Int) (z0:zm uS)
abbrev zml:sP->Nat×St
 |.h4 E h o z=>(4,⟨tm 110 [(1,ptr 0 0),(27,sl zj E),(28,ai h),(29,ai o)],[Qa (bf [] uS z)]⟩)
 |.h11 F u B z=>(11,⟨tm 110 [(1,ptr 0 0),(5,AV.clo (Fn.func 220) [] [ptr 0 0]),(59,sl zg F),(60,ai u),(61,ai B)],[Qa (bf [] uS z)]⟩)
 |.h17 G C D z=>(17,⟨tm 110 [(1,ptr 0 0),(5,AV.clo (Fn.func 220) [] [ptr 0 0]),(71,sl zp G),(72,ai C),(73,ai D)],[Qa (bf [] uS z)]⟩)
noncomputable def LA(h:Sem zo):Tr (sP⊕aw):=
 let o:=(↑(Io h.2.1):Int)
 br (cond (!zQ h.1) Q3 (cond (Q0 (o<1)) Q3 (Q0 (o>8)))) (re (kb Q4) [])
 (Q9 (sP.h4 h.2.1 o 0 (h,())))
noncomputable def po:sP->Tr (sP⊕aw)
 | .h4 C F o z=>
  let h:=C.getD o.toNat (zi zj)
  br (Q0 (o<F))
  (Qc (zJ o (Io C)) (br (cond (!zQ h.1) Q3 (cond (Q0 (h.2.1<1)) Q3 (cond (Q0 (h.2.1>3)) Q3 (zR (z.1.1,z.1.2.1,z.1.2.2.1,z.1.2.2.2.1,z.1.t.1,zl z.1.t.2) h.1!=o)))) (re (kb Q4) []) (Q9 (sP.h4 C F (Γ Δ (o+1)) z))))
  (Q9 (sP.h11 z.1.2.2.2.1 (↑(Io z.1.2.2.2.1):Int) 0 z))
 | .h11 D G u z=>
  let h:=D.getD u.toNat (zi zg)
  let I:=(↑(Io z.1.2.1):Int)
  br (Q0 (u<G))
  (Qc (zJ u (Io D)) (br (!bif Q0 (h>=0)then Q0 (h<I)else Q4) (re (kb Q4) []) (Q9 (sP.h11 D G (Γ Δ (u+1)) z))))
  (Q9 (sP.h17 z.1.t.1 (↑(Io z.1.t.1):Int) 0 z))
 | .h17 E H B z=>
  let h:=E.getD B.toNat (zi zp)
  let I:=(↑(Io z.1.2.1):Int)
  let J:=getD z.1.2.1 (toNat z.1.2.2.1) (zi zj)
  br (Q0 (B<H))
  (Qc (zJ B (Io E)) (br (!bif Q0 (h.1>=0)then Q0 (h.1<I)else Q4) (re (kb Q4) []) (br (!zQ h.2) (re (kb Q4) []) (Q9 (sP.h17 E H (Γ Δ (B+1)) z)))))
  (br (cond (Q0 (z.1.2.2.1>=0)) (Q0 (z.1.2.2.1<I)) Q4) (Qc (zJ z.1.2.2.1 (Io z.1.2.1)) (br J.2.2 (re (AV.bool (iP (zl z.1.t.2) z.1.2.1==0)) []) (re (kb Q4) []))) (re (kb Q4) []))
noncomputable def ziM(h:Sem zo):=an [Q7] po 40000000000000000000 (LA h)
theorem Vu{σ:Type}{t:σ->Tr (σ⊕aw)}{st:Nat->σ}{N:Nat}{b:Nat->Bool}{R:aw}(h:∀i,i<N->(t (st i)).val=if b i=Q3 then Q1 (.inl (st (i+1)))else Q1 (.inr R)):
  ((List.range N).all b=Q3/\zL t N (st 0) (st N))\/((List.range N).all b=Q4/\zV t N (st 0) R):=by
 rcases mK (t:=t) (Φ:=λr=>r=R) 1 st (λi=>b i=Q3) N (λi o _=>by
  cases B:b i
  ·exact .inr ⟨sw,R,zV.of (by rw[h i o,B];rfl),rfl⟩
  ·exact .inl ⟨rfl,zL.of (by rw[h i o,B];rfl)⟩)with⟨u,z⟩|⟨u,r,z,rfl⟩
 ·exact .inl ⟨by rw[en];exact λi o=>u i (pL.1 o),z.mono ow⟩
 ·refine .inr ⟨?_,z.mono ow⟩;rw[Bool.eq_false_iff,Ne,en];exact λq=>u λi o=>q i (pL.2 o)
def xX(x:Int)(n:Nat):Bool:=bif Q0 (x>=0)then Q0 (x<(n:Int))else Q4
def NF(t:Sem zo)(i:Nat):Bool:=!(cond (!zQ (getD t.2.1 i (zi zj)).1) Q3 (cond (Q0 ((getD t.2.1 i (zi zj)).2.1<1)) Q3 (cond (Q0 ((getD t.2.1 i (zi zj)).2.1>3)) Q3 (zR t (getD t.2.1 i (zi zj)).1!=(i:Int)))))
def zbx(t:Sem zo)(i:Nat):Bool:=xX (getD t.t.1 i (zi zp)).1 (Io t.2.1)&&zQ (getD t.t.1 i (zi zp)).2
def dA(t:Sem zo):Sem Q7:=!(cond (!zQ t.1) Q3 (cond (Q0 ((↑(Io t.2.1):Int)<1)) Q3 (Q0 ((↑(Io t.2.1):Int)>8))))&&((List.range (Io t.2.1)).all (NF t)&&((List.range (Io t.2.2.2.1)).all (λi=>xX (getD t.2.2.2.1 i (zi zg)) (Io t.2.1))&&((List.range (Io t.t.1)).all (zbx t)&&(xX t.2.2.1 (Io t.2.1)&&((getD t.2.1 (toNat t.2.2.1) (zi zj)).2.2&&(iP t.t.2 t.2.1==0))))))
theorem Ym{t:Sem zo}(S:Io t.2.2.2.1<=aF)(T:Io t.t.1<=aF):ziM t=Q1 (dA t,()):=by
 unfold dA;by_cases o:(cond (!zQ t.1) Q3 (cond (Q0 ((↑(Io t.2.1):Int)<1)) Q3 (Q0 ((↑(Io t.2.1):Int)>8))))=Q3
 ·rw[o];refine zH (r:=(.kb Q4,[])) ?_ rfl;simp only[LA,Q8];exact if_pos o
 have U:Io t.2.1<=8:=by
  cases J:zQ t.1
  ·rw[J]at o;simp at o
  ·rw[J]at o;simp at o;omega
 have C:(LA t).val=Q1 (.inl (.h4 t.2.1 (Io t.2.1:Int) ((0:Nat):Int) (t,()))):=by
  simp only[LA,Q8];exact if_neg o
 rw[g9]at o;rw[o];have W:aF=9223372036854775807:=rfl
 rcases Vu (t:=po) (R:=(.kb Q4,[])) (N:=Io t.2.1) (st:=λi=>.h4 t.2.1 (Io t.2.1:Int) (i:Int) (t,())) (b:=NF t) (λi h=>by
  simp only[po,Q8,zE h,zt h,if_true,aD,zk,Prod.eta,zr i (show i<aF by omega)];unfold NF;split
  ·rename_i c;rw[c];rfl
  ·rename_i c;rw[g9]at c;rw[c];rfl)with⟨D,G⟩|⟨D,G⟩
 rotate_left
 ·rw[D];exact zy C G ow rfl
 have u:=G.trans (zL.of (s':=.h11 t.2.2.2.1 (Io t.2.2.2.1:Int) ((0:Nat):Int) (t,())) (by
  simp only[po,Q8,zB,zA,if_false];rfl))
 rw[D]
 rcases Vu (t:=po) (R:=(.kb Q4,[])) (N:=Io t.2.2.2.1) (st:=λi=>.h11 t.2.2.2.1 (Io t.2.2.2.1:Int) (i:Int) (t,())) (b:=λi=>xX (getD t.2.2.2.1 i (zi zg)) (Io t.2.1)) (λi h=>by
  simp only[po,Q8,zE h,zt h,if_true,aD,zr i (show i<aF by omega)];unfold xX;split
  ·rename_i c;rw[sT]at c;rw[c];rfl
  ·rename_i c;rw[g9,Bool.not_eq_false']at c;rw[c];rfl)with⟨E,H⟩|⟨E,H⟩
 rotate_left
 ·rw[E];exact zy C (u.ends H) ow rfl
 have z:=(u.trans H).trans (zL.of (s':=.h17 t.t.1 (Io t.t.1:Int) ((0:Nat):Int) (t,())) (by
  simp only[po,Q8,zB,zA,if_false];rfl))
 rw[E]
 rcases Vu (t:=po) (R:=(.kb Q4,[])) (N:=Io t.t.1) (st:=λi=>.h17 t.t.1 (Io t.t.1:Int) (i:Int) (t,())) (b:=zbx t) (λi h=>by
  simp only[po,Q8,zE h,zt h,if_true,aD,zr i (show i<aF by omega)];unfold zbx xX;split
  ·rename_i c;rw[sT]at c;rw[c];rfl
  ·rename_i c;rw[g9,Bool.not_eq_false']at c;rw[c];cases zQ (getD t.t.1 i (zi zp)).2<;>rfl)with⟨F,I⟩|⟨F,I⟩
 rotate_left
 ·rw[F];exact zy C (z.ends I) ow rfl
 rw[F];have B:∃r,(po (.h17 t.t.1 (Io t.t.1:Int) (Io t.t.1:Int) (t,()))).val=Q1 (.inr r)/\aI r.2 [Q7] r.1=Q1 ((xX t.2.2.1 (Io t.2.1)&&((getD t.2.1 (toNat t.2.2.1) (zi zj)).2.2&&(iP t.t.2 t.2.1==0))),()):=by
  simp only[po,Q8,zB,zk,zA,if_false];unfold xX;cases c:(cond (Q0 (t.2.2.1>=0)) (Q0 (t.2.2.1<(↑(Io t.2.1):Int))) Q4)
  ·exact⟨_,rfl,rfl⟩
  ·have h:zJ t.2.2.1 (Io t.2.1)=Q3:=by
    cases O:Q0 (t.2.2.1>=0)<;>simp_all[zJ]
   rw[h];cases(getD t.2.1 (toNat t.2.2.1) (zi zj)).2.2
   ·exact⟨_,rfl,rfl⟩
   ·exact⟨_,rfl,rfl⟩
 obtain⟨r,L,M⟩:=B;exact zy C ((z.trans I).ends (zV.of L)) ow M
theorem ok8:zO U8.P 175 Tryz.f175 1:=bU kw
def F8t:ac:=aH [zo] [Q7] λx=>(dA x.1,())
theorem zlR:FK 175 F8t:=ag ok8 λx C u=>Reach.lenA 0 3 zg x.1.2.2.2.1 rfl rfl λh=>Reach.lenA 0 4 zp x.1.t.1 rfl rfl λo=>
 zbw (n0:=0) (t:=po) (e:=zml) (keep:=zhQ) (gas:=400) (i:=LA x.1) Gm ok8 (λid _=>u id) kw (by intro s;cases s<;>kernel_rfl) (Ym h o)
noncomputable def zdg:=U8.add 175 F8t
theorem Gn:zw zdg:=Gm.add zlR
abbrev zh3:=lu [(4,[1,2,19,20,21]),(10,[1,2,30,31])]
inductive yW where
 |h4 (l1:LV) (l19:LV) (i20:Int) (i21:Int) (z0:zm uS)
 |h10 (l1:LV) (i30:Int) (i31:Int) (z0:zm uS)
abbrev zmu:yW->Nat×St
 |.h4 B C h o D=>(4,⟨tm 79 [(1,sl ze B),(2,ptr 0 0),(19,sl ze C),(20,ai h),(21,ai o)],[Qa (bf [] uS D)]⟩)
 |.h10 B u z D=>(10,⟨tm 79 [(1,sl ze B),(2,ptr 0 0),(30,ai u),(31,ai z)],[Qa (bf [] uS D)]⟩)
noncomputable def VR(h:Sem zo)(o:Sem ze.sl):Tr (yW⊕aw):=br (cond (!dA (h.1,h.2.1,h.2.2.1,h.2.2.2.1,h.t.1,zl h.t.2)) Q3 ((↑(Io o):Int)!=(↑(Io h.2.1):Int))) (re (ai 1) []) (Q9 (yW.h4 o o (↑(Io o):Int) 0 (h,())))
noncomputable def wO:yW->Tr (yW⊕aw)
 | .h4 o B C u z=>
  br (Q0 (u<C))
  (Qc (zJ u (Io B)) (br (!aR (B.getD u.toNat (zi ze))) (re (ai 1) []) (Q9 (yW.h4 o B C (Γ Δ (u+1)) z))))
  (Q9 (yW.h10 o (↑o.length:Int) 0 z))
 | .h10 o D h z=>
  let E:=o.getD h.toNat (zi ze)
  let G:=E.1==0
  let H:=zJ h (Io z.1.2.1)
  let I:=getD z.1.2.1 h.toNat (zi zj)
  let J:=E.1!=0
  let F:=ia (zl z.1.t.2) z.1.2.1 o
  br (Q0 (h<D))
  (Qc (zJ h (Io o)&&bif G then H else Q3) (br (cond G I.2.2 Q4) (re (ai 8) []) (Qc (zJ h (Io o)&&bif J then zJ h (Io o)&&H else Q3) (br (cond J (E.1!=I.2.1) Q4) (re (ai 5) []) (Q9 (yW.h10 o D (Γ Δ (h+1)) z))))))
  (br (F.1==3&&(F.2.1==0&&(F.2.2==[]&&Q3))) (re (ai 9) []) (re (ai 0) []))
noncomputable def Rk(h:Sem zo)(o:Sem ze.sl):=an [zg] wO 100000000 (VR h o)
noncomputable def zcU:=FT [zo,ze.sl] [zg] λx=>Rk x.1 x.2.1
theorem Pu:FK 199 zcU:=Gn.T1 (f:=Tryz.f199) (keep:=zh3) (e:=zmu)
def eG(t:Sem zo)(row:LV):List (Sem ze)->Int->Sem zg
 |[],_=>if((ia t.t.2 t.2.1 row).1==3&&((ia t.t.2 t.2.1 row).2.1==0&&((ia t.t.2 t.2.1 row).2.2==[]&&Q3)))=Q3 then 9 else 0
 |x::r,i=>if(cond (x.1==0) ((getD t.2.1 i.toNat (zi zj)).2.2) Q4)=Q3 then 8 else if(cond (x.1!=0) (x.1!=(getD t.2.1 i.toNat (zi zj)).2.1) Q4)=Q3 then 5 else eG t row r (i+1)
def gu(t:Sem zo)(row:LV):List (Sem ze)->Int->Sem zg
 |[],_=>eG t row row 0
 |x::r,i=>if(!aR x)=Q3 then 1 else gu t row r (i+1)
def dc(t:Sem zo)(row:Sem ze.sl):Sem zg:=if(cond (!dA t) Q3 ((↑(Io row):Int)!=(↑(Io t.2.1):Int)))=Q3 then 1 else gu t row row 0
theorem Qq{t:Sem zo}(h:dA t=Q3):Io t.2.1<=8:=by
 unfold dA at h;rw[aE]at h;have h:=h.1;cases o:zQ t.1
 ·rw[o]at h;simp at h
 ·rw[o]at h;simp at h;omega
theorem Ts(t:Sem zo)(o:LV):Rk t o=Q1 (dc t o,()):=by
 unfold dc;by_cases h:(cond (!dA t) Q3 ((↑(Io o):Int)!=(↑(Io t.2.1):Int)))=Q3
 ·rw[if_pos h];refine zH (r:=(.int .i64 1,[])) ?_ rfl;simp only[VR,zk,Prod.eta,Q8];exact if_pos h
 rw[if_neg h];have B:dA t=Q3/\Io o=Io t.2.1:=by
  cases B:dA t
  ·rw[B]at h;simp at h
  ·rw[B]at h;simp at h;exact⟨rfl,ow⟩
 have J:=Qq B.1;have D:∀(m i:Nat),Io o-i=m->i<=Io o->zV wO (m+1) (.h10 o (Io o) i (t,())) (.int .i64 (eG t o (o.drop i) i),[]):=by
  intro m
  induction m with
  | zero=>
   intro i F G;obtain rfl:i=Io o:=by omega
   rw[jM,eG];refine zV.of ?_;simp only[wO,Q8,zB,zk,zA,if_false];split<;>rfl
  | succ m H=>
   intro i F G;have u:i<Io o:=by omega
   have E:getD o i (zi ze)=o[i]:=cL _ _ u;rw[fk u,eG];have z:(wO (.h10 o (Io o) i (t,()))).val=if(cond (o[i].1==0) ((getD t.2.1 i (zi zj)).2.2) Q4)=Q3 then Q1 (.inr (.int .i64 8,[]))else if(cond (o[i].1!=0) (o[i].1!=(getD t.2.1 i (zi zj)).2.1) Q4)=Q3 then Q1 (.inr (.int .i64 5,[]))else Q1 (.inl (.h10 o (Io o) ((i+1:Nat):Int) (t,()))):=by
    simp only[wO,Q8,zE u,zt u,zt (show i<Io t.2.1 by omega),aD,E,dT,Bool.cond_self,if_true,zr i (show i<aF by unfold aF;omega)]
   simp only[aD];split
   ·rename_i c;exact(zV.of (by rw[z,if_pos c])).mono ow
   ·rename_i c;split
    ·rename_i C;exact(zV.of (by rw[z,if_neg c,if_pos C])).mono ow
    ·rename_i C;exact(zL.of (by rw[z,if_neg c,if_neg C])).ends (H (i+1) ow ow)
 have I:∀(m i:Nat),Io o-i=m->i<=Io o->zV wO (m+Io o+2) (.h4 o o (Io o) i (t,())) (.int .i64 (gu t o (o.drop i) i),[]):=by
  intro m
  induction m with
  | zero=>
   intro i F G;obtain rfl:i=Io o:=by omega
   rw[jM,gu];refine((zL.of (s':=.h10 o (Io o) ((0:Nat):Int) (t,())) ?_).ends (D (Io o) 0 ow ow)).mono ow;simp only[wO,Q8,zB,zA,if_false];rfl
  | succ m H=>
   intro i F G;have u:i<Io o:=by omega
   have E:getD o i (zi ze)=o[i]:=cL _ _ u;rw[fk u,gu];have z:(wO (.h4 o o (Io o) i (t,()))).val=if(!aR o[i])=Q3 then Q1 (.inr (.int .i64 1,[]))else Q1 (.inl (.h4 o o (Io o) ((i+1:Nat):Int) (t,()))):=by
    simp only[wO,Q8,zE u,zt u,aD,E,if_true,zr i (show i<aF by unfold aF;omega)]
   split
   ·rename_i c;exact(zV.of (by rw[z,if_pos c])).mono ow
   ·rename_i c;exact((zL.of (by rw[z,if_neg c])).ends (H (i+1) ow ow)).mono ow
 refine zy (s:=.h4 o o (Io o) ((0:Nat):Int) (t,())) ?_ (I (Io o) 0 ow ow) ow rfl;simp only[VR,zk,Prod.eta,Q8];exact if_neg h
noncomputable def zdh:=zdg.add 199 zcU
theorem Sw:zw zdh:=Gn.add Pu
def zja:ac:=aH [zo,ze.sl] [zg] λx=>(dc x.1 x.2.1,())
theorem zeH:FK 199 zja:=g7 Pu λx=>Ts x.1 x.2.1
noncomputable def C8:=zdh.add 199 zja
theorem Sx:zw C8:=Sw.add zeH
open Go.RowKit Go.Lib in
theorem zfZ:FK 223 (zT [.str,.str] [.bool] (λx=>Io x.2.1==1) λx=>(Q0 (0<=Lib.indexByte x.1 (x.2.1.headD 0)),())):=by
 refine fh (E:=C8) ⟨Tryz.f223,kw,kw,kw⟩ λx X S h=>?_
 unfold eO at h;split at h
 ·simp only[Q8]at h;split at h
  ·rename_i F;simp only[bH]at h;subst h;obtain⟨s,B,u⟩:=x;have F:(Io B==1)=Q3:=F
   match B,F with
   | [c],_=>
    intro C w U ρ D _ z J o G L;have M:=z.len
    match D,M,z with
    | [T,W],_,z=>
     have H:=z.rv 0 (.str s) T rfl rfl;have I:=z.rv 1 (.str [c]) W rfl rfl;cases H with
     |str _ Y=>
     cases I with
     |str _ O=>
     refine(Tryz.strings_Contains_one ⟨s.toArray⟩ c w).mono ?_;rintro e Z ⟨rfl,rfl⟩;exact ek J o G L (Below.refl _ _) (.bool _)
  ·cases h
 ·simp at h
def F63:ac:=zT [.str,.str] [.bool] (λx=>Io x.2.1==1) λx=>(Q0 (0<=Lib.indexByte x.1 (x.2.1.headD 0)),())
theorem zlv:FK 223 F63:=zfZ
def F89:ac:=zT [.str] [.str] (λx=>Q0 (Io x.1<=140737488355328)&&x.1.all λb=>Q0 (b.toNat<128)) λx=>(Lib.toUpperA x.1,())
open Go.RowKit Go.Lib in
theorem zlP:FK 242 F89:=by
 refine fh (E:=C8) ⟨Tryz.f242,kw,kw,kw⟩ λx Z X h=>?_
 unfold eO at h;split at h
 ·simp only[Q8]at h;split at h
  ·rename_i o;simp only[bH]at h;subst h;obtain⟨s,u⟩:=x;have o:(Q0 (Io s<=140737488355328)&&s.all λb=>Q0 (b.toNat<128))=Q3:=o;simp only[aE,aN]at o;obtain⟨G,o⟩:=o;intro C w U ρ B _ D J z H L;have S:=D.len
   match B,S,D with
   | [Y],_,D=>
    have I:=D.rv 0 (.str s) Y rfl rfl;cases I with
    |str _ W=>
    refine(Tryz.strings_ToUpper_ascii ⟨s.toArray⟩ w (by simpa[ByteArray.size]using G) (λj b O=>?_)).mono ?_
    ·have T:b∈s:=pI (by simpa using O);simp only[en,aN]at o;exact o b T
    ·rintro e w' ⟨rfl,M⟩;have F:=ek (r:=.str (Lib.toUpperA s)) J z H L M (.str _ (by simpa[Lib.toUpperA]using W));exact F
  ·cases h
 ·simp at h
def nZ:Nat->Nat->zD
 |0,_=>[]
 |f+1,n=>if n<10 then[UInt8.ofNat (48+n)]else nZ f (n/10)++[UInt8.ofNat (48+n%10)]
def td(n:Int):zD:=if n<0 then 45::nZ 20 n.natAbs else nZ 20 n.natAbs
theorem If:∀(f n:Nat),n<10^f->0<f->nZ f n=Lib.decDigits n
 |0,_,_,h=>by omega
 | f+1,n,h,_=>by
  rw[nZ,Lib.decDigits];split
  ·rfl
  ·rename_i u;have o:0<f:=by
    cases f with
    |zero=>simp at h;omega
    |succ f=>omega
   rw[If f (n/10) (by rw[tA]at h;omega) o]
theorem CO:∀(f n:Nat),(nZ f n).length<=f
 |0,_=>by simp[nZ]
 | f+1,n=>by
  rw[nZ];split
  ·simp
  ·have:=CO f (n/10);simp;omega
theorem G9(n:Int):(td n).length<=21:=by
 unfold td;have:=CO 20 n.natAbs;split<;>simp<;>omega
theorem V4(n:Int)(h:cz .i64 n):Lib.itoa n=td n:=by
 have o:-9223372036854775808<=n:=h.1;have u:n<=9223372036854775807:=h.2;unfold Lib.itoa td;split
 ·rw[If 20 _ ow ow]
 ·rw[If 20 _ ow ow];congr 1;omega
def zjj:ac:=zT [zg,zg] [.str] (λx=>x.2.1==10) λx=>(td x.1,())
open Go.RowKit Go.Lib in
theorem zeQ:FK 288 zjj:=by
 refine fh (E:=C8) ⟨Tryz.f288,kw,kw,kw⟩ λx h0 h3 h=>?_
 unfold eO at h;split at h
 ·simp only[Q8]at h;split at h
  ·rename_i F;simp only[bH]at h;subst h;obtain⟨n,b,u⟩:=x;have F:(b==10)=Q3:=F;simp only[bg]at F;subst F;intro C w U ρ D _ z O o H I;have Y:=z.len
   match D,Y,z with
   | [v1,v2],_,z=>
    have J:=z.rv 0 (.int .i64 n) v1 rfl rfl;have L:=z.rv 1 (.int .i64 10) v2 rfl rfl;cases J with
    |int _ _ G=>
    cases L;have M:Rv w U (λ_=>Q2) (.tab .u64 mE) (.pointer (Q1 ⟨5,0,Q2⟩)):=I.gl 5;have B:Lib.TabIs Tryz.prog w "internal/strconv.uint64pow10" .u64 Lib.pow10Tab:=by
     cases M with
     |tab _ _ _ T fr S hU=>
     have W:Tryz.prog.globalNamed "internal/strconv.uint64pow10"=Q1 5:=by kernel_rfl
     have Z:Lib.pow10Tab=mE:=by decide+kernel
     unfold Lib.TabIs World.var?;rw[W,Z];simp only[Option.bind_some,S]
    refine(Tryz.strconv_FormatInt_10 n G.1 G.2 w B).mono ?_;rintro e w' ⟨rfl,k,os,rfl⟩;rw[V4 n G];exact ek (r:=.str (td n)) O o H I ⟨rfl,rfl,rfl,by show w.heap.size<=(w.heap++os).size;simp,λj X=>by show(w.heap++os)[j]?=w.heap[j]?;rw[Array.getElem?_append_left X]⟩ (.str _ (by have:=G9 n;unfold aF;omega))
  ·cases h
 ·simp at h
theorem wy(o h:zD):∀(k:Nat)(s:zD),(Lib.replaceK o h k s).length<=Io s+k*Io h
 |0,s=>by simp[Lib.replaceK]
 | k+1,s=>by
  rw[Lib.replaceK];split
  ·omega
  ·have:=wy o h k (s.drop ((Lib.index s o).toNat+Io o));simp only[ja,o9,List.length_drop]at this⊢;rw[gT];omega
theorem lL(s o h:zD):(Lib.replaceAll s o h).length<=Io s+(Io s+1)*Io h:=by
 unfold Lib.replaceAll Lib.replace;split
 ·omega
 ·refine bt (wy o h _ s) ?_;have u:=Lib.count_le s o;have:Lib.replaceNum s o (-1)=Lib.count s o:=by unfold Lib.replaceNum;rw[if_pos (.inl ow)]
  rw[this];have:=fH (Io h) u;omega
def ww(s o h:zD):Bool:=Q0 (Io s<=4000000000)&&(Q0 (1<=Io o)&&Q0 (Io h<=1000))
def zjk:ac:=zT [.str,.str,.str] [.str] (λx=>ww x.1 x.2.1 x.2.2.1) λx=>(Lib.replaceAll x.1 x.2.1 x.2.2.1,())
open Go.RowKit Go.Lib in
theorem zeR:FK 289 zjk:=by
 refine fh (E:=C8) ⟨Tryz.f289,kw,kw,kw⟩ λx h0 x0 z=>?_
 unfold eO at z;split at z
 ·simp only[Q8]at z;split at z
  ·rename_i F;simp only[bH]at z;subst z;obtain⟨s,o,h,u⟩:=x;have F:ww s o h=Q3:=F;unfold ww at F;simp only[aE,aN]at F;obtain⟨h5,G,H⟩:=F;intro C w U ρ L _ B hH I X Y;have hl:=B.len
   match L,hl,B with
   | [v1,v2,v3],_,B=>
    have h1:=B.rv 0 (.str s) v1 rfl rfl;have h2:=B.rv 1 (.str o) v2 rfl rfl;have h3:=B.rv 2 (.str h) v3 rfl rfl;cases h1 with
    |str _ h7=>
    cases h2 with
    |str _ h8=>
    cases h3 with
    |str _ h9=>
    have M:Rv w U (λ_=>Q2) .gint (.pointer (Q1 ⟨0,0,Q2⟩)):=Y.gl 0;have O:∃m:Int,w.cell? ⟨0,0,Q2⟩=Q1 (.int .i64 m):=by
     cases M with
     |gint m _ T fr _ hb _=>exact⟨m,by simp[World.cell?,hb]⟩
    obtain⟨m,hm⟩:=O;have h6:=Lib.countB_le (⟨o.toArray⟩:ByteArray) (by simpa[ByteArray.size]using G) (Io s) (⟨s.toArray⟩:ByteArray) (by simp[ByteArray.size]);have J:(⟨s.toArray⟩:ByteArray).size=Io s:=by simp[ByteArray.size]
    have W:(⟨h.toArray⟩:ByteArray).size=Io h:=by simp[ByteArray.size]
    have h4:Lib.countB (⟨s.toArray⟩:ByteArray) ⟨o.toArray⟩*Io h<=4000000000*1000:=F9 ow H;refine(Tryz.strings_ReplaceAll ⟨s.toArray⟩ ⟨o.toArray⟩ ⟨h.toArray⟩ m w (by rw[J];omega) hm (by simpa[ByteArray.size]using G) (by rw[J,W];omega)).mono ?_;rintro e w' ⟨rfl,D⟩;refine ek (r:=.str (Lib.replaceAll s o h)) hH I X Y D (.str _ ?_);have Z:=lL s o h;have S:(Io s+1)*Io h<=4000000001*1000:=F9 ow H;unfold aF;omega
  ·cases z
 ·simp at z
def zji:ac:=zT [.sl .str,.str] [.str] (λx=>Q0 (Io x.1<=140737488355328)&&Q0 ((Lib.join x.1 x.2.1).length<=140737488355328)) λx=>(Lib.join x.1 x.2.1,())
open Go.RowKit Go.Lib in
theorem zeP:FK 287 zji:=by
 refine fh (E:=C8) ⟨Tryz.f287,kw,kw,kw⟩ λx h0 h7 z=>?_
 unfold eO at z;split at z
 ·simp only[Q8]at z;split at z
  ·rename_i F;simp only[bH]at z;subst z;obtain⟨l,h,u⟩:=x;have F:(Q0 (Io l<=140737488355328)&&Q0 ((Lib.join l h).length<=140737488355328))=Q3:=F;simp only[aE,aN]at F;obtain⟨M,F⟩:=F;have h5:aF=9223372036854775807:=rfl;intro C w U ρ W _ J hH D T hW;have hl:=J.len
   match W,hl,J with
   | [v1,v2],_,J=>
    have Z:=J.rv 0 (.sl .str l) v1 rfl rfl;have h2:=J.rv 1 (.str h) v2 rfl rfl;cases h2 with
    |str _ h6=>
    generalize O:l=l0 at Z F M J;cases Z with
    | sl0 _ a c=>
     subst O;refine(Tryz.strings_Join_none a c ⟨h.toArray⟩ w).mono ?_;rintro e w' ⟨rfl,rfl⟩;exact ek (r:=.str []) hH D T hW (Below.refl _ _) (.str _ sw)
    | sl _ _ b o c H X hm hb hU G Y=>
     subst O;have z:∀(j:Nat) x,(l.map λs=>(⟨s.toArray⟩:ByteArray))[j]?=Q1 x->w.cell? ⟨b,o+j,Q2⟩=Q1 (.string x):=by
      intro j x I;simp only[eY,eA]at I;obtain⟨s,hs,rfl⟩:=I;obtain⟨S,rfl⟩:=dp.1 hs;have h3:=G j 0 S (by simp[Sh.size]);have h4:=Y j S 0 (.str l[j]) rfl;simp only[Sh.size,Nat.mul_one,Af]at h3;rw[h3];generalize H j 0=vv at h4;cases h4;rfl
     have B:(l.map λs=>(⟨s.toArray⟩:ByteArray)).map (·.data.toList)=l:=by
      simp[uE]
     have I:=Tryz.strings_Join b o c (l.map λs=>(⟨s.toArray⟩:ByteArray)) ⟨h.toArray⟩ w z hb (by simpa using M) (by simpa using X) (by rw[B];exact F);rw[B]at I;simp only[cA]at I;refine I.mono ?_;rintro e w' ⟨rfl,L⟩;exact ek (r:=.str (Lib.join l h)) hH D T hW L (.str _ ow)
  ·cases z
 ·simp at z
noncomputable def sY:=C8.addL [(223,F63),(242,F89),(288,zjj),(289,zjk),(287,zji)]
theorem jo:zw sY:=Sx.addL<|fc zlv<|fc zlP<|fc zeQ<|fc zeR<|fc zeP iA
theorem Reach.promNil{E:bY}{C:fg}{M:FuncId}{B:List Item}{st:St}(e:Sh)(hC:∀id,C.ρ0 id=Q2)(h:Reach E C M B st (λr h=>(r,h)=(.nils,[]))):Reach E C M B st (λr h=>(r,h)=(.vec 0,[.vec e []])):=by
 intro b cs a w U ρ Z h2 hc hW;obtain⟨W,T,X,⟨v,r,h',L,ρ',he,hq,J,hH,O,h6,G⟩,H,hf,hl⟩:=h b cs a w U ρ Z h2 hc hW;cases hq;cases J with
 |nils F=>
 have u:∀id o b,o=(AO.vec e []:AO)\/o=AO.dead->¬ar (λid=>if id=0 then Q1 (.slice F 0 0)else Q2) id o b:=by
  rintro id o b ho ⟨h3,x,h4,h5⟩;rcases ho with rfl|rfl
  ·simp only at h4;split at h4
   ·cases h4;cases F<;>simp[e7]at h5
   ·cases h4
  ·simp[AO.owns]at h3
 have D:∀id,(([AO.vec e []]:List AO).getD id .dead)=(ite (id=0) (AO.vec e []) AO.dead):=by
  intro id;cases id<;>simp
 refine⟨W,T,X,⟨_,_,_,L,λid=>if id=0 then Q1 (.slice F 0 0)else Q2,he,rfl,.vec 0 _ sw (by simp[Value.oneCell']),⟨λid=>?_,λid1 h7 b o=>?_,λid b o=>?_⟩,λid I=>?_,λid v S=>?_,G⟩,H,hf,hl⟩
 ·show bF T L _ id (([AO.vec e []]:List AO).getD id .dead);rw[D];split
  ·rename_i Y;subst Y;exact⟨F,0,sw,sw,.inl ⟨rfl,rfl⟩⟩
  ·trivial
 ·exfalso;have z:ar (λid=>if id=0 then Q1 (.slice F 0 0)else Q2) id1 (([AO.vec e []]:List AO).getD id1 .dead) b:=o;rw[D]at z;split at z
  ·exact u _ _ _ (.inl rfl) z
  ·exact u _ _ _ (.inr rfl) z
 ·exfalso;have z:ar (λid=>if id=0 then Q1 (.slice F 0 0)else Q2) id (([AO.vec e []]:List AO).getD id .dead) b:=o;rw[D]at z;split at z
  ·exact u _ _ _ (.inl rfl) z
  ·exact u _ _ _ (.inr rfl) z
 ·simp at I;simp;omega
 ·rw[hC id]at S;cases S
def iB:Tr zF->List Item×List Item×St
 |.ok (.fork _ h o st)=>(h,o,st)
 |_=>([],[],⟨[],[]⟩)
abbrev kpC:Nat->aM:=λ_=>{ }
noncomputable abbrev KT(l:List zf):Tr zF:=run sY 0 kpC (Func.results Tryz.f160).toList 300 (bC Tryz.f160) (bj (Func.ntmps Tryz.f160) [.sl .expr l] [])
theorem zbb:zO sY.P 160 Tryz.f160 1:=bU kw
theorem zrD(l:List zf):KT l=.ok (.fork l.isEmpty (iB (KT l)).1 (iB (KT l)).2.1 (iB (KT l)).2.2):=kw
theorem zpx(l:List zf):run sY 0 kpC (Func.results Tryz.f160).toList 300 (iB (KT l)).1 (iB (KT l)).2.2=.ok (.ret .nils []):=kw
theorem zpy(l:List zf):run sY 0 kpC (Func.results Tryz.f160).toList 300 (iB (KT l)).2.1 (iB (KT l)).2.2=.chk (Q0 (Io l<=1073741824)) (.ok (.ret (.vec 0) [.vec .expr l])):=kw
def G53:iV [Q1 (.sl .expr)]:=λx h=>match h with
 |[]=>.chk (Q0 (Io x.1<=1073741824)) (.ok (.vec 0,[.vec .expr x.1]))
 |_=>.err
def F53:ac:=bp [Q1 (.sl .expr)] G53
theorem zlm:FK 160 F53:=by
 refine dV zbb λx H G o C z=>?_
 unfold G53 at o;split at o
 ·simp only[Q8]at o;split at o
  ·rename_i D;simp only[bH]at o;subst o;obtain⟨l,u⟩:=x;refine zI (n0:=0) jo zbb z (zrD l) ?_;refine⟨λB=>?_,?_⟩
   ·have E:l=[]:=List.isEmpty_iff.1 B;refine Reach.weaken (Q:=λr h=>(r,h)=(.vec 0,[.vec .expr []])) (Reach.promNil .expr (λid=>z id sw) (zI (n0:=0) jo zbb z (zpx l) rfl)) ?_;intro r h F;cases F;refine⟨_,?_,λ_ _ _ _ h=>h⟩;show(AV.vec 0,[AO.vec Q5 []])=(AV.vec 0,[AO.vec Q5 l]);rw[E]
   ·exact zI (n0:=0) jo zbb z (zpy l) (mO D rfl)
  ·cases o
 ·simp at o
noncomputable abbrev KS(l:List (Sem zj)):Tr zF:=run sY 0 kpC (Func.results Tryz.f156).toList 300 (bC Tryz.f156) (bj (Func.ntmps Tryz.f156) [.sl zj l] [])
theorem za9:zO sY.P 156 Tryz.f156 1:=bU kw
theorem zrl(l:List (Sem zj)):KS l=.ok (.fork l.isEmpty (iB (KS l)).1 (iB (KS l)).2.1 (iB (KS l)).2.2):=kw
theorem zps(l:List (Sem zj)):run sY 0 kpC (Func.results Tryz.f156).toList 300 (iB (KS l)).1 (iB (KS l)).2.2=.ok (.ret .nils []):=kw
theorem zpt(l:List (Sem zj)):run sY 0 kpC (Func.results Tryz.f156).toList 300 (iB (KS l)).2.1 (iB (KS l)).2.2=.chk (Q0 (Io l<=1073741824)) (.ok (.ret (.vec 0) [.vec zj l])):=kw
def G32:iV [Q1 (.sl zj)]:=λx h=>match h with
 |[]=>.chk (Q0 (Io x.1<=1073741824)) (.ok (.vec 0,[.vec zj x.1]))
 |_=>.err
def F32:ac:=bp [Q1 (.sl zj)] G32
theorem zk2:FK 156 F32:=by
 refine dV za9 λx H G o C z=>?_
 unfold G32 at o;split at o
 ·simp only[Q8]at o;split at o
  ·rename_i D;simp only[bH]at o;subst o;obtain⟨l,u⟩:=x;refine zI (n0:=0) jo za9 z (zrl l) ?_;refine⟨λB=>?_,?_⟩
   ·have E:l=[]:=List.isEmpty_iff.1 B;refine Reach.weaken (Q:=λr h=>(r,h)=(.vec 0,[.vec zj []])) (Reach.promNil zj (λid=>z id sw) (zI (n0:=0) jo za9 z (zps l) rfl)) ?_;intro r h F;cases F;refine⟨_,?_,λ_ _ _ _ h=>h⟩;show(AV.vec 0,[AO.vec zj []])=(AV.vec 0,[AO.vec zj l]);rw[E]
   ·exact zI (n0:=0) jo za9 z (zpt l) (mO D rfl)
  ·cases o
 ·simp at o
noncomputable def zg5:=sY.addL [(160,F53),(156,F32)]
theorem Ll:zw zg5:=jo.addL<|fc zlm<|fc zk2 iA
def TO(c:zf->Bool):ac:=zT [.expr] [.expr] (λx=>c x.1) λx=>(x.1,())
noncomputable def Sl(c:zf->Bool):bY:=zg5.add 115 (TO c)
theorem CW{c:zf->Bool}(h:FK 115 (TO c)):zw (Sl c):=Ll.add h
abbrev znQ:Nat->aM:=λj=>if j=3 then{slots:=[1,2,10,11]}else{ }
abbrev Rd(o:Int)(u:Int)(z:zD)(B:Int)(C:Int)(D:zD)(E:zD)(h:List (Sem Q5)):St:={
 tmps:=
  (tm 26 [(1,ptr 0 0),(2,ptr 1 0),(10,ai o),(11,ai u)]),
 heap:=
  [Qa [str z,ai B,ai C,str D,str E,AV.vec 2],
   Qa [str [],ai 0,ai 0,str [],str [],nils],AO.vec Q5 h]}
theorem OA(c:zf->Bool):zO (Sl c).P 115 Tryz.f115 1:=bU kw
theorem zrm(c:zf->Bool)(o:zD)(v:V)(s:zD)(l:List zf):rn (Sl c) 0 znQ Tryz.f115 [zC Q5 (zf.mk o v s l)] []=
 Qc (Q0 (Io l<=1073741824)) (Tr.ok (zF.head 3 (aj Tryz.f115 3) (Rd (↑l.length:Int) 0 o v.1 v.2.1 v.2.2 s l))):=kw
theorem Xf(c:zf->Bool)(u:Int)(o:Int)(z:zD)(B:Int)(C:Int)(D:zD)(E:zD)(h:List (Sem Sh.expr)):rh (Sl c) 0 znQ Tryz.f115 3 (Rd u o z B C D E h)=
 br (Q0 (o<u))
 (chk (zJ o (Io h))
  (chk (decide (o.toNat<Io h))
   (chk (c (zl (h.getD o.toNat (zi Sh.expr))))
    (chk (zJ o (Io h))
     (chk (decide (o.toNat<Io h))
      (Tr.ok
       (zF.head 3 (aj Tryz.f115 3)
        (Rd u (Γ Δ (o+1)) z B C D E
         (h.set o.toNat
          (zl (h.getD o.toNat (zi Q5))))))))))))
 (Tr.ok
  (zF.ret (agg [str z,ai B,ai C,str D,str E,AV.vec 0]) [AO.vec Q5 h])):=kw
theorem zqk{c:zf->Bool}(B:FK 115 (TO c)){C:fg}(z:∀id,C.ρ0 id=Q2)(D:zD)(v:V)(s:zD)(l:List zf)(L:Io l<=1073741824)(u:l.all c=Q3):
  ∀(k i:Nat),Io l-i=k->i<=Io l->Reach (Sl c) C 115 (aj Tryz.f115 3) (Rd (Io l) i D v.1 v.2.1 v.2.2 s l) (λr h=>aI h [.expr] r=Q1 (zf.mk D v s l,())):=by
 intro k
 induction k with
 | zero=>
  intro i J H;obtain rfl:i=Io l:=by omega
  refine zI (n0:=0) (CW B) (OA c) (λid _=>z id) (Xf c _ _ _ _ _ _ _ _) ?_;simp only[zB,Tr.val_brF];rfl
 | succ k I=>
  intro i J H;have o:i<Io l:=by omega
  refine zI (n0:=0) (CW B) (OA c) (λid _=>z id) (Xf c _ _ _ _ _ _ _ _) ?_;have E:c l[i]=Q3:=en.1 u _ (aP o);have F:Q0 ((i:Int).toNat<Io l)=Q3:=by simpa using o
  have G:l.set (i:Int).toNat l[i]=l:=by simp
  simp only[zE o,zt o,cL l _ o,zf.eta,Tr.val_brT,Tr.val_chkT,E,F,G,zr i um];exact I (i+1) ow ow
def sG:Nat->zf->Bool
 |0,_=>Q4
 |n+1,.mk _ _ _ l=>Q0 (Io l<=1073741824)&&l.all (sG n)
theorem Nj:∀n,FK 115 (TO (sG n))
 |0=>eX ⟨Tryz.f115,(OA (λ_=>Q4)).1,(OA (λ_=>Q4)).2.1,(OA (λ_=>Q4)).2.2.1⟩ (λ_=>rfl)
 | n+1=>by
  refine aL (E:=Sl (sG n)) (OA _) λx h C o=>?_
  obtain⟨⟨z,v,s,l⟩,u⟩:=x;have h:(Q0 (Io l<=1073741824)&&l.all (sG n))=Q3:=h;simp only[aE,aN]at h;refine zI (n0:=0) (CW (Nj n)) (OA _) (λid _=>o id) (zrm _ z v s l) ?_;refine mO (by simpa using h.1) ?_;exact zqk (Nj n) o z v s l h.1 h.2 _ 0 rfl (aQ _)
def F33:ac:=TO (sG 16)
theorem zk3:FK 115 F33:=Nj 16
noncomputable def md:=zg5.add 115 F33
theorem jp:zw md:=Ll.add zk3
abbrev jf:Sh:=.pr .str .str
abbrev ij:Sh:=.pr .str .expr
abbrev zn:Sh:=.pr .str (.pr .str (.pr .str (.pr (.sl .str) (.pr (.sl zj) (.pr .str (.pr (.sl .str) (.pr (.sl jf) (.pr .expr (.pr (.sl ze) (.pr (.sl ij) (.pr .expr .str)))))))))))
def Fx(x:Sem zn):Sem zn:=(x.1,x.2.1,x.2.2.1,x.2.2.2.1,x.2.2.2.2.1,x.2.2.2.2.2.1,x.2.2.2.2.2.2.1,x.2.2.2.2.2.2.2.1,zl x.2.2.2.2.2.2.2.2.1,x.2.2.2.2.2.2.2.2.2.1,x.2.2.2.2.2.2.2.2.2.2.1,zl x.2.2.2.2.2.2.2.2.2.2.2.1,x.2.2.2.2.2.2.2.2.2.2.2.2)
theorem P2(x:Sem zn):Fx x=x:=by unfold Fx;rw[zk,zk]
abbrev zd4:Nat->aM:=λj=>if j=2 then{slots:=[0,2,4]}else{ }
abbrev EH(z:TS)(u:Int)(h:Int)(o:List UInt8):St:={tmps:=(tm 37 [(0,str z),(2,ptr 0 0),(4,ai u)]),heap:=[Qa [ai h,str o]]}
theorem WX:zO (md).P 292 Tryz.f292 1:=bU kw
theorem zmE(h:TS):rn md 0 zd4 Tryz.f292 [zC Q6 h] []=Tr.ok (zF.head 2 (aj Tryz.f292 2) (EH h 1 0 [])):=kw
theorem zbe(o:TS)(h:Int)(u:Int)(z:List UInt8):rh md 0 zd4 Tryz.f292 2 (EH o h u z)=br (Q0 (h<(↑(Io o):Int))) (Qc (zJ h (Io o)) (br ((↑(getD o h.toNat 0).toNat:Int)!=39) (Tr.ok (zF.head 2 (aj Tryz.f292 2) (EH o (Γ Δ (h+1)) u z))) (Qc (cond (Q0 (Γ Δ (h+1)<(↑(Io o):Int))) (zJ (Γ Δ (h+1)) (Io o)) Q3) (br (cond (Q0 (Γ Δ (h+1)<(↑(Io o):Int))) ((↑(getD o (Γ Δ (h+1)).toNat 0).toNat:Int)==39) Q4) (Tr.ok (zF.head 2 (aj Tryz.f292 2) (EH o (Γ Δ (Γ Δ (h+1)+1)) u z))) (Qc (Q0 (0<=1)&&Q0 (1<=h)&&Q0 (h<=(↑(Io o):Int))) (Qc (ww (Qg (h.toNat-toNat 1) (Qh (toNat 1) o)) nW [39]) (Tr.ok (zF.ret (tup [agg [ai 3,str (Lib.replaceAll (Qg (h.toNat-toNat 1) (Qh (toNat 1) o)) nW [39])],ai (Γ Δ (h+1))]) [])))))))) (Tr.ok (zF.ret (tup [agg [ai 0,str []],ai 0]) [])):=kw
def fa:Nat->(Sem Sh.str)->Int->Int->(List UInt8)->Sem ce×Sem zg
 |0,_,_,_,_=>default
 |n+1,o,h,u,z=>(if Q0 (h<(↑(Io o):Int))=Q3 then
 if((↑(getD o h.toNat 0).toNat:Int)!=39)=Q3 then fa n o (Γ Δ (h+1)) u z
 else
  if
    (bif Q0 (Γ Δ (h+1)<(↑(Io o):Int))then(↑(getD o (Γ Δ (h+1)).toNat 0).toNat:Int)==39
     else Q4)=
     Q3 then
   fa n o (Γ Δ (Γ Δ (h+1)+1)) u z
  else((3,Lib.replaceAll (Qg (h.toNat-toNat 1) (Qh (toNat 1) o)) nW [39]),Γ Δ (h+1))
else((0,[]),0))
def jx:Nat->(Sem Sh.str)->Int->Int->(List UInt8)->Bool
 |0,_,_,_,_=>Q4
 |n+1,o,h,u,z=>(if Q0 (h<(↑(Io o):Int))=Q3 then
 if zJ h (Io o)=true then
  if((↑(getD o h.toNat 0).toNat:Int)!=39)=Q3 then jx n o (Γ Δ (h+1)) u z
  else
   if (cond (decide (Γ Δ (h+1) < (↑(Io o):Int))) (zJ (Γ Δ (h+1)) (Io o)) true)=true then
    if
      (bif Q0 (Γ Δ (h+1)<(↑(Io o):Int))then(↑(getD o (Γ Δ (h+1)).toNat 0).toNat:Int)==39
       else Q4)=
       Q3 then
     jx n o (Γ Δ (Γ Δ (h+1)+1)) u z
    else
     if(Q0 (0<=1)&&Q0 (1<=h)&&Q0 (h<=(↑(Io o):Int)))=Q3 then
      if ww (Qg (h.toNat-toNat 1) (Qh (toNat 1) o)) nW [39]=Q3 then Q3 else Q4
     else Q4
   else Q4
 else Q4
else Q3)
theorem PF{C:fg}(F:∀id,C.ρ0 id=Q2):∀(n:Nat)(E:TS)(D:Int)(o:Int)(u:List UInt8),jx n E D o u=Q3->
  Reach (md) C 292 (aj Tryz.f292 2) (EH E D o u) (λr h=>aI h [ce,zg] r=Q1 ((fa n E D o u).1,(fa n E D o u).2,()))
 |0,E,D,o,u,z=>by cases z
 | n+1,E,D,o,u,z=>by
  refine zI jp (WX) (λid _=>F id) (zbe _ _ _ _) ?_;rw[jx]at z;generalize B:fa (n+1) E D o u=y;rw[fa]at B
  try simp only[zf.eta,zk]
  repeat' (first|with_reducible refine vI B z (λ_ B z=>?_) (λ_ B z=>?_)|with_reducible refine du B (λ_ B=>?_) (λ_ B=>?_)|with_reducible refine iI z (λz=>?_)|with_reducible refine zP ?_)
  all_goals first|(cases z;done)|(subst B;first|(change Reach _ _ _ _ _ _;refine PF F n _ _ _ _ ?_<;>exact z)|rfl)
def em(h:TS):Sem ce×Sem zg:=(fa (Io h+1) h 1 0 [])
def kD(h:TS):Bool:=(jx (Io h+1) h 1 0 [])
def zjm:ac:=zT [Q6] [ce,zg] (λx=>kD x.1) λx=>((em x.1).1,(em x.1).2,())
theorem zeT:FK 292 zjm:=by
 refine aL (WX) λx h C u=>?_
 unfold kD at h;refine zI jp (WX) (λid _=>u id) (zmE x.1) ?_;generalize o:em x.1=y;unfold em at o
 try simp only[zf.eta,zk]
 repeat' (first|with_reducible refine vI o h (λ_ o h=>?_) (λ_ o h=>?_)|with_reducible refine du o (λ_ o=>?_) (λ_ o=>?_)|with_reducible refine iI h (λh=>?_)|with_reducible refine zP ?_)
 all_goals first|(cases h;done)|(subst o;first|(change Reach _ _ _ _ _ _;refine PF u _ _ _ _ _ ?_<;>exact h)|rfl)
abbrev zny:Nat->aM:=λ_=>{ }
theorem zeg:zO (md).P 276 Tryz.f276 1:=bU kw
theorem zmC(h:Sem Q5):rn md 0 zny Tryz.f276 [zC Q5 h] []=Tr.ok (zF.ret (AV.bool (cond (zf.op h==[]) (cond ((zf.v h).1==0&&((zf.v h).2.1==0&&((zf.v h).2.2==[]&&Q3))) (cond (zf.s h==[]) ((↑(zf.l h).length:Int)==0) Q4) Q4) Q4)) []):=kw
def ib(h:Sem Q5):Sem Q7:=(cond (zf.op h==[]) (cond ((zf.v h).1==0&&((zf.v h).2.1==0&&((zf.v h).2.2==[]&&Q3))) (cond (zf.s h==[]) ((↑(zf.l h).length:Int)==0) Q4) Q4) Q4)
def zjc:ac:=aH [Q5] [Q7] λx=>(ib x.1,())
theorem zeJ:FK 276 zjc:=by
 refine ag (zeg) λx C o=>?_
 refine zI jp (zeg) (λid _=>o id) (zmC x.1) ?_;generalize h:ib x.1=y;unfold ib at h
 try simp only[zf.eta,zk]
 repeat' (first|with_reducible refine du h (λ_ h=>?_) (λ_ h=>?_)|with_reducible refine zP ?_)
 all_goals first|(cases hc;done)|(subst h;first|rfl)
abbrev zsl:Nat->aM:=λ_=>{ }
theorem zpl:zO (md).P 241 Tryz.f241 1:=bU kw
theorem zrU(h:TS):rn md 0 zsl Tryz.f241 [zC Q6 h] []=Tr.ok (zF.ret (str h) []):=kw
def mu(h:TS):Sem Q6:=(h)
def F88:ac:=aH [Q6] [Q6] λx=>(mu x.1,())
theorem zlO:FK 241 F88:=by
 refine ag (zpl) λx C o=>?_
 refine zI jp (zpl) (λid _=>o id) (zrU x.1) ?_;generalize h:mu x.1=y;unfold mu at h
 try simp only[zf.eta,zk]
 repeat' (first|with_reducible refine du h (λ_ h=>?_) (λ_ h=>?_)|with_reducible refine zP ?_)
 all_goals first|(cases hc;done)|(subst h;first|rfl)
abbrev zsi:Nat->aM:=λ_=>{ }
theorem zph:zO (md).P 233 Tryz.f233 1:=bU kw
theorem zrR(h:TS):rn md 0 zsi Tryz.f233 [zC Q6 h] []=Tr.ok (zF.ret (AV.bool (cond (eh h) (!jy h) Q4)) []):=kw
def bV(h:TS):Sem Q7:=(cond (eh h) (!jy h) Q4)
def F80:ac:=aH [Q6] [Q7] λx=>(bV x.1,())
theorem zlK:FK 233 F80:=by
 refine ag (zph) λx C o=>?_
 refine zI jp (zph) (λid _=>o id) (zrR x.1) ?_;generalize h:bV x.1=y;unfold bV at h
 try simp only[zf.eta,zk]
 repeat' (first|with_reducible refine du h (λ_ h=>?_) (λ_ h=>?_)|with_reducible refine zP ?_)
 all_goals first|(cases hc;done)|(subst h;first|rfl)
abbrev znX:Nat->aM:=λ_=>{unroll:=Q3}
theorem zek:zO (md).P 178 Tryz.f178 1:=bU kw
theorem zmP(h:Sem ce):rn md 0 znX Tryz.f178 [zC ce h] []=br (h.1==3) (Tr.ok (zF.ret (AV.bool (aR (2,0,h.2))) [])) (br (h.1==4) (Qc (cond ((↑(Io h.2):Int)==1) (Io h.2==1) Q3) (Tr.ok (zF.ret (AV.bool (cond ((↑(Io h.2):Int)==1) (Q0 (0<=Lib.indexByte zgQ (List.headD h.2 0))) Q4)) []))) (br Q3 (Qc Q3 (br (1==h.1) (Tr.ok (zF.ret (AV.bool (cond (Q0 ((↑(Io h.2):Int)>=1)) (cond (Q0 ((↑(Io h.2):Int)<=16)) ((↑(aO aK bz h.2):Int)==(↑(Io h.2):Int)) Q4) Q4)) [])) (br Q3 (Qc Q3 (br (2==h.1) (Tr.ok (zF.ret (AV.bool (cond (Q0 ((↑(Io h.2):Int)>=1)) (cond (Q0 ((↑(Io h.2):Int)<=19)) ((↑(aO zZ zZ h.2):Int)==(↑(Io h.2):Int)) Q4) Q4)) [])) (br Q4 Tr.err (Tr.ok (zF.ret (kb Q4) []))))) (Tr.ok (zF.ret (kb Q4) []))))) (Tr.ok (zF.ret (kb Q4) [])))):=kw
def cr(h:Sem ce):Sem Q7:=(ite ((h.1==3)=Q3) (aR (2,0,h.2)) (ite ((h.1==4)=Q3) (cond ((↑(Io h.2):Int)==1) (Q0 (0<=Lib.indexByte zgQ (List.headD h.2 0))) Q4) (ite (Q3=Q3) (ite ((1==h.1)=Q3) (cond (Q0 ((↑(Io h.2):Int)>=1)) (cond (Q0 ((↑(Io h.2):Int)<=16)) ((↑(aO aK bz h.2):Int)==(↑(Io h.2):Int)) Q4) Q4) (ite (Q3=Q3) (ite ((2==h.1)=Q3) (cond (Q0 ((↑(Io h.2):Int)>=1)) (cond (Q0 ((↑(Io h.2):Int)<=19)) ((↑(aO zZ zZ h.2):Int)==(↑(Io h.2):Int)) Q4) Q4) (ite (Q4=Q3) default Q4)) Q4)) Q4)))
def sr(h:Sem ce):Bool:=(ite ((h.1==3)=Q3) Q3 (ite ((h.1==4)=Q3) (ite ((cond ((↑(Io h.2):Int)==1) (Io h.2==1) Q3)=Q3) Q3 Q4) (ite (Q3=Q3) (ite (Q3=Q3) (ite ((1==h.1)=Q3) Q3 (ite (Q3=Q3) (ite (Q3=Q3) (ite ((2==h.1)=Q3) Q3 (ite (Q4=Q3) Q4 Q3)) Q4) Q3)) Q4) Q3)))
def zkb:ac:=zT [ce] [Q7] (λx=>sr x.1) λx=>(cr x.1,())
theorem zfL:FK 178 zkb:=by
 refine aL (zek) λx o C u=>?_
 unfold sr at o;refine zI jp (zek) (λid _=>u id) (zmP x.1) ?_;generalize h:cr x.1=y;unfold cr at h
 try simp only[zf.eta,zk]
 repeat' (first|with_reducible refine vI h o (λ_ h o=>?_) (λ_ h o=>?_)|with_reducible refine du h (λ_ h=>?_) (λ_ h=>?_)|with_reducible refine iI o (λo=>?_)|with_reducible refine zP ?_)
 all_goals first|(cases o;done)|(subst h;first|rfl)
noncomputable def lh:=md.addL [(292,zjm),(276,zjc),(241,F88),(233,F80),(178,zkb)]
theorem ic:zw lh:=jp.addL<|fc zeT<|fc zeJ<|fc zlO<|fc zlK<|fc zfL iA
abbrev zsj:Nat->aM:=λ_=>{ }
theorem zpj:zO (lh).P 238 Tryz.f238 1:=bU kw
theorem zrS(h:Sem Q5):rn lh 0 zsj Tryz.f238 [zC Q5 h] []=Tr.ok (zF.ret (AV.bool (cond (ib (zl h)) Q3 (cm (zl h)))) []):=kw
def bW(h:Sem Q5):Sem Q7:=(cond (ib h) Q3 (cm h))
def F85:ac:=aH [Q5] [Q7] λx=>(bW x.1,())
theorem zlL:FK 238 F85:=by
 refine ag (zpj) λx C o=>?_
 refine zI ic (zpj) (λid _=>o id) (zrS x.1) ?_;generalize h:bW x.1=y;unfold bW at h
 try simp only[zf.eta]
 repeat' (first|with_reducible refine du h (λ_ h=>?_) (λ_ h=>?_)|with_reducible refine zP ?_)
 all_goals first|(cases hc;done)|(subst h;first|rfl)
def zme(h:Sem zj):Sem Q7:=(cond (bV h.1) (cond (Q0 (h.2.1>=1)) (Q0 (h.2.1<=3)) Q4) Q4)
def zpL(h:Sem jf):Sem Q7:=(cond (bV h.1) (bV h.2) Q4)
abbrev zsn:Nat->aM:=λ_=>{ }
theorem zpm:zO (lh).P 245 Tryz.f245 1:=bU kw
theorem zrV(h:Sem ze):rn lh 0 zsn Tryz.f245 [zC ze h] []=br (!aR h) (Tr.ok (zF.ret (str []) [])) (br (h.1==1) (Qc (10==10) (Tr.ok (zF.ret (str (td h.2.1)) []))) (br (h.1==2) (Qc (ww h.2.2 [39] nW) (Qc (Q0 ([39].length+(Lib.replaceAll h.2.2 [39] nW).length<=1099511627776)) (Qc (Q0 (Io ([39]++Lib.replaceAll h.2.2 [39] nW)+[39].length<=1099511627776)) (Tr.ok (zF.ret (str ([39]++Lib.replaceAll h.2.2 [39] nW++[39])) []))))) (br (h.1==3) (br (ef h==2) (Tr.ok (zF.ret (str H9) [])) (Tr.ok (zF.ret (str H8) []))) (Tr.ok (zF.ret (str Ft) []))))):=kw
def il(h:Sem ze):Sem Q6:=(ite ((!aR h)=Q3) [] (ite ((h.1==1)=Q3) (td h.2.1) (ite ((h.1==2)=Q3) ([39]++Lib.replaceAll h.2.2 [39] nW++[39]) (ite ((h.1==3)=Q3) (ite ((ef h==2)=Q3) H9 H8) Ft))))
def yS(h:Sem ze):Bool:=(ite ((!aR h)=Q3) Q3 (ite ((h.1==1)=Q3) (ite ((10==10)=Q3) Q3 Q4) (ite ((h.1==2)=Q3) (ite (ww h.2.2 [39] nW=Q3) (ite (Q0 ([39].length+(Lib.replaceAll h.2.2 [39] nW).length<=1099511627776)=Q3) (ite (Q0 (Io ([39]++Lib.replaceAll h.2.2 [39] nW)+[39].length<=1099511627776)=Q3) Q3 Q4) Q4) Q4) Q3)))
def F92:ac:=zT [ze] [Q6] (λx=>yS x.1) λx=>(il x.1,())
theorem zlU:FK 245 F92:=by
 refine aL (zpm) λx o C u=>?_
 unfold yS at o;refine zI ic (zpm) (λid _=>u id) (zrV x.1) ?_;generalize h:il x.1=y;unfold il at h
 try simp only[zf.eta,zk]
 repeat' (first|with_reducible refine vI h o (λ_ h o=>?_) (λ_ h o=>?_)|with_reducible refine du h (λ_ h=>?_) (λ_ h=>?_)|with_reducible refine iI o (λo=>?_)|with_reducible refine zP ?_)
 all_goals first|(cases o;done)|(subst h;first|rfl)
abbrev zsk:Nat->aM:=λ_=>{ }
theorem zpk:zO (lh).P 240 Tryz.f240 1:=bU kw
theorem zrT(h:Sem zn):rn lh 0 zsk Tryz.f240 [zC zn h] []=Qc (Q0 (Io h.2.1+Io h.2.2.1<=1099511627776)) (Qc (Q0 (Io (h.2.1++h.2.2.1)+Io h.2.2.2.2.2.1<=1099511627776)) (Qc (Q0 (Io (h.2.1++h.2.2.1++h.2.2.2.2.2.1)+Io h.2.2.2.2.2.2.2.2.2.2.2.2<=1099511627776)) (Tr.ok (zF.ret (AV.bool (cond (h.2.1++h.2.2.1++h.2.2.2.2.2.1++h.2.2.2.2.2.2.2.2.2.2.2.2==[]) (cond (Γ Δ (Γ Δ (Γ Δ (Γ Δ (Γ Δ ((↑(Io h.2.2.2.1):Int)+(↑(Io h.2.2.2.2.1):Int))+(↑(Io h.2.2.2.2.2.2.1):Int))+(↑(Io h.2.2.2.2.2.2.2.1):Int))+(↑(Io h.2.2.2.2.2.2.2.2.2.1):Int))+(↑(Io h.2.2.2.2.2.2.2.2.2.2.1):Int))==0) (cond (ib (zl h.2.2.2.2.2.2.2.2.1)) (ib (zl h.2.2.2.2.2.2.2.2.2.2.2.1)) Q4) Q4) Q4)) [])))):=kw
def eI(h:Sem zn):Sem Q7:=(cond (h.2.1++h.2.2.1++h.2.2.2.2.2.1++h.2.2.2.2.2.2.2.2.2.2.2.2==[]) (cond (Γ Δ (Γ Δ (Γ Δ (Γ Δ (Γ Δ ((↑(Io h.2.2.2.1):Int)+(↑(Io h.2.2.2.2.1):Int))+(↑(Io h.2.2.2.2.2.2.1):Int))+(↑(Io h.2.2.2.2.2.2.2.1):Int))+(↑(Io h.2.2.2.2.2.2.2.2.2.1):Int))+(↑(Io h.2.2.2.2.2.2.2.2.2.2.1):Int))==0) (cond (ib h.2.2.2.2.2.2.2.2.1) (ib h.2.2.2.2.2.2.2.2.2.2.2.1) Q4) Q4) Q4)
def eu(h:Sem zn):Bool:=(ite (Q0 (Io h.2.1+Io h.2.2.1<=1099511627776)=Q3) (ite (Q0 (Io (h.2.1++h.2.2.1)+Io h.2.2.2.2.2.1<=1099511627776)=Q3) (ite (Q0 (Io (h.2.1++h.2.2.1++h.2.2.2.2.2.1)+Io h.2.2.2.2.2.2.2.2.2.2.2.2<=1099511627776)=Q3) Q3 Q4) Q4) Q4)
def F87:ac:=zT [zn] [Q7] (λx=>eu x.1) λx=>(eI x.1,())
theorem zlN:FK 240 F87:=by
 refine aL (zpk) λx o C u=>?_
 unfold eu at o;refine zI ic (zpk) (λid _=>u id) (zrT x.1) ?_;generalize h:eI x.1=y;unfold eI at h
 try simp only[zf.eta]
 repeat' (first|with_reducible refine vI h o (λ_ h o=>?_) (λ_ h o=>?_)|with_reducible refine du h (λ_ h=>?_) (λ_ h=>?_)|with_reducible refine iI o (λo=>?_)|with_reducible refine zP ?_)
 all_goals first|(cases o;done)|(subst h;first|rfl)
abbrev zsq:Nat->aM:=λ_=>{unroll:=Q3}
theorem zpq:zO (lh).P 252 Tryz.f252 1:=bU kw
theorem zrZ(h:TS):rn lh 0 zsq Tryz.f252 [zC Q6 h] []=br Q3 (Qc Q3 (br (Q0 ((↑(aO aK bz h):Int)>0)) (Qc (Q0 (0<=0)&&Q0 (0<=(↑(aO aK bz h):Int))&&Q0 ((↑(aO aK bz h):Int)<=(↑(Io h):Int))) (Tr.ok (zF.ret (tup [agg [ai 1,str (Qg ((↑(aO aK bz h):Int).toNat-toNat 0) (Qh (toNat 0) h))],ai (↑(aO aK bz h):Int)]) []))) (br Q3 (Qc Q3 (br (Q0 ((↑(aO zZ zZ h):Int)>0)) (Qc (Q0 (0<=0)&&Q0 (0<=(↑(aO zZ zZ h):Int))&&Q0 ((↑(aO zZ zZ h):Int)<=(↑(Io h):Int))) (Tr.ok (zF.ret (tup [agg [ai 2,str (Qg ((↑(aO zZ zZ h):Int).toNat-toNat 0) (Qh (toNat 0) h))],ai (↑(aO zZ zZ h):Int)]) []))) (br Q4 Tr.err (Qc (zJ 0 (Io h)) (br ((↑(getD h (toNat 0) 0).toNat:Int)==39) (Qc (kD h) (Tr.ok (zF.ret (tup [agg [ai (em h).1.1,str (em h).1.2],ai (em h).2]) []))) (Qc (Q0 (0<=0)&&Q0 (0<=1)&&Q0 (1<=(↑(Io h):Int))) (Tr.ok (zF.ret (tup [agg [ai 4,str (Qg (toNat 1-toNat 0) (Qh (toNat 0) h))],ai 1]) [])))))))) (Qc (zJ 0 (Io h)) (br ((↑(getD h (toNat 0) 0).toNat:Int)==39)
 (Qc (kD h) (Tr.ok (zF.ret (tup [agg [ai (em h).1.1,str (em h).1.2],ai (em h).2]) []))) (Qc (Q0 (0<=0)&&Q0 (0<=1)&&Q0 (1<=(↑(Io h):Int))) (Tr.ok (zF.ret (tup [agg [ai 4,str (Qg (toNat 1-toNat 0) (Qh (toNat 0) h))],ai 1]) [])))))))) (Qc (zJ 0 (Io h)) (br ((↑(getD h (toNat 0) 0).toNat:Int)==39) (Qc (kD h) (Tr.ok (zF.ret (tup [agg [ai (em h).1.1,str (em h).1.2],ai (em h).2]) []))) (Qc (Q0 (0<=0)&&Q0 (0<=1)&&Q0 (1<=(↑(Io h):Int))) (Tr.ok (zF.ret (tup [agg [ai 4,str (Qg (toNat 1-toNat 0) (Qh (toNat 0) h))],ai 1]) []))))):=kw
def bJ(h:TS):Sem ce×Sem zg:=(ite (Q3=Q3) (ite (Q0 ((↑(aO aK bz h):Int)>0)=Q3) ((1,Qg ((↑(aO aK bz h):Int).toNat-toNat 0) (Qh (toNat 0) h)),(↑(aO aK bz h):Int)) (ite (Q3=Q3) (ite (Q0 ((↑(aO zZ zZ h):Int)>0)=Q3) ((2,Qg ((↑(aO zZ zZ h):Int).toNat-toNat 0) (Qh (toNat 0) h)),(↑(aO zZ zZ h):Int)) (ite (Q4=Q3) default (ite (((↑(getD h (toNat 0) 0).toNat:Int)==39)=Q3) ((em h).1,(em h).2) ((4,Qg (toNat 1-toNat 0) (Qh (toNat 0) h)),1)))) (ite (((↑(getD h (toNat 0) 0).toNat:Int)==39)=Q3) ((em h).1,(em h).2) ((4,Qg (toNat 1-toNat 0) (Qh (toNat 0) h)),1)))) (ite (((↑(getD h (toNat 0) 0).toNat:Int)==39)=Q3) ((em h).1,(em h).2) ((4,Qg (toNat 1-toNat 0) (Qh (toNat 0) h)),1)))
def kS(h:TS):Bool:=(ite (Q3=Q3) (ite (Q3=Q3) (ite (Q0 ((↑(aO aK bz h):Int)>0)=Q3) (ite ((Q0 (0<=0)&&Q0 (0<=(↑(aO aK bz h):Int))&&Q0 ((↑(aO aK bz h):Int)<=(↑(Io h):Int)))=Q3) Q3 Q4) (ite (Q3=Q3) (ite (Q3=Q3) (ite (Q0 ((↑(aO zZ zZ h):Int)>0)=Q3) (ite ((Q0 (0<=0)&&Q0 (0<=(↑(aO zZ zZ h):Int))&&Q0 ((↑(aO zZ zZ h):Int)<=(↑(Io h):Int)))=Q3) Q3 Q4) (ite (Q4=Q3) Q4 (ite (zJ 0 (Io h)=Q3) (ite (((↑(getD h (toNat 0) 0).toNat:Int)==39)=Q3) (ite (kD h=Q3) Q3 Q4) (ite ((Q0 (0<=0)&&Q0 (0<=1)&&Q0 (1<=(↑(Io h):Int)))=Q3) Q3 Q4)) Q4))) Q4) (ite (zJ 0 (Io h)=Q3) (ite (((↑(getD h (toNat 0) 0).toNat:Int)==39)=Q3) (ite (kD h=Q3) Q3 Q4) (ite ((Q0 (0<=0)&&Q0 (0<=1)&&Q0 (1<=(↑(Io h):Int)))=Q3) Q3 Q4)) Q4))) Q4) (ite (zJ 0 (Io h)=Q3) (ite (((↑(getD h (toNat 0) 0).toNat:Int)==39)=Q3) (ite (kD h=Q3) Q3 Q4) (ite ((Q0 (0<=0)&&Q0 (0<=1)&&Q0 (1<=(↑(Io h):Int)))=Q3) Q3 Q4)) Q4))
def F99:ac:=zT [Q6] [ce,zg] (λx=>kS x.1) λx=>((bJ x.1).1,(bJ x.1).2,())
theorem zlY:FK 252 F99:=by
 refine aL (zpq) λx o C u=>?_
 unfold kS at o;refine zI ic (zpq) (λid _=>u id) (zrZ x.1) ?_;generalize h:bJ x.1=y;unfold bJ at h
 try simp only[zf.eta,zk]
 repeat' (first|with_reducible refine vI h o (λ_ h o=>?_) (λ_ h o=>?_)|with_reducible refine du h (λ_ h=>?_) (λ_ h=>?_)|with_reducible refine iI o (λo=>?_)|with_reducible refine zP ?_)
 all_goals first|(cases o;done)|(subst h;first|rfl)
abbrev zom:Nat->aM:=λj=>if j=3 then{slots:=[1,5,8,9,10],prom:=[(5,Q2,.str)]}else{ }
abbrev MX(z:LS)(u:Int)(o:Int)(h:LS):St:={tmps:=(tm 23 [(1,AV.clo (Fn.func 241) [] []),(5,AV.vec 0),(8,sl Q6 z),(9,ai u),(10,ai o)]),heap:=[AO.vec Q6 h]}
theorem zbd:zO (lh).P 250 Tryz.f250 2:=bU kw
theorem zrX(h:Sem Sh.str.sl):rn lh 0 zom Tryz.f250 [zC Sh.str.sl h,AV.clo (Fn.func 241) [] []] []=Tr.ok (zF.head 3 (aj Tryz.f250 3) (MX h (↑(Io h):Int) 0 [])):=kw
theorem Xj(u:LS)(z:Int)(o:Int)(h:LS):rh lh 0 zom Tryz.f250 3 (MX u z o h)=br (Q0 (o<z)) (Qc (zJ o (Io u)) (Qc (Q0 (Io h+[mu (u.getD o.toNat (zi Q6))].length<=1073741824)) (Tr.ok (zF.head 3 (aj Tryz.f250 3) (MX u z (Γ Δ (o+1)) (h++[mu (u.getD o.toNat (zi Q6))])))))) (Qc (Q0 (Io h<=140737488355328)&&Q0 ((Lib.join h eZ).length<=140737488355328)) (Tr.ok (zF.ret (str (Lib.join h eZ)) []))):=kw
def dL:List (Sem Q6)->Int->List (Sem Q6)->Sem Q6
 |[],_,h=>(Lib.join h eZ)
 |x::r,o,h=>(dL r (o+1) (h++[mu x]))
def ee:List (Sem Q6)->Int->List (Sem Q6)->Bool
 |[],_,h=>(ite ((Q0 (Io h<=140737488355328)&&Q0 ((Lib.join h eZ).length<=140737488355328))=Q3) Q3 Q4)
 |x::r,o,h=>(ite (Q0 (Io h+[mu x].length<=1073741824)=Q3) (ee r (o+1) (h++[mu x])) Q4)
theorem zgF{C:fg}(G:∀id,C.ρ0 id=Q2)(D:LS)(L:Io D<=aF):∀(m i:Nat)(o:LS),Io D-i=m->i<=Io D->ee (D.drop i) i o=Q3->
  Reach (lh) C 250 (aj Tryz.f250 3) (MX D (Io D:Int) (i:Int) o) (λr h=>aI h [Q6] r=Q1 (dL (D.drop i) i o,())):=by
 intro m
 induction m with
 | zero=>
  intro i o J H u;obtain rfl:i=Io D:=by omega
  rw[jM]at u⊢;refine zI ic (zbd) (λid _=>G id) (Xj _ _ _ _) ?_;rw[ee]at u;generalize z:dL [] _ o=y;rw[dL]at z;simp only[zB,Tr.val_brF];repeat' (first|with_reducible refine vI z u (λ_ z u=>?_) (λ_ z u=>?_)|with_reducible refine du z (λ_ z=>?_) (λ_ z=>?_)|with_reducible refine iI u (λu=>?_)|with_reducible refine zP ?_)
  all_goals first|(cases u;done)|(subst z;first|rfl)
 | succ m I=>
  intro i o J H u;have B:i<Io D:=by omega
  have I:=I (i+1);have E:((i:Int)+1)=((i+1:Nat):Int):=by omega
  have F:=zr i ow;rw[fk B]at u⊢;refine zI ic (zbd) (λid _=>G id) (Xj _ _ _ _) ?_;rw[ee]at u;generalize z:dL (D[i]::D.drop (i+1)) (i:Int) o=y;rw[dL]at z;simp only[zE B,zt B,cL D _ B,F,Tr.val_brT,Tr.val_chkT];clear F
  try simp only[zt B]at z
  simp only[E]at z
  try simp only[zt B]at u
  try simp only[E]at u
  repeat' (first|with_reducible refine vI z u (λ_ z u=>?_) (λ_ z u=>?_)|with_reducible refine du z (λ_ z=>?_) (λ_ z=>?_)|with_reducible refine iI u (λu=>?_)|with_reducible refine zP ?_)
  all_goals first|(cases u;done)|(subst z;first|(change Reach _ _ _ _ _ _;apply I<;>first|omega|assumption)|rfl)
theorem ZX{C:fg}(z:∀id,C.ρ0 id=Q2)(u:LS)(o:LS)(B:ee u 0 o=Q3):
  Reach (lh) C 250 (aj Tryz.f250 3) (MX u (Io u:Int) 0 o) (λr h=>aI h [Q6] r=Q1 (dL u 0 o,())):=
 Reach.len 8 (Q6) u rfl λD=>zgF z u D _ 0 o rfl (aQ _) B
def gI(h:Sem Sh.str.sl):Sem Q6:=(dL h 0 [])
def nM(h:Sem Sh.str.sl):Bool:=(ee h 0 [])
def F97:ac:=Xx [Sh.str.sl] [Q6] [(241,(λx=>nM x.1),λx=>(gI x.1,()))]
theorem zlW:FK 250 F97:=by
 refine Nk (zbd) λj c g z x h C u=>?_
 simp only[eC,cH]at z;obtain⟨rfl,rfl,rfl⟩:=z
 replace h:nM x.1=Q3:=h
 unfold nM at h;refine zI ic (zbd) (λid _=>u id) (zrX x.1) ?_;generalize o:gI x.1=y;unfold gI at o
 skip
 repeat' (first|with_reducible refine vI o h (λ_ o h=>?_) (λ_ o h=>?_)|with_reducible refine du o (λ_ o=>?_) (λ_ o=>?_)|with_reducible refine iI h (λh=>?_)|with_reducible refine zP ?_)
 all_goals first|(cases h;done)|(subst o;first|(change Reach _ _ _ _ _ _;apply ZX u<;>first|assumption|exact h)|rfl)
noncomputable def PQ:=lh.addL [(238,F85),(245,F92),(240,F87),(252,F99),(250,F97)]
theorem xD:zw PQ:=ic.addL<|fc zlL<|fc zlU<|fc zlN<|fc zlY<|fc zlW iA
noncomputable def zje:ac:=bp (List.replicate 2 Q2) (fA PQ Tryz.f278 (List.replicate 2 Q2))
theorem zeL:FK 278 zje:=ch _ xD (bU kw)
noncomputable def UR(g:Sem Q5->Sem Q6)(c:Sem Q5->Bool):bY:=PQ.add 316 (zT [Q5] [Q6] (λx=>c x.1) λx=>(g x.1,()))
theorem Sj{g:Sem Q5->Sem Q6}{c:Sem Q5->Bool}(h:FK 316 (zT [Q5] [Q6] (λx=>c x.1) λx=>(g x.1,()))):zw (UR g c):=xD.add h
abbrev zh0:Nat->aM:=λ_=>{ }
theorem DO(g:Sem Q5->Sem Q6)(c:Sem Q5->Bool):zO (UR g c).P 316 Tryz.f316 1:=bU kw
theorem zhk(g:Sem Q5->Sem Q6)(c:Sem Q5->Bool)(h:Sem Q5):rn (UR g c) 0 zh0 Tryz.f316 [zC Q5 h] []=br (zf.op h==kF) (Qc (yS (zf.v h)) (Tr.ok (zF.ret (str (il (zf.v h))) []))) (br (zf.op h==cW) (Tr.ok (zF.ret (str (zf.s h)) [])) (br (zf.op h==mU) (Qc (zJ 0 (zf.l h).length) (Qc (c (zl ((zf.l h).getD (toNat 0) (zi Q5)))) (Qc (Q0 (Io uK+Io (g (zl ((zf.l h).getD (toNat 0) (zi Q5))))<=1099511627776)) (Qc (Q0 (Io (uK++g (zl ((zf.l h).getD (toNat 0) (zi Q5))))+[41].length<=1099511627776)) (Tr.ok (zF.ret (str (uK++g (zl ((zf.l h).getD (toNat 0) (zi Q5)))++[41])) [])))))) (br (zf.op h==pf) (Qc (zJ 0 (zf.l h).length) (Qc (c (zl ((zf.l h).getD (toNat 0) (zi Q5)))) (Qc (Q0 ([40].length+Io (g (zl ((zf.l h).getD (toNat 0) (zi Q5))))<=1099511627776)) (Qc (Q0 (Io ([40]++g (zl ((zf.l h).getD (toNat 0) (zi Q5))))+Io Cz<=1099511627776)) (Tr.ok (zF.ret (str ([40]++g (zl ((zf.l h).getD (toNat 0) (zi Q5)))++Cz)) [])))))) (Qc (zJ 0 (zf.l h).length) (Qc (c (zl ((zf.l h).getD (toNat 0) (zi Q5)))) (Qc (Q0 ([40].length+Io (g
 (zl ((zf.l h).getD (toNat 0) (zi Q5))))<=1099511627776)) (Qc (Q0 (Io ([40]++g (zl ((zf.l h).getD (toNat 0) (zi Q5))))+[32].length<=1099511627776)) (Qc (Q0 (Io (zf.op h)<=140737488355328)&&List.all (zf.op h) λb=>Q0 (b.toNat<128)) (Qc (Q0 (Io ([40]++g (zl ((zf.l h).getD (toNat 0) (zi Q5)))++[32])+(Lib.toUpperA (zf.op h)).length<=1099511627776)) (Qc (Q0 (Io ([40]++g (zl ((zf.l h).getD (toNat 0) (zi Q5)))++[32]++Lib.toUpperA (zf.op h))+[32].length<=1099511627776)) (Qc (zJ 1 (zf.l h).length) (Qc (c (zl ((zf.l h).getD (toNat 1) (zi Q5)))) (Qc (Q0 (Io ([40]++g (zl ((zf.l h).getD (toNat 0) (zi Q5)))++[32]++Lib.toUpperA (zf.op h)++[32])+Io (g (zl ((zf.l h).getD (toNat 1) (zi Q5))))<=1099511627776)) (Qc (Q0 (Io ([40]++g (zl ((zf.l h).getD (toNat 0) (zi Q5)))++[32]++Lib.toUpperA (zf.op h)++[32]++g (zl ((zf.l h).getD (toNat 1) (zi Q5))))+[41].length<=1099511627776)) (Tr.ok (zF.ret (str ([40]++g (zl ((zf.l h).getD (toNat 0) (zi Q5)))++[32]++Lib.toUpperA (zf.op h)++[32]++g (zl ((zf.l h).getD (toNat 1) (zi Q5)))++[41])) [])))))))))))))))):=kw
def tO(g:Sem Q5->Sem Q6)(_:Sem Q5->Bool)(h:Sem Q5):Sem Q6:=(ite ((zf.op h==kF)=Q3) (il (zf.v h)) (ite ((zf.op h==cW)=Q3) (zf.s h) (ite ((zf.op h==mU)=Q3) (uK++g ((zf.l h).getD (toNat 0) (zi Q5))++[41]) (ite ((zf.op h==pf)=Q3) ([40]++g ((zf.l h).getD (toNat 0) (zi Q5))++Cz) ([40]++g ((zf.l h).getD (toNat 0) (zi Q5))++[32]++Lib.toUpperA (zf.op h)++[32]++g ((zf.l h).getD (toNat 1) (zi Q5))++[41])))))
def Bj(g:Sem Q5->Sem Q6)(c:Sem Q5->Bool)(h:Sem Q5):Bool:=(if(zf.op h==kF)=Q3 then if yS (zf.v h)=Q3 then Q3 else Q4 else if(zf.op h==cW)=Q3 then Q3 else if(zf.op h==mU)=Q3 then if zJ 0 (zf.l h).length=Q3 then if c ((zf.l h).getD (toNat 0) (zi Q5))=Q3 then if Q0 (Io uK+Io (g ((zf.l h).getD (toNat 0) (zi Q5)))<=1099511627776)=Q3 then if Q0 (Io (uK++g ((zf.l h).getD (toNat 0) (zi Q5)))+[41].length<=1099511627776)=Q3 then Q3 else Q4 else Q4 else Q4 else Q4 else if(zf.op h==pf)=Q3 then if zJ 0 (zf.l h).length=Q3 then if c ((zf.l h).getD (toNat 0) (zi Q5))=Q3 then if Q0 ([40].length+Io (g ((zf.l h).getD (toNat 0) (zi Q5)))<=1099511627776)=Q3 then if Q0 (Io ([40]++g ((zf.l h).getD (toNat 0) (zi Q5)))+Io Cz<=1099511627776)=Q3 then Q3 else Q4 else Q4 else Q4 else Q4 else if zJ 0 (zf.l h).length=Q3 then if c ((zf.l h).getD (toNat 0) (zi Q5))=Q3 then if Q0 ([40].length+Io (g ((zf.l h).getD (toNat 0) (zi Q5)))<=1099511627776)=Q3 then if Q0 (Io ([40]++g ((zf.l h).getD (toNat 0) (zi Q5)))+[32].length<=1099511627776)=Q3 then
 if(Q0 (Io (zf.op h)<=140737488355328)&&List.all (zf.op h) λb=>Q0 (b.toNat<128))=Q3 then if Q0 (Io ([40]++g ((zf.l h).getD (toNat 0) (zi Q5))++[32])+(Lib.toUpperA (zf.op h)).length<=1099511627776)=Q3 then if Q0 (Io ([40]++g ((zf.l h).getD (toNat 0) (zi Q5))++[32]++Lib.toUpperA (zf.op h))+[32].length<=1099511627776)=Q3 then if zJ 1 (zf.l h).length=Q3 then if c ((zf.l h).getD (toNat 1) (zi Q5))=Q3 then if Q0 (Io ([40]++g ((zf.l h).getD (toNat 0) (zi Q5))++[32]++Lib.toUpperA (zf.op h)++[32])+Io (g ((zf.l h).getD (toNat 1) (zi Q5)))<=1099511627776)=Q3 then if Q0 (Io ([40]++g ((zf.l h).getD (toNat 0) (zi Q5))++[32]++Lib.toUpperA (zf.op h)++[32]++g ((zf.l h).getD (toNat 1) (zi Q5)))+[41].length<=1099511627776)=Q3 then Q3 else Q4 else Q4 else Q4 else Q4 else Q4 else Q4 else Q4 else Q4 else Q4 else Q4 else Q4)
def zjt(g:Sem Q5->Sem Q6)(c:Sem Q5->Bool):ac:=zT [Q5] [Q6] (λx=>Bj g c x.1) λx=>(tO g c x.1,())
theorem Zs(g:Sem Q5->Sem Q6)(c:Sem Q5->Bool)(z:FK 316 (zT [Q5] [Q6] (λx=>c x.1) λx=>(g x.1,()))):FK 316 (zjt g c):=by
 refine aL (DO g c) λx o C u=>?_
 unfold Bj at o;refine zI (Sj z) (DO g c) (λid _=>u id) (zhk g c x.1) ?_;generalize h:tO g c x.1=y;unfold tO at h
 try simp only[zf.eta]
 repeat' (first|with_reducible refine vI h o (λ_ h o=>?_) (λ_ h o=>?_)|with_reducible refine du h (λ_ h=>?_) (λ_ h=>?_)|with_reducible refine iI o (λo=>?_)|with_reducible refine zP ?_)
 all_goals first|(cases o;done)|(subst h;first|rfl)
mutual
def aS:Nat->Sem Q5->Sem Q6
 |0=>λ_=>default
 |n+1=>tO (aS n) (gL n)
def gL:Nat->Sem Q5->Bool
 |0=>λ_=>Q4
 |n+1=>Bj (aS n) (gL n)
end
theorem Pr:∀n,FK 316 (zT [Q5] [Q6] (λx=>gL n x.1) λx=>(aS n x.1,()))
 |0=>eX ⟨Tryz.f316,(DO default default).1,(DO default default).2.1,(DO default default).2.2.1⟩ (λ_=>rfl)
 |n+1=>Zs (aS n) (gL n) (Pr n)
def zjs:ac:=zT [Q5] [Q6] (λx=>gL 16 x.1) λx=>(aS 16 x.1,())
theorem zeZ:FK 316 zjs:=Pr 16
noncomputable def pX:=PQ.addL [(278,zje),(316,zjs)]
theorem kK:zw pX:=xD.addL<|fc zeL<|fc zeZ iA
abbrev wE(l:LS)(i:Int):St:={tmps:=[.sl Q6 l,.clo (.func 278) [] [.ptr 0 0],.any,.any,.any,.any,.any,.int .i64 (Io l),.int .i64 i,.any,.any,.any,.any,.any,.any,.any,.any,.any,.any],heap:=[.box [.clo (.func 233) [] []]]}
theorem SE(l:LS):run pX 1 A3 Tryz.f306.results.toList 300 (bC Tryz.f306) (bj Tryz.f306.ntmps [.sl Q6 l,.clo (.func 278) [] [.ptr 0 0]] [.box [.clo (.func 233) [] []]])=.ok (.head 2 (aj Tryz.f306 2) (wE l 0)):=kw
theorem S4(l:LS)(i:Int):run pX 1 A3 Tryz.f306.results.toList 300 (aj Tryz.f306 2) (wE l i)=oz (K:=aj Tryz.f306 2) (e:=Q6) l (λx=>!bV x) (wE l) [.box [.clo (.func 233) [] []]] i:=kw
theorem WY:zO pX.P 306 Tryz.f306 2:=bU kw
def zl2:iV [Q1 (.sl Q6),Q2]:=λx h=>match x,h with
 |(l,.clo (.func 278) [] [.ptr 0 0],_),[.box [.clo (.func 233) [] []]]=>.ok (.int .i64 (zW (λx=>!bV x) l 0),[.box [.clo (.func 233) [] []]])
 |_,_=>.err
def zjp:ac:=bp [Q1 (.sl Q6),Q2] zl2
theorem zeW:FK 306 zjp:=by
 refine dV WY λx D B h C o=>?_
 unfold zl2 at h;split at h
 ·rename_i l u;simp only[Tr.val_ok,bH]at h;subst h;refine Reach.len 0 Q6 l rfl λz=>?_
  refine zI (n0:=1) kK WY o (SE l) ?_;exact kR l (λx=>!bV x) (wE l) kK WY o (S4 l) z _ 0 rfl (aQ _)
 ·simp at h
abbrev znA:Nat->aM:=λ_=>{ }
theorem zeh:zO (pX).P 291 Tryz.f291 1:=bU kw
theorem zmD(h:Sem Q5):rn pX 0 znA Tryz.f291 [zC Q5 h] []=br (!cm (zl h)) (Tr.ok (zF.ret (tup [str [],ai 1]) [])) (Qc (gL 16 (zl h)) (Tr.ok (zF.ret (tup [str (aS 16 (zl h)),ai 0]) []))):=kw
def oq(h:Sem Q5):Sem Q6×Sem zg:=(ite ((!cm h)=Q3) ([],1) (aS 16 h,0))
def rl(h:Sem Q5):Bool:=(ite ((!cm h)=Q3) Q3 (ite (gL 16 h=Q3) Q3 Q4))
def zjl:ac:=zT [Q5] [Q6,zg] (λx=>rl x.1) λx=>((oq x.1).1,(oq x.1).2,())
theorem zeS:FK 291 zjl:=by
 refine aL (zeh) λx o C u=>?_
 unfold rl at o;refine zI kK (zeh) (λid _=>u id) (zmD x.1) ?_;generalize h:oq x.1=y;unfold oq at h
 try simp only[zf.eta]
 repeat' (first|with_reducible refine vI h o (λ_ h o=>?_) (λ_ h o=>?_)|with_reducible refine du h (λ_ h=>?_) (λ_ h=>?_)|with_reducible refine iI o (λo=>?_)|with_reducible refine zP ?_)
 all_goals first|(cases o;done)|(subst h;first|rfl)
abbrev zoa:Nat->aM:=λj=>if j=3 then{slots:=[0,4,5],prom:=[(4,Q2,ce)]}else{ }
abbrev MW(u:TS)(o:Int)(h:LF):St:={tmps:=(tm 47 [(0,str u),(4,AV.vec 0),(5,ai o)]),heap:=[AO.vec zp h]}
theorem ziq:zO (pX).P 198 Tryz.f198 1:=bU kw
theorem zrM(h:TS):rn pX 0 zoa Tryz.f198 [zC Q6 h] []=Tr.ok (zF.head 3 (aj Tryz.f198 3) (MW h 0 [])):=kw
theorem ziw(h:TS)(o:Int)(u:LF):rh pX 0 zoa Tryz.f198 3 (MW h o u)=br (Q0 (o<(↑(Io h):Int))) (Qc (zJ o (Io h)&&bif (↑(getD h o.toNat 0).toNat:Int)==32 then Q3 else zJ o (Io h)) (br (cond ((↑(getD h o.toNat 0).toNat:Int)==32) Q3 ((↑(getD h o.toNat 0).toNat:Int)==10)) (Tr.ok (zF.head 3 (aj Tryz.f198 3) (MW h (Γ Δ (o+1)) u))) (Qc (Q0 (0<=o)&&Q0 (o<=(↑(Io h):Int))&&Q0 ((↑(Io h):Int)<=(↑(Io h):Int))) (Qc (kS (Qg ((↑(Io h):Int).toNat-o.toNat) (Qh o.toNat h))) (Qc (sr (bJ (Qg ((↑(Io h):Int).toNat-o.toNat) (Qh o.toNat h))).1) (br (cond (!cr (bJ (Qg ((↑(Io h):Int).toNat-o.toNat) (Qh o.toNat h))).1) Q3 ((↑u.length:Int)==400)) (Tr.ok (zF.ret (tup [nils,ai 2]) [])) (Qc (Q0 (Io u+[(bJ (Qg ((↑(Io h):Int).toNat-o.toNat) (Qh o.toNat h))).1].length<=1073741824)) (Tr.ok (zF.head 3 (aj Tryz.f198 3) (MW h (Γ Δ (o+(bJ (Qg ((↑(Io h):Int).toNat-o.toNat) (Qh o.toNat h))).2))
 (u++[(bJ (Qg ((↑(Io h):Int).toNat-o.toNat) (Qh o.toNat h))).1]))))))))))) (Tr.ok (zF.ret (tup [AV.vec 0,ai 0]) [AO.vec zp u])):=kw
def uT:Nat->(Sem Sh.str)->Int->(List (Sem zp))->Sem ce.sl×Sem zg
 |0,_,_,_=>default
 |n+1,u,o,h=>(if Q0 (o<(↑(Io u):Int))=Q3 then
 if(cond ((↑(getD u o.toNat 0).toNat:Int)==32) Q3 ((↑(getD u o.toNat 0).toNat:Int)==10))=Q3 then
  uT n u (Γ Δ (o+1)) h
 else
  if
    (bif !cr (bJ (Qg ((↑(Io u):Int).toNat-o.toNat) (Qh o.toNat u))).1 then Q3
     else(↑h.length:Int)==400)=
     Q3 then
   ([],2)
  else
   uT n u (Γ Δ (o+(bJ (Qg ((↑(Io u):Int).toNat-o.toNat) (Qh o.toNat u))).2))
    (h++[(bJ (Qg ((↑(Io u):Int).toNat-o.toNat) (Qh o.toNat u))).1])
else(h,0))
def tL:Nat->(Sem Sh.str)->Int->(List (Sem zp))->Bool
 |0,_,_,_=>Q4
 |n+1,h,o,u=>(if Q0 (o<(↑(Io h):Int))=Q3 then
 if (zJ o (Io h)&&bif (↑(getD h o.toNat 0).toNat:Int)==32 then true else zJ o (Io h))=true then
  if(cond ((↑(getD h o.toNat 0).toNat:Int)==32) Q3 ((↑(getD h o.toNat 0).toNat:Int)==10))=Q3 then
   tL n h (Γ Δ (o+1)) u
  else
   if (decide (0≤o)&&decide (o≤(↑(Io h):Int))&&decide ((↑(Io h):Int)≤(↑(Io h):Int)))=true then
    if kS (List.take ((↑(Io h):Int).toNat-o.toNat) (List.drop o.toNat h))=true then
     if sr (bJ (List.take ((↑(Io h):Int).toNat-o.toNat) (List.drop o.toNat h))).1=true then
      if
        (bif !cr (bJ (Qg ((↑(Io h):Int).toNat-o.toNat) (Qh o.toNat h))).1 then Q3
         else(↑u.length:Int)==400)=
         Q3 then
       Q3
      else
       if
         Q0 (Io u+[(bJ (Qg ((↑(Io h):Int).toNat-o.toNat) (Qh o.toNat h))).1].length<=1073741824)=
          Q3 then
        tL n h (Γ Δ (o+(bJ (Qg ((↑(Io h):Int).toNat-o.toNat) (Qh o.toNat h))).2))
         (u++[(bJ (Qg ((↑(Io h):Int).toNat-o.toNat) (Qh o.toNat h))).1])
       else Q4
     else Q4
    else Q4
   else Q4
 else Q4
else Q3)
theorem Uj{C:fg}(E:∀id,C.ρ0 id=Q2):∀(n:Nat)(D:TS)(B:Int)(o:LF),tL n D B o=Q3->
  Reach (pX) C 198 (aj Tryz.f198 3) (MW D B o) (λr h=>aI h [ce.sl,zg] r=Q1 ((uT n D B o).1,(uT n D B o).2,()))
 |0,D,B,o,u=>by cases u
 | n+1,D,B,o,u=>by
  refine zI kK (ziq) (λid _=>E id) (ziw _ _ _) ?_;rw[tL]at u;generalize z:uT (n+1) D B o=y;rw[uT]at z
  try simp only[zf.eta,zk]
  repeat' (first|with_reducible refine vI z u (λ_ z u=>?_) (λ_ z u=>?_)|with_reducible refine du z (λ_ z=>?_) (λ_ z=>?_)|with_reducible refine iI u (λu=>?_)|with_reducible refine zP ?_)
  all_goals first|(cases u;done)|(subst z;first|(change Reach _ _ _ _ _ _;refine Uj E n _ _ _ ?_<;>exact u)|rfl)
def cut(h:TS):Sem ce.sl×Sem zg:=(uT (Io h+1) h 0 [])
def UA(h:TS):Bool:=(tL (Io h+1) h 0 [])
def F69:ac:=zT [Q6] [ce.sl,zg] (λx=>UA x.1) λx=>((cut x.1).1,(cut x.1).2,())
theorem zly:FK 198 F69:=by
 refine aL (ziq) λx h C u=>?_
 unfold UA at h;refine zI kK (ziq) (λid _=>u id) (zrM x.1) ?_;generalize o:cut x.1=y;unfold cut at o
 try simp only[zf.eta,zk]
 repeat' (first|with_reducible refine vI o h (λ_ o h=>?_) (λ_ o h=>?_)|with_reducible refine du o (λ_ o=>?_) (λ_ o=>?_)|with_reducible refine iI h (λh=>?_)|with_reducible refine zP ?_)
 all_goals first|(cases h;done)|(subst o;first|(change Reach _ _ _ _ _ _;refine Uj u _ _ _ _ ?_<;>exact h)|rfl)
noncomputable def K9:=pX.addL [(306,zjp),(291,zjl),(198,F69)]
theorem xE:zw K9:=kK.addL<|fc zeW<|fc zeS<|fc zly iA
noncomputable def zjd:ac:=bp (List.replicate 2 Q2) (fA K9 Tryz.f277 (List.replicate 2 Q2))
theorem zeK:FK 277 zjd:=ch _ xE (bU kw)
abbrev zso:Nat->aM:=λ_=>{ }
theorem zpn:zO (K9).P 247 Tryz.f247 1:=bU kw
theorem zrW(h:Sem Q5):rn K9 0 zso Tryz.f247 [zC Q5 h] []=Qc (rl (zl h)) (Tr.ok (zF.ret (str (oq (zl h)).1) [])):=kw
def iU(h:Sem Q5):Sem Q6:=((oq h).1)
def qV(h:Sem Q5):Bool:=(ite (rl h=Q3) Q3 Q4)
def F94:ac:=zT [Q5] [Q6] (λx=>qV x.1) λx=>(iU x.1,())
theorem zlV:FK 247 F94:=by
 refine aL (zpn) λx o C u=>?_
 unfold qV at o;refine zI xE (zpn) (λid _=>u id) (zrW x.1) ?_;generalize h:iU x.1=y;unfold iU at h
 try simp only[zf.eta]
 repeat' (first|with_reducible refine vI h o (λ_ h o=>?_) (λ_ h o=>?_)|with_reducible refine du h (λ_ h=>?_) (λ_ h=>?_)|with_reducible refine iI o (λo=>?_)|with_reducible refine zP ?_)
 all_goals first|(cases o;done)|(subst h;first|rfl)
noncomputable def La:=K9.addL [(277,zjd),(247,F94)]
theorem xF:zw La:=xE.addL<|fc zeK<|fc zlV iA
noncomputable def F86:ac:=bp (List.replicate 4 Q2) (fA La Tryz.f239 (List.replicate 4 Q2))
theorem zlM:FK 239 F86:=ch _ xF (bU kw)
abbrev zsp:Nat->aM:=λ_=>{ }
theorem zpp:zO (La).P 251 Tryz.f251 2:=bU kw
theorem zrY(o:TS)(h:Sem Q5):rn La 0 zsp Tryz.f251 [zC Q6 o,zC Q5 h] []=br (ib (zl h)) (Tr.ok (zF.ret (str []) [])) (Qc (Q0 (Io o+Io KP<=1099511627776)) (Qc (qV (zl h)) (Qc (Q0 (Io (o++KP)+Io (iU (zl h))<=1099511627776)) (Qc (Q0 (Io (o++KP++iU (zl h))+Io iw<=1099511627776)) (Tr.ok (zF.ret (str (o++KP++iU (zl h)++iw)) [])))))):=kw
def kZ(o:TS)(h:Sem Q5):Sem Q6:=(ite (ib h=Q3) [] (o++KP++iU h++iw))
def uO(o:TS)(h:Sem Q5):Bool:=(ite (ib h=Q3) Q3 (ite (Q0 (Io o+Io KP<=1099511627776)=Q3) (ite (qV h=Q3) (ite (Q0 (Io (o++KP)+Io (iU h)<=1099511627776)=Q3) (ite (Q0 (Io (o++KP++iU h)+Io iw<=1099511627776)=Q3) Q3 Q4) Q4) Q4) Q4))
def F98:ac:=zT [Q6,Q5] [Q6] (λx=>uO x.1 x.2.1) λx=>(kZ x.1 x.2.1,())
theorem zlX:FK 251 F98:=by
 refine aL (zpp) λx o C u=>?_
 unfold uO at o;refine zI xF (zpp) (λid _=>u id) (zrY x.1 x.2.1) ?_;generalize h:kZ x.1 x.2.1=y;unfold kZ at h
 try simp only[zf.eta]
 repeat' (first|with_reducible refine vI h o (λ_ h o=>?_) (λ_ h o=>?_)|with_reducible refine du h (λ_ h=>?_) (λ_ h=>?_)|with_reducible refine iI o (λo=>?_)|with_reducible refine zP ?_)
 all_goals first|(cases o;done)|(subst h;first|rfl)
noncomputable def zdi:=La.addL [(239,F86),(251,F98)]
theorem Sy:zw zdi:=xF.addL<|fc zlM<|fc zlX iA
def zp5(h:Sem zn):Sem Q7:=(cond (cond (Q0 ((↑(Io h.2.2.2.2.1):Int)<1)) Q3 (Q0 ((↑(Io h.2.2.2.2.1):Int)>8))) Q4 (bif !Q0 (zW (λx=>!zme x) h.2.2.2.2.1 0>=0)then bif bV h.2.2.2.2.2.1 then bif bif Q0 ((↑(Io h.2.2.2.2.2.2.1):Int)<0)then Q3 else Q0 ((↑(Io h.2.2.2.2.2.2.1):Int)>8)then Q4 else bif !Q0 (zW (λx=>!bV x) h.2.2.2.2.2.2.1 0>=0)then bif bif Q0 ((↑(Io h.2.2.2.2.2.2.2.1):Int)<0)then Q3 else Q0 ((↑(Io h.2.2.2.2.2.2.2.1):Int)>8)then Q4 else bif !Q0 (zW (λx=>!zpL x) h.2.2.2.2.2.2.2.1 0>=0)then bW h.2.2.2.2.2.2.2.2.1 else Q4 else Q4 else Q4 else Q4))
noncomputable def zdj:=zdi
theorem xG:zw zdj:=Sy
noncomputable section
def vt(h:Sem zn):Tr (Empty⊕aw):=
 let M:=zl h.t.t.1
 let T:=zl h.t.t.q.2.1
 let W:=(h.t.t.2.1,h.t.t.q.1,T,h.t.t.t)
 let X:=(h.1,[],h.2.2.1,h.2.2.2.1,h.t.1,h.t.2.1,h.t.q.1,h.t.q.2.1,M,W)
 let O:=bif bV h.2.1 then bW T else Q4
 let S:=(h.1,[],h.2.2.1,h.2.2.2.1,h.t.1,h.t.2.1,h.t.q.1,h.t.q.2.1,M,h.t.t.2.1,h.t.t.q.1,zf.mk [] (0,0,[]) [] [],h.t.t.t)
 let Y:=bV h.t.t.t
 let u:=bif bV h.2.1 then Y else Q4
 let Z:=(h.t.t.2.1,h.t.t.q.1,T,[])
 let z:=(h.1,[],h.2.2.1,h.2.2.2.1,h.t.1,h.t.2.1,h.t.q.1,h.t.q.2.1,M,Z)
 let B:=bV h.2.2.1
 let o:=(↑(Io h.2.2.2.1):Int)
 let U:=zW (λx=>!bV x) h.2.2.2.1 0
 let C:=bW M
 let D:=bif !Q0 (U>=0)then C else Q4
 let E:=bif bV h.2.1 then bif B then bif bif Q0 (o<1)then Q3 else Q0 (o>8)then Q4 else D else Q4 else Q4
 let F:=(h.1,[],[],[],h.t.1,h.t.2.1,h.t.q.1,h.t.q.2.1,zf.mk [] (0,0,[]) [] [],W)
 let G:=eu F
 let H:=eI F
 let I:=bif bV h.2.1 then bif B then bif bV h.t.2.1 then bif Y then C else Q4 else Q4 else Q4 else Q4
 let J:=(h.1,[],[],h.2.2.2.1,h.t.1,[],h.t.q.1,h.t.q.2.1,zf.mk [] (0,0,[]) [] [],Z)
 let L:=bif bV h.2.1 then bif B then bif bif Q0 (o<2)then Q3 else Q0 (o>2)then Q4 else D else Q4 else Q4
 br (h.1==mV) (br (bV h.2.1) Tr.err (re (kb Q4) []))
 (br (h.1==Fr)
  (Qc (cond (bV h.2.1) (eu X) Q3) (re (AV.bool (cond (bV h.2.1) (eI X) Q4)) []))
  (br (h.1==H7) (br (bV h.2.1) Tr.err (re (kb Q4) [])) (br (h.1==px) (br (bV h.2.1) Tr.err (re (kb Q4) [])) (br (h.1==Kn) (Qc (cond O (eu S) Q3) (re (AV.bool (cond O (eI S) Q4)) []))
  (br (h.1==pO) (Qc (cond O (eu S) Q3) (re (AV.bool (cond O (eI S) Q4)) [])) (br (h.1==PJ) (Qc (cond u (eu z) Q3) (re (AV.bool (cond u (eI z) Q4)) []))
  (br (h.1==xk) (Qc (cond u (eu z) Q3) (re (AV.bool (cond u (eI z) Q4)) [])) (br (h.1==AX) (Qc (cond u (eu z) Q3) (re (AV.bool (cond u (eI z) Q4)) [])) (br (h.1==Cy)
  (Qc (cond u (eu z) Q3) (re (AV.bool (cond u (eI z) Q4)) [])) (br (h.1==cV) (Qc (cond E G Q3) (re (AV.bool (cond E H Q4)) [])) (br (h.1==eW) (Qc (cond I (eu J) Q3) (re (AV.bool (cond I (eI J) Q4)) []))
  (br (h.1==ku) (Qc (cond L G Q3) (re (AV.bool (cond L H Q4)) [])) (re (kb Q4) [])))))))))))))
def BZ(h:Sem zn):=an [Q7] t0 100000000 (vt h)
def wF(h:Sem zn):=(BZ h).isSome
def fy(h:Sem zn):=o1 (BZ h)
def zcl:=FT [zn] [Q7] λx=>BZ x.1
theorem Y2:FK 196 zcl:=xG.T1 (f:=Tryz.f196) (keep:=k0) (e:=e0)
def At(h:Sem zn):Tr (Empty⊕aw):=
 let a0:=Q0 (Io h.1<=140737488355328)&&List.all h.1 λb=>Q0 (b.toNat<128)
 let a1:=Uo++Lib.toUpperA h.1
 let a2:=a1++[32]
 let a3:=a2++h.2.1
 let a4:=a3++kY
 let a5:=zgR++Lib.toUpperA h.1
 let a6:=a5++AZ
 let a7:=a6++h.2.1
 let a8:=a7++NB
 let a9:=Qg ((↑(Io h.1):Int).toNat-toNat 2) (Qh (toNat 2) h.1)
 let B:=Lib.toUpperA a9
 let C:=zgV++B
 let D:=C++AZ
 let E:=D++h.2.1
 let z:=E++kY
 let o:=a4++h.2.2.1
 let G:=o++AY
 let H:=gI h.2.2.2.1
 let I:=G++H
 let J:=zl h.t.t.1
 let F:=uO [32] J
 let L:=I++iw
 let u:=kZ [32] J
 let M:=o++eZ
 let O:=M++h.t.t.t
 let S:=O++AZ
 let T:=S++h.t.2.1
 let U:=o++R0
 let W:=getD h.2.2.2.1 (toNat 0) (zi Q6)
 let X:=U++W
 let Y:=X++R1
 let Z:=getD h.2.2.2.1 (toNat 1) (zi Q6)
 let h0:=Y++Z
 Qc a0
 (Qc (Q0 (Io Uo+(Lib.toUpperA h.1).length<=1099511627776))
  (Qc (Q0 (Io a1+[32].length<=1099511627776)) (Qc (Q0 (Io a2+Io h.2.1<=1099511627776)) (Qc (Q0 (Io a3+Io kY<=1099511627776)) (Qc (Q0 (Io a4+Io h.2.2.1<=1099511627776)) (br (h.1==mV) Tr.err (br (h.1==Fr)
  (Qc (Q0 (Io zac+Io h.2.1<=1099511627776)) (re (str (zac++h.2.1)) [])) (br (h.1==H7) (Qc (Q0 (Io Um+Io h.2.1<=1099511627776)) (Qc (decide
  (Io (Um++h.2.1)+Io Z6<=1099511627776)) Tr.err)) (br (h.1==px) (Qc (Q0 (Io Up+Io h.2.1<=1099511627776))
  (Qc (Q0 (Io (Up++h.2.1)+Io Z5<=1099511627776)) Tr.err)) (br (h.1==Kn) (Qc (Q0 (Io zaa+Io h.2.1<=1099511627776)) Tr.err) (br (h.1==pO)
  (Qc (Q0 (Io zaj+Io h.2.1<=1099511627776)) Tr.err) (br (h.1==PJ) (Qc a0 (Qc (Q0 (Io zgR+(Lib.toUpperA h.1).length<=1099511627776)) (Qc (Q0 (Io a5+Io AZ<=1099511627776))
  (Qc (Q0 (Io a6+Io h.2.1<=1099511627776)) (Qc (Q0 (Io a7+Io NB<=1099511627776)) (Qc (Q0 (Io a8+Io h.t.t.t<=1099511627776)) (re (str (a8++h.t.t.t)) []))))))) (br (h.1==xk) (Qc a0
  (Qc (Q0 (Io zgR+(Lib.toUpperA h.1).length<=1099511627776)) (Qc (Q0 (Io a5+Io AZ<=1099511627776)) (Qc (Q0 (Io a6+Io h.2.1<=1099511627776)) (Qc (Q0 (Io a7+Io NB<=1099511627776))
  (Qc (Q0 (Io a8+Io h.t.t.t<=1099511627776)) (re (str (a8++h.t.t.t)) []))))))) (br (h.1==AX) (Qc (Q0 (0<=2)&&Q0 (2<=(↑(Io h.1):Int))&&Q0 ((↑(Io h.1):Int)<=(↑(Io h.1):Int)))
  (Qc (Q0 (Io a9<=140737488355328)&&a9.all λb=>Q0 (b.toNat<128)) (Qc (Q0 (Io zgV+Io B<=1099511627776)) (Qc (Q0 (Io C+Io AZ<=1099511627776)) (Qc (Q0 (Io D+Io h.2.1<=1099511627776))
  (Qc (Q0 (Io E+Io kY<=1099511627776)) (Qc (Q0 (Io z+Io h.t.t.t<=1099511627776)) (re (str (z++h.t.t.t)) [])))))))) (br (h.1==Cy) (Qc (Q0 (0<=2)&&Q0 (2<=(↑(Io h.1):Int))&&
  Q0 ((↑(Io h.1):Int)<=(↑(Io h.1):Int))) (Qc (Q0 (Io a9<=140737488355328)&&a9.all λb=>Q0 (b.toNat<128)) (Qc (Q0 (Io zgV+Io B<=1099511627776)) (Qc (Q0 (Io C+Io AZ<=1099511627776)) (Qc (Q0 (Io D+Io h.2.1<=1099511627776))
  (Qc (Q0 (Io E+Io kY<=1099511627776)) (Qc (Q0 (Io z+Io h.t.t.t<=1099511627776)) (re (str (z++h.t.t.t)) [])))))))) (br (h.1==cV) (Qc (Q0 (Io o+Io AY<=1099511627776)) (Qc (nM h.2.2.2.1)
  (Qc (Q0 (Io G+Io H<=1099511627776)) (Qc (Q0 (Io I+Io iw<=1099511627776)) (Qc F (Qc (Q0 (Io L+Io u<=1099511627776)) (re (str (L++u)) []))))))) (br (h.1==eW) (Qc (Q0 (Io o+Io eZ<=1099511627776))
  (Qc (Q0 (Io M+Io h.t.t.t<=1099511627776)) (Qc (Q0 (Io O+Io AZ<=1099511627776)) (Qc (Q0 (Io S+Io h.t.2.1<=1099511627776)) (Qc F (Qc (Q0 (Io T+Io u<=1099511627776)) (re (str (T++u)) [])))))))
  (Qc (Q0 (Io o+Io R0<=1099511627776)) (Qc (zJ 0 (Io h.2.2.2.1)) (Qc (Q0 (Io U+Io W<=1099511627776)) (Qc (Q0 (Io X+Io R1<=1099511627776)) (Qc (zJ 1 (Io h.2.2.2.1)) (Qc (Q0 (Io Y+Io Z<=1099511627776)) (Qc F
  (Qc (Q0 (Io h0+Io u<=1099511627776)) (re (str (h0++u)) []))))))))))))))))))))))))))
def JT(h:Sem zn):=an [Q6] t0 100000000 (At h)
def EO(h:Sem zn):=(JT h).isSome
def iQ(h:Sem zn):=o1 (JT h)
def zcm:=FT [zn] [Q6] λx=>JT x.1
theorem Y3:FK 197 zcm:=xG.T1 (f:=Tryz.f197) (keep:=k0) (e:=e0)
def PR:=zdj.addL [(196,zcl),(197,zcm)]
theorem Gp:zw PR:=xG.addL<|fc Y2<|fc Y3<|iA
end
abbrev zsg:Nat->aM:=λ_=>{ }
theorem zo2:zO (PR).P 157 Tryz.f157 1:=bU kw
theorem zrC(h:Sem zn):rn PR 0 zsg Tryz.f157 [zC zn h] []=Qc (wF (Fx h)) (br (!fy (Fx h)) (Tr.ok (zF.ret (tup [str [],ai 1]) [])) (Qc (EO (Fx h)) (Qc (UA (iQ (Fx h))) (br ((cut (iQ (Fx h))).2!=0) (Tr.ok (zF.ret (tup [str [],ai 1]) [])) (Tr.ok (zF.ret (tup [str (iQ (Fx h)),ai 0]) [])))))):=kw
noncomputable def qH(h:Sem zn):Sem Q6×Sem zg:=(ite ((!fy h)=Q3) ([],1) (ite (((cut (iQ h)).2!=0)=Q3) ([],1) (iQ h,0)))
noncomputable def wJ(h:Sem zn):Bool:=(ite (wF h=Q3) (ite ((!fy h)=Q3) Q3 (ite (EO h=Q3) (ite (UA (iQ h)=Q3) Q3 Q4) Q4)) Q4)
noncomputable def F52:ac:=zT [zn] [Q6,zg] (λx=>wJ x.1) λx=>((qH x.1).1,(qH x.1).2,())
theorem zll:FK 157 F52:=by
 refine aL (zo2) λx o C u=>?_
 unfold wJ at o;refine zI Gp (zo2) (λid _=>u id) (zrC x.1) ?_;generalize h:qH x.1=y;unfold qH at h
 try simp only[P2]
 repeat' (first|with_reducible refine vI h o (λ_ h o=>?_) (λ_ h o=>?_)|with_reducible refine du h (λ_ h=>?_) (λ_ h=>?_)|with_reducible refine iI o (λo=>?_)|with_reducible refine zP ?_)
 all_goals first|(cases o;done)|(subst h;first|rfl)
noncomputable def PS:=PR.add 157 F52
theorem Gq:zw PS:=Gp.add zll
abbrev zsf:Nat->aM:=λ_=>{ }
theorem zoJ:zO (PS).P 113 Tryz.f113 1:=bU kw
theorem zrk(h:Sem zn):rn PS 0 zsf Tryz.f113 [zC zn h] []=Qc (wJ (Fx h)) (Tr.ok (zF.ret (AV.bool ((qH (Fx h)).2==0)) [])):=kw
noncomputable def er(h:Sem zn):Sem Q7:=((qH h).2==0)
noncomputable def oZ(h:Sem zn):Bool:=(ite (wJ h=Q3) Q3 Q4)
noncomputable def F31:ac:=zT [zn] [Q7] (λx=>oZ x.1) λx=>(er x.1,())
theorem zk1:FK 113 F31:=by
 refine aL (zoJ) λx o C u=>?_
 unfold oZ at o;refine zI Gq (zoJ) (λid _=>u id) (zrk x.1) ?_;generalize h:er x.1=y;unfold er at h
 try simp only[P2]
 repeat' (first|with_reducible refine vI h o (λ_ h o=>?_) (λ_ h o=>?_)|with_reducible refine du h (λ_ h=>?_) (λ_ h=>?_)|with_reducible refine iI o (λo=>?_)|with_reducible refine zP ?_)
 all_goals first|(cases o;done)|(subst h;first|rfl)
noncomputable def pg:=PS.add 113 F31
theorem jq:zw pg:=Gq.add zk1
end Cad
