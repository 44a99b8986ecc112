/- Checks; bounded tables. What is asked of checks and of bounded tables holds. Which tables may be. What is asked of tables holds. Which rows fit. -/
import Derived.Test.YtjfdpfapcmcncaaGreatDoorL09
import Derived.Test.YtjfdpfapcmcncaaGreatDoorL08
namespace Cad
open Go Go.Proofs
open List renaming drop→Qh,take→Qg
open Tr renaming chk→Qc,«to»→Q9,val→Q8
open AO renaming box→Qa
open Sh renaming bool→Q7,str→Q6,expr→Q5
open Bool renaming false→Q4,true→Q3
open Option renaming none→Q2,some→Q1
open Decidable renaming decide→Q0
open Int (toNat)
open List (getD length)
open Tr (chk br re)
open AV (nils agg tup ptr kb str sl)
noncomputable section
set_option maxHeartbeats 4000000
abbrev uC:List CP:=[.d zp]
abbrev Y0:List CP:=[.d .str,.nil,.d zg,.nil,.nil,.d .str,.d zg,.d zg,.d .str,.d .str,.nil]
abbrev zke:List CP:=[.d .str,.d (.sl zi),.d zg,.vec zg,.nil,.d .expr]
abbrev zkf:List CP:=[.d .str,.d (.sl zi),.d zg,.vec zg,.vec zo,.d .expr]
def Ul(x0:Sem Q5)(x1:Sem zi.sl):Tr (Empty⊕az):=Qc (ju 16 (zm x0) (ze.mk [] (0,0,[]) [] [])) (br (fF 16 (zm x0) (ze.mk [] (0,0,[]) [] [])) (re (ai 0) []) (br (bif (bJ (zm x0) x1).2==0 then bif (bJ (zm x0) x1).1!=3 then(bJ (zm x0) x1).1!=0 else Q4 else Q4) (re (ai 5) []) (re (ai (bJ (zm x0) x1).2) [])))
def LD(x0:Sem Q5)(x1:Sem zi.sl):=ah [zg] t0 100000000 (Ul x0 x1)
def zbb:=FT [Q5,zi.sl] [zg] λx=>LD x.1 x.2.1
theorem N6:FK 221 zbb:=wY.T1 (f:=Tryz.f221) (keep:=k0) (e:=e0)
abbrev zl0:Nat->aN:=λj=>if j=3 then{slots:=[1,2,3,4],prom:=[(3,Q1 3,zg)]}else if j=7 then{slots:=[1,2,3,5],prom:=[(3,Q1 4,zo)]}else{ }
inductive Jv where
 |h3 (i4:Int) (z0:zn uC) (z1:zn Y0) (z2:zn zke)
 |h7 (i5:Int) (z0:zn uC) (z1:zn Y0) (z2:zn zkf)
abbrev zox:Jv->Nat×St
 |.h3 i4 z0 z1 z2=>(3,⟨tm 70 [(1,ptr 0 0),(2,ptr 1 0),(3,ptr 2 0),(4,ai i4)],[Qa (bF [] uC z0),Qa (bF [] Y0 z1),Qa (bF [3] zke z2),AO.vec zg z2.2.2.2.1]⟩)
 |.h7 i5 z0 z1 z2=>(7,⟨tm 70 [(1,ptr 0 0),(2,ptr 1 0),(3,ptr 2 0),(5,ai i5)],[Qa (bF [] uC z0),Qa (bF [] Y0 z1),Qa (bF [3,4] zkf z2),AO.vec zg z2.2.2.2.1,AO.vec zo z2.t.1]⟩)
def zfQ(x0:Sem zp):Tr (Jv⊕az):=Q9 (Jv.h3 0 (x0,()) ([],0,[],0,0,[],[],()) (jt x0.1,jN x0.2.1,x0.2.2.1,[],fK (zm x0.t.2),()))
def I4:Jv->Tr (Jv⊕az)
 | .h3 i4 z0 z1 z2=>
  let a0:=(↑(length z0.1.2.2.2.1):Int)
  let a1:=[getD z0.1.2.2.2.1 i4.toNat (zj zg)]
  br (bif Q0 (i4<a0)then Q0 (i4<10)else Q4)
  (Qc (zO i4 (length z0.1.2.2.2.1)) (Qc (Q0 (z2.2.2.2.1.length+a1.length<=1073741824)) (Q9 (Jv.h3 (IntKind.i64.wrap (i4+1)) z0 z1 (z2.1,z2.2.1,z2.2.2.1,z2.2.2.2.1++a1,z2.t)))))
  (Q9 (Jv.h7 0 z0 z1 (z2.1,z2.2.1,z2.2.2.1,z2.2.2.2.1,[],z2.t)))
 | .h7 i5 z0 z1 z2=>
  let a0:=(↑(length z0.1.t.1):Int)
  let a1:=zO i5 (length z0.1.t.1)
  let a2:=getD z0.1.t.1 i5.toNat (zj zo)
  let a3:=[(a2.1,jt a2.2)]
  br (bif Q0 (i5<a0)then Q0 (i5<10)else Q4)
  (Qc a1 (Qc a1 (Qc (Q0 (z2.t.1.length+a3.length<=1073741824)) (Q9 (Jv.h7 (IntKind.i64.wrap (i5+1)) z0 z1 (z2.1,z2.2.1,z2.2.2.1,z2.2.2.2.1,z2.t.1++a3,z2.t.2))))))
  (re (agg [str z2.1,sl zi z2.2.1,ai z2.2.2.1,AV.vec 0,AV.vec 1,str (ze.op z2.t.2.1),ai (ze.v z2.t.2.1).1,ai (ze.v z2.t.2.1).2.1,str (ze.v z2.t.2.1).2.2,str (ze.s z2.t.2.1),sl Q5 (ze.l z2.t.2.1)]) [AO.vec zg z2.2.2.2.1,AO.vec zo z2.t.1])
def WO(x0:Sem zp):=ah [zp] I4 100000000 (zfQ x0)
def zit:=FT [zp] [zp] λx=>WO x.1
theorem Sw:FK 84 zit:=wY.T1 (f:=Tryz.f84) (keep:=zl0) (e:=zox)
def iR(x0:Sem Q5)(x1:Sem zi.sl):Sem zg:=if fF 16 x0 (ze.mk [] (0,0,[]) [] [])=Q3 then 0 else if(bif (bJ x0 x1).2==0 then bif (bJ x0 x1).1!=3 then(bJ x0 x1).1!=0 else Q4 else Q4)=Q3 then 5 else(bJ x0 x1).2
theorem NK(e:ze)(cols:LC):LD e cols=Q1 (iR e cols,()):=by
 have hv:(Ul e cols).val=Q1 (.inr (.int .i64 (iR e cols),[])):=by
  unfold iR;simp only[Ul,zk,Q8];rw[if_pos (NM 15 e)];repeat' split
  all_goals rfl
 exact zH hv rfl
def Eh(t:Sem zp):Sem zp:=(jt t.1,jN t.2.1,t.2.2.1,Qg 10 t.2.2.2.1,(Qg 10 t.t.1).map (λf:Sem zo=>((f.1,jt f.2):Sem zo)),fK t.t.2)
theorem WP(t:Sem zp):WO t=Q1 (Eh t,()):=by
 have g1:=zT.all (t:=I4) 1 (λi=>.h3 (i:Int) (t,()) ([],0,[],0,0,[],[],()) (jt t.1,jN t.2.1,t.2.2.1,Qg i t.2.2.2.1,fK t.t.2,())) (min 10 (length t.2.2.2.1)) λi hi=>zT.of (by
  have hl:i<length t.2.2.2.1:=by omega
  simp only[I4,Q8,ZC (k:=10) (K:=10) rfl hi,zw hl,if_true,aK];rw[if_pos sg,zr i um,I9 hl (zj zg)])
 have g2:zT I4 1 (.h3 ((min 10 (length t.2.2.2.1):Nat):Int) (t,()) ([],0,[],0,0,[],[],()) (jt t.1,jN t.2.1,t.2.2.1,Qg (min 10 (length t.2.2.2.1)) t.2.2.2.1,fK t.t.2,())) (.h7 ((0:Nat):Int) (t,()) ([],0,[],0,0,[],[],()) (jt t.1,jN t.2.1,t.2.2.1,Qg (min 10 (length t.2.2.2.1)) t.2.2.2.1,[],fK t.t.2,())):=zT.of (by
  simp only[I4,Q8,OV (k:=10) (K:=10) rfl,zF,if_false];rfl)
 rw[wt]at g1 g2;have g3:=zT.all (t:=I4) 1 (λi=>.h7 (i:Int) (t,()) ([],0,[],0,0,[],[],()) (jt t.1,jN t.2.1,t.2.2.1,Qg 10 t.2.2.2.1,(Qg i t.t.1).map (λf:Sem zo=>((f.1,jt f.2):Sem zo)),fK t.t.2,())) (min 10 (length t.t.1)) λi hi=>zT.of (by
  have hl:i<length t.t.1:=by omega
  simp only[I4,Q8,ZC (k:=10) (K:=10) rfl hi,zw hl,if_true,aK];rw[if_pos sg,zr i um,I9 hl (zj zo),iA];rfl)
 rw[wt]at g3;have he:zX I4 1 (.h7 ((min 10 (length t.t.1):Nat):Int) (t,()) ([],0,[],0,0,[],[],()) (jt t.1,jN t.2.1,t.2.2.1,Qg 10 t.2.2.2.1,(Qg 10 t.t.1).map (λf:Sem zo=>((f.1,jt f.2):Sem zo)),fK t.t.2,())) _:=zX.of (by
  simp only[I4,Q8,OV (k:=10) (K:=10) rfl,zF,if_false];rfl)
 have hs:(zfQ t).val=Q1 (.inl (.h3 ((0:Nat):Int) (t,()) ([],0,[],0,0,[],[],()) (jt t.1,jN t.2.1,t.2.2.1,Qg 0 t.2.2.2.1,fK t.t.2,()))):=by
  simp only[zfQ,zk,Q8];rfl
 unfold Eh;rw[<-zk (fK t.t.2)];exact zy hs (((g1.trans g2).trans g3).ends he) ow rfl
def zbF:=zbE.addL [(221,zbb),(84,zit)]
theorem QU:zt zbF:=wY.addL<|fc N6<|fc Sw ja
end
def zhD:zV:=aG [Q5,zi.sl] [zg] λx=>(iR x.1 x.2.1,())
theorem zdr:FK 221 zhD:=g6 N6 λx=>NK x.1 x.2.1
def F5t:zV:=aG [zp] [zp] λx=>(Eh x.1,())
theorem zjp:FK 84 F5t:=g6 Sw λx=>WP x.1
noncomputable def TF:=zbF.addL [(221,zhD),(84,F5t)]
theorem Ft:zt TF:=QU.addL<|fc zdr<|fc zjp ja
abbrev zfY:=lW [(4,[1,27,28,29]),(11,[1,5,59,60,61]),(17,[1,5,71,72,73])]
inductive sx where
 |h4 (l27:LC) (i28:Int) (i29:Int) (z0:zn uC)
 |h11 (l59:LI) (i60:Int) (i61:Int) (z0:zn uC)
 |h17 (l71:LF) (i72:Int) (i73:Int) (z0:zn uC)
abbrev zkh:sx->Nat×St
 |.h4 l27 i28 i29 z0=>(4,⟨tm 110 [(1,ptr 0 0),(27,sl zi l27),(28,ai i28),(29,ai i29)],[Qa (bF [] uC z0)]⟩)
 |.h11 l59 i60 i61 z0=>(11,⟨tm 110 [(1,ptr 0 0),(5,AV.clo (Fn.func 220) [] [ptr 0 0]),(59,sl zg l59),(60,ai i60),(61,ai i61)],[Qa (bF [] uC z0)]⟩)
 |.h17 l71 i72 i73 z0=>(17,⟨tm 110 [(1,ptr 0 0),(5,AV.clo (Fn.func 220) [] [ptr 0 0]),(71,sl zo l71),(72,ai i72),(73,ai i73)],[Qa (bF [] uC z0)]⟩)
noncomputable def Kr(x0:Sem zp):Tr (sx⊕az):=
 let a0:=(↑(length x0.2.1):Int)
 br (bif !zL x0.1 then Q3 else bif Q0 (a0<1)then Q3 else Q0 (a0>8)) (re (kb Q4) [])
 (Q9 (sx.h4 x0.2.1 a0 0 (x0,())))
noncomputable def oY:sx->Tr (sx⊕az)
 | .h4 l27 i28 i29 z0=>
  let a0:=l27.getD i29.toNat (zj zi)
  br (Q0 (i29<i28))
  (Qc (zO i29 l27.length) (br (bif !zL a0.1 then Q3 else bif Q0 (a0.2.1<1)then Q3 else bif Q0 (a0.2.1>3)then Q3 else zP (z0.1.1,z0.1.2.1,z0.1.2.2.1,z0.1.2.2.2.1,z0.1.t.1,zm z0.1.t.2) a0.1!=i29) (re (kb Q4) []) (Q9 (sx.h4 l27 i28 (IntKind.i64.wrap (i29+1)) z0))))
  (Q9 (sx.h11 z0.1.2.2.2.1 (↑(length z0.1.2.2.2.1):Int) 0 z0))
 | .h11 l59 i60 i61 z0=>
  let a0:=l59.getD i61.toNat (zj zg)
  let a1:=(↑(length z0.1.2.1):Int)
  br (Q0 (i61<i60))
  (Qc (zO i61 l59.length) (br (!bif Q0 (a0>=0)then Q0 (a0<a1)else Q4) (re (kb Q4) []) (Q9 (sx.h11 l59 i60 (IntKind.i64.wrap (i61+1)) z0))))
  (Q9 (sx.h17 z0.1.t.1 (↑(length z0.1.t.1):Int) 0 z0))
 | .h17 l71 i72 i73 z0=>
  let a0:=l71.getD i73.toNat (zj zo)
  let a1:=(↑(length z0.1.2.1):Int)
  let a2:=getD z0.1.2.1 (toNat z0.1.2.2.1) (zj zi)
  br (Q0 (i73<i72))
  (Qc (zO i73 l71.length) (br (!bif Q0 (a0.1>=0)then Q0 (a0.1<a1)else Q4) (re (kb Q4) []) (br (!zL a0.2) (re (kb Q4) []) (Q9 (sx.h17 l71 i72 (IntKind.i64.wrap (i73+1)) z0)))))
  (br (bif Q0 (z0.1.2.2.1>=0)then Q0 (z0.1.2.2.1<a1)else Q4) (Qc (zO z0.1.2.2.1 (length z0.1.2.1)) (br a2.2.2 (re (AV.bool (iR (zm z0.1.t.2) z0.1.2.1==0)) []) (re (kb Q4) []))) (re (kb Q4) []))
noncomputable def zgR(x0:Sem zp):=ah [Q7] oY 40000000000000000000 (Kr x0)
theorem T2{σ:Type}{t:σ->Tr (σ⊕az)}{st:Nat->σ}{N:Nat}{b:Nat->Bool}{R:az}(h:∀i,i<N->(t (st i)).val=if b i=Q3 then Q1 (.inl (st (i+1)))else Q1 (.inr R)):
  ((List.range N).all b=Q3/\zT t N (st 0) (st N))\/((List.range N).all b=Q4/\zX t N (st 0) R):=by
 rcases my (t:=t) (Φ:=λr=>r=R) 1 st (λi=>b i=Q3) N (λi hi _=>by
  cases hb:b i
  ·exact .inr ⟨sw,R,zX.of (by rw[h i hi,hb];rfl),rfl⟩
  ·exact .inl ⟨rfl,zT.of (by rw[h i hi,hb];rfl)⟩)with⟨h1,h2⟩|⟨h1,r,h2,rfl⟩
 ·exact .inl ⟨by rw[ei];exact λi hi=>h1 i (pp.1 hi),h2.mono ow⟩
 ·refine .inr ⟨?_,h2.mono ow⟩;rw[Bool.eq_false_iff,Ne,ei];exact λq=>h1 λi hi=>q i (pp.2 hi)
def xu(x:Int)(n:Nat):Bool:=bif Q0 (x>=0)then Q0 (x<(n:Int))else Q4
def Mp(t:Sem zp)(i:Nat):Bool:=!(bif !zL (getD t.2.1 i (zj zi)).1 then Q3 else bif Q0 ((getD t.2.1 i (zj zi)).2.1<1)then Q3 else bif Q0 ((getD t.2.1 i (zj zi)).2.1>3)then Q3 else zP t (getD t.2.1 i (zj zi)).1!=(i:Int))
def Z7(t:Sem zp)(i:Nat):Bool:=xu (getD t.t.1 i (zj zo)).1 (length t.2.1)&&zL (getD t.t.1 i (zj zo)).2
def eM(t:Sem zp):Sem Q7:=!(bif !zL t.1 then Q3 else bif Q0 ((↑(length t.2.1):Int)<1)then Q3 else Q0 ((↑(length t.2.1):Int)>8))&&((List.range (length t.2.1)).all (Mp t)&&((List.range (length t.2.2.2.1)).all (λi=>xu (getD t.2.2.2.1 i (zj zg)) (length t.2.1))&&((List.range (length t.t.1)).all (Z7 t)&&(xu t.2.2.1 (length t.2.1)&&((getD t.2.1 (toNat t.2.2.1) (zj zi)).2.2&&(iR t.t.2 t.2.1==0))))))
theorem WQ{t:Sem zp}(h2:length t.2.2.2.1<=aF)(h3:length t.t.1<=aF):zgR t=Q1 (eM t,()):=by
 unfold eM;by_cases h0:(bif !zL t.1 then Q3 else bif Q0 ((↑(length t.2.1):Int)<1)then Q3 else Q0 ((↑(length t.2.1):Int)>8))=Q3
 ·rw[h0];refine zH (r:=(.kb Q4,[])) ?_ rfl;simp only[Kr,Q8];exact if_pos h0
 have h8:length t.2.1<=8:=by
  cases hn:zL t.1
  ·rw[hn]at h0;simp at h0
  ·rw[hn]at h0;simp at h0;omega
 have hs:(Kr t).val=Q1 (.inl (.h4 t.2.1 (length t.2.1:Int) ((0:Nat):Int) (t,()))):=by
  simp only[Kr,Q8];exact if_neg h0
 rw[ib]at h0;rw[h0];have hm:aF=9223372036854775807:=rfl
 rcases T2 (t:=oY) (R:=(.kb Q4,[])) (N:=length t.2.1) (st:=λi=>.h4 t.2.1 (length t.2.1:Int) (i:Int) (t,())) (b:=Mp t) (λi hi=>by
  simp only[oY,Q8,zJ hi,zw hi,if_true,aK,zk,Prod.eta,zr i (show i<aF by omega)];unfold Mp;split
  ·rename_i c;rw[c];rfl
  ·rename_i c;rw[ib]at c;rw[c];rfl)with⟨a1,g1⟩|⟨a1,g1⟩
 rotate_left
 ·rw[a1];exact zy hs g1 ow rfl
 have g1':=g1.trans (zT.of (s':=.h11 t.2.2.2.1 (length t.2.2.2.1:Int) ((0:Nat):Int) (t,())) (by
  simp only[oY,Q8,zC,zF,if_false];rfl))
 rw[a1]
 rcases T2 (t:=oY) (R:=(.kb Q4,[])) (N:=length t.2.2.2.1) (st:=λi=>.h11 t.2.2.2.1 (length t.2.2.2.1:Int) (i:Int) (t,())) (b:=λi=>xu (getD t.2.2.2.1 i (zj zg)) (length t.2.1)) (λi hi=>by
  simp only[oY,Q8,zJ hi,zw hi,if_true,aK,zr i (show i<aF by omega)];unfold xu;split
  ·rename_i c;rw[yo]at c;rw[c];rfl
  ·rename_i c;rw[ib,Bool.not_eq_false']at c;rw[c];rfl)with⟨a2,g2⟩|⟨a2,g2⟩
 rotate_left
 ·rw[a2];exact zy hs (g1'.ends g2) ow rfl
 have g2':=(g1'.trans g2).trans (zT.of (s':=.h17 t.t.1 (length t.t.1:Int) ((0:Nat):Int) (t,())) (by
  simp only[oY,Q8,zC,zF,if_false];rfl))
 rw[a2]
 rcases T2 (t:=oY) (R:=(.kb Q4,[])) (N:=length t.t.1) (st:=λi=>.h17 t.t.1 (length t.t.1:Int) (i:Int) (t,())) (b:=Z7 t) (λi hi=>by
  simp only[oY,Q8,zJ hi,zw hi,if_true,aK,zr i (show i<aF by omega)];unfold Z7 xu;split
  ·rename_i c;rw[yo]at c;rw[c];rfl
  ·rename_i c;rw[ib,Bool.not_eq_false']at c;rw[c];cases zL (getD t.t.1 i (zj zo)).2<;>rfl)with⟨a3,g3⟩|⟨a3,g3⟩
 rotate_left
 ·rw[a3];exact zy hs (g2'.ends g3) ow rfl
 rw[a3];have hend:∃r,(oY (.h17 t.t.1 (length t.t.1:Int) (length t.t.1:Int) (t,()))).val=Q1 (.inr r)/\aM r.2 [Q7] r.1=Q1 ((xu t.2.2.1 (length t.2.1)&&((getD t.2.1 (toNat t.2.2.1) (zj zi)).2.2&&(iR t.t.2 t.2.1==0))),()):=by
  simp only[oY,Q8,zC,zk,zF,if_false];unfold xu;cases c:(bif Q0 (t.2.2.1>=0)then Q0 (t.2.2.1<(↑(length t.2.1):Int))else Q4)
  ·exact⟨_,rfl,rfl⟩
  ·have hi:zO t.2.2.1 (length t.2.1)=Q3:=by
    cases h1:Q0 (t.2.2.1>=0)<;>simp_all[zO]
   rw[hi];cases(getD t.2.1 (toNat t.2.2.1) (zj zi)).2.2
   ·exact⟨_,rfl,rfl⟩
   ·exact⟨_,rfl,rfl⟩
 obtain⟨r,e1,e2⟩:=hend;exact zy hs ((g2'.trans g3).ends (zX.of e1)) ow e2
theorem ok8:zI TF.P 175 Tryz.f175 1:=bR kw
def F8t:zV:=aG [zp] [Q7] λx=>(eM x.1,())
theorem zjO:FK 175 F8t:=zY ok8 λx C hC=>Reach.lenA 0 3 zg x.1.2.2.2.1 rfl rfl λh2=>Reach.lenA 0 4 zo x.1.t.1 rfl rfl λh3=>
 Z6 (n0:=0) (t:=oY) (e:=zkh) (keep:=zfY) (gas:=400) (i:=Kr x.1) Ft ok8 (λid _=>hC id) kw (by intro s;cases s<;>kernel_rfl) (WQ h2 h3)
noncomputable def zbG:=TF.add 175 F8t
theorem Fu:zt zbG:=Ft.add zjO
abbrev zgb:=lW [(4,[1,2,19,20,21]),(10,[1,2,30,31])]
inductive yk where
 |h4 (l1:LV) (l19:LV) (i20:Int) (i21:Int) (z0:zn uC)
 |h10 (l1:LV) (i30:Int) (i31:Int) (z0:zn uC)
abbrev zkq:yk->Nat×St
 |.h4 l1 l19 i20 i21 z0=>(4,⟨tm 79 [(1,sl zf l1),(2,ptr 0 0),(19,sl zf l19),(20,ai i20),(21,ai i21)],[Qa (bF [] uC z0)]⟩)
 |.h10 l1 i30 i31 z0=>(10,⟨tm 79 [(1,sl zf l1),(2,ptr 0 0),(30,ai i30),(31,ai i31)],[Qa (bF [] uC z0)]⟩)
noncomputable def Uo(x0:Sem zp)(x1:Sem zf.sl):Tr (yk⊕az):=br (bif !eM (x0.1,x0.2.1,x0.2.2.1,x0.2.2.2.1,x0.t.1,zm x0.t.2)then Q3 else(↑(length x1):Int)!=(↑(length x0.2.1):Int)) (re (ai 1) []) (Q9 (yk.h4 x1 x1 (↑(length x1):Int) 0 (x0,())))
noncomputable def wo:yk->Tr (yk⊕az)
 | .h4 l1 l19 i20 i21 z0=>
  br (Q0 (i21<i20))
  (Qc (zO i21 l19.length) (br (!bg (l19.getD i21.toNat (zj zf))) (re (ai 1) []) (Q9 (yk.h4 l1 l19 i20 (IntKind.i64.wrap (i21+1)) z0))))
  (Q9 (yk.h10 l1 (↑l1.length:Int) 0 z0))
 | .h10 l1 i30 i31 z0=>
  let a0:=l1.getD i31.toNat (zj zf)
  let a1:=a0.1==0
  let a2:=zO i31 (length z0.1.2.1)
  let a3:=getD z0.1.2.1 i31.toNat (zj zi)
  let a4:=a0.1!=0
  let a5:=kd (zm z0.1.t.2) z0.1.2.1 l1
  br (Q0 (i31<i30))
  (Qc (zO i31 l1.length&&bif a1 then a2 else Q3) (br (bif a1 then a3.2.2 else Q4) (re (ai 8) []) (Qc (zO i31 l1.length&&bif a4 then zO i31 l1.length&&a2 else Q3) (br (bif a4 then a0.1!=a3.2.1 else Q4) (re (ai 5) []) (Q9 (yk.h10 l1 i30 (IntKind.i64.wrap (i31+1)) z0))))))
  (br (a5.1==3&&(a5.2.1==0&&(a5.2.2==[]&&Q3))) (re (ai 9) []) (re (ai 0) []))
noncomputable def PK(x0:Sem zp)(x1:Sem zf.sl):=ah [zg] wo 100000000 (Uo x0 x1)
noncomputable def zbk:=FT [zp,zf.sl] [zg] λx=>PK x.1 x.2.1
theorem N8:FK 199 zbk:=Fu.T1 (f:=Tryz.f199) (keep:=zgb) (e:=zkq)
def eI(t:Sem zp)(row:LV):List (Sem zf)->Int->Sem zg
 |[],_=>if((kd t.t.2 t.2.1 row).1==3&&((kd t.t.2 t.2.1 row).2.1==0&&((kd t.t.2 t.2.1 row).2.2==[]&&Q3)))=Q3 then 9 else 0
 |x::r,i=>if(bif x.1==0 then(getD t.2.1 i.toNat (zj zi)).2.2 else Q4)=Q3 then 8 else if(bif x.1!=0 then x.1!=(getD t.2.1 i.toNat (zj zi)).2.1 else Q4)=Q3 then 5 else eI t row r (i+1)
def gq(t:Sem zp)(row:LV):List (Sem zf)->Int->Sem zg
 |[],_=>eI t row row 0
 |x::r,i=>if(!bg x)=Q3 then 1 else gq t row r (i+1)
def eu(t:Sem zp)(row:Sem zf.sl):Sem zg:=if(bif !eM t then Q3 else(↑(length row):Int)!=(↑(length t.2.1):Int))=Q3 then 1 else gq t row row 0
theorem OY{t:Sem zp}(h:eM t=Q3):length t.2.1<=8:=by
 unfold eM at h;rw[aE]at h;have h:=h.1;cases hn:zL t.1
 ·rw[hn]at h;simp at h
 ·rw[hn]at h;simp at h;omega
theorem RZ(t:Sem zp)(row:LV):PK t row=Q1 (eu t row,()):=by
 unfold eu;by_cases h:(bif !eM t then Q3 else(↑(length row):Int)!=(↑(length t.2.1):Int))=Q3
 ·rw[if_pos h];refine zH (r:=(.int .i64 1,[])) ?_ rfl;simp only[Uo,zk,Prod.eta,Q8];exact if_pos h
 rw[if_neg h];have hm:eM t=Q3/\row.length=length t.2.1:=by
  cases hm:eM t
  ·rw[hm]at h;simp at h
  ·rw[hm]at h;simp at h;exact⟨rfl,ow⟩
 have h8:=OY hm.1;have h10:∀(m i:Nat),row.length-i=m->i<=row.length->zX wo (m+1) (.h10 row row.length i (t,())) (.int .i64 (eI t row (row.drop i) i),[]):=by
  intro m
  induction m with
  | zero=>
   intro i hi hl;obtain rfl:i=row.length:=by omega
   rw[jH,eI];refine zX.of ?_;simp only[wo,Q8,zC,zk,zF,if_false];split<;>rfl
  | succ m ih=>
   intro i hi hl;have hlt:i<row.length:=by omega
   have hg:getD row i (zj zf)=row[i]:=cI _ _ hlt;rw[fH hlt,eI];have hv:(wo (.h10 row row.length i (t,()))).val=if(bif row[i].1==0 then(getD t.2.1 i (zj zi)).2.2 else Q4)=Q3 then Q1 (.inr (.int .i64 8,[]))else if(bif row[i].1!=0 then row[i].1!=(getD t.2.1 i (zj zi)).2.1 else Q4)=Q3 then Q1 (.inr (.int .i64 5,[]))else Q1 (.inl (.h10 row row.length ((i+1:Nat):Int) (t,()))):=by
    simp only[wo,Q8,zJ hlt,zw hlt,zw (show i<length t.2.1 by omega),aK,hg,dO,Bool.cond_self,if_true,zr i (show i<aF by unfold aF;omega)]
   simp only[aK];split
   ·rename_i c;exact(zX.of (by rw[hv,if_pos c])).mono ow
   ·rename_i c;split
    ·rename_i c2;exact(zX.of (by rw[hv,if_neg c,if_pos c2])).mono ow
    ·rename_i c2;exact(zT.of (by rw[hv,if_neg c,if_neg c2])).ends (ih (i+1) ow ow)
 have h4:∀(m i:Nat),row.length-i=m->i<=row.length->zX wo (m+row.length+2) (.h4 row row row.length i (t,())) (.int .i64 (gq t row (row.drop i) i),[]):=by
  intro m
  induction m with
  | zero=>
   intro i hi hl;obtain rfl:i=row.length:=by omega
   rw[jH,gq];refine((zT.of (s':=.h10 row row.length ((0:Nat):Int) (t,())) ?_).ends (h10 row.length 0 ow ow)).mono ow;simp only[wo,Q8,zC,zF,if_false];rfl
  | succ m ih=>
   intro i hi hl;have hlt:i<row.length:=by omega
   have hg:getD row i (zj zf)=row[i]:=cI _ _ hlt;rw[fH hlt,gq];have hv:(wo (.h4 row row row.length i (t,()))).val=if(!bg row[i])=Q3 then Q1 (.inr (.int .i64 1,[]))else Q1 (.inl (.h4 row row row.length ((i+1:Nat):Int) (t,()))):=by
    simp only[wo,Q8,zJ hlt,zw hlt,aK,hg,if_true,zr i (show i<aF by unfold aF;omega)]
   split
   ·rename_i c;exact(zX.of (by rw[hv,if_pos c])).mono ow
   ·rename_i c;exact((zT.of (by rw[hv,if_neg c])).ends (ih (i+1) ow ow)).mono ow
 refine zy (s:=.h4 row row row.length ((0:Nat):Int) (t,())) ?_ (h4 row.length 0 ow ow) ow rfl;simp only[Uo,zk,Prod.eta,Q8];exact if_neg h
noncomputable def zbH:=zbG.add 199 zbk
theorem QV:zt zbH:=Fu.add N8
def zhe:zV:=aG [zp,zf.sl] [zg] λx=>(eu x.1 x.2.1,())
theorem zc1:FK 199 zhe:=g6 N8 λx=>RZ x.1 x.2.1
noncomputable def Cm:=zbH.add 199 zhe
theorem QW:zt Cm:=QV.add zc1
open Go.RowKit Go.Lib in
theorem zeb:FK 223 (zN [.str,.str] [.bool] (λx=>x.2.1.length==1) λx=>(Q0 (0<=Lib.indexByte x.1 (x.2.1.headD 0)),())):=by
 refine fi (E:=Cm) ⟨Tryz.f223,kw,kw,kw⟩ λx h0 res hx=>?_
 unfold eR at hx;split at hx
 ·simp only[Q8]at hx;split at hx
  ·rename_i hc;simp only[bB]at hx;subst hx;obtain⟨s,sub,u⟩:=x;have hc:(sub.length==1)=Q3:=hc
   match sub,hc with
   | [c],_=>
    intro C w U ρ vals _ hr hH hnew hr0 hW;have hl:=hr.len
    match vals,hl,hr with
    | [v1,v2],_,hr=>
     have h1:=hr.rv 0 (.str s) v1 rfl rfl;have h2:=hr.rv 1 (.str [c]) v2 rfl rfl;cases h1 with
     |str _ hs=>
     cases h2 with
     |str _ hs2=>
     refine(Tryz.strings_Contains_one ⟨s.toArray⟩ c w).mono ?_;rintro e w' ⟨rfl,rfl⟩;exact ef hH hnew hr0 hW (Below.refl _ _) (.bool _)
  ·cases hx
 ·simp at hx
def F63:zV:=zN [.str,.str] [.bool] (λx=>x.2.1.length==1) λx=>(Q0 (0<=Lib.indexByte x.1 (x.2.1.headD 0)),())
theorem zjs:FK 223 F63:=zeb
def F89:zV:=zN [.str] [.str] (λx=>Q0 (x.1.length<=140737488355328)&&x.1.all λb=>Q0 (b.toNat<128)) λx=>(Lib.toUpperA x.1,())
open Go.RowKit Go.Lib in
theorem zjM:FK 242 F89:=by
 refine fi (E:=Cm) ⟨Tryz.f242,kw,kw,kw⟩ λx h0 res hx=>?_
 unfold eR at hx;split at hx
 ·simp only[Q8]at hx;split at hx
  ·rename_i hc;simp only[bB]at hx;subst hx;obtain⟨s,u⟩:=x;have hc:(Q0 (s.length<=140737488355328)&&s.all λb=>Q0 (b.toNat<128))=Q3:=hc;simp only[aE,aO]at hc;obtain⟨hc0,hc⟩:=hc;intro C w U ρ vals _ hr hH hnew hr0 hW;have hl:=hr.len
   match vals,hl,hr with
   | [v1],_,hr=>
    have h1:=hr.rv 0 (.str s) v1 rfl rfl;cases h1 with
    |str _ hs=>
    refine(Tryz.strings_ToUpper_ascii ⟨s.toArray⟩ w (by simpa[ByteArray.size]using hc0) (λj b hj=>?_)).mono ?_
    ·have hm:b∈s:=pl (by simpa using hj);simp only[ei,aO]at hc;exact hc b hm
    ·rintro e w' ⟨rfl,hb⟩;have hbb:=ef (r:=.str (Lib.toUpperA s)) hH hnew hr0 hW hb (.str _ (by simpa[Lib.toUpperA]using hs));exact hbb
  ·cases hx
 ·simp at hx
def nL:Nat->Nat->zB
 |0,_=>[]
 |f+1,n=>if n<10 then[UInt8.ofNat (48+n)]else nL f (n/10)++[UInt8.ofNat (48+n%10)]
def sI(n:Int):zB:=if n<0 then 45::nL 20 n.natAbs else nL 20 n.natAbs
theorem Hf:∀(f n:Nat),n<10^f->0<f->nL f n=Lib.decDigits n
 |0,_,_,h=>by omega
 | f+1,n,h,_=>by
  rw[nL,Lib.decDigits];split
  ·rfl
  ·rename_i hn;have hf:0<f:=by
    cases f with
    |zero=>simp at h;omega
    |succ f=>omega
   rw[Hf f (n/10) (by rw[BI]at h;omega) hf]
theorem B3:∀(f n:Nat),(nL f n).length<=f
 |0,_=>by simp[nL]
 | f+1,n=>by
  rw[nL];split
  ·simp
  ·have:=B3 f (n/10);simp;omega
theorem Gc(n:Int):(sI n).length<=21:=by
 unfold sI;have:=B3 20 n.natAbs;split<;>simp<;>omega
theorem Uy(n:Int)(h:cq .i64 n):Lib.itoa n=sI n:=by
 have h1:-9223372036854775808<=n:=h.1;have h2:n<=9223372036854775807:=h.2;unfold Lib.itoa sI;split
 ·rw[Hf 20 _ ow ow]
 ·rw[Hf 20 _ ow ow];congr 1;omega
def zhm:zV:=zN [zg,zg] [.str] (λx=>x.2.1==10) λx=>(sI x.1,())
open Go.RowKit Go.Lib in
theorem zc9:FK 288 zhm:=by
 refine fi (E:=Cm) ⟨Tryz.f288,kw,kw,kw⟩ λx h0 res hx=>?_
 unfold eR at hx;split at hx
 ·simp only[Q8]at hx;split at hx
  ·rename_i hc;simp only[bB]at hx;subst hx;obtain⟨n,b,u⟩:=x;have hc:(b==10)=Q3:=hc;simp only[aZ]at hc;subst hc;intro C w U ρ vals _ hr hH hnew hr0 hW;have hl:=hr.len
   match vals,hl,hr with
   | [v1,v2],_,hr=>
    have h1:=hr.rv 0 (.int .i64 n) v1 rfl rfl;have h2:=hr.rv 1 (.int .i64 10) v2 rfl rfl;cases h1 with
    |int _ _ hn=>
    cases h2;have h5:Rv w U (λ_=>Q2) (.tab .u64 mo) (.pointer (Q1 ⟨5,0,Q2⟩)):=hW.gl 5;have htab:Lib.TabIs Tryz.prog w "internal/strconv.uint64pow10" .u64 Lib.pow10Tab:=by
     cases h5 with
     |tab _ _ _ T fr hb hU=>
     have hg:Tryz.prog.globalNamed "internal/strconv.uint64pow10"=Q1 5:=by kernel_rfl
     have ht:Lib.pow10Tab=mo:=by decide+kernel
     unfold Lib.TabIs World.var?;rw[hg,ht];simp only[Option.bind_some,hb]
    refine(Tryz.strconv_FormatInt_10 n hn.1 hn.2 w htab).mono ?_;rintro e w' ⟨rfl,k,os,rfl⟩;rw[Uy n hn];exact ef (r:=.str (sI n)) hH hnew hr0 hW ⟨rfl,rfl,rfl,by show w.heap.size<=(w.heap++os).size;simp,λj hj=>by show(w.heap++os)[j]?=w.heap[j]?;rw[Array.getElem?_append_left hj]⟩ (.str _ (by have:=Gc n;unfold aF;omega))
  ·cases hx
 ·simp at hx
theorem vW(old new:zB):∀(k:Nat)(s:zB),(Lib.replaceK old new k s).length<=s.length+k*new.length
 |0,s=>by simp[Lib.replaceK]
 | k+1,s=>by
  rw[Lib.replaceK];split
  ·omega
  ·have:=vW old new k (s.drop ((Lib.index s old).toNat+old.length));simp only[j9,pn,List.length_drop]at this⊢;rw[kN];omega
theorem lz(s old new:zB):(Lib.replaceAll s old new).length<=s.length+(s.length+1)*new.length:=by
 unfold Lib.replaceAll Lib.replace;split
 ·omega
 ·refine cC (vW old new _ s) ?_;have hc:=Lib.count_le s old;have:Lib.replaceNum s old (-1)=Lib.count s old:=by unfold Lib.replaceNum;rw[if_pos (.inl ow)]
  rw[this];have:=g7 new.length hc;omega
def vV(s old new:zB):Bool:=Q0 (s.length<=4000000000)&&(Q0 (1<=old.length)&&Q0 (new.length<=1000))
def zhn:zV:=zN [.str,.str,.str] [.str] (λx=>vV x.1 x.2.1 x.2.2.1) λx=>(Lib.replaceAll x.1 x.2.1 x.2.2.1,())
open Go.RowKit Go.Lib in
theorem zda:FK 289 zhn:=by
 refine fi (E:=Cm) ⟨Tryz.f289,kw,kw,kw⟩ λx h0 res hx=>?_
 unfold eR at hx;split at hx
 ·simp only[Q8]at hx;split at hx
  ·rename_i hc;simp only[bB]at hx;subst hx;obtain⟨s,old,new,u⟩:=x;have hc:vV s old new=Q3:=hc;unfold vV at hc;simp only[aE,aO]at hc;obtain⟨hc1,hc2,hc3⟩:=hc;intro C w U ρ vals _ hr hH hnew hr0 hW;have hl:=hr.len
   match vals,hl,hr with
   | [v1,v2,v3],_,hr=>
    have h1:=hr.rv 0 (.str s) v1 rfl rfl;have h2:=hr.rv 1 (.str old) v2 rfl rfl;have h3:=hr.rv 2 (.str new) v3 rfl rfl;cases h1 with
    |str _ hs1=>
    cases h2 with
    |str _ hs2=>
    cases h3 with
    |str _ hs3=>
    have hg1:Rv w U (λ_=>Q2) .gint (.pointer (Q1 ⟨0,0,Q2⟩)):=hW.gl 0;have hmm:∃m:Int,w.cell? ⟨0,0,Q2⟩=Q1 (.int .i64 m):=by
     cases hg1 with
     |gint m _ T fr _ hb _=>exact⟨m,by simp[World.cell?,hb]⟩
    obtain⟨m,hm⟩:=hmm;have hcb:=Lib.countB_le (⟨old.toArray⟩:ByteArray) (by simpa[ByteArray.size]using hc2) s.length (⟨s.toArray⟩:ByteArray) (by simp[ByteArray.size]);have hsz:(⟨s.toArray⟩:ByteArray).size=s.length:=by simp[ByteArray.size]
    have hnz:(⟨new.toArray⟩:ByteArray).size=new.length:=by simp[ByteArray.size]
    have hmul:Lib.countB (⟨s.toArray⟩:ByteArray) ⟨old.toArray⟩*new.length<=4000000000*1000:=Ff ow hc3;refine(Tryz.strings_ReplaceAll ⟨s.toArray⟩ ⟨old.toArray⟩ ⟨new.toArray⟩ m w (by rw[hsz];omega) hm (by simpa[ByteArray.size]using hc2) (by rw[hsz,hnz];omega)).mono ?_;rintro e w' ⟨rfl,hbel⟩;refine ef (r:=.str (Lib.replaceAll s old new)) hH hnew hr0 hW hbel (.str _ ?_);have hlen:=lz s old new;have hmul2:(s.length+1)*new.length<=4000000001*1000:=Ff ow hc3;unfold aF;omega
  ·cases hx
 ·simp at hx
def zhl:zV:=zN [.sl .str,.str] [.str] (λx=>Q0 (x.1.length<=140737488355328)&&Q0 ((Lib.join x.1 x.2.1).length<=140737488355328)) λx=>(Lib.join x.1 x.2.1,())
open Go.RowKit Go.Lib in
theorem zc8:FK 287 zhl:=by
 refine fi (E:=Cm) ⟨Tryz.f287,kw,kw,kw⟩ λx h0 res hx=>?_
 unfold eR at hx;split at hx
 ·simp only[Q8]at hx;split at hx
  ·rename_i hc;simp only[bB]at hx;subst hx;obtain⟨l,sep,u⟩:=x;have hc:(Q0 (l.length<=140737488355328)&&Q0 ((Lib.join l sep).length<=140737488355328))=Q3:=hc;simp only[aE,aO]at hc;obtain⟨hc0,hc⟩:=hc;have hms:aF=9223372036854775807:=rfl;intro C w U ρ vals _ hr hH hnew hr0 hW;have hl:=hr.len
   match vals,hl,hr with
   | [v1,v2],_,hr=>
    have h1:=hr.rv 0 (.sl .str l) v1 rfl rfl;have h2:=hr.rv 1 (.str sep) v2 rfl rfl;cases h2 with
    |str _ hs2=>
    generalize hl0:l=l0 at h1 hc hc0 hr;cases h1 with
    | sl0 _ a c=>
     subst hl0;refine(Tryz.strings_Join_none a c ⟨sep.toArray⟩ w).mono ?_;rintro e w' ⟨rfl,rfl⟩;exact ef (r:=.str []) hH hnew hr0 hW (Below.refl _ _) (.str _ sw)
    | sl _ _ b o c vals' hcc hm hb hU hcell hrr=>
     subst hl0;have hx:∀(j:Nat) x,(l.map λs=>(⟨s.toArray⟩:ByteArray))[j]?=Q1 x->w.cell? ⟨b,o+j,Q2⟩=Q1 (.string x):=by
      intro j x hj;simp only[fA,eD]at hj;obtain⟨s,hs,rfl⟩:=hj;obtain⟨hlt,rfl⟩:=dh.1 hs;have h3:=hcell j 0 hlt (by simp[Sh.size]);have h4:=hrr j hlt 0 (.str l[j]) rfl;simp only[Sh.size,Nat.mul_one,yw]at h3;rw[h3];generalize vals' j 0=vv at h4;cases h4;rfl
     have hmap:(l.map λs=>(⟨s.toArray⟩:ByteArray)).map (·.data.toList)=l:=by
      simp[uk]
     have hj:=Tryz.strings_Join b o c (l.map λs=>(⟨s.toArray⟩:ByteArray)) ⟨sep.toArray⟩ w hx hb (by simpa using hc0) (by simpa using hcc) (by rw[hmap];exact hc);rw[hmap]at hj;simp only[di]at hj;refine hj.mono ?_;rintro e w' ⟨rfl,hbel⟩;exact ef (r:=.str (Lib.join l sep)) hH hnew hr0 hW hbel (.str _ ow)
  ·cases hx
 ·simp at hx
noncomputable def sE:=Cm.addL [(223,F63),(242,F89),(288,zhm),(289,zhn),(287,zhl)]
theorem ji:zt sE:=QW.addL<|fc zjs<|fc zjM<|fc zc9<|fc zda<|fc zc8 ja
theorem Reach.promNil{E:bW}{C:fh}{fn:FuncId}{todo:List Item}{st:St}(e:Sh)(hC:∀id,C.ρ0 id=Q2)(h:Reach E C fn todo st (λr h=>(r,h)=(.nils,[]))):Reach E C fn todo st (λr h=>(r,h)=(.vec 0,[.vec e []])):=by
 intro b cs a w U ρ h1 h2 hc hW;obtain⟨en,w',fr,⟨v,r,h',U',ρ',he,hq,hrv,hH,hnew,hr0,hWd⟩,hcm,hf,hl⟩:=h b cs a w U ρ h1 h2 hc hW;cases hq;cases hrv with
 |nils ad=>
 have hno:∀id o b,o=(AO.vec e []:AO)\/o=AO.dead->¬aj (λid=>if id=0 then Q1 (.slice ad 0 0)else Q2) id o b:=by
  rintro id o b ho ⟨h3,x,h4,h5⟩;rcases ho with rfl|rfl
  ·simp only at h4;split at h4
   ·cases h4;cases ad<;>simp[fa]at h5
   ·cases h4
  ·simp[AO.owns]at h3
 have hob:∀id,(([AO.vec e []]:List AO).getD id .dead)=(if id=0 then AO.vec e []else AO.dead):=by
  intro id;cases id<;>simp
 refine⟨en,w',fr,⟨_,_,_,U',λid=>if id=0 then Q1 (.slice ad 0 0)else Q2,he,rfl,.vec 0 _ sw (by simp[Value.oneCell']),⟨λid=>?_,λid1 id2 b o=>?_,λid b o=>?_⟩,λid hid=>?_,λid v hv=>?_,hWd⟩,hcm,hf,hl⟩
 ·show bA w' U' _ id (([AO.vec e []]:List AO).getD id .dead);rw[hob];split
  ·rename_i h0;subst h0;exact⟨ad,0,sw,sw,.inl ⟨rfl,rfl⟩⟩
  ·trivial
 ·exfalso;have o':aj (λid=>if id=0 then Q1 (.slice ad 0 0)else Q2) id1 (([AO.vec e []]:List AO).getD id1 .dead) b:=o;rw[hob]at o';split at o'
  ·exact hno _ _ _ (.inl rfl) o'
  ·exact hno _ _ _ (.inr rfl) o'
 ·exfalso;have o':aj (λid=>if id=0 then Q1 (.slice ad 0 0)else Q2) id (([AO.vec e []]:List AO).getD id .dead) b:=o;rw[hob]at o';split at o'
  ·exact hno _ _ _ (.inl rfl) o'
  ·exact hno _ _ _ (.inr rfl) o'
 ·simp at hid;simp;omega
 ·rw[hC id]at hv;cases hv
def iD:Tr zD->List Item×List Item×St
 |.ok (.fork _ k1 k2 st)=>(k1,k2,st)
 |_=>([],[],⟨[],[]⟩)
abbrev kpC:Nat->aN:=λ_=>{ }
noncomputable abbrev JN(l:List ze):Tr zD:=run sE 0 kpC (Func.results Tryz.f160).toList 300 (bw Tryz.f160) (bd (Func.ntmps Tryz.f160) [.sl .expr l] [])
theorem ZK:zI sE.P 160 Tryz.f160 1:=bR kw
theorem zpg(l:List ze):JN l=.ok (.fork l.isEmpty (iD (JN l)).1 (iD (JN l)).2.1 (iD (JN l)).2.2):=kw
theorem znj(l:List ze):run sE 0 kpC (Func.results Tryz.f160).toList 300 (iD (JN l)).1 (iD (JN l)).2.2=.ok (.ret .nils []):=kw
theorem znk(l:List ze):run sE 0 kpC (Func.results Tryz.f160).toList 300 (iD (JN l)).2.1 (iD (JN l)).2.2=.chk (Q0 (l.length<=1073741824)) (.ok (.ret (.vec 0) [.vec .expr l])):=kw
def G53:iV [Q1 (.sl .expr)]:=λx h=>match h with
 |[]=>.chk (Q0 (length x.1<=1073741824)) (.ok (.vec 0,[.vec .expr x.1]))
 |_=>.err
def F53:zV:=bh [Q1 (.sl .expr)] G53
theorem zjj:FK 160 F53:=by
 refine dR ZK λx h0 res hx C hC=>?_
 unfold G53 at hx;split at hx
 ·simp only[Q8]at hx;split at hx
  ·rename_i hl;simp only[bB]at hx;subst hx;obtain⟨l,u⟩:=x;refine zE (n0:=0) ji ZK hC (zpg l) ?_;refine⟨λhe=>?_,?_⟩
   ·have hn:l=[]:=List.isEmpty_iff.1 he;refine Reach.weaken (Q:=λr h=>(r,h)=(.vec 0,[.vec .expr []])) (Reach.promNil .expr (λid=>hC id sw) (zE (n0:=0) ji ZK hC (znj l) rfl)) ?_;intro r h hq;cases hq;refine⟨_,?_,λ_ _ _ _ h=>h⟩;show(AV.vec 0,[AO.vec Q5 []])=(AV.vec 0,[AO.vec Q5 l]);rw[hn]
   ·exact zE (n0:=0) ji ZK hC (znk l) (mC hl rfl)
  ·cases hx
 ·simp at hx
noncomputable abbrev JM(l:List (Sem zi)):Tr zD:=run sE 0 kpC (Func.results Tryz.f156).toList 300 (bw Tryz.f156) (bd (Func.ntmps Tryz.f156) [.sl zi l] [])
theorem ZI:zI sE.P 156 Tryz.f156 1:=bR kw
theorem zoY(l:List (Sem zi)):JM l=.ok (.fork l.isEmpty (iD (JM l)).1 (iD (JM l)).2.1 (iD (JM l)).2.2):=kw
theorem zne(l:List (Sem zi)):run sE 0 kpC (Func.results Tryz.f156).toList 300 (iD (JM l)).1 (iD (JM l)).2.2=.ok (.ret .nils []):=kw
theorem znf(l:List (Sem zi)):run sE 0 kpC (Func.results Tryz.f156).toList 300 (iD (JM l)).2.1 (iD (JM l)).2.2=.chk (Q0 (l.length<=1073741824)) (.ok (.ret (.vec 0) [.vec zi l])):=kw
def G32:iV [Q1 (.sl zi)]:=λx h=>match h with
 |[]=>.chk (Q0 (length x.1<=1073741824)) (.ok (.vec 0,[.vec zi x.1]))
 |_=>.err
def F32:zV:=bh [Q1 (.sl zi)] G32
theorem ziZ:FK 156 F32:=by
 refine dR ZI λx h0 res hx C hC=>?_
 unfold G32 at hx;split at hx
 ·simp only[Q8]at hx;split at hx
  ·rename_i hl;simp only[bB]at hx;subst hx;obtain⟨l,u⟩:=x;refine zE (n0:=0) ji ZI hC (zoY l) ?_;refine⟨λhe=>?_,?_⟩
   ·have hn:l=[]:=List.isEmpty_iff.1 he;refine Reach.weaken (Q:=λr h=>(r,h)=(.vec 0,[.vec zi []])) (Reach.promNil zi (λid=>hC id sw) (zE (n0:=0) ji ZI hC (zne l) rfl)) ?_;intro r h hq;cases hq;refine⟨_,?_,λ_ _ _ _ h=>h⟩;show(AV.vec 0,[AO.vec zi []])=(AV.vec 0,[AO.vec zi l]);rw[hn]
   ·exact zE (n0:=0) ji ZI hC (znf l) (mC hl rfl)
  ·cases hx
 ·simp at hx
noncomputable def zfg:=sE.addL [(160,F53),(156,F32)]
theorem Kf:zt zfg:=ji.addL<|fc zjj<|fc ziZ ja
def Sl(c:ze->Bool):zV:=zN [.expr] [.expr] (λx=>c x.1) λx=>(x.1,())
noncomputable def QM(c:ze->Bool):bW:=zfg.add 115 (Sl c)
theorem Ca{c:ze->Bool}(hg:FK 115 (Sl c)):zt (QM c):=Kf.add hg
abbrev zlE:Nat->aN:=λj=>if j=3 then{slots:=[1,2,10,11]}else{ }
abbrev PD(i10:Int)(i11:Int)(ja0:zB)(ja1:Int)(ja2:Int)(ja3:zB)(ja4:zB)(lh_2:List (Sem Q5)):St:={
 tmps:=
  (tm 26 [(1,ptr 0 0),(2,ptr 1 0),(10,ai i10),(11,ai i11)]),
 heap:=
  [Qa [str ja0,ai ja1,ai ja2,str ja3,str ja4,AV.vec 2],
   Qa [str [],ai 0,ai 0,str [],str [],nils],AO.vec Q5 lh_2]}
theorem Nf(c:ze->Bool):zI (QM c).P 115 Tryz.f115 1:=bR kw
theorem zoZ(c:ze->Bool)(op:zB)(v:V)(s:zB)(l:List ze):rn (QM c) 0 zlE Tryz.f115 [zz Q5 (ze.mk op v s l)] []=
 Qc (Q0 (l.length<=1073741824)) (Tr.ok (zD.head 3 (ac Tryz.f115 3) (PD (↑l.length:Int) 0 op v.1 v.2.1 v.2.2 s l))):=kw
theorem VI(c:ze->Bool)(i10:Int)(i11:Int)(ja0:zB)(ja1:Int)(ja2:Int)(ja3:zB)(ja4:zB)(lh_2:List (Sem Sh.expr)):rh (QM c) 0 zlE Tryz.f115 3 (PD i10 i11 ja0 ja1 ja2 ja3 ja4 lh_2)=
 br (Q0 (i11<i10))
 (chk (zO i11 lh_2.length)
  (chk (decide (i11.toNat<lh_2.length))
   (chk (c (zm (lh_2.getD i11.toNat (zj Sh.expr))))
    (chk (zO i11 lh_2.length)
     (chk (decide (i11.toNat<lh_2.length))
      (Tr.ok
       (zD.head 3 (ac Tryz.f115 3)
        (PD i10 (IntKind.i64.wrap (i11+1)) ja0 ja1 ja2 ja3 ja4
         (lh_2.set i11.toNat
          (zm (lh_2.getD i11.toNat (zj Q5))))))))))))
 (Tr.ok
  (zD.ret (agg [str ja0,ai ja1,ai ja2,str ja3,str ja4,AV.vec 0]) [AO.vec Q5 lh_2])):=kw
theorem zn4{c:ze->Bool}(hg:FK 115 (Sl c)){C:fh}(hC:∀id,C.ρ0 id=Q2)(op:zB)(v:V)(s:zB)(l:List ze)(hl:l.length<=1073741824)(hcl:l.all c=Q3):
  ∀(k i:Nat),l.length-i=k->i<=l.length->Reach (QM c) C 115 (ac Tryz.f115 3) (PD l.length i op v.1 v.2.1 v.2.2 s l) (λr h=>aM h [.expr] r=Q1 (ze.mk op v s l,())):=by
 intro k
 induction k with
 | zero=>
  intro i hk hi;obtain rfl:i=l.length:=by omega
  refine zE (n0:=0) (Ca hg) (Nf c) (λid _=>hC id) (VI c _ _ _ _ _ _ _ _) ?_;simp only[zC,Tr.val_brF];rfl
 | succ k IH=>
  intro i hk hi;have hlt:i<l.length:=by omega
  refine zE (n0:=0) (Ca hg) (Nf c) (λid _=>hC id) (VI c _ _ _ _ _ _ _ _) ?_;have h1:c l[i]=Q3:=ei.1 hcl _ (bG hlt);have h2:Q0 ((i:Int).toNat<l.length)=Q3:=by simpa using hlt
  have h3:l.set (i:Int).toNat l[i]=l:=by simp
  simp only[zJ hlt,zw hlt,cI l _ hlt,ze.eta,Tr.val_brT,Tr.val_chkT,h1,h2,h3,zr i um];exact IH (i+1) ow ow
def si:Nat->ze->Bool
 |0,_=>Q4
 |n+1,.mk _ _ _ l=>Q0 (l.length<=1073741824)&&l.all (si n)
theorem L8:∀n,FK 115 (Sl (si n))
 |0=>eY ⟨Tryz.f115,(Nf (λ_=>Q4)).1,(Nf (λ_=>Q4)).2.1,(Nf (λ_=>Q4)).2.2.1⟩ (λ_=>rfl)
 | n+1=>by
  refine aJ (E:=QM (si n)) (Nf _) λx hc C hC=>?_
  obtain⟨⟨op,v,s,l⟩,u⟩:=x;have hc:(Q0 (l.length<=1073741824)&&l.all (si n))=Q3:=hc;simp only[aE,aO]at hc;refine zE (n0:=0) (Ca (L8 n)) (Nf _) (λid _=>hC id) (zoZ _ op v s l) ?_;refine mC (by simpa using hc.1) ?_;exact zn4 (L8 n) hC op v s l hc.1 hc.2 _ 0 rfl (aY _)
def F33:zV:=Sl (si 16)
theorem zi0:FK 115 F33:=L8 16
noncomputable def lQ:=zfg.add 115 F33
theorem jj:zt lQ:=Kf.add zi0
abbrev jb:Sh:=.pr .str .str
abbrev iq:Sh:=.pr .str .expr
abbrev zl:Sh:=.pr .str (.pr .str (.pr .str (.pr (.sl .str) (.pr (.sl zi) (.pr .str (.pr (.sl .str) (.pr (.sl jb) (.pr .expr (.pr (.sl zf) (.pr (.sl iq) (.pr .expr .str)))))))))))
def EH(x:Sem zl):Sem zl:=(x.1,x.2.1,x.2.2.1,x.2.2.2.1,x.2.2.2.2.1,x.2.2.2.2.2.1,x.2.2.2.2.2.2.1,x.2.2.2.2.2.2.2.1,zm x.2.2.2.2.2.2.2.2.1,x.2.2.2.2.2.2.2.2.2.1,x.2.2.2.2.2.2.2.2.2.2.1,zm x.2.2.2.2.2.2.2.2.2.2.2.1,x.2.2.2.2.2.2.2.2.2.2.2.2)
theorem OJ(x:Sem zl):EH x=x:=by unfold EH;rw[zk,zk]
abbrev zcq:Nat->aN:=λj=>if j=2 then{slots:=[0,2,4]}else{ }
abbrev DS(s0:TS)(i4:Int)(ja0:Int)(ja1:List UInt8):St:={tmps:=(tm 37 [(0,str s0),(2,ptr 0 0),(4,ai i4)]),heap:=[Qa [ai ja0,str ja1]]}
theorem Vu:zI (lQ).P 292 Tryz.f292 1:=bR kw
theorem zkA(x0:TS):rn lQ 0 zcq Tryz.f292 [zz Q6 x0] []=Tr.ok (zD.head 2 (ac Tryz.f292 2) (DS x0 1 0 [])):=kw
theorem ZN(s0:TS)(i4:Int)(ja0:Int)(ja1:List UInt8):rh lQ 0 zcq Tryz.f292 2 (DS s0 i4 ja0 ja1)=br (Q0 (i4<(↑(length s0):Int))) (Qc (zO i4 (length s0)) (br ((↑(getD s0 i4.toNat 0).toNat:Int)!=39) (Tr.ok (zD.head 2 (ac Tryz.f292 2) (DS s0 (IntKind.i64.wrap (i4+1)) ja0 ja1))) (Qc (bif Q0 (IntKind.i64.wrap (i4+1)<(↑(length s0):Int))then zO (IntKind.i64.wrap (i4+1)) (length s0)else Q3) (br (bif Q0 (IntKind.i64.wrap (i4+1)<(↑(length s0):Int))then(↑(getD s0 (IntKind.i64.wrap (i4+1)).toNat 0).toNat:Int)==39 else Q4) (Tr.ok (zD.head 2 (ac Tryz.f292 2) (DS s0 (IntKind.i64.wrap (IntKind.i64.wrap (i4+1)+1)) ja0 ja1))) (Qc (Q0 (0<=1)&&Q0 (1<=i4)&&Q0 (i4<=(↑(length s0):Int))) (Qc (vV (Qg (i4.toNat-toNat 1) (Qh (toNat 1) s0)) nI [39]) (Tr.ok (zD.ret (tup [agg [ai 3,str (Lib.replaceAll (Qg (i4.toNat-toNat 1) (Qh (toNat 1) s0)) nI [39])],ai (IntKind.i64.wrap (i4+1))]) [])))))))) (Tr.ok (zD.ret (tup [agg [ai 0,str []],ai 0]) [])):=kw
def fb:Nat->(Sem Sh.str)->Int->Int->(List UInt8)->Sem bZ×Sem zg
 |0,_,_,_,_=>default
 |n+1,s0,i4,ja0,ja1=>(if Q0 (i4<(↑(length s0):Int))=Q3 then
 if((↑(getD s0 i4.toNat 0).toNat:Int)!=39)=Q3 then fb n s0 (IntKind.i64.wrap (i4+1)) ja0 ja1
 else
  if
    (bif Q0 (IntKind.i64.wrap (i4+1)<(↑(length s0):Int))then(↑(getD s0 (IntKind.i64.wrap (i4+1)).toNat 0).toNat:Int)==39
     else Q4)=
     Q3 then
   fb n s0 (IntKind.i64.wrap (IntKind.i64.wrap (i4+1)+1)) ja0 ja1
  else((3,Lib.replaceAll (Qg (i4.toNat-toNat 1) (Qh (toNat 1) s0)) nI [39]),IntKind.i64.wrap (i4+1))
else((0,[]),0))
def jq:Nat->(Sem Sh.str)->Int->Int->(List UInt8)->Bool
 |0,_,_,_,_=>Q4
 |n+1,s0,i4,ja0,ja1=>(if Q0 (i4<(↑(length s0):Int))=Q3 then
 if zO i4 (length s0)=true then
  if((↑(getD s0 i4.toNat 0).toNat:Int)!=39)=Q3 then jq n s0 (IntKind.i64.wrap (i4+1)) ja0 ja1
  else
   if (bif decide (IntKind.i64.wrap (i4+1) < (↑(length s0):Int)) then zO (IntKind.i64.wrap (i4+1)) (length s0) else true)=true then
    if
      (bif Q0 (IntKind.i64.wrap (i4+1)<(↑(length s0):Int))then(↑(getD s0 (IntKind.i64.wrap (i4+1)).toNat 0).toNat:Int)==39
       else Q4)=
       Q3 then
     jq n s0 (IntKind.i64.wrap (IntKind.i64.wrap (i4+1)+1)) ja0 ja1
    else
     if(Q0 (0<=1)&&Q0 (1<=i4)&&Q0 (i4<=(↑(length s0):Int)))=Q3 then
      if vV (Qg (i4.toNat-toNat 1) (Qh (toNat 1) s0)) nI [39]=Q3 then Q3 else Q4
     else Q4
   else Q4
 else Q4
else Q3)
theorem Oj{C:fh}(hC:∀id,C.ρ0 id=Q2):∀(n:Nat)(s0:TS)(i4:Int)(ja0:Int)(ja1:List UInt8),jq n s0 i4 ja0 ja1=Q3->
  Reach (lQ) C 292 (ac Tryz.f292 2) (DS s0 i4 ja0 ja1) (λr h=>aM h [bZ,zg] r=Q1 ((fb n s0 i4 ja0 ja1).1,(fb n s0 i4 ja0 ja1).2,()))
 |0,s0,i4,ja0,ja1,hc=>by cases hc
 | n+1,s0,i4,ja0,ja1,hc=>by
  refine zE jj (Vu) (λid _=>hC id) (ZN _ _ _ _) ?_;rw[jq]at hc;generalize hy:fb (n+1) s0 i4 ja0 ja1=y;rw[fb]at hy
  try simp only[ze.eta,zk]
  repeat' (first|with_reducible refine vl hy hc (λ_ hy hc=>?_) (λ_ hy hc=>?_)|with_reducible refine dn hy (λ_ hy=>?_) (λ_ hy=>?_)|with_reducible refine iK hc (λhc=>?_)|with_reducible refine zK ?_)
  all_goals first|(cases hc;done)|(subst hy;first|(change Reach _ _ _ _ _ _;refine Oj hC n _ _ _ _ ?_<;>exact hc)|rfl)
def eh(x0:TS):Sem bZ×Sem zg:=(fb (length x0+1) x0 1 0 [])
def kq(x0:TS):Bool:=(jq (length x0+1) x0 1 0 [])
def zhp:zV:=zN [Q6] [bZ,zg] (λx=>kq x.1) λx=>((eh x.1).1,(eh x.1).2,())
theorem zdc:FK 292 zhp:=by
 refine aJ (Vu) λx hc C hC=>?_
 unfold kq at hc;refine zE jj (Vu) (λid _=>hC id) (zkA x.1) ?_;generalize hy:eh x.1=y;unfold eh at hy
 try simp only[ze.eta,zk]
 repeat' (first|with_reducible refine vl hy hc (λ_ hy hc=>?_) (λ_ hy hc=>?_)|with_reducible refine dn hy (λ_ hy=>?_) (λ_ hy=>?_)|with_reducible refine iK hc (λhc=>?_)|with_reducible refine zK ?_)
 all_goals first|(cases hc;done)|(subst hy;first|(change Reach _ _ _ _ _ _;refine Oj hC _ _ _ _ _ ?_<;>exact hc)|rfl)
abbrev zls:Nat->aN:=λ_=>{ }
theorem zcC:zI (lQ).P 276 Tryz.f276 1:=bR kw
theorem zky(x0:Sem Q5):rn lQ 0 zls Tryz.f276 [zz Q5 x0] []=Tr.ok (zD.ret (AV.bool (bif ze.op x0==[]then bif (ze.v x0).1==0&&((ze.v x0).2.1==0&&((ze.v x0).2.2==[]&&Q3))then bif ze.s x0==[]then(↑(ze.l x0).length:Int)==0 else Q4 else Q4 else Q4)) []):=kw
def ic(x0:Sem Q5):Sem Q7:=(bif ze.op x0==[]then bif (ze.v x0).1==0&&((ze.v x0).2.1==0&&((ze.v x0).2.2==[]&&Q3))then bif ze.s x0==[]then(↑(ze.l x0).length:Int)==0 else Q4 else Q4 else Q4)
def zhg:zV:=aG [Q5] [Q7] λx=>(ic x.1,())
theorem zc3:FK 276 zhg:=by
 refine zY (zcC) λx C hC=>?_
 refine zE jj (zcC) (λid _=>hC id) (zky x.1) ?_;generalize hy:ic x.1=y;unfold ic at hy
 try simp only[ze.eta,zk]
 repeat' (first|with_reducible refine dn hy (λ_ hy=>?_) (λ_ hy=>?_)|with_reducible refine zK ?_)
 all_goals first|(cases hc;done)|(subst hy;first|rfl)
abbrev zpZ:Nat->aN:=λ_=>{ }
theorem zm7:zI (lQ).P 241 Tryz.f241 1:=bR kw
theorem zpx(x0:TS):rn lQ 0 zpZ Tryz.f241 [zz Q6 x0] []=Tr.ok (zD.ret (str x0) []):=kw
def md(x0:TS):Sem Q6:=(x0)
def F88:zV:=aG [Q6] [Q6] λx=>(md x.1,())
theorem zjL:FK 241 F88:=by
 refine zY (zm7) λx C hC=>?_
 refine zE jj (zm7) (λid _=>hC id) (zpx x.1) ?_;generalize hy:md x.1=y;unfold md at hy
 try simp only[ze.eta,zk]
 repeat' (first|with_reducible refine dn hy (λ_ hy=>?_) (λ_ hy=>?_)|with_reducible refine zK ?_)
 all_goals first|(cases hc;done)|(subst hy;first|rfl)
abbrev zpW:Nat->aN:=λ_=>{ }
theorem zm3:zI (lQ).P 233 Tryz.f233 1:=bR kw
theorem zpu(x0:TS):rn lQ 0 zpW Tryz.f233 [zz Q6 x0] []=Tr.ok (zD.ret (AV.bool (bif eb x0 then !jr x0 else Q4)) []):=kw
def bT(x0:TS):Sem Q7:=(bif eb x0 then !jr x0 else Q4)
def F80:zV:=aG [Q6] [Q7] λx=>(bT x.1,())
theorem zjH:FK 233 F80:=by
 refine zY (zm3) λx C hC=>?_
 refine zE jj (zm3) (λid _=>hC id) (zpu x.1) ?_;generalize hy:bT x.1=y;unfold bT at hy
 try simp only[ze.eta,zk]
 repeat' (first|with_reducible refine dn hy (λ_ hy=>?_) (λ_ hy=>?_)|with_reducible refine zK ?_)
 all_goals first|(cases hc;done)|(subst hy;first|rfl)
abbrev zlL:Nat->aN:=λ_=>{unroll:=Q3}
theorem zcG:zI (lQ).P 178 Tryz.f178 1:=bR kw
theorem zkL(x0:Sem bZ):rn lQ 0 zlL Tryz.f178 [zz bZ x0] []=br (x0.1==3) (Tr.ok (zD.ret (AV.bool (bg (2,0,x0.2))) [])) (br (x0.1==4) (Qc (bif (↑(length x0.2):Int)==1 then length x0.2==1 else Q3) (Tr.ok (zD.ret (AV.bool (bif (↑(length x0.2):Int)==1 then Q0 (0<=Lib.indexByte ze2 (List.headD x0.2 0))else Q4)) []))) (br Q3 (Qc Q3 (br (1==x0.1) (Tr.ok (zD.ret (AV.bool (bif Q0 ((↑(length x0.2):Int)>=1)then bif Q0 ((↑(length x0.2):Int)<=16)then(↑(aL aI bt x0.2):Int)==(↑(length x0.2):Int)else Q4 else Q4)) [])) (br Q3 (Qc Q3 (br (2==x0.1) (Tr.ok (zD.ret (AV.bool (bif Q0 ((↑(length x0.2):Int)>=1)then bif Q0 ((↑(length x0.2):Int)<=19)then(↑(aL zU zU x0.2):Int)==(↑(length x0.2):Int)else Q4 else Q4)) [])) (br Q4 Tr.err (Tr.ok (zD.ret (kb Q4) []))))) (Tr.ok (zD.ret (kb Q4) []))))) (Tr.ok (zD.ret (kb Q4) [])))):=kw
def cg(x0:Sem bZ):Sem Q7:=(if(x0.1==3)=Q3 then bg (2,0,x0.2)else if(x0.1==4)=Q3 then bif (↑(length x0.2):Int)==1 then Q0 (0<=Lib.indexByte ze2 (List.headD x0.2 0))else Q4 else if Q3=Q3 then if(1==x0.1)=Q3 then bif Q0 ((↑(length x0.2):Int)>=1)then bif Q0 ((↑(length x0.2):Int)<=16)then(↑(aL aI bt x0.2):Int)==(↑(length x0.2):Int)else Q4 else Q4 else if Q3=Q3 then if(2==x0.1)=Q3 then bif Q0 ((↑(length x0.2):Int)>=1)then bif Q0 ((↑(length x0.2):Int)<=19)then(↑(aL zU zU x0.2):Int)==(↑(length x0.2):Int)else Q4 else Q4 else if Q4=Q3 then default else Q4 else Q4 else Q4)
def rY(x0:Sem bZ):Bool:=(if(x0.1==3)=Q3 then Q3 else if(x0.1==4)=Q3 then if(bif (↑(length x0.2):Int)==1 then length x0.2==1 else Q3)=Q3 then Q3 else Q4 else if Q3=Q3 then if Q3=Q3 then if(1==x0.1)=Q3 then Q3 else if Q3=Q3 then if Q3=Q3 then if(2==x0.1)=Q3 then Q3 else if Q4=Q3 then Q4 else Q3 else Q4 else Q3 else Q4 else Q3)
def zh8:zV:=zN [bZ] [Q7] (λx=>rY x.1) λx=>(cg x.1,())
theorem zdY:FK 178 zh8:=by
 refine aJ (zcG) λx hc C hC=>?_
 unfold rY at hc;refine zE jj (zcG) (λid _=>hC id) (zkL x.1) ?_;generalize hy:cg x.1=y;unfold cg at hy
 try simp only[ze.eta,zk]
 repeat' (first|with_reducible refine vl hy hc (λ_ hy hc=>?_) (λ_ hy hc=>?_)|with_reducible refine dn hy (λ_ hy=>?_) (λ_ hy=>?_)|with_reducible refine iK hc (λhc=>?_)|with_reducible refine zK ?_)
 all_goals first|(cases hc;done)|(subst hy;first|rfl)
noncomputable def kW:=lQ.addL [(292,zhp),(276,zhg),(241,F88),(233,F80),(178,zh8)]
theorem ie:zt kW:=jj.addL<|fc zdc<|fc zc3<|fc zjL<|fc zjH<|fc zdY ja
abbrev zpX:Nat->aN:=λ_=>{ }
theorem zm5:zI (kW).P 238 Tryz.f238 1:=bR kw
theorem zpv(x0:Sem Q5):rn kW 0 zpX Tryz.f238 [zz Q5 x0] []=Tr.ok (zD.ret (AV.bool (bif ic (zm x0)then Q3 else cA (zm x0))) []):=kw
def bU(x0:Sem Q5):Sem Q7:=(bif ic x0 then Q3 else cA x0)
def F85:zV:=aG [Q5] [Q7] λx=>(bU x.1,())
theorem zjI:FK 238 F85:=by
 refine zY (zm5) λx C hC=>?_
 refine zE ie (zm5) (λid _=>hC id) (zpv x.1) ?_;generalize hy:bU x.1=y;unfold bU at hy
 try simp only[ze.eta]
 repeat' (first|with_reducible refine dn hy (λ_ hy=>?_) (λ_ hy=>?_)|with_reducible refine zK ?_)
 all_goals first|(cases hc;done)|(subst hy;first|rfl)
def zka(x0:Sem zi):Sem Q7:=(bif bT x0.1 then bif Q0 (x0.2.1>=1)then Q0 (x0.2.1<=3)else Q4 else Q4)
def znx(x0:Sem jb):Sem Q7:=(bif bT x0.1 then bT x0.2 else Q4)
abbrev zp1:Nat->aN:=λ_=>{ }
theorem zm8:zI (kW).P 245 Tryz.f245 1:=bR kw
theorem zpy(x0:Sem zf):rn kW 0 zp1 Tryz.f245 [zz zf x0] []=br (!bg x0) (Tr.ok (zD.ret (str []) [])) (br (x0.1==1) (Qc (10==10) (Tr.ok (zD.ret (str (sI x0.2.1)) []))) (br (x0.1==2) (Qc (vV x0.2.2 [39] nI) (Qc (Q0 ([39].length+(Lib.replaceAll x0.2.2 [39] nI).length<=1099511627776)) (Qc (Q0 (length ([39]++Lib.replaceAll x0.2.2 [39] nI)+[39].length<=1099511627776)) (Tr.ok (zD.ret (str ([39]++Lib.replaceAll x0.2.2 [39] nI++[39])) []))))) (br (x0.1==3) (br (ea x0==2) (Tr.ok (zD.ret (str G9) [])) (Tr.ok (zD.ret (str G8) []))) (Tr.ok (zD.ret (str ED) []))))):=kw
def iu(x0:Sem zf):Sem Q6:=(if(!bg x0)=Q3 then[]else if(x0.1==1)=Q3 then sI x0.2.1 else if(x0.1==2)=Q3 then[39]++Lib.replaceAll x0.2.2 [39] nI++[39]else if(x0.1==3)=Q3 then if(ea x0==2)=Q3 then G9 else G8 else ED)
def yg(x0:Sem zf):Bool:=(if(!bg x0)=Q3 then Q3 else if(x0.1==1)=Q3 then if(10==10)=Q3 then Q3 else Q4 else if(x0.1==2)=Q3 then if vV x0.2.2 [39] nI=Q3 then if Q0 ([39].length+(Lib.replaceAll x0.2.2 [39] nI).length<=1099511627776)=Q3 then if Q0 (length ([39]++Lib.replaceAll x0.2.2 [39] nI)+[39].length<=1099511627776)=Q3 then Q3 else Q4 else Q4 else Q4 else Q3)
def F92:zV:=zN [zf] [Q6] (λx=>yg x.1) λx=>(iu x.1,())
theorem zjR:FK 245 F92:=by
 refine aJ (zm8) λx hc C hC=>?_
 unfold yg at hc;refine zE ie (zm8) (λid _=>hC id) (zpy x.1) ?_;generalize hy:iu x.1=y;unfold iu at hy
 try simp only[ze.eta,zk]
 repeat' (first|with_reducible refine vl hy hc (λ_ hy hc=>?_) (λ_ hy hc=>?_)|with_reducible refine dn hy (λ_ hy=>?_) (λ_ hy=>?_)|with_reducible refine iK hc (λhc=>?_)|with_reducible refine zK ?_)
 all_goals first|(cases hc;done)|(subst hy;first|rfl)
abbrev zpY:Nat->aN:=λ_=>{ }
theorem zm6:zI (kW).P 240 Tryz.f240 1:=bR kw
theorem zpw(x0:Sem zl):rn kW 0 zpY Tryz.f240 [zz zl x0] []=Qc (Q0 (length x0.2.1+length x0.2.2.1<=1099511627776)) (Qc (Q0 (length (x0.2.1++x0.2.2.1)+length x0.2.2.2.2.2.1<=1099511627776)) (Qc (Q0 (length (x0.2.1++x0.2.2.1++x0.2.2.2.2.2.1)+length x0.2.2.2.2.2.2.2.2.2.2.2.2<=1099511627776)) (Tr.ok (zD.ret (AV.bool (bif x0.2.1++x0.2.2.1++x0.2.2.2.2.2.1++x0.2.2.2.2.2.2.2.2.2.2.2.2==[]then bif IntKind.i64.wrap (IntKind.i64.wrap (IntKind.i64.wrap (IntKind.i64.wrap (IntKind.i64.wrap ((↑(length x0.2.2.2.1):Int)+(↑(length x0.2.2.2.2.1):Int))+(↑(length x0.2.2.2.2.2.2.1):Int))+(↑(length x0.2.2.2.2.2.2.2.1):Int))+(↑(length x0.2.2.2.2.2.2.2.2.2.1):Int))+(↑(length x0.2.2.2.2.2.2.2.2.2.2.1):Int))==0 then bif ic (zm x0.2.2.2.2.2.2.2.2.1)then ic (zm x0.2.2.2.2.2.2.2.2.2.2.2.1)else Q4 else Q4 else Q4)) [])))):=kw
def eK(x0:Sem zl):Sem Q7:=(bif x0.2.1++x0.2.2.1++x0.2.2.2.2.2.1++x0.2.2.2.2.2.2.2.2.2.2.2.2==[]then bif IntKind.i64.wrap (IntKind.i64.wrap (IntKind.i64.wrap (IntKind.i64.wrap (IntKind.i64.wrap ((↑(length x0.2.2.2.1):Int)+(↑(length x0.2.2.2.2.1):Int))+(↑(length x0.2.2.2.2.2.2.1):Int))+(↑(length x0.2.2.2.2.2.2.2.1):Int))+(↑(length x0.2.2.2.2.2.2.2.2.2.1):Int))+(↑(length x0.2.2.2.2.2.2.2.2.2.2.1):Int))==0 then bif ic x0.2.2.2.2.2.2.2.2.1 then ic x0.2.2.2.2.2.2.2.2.2.2.2.1 else Q4 else Q4 else Q4)
def eA(x0:Sem zl):Bool:=(if Q0 (length x0.2.1+length x0.2.2.1<=1099511627776)=Q3 then if Q0 (length (x0.2.1++x0.2.2.1)+length x0.2.2.2.2.2.1<=1099511627776)=Q3 then if Q0 (length (x0.2.1++x0.2.2.1++x0.2.2.2.2.2.1)+length x0.2.2.2.2.2.2.2.2.2.2.2.2<=1099511627776)=Q3 then Q3 else Q4 else Q4 else Q4)
def F87:zV:=zN [zl] [Q7] (λx=>eA x.1) λx=>(eK x.1,())
theorem zjK:FK 240 F87:=by
 refine aJ (zm6) λx hc C hC=>?_
 unfold eA at hc;refine zE ie (zm6) (λid _=>hC id) (zpw x.1) ?_;generalize hy:eK x.1=y;unfold eK at hy
 try simp only[ze.eta]
 repeat' (first|with_reducible refine vl hy hc (λ_ hy hc=>?_) (λ_ hy hc=>?_)|with_reducible refine dn hy (λ_ hy=>?_) (λ_ hy=>?_)|with_reducible refine iK hc (λhc=>?_)|with_reducible refine zK ?_)
 all_goals first|(cases hc;done)|(subst hy;first|rfl)
abbrev zp4:Nat->aN:=λ_=>{unroll:=Q3}
theorem znc:zI (kW).P 252 Tryz.f252 1:=bR kw
theorem zpC(x0:TS):rn kW 0 zp4 Tryz.f252 [zz Q6 x0] []=br Q3 (Qc Q3 (br (Q0 ((↑(aL aI bt x0):Int)>0)) (Qc (Q0 (0<=0)&&Q0 (0<=(↑(aL aI bt x0):Int))&&Q0 ((↑(aL aI bt x0):Int)<=(↑(length x0):Int))) (Tr.ok (zD.ret (tup [agg [ai 1,str (Qg ((↑(aL aI bt x0):Int).toNat-toNat 0) (Qh (toNat 0) x0))],ai (↑(aL aI bt x0):Int)]) []))) (br Q3 (Qc Q3 (br (Q0 ((↑(aL zU zU x0):Int)>0)) (Qc (Q0 (0<=0)&&Q0 (0<=(↑(aL zU zU x0):Int))&&Q0 ((↑(aL zU zU x0):Int)<=(↑(length x0):Int))) (Tr.ok (zD.ret (tup [agg [ai 2,str (Qg ((↑(aL zU zU x0):Int).toNat-toNat 0) (Qh (toNat 0) x0))],ai (↑(aL zU zU x0):Int)]) []))) (br Q4 Tr.err (Qc (zO 0 (length x0)) (br ((↑(getD x0 (toNat 0) 0).toNat:Int)==39) (Qc (kq x0) (Tr.ok (zD.ret (tup [agg [ai (eh x0).1.1,str (eh x0).1.2],ai (eh x0).2]) []))) (Qc (Q0 (0<=0)&&Q0 (0<=1)&&Q0 (1<=(↑(length x0):Int))) (Tr.ok (zD.ret (tup [agg [ai 4,str (Qg (toNat 1-toNat 0) (Qh (toNat 0) x0))],ai 1]) [])))))))) (Qc (zO 0 (length x0)) (br ((↑(getD x0 (toNat 0) 0).toNat:Int)==39)
 (Qc (kq x0) (Tr.ok (zD.ret (tup [agg [ai (eh x0).1.1,str (eh x0).1.2],ai (eh x0).2]) []))) (Qc (Q0 (0<=0)&&Q0 (0<=1)&&Q0 (1<=(↑(length x0):Int))) (Tr.ok (zD.ret (tup [agg [ai 4,str (Qg (toNat 1-toNat 0) (Qh (toNat 0) x0))],ai 1]) [])))))))) (Qc (zO 0 (length x0)) (br ((↑(getD x0 (toNat 0) 0).toNat:Int)==39) (Qc (kq x0) (Tr.ok (zD.ret (tup [agg [ai (eh x0).1.1,str (eh x0).1.2],ai (eh x0).2]) []))) (Qc (Q0 (0<=0)&&Q0 (0<=1)&&Q0 (1<=(↑(length x0):Int))) (Tr.ok (zD.ret (tup [agg [ai 4,str (Qg (toNat 1-toNat 0) (Qh (toNat 0) x0))],ai 1]) []))))):=kw
def bD(x0:TS):Sem bZ×Sem zg:=(if Q3=Q3 then if Q0 ((↑(aL aI bt x0):Int)>0)=Q3 then((1,Qg ((↑(aL aI bt x0):Int).toNat-toNat 0) (Qh (toNat 0) x0)),(↑(aL aI bt x0):Int))else if Q3=Q3 then if Q0 ((↑(aL zU zU x0):Int)>0)=Q3 then((2,Qg ((↑(aL zU zU x0):Int).toNat-toNat 0) (Qh (toNat 0) x0)),(↑(aL zU zU x0):Int))else if Q4=Q3 then default else if((↑(getD x0 (toNat 0) 0).toNat:Int)==39)=Q3 then((eh x0).1,(eh x0).2)else((4,Qg (toNat 1-toNat 0) (Qh (toNat 0) x0)),1)else if((↑(getD x0 (toNat 0) 0).toNat:Int)==39)=Q3 then((eh x0).1,(eh x0).2)else((4,Qg (toNat 1-toNat 0) (Qh (toNat 0) x0)),1)else if((↑(getD x0 (toNat 0) 0).toNat:Int)==39)=Q3 then((eh x0).1,(eh x0).2)else((4,Qg (toNat 1-toNat 0) (Qh (toNat 0) x0)),1))
def kJ(x0:TS):Bool:=(if Q3=Q3 then if Q3=Q3 then if Q0 ((↑(aL aI bt x0):Int)>0)=Q3 then if(Q0 (0<=0)&&Q0 (0<=(↑(aL aI bt x0):Int))&&Q0 ((↑(aL aI bt x0):Int)<=(↑(length x0):Int)))=Q3 then Q3 else Q4 else if Q3=Q3 then if Q3=Q3 then if Q0 ((↑(aL zU zU x0):Int)>0)=Q3 then if(Q0 (0<=0)&&Q0 (0<=(↑(aL zU zU x0):Int))&&Q0 ((↑(aL zU zU x0):Int)<=(↑(length x0):Int)))=Q3 then Q3 else Q4 else if Q4=Q3 then Q4 else if zO 0 (length x0)=Q3 then if((↑(getD x0 (toNat 0) 0).toNat:Int)==39)=Q3 then if kq x0=Q3 then Q3 else Q4 else if(Q0 (0<=0)&&Q0 (0<=1)&&Q0 (1<=(↑(length x0):Int)))=Q3 then Q3 else Q4 else Q4 else Q4 else if zO 0 (length x0)=Q3 then if((↑(getD x0 (toNat 0) 0).toNat:Int)==39)=Q3 then if kq x0=Q3 then Q3 else Q4 else if(Q0 (0<=0)&&Q0 (0<=1)&&Q0 (1<=(↑(length x0):Int)))=Q3 then Q3 else Q4 else Q4 else Q4 else if zO 0 (length x0)=Q3 then if((↑(getD x0 (toNat 0) 0).toNat:Int)==39)=Q3 then if kq x0=Q3 then Q3 else Q4 else if(Q0 (0<=0)&&Q0 (0<=1)&&Q0 (1<=(↑(length x0):Int)))=Q3 then Q3 else Q4 else Q4)
def F99:zV:=zN [Q6] [bZ,zg] (λx=>kJ x.1) λx=>((bD x.1).1,(bD x.1).2,())
theorem zjV:FK 252 F99:=by
 refine aJ (znc) λx hc C hC=>?_
 unfold kJ at hc;refine zE ie (znc) (λid _=>hC id) (zpC x.1) ?_;generalize hy:bD x.1=y;unfold bD at hy
 try simp only[ze.eta,zk]
 repeat' (first|with_reducible refine vl hy hc (λ_ hy hc=>?_) (λ_ hy hc=>?_)|with_reducible refine dn hy (λ_ hy=>?_) (λ_ hy=>?_)|with_reducible refine iK hc (λhc=>?_)|with_reducible refine zK ?_)
 all_goals first|(cases hc;done)|(subst hy;first|rfl)
abbrev zl9:Nat->aN:=λj=>if j=3 then{slots:=[1,5,8,9,10],prom:=[(5,Q2,.str)]}else{ }
abbrev LB(l8:LS)(i9:Int)(i10:Int)(lh_0:LS):St:={tmps:=(tm 23 [(1,AV.clo (Fn.func 241) [] []),(5,AV.vec 0),(8,sl Q6 l8),(9,ai i9),(10,ai i10)]),heap:=[AO.vec Q6 lh_0]}
theorem ZM:zI (kW).P 250 Tryz.f250 2:=bR kw
theorem zpA(x0:Sem Sh.str.sl):rn kW 0 zl9 Tryz.f250 [zz Sh.str.sl x0,AV.clo (Fn.func 241) [] []] []=Tr.ok (zD.head 3 (ac Tryz.f250 3) (LB x0 (↑(length x0):Int) 0 [])):=kw
theorem VM(l8:LS)(i9:Int)(i10:Int)(lh_0:LS):rh kW 0 zl9 Tryz.f250 3 (LB l8 i9 i10 lh_0)=br (Q0 (i10<i9)) (Qc (zO i10 l8.length) (Qc (Q0 (lh_0.length+[md (l8.getD i10.toNat (zj Q6))].length<=1073741824)) (Tr.ok (zD.head 3 (ac Tryz.f250 3) (LB l8 i9 (IntKind.i64.wrap (i10+1)) (lh_0++[md (l8.getD i10.toNat (zj Q6))])))))) (Qc (Q0 (lh_0.length<=140737488355328)&&Q0 ((Lib.join lh_0 eZ).length<=140737488355328)) (Tr.ok (zD.ret (str (Lib.join lh_0 eZ)) []))):=kw
def dJ:List (Sem Q6)->Int->List (Sem Q6)->Sem Q6
 |[],_,lh_0=>(Lib.join lh_0 eZ)
 |x::r,i10,lh_0=>(dJ r (i10+1) (lh_0++[md x]))
def dZ:List (Sem Q6)->Int->List (Sem Q6)->Bool
 |[],_,lh_0=>(if(Q0 (lh_0.length<=140737488355328)&&Q0 ((Lib.join lh_0 eZ).length<=140737488355328))=Q3 then Q3 else Q4)
 |x::r,i10,lh_0=>(if Q0 (lh_0.length+[md x].length<=1073741824)=Q3 then dZ r (i10+1) (lh_0++[md x])else Q4)
theorem zeR{C:fh}(hC:∀id,C.ρ0 id=Q2)(l8:LS)(hl:l8.length<=aF):∀(m i:Nat)(lh_0:LS),l8.length-i=m->i<=l8.length->dZ (l8.drop i) i lh_0=Q3->
  Reach (kW) C 250 (ac Tryz.f250 3) (LB l8 (l8.length:Int) (i:Int) lh_0) (λr h=>aM h [Q6] r=Q1 (dJ (l8.drop i) i lh_0,())):=by
 intro m
 induction m with
 | zero=>
  intro i lh_0 hm hi hc;obtain rfl:i=l8.length:=by omega
  rw[jH]at hc⊢;refine zE ie (ZM) (λid _=>hC id) (VM _ _ _ _) ?_;rw[dZ]at hc;generalize hy:dJ [] _ lh_0=y;rw[dJ]at hy;simp only[zC,Tr.val_brF];repeat' (first|with_reducible refine vl hy hc (λ_ hy hc=>?_) (λ_ hy hc=>?_)|with_reducible refine dn hy (λ_ hy=>?_) (λ_ hy=>?_)|with_reducible refine iK hc (λhc=>?_)|with_reducible refine zK ?_)
  all_goals first|(cases hc;done)|(subst hy;first|rfl)
 | succ m IH=>
  intro i lh_0 hm hi hc;have hlt:i<l8.length:=by omega
  have IH:=IH (i+1);have hcast:((i:Int)+1)=((i+1:Nat):Int):=by omega
  have hwr:=zr i ow;rw[fH hlt]at hc⊢;refine zE ie (ZM) (λid _=>hC id) (VM _ _ _ _) ?_;rw[dZ]at hc;generalize hy:dJ (l8[i]::l8.drop (i+1)) (i:Int) lh_0=y;rw[dJ]at hy;simp only[zJ hlt,zw hlt,cI l8 _ hlt,hwr,Tr.val_brT,Tr.val_chkT];clear hwr
  try simp only[zw hlt]at hy
  simp only[hcast]at hy
  try simp only[zw hlt]at hc
  try simp only[hcast]at hc
  repeat' (first|with_reducible refine vl hy hc (λ_ hy hc=>?_) (λ_ hy hc=>?_)|with_reducible refine dn hy (λ_ hy=>?_) (λ_ hy=>?_)|with_reducible refine iK hc (λhc=>?_)|with_reducible refine zK ?_)
  all_goals first|(cases hc;done)|(subst hy;first|(change Reach _ _ _ _ _ _;apply IH<;>first|omega|assumption)|rfl)
theorem Yv{C:fh}(hC:∀id,C.ρ0 id=Q2)(l8:LS)(lh_0:LS)(hc:dZ l8 0 lh_0=Q3):
  Reach (kW) C 250 (ac Tryz.f250 3) (LB l8 (l8.length:Int) 0 lh_0) (λr h=>aM h [Q6] r=Q1 (dJ l8 0 lh_0,())):=
 Reach.len 8 (Q6) l8 rfl λhl=>zeR hC l8 hl _ 0 lh_0 rfl (aY _) hc
def gI(x0:Sem Sh.str.sl):Sem Q6:=(dJ x0 0 [])
def np(x0:Sem Sh.str.sl):Bool:=(dZ x0 0 [])
def F97:zV:=VZ [Sh.str.sl] [Q6] [(241,(λx=>np x.1),λx=>(gI x.1,()))]
theorem zjT:FK 250 F97:=by
 refine L9 (ZM) λj c g hm x hc C hC=>?_
 simp only[gn,cB]at hm;obtain⟨rfl,rfl,rfl⟩:=hm
 replace hc:np x.1=Q3:=hc
 unfold np at hc;refine zE ie (ZM) (λid _=>hC id) (zpA x.1) ?_;generalize hy:gI x.1=y;unfold gI at hy
 skip
 repeat' (first|with_reducible refine vl hy hc (λ_ hy hc=>?_) (λ_ hy hc=>?_)|with_reducible refine dn hy (λ_ hy=>?_) (λ_ hy=>?_)|with_reducible refine iK hc (λhc=>?_)|with_reducible refine zK ?_)
 all_goals first|(cases hc;done)|(subst hy;first|(change Reach _ _ _ _ _ _;apply Yv hC<;>first|assumption|exact hc)|rfl)
noncomputable def Ox:=kW.addL [(238,F85),(245,F92),(240,F87),(252,F99),(250,F97)]
theorem wZ:zt Ox:=ie.addL<|fc zjI<|fc zjR<|fc zjK<|fc zjV<|fc zjT ja
noncomputable def zhi:zV:=bh (List.replicate 2 Q2) (fB Ox Tryz.f278 (List.replicate 2 Q2))
theorem zc5:FK 278 zhi:=cd _ wZ (bR kw)
noncomputable def Tp(g:Sem Q5->Sem Q6)(c:Sem Q5->Bool):bW:=Ox.add 316 (zN [Q5] [Q6] (λx=>c x.1) λx=>(g x.1,()))
theorem QK{g:Sem Q5->Sem Q6}{c:Sem Q5->Bool}(hg:FK 316 (zN [Q5] [Q6] (λx=>c x.1) λx=>(g x.1,()))):zt (Tp g c):=wZ.add hg
abbrev zf8:Nat->aN:=λ_=>{ }
theorem C4(g:Sem Q5->Sem Q6)(c:Sem Q5->Bool):zI (Tp g c).P 316 Tryz.f316 1:=bR kw
theorem zfv(g:Sem Q5->Sem Q6)(c:Sem Q5->Bool)(x0:Sem Q5):rn (Tp g c) 0 zf8 Tryz.f316 [zz Q5 x0] []=br (ze.op x0==mH) (Qc (yg (ze.v x0)) (Tr.ok (zD.ret (str (iu (ze.v x0))) []))) (br (ze.op x0==ee) (Tr.ok (zD.ret (str (ze.s x0)) [])) (br (ze.op x0==mI) (Qc (zO 0 (ze.l x0).length) (Qc (c (zm ((ze.l x0).getD (toNat 0) (zj Q5)))) (Qc (Q0 (uu.length+length (g (zm ((ze.l x0).getD (toNat 0) (zj Q5))))<=1099511627776)) (Qc (Q0 (length (uu++g (zm ((ze.l x0).getD (toNat 0) (zj Q5))))+[41].length<=1099511627776)) (Tr.ok (zD.ret (str (uu++g (zm ((ze.l x0).getD (toNat 0) (zj Q5)))++[41])) [])))))) (br (ze.op x0==oP) (Qc (zO 0 (ze.l x0).length) (Qc (c (zm ((ze.l x0).getD (toNat 0) (zj Q5)))) (Qc (Q0 ([40].length+length (g (zm ((ze.l x0).getD (toNat 0) (zj Q5))))<=1099511627776)) (Qc (Q0 (length ([40]++g (zm ((ze.l x0).getD (toNat 0) (zj Q5))))+BO.length<=1099511627776)) (Tr.ok (zD.ret (str ([40]++g (zm ((ze.l x0).getD (toNat 0) (zj Q5)))++BO)) [])))))) (Qc (zO 0 (ze.l x0).length) (Qc (c (zm ((ze.l x0).getD (toNat 0) (zj Q5)))) (Qc (Q0 ([40].length+length (g
 (zm ((ze.l x0).getD (toNat 0) (zj Q5))))<=1099511627776)) (Qc (Q0 (length ([40]++g (zm ((ze.l x0).getD (toNat 0) (zj Q5))))+[32].length<=1099511627776)) (Qc (Q0 (length (ze.op x0)<=140737488355328)&&List.all (ze.op x0) λb=>Q0 (b.toNat<128)) (Qc (Q0 (length ([40]++g (zm ((ze.l x0).getD (toNat 0) (zj Q5)))++[32])+(Lib.toUpperA (ze.op x0)).length<=1099511627776)) (Qc (Q0 (length ([40]++g (zm ((ze.l x0).getD (toNat 0) (zj Q5)))++[32]++Lib.toUpperA (ze.op x0))+[32].length<=1099511627776)) (Qc (zO 1 (ze.l x0).length) (Qc (c (zm ((ze.l x0).getD (toNat 1) (zj Q5)))) (Qc (Q0 (length ([40]++g (zm ((ze.l x0).getD (toNat 0) (zj Q5)))++[32]++Lib.toUpperA (ze.op x0)++[32])+length (g (zm ((ze.l x0).getD (toNat 1) (zj Q5))))<=1099511627776)) (Qc (Q0 (length ([40]++g (zm ((ze.l x0).getD (toNat 0) (zj Q5)))++[32]++Lib.toUpperA (ze.op x0)++[32]++g (zm ((ze.l x0).getD (toNat 1) (zj Q5))))+[41].length<=1099511627776)) (Tr.ok (zD.ret (str ([40]++g (zm ((ze.l x0).getD (toNat 0) (zj Q5)))++[32]++Lib.toUpperA (ze.op x0)++[32]++g (zm ((ze.l x0).getD (toNat 1) (zj Q5)))++[41])) [])))))))))))))))):=kw
def tt(g:Sem Q5->Sem Q6)(_:Sem Q5->Bool)(x0:Sem Q5):Sem Q6:=(if(ze.op x0==mH)=Q3 then iu (ze.v x0)else if(ze.op x0==ee)=Q3 then ze.s x0 else if(ze.op x0==mI)=Q3 then uu++g ((ze.l x0).getD (toNat 0) (zj Q5))++[41]else if(ze.op x0==oP)=Q3 then[40]++g ((ze.l x0).getD (toNat 0) (zj Q5))++BO else[40]++g ((ze.l x0).getD (toNat 0) (zj Q5))++[32]++Lib.toUpperA (ze.op x0)++[32]++g ((ze.l x0).getD (toNat 1) (zj Q5))++[41])
def AJ(g:Sem Q5->Sem Q6)(c:Sem Q5->Bool)(x0:Sem Q5):Bool:=(if(ze.op x0==mH)=Q3 then if yg (ze.v x0)=Q3 then Q3 else Q4 else if(ze.op x0==ee)=Q3 then Q3 else if(ze.op x0==mI)=Q3 then if zO 0 (ze.l x0).length=Q3 then if c ((ze.l x0).getD (toNat 0) (zj Q5))=Q3 then if Q0 (uu.length+length (g ((ze.l x0).getD (toNat 0) (zj Q5)))<=1099511627776)=Q3 then if Q0 (length (uu++g ((ze.l x0).getD (toNat 0) (zj Q5)))+[41].length<=1099511627776)=Q3 then Q3 else Q4 else Q4 else Q4 else Q4 else if(ze.op x0==oP)=Q3 then if zO 0 (ze.l x0).length=Q3 then if c ((ze.l x0).getD (toNat 0) (zj Q5))=Q3 then if Q0 ([40].length+length (g ((ze.l x0).getD (toNat 0) (zj Q5)))<=1099511627776)=Q3 then if Q0 (length ([40]++g ((ze.l x0).getD (toNat 0) (zj Q5)))+BO.length<=1099511627776)=Q3 then Q3 else Q4 else Q4 else Q4 else Q4 else if zO 0 (ze.l x0).length=Q3 then if c ((ze.l x0).getD (toNat 0) (zj Q5))=Q3 then if Q0 ([40].length+length (g ((ze.l x0).getD (toNat 0) (zj Q5)))<=1099511627776)=Q3 then if Q0 (length ([40]++g ((ze.l x0).getD (toNat 0) (zj Q5)))+[32].length<=1099511627776)=Q3 then
 if(Q0 (length (ze.op x0)<=140737488355328)&&List.all (ze.op x0) λb=>Q0 (b.toNat<128))=Q3 then if Q0 (length ([40]++g ((ze.l x0).getD (toNat 0) (zj Q5))++[32])+(Lib.toUpperA (ze.op x0)).length<=1099511627776)=Q3 then if Q0 (length ([40]++g ((ze.l x0).getD (toNat 0) (zj Q5))++[32]++Lib.toUpperA (ze.op x0))+[32].length<=1099511627776)=Q3 then if zO 1 (ze.l x0).length=Q3 then if c ((ze.l x0).getD (toNat 1) (zj Q5))=Q3 then if Q0 (length ([40]++g ((ze.l x0).getD (toNat 0) (zj Q5))++[32]++Lib.toUpperA (ze.op x0)++[32])+length (g ((ze.l x0).getD (toNat 1) (zj Q5)))<=1099511627776)=Q3 then if Q0 (length ([40]++g ((ze.l x0).getD (toNat 0) (zj Q5))++[32]++Lib.toUpperA (ze.op x0)++[32]++g ((ze.l x0).getD (toNat 1) (zj Q5)))+[41].length<=1099511627776)=Q3 then Q3 else Q4 else Q4 else Q4 else Q4 else Q4 else Q4 else Q4 else Q4 else Q4 else Q4 else Q4)
def zhw(g:Sem Q5->Sem Q6)(c:Sem Q5->Bool):zV:=zN [Q5] [Q6] (λx=>AJ g c x.1) λx=>(tt g c x.1,())
theorem X0(g:Sem Q5->Sem Q6)(c:Sem Q5->Bool)(hg:FK 316 (zN [Q5] [Q6] (λx=>c x.1) λx=>(g x.1,()))):FK 316 (zhw g c):=by
 refine aJ (C4 g c) λx hc C hC=>?_
 unfold AJ at hc;refine zE (QK hg) (C4 g c) (λid _=>hC id) (zfv g c x.1) ?_;generalize hy:tt g c x.1=y;unfold tt at hy
 try simp only[ze.eta]
 repeat' (first|with_reducible refine vl hy hc (λ_ hy hc=>?_) (λ_ hy hc=>?_)|with_reducible refine dn hy (λ_ hy=>?_) (λ_ hy=>?_)|with_reducible refine iK hc (λhc=>?_)|with_reducible refine zK ?_)
 all_goals first|(cases hc;done)|(subst hy;first|rfl)
mutual
def aP:Nat->Sem Q5->Sem Q6
 |0=>λ_=>default
 |n+1=>tt (aP n) (gM n)
def gM:Nat->Sem Q5->Bool
 |0=>λ_=>Q4
 |n+1=>AJ (aP n) (gM n)
end
theorem N5:∀n,FK 316 (zN [Q5] [Q6] (λx=>gM n x.1) λx=>(aP n x.1,()))
 |0=>eY ⟨Tryz.f316,(C4 default default).1,(C4 default default).2.1,(C4 default default).2.2.1⟩ (λ_=>rfl)
 |n+1=>X0 (aP n) (gM n) (N5 n)
def zhv:zV:=zN [Q5] [Q6] (λx=>gM 16 x.1) λx=>(aP 16 x.1,())
theorem zdi:FK 316 zhv:=N5 16
noncomputable def pF:=Ox.addL [(278,zhi),(316,zhv)]
theorem kB:zt pF:=wZ.addL<|fc zc5<|fc zdi ja
abbrev wc(l:LS)(i:Int):St:={tmps:=[.sl Q6 l,.clo (.func 278) [] [.ptr 0 0],.any,.any,.any,.any,.any,.int .i64 l.length,.int .i64 i,.any,.any,.any,.any,.any,.any,.any,.any,.any,.any],heap:=[.box [.clo (.func 233) [] []]]}
theorem Rd(l:LS):run pF 1 Ap Tryz.f306.results.toList 300 (bw Tryz.f306) (bd Tryz.f306.ntmps [.sl Q6 l,.clo (.func 278) [] [.ptr 0 0]] [.box [.clo (.func 233) [] []]])=.ok (.head 2 (ac Tryz.f306 2) (wc l 0)):=kw
theorem RC(l:LS)(i:Int):run pF 1 Ap Tryz.f306.results.toList 300 (ac Tryz.f306 2) (wc l i)=nX (K:=ac Tryz.f306 2) (e:=Q6) l (λx=>!bT x) (wc l) [.box [.clo (.func 233) [] []]] i:=kw
theorem Vv:zI pF.P 306 Tryz.f306 2:=bR kw
def zjY:iV [Q1 (.sl Q6),Q2]:=λx h=>match x,h with
 |(l,.clo (.func 278) [] [.ptr 0 0],_),[.box [.clo (.func 233) [] []]]=>.ok (.int .i64 (zR (λx=>!bT x) l 0),[.box [.clo (.func 233) [] []]])
 |_,_=>.err
def zhs:zV:=bh [Q1 (.sl Q6),Q2] zjY
theorem zdf:FK 306 zhs:=by
 refine dR Vv λx h0 res hx C hC=>?_
 unfold zjY at hx;split at hx
 ·rename_i l u;simp only[Tr.val_ok,bB]at hx;subst hx;refine Reach.len 0 Q6 l rfl λhl=>?_
  refine zE (n0:=1) kB Vv hC (Rd l) ?_;exact kI l (λx=>!bT x) (wc l) kB Vv hC (RC l) hl _ 0 rfl (aY _)
 ·simp at hx
abbrev zlt:Nat->aN:=λ_=>{ }
theorem zcD:zI (pF).P 291 Tryz.f291 1:=bR kw
theorem zkz(x0:Sem Q5):rn pF 0 zlt Tryz.f291 [zz Q5 x0] []=br (!cA (zm x0)) (Tr.ok (zD.ret (tup [str [],ai 1]) [])) (Qc (gM 16 (zm x0)) (Tr.ok (zD.ret (tup [str (aP 16 (zm x0)),ai 0]) []))):=kw
def nR(x0:Sem Q5):Sem Q6×Sem zg:=(if(!cA x0)=Q3 then([],1)else(aP 16 x0,0))
def qQ(x0:Sem Q5):Bool:=(if(!cA x0)=Q3 then Q3 else if gM 16 x0=Q3 then Q3 else Q4)
def zho:zV:=zN [Q5] [Q6,zg] (λx=>qQ x.1) λx=>((nR x.1).1,(nR x.1).2,())
theorem zdb:FK 291 zho:=by
 refine aJ (zcD) λx hc C hC=>?_
 unfold qQ at hc;refine zE kB (zcD) (λid _=>hC id) (zkz x.1) ?_;generalize hy:nR x.1=y;unfold nR at hy
 try simp only[ze.eta]
 repeat' (first|with_reducible refine vl hy hc (λ_ hy hc=>?_) (λ_ hy hc=>?_)|with_reducible refine dn hy (λ_ hy=>?_) (λ_ hy=>?_)|with_reducible refine iK hc (λhc=>?_)|with_reducible refine zK ?_)
 all_goals first|(cases hc;done)|(subst hy;first|rfl)
abbrev zlX:Nat->aN:=λj=>if j=3 then{slots:=[0,4,5],prom:=[(4,Q2,bZ)]}else{ }
abbrev LA(s0:TS)(i5:Int)(lh_0:LF):St:={tmps:=(tm 47 [(0,str s0),(4,AV.vec 0),(5,ai i5)]),heap:=[AO.vec zo lh_0]}
theorem zgw:zI (pF).P 198 Tryz.f198 1:=bR kw
theorem zpp(x0:TS):rn pF 0 zlX Tryz.f198 [zz Q6 x0] []=Tr.ok (zD.head 3 (ac Tryz.f198 3) (LA x0 0 [])):=kw
theorem zgC(s0:TS)(i5:Int)(lh_0:LF):rh pF 0 zlX Tryz.f198 3 (LA s0 i5 lh_0)=br (Q0 (i5<(↑(length s0):Int))) (Qc (zO i5 (length s0)&&bif (↑(getD s0 i5.toNat 0).toNat:Int)==32 then Q3 else zO i5 (length s0)) (br (bif (↑(getD s0 i5.toNat 0).toNat:Int)==32 then Q3 else(↑(getD s0 i5.toNat 0).toNat:Int)==10) (Tr.ok (zD.head 3 (ac Tryz.f198 3) (LA s0 (IntKind.i64.wrap (i5+1)) lh_0))) (Qc (Q0 (0<=i5)&&Q0 (i5<=(↑(length s0):Int))&&Q0 ((↑(length s0):Int)<=(↑(length s0):Int))) (Qc (kJ (Qg ((↑(length s0):Int).toNat-i5.toNat) (Qh i5.toNat s0))) (Qc (rY (bD (Qg ((↑(length s0):Int).toNat-i5.toNat) (Qh i5.toNat s0))).1) (br (bif !cg (bD (Qg ((↑(length s0):Int).toNat-i5.toNat) (Qh i5.toNat s0))).1 then Q3 else(↑lh_0.length:Int)==400) (Tr.ok (zD.ret (tup [nils,ai 2]) [])) (Qc (Q0 (lh_0.length+[(bD (Qg ((↑(length s0):Int).toNat-i5.toNat) (Qh i5.toNat s0))).1].length<=1073741824)) (Tr.ok (zD.head 3 (ac Tryz.f198 3) (LA s0 (IntKind.i64.wrap (i5+(bD (Qg ((↑(length s0):Int).toNat-i5.toNat) (Qh i5.toNat s0))).2))
 (lh_0++[(bD (Qg ((↑(length s0):Int).toNat-i5.toNat) (Qh i5.toNat s0))).1]))))))))))) (Tr.ok (zD.ret (tup [AV.vec 0,ai 0]) [AO.vec zo lh_0])):=kw
def uD:Nat->(Sem Sh.str)->Int->(List (Sem zo))->Sem bZ.sl×Sem zg
 |0,_,_,_=>default
 |n+1,s0,i5,lh_0=>(if Q0 (i5<(↑(length s0):Int))=Q3 then
 if(bif (↑(getD s0 i5.toNat 0).toNat:Int)==32 then Q3 else(↑(getD s0 i5.toNat 0).toNat:Int)==10)=Q3 then
  uD n s0 (IntKind.i64.wrap (i5+1)) lh_0
 else
  if
    (bif !cg (bD (Qg ((↑(length s0):Int).toNat-i5.toNat) (Qh i5.toNat s0))).1 then Q3
     else(↑lh_0.length:Int)==400)=
     Q3 then
   ([],2)
  else
   uD n s0 (IntKind.i64.wrap (i5+(bD (Qg ((↑(length s0):Int).toNat-i5.toNat) (Qh i5.toNat s0))).2))
    (lh_0++[(bD (Qg ((↑(length s0):Int).toNat-i5.toNat) (Qh i5.toNat s0))).1])
else(lh_0,0))
def tp:Nat->(Sem Sh.str)->Int->(List (Sem zo))->Bool
 |0,_,_,_=>Q4
 |n+1,s0,i5,lh_0=>(if Q0 (i5<(↑(length s0):Int))=Q3 then
 if (zO i5 (length s0)&&bif (↑(getD s0 i5.toNat 0).toNat:Int)==32 then true else zO i5 (length s0))=true then
  if(bif (↑(getD s0 i5.toNat 0).toNat:Int)==32 then Q3 else(↑(getD s0 i5.toNat 0).toNat:Int)==10)=Q3 then
   tp n s0 (IntKind.i64.wrap (i5+1)) lh_0
  else
   if (decide (0≤i5)&&decide (i5≤(↑(length s0):Int))&&decide ((↑(length s0):Int)≤(↑(length s0):Int)))=true then
    if kJ (List.take ((↑(length s0):Int).toNat-i5.toNat) (List.drop i5.toNat s0))=true then
     if rY (bD (List.take ((↑(length s0):Int).toNat-i5.toNat) (List.drop i5.toNat s0))).1=true then
      if
        (bif !cg (bD (Qg ((↑(length s0):Int).toNat-i5.toNat) (Qh i5.toNat s0))).1 then Q3
         else(↑lh_0.length:Int)==400)=
         Q3 then
       Q3
      else
       if
         Q0 (lh_0.length+[(bD (Qg ((↑(length s0):Int).toNat-i5.toNat) (Qh i5.toNat s0))).1].length<=1073741824)=
          Q3 then
        tp n s0 (IntKind.i64.wrap (i5+(bD (Qg ((↑(length s0):Int).toNat-i5.toNat) (Qh i5.toNat s0))).2))
         (lh_0++[(bD (Qg ((↑(length s0):Int).toNat-i5.toNat) (Qh i5.toNat s0))).1])
       else Q4
     else Q4
    else Q4
   else Q4
 else Q4
else Q3)
theorem SS{C:fh}(hC:∀id,C.ρ0 id=Q2):∀(n:Nat)(s0:TS)(i5:Int)(lh_0:LF),tp n s0 i5 lh_0=Q3->
  Reach (pF) C 198 (ac Tryz.f198 3) (LA s0 i5 lh_0) (λr h=>aM h [bZ.sl,zg] r=Q1 ((uD n s0 i5 lh_0).1,(uD n s0 i5 lh_0).2,()))
 |0,s0,i5,lh_0,hc=>by cases hc
 | n+1,s0,i5,lh_0,hc=>by
  refine zE kB (zgw) (λid _=>hC id) (zgC _ _ _) ?_;rw[tp]at hc;generalize hy:uD (n+1) s0 i5 lh_0=y;rw[uD]at hy
  try simp only[ze.eta,zk]
  repeat' (first|with_reducible refine vl hy hc (λ_ hy hc=>?_) (λ_ hy hc=>?_)|with_reducible refine dn hy (λ_ hy=>?_) (λ_ hy=>?_)|with_reducible refine iK hc (λhc=>?_)|with_reducible refine zK ?_)
  all_goals first|(cases hc;done)|(subst hy;first|(change Reach _ _ _ _ _ _;refine SS hC n _ _ _ ?_<;>exact hc)|rfl)
def cut(x0:TS):Sem bZ.sl×Sem zg:=(uD (length x0+1) x0 0 [])
def S9(x0:TS):Bool:=(tp (length x0+1) x0 0 [])
def F69:zV:=zN [Q6] [bZ.sl,zg] (λx=>S9 x.1) λx=>((cut x.1).1,(cut x.1).2,())
theorem zjv:FK 198 F69:=by
 refine aJ (zgw) λx hc C hC=>?_
 unfold S9 at hc;refine zE kB (zgw) (λid _=>hC id) (zpp x.1) ?_;generalize hy:cut x.1=y;unfold cut at hy
 try simp only[ze.eta,zk]
 repeat' (first|with_reducible refine vl hy hc (λ_ hy hc=>?_) (λ_ hy hc=>?_)|with_reducible refine dn hy (λ_ hy=>?_) (λ_ hy=>?_)|with_reducible refine iK hc (λhc=>?_)|with_reducible refine zK ?_)
 all_goals first|(cases hc;done)|(subst hy;first|(change Reach _ _ _ _ _ _;refine SS hC _ _ _ _ ?_<;>exact hc)|rfl)
noncomputable def J3:=pF.addL [(306,zhs),(291,zho),(198,F69)]
theorem w7:zt J3:=kB.addL<|fc zdf<|fc zdb<|fc zjv ja
noncomputable def zhh:zV:=bh (List.replicate 2 Q2) (fB J3 Tryz.f277 (List.replicate 2 Q2))
theorem zc4:FK 277 zhh:=cd _ w7 (bR kw)
abbrev zp2:Nat->aN:=λ_=>{ }
theorem zm9:zI (J3).P 247 Tryz.f247 1:=bR kw
theorem zpz(x0:Sem Q5):rn J3 0 zp2 Tryz.f247 [zz Q5 x0] []=Qc (qQ (zm x0)) (Tr.ok (zD.ret (str (nR (zm x0)).1) [])):=kw
def iU(x0:Sem Q5):Sem Q6:=((nR x0).1)
def qF(x0:Sem Q5):Bool:=(if qQ x0=Q3 then Q3 else Q4)
def F94:zV:=zN [Q5] [Q6] (λx=>qF x.1) λx=>(iU x.1,())
theorem zjS:FK 247 F94:=by
 refine aJ (zm9) λx hc C hC=>?_
 unfold qF at hc;refine zE w7 (zm9) (λid _=>hC id) (zpz x.1) ?_;generalize hy:iU x.1=y;unfold iU at hy
 try simp only[ze.eta]
 repeat' (first|with_reducible refine vl hy hc (λ_ hy hc=>?_) (λ_ hy hc=>?_)|with_reducible refine dn hy (λ_ hy=>?_) (λ_ hy=>?_)|with_reducible refine iK hc (λhc=>?_)|with_reducible refine zK ?_)
 all_goals first|(cases hc;done)|(subst hy;first|rfl)
noncomputable def J4:=J3.addL [(277,zhh),(247,F94)]
theorem w8:zt J4:=w7.addL<|fc zc4<|fc zjS ja
noncomputable def F86:zV:=bh (List.replicate 4 Q2) (fB J4 Tryz.f239 (List.replicate 4 Q2))
theorem zjJ:FK 239 F86:=cd _ w8 (bR kw)
abbrev zp3:Nat->aN:=λ_=>{ }
theorem znb:zI (J4).P 251 Tryz.f251 2:=bR kw
theorem zpB(x0:TS)(x1:Sem Q5):rn J4 0 zp3 Tryz.f251 [zz Q6 x0,zz Q5 x1] []=br (ic (zm x1)) (Tr.ok (zD.ret (str []) [])) (Qc (Q0 (length x0+JJ.length<=1099511627776)) (Qc (qF (zm x1)) (Qc (Q0 (length (x0++JJ)+length (iU (zm x1))<=1099511627776)) (Qc (Q0 (length (x0++JJ++iU (zm x1))+iC.length<=1099511627776)) (Tr.ok (zD.ret (str (x0++JJ++iU (zm x1)++iC)) [])))))):=kw
def kQ(x0:TS)(x1:Sem Q5):Sem Q6:=(if ic x1=Q3 then[]else x0++JJ++iU x1++iC)
def uy(x0:TS)(x1:Sem Q5):Bool:=(if ic x1=Q3 then Q3 else if Q0 (length x0+JJ.length<=1099511627776)=Q3 then if qF x1=Q3 then if Q0 (length (x0++JJ)+length (iU x1)<=1099511627776)=Q3 then if Q0 (length (x0++JJ++iU x1)+iC.length<=1099511627776)=Q3 then Q3 else Q4 else Q4 else Q4 else Q4)
def F98:zV:=zN [Q6,Q5] [Q6] (λx=>uy x.1 x.2.1) λx=>(kQ x.1 x.2.1,())
theorem zjU:FK 251 F98:=by
 refine aJ (znb) λx hc C hC=>?_
 unfold uy at hc;refine zE w8 (znb) (λid _=>hC id) (zpB x.1 x.2.1) ?_;generalize hy:kQ x.1 x.2.1=y;unfold kQ at hy
 try simp only[ze.eta]
 repeat' (first|with_reducible refine vl hy hc (λ_ hy hc=>?_) (λ_ hy hc=>?_)|with_reducible refine dn hy (λ_ hy=>?_) (λ_ hy=>?_)|with_reducible refine iK hc (λhc=>?_)|with_reducible refine zK ?_)
 all_goals first|(cases hc;done)|(subst hy;first|rfl)
noncomputable def zbI:=J4.addL [(239,F86),(251,F98)]
theorem QX:zt zbI:=w8.addL<|fc zjJ<|fc zjU ja
def znP(x0:Sem zl):Sem Q7:=(bif bif Q0 ((↑(length x0.2.2.2.2.1):Int)<1)then Q3 else Q0 ((↑(length x0.2.2.2.2.1):Int)>8)then Q4 else bif !Q0 (zR (λx=>!zka x) x0.2.2.2.2.1 0>=0)then bif bT x0.2.2.2.2.2.1 then bif bif Q0 ((↑(length x0.2.2.2.2.2.2.1):Int)<0)then Q3 else Q0 ((↑(length x0.2.2.2.2.2.2.1):Int)>8)then Q4 else bif !Q0 (zR (λx=>!bT x) x0.2.2.2.2.2.2.1 0>=0)then bif bif Q0 ((↑(length x0.2.2.2.2.2.2.2.1):Int)<0)then Q3 else Q0 ((↑(length x0.2.2.2.2.2.2.2.1):Int)>8)then Q4 else bif !Q0 (zR (λx=>!znx x) x0.2.2.2.2.2.2.2.1 0>=0)then bU x0.2.2.2.2.2.2.2.2.1 else Q4 else Q4 else Q4 else Q4)
noncomputable def zbJ:=zbI
theorem w9:zt zbJ:=QX
noncomputable section
def uR(x0:Sem zl):Tr (Empty⊕az):=
 let a0:=zm x0.t.t.1
 let a1:=zm x0.t.t.q.2.1
 let a2:=(x0.t.t.2.1,x0.t.t.q.1,a1,x0.t.t.t)
 let a3:=(x0.1,[],x0.2.2.1,x0.2.2.2.1,x0.t.1,x0.t.2.1,x0.t.q.1,x0.t.q.2.1,a0,a2)
 let a4:=bif bT x0.2.1 then bU a1 else Q4
 let a5:=(x0.1,[],x0.2.2.1,x0.2.2.2.1,x0.t.1,x0.t.2.1,x0.t.q.1,x0.t.q.2.1,a0,x0.t.t.2.1,x0.t.t.q.1,ze.mk [] (0,0,[]) [] [],x0.t.t.t)
 let a6:=bT x0.t.t.t
 let a7:=bif bT x0.2.1 then a6 else Q4
 let a8:=(x0.t.t.2.1,x0.t.t.q.1,a1,[])
 let a9:=(x0.1,[],x0.2.2.1,x0.2.2.2.1,x0.t.1,x0.t.2.1,x0.t.q.1,x0.t.q.2.1,a0,a8)
 let a10:=bT x0.2.2.1
 let a11:=(↑(length x0.2.2.2.1):Int)
 let a12:=zR (λx=>!bT x) x0.2.2.2.1 0
 let a13:=bU a0
 let a14:=bif !Q0 (a12>=0)then a13 else Q4
 let a15:=bif bT x0.2.1 then bif a10 then bif bif Q0 (a11<1)then Q3 else Q0 (a11>8)then Q4 else a14 else Q4 else Q4
 let a16:=(x0.1,[],[],[],x0.t.1,x0.t.2.1,x0.t.q.1,x0.t.q.2.1,ze.mk [] (0,0,[]) [] [],a2)
 let a17:=eA a16
 let a18:=eK a16
 let a19:=bif bT x0.2.1 then bif a10 then bif bT x0.t.2.1 then bif a6 then a13 else Q4 else Q4 else Q4 else Q4
 let a20:=(x0.1,[],[],x0.2.2.2.1,x0.t.1,[],x0.t.q.1,x0.t.q.2.1,ze.mk [] (0,0,[]) [] [],a8)
 let a21:=bif bT x0.2.1 then bif a10 then bif bif Q0 (a11<2)then Q3 else Q0 (a11>2)then Q4 else a14 else Q4 else Q4
 br (x0.1==mJ) (br (bT x0.2.1) Tr.err (re (kb Q4) []))
 (br (x0.1==EB)
  (Qc (bif bT x0.2.1 then eA a3 else Q3) (re (AV.bool (bif bT x0.2.1 then eK a3 else Q4)) []))
  (br (x0.1==G7) (br (bT x0.2.1) Tr.err (re (kb Q4) [])) (br (x0.1==o6) (br (bT x0.2.1) Tr.err (re (kb Q4) [])) (br (x0.1==Jh) (Qc (bif a4 then eA a5 else Q3) (re (AV.bool (bif a4 then eK a5 else Q4)) []))
  (br (x0.1==py) (Qc (bif a4 then eA a5 else Q3) (re (AV.bool (bif a4 then eK a5 else Q4)) [])) (br (x0.1==On) (Qc (bif a7 then eA a9 else Q3) (re (AV.bool (bif a7 then eK a9 else Q4)) []))
  (br (x0.1==wJ) (Qc (bif a7 then eA a9 else Q3) (re (AV.bool (bif a7 then eK a9 else Q4)) [])) (br (x0.1==Ai) (Qc (bif a7 then eA a9 else Q3) (re (AV.bool (bif a7 then eK a9 else Q4)) [])) (br (x0.1==BN)
  (Qc (bif a7 then eA a9 else Q3) (re (AV.bool (bif a7 then eK a9 else Q4)) [])) (br (x0.1==dv) (Qc (bif a15 then a17 else Q3) (re (AV.bool (bif a15 then a18 else Q4)) [])) (br (x0.1==gK) (Qc (bif a19 then eA a20 else Q3) (re (AV.bool (bif a19 then eK a20 else Q4)) []))
  (br (x0.1==nA) (Qc (bif a21 then a17 else Q3) (re (AV.bool (bif a21 then a18 else Q4)) [])) (re (kb Q4) [])))))))))))))
def Bj(x0:Sem zl):=ah [Q7] t0 100000000 (uR x0)
def we(x0:Sem zl):=(Bj x0).isSome
def fw(x0:Sem zl):=o1 (Bj x0)
def zaL:=FT [zl] [Q7] λx=>Bj x.1
theorem XA:FK 196 zaL:=w9.T1 (f:=Tryz.f196) (keep:=k0) (e:=e0)
def yL(x0:Sem zl):Tr (Empty⊕az):=
 let a0:=Q0 (length x0.1<=140737488355328)&&List.all x0.1 λb=>Q0 (b.toNat<128)
 let a1:=SX++Lib.toUpperA x0.1
 let a2:=a1++[32]
 let a3:=a2++x0.2.1
 let a4:=a3++kP
 let a5:=ze3++Lib.toUpperA x0.1
 let a6:=a5++Ak
 let a7:=a6++x0.2.1
 let a8:=a7++Mm
 let a9:=Qg ((↑(length x0.1):Int).toNat-toNat 2) (Qh (toNat 2) x0.1)
 let a10:=Lib.toUpperA a9
 let a11:=ze7++a10
 let a12:=a11++Ak
 let a13:=a12++x0.2.1
 let a14:=a13++kP
 let a15:=a4++x0.2.2.1
 let a16:=a15++Aj
 let a17:=gI x0.2.2.2.1
 let a18:=a16++a17
 let a19:=zm x0.t.t.1
 let a20:=uy [32] a19
 let a21:=a18++iC
 let a22:=kQ [32] a19
 let a23:=a15++eZ
 let a24:=a23++x0.t.t.t
 let a25:=a24++Ak
 let a26:=a25++x0.t.2.1
 let a27:=a15++Qs
 let a28:=getD x0.2.2.2.1 (toNat 0) (zj Q6)
 let a29:=a27++a28
 let a30:=a29++Qt
 let a31:=getD x0.2.2.2.1 (toNat 1) (zj Q6)
 let a32:=a30++a31
 Qc a0
 (Qc (Q0 (SX.length+(Lib.toUpperA x0.1).length<=1099511627776))
  (Qc (Q0 (length a1+[32].length<=1099511627776)) (Qc (Q0 (length a2+length x0.2.1<=1099511627776)) (Qc (Q0 (length a3+kP.length<=1099511627776)) (Qc (Q0 (length a4+length x0.2.2.1<=1099511627776)) (br (x0.1==mJ) Tr.err (br (x0.1==EB)
  (Qc (Q0 (YK.length+length x0.2.1<=1099511627776)) (re (str (YK++x0.2.1)) [])) (br (x0.1==G7) (Qc (Q0 (SV.length+length x0.2.1<=1099511627776)) (Qc (decide
  (length (SV++x0.2.1)+YE.length<=1099511627776)) Tr.err)) (br (x0.1==o6) (Qc (Q0 (SY.length+length x0.2.1<=1099511627776))
  (Qc (Q0 (length (SY++x0.2.1)+YD.length<=1099511627776)) Tr.err)) (br (x0.1==Jh) (Qc (Q0 (YI.length+length x0.2.1<=1099511627776)) Tr.err) (br (x0.1==py)
  (Qc (Q0 (YR.length+length x0.2.1<=1099511627776)) Tr.err) (br (x0.1==On) (Qc a0 (Qc (Q0 (ze3.length+(Lib.toUpperA x0.1).length<=1099511627776)) (Qc (Q0 (length a5+Ak.length<=1099511627776))
  (Qc (Q0 (length a6+length x0.2.1<=1099511627776)) (Qc (Q0 (length a7+Mm.length<=1099511627776)) (Qc (Q0 (length a8+length x0.t.t.t<=1099511627776)) (re (str (a8++x0.t.t.t)) []))))))) (br (x0.1==wJ) (Qc a0
  (Qc (Q0 (ze3.length+(Lib.toUpperA x0.1).length<=1099511627776)) (Qc (Q0 (length a5+Ak.length<=1099511627776)) (Qc (Q0 (length a6+length x0.2.1<=1099511627776)) (Qc (Q0 (length a7+Mm.length<=1099511627776))
  (Qc (Q0 (length a8+length x0.t.t.t<=1099511627776)) (re (str (a8++x0.t.t.t)) []))))))) (br (x0.1==Ai) (Qc (Q0 (0<=2)&&Q0 (2<=(↑(length x0.1):Int))&&Q0 ((↑(length x0.1):Int)<=(↑(length x0.1):Int)))
  (Qc (Q0 (a9.length<=140737488355328)&&a9.all λb=>Q0 (b.toNat<128)) (Qc (Q0 (ze7.length+a10.length<=1099511627776)) (Qc (Q0 (length a11+Ak.length<=1099511627776)) (Qc (Q0 (length a12+length x0.2.1<=1099511627776))
  (Qc (Q0 (length a13+kP.length<=1099511627776)) (Qc (Q0 (length a14+length x0.t.t.t<=1099511627776)) (re (str (a14++x0.t.t.t)) [])))))))) (br (x0.1==BN) (Qc (Q0 (0<=2)&&Q0 (2<=(↑(length x0.1):Int))&&
  Q0 ((↑(length x0.1):Int)<=(↑(length x0.1):Int))) (Qc (Q0 (a9.length<=140737488355328)&&a9.all λb=>Q0 (b.toNat<128)) (Qc (Q0 (ze7.length+a10.length<=1099511627776)) (Qc (Q0 (length a11+Ak.length<=1099511627776)) (Qc (Q0 (length a12+length x0.2.1<=1099511627776))
  (Qc (Q0 (length a13+kP.length<=1099511627776)) (Qc (Q0 (length a14+length x0.t.t.t<=1099511627776)) (re (str (a14++x0.t.t.t)) [])))))))) (br (x0.1==dv) (Qc (Q0 (length a15+Aj.length<=1099511627776)) (Qc (np x0.2.2.2.1)
  (Qc (Q0 (length a16+length a17<=1099511627776)) (Qc (Q0 (length a18+iC.length<=1099511627776)) (Qc a20 (Qc (Q0 (length a21+length a22<=1099511627776)) (re (str (a21++a22)) []))))))) (br (x0.1==gK) (Qc (Q0 (length a15+eZ.length<=1099511627776))
  (Qc (Q0 (length a23+length x0.t.t.t<=1099511627776)) (Qc (Q0 (length a24+Ak.length<=1099511627776)) (Qc (Q0 (length a25+length x0.t.2.1<=1099511627776)) (Qc a20 (Qc (Q0 (length a26+length a22<=1099511627776)) (re (str (a26++a22)) [])))))))
  (Qc (Q0 (length a15+Qs.length<=1099511627776)) (Qc (zO 0 (length x0.2.2.2.1)) (Qc (Q0 (length a27+length a28<=1099511627776)) (Qc (Q0 (length a29+Qt.length<=1099511627776)) (Qc (zO 1 (length x0.2.2.2.1)) (Qc (Q0 (length a30+length a31<=1099511627776)) (Qc a20
  (Qc (Q0 (length a32+length a22<=1099511627776)) (re (str (a32++a22)) []))))))))))))))))))))))))))
def IL(x0:Sem zl):=ah [Q6] t0 100000000 (yL x0)
def DZ(x0:Sem zl):=(IL x0).isSome
def iS(x0:Sem zl):=o1 (IL x0)
def zaM:=FT [zl] [Q6] λx=>IL x.1
theorem XB:FK 197 zaM:=w9.T1 (f:=Tryz.f197) (keep:=k0) (e:=e0)
def Oy:=zbJ.addL [(196,zaL),(197,zaM)]
theorem Fv:zt Oy:=w9.addL<|fc XA<|fc XB<|ja
end
abbrev zpU:Nat->aN:=λ_=>{ }
theorem zmO:zI (Oy).P 157 Tryz.f157 1:=bR kw
theorem zpf(x0:Sem zl):rn Oy 0 zpU Tryz.f157 [zz zl x0] []=Qc (we (EH x0)) (br (!fw (EH x0)) (Tr.ok (zD.ret (tup [str [],ai 1]) [])) (Qc (DZ (EH x0)) (Qc (S9 (iS (EH x0))) (br ((cut (iS (EH x0))).2!=0) (Tr.ok (zD.ret (tup [str [],ai 1]) [])) (Tr.ok (zD.ret (tup [str (iS (EH x0)),ai 0]) [])))))):=kw
noncomputable def qm(x0:Sem zl):Sem Q6×Sem zg:=(if(!fw x0)=Q3 then([],1)else if((cut (iS x0)).2!=0)=Q3 then([],1)else(iS x0,0))
noncomputable def wj(x0:Sem zl):Bool:=(if we x0=Q3 then if(!fw x0)=Q3 then Q3 else if DZ x0=Q3 then if S9 (iS x0)=Q3 then Q3 else Q4 else Q4 else Q4)
noncomputable def F52:zV:=zN [zl] [Q6,zg] (λx=>wj x.1) λx=>((qm x.1).1,(qm x.1).2,())
theorem zji:FK 157 F52:=by
 refine aJ (zmO) λx hc C hC=>?_
 unfold wj at hc;refine zE Fv (zmO) (λid _=>hC id) (zpf x.1) ?_;generalize hy:qm x.1=y;unfold qm at hy
 try simp only[OJ]
 repeat' (first|with_reducible refine vl hy hc (λ_ hy hc=>?_) (λ_ hy hc=>?_)|with_reducible refine dn hy (λ_ hy=>?_) (λ_ hy=>?_)|with_reducible refine iK hc (λhc=>?_)|with_reducible refine zK ?_)
 all_goals first|(cases hc;done)|(subst hy;first|rfl)
noncomputable def Oz:=Oy.add 157 F52
theorem Fw:zt Oz:=Fv.add zji
abbrev zpT:Nat->aN:=λ_=>{ }
theorem zmv:zI (Oz).P 113 Tryz.f113 1:=bR kw
theorem zoX(x0:Sem zl):rn Oz 0 zpT Tryz.f113 [zz zl x0] []=Qc (wj (EH x0)) (Tr.ok (zD.ret (AV.bool ((qm (EH x0)).2==0)) [])):=kw
noncomputable def eo(x0:Sem zl):Sem Q7:=((qm x0).2==0)
noncomputable def oI(x0:Sem zl):Bool:=(if wj x0=Q3 then Q3 else Q4)
noncomputable def F31:zV:=zN [zl] [Q7] (λx=>oI x.1) λx=>(eo x.1,())
theorem ziY:FK 113 F31:=by
 refine aJ (zmv) λx hc C hC=>?_
 unfold oI at hc;refine zE Fw (zmv) (λid _=>hC id) (zoX x.1) ?_;generalize hy:eo x.1=y;unfold eo at hy
 try simp only[OJ]
 repeat' (first|with_reducible refine vl hy hc (λ_ hy hc=>?_) (λ_ hy hc=>?_)|with_reducible refine dn hy (λ_ hy=>?_) (λ_ hy=>?_)|with_reducible refine iK hc (λhc=>?_)|with_reducible refine zK ?_)
 all_goals first|(cases hc;done)|(subst hy;first|rfl)
noncomputable def oQ:=Oz.add 113 F31
theorem jk:zt oQ:=Fw.add ziY
end Cad
