/- Plans: places. Plans: what is there. Plans: what is wrong with a target. Plans: sources. Plans: sources, who refers. Plans: sources, who refers. -/
import Derived.Test.YtkmcdhahdadkpaaGreatDoorA10
import Derived.Test.YtkmcdhahdadkpaaGreatDoorA08
namespace Cad
open Go Go.Proofs
open List renaming map→Qi
open AV renaming ptr→Qf,tup→Qe
open Tr renaming chk→Qc,«to»→Q9
open AO renaming box→Qa
open Sh renaming bool→Q7,str→Q6,expr→Q5
open Bool renaming false→Q4,true→Q3
open Option renaming none→Q2,some→Q1
open Decidable renaming decide→Q0
open Int (toNat)
open List (getD length)
open Tr (chk br re)
open AV (nils agg tup ptr kb str sl)
noncomputable section
set_option maxHeartbeats 4000000
abbrev zr:Sh:=.pr .str (.pr .str (.pr .str (.pr zo (.pr (.sl zg) zg))))
abbrev bl:List CP:=[.d (.sl zh),.d zl,.d zo,.d zo,.d .str,.d .str,.d .str,.d .str,.nil,.d zg,.nil,.nil,.d .expr,.nil,.d zg]
abbrev aq:List CP:=[.d (.sl zh),.d zl,.d zo,.d zo,.d .str,.d .str,.d .str,.d .str,.vec zj,.d zg,.nil,.nil,.d .expr,.d (.sl zg),.d zg]
abbrev ZT:Nat->aO:=λj=>if j=2 then{slots:=[0,1,7,8]}else{ }
abbrev C1(l0:LI)(i1:Sem zg)(i7:Int)(i8:Int):St:={tmps:=(tm 19 [(0,sl zg l0),(1,ai i1),(7,ai i7),(8,ai i8)]),heap:=[]}
theorem Nz:zL (gZ).P 139 Tryz.f139 2:=bS kw
theorem zh5(x0:Sem zg.sl)(x1:Sem zg):rn gZ 0 ZT Tryz.f139 [zH zg.sl x0,zH zg x1] []=Tr.ok (zE.head 2 (ag Tryz.f139 2) (C1 x0 x1 (↑(length x0):Int) 0)):=kw
theorem NF(l0:LI)(i1:Sem zg)(i7:Int)(i8:Int):rh gZ 0 ZT Tryz.f139 2 (C1 l0 i1 i7 i8)=br (Q0 (i8<i7)) (Qc (zK i8 l0.length) (br (i1==l0.getD i8.toNat (zi zg)) (Tr.ok (zE.ret (ai i8) [])) (Tr.ok (zE.head 2 (ag Tryz.f139 2) (C1 l0 i1 i7 (IntKind.i64.wrap (i8+1))))))) (Tr.ok (zE.ret (ai (-1)) [])):=kw
def eH(i1:Sem zg):List (Sem zg)->Int->Sem zg
 |[],_=>(-1)
 |x::r,i8=>(if(i1==x)=Q3 then i8 else eH i1 r (i8+1))
theorem Wk{C:eV}(hC:∀id,C.ρ0 id=Q2)(i1:Sem zg)(l0:LI)(hl:l0.length<=aH):∀(m i:Nat),l0.length-i=m->i<=l0.length->
  Reach (gZ) C 139 (ag Tryz.f139 2) (C1 l0 i1 (l0.length:Int) (i:Int)) (λr h=>aL h [zg] r=Q1 (eH i1 (l0.drop i) i,())):=by
 intro m
 induction m with
 | zero=>
  intro i hm hi;obtain rfl:i=l0.length:=by omega
  rw[jw];refine zF dM (Nz) (λid _=>hC id) (NF _ _ _ _) ?_;generalize hy:eH i1 [] _=y;rw[eH]at hy;simp only[zA,Tr.val_brF];repeat' (first|with_reducible refine di hy (λ_ hy=>?_) (λ_ hy=>?_)|with_reducible refine zN ?_)
  all_goals first|(cases hc;done)|(subst hy;first|rfl)
 | succ m IH=>
  intro i hm hi;have hlt:i<l0.length:=by omega
  have IH:=IH (i+1);have hcast:((i:Int)+1)=((i+1:Nat):Int):=by omega
  have hwr:=zp i ow;rw[eY hlt];refine zF dM (Nz) (λid _=>hC id) (NF _ _ _ _) ?_;generalize hy:eH i1 (l0[i]::l0.drop (i+1)) (i:Int)=y;rw[eH]at hy;simp only[zC hlt,zt hlt,cF l0 _ hlt,hwr,Tr.val_brT,Tr.val_chkT];clear hwr
  try simp only[zt hlt]at hy
  simp only[hcast]at hy;repeat' (first|with_reducible refine di hy (λ_ hy=>?_) (λ_ hy=>?_)|with_reducible refine zN ?_)
  all_goals first|(cases hc;done)|(subst hy;first|(change Reach _ _ _ _ _ _;apply IH<;>first|omega|assumption)|rfl)
theorem QY{C:eV}(hC:∀id,C.ρ0 id=Q2)(i1:Sem zg)(l0:LI):
  Reach (gZ) C 139 (ag Tryz.f139 2) (C1 l0 i1 (l0.length:Int) 0) (λr h=>aL h [zg] r=Q1 (eH i1 l0 0,())):=
 Reach.len 0 (Sh.int IntKind.i64) l0 rfl λhl=>Wk hC i1 l0 hl _ 0 rfl (be _)
def g6(x0:Sem zg.sl)(x1:Sem zg):Sem zg:=(eH x1 x0 0)
def zfK:ac:=aF [zg.sl,zg] [zg] λx=>(g6 x.1 x.2.1,())
theorem zbI:FK 139 zfK:=by
 refine af (Nz) λx C hC=>?_
 refine zF dM (Nz) (λid _=>hC id) (zh5 x.1 x.2.1) ?_;generalize hy:g6 x.1 x.2.1=y;unfold g6 at hy
 try simp only[zf.eta]
 repeat' (first|with_reducible refine di hy (λ_ hy=>?_) (λ_ hy=>?_)|with_reducible refine zN ?_)
 all_goals first|(cases hc;done)|(subst hy;first|(change Reach _ _ _ _ _ _;apply QY hC<;>first|assumption|exact hc)|rfl)
abbrev ZU:Nat->aO:=λj=>if j=2 then{slots:=[0,1,7,8]}else{ }
abbrev C2(l0:LS)(s1:TS)(i7:Int)(i8:Int):St:={tmps:=(tm 19 [(0,sl Q6 l0),(1,str s1),(7,ai i7),(8,ai i8)]),heap:=[]}
theorem NA:zL (gZ).P 198 Tryz.f198 2:=bS kw
theorem zia(x0:Sem Sh.str.sl)(x1:TS):rn gZ 0 ZU Tryz.f198 [zH Sh.str.sl x0,zH Q6 x1] []=Tr.ok (zE.head 2 (ag Tryz.f198 2) (C2 x0 x1 (↑(length x0):Int) 0)):=kw
theorem NG(l0:LS)(s1:TS)(i7:Int)(i8:Int):rh gZ 0 ZU Tryz.f198 2 (C2 l0 s1 i7 i8)=br (Q0 (i8<i7)) (Qc (zK i8 l0.length) (br (s1==l0.getD i8.toNat (zi Q6)) (Tr.ok (zE.ret (ai i8) [])) (Tr.ok (zE.head 2 (ag Tryz.f198 2) (C2 l0 s1 i7 (IntKind.i64.wrap (i8+1))))))) (Tr.ok (zE.ret (ai (-1)) [])):=kw
def iw(s1:TS):List (Sem Q6)->Int->Sem zg
 |[],_=>(-1)
 |x::r,i8=>(if(s1==x)=Q3 then i8 else iw s1 r (i8+1))
theorem Wl{C:eV}(hC:∀id,C.ρ0 id=Q2)(s1:TS)(l0:LS)(hl:l0.length<=aH):∀(m i:Nat),l0.length-i=m->i<=l0.length->
  Reach (gZ) C 198 (ag Tryz.f198 2) (C2 l0 s1 (l0.length:Int) (i:Int)) (λr h=>aL h [zg] r=Q1 (iw s1 (l0.drop i) i,())):=by
 intro m
 induction m with
 | zero=>
  intro i hm hi;obtain rfl:i=l0.length:=by omega
  rw[jw];refine zF dM (NA) (λid _=>hC id) (NG _ _ _ _) ?_;generalize hy:iw s1 [] _=y;rw[iw]at hy;simp only[zA,Tr.val_brF];repeat' (first|with_reducible refine di hy (λ_ hy=>?_) (λ_ hy=>?_)|with_reducible refine zN ?_)
  all_goals first|(cases hc;done)|(subst hy;first|rfl)
 | succ m IH=>
  intro i hm hi;have hlt:i<l0.length:=by omega
  have IH:=IH (i+1);have hcast:((i:Int)+1)=((i+1:Nat):Int):=by omega
  have hwr:=zp i ow;rw[eY hlt];refine zF dM (NA) (λid _=>hC id) (NG _ _ _ _) ?_;generalize hy:iw s1 (l0[i]::l0.drop (i+1)) (i:Int)=y;rw[iw]at hy;simp only[zC hlt,zt hlt,cF l0 _ hlt,hwr,Tr.val_brT,Tr.val_chkT];clear hwr
  try simp only[zt hlt]at hy
  simp only[hcast]at hy;repeat' (first|with_reducible refine di hy (λ_ hy=>?_) (λ_ hy=>?_)|with_reducible refine zN ?_)
  all_goals first|(cases hc;done)|(subst hy;first|(change Reach _ _ _ _ _ _;apply IH<;>first|omega|assumption)|rfl)
theorem Ra{C:eV}(hC:∀id,C.ρ0 id=Q2)(s1:TS)(l0:LS):
  Reach (gZ) C 198 (ag Tryz.f198 2) (C2 l0 s1 (l0.length:Int) 0) (λr h=>aL h [zg] r=Q1 (iw s1 l0 0,())):=
 Reach.len 0 (Q6) l0 rfl λhl=>Wl hC s1 l0 hl _ 0 rfl (be _)
def Jk(x0:Sem Sh.str.sl)(x1:TS):Sem zg:=(iw x1 x0 0)
def zf3:ac:=aF [Sh.str.sl,Q6] [zg] λx=>(Jk x.1 x.2.1,())
theorem zb0:FK 198 zf3:=by
 refine af (NA) λx C hC=>?_
 refine zF dM (NA) (λid _=>hC id) (zia x.1 x.2.1) ?_;generalize hy:Jk x.1 x.2.1=y;unfold Jk at hy
 try simp only[zf.eta]
 repeat' (first|with_reducible refine di hy (λ_ hy=>?_) (λ_ hy=>?_)|with_reducible refine zN ?_)
 all_goals first|(cases hc;done)|(subst hy;first|(change Reach _ _ _ _ _ _;apply Ra hC<;>first|assumption|exact hc)|rfl)
abbrev SR:Nat->aO:=λj=>if j=2 then{slots:=[0,3,7,8]}else{ }
abbrev uQ(l0:LF)(i7:Int)(i8:Int)(ja0:Sem zg)(ja1:TS):St:={tmps:=(tm 19 [(0,sl zu l0),(3,Qf 0 0),(7,ai i7),(8,ai i8)]),heap:=[Qa [ai ja0,str ja1]]}
theorem GJ:zL (gZ).P 189 Tryz.f189 2:=bS kw
theorem zcG(x0:Sem zu.sl)(x1:Sem zu):rn gZ 0 SR Tryz.f189 [zH zu.sl x0,zH zu x1] []=Tr.ok (zE.head 2 (ag Tryz.f189 2) (uQ x0 (↑(length x0):Int) 0 x1.1 x1.2)):=kw
theorem JD(l0:LF)(i7:Int)(i8:Int)(ja0:Sem zg)(ja1:TS):rh gZ 0 SR Tryz.f189 2 (uQ l0 i7 i8 ja0 ja1)=br (Q0 (i8<i7)) (Qc (zK i8 l0.length) (br (ja0==(l0.getD i8.toNat (zi zu)).1&&(ja1==(l0.getD i8.toNat (zi zu)).2&&Q3)) (Tr.ok (zE.ret (ai i8) [])) (Tr.ok (zE.head 2 (ag Tryz.f189 2) (uQ l0 i7 (IntKind.i64.wrap (i8+1)) ja0 ja1))))) (Tr.ok (zE.ret (ai (-1)) [])):=kw
def iv(ja0:Sem zg)(ja1:TS):List (Sem zu)->Int->Sem zg
 |[],_=>(-1)
 |x::r,i8=>(if(ja0==x.1&&(ja1==x.2&&Q3))=Q3 then i8 else iv ja0 ja1 r (i8+1))
theorem QU{C:eV}(hC:∀id,C.ρ0 id=Q2)(ja0:Sem zg)(ja1:TS)(l0:LF)(hl:l0.length<=aH):∀(m i:Nat),l0.length-i=m->i<=l0.length->
  Reach (gZ) C 189 (ag Tryz.f189 2) (uQ l0 (l0.length:Int) (i:Int) ja0 ja1) (λr h=>aL h [zg] r=Q1 (iv ja0 ja1 (l0.drop i) i,())):=by
 intro m
 induction m with
 | zero=>
  intro i hm hi;obtain rfl:i=l0.length:=by omega
  rw[jw];refine zF dM (GJ) (λid _=>hC id) (JD _ _ _ _ _) ?_;generalize hy:iv ja0 ja1 [] _=y;rw[iv]at hy;simp only[zA,Tr.val_brF];repeat' (first|with_reducible refine di hy (λ_ hy=>?_) (λ_ hy=>?_)|with_reducible refine zN ?_)
  all_goals first|(cases hc;done)|(subst hy;first|rfl)
 | succ m IH=>
  intro i hm hi;have hlt:i<l0.length:=by omega
  have IH:=IH (i+1);have hcast:((i:Int)+1)=((i+1:Nat):Int):=by omega
  have hwr:=zp i ow;rw[eY hlt];refine zF dM (GJ) (λid _=>hC id) (JD _ _ _ _ _) ?_;generalize hy:iv ja0 ja1 (l0[i]::l0.drop (i+1)) (i:Int)=y;rw[iv]at hy;simp only[zC hlt,zt hlt,cF l0 _ hlt,hwr,Tr.val_brT,Tr.val_chkT];clear hwr
  try simp only[zt hlt]at hy
  simp only[hcast]at hy;repeat' (first|with_reducible refine di hy (λ_ hy=>?_) (λ_ hy=>?_)|with_reducible refine zN ?_)
  all_goals first|(cases hc;done)|(subst hy;first|(change Reach _ _ _ _ _ _;apply IH<;>first|omega|assumption)|rfl)
theorem OM{C:eV}(hC:∀id,C.ρ0 id=Q2)(ja0:Sem zg)(ja1:TS)(l0:LF):
  Reach (gZ) C 189 (ag Tryz.f189 2) (uQ l0 (l0.length:Int) 0 ja0 ja1) (λr h=>aL h [zg] r=Q1 (iv ja0 ja1 l0 0,())):=
 Reach.len 0 (zg.pr Q6) l0 rfl λhl=>QU hC ja0 ja1 l0 hl _ 0 rfl (be _)
def Jj(x0:Sem zu.sl)(x1:Sem zu):Sem zg:=(iv x1.1 x1.2 x0 0)
def Yg:ac:=aF [zu.sl,zu] [zg] λx=>(Jj x.1 x.2.1,())
theorem Vt:FK 189 Yg:=by
 refine af (GJ) λx C hC=>?_
 refine zF dM (GJ) (λid _=>hC id) (zcG x.1 x.2.1) ?_;generalize hy:Jj x.1 x.2.1=y;unfold Jj at hy
 try simp only[zf.eta]
 repeat' (first|with_reducible refine di hy (λ_ hy=>?_) (λ_ hy=>?_)|with_reducible refine zN ?_)
 all_goals first|(cases hc;done)|(subst hy;first|(change Reach _ _ _ _ _ _;apply OM hC<;>first|assumption|exact hc)|rfl)
abbrev ziJ:Nat->aO:=λ_=>{ }
theorem ZZ:zL (gZ).P 53 Tryz.f53 1:=bS kw
theorem zhO(x0:Sem zr):rn gZ 0 ziJ Tryz.f53 [zH zr x0] []=br (x0.2.2.1==[]) (Tr.ok (zE.ret (sl Q6 [x0.2.1]) [])) (Tr.ok (zE.ret (sl Q6 [x0.2.1,x0.2.2.1]) [])):=kw
def kT(x0:Sem zr):Sem Sh.str.sl:=(if(x0.2.2.1==[])=Q3 then[x0.2.1]else[x0.2.1,x0.2.2.1])
def zeS:ac:=aF [zr] [Sh.str.sl] λx=>(kT x.1,())
theorem zaI:FK 53 zeS:=by
 refine af (ZZ) λx C hC=>?_
 refine zF dM (ZZ) (λid _=>hC id) (zhO x.1) ?_;generalize hy:kT x.1=y;unfold kT at hy
 try simp only[zf.eta]
 repeat' (first|with_reducible refine di hy (λ_ hy=>?_) (λ_ hy=>?_)|with_reducible refine zN ?_)
 all_goals first|(cases hc;done)|(subst hy;first|rfl)
def Ye:ac:=bm (List.replicate 2 Q2) (fk gZ Tryz.f185 (List.replicate 2 Q2))
theorem Vr:FK 185 Ye:=ce _ dM (bS kw)
def xC:=gZ.addL [(139,zfK),(198,zf3),(189,Yg),(53,zeS),(185,Ye)]
theorem qa:zy xC:=dM.addL<|fc zbI<|fc zb0<|fc Vt<|fc zaI<|fc Vr iM
abbrev zdg:Nat->aO:=λ_=>{ }
theorem Tu:zL (xC).P 186 Tryz.f186 2:=bS kw
theorem zcF(x0:Sem zg.sl)(x1:Sem zg):rn xC 0 zdg Tryz.f186 [zH zg.sl x0,zH zg x1] []=Tr.ok (zE.ret (AV.bool (Q0 (g6 x0 x1>=0))) []):=kw
def sL(x0:Sem zg.sl)(x1:Sem zg):Sem Q7:=(Q0 (g6 x0 x1>=0))
def Yf:ac:=aF [zg.sl,zg] [Q7] λx=>(sL x.1 x.2.1,())
theorem Vs:FK 186 Yf:=by
 refine af (Tu) λx C hC=>?_
 refine zF qa (Tu) (λid _=>hC id) (zcF x.1 x.2.1) ?_;generalize hy:sL x.1 x.2.1=y;unfold sL at hy
 try simp only[zf.eta]
 repeat' (first|with_reducible refine di hy (λ_ hy=>?_) (λ_ hy=>?_)|with_reducible refine zN ?_)
 all_goals first|(cases hc;done)|(subst hy;first|rfl)
abbrev zi3:Nat->aO:=λ_=>{ }
theorem Z2:zL (xC).P 149 Tryz.f149 2:=bS kw
theorem zhZ(x0:Sem Sh.str.sl)(x1:TS):rn xC 0 zi3 Tryz.f149 [zH Sh.str.sl x0,zH Q6 x1] []=Tr.ok (zE.ret (AV.bool (Q0 (Jk x0 x1>=0))) []):=kw
def aD(x0:Sem Sh.str.sl)(x1:TS):Sem Q7:=(Q0 (Jk x0 x1>=0))
def zfv:ac:=aF [Sh.str.sl,Q6] [Q7] λx=>(aD x.1 x.2.1,())
theorem zbp:FK 149 zfv:=by
 refine af (Z2) λx C hC=>?_
 refine zF qa (Z2) (λid _=>hC id) (zhZ x.1 x.2.1) ?_;generalize hy:aD x.1 x.2.1=y;unfold aD at hy
 try simp only[zf.eta]
 repeat' (first|with_reducible refine di hy (λ_ hy=>?_) (λ_ hy=>?_)|with_reducible refine zN ?_)
 all_goals first|(cases hc;done)|(subst hy;first|rfl)
abbrev zjc:Nat->aO:=λ_=>{ }
theorem Z4:zL (xC).P 141 Tryz.f141 2:=bS kw
theorem zh6(x0:Sem zu.sl)(x1:Sem zu):rn xC 0 zjc Tryz.f141 [zH zu.sl x0,zH zu x1] []=Tr.ok (zE.ret (AV.bool (Q0 (Jj x0 x1>=0))) []):=kw
def jR(x0:Sem zu.sl)(x1:Sem zu):Sem Q7:=(Q0 (Jj x0 x1>=0))
def zfM:ac:=aF [zu.sl,zu] [Q7] λx=>(jR x.1 x.2.1,())
theorem zbK:FK 141 zfM:=by
 refine af (Z4) λx C hC=>?_
 refine zF qa (Z4) (λid _=>hC id) (zh6 x.1 x.2.1) ?_;generalize hy:jR x.1 x.2.1=y;unfold jR at hy
 try simp only[zf.eta]
 repeat' (first|with_reducible refine di hy (λ_ hy=>?_) (λ_ hy=>?_)|with_reducible refine zN ?_)
 all_goals first|(cases hc;done)|(subst hy;first|rfl)
def IS:=xC.addL [(186,Yf),(149,zfv),(141,zfM)]
theorem EB:zy IS:=qa.addL<|fc Vs<|fc zbp<|fc zbK iM
abbrev SX:Nat->aO:=λj=>if j=2 then{slots:=[0,12,13,14]}else{ }
inductive Ia where
 |h2 (i13:Int) (i14:Int) (z0:zm aq)
abbrev Rq:Ia->Nat×St
 |.h2 i13 i14 z0=>(2,⟨tm 65 [(0,Qf 0 0),(12,AV.vec 1),(13,ai i13),(14,ai i14)],[Qa (bv [1] aq z0),AO.vec zj z0.t.t.1]⟩)
theorem zjQ:zL IS.P 102 Tryz.f102 1:=bS kw
def WR(y:zm aq):Tr (Ia⊕aw):=Q9 (Ia.h2 (↑y.t.t.1.length:Int) 0 y)
def HN(i13:Int)(i14:Int)(z0:zm aq)(a0:zf)(a1:Sem zj)(a2:Sem zg×Sem zg):Tr (Ia⊕aw):=br (Q0 (i14<i13)) (Qc (zK i14 z0.t.t.1.length) (Qc (Q0 (i14.toNat<z0.t.t.1.length)) (br (zT (z0.t.q.2.1,z0.t.t.1,z0.t.t.2.1,[],[],a0) a1.1!=i14) (re (ai 7) (ay aq z0)) (Q9 (Ia.h2 i13 (IntKind.i64.wrap (i14+1)) z0))))) (br (zf.op z0.t.t.q.1==[]) (re (ai 0) (ay aq z0)) (br (bif a2.2==0 then bif a2.1!=3 then a2.1!=0 else Q4 else Q4) (re (ai 5) (ay aq z0)) (re (ai a2.2) (ay aq z0))))
def Mw(i13:Int)(i14:Int)(z0:zm aq):Tr (Ia⊕aw):=
 let a0:=zn z0.t.t.q.1
 let a1:=z0.t.t.1.getD i14.toNat (zi zj)
 let a2:=bK a0 z0.t.t.1
 HN i13 i14 z0 a0 a1 a2
theorem zhW(y:zm aq):rn IS 2 SX Tryz.f102 [Qf 0 0] (ay aq y)=(WR y).map (lf Tryz.f102 Rq):=kw
def Ku:Ia->Tr (Ia⊕aw)
 |.h2 i13 i14 z0=>Mw i13 i14 z0
theorem zkw:∀s,run IS 2 SX (Func.results Tryz.f102).toList 400 (ag Tryz.f102 (Rq s).1) (Rq s).2=(Ku s).map (lf Tryz.f102 Rq)|.h2 i13 i14 z0=>by kernel_rfl
def uc(y:zm aq):Option (zz (Qi Q1 [zg])×zm aq):=kS [zg] aq Ku 100000000 (WR y)
def gA(y:zm aq):Bool:=(uc y).isSome
def fq(y:zm aq):(Sem zg)×zm aq:=(λr:zz (Qi Q1 [zg])×zm aq=>(r.1.1,r.2)) ((uc y).getD (cg [zg],fY aq))
def zfl:ac:=si aq [] [zg] aq (λy _=>gA y) λy _=>(((fq y).1,()),(fq y).2)
theorem zbf:FK 102 zfl:=ky (keep:=SX) (gas:=400) (n:=100000000) (e:=Rq) (t:=Ku) (i:=λy x=>WR y) EB zjQ (λy x=>zhW y) zkw (λ_ _=>by kernel_rfl) (λ_ _=>by kernel_rfl)
def RR:=IS.add 102 zfl
theorem EC:zy RR:=EB.add zbf
def zfR:ac:=bm (List.replicate 2 Q2) (fk RR Tryz.f148 (List.replicate 2 Q2))
theorem zbO:FK 148 zfR:=ce _ EC (bS kw)
def IT:=RR.add 148 zfR
theorem wi:zy IT:=EC.add zbO
abbrev Au(s:List zD)(l:LF)(i:Int):St:={tmps:=[.sl zu l,.clo (.func 148) [] [.ptr 0 0],.any,.any,.any,.any,.any,.int .i64 l.length,.int .i64 i,.any,.any,.any,.any,.any,.any,.any,.any,.any,.any],heap:=[.box [.sl .str s]]}
theorem Sg(s:List zD)(l:LF):run IT 1 yo Tryz.f199.results.toList 300 (bx Tryz.f199) (bg Tryz.f199.ntmps [.sl zu l,.clo (.func 148) [] [.ptr 0 0]] [.box [.sl .str s]])=.ok (.head 2 (ag Tryz.f199 2) (Au s l 0)):=kw
theorem TO(s:List zD)(l:LF)(i:Int):run IT 1 yo Tryz.f199.results.toList 300 (ag Tryz.f199 2) (Au s l i)=nF (K:=ag Tryz.f199 2) (e:=zu) l (λx=>aD s x.2) (Au s l) [.box [.sl .str s]] i:=kw
theorem TG:zL IT.P 199 Tryz.f199 2:=bS kw
def zhm:il [Q1 (.sl zu),Q2]:=λx h=>match x,h with
 |(l,.clo (.func 148) [] [.ptr 0 0],_),[.box [.sl .str s]]=>.ok (.int .i64 (zW (λx=>aD s x.2) l 0),[.box [.sl .str s]])
 |_,_=>.err
def zf6:ac:=bm [Q1 (.sl zu),Q2] zhm
theorem zb4:FK 199 zf6:=by
 refine dv TG λx h0 res hx C hC=>?_
 unfold zhm at hx;split at hx
 ·rename_i l u s;simp only[Tr.val_ok,bD]at hx;subst hx;refine Reach.len 0 zu l rfl λhl=>?_
  refine zF (n0:=1) wi TG hC (Sg s l) ?_;exact kv l (λx=>aD s x.2) (Au s l) wi TG hC (TO s l) hl _ 0 rfl (be _)
 ·simp at hx
def RT:=IT.add 199 zf6
theorem ED:zy RT:=wi.add zb4
def zfS:ac:=bm (List.replicate 2 Q2) (fk RT Tryz.f150 (List.replicate 2 Q2))
theorem zbP:FK 150 zfS:=ce _ ED (bS kw)
def Zc:=RT.add 150 zfS
theorem wj:zy Zc:=ED.add zbP
abbrev cpR:List CP:=[.d zh]
abbrev zcr:List CP:=[.d .str,.nil,.d zg,.nil,.nil,.d .str,.d zg,.d zg,.d .str,.d .str,.nil,.nil]
abbrev zhr:List CP:=[.d zo,.vec (.sl ze)]
abbrev oJ:List CP:=[.d zl]
abbrev iW:List CP:=[.d .str,.d .str,.d .str,.nil,.nil,.d .str,.nil,.nil,.d .str,.d zg,.d zg,.d .str,.d .str,.nil,.nil,.nil,.d .str,.d zg,.d zg,.d .str,.d .str,.nil,.d .str]
abbrev Rh:List CP:=[.d .str,.d .str,.d .str,.d (.sl .str),.d (.sl zj),.d .str,.d (.sl .str),.vec iS,.d .expr,.d (.sl ze),.nil,.d .expr,.d .str]
abbrev Ri:List CP:=[.d .str,.d .str,.d .str,.d (.sl .str),.d (.sl zj),.d .str,.d (.sl .str),.vec iS,.d .expr,.d (.sl ze),.vec ic,.d .expr,.d .str]
abbrev ziO:Nat->aO:=λj=>if j=6 then{slots:=[1,2,3,4,5],prom:=[(3,Q1 11,.sl ze)]}else{ }
inductive KL where
 |h6 (i4:Int) (i5:Int) (z0:zm cpR) (z1:zm zcr) (z2:zm zhr)
abbrev zly:KL->Nat×St
 |.h6 i4 i5 z0 z1 z2=>(6,⟨tm 38 [(1,Qf 0 0),(2,Qf 1 0),(3,Qf 2 0),(4,ai i4),(5,ai i5)],[Qa (bv [] cpR z0),Qa (bv [] zcr z1),Qa (bv [3] zhr z2),AO.vec ze.sl z2.2.1]⟩)
def zcY(x0:Sem zh):Tr (KL⊕aw):=
 let a0:=(Dl (x0.1.1,x0.1.2.1,x0.1.2.2.1,x0.1.2.2.2.1,x0.1.t.1,zn x0.1.t.2),[],())
 br (Q0 ((↑(length x0.2):Int)>200)) (Q9 (KL.h6 201 0 (x0,()) ([],0,[],0,0,[],[],()) a0))
 (Q9 (KL.h6 40 0 (x0,()) ([],0,[],0,0,[],[],()) a0))
def P1:KL->Tr (KL⊕aw)
 | .h6 i4 i5 z0 z1 z2=>
  let a0:=(↑(length z0.1.2):Int)
  let a1:=[iR (getD z0.1.2 i5.toNat (zi ze.sl))]
  br (bif Q0 (i5<a0)then Q0 (i5<i4)else Q4)
  (Qc (zK i5 (length z0.1.2))
   (Qc (Q0 (z2.2.1.length+a1.length<=1073741824)) (Q9 (KL.h6 i4 (IntKind.i64.wrap (i5+1)) z0 z1 (z2.1,z2.2.1++a1,())))))
  (re
   (agg [str z2.1.1,sl zj z2.1.2.1,ai z2.1.2.2.1,sl zg z2.1.2.2.2.1,sl zu z2.1.t.1,str (zf.op z2.1.t.2),ai (zf.v z2.1.t.2).1,ai (zf.v z2.1.t.2).2.1,str (zf.v z2.1.t.2).2.2,str (zf.s z2.1.t.2),sl Q5 (zf.l z2.1.t.2),AV.vec 0])
   [AO.vec ze.sl z2.2.1])
def BP(x0:Sem zh):=al [zh] P1 100000000 (zcY x0)
def LD(x0:Sem zh):=(BP x0).isSome
def xQ(x0:Sem zh):=o1 (BP x0)
def zeZ:=FT [zh] [zh] λx=>BP x.1
theorem zaR:FK 37 zeZ:=wj.T1 (f:=Tryz.f37) (keep:=ziO) (e:=zly)
abbrev zni:Nat->aO:=λj=>if j=3 then{slots:=[1,2,3,4],prom:=[(3,Q1 7,iS)]}else if j=7 then{slots:=[1,2,3,5],prom:=[(3,Q1 15,ic)]}else{ }
inductive YX where
 |h3 (i4:Int) (z0:zm oJ) (z1:zm iW) (z2:zm Rh)
 |h7 (i5:Int) (z0:zm oJ) (z1:zm iW) (z2:zm Ri)
abbrev e8p:YX->Nat×St
 |.h3 i4 z0 z1 z2=>(3,⟨tm 103 [(1,Qf 0 0),(2,Qf 1 0),(3,Qf 2 0),(4,ai i4)],[Qa (bv [] oJ z0),Qa (bv [] iW z1),Qa (bv [3] Rh z2),AO.vec (Sh.str.pr Q6) z2.t.q.2.1]⟩)
 |.h7 i5 z0 z1 z2=>(7,⟨tm 103 [(1,Qf 0 0),(2,Qf 1 0),(3,Qf 2 0),(5,ai i5)],[Qa (bv [] oJ z0),Qa (bv [] iW z1),Qa (bv [3,4] Ri z2),AO.vec (Sh.str.pr Q6) z2.t.q.2.1,AO.vec (Sh.str.pr Q5) z2.t.t.q.1]⟩)
def i8p(x0:Sem zl):Tr (YX⊕aw):=
 Qc (fm x0.1)
 (Qc (fm x0.2.1)
  (Qc (fm x0.2.2.1) (Qc (fm x0.t.2.1) (Qc (fm x0.t.t.t) (Qc (pk x0.2.2.2.1) (Qc (pk x0.t.q.1) (Q9 (YX.h3 0 (x0,()) ([],[],[],[],[],0,0,[],[],[],0,0,[],[],[],()) (cZ x0.1,cZ x0.2.1,cZ x0.2.2.1,j5 x0.2.2.2.1,jD x0.t.1,
  cZ x0.t.2.1,j5 x0.t.q.1,[],gP (zn x0.t.t.1),iR x0.t.t.2.1,gP (zn x0.t.t.q.2.1),cZ x0.t.t.t,())))))))))
def XP:YX->Tr (YX⊕aw)
 | .h3 i4 z0 z1 z2=>
  let a0:=(↑(length z0.1.t.q.2.1):Int)
  let a1:=zK i4 (length z0.1.t.q.2.1)
  let a2:=getD z0.1.t.q.2.1 i4.toNat (zi iS)
  let a3:=[(cZ a2.1,cZ a2.2)]
  br (bif Q0 (i4<a0)then Q0 (i4<10)else Q4)
  (Qc a1
   (Qc (fm a2.1) (Qc a1 (Qc (fm a2.2) (Qc (Q0 (z2.t.q.2.1.length+a3.length<=1073741824)) (Q9 (YX.h3 (IntKind.i64.wrap (i4+1)) z0 z1 (z2.1,z2.2.1,z2.2.2.1,z2.2.2.2.1,z2.t.1,z2.t.2.1,z2.t.q.1,z2.t.q.2.1++a3,z2.t.t))))))))
  (Q9
   (YX.h7 0 z0 z1 (z2.1,z2.2.1,z2.2.2.1,z2.2.2.2.1,z2.t.1,z2.t.2.1,z2.t.q.1,z2.t.q.2.1,z2.t.t.1,z2.t.t.2.1,[],z2.t.t.q)))
 | .h7 i5 z0 z1 z2=>
  let a0:=(↑(length z0.1.t.t.q.1):Int)
  let a1:=zK i5 (length z0.1.t.t.q.1)
  let a2:=getD z0.1.t.t.q.1 i5.toNat (zi ic)
  let a3:=[(cZ a2.1,zn (gP (zn a2.2)))]
  br (bif Q0 (i5<a0)then Q0 (i5<10)else Q4)
  (Qc a1
   (Qc (fm a2.1) (Qc a1 (Qc (Q0 (z2.t.t.q.1.length+a3.length<=1073741824)) (Q9 (YX.h7 (IntKind.i64.wrap (i5+1)) z0 z1 (z2.1,z2.2.1,z2.2.2.1,z2.2.2.2.1,z2.t.1,z2.t.2.1,z2.t.q.1,z2.t.q.2.1,z2.t.t.1,z2.t.t.2.1,z2.t.t.q.1++a3,z2.t.t.q.2)))))))
  (re
   (agg [str z2.1,str z2.2.1,str z2.2.2.1,sl Q6 z2.2.2.2.1,sl zj z2.t.1,str z2.t.2.1,sl Q6 z2.t.q.1,AV.vec 0,str (zf.op z2.t.t.1),ai (zf.v z2.t.t.1).1,ai (zf.v z2.t.t.1).2.1,str (zf.v z2.t.t.1).2.2,str (zf.s z2.t.t.1),
   sl Q5 (zf.l z2.t.t.1),sl ze z2.t.t.2.1,AV.vec 1,str (zf.op z2.t.t.q.2.1),ai (zf.v z2.t.t.q.2.1).1,ai (zf.v z2.t.t.q.2.1).2.1,str (zf.v z2.t.t.q.2.1).2.2,str (zf.s z2.t.t.q.2.1),
   sl Q5 (zf.l z2.t.t.q.2.1),str z2.t.t.t.1])
   [AO.vec (Sh.str.pr Q6) z2.t.q.2.1,AO.vec (Sh.str.pr Q5) z2.t.t.q.1])
def wy(x0:Sem zl):=al [zl] XP 100000000 (i8p x0)
def LA(x0:Sem zl):=(wy x0).isSome
def S3(x0:Sem zl):=o1 (wy x0)
def F8p:=FT [zl] [zl] λx=>wy x.1
theorem zg7:FK 24 F8p:=wj.T1 (f:=Tryz.f24) (keep:=zni) (e:=e8p)
def Ze:=Zc.addL [(37,zeZ),(24,F8p)]
theorem EI:zy Ze:=wj.addL<|fc zaR<|fc zg7 iM
abbrev znd:Nat->aO:=λj=>if j=3 then{slots:=[0,3,4],prom:=[(3,Q2,zh)]}else{ }
inductive H7p where
 |h3 (l0:List (Sem zh)) (i4:Int) (lh_0:List (Sem zh))
abbrev e7p:H7p->Nat×St
 |.h3 l0 i4 lh_0=>(3,⟨tm 24 [(0,sl zh l0),(3,AV.vec 0),(4,ai i4)],[AO.vec zh lh_0]⟩)
def i7p(x0:Sem zh.sl):Tr (H7p⊕aw):=
 Q9 (H7p.h3 x0 0 [])
def t7p:H7p->Tr (H7p⊕aw)
 | .h3 l0 i4 lh_0=>
  let a0:=l0.getD i4.toNat (zi zh)
  let a1:=((a0.1.1,a0.1.2.1,a0.1.2.2.1,a0.1.2.2.2.1,a0.1.t.1,zn a0.1.t.2),a0.2)
  let a2:=xQ a1
  let a3:=[((a2.1.1,a2.1.2.1,a2.1.2.2.1,a2.1.2.2.2.1,a2.1.t.1,zn a2.1.t.2),a2.2)]
  br (bif Q0 (i4<(↑l0.length:Int))then Q0 (i4<13)else Q4)
  (Qc (zK i4 l0.length)
   (Qc (LD a1) (Qc (Q0 (lh_0.length+a3.length<=1073741824)) (Q9 (H7p.h3 l0 (IntKind.i64.wrap (i4+1)) (lh_0++a3))))))
  (re (AV.vec 0)
   [AO.vec zh lh_0])
def BQ(x0:Sem zh.sl):=al [zh.sl] t7p 100000000 (i7p x0)
def LG(x0:Sem zh.sl):=(BQ x0).isSome
def E6(x0:Sem zh.sl):=o1 (BQ x0)
def F7p:=FT [zh.sl] [zh.sl] λx=>BQ x.1
theorem zgY:FK 23 F7p:=EI.T1 (f:=Tryz.f23) (keep:=znd) (e:=e7p)
def IX:=Ze.add 23 F7p
theorem EJ:zy IX:=EI.add zgY
abbrev SW:Nat->aO:=λj=>if j=3 then{slots:=[0,3,14,15,16]}else if j=11 then{slots:=[0,3,55,56,57]}else{ }
inductive vG where
 |h3 (l14:LS) (i15:Int) (i16:Int) (z0:zm bl) (jb0:LS)
 |h11 (l55:List (Sem zh)) (i56:Int) (i57:Int) (z0:zm bl) (jb0:LS)
abbrev Rp:vG->Nat×St
 |.h3 l14 i15 i16 z0 jb0=>(3,⟨tm 122 [(0,Qf 0 0),(3,Qf 1 0),(14,sl Q6 l14),(15,ai i15),(16,ai i16)],[Qa (bv [] bl z0),Qa [sl Q6 jb0]]⟩)
 |.h11 l55 i56 i57 z0 jb0=>(11,⟨tm 122 [(0,Qf 0 0),(3,Qf 1 0),(55,sl zh l55),(56,ai i56),(57,ai i57)],[Qa (bv [] bl z0),Qa [sl Q6 jb0]]⟩)
theorem zjP:zL IX.P 101 Tryz.f101 1:=bS kw
def WQ(y:zm bl):Tr (vG⊕aw):=
 let a0:=kT (y.t.1,y.t.2.1,y.t.q.1,(y.t.q.2.1,[],y.t.t.1,[],[],zn y.t.t.2.1),[],y.t.t.q.1)
 Q9 (vG.h3 a0 (↑(length a0):Int) 0 y a0)
def HM(l14:LS)(i15:Int)(i16:Int)(z0:zm bl)(jb0:LS)(a0:Sem zg)(a1:Sem zg):Tr (vG⊕aw):=br (Q0 (i16<i15)) (Qc (zK i16 l14.length) (br (Q0 (a0<0)) (re (ai 6) (ay bl z0)) (Q9 (vG.h3 l14 i15 (IntKind.i64.wrap (i16+1)) z0 jb0)))) (br (bif Q0 (a1>=0)then Q3 else z0.t.2.1==z0.t.q.1) (re (ai 7) (ay bl z0)) (Q9 (vG.h11 z0.1 (↑(length z0.1):Int) 0 z0 jb0)))
def Mv(l14:LS)(i15:Int)(i16:Int)(z0:zm bl)(jb0:LS):Tr (vG⊕aw):=
 let a0:=zX z0.1 (l14.getD i16.toNat (zi Q6))
 let a1:=zX z0.1 z0.2.1.2.1
 HM l14 i15 i16 z0 jb0 a0 a1
def Dh(l55:List (Sem zh))(i56:Int)(i57:Int)(z0:zm bl)(jb0:LS)(a0:Sem zh)(a1:Int)(a2:Sem zg)(a3:Sem zg)(a4:Sem zh)(a5:Sem zh):Tr (vG⊕aw):=br (Q0 (i57<i56)) (Qc (zK i57 l55.length) (br (!aD jb0 a0.1.1) (br (Q0 (a1>=0)) (re (ai 10) (ay bl z0)) (Q9 (vG.h11 l55 i56 (IntKind.i64.wrap (i57+1)) z0 jb0))) (Q9 (vG.h11 l55 i56 (IntKind.i64.wrap (i57+1)) z0 jb0)))) (Qc (zK a2 (length z0.1)) (br (!z0.t.q.1==[]) (Qc (zK a3 (length z0.1)) (re (ai 0) (ay bl (z0.1,z0.2.1,a4.1,a5.1,z0.t)))) (re (ai 0) (ay bl (z0.1,z0.2.1,a4.1,z0.2.2.2)))))
def HL(l55:List (Sem zh))(i56:Int)(i57:Int)(z0:zm bl)(jb0:LS):Tr (vG⊕aw):=
 let a0:=l55.getD i57.toNat (zi zh)
 let a1:=zW (λx=>aD jb0 x.2) a0.1.t.1 0
 let a2:=zX z0.1 z0.t.2.1
 let a3:=zX z0.1 z0.t.q.1
 let a4:=getD z0.1 (toNat a2) (zi zh)
 let a5:=getD z0.1 (toNat a3) (zi zh)
 Dh l55 i56 i57 z0 jb0 a0 a1 a2 a3 a4 a5
theorem zhV(y:zm bl):rn IX 1 SW Tryz.f101 [Qf 0 0] (ay bl y)=(WQ y).map (lf Tryz.f101 Rp):=kw
def Dg:vG->Tr (vG⊕aw)
 |.h3 l14 i15 i16 z0 jb0=>Mv l14 i15 i16 z0 jb0
 |.h11 l55 i56 i57 z0 jb0=>HL l55 i56 i57 z0 jb0
theorem zkv:∀s,run IX 1 SW (Func.results Tryz.f101).toList 400 (ag Tryz.f101 (Rp s).1) (Rp s).2=(Dg s).map (lf Tryz.f101 Rp)|.h3 l14 i15 i16 z0 jb0=>by kernel_rfl|.h11 l55 i56 i57 z0 jb0=>by kernel_rfl
def qo(y:zm bl):Option (zz (Qi Q1 [zg])×zm bl):=kS [zg] bl Dg 100000000 (WQ y)
def mG(y:zm bl):Bool:=(qo y).isSome
def mF(y:zm bl):(Sem zg)×zm bl:=(λr:zz (Qi Q1 [zg])×zm bl=>(r.1.1,r.2)) ((qo y).getD (cg [zg],fY bl))
def zfj:ac:=si bl [] [zg] bl (λy _=>mG y) λy _=>(((mF y).1,()),(mF y).2)
theorem zbd:FK 101 zfj:=ky (keep:=SW) (gas:=400) (n:=100000000) (e:=Rp) (t:=Dg) (i:=λy x=>WQ y) EJ zjP (λy x=>zhV y) zkv (λ_ _=>by kernel_rfl) (λ_ _=>by kernel_rfl)
def IU:=IX.add 101 zfj
theorem EE:zy IU:=EJ.add zbd
abbrev dK:List CP:=[.d (.sl zh),.d zl,.d zo,.d zo,.d .str,.d .str,.d .str,.d .str,.vec zj,.d zg,.nil,.nil,.d .expr,.vec zg,.d zg]
abbrev SZ:Nat->aO:=λj=>if j=3 then{slots:=[1,3,14,15,16,0],prom:=[(0,Q1 60,.int .i64),(0,Q1 50,zj)]}else if j=12 then{slots:=[1,63,64,65,0]}else if j=1000000 then{sett:=[(0,60)]}else{ }
inductive r7 where
 |h3 (l14:LS) (i15:Int) (i16:Int) (z0:zm dK)
 |h12 (i64:Int) (i65:Int) (z0:zm dK)
 |h12b (i64:Int) (i65:Int) (z0:zm dK)
abbrev Rs:r7->Nat×St
 |.h3 l14 i15 i16 z0=>(3,⟨tm 80 [(0,Qf 0 0),(1,Qf 1 0),(3,AV.clo (Fn.func 185) [] [Qf 1 0]),(14,sl Q6 l14),(15,ai i15),(16,ai i16)],[Qa (bv [2,3] dK z0),Qa [Qf 0 0],AO.vec zj z0.t.t.1,AO.vec zg z0.t.t.q.2.1]⟩)
 |.h12 i64 i65 z0=>(12,⟨tm 80 [(0,Qf 0 0),(1,Qf 1 0),(63,AV.vec 2),(64,ai i64),(65,ai i65)],[Qa (bv [3,2] dK z0),Qa [Qf 0 0],AO.vec zg z0.t.t.q.2.1,AO.vec zj z0.t.t.1]⟩)
 |.h12b i64 i65 z0=>(12,⟨tm 80 [(0,Qf 0 0),(1,Qf 1 0),(63,AV.vec 2),(64,ai i64),(65,ai i65)],[Qa (bv [3,2] dK z0),Qa [Qf 0 0],AO.frz zg z0.t.t.q.2.1,AO.vec zj z0.t.t.1]⟩)
theorem zkd:zL IU.P 138 Tryz.f138 1:=bS kw
def WW(y:zm bl):Tr (r7⊕aw):=Q9 (r7.h3 y.2.1.2.2.2.1 (↑(length y.2.1.2.2.2.1):Int) 0 (y.1,y.2.1,y.2.2.1,y.2.2.2.1,y.t.1,y.t.2.1,y.t.q.1,y.t.q.2.1,[],y.t.t.1,y.t.t.2.1,[],y.t.t.q))
def HQ(l14:LS)(i15:Int)(i16:Int)(z0:zm dK)(a0:Sem zg)(a1:LI)(a2:LC):Tr (r7⊕aw):=br (Q0 (i16<i15)) (Qc (zK i16 l14.length) (br (Q0 (a0<0)) (re (ai 4) (ay aq z0)) (Qc (Q0 (z0.t.t.q.2.1.length+a1.length<=1073741824)) (Qc (zK a0 (length z0.2.2.1.2.1)) (Qc (Q0 (z0.t.t.1.length+a2.length<=1073741824)) (Q9 (r7.h3 l14 i15 (IntKind.i64.wrap (i16+1)) (z0.1,z0.2.1,z0.2.2.1,z0.2.2.2.1,z0.t.1,z0.t.2.1,z0.t.q.1,z0.t.q.2.1,z0.t.t.1++a2,z0.t.t.2.1,z0.t.t.q.1,z0.t.t.q.2.1++a1,z0.t.t.t)))))))) (Q9 (r7.h12 (↑z0.t.t.q.2.1.length:Int) 0 z0))
def Mz(l14:LS)(i15:Int)(i16:Int)(z0:zm dK):Tr (r7⊕aw):=
 let a0:=zT (z0.2.2.1.1,z0.2.2.1.2.1,z0.2.2.1.2.2.1,z0.2.2.1.2.2.2.1,z0.2.2.1.t.1,zn z0.2.2.1.t.2) (l14.getD i16.toNat (zi Q6))
 let a1:=[a0]
 let a2:=[getD z0.2.2.1.2.1 (toNat a0) (zi zj)]
 HQ l14 i15 i16 z0 a0 a1 a2
def Dk(i64:Int)(i65:Int)(z0:zm dK)(a0:Int):Tr (r7⊕aw):=br (Q0 (i65<i64)) (Qc (zK i65 z0.t.t.q.2.1.length) (Qc (Q0 (i65.toNat<z0.t.t.q.2.1.length)) (Qc (Q0 (0<=0)&&Q0 (0<=i65)&&Q0 (i65<=a0)) (br (sL (List.take (i65.toNat-toNat 0) (List.drop (toNat 0) z0.t.t.q.2.1)) (z0.t.t.q.2.1.getD i65.toNat (zi zg))) (re (ai 7) (ay aq z0)) (Q9 (r7.h12b i64 (IntKind.i64.wrap (i65+1)) z0)))))) (re (ai 0) (ay aq z0))
def HP(i64:Int)(i65:Int)(z0:zm dK):Tr (r7⊕aw):=
 let a0:=(↑z0.t.t.q.2.1.length:Int)
 Dk i64 i65 z0 a0
def wZ(i64:Int)(i65:Int)(z0:zm dK)(a0:Int):Tr (r7⊕aw):=br (Q0 (i65<i64)) (Qc (zK i65 z0.t.t.q.2.1.length) (Qc (Q0 (0<=0)&&Q0 (0<=i65)&&Q0 (i65<=a0)) (br (sL (List.take (i65.toNat-toNat 0) (List.drop (toNat 0) z0.t.t.q.2.1)) (z0.t.t.q.2.1.getD i65.toNat (zi zg))) (re (ai 7) (ay aq z0)) (Q9 (r7.h12b i64 (IntKind.i64.wrap (i65+1)) z0))))) (re (ai 0) (ay aq z0))
def Dj(i64:Int)(i65:Int)(z0:zm dK):Tr (r7⊕aw):=
 let a0:=(↑z0.t.t.q.2.1.length:Int)
 wZ i64 i65 z0 a0
theorem zh4(y:zm bl):rn IU 1 SZ Tryz.f138 [Qf 0 0] (ay bl y)=(WW y).map (lf Tryz.f138 Rs):=kw
def pM:r7->Tr (r7⊕aw)
 |.h3 l14 i15 i16 z0=>Mz l14 i15 i16 z0
 |.h12 i64 i65 z0=>HP i64 i65 z0
 |.h12b i64 i65 z0=>Dj i64 i65 z0
theorem zkC:∀s,run IU 1 SZ (Func.results Tryz.f138).toList 400 (ag Tryz.f138 (Rs s).1) (Rs s).2=(pM s).map (lf Tryz.f138 Rs)|.h3 l14 i15 i16 z0=>by kernel_rfl|.h12 i64 i65 z0=>by kernel_rfl|.h12b i64 i65 z0=>by kernel_rfl
def yO(y:zm bl):Option (zz (Qi Q1 [zg])×zm aq):=kS [zg] aq pM 100000000 (WW y)
def nH(y:zm bl):Bool:=(yO y).isSome
def jU(y:zm bl):(Sem zg)×zm aq:=(λr:zz (Qi Q1 [zg])×zm aq=>(r.1.1,r.2)) ((yO y).getD (cg [zg],fY aq))
def zfI:ac:=si bl [] [zg] aq (λy _=>nH y) λy _=>(((jU y).1,()),(jU y).2)
theorem zbG:FK 138 zfI:=ky (ps:=bl) (ks:=[]) (outs:=[zg]) (keep:=SZ) (gas:=400) (n:=100000000) (e:=Rs) (t:=pM) (i:=λy x=>WW y) EE zkd (λy x=>zh4 y) zkC (λ_ _=>by kernel_rfl) (λ_ _=>by kernel_rfl)
def EF:=IU.add 138 zfI
theorem wk:zy EF:=EE.add zbG
abbrev Pe(y:zm bl):zm bl:=(y.1,(y.2.1.1,y.2.1.2.1,y.2.1.2.2.1,y.2.1.2.2.2.1,y.2.1.t.1,y.2.1.t.2.1,y.2.1.t.q.1,y.2.1.t.q.2.1,zn y.2.1.t.t.1,y.2.1.t.t.2.1,y.2.1.t.t.q.1,zn y.2.1.t.t.q.2.1,y.2.1.t.t.t),(y.2.2.1.1,y.2.2.1.2.1,y.2.2.1.2.2.1,y.2.2.1.2.2.2.1,y.2.2.1.t.1,zn y.2.2.1.t.2),(y.2.2.2.1.1,y.2.2.2.1.2.1,y.2.2.2.1.2.2.1,y.2.2.2.1.2.2.2.1,y.2.2.2.1.t.1,zn y.2.2.2.1.t.2),y.t.1,y.t.2.1,y.t.q.1,y.t.q.2.1,y.t.t.1,zn y.t.t.2.1,y.t.t.q.1,())
abbrev Nc(y:zm aq):zm aq:=(y.1,(y.2.1.1,y.2.1.2.1,y.2.1.2.2.1,y.2.1.2.2.2.1,y.2.1.t.1,y.2.1.t.2.1,y.2.1.t.q.1,y.2.1.t.q.2.1,zn y.2.1.t.t.1,y.2.1.t.t.2.1,y.2.1.t.t.q.1,zn y.2.1.t.t.q.2.1,y.2.1.t.t.t),(y.2.2.1.1,y.2.2.1.2.1,y.2.2.1.2.2.1,y.2.2.1.2.2.2.1,y.2.2.1.t.1,zn y.2.2.1.t.2),(y.2.2.2.1.1,y.2.2.2.1.2.1,y.2.2.2.1.2.2.1,y.2.2.2.1.2.2.2.1,y.2.2.2.1.t.1,zn y.2.2.2.1.t.2),y.t.1,y.t.2.1,y.t.q.1,y.t.q.2.1,y.t.t.1,y.t.t.2.1,zn y.t.t.q.1,y.t.t.q.2.1,y.t.t.t.1,())
abbrev ZP:Nat->aO:=λ_=>{ }
theorem zjK:zL EF.P 95 Tryz.f95 1:=bS kw
def Sz(_:zm bl)(a0:Sem zh.sl×zm [CP.d zl,CP.d zo,CP.d zo,CP.d Q6,CP.d Q6,CP.d Q6,CP.d Q6,CP.nil,CP.d zg,CP.nil,CP.nil,CP.d Q5,CP.nil,CP.d zg])(a1:Sem zg×zm aq)(a2:Sem zg):Tr (Empty⊕aw):=Qc (nH a0) (br (a1.1!=0) (re (ai a1.1) (ay aq a1.2)) (br (Q0 (a2<0)) (re (ai 1) (ay aq (a1.2.1,a1.2.2.1,a1.2.2.2.1,a1.t.1,a1.t.2.1,a1.t.q.1,a1.t.q.2.1,a1.t.t.1,a1.t.t.2.1,a2,a1.t.t.q.2))) (re (ai 0) (ay aq (a1.2.1,a1.2.2.1,a1.2.2.2.1,a1.t.1,a1.t.2.1,a1.t.q.1,a1.t.q.2.1,a1.t.t.1,a1.t.t.2.1,a2,a1.t.t.q.2)))))
def Sy(y:zm bl):Tr (Empty⊕aw):=
 let a0:=Pe y
 let a1:=jU a0
 let a2:=g6 a1.t.t.t.1 a1.2.2.2.1.2.2.1
 Sz y a0 a1 a2
theorem zhR(y:zm bl):rn EF 1 ZP Tryz.f95 [Qf 0 0] (ay bl y)=(Sy y).map (lf Tryz.f95 e0):=kw
def GG(y:zm bl):Option (zz (Qi Q1 [zg])×zm aq):=kS [zg] aq t0 100000000 (Sy y)
def GF(y:zm bl):Bool:=(GG y).isSome
def Fa(y:zm bl):(Sem zg)×zm aq:=(λr:zz (Qi Q1 [zg])×zm aq=>(r.1.1,r.2)) ((GG y).getD (cg [zg],fY aq))
def zfb:ac:=si bl [] [zg] aq (λy _=>GF y) λy _=>(((Fa y).1,()),(Fa y).2)
theorem za5:FK 95 zfb:=ky (keep:=ZP) (gas:=400) (n:=100000000) (e:=e0) (t:=t0) (i:=λy x=>Sy y) wk zjK (λy x=>zhR y) (U9 _ _ _ _ _) (λ_ _=>by kernel_rfl) (λ_ _=>by kernel_rfl)
abbrev ZR:Nat->aO:=λ_=>{ }
theorem zjN:zL EF.P 97 Tryz.f97 1:=bS kw
def SB(_:zm bl)(a0:Sem zh.sl×zm [CP.d zl,CP.d zo,CP.d zo,CP.d Q6,CP.d Q6,CP.d Q6,CP.d Q6,CP.nil,CP.d zg,CP.nil,CP.nil,CP.d Q5,CP.nil,CP.d zg])(a1:Sem zg×zm aq)(a2:Sem zj)(_:Sem zj)(a4:LC)(a5:Sem zj):Tr (Empty⊕aw):=Qc (nH a0) (br (a1.1!=0) (re (ai a1.1) (ay aq a1.2)) (Qc (zK 1 a1.t.t.2.1.length) (Qc (Q0 (toNat 1<a1.t.t.2.1.length)) (br (a2.2.1!=1) (re (ai 5) (ay aq a1.2)) (Qc (zK 0 a1.t.t.2.1.length) (Qc (Q0 (toNat 0<a1.t.t.2.1.length)) (Qc (zK 1 a4.length) (Qc (Q0 (toNat 1<a4.length)) (re (ai 0) (ay aq (a1.2.1,a1.2.2.1,a1.2.2.2.1,a1.t.1,a1.t.2.1,a1.t.q.1,a1.t.q.2.1,a1.t.t.1,a4.set (toNat 1) (a5.1,a5.2.1,Q4),a1.t.t.q)))))))))))
def SA(y:zm bl):Tr (Empty⊕aw):=
 let a0:=Pe y
 let a1:=jU a0
 let a2:=a1.t.t.2.1.getD (toNat 1) (zi zj)
 let a3:=a1.t.t.2.1.getD (toNat 0) (zi zj)
 let a4:=a1.t.t.2.1.set (toNat 0) (a3.1,a3.2.1,Q3)
 let a5:=a4.getD (toNat 1) (zi zj)
 SB y a0 a1 a2 a3 a4 a5
theorem zhU(y:zm bl):rn EF 1 ZR Tryz.f97 [Qf 0 0] (ay bl y)=(SA y).map (lf Tryz.f97 e0):=kw
def yN(y:zm bl):Option (zz (Qi Q1 [zg])×zm aq):=kS [zg] aq t0 100000000 (SA y)
def yM(y:zm bl):Bool:=(yN y).isSome
def wA(y:zm bl):(Sem zg)×zm aq:=(λr:zz (Qi Q1 [zg])×zm aq=>(r.1.1,r.2)) ((yN y).getD (cg [zg],fY aq))
def zfg:ac:=si bl [] [zg] aq (λy _=>yM y) λy _=>(((wA y).1,()),(wA y).2)
theorem zba:FK 97 zfg:=ky (keep:=ZR) (gas:=400) (n:=100000000) (e:=e0) (t:=t0) (i:=λy x=>SA y) wk zjN (λy x=>zhU y) (U9 _ _ _ _ _) (λ_ _=>by kernel_rfl) (λ_ _=>by kernel_rfl)
def IW:=EF.addL [(95,zfb),(97,zfg)]
theorem EG:zy IW:=wk.addL<|fc za5<|fc zba iM
abbrev SV:Nat->aO:=λj=>if j=11 then{slots:=[0,83,84,85],prom:=[(0,Q1 60,.int .i64)]}else if j=1000000 then{prom:=[(0,Q1 50,zj),(0,Q1 60,.int .i64)],sett:=[(0,60)]}else{ }
inductive DE where
 |h11 (l83:LC) (i84:Int) (i85:Int) (z0:zm dK)
abbrev Ro:DE->Nat×St
 |.h11 l83 i84 i85 z0=>(11,⟨tm 124 [(0,Qf 0 0),(83,sl zj l83),(84,ai i84),(85,ai i85)],[Qa (bv [1,2] dK z0),AO.vec zj z0.t.t.1,AO.vec zg z0.t.t.q.2.1]⟩)
theorem zjM:zL IW.P 96 Tryz.f96 1:=bS kw
def Jg(y:zm bl)(a0:Sem zg)(a1:Sem Q5×List (Sem zg)×Sem zg×Unit)(a2:Int)(a3:Int):Tr (DE⊕aw):=br (Q0 (a0<0)) (re (ai 4) (ay aq (y.1,y.2.1,y.2.2.1,y.2.2.2.1,y.t.1,y.t.2.1,y.t.q.1,y.t.q.2.1,[],y.t.t.1,a1))) (br (!jR y.2.2.1.t.1 (a0,y.t.q.1)) (re (ai 10) (ay aq (y.1,y.2.1,y.2.2.1,y.2.2.2.1,y.t.1,y.t.2.1,y.t.q.1,y.t.q.2.1,[],y.t.t.1,a1))) (br (Q0 (a3>8)) (re (ai 13) (ay aq (y.1,y.2.1,y.2.2.1,y.2.2.2.1,y.t.1,y.t.2.1,y.t.q.1,y.t.q.2.1,[],y.t.t.1,a1))) (Qc (Q0 (length y.2.2.1.2.1<=1073741824)) (Q9 (DE.h11 y.2.2.2.1.2.1 a2 0 (y.1,y.2.1,y.2.2.1,y.2.2.2.1,y.t.1,y.t.2.1,y.t.q.1,y.t.q.2.1,y.2.2.1.2.1,y.2.2.1.2.2.1,a1))))))
def Gv(y:zm bl):Tr (DE⊕aw):=
 let a0:=zT (y.2.2.1.1,y.2.2.1.2.1,y.2.2.1.2.2.1,y.2.2.1.2.2.2.1,y.2.2.1.t.1,zn y.2.2.1.t.2) y.2.1.t.2.1
 let a1:=(y.t.t.2.1,[],a0,())
 let a2:=(↑(length y.2.2.2.1.2.1):Int)
 let a3:=IntKind.i64.wrap (IntKind.i64.wrap ((↑(length y.2.2.1.2.1):Int)+a2)-1)
 Jg y a0 a1 a2 a3
def Df(l83:LC)(i84:Int)(i85:Int)(z0:zm dK)(a0:LC)(a1:Int):Tr (DE⊕aw):=br (Q0 (i85<i84)) (Qc (zK i85 l83.length) (br (i85 !=z0.2.2.2.1.2.2.1) (Qc (Q0 (z0.t.t.q.2.1.length+[i85].length<=1073741824)) (Qc (Q0 (z0.t.t.1.length+a0.length<=1073741824)) (Q9 (DE.h11 l83 i84 a1 (z0.1,z0.2.1,z0.2.2.1,z0.2.2.2.1,z0.t.1,z0.t.2.1,z0.t.q.1,z0.t.q.2.1,z0.t.t.1++a0,z0.t.t.2.1,z0.t.t.q.1,z0.t.t.q.2.1++[i85],z0.t.t.t))))) (Q9 (DE.h11 l83 i84 a1 z0)))) (re (ai 0) (ay aq z0))
def HK(l83:LC)(i84:Int)(i85:Int)(z0:zm dK):Tr (DE⊕aw):=
 let a0:=[l83.getD i85.toNat (zi zj)]
 let a1:=IntKind.i64.wrap (i85+1)
 Df l83 i84 i85 z0 a0 a1
theorem zhS(y:zm bl):rn IW 1 SV Tryz.f96 [Qf 0 0] (ay bl y)=(Gv y).map (lf Tryz.f96 Ro):=kw
def Kt:DE->Tr (DE⊕aw)
 |.h11 l83 i84 i85 z0=>HK l83 i84 i85 z0
theorem zks:∀s,run IW 1 SV (Func.results Tryz.f96).toList 400 (ag Tryz.f96 (Ro s).1) (Ro s).2=(Kt s).map (lf Tryz.f96 Ro)|.h11 l83 i84 i85 z0=>by kernel_rfl
def BU(y:zm bl):Option (zz (Qi Q1 [zg])×zm aq):=kS [zg] aq Kt 100000000 (Gv y)
def GH(y:zm bl):Bool:=(BU y).isSome
def Fb(y:zm bl):(Sem zg)×zm aq:=(λr:zz (Qi Q1 [zg])×zm aq=>(r.1.1,r.2)) ((BU y).getD (cg [zg],fY aq))
def zfd:ac:=si bl [] [zg] aq (λy _=>GH y) λy _=>(((Fb y).1,()),(Fb y).2)
theorem za7:FK 96 zfd:=ky (keep:=SV) (gas:=400) (n:=100000000) (e:=Ro) (t:=Kt) (i:=λy x=>Gv y) EG zjM (λy x=>zhS y) zks (λ_ _=>by kernel_rfl) (λ_ _=>by kernel_rfl)
def Zd:=IW.add 96 zfd
theorem EH:zy Zd:=EG.add za7
abbrev mI:AV:=agg [str [],str [],str [],str [],nils,ai 0,nils,nils,str [],ai 0,ai 0,str [],str [],nils,nils,ai 0]
abbrev wI(z:zm aq):AV:=agg [str z.t.1,str z.t.2.1,str z.t.q.1,str z.t.q.2.1,AV.vec 0,ai z.t.t.2.1,nils,nils,str (zf.op z.t.t.q.1),ai (zf.v z.t.t.q.1).1,ai (zf.v z.t.t.q.1).2.1,str (zf.v z.t.t.q.1).2.2,str (zf.s z.t.t.q.1),sl Q5 (zf.l z.t.t.q.1),sl zg z.t.t.q.2.1,ai z.t.t.t.1]
abbrev GP(z:zm bl):AV:=agg [str z.t.1,str z.t.2.1,str z.t.q.1,str z.t.q.2.1,nils,ai z.t.t.1,nils,nils,str (zf.op z.t.t.2.1),ai (zf.v z.t.t.2.1).1,ai (zf.v z.t.t.2.1).2.1,str (zf.v z.t.t.2.1).2.2,str (zf.s z.t.t.2.1),sl Q5 (zf.l z.t.t.2.1),nils,ai z.t.t.q.1]
def Jd(_:Sem zh.sl)(x1:Sem zl)(_:zf)(_:Sem Q6×Sem (Sh.str.pr (Sh.str.pr (Sh.str.sl.pr (zj.sl.pr (Sh.str.pr (Sh.str.sl.pr (iS.sl.pr (Sh.expr.pr (ze.sl.pr (ic.sl.pr (Sh.expr.pr Q6))))))))))))(_:Bool)(a3:Bool)(a4:Bool)(a5:Bool)(_:Sem zh.sl×zm [CP.d zl,CP.d zo,CP.d zo,CP.d Q6,CP.d Q6,CP.d Q6,CP.d Q6,CP.nil,CP.d zg,CP.nil,CP.nil,CP.d Q5,CP.nil,CP.d zg])(a7:Bool)(a8:Sem zg×zm bl)(a9:Bool)(a10:Sem zh.sl×zm [CP.d zl,CP.d zo,CP.d zo,CP.d Q6,CP.d Q6,CP.d Q6,CP.d Q6,CP.nil,CP.d zg,CP.nil,CP.nil,CP.d Q5,CP.nil,CP.d zg])(a11:Sem zg×zm aq)(a12:Sem zh.sl×zm [CP.d zl,CP.d zo,CP.d zo,CP.d Q6,CP.d Q6,CP.d Q6,CP.d Q6,CP.vec zj,CP.d zg,CP.nil,CP.nil,CP.d Q5,CP.d zg.sl,CP.d zg])(a13:Sem zg×zm aq)(a14:Sem zg×zm aq)(a15:Sem zh.sl×zm [CP.d zl,CP.d zo,CP.d zo,CP.d Q6,CP.d Q6,CP.d Q6,CP.d Q6,CP.vec zj,CP.d zg,CP.nil,CP.nil,CP.d Q5,CP.d zg.sl,CP.d zg])(a16:Sem zg×zm aq)(a17:Sem zg×zm aq)(a18:Sem zh.sl×zm [CP.d zl,CP.d zo,CP.d zo,CP.d Q6,CP.d Q6,CP.d Q6,CP.d Q6,CP.vec zj,CP.d zg,CP.nil,CP.nil,CP.d Q5,CP.d zg.sl,CP.d zg])(a19:Sem zg×zm aq):Tr (Empty⊕aw):=
 Qc Q3 (Qc Q3 (Qc Q3 (br (x1.1==[99,111,112,121]) (Qc a3 (br a4 (re (Qe [mI,ai 1]) []) (Qc a5 (Qc a7 (br a9 (Qc (GF a10) (br (a11.1==0) (Qc (gA a12) (br (a13.1!=0) (re (Qe [mI,ai a13.1]) []) (re (Qe [(wI a13.2),ai 0]) [AO.vec zj a13.t.t.2.1]))) (br (a11.1!=0) (re (Qe [mI,ai a11.1]) []) (re (Qe [(wI a11.2),ai 0]) [AO.vec zj a11.t.t.2.1])))) (br a9 Tr.err (br (a8.1!=0) (re (Qe [mI,ai a8.1]) []) (re (Qe [(GP a8.2),ai 0]) [])))))))) (br (x1.1==[106,111,105,110]) (Qc a3 (br a4 (re (Qe [mI,ai 1]) []) (Qc a5 (Qc a7 (br a9 (Qc (GH a10) (br (a14.1==0) (Qc (gA a15) (br (a16.1!=0) (re (Qe [mI,ai a16.1]) []) (re (Qe [(wI a16.2),ai 0]) [AO.vec zj a16.t.t.2.1]))) (br (a14.1!=0) (re (Qe [mI,ai a14.1]) []) (re (Qe [(wI a14.2),ai 0]) [AO.vec zj a14.t.t.2.1])))) (br a9 Tr.err (br (a8.1!=0) (re (Qe [mI,ai a8.1]) []) (re (Qe [(GP a8.2),ai 0]) [])))))))) (br (x1.1==[103,114,111,117,112]) (Qc a3 (br a4 (re (Qe [mI,ai 1]) []) (Qc a5 (Qc a7 (br a9 (Qc (yM a10) (br (a17.1==0) (Qc (gA a18) (br (a19.1!=0) (re (Qe [mI,ai a19.1]) []) (re (Qe [(wI a19.2),ai 0]) [AO.vec zj a19.t.t.2.1]))) (br (a17.1!=0) (re (Qe [mI,ai a17.1])
 []) (re (Qe [(wI a17.2),ai 0]) [AO.vec zj a17.t.t.2.1])))) (br a9 Tr.err (br (a8.1!=0) (re (Qe [mI,ai a8.1]) []) (re (Qe [(GP a8.2),ai 0]) [])))))))) (re (Qe [mI,ai 1]) []))))))
def zcU(x0:Sem zh.sl)(x1:Sem zl):Tr (Empty⊕aw):=
 let a0:=zn x1.t.t.1
 let a1:=(x1.1,x1.2.1,x1.2.2.1,x1.2.2.2.1,x1.t.1,x1.t.2.1,x1.t.q.1,x1.t.q.2.1,a0,x1.t.t.2.1,x1.t.t.q.1,zn x1.t.t.q.2.1,x1.t.t.t)
 let a2:=!dZ a1
 let a3:=nY a1&&bif a2 then Q3 else nh x0
 let a4:=bif a2 then Q3 else kC x0 !=0
 let a5:=rt 16 a0
 let a6:=(x0,a1,([],[],0,[],[],zf.mk [] (0,0,[]) [] []),([],[],0,[],[],zf.mk [] (0,0,[]) [] []),x1.1,x1.2.2.1,x1.t.t.t,x1.2.1,0,a0,0,())
 let a7:=mG a6
 let a8:=mF a6
 let a9:=a8.1==0
 let a10:=Pe a8.2
 let a11:=Fa a10
 let a12:=Nc a11.2
 let a13:=fq a12
 let a14:=Fb a10
 let a15:=Nc a14.2
 let a16:=fq a15
 let a17:=wA a10
 let a18:=Nc a17.2
 let a19:=fq a18
 Jd x0 x1 a0 a1 a2 a3 a4 a5 a6 a7 a8 a9 a10 a11 a12 a13 a14 a15 a16 a17 a18 a19
def JE(x0:Sem zh.sl)(x1:Sem zl):=al [zr,zg] t0 100000000 (zcU x0 x1)
def zdT(x0:Sem zh.sl)(x1:Sem zl):=(JE x0 x1).isSome
def pOf(x0:Sem zh.sl)(x1:Sem zl):=o2 (JE x0 x1)
def zey:=FT [zh.sl,zl] [zr,zg] λx=>JE x.1 x.2.1
theorem zaq:FK 58 zey:=EH.T1 (f:=Tryz.f58) (keep:=k0) (e:=e0)
def M8:=Zd.add 58 zey
theorem my:zy M8:=EH.add zaq
abbrev aJ:List CP:=[.d (.sl zu),.d zg,.d .bool]
def Zy(x0:Sem (Sh.int IntKind.u8)):Tr (Empty⊕aw):=
 let a0:=bif Q0 (97<=x0)then Q0 (x0<=122)else Q4
 re (AV.bool (bif Q0 (65<=x0)then bif Q0 (x0<=90)then Q3 else a0 else a0)) []
def mS(x0:Sem (Sh.int IntKind.u8)):=al [Q7] t0 100000000 (Zy x0)
def kr(x0:Sem (Sh.int IntKind.u8)):=(mS x0).isSome
def mR(x0:Sem (Sh.int IntKind.u8)):=o1 (mS x0)
def Ys:=FT [Sh.int IntKind.u8] [Q7] λx=>mS x.1
theorem VF:FK 123 Ys:=my.T1 (f:=Tryz.f123) (keep:=k0) (e:=e0)
def zid(x0:Sem (Sh.int IntKind.u8)):Tr (Empty⊕aw):=
 re (AV.bool (bif Q0 (48<=x0)then Q0 (x0<=57)else Q4)) []
def uD(x0:Sem (Sh.int IntKind.u8)):=al [Q7] t0 100000000 (zid x0)
def fG(x0:Sem (Sh.int IntKind.u8)):=(uD x0).isSome
def gM(x0:Sem (Sh.int IntKind.u8)):=o1 (uD x0)
def Yu:=FT [Sh.int IntKind.u8] [Q7] λx=>uD x.1
theorem VH:FK 125 Yu:=my.T1 (f:=Tryz.f125) (keep:=k0) (e:=e0)
abbrev zjm:=lx [(2,[0,1,5])]
inductive OD where
 |h2 (l0:LS) (s1:TS) (i5:Int)
abbrev zlW:OD->Nat×St
 |.h2 l0 s1 i5=>(2,⟨tm 18 [(0,sl Q6 l0),(1,str s1),(5,ai i5)],[]⟩)
def zm4(x0:Sem Sh.str.sl)(x1:TS):Tr (OD⊕aw):=
 Q9 (OD.h2 x0 x1 0)
def MA:OD->Tr (OD⊕aw)
 | .h2 l0 s1 i5=>
  br (Q0 (i5<(↑l0.length:Int)))
  (Qc (zK i5 l0.length) (br (l0.getD i5.toNat (zi Q6)==s1) (re (kb Q3) []) (Q9 (OD.h2 l0 s1 (IntKind.i64.wrap (i5+1))))))
  (re (kb Q4) [])
def N0(x0:Sem Sh.str.sl)(x1:TS):=al [Q7] MA 100000000 (zm4 x0 x1)
def xV(x0:Sem Sh.str.sl)(x1:TS):=(N0 x0 x1).isSome
def J9(x0:Sem Sh.str.sl)(x1:TS):=o1 (N0 x0 x1)
def zfY:=FT [Sh.str.sl,Q6] [Q7] λx=>N0 x.1 x.2.1
theorem zbV:FK 78 zfY:=my.T1 (f:=Tryz.f78) (keep:=zjm) (e:=zlW)
abbrev SQ:Nat->aO:=λ_=>{ }
theorem zdE:zL M8.P 88 Tryz.f88 2:=bS kw
def Sp(y:zm aJ)(x0:TS):Tr (Empty⊕aw):=
 let a0:=Q0 (y.2.1<(↑(length y.1):Int))
 let a1:=zK y.2.1 (length y.1)
 let a2:=getD y.1 (toNat y.2.1) (zi zu)
 let a3:=a2.1==1
 let a4:=a2.1==4
 let a5:=a2.2==x0
 Qc (bif a0 then a1&&bif a3 then a1 else a1&&bif a4 then a1 else Q3 else Q3)
 (re (AV.bool (bif a0 then bif a3 then a5 else bif a4 then a5 else Q4 else Q4)) (ay aJ y))
theorem zcD(y:zm aJ)(x0:TS):rn M8 1 SQ Tryz.f88 [Qf 0 0,zH Q6 x0] (ay aJ y)=(Sp y x0).map (lf Tryz.f88 e0):=kw
def Us(y:zm aJ)(x0:TS):Option (zz (Qi Q1 [Q7])×zm aJ):=kS [Q7] aJ t0 100000000 (Sp y x0)
def Ht(y:zm aJ)(x0:TS):Bool:=(Us y x0).isSome
def Kc(y:zm aJ)(x0:TS):(Sem Q7)×zm aJ:=(λr:zz (Qi Q1 [Q7])×zm aJ=>(r.1.1,r.2)) ((Us y x0).getD (cg [Q7],fY aJ))
def Yc:ac:=si aJ [Q6] [Q7] aJ (λy x=>Ht y x.1) λy x=>(((Kc y x.1).1,()),(Kc y x.1).2)
theorem Vp:FK 88 Yc:=ky (ps:=aJ) (ks:=[Q6]) (outs:=[Q7]) (keep:=SQ) (gas:=400) (n:=100000000) (e:=e0) (t:=t0) (i:=λy x=>Sp y x.1) my zdE (λy x=>zcD y x.1) (U9 _ _ _ _ _) (λ_ _=>by kernel_rfl) (λ_ _=>by kernel_rfl)
def o5:=M8.addL [(123,Ys),(125,Yu),(78,zfY),(88,Yc)]
theorem jc:zy o5:=my.addL<|fc VF<|fc VH<|fc zbV<|fc Vp iM
abbrev zde:=lx [(2,[1,3])]
inductive AG where
 |h2 (i3:Int) (z0:zm [CP.d ze])
abbrev zhv:AG->Nat×St
 |.h2 i3 z0=>(2,⟨tm 66 [(1,Qf 0 0),(3,ai i3)],[Qa (bv [] [CP.d ze] z0)]⟩)
def Zt(x0:Sem ze):Tr (AG⊕aw):=
 Q9 (AG.h2 0 (x0,()))
def rW:AG->Tr (AG⊕aw)
 | .h2 i3 z0=>
  let a0:=(↑(length z0.1.2.2):Int)
  let a1:=zK i3 (length z0.1.2.2)
  let a2:=(↑(getD z0.1.2.2 i3.toNat 0).toNat:Int)
  let a3:=Q0 (a2<32)
  let a4:=z0.1.2.1==0
  let a5:=z0.1.2.2==[]
  br (Q0 (i3<a0))
  (Qc (a1&&bif a3 then Q3 else a1)
   (br (bif a3 then Q3 else Q0 (a2>126)) (re (kb Q4) []) (Q9 (AG.h2 (IntKind.i64.wrap (i3+1)) z0))))
  (br (z0.1.1==0) (re (AV.bool (bif a4 then a5 else Q4)) [])
   (br (z0.1.1==1) (re (AV.bool a5) []) (br (z0.1.1==2) (re (AV.bool (bif a4 then Q0 (a0<=40)else Q4)) []) (br (z0.1.1==3) (re (AV.bool (bif a4 then a5 else bif z0.1.2.1==1 then a5 else Q4)) []) (re (kb Q4) [])))))
def GY(x0:Sem ze):=al [Q7] rW 100000000 (Zt x0)
def kW(x0:Sem ze):=(GY x0).isSome
def py(x0:Sem ze):=o1 (GY x0)
def X3:=FT [ze] [Q7] λx=>GY x.1
theorem Vf:FK 21 X3:=jc.T1 (f:=Tryz.f21) (keep:=zde) (e:=zhv)
def zie(x0:Sem Q7):Tr (Empty⊕aw):=
 br x0 (re (agg [ai 3,ai 1,str []]) []) (re (agg [ai 3,ai 0,str []]) [])
def uu(x0:Sem Q7):=al [ze] t0 100000000 (zie x0)
def kX(x0:Sem Q7):=(uu x0).isSome
def aX(x0:Sem Q7):=o1 (uu x0)
def Yy:=FT [Q7] [ze] λx=>uu x.1
theorem VL:FK 210 Yy:=jc.T1 (f:=Tryz.f210) (keep:=k0) (e:=e0)
abbrev SU:Nat->aO:=λ_=>{ }
theorem zdJ:zL o5.P 175 Tryz.f175 1:=bS kw
def Sv(x0:TS):Tr (Empty⊕aw):=
 re
 (AV.bool
  (bif x0==[97,110,100]then Q3
  else bif x0==[111,114]then Q3 else bif x0==[61]then Q3 else bif x0==[60]then Q3 else bif x0==[43]then Q3 else x0==[45]))
 []
theorem zcN(x0:TS):rn o5 0 SU Tryz.f175 [zH Q6 x0] []=(Sv x0).map (lf Tryz.f175 e0):=kw
def L9(x0:TS):Option (zz (Qi Q1 [Q7])):=al [Q7] t0 100000000 (Sv x0)
def G7(x0:TS):Bool:=(L9 x0).isSome
def NW(x0:TS):Sem Q7:=(λr:zz (Qi Q1 [Q7])=>r.1) ((L9 x0).getD (cg [Q7]))
def YM:ac:=zV [Q6] [Q7] (λx=>G7 x.1) λx=>(NW x.1,())
theorem VY:FK 175 YM:=lY (ks:=[Q6]) (outs:=[Q7]) (keep:=SU) (gas:=400) (n:=100000000) (e:=e0) (t:=t0) (i:=λx=>Sv x.1) jc zdJ (λx=>zcN x.1) (U9 _ _ _ _ _) (λ_=>by kernel_rfl) (λ_=>by kernel_rfl)
abbrev SY:Nat->aO:=λj=>if j=2 then{slots:=[0,1,5]}else{ }
inductive Ic where
 |h2 (l0:LC) (s1:TS) (i5:Int)
abbrev Rr:Ic->Nat×St
 |.h2 l0 s1 i5=>(2,⟨tm 20 [(0,sl zj l0),(1,str s1),(5,ai i5)],[]⟩)
theorem zjW:zL o5.P 48 Tryz.f48 2:=bS kw
def WS(x0:Sem zj.sl)(x1:TS):Tr (Ic⊕aw):=
 Q9 (Ic.h2 x0 x1 0)
def HO(l0:LC)(s1:TS)(i5:Int)(a0:Sem zj):Tr (Ic⊕aw):=
 br (Q0 (i5<(↑l0.length:Int)))
 (Qc (zK i5 l0.length) (br (a0.1==s1) (re (ai i5) []) (Q9 (Ic.h2 l0 s1 (IntKind.i64.wrap (i5+1))))))
 (re (ai (-1)) [])
def My(l0:LC)(s1:TS)(i5:Int):Tr (Ic⊕aw):=
 let a0:=l0.getD i5.toNat (zi zj)
 HO l0 s1 i5 a0
theorem zhX(x0:Sem zj.sl)(x1:TS):rn o5 0 SY Tryz.f48 [zH zj.sl x0,zH Q6 x1] []=(WS x0 x1).map (lf Tryz.f48 Rr):=kw
def Mx:Ic->Tr (Ic⊕aw)
 |.h2 l0 s1 i5=>My l0 s1 i5
theorem zkx:∀s,run o5 0 SY (Func.results Tryz.f48).toList 400 (ag Tryz.f48 (Rr s).1) (Rr s).2=(Mx s).map (lf Tryz.f48 Rr)
 |.h2 l0 s1 i5=>by kernel_rfl
def Cw(x0:Sem zj.sl)(x1:TS):Option (zz (Qi Q1 [zg])):=al [zg] Mx 100000000 (WS x0 x1)
def dC(x0:Sem zj.sl)(x1:TS):Bool:=(Cw x0 x1).isSome
def eK(x0:Sem zj.sl)(x1:TS):Sem zg:=(λr:zz (Qi Q1 [zg])=>r.1) ((Cw x0 x1).getD (cg [zg]))
def zfq:ac:=zV [zj.sl,Q6] [zg] (λx=>dC x.1 x.2.1) λx=>(eK x.1 x.2.1,())
theorem zbk:FK 48 zfq:=lY (ks:=[zj.sl,Q6]) (outs:=[zg]) (keep:=SY) (gas:=400) (n:=100000000) (e:=Rr) (t:=Mx) (i:=λx=>WS x.1 x.2.1) jc zjW (λx=>zhX x.1 x.2.1) zkx (λ_=>by kernel_rfl) (λ_=>by kernel_rfl)
def IK(g:Sem Q5->Sem Q5->Sem Q7)(c:Sem Q5->Sem Q5->Bool):cd:=o5.add 122 (zV [Q5,Q5] [Q7] (λx=>c x.1 x.2.1) λx=>(g x.1 x.2.1,()))
theorem O4{g:Sem Q5->Sem Q5->Sem Q7}{c:Sem Q5->Sem Q5->Bool}(hg:FK 122 (zV [Q5,Q5] [Q7] (λx=>c x.1 x.2.1) λx=>(g x.1 x.2.1,()))):zy (IK g c):=jc.add hg
abbrev S1:Nat->aO:=λj=>if j=4 then{slots:=[2,3,5]}else{ }
inductive Ig where
 |h4 (i5:Int) (z0:zm [CP.d Q5]) (z1:zm [CP.d Q5])
abbrev Ru:Ig->Nat×St
 |.h4 i5 z0 z1=>(4,⟨tm 53 [(2,Qf 0 0),(3,Qf 1 0),(5,ai i5)],[Qa (bv [] [CP.d Q5] z0),Qa (bv [] [CP.d Q5] z1)]⟩)
theorem zki(g:Sem Q5->Sem Q5->Sem Q7)(c:Sem Q5->Sem Q5->Bool):zL (IK g c).P 122 Tryz.f122 2:=bS kw
def BK(_:Sem Q5->Sem Q5->Sem Q7)(_:Sem Q5->Sem Q5->Bool)(x0:Sem Q5)(x1:Sem Q5):Tr (Ig⊕aw):=
 br
 (bif !zf.op x0==zf.op x1 then Q3
 else
  bif !((zf.v x0).1==(zf.v x1).1&&((zf.v x0).2.1==(zf.v x1).2.1&&((zf.v x0).2.2==(zf.v x1).2.2&&Q3)))then Q3
  else bif !zf.s x0==zf.s x1 then Q3 else(↑(zf.l x0).length:Int)!=(↑(zf.l x1).length:Int))
 (re (kb Q4) []) (Q9 (Ig.h4 0 (x0,()) (x1,())))
def AB(g:Sem Q5->Sem Q5->Sem Q7)(c:Sem Q5->Sem Q5->Bool)(i5:Int)(z0:zm [CP.d Q5])(z1:zm [CP.d Q5])(a0:Int)(a1:zf)(a2:zf):Tr (Ig⊕aw):=
 br (Q0 (i5<a0))
 (Qc (zK i5 (zf.l z0.1).length)
  (Qc (zK i5 (zf.l z1.1).length) (Qc (c a1 a2) (br (!g a1 a2) (re (kb Q4) []) (Q9 (Ig.h4 (IntKind.i64.wrap (i5+1)) z0 z1))))))
 (re (kb Q3) [])
def HT(g:Sem Q5->Sem Q5->Sem Q7)(c:Sem Q5->Sem Q5->Bool)(i5:Int)(z0:zm [CP.d Q5])(z1:zm [CP.d Q5]):Tr (Ig⊕aw):=
 let a0:=(↑(zf.l z0.1).length:Int)
 let a1:=zn ((zf.l z0.1).getD i5.toNat (zi Q5))
 let a2:=zn ((zf.l z1.1).getD i5.toNat (zi Q5))
 AB g c i5 z0 z1 a0 a1 a2
theorem zh8(g:Sem Q5->Sem Q5->Sem Q7)(c:Sem Q5->Sem Q5->Bool)(x0:Sem Q5)(x1:Sem Q5):rn (IK g c) 0 S1 Tryz.f122 [zH Q5 x0,zH Q5 x1] []=(BK g c x0 x1).map (lf Tryz.f122 Ru):=kw
def HS(g:Sem Q5->Sem Q5->Sem Q7)(c:Sem Q5->Sem Q5->Bool):Ig->Tr (Ig⊕aw)
 |.h4 i5 z0 z1=>HT g c i5 z0 z1
theorem zkE(g:Sem Q5->Sem Q5->Sem Q7)(c:Sem Q5->Sem Q5->Bool):∀s,run (IK g c) 0 S1 (Func.results Tryz.f122).toList 400 (ag Tryz.f122 (Ru s).1) (Ru s).2=(HS g c s).map (lf Tryz.f122 Ru)
 |.h4 i5 z0 z1=>by kernel_rfl
def gL(o:Option (zz (Qi Q1 [Q7]))):Sem Q7:=(λr:zz (Qi Q1 [Q7])=>r.1) (o.getD (cg [Q7]))
def G2(g:Sem Q5->Sem Q5->Sem Q7)(c:Sem Q5->Sem Q5->Bool)(x0:Sem Q5)(x1:Sem Q5):Option (zz (Qi Q1 [Q7])):=al [Q7] (HS g c) 3000000000 (BK g c x0 x1)
def bP:Nat->Sem Q5->Sem Q5->Option (zz (Qi Q1 [Q7]))
 |0=>λ_ _=>Q2
 |n+1=>G2 (λx0 x1=>gL (bP n x0 x1)) λx0 x1=>(bP n x0 x1).isSome
theorem zdb:zL o5.P 122 Tryz.f122 2:=bS kw
theorem MN:∀n,FK 122 (zV [Q5,Q5] [Q7] (λx=>(bP n x.1 x.2.1).isSome) λx=>(gL (bP n x.1 x.2.1),()))
 |0=>fy ⟨Tryz.f122,zdb.1,zdb.2.1,zdb.2.2.1⟩ (λ_=>rfl)
 |n+1=>lY (E:=IK (λx0 x1=>gL (bP n x0 x1)) (λx0 x1=>(bP n x0 x1).isSome)) (ks:=[Q5,Q5]) (outs:=[Q7]) (keep:=S1) (gas:=400) (n:=3000000000) (e:=Ru) (t:=HS (λx0 x1=>gL (bP n x0 x1)) (λx0 x1=>(bP n x0 x1).isSome)) (i:=λx=>BK (λx0 x1=>gL (bP n x0 x1)) (λx0 x1=>(bP n x0 x1).isSome) x.1 x.2.1) (O4 (MN n)) (zki _ _) (λx=>zh8 _ _ x.1 x.2.1) (zkE _ _) (λ_=>by kernel_rfl) (λ_=>by kernel_rfl)
def Ac(x0:Sem Q5)(x1:Sem Q5):Option (zz (Qi Q1 [Q7])):=bP 16 x0 x1
def gK(x0:Sem Q5)(x1:Sem Q5):Bool:=(Ac x0 x1).isSome
def fe(x0:Sem Q5)(x1:Sem Q5):Sem Q7:=gL (Ac x0 x1)
def zfT:ac:=zV [Q5,Q5] [Q7] (λx=>gK x.1 x.2.1) λx=>(fe x.1 x.2.1,())
theorem zbQ:FK 122 zfT:=MN 16
def Ba(g:Sem Q5->Sem zg)(c:Sem Q5->Bool):cd:=o5.add 133 (zV [Q5] [zg] (λx=>c x.1) λx=>(g x.1,()))
theorem K3{g:Sem Q5->Sem zg}{c:Sem Q5->Bool}(hg:FK 133 (zV [Q5] [zg] (λx=>c x.1) λx=>(g x.1,()))):zy (Ba g c):=jc.add hg
abbrev Lz:Nat->aO:=λj=>if j=3 then{slots:=[1,3,4]}else{ }
inductive tg where
 |h3 (i3:Int) (i4:Int) (z0:zm [CP.d Q5])
abbrev IE:tg->Nat×St
 |.h3 i3 i4 z0=>(3,⟨tm 21 [(1,Qf 0 0),(3,ai i3),(4,ai i4)],[Qa (bv [] [CP.d Q5] z0)]⟩)
theorem zdI(g:Sem Q5->Sem zg)(c:Sem Q5->Bool):zL (Ba g c).P 133 Tryz.f133 1:=bS kw
def Ni(_:Sem Q5->Sem zg)(_:Sem Q5->Bool)(x0:Sem Q5):Tr (tg⊕aw):=
 Q9 (tg.h3 1 0 (x0,()))
def Dd(g:Sem Q5->Sem zg)(c:Sem Q5->Bool)(i3:Int)(i4:Int)(z0:zm [CP.d Q5])(a0:Int)(a1:zf):Tr (tg⊕aw):=
 br (Q0 (i4<a0))
 (Qc (zK i4 (zf.l z0.1).length) (Qc (c a1) (Q9 (tg.h3 (IntKind.i64.wrap (i3+g a1)) (IntKind.i64.wrap (i4+1)) z0))))
 (re (ai i3) [])
def HJ(g:Sem Q5->Sem zg)(c:Sem Q5->Bool)(i3:Int)(i4:Int)(z0:zm [CP.d Q5]):Tr (tg⊕aw):=
 let a0:=(↑(zf.l z0.1).length:Int)
 let a1:=zn ((zf.l z0.1).getD i4.toNat (zi Q5))
 Dd g c i3 i4 z0 a0 a1
theorem zcK(g:Sem Q5->Sem zg)(c:Sem Q5->Bool)(x0:Sem Q5):rn (Ba g c) 0 Lz Tryz.f133 [zH Q5 x0] []=(Ni g c x0).map (lf Tryz.f133 IE):=kw
def Dc(g:Sem Q5->Sem zg)(c:Sem Q5->Bool):tg->Tr (tg⊕aw)
 |.h3 i3 i4 z0=>HJ g c i3 i4 z0
theorem zdO(g:Sem Q5->Sem zg)(c:Sem Q5->Bool):∀s,run (Ba g c) 0 Lz (Func.results Tryz.f133).toList 400 (ag Tryz.f133 (IE s).1) (IE s).2=(Dc g c s).map (lf Tryz.f133 IE)
 |.h3 i3 i4 z0=>by kernel_rfl
def iE(o:Option (zz (Qi Q1 [zg]))):Sem zg:=(λr:zz (Qi Q1 [zg])=>r.1) (o.getD (cg [zg]))
def JW(g:Sem Q5->Sem zg)(c:Sem Q5->Bool)(x0:Sem Q5):Option (zz (Qi Q1 [zg])):=al [zg] (Dc g c) 100000000 (Ni g c x0)
def cy:Nat->Sem Q5->Option (zz (Qi Q1 [zg]))
 |0=>λ_=>Q2
 |n+1=>JW (λx0=>iE (cy n x0)) λx0=>(cy n x0).isSome
theorem SL:zL o5.P 133 Tryz.f133 1:=bS kw
theorem H7:∀n,FK 133 (zV [Q5] [zg] (λx=>(cy n x.1).isSome) λx=>(iE (cy n x.1),()))
 |0=>fy ⟨Tryz.f133,SL.1,SL.2.1,SL.2.2.1⟩ (λ_=>rfl)
 |n+1=>lY (E:=Ba (λx0=>iE (cy n x0)) (λx0=>(cy n x0).isSome)) (ks:=[Q5]) (outs:=[zg]) (keep:=Lz) (gas:=400) (n:=100000000) (e:=IE) (t:=Dc (λx0=>iE (cy n x0)) (λx0=>(cy n x0).isSome)) (i:=λx=>Ni (λx0=>iE (cy n x0)) (λx0=>(cy n x0).isSome) x.1) (K3 (H7 n)) (zdI _ _) (λx=>zcK _ _ x.1) (zdO _ _) (λ_=>by kernel_rfl) (λ_=>by kernel_rfl)
def Cv(x0:Sem Q5):Option (zz (Qi Q1 [zg])):=cy 16 x0
def ux(x0:Sem Q5):Bool:=(Cv x0).isSome
def Af(x0:Sem Q5):Sem zg:=iE (Cv x0)
def Yx:ac:=zV [Q5] [zg] (λx=>ux x.1) λx=>(Af x.1,())
theorem VK:FK 133 Yx:=H7 16
def Gd:=o5.addL [(21,X3),(210,Yy),(175,YM),(48,zfq),(122,zfT),(133,Yx)]
theorem kH:zy Gd:=jc.addL<|fc Vf<|fc VL<|fc VY<|fc zbk<|fc zbQ<|fc VK iM
def Zz(x0:Sem (Sh.int IntKind.u8)):Tr (Empty⊕aw):=
 Qc (fG x0&&bif gM x0 then Q3 else kr x0) (re (AV.bool (bif gM x0 then Q3 else bif mR x0 then Q3 else x0==95)) [])
def uE(x0:Sem (Sh.int IntKind.u8)):=al [Q7] t0 100000000 (Zz x0)
def qQ(x0:Sem (Sh.int IntKind.u8)):=(uE x0).isSome
def wR(x0:Sem (Sh.int IntKind.u8)):=o1 (uE x0)
def Yt:=FT [Sh.int IntKind.u8] [Q7] λx=>uE x.1
theorem VG:FK 124 Yt:=kH.T1 (f:=Tryz.f124) (keep:=k0) (e:=e0)
abbrev zdn:=lx [(3,[0,3,4])]
inductive D3 where
 |h3 (s0:TS) (l3:LS) (i4:Int)
abbrev zhC:D3->Nat×St
 |.h3 s0 l3 i4=>(3,⟨tm 18 [(0,str s0),(3,sl Q6 l3),(4,ai i4)],[]⟩)
def Ss(x0:TS):Tr (D3⊕aw):=
 Q9
 (D3.h3 x0
  [[65,78,68],[79,82],[78,79,84],[73,83],[78,85,76,76],[84,82,85,69],[70,65,76,83,69],[67,82,69,65,84,69],[84,65,66,76,69],[75,69,89],[85,78,73,81,85,69],[82,69,70,69,82,69,78,67,69,83],[67,72,69,67,75],[68,82,79,80],[73,78,83,69,82,84],
  [73,78,84,79],[86,65,76,85,69,83],[85,80,68,65,84,69],[83,69,84],[87,72,69,82,69],[68,69,76,69,84,69],[70,82,79,77],[83,69,76,69,67,84],[71,82,65,78,84],[82,69,86,79,75,69],[82,69,65,68],[87,82,73,84,69],[79,78],[84,79],
  [77,73,71,82,65,84,69],[67,79,80,89],[74,79,73,78],[71,82,79,85,80],[66,89],[83,85,77],[73,78,84],[84,69,88,84],[66,79,79,76]]
  0)
def Db:D3->Tr (D3⊕aw)
 | .h3 s0 l3 i4=>
  br (Q0 (i4<(↑l3.length:Int)))
  (Qc (zK i4 l3.length) (br (l3.getD i4.toNat (zi Q6)==s0) (re (kb Q3) []) (Q9 (D3.h3 s0 l3 (IntKind.i64.wrap (i4+1))))))
  (re (kb Q4) [])
def Hn(x0:TS):=al [Q7] Db 100000000 (Ss x0)
def CI(x0:TS):=(Hn x0).isSome
def J6(x0:TS):=o1 (Hn x0)
def Yr:=FT [Q6] [Q7] λx=>Hn x.1
theorem VE:FK 121 Yr:=kH.T1 (f:=Tryz.f121) (keep:=zdn) (e:=zhC)
abbrev SM:Nat->aO:=λ_=>{ }
theorem zdA:zL Gd.P 81 Tryz.f81 2:=bS kw
def Sl(y:zm aJ)(x0:TS):Tr (Empty⊕aw):=
 let a0:=(y.1,y.2.1,y.2.2.1,())
 let a1:=Kc a0 x0
 Qc (Ht a0 x0)
 (br a1.1 (re (kb Q3) (ay aJ (a1.2.1,IntKind.i64.wrap (a1.2.2.1+1),a1.2.2.2)))
  (re (kb Q4) (ay aJ a1.2)))
theorem zcz(y:zm aJ)(x0:TS):rn Gd 1 SM Tryz.f81 [Qf 0 0,zH Q6 x0] (ay aJ y)=(Sl y x0).map (lf Tryz.f81 e0):=kw
def N4(y:zm aJ)(x0:TS):Option (zz (Qi Q1 [Q7])×zm aJ):=kS [Q7] aJ t0 100000000 (Sl y x0)
def dN(y:zm aJ)(x0:TS):Bool:=(N4 y x0).isSome
def fg(y:zm aJ)(x0:TS):(Sem Q7)×zm aJ:=(λr:zz (Qi Q1 [Q7])×zm aJ=>(r.1.1,r.2)) ((N4 y x0).getD (cg [Q7],fY aJ))
def X7:ac:=si aJ [Q6] [Q7] aJ (λy x=>dN y x.1) λy x=>(((fg y x.1).1,()),(fg y x.1).2)
theorem Vj:FK 81 X7:=ky (ps:=aJ) (ks:=[Q6]) (outs:=[Q7]) (keep:=SM) (gas:=400) (n:=100000000) (e:=e0) (t:=t0) (i:=λy x=>Sl y x.1) kH zdA (λy x=>zcz y x.1) (U9 _ _ _ _ _) (λ_ _=>by kernel_rfl) (λ_ _=>by kernel_rfl)
abbrev zjk:=lx [(6,[2,3,5]),(11,[2,3,6]),(16,[2,3,7]),(21,[2,3,8]),(26,[2,3,9]),(31,[2,3,10])]
inductive rm where
 |h6 (i5:Int) (z0:zm oJ) (z1:zm oJ)
 |h11 (i6:Int) (z0:zm oJ) (z1:zm oJ)
 |h16 (i7:Int) (z0:zm oJ) (z1:zm oJ)
 |h21 (i8:Int) (z0:zm oJ) (z1:zm oJ)
 |h26 (i9:Int) (z0:zm oJ) (z1:zm oJ)
 |h31 (i10:Int) (z0:zm oJ) (z1:zm oJ)
abbrev zlU:rm->Nat×St
 |.h6 i5 z0 z1=>(6,⟨tm 238 [(2,Qf 0 0),(3,Qf 1 0),(5,ai i5)],[Qa (bv [] oJ z0),Qa (bv [] oJ z1)]⟩)
 |.h11 i6 z0 z1=>(11,⟨tm 238 [(2,Qf 0 0),(3,Qf 1 0),(6,ai i6)],[Qa (bv [] oJ z0),Qa (bv [] oJ z1)]⟩)
 |.h16 i7 z0 z1=>(16,⟨tm 238 [(2,Qf 0 0),(3,Qf 1 0),(7,ai i7)],[Qa (bv [] oJ z0),Qa (bv [] oJ z1)]⟩)
 |.h21 i8 z0 z1=>(21,⟨tm 238 [(2,Qf 0 0),(3,Qf 1 0),(8,ai i8)],[Qa (bv [] oJ z0),Qa (bv [] oJ z1)]⟩)
 |.h26 i9 z0 z1=>(26,⟨tm 238 [(2,Qf 0 0),(3,Qf 1 0),(9,ai i9)],[Qa (bv [] oJ z0),Qa (bv [] oJ z1)]⟩)
 |.h31 i10 z0 z1=>(31,⟨tm 238 [(2,Qf 0 0),(3,Qf 1 0),(10,ai i10)],[Qa (bv [] oJ z0),Qa (bv [] oJ z1)]⟩)
def WX(x0:Sem zl)(x1:Sem zl):Tr (rm⊕aw):=
 let a0:=!x0.1==x1.1
 let a1:=!x0.2.1==x1.2.1
 let a2:=!x0.2.2.1==x1.2.2.1
 let a3:=!x0.t.2.1==x1.t.2.1
 let a4:=!x0.t.t.t==x1.t.t.t
 let a5:=zn x0.t.t.1
 let a6:=zn x1.t.t.1
 let a7:=!fe a5 a6
 let a8:=zn x0.t.t.q.2.1
 let a9:=zn x1.t.t.q.2.1
 Qc
 (bif a0 then Q3
 else bif a1 then Q3 else bif a2 then Q3 else bif a3 then Q3 else bif a4 then Q3 else gK a5 a6&&bif a7 then Q3 else gK a8 a9)
 (br (bif a0 then Q3 else bif a1 then Q3 else bif a2 then Q3 else bif a3 then Q3 else bif a4 then Q3 else bif a7 then Q3 else !fe a8 a9)
  (re (kb Q4) [])
  (br (bif (↑(length x0.2.2.2.1):Int)!=(↑(length x1.2.2.2.1):Int)then Q3 else bif (↑(length x0.t.1):Int)!=(↑(length x1.t.1):Int)then Q3 else bif (↑(length x0.t.q.1):Int)!=(↑(length x1.t.q.1):Int)then Q3 else bif (↑(length x0.t.q.2.1):Int)!=(↑(length x1.t.q.2.1):Int)then Q3
  else bif (↑(length x0.t.t.2.1):Int)!=(↑(length x1.t.t.2.1):Int)then Q3 else(↑(length x0.t.t.q.1):Int)!=(↑(length x1.t.t.q.1):Int)) (re (kb Q4) []) (Q9 (rm.h6 0 (x0,()) (x1,())))))
def td:rm->Tr (rm⊕aw)
 | .h6 i5 z0 z1=>
  let a0:=(↑(length z0.1.2.2.2.1):Int)
  br (Q0 (i5<a0))
  (Qc (zK i5 (length z0.1.2.2.2.1))
   (Qc (zK i5 (length z1.1.2.2.2.1)) (br (!getD z0.1.2.2.2.1 i5.toNat (zi Q6)==getD z1.1.2.2.2.1 i5.toNat (zi Q6)) (re (kb Q4) []) (Q9 (rm.h6 (IntKind.i64.wrap (i5+1)) z0 z1)))))
  (Q9 (rm.h11 0 z0 z1))
 | .h11 i6 z0 z1=>
  let a0:=(↑(length z0.1.t.1):Int)
  let a1:=getD z0.1.t.1 i6.toNat (zi zj)
  let a2:=getD z1.1.t.1 i6.toNat (zi zj)
  br (Q0 (i6<a0))
  (Qc (zK i6 (length z0.1.t.1))
   (Qc (zK i6 (length z1.1.t.1)) (br (!(a1.1==a2.1&&(a1.2.1==a2.2.1&&(a1.2.2==a2.2.2&&Q3)))) (re (kb Q4) []) (Q9 (rm.h11 (IntKind.i64.wrap (i6+1)) z0 z1)))))
  (Q9 (rm.h16 0 z0 z1))
 | .h16 i7 z0 z1=>
  let a0:=(↑(length z0.1.t.q.1):Int)
  br (Q0 (i7<a0))
  (Qc (zK i7 (length z0.1.t.q.1))
   (Qc (zK i7 (length z1.1.t.q.1)) (br (!getD z0.1.t.q.1 i7.toNat (zi Q6)==getD z1.1.t.q.1 i7.toNat (zi Q6)) (re (kb Q4) []) (Q9 (rm.h16 (IntKind.i64.wrap (i7+1)) z0 z1)))))
  (Q9 (rm.h21 0 z0 z1))
 | .h21 i8 z0 z1=>
  let a0:=(↑(length z0.1.t.q.2.1):Int)
  let a1:=getD z0.1.t.q.2.1 i8.toNat (zi iS)
  let a2:=getD z1.1.t.q.2.1 i8.toNat (zi iS)
  br (Q0 (i8<a0))
  (Qc (zK i8 (length z0.1.t.q.2.1))
   (Qc (zK i8 (length z1.1.t.q.2.1)) (br (!(a1.1==a2.1&&(a1.2==a2.2&&Q3))) (re (kb Q4) []) (Q9 (rm.h21 (IntKind.i64.wrap (i8+1)) z0 z1)))))
  (Q9 (rm.h26 0 z0 z1))
 | .h26 i9 z0 z1=>
  let a0:=(↑(length z0.1.t.t.2.1):Int)
  let a1:=getD z0.1.t.t.2.1 i9.toNat (zi ze)
  let a2:=getD z1.1.t.t.2.1 i9.toNat (zi ze)
  br (Q0 (i9<a0))
  (Qc (zK i9 (length z0.1.t.t.2.1))
   (Qc (zK i9 (length z1.1.t.t.2.1)) (br (!(a1.1==a2.1&&(a1.2.1==a2.2.1&&(a1.2.2==a2.2.2&&Q3)))) (re (kb Q4) []) (Q9 (rm.h26 (IntKind.i64.wrap (i9+1)) z0 z1)))))
  (Q9 (rm.h31 0 z0 z1))
 | .h31 i10 z0 z1=>
  let a0:=(↑(length z0.1.t.t.q.1):Int)
  let a1:=zK i10 (length z0.1.t.t.q.1)
  let a2:=zK i10 (length z1.1.t.t.q.1)
  let a3:=getD z0.1.t.t.q.1 i10.toNat (zi ic)
  let a4:=getD z1.1.t.t.q.1 i10.toNat (zi ic)
  let a5:=!a3.1==a4.1
  let a6:=zn a3.2
  let a7:=zn a4.2
  br (Q0 (i10<a0))
  (Qc (a1&&(a2&&bif a5 then Q3 else a1&&(a2&&gK a6 a7)))
   (br (bif a5 then Q3 else !fe a6 a7) (re (kb Q4) []) (Q9 (rm.h31 (IntKind.i64.wrap (i10+1)) z0 z1))))
  (re (kb Q3) [])
def qS(x0:Sem zl)(x1:Sem zl):=al [Q7] td 100000000 (WX x0 x1)
def Am(x0:Sem zl)(x1:Sem zl):=(qS x0 x1).isSome
def ff(x0:Sem zl)(x1:Sem zl):=o1 (qS x0 x1)
def zfW:=FT [zl,zl] [Q7] λx=>qS x.1 x.2.1
theorem zbT:FK 74 zfW:=kH.T1 (f:=Tryz.f74) (keep:=zjk) (e:=zlU)
def EK:=Gd.addL [(124,Yt),(121,Yr),(81,X7),(74,zfW)]
theorem qb:zy EK:=kH.addL<|fc VG<|fc VE<|fc Vj<|fc zbT iM
abbrev zdm:=lx [(2,[0,3])]
inductive D2 where
 |h2 (s0:TS) (i3:Int)
abbrev zhB:D2->Nat×St
 |.h2 s0 i3=>(2,⟨tm 28 [(0,str s0),(3,ai i3)],[]⟩)
def Zx(x0:TS):Tr (D2⊕aw):=
 Q9 (D2.h2 x0 0)
def vd:D2->Tr (D2⊕aw)
 | .h2 s0 i3=>
  let a0:=(↑(getD s0 i3.toNat 0).toNat:Int)
  let a1:=Q0 (1<=(↑(length s0):Int))
  let a2:=Q0 ((↑(length s0):Int)<=16)
  let a3:=(↑(getD s0 (toNat 0) 0).toNat:Int)
  br (Q0 (i3<(↑(length s0):Int)))
  (Qc (zK i3 (length s0)) (Qc (qQ a0) (br (!wR a0) (re (kb Q4) []) (Q9 (D2.h2 s0 (IntKind.i64.wrap (i3+1)))))))
  (Qc (bif a1 then bif a2 then zK 0 (length s0)&&kr a3 else Q3 else Q3)
   (re (AV.bool (bif a1 then bif a2 then mR a3 else Q4 else Q4)) []))
def Al(x0:TS):=al [Q7] vd 100000000 (Zx x0)
def uC(x0:TS):=(Al x0).isSome
def sZ(x0:TS):=o1 (Al x0)
def Yq:=FT [Q6] [Q7] λx=>Al x.1
theorem VD:FK 120 Yq:=qb.T1 (f:=Tryz.f120) (keep:=zdm) (e:=zhB)
abbrev SN:Nat->aO:=λ_=>{ }
theorem zdB:zL EK.P 83 Tryz.f83 2:=bS kw
def Sm(y:zm aJ)(x0:TS):Tr (Empty⊕aw):=
 let a0:=(y.1,y.2.1,y.2.2.1,())
 let a1:=fg a0 x0
 Qc (dN a0 x0)
 (br (!a1.1) (re (Qe []) [Qa [sl zu a1.2.1,ai a1.2.2.1,kb Q4]])
  (re (Qe []) (ay aJ a1.2)))
theorem zcA(y:zm aJ)(x0:TS):rn EK 1 SN Tryz.f83 [Qf 0 0,zH Q6 x0] (ay aJ y)=(Sm y x0).map (lf Tryz.f83 e0):=kw
def N2(y:zm aJ)(x0:TS):Option (zz (Qi Q1 [])×zm aJ):=kS [] aJ t0 100000000 (Sm y x0)
def aY(y:zm aJ)(x0:TS):Bool:=(N2 y x0).isSome
def bJ(y:zm aJ)(x0:TS):zm aJ:=(λr:zz (Qi Q1 [])×zm aJ=>r.2) ((N2 y x0).getD (cg [],fY aJ))
def X9:ac:=si aJ [Q6] [] aJ (λy x=>aY y x.1) λy x=>((),bJ y x.1)
theorem Vm:FK 83 X9:=ky (ps:=aJ) (ks:=[Q6]) (outs:=[]) (keep:=SN) (gas:=400) (n:=100000000) (e:=e0) (t:=t0) (i:=λy x=>Sm y x.1) qb zdB (λy x=>zcA y x.1) (U9 _ _ _ _ _) (λ_ _=>by kernel_rfl) (λ_ _=>by kernel_rfl)
abbrev SO:Nat->aO:=λ_=>{ }
theorem zdC:zL EK.P 84 Tryz.f84 1:=bS kw
def Sn(y:zm aJ):Tr (Empty⊕aw):=
 let a0:=Q0 (y.2.1<(↑(length y.1):Int))
 let a1:=zK y.2.1 (length y.1)
 let a2:=getD y.1 (toNat y.2.1) (zi zu)
 let a3:=a2.1==1
 let a4:=IntKind.i64.wrap (y.2.1+1)
 let a5:=IntKind.i64.wrap (a4-1)
 let a6:=getD y.1 a5.toNat (zi zu)
 Qc (bif a0 then a1&&bif a3 then a1&&CI a2.2 else Q3 else Q3)
 (br (bif a0 then bif a3 then !J6 a2.2 else Q4 else Q4)
  (Qc (zK a5 (length y.1)) (re (str a6.2) (ay aJ (y.1,a4,y.2.2))))
  (re (str []) [Qa [sl zu y.1,ai y.2.1,kb Q4]]))
theorem zcB(y:zm aJ):rn EK 1 SO Tryz.f84 [Qf 0 0] (ay aJ y)=(Sn y).map (lf Tryz.f84 e0):=kw
def N3(y:zm aJ):Option (zz (Qi Q1 [Q6])×zm aJ):=kS [Q6] aJ t0 100000000 (Sn y)
def bt(y:zm aJ):Bool:=(N3 y).isSome
def bQ(y:zm aJ):(Sem Q6)×zm aJ:=(λr:zz (Qi Q1 [Q6])×zm aJ=>(r.1.1,r.2)) ((N3 y).getD (cg [Q6],fY aJ))
def Ya:ac:=si aJ [] [Q6] aJ (λy _=>bt y) λy _=>(((bQ y).1,()),(bQ y).2)
theorem Vn:FK 84 Ya:=ky (ps:=aJ) (ks:=[]) (outs:=[Q6]) (keep:=SO) (gas:=400) (n:=100000000) (e:=e0) (t:=t0) (i:=λy x=>Sn y) qb zdC (λy x=>zcB y) (U9 _ _ _ _ _) (λ_ _=>by kernel_rfl) (λ_ _=>by kernel_rfl)
def EL:=EK.addL [(120,Yq),(83,X9),(84,Ya)]
theorem mz:zy EL:=qb.addL<|fc VD<|fc Vm<|fc Vn iM
def Zv(x0:Sem ze):Tr (Empty⊕aw):=
 Qc (kW x0)
 (br (py x0) (re (agg [ai x0.1,ai x0.2.1,str x0.2.2]) [])
  (re (agg [ai 0,ai 0,str []]) []))
def uv(x0:Sem ze):=al [ze] t0 100000000 (Zv x0)
def qE(x0:Sem ze):=(uv x0).isSome
def fb(x0:Sem ze):=o1 (uv x0)
def X6:=FT [ze] [ze] λx=>uv x.1
theorem Vi:FK 33 X6:=mz.T1 (f:=Tryz.f33) (keep:=k0) (e:=e0)
def Zu(x0:Sem ze)(x1:Sem Q7):Tr (Empty⊕aw):=
 Qc (kX x1) (re (AV.bool (x0.1==(aX x1).1&&(x0.2.1==(aX x1).2.1&&(x0.2.2==(aX x1).2.2&&Q3)))) [])
def JO(x0:Sem ze)(x1:Sem Q7):=al [Q7] t0 100000000 (Zu x0 x1)
def mJ(x0:Sem ze)(x1:Sem Q7):=(JO x0 x1).isSome
def pu(x0:Sem ze)(x1:Sem Q7):=o1 (JO x0 x1)
def X4:=FT [ze,Q7] [Q7] λx=>JO x.1 x.2.1
theorem Vg:FK 173 X4:=mz.T1 (f:=Tryz.f173) (keep:=k0) (e:=e0)
def Gb(g:Sem Q5->Sem zg->Sem Q7)(c:Sem Q5->Sem zg->Bool):cd:=EL.add 132 (zV [Q5,zg] [Q7] (λx=>c x.1 x.2.1) λx=>(g x.1 x.2.1,()))
theorem K2{g:Sem Q5->Sem zg->Sem Q7}{c:Sem Q5->Sem zg->Bool}(hg:FK 132 (zV [Q5,zg] [Q7] (λx=>c x.1 x.2.1) λx=>(g x.1 x.2.1,()))):zy (Gb g c):=mz.add hg
abbrev ST:Nat->aO:=λ_=>{ }
theorem zdH(g:Sem Q5->Sem zg->Sem Q7)(c:Sem Q5->Sem zg->Bool):zL (Gb g c).P 132 Tryz.f132 2:=bS kw
def Nh(g:Sem Q5->Sem zg->Sem Q7)(c:Sem Q5->Sem zg->Bool)(x0:Sem Q5)(x1:Sem zg):Tr (Empty⊕aw):=
 let a0:=(↑(zf.l x0).length:Int)==0
 let a1:=(zf.v x0).1==0&&((zf.v x0).2.1==0&&((zf.v x0).2.2==[]&&Q3))
 let a2:=(↑(zf.l x0).length:Int)==1
 let a3:=zK 0 (zf.l x0).length
 let a4:=zn ((zf.l x0).getD (toNat 0) (zi Q5))
 let a5:=IntKind.i64.wrap (x1-1)
 let a6:=c a4 a5
 let a7:=g a4 a5
 let a8:=(↑(zf.l x0).length:Int)==2
 let a9:=zn ((zf.l x0).getD (toNat 1) (zi Q5))
 br (x1==0) (re (kb Q4) [])
 (br (zf.op x0==[108,105,116])
  (Qc (kW (zf.v x0)) (re (AV.bool (bif py (zf.v x0)then bif zf.s x0==[]then a0 else Q4 else Q4)) []))
  (br (zf.op x0==[99,111,108]) (Qc (bif a1 then uC (zf.s x0)&&bif sZ (zf.s x0)then CI (zf.s x0)else Q3 else Q3) (re (AV.bool (bif a1 then bif sZ (zf.s x0)then bif !J6 (zf.s x0)then a0 else Q4 else Q4 else Q4)) [])) (br (bif zf.op x0==[110,111,116]then Q3 else zf.op x0==[110,117,108,108])
  (Qc (bif a1 then bif zf.s x0==[]then bif a2 then a3&&a6 else Q3 else Q3 else Q3) (re (AV.bool (bif a1 then bif zf.s x0==[]then bif a2 then a7 else Q4 else Q4 else Q4)) [])) (Qc (G7 (zf.op x0)) (br (NW (zf.op x0)) (Qc
  (bif a1 then bif zf.s x0==[]then bif a8 then a3&&(a6&&bif a7 then zK 1 (zf.l x0).length&&c a9 a5 else Q3)else Q3 else Q3 else Q3) (re (AV.bool (bif a1 then bif zf.s x0==[]then bif a8 then bif a7 then g a9 a5 else Q4 else Q4 else Q4 else Q4)) [])) (re (kb Q4) []))))))
theorem zcJ(g:Sem Q5->Sem zg->Sem Q7)(c:Sem Q5->Sem zg->Bool)(x0:Sem Q5)(x1:Sem zg):rn (Gb g c) 0 ST Tryz.f132 [zH Q5 x0,zH zg x1] []=(Nh g c x0 x1).map (lf Tryz.f132 e0):=kw
def nP(o:Option (zz (Qi Q1 [Q7]))):Sem Q7:=(λr:zz (Qi Q1 [Q7])=>r.1) (o.getD (cg [Q7]))
def G6(g:Sem Q5->Sem zg->Sem Q7)(c:Sem Q5->Sem zg->Bool)(x0:Sem Q5)(x1:Sem zg):Option (zz (Qi Q1 [Q7])):=al [Q7] t0 100000000 (Nh g c x0 x1)
def fO:Nat->Sem Q5->Sem zg->Option (zz (Qi Q1 [Q7]))
 |0=>λ_ _=>Q2
 |n+1=>G6 (λx0 x1=>nP (fO n x0 x1)) λx0 x1=>(fO n x0 x1).isSome
theorem SK:zL EL.P 132 Tryz.f132 2:=bS kw
theorem H6:∀n,FK 132 (zV [Q5,zg] [Q7] (λx=>(fO n x.1 x.2.1).isSome) λx=>(nP (fO n x.1 x.2.1),()))
 |0=>fy ⟨Tryz.f132,SK.1,SK.2.1,SK.2.2.1⟩ (λ_=>rfl)
 |n+1=>lY (E:=Gb (λx0 x1=>nP (fO n x0 x1)) (λx0 x1=>(fO n x0 x1).isSome)) (ks:=[Q5,zg]) (outs:=[Q7]) (keep:=ST) (gas:=400) (n:=100000000) (e:=e0) (t:=t0) (i:=λx=>Nh (λx0 x1=>nP (fO n x0 x1)) (λx0 x1=>(fO n x0 x1).isSome) x.1 x.2.1) (K2 (H6 n)) (zdH _ _) (λx=>zcJ _ _ x.1 x.2.1) (U9 _ _ _ _ _) (λ_=>by kernel_rfl) (λ_=>by kernel_rfl)
def G5(x0:Sem Q5)(x1:Sem zg):Option (zz (Qi Q1 [Q7])):=fO 16 x0 x1
def Ae(x0:Sem Q5)(x1:Sem zg):Bool:=(G5 x0 x1).isSome
def G4(x0:Sem Q5)(x1:Sem zg):Sem Q7:=nP (G5 x0 x1)
def Yw:ac:=zV [Q5,zg] [Q7] (λx=>Ae x.1 x.2.1) λx=>(G4 x.1 x.2.1,())
theorem VJ:FK 132 Yw:=H6 16
def IL(g:Sem Q5->Sem (Sh.sl zj)->Sem zg×Sem zg)(c:Sem Q5->Sem (Sh.sl zj)->Bool):cd:=EL.add 80 (zV [Q5,Sh.sl zj] [zg,zg] (λx=>c x.1 x.2.1) λx=>((g x.1 x.2.1).1,(g x.1 x.2.1).2,()))
theorem O5{g:Sem Q5->Sem (Sh.sl zj)->Sem zg×Sem zg}{c:Sem Q5->Sem (Sh.sl zj)->Bool}(hg:FK 80 (zV [Q5,Sh.sl zj] [zg,zg] (λx=>c x.1 x.2.1) λx=>((g x.1 x.2.1).1,(g x.1 x.2.1).2,()))):zy (IL g c):=mz.add hg
abbrev S2:Nat->aO:=λj=>if j=5 then{slots:=[1,2,6]}else{ }
inductive OE where
 |h5 (l1:LC) (i6:Int) (z0:zm [CP.d Q5])
abbrev Rw:OE->Nat×St
 |.h5 l1 i6 z0=>(5,⟨tm 116 [(1,sl zj l1),(2,Qf 0 0),(6,ai i6)],[Qa (bv [] [CP.d Q5] z0)]⟩)
theorem zkk(g:Sem Q5->Sem zj.sl->Sem zg×Sem zg)(c:Sem Q5->Sem zj.sl->Bool):zL (IL g c).P 80 Tryz.f80 2:=bS kw
def BL(g:Sem Q5->Sem zj.sl->Sem zg×Sem zg)(c:Sem Q5->Sem zj.sl->Bool)(x0:Sem Q5)(x1:Sem zj.sl):Tr (OE⊕aw):=
 let a0:=zn ((zf.l x0).getD (toNat 0) (zi Q5))
 let a1:=g a0 x1
 let a2:=zn ((zf.l x0).getD (toNat 1) (zi Q5))
 let a3:=g a2 x1
 let a4:=zf.op x0==[110,117,108,108]
 let a5:=zf.op x0==[61]
 let a6:=a1.1!=0
 let a7:=a3.1!=0
 let a8:=zf.op x0==[60]
 let a9:=zf.op x0==[43]
 let a10:=a1.1!=1
 let a11:=bif a7 then a3.1!=1 else Q4
 let a12:=zf.op x0==[45]
 let a13:=a1.1!=3
 let a14:=bif a7 then a3.1!=3 else Q4
 let a15:=bif a6 then a10 else Q4
 let a16:=bif a6 then a13 else Q4
 br (zf.op x0==[108,105,116]) (re (Qe [ai (zf.v x0).1,ai 0]) [])
 (br (zf.op x0==[99,111,108]) (Q9 (OE.h5 x1 0 (x0,())))
  (Qc (zK 0 (zf.l x0).length) (Qc (c a0 x1) (br (a1.2!=0) (re (Qe [ai 0,ai a1.2]) []) (br ((↑(zf.l x0).length:Int)==2) (Qc (zK 1 (zf.l x0).length) (Qc (c a2 x1) (br (a3.2!=0) (re (Qe [ai 0,ai a3.2]) []) (br a4 (re (Qe [ai 3,ai 0]) []) (br a5
  (br (bif a6 then bif a7 then a1.1!=a3.1 else Q4 else Q4) (re (Qe [ai 0,ai 5]) []) (re (Qe [ai 3,ai 0]) [])) (br a8 (br (bif a6 then bif a7 then a1.1!=a3.1 else Q4 else Q4) (re (Qe [ai 0,ai 5]) []) (re (Qe [ai 3,ai 0]) [])) (br a9
  (br (bif a6 then bif a10 then Q3 else a11 else a11) (re (Qe [ai 0,ai 5]) []) (re (Qe [ai 1,ai 0]) [])) (br a12 (br (bif a6 then bif a10 then Q3 else a11 else a11) (re (Qe [ai 0,ai 5]) []) (re (Qe [ai 1,ai 0]) []))
  (br (bif a6 then bif a13 then Q3 else a14 else a14) (re (Qe [ai 0,ai 5]) []) (re (Qe [ai 3,ai 0]) [])))))))))) (br a4 (re (Qe [ai 3,ai 0]) []) (br a5 (br (bif a6 then bif a6 then a1.1!=a1.1 else Q4 else Q4) (re (Qe [ai 0,ai 5]) [])
  (re (Qe [ai 3,ai 0]) [])) (br a8 (br (bif a6 then bif a6 then a1.1!=a1.1 else Q4 else Q4) (re (Qe [ai 0,ai 5]) []) (re (Qe [ai 3,ai 0]) [])) (br a9 (br (bif a6 then bif a10 then Q3 else a15 else a15) (re (Qe [ai 0,ai 5]) [])
  (re (Qe [ai 1,ai 0]) [])) (br a12 (br (bif a6 then bif a10 then Q3 else a15 else a15) (re (Qe [ai 0,ai 5]) []) (re (Qe [ai 1,ai 0]) [])) (br (bif a6 then bif a13 then Q3 else a16 else a16) (re (Qe [ai 0,ai 5]) []) (re (Qe [ai 3,ai 0]) []))))))))))))
theorem zh9(g:Sem Q5->Sem zj.sl->Sem zg×Sem zg)(c:Sem Q5->Sem zj.sl->Bool)(x0:Sem Q5)(x1:Sem zj.sl):rn (IL g c) 0 S2 Tryz.f80 [zH Q5 x0,zH zj.sl x1] []=(BL g c x0 x1).map (lf Tryz.f80 Rw):=kw
def Kv(_:Sem Q5->Sem zj.sl->Sem zg×Sem zg)(_:Sem Q5->Sem zj.sl->Bool):OE->Tr (OE⊕aw)
 | .h5 l1 i6 z0=>
  let a0:=l1.getD i6.toNat (zi zj)
  br (Q0 (i6<(↑l1.length:Int)))
  (Qc (zK i6 l1.length)
   (br (a0.1==zf.s z0.1) (Qc (zK i6 l1.length) (re (Qe [ai a0.2.1,ai 0]) [])) (Q9 (OE.h5 l1 (IntKind.i64.wrap (i6+1)) z0))))
  (re (Qe [ai 0,ai 4]) [])
theorem zkF(g:Sem Q5->Sem zj.sl->Sem zg×Sem zg)(c:Sem Q5->Sem zj.sl->Bool):∀s,run (IL g c) 0 S2 (Func.results Tryz.f80).toList 400 (ag Tryz.f80 (Rw s).1) (Rw s).2=(Kv g c s).map (lf Tryz.f80 Rw)
 |.h5 l1 i6 z0=>by kernel_rfl
def fN(o:Option (zz (Qi Q1 [zg,zg]))):Sem zg×Sem zg:=(λr:zz (Qi Q1 [zg,zg])=>(r.1,r.2.1)) (o.getD (cg [zg,zg]))
def NV(g:Sem Q5->Sem zj.sl->Sem zg×Sem zg)(c:Sem Q5->Sem zj.sl->Bool)(x0:Sem Q5)(x1:Sem zj.sl):Option (zz (Qi Q1 [zg,zg])):=al [zg,zg] (Kv g c) 100000000 (BL g c x0 x1)
def bY:Nat->Sem Q5->Sem zj.sl->Option (zz (Qi Q1 [zg,zg]))
 |0=>λ_ _=>Q2
 |n+1=>NV (λx0 x1=>fN (bY n x0 x1)) λx0 x1=>(bY n x0 x1).isSome
theorem zdc:zL EL.P 80 Tryz.f80 2:=bS kw
theorem MO:∀n,FK 80 (zV [Q5,zj.sl] [zg,zg] (λx=>(bY n x.1 x.2.1).isSome) λx=>((fN (bY n x.1 x.2.1)).1,(fN (bY n x.1 x.2.1)).2,()))
 |0=>fy ⟨Tryz.f80,zdc.1,zdc.2.1,zdc.2.2.1⟩ (λ_=>rfl)
 |n+1=>lY (E:=IL (λx0 x1=>fN (bY n x0 x1)) (λx0 x1=>(bY n x0 x1).isSome)) (ks:=[Q5,zj.sl]) (outs:=[zg,zg]) (keep:=S2) (gas:=400) (n:=100000000) (e:=Rw) (t:=Kv (λx0 x1=>fN (bY n x0 x1)) (λx0 x1=>(bY n x0 x1).isSome)) (i:=λx=>BL (λx0 x1=>fN (bY n x0 x1)) (λx0 x1=>(bY n x0 x1).isSome) x.1 x.2.1) (O5 (MO n)) (zkk _ _) (λx=>zh9 _ _ x.1 x.2.1) (zkF _ _) (λ_=>by kernel_rfl) (λ_=>by kernel_rfl)
def Ad(x0:Sem Q5)(x1:Sem zj.sl):Option (zz (Qi Q1 [zg,zg])):=bY 16 x0 x1
def nO(x0:Sem Q5)(x1:Sem zj.sl):Bool:=(Ad x0 x1).isSome
def iD(x0:Sem Q5)(x1:Sem zj.sl):Sem zg×Sem zg:=fN (Ad x0 x1)
def zf0:ac:=zV [Q5,zj.sl] [zg,zg] (λx=>nO x.1 x.2.1) λx=>((iD x.1 x.2.1).1,(iD x.1 x.2.1).2,())
theorem zbX:FK 80 zf0:=MO 16
def RB:=EL.addL [(33,X6),(173,X4),(132,Yw),(80,zf0)]
theorem gQ:zy RB:=mz.addL<|fc Vi<|fc Vg<|fc VJ<|fc zbX iM
def zis(x0:Sem ze)(x1:Sem ze):Tr (Empty⊕aw):=
 let a0:=(fb x0).1==(fb x1).1
 let a1:=(fb x0).2.1==(fb x1).2.1
 Qc (qE x0)
 (Qc (qE x1)
  (br (a0&&(a1&&((fb x0).2.2==(fb x1).2.2&&Q3))) (re (ai 0) []) (br (bif Q0 ((fb x0).1<(fb x1).1)then Q3 else bif a0 then bif Q0 ((fb x0).2.1<(fb x1).2.1)then Q3 else bif a1 then Op.bytesLess (fb x0).2.2 (fb x1).2.2 else Q4 else Q4) (re (ai (-1)) []) (re (ai 1) []))))
def pA(x0:Sem ze)(x1:Sem ze):=al [zg] t0 100000000 (zis x0 x1)
def mK(x0:Sem ze)(x1:Sem ze):=(pA x0 x1).isSome
def qA(x0:Sem ze)(x1:Sem ze):=o1 (pA x0 x1)
def zfD:=FT [ze,ze] [zg] λx=>pA x.1 x.2.1
theorem zbA:FK 12 zfD:=gQ.T1 (f:=Tryz.f12) (keep:=k0) (e:=e0)
def ZH(x0:Sem ze)(x1:Sem ze):Tr (Empty⊕aw):=
 Qc (qE x0)
 (Qc (qE x1)
  (re (AV.bool (bif (fb x0).1==0 then Q3 else bif (fb x1).1==0 then Q3 else(fb x0).1!=(fb x1).1)) []))
def pB(x0:Sem ze)(x1:Sem ze):=al [Q7] t0 100000000 (ZH x0 x1)
def mL(x0:Sem ze)(x1:Sem ze):=(pB x0 x1).isSome
def qB(x0:Sem ze)(x1:Sem ze):=o1 (pB x0 x1)
def YN:=FT [ze,ze] [Q7] λx=>pB x.1 x.2.1
theorem VZ:FK 251 YN:=gQ.T1 (f:=Tryz.f251) (keep:=k0) (e:=e0)
def ZB(x0:Sem ze)(x1:Sem ze):Tr (Empty⊕aw):=
 Qc (mJ x0 Q4&&bif pu x0 Q4 then Q3 else mJ x1 Q4)
 (br (bif pu x0 Q4 then Q3 else pu x1 Q4)
  (Qc Q3 (re (agg [ai (aX Q4).1,ai (aX Q4).2.1,str (aX Q4).2.2]) []))
  (Qc (mJ x0 Q3&&bif pu x0 Q3 then mJ x1 Q3 else Q3) (br (bif pu x0 Q3 then pu x1 Q3 else Q4) (Qc Q3 (re (agg [ai (aX Q3).1,ai (aX Q3).2.1,str (aX Q3).2.2]) [])) (re (agg [ai 0,ai 0,str []]) []))))
def Cj(x0:Sem ze)(x1:Sem ze):=al [ze] t0 100000000 (ZB x0 x1)
def GW(x0:Sem ze)(x1:Sem ze):=(Cj x0 x1).isSome
def Fk(x0:Sem ze)(x1:Sem ze):=o1 (Cj x0 x1)
def YA:=FT [ze,ze] [ze] λx=>Cj x.1 x.2.1
theorem VN:FK 212 YA:=gQ.T1 (f:=Tryz.f212) (keep:=k0) (e:=e0)
def ZC(x0:Sem ze)(x1:Sem ze):Tr (Empty⊕aw):=
 Qc (mJ x0 Q3&&bif pu x0 Q3 then Q3 else mJ x1 Q3)
 (br (bif pu x0 Q3 then Q3 else pu x1 Q3)
  (Qc Q3 (re (agg [ai (aX Q3).1,ai (aX Q3).2.1,str (aX Q3).2.2]) []))
  (Qc (mJ x0 Q4&&bif pu x0 Q4 then mJ x1 Q4 else Q3) (br (bif pu x0 Q4 then pu x1 Q4 else Q4) (Qc Q3 (re (agg [ai (aX Q4).1,ai (aX Q4).2.1,str (aX Q4).2.2]) [])) (re (agg [ai 0,ai 0,str []]) []))))
def JR(x0:Sem ze)(x1:Sem ze):=al [ze] t0 100000000 (ZC x0 x1)
def NR(x0:Sem ze)(x1:Sem ze):=(JR x0 x1).isSome
def PL(x0:Sem ze)(x1:Sem ze):=o1 (JR x0 x1)
def YB:=FT [ze,ze] [ze] λx=>JR x.1 x.2.1
theorem VO:FK 213 YB:=gQ.T1 (f:=Tryz.f213) (keep:=k0) (e:=e0)
def ZA(x0:Sem ze):Tr (Empty⊕aw):=
 Qc (mJ x0 Q3)
 (br (pu x0 Q3)
  (Qc Q3 (re (agg [ai (aX Q4).1,ai (aX Q4).2.1,str (aX Q4).2.2]) []))
  (Qc (mJ x0 Q4) (br (pu x0 Q4) (Qc Q3 (re (agg [ai (aX Q3).1,ai (aX Q3).2.1,str (aX Q3).2.2]) [])) (re (agg [ai 0,ai 0,str []]) []))))
def Cm(x0:Sem ze):=al [ze] t0 100000000 (ZA x0)
def GZ(x0:Sem ze):=(Cm x0).isSome
def Fm(x0:Sem ze):=o1 (Cm x0)
def Yz:=FT [ze] [ze] λx=>Cm x.1
theorem VM:FK 211 Yz:=gQ.T1 (f:=Tryz.f211) (keep:=k0) (e:=e0)
def ziz(x0:Sem Q5):Tr (Empty⊕aw):=
 let a0:=G4 (zn x0) 12
 Qc (Ae (zn x0) 12&&bif a0 then ux (zn x0)else Q3) (re (AV.bool (bif a0 then Q0 (Af (zn x0)<=60)else Q4)) [])
def Ct(x0:Sem Q5):=al [Q7] t0 100000000 (ziz x0)
def wN(x0:Sem Q5):=(Ct x0).isSome
def Ft(x0:Sem Q5):=o1 (Ct x0)
def zfZ:=FT [Q5] [Q7] λx=>Ct x.1
theorem zbW:FK 79 zfZ:=gQ.T1 (f:=Tryz.f79) (keep:=k0) (e:=e0)
def RC:=RB.addL [(12,zfD),(251,YN),(212,YA),(213,YB),(211,Yz),(79,zfZ)]
theorem Bh:zy RC:=gQ.addL<|fc zbA<|fc VZ<|fc VN<|fc VO<|fc VM<|fc zbW iM
abbrev zdr:=lx [(2,[0,3])]
inductive D5 where
 |h2 (i0:Sem zg) (s3:List UInt8)
abbrev zhE:D5->Nat×St
 |.h2 i0 s3=>(2,⟨tm 21 [(0,ai i0),(3,str s3)],[]⟩)
def zih(x0:Sem zg):Tr (D5⊕aw):=
 Q9 (D5.h2 x0 [])
def De:D5->Tr (D5⊕aw)
 | .h2 i0 s3=>
  let a0:=iV [IntKind.u8.wrap (IntKind.i64.wrap (48-IntKind.i64.wrap (Int.tmod i0 10)))]
  br (bif Q0 (i0<0)then Q3 else s3==[])
  (Qc Q3 (Qc (Q0 (length a0+s3.length<=1099511627776)) (Qc Q3 (Q9 (D5.h2 (IntKind.i64.wrap (Int.tdiv i0 10)) (a0++s3))))))
  (re (str s3) [])
def qD(x0:Sem zg):=al [Q6] De 100000000 (zih x0)
def ko(x0:Sem zg):=(qD x0).isSome
def kY(x0:Sem zg):=o1 (qD x0)
def YL:=FT [zg] [Q6] λx=>qD x.1
theorem VX:FK 171 YL:=Bh.T1 (f:=Tryz.f171) (keep:=zdr) (e:=zhE)
def RH:=RC.add 171 YL
theorem Bj:zy RH:=Bh.add VX
abbrev zdk:=lx [(13,[1,3,4])]
inductive AH where
 |h13 (s3:List UInt8) (i4:Int) (z0:zm [CP.d ze])
abbrev zhz:AH->Nat×St
 |.h13 s3 i4 z0=>(13,⟨tm 54 [(1,Qf 0 0),(3,str s3),(4,ai i4)],[Qa (bv [] [CP.d ze] z0)]⟩)
def xK(x0:Sem ze):Tr (AH⊕aw):=
 let a0:=IntKind.i64.wrap (0-x0.2.1)
 Qc (kW x0)
 (br (!py x0) (re (str []) [])
  (br (x0.1==0) (re (str [78,85,76,76]) []) (br (x0.1==1) (br (Q0 (x0.2.1<0)) (Qc (ko x0.2.1) (Qc (Q0 ([45].length+length (kY x0.2.1)<=1099511627776)) (re (str ([45]++kY x0.2.1)) []))) (Qc (ko a0) (re (str (kY a0)) []))) (br (x0.1==2) (Q9 (AH.h13 [39] 0 (x0,())))
  (br (x0.2.1==1) (re (str [84,82,85,69]) []) (re (str [70,65,76,83,69]) []))))))
def uZ:AH->Tr (AH⊕aw)
 | .h13 s3 i4 z0=>
  let a0:=(↑(length z0.1.2.2):Int)
  let a1:=IntKind.i64.wrap (i4+1)
  let a2:=List.take (a1.toNat-i4.toNat) (List.drop i4.toNat z0.1.2.2)
  let a3:=s3++a2
  br (Q0 (i4<a0))
  (Qc (Q0 (0<=i4)&&Q0 (i4<=a1)&&Q0 (a1<=a0))
   (Qc (Q0 (s3.length+a2.length<=1099511627776)) (Qc (zK i4 (length z0.1.2.2)) (br ((↑(getD z0.1.2.2 i4.toNat 0).toNat:Int)==39) (Qc (Q0 (length a3+[39].length<=1099511627776)) (Q9 (AH.h13 (a3++[39]) a1 z0))) (Q9 (AH.h13 a3 a1 z0))))))
  (Qc (Q0 (s3.length+[39].length<=1099511627776)) (re (str (s3++[39])) []))
def yX(x0:Sem ze):=al [Q6] uZ 100000000 (xK x0)
def ut(x0:Sem ze):=(yX x0).isSome
def Cp(x0:Sem ze):=o1 (yX x0)
def Yn:=FT [ze] [Q6] λx=>yX x.1
theorem VA:FK 117 Yn:=Bj.T1 (f:=Tryz.f117) (keep:=zdk) (e:=zhz)
def Gg:=RH.add 117 Yn
theorem Bm:zy Gg:=Bj.add VA
def Ga(g:Sem Q5->Sem Q6)(c:Sem Q5->Bool):cd:=Gg.add 118 (zV [Q5] [Q6] (λx=>c x.1) λx=>(g x.1,()))
theorem K1{g:Sem Q5->Sem Q6}{c:Sem Q5->Bool}(hg:FK 118 (zV [Q5] [Q6] (λx=>c x.1) λx=>(g x.1,()))):zy (Ga g c):=Bm.add hg
abbrev SS:Nat->aO:=λ_=>{ }
theorem zdG(g:Sem Q5->Sem Q6)(c:Sem Q5->Bool):zL (Ga g c).P 118 Tryz.f118 1:=bS kw
def ou(g:Sem Q5->Sem Q6)(c:Sem Q5->Bool)(x0:Sem Q5):Tr (Empty⊕aw):=
 let a0:=zK 0 (zf.l x0).length
 let a1:=zn ((zf.l x0).getD (toNat 0) (zi Q5))
 let a2:=c a1
 let a3:=g a1
 let a4:=[40,78,79,84,32]++a3
 let a5:=Q0 ([40].length+length a3<=1099511627776)
 let a6:=[40]++a3
 let a7:=zK 1 (zf.l x0).length
 let a8:=zn ((zf.l x0).getD (toNat 1) (zi Q5))
 let a9:=c a8
 let a10:=a6++[32,65,78,68,32]
 let a11:=g a8
 let a12:=a10++a11
 let a13:=a6++[32,79,82,32]
 let a14:=a13++a11
 let a15:=a6++[32]
 let a16:=a15++zf.op x0
 let a17:=a16++[32]
 let a18:=a17++a11
 br (zf.op x0==[108,105,116]) (Qc (ut (zf.v x0)) (re (str (Cp (zf.v x0))) []))
 (br (zf.op x0==[99,111,108]) (re (str (zf.s x0)) [])
  (br (zf.op x0==[110,111,116]) (Qc a0 (Qc a2 (Qc (Q0 ([40,78,79,84,32].length+length a3<=1099511627776)) (Qc (Q0 (length a4+[41].length<=1099511627776)) (re (str (a4++[41])) []))))) (br (zf.op x0==[110,117,108,108]) (Qc a0 (Qc a2 (Qc a5
  (Qc (Q0 (length a6+[32,73,83,32,78,85,76,76,41].length<=1099511627776)) (re (str (a6++[32,73,83,32,78,85,76,76,41])) []))))) (br (zf.op x0==[97,110,100]) (Qc a0 (Qc a2 (Qc a5 (Qc (Q0 (length a6+[32,65,78,68,32].length<=1099511627776)) (Qc a7 (Qc a9
  (Qc (Q0 (length a10+length a11<=1099511627776)) (Qc (Q0 (length a12+[41].length<=1099511627776)) (re (str (a12++[41])) []))))))))) (br (zf.op x0==[111,114]) (Qc a0 (Qc a2 (Qc a5 (Qc (Q0 (length a6+[32,79,82,32].length<=1099511627776)) (Qc a7 (Qc a9
  (Qc (Q0 (length a13+length a11<=1099511627776)) (Qc (Q0 (length a14+[41].length<=1099511627776)) (re (str (a14++[41])) []))))))))) (Qc a0 (Qc a2 (Qc a5 (Qc (Q0 (length a6+[32].length<=1099511627776)) (Qc (Q0 (length a15+length (zf.op x0)<=1099511627776))
  (Qc (Q0 (length a16+[32].length<=1099511627776)) (Qc a7 (Qc a9 (Qc (Q0 (length a17+length a11<=1099511627776)) (Qc (Q0 (length a18+[41].length<=1099511627776)) (re (str (a18++[41])) []))))))))))))))))
theorem zcI(g:Sem Q5->Sem Q6)(c:Sem Q5->Bool)(x0:Sem Q5):rn (Ga g c) 0 SS Tryz.f118 [zH Q5 x0] []=(ou g c x0).map (lf Tryz.f118 e0):=kw
def iC(o:Option (zz (Qi Q1 [Q6]))):Sem Q6:=(λr:zz (Qi Q1 [Q6])=>r.1) (o.getD (cg [Q6]))
def NU(g:Sem Q5->Sem Q6)(c:Sem Q5->Bool)(x0:Sem Q5):Option (zz (Qi Q1 [Q6])):=al [Q6] t0 100000000 (ou g c x0)
def cG:Nat->Sem Q5->Option (zz (Qi Q1 [Q6]))
 |0=>λ_=>Q2
 |n+1=>NU (λx0=>iC (cG n x0)) λx0=>(cG n x0).isSome
theorem SJ:zL Gg.P 118 Tryz.f118 1:=bS kw
theorem H5:∀n,FK 118 (zV [Q5] [Q6] (λx=>(cG n x.1).isSome) λx=>(iC (cG n x.1),()))
 |0=>fy ⟨Tryz.f118,SJ.1,SJ.2.1,SJ.2.2.1⟩ (λ_=>rfl)
 |n+1=>lY (E:=Ga (λx0=>iC (cG n x0)) (λx0=>(cG n x0).isSome)) (ks:=[Q5]) (outs:=[Q6]) (keep:=SS) (gas:=400) (n:=100000000) (e:=e0) (t:=t0) (i:=λx=>ou (λx0=>iC (cG n x0)) (λx0=>(cG n x0).isSome) x.1) (K1 (H5 n)) (zdG _ _) (λx=>zcI _ _ x.1) (U9 _ _ _ _ _) (λ_=>by kernel_rfl) (λ_=>by kernel_rfl)
def G3(x0:Sem Q5):Option (zz (Qi Q1 [Q6])):=cG 16 x0
def qJ(x0:Sem Q5):Bool:=(G3 x0).isSome
def pC(x0:Sem Q5):Sem Q6:=iC (G3 x0)
def Yo:ac:=zV [Q5] [Q6] (λx=>qJ x.1) λx=>(pC x.1,())
theorem VB:FK 118 Yo:=H5 16
def Gh:=Gg.add 118 Yo
theorem nr:zy Gh:=Bm.add VB
abbrev zdo:=lx [(6,[1,3])]
inductive D4 where
 |h6 (i3:Int) (z0:zm [CP.d zu])
abbrev zhD:D4->Nat×St
 |.h6 i3 z0=>(6,⟨tm 82 [(1,Qf 0 0),(3,ai i3)],[Qa (bv [] [CP.d zu] z0)]⟩)
def Jf(x0:Sem zu):Tr (D4⊕aw):=
 let a0:=(2,0,x0.2)
 br (x0.1==1) (Qc (uC x0.2) (re (AV.bool (sZ x0.2)) []))
 (br (x0.1==2) (Q9 (D4.h6 0 (x0,())))
  (br (x0.1==3) (Qc (kW a0) (re (AV.bool (py a0)) [])) (br (x0.1==4) (re (AV.bool (bif x0.2==[40]then Q3 else bif x0.2==[41]then Q3 else bif x0.2==[44]then Q3 else bif x0.2==[61]then Q3 else bif x0.2==[60]then Q3 else bif x0.2==[43]then Q3 else bif x0.2==[45]then Q3 else x0.2==[42])) []) (re (kb Q4) []))))
def ve:D4->Tr (D4⊕aw)
 | .h6 i3 z0=>
  let a0:=(↑(length z0.1.2):Int)
  let a1:=(↑(getD z0.1.2 i3.toNat 0).toNat:Int)
  br (Q0 (i3<a0))
  (Qc (zK i3 (length z0.1.2))
   (Qc (fG a1) (br (!gM a1) (re (kb Q4) []) (Q9 (D4.h6 (IntKind.i64.wrap (i3+1)) z0)))))
  (re (AV.bool (bif Q0 (1<=a0)then Q0 (a0<=19)else Q4)) [])
def Hm(x0:Sem zu):=al [Q7] ve 100000000 (Jf x0)
def iF(x0:Sem zu):=(Hm x0).isSome
def lS(x0:Sem zu):=o1 (Hm x0)
def Yv:=FT [zu] [Q7] λx=>Hm x.1
theorem VI:FK 126 Yv:=nr.T1 (f:=Tryz.f126) (keep:=zdo) (e:=zhD)
abbrev SP:Nat->aO:=λ_=>{ }
theorem zdD:zL Gh.P 87 Tryz.f87 2:=bS kw
def So(y:zm aJ)(x0:TS):Tr (Empty⊕aw):=
 let a0:=(y.1,y.2.1,y.2.2.1,())
 let a1:=fg a0 x0
 Qc (dN a0 x0)
 (br (!a1.1) (re (agg [str [],ai 0,ai 0,str [],str [],nils]) (ay aJ a1.2))
  (br (x0==[87,72,69,82,69]) Tr.err (Qc (aY (a1.2.1,a1.2.2.1,a1.2.2.2.1,()) [40]) Tr.err)))
theorem zcC(y:zm aJ)(x0:TS):rn Gh 1 SP Tryz.f87 [Qf 0 0,zH Q6 x0] (ay aJ y)=(So y x0).map (lf Tryz.f87 e0):=kw
def N1(y:zm aJ)(x0:TS):Option (zz (Qi Q1 [Q5])×zm aJ):=kS [Q5] aJ t0 100000000 (So y x0)
def dI(y:zm aJ)(x0:TS):Bool:=(N1 y x0).isSome
def eM(y:zm aJ)(x0:TS):(Sem Q5)×zm aJ:=(λr:zz (Qi Q1 [Q5])×zm aJ=>(r.1.1,r.2)) ((N1 y x0).getD (cg [Q5],fY aJ))
def Yb:ac:=si aJ [Q6] [Q5] aJ (λy x=>dI y x.1) λy x=>(((eM y x.1).1,()),(eM y x.1).2)
theorem Vo:FK 87 Yb:=ky (ps:=aJ) (ks:=[Q6]) (outs:=[Q5]) (keep:=SP) (gas:=400) (n:=100000000) (e:=e0) (t:=t0) (i:=λy x=>So y x.1) nr zdD (λy x=>zcC y x.1) (U9 _ _ _ _ _) (λ_ _=>by kernel_rfl) (λ_ _=>by kernel_rfl)
def zix(x0:TS):Tr (Empty⊕aw):=
 Qc (uC x0&&bif sZ x0 then CI x0 else Q3) (re (AV.bool (bif sZ x0 then !J6 x0 else Q4)) [])
def uG(x0:TS):=al [Q7] t0 100000000 (zix x0)
def dH(x0:TS):=(uG x0).isSome
def bu(x0:TS):=o1 (uG x0)
def zfV:=FT [Q6] [Q7] λx=>uG x.1
theorem zbS:FK 73 zfV:=nr.T1 (f:=Tryz.f73) (keep:=k0) (e:=e0)
def Zf:=Gh.addL [(126,Yv),(87,Yb),(73,zfV)]
theorem qc:zy Zf:=nr.addL<|fc VI<|fc Vo<|fc zbS iM
end
end Cad
