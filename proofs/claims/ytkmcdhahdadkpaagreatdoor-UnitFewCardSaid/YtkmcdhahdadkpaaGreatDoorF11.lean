/- Plans: places. Plans: what is there. Plans: what is wrong with a target. Plans: sources. Plans: sources, who refers. Plans: sources, who refers. -/
import Derived.Test.YtkmcdhahdadkpaaGreatDoorF10
import Derived.Test.YtkmcdhahdadkpaaGreatDoorF08
namespace Cad
open Go Go.Proofs
open List renaming map→Qi
open AV renaming ptr→Qf,tup→Qe
open Tr renaming chk→Qc,«to»→Q9
open AO renaming box→Qa
open Sh renaming bool→Q7,str→Q6,expr→Q5
open Bool renaming false→Q4,true→Q3
open Option renaming none→Q2,some→Q1
open Decidable renaming decide→Q0
open Int (toNat)
open List (getD length)
open Tr (chk br re)
open AV (nils agg tup ptr kb str sl)
noncomputable section
set_option maxHeartbeats 4000000
abbrev zE:Sh:=.pr .str (.pr .str (.pr .str (.pr zo (.pr (.sl zg) zg))))
abbrev be:List CP:=[.d (.sl zh),.d zk,.d zo,.d zo,.d .str,.d .str,.d .str,.d .str,.nil,.d zg,.nil,.nil,.d .expr,.nil,.d zg]
abbrev aj:List CP:=[.d (.sl zh),.d zk,.d zo,.d zo,.d .str,.d .str,.d .str,.d .str,.vec zj,.d zg,.nil,.nil,.d .expr,.d (.sl zg),.d zg]
abbrev YA:Nat->aM:=λj=>if j=2 then{slots:=[0,1,7,8]}else{ }
abbrev Ch(l0:LI)(i1:Sem zg)(i7:Int)(i8:Int):St:={tmps:=(tm 19 [(0,sl zg l0),(1,ai i1),(7,ai i7),(8,ai i8)]),heap:=[]}
theorem MF:zI (gM).P 139 Tryz.f139 2:=bQ kw
theorem zga(x0:Sem zg.sl)(x1:Sem zg):rn gM 0 YA Tryz.f139 [zC zg.sl x0,zC zg x1] []=Tr.ok (zB.head 2 (zZ Tryz.f139 2) (Ch x0 x1 (↑(length x0):Int) 0)):=kw
theorem ML(l0:LI)(i1:Sem zg)(i7:Int)(i8:Int):rh gM 0 YA Tryz.f139 2 (Ch l0 i1 i7 i8)=br (Q0 (i8<i7)) (Qc (zP i8 l0.length) (br (i1==l0.getD i8.toNat (zi zg)) (Tr.ok (zB.ret (ai i8) [])) (Tr.ok (zB.head 2 (zZ Tryz.f139 2) (Ch l0 i1 i7 (IntKind.i64.wrap (i8+1))))))) (Tr.ok (zB.ret (ai (-1)) [])):=kw
def ez(i1:Sem zg):List (Sem zg)->Int->Sem zg
 |[],_=>(-1)
 |x::r,i8=>(if(i1==x)=Q3 then i8 else ez i1 r (i8+1))
theorem U3{C:eP}(hC:∀id,C.ρ0 id=Q2)(i1:Sem zg)(l0:LI)(hl:l0.length<=aE):∀(m i:Nat),l0.length-i=m->i<=l0.length->
  Reach (gM) C 139 (zZ Tryz.f139 2) (Ch l0 i1 (l0.length:Int) (i:Int)) (λr h=>aL h [zg] r=Q1 (ez i1 (l0.drop i) i,())):=by
 intro m
 induction m with
 | zero=>
  intro i hm hi;obtain rfl:i=l0.length:=by omega
  rw[jg];refine zD dJ (MF) (λid _=>hC id) (ML _ _ _ _) ?_;generalize hy:ez i1 [] _=y;rw[ez]at hy;simp only[zz,Tr.val_brF];repeat' (first|with_reducible refine cZ hy (λ_ hy=>?_) (λ_ hy=>?_)|with_reducible refine zJ ?_)
  all_goals first|(cases hc;done)|(subst hy;first|rfl)
 | succ m IH=>
  intro i hm hi;have hlt:i<l0.length:=by omega
  have IH:=IH (i+1);have hcast:((i:Int)+1)=((i+1:Nat):Int):=by omega
  have hwr:=zq i ow;rw[fj hlt];refine zD dJ (MF) (λid _=>hC id) (ML _ _ _ _) ?_;generalize hy:ez i1 (l0[i]::l0.drop (i+1)) (i:Int)=y;rw[ez]at hy;simp only[zH hlt,zu hlt,cw l0 _ hlt,hwr,Tr.val_brT,Tr.val_chkT];clear hwr
  try simp only[zu hlt]at hy
  simp only[hcast]at hy;repeat' (first|with_reducible refine cZ hy (λ_ hy=>?_) (λ_ hy=>?_)|with_reducible refine zJ ?_)
  all_goals first|(cases hc;done)|(subst hy;first|(change Reach _ _ _ _ _ _;apply IH<;>first|omega|assumption)|rfl)
theorem PM{C:eP}(hC:∀id,C.ρ0 id=Q2)(i1:Sem zg)(l0:LI):
  Reach (gM) C 139 (zZ Tryz.f139 2) (Ch l0 i1 (l0.length:Int) 0) (λr h=>aL h [zg] r=Q1 (ez i1 l0 0,())):=
 Reach.len 0 (Sh.int IntKind.i64) l0 rfl λhl=>U3 hC i1 l0 hl _ 0 rfl (ba _)
def gN(x0:Sem zg.sl)(x1:Sem zg):Sem zg:=(ez x1 x0 0)
def zdR:zX:=aC [zg.sl,zg] [zg] λx=>(gN x.1 x.2.1,())
theorem zad:FK 139 zdR:=by
 refine zW (MF) λx C hC=>?_
 refine zD dJ (MF) (λid _=>hC id) (zga x.1 x.2.1) ?_;generalize hy:gN x.1 x.2.1=y;unfold gN at hy
 try simp only[ze.eta]
 repeat' (first|with_reducible refine cZ hy (λ_ hy=>?_) (λ_ hy=>?_)|with_reducible refine zJ ?_)
 all_goals first|(cases hc;done)|(subst hy;first|(change Reach _ _ _ _ _ _;apply PM hC<;>first|assumption|exact hc)|rfl)
abbrev YB:Nat->aM:=λj=>if j=2 then{slots:=[0,1,7,8]}else{ }
abbrev Ci(l0:LS)(s1:TS)(i7:Int)(i8:Int):St:={tmps:=(tm 19 [(0,sl Q6 l0),(1,str s1),(7,ai i7),(8,ai i8)]),heap:=[]}
theorem MG:zI (gM).P 198 Tryz.f198 2:=bQ kw
theorem zgf(x0:Sem Sh.str.sl)(x1:TS):rn gM 0 YB Tryz.f198 [zC Sh.str.sl x0,zC Q6 x1] []=Tr.ok (zB.head 2 (zZ Tryz.f198 2) (Ci x0 x1 (↑(length x0):Int) 0)):=kw
theorem MM(l0:LS)(s1:TS)(i7:Int)(i8:Int):rh gM 0 YB Tryz.f198 2 (Ci l0 s1 i7 i8)=br (Q0 (i8<i7)) (Qc (zP i8 l0.length) (br (s1==l0.getD i8.toNat (zi Q6)) (Tr.ok (zB.ret (ai i8) [])) (Tr.ok (zB.head 2 (zZ Tryz.f198 2) (Ci l0 s1 i7 (IntKind.i64.wrap (i8+1))))))) (Tr.ok (zB.ret (ai (-1)) [])):=kw
def ia(s1:TS):List (Sem Q6)->Int->Sem zg
 |[],_=>(-1)
 |x::r,i8=>(if(s1==x)=Q3 then i8 else ia s1 r (i8+1))
theorem U4{C:eP}(hC:∀id,C.ρ0 id=Q2)(s1:TS)(l0:LS)(hl:l0.length<=aE):∀(m i:Nat),l0.length-i=m->i<=l0.length->
  Reach (gM) C 198 (zZ Tryz.f198 2) (Ci l0 s1 (l0.length:Int) (i:Int)) (λr h=>aL h [zg] r=Q1 (ia s1 (l0.drop i) i,())):=by
 intro m
 induction m with
 | zero=>
  intro i hm hi;obtain rfl:i=l0.length:=by omega
  rw[jg];refine zD dJ (MG) (λid _=>hC id) (MM _ _ _ _) ?_;generalize hy:ia s1 [] _=y;rw[ia]at hy;simp only[zz,Tr.val_brF];repeat' (first|with_reducible refine cZ hy (λ_ hy=>?_) (λ_ hy=>?_)|with_reducible refine zJ ?_)
  all_goals first|(cases hc;done)|(subst hy;first|rfl)
 | succ m IH=>
  intro i hm hi;have hlt:i<l0.length:=by omega
  have IH:=IH (i+1);have hcast:((i:Int)+1)=((i+1:Nat):Int):=by omega
  have hwr:=zq i ow;rw[fj hlt];refine zD dJ (MG) (λid _=>hC id) (MM _ _ _ _) ?_;generalize hy:ia s1 (l0[i]::l0.drop (i+1)) (i:Int)=y;rw[ia]at hy;simp only[zH hlt,zu hlt,cw l0 _ hlt,hwr,Tr.val_brT,Tr.val_chkT];clear hwr
  try simp only[zu hlt]at hy
  simp only[hcast]at hy;repeat' (first|with_reducible refine cZ hy (λ_ hy=>?_) (λ_ hy=>?_)|with_reducible refine zJ ?_)
  all_goals first|(cases hc;done)|(subst hy;first|(change Reach _ _ _ _ _ _;apply IH<;>first|omega|assumption)|rfl)
theorem PO{C:eP}(hC:∀id,C.ρ0 id=Q2)(s1:TS)(l0:LS):
  Reach (gM) C 198 (zZ Tryz.f198 2) (Ci l0 s1 (l0.length:Int) 0) (λr h=>aL h [zg] r=Q1 (ia s1 l0 0,())):=
 Reach.len 0 (Q6) l0 rfl λhl=>U4 hC s1 l0 hl _ 0 rfl (ba _)
def It(x0:Sem Sh.str.sl)(x1:TS):Sem zg:=(ia x1 x0 0)
def zd8:zX:=aC [Sh.str.sl,Q6] [zg] λx=>(It x.1 x.2.1,())
theorem zat:FK 198 zd8:=by
 refine zW (MG) λx C hC=>?_
 refine zD dJ (MG) (λid _=>hC id) (zgf x.1 x.2.1) ?_;generalize hy:It x.1 x.2.1=y;unfold It at hy
 try simp only[ze.eta]
 repeat' (first|with_reducible refine cZ hy (λ_ hy=>?_) (λ_ hy=>?_)|with_reducible refine zJ ?_)
 all_goals first|(cases hc;done)|(subst hy;first|(change Reach _ _ _ _ _ _;apply PO hC<;>first|assumption|exact hc)|rfl)
abbrev RG:Nat->aM:=λj=>if j=2 then{slots:=[0,3,7,8]}else{ }
abbrev ut(l0:LF)(i7:Int)(i8:Int)(ja0:Sem zg)(ja1:TS):St:={tmps:=(tm 19 [(0,sl zr l0),(3,Qf 0 0),(7,ai i7),(8,ai i8)]),heap:=[Qa [ai ja0,str ja1]]}
theorem FV:zI (gM).P 189 Tryz.f189 2:=bQ kw
theorem za7(x0:Sem zr.sl)(x1:Sem zr):rn gM 0 RG Tryz.f189 [zC zr.sl x0,zC zr x1] []=Tr.ok (zB.head 2 (zZ Tryz.f189 2) (ut x0 (↑(length x0):Int) 0 x1.1 x1.2)):=kw
theorem IN(l0:LF)(i7:Int)(i8:Int)(ja0:Sem zg)(ja1:TS):rh gM 0 RG Tryz.f189 2 (ut l0 i7 i8 ja0 ja1)=br (Q0 (i8<i7)) (Qc (zP i8 l0.length) (br (ja0==(l0.getD i8.toNat (zi zr)).1&&(ja1==(l0.getD i8.toNat (zi zr)).2&&Q3)) (Tr.ok (zB.ret (ai i8) [])) (Tr.ok (zB.head 2 (zZ Tryz.f189 2) (ut l0 i7 (IntKind.i64.wrap (i8+1)) ja0 ja1))))) (Tr.ok (zB.ret (ai (-1)) [])):=kw
def g7(ja0:Sem zg)(ja1:TS):List (Sem zr)->Int->Sem zg
 |[],_=>(-1)
 |x::r,i8=>(if(ja0==x.1&&(ja1==x.2&&Q3))=Q3 then i8 else g7 ja0 ja1 r (i8+1))
theorem PI{C:eP}(hC:∀id,C.ρ0 id=Q2)(ja0:Sem zg)(ja1:TS)(l0:LF)(hl:l0.length<=aE):∀(m i:Nat),l0.length-i=m->i<=l0.length->
  Reach (gM) C 189 (zZ Tryz.f189 2) (ut l0 (l0.length:Int) (i:Int) ja0 ja1) (λr h=>aL h [zg] r=Q1 (g7 ja0 ja1 (l0.drop i) i,())):=by
 intro m
 induction m with
 | zero=>
  intro i hm hi;obtain rfl:i=l0.length:=by omega
  rw[jg];refine zD dJ (FV) (λid _=>hC id) (IN _ _ _ _ _) ?_;generalize hy:g7 ja0 ja1 [] _=y;rw[g7]at hy;simp only[zz,Tr.val_brF];repeat' (first|with_reducible refine cZ hy (λ_ hy=>?_) (λ_ hy=>?_)|with_reducible refine zJ ?_)
  all_goals first|(cases hc;done)|(subst hy;first|rfl)
 | succ m IH=>
  intro i hm hi;have hlt:i<l0.length:=by omega
  have IH:=IH (i+1);have hcast:((i:Int)+1)=((i+1:Nat):Int):=by omega
  have hwr:=zq i ow;rw[fj hlt];refine zD dJ (FV) (λid _=>hC id) (IN _ _ _ _ _) ?_;generalize hy:g7 ja0 ja1 (l0[i]::l0.drop (i+1)) (i:Int)=y;rw[g7]at hy;simp only[zH hlt,zu hlt,cw l0 _ hlt,hwr,Tr.val_brT,Tr.val_chkT];clear hwr
  try simp only[zu hlt]at hy
  simp only[hcast]at hy;repeat' (first|with_reducible refine cZ hy (λ_ hy=>?_) (λ_ hy=>?_)|with_reducible refine zJ ?_)
  all_goals first|(cases hc;done)|(subst hy;first|(change Reach _ _ _ _ _ _;apply IH<;>first|omega|assumption)|rfl)
theorem NL{C:eP}(hC:∀id,C.ρ0 id=Q2)(ja0:Sem zg)(ja1:TS)(l0:LF):
  Reach (gM) C 189 (zZ Tryz.f189 2) (ut l0 (l0.length:Int) 0 ja0 ja1) (λr h=>aL h [zg] r=Q1 (g7 ja0 ja1 l0 0,())):=
 Reach.len 0 (zg.pr Q6) l0 rfl λhl=>PI hC ja0 ja1 l0 hl _ 0 rfl (ba _)
def Is(x0:Sem zr.sl)(x1:Sem zr):Sem zg:=(g7 x1.1 x1.2 x0 0)
def WV:zX:=aC [zr.sl,zr] [zg] λx=>(Is x.1 x.2.1,())
theorem Uc:FK 189 WV:=by
 refine zW (FV) λx C hC=>?_
 refine zD dJ (FV) (λid _=>hC id) (za7 x.1 x.2.1) ?_;generalize hy:Is x.1 x.2.1=y;unfold Is at hy
 try simp only[ze.eta]
 repeat' (first|with_reducible refine cZ hy (λ_ hy=>?_) (λ_ hy=>?_)|with_reducible refine zJ ?_)
 all_goals first|(cases hc;done)|(subst hy;first|(change Reach _ _ _ _ _ _;apply NL hC<;>first|assumption|exact hc)|rfl)
abbrev zgF:Nat->aM:=λ_=>{ }
theorem YG:zI (gM).P 53 Tryz.f53 1:=bQ kw
theorem zfT(x0:Sem zE):rn gM 0 zgF Tryz.f53 [zC zE x0] []=br (x0.2.2.1==[]) (Tr.ok (zB.ret (sl Q6 [x0.2.1]) [])) (Tr.ok (zB.ret (sl Q6 [x0.2.1,x0.2.2.1]) [])):=kw
def kB(x0:Sem zE):Sem Sh.str.sl:=(if(x0.2.2.1==[])=Q3 then[x0.2.1]else[x0.2.1,x0.2.2.1])
def zc9:zX:=aC [zE] [Sh.str.sl] λx=>(kB x.1,())
theorem Zn:FK 53 zc9:=by
 refine zW (YG) λx C hC=>?_
 refine zD dJ (YG) (λid _=>hC id) (zfT x.1) ?_;generalize hy:kB x.1=y;unfold kB at hy
 try simp only[ze.eta]
 repeat' (first|with_reducible refine cZ hy (λ_ hy=>?_) (λ_ hy=>?_)|with_reducible refine zJ ?_)
 all_goals first|(cases hc;done)|(subst hy;first|rfl)
def WT:zX:=bh (List.replicate 2 Q2) (fL gM Tryz.f185 (List.replicate 2 Q2))
theorem Ua:FK 185 WT:=cr _ dJ (bQ kw)
def wW:=gM.addL [(139,zdR),(198,zd8),(189,WV),(53,zc9),(185,WT)]
theorem pF:zw wW:=dJ.addL<|fc zad<|fc zat<|fc Uc<|fc Zn<|fc Ua jj
abbrev zbF:Nat->aM:=λ_=>{ }
theorem Sl:zI (wW).P 186 Tryz.f186 2:=bQ kw
theorem za6(x0:Sem zg.sl)(x1:Sem zg):rn wW 0 zbF Tryz.f186 [zC zg.sl x0,zC zg x1] []=Tr.ok (zB.ret (AV.bool (Q0 (gN x0 x1>=0))) []):=kw
def sb(x0:Sem zg.sl)(x1:Sem zg):Sem Q7:=(Q0 (gN x0 x1>=0))
def WU:zX:=aC [zg.sl,zg] [Q7] λx=>(sb x.1 x.2.1,())
theorem Ub:FK 186 WU:=by
 refine zW (Sl) λx C hC=>?_
 refine zD pF (Sl) (λid _=>hC id) (za6 x.1 x.2.1) ?_;generalize hy:sb x.1 x.2.1=y;unfold sb at hy
 try simp only[ze.eta]
 repeat' (first|with_reducible refine cZ hy (λ_ hy=>?_) (λ_ hy=>?_)|with_reducible refine zJ ?_)
 all_goals first|(cases hc;done)|(subst hy;first|rfl)
abbrev zgV:Nat->aM:=λ_=>{ }
theorem YJ:zI (wW).P 149 Tryz.f149 2:=bQ kw
theorem zf4(x0:Sem Sh.str.sl)(x1:TS):rn wW 0 zgV Tryz.f149 [zC Sh.str.sl x0,zC Q6 x1] []=Tr.ok (zB.ret (AV.bool (Q0 (It x0 x1>=0))) []):=kw
def az(x0:Sem Sh.str.sl)(x1:TS):Sem Q7:=(Q0 (It x0 x1>=0))
def zdE:zX:=aC [Sh.str.sl,Q6] [Q7] λx=>(az x.1 x.2.1,())
theorem ZW:FK 149 zdE:=by
 refine zW (YJ) λx C hC=>?_
 refine zD pF (YJ) (λid _=>hC id) (zf4 x.1 x.2.1) ?_;generalize hy:az x.1 x.2.1=y;unfold az at hy
 try simp only[ze.eta]
 repeat' (first|with_reducible refine cZ hy (λ_ hy=>?_) (λ_ hy=>?_)|with_reducible refine zJ ?_)
 all_goals first|(cases hc;done)|(subst hy;first|rfl)
abbrev zg4:Nat->aM:=λ_=>{ }
theorem YL:zI (wW).P 141 Tryz.f141 2:=bQ kw
theorem zgb(x0:Sem zr.sl)(x1:Sem zr):rn wW 0 zg4 Tryz.f141 [zC zr.sl x0,zC zr x1] []=Tr.ok (zB.ret (AV.bool (Q0 (Is x0 x1>=0))) []):=kw
def jy(x0:Sem zr.sl)(x1:Sem zr):Sem Q7:=(Q0 (Is x0 x1>=0))
def zdS:zX:=aC [zr.sl,zr] [Q7] λx=>(jy x.1 x.2.1,())
theorem zae:FK 141 zdS:=by
 refine zW (YL) λx C hC=>?_
 refine zD pF (YL) (λid _=>hC id) (zgb x.1 x.2.1) ?_;generalize hy:jy x.1 x.2.1=y;unfold jy at hy
 try simp only[ze.eta]
 repeat' (first|with_reducible refine cZ hy (λ_ hy=>?_) (λ_ hy=>?_)|with_reducible refine zJ ?_)
 all_goals first|(cases hc;done)|(subst hy;first|rfl)
def H0:=wW.addL [(186,WU),(149,zdE),(141,zdS)]
theorem DT:zw H0:=pF.addL<|fc Ub<|fc ZW<|fc zae jj
abbrev RM:Nat->aM:=λj=>if j=2 then{slots:=[0,12,13,14]}else{ }
inductive Hm where
 |h2 (i13:Int) (i14:Int) (z0:zn aj)
abbrev P4:Hm->Nat×St
 |.h2 i13 i14 z0=>(2,⟨tm 65 [(0,Qf 0 0),(12,AV.vec 1),(13,ai i13),(14,ai i14)],[Qa (bx [1] aj z0),AO.vec zj z0.t.t.1]⟩)
theorem zhH:zI H0.P 102 Tryz.f102 1:=bQ kw
def VA(y:zn aj):Tr (Hm⊕aw):=Q9 (Hm.h2 (↑y.t.t.1.length:Int) 0 y)
def GZ(i13:Int)(i14:Int)(z0:zn aj)(a0:ze)(a1:Sem zj)(a2:Sem zg×Sem zg):Tr (Hm⊕aw):=br (Q0 (i14<i13)) (Qc (zP i14 z0.t.t.1.length) (Qc (Q0 (i14.toNat<z0.t.t.1.length)) (br (zN (z0.t.q.2.1,z0.t.t.1,z0.t.t.2.1,[],[],a0) a1.1!=i14) (re (ai 7) (ar aj z0)) (Q9 (Hm.h2 i13 (IntKind.i64.wrap (i14+1)) z0))))) (br (ze.op z0.t.t.q.1==[]) (re (ai 0) (ar aj z0)) (br (bif a2.2==0 then bif a2.1!=3 then a2.1!=0 else Q4 else Q4) (re (ai 5) (ar aj z0)) (re (ai a2.2) (ar aj z0))))
def Lt(i13:Int)(i14:Int)(z0:zn aj):Tr (Hm⊕aw):=
 let a0:=zm z0.t.t.q.1
 let a1:=z0.t.t.1.getD i14.toNat (zi zj)
 let a2:=bD a0 z0.t.t.1
 GZ i13 i14 z0 a0 a1 a2
theorem zf1(y:zn aj):rn H0 2 RM Tryz.f102 [Qf 0 0] (ar aj y)=(VA y).map (lf Tryz.f102 P4):=kw
def JE:Hm->Tr (Hm⊕aw)
 |.h2 i13 i14 z0=>Lt i13 i14 z0
theorem zin:∀s,run H0 2 RM (Func.results Tryz.f102).toList 400 (zZ Tryz.f102 (P4 s).1) (P4 s).2=(JE s).map (lf Tryz.f102 P4)|.h2 i13 i14 z0=>by kernel_rfl
def tE(y:zn aj):Option (zy (Qi Q1 [zg])×zn aj):=kA [zg] aj JE 100000000 (VA y)
def fZ(y:zn aj):Bool:=(tE y).isSome
def fa(y:zn aj):(Sem zg)×zn aj:=(λr:zy (Qi Q1 [zg])×zn aj=>(r.1.1,r.2)) ((tE y).getD (cn [zg],fM aj))
def zdu:zX:=rI aj [] [zg] aj (λy _=>fZ y) λy _=>(((fa y).1,()),(fa y).2)
theorem ZM:FK 102 zdu:=j7 (keep:=RM) (gas:=400) (n:=100000000) (e:=P4) (t:=JE) (i:=λy x=>VA y) DT zhH (λy x=>zf1 y) zin (λ_ _=>by kernel_rfl) (λ_ _=>by kernel_rfl)
def QD:=H0.add 102 zdu
theorem DU:zw QD:=DT.add ZM
def zdW:zX:=bh (List.replicate 2 Q2) (fL QD Tryz.f148 (List.replicate 2 Q2))
theorem zah:FK 148 zdW:=cr _ DU (bQ kw)
def H1:=QD.add 148 zdW
theorem vI:zw H1:=DU.add zah
abbrev yI(s:List zA)(l:LF)(i:Int):St:={tmps:=[.sl zr l,.clo (.func 148) [] [.ptr 0 0],.any,.any,.any,.any,.any,.int .i64 l.length,.int .i64 i,.any,.any,.any,.any,.any,.any,.any,.any,.any,.any],heap:=[.box [.sl .str s]]}
theorem QV(s:List zA)(l:LF):run H1 1 C8 Tryz.f199.results.toList 300 (bq Tryz.f199) (bc Tryz.f199.ntmps [.sl zr l,.clo (.func 148) [] [.ptr 0 0]] [.box [.sl .str s]])=.ok (.head 2 (zZ Tryz.f199 2) (yI s l 0)):=kw
theorem SE(s:List zA)(l:LF)(i:Int):run H1 1 C8 Tryz.f199.results.toList 300 (zZ Tryz.f199 2) (yI s l i)=oR (K:=zZ Tryz.f199 2) (e:=zr) l (λx=>az s x.2) (yI s l) [.box [.sl .str s]] i:=kw
theorem Sx:zI H1.P 199 Tryz.f199 2:=bQ kw
def zfq:iv [Q1 (.sl zr),Q2]:=λx h=>match x,h with
 |(l,.clo (.func 148) [] [.ptr 0 0],_),[.box [.sl .str s]]=>.ok (.int .i64 (ae (λx=>az s x.2) l 0),[.box [.sl .str s]])
 |_,_=>.err
def zeb:zX:=bh [Q1 (.sl zr),Q2] zfq
theorem zax:FK 199 zeb:=by
 refine dI Sx λx h0 res hx C hC=>?_
 unfold zfq at hx;split at hx
 ·rename_i l u s;simp only[Tr.val_ok,bw]at hx;subst hx;refine Reach.len 0 zr l rfl λhl=>?_
  refine zD (n0:=1) vI Sx hC (QV s l) ?_;exact mr l (λx=>az s x.2) (yI s l) vI Sx hC (SE s l) hl _ 0 rfl (ba _)
 ·simp at hx
def QE:=H1.add 199 zeb
theorem DV:zw QE:=vI.add zax
def zdX:zX:=bh (List.replicate 2 Q2) (fL QE Tryz.f150 (List.replicate 2 Q2))
theorem zai:FK 150 zdX:=cr _ DV (bQ kw)
def XV:=QE.add 150 zdX
theorem vJ:zw XV:=DV.add zai
abbrev cpR:List CP:=[.d zh]
abbrev zaT:List CP:=[.d .str,.nil,.d zg,.nil,.nil,.d .str,.d zg,.d zg,.d .str,.d .str,.nil,.nil]
abbrev zfv:List CP:=[.d zo,.vec (.sl zf)]
abbrev nZ:List CP:=[.d zk]
abbrev iH:List CP:=[.d .str,.d .str,.d .str,.nil,.nil,.d .str,.nil,.nil,.d .str,.d zg,.d zg,.d .str,.d .str,.nil,.nil,.nil,.d .str,.d zg,.d zg,.d .str,.d .str,.nil,.d .str]
abbrev PV:List CP:=[.d .str,.d .str,.d .str,.d (.sl .str),.d (.sl zj),.d .str,.d (.sl .str),.vec iD,.d .expr,.d (.sl zf),.nil,.d .expr,.d .str]
abbrev PW:List CP:=[.d .str,.d .str,.d .str,.d (.sl .str),.d (.sl zj),.d .str,.d (.sl .str),.vec iD,.d .expr,.d (.sl zf),.vec gS,.d .expr,.d .str]
abbrev zgG:Nat->aM:=λj=>if j=6 then{slots:=[1,2,3,4,5],prom:=[(3,Q1 11,.sl zf)]}else{ }
inductive JU where
 |h6 (i4:Int) (i5:Int) (z0:zn cpR) (z1:zn zaT) (z2:zn zfv)
abbrev zjj:JU->Nat×St
 |.h6 i4 i5 z0 z1 z2=>(6,⟨tm 38 [(1,Qf 0 0),(2,Qf 1 0),(3,Qf 2 0),(4,ai i4),(5,ai i5)],[Qa (bx [] cpR z0),Qa (bx [] zaT z1),Qa (bx [3] zfv z2),AO.vec zf.sl z2.2.1]⟩)
def zbo(x0:Sem zh):Tr (JU⊕aw):=
 let a0:=(CD (x0.1.1,x0.1.2.1,x0.1.2.2.1,x0.1.2.2.2.1,x0.1.t.1,zm x0.1.t.2),[],())
 br (Q0 ((↑(length x0.2):Int)>200)) (Q9 (JU.h6 201 0 (x0,()) ([],0,[],0,0,[],[],()) a0))
 (Q9 (JU.h6 40 0 (x0,()) ([],0,[],0,0,[],[],()) a0))
def OY:JU->Tr (JU⊕aw)
 | .h6 i4 i5 z0 z1 z2=>
  let a0:=(↑(length z0.1.2):Int)
  let a1:=[ln (getD z0.1.2 i5.toNat (zi zf.sl))]
  br (bif Q0 (i5<a0)then Q0 (i5<i4)else Q4)
  (Qc (zP i5 (length z0.1.2))
   (Qc (Q0 (z2.2.1.length+a1.length<=1073741824)) (Q9 (JU.h6 i4 (IntKind.i64.wrap (i5+1)) z0 z1 (z2.1,z2.2.1++a1,())))))
  (re
   (agg [str z2.1.1,sl zj z2.1.2.1,ai z2.1.2.2.1,sl zg z2.1.2.2.2.1,sl zr z2.1.t.1,str (ze.op z2.1.t.2),ai (ze.v z2.1.t.2).1,ai (ze.v z2.1.t.2).2.1,str (ze.v z2.1.t.2).2.2,str (ze.s z2.1.t.2),sl Q5 (ze.l z2.1.t.2),AV.vec 0])
   [AO.vec zf.sl z2.2.1])
def A9(x0:Sem zh):=al [zh] OY 100000000 (zbo x0)
def KJ(x0:Sem zh):=(A9 x0).isSome
def xn(x0:Sem zh):=o1 (A9 x0)
def zdb:=FT [zh] [zh] λx=>A9 x.1
theorem Zr:FK 37 zdb:=vJ.T1 (f:=Tryz.f37) (keep:=zgG) (e:=zjj)
abbrev zk2:Nat->aM:=λj=>if j=3 then{slots:=[1,2,3,4],prom:=[(3,Q1 7,iD)]}else if j=7 then{slots:=[1,2,3,5],prom:=[(3,Q1 15,gS)]}else{ }
inductive XG where
 |h3 (i4:Int) (z0:zn nZ) (z1:zn iH) (z2:zn PV)
 |h7 (i5:Int) (z0:zn nZ) (z1:zn iH) (z2:zn PW)
abbrev e8p:XG->Nat×St
 |.h3 i4 z0 z1 z2=>(3,⟨tm 103 [(1,Qf 0 0),(2,Qf 1 0),(3,Qf 2 0),(4,ai i4)],[Qa (bx [] nZ z0),Qa (bx [] iH z1),Qa (bx [3] PV z2),AO.vec (Sh.str.pr Q6) z2.t.q.2.1]⟩)
 |.h7 i5 z0 z1 z2=>(7,⟨tm 103 [(1,Qf 0 0),(2,Qf 1 0),(3,Qf 2 0),(5,ai i5)],[Qa (bx [] nZ z0),Qa (bx [] iH z1),Qa (bx [3,4] PW z2),AO.vec (Sh.str.pr Q6) z2.t.q.2.1,AO.vec (Sh.str.pr Q5) z2.t.t.q.1]⟩)
def i8p(x0:Sem zk):Tr (XG⊕aw):=
 Qc (eZ x0.1)
 (Qc (eZ x0.2.1)
  (Qc (eZ x0.2.2.1) (Qc (eZ x0.t.2.1) (Qc (eZ x0.t.t.t) (Qc (oS x0.2.2.2.1) (Qc (oS x0.t.q.1) (Q9 (XG.h3 0 (x0,()) ([],[],[],[],[],0,0,[],[],[],0,0,[],[],[],()) (cQ x0.1,cQ x0.2.1,cQ x0.2.2.1,jK x0.2.2.2.1,jl x0.t.1,
  cQ x0.t.2.1,jK x0.t.q.1,[],gB (zm x0.t.t.1),ln x0.t.t.2.1,gB (zm x0.t.t.q.2.1),cQ x0.t.t.t,())))))))))
def Ww:XG->Tr (XG⊕aw)
 | .h3 i4 z0 z1 z2=>
  let a0:=(↑(length z0.1.t.q.2.1):Int)
  let a1:=zP i4 (length z0.1.t.q.2.1)
  let a2:=getD z0.1.t.q.2.1 i4.toNat (zi iD)
  let a3:=[(cQ a2.1,cQ a2.2)]
  br (bif Q0 (i4<a0)then Q0 (i4<10)else Q4)
  (Qc a1
   (Qc (eZ a2.1) (Qc a1 (Qc (eZ a2.2) (Qc (Q0 (z2.t.q.2.1.length+a3.length<=1073741824)) (Q9 (XG.h3 (IntKind.i64.wrap (i4+1)) z0 z1 (z2.1,z2.2.1,z2.2.2.1,z2.2.2.2.1,z2.t.1,z2.t.2.1,z2.t.q.1,z2.t.q.2.1++a3,z2.t.t))))))))
  (Q9
   (XG.h7 0 z0 z1 (z2.1,z2.2.1,z2.2.2.1,z2.2.2.2.1,z2.t.1,z2.t.2.1,z2.t.q.1,z2.t.q.2.1,z2.t.t.1,z2.t.t.2.1,[],z2.t.t.q)))
 | .h7 i5 z0 z1 z2=>
  let a0:=(↑(length z0.1.t.t.q.1):Int)
  let a1:=zP i5 (length z0.1.t.t.q.1)
  let a2:=getD z0.1.t.t.q.1 i5.toNat (zi gS)
  let a3:=[(cQ a2.1,zm (gB (zm a2.2)))]
  br (bif Q0 (i5<a0)then Q0 (i5<10)else Q4)
  (Qc a1
   (Qc (eZ a2.1) (Qc a1 (Qc (Q0 (z2.t.t.q.1.length+a3.length<=1073741824)) (Q9 (XG.h7 (IntKind.i64.wrap (i5+1)) z0 z1 (z2.1,z2.2.1,z2.2.2.1,z2.2.2.2.1,z2.t.1,z2.t.2.1,z2.t.q.1,z2.t.q.2.1,z2.t.t.1,z2.t.t.2.1,z2.t.t.q.1++a3,z2.t.t.q.2)))))))
  (re
   (agg [str z2.1,str z2.2.1,str z2.2.2.1,sl Q6 z2.2.2.2.1,sl zj z2.t.1,str z2.t.2.1,sl Q6 z2.t.q.1,AV.vec 0,str (ze.op z2.t.t.1),ai (ze.v z2.t.t.1).1,ai (ze.v z2.t.t.1).2.1,str (ze.v z2.t.t.1).2.2,str (ze.s z2.t.t.1),
   sl Q5 (ze.l z2.t.t.1),sl zf z2.t.t.2.1,AV.vec 1,str (ze.op z2.t.t.q.2.1),ai (ze.v z2.t.t.q.2.1).1,ai (ze.v z2.t.t.q.2.1).2.1,str (ze.v z2.t.t.q.2.1).2.2,str (ze.s z2.t.t.q.2.1),
   sl Q5 (ze.l z2.t.t.q.2.1),str z2.t.t.t.1])
   [AO.vec (Sh.str.pr Q6) z2.t.q.2.1,AO.vec (Sh.str.pr Q5) z2.t.t.q.1])
def vU(x0:Sem zk):=al [zk] Ww 100000000 (i8p x0)
def KH(x0:Sem zk):=(vU x0).isSome
def RT(x0:Sem zk):=o1 (vU x0)
def F8p:=FT [zk] [zk] λx=>vU x.1
theorem zfc:FK 24 F8p:=vJ.T1 (f:=Tryz.f24) (keep:=zk2) (e:=e8p)
def XX:=XV.addL [(37,zdb),(24,F8p)]
theorem D0:zw XX:=vJ.addL<|fc Zr<|fc zfc jj
abbrev zkX:Nat->aM:=λj=>if j=3 then{slots:=[0,3,4],prom:=[(3,Q2,zh)]}else{ }
inductive H7p where
 |h3 (l0:List (Sem zh)) (i4:Int) (lh_0:List (Sem zh))
abbrev e7p:H7p->Nat×St
 |.h3 l0 i4 lh_0=>(3,⟨tm 24 [(0,sl zh l0),(3,AV.vec 0),(4,ai i4)],[AO.vec zh lh_0]⟩)
def i7p(x0:Sem zh.sl):Tr (H7p⊕aw):=
 Q9 (H7p.h3 x0 0 [])
def t7p:H7p->Tr (H7p⊕aw)
 | .h3 l0 i4 lh_0=>
  let a0:=l0.getD i4.toNat (zi zh)
  let a1:=((a0.1.1,a0.1.2.1,a0.1.2.2.1,a0.1.2.2.2.1,a0.1.t.1,zm a0.1.t.2),a0.2)
  let a2:=xn a1
  let a3:=[((a2.1.1,a2.1.2.1,a2.1.2.2.1,a2.1.2.2.2.1,a2.1.t.1,zm a2.1.t.2),a2.2)]
  br (bif Q0 (i4<(↑l0.length:Int))then Q0 (i4<13)else Q4)
  (Qc (zP i4 l0.length)
   (Qc (KJ a1) (Qc (Q0 (lh_0.length+a3.length<=1073741824)) (Q9 (H7p.h3 l0 (IntKind.i64.wrap (i4+1)) (lh_0++a3))))))
  (re (AV.vec 0)
   [AO.vec zh lh_0])
def Ba(x0:Sem zh.sl):=al [zh.sl] t7p 100000000 (i7p x0)
def KK(x0:Sem zh.sl):=(Ba x0).isSome
def Ep(x0:Sem zh.sl):=o1 (Ba x0)
def F7p:=FT [zh.sl] [zh.sl] λx=>Ba x.1
theorem ze3:FK 23 F7p:=D0.T1 (f:=Tryz.f23) (keep:=zkX) (e:=e7p)
def H5:=XX.add 23 F7p
theorem D1:zw H5:=D0.add ze3
abbrev RL:Nat->aM:=λj=>if j=3 then{slots:=[0,3,14,15,16]}else if j=11 then{slots:=[0,3,55,56,57]}else{ }
inductive uU where
 |h3 (l14:LS) (i15:Int) (i16:Int) (z0:zn be) (jb0:LS)
 |h11 (l55:List (Sem zh)) (i56:Int) (i57:Int) (z0:zn be) (jb0:LS)
abbrev P3:uU->Nat×St
 |.h3 l14 i15 i16 z0 jb0=>(3,⟨tm 122 [(0,Qf 0 0),(3,Qf 1 0),(14,sl Q6 l14),(15,ai i15),(16,ai i16)],[Qa (bx [] be z0),Qa [sl Q6 jb0]]⟩)
 |.h11 l55 i56 i57 z0 jb0=>(11,⟨tm 122 [(0,Qf 0 0),(3,Qf 1 0),(55,sl zh l55),(56,ai i56),(57,ai i57)],[Qa (bx [] be z0),Qa [sl Q6 jb0]]⟩)
theorem zhG:zI H5.P 101 Tryz.f101 1:=bQ kw
def Vz(y:zn be):Tr (uU⊕aw):=
 let a0:=kB (y.t.1,y.t.2.1,y.t.q.1,(y.t.q.2.1,[],y.t.t.1,[],[],zm y.t.t.2.1),[],y.t.t.q.1)
 Q9 (uU.h3 a0 (↑(length a0):Int) 0 y a0)
def GY(l14:LS)(i15:Int)(i16:Int)(z0:zn be)(jb0:LS)(a0:Sem zg)(a1:Sem zg):Tr (uU⊕aw):=br (Q0 (i16<i15)) (Qc (zP i16 l14.length) (br (Q0 (a0<0)) (re (ai 6) (ar be z0)) (Q9 (uU.h3 l14 i15 (IntKind.i64.wrap (i16+1)) z0 jb0)))) (br (bif Q0 (a1>=0)then Q3 else z0.t.2.1==z0.t.q.1) (re (ai 7) (ar be z0)) (Q9 (uU.h11 z0.1 (↑(length z0.1):Int) 0 z0 jb0)))
def Ls(l14:LS)(i15:Int)(i16:Int)(z0:zn be)(jb0:LS):Tr (uU⊕aw):=
 let a0:=zS z0.1 (l14.getD i16.toNat (zi Q6))
 let a1:=zS z0.1 z0.2.1.2.1
 GY l14 i15 i16 z0 jb0 a0 a1
def Cz(l55:List (Sem zh))(i56:Int)(i57:Int)(z0:zn be)(jb0:LS)(a0:Sem zh)(a1:Int)(a2:Sem zg)(a3:Sem zg)(a4:Sem zh)(a5:Sem zh):Tr (uU⊕aw):=br (Q0 (i57<i56)) (Qc (zP i57 l55.length) (br (!az jb0 a0.1.1) (br (Q0 (a1>=0)) (re (ai 10) (ar be z0)) (Q9 (uU.h11 l55 i56 (IntKind.i64.wrap (i57+1)) z0 jb0))) (Q9 (uU.h11 l55 i56 (IntKind.i64.wrap (i57+1)) z0 jb0)))) (Qc (zP a2 (length z0.1)) (br (!z0.t.q.1==[]) (Qc (zP a3 (length z0.1)) (re (ai 0) (ar be (z0.1,z0.2.1,a4.1,a5.1,z0.t)))) (re (ai 0) (ar be (z0.1,z0.2.1,a4.1,z0.2.2.2)))))
def GX(l55:List (Sem zh))(i56:Int)(i57:Int)(z0:zn be)(jb0:LS):Tr (uU⊕aw):=
 let a0:=l55.getD i57.toNat (zi zh)
 let a1:=ae (λx=>az jb0 x.2) a0.1.t.1 0
 let a2:=zS z0.1 z0.t.2.1
 let a3:=zS z0.1 z0.t.q.1
 let a4:=getD z0.1 (toNat a2) (zi zh)
 let a5:=getD z0.1 (toNat a3) (zi zh)
 Cz l55 i56 i57 z0 jb0 a0 a1 a2 a3 a4 a5
theorem zf0(y:zn be):rn H5 1 RL Tryz.f101 [Qf 0 0] (ar be y)=(Vz y).map (lf Tryz.f101 P3):=kw
def Cy:uU->Tr (uU⊕aw)
 |.h3 l14 i15 i16 z0 jb0=>Ls l14 i15 i16 z0 jb0
 |.h11 l55 i56 i57 z0 jb0=>GX l55 i56 i57 z0 jb0
theorem zim:∀s,run H5 1 RL (Func.results Tryz.f101).toList 400 (zZ Tryz.f101 (P3 s).1) (P3 s).2=(Cy s).map (lf Tryz.f101 P3)|.h3 l14 i15 i16 z0 jb0=>by kernel_rfl|.h11 l55 i56 i57 z0 jb0=>by kernel_rfl
def pR(y:zn be):Option (zy (Qi Q1 [zg])×zn be):=kA [zg] be Cy 100000000 (Vz y)
def mc(y:zn be):Bool:=(pR y).isSome
def mb(y:zn be):(Sem zg)×zn be:=(λr:zy (Qi Q1 [zg])×zn be=>(r.1.1,r.2)) ((pR y).getD (cn [zg],fM be))
def zdt:zX:=rI be [] [zg] be (λy _=>mc y) λy _=>(((mb y).1,()),(mb y).2)
theorem ZL:FK 101 zdt:=j7 (keep:=RL) (gas:=400) (n:=100000000) (e:=P3) (t:=Cy) (i:=λy x=>Vz y) D1 zhG (λy x=>zf0 y) zim (λ_ _=>by kernel_rfl) (λ_ _=>by kernel_rfl)
def H2:=H5.add 101 zdt
theorem DW:zw H2:=D1.add ZL
abbrev dG:List CP:=[.d (.sl zh),.d zk,.d zo,.d zo,.d .str,.d .str,.d .str,.d .str,.vec zj,.d zg,.nil,.nil,.d .expr,.vec zg,.d zg]
abbrev RO:Nat->aM:=λj=>if j=3 then{slots:=[1,3,14,15,16,0],prom:=[(0,Q1 60,.int .i64),(0,Q1 50,zj)]}else if j=12 then{slots:=[1,63,64,65,0]}else if j=1000000 then{sett:=[(0,60)]}else{ }
inductive rA where
 |h3 (l14:LS) (i15:Int) (i16:Int) (z0:zn dG)
 |h12 (i64:Int) (i65:Int) (z0:zn dG)
 |h12b (i64:Int) (i65:Int) (z0:zn dG)
abbrev P6:rA->Nat×St
 |.h3 l14 i15 i16 z0=>(3,⟨tm 80 [(0,Qf 0 0),(1,Qf 1 0),(3,AV.clo (Fn.func 185) [] [Qf 1 0]),(14,sl Q6 l14),(15,ai i15),(16,ai i16)],[Qa (bx [2,3] dG z0),Qa [Qf 0 0],AO.vec zj z0.t.t.1,AO.vec zg z0.t.t.q.2.1]⟩)
 |.h12 i64 i65 z0=>(12,⟨tm 80 [(0,Qf 0 0),(1,Qf 1 0),(63,AV.vec 2),(64,ai i64),(65,ai i65)],[Qa (bx [3,2] dG z0),Qa [Qf 0 0],AO.vec zg z0.t.t.q.2.1,AO.vec zj z0.t.t.1]⟩)
 |.h12b i64 i65 z0=>(12,⟨tm 80 [(0,Qf 0 0),(1,Qf 1 0),(63,AV.vec 2),(64,ai i64),(65,ai i65)],[Qa (bx [3,2] dG z0),Qa [Qf 0 0],AO.frz zg z0.t.t.q.2.1,AO.vec zj z0.t.t.1]⟩)
theorem zh4:zI H2.P 138 Tryz.f138 1:=bQ kw
def VF(y:zn be):Tr (rA⊕aw):=Q9 (rA.h3 y.2.1.2.2.2.1 (↑(length y.2.1.2.2.2.1):Int) 0 (y.1,y.2.1,y.2.2.1,y.2.2.2.1,y.t.1,y.t.2.1,y.t.q.1,y.t.q.2.1,[],y.t.t.1,y.t.t.2.1,[],y.t.t.q))
def G2(l14:LS)(i15:Int)(i16:Int)(z0:zn dG)(a0:Sem zg)(a1:LI)(a2:LC):Tr (rA⊕aw):=br (Q0 (i16<i15)) (Qc (zP i16 l14.length) (br (Q0 (a0<0)) (re (ai 4) (ar aj z0)) (Qc (Q0 (z0.t.t.q.2.1.length+a1.length<=1073741824)) (Qc (zP a0 (length z0.2.2.1.2.1)) (Qc (Q0 (z0.t.t.1.length+a2.length<=1073741824)) (Q9 (rA.h3 l14 i15 (IntKind.i64.wrap (i16+1)) (z0.1,z0.2.1,z0.2.2.1,z0.2.2.2.1,z0.t.1,z0.t.2.1,z0.t.q.1,z0.t.q.2.1,z0.t.t.1++a2,z0.t.t.2.1,z0.t.t.q.1,z0.t.t.q.2.1++a1,z0.t.t.t)))))))) (Q9 (rA.h12 (↑z0.t.t.q.2.1.length:Int) 0 z0))
def Lw(l14:LS)(i15:Int)(i16:Int)(z0:zn dG):Tr (rA⊕aw):=
 let a0:=zN (z0.2.2.1.1,z0.2.2.1.2.1,z0.2.2.1.2.2.1,z0.2.2.1.2.2.2.1,z0.2.2.1.t.1,zm z0.2.2.1.t.2) (l14.getD i16.toNat (zi Q6))
 let a1:=[a0]
 let a2:=[getD z0.2.2.1.2.1 (toNat a0) (zi zj)]
 G2 l14 i15 i16 z0 a0 a1 a2
def CC(i64:Int)(i65:Int)(z0:zn dG)(a0:Int):Tr (rA⊕aw):=br (Q0 (i65<i64)) (Qc (zP i65 z0.t.t.q.2.1.length) (Qc (Q0 (i65.toNat<z0.t.t.q.2.1.length)) (Qc (Q0 (0<=0)&&Q0 (0<=i65)&&Q0 (i65<=a0)) (br (sb (List.take (i65.toNat-toNat 0) (List.drop (toNat 0) z0.t.t.q.2.1)) (z0.t.t.q.2.1.getD i65.toNat (zi zg))) (re (ai 7) (ar aj z0)) (Q9 (rA.h12b i64 (IntKind.i64.wrap (i65+1)) z0)))))) (re (ai 0) (ar aj z0))
def G1(i64:Int)(i65:Int)(z0:zn dG):Tr (rA⊕aw):=
 let a0:=(↑z0.t.t.q.2.1.length:Int)
 CC i64 i65 z0 a0
def wz(i64:Int)(i65:Int)(z0:zn dG)(a0:Int):Tr (rA⊕aw):=br (Q0 (i65<i64)) (Qc (zP i65 z0.t.t.q.2.1.length) (Qc (Q0 (0<=0)&&Q0 (0<=i65)&&Q0 (i65<=a0)) (br (sb (List.take (i65.toNat-toNat 0) (List.drop (toNat 0) z0.t.t.q.2.1)) (z0.t.t.q.2.1.getD i65.toNat (zi zg))) (re (ai 7) (ar aj z0)) (Q9 (rA.h12b i64 (IntKind.i64.wrap (i65+1)) z0))))) (re (ai 0) (ar aj z0))
def CB(i64:Int)(i65:Int)(z0:zn dG):Tr (rA⊕aw):=
 let a0:=(↑z0.t.t.q.2.1.length:Int)
 wz i64 i65 z0 a0
theorem zf9(y:zn be):rn H2 1 RO Tryz.f138 [Qf 0 0] (ar be y)=(VF y).map (lf Tryz.f138 P6):=kw
def pl:rA->Tr (rA⊕aw)
 |.h3 l14 i15 i16 z0=>Lw l14 i15 i16 z0
 |.h12 i64 i65 z0=>G1 i64 i65 z0
 |.h12b i64 i65 z0=>CB i64 i65 z0
theorem ziu:∀s,run H2 1 RO (Func.results Tryz.f138).toList 400 (zZ Tryz.f138 (P6 s).1) (P6 s).2=(pl s).map (lf Tryz.f138 P6)|.h3 l14 i15 i16 z0=>by kernel_rfl|.h12 i64 i65 z0=>by kernel_rfl|.h12b i64 i65 z0=>by kernel_rfl
def yh(y:zn be):Option (zy (Qi Q1 [zg])×zn aj):=kA [zg] aj pl 100000000 (VF y)
def mW(y:zn be):Bool:=(yh y).isSome
def jB(y:zn be):(Sem zg)×zn aj:=(λr:zy (Qi Q1 [zg])×zn aj=>(r.1.1,r.2)) ((yh y).getD (cn [zg],fM aj))
def zdQ:zX:=rI be [] [zg] aj (λy _=>mW y) λy _=>(((jB y).1,()),(jB y).2)
theorem zac:FK 138 zdQ:=j7 (ps:=be) (ks:=[]) (outs:=[zg]) (keep:=RO) (gas:=400) (n:=100000000) (e:=P6) (t:=pl) (i:=λy x=>VF y) DW zh4 (λy x=>zf9 y) ziu (λ_ _=>by kernel_rfl) (λ_ _=>by kernel_rfl)
def DX:=H2.add 138 zdQ
theorem vK:zw DX:=DW.add zac
abbrev Od(y:zn be):zn be:=(y.1,(y.2.1.1,y.2.1.2.1,y.2.1.2.2.1,y.2.1.2.2.2.1,y.2.1.t.1,y.2.1.t.2.1,y.2.1.t.q.1,y.2.1.t.q.2.1,zm y.2.1.t.t.1,y.2.1.t.t.2.1,y.2.1.t.t.q.1,zm y.2.1.t.t.q.2.1,y.2.1.t.t.t),(y.2.2.1.1,y.2.2.1.2.1,y.2.2.1.2.2.1,y.2.2.1.2.2.2.1,y.2.2.1.t.1,zm y.2.2.1.t.2),(y.2.2.2.1.1,y.2.2.2.1.2.1,y.2.2.2.1.2.2.1,y.2.2.2.1.2.2.2.1,y.2.2.2.1.t.1,zm y.2.2.2.1.t.2),y.t.1,y.t.2.1,y.t.q.1,y.t.q.2.1,y.t.t.1,zm y.t.t.2.1,y.t.t.q.1,())
abbrev Mj(y:zn aj):zn aj:=(y.1,(y.2.1.1,y.2.1.2.1,y.2.1.2.2.1,y.2.1.2.2.2.1,y.2.1.t.1,y.2.1.t.2.1,y.2.1.t.q.1,y.2.1.t.q.2.1,zm y.2.1.t.t.1,y.2.1.t.t.2.1,y.2.1.t.t.q.1,zm y.2.1.t.t.q.2.1,y.2.1.t.t.t),(y.2.2.1.1,y.2.2.1.2.1,y.2.2.1.2.2.1,y.2.2.1.2.2.2.1,y.2.2.1.t.1,zm y.2.2.1.t.2),(y.2.2.2.1.1,y.2.2.2.1.2.1,y.2.2.2.1.2.2.1,y.2.2.2.1.2.2.2.1,y.2.2.2.1.t.1,zm y.2.2.2.1.t.2),y.t.1,y.t.2.1,y.t.q.1,y.t.q.2.1,y.t.t.1,y.t.t.2.1,zm y.t.t.q.1,y.t.t.q.2.1,y.t.t.t.1,())
abbrev Yw:Nat->aM:=λ_=>{ }
theorem zhB:zI DX.P 95 Tryz.f95 1:=bQ kw
def Rn(_:zn be)(a0:Sem zh.sl×zn [CP.d zk,CP.d zo,CP.d zo,CP.d Q6,CP.d Q6,CP.d Q6,CP.d Q6,CP.nil,CP.d zg,CP.nil,CP.nil,CP.d Q5,CP.nil,CP.d zg])(a1:Sem zg×zn aj)(a2:Sem zg):Tr (Empty⊕aw):=Qc (mW a0) (br (a1.1!=0) (re (ai a1.1) (ar aj a1.2)) (br (Q0 (a2<0)) (re (ai 1) (ar aj (a1.2.1,a1.2.2.1,a1.2.2.2.1,a1.t.1,a1.t.2.1,a1.t.q.1,a1.t.q.2.1,a1.t.t.1,a1.t.t.2.1,a2,a1.t.t.q.2))) (re (ai 0) (ar aj (a1.2.1,a1.2.2.1,a1.2.2.2.1,a1.t.1,a1.t.2.1,a1.t.q.1,a1.t.q.2.1,a1.t.t.1,a1.t.t.2.1,a2,a1.t.t.q.2)))))
def Rm(y:zn be):Tr (Empty⊕aw):=
 let a0:=Od y
 let a1:=jB a0
 let a2:=gN a1.t.t.t.1 a1.2.2.2.1.2.2.1
 Rn y a0 a1 a2
theorem zfW(y:zn be):rn DX 1 Yw Tryz.f95 [Qf 0 0] (ar be y)=(Rm y).map (lf Tryz.f95 e0):=kw
def FR(y:zn be):Option (zy (Qi Q1 [zg])×zn aj):=kA [zg] aj t0 100000000 (Rm y)
def FQ(y:zn be):Bool:=(FR y).isSome
def Et(y:zn be):(Sem zg)×zn aj:=(λr:zy (Qi Q1 [zg])×zn aj=>(r.1.1,r.2)) ((FR y).getD (cn [zg],fM aj))
def zdm:zX:=rI be [] [zg] aj (λy _=>FQ y) λy _=>(((Et y).1,()),(Et y).2)
theorem ZE:FK 95 zdm:=j7 (keep:=Yw) (gas:=400) (n:=100000000) (e:=e0) (t:=t0) (i:=λy x=>Rm y) vK zhB (λy x=>zfW y) (TQ _ _ _ _ _) (λ_ _=>by kernel_rfl) (λ_ _=>by kernel_rfl)
abbrev Yy:Nat->aM:=λ_=>{ }
theorem zhE:zI DX.P 97 Tryz.f97 1:=bQ kw
def Rp(_:zn be)(a0:Sem zh.sl×zn [CP.d zk,CP.d zo,CP.d zo,CP.d Q6,CP.d Q6,CP.d Q6,CP.d Q6,CP.nil,CP.d zg,CP.nil,CP.nil,CP.d Q5,CP.nil,CP.d zg])(a1:Sem zg×zn aj)(a2:Sem zj)(_:Sem zj)(a4:LC)(a5:Sem zj):Tr (Empty⊕aw):=Qc (mW a0) (br (a1.1!=0) (re (ai a1.1) (ar aj a1.2)) (Qc (zP 1 a1.t.t.2.1.length) (Qc (Q0 (toNat 1<a1.t.t.2.1.length)) (br (a2.2.1!=1) (re (ai 5) (ar aj a1.2)) (Qc (zP 0 a1.t.t.2.1.length) (Qc (Q0 (toNat 0<a1.t.t.2.1.length)) (Qc (zP 1 a4.length) (Qc (Q0 (toNat 1<a4.length)) (re (ai 0) (ar aj (a1.2.1,a1.2.2.1,a1.2.2.2.1,a1.t.1,a1.t.2.1,a1.t.q.1,a1.t.q.2.1,a1.t.t.1,a4.set (toNat 1) (a5.1,a5.2.1,Q4),a1.t.t.q)))))))))))
def Ro(y:zn be):Tr (Empty⊕aw):=
 let a0:=Od y
 let a1:=jB a0
 let a2:=a1.t.t.2.1.getD (toNat 1) (zi zj)
 let a3:=a1.t.t.2.1.getD (toNat 0) (zi zj)
 let a4:=a1.t.t.2.1.set (toNat 0) (a3.1,a3.2.1,Q3)
 let a5:=a4.getD (toNat 1) (zi zj)
 Rp y a0 a1 a2 a3 a4 a5
theorem zfZ(y:zn be):rn DX 1 Yy Tryz.f97 [Qf 0 0] (ar be y)=(Ro y).map (lf Tryz.f97 e0):=kw
def yg(y:zn be):Option (zy (Qi Q1 [zg])×zn aj):=kA [zg] aj t0 100000000 (Ro y)
def yf(y:zn be):Bool:=(yg y).isSome
def vW(y:zn be):(Sem zg)×zn aj:=(λr:zy (Qi Q1 [zg])×zn aj=>(r.1.1,r.2)) ((yg y).getD (cn [zg],fM aj))
def zdr:zX:=rI be [] [zg] aj (λy _=>yf y) λy _=>(((vW y).1,()),(vW y).2)
theorem ZJ:FK 97 zdr:=j7 (keep:=Yy) (gas:=400) (n:=100000000) (e:=e0) (t:=t0) (i:=λy x=>Ro y) vK zhE (λy x=>zfZ y) (TQ _ _ _ _ _) (λ_ _=>by kernel_rfl) (λ_ _=>by kernel_rfl)
def H4:=DX.addL [(95,zdm),(97,zdr)]
theorem DY:zw H4:=vK.addL<|fc ZE<|fc ZJ jj
abbrev RK:Nat->aM:=λj=>if j=11 then{slots:=[0,83,84,85],prom:=[(0,Q1 60,.int .i64)]}else if j=1000000 then{prom:=[(0,Q1 50,zj),(0,Q1 60,.int .i64)],sett:=[(0,60)]}else{ }
inductive CX where
 |h11 (l83:LC) (i84:Int) (i85:Int) (z0:zn dG)
abbrev P2:CX->Nat×St
 |.h11 l83 i84 i85 z0=>(11,⟨tm 124 [(0,Qf 0 0),(83,sl zj l83),(84,ai i84),(85,ai i85)],[Qa (bx [1,2] dG z0),AO.vec zj z0.t.t.1,AO.vec zg z0.t.t.q.2.1]⟩)
theorem zhD:zI H4.P 96 Tryz.f96 1:=bQ kw
def Ip(y:zn be)(a0:Sem zg)(a1:Sem Q5×List (Sem zg)×Sem zg×Unit)(a2:Int)(a3:Int):Tr (CX⊕aw):=br (Q0 (a0<0)) (re (ai 4) (ar aj (y.1,y.2.1,y.2.2.1,y.2.2.2.1,y.t.1,y.t.2.1,y.t.q.1,y.t.q.2.1,[],y.t.t.1,a1))) (br (!jy y.2.2.1.t.1 (a0,y.t.q.1)) (re (ai 10) (ar aj (y.1,y.2.1,y.2.2.1,y.2.2.2.1,y.t.1,y.t.2.1,y.t.q.1,y.t.q.2.1,[],y.t.t.1,a1))) (br (Q0 (a3>8)) (re (ai 13) (ar aj (y.1,y.2.1,y.2.2.1,y.2.2.2.1,y.t.1,y.t.2.1,y.t.q.1,y.t.q.2.1,[],y.t.t.1,a1))) (Qc (Q0 (length y.2.2.1.2.1<=1073741824)) (Q9 (CX.h11 y.2.2.2.1.2.1 a2 0 (y.1,y.2.1,y.2.2.1,y.2.2.2.1,y.t.1,y.t.2.1,y.t.q.1,y.t.q.2.1,y.2.2.1.2.1,y.2.2.1.2.2.1,a1))))))
def FG(y:zn be):Tr (CX⊕aw):=
 let a0:=zN (y.2.2.1.1,y.2.2.1.2.1,y.2.2.1.2.2.1,y.2.2.1.2.2.2.1,y.2.2.1.t.1,zm y.2.2.1.t.2) y.2.1.t.2.1
 let a1:=(y.t.t.2.1,[],a0,())
 let a2:=(↑(length y.2.2.2.1.2.1):Int)
 let a3:=IntKind.i64.wrap (IntKind.i64.wrap ((↑(length y.2.2.1.2.1):Int)+a2)-1)
 Ip y a0 a1 a2 a3
def Cx(l83:LC)(i84:Int)(i85:Int)(z0:zn dG)(a0:LC)(a1:Int):Tr (CX⊕aw):=br (Q0 (i85<i84)) (Qc (zP i85 l83.length) (br (i85 !=z0.2.2.2.1.2.2.1) (Qc (Q0 (z0.t.t.q.2.1.length+[i85].length<=1073741824)) (Qc (Q0 (z0.t.t.1.length+a0.length<=1073741824)) (Q9 (CX.h11 l83 i84 a1 (z0.1,z0.2.1,z0.2.2.1,z0.2.2.2.1,z0.t.1,z0.t.2.1,z0.t.q.1,z0.t.q.2.1,z0.t.t.1++a0,z0.t.t.2.1,z0.t.t.q.1,z0.t.t.q.2.1++[i85],z0.t.t.t))))) (Q9 (CX.h11 l83 i84 a1 z0)))) (re (ai 0) (ar aj z0))
def GW(l83:LC)(i84:Int)(i85:Int)(z0:zn dG):Tr (CX⊕aw):=
 let a0:=[l83.getD i85.toNat (zi zj)]
 let a1:=IntKind.i64.wrap (i85+1)
 Cx l83 i84 i85 z0 a0 a1
theorem zfX(y:zn be):rn H4 1 RK Tryz.f96 [Qf 0 0] (ar be y)=(FG y).map (lf Tryz.f96 P2):=kw
def JD:CX->Tr (CX⊕aw)
 |.h11 l83 i84 i85 z0=>GW l83 i84 i85 z0
theorem zij:∀s,run H4 1 RK (Func.results Tryz.f96).toList 400 (zZ Tryz.f96 (P2 s).1) (P2 s).2=(JD s).map (lf Tryz.f96 P2)|.h11 l83 i84 i85 z0=>by kernel_rfl
def Bd(y:zn be):Option (zy (Qi Q1 [zg])×zn aj):=kA [zg] aj JD 100000000 (FG y)
def FS(y:zn be):Bool:=(Bd y).isSome
def Eu(y:zn be):(Sem zg)×zn aj:=(λr:zy (Qi Q1 [zg])×zn aj=>(r.1.1,r.2)) ((Bd y).getD (cn [zg],fM aj))
def zdo:zX:=rI be [] [zg] aj (λy _=>FS y) λy _=>(((Eu y).1,()),(Eu y).2)
theorem ZG:FK 96 zdo:=j7 (keep:=RK) (gas:=400) (n:=100000000) (e:=P2) (t:=JD) (i:=λy x=>FG y) DY zhD (λy x=>zfX y) zij (λ_ _=>by kernel_rfl) (λ_ _=>by kernel_rfl)
def XW:=H4.add 96 zdo
theorem DZ:zw XW:=DY.add ZG
abbrev me:AV:=agg [str [],str [],str [],str [],nils,ai 0,nils,nils,str [],ai 0,ai 0,str [],str [],nils,nils,ai 0]
abbrev wg(z:zn aj):AV:=agg [str z.t.1,str z.t.2.1,str z.t.q.1,str z.t.q.2.1,AV.vec 0,ai z.t.t.2.1,nils,nils,str (ze.op z.t.t.q.1),ai (ze.v z.t.t.q.1).1,ai (ze.v z.t.t.q.1).2.1,str (ze.v z.t.t.q.1).2.2,str (ze.s z.t.t.q.1),sl Q5 (ze.l z.t.t.q.1),sl zg z.t.t.q.2.1,ai z.t.t.t.1]
abbrev F2(z:zn be):AV:=agg [str z.t.1,str z.t.2.1,str z.t.q.1,str z.t.q.2.1,nils,ai z.t.t.1,nils,nils,str (ze.op z.t.t.2.1),ai (ze.v z.t.t.2.1).1,ai (ze.v z.t.t.2.1).2.1,str (ze.v z.t.t.2.1).2.2,str (ze.s z.t.t.2.1),sl Q5 (ze.l z.t.t.2.1),nils,ai z.t.t.q.1]
def Il(_:Sem zh.sl)(x1:Sem zk)(_:ze)(_:Sem Q6×Sem (Sh.str.pr (Sh.str.pr (Sh.str.sl.pr (zj.sl.pr (Sh.str.pr (Sh.str.sl.pr (iD.sl.pr (Sh.expr.pr (zf.sl.pr (gS.sl.pr (Sh.expr.pr Q6))))))))))))(_:Bool)(a3:Bool)(a4:Bool)(a5:Bool)(_:Sem zh.sl×zn [CP.d zk,CP.d zo,CP.d zo,CP.d Q6,CP.d Q6,CP.d Q6,CP.d Q6,CP.nil,CP.d zg,CP.nil,CP.nil,CP.d Q5,CP.nil,CP.d zg])(a7:Bool)(a8:Sem zg×zn be)(a9:Bool)(a10:Sem zh.sl×zn [CP.d zk,CP.d zo,CP.d zo,CP.d Q6,CP.d Q6,CP.d Q6,CP.d Q6,CP.nil,CP.d zg,CP.nil,CP.nil,CP.d Q5,CP.nil,CP.d zg])(a11:Sem zg×zn aj)(a12:Sem zh.sl×zn [CP.d zk,CP.d zo,CP.d zo,CP.d Q6,CP.d Q6,CP.d Q6,CP.d Q6,CP.vec zj,CP.d zg,CP.nil,CP.nil,CP.d Q5,CP.d zg.sl,CP.d zg])(a13:Sem zg×zn aj)(a14:Sem zg×zn aj)(a15:Sem zh.sl×zn [CP.d zk,CP.d zo,CP.d zo,CP.d Q6,CP.d Q6,CP.d Q6,CP.d Q6,CP.vec zj,CP.d zg,CP.nil,CP.nil,CP.d Q5,CP.d zg.sl,CP.d zg])(a16:Sem zg×zn aj)(a17:Sem zg×zn aj)(a18:Sem zh.sl×zn [CP.d zk,CP.d zo,CP.d zo,CP.d Q6,CP.d Q6,CP.d Q6,CP.d Q6,CP.vec zj,CP.d zg,CP.nil,CP.nil,CP.d Q5,CP.d zg.sl,CP.d zg])(a19:Sem zg×zn aj):Tr (Empty⊕aw):=
 Qc Q3 (Qc Q3 (Qc Q3 (br (x1.1==[99,111,112,121]) (Qc a3 (br a4 (re (Qe [me,ai 1]) []) (Qc a5 (Qc a7 (br a9 (Qc (FQ a10) (br (a11.1==0) (Qc (fZ a12) (br (a13.1!=0) (re (Qe [me,ai a13.1]) []) (re (Qe [(wg a13.2),ai 0]) [AO.vec zj a13.t.t.2.1]))) (br (a11.1!=0) (re (Qe [me,ai a11.1]) []) (re (Qe [(wg a11.2),ai 0]) [AO.vec zj a11.t.t.2.1])))) (br a9 Tr.err (br (a8.1!=0) (re (Qe [me,ai a8.1]) []) (re (Qe [(F2 a8.2),ai 0]) [])))))))) (br (x1.1==[106,111,105,110]) (Qc a3 (br a4 (re (Qe [me,ai 1]) []) (Qc a5 (Qc a7 (br a9 (Qc (FS a10) (br (a14.1==0) (Qc (fZ a15) (br (a16.1!=0) (re (Qe [me,ai a16.1]) []) (re (Qe [(wg a16.2),ai 0]) [AO.vec zj a16.t.t.2.1]))) (br (a14.1!=0) (re (Qe [me,ai a14.1]) []) (re (Qe [(wg a14.2),ai 0]) [AO.vec zj a14.t.t.2.1])))) (br a9 Tr.err (br (a8.1!=0) (re (Qe [me,ai a8.1]) []) (re (Qe [(F2 a8.2),ai 0]) [])))))))) (br (x1.1==[103,114,111,117,112]) (Qc a3 (br a4 (re (Qe [me,ai 1]) []) (Qc a5 (Qc a7 (br a9 (Qc (yf a10) (br (a17.1==0) (Qc (fZ a18) (br (a19.1!=0) (re (Qe [me,ai a19.1]) []) (re (Qe [(wg a19.2),ai 0]) [AO.vec zj a19.t.t.2.1]))) (br (a17.1!=0) (re (Qe [me,ai a17.1])
 []) (re (Qe [(wg a17.2),ai 0]) [AO.vec zj a17.t.t.2.1])))) (br a9 Tr.err (br (a8.1!=0) (re (Qe [me,ai a8.1]) []) (re (Qe [(F2 a8.2),ai 0]) [])))))))) (re (Qe [me,ai 1]) []))))))
def zbl(x0:Sem zh.sl)(x1:Sem zk):Tr (Empty⊕aw):=
 let a0:=zm x1.t.t.1
 let a1:=(x1.1,x1.2.1,x1.2.2.1,x1.2.2.2.1,x1.t.1,x1.t.2.1,x1.t.q.1,x1.t.q.2.1,a0,x1.t.t.2.1,x1.t.t.q.1,zm x1.t.t.q.2.1,x1.t.t.t)
 let a2:=!dW a1
 let a3:=nu a1&&bif a2 then Q3 else mJ x0
 let a4:=bif a2 then Q3 else ke x0 !=0
 let a5:=qM 16 a0
 let a6:=(x0,a1,([],[],0,[],[],ze.mk [] (0,0,[]) [] []),([],[],0,[],[],ze.mk [] (0,0,[]) [] []),x1.1,x1.2.2.1,x1.t.t.t,x1.2.1,0,a0,0,())
 let a7:=mc a6
 let a8:=mb a6
 let a9:=a8.1==0
 let a10:=Od a8.2
 let a11:=Et a10
 let a12:=Mj a11.2
 let a13:=fa a12
 let a14:=Eu a10
 let a15:=Mj a14.2
 let a16:=fa a15
 let a17:=vW a10
 let a18:=Mj a17.2
 let a19:=fa a18
 Il x0 x1 a0 a1 a2 a3 a4 a5 a6 a7 a8 a9 a10 a11 a12 a13 a14 a15 a16 a17 a18 a19
def IP(x0:Sem zh.sl)(x1:Sem zk):=al [zE,zg] t0 100000000 (zbl x0 x1)
def zci(x0:Sem zh.sl)(x1:Sem zk):=(IP x0 x1).isSome
def pOf(x0:Sem zh.sl)(x1:Sem zk):=o2 (IP x0 x1)
def zcR:=FT [zh.sl,zk] [zE,zg] λx=>IP x.1 x.2.1
theorem Y7:FK 58 zcR:=DZ.T1 (f:=Tryz.f58) (keep:=k0) (e:=e0)
def Mf:=XW.add 58 zcR
theorem lW:zw Mf:=DZ.add Y7
abbrev aG:List CP:=[.d (.sl zr),.d zg,.d .bool]
def Yg(x0:Sem (Sh.int IntKind.u8)):Tr (Empty⊕aw):=
 let a0:=bif Q0 (97<=x0)then Q0 (x0<=122)else Q4
 re (AV.bool (bif Q0 (65<=x0)then bif Q0 (x0<=90)then Q3 else a0 else a0)) []
def mq(x0:Sem (Sh.int IntKind.u8)):=al [Q7] t0 100000000 (Yg x0)
def j5(x0:Sem (Sh.int IntKind.u8)):=(mq x0).isSome
def mo(x0:Sem (Sh.int IntKind.u8)):=o1 (mq x0)
def Xa:=FT [Sh.int IntKind.u8] [Q7] λx=>mq x.1
theorem Uo:FK 123 Xa:=lW.T1 (f:=Tryz.f123) (keep:=k0) (e:=e0)
def zgi(x0:Sem (Sh.int IntKind.u8)):Tr (Empty⊕aw):=
 re (AV.bool (bif Q0 (48<=x0)then Q0 (x0<=57)else Q4)) []
def ue(x0:Sem (Sh.int IntKind.u8)):=al [Q7] t0 100000000 (zgi x0)
def fu(x0:Sem (Sh.int IntKind.u8)):=(ue x0).isSome
def gy(x0:Sem (Sh.int IntKind.u8)):=o1 (ue x0)
def Xc:=FT [Sh.int IntKind.u8] [Q7] λx=>ue x.1
theorem Uq:FK 125 Xc:=lW.T1 (f:=Tryz.f125) (keep:=k0) (e:=e0)
abbrev zhd:=mV [(2,[0,1,5])]
inductive NC where
 |h2 (l0:LS) (s1:TS) (i5:Int)
abbrev zjG:NC->Nat×St
 |.h2 l0 s1 i5=>(2,⟨tm 18 [(0,sl Q6 l0),(1,str s1),(5,ai i5)],[]⟩)
def zkO(x0:Sem Sh.str.sl)(x1:TS):Tr (NC⊕aw):=
 Q9 (NC.h2 x0 x1 0)
def Ly:NC->Tr (NC⊕aw)
 | .h2 l0 s1 i5=>
  br (Q0 (i5<(↑l0.length:Int)))
  (Qc (zP i5 l0.length) (br (l0.getD i5.toNat (zi Q6)==s1) (re (kb Q3) []) (Q9 (NC.h2 l0 s1 (IntKind.i64.wrap (i5+1))))))
  (re (kb Q4) [])
def M8(x0:Sem Sh.str.sl)(x1:TS):=al [Q7] Ly 100000000 (zkO x0 x1)
def xu(x0:Sem Sh.str.sl)(x1:TS):=(M8 x0 x1).isSome
def Ji(x0:Sem Sh.str.sl)(x1:TS):=o1 (M8 x0 x1)
def zd3:=FT [Sh.str.sl,Q6] [Q7] λx=>M8 x.1 x.2.1
theorem zao:FK 78 zd3:=lW.T1 (f:=Tryz.f78) (keep:=zhd) (e:=zjG)
abbrev RF:Nat->aM:=λ_=>{ }
theorem zb3:zI Mf.P 88 Tryz.f88 2:=bQ kw
def Re(y:zn aG)(x0:TS):Tr (Empty⊕aw):=
 let a0:=Q0 (y.2.1<(↑(length y.1):Int))
 let a1:=zP y.2.1 (length y.1)
 let a2:=getD y.1 (toNat y.2.1) (zi zr)
 let a3:=a2.1==1
 let a4:=a2.1==4
 let a5:=a2.2==x0
 Qc (bif a0 then a1&&bif a3 then a1 else a1&&bif a4 then a1 else Q3 else Q3)
 (re (AV.bool (bif a0 then bif a3 then a5 else bif a4 then a5 else Q4 else Q4)) (ar aG y))
theorem za4(y:zn aG)(x0:TS):rn Mf 1 RF Tryz.f88 [Qf 0 0,zC Q6 x0] (ar aG y)=(Re y x0).map (lf Tryz.f88 e0):=kw
def Td(y:zn aG)(x0:TS):Option (zy (Qi Q1 [Q7])×zn aG):=kA [Q7] aG t0 100000000 (Re y x0)
def GD(y:zn aG)(x0:TS):Bool:=(Td y x0).isSome
def Jl(y:zn aG)(x0:TS):(Sem Q7)×zn aG:=(λr:zy (Qi Q1 [Q7])×zn aG=>(r.1.1,r.2)) ((Td y x0).getD (cn [Q7],fM aG))
def WR:zX:=rI aG [Q6] [Q7] aG (λy x=>GD y x.1) λy x=>(((Jl y x.1).1,()),(Jl y x.1).2)
theorem T8:FK 88 WR:=j7 (ps:=aG) (ks:=[Q6]) (outs:=[Q7]) (keep:=RF) (gas:=400) (n:=100000000) (e:=e0) (t:=t0) (i:=λy x=>Re y x.1) lW zb3 (λy x=>za4 y x.1) (TQ _ _ _ _ _) (λ_ _=>by kernel_rfl) (λ_ _=>by kernel_rfl)
def oE:=Mf.addL [(123,Xa),(125,Xc),(78,zd3),(88,WR)]
theorem iN:zw oE:=lW.addL<|fc Uo<|fc Uq<|fc zao<|fc T8 jj
abbrev zbD:=mV [(2,[1,3])]
inductive yV where
 |h2 (i3:Int) (z0:zn [CP.d zf])
abbrev zfz:yV->Nat×St
 |.h2 i3 z0=>(2,⟨tm 66 [(1,Qf 0 0),(3,ai i3)],[Qa (bx [] [CP.d zf] z0)]⟩)
def Yb(x0:Sem zf):Tr (yV⊕aw):=
 Q9 (yV.h2 0 (x0,()))
def ru:yV->Tr (yV⊕aw)
 | .h2 i3 z0=>
  let a0:=(↑(length z0.1.2.2):Int)
  let a1:=zP i3 (length z0.1.2.2)
  let a2:=(↑(getD z0.1.2.2 i3.toNat 0).toNat:Int)
  let a3:=Q0 (a2<32)
  let a4:=z0.1.2.1==0
  let a5:=z0.1.2.2==[]
  br (Q0 (i3<a0))
  (Qc (a1&&bif a3 then Q3 else a1)
   (br (bif a3 then Q3 else Q0 (a2>126)) (re (kb Q4) []) (Q9 (yV.h2 (IntKind.i64.wrap (i3+1)) z0))))
  (br (z0.1.1==0) (re (AV.bool (bif a4 then a5 else Q4)) [])
   (br (z0.1.1==1) (re (AV.bool a5) []) (br (z0.1.1==2) (re (AV.bool (bif a4 then Q0 (a0<=40)else Q4)) []) (br (z0.1.1==3) (re (AV.bool (bif a4 then a5 else bif z0.1.2.1==1 then a5 else Q4)) []) (re (kb Q4) [])))))
def F8(x0:Sem zf):=al [Q7] ru 100000000 (Yb x0)
def lH(x0:Sem zf):=(F8 x0).isSome
def rr(x0:Sem zf):=o1 (F8 x0)
def WI:=FT [zf] [Q7] λx=>F8 x.1
theorem TW:FK 21 WI:=iN.T1 (f:=Tryz.f21) (keep:=zbD) (e:=zfz)
def zgj(x0:Sem Q7):Tr (Empty⊕aw):=
 br x0 (re (agg [ai 3,ai 1,str []]) []) (re (agg [ai 3,ai 0,str []]) [])
def tV(x0:Sem Q7):=al [zf] t0 100000000 (zgj x0)
def kE(x0:Sem Q7):=(tV x0).isSome
def aT(x0:Sem Q7):=o1 (tV x0)
def Xg:=FT [Q7] [zf] λx=>tV x.1
theorem Uu:FK 210 Xg:=iN.T1 (f:=Tryz.f210) (keep:=k0) (e:=e0)
abbrev RJ:Nat->aM:=λ_=>{ }
theorem zb8:zI oE.P 175 Tryz.f175 1:=bQ kw
def Rj(x0:TS):Tr (Empty⊕aw):=
 re
 (AV.bool
  (bif x0==[97,110,100]then Q3
  else bif x0==[111,114]then Q3 else bif x0==[61]then Q3 else bif x0==[60]then Q3 else bif x0==[43]then Q3 else x0==[45]))
 []
theorem zbe(x0:TS):rn oE 0 RJ Tryz.f175 [zC Q6 x0] []=(Rj x0).map (lf Tryz.f175 e0):=kw
def K8(x0:TS):Option (zy (Qi Q1 [Q7])):=al [Q7] t0 100000000 (Rj x0)
def Gh(x0:TS):Bool:=(K8 x0).isSome
def M4(x0:TS):Sem Q7:=(λr:zy (Qi Q1 [Q7])=>r.1) ((K8 x0).getD (cn [Q7]))
def Xu:zX:=zO [Q6] [Q7] (λx=>Gh x.1) λx=>(M4 x.1,())
theorem UH:FK 175 Xu:=lA (ks:=[Q6]) (outs:=[Q7]) (keep:=RJ) (gas:=400) (n:=100000000) (e:=e0) (t:=t0) (i:=λx=>Rj x.1) iN zb8 (λx=>zbe x.1) (TQ _ _ _ _ _) (λ_=>by kernel_rfl) (λ_=>by kernel_rfl)
abbrev RN:Nat->aM:=λj=>if j=2 then{slots:=[0,1,5]}else{ }
inductive Ho where
 |h2 (l0:LC) (s1:TS) (i5:Int)
abbrev P5:Ho->Nat×St
 |.h2 l0 s1 i5=>(2,⟨tm 20 [(0,sl zj l0),(1,str s1),(5,ai i5)],[]⟩)
theorem zhN:zI oE.P 48 Tryz.f48 2:=bQ kw
def VB(x0:Sem zj.sl)(x1:TS):Tr (Ho⊕aw):=
 Q9 (Ho.h2 x0 x1 0)
def G0(l0:LC)(s1:TS)(i5:Int)(a0:Sem zj):Tr (Ho⊕aw):=
 br (Q0 (i5<(↑l0.length:Int)))
 (Qc (zP i5 l0.length) (br (a0.1==s1) (re (ai i5) []) (Q9 (Ho.h2 l0 s1 (IntKind.i64.wrap (i5+1))))))
 (re (ai (-1)) [])
def Lv(l0:LC)(s1:TS)(i5:Int):Tr (Ho⊕aw):=
 let a0:=l0.getD i5.toNat (zi zj)
 G0 l0 s1 i5 a0
theorem zf2(x0:Sem zj.sl)(x1:TS):rn oE 0 RN Tryz.f48 [zC zj.sl x0,zC Q6 x1] []=(VB x0 x1).map (lf Tryz.f48 P5):=kw
def Lu:Ho->Tr (Ho⊕aw)
 |.h2 l0 s1 i5=>Lv l0 s1 i5
theorem zio:∀s,run oE 0 RN (Func.results Tryz.f48).toList 400 (zZ Tryz.f48 (P5 s).1) (P5 s).2=(Lu s).map (lf Tryz.f48 P5)
 |.h2 l0 s1 i5=>by kernel_rfl
def BM(x0:Sem zj.sl)(x1:TS):Option (zy (Qi Q1 [zg])):=al [zg] Lu 100000000 (VB x0 x1)
def dt(x0:Sem zj.sl)(x1:TS):Bool:=(BM x0 x1).isSome
def eC(x0:Sem zj.sl)(x1:TS):Sem zg:=(λr:zy (Qi Q1 [zg])=>r.1) ((BM x0 x1).getD (cn [zg]))
def zdz:zX:=zO [zj.sl,Q6] [zg] (λx=>dt x.1 x.2.1) λx=>(eC x.1 x.2.1,())
theorem ZR:FK 48 zdz:=lA (ks:=[zj.sl,Q6]) (outs:=[zg]) (keep:=RN) (gas:=400) (n:=100000000) (e:=P5) (t:=Lu) (i:=λx=>VB x.1 x.2.1) iN zhN (λx=>zf2 x.1 x.2.1) zio (λ_=>by kernel_rfl) (λ_=>by kernel_rfl)
def HT(g:Sem Q5->Sem Q5->Sem Q7)(c:Sem Q5->Sem Q5->Bool):bT:=oE.add 122 (zO [Q5,Q5] [Q7] (λx=>c x.1 x.2.1) λx=>(g x.1 x.2.1,()))
theorem N3{g:Sem Q5->Sem Q5->Sem Q7}{c:Sem Q5->Sem Q5->Bool}(hg:FK 122 (zO [Q5,Q5] [Q7] (λx=>c x.1 x.2.1) λx=>(g x.1 x.2.1,()))):zw (HT g c):=iN.add hg
abbrev RQ:Nat->aM:=λj=>if j=4 then{slots:=[2,3,5]}else{ }
inductive Hs where
 |h4 (i5:Int) (z0:zn [CP.d Q5]) (z1:zn [CP.d Q5])
abbrev P8:Hs->Nat×St
 |.h4 i5 z0 z1=>(4,⟨tm 53 [(2,Qf 0 0),(3,Qf 1 0),(5,ai i5)],[Qa (bx [] [CP.d Q5] z0),Qa (bx [] [CP.d Q5] z1)]⟩)
theorem zh9(g:Sem Q5->Sem Q5->Sem Q7)(c:Sem Q5->Sem Q5->Bool):zI (HT g c).P 122 Tryz.f122 2:=bQ kw
def A4(_:Sem Q5->Sem Q5->Sem Q7)(_:Sem Q5->Sem Q5->Bool)(x0:Sem Q5)(x1:Sem Q5):Tr (Hs⊕aw):=
 br
 (bif !ze.op x0==ze.op x1 then Q3
 else
  bif !((ze.v x0).1==(ze.v x1).1&&((ze.v x0).2.1==(ze.v x1).2.1&&((ze.v x0).2.2==(ze.v x1).2.2&&Q3)))then Q3
  else bif !ze.s x0==ze.s x1 then Q3 else(↑(ze.l x0).length:Int)!=(↑(ze.l x1).length:Int))
 (re (kb Q4) []) (Q9 (Hs.h4 0 (x0,()) (x1,())))
def yP(g:Sem Q5->Sem Q5->Sem Q7)(c:Sem Q5->Sem Q5->Bool)(i5:Int)(z0:zn [CP.d Q5])(z1:zn [CP.d Q5])(a0:Int)(a1:ze)(a2:ze):Tr (Hs⊕aw):=
 br (Q0 (i5<a0))
 (Qc (zP i5 (ze.l z0.1).length)
  (Qc (zP i5 (ze.l z1.1).length) (Qc (c a1 a2) (br (!g a1 a2) (re (kb Q4) []) (Q9 (Hs.h4 (IntKind.i64.wrap (i5+1)) z0 z1))))))
 (re (kb Q3) [])
def G5(g:Sem Q5->Sem Q5->Sem Q7)(c:Sem Q5->Sem Q5->Bool)(i5:Int)(z0:zn [CP.d Q5])(z1:zn [CP.d Q5]):Tr (Hs⊕aw):=
 let a0:=(↑(ze.l z0.1).length:Int)
 let a1:=zm ((ze.l z0.1).getD i5.toNat (zi Q5))
 let a2:=zm ((ze.l z1.1).getD i5.toNat (zi Q5))
 yP g c i5 z0 z1 a0 a1 a2
theorem zgd(g:Sem Q5->Sem Q5->Sem Q7)(c:Sem Q5->Sem Q5->Bool)(x0:Sem Q5)(x1:Sem Q5):rn (HT g c) 0 RQ Tryz.f122 [zC Q5 x0,zC Q5 x1] []=(A4 g c x0 x1).map (lf Tryz.f122 P8):=kw
def G4(g:Sem Q5->Sem Q5->Sem Q7)(c:Sem Q5->Sem Q5->Bool):Hs->Tr (Hs⊕aw)
 |.h4 i5 z0 z1=>G5 g c i5 z0 z1
theorem ziw(g:Sem Q5->Sem Q5->Sem Q7)(c:Sem Q5->Sem Q5->Bool):∀s,run (HT g c) 0 RQ (Func.results Tryz.f122).toList 400 (zZ Tryz.f122 (P8 s).1) (P8 s).2=(G4 g c s).map (lf Tryz.f122 P8)
 |.h4 i5 z0 z1=>by kernel_rfl
def gw(o:Option (zy (Qi Q1 [Q7]))):Sem Q7:=(λr:zy (Qi Q1 [Q7])=>r.1) (o.getD (cn [Q7]))
def Gc(g:Sem Q5->Sem Q5->Sem Q7)(c:Sem Q5->Sem Q5->Bool)(x0:Sem Q5)(x1:Sem Q5):Option (zy (Qi Q1 [Q7])):=al [Q7] (G4 g c) 3000000000 (A4 g c x0 x1)
def bI:Nat->Sem Q5->Sem Q5->Option (zy (Qi Q1 [Q7]))
 |0=>λ_ _=>Q2
 |n+1=>Gc (λx0 x1=>gw (bI n x0 x1)) λx0 x1=>(bI n x0 x1).isSome
theorem zbA:zI oE.P 122 Tryz.f122 2:=bQ kw
theorem LP:∀n,FK 122 (zO [Q5,Q5] [Q7] (λx=>(bI n x.1 x.2.1).isSome) λx=>(gw (bI n x.1 x.2.1),()))
 |0=>fh ⟨Tryz.f122,zbA.1,zbA.2.1,zbA.2.2.1⟩ (λ_=>rfl)
 |n+1=>lA (E:=HT (λx0 x1=>gw (bI n x0 x1)) (λx0 x1=>(bI n x0 x1).isSome)) (ks:=[Q5,Q5]) (outs:=[Q7]) (keep:=RQ) (gas:=400) (n:=3000000000) (e:=P8) (t:=G4 (λx0 x1=>gw (bI n x0 x1)) (λx0 x1=>(bI n x0 x1).isSome)) (i:=λx=>A4 (λx0 x1=>gw (bI n x0 x1)) (λx0 x1=>(bI n x0 x1).isSome) x.1 x.2.1) (N3 (LP n)) (zh9 _ _) (λx=>zgd _ _ x.1 x.2.1) (ziw _ _) (λ_=>by kernel_rfl) (λ_=>by kernel_rfl)
def yp(x0:Sem Q5)(x1:Sem Q5):Option (zy (Qi Q1 [Q7])):=bI 16 x0 x1
def gv(x0:Sem Q5)(x1:Sem Q5):Bool:=(yp x0 x1).isSome
def eT(x0:Sem Q5)(x1:Sem Q5):Sem Q7:=gw (yp x0 x1)
def zdY:zX:=zO [Q5,Q5] [Q7] (λx=>gv x.1 x.2.1) λx=>(eT x.1 x.2.1,())
theorem zaj:FK 122 zdY:=LP 16
def Ax(g:Sem Q5->Sem zg)(c:Sem Q5->Bool):bT:=oE.add 133 (zO [Q5] [zg] (λx=>c x.1) λx=>(g x.1,()))
theorem Kd{g:Sem Q5->Sem zg}{c:Sem Q5->Bool}(hg:FK 133 (zO [Q5] [zg] (λx=>c x.1) λx=>(g x.1,()))):zw (Ax g c):=iN.add hg
abbrev KG:Nat->aM:=λj=>if j=3 then{slots:=[1,3,4]}else{ }
inductive sG where
 |h3 (i3:Int) (i4:Int) (z0:zn [CP.d Q5])
abbrev HO:sG->Nat×St
 |.h3 i3 i4 z0=>(3,⟨tm 21 [(1,Qf 0 0),(3,ai i3),(4,ai i4)],[Qa (bx [] [CP.d Q5] z0)]⟩)
theorem zb7(g:Sem Q5->Sem zg)(c:Sem Q5->Bool):zI (Ax g c).P 133 Tryz.f133 1:=bQ kw
def Mo(_:Sem Q5->Sem zg)(_:Sem Q5->Bool)(x0:Sem Q5):Tr (sG⊕aw):=
 Q9 (sG.h3 1 0 (x0,()))
def Cv(g:Sem Q5->Sem zg)(c:Sem Q5->Bool)(i3:Int)(i4:Int)(z0:zn [CP.d Q5])(a0:Int)(a1:ze):Tr (sG⊕aw):=
 br (Q0 (i4<a0))
 (Qc (zP i4 (ze.l z0.1).length) (Qc (c a1) (Q9 (sG.h3 (IntKind.i64.wrap (i3+g a1)) (IntKind.i64.wrap (i4+1)) z0))))
 (re (ai i3) [])
def GV(g:Sem Q5->Sem zg)(c:Sem Q5->Bool)(i3:Int)(i4:Int)(z0:zn [CP.d Q5]):Tr (sG⊕aw):=
 let a0:=(↑(ze.l z0.1).length:Int)
 let a1:=zm ((ze.l z0.1).getD i4.toNat (zi Q5))
 Cv g c i3 i4 z0 a0 a1
theorem zbb(g:Sem Q5->Sem zg)(c:Sem Q5->Bool)(x0:Sem Q5):rn (Ax g c) 0 KG Tryz.f133 [zC Q5 x0] []=(Mo g c x0).map (lf Tryz.f133 HO):=kw
def Cu(g:Sem Q5->Sem zg)(c:Sem Q5->Bool):sG->Tr (sG⊕aw)
 |.h3 i3 i4 z0=>GV g c i3 i4 z0
theorem zcd(g:Sem Q5->Sem zg)(c:Sem Q5->Bool):∀s,run (Ax g c) 0 KG (Func.results Tryz.f133).toList 400 (zZ Tryz.f133 (HO s).1) (HO s).2=(Cu g c s).map (lf Tryz.f133 HO)
 |.h3 i3 i4 z0=>by kernel_rfl
def il(o:Option (zy (Qi Q1 [zg]))):Sem zg:=(λr:zy (Qi Q1 [zg])=>r.1) (o.getD (cn [zg]))
def I6(g:Sem Q5->Sem zg)(c:Sem Q5->Bool)(x0:Sem Q5):Option (zy (Qi Q1 [zg])):=al [zg] (Cu g c) 100000000 (Mo g c x0)
def cj:Nat->Sem Q5->Option (zy (Qi Q1 [zg]))
 |0=>λ_=>Q2
 |n+1=>I6 (λx0=>il (cj n x0)) λx0=>(cj n x0).isSome
theorem RA:zI oE.P 133 Tryz.f133 1:=bQ kw
theorem Hk:∀n,FK 133 (zO [Q5] [zg] (λx=>(cj n x.1).isSome) λx=>(il (cj n x.1),()))
 |0=>fh ⟨Tryz.f133,RA.1,RA.2.1,RA.2.2.1⟩ (λ_=>rfl)
 |n+1=>lA (E:=Ax (λx0=>il (cj n x0)) (λx0=>(cj n x0).isSome)) (ks:=[Q5]) (outs:=[zg]) (keep:=KG) (gas:=400) (n:=100000000) (e:=HO) (t:=Cu (λx0=>il (cj n x0)) (λx0=>(cj n x0).isSome)) (i:=λx=>Mo (λx0=>il (cj n x0)) (λx0=>(cj n x0).isSome) x.1) (Kd (Hk n)) (zb7 _ _) (λx=>zbb _ _ x.1) (zcd _ _) (λ_=>by kernel_rfl) (λ_=>by kernel_rfl)
def BL(x0:Sem Q5):Option (zy (Qi Q1 [zg])):=cj 16 x0
def tY(x0:Sem Q5):Bool:=(BL x0).isSome
def yu(x0:Sem Q5):Sem zg:=il (BL x0)
def Xf:zX:=zO [Q5] [zg] (λx=>tY x.1) λx=>(yu x.1,())
theorem Ut:FK 133 Xf:=Hk 16
def Fr:=oE.addL [(21,WI),(210,Xg),(175,Xu),(48,zdz),(122,zdY),(133,Xf)]
theorem kk:zw Fr:=iN.addL<|fc TW<|fc Uu<|fc UH<|fc ZR<|fc zaj<|fc Ut jj
def Yh(x0:Sem (Sh.int IntKind.u8)):Tr (Empty⊕aw):=
 Qc (fu x0&&bif gy x0 then Q3 else j5 x0) (re (AV.bool (bif gy x0 then Q3 else bif mo x0 then Q3 else x0==95)) [])
def uf(x0:Sem (Sh.int IntKind.u8)):=al [Q7] t0 100000000 (Yh x0)
def qr(x0:Sem (Sh.int IntKind.u8)):=(uf x0).isSome
def wo(x0:Sem (Sh.int IntKind.u8)):=o1 (uf x0)
def Xb:=FT [Sh.int IntKind.u8] [Q7] λx=>uf x.1
theorem Up:FK 124 Xb:=kk.T1 (f:=Tryz.f124) (keep:=k0) (e:=e0)
abbrev zbM:=mV [(3,[0,3,4])]
inductive Dm where
 |h3 (s0:TS) (l3:LS) (i4:Int)
abbrev zfG:Dm->Nat×St
 |.h3 s0 l3 i4=>(3,⟨tm 18 [(0,str s0),(3,sl Q6 l3),(4,ai i4)],[]⟩)
def Rh(x0:TS):Tr (Dm⊕aw):=
 Q9
 (Dm.h3 x0
  [[65,78,68],[79,82],[78,79,84],[73,83],[78,85,76,76],[84,82,85,69],[70,65,76,83,69],[67,82,69,65,84,69],[84,65,66,76,69],[75,69,89],[85,78,73,81,85,69],[82,69,70,69,82,69,78,67,69,83],[67,72,69,67,75],[68,82,79,80],[73,78,83,69,82,84],
  [73,78,84,79],[86,65,76,85,69,83],[85,80,68,65,84,69],[83,69,84],[87,72,69,82,69],[68,69,76,69,84,69],[70,82,79,77],[83,69,76,69,67,84],[71,82,65,78,84],[82,69,86,79,75,69],[82,69,65,68],[87,82,73,84,69],[79,78],[84,79],
  [77,73,71,82,65,84,69],[67,79,80,89],[74,79,73,78],[71,82,79,85,80],[66,89],[83,85,77],[73,78,84],[84,69,88,84],[66,79,79,76]]
  0)
def Ct:Dm->Tr (Dm⊕aw)
 | .h3 s0 l3 i4=>
  br (Q0 (i4<(↑l3.length:Int)))
  (Qc (zP i4 l3.length) (br (l3.getD i4.toNat (zi Q6)==s0) (re (kb Q3) []) (Q9 (Dm.h3 s0 l3 (IntKind.i64.wrap (i4+1))))))
  (re (kb Q4) [])
def Gy(x0:TS):=al [Q7] Ct 100000000 (Rh x0)
def BY(x0:TS):=(Gy x0).isSome
def Jf(x0:TS):=o1 (Gy x0)
def W9:=FT [Q6] [Q7] λx=>Gy x.1
theorem Un:FK 121 W9:=kk.T1 (f:=Tryz.f121) (keep:=zbM) (e:=zfG)
abbrev RB:Nat->aM:=λ_=>{ }
theorem zbZ:zI Fr.P 81 Tryz.f81 2:=bQ kw
def Ra(y:zn aG)(x0:TS):Tr (Empty⊕aw):=
 let a0:=(y.1,y.2.1,y.2.2.1,())
 let a1:=Jl a0 x0
 Qc (GD a0 x0)
 (br a1.1 (re (kb Q3) (ar aG (a1.2.1,IntKind.i64.wrap (a1.2.2.1+1),a1.2.2.2)))
  (re (kb Q4) (ar aG a1.2)))
theorem za0(y:zn aG)(x0:TS):rn Fr 1 RB Tryz.f81 [Qf 0 0,zC Q6 x0] (ar aG y)=(Ra y x0).map (lf Tryz.f81 e0):=kw
def Nc(y:zn aG)(x0:TS):Option (zy (Qi Q1 [Q7])×zn aG):=kA [Q7] aG t0 100000000 (Ra y x0)
def dK(y:zn aG)(x0:TS):Bool:=(Nc y x0).isSome
def eV(y:zn aG)(x0:TS):(Sem Q7)×zn aG:=(λr:zy (Qi Q1 [Q7])×zn aG=>(r.1.1,r.2)) ((Nc y x0).getD (cn [Q7],fM aG))
def WM:zX:=rI aG [Q6] [Q7] aG (λy x=>dK y x.1) λy x=>(((eV y x.1).1,()),(eV y x.1).2)
theorem T2:FK 81 WM:=j7 (ps:=aG) (ks:=[Q6]) (outs:=[Q7]) (keep:=RB) (gas:=400) (n:=100000000) (e:=e0) (t:=t0) (i:=λy x=>Ra y x.1) kk zbZ (λy x=>za0 y x.1) (TQ _ _ _ _ _) (λ_ _=>by kernel_rfl) (λ_ _=>by kernel_rfl)
abbrev zhb:=mV [(6,[2,3,5]),(11,[2,3,6]),(16,[2,3,7]),(21,[2,3,8]),(26,[2,3,9]),(31,[2,3,10])]
inductive qI where
 |h6 (i5:Int) (z0:zn nZ) (z1:zn nZ)
 |h11 (i6:Int) (z0:zn nZ) (z1:zn nZ)
 |h16 (i7:Int) (z0:zn nZ) (z1:zn nZ)
 |h21 (i8:Int) (z0:zn nZ) (z1:zn nZ)
 |h26 (i9:Int) (z0:zn nZ) (z1:zn nZ)
 |h31 (i10:Int) (z0:zn nZ) (z1:zn nZ)
abbrev zjE:qI->Nat×St
 |.h6 i5 z0 z1=>(6,⟨tm 238 [(2,Qf 0 0),(3,Qf 1 0),(5,ai i5)],[Qa (bx [] nZ z0),Qa (bx [] nZ z1)]⟩)
 |.h11 i6 z0 z1=>(11,⟨tm 238 [(2,Qf 0 0),(3,Qf 1 0),(6,ai i6)],[Qa (bx [] nZ z0),Qa (bx [] nZ z1)]⟩)
 |.h16 i7 z0 z1=>(16,⟨tm 238 [(2,Qf 0 0),(3,Qf 1 0),(7,ai i7)],[Qa (bx [] nZ z0),Qa (bx [] nZ z1)]⟩)
 |.h21 i8 z0 z1=>(21,⟨tm 238 [(2,Qf 0 0),(3,Qf 1 0),(8,ai i8)],[Qa (bx [] nZ z0),Qa (bx [] nZ z1)]⟩)
 |.h26 i9 z0 z1=>(26,⟨tm 238 [(2,Qf 0 0),(3,Qf 1 0),(9,ai i9)],[Qa (bx [] nZ z0),Qa (bx [] nZ z1)]⟩)
 |.h31 i10 z0 z1=>(31,⟨tm 238 [(2,Qf 0 0),(3,Qf 1 0),(10,ai i10)],[Qa (bx [] nZ z0),Qa (bx [] nZ z1)]⟩)
def VG(x0:Sem zk)(x1:Sem zk):Tr (qI⊕aw):=
 let a0:=!x0.1==x1.1
 let a1:=!x0.2.1==x1.2.1
 let a2:=!x0.2.2.1==x1.2.2.1
 let a3:=!x0.t.2.1==x1.t.2.1
 let a4:=!x0.t.t.t==x1.t.t.t
 let a5:=zm x0.t.t.1
 let a6:=zm x1.t.t.1
 let a7:=!eT a5 a6
 let a8:=zm x0.t.t.q.2.1
 let a9:=zm x1.t.t.q.2.1
 Qc
 (bif a0 then Q3
 else bif a1 then Q3 else bif a2 then Q3 else bif a3 then Q3 else bif a4 then Q3 else gv a5 a6&&bif a7 then Q3 else gv a8 a9)
 (br (bif a0 then Q3 else bif a1 then Q3 else bif a2 then Q3 else bif a3 then Q3 else bif a4 then Q3 else bif a7 then Q3 else !eT a8 a9)
  (re (kb Q4) [])
  (br (bif (↑(length x0.2.2.2.1):Int)!=(↑(length x1.2.2.2.1):Int)then Q3 else bif (↑(length x0.t.1):Int)!=(↑(length x1.t.1):Int)then Q3 else bif (↑(length x0.t.q.1):Int)!=(↑(length x1.t.q.1):Int)then Q3 else bif (↑(length x0.t.q.2.1):Int)!=(↑(length x1.t.q.2.1):Int)then Q3
  else bif (↑(length x0.t.t.2.1):Int)!=(↑(length x1.t.t.2.1):Int)then Q3 else(↑(length x0.t.t.q.1):Int)!=(↑(length x1.t.t.q.1):Int)) (re (kb Q4) []) (Q9 (qI.h6 0 (x0,()) (x1,())))))
def sC:qI->Tr (qI⊕aw)
 | .h6 i5 z0 z1=>
  let a0:=(↑(length z0.1.2.2.2.1):Int)
  br (Q0 (i5<a0))
  (Qc (zP i5 (length z0.1.2.2.2.1))
   (Qc (zP i5 (length z1.1.2.2.2.1)) (br (!getD z0.1.2.2.2.1 i5.toNat (zi Q6)==getD z1.1.2.2.2.1 i5.toNat (zi Q6)) (re (kb Q4) []) (Q9 (qI.h6 (IntKind.i64.wrap (i5+1)) z0 z1)))))
  (Q9 (qI.h11 0 z0 z1))
 | .h11 i6 z0 z1=>
  let a0:=(↑(length z0.1.t.1):Int)
  let a1:=getD z0.1.t.1 i6.toNat (zi zj)
  let a2:=getD z1.1.t.1 i6.toNat (zi zj)
  br (Q0 (i6<a0))
  (Qc (zP i6 (length z0.1.t.1))
   (Qc (zP i6 (length z1.1.t.1)) (br (!(a1.1==a2.1&&(a1.2.1==a2.2.1&&(a1.2.2==a2.2.2&&Q3)))) (re (kb Q4) []) (Q9 (qI.h11 (IntKind.i64.wrap (i6+1)) z0 z1)))))
  (Q9 (qI.h16 0 z0 z1))
 | .h16 i7 z0 z1=>
  let a0:=(↑(length z0.1.t.q.1):Int)
  br (Q0 (i7<a0))
  (Qc (zP i7 (length z0.1.t.q.1))
   (Qc (zP i7 (length z1.1.t.q.1)) (br (!getD z0.1.t.q.1 i7.toNat (zi Q6)==getD z1.1.t.q.1 i7.toNat (zi Q6)) (re (kb Q4) []) (Q9 (qI.h16 (IntKind.i64.wrap (i7+1)) z0 z1)))))
  (Q9 (qI.h21 0 z0 z1))
 | .h21 i8 z0 z1=>
  let a0:=(↑(length z0.1.t.q.2.1):Int)
  let a1:=getD z0.1.t.q.2.1 i8.toNat (zi iD)
  let a2:=getD z1.1.t.q.2.1 i8.toNat (zi iD)
  br (Q0 (i8<a0))
  (Qc (zP i8 (length z0.1.t.q.2.1))
   (Qc (zP i8 (length z1.1.t.q.2.1)) (br (!(a1.1==a2.1&&(a1.2==a2.2&&Q3))) (re (kb Q4) []) (Q9 (qI.h21 (IntKind.i64.wrap (i8+1)) z0 z1)))))
  (Q9 (qI.h26 0 z0 z1))
 | .h26 i9 z0 z1=>
  let a0:=(↑(length z0.1.t.t.2.1):Int)
  let a1:=getD z0.1.t.t.2.1 i9.toNat (zi zf)
  let a2:=getD z1.1.t.t.2.1 i9.toNat (zi zf)
  br (Q0 (i9<a0))
  (Qc (zP i9 (length z0.1.t.t.2.1))
   (Qc (zP i9 (length z1.1.t.t.2.1)) (br (!(a1.1==a2.1&&(a1.2.1==a2.2.1&&(a1.2.2==a2.2.2&&Q3)))) (re (kb Q4) []) (Q9 (qI.h26 (IntKind.i64.wrap (i9+1)) z0 z1)))))
  (Q9 (qI.h31 0 z0 z1))
 | .h31 i10 z0 z1=>
  let a0:=(↑(length z0.1.t.t.q.1):Int)
  let a1:=zP i10 (length z0.1.t.t.q.1)
  let a2:=zP i10 (length z1.1.t.t.q.1)
  let a3:=getD z0.1.t.t.q.1 i10.toNat (zi gS)
  let a4:=getD z1.1.t.t.q.1 i10.toNat (zi gS)
  let a5:=!a3.1==a4.1
  let a6:=zm a3.2
  let a7:=zm a4.2
  br (Q0 (i10<a0))
  (Qc (a1&&(a2&&bif a5 then Q3 else a1&&(a2&&gv a6 a7)))
   (br (bif a5 then Q3 else !eT a6 a7) (re (kb Q4) []) (Q9 (qI.h31 (IntKind.i64.wrap (i10+1)) z0 z1))))
  (re (kb Q3) [])
def qu(x0:Sem zk)(x1:Sem zk):=al [Q7] sC 100000000 (VG x0 x1)
def yB(x0:Sem zk)(x1:Sem zk):=(qu x0 x1).isSome
def eU(x0:Sem zk)(x1:Sem zk):=o1 (qu x0 x1)
def zd1:=FT [zk,zk] [Q7] λx=>qu x.1 x.2.1
theorem zam:FK 74 zd1:=kk.T1 (f:=Tryz.f74) (keep:=zhb) (e:=zjE)
def D2:=Fr.addL [(124,Xb),(121,W9),(81,WM),(74,zd1)]
theorem pG:zw D2:=kk.addL<|fc Up<|fc Un<|fc T2<|fc zam jj
abbrev zbL:=mV [(2,[0,3])]
inductive Dl where
 |h2 (s0:TS) (i3:Int)
abbrev zfF:Dl->Nat×St
 |.h2 s0 i3=>(2,⟨tm 28 [(0,str s0),(3,ai i3)],[]⟩)
def Yf(x0:TS):Tr (Dl⊕aw):=
 Q9 (Dl.h2 x0 0)
def uC:Dl->Tr (Dl⊕aw)
 | .h2 s0 i3=>
  let a0:=(↑(getD s0 i3.toNat 0).toNat:Int)
  let a1:=Q0 (1<=(↑(length s0):Int))
  let a2:=Q0 ((↑(length s0):Int)<=16)
  let a3:=(↑(getD s0 (toNat 0) 0).toNat:Int)
  br (Q0 (i3<(↑(length s0):Int)))
  (Qc (zP i3 (length s0)) (Qc (qr a0) (br (!wo a0) (re (kb Q4) []) (Q9 (Dl.h2 s0 (IntKind.i64.wrap (i3+1)))))))
  (Qc (bif a1 then bif a2 then zP 0 (length s0)&&j5 a3 else Q3 else Q3)
   (re (AV.bool (bif a1 then bif a2 then mo a3 else Q4 else Q4)) []))
def yA(x0:TS):=al [Q7] uC 100000000 (Yf x0)
def ud(x0:TS):=(yA x0).isSome
def sy(x0:TS):=o1 (yA x0)
def W8:=FT [Q6] [Q7] λx=>yA x.1
theorem Um:FK 120 W8:=pG.T1 (f:=Tryz.f120) (keep:=zbL) (e:=zfF)
abbrev RC:Nat->aM:=λ_=>{ }
theorem zb0:zI D2.P 83 Tryz.f83 2:=bQ kw
def Rb(y:zn aG)(x0:TS):Tr (Empty⊕aw):=
 let a0:=(y.1,y.2.1,y.2.2.1,())
 let a1:=eV a0 x0
 Qc (dK a0 x0)
 (br (!a1.1) (re (Qe []) [Qa [sl zr a1.2.1,ai a1.2.2.1,kb Q4]])
  (re (Qe []) (ar aG a1.2)))
theorem za1(y:zn aG)(x0:TS):rn D2 1 RC Tryz.f83 [Qf 0 0,zC Q6 x0] (ar aG y)=(Rb y x0).map (lf Tryz.f83 e0):=kw
def Na(y:zn aG)(x0:TS):Option (zy (Qi Q1 [])×zn aG):=kA [] aG t0 100000000 (Rb y x0)
def aU(y:zn aG)(x0:TS):Bool:=(Na y x0).isSome
def bB(y:zn aG)(x0:TS):zn aG:=(λr:zy (Qi Q1 [])×zn aG=>r.2) ((Na y x0).getD (cn [],fM aG))
def WO:zX:=rI aG [Q6] [] aG (λy x=>aU y x.1) λy x=>((),bB y x.1)
theorem T5:FK 83 WO:=j7 (ps:=aG) (ks:=[Q6]) (outs:=[]) (keep:=RC) (gas:=400) (n:=100000000) (e:=e0) (t:=t0) (i:=λy x=>Rb y x.1) pG zb0 (λy x=>za1 y x.1) (TQ _ _ _ _ _) (λ_ _=>by kernel_rfl) (λ_ _=>by kernel_rfl)
abbrev RD:Nat->aM:=λ_=>{ }
theorem zb1:zI D2.P 84 Tryz.f84 1:=bQ kw
def Rc(y:zn aG):Tr (Empty⊕aw):=
 let a0:=Q0 (y.2.1<(↑(length y.1):Int))
 let a1:=zP y.2.1 (length y.1)
 let a2:=getD y.1 (toNat y.2.1) (zi zr)
 let a3:=a2.1==1
 let a4:=IntKind.i64.wrap (y.2.1+1)
 let a5:=IntKind.i64.wrap (a4-1)
 let a6:=getD y.1 a5.toNat (zi zr)
 Qc (bif a0 then a1&&bif a3 then a1&&BY a2.2 else Q3 else Q3)
 (br (bif a0 then bif a3 then !Jf a2.2 else Q4 else Q4)
  (Qc (zP a5 (length y.1)) (re (str a6.2) (ar aG (y.1,a4,y.2.2))))
  (re (str []) [Qa [sl zr y.1,ai y.2.1,kb Q4]]))
theorem za2(y:zn aG):rn D2 1 RD Tryz.f84 [Qf 0 0] (ar aG y)=(Rc y).map (lf Tryz.f84 e0):=kw
def Nb(y:zn aG):Option (zy (Qi Q1 [Q6])×zn aG):=kA [Q6] aG t0 100000000 (Rc y)
def bj(y:zn aG):Bool:=(Nb y).isSome
def bJ(y:zn aG):(Sem Q6)×zn aG:=(λr:zy (Qi Q1 [Q6])×zn aG=>(r.1.1,r.2)) ((Nb y).getD (cn [Q6],fM aG))
def WP:zX:=rI aG [] [Q6] aG (λy _=>bj y) λy _=>(((bJ y).1,()),(bJ y).2)
theorem T6:FK 84 WP:=j7 (ps:=aG) (ks:=[]) (outs:=[Q6]) (keep:=RD) (gas:=400) (n:=100000000) (e:=e0) (t:=t0) (i:=λy x=>Rc y) pG zb1 (λy x=>za2 y) (TQ _ _ _ _ _) (λ_ _=>by kernel_rfl) (λ_ _=>by kernel_rfl)
def D3:=D2.addL [(120,W8),(83,WO),(84,WP)]
theorem lX:zw D3:=pG.addL<|fc Um<|fc T5<|fc T6 jj
def Yd(x0:Sem zf):Tr (Empty⊕aw):=
 Qc (lH x0)
 (br (rr x0) (re (agg [ai x0.1,ai x0.2.1,str x0.2.2]) [])
  (re (agg [ai 0,ai 0,str []]) []))
def tW(x0:Sem zf):=al [zf] t0 100000000 (Yd x0)
def qd(x0:Sem zf):=(tW x0).isSome
def eS(x0:Sem zf):=o1 (tW x0)
def WL:=FT [zf] [zf] λx=>tW x.1
theorem TZ:FK 33 WL:=lX.T1 (f:=Tryz.f33) (keep:=k0) (e:=e0)
def Yc(x0:Sem zf)(x1:Sem Q7):Tr (Empty⊕aw):=
 Qc (kE x1) (re (AV.bool (x0.1==(aT x1).1&&(x0.2.1==(aT x1).2.1&&(x0.2.2==(aT x1).2.2&&Q3)))) [])
def IY(x0:Sem zf)(x1:Sem Q7):=al [Q7] t0 100000000 (Yc x0 x1)
def mf(x0:Sem zf)(x1:Sem Q7):=(IY x0 x1).isSome
def o5(x0:Sem zf)(x1:Sem Q7):=o1 (IY x0 x1)
def WJ:=FT [zf,Q7] [Q7] λx=>IY x.1 x.2.1
theorem TX:FK 173 WJ:=lX.T1 (f:=Tryz.f173) (keep:=k0) (e:=e0)
def Fp(g:Sem Q5->Sem zg->Sem Q7)(c:Sem Q5->Sem zg->Bool):bT:=D3.add 132 (zO [Q5,zg] [Q7] (λx=>c x.1 x.2.1) λx=>(g x.1 x.2.1,()))
theorem Kc{g:Sem Q5->Sem zg->Sem Q7}{c:Sem Q5->Sem zg->Bool}(hg:FK 132 (zO [Q5,zg] [Q7] (λx=>c x.1 x.2.1) λx=>(g x.1 x.2.1,()))):zw (Fp g c):=lX.add hg
abbrev RI:Nat->aM:=λ_=>{ }
theorem zb6(g:Sem Q5->Sem zg->Sem Q7)(c:Sem Q5->Sem zg->Bool):zI (Fp g c).P 132 Tryz.f132 2:=bQ kw
def Mn(g:Sem Q5->Sem zg->Sem Q7)(c:Sem Q5->Sem zg->Bool)(x0:Sem Q5)(x1:Sem zg):Tr (Empty⊕aw):=
 let a0:=(↑(ze.l x0).length:Int)==0
 let a1:=(ze.v x0).1==0&&((ze.v x0).2.1==0&&((ze.v x0).2.2==[]&&Q3))
 let a2:=(↑(ze.l x0).length:Int)==1
 let a3:=zP 0 (ze.l x0).length
 let a4:=zm ((ze.l x0).getD (toNat 0) (zi Q5))
 let a5:=IntKind.i64.wrap (x1-1)
 let a6:=c a4 a5
 let a7:=g a4 a5
 let a8:=(↑(ze.l x0).length:Int)==2
 let a9:=zm ((ze.l x0).getD (toNat 1) (zi Q5))
 br (x1==0) (re (kb Q4) [])
 (br (ze.op x0==[108,105,116])
  (Qc (lH (ze.v x0)) (re (AV.bool (bif rr (ze.v x0)then bif ze.s x0==[]then a0 else Q4 else Q4)) []))
  (br (ze.op x0==[99,111,108]) (Qc (bif a1 then ud (ze.s x0)&&bif sy (ze.s x0)then BY (ze.s x0)else Q3 else Q3) (re (AV.bool (bif a1 then bif sy (ze.s x0)then bif !Jf (ze.s x0)then a0 else Q4 else Q4 else Q4)) [])) (br (bif ze.op x0==[110,111,116]then Q3 else ze.op x0==[110,117,108,108])
  (Qc (bif a1 then bif ze.s x0==[]then bif a2 then a3&&a6 else Q3 else Q3 else Q3) (re (AV.bool (bif a1 then bif ze.s x0==[]then bif a2 then a7 else Q4 else Q4 else Q4)) [])) (Qc (Gh (ze.op x0)) (br (M4 (ze.op x0)) (Qc
  (bif a1 then bif ze.s x0==[]then bif a8 then a3&&(a6&&bif a7 then zP 1 (ze.l x0).length&&c a9 a5 else Q3)else Q3 else Q3 else Q3) (re (AV.bool (bif a1 then bif ze.s x0==[]then bif a8 then bif a7 then g a9 a5 else Q4 else Q4 else Q4 else Q4)) [])) (re (kb Q4) []))))))
theorem zba(g:Sem Q5->Sem zg->Sem Q7)(c:Sem Q5->Sem zg->Bool)(x0:Sem Q5)(x1:Sem zg):rn (Fp g c) 0 RI Tryz.f132 [zC Q5 x0,zC zg x1] []=(Mn g c x0 x1).map (lf Tryz.f132 e0):=kw
def nf(o:Option (zy (Qi Q1 [Q7]))):Sem Q7:=(λr:zy (Qi Q1 [Q7])=>r.1) (o.getD (cn [Q7]))
def Gg(g:Sem Q5->Sem zg->Sem Q7)(c:Sem Q5->Sem zg->Bool)(x0:Sem Q5)(x1:Sem zg):Option (zy (Qi Q1 [Q7])):=al [Q7] t0 100000000 (Mn g c x0 x1)
def fD:Nat->Sem Q5->Sem zg->Option (zy (Qi Q1 [Q7]))
 |0=>λ_ _=>Q2
 |n+1=>Gg (λx0 x1=>nf (fD n x0 x1)) λx0 x1=>(fD n x0 x1).isSome
theorem Rz:zI D3.P 132 Tryz.f132 2:=bQ kw
theorem Hj:∀n,FK 132 (zO [Q5,zg] [Q7] (λx=>(fD n x.1 x.2.1).isSome) λx=>(nf (fD n x.1 x.2.1),()))
 |0=>fh ⟨Tryz.f132,Rz.1,Rz.2.1,Rz.2.2.1⟩ (λ_=>rfl)
 |n+1=>lA (E:=Fp (λx0 x1=>nf (fD n x0 x1)) (λx0 x1=>(fD n x0 x1).isSome)) (ks:=[Q5,zg]) (outs:=[Q7]) (keep:=RI) (gas:=400) (n:=100000000) (e:=e0) (t:=t0) (i:=λx=>Mn (λx0 x1=>nf (fD n x0 x1)) (λx0 x1=>(fD n x0 x1).isSome) x.1 x.2.1) (Kc (Hj n)) (zb6 _ _) (λx=>zba _ _ x.1 x.2.1) (TQ _ _ _ _ _) (λ_=>by kernel_rfl) (λ_=>by kernel_rfl)
def Gf(x0:Sem Q5)(x1:Sem zg):Option (zy (Qi Q1 [Q7])):=fD 16 x0 x1
def yr(x0:Sem Q5)(x1:Sem zg):Bool:=(Gf x0 x1).isSome
def Ge(x0:Sem Q5)(x1:Sem zg):Sem Q7:=nf (Gf x0 x1)
def Xe:zX:=zO [Q5,zg] [Q7] (λx=>yr x.1 x.2.1) λx=>(Ge x.1 x.2.1,())
theorem Us:FK 132 Xe:=Hj 16
def HU(g:Sem Q5->Sem (Sh.sl zj)->Sem zg×Sem zg)(c:Sem Q5->Sem (Sh.sl zj)->Bool):bT:=D3.add 80 (zO [Q5,Sh.sl zj] [zg,zg] (λx=>c x.1 x.2.1) λx=>((g x.1 x.2.1).1,(g x.1 x.2.1).2,()))
theorem N4{g:Sem Q5->Sem (Sh.sl zj)->Sem zg×Sem zg}{c:Sem Q5->Sem (Sh.sl zj)->Bool}(hg:FK 80 (zO [Q5,Sh.sl zj] [zg,zg] (λx=>c x.1 x.2.1) λx=>((g x.1 x.2.1).1,(g x.1 x.2.1).2,()))):zw (HU g c):=lX.add hg
abbrev RR:Nat->aM:=λj=>if j=5 then{slots:=[1,2,6]}else{ }
inductive ND where
 |h5 (l1:LC) (i6:Int) (z0:zn [CP.d Q5])
abbrev P9:ND->Nat×St
 |.h5 l1 i6 z0=>(5,⟨tm 116 [(1,sl zj l1),(2,Qf 0 0),(6,ai i6)],[Qa (bx [] [CP.d Q5] z0)]⟩)
theorem zib(g:Sem Q5->Sem zj.sl->Sem zg×Sem zg)(c:Sem Q5->Sem zj.sl->Bool):zI (HU g c).P 80 Tryz.f80 2:=bQ kw
def A5(g:Sem Q5->Sem zj.sl->Sem zg×Sem zg)(c:Sem Q5->Sem zj.sl->Bool)(x0:Sem Q5)(x1:Sem zj.sl):Tr (ND⊕aw):=
 let a0:=zm ((ze.l x0).getD (toNat 0) (zi Q5))
 let a1:=g a0 x1
 let a2:=zm ((ze.l x0).getD (toNat 1) (zi Q5))
 let a3:=g a2 x1
 let a4:=ze.op x0==[110,117,108,108]
 let a5:=ze.op x0==[61]
 let a6:=a1.1!=0
 let a7:=a3.1!=0
 let a8:=ze.op x0==[60]
 let a9:=ze.op x0==[43]
 let a10:=a1.1!=1
 let a11:=bif a7 then a3.1!=1 else Q4
 let a12:=ze.op x0==[45]
 let a13:=a1.1!=3
 let a14:=bif a7 then a3.1!=3 else Q4
 let a15:=bif a6 then a10 else Q4
 let a16:=bif a6 then a13 else Q4
 br (ze.op x0==[108,105,116]) (re (Qe [ai (ze.v x0).1,ai 0]) [])
 (br (ze.op x0==[99,111,108]) (Q9 (ND.h5 x1 0 (x0,())))
  (Qc (zP 0 (ze.l x0).length) (Qc (c a0 x1) (br (a1.2!=0) (re (Qe [ai 0,ai a1.2]) []) (br ((↑(ze.l x0).length:Int)==2) (Qc (zP 1 (ze.l x0).length) (Qc (c a2 x1) (br (a3.2!=0) (re (Qe [ai 0,ai a3.2]) []) (br a4 (re (Qe [ai 3,ai 0]) []) (br a5
  (br (bif a6 then bif a7 then a1.1!=a3.1 else Q4 else Q4) (re (Qe [ai 0,ai 5]) []) (re (Qe [ai 3,ai 0]) [])) (br a8 (br (bif a6 then bif a7 then a1.1!=a3.1 else Q4 else Q4) (re (Qe [ai 0,ai 5]) []) (re (Qe [ai 3,ai 0]) [])) (br a9
  (br (bif a6 then bif a10 then Q3 else a11 else a11) (re (Qe [ai 0,ai 5]) []) (re (Qe [ai 1,ai 0]) [])) (br a12 (br (bif a6 then bif a10 then Q3 else a11 else a11) (re (Qe [ai 0,ai 5]) []) (re (Qe [ai 1,ai 0]) []))
  (br (bif a6 then bif a13 then Q3 else a14 else a14) (re (Qe [ai 0,ai 5]) []) (re (Qe [ai 3,ai 0]) [])))))))))) (br a4 (re (Qe [ai 3,ai 0]) []) (br a5 (br (bif a6 then bif a6 then a1.1!=a1.1 else Q4 else Q4) (re (Qe [ai 0,ai 5]) [])
  (re (Qe [ai 3,ai 0]) [])) (br a8 (br (bif a6 then bif a6 then a1.1!=a1.1 else Q4 else Q4) (re (Qe [ai 0,ai 5]) []) (re (Qe [ai 3,ai 0]) [])) (br a9 (br (bif a6 then bif a10 then Q3 else a15 else a15) (re (Qe [ai 0,ai 5]) [])
  (re (Qe [ai 1,ai 0]) [])) (br a12 (br (bif a6 then bif a10 then Q3 else a15 else a15) (re (Qe [ai 0,ai 5]) []) (re (Qe [ai 1,ai 0]) [])) (br (bif a6 then bif a13 then Q3 else a16 else a16) (re (Qe [ai 0,ai 5]) []) (re (Qe [ai 3,ai 0]) []))))))))))))
theorem zge(g:Sem Q5->Sem zj.sl->Sem zg×Sem zg)(c:Sem Q5->Sem zj.sl->Bool)(x0:Sem Q5)(x1:Sem zj.sl):rn (HU g c) 0 RR Tryz.f80 [zC Q5 x0,zC zj.sl x1] []=(A5 g c x0 x1).map (lf Tryz.f80 P9):=kw
def JF(_:Sem Q5->Sem zj.sl->Sem zg×Sem zg)(_:Sem Q5->Sem zj.sl->Bool):ND->Tr (ND⊕aw)
 | .h5 l1 i6 z0=>
  let a0:=l1.getD i6.toNat (zi zj)
  br (Q0 (i6<(↑l1.length:Int)))
  (Qc (zP i6 l1.length)
   (br (a0.1==ze.s z0.1) (Qc (zP i6 l1.length) (re (Qe [ai a0.2.1,ai 0]) [])) (Q9 (ND.h5 l1 (IntKind.i64.wrap (i6+1)) z0))))
  (re (Qe [ai 0,ai 4]) [])
theorem zix(g:Sem Q5->Sem zj.sl->Sem zg×Sem zg)(c:Sem Q5->Sem zj.sl->Bool):∀s,run (HU g c) 0 RR (Func.results Tryz.f80).toList 400 (zZ Tryz.f80 (P9 s).1) (P9 s).2=(JF g c s).map (lf Tryz.f80 P9)
 |.h5 l1 i6 z0=>by kernel_rfl
def fC(o:Option (zy (Qi Q1 [zg,zg]))):Sem zg×Sem zg:=(λr:zy (Qi Q1 [zg,zg])=>(r.1,r.2.1)) (o.getD (cn [zg,zg]))
def M3(g:Sem Q5->Sem zj.sl->Sem zg×Sem zg)(c:Sem Q5->Sem zj.sl->Bool)(x0:Sem Q5)(x1:Sem zj.sl):Option (zy (Qi Q1 [zg,zg])):=al [zg,zg] (JF g c) 100000000 (A5 g c x0 x1)
def bR:Nat->Sem Q5->Sem zj.sl->Option (zy (Qi Q1 [zg,zg]))
 |0=>λ_ _=>Q2
 |n+1=>M3 (λx0 x1=>fC (bR n x0 x1)) λx0 x1=>(bR n x0 x1).isSome
theorem zbB:zI D3.P 80 Tryz.f80 2:=bQ kw
theorem LQ:∀n,FK 80 (zO [Q5,zj.sl] [zg,zg] (λx=>(bR n x.1 x.2.1).isSome) λx=>((fC (bR n x.1 x.2.1)).1,(fC (bR n x.1 x.2.1)).2,()))
 |0=>fh ⟨Tryz.f80,zbB.1,zbB.2.1,zbB.2.2.1⟩ (λ_=>rfl)
 |n+1=>lA (E:=HU (λx0 x1=>fC (bR n x0 x1)) (λx0 x1=>(bR n x0 x1).isSome)) (ks:=[Q5,zj.sl]) (outs:=[zg,zg]) (keep:=RR) (gas:=400) (n:=100000000) (e:=P9) (t:=JF (λx0 x1=>fC (bR n x0 x1)) (λx0 x1=>(bR n x0 x1).isSome)) (i:=λx=>A5 (λx0 x1=>fC (bR n x0 x1)) (λx0 x1=>(bR n x0 x1).isSome) x.1 x.2.1) (N4 (LQ n)) (zib _ _) (λx=>zge _ _ x.1 x.2.1) (zix _ _) (λ_=>by kernel_rfl) (λ_=>by kernel_rfl)
def yq(x0:Sem Q5)(x1:Sem zj.sl):Option (zy (Qi Q1 [zg,zg])):=bR 16 x0 x1
def nc(x0:Sem Q5)(x1:Sem zj.sl):Bool:=(yq x0 x1).isSome
def ij(x0:Sem Q5)(x1:Sem zj.sl):Sem zg×Sem zg:=fC (yq x0 x1)
def zd5:zX:=zO [Q5,zj.sl] [zg,zg] (λx=>nc x.1 x.2.1) λx=>((ij x.1 x.2.1).1,(ij x.1 x.2.1).2,())
theorem zaq:FK 80 zd5:=LQ 16
def Qn:=D3.addL [(33,WL),(173,WJ),(132,Xe),(80,zd5)]
theorem gC:zw Qn:=lX.addL<|fc TZ<|fc TX<|fc Us<|fc zaq jj
def zgr(x0:Sem zf)(x1:Sem zf):Tr (Empty⊕aw):=
 let a0:=(eS x0).1==(eS x1).1
 let a1:=(eS x0).2.1==(eS x1).2.1
 Qc (qd x0)
 (Qc (qd x1)
  (br (a0&&(a1&&((eS x0).2.2==(eS x1).2.2&&Q3))) (re (ai 0) []) (br (bif Q0 ((eS x0).1<(eS x1).1)then Q3 else bif a0 then bif Q0 ((eS x0).2.1<(eS x1).2.1)then Q3 else bif a1 then Op.bytesLess (eS x0).2.2 (eS x1).2.2 else Q4 else Q4) (re (ai (-1)) []) (re (ai 1) []))))
def o7(x0:Sem zf)(x1:Sem zf):=al [zg] t0 100000000 (zgr x0 x1)
def BE(x0:Sem zf)(x1:Sem zf):=(o7 x0 x1).isSome
def Ga(x0:Sem zf)(x1:Sem zf):=o1 (o7 x0 x1)
def zdM:=FT [zf,zf] [zg] λx=>o7 x.1 x.2.1
theorem Z7:FK 12 zdM:=gC.T1 (f:=Tryz.f12) (keep:=k0) (e:=e0)
def Yp(x0:Sem zf)(x1:Sem zf):Tr (Empty⊕aw):=
 Qc (qd x0)
 (Qc (qd x1)
  (re (AV.bool (bif (eS x0).1==0 then Q3 else bif (eS x1).1==0 then Q3 else(eS x0).1!=(eS x1).1)) []))
def o8(x0:Sem zf)(x1:Sem zf):=al [Q7] t0 100000000 (Yp x0 x1)
def mg(x0:Sem zf)(x1:Sem zf):=(o8 x0 x1).isSome
def qa(x0:Sem zf)(x1:Sem zf):=o1 (o8 x0 x1)
def Xv:=FT [zf,zf] [Q7] λx=>o8 x.1 x.2.1
theorem UI:FK 251 Xv:=gC.T1 (f:=Tryz.f251) (keep:=k0) (e:=e0)
def Yj(x0:Sem zf)(x1:Sem zf):Tr (Empty⊕aw):=
 Qc (mf x0 Q4&&bif o5 x0 Q4 then Q3 else mf x1 Q4)
 (br (bif o5 x0 Q4 then Q3 else o5 x1 Q4)
  (Qc Q3 (re (agg [ai (aT Q4).1,ai (aT Q4).2.1,str (aT Q4).2.2]) []))
  (Qc (mf x0 Q3&&bif o5 x0 Q3 then mf x1 Q3 else Q3) (br (bif o5 x0 Q3 then o5 x1 Q3 else Q4) (Qc Q3 (re (agg [ai (aT Q3).1,ai (aT Q3).2.1,str (aT Q3).2.2]) [])) (re (agg [ai 0,ai 0,str []]) []))))
def BA(x0:Sem zf)(x1:Sem zf):=al [zf] t0 100000000 (Yj x0 x1)
def F5(x0:Sem zf)(x1:Sem zf):=(BA x0 x1).isSome
def EC(x0:Sem zf)(x1:Sem zf):=o1 (BA x0 x1)
def Xi:=FT [zf,zf] [zf] λx=>BA x.1 x.2.1
theorem Uw:FK 212 Xi:=gC.T1 (f:=Tryz.f212) (keep:=k0) (e:=e0)
def Yk(x0:Sem zf)(x1:Sem zf):Tr (Empty⊕aw):=
 Qc (mf x0 Q3&&bif o5 x0 Q3 then Q3 else mf x1 Q3)
 (br (bif o5 x0 Q3 then Q3 else o5 x1 Q3)
  (Qc Q3 (re (agg [ai (aT Q3).1,ai (aT Q3).2.1,str (aT Q3).2.2]) []))
  (Qc (mf x0 Q4&&bif o5 x0 Q4 then mf x1 Q4 else Q3) (br (bif o5 x0 Q4 then o5 x1 Q4 else Q4) (Qc Q3 (re (agg [ai (aT Q4).1,ai (aT Q4).2.1,str (aT Q4).2.2]) [])) (re (agg [ai 0,ai 0,str []]) []))))
def I1(x0:Sem zf)(x1:Sem zf):=al [zf] t0 100000000 (Yk x0 x1)
def MZ(x0:Sem zf)(x1:Sem zf):=(I1 x0 x1).isSome
def OK(x0:Sem zf)(x1:Sem zf):=o1 (I1 x0 x1)
def Xj:=FT [zf,zf] [zf] λx=>I1 x.1 x.2.1
theorem Ux:FK 213 Xj:=gC.T1 (f:=Tryz.f213) (keep:=k0) (e:=e0)
def Yi(x0:Sem zf):Tr (Empty⊕aw):=
 Qc (mf x0 Q3)
 (br (o5 x0 Q3)
  (Qc Q3 (re (agg [ai (aT Q4).1,ai (aT Q4).2.1,str (aT Q4).2.2]) []))
  (Qc (mf x0 Q4) (br (o5 x0 Q4) (Qc Q3 (re (agg [ai (aT Q3).1,ai (aT Q3).2.1,str (aT Q3).2.2]) [])) (re (agg [ai 0,ai 0,str []]) []))))
def BD(x0:Sem zf):=al [zf] t0 100000000 (Yi x0)
def F9(x0:Sem zf):=(BD x0).isSome
def EE(x0:Sem zf):=o1 (BD x0)
def Xh:=FT [zf] [zf] λx=>BD x.1
theorem Uv:FK 211 Xh:=gC.T1 (f:=Tryz.f211) (keep:=k0) (e:=e0)
def zgx(x0:Sem Q5):Tr (Empty⊕aw):=
 let a0:=Ge (zm x0) 12
 Qc (yr (zm x0) 12&&bif a0 then tY (zm x0)else Q3) (re (AV.bool (bif a0 then Q0 (yu (zm x0)<=60)else Q4)) [])
def BJ(x0:Sem Q5):=al [Q7] t0 100000000 (zgx x0)
def wk(x0:Sem Q5):=(BJ x0).isSome
def EJ(x0:Sem Q5):=o1 (BJ x0)
def zd4:=FT [Q5] [Q7] λx=>BJ x.1
theorem zap:FK 79 zd4:=gC.T1 (f:=Tryz.f79) (keep:=k0) (e:=e0)
def Qo:=Qn.addL [(12,zdM),(251,Xv),(212,Xi),(213,Xj),(211,Xh),(79,zd4)]
theorem AE:zw Qo:=gC.addL<|fc Z7<|fc UI<|fc Uw<|fc Ux<|fc Uv<|fc zap jj
abbrev zbQ:=mV [(2,[0,3])]
inductive Do where
 |h2 (i0:Sem zg) (s3:List UInt8)
abbrev zfI:Do->Nat×St
 |.h2 i0 s3=>(2,⟨tm 21 [(0,ai i0),(3,str s3)],[]⟩)
def zgl(x0:Sem zg):Tr (Do⊕aw):=
 Q9 (Do.h2 x0 [])
def Cw:Do->Tr (Do⊕aw)
 | .h2 i0 s3=>
  let a0:=iG [IntKind.u8.wrap (IntKind.i64.wrap (48-IntKind.i64.wrap (Int.tmod i0 10)))]
  br (bif Q0 (i0<0)then Q3 else s3==[])
  (Qc Q3 (Qc (Q0 (length a0+s3.length<=1099511627776)) (Qc Q3 (Q9 (Do.h2 (IntKind.i64.wrap (Int.tdiv i0 10)) (a0++s3))))))
  (re (str s3) [])
def qc(x0:Sem zg):=al [Q6] Cw 100000000 (zgl x0)
def j0(x0:Sem zg):=(qc x0).isSome
def kF(x0:Sem zg):=o1 (qc x0)
def Xt:=FT [zg] [Q6] λx=>qc x.1
theorem UG:FK 171 Xt:=AE.T1 (f:=Tryz.f171) (keep:=zbQ) (e:=zfI)
def Qt:=Qo.add 171 Xt
theorem AG:zw Qt:=AE.add UG
abbrev zbJ:=mV [(13,[1,3,4])]
inductive yW where
 |h13 (s3:List UInt8) (i4:Int) (z0:zn [CP.d zf])
abbrev zfD:yW->Nat×St
 |.h13 s3 i4 z0=>(13,⟨tm 54 [(1,Qf 0 0),(3,str s3),(4,ai i4)],[Qa (bx [] [CP.d zf] z0)]⟩)
def xg(x0:Sem zf):Tr (yW⊕aw):=
 let a0:=IntKind.i64.wrap (0-x0.2.1)
 Qc (lH x0)
 (br (!rr x0) (re (str []) [])
  (br (x0.1==0) (re (str [78,85,76,76]) []) (br (x0.1==1) (br (Q0 (x0.2.1<0)) (Qc (j0 x0.2.1) (Qc (Q0 ([45].length+length (kF x0.2.1)<=1099511627776)) (re (str ([45]++kF x0.2.1)) []))) (Qc (j0 a0) (re (str (kF a0)) []))) (br (x0.1==2) (Q9 (yW.h13 [39] 0 (x0,())))
  (br (x0.2.1==1) (re (str [84,82,85,69]) []) (re (str [70,65,76,83,69]) []))))))
def uB:yW->Tr (yW⊕aw)
 | .h13 s3 i4 z0=>
  let a0:=(↑(length z0.1.2.2):Int)
  let a1:=IntKind.i64.wrap (i4+1)
  let a2:=List.take (a1.toNat-i4.toNat) (List.drop i4.toNat z0.1.2.2)
  let a3:=s3++a2
  br (Q0 (i4<a0))
  (Qc (Q0 (0<=i4)&&Q0 (i4<=a1)&&Q0 (a1<=a0))
   (Qc (Q0 (s3.length+a2.length<=1099511627776)) (Qc (zP i4 (length z0.1.2.2)) (br ((↑(getD z0.1.2.2 i4.toNat 0).toNat:Int)==39) (Qc (Q0 (length a3+[39].length<=1099511627776)) (Q9 (yW.h13 (a3++[39]) a1 z0))) (Q9 (yW.h13 a3 a1 z0))))))
  (Qc (Q0 (s3.length+[39].length<=1099511627776)) (re (str (s3++[39])) []))
def ym(x0:Sem zf):=al [Q6] uB 100000000 (xg x0)
def tU(x0:Sem zf):=(ym x0).isSome
def BG(x0:Sem zf):=o1 (ym x0)
def W5:=FT [zf] [Q6] λx=>ym x.1
theorem Uj:FK 117 W5:=AG.T1 (f:=Tryz.f117) (keep:=zbJ) (e:=zfD)
def Fu:=Qt.add 117 W5
theorem AJ:zw Fu:=AG.add Uj
def Fo(g:Sem Q5->Sem Q6)(c:Sem Q5->Bool):bT:=Fu.add 118 (zO [Q5] [Q6] (λx=>c x.1) λx=>(g x.1,()))
theorem Kb{g:Sem Q5->Sem Q6}{c:Sem Q5->Bool}(hg:FK 118 (zO [Q5] [Q6] (λx=>c x.1) λx=>(g x.1,()))):zw (Fo g c):=AJ.add hg
abbrev RH:Nat->aM:=λ_=>{ }
theorem zb5(g:Sem Q5->Sem Q6)(c:Sem Q5->Bool):zI (Fo g c).P 118 Tryz.f118 1:=bQ kw
def nH(g:Sem Q5->Sem Q6)(c:Sem Q5->Bool)(x0:Sem Q5):Tr (Empty⊕aw):=
 let a0:=zP 0 (ze.l x0).length
 let a1:=zm ((ze.l x0).getD (toNat 0) (zi Q5))
 let a2:=c a1
 let a3:=g a1
 let a4:=[40,78,79,84,32]++a3
 let a5:=Q0 ([40].length+length a3<=1099511627776)
 let a6:=[40]++a3
 let a7:=zP 1 (ze.l x0).length
 let a8:=zm ((ze.l x0).getD (toNat 1) (zi Q5))
 let a9:=c a8
 let a10:=a6++[32,65,78,68,32]
 let a11:=g a8
 let a12:=a10++a11
 let a13:=a6++[32,79,82,32]
 let a14:=a13++a11
 let a15:=a6++[32]
 let a16:=a15++ze.op x0
 let a17:=a16++[32]
 let a18:=a17++a11
 br (ze.op x0==[108,105,116]) (Qc (tU (ze.v x0)) (re (str (BG (ze.v x0))) []))
 (br (ze.op x0==[99,111,108]) (re (str (ze.s x0)) [])
  (br (ze.op x0==[110,111,116]) (Qc a0 (Qc a2 (Qc (Q0 ([40,78,79,84,32].length+length a3<=1099511627776)) (Qc (Q0 (length a4+[41].length<=1099511627776)) (re (str (a4++[41])) []))))) (br (ze.op x0==[110,117,108,108]) (Qc a0 (Qc a2 (Qc a5
  (Qc (Q0 (length a6+[32,73,83,32,78,85,76,76,41].length<=1099511627776)) (re (str (a6++[32,73,83,32,78,85,76,76,41])) []))))) (br (ze.op x0==[97,110,100]) (Qc a0 (Qc a2 (Qc a5 (Qc (Q0 (length a6+[32,65,78,68,32].length<=1099511627776)) (Qc a7 (Qc a9
  (Qc (Q0 (length a10+length a11<=1099511627776)) (Qc (Q0 (length a12+[41].length<=1099511627776)) (re (str (a12++[41])) []))))))))) (br (ze.op x0==[111,114]) (Qc a0 (Qc a2 (Qc a5 (Qc (Q0 (length a6+[32,79,82,32].length<=1099511627776)) (Qc a7 (Qc a9
  (Qc (Q0 (length a13+length a11<=1099511627776)) (Qc (Q0 (length a14+[41].length<=1099511627776)) (re (str (a14++[41])) []))))))))) (Qc a0 (Qc a2 (Qc a5 (Qc (Q0 (length a6+[32].length<=1099511627776)) (Qc (Q0 (length a15+length (ze.op x0)<=1099511627776))
  (Qc (Q0 (length a16+[32].length<=1099511627776)) (Qc a7 (Qc a9 (Qc (Q0 (length a17+length a11<=1099511627776)) (Qc (Q0 (length a18+[41].length<=1099511627776)) (re (str (a18++[41])) []))))))))))))))))
theorem za9(g:Sem Q5->Sem Q6)(c:Sem Q5->Bool)(x0:Sem Q5):rn (Fo g c) 0 RH Tryz.f118 [zC Q5 x0] []=(nH g c x0).map (lf Tryz.f118 e0):=kw
def ii(o:Option (zy (Qi Q1 [Q6]))):Sem Q6:=(λr:zy (Qi Q1 [Q6])=>r.1) (o.getD (cn [Q6]))
def M2(g:Sem Q5->Sem Q6)(c:Sem Q5->Bool)(x0:Sem Q5):Option (zy (Qi Q1 [Q6])):=al [Q6] t0 100000000 (nH g c x0)
def cy:Nat->Sem Q5->Option (zy (Qi Q1 [Q6]))
 |0=>λ_=>Q2
 |n+1=>M2 (λx0=>ii (cy n x0)) λx0=>(cy n x0).isSome
theorem Ry:zI Fu.P 118 Tryz.f118 1:=bQ kw
theorem Hi:∀n,FK 118 (zO [Q5] [Q6] (λx=>(cy n x.1).isSome) λx=>(ii (cy n x.1),()))
 |0=>fh ⟨Tryz.f118,Ry.1,Ry.2.1,Ry.2.2.1⟩ (λ_=>rfl)
 |n+1=>lA (E:=Fo (λx0=>ii (cy n x0)) (λx0=>(cy n x0).isSome)) (ks:=[Q5]) (outs:=[Q6]) (keep:=RH) (gas:=400) (n:=100000000) (e:=e0) (t:=t0) (i:=λx=>nH (λx0=>ii (cy n x0)) (λx0=>(cy n x0).isSome) x.1) (Kb (Hi n)) (zb5 _ _) (λx=>za9 _ _ x.1) (TQ _ _ _ _ _) (λ_=>by kernel_rfl) (λ_=>by kernel_rfl)
def Gd(x0:Sem Q5):Option (zy (Qi Q1 [Q6])):=cy 16 x0
def qj(x0:Sem Q5):Bool:=(Gd x0).isSome
def o9(x0:Sem Q5):Sem Q6:=ii (Gd x0)
def W6:zX:=zO [Q5] [Q6] (λx=>qj x.1) λx=>(o9 x.1,())
theorem Uk:FK 118 W6:=Hi 16
def Fv:=Fu.add 118 W6
theorem mN:zw Fv:=AJ.add Uk
abbrev zbN:=mV [(6,[1,3])]
inductive Dn where
 |h6 (i3:Int) (z0:zn [CP.d zr])
abbrev zfH:Dn->Nat×St
 |.h6 i3 z0=>(6,⟨tm 82 [(1,Qf 0 0),(3,ai i3)],[Qa (bx [] [CP.d zr] z0)]⟩)
def In(x0:Sem zr):Tr (Dn⊕aw):=
 let a0:=(2,0,x0.2)
 br (x0.1==1) (Qc (ud x0.2) (re (AV.bool (sy x0.2)) []))
 (br (x0.1==2) (Q9 (Dn.h6 0 (x0,())))
  (br (x0.1==3) (Qc (lH a0) (re (AV.bool (rr a0)) [])) (br (x0.1==4) (re (AV.bool (bif x0.2==[40]then Q3 else bif x0.2==[41]then Q3 else bif x0.2==[44]then Q3 else bif x0.2==[61]then Q3 else bif x0.2==[60]then Q3 else bif x0.2==[43]then Q3 else bif x0.2==[45]then Q3 else x0.2==[42])) []) (re (kb Q4) []))))
def uD:Dn->Tr (Dn⊕aw)
 | .h6 i3 z0=>
  let a0:=(↑(length z0.1.2):Int)
  let a1:=(↑(getD z0.1.2 i3.toNat 0).toNat:Int)
  br (Q0 (i3<a0))
  (Qc (zP i3 (length z0.1.2))
   (Qc (fu a1) (br (!gy a1) (re (kb Q4) []) (Q9 (Dn.h6 (IntKind.i64.wrap (i3+1)) z0)))))
  (re (AV.bool (bif Q0 (1<=a0)then Q0 (a0<=19)else Q4)) [])
def Gx(x0:Sem zr):=al [Q7] uD 100000000 (In x0)
def im(x0:Sem zr):=(Gx x0).isSome
def ls(x0:Sem zr):=o1 (Gx x0)
def Xd:=FT [zr] [Q7] λx=>Gx x.1
theorem Ur:FK 126 Xd:=mN.T1 (f:=Tryz.f126) (keep:=zbN) (e:=zfH)
abbrev RE:Nat->aM:=λ_=>{ }
theorem zb2:zI Fv.P 87 Tryz.f87 2:=bQ kw
def Rd(y:zn aG)(x0:TS):Tr (Empty⊕aw):=
 let a0:=(y.1,y.2.1,y.2.2.1,())
 let a1:=eV a0 x0
 Qc (dK a0 x0)
 (br (!a1.1) (re (agg [str [],ai 0,ai 0,str [],str [],nils]) (ar aG a1.2))
  (br (x0==[87,72,69,82,69]) Tr.err (Qc (aU (a1.2.1,a1.2.2.1,a1.2.2.2.1,()) [40]) Tr.err)))
theorem za3(y:zn aG)(x0:TS):rn Fv 1 RE Tryz.f87 [Qf 0 0,zC Q6 x0] (ar aG y)=(Rd y x0).map (lf Tryz.f87 e0):=kw
def M9(y:zn aG)(x0:TS):Option (zy (Qi Q1 [Q5])×zn aG):=kA [Q5] aG t0 100000000 (Rd y x0)
def dC(y:zn aG)(x0:TS):Bool:=(M9 y x0).isSome
def eE(y:zn aG)(x0:TS):(Sem Q5)×zn aG:=(λr:zy (Qi Q1 [Q5])×zn aG=>(r.1.1,r.2)) ((M9 y x0).getD (cn [Q5],fM aG))
def WQ:zX:=rI aG [Q6] [Q5] aG (λy x=>dC y x.1) λy x=>(((eE y x.1).1,()),(eE y x.1).2)
theorem T7:FK 87 WQ:=j7 (ps:=aG) (ks:=[Q6]) (outs:=[Q5]) (keep:=RE) (gas:=400) (n:=100000000) (e:=e0) (t:=t0) (i:=λy x=>Rd y x.1) mN zb2 (λy x=>za3 y x.1) (TQ _ _ _ _ _) (λ_ _=>by kernel_rfl) (λ_ _=>by kernel_rfl)
def zgv(x0:TS):Tr (Empty⊕aw):=
 Qc (ud x0&&bif sy x0 then BY x0 else Q3) (re (AV.bool (bif sy x0 then !Jf x0 else Q4)) [])
def uh(x0:TS):=al [Q7] t0 100000000 (zgv x0)
def dB(x0:TS):=(uh x0).isSome
def bl(x0:TS):=o1 (uh x0)
def zd0:=FT [Q6] [Q7] λx=>uh x.1
theorem zal:FK 73 zd0:=mN.T1 (f:=Tryz.f73) (keep:=k0) (e:=e0)
def XY:=Fv.addL [(126,Xd),(87,WQ),(73,zd0)]
theorem pH:zw XY:=mN.addL<|fc Ur<|fc T7<|fc zal jj
end
end Cad
