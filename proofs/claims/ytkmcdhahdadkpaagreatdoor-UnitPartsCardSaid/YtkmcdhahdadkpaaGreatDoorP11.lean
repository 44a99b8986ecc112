/- Plans: places. Plans: what is there. Plans: what is wrong with a target. Plans: sources. Plans: sources, who refers. Plans: sources, who refers. -/
import Derived.Test.YtkmcdhahdadkpaaGreatDoorP10
import Derived.Test.YtkmcdhahdadkpaaGreatDoorP08
namespace Cad
open Go Go.Proofs
open List renaming map→Qi
open AV renaming ptr→Qf,tup→Qe
open Tr renaming chk→Qc,«to»→Q9
open AO renaming box→Qa
open Sh renaming bool→Q7,str→Q6,expr→Q5
open Bool renaming false→Q4,true→Q3
open Option renaming none→Q2,some→Q1
open Decidable renaming decide→Q0
open Int (toNat)
open List (getD length)
open Tr (chk br re)
open AV (nils agg tup ptr kb str sl)
noncomputable section
set_option maxHeartbeats 4000000
abbrev zz:Sh:=.pr .str (.pr .str (.pr .str (.pr zo (.pr (.sl zg) zg))))
abbrev bf:List CP:=[.d (.sl zh),.d zk,.d zo,.d zo,.d .str,.d .str,.d .str,.d .str,.nil,.d zg,.nil,.nil,.d .expr,.nil,.d zg]
abbrev ah:List CP:=[.d (.sl zh),.d zk,.d zo,.d zo,.d .str,.d .str,.d .str,.d .str,.vec zj,.d zg,.nil,.nil,.d .expr,.d (.sl zg),.d zg]
abbrev YM:Nat->aM:=λj=>if j=2 then{slots:=[0,1,7,8]}else{ }
abbrev Ci(l0:LI)(i1:Sem zg)(i7:Int)(i8:Int):St:={tmps:=(tm 19 [(0,sl zg l0),(1,ai i1),(7,ai i7),(8,ai i8)]),heap:=[]}
theorem MK:zI (gO).P 139 Tryz.f139 2:=bU kw
theorem zgp(x0:Sem zg.sl)(x1:Sem zg):rn gO 0 YM Tryz.f139 [zE zg.sl x0,zE zg x1] []=Tr.ok (zC.head 2 (ac Tryz.f139 2) (Ci x0 x1 (↑(length x0):Int) 0)):=kw
theorem MQ(l0:LI)(i1:Sem zg)(i7:Int)(i8:Int):rh gO 0 YM Tryz.f139 2 (Ci l0 i1 i7 i8)=br (Q0 (i8<i7)) (Qc (zM i8 l0.length) (br (i1==l0.getD i8.toNat (zi zg)) (Tr.ok (zC.ret (ai i8) [])) (Tr.ok (zC.head 2 (ac Tryz.f139 2) (Ci l0 i1 i7 (IntKind.i64.wrap (i8+1))))))) (Tr.ok (zC.ret (ai (-1)) [])):=kw
def eu(i1:Sem zg):List (Sem zg)->Int->Sem zg
 |[],_=>(-1)
 |x::r,i8=>(if(i1==x)=Q3 then i8 else eu i1 r (i8+1))
theorem Vc{C:eP}(hC:∀id,C.ρ0 id=Q2)(i1:Sem zg)(l0:LI)(hl:l0.length<=aE):∀(m i:Nat),l0.length-i=m->i<=l0.length->
  Reach (gO) C 139 (ac Tryz.f139 2) (Ci l0 i1 (l0.length:Int) (i:Int)) (λr h=>aL h [zg] r=Q1 (eu i1 (l0.drop i) i,())):=by
 intro m
 induction m with
 | zero=>
  intro i hm hi;obtain rfl:i=l0.length:=by omega
  rw[jh];refine zD dI (MK) (λid _=>hC id) (MQ _ _ _ _) ?_;generalize hy:eu i1 [] _=y;rw[eu]at hy;simp only[zA,Tr.val_brF];repeat' (first|with_reducible refine dc hy (λ_ hy=>?_) (λ_ hy=>?_)|with_reducible refine zJ ?_)
  all_goals first|(cases hc;done)|(subst hy;first|rfl)
 | succ m IH=>
  intro i hm hi;have hlt:i<l0.length:=by omega
  have IH:=IH (i+1);have hcast:((i:Int)+1)=((i+1:Nat):Int):=by omega
  have hwr:=zp i ow;rw[fk hlt];refine zD dI (MK) (λid _=>hC id) (MQ _ _ _ _) ?_;generalize hy:eu i1 (l0[i]::l0.drop (i+1)) (i:Int)=y;rw[eu]at hy;simp only[zH hlt,zu hlt,cA l0 _ hlt,hwr,Tr.val_brT,Tr.val_chkT];clear hwr
  try simp only[zu hlt]at hy
  simp only[hcast]at hy;repeat' (first|with_reducible refine dc hy (λ_ hy=>?_) (λ_ hy=>?_)|with_reducible refine zJ ?_)
  all_goals first|(cases hc;done)|(subst hy;first|(change Reach _ _ _ _ _ _;apply IH<;>first|omega|assumption)|rfl)
theorem PT{C:eP}(hC:∀id,C.ρ0 id=Q2)(i1:Sem zg)(l0:LI):
  Reach (gO) C 139 (ac Tryz.f139 2) (Ci l0 i1 (l0.length:Int) 0) (λr h=>aL h [zg] r=Q1 (eu i1 l0 0,())):=
 Reach.len 0 (Sh.int IntKind.i64) l0 rfl λhl=>Vc hC i1 l0 hl _ 0 rfl (bd _)
def gP(x0:Sem zg.sl)(x1:Sem zg):Sem zg:=(eu x1 x0 0)
def zd7:zX:=aC [zg.sl,zg] [zg] λx=>(gP x.1 x.2.1,())
theorem zar:FK 139 zd7:=by
 refine zW (MK) λx C hC=>?_
 refine zD dI (MK) (λid _=>hC id) (zgp x.1 x.2.1) ?_;generalize hy:gP x.1 x.2.1=y;unfold gP at hy
 try simp only[ze.eta]
 repeat' (first|with_reducible refine dc hy (λ_ hy=>?_) (λ_ hy=>?_)|with_reducible refine zJ ?_)
 all_goals first|(cases hc;done)|(subst hy;first|(change Reach _ _ _ _ _ _;apply PT hC<;>first|assumption|exact hc)|rfl)
abbrev YN:Nat->aM:=λj=>if j=2 then{slots:=[0,1,7,8]}else{ }
abbrev Cj(l0:LS)(s1:TS)(i7:Int)(i8:Int):St:={tmps:=(tm 19 [(0,sl Q6 l0),(1,str s1),(7,ai i7),(8,ai i8)]),heap:=[]}
theorem ML:zI (gO).P 198 Tryz.f198 2:=bU kw
theorem zgu(x0:Sem Sh.str.sl)(x1:TS):rn gO 0 YN Tryz.f198 [zE Sh.str.sl x0,zE Q6 x1] []=Tr.ok (zC.head 2 (ac Tryz.f198 2) (Cj x0 x1 (↑(length x0):Int) 0)):=kw
theorem MR(l0:LS)(s1:TS)(i7:Int)(i8:Int):rh gO 0 YN Tryz.f198 2 (Cj l0 s1 i7 i8)=br (Q0 (i8<i7)) (Qc (zM i8 l0.length) (br (s1==l0.getD i8.toNat (zi Q6)) (Tr.ok (zC.ret (ai i8) [])) (Tr.ok (zC.head 2 (ac Tryz.f198 2) (Cj l0 s1 i7 (IntKind.i64.wrap (i8+1))))))) (Tr.ok (zC.ret (ai (-1)) [])):=kw
def ib(s1:TS):List (Sem Q6)->Int->Sem zg
 |[],_=>(-1)
 |x::r,i8=>(if(s1==x)=Q3 then i8 else ib s1 r (i8+1))
theorem Vd{C:eP}(hC:∀id,C.ρ0 id=Q2)(s1:TS)(l0:LS)(hl:l0.length<=aE):∀(m i:Nat),l0.length-i=m->i<=l0.length->
  Reach (gO) C 198 (ac Tryz.f198 2) (Cj l0 s1 (l0.length:Int) (i:Int)) (λr h=>aL h [zg] r=Q1 (ib s1 (l0.drop i) i,())):=by
 intro m
 induction m with
 | zero=>
  intro i hm hi;obtain rfl:i=l0.length:=by omega
  rw[jh];refine zD dI (ML) (λid _=>hC id) (MR _ _ _ _) ?_;generalize hy:ib s1 [] _=y;rw[ib]at hy;simp only[zA,Tr.val_brF];repeat' (first|with_reducible refine dc hy (λ_ hy=>?_) (λ_ hy=>?_)|with_reducible refine zJ ?_)
  all_goals first|(cases hc;done)|(subst hy;first|rfl)
 | succ m IH=>
  intro i hm hi;have hlt:i<l0.length:=by omega
  have IH:=IH (i+1);have hcast:((i:Int)+1)=((i+1:Nat):Int):=by omega
  have hwr:=zp i ow;rw[fk hlt];refine zD dI (ML) (λid _=>hC id) (MR _ _ _ _) ?_;generalize hy:ib s1 (l0[i]::l0.drop (i+1)) (i:Int)=y;rw[ib]at hy;simp only[zH hlt,zu hlt,cA l0 _ hlt,hwr,Tr.val_brT,Tr.val_chkT];clear hwr
  try simp only[zu hlt]at hy
  simp only[hcast]at hy;repeat' (first|with_reducible refine dc hy (λ_ hy=>?_) (λ_ hy=>?_)|with_reducible refine zJ ?_)
  all_goals first|(cases hc;done)|(subst hy;first|(change Reach _ _ _ _ _ _;apply IH<;>first|omega|assumption)|rfl)
theorem PV{C:eP}(hC:∀id,C.ρ0 id=Q2)(s1:TS)(l0:LS):
  Reach (gO) C 198 (ac Tryz.f198 2) (Cj l0 s1 (l0.length:Int) 0) (λr h=>aL h [zg] r=Q1 (ib s1 l0 0,())):=
 Reach.len 0 (Q6) l0 rfl λhl=>Vd hC s1 l0 hl _ 0 rfl (bd _)
def IA(x0:Sem Sh.str.sl)(x1:TS):Sem zg:=(ib x1 x0 0)
def zeo:zX:=aC [Sh.str.sl,Q6] [zg] λx=>(IA x.1 x.2.1,())
theorem zaH:FK 198 zeo:=by
 refine zW (ML) λx C hC=>?_
 refine zD dI (ML) (λid _=>hC id) (zgu x.1 x.2.1) ?_;generalize hy:IA x.1 x.2.1=y;unfold IA at hy
 try simp only[ze.eta]
 repeat' (first|with_reducible refine dc hy (λ_ hy=>?_) (λ_ hy=>?_)|with_reducible refine zJ ?_)
 all_goals first|(cases hc;done)|(subst hy;first|(change Reach _ _ _ _ _ _;apply PV hC<;>first|assumption|exact hc)|rfl)
abbrev RO:Nat->aM:=λj=>if j=2 then{slots:=[0,3,7,8]}else{ }
abbrev uv(l0:LF)(i7:Int)(i8:Int)(ja0:Sem zg)(ja1:TS):St:={tmps:=(tm 19 [(0,sl zr l0),(3,Qf 0 0),(7,ai i7),(8,ai i8)]),heap:=[Qa [ai ja0,str ja1]]}
theorem F0:zI (gO).P 189 Tryz.f189 2:=bU kw
theorem zbl(x0:Sem zr.sl)(x1:Sem zr):rn gO 0 RO Tryz.f189 [zE zr.sl x0,zE zr x1] []=Tr.ok (zC.head 2 (ac Tryz.f189 2) (uv x0 (↑(length x0):Int) 0 x1.1 x1.2)):=kw
theorem IV(l0:LF)(i7:Int)(i8:Int)(ja0:Sem zg)(ja1:TS):rh gO 0 RO Tryz.f189 2 (uv l0 i7 i8 ja0 ja1)=br (Q0 (i8<i7)) (Qc (zM i8 l0.length) (br (ja0==(l0.getD i8.toNat (zi zr)).1&&(ja1==(l0.getD i8.toNat (zi zr)).2&&Q3)) (Tr.ok (zC.ret (ai i8) [])) (Tr.ok (zC.head 2 (ac Tryz.f189 2) (uv l0 i7 (IntKind.i64.wrap (i8+1)) ja0 ja1))))) (Tr.ok (zC.ret (ai (-1)) [])):=kw
def g8(ja0:Sem zg)(ja1:TS):List (Sem zr)->Int->Sem zg
 |[],_=>(-1)
 |x::r,i8=>(if(ja0==x.1&&(ja1==x.2&&Q3))=Q3 then i8 else g8 ja0 ja1 r (i8+1))
theorem PP{C:eP}(hC:∀id,C.ρ0 id=Q2)(ja0:Sem zg)(ja1:TS)(l0:LF)(hl:l0.length<=aE):∀(m i:Nat),l0.length-i=m->i<=l0.length->
  Reach (gO) C 189 (ac Tryz.f189 2) (uv l0 (l0.length:Int) (i:Int) ja0 ja1) (λr h=>aL h [zg] r=Q1 (g8 ja0 ja1 (l0.drop i) i,())):=by
 intro m
 induction m with
 | zero=>
  intro i hm hi;obtain rfl:i=l0.length:=by omega
  rw[jh];refine zD dI (F0) (λid _=>hC id) (IV _ _ _ _ _) ?_;generalize hy:g8 ja0 ja1 [] _=y;rw[g8]at hy;simp only[zA,Tr.val_brF];repeat' (first|with_reducible refine dc hy (λ_ hy=>?_) (λ_ hy=>?_)|with_reducible refine zJ ?_)
  all_goals first|(cases hc;done)|(subst hy;first|rfl)
 | succ m IH=>
  intro i hm hi;have hlt:i<l0.length:=by omega
  have IH:=IH (i+1);have hcast:((i:Int)+1)=((i+1:Nat):Int):=by omega
  have hwr:=zp i ow;rw[fk hlt];refine zD dI (F0) (λid _=>hC id) (IV _ _ _ _ _) ?_;generalize hy:g8 ja0 ja1 (l0[i]::l0.drop (i+1)) (i:Int)=y;rw[g8]at hy;simp only[zH hlt,zu hlt,cA l0 _ hlt,hwr,Tr.val_brT,Tr.val_chkT];clear hwr
  try simp only[zu hlt]at hy
  simp only[hcast]at hy;repeat' (first|with_reducible refine dc hy (λ_ hy=>?_) (λ_ hy=>?_)|with_reducible refine zJ ?_)
  all_goals first|(cases hc;done)|(subst hy;first|(change Reach _ _ _ _ _ _;apply IH<;>first|omega|assumption)|rfl)
theorem NQ{C:eP}(hC:∀id,C.ρ0 id=Q2)(ja0:Sem zg)(ja1:TS)(l0:LF):
  Reach (gO) C 189 (ac Tryz.f189 2) (uv l0 (l0.length:Int) 0 ja0 ja1) (λr h=>aL h [zg] r=Q1 (g8 ja0 ja1 l0 0,())):=
 Reach.len 0 (zg.pr Q6) l0 rfl λhl=>PP hC ja0 ja1 l0 hl _ 0 rfl (bd _)
def Iz(x0:Sem zr.sl)(x1:Sem zr):Sem zg:=(g8 x1.1 x1.2 x0 0)
def Xa:zX:=aC [zr.sl,zr] [zg] λx=>(Iz x.1 x.2.1,())
theorem Ul:FK 189 Xa:=by
 refine zW (F0) λx C hC=>?_
 refine zD dI (F0) (λid _=>hC id) (zbl x.1 x.2.1) ?_;generalize hy:Iz x.1 x.2.1=y;unfold Iz at hy
 try simp only[ze.eta]
 repeat' (first|with_reducible refine dc hy (λ_ hy=>?_) (λ_ hy=>?_)|with_reducible refine zJ ?_)
 all_goals first|(cases hc;done)|(subst hy;first|(change Reach _ _ _ _ _ _;apply NQ hC<;>first|assumption|exact hc)|rfl)
abbrev zgV:Nat->aM:=λ_=>{ }
theorem YT:zI (gO).P 53 Tryz.f53 1:=bU kw
theorem zf8(x0:Sem zz):rn gO 0 zgV Tryz.f53 [zE zz x0] []=br (x0.2.2.1==[]) (Tr.ok (zC.ret (sl Q6 [x0.2.1]) [])) (Tr.ok (zC.ret (sl Q6 [x0.2.1,x0.2.2.1]) [])):=kw
def kF(x0:Sem zz):Sem Sh.str.sl:=(if(x0.2.2.1==[])=Q3 then[x0.2.1]else[x0.2.1,x0.2.2.1])
def zdp:zX:=aC [zz] [Sh.str.sl] λx=>(kF x.1,())
theorem ZB:FK 53 zdp:=by
 refine zW (YT) λx C hC=>?_
 refine zD dI (YT) (λid _=>hC id) (zf8 x.1) ?_;generalize hy:kF x.1=y;unfold kF at hy
 try simp only[ze.eta]
 repeat' (first|with_reducible refine dc hy (λ_ hy=>?_) (λ_ hy=>?_)|with_reducible refine zJ ?_)
 all_goals first|(cases hc;done)|(subst hy;first|rfl)
def W8:zX:=bm (List.replicate 2 Q2) (fN gO Tryz.f185 (List.replicate 2 Q2))
theorem Uj:FK 185 W8:=cw _ dI (bU kw)
def wW:=gO.addL [(139,zd7),(198,zeo),(189,Xa),(53,zdp),(185,W8)]
theorem pI:zw wW:=dI.addL<|fc zar<|fc zaH<|fc Ul<|fc ZB<|fc Uj jm
abbrev zbT:Nat->aM:=λ_=>{ }
theorem Su:zI (wW).P 186 Tryz.f186 2:=bU kw
theorem zbk(x0:Sem zg.sl)(x1:Sem zg):rn wW 0 zbT Tryz.f186 [zE zg.sl x0,zE zg x1] []=Tr.ok (zC.ret (AV.bool (Q0 (gP x0 x1>=0))) []):=kw
def si(x0:Sem zg.sl)(x1:Sem zg):Sem Q7:=(Q0 (gP x0 x1>=0))
def W9:zX:=aC [zg.sl,zg] [Q7] λx=>(si x.1 x.2.1,())
theorem Uk:FK 186 W9:=by
 refine zW (Su) λx C hC=>?_
 refine zD pI (Su) (λid _=>hC id) (zbk x.1 x.2.1) ?_;generalize hy:si x.1 x.2.1=y;unfold si at hy
 try simp only[ze.eta]
 repeat' (first|with_reducible refine dc hy (λ_ hy=>?_) (λ_ hy=>?_)|with_reducible refine zJ ?_)
 all_goals first|(cases hc;done)|(subst hy;first|rfl)
abbrev zhb:Nat->aM:=λ_=>{ }
theorem YW:zI (wW).P 149 Tryz.f149 2:=bU kw
theorem zgj(x0:Sem Sh.str.sl)(x1:TS):rn wW 0 zhb Tryz.f149 [zE Sh.str.sl x0,zE Q6 x1] []=Tr.ok (zC.ret (AV.bool (Q0 (IA x0 x1>=0))) []):=kw
def aA(x0:Sem Sh.str.sl)(x1:TS):Sem Q7:=(Q0 (IA x0 x1>=0))
def zdU:zX:=aC [Sh.str.sl,Q6] [Q7] λx=>(aA x.1 x.2.1,())
theorem zaa:FK 149 zdU:=by
 refine zW (YW) λx C hC=>?_
 refine zD pI (YW) (λid _=>hC id) (zgj x.1 x.2.1) ?_;generalize hy:aA x.1 x.2.1=y;unfold aA at hy
 try simp only[ze.eta]
 repeat' (first|with_reducible refine dc hy (λ_ hy=>?_) (λ_ hy=>?_)|with_reducible refine zJ ?_)
 all_goals first|(cases hc;done)|(subst hy;first|rfl)
abbrev zhk:Nat->aM:=λ_=>{ }
theorem YY:zI (wW).P 141 Tryz.f141 2:=bU kw
theorem zgq(x0:Sem zr.sl)(x1:Sem zr):rn wW 0 zhk Tryz.f141 [zE zr.sl x0,zE zr x1] []=Tr.ok (zC.ret (AV.bool (Q0 (Iz x0 x1>=0))) []):=kw
def jD(x0:Sem zr.sl)(x1:Sem zr):Sem Q7:=(Q0 (Iz x0 x1>=0))
def zd8:zX:=aC [zr.sl,zr] [Q7] λx=>(jD x.1 x.2.1,())
theorem zas:FK 141 zd8:=by
 refine zW (YY) λx C hC=>?_
 refine zD pI (YY) (λid _=>hC id) (zgq x.1 x.2.1) ?_;generalize hy:jD x.1 x.2.1=y;unfold jD at hy
 try simp only[ze.eta]
 repeat' (first|with_reducible refine dc hy (λ_ hy=>?_) (λ_ hy=>?_)|with_reducible refine zJ ?_)
 all_goals first|(cases hc;done)|(subst hy;first|rfl)
def H6:=wW.addL [(186,W9),(149,zdU),(141,zd8)]
theorem DZ:zw H6:=pI.addL<|fc Uk<|fc zaa<|fc zas jm
abbrev RV:Nat->aM:=λj=>if j=2 then{slots:=[0,12,13,14]}else{ }
inductive Ht where
 |h2 (i13:Int) (i14:Int) (z0:zn ah)
abbrev Qk:Ht->Nat×St
 |.h2 i13 i14 z0=>(2,⟨tm 65 [(0,Qf 0 0),(12,AV.vec 1),(13,ai i13),(14,ai i14)],[Qa (bC [1] ah z0),AO.vec zj z0.t.t.1]⟩)
theorem zhX:zI H6.P 102 Tryz.f102 1:=bU kw
def VJ(y:zn ah):Tr (Ht⊕aw):=Q9 (Ht.h2 (↑y.t.t.1.length:Int) 0 y)
def G5(i13:Int)(i14:Int)(z0:zn ah)(a0:ze)(a1:Sem zj)(a2:Sem zg×Sem zg):Tr (Ht⊕aw):=br (Q0 (i14<i13)) (Qc (zM i14 z0.t.t.1.length) (Qc (Q0 (i14.toNat<z0.t.t.1.length)) (br (zO (z0.t.q.2.1,z0.t.t.1,z0.t.t.2.1,[],[],a0) a1.1!=i14) (re (ai 7) (ar ah z0)) (Q9 (Ht.h2 i13 (IntKind.i64.wrap (i14+1)) z0))))) (br (ze.op z0.t.t.q.1==[]) (re (ai 0) (ar ah z0)) (br (bif a2.2==0 then bif a2.1!=3 then a2.1!=0 else Q4 else Q4) (re (ai 5) (ar ah z0)) (re (ai a2.2) (ar ah z0))))
def LB(i13:Int)(i14:Int)(z0:zn ah):Tr (Ht⊕aw):=
 let a0:=zm z0.t.t.q.1
 let a1:=z0.t.t.1.getD i14.toNat (zi zj)
 let a2:=bH a0 z0.t.t.1
 G5 i13 i14 z0 a0 a1 a2
theorem zgg(y:zn ah):rn H6 2 RV Tryz.f102 [Qf 0 0] (ar ah y)=(VJ y).map (lf Tryz.f102 Qk):=kw
def JN:Ht->Tr (Ht⊕aw)
 |.h2 i13 i14 z0=>LB i13 i14 z0
theorem ziE:∀s,run H6 2 RV (Func.results Tryz.f102).toList 400 (ac Tryz.f102 (Qk s).1) (Qk s).2=(JN s).map (lf Tryz.f102 Qk)|.h2 i13 i14 z0=>by kernel_rfl
def tF(y:zn ah):Option (zy (Qi Q1 [zg])×zn ah):=kE [zg] ah JN 100000000 (VJ y)
def gm(y:zn ah):Bool:=(tF y).isSome
def fe(y:zn ah):(Sem zg)×zn ah:=(λr:zy (Qi Q1 [zg])×zn ah=>(r.1.1,r.2)) ((tF y).getD (cu [zg],fO ah))
def zdK:zX:=rL ah [] [zg] ah (λy _=>gm y) λy _=>(((fe y).1,()),(fe y).2)
theorem Z0:FK 102 zdK:=kd (keep:=RV) (gas:=400) (n:=100000000) (e:=Qk) (t:=JN) (i:=λy x=>VJ y) DZ zhX (λy x=>zgg y) ziE (λ_ _=>by kernel_rfl) (λ_ _=>by kernel_rfl)
def QK:=H6.add 102 zdK
theorem D0:zw QK:=DZ.add Z0
def zec:zX:=bm (List.replicate 2 Q2) (fN QK Tryz.f148 (List.replicate 2 Q2))
theorem zav:FK 148 zec:=cw _ D0 (bU kw)
def H7:=QK.add 148 zec
theorem vI:zw H7:=D0.add zav
abbrev yI(s:List zB)(l:LF)(i:Int):St:={tmps:=[.sl zr l,.clo (.func 148) [] [.ptr 0 0],.any,.any,.any,.any,.any,.int .i64 l.length,.int .i64 i,.any,.any,.any,.any,.any,.any,.any,.any,.any,.any],heap:=[.box [.sl .str s]]}
theorem Rd(s:List zB)(l:LF):run H7 1 Dc Tryz.f199.results.toList 300 (bw Tryz.f199) (be Tryz.f199.ntmps [.sl zr l,.clo (.func 148) [] [.ptr 0 0]] [.box [.sl .str s]])=.ok (.head 2 (ac Tryz.f199 2) (yI s l 0)):=kw
theorem SM(s:List zB)(l:LF)(i:Int):run H7 1 Dc Tryz.f199.results.toList 300 (ac Tryz.f199 2) (yI s l i)=oV (K:=ac Tryz.f199 2) (e:=zr) l (λx=>aA s x.2) (yI s l) [.box [.sl .str s]] i:=kw
theorem SF:zI H7.P 199 Tryz.f199 2:=bU kw
def zfG:iw [Q1 (.sl zr),Q2]:=λx h=>match x,h with
 |(l,.clo (.func 148) [] [.ptr 0 0],_),[.box [.sl .str s]]=>.ok (.int .i64 (ae (λx=>aA s x.2) l 0),[.box [.sl .str s]])
 |_,_=>.err
def zer:zX:=bm [Q1 (.sl zr),Q2] zfG
theorem zaL:FK 199 zer:=by
 refine dH SF λx h0 res hx C hC=>?_
 unfold zfG at hx;split at hx
 ·rename_i l u s;simp only[Tr.val_ok,bB]at hx;subst hx;refine Reach.len 0 zr l rfl λhl=>?_
  refine zD (n0:=1) vI SF hC (Rd s l) ?_;exact mA l (λx=>aA s x.2) (yI s l) vI SF hC (SM s l) hl _ 0 rfl (bd _)
 ·simp at hx
def QL:=H7.add 199 zer
theorem D1:zw QL:=vI.add zaL
def zed:zX:=bm (List.replicate 2 Q2) (fN QL Tryz.f150 (List.replicate 2 Q2))
theorem zaw:FK 150 zed:=cw _ D1 (bU kw)
def X6:=QL.add 150 zed
theorem vJ:zw X6:=D1.add zaw
abbrev cpR:List CP:=[.d zh]
abbrev za7:List CP:=[.d .str,.nil,.d zg,.nil,.nil,.d .str,.d zg,.d zg,.d .str,.d .str,.nil,.nil]
abbrev zfL:List CP:=[.d zo,.vec (.sl zf)]
abbrev om:List CP:=[.d zk]
abbrev iH:List CP:=[.d .str,.d .str,.d .str,.nil,.nil,.d .str,.nil,.nil,.d .str,.d zg,.d zg,.d .str,.d .str,.nil,.nil,.nil,.d .str,.d zg,.d zg,.d .str,.d .str,.nil,.d .str]
abbrev P2:List CP:=[.d .str,.d .str,.d .str,.d (.sl .str),.d (.sl zj),.d .str,.d (.sl .str),.vec iD,.d .expr,.d (.sl zf),.nil,.d .expr,.d .str]
abbrev P3:List CP:=[.d .str,.d .str,.d .str,.d (.sl .str),.d (.sl zj),.d .str,.d (.sl .str),.vec iD,.d .expr,.d (.sl zf),.vec gU,.d .expr,.d .str]
abbrev zgW:Nat->aM:=λj=>if j=6 then{slots:=[1,2,3,4,5],prom:=[(3,Q1 11,.sl zf)]}else{ }
inductive J3 where
 |h6 (i4:Int) (i5:Int) (z0:zn cpR) (z1:zn za7) (z2:zn zfL)
abbrev zjC:J3->Nat×St
 |.h6 i4 i5 z0 z1 z2=>(6,⟨tm 38 [(1,Qf 0 0),(2,Qf 1 0),(3,Qf 2 0),(4,ai i4),(5,ai i5)],[Qa (bC [] cpR z0),Qa (bC [] za7 z1),Qa (bC [3] zfL z2),AO.vec zf.sl z2.2.1]⟩)
def zbC(x0:Sem zh):Tr (J3⊕aw):=
 let a0:=(CH (x0.1.1,x0.1.2.1,x0.1.2.2.1,x0.1.2.2.2.1,x0.1.t.1,zm x0.1.t.2),[],())
 br (Q0 ((↑(length x0.2):Int)>200)) (Q9 (J3.h6 201 0 (x0,()) ([],0,[],0,0,[],[],()) a0))
 (Q9 (J3.h6 40 0 (x0,()) ([],0,[],0,0,[],[],()) a0))
def O4:J3->Tr (J3⊕aw)
 | .h6 i4 i5 z0 z1 z2=>
  let a0:=(↑(length z0.1.2):Int)
  let a1:=[lw (getD z0.1.2 i5.toNat (zi zf.sl))]
  br (bif Q0 (i5<a0)then Q0 (i5<i4)else Q4)
  (Qc (zM i5 (length z0.1.2))
   (Qc (Q0 (z2.2.1.length+a1.length<=1073741824)) (Q9 (J3.h6 i4 (IntKind.i64.wrap (i5+1)) z0 z1 (z2.1,z2.2.1++a1,())))))
  (re
   (agg [str z2.1.1,sl zj z2.1.2.1,ai z2.1.2.2.1,sl zg z2.1.2.2.2.1,sl zr z2.1.t.1,str (ze.op z2.1.t.2),ai (ze.v z2.1.t.2).1,ai (ze.v z2.1.t.2).2.1,str (ze.v z2.1.t.2).2.2,str (ze.s z2.1.t.2),sl Q5 (ze.l z2.1.t.2),AV.vec 0])
   [AO.vec zf.sl z2.2.1])
def Ba(x0:Sem zh):=al [zh] O4 100000000 (zbC x0)
def KR(x0:Sem zh):=(Ba x0).isSome
def xm(x0:Sem zh):=o1 (Ba x0)
def zdr:=FT [zh] [zh] λx=>Ba x.1
theorem ZF:FK 37 zdr:=vJ.T1 (f:=Tryz.f37) (keep:=zgW) (e:=zjC)
abbrev zll:Nat->aM:=λj=>if j=3 then{slots:=[1,2,3,4],prom:=[(3,Q1 7,iD)]}else if j=7 then{slots:=[1,2,3,5],prom:=[(3,Q1 15,gU)]}else{ }
inductive XR where
 |h3 (i4:Int) (z0:zn om) (z1:zn iH) (z2:zn P2)
 |h7 (i5:Int) (z0:zn om) (z1:zn iH) (z2:zn P3)
abbrev e8p:XR->Nat×St
 |.h3 i4 z0 z1 z2=>(3,⟨tm 103 [(1,Qf 0 0),(2,Qf 1 0),(3,Qf 2 0),(4,ai i4)],[Qa (bC [] om z0),Qa (bC [] iH z1),Qa (bC [3] P2 z2),AO.vec (Sh.str.pr Q6) z2.t.q.2.1]⟩)
 |.h7 i5 z0 z1 z2=>(7,⟨tm 103 [(1,Qf 0 0),(2,Qf 1 0),(3,Qf 2 0),(5,ai i5)],[Qa (bC [] om z0),Qa (bC [] iH z1),Qa (bC [3,4] P3 z2),AO.vec (Sh.str.pr Q6) z2.t.q.2.1,AO.vec (Sh.str.pr Q5) z2.t.t.q.1]⟩)
def i8p(x0:Sem zk):Tr (XR⊕aw):=
 Qc (fb x0.1)
 (Qc (fb x0.2.1)
  (Qc (fb x0.2.2.1) (Qc (fb x0.t.2.1) (Qc (fb x0.t.t.t) (Qc (oW x0.2.2.2.1) (Qc (oW x0.t.q.1) (Q9 (XR.h3 0 (x0,()) ([],[],[],[],[],0,0,[],[],[],0,0,[],[],[],()) (cR x0.1,cR x0.2.1,cR x0.2.2.1,jN x0.2.2.2.1,jo x0.t.1,
  cR x0.t.2.1,jN x0.t.q.1,[],gD (zm x0.t.t.1),lw x0.t.t.2.1,gD (zm x0.t.t.q.2.1),cR x0.t.t.t,())))))))))
def WG:XR->Tr (XR⊕aw)
 | .h3 i4 z0 z1 z2=>
  let a0:=(↑(length z0.1.t.q.2.1):Int)
  let a1:=zM i4 (length z0.1.t.q.2.1)
  let a2:=getD z0.1.t.q.2.1 i4.toNat (zi iD)
  let a3:=[(cR a2.1,cR a2.2)]
  br (bif Q0 (i4<a0)then Q0 (i4<10)else Q4)
  (Qc a1
   (Qc (fb a2.1) (Qc a1 (Qc (fb a2.2) (Qc (Q0 (z2.t.q.2.1.length+a3.length<=1073741824)) (Q9 (XR.h3 (IntKind.i64.wrap (i4+1)) z0 z1 (z2.1,z2.2.1,z2.2.2.1,z2.2.2.2.1,z2.t.1,z2.t.2.1,z2.t.q.1,z2.t.q.2.1++a3,z2.t.t))))))))
  (Q9
   (XR.h7 0 z0 z1 (z2.1,z2.2.1,z2.2.2.1,z2.2.2.2.1,z2.t.1,z2.t.2.1,z2.t.q.1,z2.t.q.2.1,z2.t.t.1,z2.t.t.2.1,[],z2.t.t.q)))
 | .h7 i5 z0 z1 z2=>
  let a0:=(↑(length z0.1.t.t.q.1):Int)
  let a1:=zM i5 (length z0.1.t.t.q.1)
  let a2:=getD z0.1.t.t.q.1 i5.toNat (zi gU)
  let a3:=[(cR a2.1,zm (gD (zm a2.2)))]
  br (bif Q0 (i5<a0)then Q0 (i5<10)else Q4)
  (Qc a1
   (Qc (fb a2.1) (Qc a1 (Qc (Q0 (z2.t.t.q.1.length+a3.length<=1073741824)) (Q9 (XR.h7 (IntKind.i64.wrap (i5+1)) z0 z1 (z2.1,z2.2.1,z2.2.2.1,z2.2.2.2.1,z2.t.1,z2.t.2.1,z2.t.q.1,z2.t.q.2.1,z2.t.t.1,z2.t.t.2.1,z2.t.t.q.1++a3,z2.t.t.q.2)))))))
  (re
   (agg [str z2.1,str z2.2.1,str z2.2.2.1,sl Q6 z2.2.2.2.1,sl zj z2.t.1,str z2.t.2.1,sl Q6 z2.t.q.1,AV.vec 0,str (ze.op z2.t.t.1),ai (ze.v z2.t.t.1).1,ai (ze.v z2.t.t.1).2.1,str (ze.v z2.t.t.1).2.2,str (ze.s z2.t.t.1),
   sl Q5 (ze.l z2.t.t.1),sl zf z2.t.t.2.1,AV.vec 1,str (ze.op z2.t.t.q.2.1),ai (ze.v z2.t.t.q.2.1).1,ai (ze.v z2.t.t.q.2.1).2.1,str (ze.v z2.t.t.q.2.1).2.2,str (ze.s z2.t.t.q.2.1),
   sl Q5 (ze.l z2.t.t.q.2.1),str z2.t.t.t.1])
   [AO.vec (Sh.str.pr Q6) z2.t.q.2.1,AO.vec (Sh.str.pr Q5) z2.t.t.q.1])
def vT(x0:Sem zk):=al [zk] WG 100000000 (i8p x0)
def KP(x0:Sem zk):=(vT x0).isSome
def R1(x0:Sem zk):=o1 (vT x0)
def F8p:=FT [zk] [zk] λx=>vT x.1
theorem zfs:FK 24 F8p:=vJ.T1 (f:=Tryz.f24) (keep:=zll) (e:=e8p)
def X8:=X6.addL [(37,zdr),(24,F8p)]
theorem D6:zw X8:=vJ.addL<|fc ZF<|fc zfs jm
abbrev zlg:Nat->aM:=λj=>if j=3 then{slots:=[0,3,4],prom:=[(3,Q2,zh)]}else{ }
inductive H7p where
 |h3 (l0:List (Sem zh)) (i4:Int) (lh_0:List (Sem zh))
abbrev e7p:H7p->Nat×St
 |.h3 l0 i4 lh_0=>(3,⟨tm 24 [(0,sl zh l0),(3,AV.vec 0),(4,ai i4)],[AO.vec zh lh_0]⟩)
def i7p(x0:Sem zh.sl):Tr (H7p⊕aw):=
 Q9 (H7p.h3 x0 0 [])
def t7p:H7p->Tr (H7p⊕aw)
 | .h3 l0 i4 lh_0=>
  let a0:=l0.getD i4.toNat (zi zh)
  let a1:=((a0.1.1,a0.1.2.1,a0.1.2.2.1,a0.1.2.2.2.1,a0.1.t.1,zm a0.1.t.2),a0.2)
  let a2:=xm a1
  let a3:=[((a2.1.1,a2.1.2.1,a2.1.2.2.1,a2.1.2.2.2.1,a2.1.t.1,zm a2.1.t.2),a2.2)]
  br (bif Q0 (i4<(↑l0.length:Int))then Q0 (i4<13)else Q4)
  (Qc (zM i4 l0.length)
   (Qc (KR a1) (Qc (Q0 (lh_0.length+a3.length<=1073741824)) (Q9 (H7p.h3 l0 (IntKind.i64.wrap (i4+1)) (lh_0++a3))))))
  (re (AV.vec 0)
   [AO.vec zh lh_0])
def Bb(x0:Sem zh.sl):=al [zh.sl] t7p 100000000 (i7p x0)
def KS(x0:Sem zh.sl):=(Bb x0).isSome
def Ew(x0:Sem zh.sl):=o1 (Bb x0)
def F7p:=FT [zh.sl] [zh.sl] λx=>Bb x.1
theorem zfj:FK 23 F7p:=D6.T1 (f:=Tryz.f23) (keep:=zlg) (e:=e7p)
def Ib:=X8.add 23 F7p
theorem D7:zw Ib:=D6.add zfj
abbrev RU:Nat->aM:=λj=>if j=3 then{slots:=[0,3,14,15,16]}else if j=11 then{slots:=[0,3,55,56,57]}else{ }
inductive uU where
 |h3 (l14:LS) (i15:Int) (i16:Int) (z0:zn bf) (jb0:LS)
 |h11 (l55:List (Sem zh)) (i56:Int) (i57:Int) (z0:zn bf) (jb0:LS)
abbrev Qj:uU->Nat×St
 |.h3 l14 i15 i16 z0 jb0=>(3,⟨tm 122 [(0,Qf 0 0),(3,Qf 1 0),(14,sl Q6 l14),(15,ai i15),(16,ai i16)],[Qa (bC [] bf z0),Qa [sl Q6 jb0]]⟩)
 |.h11 l55 i56 i57 z0 jb0=>(11,⟨tm 122 [(0,Qf 0 0),(3,Qf 1 0),(55,sl zh l55),(56,ai i56),(57,ai i57)],[Qa (bC [] bf z0),Qa [sl Q6 jb0]]⟩)
theorem zhW:zI Ib.P 101 Tryz.f101 1:=bU kw
def VI(y:zn bf):Tr (uU⊕aw):=
 let a0:=kF (y.t.1,y.t.2.1,y.t.q.1,(y.t.q.2.1,[],y.t.t.1,[],[],zm y.t.t.2.1),[],y.t.t.q.1)
 Q9 (uU.h3 a0 (↑(length a0):Int) 0 y a0)
def G4(l14:LS)(i15:Int)(i16:Int)(z0:zn bf)(jb0:LS)(a0:Sem zg)(a1:Sem zg):Tr (uU⊕aw):=br (Q0 (i16<i15)) (Qc (zM i16 l14.length) (br (Q0 (a0<0)) (re (ai 6) (ar bf z0)) (Q9 (uU.h3 l14 i15 (IntKind.i64.wrap (i16+1)) z0 jb0)))) (br (bif Q0 (a1>=0)then Q3 else z0.t.2.1==z0.t.q.1) (re (ai 7) (ar bf z0)) (Q9 (uU.h11 z0.1 (↑(length z0.1):Int) 0 z0 jb0)))
def LA(l14:LS)(i15:Int)(i16:Int)(z0:zn bf)(jb0:LS):Tr (uU⊕aw):=
 let a0:=zS z0.1 (l14.getD i16.toNat (zi Q6))
 let a1:=zS z0.1 z0.2.1.2.1
 G4 l14 i15 i16 z0 jb0 a0 a1
def CD(l55:List (Sem zh))(i56:Int)(i57:Int)(z0:zn bf)(jb0:LS)(a0:Sem zh)(a1:Int)(a2:Sem zg)(a3:Sem zg)(a4:Sem zh)(a5:Sem zh):Tr (uU⊕aw):=br (Q0 (i57<i56)) (Qc (zM i57 l55.length) (br (!aA jb0 a0.1.1) (br (Q0 (a1>=0)) (re (ai 10) (ar bf z0)) (Q9 (uU.h11 l55 i56 (IntKind.i64.wrap (i57+1)) z0 jb0))) (Q9 (uU.h11 l55 i56 (IntKind.i64.wrap (i57+1)) z0 jb0)))) (Qc (zM a2 (length z0.1)) (br (!z0.t.q.1==[]) (Qc (zM a3 (length z0.1)) (re (ai 0) (ar bf (z0.1,z0.2.1,a4.1,a5.1,z0.t)))) (re (ai 0) (ar bf (z0.1,z0.2.1,a4.1,z0.2.2.2)))))
def G3(l55:List (Sem zh))(i56:Int)(i57:Int)(z0:zn bf)(jb0:LS):Tr (uU⊕aw):=
 let a0:=l55.getD i57.toNat (zi zh)
 let a1:=ae (λx=>aA jb0 x.2) a0.1.t.1 0
 let a2:=zS z0.1 z0.t.2.1
 let a3:=zS z0.1 z0.t.q.1
 let a4:=getD z0.1 (toNat a2) (zi zh)
 let a5:=getD z0.1 (toNat a3) (zi zh)
 CD l55 i56 i57 z0 jb0 a0 a1 a2 a3 a4 a5
theorem zgf(y:zn bf):rn Ib 1 RU Tryz.f101 [Qf 0 0] (ar bf y)=(VI y).map (lf Tryz.f101 Qj):=kw
def CC:uU->Tr (uU⊕aw)
 |.h3 l14 i15 i16 z0 jb0=>LA l14 i15 i16 z0 jb0
 |.h11 l55 i56 i57 z0 jb0=>G3 l55 i56 i57 z0 jb0
theorem ziD:∀s,run Ib 1 RU (Func.results Tryz.f101).toList 400 (ac Tryz.f101 (Qj s).1) (Qj s).2=(CC s).map (lf Tryz.f101 Qj)|.h3 l14 i15 i16 z0 jb0=>by kernel_rfl|.h11 l55 i56 i57 z0 jb0=>by kernel_rfl
def pV(y:zn bf):Option (zy (Qi Q1 [zg])×zn bf):=kE [zg] bf CC 100000000 (VI y)
def mj(y:zn bf):Bool:=(pV y).isSome
def mi(y:zn bf):(Sem zg)×zn bf:=(λr:zy (Qi Q1 [zg])×zn bf=>(r.1.1,r.2)) ((pV y).getD (cu [zg],fO bf))
def zdJ:zX:=rL bf [] [zg] bf (λy _=>mj y) λy _=>(((mi y).1,()),(mi y).2)
theorem ZZ:FK 101 zdJ:=kd (keep:=RU) (gas:=400) (n:=100000000) (e:=Qj) (t:=CC) (i:=λy x=>VI y) D7 zhW (λy x=>zgf y) ziD (λ_ _=>by kernel_rfl) (λ_ _=>by kernel_rfl)
def H8:=Ib.add 101 zdJ
theorem D2:zw H8:=D7.add ZZ
abbrev dF:List CP:=[.d (.sl zh),.d zk,.d zo,.d zo,.d .str,.d .str,.d .str,.d .str,.vec zj,.d zg,.nil,.nil,.d .expr,.vec zg,.d zg]
abbrev RX:Nat->aM:=λj=>if j=3 then{slots:=[1,3,14,15,16,0],prom:=[(0,Q1 60,.int .i64),(0,Q1 50,zj)]}else if j=12 then{slots:=[1,63,64,65,0]}else if j=1000000 then{sett:=[(0,60)]}else{ }
inductive rD where
 |h3 (l14:LS) (i15:Int) (i16:Int) (z0:zn dF)
 |h12 (i64:Int) (i65:Int) (z0:zn dF)
 |h12b (i64:Int) (i65:Int) (z0:zn dF)
abbrev Qm:rD->Nat×St
 |.h3 l14 i15 i16 z0=>(3,⟨tm 80 [(0,Qf 0 0),(1,Qf 1 0),(3,AV.clo (Fn.func 185) [] [Qf 1 0]),(14,sl Q6 l14),(15,ai i15),(16,ai i16)],[Qa (bC [2,3] dF z0),Qa [Qf 0 0],AO.vec zj z0.t.t.1,AO.vec zg z0.t.t.q.2.1]⟩)
 |.h12 i64 i65 z0=>(12,⟨tm 80 [(0,Qf 0 0),(1,Qf 1 0),(63,AV.vec 2),(64,ai i64),(65,ai i65)],[Qa (bC [3,2] dF z0),Qa [Qf 0 0],AO.vec zg z0.t.t.q.2.1,AO.vec zj z0.t.t.1]⟩)
 |.h12b i64 i65 z0=>(12,⟨tm 80 [(0,Qf 0 0),(1,Qf 1 0),(63,AV.vec 2),(64,ai i64),(65,ai i65)],[Qa (bC [3,2] dF z0),Qa [Qf 0 0],AO.frz zg z0.t.t.q.2.1,AO.vec zj z0.t.t.1]⟩)
theorem zik:zI H8.P 138 Tryz.f138 1:=bU kw
def VO(y:zn bf):Tr (rD⊕aw):=Q9 (rD.h3 y.2.1.2.2.2.1 (↑(length y.2.1.2.2.2.1):Int) 0 (y.1,y.2.1,y.2.2.1,y.2.2.2.1,y.t.1,y.t.2.1,y.t.q.1,y.t.q.2.1,[],y.t.t.1,y.t.t.2.1,[],y.t.t.q))
def G8(l14:LS)(i15:Int)(i16:Int)(z0:zn dF)(a0:Sem zg)(a1:LI)(a2:LC):Tr (rD⊕aw):=br (Q0 (i16<i15)) (Qc (zM i16 l14.length) (br (Q0 (a0<0)) (re (ai 4) (ar ah z0)) (Qc (Q0 (z0.t.t.q.2.1.length+a1.length<=1073741824)) (Qc (zM a0 (length z0.2.2.1.2.1)) (Qc (Q0 (z0.t.t.1.length+a2.length<=1073741824)) (Q9 (rD.h3 l14 i15 (IntKind.i64.wrap (i16+1)) (z0.1,z0.2.1,z0.2.2.1,z0.2.2.2.1,z0.t.1,z0.t.2.1,z0.t.q.1,z0.t.q.2.1,z0.t.t.1++a2,z0.t.t.2.1,z0.t.t.q.1,z0.t.t.q.2.1++a1,z0.t.t.t)))))))) (Q9 (rD.h12 (↑z0.t.t.q.2.1.length:Int) 0 z0))
def LH(l14:LS)(i15:Int)(i16:Int)(z0:zn dF):Tr (rD⊕aw):=
 let a0:=zO (z0.2.2.1.1,z0.2.2.1.2.1,z0.2.2.1.2.2.1,z0.2.2.1.2.2.2.1,z0.2.2.1.t.1,zm z0.2.2.1.t.2) (l14.getD i16.toNat (zi Q6))
 let a1:=[a0]
 let a2:=[getD z0.2.2.1.2.1 (toNat a0) (zi zj)]
 G8 l14 i15 i16 z0 a0 a1 a2
def CG(i64:Int)(i65:Int)(z0:zn dF)(a0:Int):Tr (rD⊕aw):=br (Q0 (i65<i64)) (Qc (zM i65 z0.t.t.q.2.1.length) (Qc (Q0 (i65.toNat<z0.t.t.q.2.1.length)) (Qc (Q0 (0<=0)&&Q0 (0<=i65)&&Q0 (i65<=a0)) (br (si (List.take (i65.toNat-toNat 0) (List.drop (toNat 0) z0.t.t.q.2.1)) (z0.t.t.q.2.1.getD i65.toNat (zi zg))) (re (ai 7) (ar ah z0)) (Q9 (rD.h12b i64 (IntKind.i64.wrap (i65+1)) z0)))))) (re (ai 0) (ar ah z0))
def G7(i64:Int)(i65:Int)(z0:zn dF):Tr (rD⊕aw):=
 let a0:=(↑z0.t.t.q.2.1.length:Int)
 CG i64 i65 z0 a0
def wz(i64:Int)(i65:Int)(z0:zn dF)(a0:Int):Tr (rD⊕aw):=br (Q0 (i65<i64)) (Qc (zM i65 z0.t.t.q.2.1.length) (Qc (Q0 (0<=0)&&Q0 (0<=i65)&&Q0 (i65<=a0)) (br (si (List.take (i65.toNat-toNat 0) (List.drop (toNat 0) z0.t.t.q.2.1)) (z0.t.t.q.2.1.getD i65.toNat (zi zg))) (re (ai 7) (ar ah z0)) (Q9 (rD.h12b i64 (IntKind.i64.wrap (i65+1)) z0))))) (re (ai 0) (ar ah z0))
def CF(i64:Int)(i65:Int)(z0:zn dF):Tr (rD⊕aw):=
 let a0:=(↑z0.t.t.q.2.1.length:Int)
 wz i64 i65 z0 a0
theorem zgo(y:zn bf):rn H8 1 RX Tryz.f138 [Qf 0 0] (ar bf y)=(VO y).map (lf Tryz.f138 Qm):=kw
def pq:rD->Tr (rD⊕aw)
 |.h3 l14 i15 i16 z0=>LH l14 i15 i16 z0
 |.h12 i64 i65 z0=>G7 i64 i65 z0
 |.h12b i64 i65 z0=>CF i64 i65 z0
theorem ziK:∀s,run H8 1 RX (Func.results Tryz.f138).toList 400 (ac Tryz.f138 (Qm s).1) (Qm s).2=(pq s).map (lf Tryz.f138 Qm)|.h3 l14 i15 i16 z0=>by kernel_rfl|.h12 i64 i65 z0=>by kernel_rfl|.h12b i64 i65 z0=>by kernel_rfl
def yh(y:zn bf):Option (zy (Qi Q1 [zg])×zn ah):=kE [zg] ah pq 100000000 (VO y)
def nc(y:zn bf):Bool:=(yh y).isSome
def jG(y:zn bf):(Sem zg)×zn ah:=(λr:zy (Qi Q1 [zg])×zn ah=>(r.1.1,r.2)) ((yh y).getD (cu [zg],fO ah))
def zd6:zX:=rL bf [] [zg] ah (λy _=>nc y) λy _=>(((jG y).1,()),(jG y).2)
theorem zaq:FK 138 zd6:=kd (ps:=bf) (ks:=[]) (outs:=[zg]) (keep:=RX) (gas:=400) (n:=100000000) (e:=Qm) (t:=pq) (i:=λy x=>VO y) D2 zik (λy x=>zgo y) ziK (λ_ _=>by kernel_rfl) (λ_ _=>by kernel_rfl)
def D3:=H8.add 138 zd6
theorem vK:zw D3:=D2.add zaq
abbrev Oi(y:zn bf):zn bf:=(y.1,(y.2.1.1,y.2.1.2.1,y.2.1.2.2.1,y.2.1.2.2.2.1,y.2.1.t.1,y.2.1.t.2.1,y.2.1.t.q.1,y.2.1.t.q.2.1,zm y.2.1.t.t.1,y.2.1.t.t.2.1,y.2.1.t.t.q.1,zm y.2.1.t.t.q.2.1,y.2.1.t.t.t),(y.2.2.1.1,y.2.2.1.2.1,y.2.2.1.2.2.1,y.2.2.1.2.2.2.1,y.2.2.1.t.1,zm y.2.2.1.t.2),(y.2.2.2.1.1,y.2.2.2.1.2.1,y.2.2.2.1.2.2.1,y.2.2.2.1.2.2.2.1,y.2.2.2.1.t.1,zm y.2.2.2.1.t.2),y.t.1,y.t.2.1,y.t.q.1,y.t.q.2.1,y.t.t.1,zm y.t.t.2.1,y.t.t.q.1,())
abbrev Mp(y:zn ah):zn ah:=(y.1,(y.2.1.1,y.2.1.2.1,y.2.1.2.2.1,y.2.1.2.2.2.1,y.2.1.t.1,y.2.1.t.2.1,y.2.1.t.q.1,y.2.1.t.q.2.1,zm y.2.1.t.t.1,y.2.1.t.t.2.1,y.2.1.t.t.q.1,zm y.2.1.t.t.q.2.1,y.2.1.t.t.t),(y.2.2.1.1,y.2.2.1.2.1,y.2.2.1.2.2.1,y.2.2.1.2.2.2.1,y.2.2.1.t.1,zm y.2.2.1.t.2),(y.2.2.2.1.1,y.2.2.2.1.2.1,y.2.2.2.1.2.2.1,y.2.2.2.1.2.2.2.1,y.2.2.2.1.t.1,zm y.2.2.2.1.t.2),y.t.1,y.t.2.1,y.t.q.1,y.t.q.2.1,y.t.t.1,y.t.t.2.1,zm y.t.t.q.1,y.t.t.q.2.1,y.t.t.t.1,())
abbrev YI:Nat->aM:=λ_=>{ }
theorem zhR:zI D3.P 95 Tryz.f95 1:=bU kw
def Rw(_:zn bf)(a0:Sem zh.sl×zn [CP.d zk,CP.d zo,CP.d zo,CP.d Q6,CP.d Q6,CP.d Q6,CP.d Q6,CP.nil,CP.d zg,CP.nil,CP.nil,CP.d Q5,CP.nil,CP.d zg])(a1:Sem zg×zn ah)(a2:Sem zg):Tr (Empty⊕aw):=Qc (nc a0) (br (a1.1!=0) (re (ai a1.1) (ar ah a1.2)) (br (Q0 (a2<0)) (re (ai 1) (ar ah (a1.2.1,a1.2.2.1,a1.2.2.2.1,a1.t.1,a1.t.2.1,a1.t.q.1,a1.t.q.2.1,a1.t.t.1,a1.t.t.2.1,a2,a1.t.t.q.2))) (re (ai 0) (ar ah (a1.2.1,a1.2.2.1,a1.2.2.2.1,a1.t.1,a1.t.2.1,a1.t.q.1,a1.t.q.2.1,a1.t.t.1,a1.t.t.2.1,a2,a1.t.t.q.2)))))
def Ru(y:zn bf):Tr (Empty⊕aw):=
 let a0:=Oi y
 let a1:=jG a0
 let a2:=gP a1.t.t.t.1 a1.2.2.2.1.2.2.1
 Rw y a0 a1 a2
theorem zgb(y:zn bf):rn D3 1 YI Tryz.f95 [Qf 0 0] (ar bf y)=(Ru y).map (lf Tryz.f95 e0):=kw
def FX(y:zn bf):Option (zy (Qi Q1 [zg])×zn ah):=kE [zg] ah t0 100000000 (Ru y)
def FW(y:zn bf):Bool:=(FX y).isSome
def Ez(y:zn bf):(Sem zg)×zn ah:=(λr:zy (Qi Q1 [zg])×zn ah=>(r.1.1,r.2)) ((FX y).getD (cu [zg],fO ah))
def zdC:zX:=rL bf [] [zg] ah (λy _=>FW y) λy _=>(((Ez y).1,()),(Ez y).2)
theorem ZS:FK 95 zdC:=kd (keep:=YI) (gas:=400) (n:=100000000) (e:=e0) (t:=t0) (i:=λy x=>Ru y) vK zhR (λy x=>zgb y) (T2 _ _ _ _ _) (λ_ _=>by kernel_rfl) (λ_ _=>by kernel_rfl)
abbrev YK:Nat->aM:=λ_=>{ }
theorem zhU:zI D3.P 97 Tryz.f97 1:=bU kw
def Ry(_:zn bf)(a0:Sem zh.sl×zn [CP.d zk,CP.d zo,CP.d zo,CP.d Q6,CP.d Q6,CP.d Q6,CP.d Q6,CP.nil,CP.d zg,CP.nil,CP.nil,CP.d Q5,CP.nil,CP.d zg])(a1:Sem zg×zn ah)(a2:Sem zj)(_:Sem zj)(a4:LC)(a5:Sem zj):Tr (Empty⊕aw):=Qc (nc a0) (br (a1.1!=0) (re (ai a1.1) (ar ah a1.2)) (Qc (zM 1 a1.t.t.2.1.length) (Qc (Q0 (toNat 1<a1.t.t.2.1.length)) (br (a2.2.1!=1) (re (ai 5) (ar ah a1.2)) (Qc (zM 0 a1.t.t.2.1.length) (Qc (Q0 (toNat 0<a1.t.t.2.1.length)) (Qc (zM 1 a4.length) (Qc (Q0 (toNat 1<a4.length)) (re (ai 0) (ar ah (a1.2.1,a1.2.2.1,a1.2.2.2.1,a1.t.1,a1.t.2.1,a1.t.q.1,a1.t.q.2.1,a1.t.t.1,a4.set (toNat 1) (a5.1,a5.2.1,Q4),a1.t.t.q)))))))))))
def Rx(y:zn bf):Tr (Empty⊕aw):=
 let a0:=Oi y
 let a1:=jG a0
 let a2:=a1.t.t.2.1.getD (toNat 1) (zi zj)
 let a3:=a1.t.t.2.1.getD (toNat 0) (zi zj)
 let a4:=a1.t.t.2.1.set (toNat 0) (a3.1,a3.2.1,Q3)
 let a5:=a4.getD (toNat 1) (zi zj)
 Ry y a0 a1 a2 a3 a4 a5
theorem zge(y:zn bf):rn D3 1 YK Tryz.f97 [Qf 0 0] (ar bf y)=(Rx y).map (lf Tryz.f97 e0):=kw
def yg(y:zn bf):Option (zy (Qi Q1 [zg])×zn ah):=kE [zg] ah t0 100000000 (Rx y)
def yf(y:zn bf):Bool:=(yg y).isSome
def vV(y:zn bf):(Sem zg)×zn ah:=(λr:zy (Qi Q1 [zg])×zn ah=>(r.1.1,r.2)) ((yg y).getD (cu [zg],fO ah))
def zdH:zX:=rL bf [] [zg] ah (λy _=>yf y) λy _=>(((vV y).1,()),(vV y).2)
theorem ZX:FK 97 zdH:=kd (keep:=YK) (gas:=400) (n:=100000000) (e:=e0) (t:=t0) (i:=λy x=>Rx y) vK zhU (λy x=>zge y) (T2 _ _ _ _ _) (λ_ _=>by kernel_rfl) (λ_ _=>by kernel_rfl)
def Ia:=D3.addL [(95,zdC),(97,zdH)]
theorem D4:zw Ia:=vK.addL<|fc ZS<|fc ZX jm
abbrev RT:Nat->aM:=λj=>if j=11 then{slots:=[0,83,84,85],prom:=[(0,Q1 60,.int .i64)]}else if j=1000000 then{prom:=[(0,Q1 50,zj),(0,Q1 60,.int .i64)],sett:=[(0,60)]}else{ }
inductive C1 where
 |h11 (l83:LC) (i84:Int) (i85:Int) (z0:zn dF)
abbrev P9:C1->Nat×St
 |.h11 l83 i84 i85 z0=>(11,⟨tm 124 [(0,Qf 0 0),(83,sl zj l83),(84,ai i84),(85,ai i85)],[Qa (bC [1,2] dF z0),AO.vec zj z0.t.t.1,AO.vec zg z0.t.t.q.2.1]⟩)
theorem zhT:zI Ia.P 96 Tryz.f96 1:=bU kw
def Iw(y:zn bf)(a0:Sem zg)(a1:Sem Q5×List (Sem zg)×Sem zg×Unit)(a2:Int)(a3:Int):Tr (C1⊕aw):=br (Q0 (a0<0)) (re (ai 4) (ar ah (y.1,y.2.1,y.2.2.1,y.2.2.2.1,y.t.1,y.t.2.1,y.t.q.1,y.t.q.2.1,[],y.t.t.1,a1))) (br (!jD y.2.2.1.t.1 (a0,y.t.q.1)) (re (ai 10) (ar ah (y.1,y.2.1,y.2.2.1,y.2.2.2.1,y.t.1,y.t.2.1,y.t.q.1,y.t.q.2.1,[],y.t.t.1,a1))) (br (Q0 (a3>8)) (re (ai 13) (ar ah (y.1,y.2.1,y.2.2.1,y.2.2.2.1,y.t.1,y.t.2.1,y.t.q.1,y.t.q.2.1,[],y.t.t.1,a1))) (Qc (Q0 (length y.2.2.1.2.1<=1073741824)) (Q9 (C1.h11 y.2.2.2.1.2.1 a2 0 (y.1,y.2.1,y.2.2.1,y.2.2.2.1,y.t.1,y.t.2.1,y.t.q.1,y.t.q.2.1,y.2.2.1.2.1,y.2.2.1.2.2.1,a1))))))
def FN(y:zn bf):Tr (C1⊕aw):=
 let a0:=zO (y.2.2.1.1,y.2.2.1.2.1,y.2.2.1.2.2.1,y.2.2.1.2.2.2.1,y.2.2.1.t.1,zm y.2.2.1.t.2) y.2.1.t.2.1
 let a1:=(y.t.t.2.1,[],a0,())
 let a2:=(↑(length y.2.2.2.1.2.1):Int)
 let a3:=IntKind.i64.wrap (IntKind.i64.wrap ((↑(length y.2.2.1.2.1):Int)+a2)-1)
 Iw y a0 a1 a2 a3
def CB(l83:LC)(i84:Int)(i85:Int)(z0:zn dF)(a0:LC)(a1:Int):Tr (C1⊕aw):=br (Q0 (i85<i84)) (Qc (zM i85 l83.length) (br (i85 !=z0.2.2.2.1.2.2.1) (Qc (Q0 (z0.t.t.q.2.1.length+[i85].length<=1073741824)) (Qc (Q0 (z0.t.t.1.length+a0.length<=1073741824)) (Q9 (C1.h11 l83 i84 a1 (z0.1,z0.2.1,z0.2.2.1,z0.2.2.2.1,z0.t.1,z0.t.2.1,z0.t.q.1,z0.t.q.2.1,z0.t.t.1++a0,z0.t.t.2.1,z0.t.t.q.1,z0.t.t.q.2.1++[i85],z0.t.t.t))))) (Q9 (C1.h11 l83 i84 a1 z0)))) (re (ai 0) (ar ah z0))
def G2(l83:LC)(i84:Int)(i85:Int)(z0:zn dF):Tr (C1⊕aw):=
 let a0:=[l83.getD i85.toNat (zi zj)]
 let a1:=IntKind.i64.wrap (i85+1)
 CB l83 i84 i85 z0 a0 a1
theorem zgc(y:zn bf):rn Ia 1 RT Tryz.f96 [Qf 0 0] (ar bf y)=(FN y).map (lf Tryz.f96 P9):=kw
def JM:C1->Tr (C1⊕aw)
 |.h11 l83 i84 i85 z0=>G2 l83 i84 i85 z0
theorem ziA:∀s,run Ia 1 RT (Func.results Tryz.f96).toList 400 (ac Tryz.f96 (P9 s).1) (P9 s).2=(JM s).map (lf Tryz.f96 P9)|.h11 l83 i84 i85 z0=>by kernel_rfl
def Be(y:zn bf):Option (zy (Qi Q1 [zg])×zn ah):=kE [zg] ah JM 100000000 (FN y)
def FY(y:zn bf):Bool:=(Be y).isSome
def EA(y:zn bf):(Sem zg)×zn ah:=(λr:zy (Qi Q1 [zg])×zn ah=>(r.1.1,r.2)) ((Be y).getD (cu [zg],fO ah))
def zdE:zX:=rL bf [] [zg] ah (λy _=>FY y) λy _=>(((EA y).1,()),(EA y).2)
theorem ZU:FK 96 zdE:=kd (keep:=RT) (gas:=400) (n:=100000000) (e:=P9) (t:=JM) (i:=λy x=>FN y) D4 zhT (λy x=>zgc y) ziA (λ_ _=>by kernel_rfl) (λ_ _=>by kernel_rfl)
def X7:=Ia.add 96 zdE
theorem D5:zw X7:=D4.add ZU
abbrev mn:AV:=agg [str [],str [],str [],str [],nils,ai 0,nils,nils,str [],ai 0,ai 0,str [],str [],nils,nils,ai 0]
abbrev we(z:zn ah):AV:=agg [str z.t.1,str z.t.2.1,str z.t.q.1,str z.t.q.2.1,AV.vec 0,ai z.t.t.2.1,nils,nils,str (ze.op z.t.t.q.1),ai (ze.v z.t.t.q.1).1,ai (ze.v z.t.t.q.1).2.1,str (ze.v z.t.t.q.1).2.2,str (ze.s z.t.t.q.1),sl Q5 (ze.l z.t.t.q.1),sl zg z.t.t.q.2.1,ai z.t.t.t.1]
abbrev F9(z:zn bf):AV:=agg [str z.t.1,str z.t.2.1,str z.t.q.1,str z.t.q.2.1,nils,ai z.t.t.1,nils,nils,str (ze.op z.t.t.2.1),ai (ze.v z.t.t.2.1).1,ai (ze.v z.t.t.2.1).2.1,str (ze.v z.t.t.2.1).2.2,str (ze.s z.t.t.2.1),sl Q5 (ze.l z.t.t.2.1),nils,ai z.t.t.q.1]
def It(_:Sem zh.sl)(x1:Sem zk)(_:ze)(_:Sem Q6×Sem (Sh.str.pr (Sh.str.pr (Sh.str.sl.pr (zj.sl.pr (Sh.str.pr (Sh.str.sl.pr (iD.sl.pr (Sh.expr.pr (zf.sl.pr (gU.sl.pr (Sh.expr.pr Q6))))))))))))(_:Bool)(a3:Bool)(a4:Bool)(a5:Bool)(_:Sem zh.sl×zn [CP.d zk,CP.d zo,CP.d zo,CP.d Q6,CP.d Q6,CP.d Q6,CP.d Q6,CP.nil,CP.d zg,CP.nil,CP.nil,CP.d Q5,CP.nil,CP.d zg])(a7:Bool)(a8:Sem zg×zn bf)(a9:Bool)(a10:Sem zh.sl×zn [CP.d zk,CP.d zo,CP.d zo,CP.d Q6,CP.d Q6,CP.d Q6,CP.d Q6,CP.nil,CP.d zg,CP.nil,CP.nil,CP.d Q5,CP.nil,CP.d zg])(a11:Sem zg×zn ah)(a12:Sem zh.sl×zn [CP.d zk,CP.d zo,CP.d zo,CP.d Q6,CP.d Q6,CP.d Q6,CP.d Q6,CP.vec zj,CP.d zg,CP.nil,CP.nil,CP.d Q5,CP.d zg.sl,CP.d zg])(a13:Sem zg×zn ah)(a14:Sem zg×zn ah)(a15:Sem zh.sl×zn [CP.d zk,CP.d zo,CP.d zo,CP.d Q6,CP.d Q6,CP.d Q6,CP.d Q6,CP.vec zj,CP.d zg,CP.nil,CP.nil,CP.d Q5,CP.d zg.sl,CP.d zg])(a16:Sem zg×zn ah)(a17:Sem zg×zn ah)(a18:Sem zh.sl×zn [CP.d zk,CP.d zo,CP.d zo,CP.d Q6,CP.d Q6,CP.d Q6,CP.d Q6,CP.vec zj,CP.d zg,CP.nil,CP.nil,CP.d Q5,CP.d zg.sl,CP.d zg])(a19:Sem zg×zn ah):Tr (Empty⊕aw):=
 Qc Q3 (Qc Q3 (Qc Q3 (br (x1.1==[99,111,112,121]) (Qc a3 (br a4 (re (Qe [mn,ai 1]) []) (Qc a5 (Qc a7 (br a9 (Qc (FW a10) (br (a11.1==0) (Qc (gm a12) (br (a13.1!=0) (re (Qe [mn,ai a13.1]) []) (re (Qe [(we a13.2),ai 0]) [AO.vec zj a13.t.t.2.1]))) (br (a11.1!=0) (re (Qe [mn,ai a11.1]) []) (re (Qe [(we a11.2),ai 0]) [AO.vec zj a11.t.t.2.1])))) (br a9 Tr.err (br (a8.1!=0) (re (Qe [mn,ai a8.1]) []) (re (Qe [(F9 a8.2),ai 0]) [])))))))) (br (x1.1==[106,111,105,110]) (Qc a3 (br a4 (re (Qe [mn,ai 1]) []) (Qc a5 (Qc a7 (br a9 (Qc (FY a10) (br (a14.1==0) (Qc (gm a15) (br (a16.1!=0) (re (Qe [mn,ai a16.1]) []) (re (Qe [(we a16.2),ai 0]) [AO.vec zj a16.t.t.2.1]))) (br (a14.1!=0) (re (Qe [mn,ai a14.1]) []) (re (Qe [(we a14.2),ai 0]) [AO.vec zj a14.t.t.2.1])))) (br a9 Tr.err (br (a8.1!=0) (re (Qe [mn,ai a8.1]) []) (re (Qe [(F9 a8.2),ai 0]) [])))))))) (br (x1.1==[103,114,111,117,112]) (Qc a3 (br a4 (re (Qe [mn,ai 1]) []) (Qc a5 (Qc a7 (br a9 (Qc (yf a10) (br (a17.1==0) (Qc (gm a18) (br (a19.1!=0) (re (Qe [mn,ai a19.1]) []) (re (Qe [(we a19.2),ai 0]) [AO.vec zj a19.t.t.2.1]))) (br (a17.1!=0) (re (Qe [mn,ai a17.1])
 []) (re (Qe [(we a17.2),ai 0]) [AO.vec zj a17.t.t.2.1])))) (br a9 Tr.err (br (a8.1!=0) (re (Qe [mn,ai a8.1]) []) (re (Qe [(F9 a8.2),ai 0]) [])))))))) (re (Qe [mn,ai 1]) []))))))
def zbz(x0:Sem zh.sl)(x1:Sem zk):Tr (Empty⊕aw):=
 let a0:=zm x1.t.t.1
 let a1:=(x1.1,x1.2.1,x1.2.2.1,x1.2.2.2.1,x1.t.1,x1.t.2.1,x1.t.q.1,x1.t.q.2.1,a0,x1.t.t.2.1,x1.t.t.q.1,zm x1.t.t.q.2.1,x1.t.t.t)
 let a2:=!dV a1
 let a3:=nF a1&&bif a2 then Q3 else mR x0
 let a4:=bif a2 then Q3 else ki x0 !=0
 let a5:=qR 16 a0
 let a6:=(x0,a1,([],[],0,[],[],ze.mk [] (0,0,[]) [] []),([],[],0,[],[],ze.mk [] (0,0,[]) [] []),x1.1,x1.2.2.1,x1.t.t.t,x1.2.1,0,a0,0,())
 let a7:=mj a6
 let a8:=mi a6
 let a9:=a8.1==0
 let a10:=Oi a8.2
 let a11:=Ez a10
 let a12:=Mp a11.2
 let a13:=fe a12
 let a14:=EA a10
 let a15:=Mp a14.2
 let a16:=fe a15
 let a17:=vV a10
 let a18:=Mp a17.2
 let a19:=fe a18
 It x0 x1 a0 a1 a2 a3 a4 a5 a6 a7 a8 a9 a10 a11 a12 a13 a14 a15 a16 a17 a18 a19
def IX(x0:Sem zh.sl)(x1:Sem zk):=al [zz,zg] t0 100000000 (zbz x0 x1)
def zcw(x0:Sem zh.sl)(x1:Sem zk):=(IX x0 x1).isSome
def pOf(x0:Sem zh.sl)(x1:Sem zk):=o2 (IX x0 x1)
def zc6:=FT [zh.sl,zk] [zz,zg] λx=>IX x.1 x.2.1
theorem Zk:FK 58 zc6:=D5.T1 (f:=Tryz.f58) (keep:=k0) (e:=e0)
def Ml:=X7.add 58 zc6
theorem mb:zw Ml:=D5.add Zk
abbrev aG:List CP:=[.d (.sl zr),.d zg,.d .bool]
def Ys(x0:Sem (Sh.int IntKind.u8)):Tr (Empty⊕aw):=
 let a0:=bif Q0 (97<=x0)then Q0 (x0<=122)else Q4
 re (AV.bool (bif Q0 (65<=x0)then bif Q0 (x0<=90)then Q3 else a0 else a0)) []
def mz(x0:Sem (Sh.int IntKind.u8)):=al [Q7] t0 100000000 (Ys x0)
def j9(x0:Sem (Sh.int IntKind.u8)):=(mz x0).isSome
def my(x0:Sem (Sh.int IntKind.u8)):=o1 (mz x0)
def Xm:=FT [Sh.int IntKind.u8] [Q7] λx=>mz x.1
theorem Ux:FK 123 Xm:=mb.T1 (f:=Tryz.f123) (keep:=k0) (e:=e0)
def zgx(x0:Sem (Sh.int IntKind.u8)):Tr (Empty⊕aw):=
 re (AV.bool (bif Q0 (48<=x0)then Q0 (x0<=57)else Q4)) []
def ug(x0:Sem (Sh.int IntKind.u8)):=al [Q7] t0 100000000 (zgx x0)
def fx(x0:Sem (Sh.int IntKind.u8)):=(ug x0).isSome
def gA(x0:Sem (Sh.int IntKind.u8)):=o1 (ug x0)
def Xo:=FT [Sh.int IntKind.u8] [Q7] λx=>ug x.1
theorem Uz:FK 125 Xo:=mb.T1 (f:=Tryz.f125) (keep:=k0) (e:=e0)
abbrev zht:=mM [(2,[0,1,5])]
inductive NI where
 |h2 (l0:LS) (s1:TS) (i5:Int)
abbrev zjZ:NI->Nat×St
 |.h2 l0 s1 i5=>(2,⟨tm 18 [(0,sl Q6 l0),(1,str s1),(5,ai i5)],[]⟩)
def zk7(x0:Sem Sh.str.sl)(x1:TS):Tr (NI⊕aw):=
 Q9 (NI.h2 x0 x1 0)
def LJ:NI->Tr (NI⊕aw)
 | .h2 l0 s1 i5=>
  br (Q0 (i5<(↑l0.length:Int)))
  (Qc (zM i5 l0.length) (br (l0.getD i5.toNat (zi Q6)==s1) (re (kb Q3) []) (Q9 (NI.h2 l0 s1 (IntKind.i64.wrap (i5+1))))))
  (re (kb Q4) [])
def Nb(x0:Sem Sh.str.sl)(x1:TS):=al [Q7] LJ 100000000 (zk7 x0 x1)
def xt(x0:Sem Sh.str.sl)(x1:TS):=(Nb x0 x1).isSome
def Jr(x0:Sem Sh.str.sl)(x1:TS):=o1 (Nb x0 x1)
def zej:=FT [Sh.str.sl,Q6] [Q7] λx=>Nb x.1 x.2.1
theorem zaC:FK 78 zej:=mb.T1 (f:=Tryz.f78) (keep:=zht) (e:=zjZ)
abbrev RN:Nat->aM:=λ_=>{ }
theorem zch:zI Ml.P 88 Tryz.f88 2:=bU kw
def Rm(y:zn aG)(x0:TS):Tr (Empty⊕aw):=
 let a0:=Q0 (y.2.1<(↑(length y.1):Int))
 let a1:=zM y.2.1 (length y.1)
 let a2:=getD y.1 (toNat y.2.1) (zi zr)
 let a3:=a2.1==1
 let a4:=a2.1==4
 let a5:=a2.2==x0
 Qc (bif a0 then a1&&bif a3 then a1 else a1&&bif a4 then a1 else Q3 else Q3)
 (re (AV.bool (bif a0 then bif a3 then a5 else bif a4 then a5 else Q4 else Q4)) (ar aG y))
theorem zbi(y:zn aG)(x0:TS):rn Ml 1 RN Tryz.f88 [Qf 0 0,zE Q6 x0] (ar aG y)=(Rm y x0).map (lf Tryz.f88 e0):=kw
def Tn(y:zn aG)(x0:TS):Option (zy (Qi Q1 [Q7])×zn aG):=kE [Q7] aG t0 100000000 (Rm y x0)
def GJ(y:zn aG)(x0:TS):Bool:=(Tn y x0).isSome
def Ju(y:zn aG)(x0:TS):(Sem Q7)×zn aG:=(λr:zy (Qi Q1 [Q7])×zn aG=>(r.1.1,r.2)) ((Tn y x0).getD (cu [Q7],fO aG))
def W6:zX:=rL aG [Q6] [Q7] aG (λy x=>GJ y x.1) λy x=>(((Ju y x.1).1,()),(Ju y x.1).2)
theorem Uh:FK 88 W6:=kd (ps:=aG) (ks:=[Q6]) (outs:=[Q7]) (keep:=RN) (gas:=400) (n:=100000000) (e:=e0) (t:=t0) (i:=λy x=>Rm y x.1) mb zch (λy x=>zbi y x.1) (T2 _ _ _ _ _) (λ_ _=>by kernel_rfl) (λ_ _=>by kernel_rfl)
def oI:=Ml.addL [(123,Xm),(125,Xo),(78,zej),(88,W6)]
theorem iN:zw oI:=mb.addL<|fc Ux<|fc Uz<|fc zaC<|fc Uh jm
abbrev zbR:=mM [(2,[1,3])]
inductive yU where
 |h2 (i3:Int) (z0:zn [CP.d zf])
abbrev zfP:yU->Nat×St
 |.h2 i3 z0=>(2,⟨tm 66 [(1,Qf 0 0),(3,ai i3)],[Qa (bC [] [CP.d zf] z0)]⟩)
def Yn(x0:Sem zf):Tr (yU⊕aw):=
 Q9 (yU.h2 0 (x0,()))
def xx:yU->Tr (yU⊕aw)
 | .h2 i3 z0=>
  let a0:=(↑(length z0.1.2.2):Int)
  let a1:=zM i3 (length z0.1.2.2)
  let a2:=(↑(getD z0.1.2.2 i3.toNat 0).toNat:Int)
  let a3:=Q0 (a2<32)
  let a4:=z0.1.2.1==0
  let a5:=z0.1.2.2==[]
  br (Q0 (i3<a0))
  (Qc (a1&&bif a3 then Q3 else a1)
   (br (bif a3 then Q3 else Q0 (a2>126)) (re (kb Q4) []) (Q9 (yU.h2 (IntKind.i64.wrap (i3+1)) z0))))
  (br (z0.1.1==0) (re (AV.bool (bif a4 then a5 else Q4)) [])
   (br (z0.1.1==1) (re (AV.bool a5) []) (br (z0.1.1==2) (re (AV.bool (bif a4 then Q0 (a0<=40)else Q4)) []) (br (z0.1.1==3) (re (AV.bool (bif a4 then a5 else bif z0.1.2.1==1 then a5 else Q4)) []) (re (kb Q4) [])))))
def Ge(x0:Sem zf):=al [Q7] xx 100000000 (Yn x0)
def lO(x0:Sem zf):=(Ge x0).isSome
def ry(x0:Sem zf):=o1 (Ge x0)
def WU:=FT [zf] [Q7] λx=>Ge x.1
theorem T7:FK 21 WU:=iN.T1 (f:=Tryz.f21) (keep:=zbR) (e:=zfP)
def zgy(x0:Sem Q7):Tr (Empty⊕aw):=
 br x0 (re (agg [ai 3,ai 1,str []]) []) (re (agg [ai 3,ai 0,str []]) [])
def tX(x0:Sem Q7):=al [zf] t0 100000000 (zgy x0)
def kI(x0:Sem Q7):=(tX x0).isSome
def aU(x0:Sem Q7):=o1 (tX x0)
def Xs:=FT [Q7] [zf] λx=>tX x.1
theorem UD:FK 210 Xs:=iN.T1 (f:=Tryz.f210) (keep:=k0) (e:=e0)
abbrev RR:Nat->aM:=λ_=>{ }
theorem zcm:zI oI.P 175 Tryz.f175 1:=bU kw
def Rr(x0:TS):Tr (Empty⊕aw):=
 re
 (AV.bool
  (bif x0==[97,110,100]then Q3
  else bif x0==[111,114]then Q3 else bif x0==[61]then Q3 else bif x0==[60]then Q3 else bif x0==[43]then Q3 else x0==[45]))
 []
theorem zbs(x0:TS):rn oI 0 RR Tryz.f175 [zE Q6 x0] []=(Rr x0).map (lf Tryz.f175 e0):=kw
def Lf(x0:TS):Option (zy (Qi Q1 [Q7])):=al [Q7] t0 100000000 (Rr x0)
def Gm(x0:TS):Bool:=(Lf x0).isSome
def M7(x0:TS):Sem Q7:=(λr:zy (Qi Q1 [Q7])=>r.1) ((Lf x0).getD (cu [Q7]))
def XG:zX:=zP [Q6] [Q7] (λx=>Gm x.1) λx=>(M7 x.1,())
theorem UQ:FK 175 XG:=lG (ks:=[Q6]) (outs:=[Q7]) (keep:=RR) (gas:=400) (n:=100000000) (e:=e0) (t:=t0) (i:=λx=>Rr x.1) iN zcm (λx=>zbs x.1) (T2 _ _ _ _ _) (λ_=>by kernel_rfl) (λ_=>by kernel_rfl)
abbrev RW:Nat->aM:=λj=>if j=2 then{slots:=[0,1,5]}else{ }
inductive Hv where
 |h2 (l0:LC) (s1:TS) (i5:Int)
abbrev Ql:Hv->Nat×St
 |.h2 l0 s1 i5=>(2,⟨tm 20 [(0,sl zj l0),(1,str s1),(5,ai i5)],[]⟩)
theorem zh3:zI oI.P 48 Tryz.f48 2:=bU kw
def VK(x0:Sem zj.sl)(x1:TS):Tr (Hv⊕aw):=
 Q9 (Hv.h2 x0 x1 0)
def G6(l0:LC)(s1:TS)(i5:Int)(a0:Sem zj):Tr (Hv⊕aw):=
 br (Q0 (i5<(↑l0.length:Int)))
 (Qc (zM i5 l0.length) (br (a0.1==s1) (re (ai i5) []) (Q9 (Hv.h2 l0 s1 (IntKind.i64.wrap (i5+1))))))
 (re (ai (-1)) [])
def LG(l0:LC)(s1:TS)(i5:Int):Tr (Hv⊕aw):=
 let a0:=l0.getD i5.toNat (zi zj)
 G6 l0 s1 i5 a0
theorem zgh(x0:Sem zj.sl)(x1:TS):rn oI 0 RW Tryz.f48 [zE zj.sl x0,zE Q6 x1] []=(VK x0 x1).map (lf Tryz.f48 Ql):=kw
def LD:Hv->Tr (Hv⊕aw)
 |.h2 l0 s1 i5=>LG l0 s1 i5
theorem ziF:∀s,run oI 0 RW (Func.results Tryz.f48).toList 400 (ac Tryz.f48 (Ql s).1) (Ql s).2=(LD s).map (lf Tryz.f48 Ql)
 |.h2 l0 s1 i5=>by kernel_rfl
def BN(x0:Sem zj.sl)(x1:TS):Option (zy (Qi Q1 [zg])):=al [zg] LD 100000000 (VK x0 x1)
def du(x0:Sem zj.sl)(x1:TS):Bool:=(BN x0 x1).isSome
def eB(x0:Sem zj.sl)(x1:TS):Sem zg:=(λr:zy (Qi Q1 [zg])=>r.1) ((BN x0 x1).getD (cu [zg]))
def zdP:zX:=zP [zj.sl,Q6] [zg] (λx=>du x.1 x.2.1) λx=>(eB x.1 x.2.1,())
theorem Z5:FK 48 zdP:=lG (ks:=[zj.sl,Q6]) (outs:=[zg]) (keep:=RW) (gas:=400) (n:=100000000) (e:=Ql) (t:=LD) (i:=λx=>VK x.1 x.2.1) iN zh3 (λx=>zgh x.1 x.2.1) ziF (λ_=>by kernel_rfl) (λ_=>by kernel_rfl)
def HZ(g:Sem Q5->Sem Q5->Sem Q7)(c:Sem Q5->Sem Q5->Bool):bX:=oI.add 122 (zP [Q5,Q5] [Q7] (λx=>c x.1 x.2.1) λx=>(g x.1 x.2.1,()))
theorem N8{g:Sem Q5->Sem Q5->Sem Q7}{c:Sem Q5->Sem Q5->Bool}(hg:FK 122 (zP [Q5,Q5] [Q7] (λx=>c x.1 x.2.1) λx=>(g x.1 x.2.1,()))):zw (HZ g c):=iN.add hg
abbrev RZ:Nat->aM:=λj=>if j=4 then{slots:=[2,3,5]}else{ }
inductive Hz where
 |h4 (i5:Int) (z0:zn [CP.d Q5]) (z1:zn [CP.d Q5])
abbrev Qo:Hz->Nat×St
 |.h4 i5 z0 z1=>(4,⟨tm 53 [(2,Qf 0 0),(3,Qf 1 0),(5,ai i5)],[Qa (bC [] [CP.d Q5] z0),Qa (bC [] [CP.d Q5] z1)]⟩)
theorem ziq(g:Sem Q5->Sem Q5->Sem Q7)(c:Sem Q5->Sem Q5->Bool):zI (HZ g c).P 122 Tryz.f122 2:=bU kw
def A5(_:Sem Q5->Sem Q5->Sem Q7)(_:Sem Q5->Sem Q5->Bool)(x0:Sem Q5)(x1:Sem Q5):Tr (Hz⊕aw):=
 br
 (bif !ze.op x0==ze.op x1 then Q3
 else
  bif !((ze.v x0).1==(ze.v x1).1&&((ze.v x0).2.1==(ze.v x1).2.1&&((ze.v x0).2.2==(ze.v x1).2.2&&Q3)))then Q3
  else bif !ze.s x0==ze.s x1 then Q3 else(↑(ze.l x0).length:Int)!=(↑(ze.l x1).length:Int))
 (re (kb Q4) []) (Q9 (Hz.h4 0 (x0,()) (x1,())))
def yP(g:Sem Q5->Sem Q5->Sem Q7)(c:Sem Q5->Sem Q5->Bool)(i5:Int)(z0:zn [CP.d Q5])(z1:zn [CP.d Q5])(a0:Int)(a1:ze)(a2:ze):Tr (Hz⊕aw):=
 br (Q0 (i5<a0))
 (Qc (zM i5 (ze.l z0.1).length)
  (Qc (zM i5 (ze.l z1.1).length) (Qc (c a1 a2) (br (!g a1 a2) (re (kb Q4) []) (Q9 (Hz.h4 (IntKind.i64.wrap (i5+1)) z0 z1))))))
 (re (kb Q3) [])
def Hb(g:Sem Q5->Sem Q5->Sem Q7)(c:Sem Q5->Sem Q5->Bool)(i5:Int)(z0:zn [CP.d Q5])(z1:zn [CP.d Q5]):Tr (Hz⊕aw):=
 let a0:=(↑(ze.l z0.1).length:Int)
 let a1:=zm ((ze.l z0.1).getD i5.toNat (zi Q5))
 let a2:=zm ((ze.l z1.1).getD i5.toNat (zi Q5))
 yP g c i5 z0 z1 a0 a1 a2
theorem zgs(g:Sem Q5->Sem Q5->Sem Q7)(c:Sem Q5->Sem Q5->Bool)(x0:Sem Q5)(x1:Sem Q5):rn (HZ g c) 0 RZ Tryz.f122 [zE Q5 x0,zE Q5 x1] []=(A5 g c x0 x1).map (lf Tryz.f122 Qo):=kw
def Ha(g:Sem Q5->Sem Q5->Sem Q7)(c:Sem Q5->Sem Q5->Bool):Hz->Tr (Hz⊕aw)
 |.h4 i5 z0 z1=>Hb g c i5 z0 z1
theorem ziM(g:Sem Q5->Sem Q5->Sem Q7)(c:Sem Q5->Sem Q5->Bool):∀s,run (HZ g c) 0 RZ (Func.results Tryz.f122).toList 400 (ac Tryz.f122 (Qo s).1) (Qo s).2=(Ha g c s).map (lf Tryz.f122 Qo)
 |.h4 i5 z0 z1=>by kernel_rfl
def gz(o:Option (zy (Qi Q1 [Q7]))):Sem Q7:=(λr:zy (Qi Q1 [Q7])=>r.1) (o.getD (cu [Q7]))
def Gh(g:Sem Q5->Sem Q5->Sem Q7)(c:Sem Q5->Sem Q5->Bool)(x0:Sem Q5)(x1:Sem Q5):Option (zy (Qi Q1 [Q7])):=al [Q7] (Ha g c) 3000000000 (A5 g c x0 x1)
def bL:Nat->Sem Q5->Sem Q5->Option (zy (Qi Q1 [Q7]))
 |0=>λ_ _=>Q2
 |n+1=>Gh (λx0 x1=>gz (bL n x0 x1)) λx0 x1=>(bL n x0 x1).isSome
theorem zbO:zI oI.P 122 Tryz.f122 2:=bU kw
theorem L0:∀n,FK 122 (zP [Q5,Q5] [Q7] (λx=>(bL n x.1 x.2.1).isSome) λx=>(gz (bL n x.1 x.2.1),()))
 |0=>fj ⟨Tryz.f122,zbO.1,zbO.2.1,zbO.2.2.1⟩ (λ_=>rfl)
 |n+1=>lG (E:=HZ (λx0 x1=>gz (bL n x0 x1)) (λx0 x1=>(bL n x0 x1).isSome)) (ks:=[Q5,Q5]) (outs:=[Q7]) (keep:=RZ) (gas:=400) (n:=3000000000) (e:=Qo) (t:=Ha (λx0 x1=>gz (bL n x0 x1)) (λx0 x1=>(bL n x0 x1).isSome)) (i:=λx=>A5 (λx0 x1=>gz (bL n x0 x1)) (λx0 x1=>(bL n x0 x1).isSome) x.1 x.2.1) (N8 (L0 n)) (ziq _ _) (λx=>zgs _ _ x.1 x.2.1) (ziM _ _) (λ_=>by kernel_rfl) (λ_=>by kernel_rfl)
def yp(x0:Sem Q5)(x1:Sem Q5):Option (zy (Qi Q1 [Q7])):=bL 16 x0 x1
def gy(x0:Sem Q5)(x1:Sem Q5):Bool:=(yp x0 x1).isSome
def eT(x0:Sem Q5)(x1:Sem Q5):Sem Q7:=gz (yp x0 x1)
def zee:zX:=zP [Q5,Q5] [Q7] (λx=>gy x.1 x.2.1) λx=>(eT x.1 x.2.1,())
theorem zax:FK 122 zee:=L0 16
def Ay(g:Sem Q5->Sem zg)(c:Sem Q5->Bool):bX:=oI.add 133 (zP [Q5] [zg] (λx=>c x.1) λx=>(g x.1,()))
theorem Km{g:Sem Q5->Sem zg}{c:Sem Q5->Bool}(hg:FK 133 (zP [Q5] [zg] (λx=>c x.1) λx=>(g x.1,()))):zw (Ay g c):=iN.add hg
abbrev KO:Nat->aM:=λj=>if j=3 then{slots:=[1,3,4]}else{ }
inductive sJ where
 |h3 (i3:Int) (i4:Int) (z0:zn [CP.d Q5])
abbrev HU:sJ->Nat×St
 |.h3 i3 i4 z0=>(3,⟨tm 21 [(1,Qf 0 0),(3,ai i3),(4,ai i4)],[Qa (bC [] [CP.d Q5] z0)]⟩)
theorem zcl(g:Sem Q5->Sem zg)(c:Sem Q5->Bool):zI (Ay g c).P 133 Tryz.f133 1:=bU kw
def Mu(_:Sem Q5->Sem zg)(_:Sem Q5->Bool)(x0:Sem Q5):Tr (sJ⊕aw):=
 Q9 (sJ.h3 1 0 (x0,()))
def Cz(g:Sem Q5->Sem zg)(c:Sem Q5->Bool)(i3:Int)(i4:Int)(z0:zn [CP.d Q5])(a0:Int)(a1:ze):Tr (sJ⊕aw):=
 br (Q0 (i4<a0))
 (Qc (zM i4 (ze.l z0.1).length) (Qc (c a1) (Q9 (sJ.h3 (IntKind.i64.wrap (i3+g a1)) (IntKind.i64.wrap (i4+1)) z0))))
 (re (ai i3) [])
def G1(g:Sem Q5->Sem zg)(c:Sem Q5->Bool)(i3:Int)(i4:Int)(z0:zn [CP.d Q5]):Tr (sJ⊕aw):=
 let a0:=(↑(ze.l z0.1).length:Int)
 let a1:=zm ((ze.l z0.1).getD i4.toNat (zi Q5))
 Cz g c i3 i4 z0 a0 a1
theorem zbp(g:Sem Q5->Sem zg)(c:Sem Q5->Bool)(x0:Sem Q5):rn (Ay g c) 0 KO Tryz.f133 [zE Q5 x0] []=(Mu g c x0).map (lf Tryz.f133 HU):=kw
def Cy(g:Sem Q5->Sem zg)(c:Sem Q5->Bool):sJ->Tr (sJ⊕aw)
 |.h3 i3 i4 z0=>G1 g c i3 i4 z0
theorem zcr(g:Sem Q5->Sem zg)(c:Sem Q5->Bool):∀s,run (Ay g c) 0 KO (Func.results Tryz.f133).toList 400 (ac Tryz.f133 (HU s).1) (HU s).2=(Cy g c s).map (lf Tryz.f133 HU)
 |.h3 i3 i4 z0=>by kernel_rfl
def im(o:Option (zy (Qi Q1 [zg]))):Sem zg:=(λr:zy (Qi Q1 [zg])=>r.1) (o.getD (cu [zg]))
def Jf(g:Sem Q5->Sem zg)(c:Sem Q5->Bool)(x0:Sem Q5):Option (zy (Qi Q1 [zg])):=al [zg] (Cy g c) 100000000 (Mu g c x0)
def cn:Nat->Sem Q5->Option (zy (Qi Q1 [zg]))
 |0=>λ_=>Q2
 |n+1=>Jf (λx0=>im (cn n x0)) λx0=>(cn n x0).isSome
theorem RI:zI oI.P 133 Tryz.f133 1:=bU kw
theorem Hq:∀n,FK 133 (zP [Q5] [zg] (λx=>(cn n x.1).isSome) λx=>(im (cn n x.1),()))
 |0=>fj ⟨Tryz.f133,RI.1,RI.2.1,RI.2.2.1⟩ (λ_=>rfl)
 |n+1=>lG (E:=Ay (λx0=>im (cn n x0)) (λx0=>(cn n x0).isSome)) (ks:=[Q5]) (outs:=[zg]) (keep:=KO) (gas:=400) (n:=100000000) (e:=HU) (t:=Cy (λx0=>im (cn n x0)) (λx0=>(cn n x0).isSome)) (i:=λx=>Mu (λx0=>im (cn n x0)) (λx0=>(cn n x0).isSome) x.1) (Km (Hq n)) (zcl _ _) (λx=>zbp _ _ x.1) (zcr _ _) (λ_=>by kernel_rfl) (λ_=>by kernel_rfl)
def BM(x0:Sem Q5):Option (zy (Qi Q1 [zg])):=cn 16 x0
def t7(x0:Sem Q5):Bool:=(BM x0).isSome
def yu(x0:Sem Q5):Sem zg:=im (BM x0)
def Xr:zX:=zP [Q5] [zg] (λx=>t7 x.1) λx=>(yu x.1,())
theorem UC:FK 133 Xr:=Hq 16
def Fx:=oI.addL [(21,WU),(210,Xs),(175,XG),(48,zdP),(122,zee),(133,Xr)]
theorem kq:zw Fx:=iN.addL<|fc T7<|fc UD<|fc UQ<|fc Z5<|fc zax<|fc UC jm
def Yt(x0:Sem (Sh.int IntKind.u8)):Tr (Empty⊕aw):=
 Qc (fx x0&&bif gA x0 then Q3 else j9 x0) (re (AV.bool (bif gA x0 then Q3 else bif my x0 then Q3 else x0==95)) [])
def uh(x0:Sem (Sh.int IntKind.u8)):=al [Q7] t0 100000000 (Yt x0)
def qw(x0:Sem (Sh.int IntKind.u8)):=(uh x0).isSome
def wn(x0:Sem (Sh.int IntKind.u8)):=o1 (uh x0)
def Xn:=FT [Sh.int IntKind.u8] [Q7] λx=>uh x.1
theorem Uy:FK 124 Xn:=kq.T1 (f:=Tryz.f124) (keep:=k0) (e:=e0)
abbrev zb0:=mM [(3,[0,3,4])]
inductive Ds where
 |h3 (s0:TS) (l3:LS) (i4:Int)
abbrev zfW:Ds->Nat×St
 |.h3 s0 l3 i4=>(3,⟨tm 18 [(0,str s0),(3,sl Q6 l3),(4,ai i4)],[]⟩)
def Rp(x0:TS):Tr (Ds⊕aw):=
 Q9
 (Ds.h3 x0
  [[65,78,68],[79,82],[78,79,84],[73,83],[78,85,76,76],[84,82,85,69],[70,65,76,83,69],[67,82,69,65,84,69],[84,65,66,76,69],[75,69,89],[85,78,73,81,85,69],[82,69,70,69,82,69,78,67,69,83],[67,72,69,67,75],[68,82,79,80],[73,78,83,69,82,84],
  [73,78,84,79],[86,65,76,85,69,83],[85,80,68,65,84,69],[83,69,84],[87,72,69,82,69],[68,69,76,69,84,69],[70,82,79,77],[83,69,76,69,67,84],[71,82,65,78,84],[82,69,86,79,75,69],[82,69,65,68],[87,82,73,84,69],[79,78],[84,79],
  [77,73,71,82,65,84,69],[67,79,80,89],[74,79,73,78],[71,82,79,85,80],[66,89],[83,85,77],[73,78,84],[84,69,88,84],[66,79,79,76]]
  0)
def Cw:Ds->Tr (Ds⊕aw)
 | .h3 s0 l3 i4=>
  br (Q0 (i4<(↑l3.length:Int)))
  (Qc (zM i4 l3.length) (br (l3.getD i4.toNat (zi Q6)==s0) (re (kb Q3) []) (Q9 (Ds.h3 s0 l3 (IntKind.i64.wrap (i4+1))))))
  (re (kb Q4) [])
def GD(x0:TS):=al [Q7] Cw 100000000 (Rp x0)
def BZ(x0:TS):=(GD x0).isSome
def Jo(x0:TS):=o1 (GD x0)
def Xl:=FT [Q6] [Q7] λx=>GD x.1
theorem Uw:FK 121 Xl:=kq.T1 (f:=Tryz.f121) (keep:=zb0) (e:=zfW)
abbrev RJ:Nat->aM:=λ_=>{ }
theorem zcd:zI Fx.P 81 Tryz.f81 2:=bU kw
def Ri(y:zn aG)(x0:TS):Tr (Empty⊕aw):=
 let a0:=(y.1,y.2.1,y.2.2.1,())
 let a1:=Ju a0 x0
 Qc (GJ a0 x0)
 (br a1.1 (re (kb Q3) (ar aG (a1.2.1,IntKind.i64.wrap (a1.2.2.1+1),a1.2.2.2)))
  (re (kb Q4) (ar aG a1.2)))
theorem zbe(y:zn aG)(x0:TS):rn Fx 1 RJ Tryz.f81 [Qf 0 0,zE Q6 x0] (ar aG y)=(Ri y x0).map (lf Tryz.f81 e0):=kw
def Ng(y:zn aG)(x0:TS):Option (zy (Qi Q1 [Q7])×zn aG):=kE [Q7] aG t0 100000000 (Ri y x0)
def dJ(y:zn aG)(x0:TS):Bool:=(Ng y x0).isSome
def eV(y:zn aG)(x0:TS):(Sem Q7)×zn aG:=(λr:zy (Qi Q1 [Q7])×zn aG=>(r.1.1,r.2)) ((Ng y x0).getD (cu [Q7],fO aG))
def WY:zX:=rL aG [Q6] [Q7] aG (λy x=>dJ y x.1) λy x=>(((eV y x.1).1,()),(eV y x.1).2)
theorem Ub:FK 81 WY:=kd (ps:=aG) (ks:=[Q6]) (outs:=[Q7]) (keep:=RJ) (gas:=400) (n:=100000000) (e:=e0) (t:=t0) (i:=λy x=>Ri y x.1) kq zcd (λy x=>zbe y x.1) (T2 _ _ _ _ _) (λ_ _=>by kernel_rfl) (λ_ _=>by kernel_rfl)
abbrev zhr:=mM [(6,[2,3,5]),(11,[2,3,6]),(16,[2,3,7]),(21,[2,3,8]),(26,[2,3,9]),(31,[2,3,10])]
inductive qN where
 |h6 (i5:Int) (z0:zn om) (z1:zn om)
 |h11 (i6:Int) (z0:zn om) (z1:zn om)
 |h16 (i7:Int) (z0:zn om) (z1:zn om)
 |h21 (i8:Int) (z0:zn om) (z1:zn om)
 |h26 (i9:Int) (z0:zn om) (z1:zn om)
 |h31 (i10:Int) (z0:zn om) (z1:zn om)
abbrev zjX:qN->Nat×St
 |.h6 i5 z0 z1=>(6,⟨tm 238 [(2,Qf 0 0),(3,Qf 1 0),(5,ai i5)],[Qa (bC [] om z0),Qa (bC [] om z1)]⟩)
 |.h11 i6 z0 z1=>(11,⟨tm 238 [(2,Qf 0 0),(3,Qf 1 0),(6,ai i6)],[Qa (bC [] om z0),Qa (bC [] om z1)]⟩)
 |.h16 i7 z0 z1=>(16,⟨tm 238 [(2,Qf 0 0),(3,Qf 1 0),(7,ai i7)],[Qa (bC [] om z0),Qa (bC [] om z1)]⟩)
 |.h21 i8 z0 z1=>(21,⟨tm 238 [(2,Qf 0 0),(3,Qf 1 0),(8,ai i8)],[Qa (bC [] om z0),Qa (bC [] om z1)]⟩)
 |.h26 i9 z0 z1=>(26,⟨tm 238 [(2,Qf 0 0),(3,Qf 1 0),(9,ai i9)],[Qa (bC [] om z0),Qa (bC [] om z1)]⟩)
 |.h31 i10 z0 z1=>(31,⟨tm 238 [(2,Qf 0 0),(3,Qf 1 0),(10,ai i10)],[Qa (bC [] om z0),Qa (bC [] om z1)]⟩)
def VP(x0:Sem zk)(x1:Sem zk):Tr (qN⊕aw):=
 let a0:=!x0.1==x1.1
 let a1:=!x0.2.1==x1.2.1
 let a2:=!x0.2.2.1==x1.2.2.1
 let a3:=!x0.t.2.1==x1.t.2.1
 let a4:=!x0.t.t.t==x1.t.t.t
 let a5:=zm x0.t.t.1
 let a6:=zm x1.t.t.1
 let a7:=!eT a5 a6
 let a8:=zm x0.t.t.q.2.1
 let a9:=zm x1.t.t.q.2.1
 Qc
 (bif a0 then Q3
 else bif a1 then Q3 else bif a2 then Q3 else bif a3 then Q3 else bif a4 then Q3 else gy a5 a6&&bif a7 then Q3 else gy a8 a9)
 (br (bif a0 then Q3 else bif a1 then Q3 else bif a2 then Q3 else bif a3 then Q3 else bif a4 then Q3 else bif a7 then Q3 else !eT a8 a9)
  (re (kb Q4) [])
  (br (bif (↑(length x0.2.2.2.1):Int)!=(↑(length x1.2.2.2.1):Int)then Q3 else bif (↑(length x0.t.1):Int)!=(↑(length x1.t.1):Int)then Q3 else bif (↑(length x0.t.q.1):Int)!=(↑(length x1.t.q.1):Int)then Q3 else bif (↑(length x0.t.q.2.1):Int)!=(↑(length x1.t.q.2.1):Int)then Q3
  else bif (↑(length x0.t.t.2.1):Int)!=(↑(length x1.t.t.2.1):Int)then Q3 else(↑(length x0.t.t.q.1):Int)!=(↑(length x1.t.t.q.1):Int)) (re (kb Q4) []) (Q9 (qN.h6 0 (x0,()) (x1,())))))
def sG:qN->Tr (qN⊕aw)
 | .h6 i5 z0 z1=>
  let a0:=(↑(length z0.1.2.2.2.1):Int)
  br (Q0 (i5<a0))
  (Qc (zM i5 (length z0.1.2.2.2.1))
   (Qc (zM i5 (length z1.1.2.2.2.1)) (br (!getD z0.1.2.2.2.1 i5.toNat (zi Q6)==getD z1.1.2.2.2.1 i5.toNat (zi Q6)) (re (kb Q4) []) (Q9 (qN.h6 (IntKind.i64.wrap (i5+1)) z0 z1)))))
  (Q9 (qN.h11 0 z0 z1))
 | .h11 i6 z0 z1=>
  let a0:=(↑(length z0.1.t.1):Int)
  let a1:=getD z0.1.t.1 i6.toNat (zi zj)
  let a2:=getD z1.1.t.1 i6.toNat (zi zj)
  br (Q0 (i6<a0))
  (Qc (zM i6 (length z0.1.t.1))
   (Qc (zM i6 (length z1.1.t.1)) (br (!(a1.1==a2.1&&(a1.2.1==a2.2.1&&(a1.2.2==a2.2.2&&Q3)))) (re (kb Q4) []) (Q9 (qN.h11 (IntKind.i64.wrap (i6+1)) z0 z1)))))
  (Q9 (qN.h16 0 z0 z1))
 | .h16 i7 z0 z1=>
  let a0:=(↑(length z0.1.t.q.1):Int)
  br (Q0 (i7<a0))
  (Qc (zM i7 (length z0.1.t.q.1))
   (Qc (zM i7 (length z1.1.t.q.1)) (br (!getD z0.1.t.q.1 i7.toNat (zi Q6)==getD z1.1.t.q.1 i7.toNat (zi Q6)) (re (kb Q4) []) (Q9 (qN.h16 (IntKind.i64.wrap (i7+1)) z0 z1)))))
  (Q9 (qN.h21 0 z0 z1))
 | .h21 i8 z0 z1=>
  let a0:=(↑(length z0.1.t.q.2.1):Int)
  let a1:=getD z0.1.t.q.2.1 i8.toNat (zi iD)
  let a2:=getD z1.1.t.q.2.1 i8.toNat (zi iD)
  br (Q0 (i8<a0))
  (Qc (zM i8 (length z0.1.t.q.2.1))
   (Qc (zM i8 (length z1.1.t.q.2.1)) (br (!(a1.1==a2.1&&(a1.2==a2.2&&Q3))) (re (kb Q4) []) (Q9 (qN.h21 (IntKind.i64.wrap (i8+1)) z0 z1)))))
  (Q9 (qN.h26 0 z0 z1))
 | .h26 i9 z0 z1=>
  let a0:=(↑(length z0.1.t.t.2.1):Int)
  let a1:=getD z0.1.t.t.2.1 i9.toNat (zi zf)
  let a2:=getD z1.1.t.t.2.1 i9.toNat (zi zf)
  br (Q0 (i9<a0))
  (Qc (zM i9 (length z0.1.t.t.2.1))
   (Qc (zM i9 (length z1.1.t.t.2.1)) (br (!(a1.1==a2.1&&(a1.2.1==a2.2.1&&(a1.2.2==a2.2.2&&Q3)))) (re (kb Q4) []) (Q9 (qN.h26 (IntKind.i64.wrap (i9+1)) z0 z1)))))
  (Q9 (qN.h31 0 z0 z1))
 | .h31 i10 z0 z1=>
  let a0:=(↑(length z0.1.t.t.q.1):Int)
  let a1:=zM i10 (length z0.1.t.t.q.1)
  let a2:=zM i10 (length z1.1.t.t.q.1)
  let a3:=getD z0.1.t.t.q.1 i10.toNat (zi gU)
  let a4:=getD z1.1.t.t.q.1 i10.toNat (zi gU)
  let a5:=!a3.1==a4.1
  let a6:=zm a3.2
  let a7:=zm a4.2
  br (Q0 (i10<a0))
  (Qc (a1&&(a2&&bif a5 then Q3 else a1&&(a2&&gy a6 a7)))
   (br (bif a5 then Q3 else !eT a6 a7) (re (kb Q4) []) (Q9 (qN.h31 (IntKind.i64.wrap (i10+1)) z0 z1))))
  (re (kb Q3) [])
def qz(x0:Sem zk)(x1:Sem zk):=al [Q7] sG 100000000 (VP x0 x1)
def yB(x0:Sem zk)(x1:Sem zk):=(qz x0 x1).isSome
def eU(x0:Sem zk)(x1:Sem zk):=o1 (qz x0 x1)
def zeh:=FT [zk,zk] [Q7] λx=>qz x.1 x.2.1
theorem zaA:FK 74 zeh:=kq.T1 (f:=Tryz.f74) (keep:=zhr) (e:=zjX)
def D8:=Fx.addL [(124,Xn),(121,Xl),(81,WY),(74,zeh)]
theorem pJ:zw D8:=kq.addL<|fc Uy<|fc Uw<|fc Ub<|fc zaA jm
abbrev zbZ:=mM [(2,[0,3])]
inductive Dr where
 |h2 (s0:TS) (i3:Int)
abbrev zfV:Dr->Nat×St
 |.h2 s0 i3=>(2,⟨tm 28 [(0,str s0),(3,ai i3)],[]⟩)
def Yr(x0:TS):Tr (Dr⊕aw):=
 Q9 (Dr.h2 x0 0)
def Cv:Dr->Tr (Dr⊕aw)
 | .h2 s0 i3=>
  let a0:=(↑(getD s0 i3.toNat 0).toNat:Int)
  let a1:=Q0 (1<=(↑(length s0):Int))
  let a2:=Q0 ((↑(length s0):Int)<=16)
  let a3:=(↑(getD s0 (toNat 0) 0).toNat:Int)
  br (Q0 (i3<(↑(length s0):Int)))
  (Qc (zM i3 (length s0)) (Qc (qw a0) (br (!wn a0) (re (kb Q4) []) (Q9 (Dr.h2 s0 (IntKind.i64.wrap (i3+1)))))))
  (Qc (bif a1 then bif a2 then zM 0 (length s0)&&j9 a3 else Q3 else Q3)
   (re (AV.bool (bif a1 then bif a2 then my a3 else Q4 else Q4)) []))
def yA(x0:TS):=al [Q7] Cv 100000000 (Yr x0)
def uf(x0:TS):=(yA x0).isSome
def sC(x0:TS):=o1 (yA x0)
def Xk:=FT [Q6] [Q7] λx=>yA x.1
theorem Uv:FK 120 Xk:=pJ.T1 (f:=Tryz.f120) (keep:=zbZ) (e:=zfV)
abbrev RK:Nat->aM:=λ_=>{ }
theorem zce:zI D8.P 83 Tryz.f83 2:=bU kw
def Rj(y:zn aG)(x0:TS):Tr (Empty⊕aw):=
 let a0:=(y.1,y.2.1,y.2.2.1,())
 let a1:=eV a0 x0
 Qc (dJ a0 x0)
 (br (!a1.1) (re (Qe []) [Qa [sl zr a1.2.1,ai a1.2.2.1,kb Q4]])
  (re (Qe []) (ar aG a1.2)))
theorem zbf(y:zn aG)(x0:TS):rn D8 1 RK Tryz.f83 [Qf 0 0,zE Q6 x0] (ar aG y)=(Rj y x0).map (lf Tryz.f83 e0):=kw
def Nd(y:zn aG)(x0:TS):Option (zy (Qi Q1 [])×zn aG):=kE [] aG t0 100000000 (Rj y x0)
def aV(y:zn aG)(x0:TS):Bool:=(Nd y x0).isSome
def bG(y:zn aG)(x0:TS):zn aG:=(λr:zy (Qi Q1 [])×zn aG=>r.2) ((Nd y x0).getD (cu [],fO aG))
def W0:zX:=rL aG [Q6] [] aG (λy x=>aV y x.1) λy x=>((),bG y x.1)
theorem Ue:FK 83 W0:=kd (ps:=aG) (ks:=[Q6]) (outs:=[]) (keep:=RK) (gas:=400) (n:=100000000) (e:=e0) (t:=t0) (i:=λy x=>Rj y x.1) pJ zce (λy x=>zbf y x.1) (T2 _ _ _ _ _) (λ_ _=>by kernel_rfl) (λ_ _=>by kernel_rfl)
abbrev RL:Nat->aM:=λ_=>{ }
theorem zcf:zI D8.P 84 Tryz.f84 1:=bU kw
def Rk(y:zn aG):Tr (Empty⊕aw):=
 let a0:=Q0 (y.2.1<(↑(length y.1):Int))
 let a1:=zM y.2.1 (length y.1)
 let a2:=getD y.1 (toNat y.2.1) (zi zr)
 let a3:=a2.1==1
 let a4:=IntKind.i64.wrap (y.2.1+1)
 let a5:=IntKind.i64.wrap (a4-1)
 let a6:=getD y.1 a5.toNat (zi zr)
 Qc (bif a0 then a1&&bif a3 then a1&&BZ a2.2 else Q3 else Q3)
 (br (bif a0 then bif a3 then !Jo a2.2 else Q4 else Q4)
  (Qc (zM a5 (length y.1)) (re (str a6.2) (ar aG (y.1,a4,y.2.2))))
  (re (str []) [Qa [sl zr y.1,ai y.2.1,kb Q4]]))
theorem zbg(y:zn aG):rn D8 1 RL Tryz.f84 [Qf 0 0] (ar aG y)=(Rk y).map (lf Tryz.f84 e0):=kw
def Nf(y:zn aG):Option (zy (Qi Q1 [Q6])×zn aG):=kE [Q6] aG t0 100000000 (Rk y)
def bn(y:zn aG):Bool:=(Nf y).isSome
def bM(y:zn aG):(Sem Q6)×zn aG:=(λr:zy (Qi Q1 [Q6])×zn aG=>(r.1.1,r.2)) ((Nf y).getD (cu [Q6],fO aG))
def W1:zX:=rL aG [] [Q6] aG (λy _=>bn y) λy _=>(((bM y).1,()),(bM y).2)
theorem Uf:FK 84 W1:=kd (ps:=aG) (ks:=[]) (outs:=[Q6]) (keep:=RL) (gas:=400) (n:=100000000) (e:=e0) (t:=t0) (i:=λy x=>Rk y) pJ zcf (λy x=>zbg y) (T2 _ _ _ _ _) (λ_ _=>by kernel_rfl) (λ_ _=>by kernel_rfl)
def D9:=D8.addL [(120,Xk),(83,W0),(84,W1)]
theorem mc:zw D9:=pJ.addL<|fc Uv<|fc Ue<|fc Uf jm
def Yp(x0:Sem zf):Tr (Empty⊕aw):=
 Qc (lO x0)
 (br (ry x0) (re (agg [ai x0.1,ai x0.2.1,str x0.2.2]) [])
  (re (agg [ai 0,ai 0,str []]) []))
def tY(x0:Sem zf):=al [zf] t0 100000000 (Yp x0)
def qi(x0:Sem zf):=(tY x0).isSome
def eS(x0:Sem zf):=o1 (tY x0)
def WX:=FT [zf] [zf] λx=>tY x.1
theorem Ua:FK 33 WX:=mc.T1 (f:=Tryz.f33) (keep:=k0) (e:=e0)
def Yo(x0:Sem zf)(x1:Sem Q7):Tr (Empty⊕aw):=
 Qc (kI x1) (re (AV.bool (x0.1==(aU x1).1&&(x0.2.1==(aU x1).2.1&&(x0.2.2==(aU x1).2.2&&Q3)))) [])
def I7(x0:Sem zf)(x1:Sem Q7):=al [Q7] t0 100000000 (Yo x0 x1)
def mo(x0:Sem zf)(x1:Sem Q7):=(I7 x0 x1).isSome
def o9(x0:Sem zf)(x1:Sem Q7):=o1 (I7 x0 x1)
def WV:=FT [zf,Q7] [Q7] λx=>I7 x.1 x.2.1
theorem T8:FK 173 WV:=mc.T1 (f:=Tryz.f173) (keep:=k0) (e:=e0)
def Fv(g:Sem Q5->Sem zg->Sem Q7)(c:Sem Q5->Sem zg->Bool):bX:=D9.add 132 (zP [Q5,zg] [Q7] (λx=>c x.1 x.2.1) λx=>(g x.1 x.2.1,()))
theorem Kl{g:Sem Q5->Sem zg->Sem Q7}{c:Sem Q5->Sem zg->Bool}(hg:FK 132 (zP [Q5,zg] [Q7] (λx=>c x.1 x.2.1) λx=>(g x.1 x.2.1,()))):zw (Fv g c):=mc.add hg
abbrev RQ:Nat->aM:=λ_=>{ }
theorem zck(g:Sem Q5->Sem zg->Sem Q7)(c:Sem Q5->Sem zg->Bool):zI (Fv g c).P 132 Tryz.f132 2:=bU kw
def Mt(g:Sem Q5->Sem zg->Sem Q7)(c:Sem Q5->Sem zg->Bool)(x0:Sem Q5)(x1:Sem zg):Tr (Empty⊕aw):=
 let a0:=(↑(ze.l x0).length:Int)==0
 let a1:=(ze.v x0).1==0&&((ze.v x0).2.1==0&&((ze.v x0).2.2==[]&&Q3))
 let a2:=(↑(ze.l x0).length:Int)==1
 let a3:=zM 0 (ze.l x0).length
 let a4:=zm ((ze.l x0).getD (toNat 0) (zi Q5))
 let a5:=IntKind.i64.wrap (x1-1)
 let a6:=c a4 a5
 let a7:=g a4 a5
 let a8:=(↑(ze.l x0).length:Int)==2
 let a9:=zm ((ze.l x0).getD (toNat 1) (zi Q5))
 br (x1==0) (re (kb Q4) [])
 (br (ze.op x0==[108,105,116])
  (Qc (lO (ze.v x0)) (re (AV.bool (bif ry (ze.v x0)then bif ze.s x0==[]then a0 else Q4 else Q4)) []))
  (br (ze.op x0==[99,111,108]) (Qc (bif a1 then uf (ze.s x0)&&bif sC (ze.s x0)then BZ (ze.s x0)else Q3 else Q3) (re (AV.bool (bif a1 then bif sC (ze.s x0)then bif !Jo (ze.s x0)then a0 else Q4 else Q4 else Q4)) [])) (br (bif ze.op x0==[110,111,116]then Q3 else ze.op x0==[110,117,108,108])
  (Qc (bif a1 then bif ze.s x0==[]then bif a2 then a3&&a6 else Q3 else Q3 else Q3) (re (AV.bool (bif a1 then bif ze.s x0==[]then bif a2 then a7 else Q4 else Q4 else Q4)) [])) (Qc (Gm (ze.op x0)) (br (M7 (ze.op x0)) (Qc
  (bif a1 then bif ze.s x0==[]then bif a8 then a3&&(a6&&bif a7 then zM 1 (ze.l x0).length&&c a9 a5 else Q3)else Q3 else Q3 else Q3) (re (AV.bool (bif a1 then bif ze.s x0==[]then bif a8 then bif a7 then g a9 a5 else Q4 else Q4 else Q4 else Q4)) [])) (re (kb Q4) []))))))
theorem zbo(g:Sem Q5->Sem zg->Sem Q7)(c:Sem Q5->Sem zg->Bool)(x0:Sem Q5)(x1:Sem zg):rn (Fv g c) 0 RQ Tryz.f132 [zE Q5 x0,zE zg x1] []=(Mt g c x0 x1).map (lf Tryz.f132 e0):=kw
def nt(o:Option (zy (Qi Q1 [Q7]))):Sem Q7:=(λr:zy (Qi Q1 [Q7])=>r.1) (o.getD (cu [Q7]))
def Gl(g:Sem Q5->Sem zg->Sem Q7)(c:Sem Q5->Sem zg->Bool)(x0:Sem Q5)(x1:Sem zg):Option (zy (Qi Q1 [Q7])):=al [Q7] t0 100000000 (Mt g c x0 x1)
def fF:Nat->Sem Q5->Sem zg->Option (zy (Qi Q1 [Q7]))
 |0=>λ_ _=>Q2
 |n+1=>Gl (λx0 x1=>nt (fF n x0 x1)) λx0 x1=>(fF n x0 x1).isSome
theorem RH:zI D9.P 132 Tryz.f132 2:=bU kw
theorem Hp:∀n,FK 132 (zP [Q5,zg] [Q7] (λx=>(fF n x.1 x.2.1).isSome) λx=>(nt (fF n x.1 x.2.1),()))
 |0=>fj ⟨Tryz.f132,RH.1,RH.2.1,RH.2.2.1⟩ (λ_=>rfl)
 |n+1=>lG (E:=Fv (λx0 x1=>nt (fF n x0 x1)) (λx0 x1=>(fF n x0 x1).isSome)) (ks:=[Q5,zg]) (outs:=[Q7]) (keep:=RQ) (gas:=400) (n:=100000000) (e:=e0) (t:=t0) (i:=λx=>Mt (λx0 x1=>nt (fF n x0 x1)) (λx0 x1=>(fF n x0 x1).isSome) x.1 x.2.1) (Kl (Hp n)) (zck _ _) (λx=>zbo _ _ x.1 x.2.1) (T2 _ _ _ _ _) (λ_=>by kernel_rfl) (λ_=>by kernel_rfl)
def Gk(x0:Sem Q5)(x1:Sem zg):Option (zy (Qi Q1 [Q7])):=fF 16 x0 x1
def yr(x0:Sem Q5)(x1:Sem zg):Bool:=(Gk x0 x1).isSome
def Gj(x0:Sem Q5)(x1:Sem zg):Sem Q7:=nt (Gk x0 x1)
def Xq:zX:=zP [Q5,zg] [Q7] (λx=>yr x.1 x.2.1) λx=>(Gj x.1 x.2.1,())
theorem UB:FK 132 Xq:=Hp 16
def H0(g:Sem Q5->Sem (Sh.sl zj)->Sem zg×Sem zg)(c:Sem Q5->Sem (Sh.sl zj)->Bool):bX:=D9.add 80 (zP [Q5,Sh.sl zj] [zg,zg] (λx=>c x.1 x.2.1) λx=>((g x.1 x.2.1).1,(g x.1 x.2.1).2,()))
theorem N9{g:Sem Q5->Sem (Sh.sl zj)->Sem zg×Sem zg}{c:Sem Q5->Sem (Sh.sl zj)->Bool}(hg:FK 80 (zP [Q5,Sh.sl zj] [zg,zg] (λx=>c x.1 x.2.1) λx=>((g x.1 x.2.1).1,(g x.1 x.2.1).2,()))):zw (H0 g c):=mc.add hg
abbrev R0:Nat->aM:=λj=>if j=5 then{slots:=[1,2,6]}else{ }
inductive NJ where
 |h5 (l1:LC) (i6:Int) (z0:zn [CP.d Q5])
abbrev Qp:NJ->Nat×St
 |.h5 l1 i6 z0=>(5,⟨tm 116 [(1,sl zj l1),(2,Qf 0 0),(6,ai i6)],[Qa (bC [] [CP.d Q5] z0)]⟩)
theorem zis(g:Sem Q5->Sem zj.sl->Sem zg×Sem zg)(c:Sem Q5->Sem zj.sl->Bool):zI (H0 g c).P 80 Tryz.f80 2:=bU kw
def A6(g:Sem Q5->Sem zj.sl->Sem zg×Sem zg)(c:Sem Q5->Sem zj.sl->Bool)(x0:Sem Q5)(x1:Sem zj.sl):Tr (NJ⊕aw):=
 let a0:=zm ((ze.l x0).getD (toNat 0) (zi Q5))
 let a1:=g a0 x1
 let a2:=zm ((ze.l x0).getD (toNat 1) (zi Q5))
 let a3:=g a2 x1
 let a4:=ze.op x0==[110,117,108,108]
 let a5:=ze.op x0==[61]
 let a6:=a1.1!=0
 let a7:=a3.1!=0
 let a8:=ze.op x0==[60]
 let a9:=ze.op x0==[43]
 let a10:=a1.1!=1
 let a11:=bif a7 then a3.1!=1 else Q4
 let a12:=ze.op x0==[45]
 let a13:=a1.1!=3
 let a14:=bif a7 then a3.1!=3 else Q4
 let a15:=bif a6 then a10 else Q4
 let a16:=bif a6 then a13 else Q4
 br (ze.op x0==[108,105,116]) (re (Qe [ai (ze.v x0).1,ai 0]) [])
 (br (ze.op x0==[99,111,108]) (Q9 (NJ.h5 x1 0 (x0,())))
  (Qc (zM 0 (ze.l x0).length) (Qc (c a0 x1) (br (a1.2!=0) (re (Qe [ai 0,ai a1.2]) []) (br ((↑(ze.l x0).length:Int)==2) (Qc (zM 1 (ze.l x0).length) (Qc (c a2 x1) (br (a3.2!=0) (re (Qe [ai 0,ai a3.2]) []) (br a4 (re (Qe [ai 3,ai 0]) []) (br a5
  (br (bif a6 then bif a7 then a1.1!=a3.1 else Q4 else Q4) (re (Qe [ai 0,ai 5]) []) (re (Qe [ai 3,ai 0]) [])) (br a8 (br (bif a6 then bif a7 then a1.1!=a3.1 else Q4 else Q4) (re (Qe [ai 0,ai 5]) []) (re (Qe [ai 3,ai 0]) [])) (br a9
  (br (bif a6 then bif a10 then Q3 else a11 else a11) (re (Qe [ai 0,ai 5]) []) (re (Qe [ai 1,ai 0]) [])) (br a12 (br (bif a6 then bif a10 then Q3 else a11 else a11) (re (Qe [ai 0,ai 5]) []) (re (Qe [ai 1,ai 0]) []))
  (br (bif a6 then bif a13 then Q3 else a14 else a14) (re (Qe [ai 0,ai 5]) []) (re (Qe [ai 3,ai 0]) [])))))))))) (br a4 (re (Qe [ai 3,ai 0]) []) (br a5 (br (bif a6 then bif a6 then a1.1!=a1.1 else Q4 else Q4) (re (Qe [ai 0,ai 5]) [])
  (re (Qe [ai 3,ai 0]) [])) (br a8 (br (bif a6 then bif a6 then a1.1!=a1.1 else Q4 else Q4) (re (Qe [ai 0,ai 5]) []) (re (Qe [ai 3,ai 0]) [])) (br a9 (br (bif a6 then bif a10 then Q3 else a15 else a15) (re (Qe [ai 0,ai 5]) [])
  (re (Qe [ai 1,ai 0]) [])) (br a12 (br (bif a6 then bif a10 then Q3 else a15 else a15) (re (Qe [ai 0,ai 5]) []) (re (Qe [ai 1,ai 0]) [])) (br (bif a6 then bif a13 then Q3 else a16 else a16) (re (Qe [ai 0,ai 5]) []) (re (Qe [ai 3,ai 0]) []))))))))))))
theorem zgt(g:Sem Q5->Sem zj.sl->Sem zg×Sem zg)(c:Sem Q5->Sem zj.sl->Bool)(x0:Sem Q5)(x1:Sem zj.sl):rn (H0 g c) 0 R0 Tryz.f80 [zE Q5 x0,zE zj.sl x1] []=(A6 g c x0 x1).map (lf Tryz.f80 Qp):=kw
def JO(_:Sem Q5->Sem zj.sl->Sem zg×Sem zg)(_:Sem Q5->Sem zj.sl->Bool):NJ->Tr (NJ⊕aw)
 | .h5 l1 i6 z0=>
  let a0:=l1.getD i6.toNat (zi zj)
  br (Q0 (i6<(↑l1.length:Int)))
  (Qc (zM i6 l1.length)
   (br (a0.1==ze.s z0.1) (Qc (zM i6 l1.length) (re (Qe [ai a0.2.1,ai 0]) [])) (Q9 (NJ.h5 l1 (IntKind.i64.wrap (i6+1)) z0))))
  (re (Qe [ai 0,ai 4]) [])
theorem ziN(g:Sem Q5->Sem zj.sl->Sem zg×Sem zg)(c:Sem Q5->Sem zj.sl->Bool):∀s,run (H0 g c) 0 R0 (Func.results Tryz.f80).toList 400 (ac Tryz.f80 (Qp s).1) (Qp s).2=(JO g c s).map (lf Tryz.f80 Qp)
 |.h5 l1 i6 z0=>by kernel_rfl
def fE(o:Option (zy (Qi Q1 [zg,zg]))):Sem zg×Sem zg:=(λr:zy (Qi Q1 [zg,zg])=>(r.1,r.2.1)) (o.getD (cu [zg,zg]))
def M6(g:Sem Q5->Sem zj.sl->Sem zg×Sem zg)(c:Sem Q5->Sem zj.sl->Bool)(x0:Sem Q5)(x1:Sem zj.sl):Option (zy (Qi Q1 [zg,zg])):=al [zg,zg] (JO g c) 100000000 (A6 g c x0 x1)
def bV:Nat->Sem Q5->Sem zj.sl->Option (zy (Qi Q1 [zg,zg]))
 |0=>λ_ _=>Q2
 |n+1=>M6 (λx0 x1=>fE (bV n x0 x1)) λx0 x1=>(bV n x0 x1).isSome
theorem zbP:zI D9.P 80 Tryz.f80 2:=bU kw
theorem L1:∀n,FK 80 (zP [Q5,zj.sl] [zg,zg] (λx=>(bV n x.1 x.2.1).isSome) λx=>((fE (bV n x.1 x.2.1)).1,(fE (bV n x.1 x.2.1)).2,()))
 |0=>fj ⟨Tryz.f80,zbP.1,zbP.2.1,zbP.2.2.1⟩ (λ_=>rfl)
 |n+1=>lG (E:=H0 (λx0 x1=>fE (bV n x0 x1)) (λx0 x1=>(bV n x0 x1).isSome)) (ks:=[Q5,zj.sl]) (outs:=[zg,zg]) (keep:=R0) (gas:=400) (n:=100000000) (e:=Qp) (t:=JO (λx0 x1=>fE (bV n x0 x1)) (λx0 x1=>(bV n x0 x1).isSome)) (i:=λx=>A6 (λx0 x1=>fE (bV n x0 x1)) (λx0 x1=>(bV n x0 x1).isSome) x.1 x.2.1) (N9 (L1 n)) (zis _ _) (λx=>zgt _ _ x.1 x.2.1) (ziN _ _) (λ_=>by kernel_rfl) (λ_=>by kernel_rfl)
def yq(x0:Sem Q5)(x1:Sem zj.sl):Option (zy (Qi Q1 [zg,zg])):=bV 16 x0 x1
def nr(x0:Sem Q5)(x1:Sem zj.sl):Bool:=(yq x0 x1).isSome
def il(x0:Sem Q5)(x1:Sem zj.sl):Sem zg×Sem zg:=fE (yq x0 x1)
def zel:zX:=zP [Q5,zj.sl] [zg,zg] (λx=>nr x.1 x.2.1) λx=>((il x.1 x.2.1).1,(il x.1 x.2.1).2,())
theorem zaE:FK 80 zel:=L1 16
def Qu:=D9.addL [(33,WX),(173,WV),(132,Xq),(80,zel)]
theorem gE:zw Qu:=mc.addL<|fc Ua<|fc T8<|fc UB<|fc zaE jm
def zgG(x0:Sem zf)(x1:Sem zf):Tr (Empty⊕aw):=
 let a0:=(eS x0).1==(eS x1).1
 let a1:=(eS x0).2.1==(eS x1).2.1
 Qc (qi x0)
 (Qc (qi x1)
  (br (a0&&(a1&&((eS x0).2.2==(eS x1).2.2&&Q3))) (re (ai 0) []) (br (bif Q0 ((eS x0).1<(eS x1).1)then Q3 else bif a0 then bif Q0 ((eS x0).2.1<(eS x1).2.1)then Q3 else bif a1 then Op.bytesLess (eS x0).2.2 (eS x1).2.2 else Q4 else Q4) (re (ai (-1)) []) (re (ai 1) []))))
def pe(x0:Sem zf)(x1:Sem zf):=al [zg] t0 100000000 (zgG x0 x1)
def pd(x0:Sem zf)(x1:Sem zf):=(pe x0 x1).isSome
def tU(x0:Sem zf)(x1:Sem zf):=o1 (pe x0 x1)
def zd2:=FT [zf,zf] [zg] λx=>pe x.1 x.2.1
theorem zal:FK 12 zd2:=gE.T1 (f:=Tryz.f12) (keep:=k0) (e:=e0)
def YB(x0:Sem zf)(x1:Sem zf):Tr (Empty⊕aw):=
 Qc (qi x0)
 (Qc (qi x1)
  (re (AV.bool (bif (eS x0).1==0 then Q3 else bif (eS x1).1==0 then Q3 else(eS x0).1!=(eS x1).1)) []))
def pf(x0:Sem zf)(x1:Sem zf):=al [Q7] t0 100000000 (YB x0 x1)
def mq(x0:Sem zf)(x1:Sem zf):=(pf x0 x1).isSome
def qe(x0:Sem zf)(x1:Sem zf):=o1 (pf x0 x1)
def XH:=FT [zf,zf] [Q7] λx=>pf x.1 x.2.1
theorem UR:FK 251 XH:=gE.T1 (f:=Tryz.f251) (keep:=k0) (e:=e0)
def Yv(x0:Sem zf)(x1:Sem zf):Tr (Empty⊕aw):=
 Qc (mo x0 Q4&&bif o9 x0 Q4 then Q3 else mo x1 Q4)
 (br (bif o9 x0 Q4 then Q3 else o9 x1 Q4)
  (Qc Q3 (re (agg [ai (aU Q4).1,ai (aU Q4).2.1,str (aU Q4).2.2]) []))
  (Qc (mo x0 Q3&&bif o9 x0 Q3 then mo x1 Q3 else Q3) (br (bif o9 x0 Q3 then o9 x1 Q3 else Q4) (Qc Q3 (re (agg [ai (aU Q3).1,ai (aU Q3).2.1,str (aU Q3).2.2]) [])) (re (agg [ai 0,ai 0,str []]) []))))
def BB(x0:Sem zf)(x1:Sem zf):=al [zf] t0 100000000 (Yv x0 x1)
def Gc(x0:Sem zf)(x1:Sem zf):=(BB x0 x1).isSome
def EH(x0:Sem zf)(x1:Sem zf):=o1 (BB x0 x1)
def Xu:=FT [zf,zf] [zf] λx=>BB x.1 x.2.1
theorem UF:FK 212 Xu:=gE.T1 (f:=Tryz.f212) (keep:=k0) (e:=e0)
def Yw(x0:Sem zf)(x1:Sem zf):Tr (Empty⊕aw):=
 Qc (mo x0 Q3&&bif o9 x0 Q3 then Q3 else mo x1 Q3)
 (br (bif o9 x0 Q3 then Q3 else o9 x1 Q3)
  (Qc Q3 (re (agg [ai (aU Q3).1,ai (aU Q3).2.1,str (aU Q3).2.2]) []))
  (Qc (mo x0 Q4&&bif o9 x0 Q4 then mo x1 Q4 else Q3) (br (bif o9 x0 Q4 then o9 x1 Q4 else Q4) (Qc Q3 (re (agg [ai (aU Q4).1,ai (aU Q4).2.1,str (aU Q4).2.2]) [])) (re (agg [ai 0,ai 0,str []]) []))))
def Ja(x0:Sem zf)(x1:Sem zf):=al [zf] t0 100000000 (Yw x0 x1)
def M2(x0:Sem zf)(x1:Sem zf):=(Ja x0 x1).isSome
def OQ(x0:Sem zf)(x1:Sem zf):=o1 (Ja x0 x1)
def Xv:=FT [zf,zf] [zf] λx=>Ja x.1 x.2.1
theorem UG:FK 213 Xv:=gE.T1 (f:=Tryz.f213) (keep:=k0) (e:=e0)
def Yu(x0:Sem zf):Tr (Empty⊕aw):=
 Qc (mo x0 Q3)
 (br (o9 x0 Q3)
  (Qc Q3 (re (agg [ai (aU Q4).1,ai (aU Q4).2.1,str (aU Q4).2.2]) []))
  (Qc (mo x0 Q4) (br (o9 x0 Q4) (Qc Q3 (re (agg [ai (aU Q3).1,ai (aU Q3).2.1,str (aU Q3).2.2]) [])) (re (agg [ai 0,ai 0,str []]) []))))
def BE(x0:Sem zf):=al [zf] t0 100000000 (Yu x0)
def Gf(x0:Sem zf):=(BE x0).isSome
def EJ(x0:Sem zf):=o1 (BE x0)
def Xt:=FT [zf] [zf] λx=>BE x.1
theorem UE:FK 211 Xt:=gE.T1 (f:=Tryz.f211) (keep:=k0) (e:=e0)
def zgM(x0:Sem Q5):Tr (Empty⊕aw):=
 let a0:=Gj (zm x0) 12
 Qc (yr (zm x0) 12&&bif a0 then t7 (zm x0)else Q3) (re (AV.bool (bif a0 then Q0 (yu (zm x0)<=60)else Q4)) [])
def BK(x0:Sem Q5):=al [Q7] t0 100000000 (zgM x0)
def wj(x0:Sem Q5):=(BK x0).isSome
def EP(x0:Sem Q5):=o1 (BK x0)
def zek:=FT [Q5] [Q7] λx=>BK x.1
theorem zaD:FK 79 zek:=gE.T1 (f:=Tryz.f79) (keep:=k0) (e:=e0)
def Qv:=Qu.addL [(12,zd2),(251,XH),(212,Xu),(213,Xv),(211,Xt),(79,zek)]
theorem AF:zw Qv:=gE.addL<|fc zal<|fc UR<|fc UF<|fc UG<|fc UE<|fc zaD jm
abbrev zb4:=mM [(2,[0,3])]
inductive Du where
 |h2 (i0:Sem zg) (s3:List UInt8)
abbrev zfY:Du->Nat×St
 |.h2 i0 s3=>(2,⟨tm 21 [(0,ai i0),(3,str s3)],[]⟩)
def zgA(x0:Sem zg):Tr (Du⊕aw):=
 Q9 (Du.h2 x0 [])
def CA:Du->Tr (Du⊕aw)
 | .h2 i0 s3=>
  let a0:=iG [IntKind.u8.wrap (IntKind.i64.wrap (48-IntKind.i64.wrap (Int.tmod i0 10)))]
  br (bif Q0 (i0<0)then Q3 else s3==[])
  (Qc Q3 (Qc (Q0 (length a0+s3.length<=1099511627776)) (Qc Q3 (Q9 (Du.h2 (IntKind.i64.wrap (Int.tdiv i0 10)) (a0++s3))))))
  (re (str s3) [])
def qh(x0:Sem zg):=al [Q6] CA 100000000 (zgA x0)
def j7(x0:Sem zg):=(qh x0).isSome
def kJ(x0:Sem zg):=o1 (qh x0)
def XF:=FT [zg] [Q6] λx=>qh x.1
theorem UP:FK 171 XF:=AF.T1 (f:=Tryz.f171) (keep:=zb4) (e:=zfY)
def QA:=Qv.add 171 XF
theorem AH:zw QA:=AF.add UP
abbrev zbX:=mM [(13,[1,3,4])]
inductive yV where
 |h13 (s3:List UInt8) (i4:Int) (z0:zn [CP.d zf])
abbrev zfT:yV->Nat×St
 |.h13 s3 i4 z0=>(13,⟨tm 54 [(1,Qf 0 0),(3,str s3),(4,ai i4)],[Qa (bC [] [CP.d zf] z0)]⟩)
def xf(x0:Sem zf):Tr (yV⊕aw):=
 let a0:=IntKind.i64.wrap (0-x0.2.1)
 Qc (lO x0)
 (br (!ry x0) (re (str []) [])
  (br (x0.1==0) (re (str [78,85,76,76]) []) (br (x0.1==1) (br (Q0 (x0.2.1<0)) (Qc (j7 x0.2.1) (Qc (Q0 ([45].length+length (kJ x0.2.1)<=1099511627776)) (re (str ([45]++kJ x0.2.1)) []))) (Qc (j7 a0) (re (str (kJ a0)) []))) (br (x0.1==2) (Q9 (yV.h13 [39] 0 (x0,())))
  (br (x0.2.1==1) (re (str [84,82,85,69]) []) (re (str [70,65,76,83,69]) []))))))
def uD:yV->Tr (yV⊕aw)
 | .h13 s3 i4 z0=>
  let a0:=(↑(length z0.1.2.2):Int)
  let a1:=IntKind.i64.wrap (i4+1)
  let a2:=List.take (a1.toNat-i4.toNat) (List.drop i4.toNat z0.1.2.2)
  let a3:=s3++a2
  br (Q0 (i4<a0))
  (Qc (Q0 (0<=i4)&&Q0 (i4<=a1)&&Q0 (a1<=a0))
   (Qc (Q0 (s3.length+a2.length<=1099511627776)) (Qc (zM i4 (length z0.1.2.2)) (br ((↑(getD z0.1.2.2 i4.toNat 0).toNat:Int)==39) (Qc (Q0 (length a3+[39].length<=1099511627776)) (Q9 (yV.h13 (a3++[39]) a1 z0))) (Q9 (yV.h13 a3 a1 z0))))))
  (Qc (Q0 (s3.length+[39].length<=1099511627776)) (re (str (s3++[39])) []))
def ym(x0:Sem zf):=al [Q6] uD 100000000 (xf x0)
def tW(x0:Sem zf):=(ym x0).isSome
def BH(x0:Sem zf):=o1 (ym x0)
def Xh:=FT [zf] [Q6] λx=>ym x.1
theorem Us:FK 117 Xh:=AH.T1 (f:=Tryz.f117) (keep:=zbX) (e:=zfT)
def FA:=QA.add 117 Xh
theorem AK:zw FA:=AH.add Us
def Fu(g:Sem Q5->Sem Q6)(c:Sem Q5->Bool):bX:=FA.add 118 (zP [Q5] [Q6] (λx=>c x.1) λx=>(g x.1,()))
theorem Kk{g:Sem Q5->Sem Q6}{c:Sem Q5->Bool}(hg:FK 118 (zP [Q5] [Q6] (λx=>c x.1) λx=>(g x.1,()))):zw (Fu g c):=AK.add hg
abbrev RP:Nat->aM:=λ_=>{ }
theorem zcj(g:Sem Q5->Sem Q6)(c:Sem Q5->Bool):zI (Fu g c).P 118 Tryz.f118 1:=bU kw
def nO(g:Sem Q5->Sem Q6)(c:Sem Q5->Bool)(x0:Sem Q5):Tr (Empty⊕aw):=
 let a0:=zM 0 (ze.l x0).length
 let a1:=zm ((ze.l x0).getD (toNat 0) (zi Q5))
 let a2:=c a1
 let a3:=g a1
 let a4:=[40,78,79,84,32]++a3
 let a5:=Q0 ([40].length+length a3<=1099511627776)
 let a6:=[40]++a3
 let a7:=zM 1 (ze.l x0).length
 let a8:=zm ((ze.l x0).getD (toNat 1) (zi Q5))
 let a9:=c a8
 let a10:=a6++[32,65,78,68,32]
 let a11:=g a8
 let a12:=a10++a11
 let a13:=a6++[32,79,82,32]
 let a14:=a13++a11
 let a15:=a6++[32]
 let a16:=a15++ze.op x0
 let a17:=a16++[32]
 let a18:=a17++a11
 br (ze.op x0==[108,105,116]) (Qc (tW (ze.v x0)) (re (str (BH (ze.v x0))) []))
 (br (ze.op x0==[99,111,108]) (re (str (ze.s x0)) [])
  (br (ze.op x0==[110,111,116]) (Qc a0 (Qc a2 (Qc (Q0 ([40,78,79,84,32].length+length a3<=1099511627776)) (Qc (Q0 (length a4+[41].length<=1099511627776)) (re (str (a4++[41])) []))))) (br (ze.op x0==[110,117,108,108]) (Qc a0 (Qc a2 (Qc a5
  (Qc (Q0 (length a6+[32,73,83,32,78,85,76,76,41].length<=1099511627776)) (re (str (a6++[32,73,83,32,78,85,76,76,41])) []))))) (br (ze.op x0==[97,110,100]) (Qc a0 (Qc a2 (Qc a5 (Qc (Q0 (length a6+[32,65,78,68,32].length<=1099511627776)) (Qc a7 (Qc a9
  (Qc (Q0 (length a10+length a11<=1099511627776)) (Qc (Q0 (length a12+[41].length<=1099511627776)) (re (str (a12++[41])) []))))))))) (br (ze.op x0==[111,114]) (Qc a0 (Qc a2 (Qc a5 (Qc (Q0 (length a6+[32,79,82,32].length<=1099511627776)) (Qc a7 (Qc a9
  (Qc (Q0 (length a13+length a11<=1099511627776)) (Qc (Q0 (length a14+[41].length<=1099511627776)) (re (str (a14++[41])) []))))))))) (Qc a0 (Qc a2 (Qc a5 (Qc (Q0 (length a6+[32].length<=1099511627776)) (Qc (Q0 (length a15+length (ze.op x0)<=1099511627776))
  (Qc (Q0 (length a16+[32].length<=1099511627776)) (Qc a7 (Qc a9 (Qc (Q0 (length a17+length a11<=1099511627776)) (Qc (Q0 (length a18+[41].length<=1099511627776)) (re (str (a18++[41])) []))))))))))))))))
theorem zbn(g:Sem Q5->Sem Q6)(c:Sem Q5->Bool)(x0:Sem Q5):rn (Fu g c) 0 RP Tryz.f118 [zE Q5 x0] []=(nO g c x0).map (lf Tryz.f118 e0):=kw
def ij(o:Option (zy (Qi Q1 [Q6]))):Sem Q6:=(λr:zy (Qi Q1 [Q6])=>r.1) (o.getD (cu [Q6]))
def M5(g:Sem Q5->Sem Q6)(c:Sem Q5->Bool)(x0:Sem Q5):Option (zy (Qi Q1 [Q6])):=al [Q6] t0 100000000 (nO g c x0)
def cB:Nat->Sem Q5->Option (zy (Qi Q1 [Q6]))
 |0=>λ_=>Q2
 |n+1=>M5 (λx0=>ij (cB n x0)) λx0=>(cB n x0).isSome
theorem RG:zI FA.P 118 Tryz.f118 1:=bU kw
theorem Ho:∀n,FK 118 (zP [Q5] [Q6] (λx=>(cB n x.1).isSome) λx=>(ij (cB n x.1),()))
 |0=>fj ⟨Tryz.f118,RG.1,RG.2.1,RG.2.2.1⟩ (λ_=>rfl)
 |n+1=>lG (E:=Fu (λx0=>ij (cB n x0)) (λx0=>(cB n x0).isSome)) (ks:=[Q5]) (outs:=[Q6]) (keep:=RP) (gas:=400) (n:=100000000) (e:=e0) (t:=t0) (i:=λx=>nO (λx0=>ij (cB n x0)) (λx0=>(cB n x0).isSome) x.1) (Kk (Ho n)) (zcj _ _) (λx=>zbn _ _ x.1) (T2 _ _ _ _ _) (λ_=>by kernel_rfl) (λ_=>by kernel_rfl)
def Gi(x0:Sem Q5):Option (zy (Qi Q1 [Q6])):=cB 16 x0
def qn(x0:Sem Q5):Bool:=(Gi x0).isSome
def pg(x0:Sem Q5):Sem Q6:=ij (Gi x0)
def Xi:zX:=zP [Q5] [Q6] (λx=>qn x.1) λx=>(pg x.1,())
theorem Ut:FK 118 Xi:=Ho 16
def FB:=FA.add 118 Xi
theorem mV:zw FB:=AK.add Ut
abbrev zb1:=mM [(6,[1,3])]
inductive Dt where
 |h6 (i3:Int) (z0:zn [CP.d zr])
abbrev zfX:Dt->Nat×St
 |.h6 i3 z0=>(6,⟨tm 82 [(1,Qf 0 0),(3,ai i3)],[Qa (bC [] [CP.d zr] z0)]⟩)
def Iv(x0:Sem zr):Tr (Dt⊕aw):=
 let a0:=(2,0,x0.2)
 br (x0.1==1) (Qc (uf x0.2) (re (AV.bool (sC x0.2)) []))
 (br (x0.1==2) (Q9 (Dt.h6 0 (x0,())))
  (br (x0.1==3) (Qc (lO a0) (re (AV.bool (ry a0)) [])) (br (x0.1==4) (re (AV.bool (bif x0.2==[40]then Q3 else bif x0.2==[41]then Q3 else bif x0.2==[44]then Q3 else bif x0.2==[61]then Q3 else bif x0.2==[60]then Q3 else bif x0.2==[43]then Q3 else bif x0.2==[45]then Q3 else x0.2==[42])) []) (re (kb Q4) []))))
def Cx:Dt->Tr (Dt⊕aw)
 | .h6 i3 z0=>
  let a0:=(↑(length z0.1.2):Int)
  let a1:=(↑(getD z0.1.2 i3.toNat 0).toNat:Int)
  br (Q0 (i3<a0))
  (Qc (zM i3 (length z0.1.2))
   (Qc (fx a1) (br (!gA a1) (re (kb Q4) []) (Q9 (Dt.h6 (IntKind.i64.wrap (i3+1)) z0)))))
  (re (AV.bool (bif Q0 (1<=a0)then Q0 (a0<=19)else Q4)) [])
def GC(x0:Sem zr):=al [Q7] Cx 100000000 (Iv x0)
def io(x0:Sem zr):=(GC x0).isSome
def lA(x0:Sem zr):=o1 (GC x0)
def Xp:=FT [zr] [Q7] λx=>GC x.1
theorem UA:FK 126 Xp:=mV.T1 (f:=Tryz.f126) (keep:=zb1) (e:=zfX)
abbrev RM:Nat->aM:=λ_=>{ }
theorem zcg:zI FB.P 87 Tryz.f87 2:=bU kw
def Rl(y:zn aG)(x0:TS):Tr (Empty⊕aw):=
 let a0:=(y.1,y.2.1,y.2.2.1,())
 let a1:=eV a0 x0
 Qc (dJ a0 x0)
 (br (!a1.1) (re (agg [str [],ai 0,ai 0,str [],str [],nils]) (ar aG a1.2))
  (br (x0==[87,72,69,82,69]) Tr.err (Qc (aV (a1.2.1,a1.2.2.1,a1.2.2.2.1,()) [40]) Tr.err)))
theorem zbh(y:zn aG)(x0:TS):rn FB 1 RM Tryz.f87 [Qf 0 0,zE Q6 x0] (ar aG y)=(Rl y x0).map (lf Tryz.f87 e0):=kw
def Nc(y:zn aG)(x0:TS):Option (zy (Qi Q1 [Q5])×zn aG):=kE [Q5] aG t0 100000000 (Rl y x0)
def dC(y:zn aG)(x0:TS):Bool:=(Nc y x0).isSome
def eD(y:zn aG)(x0:TS):(Sem Q5)×zn aG:=(λr:zy (Qi Q1 [Q5])×zn aG=>(r.1.1,r.2)) ((Nc y x0).getD (cu [Q5],fO aG))
def W5:zX:=rL aG [Q6] [Q5] aG (λy x=>dC y x.1) λy x=>(((eD y x.1).1,()),(eD y x.1).2)
theorem Ug:FK 87 W5:=kd (ps:=aG) (ks:=[Q6]) (outs:=[Q5]) (keep:=RM) (gas:=400) (n:=100000000) (e:=e0) (t:=t0) (i:=λy x=>Rl y x.1) mV zcg (λy x=>zbh y x.1) (T2 _ _ _ _ _) (λ_ _=>by kernel_rfl) (λ_ _=>by kernel_rfl)
def zgK(x0:TS):Tr (Empty⊕aw):=
 Qc (uf x0&&bif sC x0 then BZ x0 else Q3) (re (AV.bool (bif sC x0 then !Jo x0 else Q4)) [])
def uj(x0:TS):=al [Q7] t0 100000000 (zgK x0)
def dB(x0:TS):=(uj x0).isSome
def bp(x0:TS):=o1 (uj x0)
def zeg:=FT [Q6] [Q7] λx=>uj x.1
theorem zaz:FK 73 zeg:=mV.T1 (f:=Tryz.f73) (keep:=k0) (e:=e0)
def X9:=FB.addL [(126,Xp),(87,W5),(73,zeg)]
theorem pK:zw X9:=mV.addL<|fc UA<|fc Ug<|fc zaz jm
end
end Cad
