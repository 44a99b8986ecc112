/- Plans: places. Plans: what is there. Plans: what is wrong with a target. Plans: sources. Plans: sources, who refers. Plans: sources, who refers. -/
import Derived.Test.YtkmcdhahdadkpaaGreatDoorK10
import Derived.Test.YtkmcdhahdadkpaaGreatDoorK08
namespace Cad
open Go Go.Proofs
open List renaming map→Qi
open AV renaming ptr→Qf,tup→Qe
open Tr renaming chk→Qc,«to»→Q9
open AO renaming box→Qa
open Sh renaming bool→Q7,str→Q6,expr→Q5
open Bool renaming false→Q4,true→Q3
open Option renaming none→Q2,some→Q1
open Decidable renaming decide→Q0
open Int (toNat)
open List (getD length)
open Tr (chk br re)
open AV (nils agg tup ptr kb str sl)
noncomputable section
set_option maxHeartbeats 4000000
abbrev zz:Sh:=.pr .str (.pr .str (.pr .str (.pr zo (.pr (.sl zg) zg))))
abbrev bf:List CP:=[.d (.sl zh),.d zl,.d zo,.d zo,.d .str,.d .str,.d .str,.d .str,.nil,.d zg,.nil,.nil,.d .expr,.nil,.d zg]
abbrev al:List CP:=[.d (.sl zh),.d zl,.d zo,.d zo,.d .str,.d .str,.d .str,.d .str,.vec zj,.d zg,.nil,.nil,.d .expr,.d (.sl zg),.d zg]
abbrev Zg:Nat->aN:=λj=>if j=2 then{slots:=[0,1,7,8]}else{ }
abbrev Cw(l0:LI)(i1:Sem zg)(i7:Int)(i8:Int):St:={tmps:=(tm 19 [(0,sl zg l0),(1,ai i1),(7,ai i7),(8,ai i8)]),heap:=[]}
theorem M0:zJ (gT).P 139 Tryz.f139 2:=bQ kw
theorem zhf(x0:Sem zg.sl)(x1:Sem zg):rn gT 0 Zg Tryz.f139 [zF zg.sl x0,zF zg x1] []=Tr.ok (zC.head 2 (ae Tryz.f139 2) (Cw x0 x1 (↑(length x0):Int) 0)):=kw
theorem M6(l0:LI)(i1:Sem zg)(i7:Int)(i8:Int):rh gT 0 Zg Tryz.f139 2 (Cw l0 i1 i7 i8)=br (Q0 (i8<i7)) (Qc (zN i8 l0.length) (br (i1==l0.getD i8.toNat (zi zg)) (Tr.ok (zC.ret (ai i8) [])) (Tr.ok (zC.head 2 (ae Tryz.f139 2) (Cw l0 i1 i7 (IntKind.i64.wrap (i8+1))))))) (Tr.ok (zC.ret (ai (-1)) [])):=kw
def eE(i1:Sem zg):List (Sem zg)->Int->Sem zg
 |[],_=>(-1)
 |x::r,i8=>(if(i1==x)=Q3 then i8 else eE i1 r (i8+1))
theorem VI{C:eS}(hC:∀id,C.ρ0 id=Q2)(i1:Sem zg)(l0:LI)(hl:l0.length<=aF):∀(m i:Nat),l0.length-i=m->i<=l0.length->
  Reach (gT) C 139 (ae Tryz.f139 2) (Cw l0 i1 (l0.length:Int) (i:Int)) (λr h=>aM h [zg] r=Q1 (eE i1 (l0.drop i) i,())):=by
 intro m
 induction m with
 | zero=>
  intro i hm hi;obtain rfl:i=l0.length:=by omega
  rw[jo];refine zD dL (M0) (λid _=>hC id) (M6 _ _ _ _) ?_;generalize hy:eE i1 [] _=y;rw[eE]at hy;simp only[zA,Tr.val_brF];repeat' (first|with_reducible refine dg hy (λ_ hy=>?_) (λ_ hy=>?_)|with_reducible refine zK ?_)
  all_goals first|(cases hc;done)|(subst hy;first|rfl)
 | succ m IH=>
  intro i hm hi;have hlt:i<l0.length:=by omega
  have IH:=IH (i+1);have hcast:((i:Int)+1)=((i+1:Nat):Int):=by omega
  have hwr:=zp i ow;rw[fu hlt];refine zD dL (M0) (λid _=>hC id) (M6 _ _ _ _) ?_;generalize hy:eE i1 (l0[i]::l0.drop (i+1)) (i:Int)=y;rw[eE]at hy;simp only[zH hlt,zt hlt,cA l0 _ hlt,hwr,Tr.val_brT,Tr.val_chkT];clear hwr
  try simp only[zt hlt]at hy
  simp only[hcast]at hy;repeat' (first|with_reducible refine dg hy (λ_ hy=>?_) (λ_ hy=>?_)|with_reducible refine zK ?_)
  all_goals first|(cases hc;done)|(subst hy;first|(change Reach _ _ _ _ _ _;apply IH<;>first|omega|assumption)|rfl)
theorem Qr{C:eS}(hC:∀id,C.ρ0 id=Q2)(i1:Sem zg)(l0:LI):
  Reach (gT) C 139 (ae Tryz.f139 2) (Cw l0 i1 (l0.length:Int) 0) (λr h=>aM h [zg] r=Q1 (eE i1 l0 0,())):=
 Reach.len 0 (Sh.int IntKind.i64) l0 rfl λhl=>VI hC i1 l0 hl _ 0 rfl (aZ _)
def gV(x0:Sem zg.sl)(x1:Sem zg):Sem zg:=(eE x1 x0 0)
def zeU:zY:=aE [zg.sl,zg] [zg] λx=>(gV x.1 x.2.1,())
theorem za1:FK 139 zeU:=by
 refine zZ (M0) λx C hC=>?_
 refine zD dL (M0) (λid _=>hC id) (zhf x.1 x.2.1) ?_;generalize hy:gV x.1 x.2.1=y;unfold gV at hy
 try simp only[zf.eta]
 repeat' (first|with_reducible refine dg hy (λ_ hy=>?_) (λ_ hy=>?_)|with_reducible refine zK ?_)
 all_goals first|(cases hc;done)|(subst hy;first|(change Reach _ _ _ _ _ _;apply Qr hC<;>first|assumption|exact hc)|rfl)
abbrev Zh:Nat->aN:=λj=>if j=2 then{slots:=[0,1,7,8]}else{ }
abbrev Cx(l0:LS)(s1:TS)(i7:Int)(i8:Int):St:={tmps:=(tm 19 [(0,sl Q6 l0),(1,str s1),(7,ai i7),(8,ai i8)]),heap:=[]}
theorem M1:zJ (gT).P 198 Tryz.f198 2:=bQ kw
theorem zhk(x0:Sem Sh.str.sl)(x1:TS):rn gT 0 Zh Tryz.f198 [zF Sh.str.sl x0,zF Q6 x1] []=Tr.ok (zC.head 2 (ae Tryz.f198 2) (Cx x0 x1 (↑(length x0):Int) 0)):=kw
theorem M7(l0:LS)(s1:TS)(i7:Int)(i8:Int):rh gT 0 Zh Tryz.f198 2 (Cx l0 s1 i7 i8)=br (Q0 (i8<i7)) (Qc (zN i8 l0.length) (br (s1==l0.getD i8.toNat (zi Q6)) (Tr.ok (zC.ret (ai i8) [])) (Tr.ok (zC.head 2 (ae Tryz.f198 2) (Cx l0 s1 i7 (IntKind.i64.wrap (i8+1))))))) (Tr.ok (zC.ret (ai (-1)) [])):=kw
def im(s1:TS):List (Sem Q6)->Int->Sem zg
 |[],_=>(-1)
 |x::r,i8=>(if(s1==x)=Q3 then i8 else im s1 r (i8+1))
theorem VJ{C:eS}(hC:∀id,C.ρ0 id=Q2)(s1:TS)(l0:LS)(hl:l0.length<=aF):∀(m i:Nat),l0.length-i=m->i<=l0.length->
  Reach (gT) C 198 (ae Tryz.f198 2) (Cx l0 s1 (l0.length:Int) (i:Int)) (λr h=>aM h [zg] r=Q1 (im s1 (l0.drop i) i,())):=by
 intro m
 induction m with
 | zero=>
  intro i hm hi;obtain rfl:i=l0.length:=by omega
  rw[jo];refine zD dL (M1) (λid _=>hC id) (M7 _ _ _ _) ?_;generalize hy:im s1 [] _=y;rw[im]at hy;simp only[zA,Tr.val_brF];repeat' (first|with_reducible refine dg hy (λ_ hy=>?_) (λ_ hy=>?_)|with_reducible refine zK ?_)
  all_goals first|(cases hc;done)|(subst hy;first|rfl)
 | succ m IH=>
  intro i hm hi;have hlt:i<l0.length:=by omega
  have IH:=IH (i+1);have hcast:((i:Int)+1)=((i+1:Nat):Int):=by omega
  have hwr:=zp i ow;rw[fu hlt];refine zD dL (M1) (λid _=>hC id) (M7 _ _ _ _) ?_;generalize hy:im s1 (l0[i]::l0.drop (i+1)) (i:Int)=y;rw[im]at hy;simp only[zH hlt,zt hlt,cA l0 _ hlt,hwr,Tr.val_brT,Tr.val_chkT];clear hwr
  try simp only[zt hlt]at hy
  simp only[hcast]at hy;repeat' (first|with_reducible refine dg hy (λ_ hy=>?_) (λ_ hy=>?_)|with_reducible refine zK ?_)
  all_goals first|(cases hc;done)|(subst hy;first|(change Reach _ _ _ _ _ _;apply IH<;>first|omega|assumption)|rfl)
theorem Qt{C:eS}(hC:∀id,C.ρ0 id=Q2)(s1:TS)(l0:LS):
  Reach (gT) C 198 (ae Tryz.f198 2) (Cx l0 s1 (l0.length:Int) 0) (λr h=>aM h [zg] r=Q1 (im s1 l0 0,())):=
 Reach.len 0 (Q6) l0 rfl λhl=>VJ hC s1 l0 hl _ 0 rfl (aZ _)
def IM(x0:Sem Sh.str.sl)(x1:TS):Sem zg:=(im x1 x0 0)
def zfd:zY:=aE [Sh.str.sl,Q6] [zg] λx=>(IM x.1 x.2.1,())
theorem zbj:FK 198 zfd:=by
 refine zZ (M1) λx C hC=>?_
 refine zD dL (M1) (λid _=>hC id) (zhk x.1 x.2.1) ?_;generalize hy:IM x.1 x.2.1=y;unfold IM at hy
 try simp only[zf.eta]
 repeat' (first|with_reducible refine dg hy (λ_ hy=>?_) (λ_ hy=>?_)|with_reducible refine zK ?_)
 all_goals first|(cases hc;done)|(subst hy;first|(change Reach _ _ _ _ _ _;apply Qt hC<;>first|assumption|exact hc)|rfl)
abbrev Sg:Nat->aN:=λj=>if j=2 then{slots:=[0,3,7,8]}else{ }
abbrev ux(l0:LF)(i7:Int)(i8:Int)(ja0:Sem zg)(ja1:TS):St:={tmps:=(tm 19 [(0,sl zr l0),(3,Qf 0 0),(7,ai i7),(8,ai i8)]),heap:=[Qa [ai ja0,str ja1]]}
theorem F9:zJ (gT).P 189 Tryz.f189 2:=bQ kw
theorem zbY(x0:Sem zr.sl)(x1:Sem zr):rn gT 0 Sg Tryz.f189 [zF zr.sl x0,zF zr x1] []=Tr.ok (zC.head 2 (ae Tryz.f189 2) (ux x0 (↑(length x0):Int) 0 x1.1 x1.2)):=kw
theorem I6(l0:LF)(i7:Int)(i8:Int)(ja0:Sem zg)(ja1:TS):rh gT 0 Sg Tryz.f189 2 (ux l0 i7 i8 ja0 ja1)=br (Q0 (i8<i7)) (Qc (zN i8 l0.length) (br (ja0==(l0.getD i8.toNat (zi zr)).1&&(ja1==(l0.getD i8.toNat (zi zr)).2&&Q3)) (Tr.ok (zC.ret (ai i8) [])) (Tr.ok (zC.head 2 (ae Tryz.f189 2) (ux l0 i7 (IntKind.i64.wrap (i8+1)) ja0 ja1))))) (Tr.ok (zC.ret (ai (-1)) [])):=kw
def il(ja0:Sem zg)(ja1:TS):List (Sem zr)->Int->Sem zg
 |[],_=>(-1)
 |x::r,i8=>(if(ja0==x.1&&(ja1==x.2&&Q3))=Q3 then i8 else il ja0 ja1 r (i8+1))
theorem Qn{C:eS}(hC:∀id,C.ρ0 id=Q2)(ja0:Sem zg)(ja1:TS)(l0:LF)(hl:l0.length<=aF):∀(m i:Nat),l0.length-i=m->i<=l0.length->
  Reach (gT) C 189 (ae Tryz.f189 2) (ux l0 (l0.length:Int) (i:Int) ja0 ja1) (λr h=>aM h [zg] r=Q1 (il ja0 ja1 (l0.drop i) i,())):=by
 intro m
 induction m with
 | zero=>
  intro i hm hi;obtain rfl:i=l0.length:=by omega
  rw[jo];refine zD dL (F9) (λid _=>hC id) (I6 _ _ _ _ _) ?_;generalize hy:il ja0 ja1 [] _=y;rw[il]at hy;simp only[zA,Tr.val_brF];repeat' (first|with_reducible refine dg hy (λ_ hy=>?_) (λ_ hy=>?_)|with_reducible refine zK ?_)
  all_goals first|(cases hc;done)|(subst hy;first|rfl)
 | succ m IH=>
  intro i hm hi;have hlt:i<l0.length:=by omega
  have IH:=IH (i+1);have hcast:((i:Int)+1)=((i+1:Nat):Int):=by omega
  have hwr:=zp i ow;rw[fu hlt];refine zD dL (F9) (λid _=>hC id) (I6 _ _ _ _ _) ?_;generalize hy:il ja0 ja1 (l0[i]::l0.drop (i+1)) (i:Int)=y;rw[il]at hy;simp only[zH hlt,zt hlt,cA l0 _ hlt,hwr,Tr.val_brT,Tr.val_chkT];clear hwr
  try simp only[zt hlt]at hy
  simp only[hcast]at hy;repeat' (first|with_reducible refine dg hy (λ_ hy=>?_) (λ_ hy=>?_)|with_reducible refine zK ?_)
  all_goals first|(cases hc;done)|(subst hy;first|(change Reach _ _ _ _ _ _;apply IH<;>first|omega|assumption)|rfl)
theorem Oa{C:eS}(hC:∀id,C.ρ0 id=Q2)(ja0:Sem zg)(ja1:TS)(l0:LF):
  Reach (gT) C 189 (ae Tryz.f189 2) (ux l0 (l0.length:Int) 0 ja0 ja1) (λr h=>aM h [zg] r=Q1 (il ja0 ja1 l0 0,())):=
 Reach.len 0 (zg.pr Q6) l0 rfl λhl=>Qn hC ja0 ja1 l0 hl _ 0 rfl (aZ _)
def IL(x0:Sem zr.sl)(x1:Sem zr):Sem zg:=(il x1.1 x1.2 x0 0)
def XE:zY:=aE [zr.sl,zr] [zg] λx=>(IL x.1 x.2.1,())
theorem UR:FK 189 XE:=by
 refine zZ (F9) λx C hC=>?_
 refine zD dL (F9) (λid _=>hC id) (zbY x.1 x.2.1) ?_;generalize hy:IL x.1 x.2.1=y;unfold IL at hy
 try simp only[zf.eta]
 repeat' (first|with_reducible refine dg hy (λ_ hy=>?_) (λ_ hy=>?_)|with_reducible refine zK ?_)
 all_goals first|(cases hc;done)|(subst hy;first|(change Reach _ _ _ _ _ _;apply Oa hC<;>first|assumption|exact hc)|rfl)
abbrev zhO:Nat->aN:=λ_=>{ }
theorem Zn:zJ (gT).P 53 Tryz.f53 1:=bQ kw
theorem zgY(x0:Sem zz):rn gT 0 zhO Tryz.f53 [zF zz x0] []=br (x0.2.2.1==[]) (Tr.ok (zC.ret (sl Q6 [x0.2.1]) [])) (Tr.ok (zC.ret (sl Q6 [x0.2.1,x0.2.2.1]) [])):=kw
def kJ(x0:Sem zz):Sem Sh.str.sl:=(if(x0.2.2.1==[])=Q3 then[x0.2.1]else[x0.2.1,x0.2.2.1])
def zd7:zY:=aE [zz] [Sh.str.sl] λx=>(kJ x.1,())
theorem Z6:FK 53 zd7:=by
 refine zZ (Zn) λx C hC=>?_
 refine zD dL (Zn) (λid _=>hC id) (zgY x.1) ?_;generalize hy:kJ x.1=y;unfold kJ at hy
 try simp only[zf.eta]
 repeat' (first|with_reducible refine dg hy (λ_ hy=>?_) (λ_ hy=>?_)|with_reducible refine zK ?_)
 all_goals first|(cases hc;done)|(subst hy;first|rfl)
def XC:zY:=bg (List.replicate 2 Q2) (fe gT Tryz.f185 (List.replicate 2 Q2))
theorem UP:FK 185 XC:=bY _ dL (bQ kw)
def w8:=gT.addL [(139,zeU),(198,zfd),(189,XE),(53,zd7),(185,XC)]
theorem pL:zx w8:=dL.addL<|fc za1<|fc zbj<|fc UR<|fc Z6<|fc UP iV
abbrev zcw:Nat->aN:=λ_=>{ }
theorem SV:zJ (w8).P 186 Tryz.f186 2:=bQ kw
theorem zbX(x0:Sem zg.sl)(x1:Sem zg):rn w8 0 zcw Tryz.f186 [zF zg.sl x0,zF zg x1] []=Tr.ok (zC.ret (AV.bool (Q0 (gV x0 x1>=0))) []):=kw
def sm(x0:Sem zg.sl)(x1:Sem zg):Sem Q7:=(Q0 (gV x0 x1>=0))
def XD:zY:=aE [zg.sl,zg] [Q7] λx=>(sm x.1 x.2.1,())
theorem UQ:FK 186 XD:=by
 refine zZ (SV) λx C hC=>?_
 refine zD pL (SV) (λid _=>hC id) (zbX x.1 x.2.1) ?_;generalize hy:sm x.1 x.2.1=y;unfold sm at hy
 try simp only[zf.eta]
 repeat' (first|with_reducible refine dg hy (λ_ hy=>?_) (λ_ hy=>?_)|with_reducible refine zK ?_)
 all_goals first|(cases hc;done)|(subst hy;first|rfl)
abbrev zh4:Nat->aN:=λ_=>{ }
theorem Zq:zJ (w8).P 149 Tryz.f149 2:=bQ kw
theorem zg9(x0:Sem Sh.str.sl)(x1:TS):rn w8 0 zh4 Tryz.f149 [zF Sh.str.sl x0,zF Q6 x1] []=Tr.ok (zC.ret (AV.bool (Q0 (IM x0 x1>=0))) []):=kw
def aA(x0:Sem Sh.str.sl)(x1:TS):Sem Q7:=(Q0 (IM x0 x1>=0))
def zeF:zY:=aE [Sh.str.sl,Q6] [Q7] λx=>(aA x.1 x.2.1,())
theorem zaI:FK 149 zeF:=by
 refine zZ (Zq) λx C hC=>?_
 refine zD pL (Zq) (λid _=>hC id) (zg9 x.1 x.2.1) ?_;generalize hy:aA x.1 x.2.1=y;unfold aA at hy
 try simp only[zf.eta]
 repeat' (first|with_reducible refine dg hy (λ_ hy=>?_) (λ_ hy=>?_)|with_reducible refine zK ?_)
 all_goals first|(cases hc;done)|(subst hy;first|rfl)
abbrev zid:Nat->aN:=λ_=>{ }
theorem Zs:zJ (w8).P 141 Tryz.f141 2:=bQ kw
theorem zhg(x0:Sem zr.sl)(x1:Sem zr):rn w8 0 zid Tryz.f141 [zF zr.sl x0,zF zr x1] []=Tr.ok (zC.ret (AV.bool (Q0 (IL x0 x1>=0))) []):=kw
def jH(x0:Sem zr.sl)(x1:Sem zr):Sem Q7:=(Q0 (IL x0 x1>=0))
def zeW:zY:=aE [zr.sl,zr] [Q7] λx=>(jH x.1 x.2.1,())
theorem za3:FK 141 zeW:=by
 refine zZ (Zs) λx C hC=>?_
 refine zD pL (Zs) (λid _=>hC id) (zhg x.1 x.2.1) ?_;generalize hy:jH x.1 x.2.1=y;unfold jH at hy
 try simp only[zf.eta]
 repeat' (first|with_reducible refine dg hy (λ_ hy=>?_) (λ_ hy=>?_)|with_reducible refine zK ?_)
 all_goals first|(cases hc;done)|(subst hy;first|rfl)
def Ii:=w8.addL [(186,XD),(149,zeF),(141,zeW)]
theorem D4:zx Ii:=pL.addL<|fc UQ<|fc zaI<|fc za3 iV
abbrev Sn:Nat->aN:=λj=>if j=2 then{slots:=[0,12,13,14]}else{ }
inductive HE where
 |h2 (i13:Int) (i14:Int) (z0:zn al)
abbrev QJ:HE->Nat×St
 |.h2 i13 i14 z0=>(2,⟨tm 65 [(0,Qf 0 0),(12,AV.vec 1),(13,ai i13),(14,ai i14)],[Qa (bC [1] al z0),AO.vec zj z0.t.t.1]⟩)
theorem ziS:zJ Ii.P 102 Tryz.f102 1:=bQ kw
def Wh(y:zn al):Tr (HE⊕ar):=Q9 (HE.h2 (↑y.t.t.1.length:Int) 0 y)
def Hf(i13:Int)(i14:Int)(z0:zn al)(a0:zf)(a1:Sem zj)(a2:Sem zg×Sem zg):Tr (HE⊕ar):=br (Q0 (i14<i13)) (Qc (zN i14 z0.t.t.1.length) (Qc (Q0 (i14.toNat<z0.t.t.1.length)) (br (zQ (z0.t.q.2.1,z0.t.t.1,z0.t.t.2.1,[],[],a0) a1.1!=i14) (re (ai 7) (au al z0)) (Q9 (HE.h2 i13 (IntKind.i64.wrap (i14+1)) z0))))) (br (zf.op z0.t.t.q.1==[]) (re (ai 0) (au al z0)) (br (bif a2.2==0 then bif a2.1!=3 then a2.1!=0 else Q4 else Q4) (re (ai 5) (au al z0)) (re (ai a2.2) (au al z0))))
def LZ(i13:Int)(i14:Int)(z0:zn al):Tr (HE⊕ar):=
 let a0:=zm z0.t.t.q.1
 let a1:=z0.t.t.1.getD i14.toNat (zi zj)
 let a2:=bG a0 z0.t.t.1
 Hf i13 i14 z0 a0 a1 a2
theorem zg6(y:zn al):rn Ii 2 Sn Tryz.f102 [Qf 0 0] (au al y)=(Wh y).map (lf Tryz.f102 QJ):=kw
def JX:HE->Tr (HE⊕ar)
 |.h2 i13 i14 z0=>LZ i13 i14 z0
theorem zjy:∀s,run Ii 2 Sn (Func.results Tryz.f102).toList 400 (ae Tryz.f102 (QJ s).1) (QJ s).2=(JX s).map (lf Tryz.f102 QJ)|.h2 i13 i14 z0=>by kernel_rfl
def tK(y:zn al):Option (zy (Qi Q1 [zg])×zn al):=kI [zg] al JX 100000000 (Wh y)
def gu(y:zn al):Bool:=(tK y).isSome
def fg(y:zn al):(Sem zg)×zn al:=(λr:zy (Qi Q1 [zg])×zn al=>(r.1.1,r.2)) ((tK y).getD (cw [zg],fS al))
def zev:zY:=rP al [] [zg] al (λy _=>gu y) λy _=>(((fg y).1,()),(fg y).2)
theorem zay:FK 102 zev:=ki (keep:=Sn) (gas:=400) (n:=100000000) (e:=QJ) (t:=JX) (i:=λy x=>Wh y) D4 ziS (λy x=>zg6 y) zjy (λ_ _=>by kernel_rfl) (λ_ _=>by kernel_rfl)
def Rj:=Ii.add 102 zev
theorem D5:zx Rj:=D4.add zay
def ze1:zY:=bg (List.replicate 2 Q2) (fe Rj Tryz.f148 (List.replicate 2 Q2))
theorem za7:FK 148 ze1:=bY _ D5 (bQ kw)
def Ij:=Rj.add 148 ze1
theorem vM:zx Ij:=D5.add za7
abbrev yR(s:List zB)(l:LF)(i:Int):St:={tmps:=[.sl zr l,.clo (.func 148) [] [.ptr 0 0],.any,.any,.any,.any,.any,.int .i64 l.length,.int .i64 i,.any,.any,.any,.any,.any,.any,.any,.any,.any,.any],heap:=[.box [.sl .str s]]}
theorem RF(s:List zB)(l:LF):run Ij 1 xM Tryz.f199.results.toList 300 (bt Tryz.f199) (bc Tryz.f199.ntmps [.sl zr l,.clo (.func 148) [] [.ptr 0 0]] [.box [.sl .str s]])=.ok (.head 2 (ae Tryz.f199 2) (yR s l 0)):=kw
theorem Tf(s:List zB)(l:LF)(i:Int):run Ij 1 xM Tryz.f199.results.toList 300 (ae Tryz.f199 2) (yR s l i)=na (K:=ae Tryz.f199 2) (e:=zr) l (λx=>aA s x.2) (yR s l) [.box [.sl .str s]] i:=kw
theorem S7:zJ Ij.P 199 Tryz.f199 2:=bQ kw
def zgw:ic [Q1 (.sl zr),Q2]:=λx h=>match x,h with
 |(l,.clo (.func 148) [] [.ptr 0 0],_),[.box [.sl .str s]]=>.ok (.int .i64 (zU (λx=>aA s x.2) l 0),[.box [.sl .str s]])
 |_,_=>.err
def zfg:zY:=bg [Q1 (.sl zr),Q2] zgw
theorem zbn:FK 199 zfg:=by
 refine dt S7 λx h0 res hx C hC=>?_
 unfold zgw at hx;split at hx
 ·rename_i l u s;simp only[Tr.val_ok,bz]at hx;subst hx;refine Reach.len 0 zr l rfl λhl=>?_
  refine zD (n0:=1) vM S7 hC (RF s l) ?_;exact kg l (λx=>aA s x.2) (yR s l) vM S7 hC (Tf s l) hl _ 0 rfl (aZ _)
 ·simp at hx
def Rk:=Ij.add 199 zfg
theorem D6:zx Rk:=vM.add zbn
def ze2:zY:=bg (List.replicate 2 Q2) (fe Rk Tryz.f150 (List.replicate 2 Q2))
theorem za8:FK 150 ze2:=bY _ D6 (bQ kw)
def YA:=Rk.add 150 ze2
theorem vN:zx YA:=D6.add za8
abbrev cpR:List CP:=[.d zh]
abbrev zbJ:List CP:=[.d .str,.nil,.d zg,.nil,.nil,.d .str,.d zg,.d zg,.d .str,.d .str,.nil,.nil]
abbrev zgB:List CP:=[.d zo,.vec (.sl ze)]
abbrev oq:List CP:=[.d zl]
abbrev iO:List CP:=[.d .str,.d .str,.d .str,.nil,.nil,.d .str,.nil,.nil,.d .str,.d zg,.d zg,.d .str,.d .str,.nil,.nil,.nil,.d .str,.d zg,.d zg,.d .str,.d .str,.nil,.d .str]
abbrev QA:List CP:=[.d .str,.d .str,.d .str,.d (.sl .str),.d (.sl zj),.d .str,.d (.sl .str),.vec iK,.d .expr,.d (.sl ze),.nil,.d .expr,.d .str]
abbrev QB:List CP:=[.d .str,.d .str,.d .str,.d (.sl .str),.d (.sl zj),.d .str,.d (.sl .str),.vec iK,.d .expr,.d (.sl ze),.vec g6,.d .expr,.d .str]
abbrev zhP:Nat->aN:=λj=>if j=6 then{slots:=[1,2,3,4,5],prom:=[(3,Q1 11,.sl ze)]}else{ }
inductive Ke where
 |h6 (i4:Int) (i5:Int) (z0:zn cpR) (z1:zn zbJ) (z2:zn zgB)
abbrev zkv:Ke->Nat×St
 |.h6 i4 i5 z0 z1 z2=>(6,⟨tm 38 [(1,Qf 0 0),(2,Qf 1 0),(3,Qf 2 0),(4,ai i4),(5,ai i5)],[Qa (bC [] cpR z0),Qa (bC [] zbJ z1),Qa (bC [3] zgB z2),AO.vec ze.sl z2.2.1]⟩)
def zcf(x0:Sem zh):Tr (Ke⊕ar):=
 let a0:=(CR (x0.1.1,x0.1.2.1,x0.1.2.2.1,x0.1.2.2.2.1,x0.1.t.1,zm x0.1.t.2),[],())
 br (Q0 ((↑(length x0.2):Int)>200)) (Q9 (Ke.h6 201 0 (x0,()) ([],0,[],0,0,[],[],()) a0))
 (Q9 (Ke.h6 40 0 (x0,()) ([],0,[],0,0,[],[],()) a0))
def Pu:Ke->Tr (Ke⊕ar)
 | .h6 i4 i5 z0 z1 z2=>
  let a0:=(↑(length z0.1.2):Int)
  let a1:=[lx (getD z0.1.2 i5.toNat (zi ze.sl))]
  br (bif Q0 (i5<a0)then Q0 (i5<i4)else Q4)
  (Qc (zN i5 (length z0.1.2))
   (Qc (Q0 (z2.2.1.length+a1.length<=1073741824)) (Q9 (Ke.h6 i4 (IntKind.i64.wrap (i5+1)) z0 z1 (z2.1,z2.2.1++a1,())))))
  (re
   (agg [str z2.1.1,sl zj z2.1.2.1,ai z2.1.2.2.1,sl zg z2.1.2.2.2.1,sl zr z2.1.t.1,str (zf.op z2.1.t.2),ai (zf.v z2.1.t.2).1,ai (zf.v z2.1.t.2).2.1,str (zf.v z2.1.t.2).2.2,str (zf.s z2.1.t.2),sl Q5 (zf.l z2.1.t.2),AV.vec 0])
   [AO.vec ze.sl z2.2.1])
def Bm(x0:Sem zh):=ao [zh] Pu 100000000 (zcf x0)
def K5(x0:Sem zh):=(Bm x0).isSome
def xt(x0:Sem zh):=o1 (Bm x0)
def zea:=FT [zh] [zh] λx=>Bm x.1
theorem zab:FK 37 zea:=vN.T1 (f:=Tryz.f37) (keep:=zhP) (e:=zkv)
abbrev zmg:Nat->aN:=λj=>if j=3 then{slots:=[1,2,3,4],prom:=[(3,Q1 7,iK)]}else if j=7 then{slots:=[1,2,3,5],prom:=[(3,Q1 15,g6)]}else{ }
inductive Yl where
 |h3 (i4:Int) (z0:zn oq) (z1:zn iO) (z2:zn QA)
 |h7 (i5:Int) (z0:zn oq) (z1:zn iO) (z2:zn QB)
abbrev e8p:Yl->Nat×St
 |.h3 i4 z0 z1 z2=>(3,⟨tm 103 [(1,Qf 0 0),(2,Qf 1 0),(3,Qf 2 0),(4,ai i4)],[Qa (bC [] oq z0),Qa (bC [] iO z1),Qa (bC [3] QA z2),AO.vec (Sh.str.pr Q6) z2.t.q.2.1]⟩)
 |.h7 i5 z0 z1 z2=>(7,⟨tm 103 [(1,Qf 0 0),(2,Qf 1 0),(3,Qf 2 0),(5,ai i5)],[Qa (bC [] oq z0),Qa (bC [] iO z1),Qa (bC [3,4] QB z2),AO.vec (Sh.str.pr Q6) z2.t.q.2.1,AO.vec (Sh.str.pr Q5) z2.t.t.q.1]⟩)
def i8p(x0:Sem zl):Tr (Yl⊕ar):=
 Qc (ff x0.1)
 (Qc (ff x0.2.1)
  (Qc (ff x0.2.2.1) (Qc (ff x0.t.2.1) (Qc (ff x0.t.t.t) (Qc (oZ x0.2.2.2.1) (Qc (oZ x0.t.q.1) (Q9 (Yl.h3 0 (x0,()) ([],[],[],[],[],0,0,[],[],[],0,0,[],[],[],()) (cV x0.1,cV x0.2.1,cV x0.2.2.1,jS x0.2.2.2.1,ju x0.t.1,
  cV x0.t.2.1,jS x0.t.q.1,[],gJ (zm x0.t.t.1),lx x0.t.t.2.1,gJ (zm x0.t.t.q.2.1),cV x0.t.t.t,())))))))))
def Xd:Yl->Tr (Yl⊕ar)
 | .h3 i4 z0 z1 z2=>
  let a0:=(↑(length z0.1.t.q.2.1):Int)
  let a1:=zN i4 (length z0.1.t.q.2.1)
  let a2:=getD z0.1.t.q.2.1 i4.toNat (zi iK)
  let a3:=[(cV a2.1,cV a2.2)]
  br (bif Q0 (i4<a0)then Q0 (i4<10)else Q4)
  (Qc a1
   (Qc (ff a2.1) (Qc a1 (Qc (ff a2.2) (Qc (Q0 (z2.t.q.2.1.length+a3.length<=1073741824)) (Q9 (Yl.h3 (IntKind.i64.wrap (i4+1)) z0 z1 (z2.1,z2.2.1,z2.2.2.1,z2.2.2.2.1,z2.t.1,z2.t.2.1,z2.t.q.1,z2.t.q.2.1++a3,z2.t.t))))))))
  (Q9
   (Yl.h7 0 z0 z1 (z2.1,z2.2.1,z2.2.2.1,z2.2.2.2.1,z2.t.1,z2.t.2.1,z2.t.q.1,z2.t.q.2.1,z2.t.t.1,z2.t.t.2.1,[],z2.t.t.q)))
 | .h7 i5 z0 z1 z2=>
  let a0:=(↑(length z0.1.t.t.q.1):Int)
  let a1:=zN i5 (length z0.1.t.t.q.1)
  let a2:=getD z0.1.t.t.q.1 i5.toNat (zi g6)
  let a3:=[(cV a2.1,zm (gJ (zm a2.2)))]
  br (bif Q0 (i5<a0)then Q0 (i5<10)else Q4)
  (Qc a1
   (Qc (ff a2.1) (Qc a1 (Qc (Q0 (z2.t.t.q.1.length+a3.length<=1073741824)) (Q9 (Yl.h7 (IntKind.i64.wrap (i5+1)) z0 z1 (z2.1,z2.2.1,z2.2.2.1,z2.2.2.2.1,z2.t.1,z2.t.2.1,z2.t.q.1,z2.t.q.2.1,z2.t.t.1,z2.t.t.2.1,z2.t.t.q.1++a3,z2.t.t.q.2)))))))
  (re
   (agg [str z2.1,str z2.2.1,str z2.2.2.1,sl Q6 z2.2.2.2.1,sl zj z2.t.1,str z2.t.2.1,sl Q6 z2.t.q.1,AV.vec 0,str (zf.op z2.t.t.1),ai (zf.v z2.t.t.1).1,ai (zf.v z2.t.t.1).2.1,str (zf.v z2.t.t.1).2.2,str (zf.s z2.t.t.1),
   sl Q5 (zf.l z2.t.t.1),sl ze z2.t.t.2.1,AV.vec 1,str (zf.op z2.t.t.q.2.1),ai (zf.v z2.t.t.q.2.1).1,ai (zf.v z2.t.t.q.2.1).2.1,str (zf.v z2.t.t.q.2.1).2.2,str (zf.s z2.t.t.q.2.1),
   sl Q5 (zf.l z2.t.t.q.2.1),str z2.t.t.t.1])
   [AO.vec (Sh.str.pr Q6) z2.t.q.2.1,AO.vec (Sh.str.pr Q5) z2.t.t.q.1])
def vY(x0:Sem zl):=ao [zl] Xd 100000000 (i8p x0)
def K3(x0:Sem zl):=(vY x0).isSome
def Su(x0:Sem zl):=o1 (vY x0)
def F8p:=FT [zl] [zl] λx=>vY x.1
theorem zgh:FK 24 F8p:=vN.T1 (f:=Tryz.f24) (keep:=zmg) (e:=e8p)
def YC:=YA.addL [(37,zea),(24,F8p)]
theorem Eb:zx YC:=vN.addL<|fc zab<|fc zgh iV
abbrev zmb:Nat->aN:=λj=>if j=3 then{slots:=[0,3,4],prom:=[(3,Q2,zh)]}else{ }
inductive H7p where
 |h3 (l0:List (Sem zh)) (i4:Int) (lh_0:List (Sem zh))
abbrev e7p:H7p->Nat×St
 |.h3 l0 i4 lh_0=>(3,⟨tm 24 [(0,sl zh l0),(3,AV.vec 0),(4,ai i4)],[AO.vec zh lh_0]⟩)
def i7p(x0:Sem zh.sl):Tr (H7p⊕ar):=
 Q9 (H7p.h3 x0 0 [])
def t7p:H7p->Tr (H7p⊕ar)
 | .h3 l0 i4 lh_0=>
  let a0:=l0.getD i4.toNat (zi zh)
  let a1:=((a0.1.1,a0.1.2.1,a0.1.2.2.1,a0.1.2.2.2.1,a0.1.t.1,zm a0.1.t.2),a0.2)
  let a2:=xt a1
  let a3:=[((a2.1.1,a2.1.2.1,a2.1.2.2.1,a2.1.2.2.2.1,a2.1.t.1,zm a2.1.t.2),a2.2)]
  br (bif Q0 (i4<(↑l0.length:Int))then Q0 (i4<13)else Q4)
  (Qc (zN i4 l0.length)
   (Qc (K5 a1) (Qc (Q0 (lh_0.length+a3.length<=1073741824)) (Q9 (H7p.h3 l0 (IntKind.i64.wrap (i4+1)) (lh_0++a3))))))
  (re (AV.vec 0)
   [AO.vec zh lh_0])
def Bn(x0:Sem zh.sl):=ao [zh.sl] t7p 100000000 (i7p x0)
def K6(x0:Sem zh.sl):=(Bn x0).isSome
def EB(x0:Sem zh.sl):=o1 (Bn x0)
def F7p:=FT [zh.sl] [zh.sl] λx=>Bn x.1
theorem zf8:FK 23 F7p:=Eb.T1 (f:=Tryz.f23) (keep:=zmb) (e:=e7p)
def In:=YC.add 23 F7p
theorem Ec:zx In:=Eb.add zf8
abbrev Sm:Nat->aN:=λj=>if j=3 then{slots:=[0,3,14,15,16]}else if j=11 then{slots:=[0,3,55,56,57]}else{ }
inductive uY where
 |h3 (l14:LS) (i15:Int) (i16:Int) (z0:zn bf) (jb0:LS)
 |h11 (l55:List (Sem zh)) (i56:Int) (i57:Int) (z0:zn bf) (jb0:LS)
abbrev QI:uY->Nat×St
 |.h3 l14 i15 i16 z0 jb0=>(3,⟨tm 122 [(0,Qf 0 0),(3,Qf 1 0),(14,sl Q6 l14),(15,ai i15),(16,ai i16)],[Qa (bC [] bf z0),Qa [sl Q6 jb0]]⟩)
 |.h11 l55 i56 i57 z0 jb0=>(11,⟨tm 122 [(0,Qf 0 0),(3,Qf 1 0),(55,sl zh l55),(56,ai i56),(57,ai i57)],[Qa (bC [] bf z0),Qa [sl Q6 jb0]]⟩)
theorem ziR:zJ In.P 101 Tryz.f101 1:=bQ kw
def Wg(y:zn bf):Tr (uY⊕ar):=
 let a0:=kJ (y.t.1,y.t.2.1,y.t.q.1,(y.t.q.2.1,[],y.t.t.1,[],[],zm y.t.t.2.1),[],y.t.t.q.1)
 Q9 (uY.h3 a0 (↑(length a0):Int) 0 y a0)
def He(l14:LS)(i15:Int)(i16:Int)(z0:zn bf)(jb0:LS)(a0:Sem zg)(a1:Sem zg):Tr (uY⊕ar):=br (Q0 (i16<i15)) (Qc (zN i16 l14.length) (br (Q0 (a0<0)) (re (ai 6) (au bf z0)) (Q9 (uY.h3 l14 i15 (IntKind.i64.wrap (i16+1)) z0 jb0)))) (br (bif Q0 (a1>=0)then Q3 else z0.t.2.1==z0.t.q.1) (re (ai 7) (au bf z0)) (Q9 (uY.h11 z0.1 (↑(length z0.1):Int) 0 z0 jb0)))
def LY(l14:LS)(i15:Int)(i16:Int)(z0:zn bf)(jb0:LS):Tr (uY⊕ar):=
 let a0:=zV z0.1 (l14.getD i16.toNat (zi Q6))
 let a1:=zV z0.1 z0.2.1.2.1
 He l14 i15 i16 z0 jb0 a0 a1
def CM(l55:List (Sem zh))(i56:Int)(i57:Int)(z0:zn bf)(jb0:LS)(a0:Sem zh)(a1:Int)(a2:Sem zg)(a3:Sem zg)(a4:Sem zh)(a5:Sem zh):Tr (uY⊕ar):=br (Q0 (i57<i56)) (Qc (zN i57 l55.length) (br (!aA jb0 a0.1.1) (br (Q0 (a1>=0)) (re (ai 10) (au bf z0)) (Q9 (uY.h11 l55 i56 (IntKind.i64.wrap (i57+1)) z0 jb0))) (Q9 (uY.h11 l55 i56 (IntKind.i64.wrap (i57+1)) z0 jb0)))) (Qc (zN a2 (length z0.1)) (br (!z0.t.q.1==[]) (Qc (zN a3 (length z0.1)) (re (ai 0) (au bf (z0.1,z0.2.1,a4.1,a5.1,z0.t)))) (re (ai 0) (au bf (z0.1,z0.2.1,a4.1,z0.2.2.2)))))
def Hd(l55:List (Sem zh))(i56:Int)(i57:Int)(z0:zn bf)(jb0:LS):Tr (uY⊕ar):=
 let a0:=l55.getD i57.toNat (zi zh)
 let a1:=zU (λx=>aA jb0 x.2) a0.1.t.1 0
 let a2:=zV z0.1 z0.t.2.1
 let a3:=zV z0.1 z0.t.q.1
 let a4:=getD z0.1 (toNat a2) (zi zh)
 let a5:=getD z0.1 (toNat a3) (zi zh)
 CM l55 i56 i57 z0 jb0 a0 a1 a2 a3 a4 a5
theorem zg5(y:zn bf):rn In 1 Sm Tryz.f101 [Qf 0 0] (au bf y)=(Wg y).map (lf Tryz.f101 QI):=kw
def CL:uY->Tr (uY⊕ar)
 |.h3 l14 i15 i16 z0 jb0=>LY l14 i15 i16 z0 jb0
 |.h11 l55 i56 i57 z0 jb0=>Hd l55 i56 i57 z0 jb0
theorem zjx:∀s,run In 1 Sm (Func.results Tryz.f101).toList 400 (ae Tryz.f101 (QI s).1) (QI s).2=(CL s).map (lf Tryz.f101 QI)|.h3 l14 i15 i16 z0 jb0=>by kernel_rfl|.h11 l55 i56 i57 z0 jb0=>by kernel_rfl
def pY(y:zn bf):Option (zy (Qi Q1 [zg])×zn bf):=kI [zg] bf CL 100000000 (Wg y)
def ml(y:zn bf):Bool:=(pY y).isSome
def mj(y:zn bf):(Sem zg)×zn bf:=(λr:zy (Qi Q1 [zg])×zn bf=>(r.1.1,r.2)) ((pY y).getD (cw [zg],fS bf))
def zet:zY:=rP bf [] [zg] bf (λy _=>ml y) λy _=>(((mj y).1,()),(mj y).2)
theorem zaw:FK 101 zet:=ki (keep:=Sm) (gas:=400) (n:=100000000) (e:=QI) (t:=CL) (i:=λy x=>Wg y) Ec ziR (λy x=>zg5 y) zjx (λ_ _=>by kernel_rfl) (λ_ _=>by kernel_rfl)
def Ik:=In.add 101 zet
theorem D7:zx Ik:=Ec.add zaw
abbrev dI:List CP:=[.d (.sl zh),.d zl,.d zo,.d zo,.d .str,.d .str,.d .str,.d .str,.vec zj,.d zg,.nil,.nil,.d .expr,.vec zg,.d zg]
abbrev Sp:Nat->aN:=λj=>if j=3 then{slots:=[1,3,14,15,16,0],prom:=[(0,Q1 60,.int .i64),(0,Q1 50,zj)]}else if j=12 then{slots:=[1,63,64,65,0]}else if j=1000000 then{sett:=[(0,60)]}else{ }
inductive rI where
 |h3 (l14:LS) (i15:Int) (i16:Int) (z0:zn dI)
 |h12 (i64:Int) (i65:Int) (z0:zn dI)
 |h12b (i64:Int) (i65:Int) (z0:zn dI)
abbrev QL:rI->Nat×St
 |.h3 l14 i15 i16 z0=>(3,⟨tm 80 [(0,Qf 0 0),(1,Qf 1 0),(3,AV.clo (Fn.func 185) [] [Qf 1 0]),(14,sl Q6 l14),(15,ai i15),(16,ai i16)],[Qa (bC [2,3] dI z0),Qa [Qf 0 0],AO.vec zj z0.t.t.1,AO.vec zg z0.t.t.q.2.1]⟩)
 |.h12 i64 i65 z0=>(12,⟨tm 80 [(0,Qf 0 0),(1,Qf 1 0),(63,AV.vec 2),(64,ai i64),(65,ai i65)],[Qa (bC [3,2] dI z0),Qa [Qf 0 0],AO.vec zg z0.t.t.q.2.1,AO.vec zj z0.t.t.1]⟩)
 |.h12b i64 i65 z0=>(12,⟨tm 80 [(0,Qf 0 0),(1,Qf 1 0),(63,AV.vec 2),(64,ai i64),(65,ai i65)],[Qa (bC [3,2] dI z0),Qa [Qf 0 0],AO.frz zg z0.t.t.q.2.1,AO.vec zj z0.t.t.1]⟩)
theorem zjf:zJ Ik.P 138 Tryz.f138 1:=bQ kw
def Wm(y:zn bf):Tr (rI⊕ar):=Q9 (rI.h3 y.2.1.2.2.2.1 (↑(length y.2.1.2.2.2.1):Int) 0 (y.1,y.2.1,y.2.2.1,y.2.2.2.1,y.t.1,y.t.2.1,y.t.q.1,y.t.q.2.1,[],y.t.t.1,y.t.t.2.1,[],y.t.t.q))
def Hi(l14:LS)(i15:Int)(i16:Int)(z0:zn dI)(a0:Sem zg)(a1:LI)(a2:LC):Tr (rI⊕ar):=br (Q0 (i16<i15)) (Qc (zN i16 l14.length) (br (Q0 (a0<0)) (re (ai 4) (au al z0)) (Qc (Q0 (z0.t.t.q.2.1.length+a1.length<=1073741824)) (Qc (zN a0 (length z0.2.2.1.2.1)) (Qc (Q0 (z0.t.t.1.length+a2.length<=1073741824)) (Q9 (rI.h3 l14 i15 (IntKind.i64.wrap (i16+1)) (z0.1,z0.2.1,z0.2.2.1,z0.2.2.2.1,z0.t.1,z0.t.2.1,z0.t.q.1,z0.t.q.2.1,z0.t.t.1++a2,z0.t.t.2.1,z0.t.t.q.1,z0.t.t.q.2.1++a1,z0.t.t.t)))))))) (Q9 (rI.h12 (↑z0.t.t.q.2.1.length:Int) 0 z0))
def L2(l14:LS)(i15:Int)(i16:Int)(z0:zn dI):Tr (rI⊕ar):=
 let a0:=zQ (z0.2.2.1.1,z0.2.2.1.2.1,z0.2.2.1.2.2.1,z0.2.2.1.2.2.2.1,z0.2.2.1.t.1,zm z0.2.2.1.t.2) (l14.getD i16.toNat (zi Q6))
 let a1:=[a0]
 let a2:=[getD z0.2.2.1.2.1 (toNat a0) (zi zj)]
 Hi l14 i15 i16 z0 a0 a1 a2
def CQ(i64:Int)(i65:Int)(z0:zn dI)(a0:Int):Tr (rI⊕ar):=br (Q0 (i65<i64)) (Qc (zN i65 z0.t.t.q.2.1.length) (Qc (Q0 (i65.toNat<z0.t.t.q.2.1.length)) (Qc (Q0 (0<=0)&&Q0 (0<=i65)&&Q0 (i65<=a0)) (br (sm (List.take (i65.toNat-toNat 0) (List.drop (toNat 0) z0.t.t.q.2.1)) (z0.t.t.q.2.1.getD i65.toNat (zi zg))) (re (ai 7) (au al z0)) (Q9 (rI.h12b i64 (IntKind.i64.wrap (i65+1)) z0)))))) (re (ai 0) (au al z0))
def Hh(i64:Int)(i65:Int)(z0:zn dI):Tr (rI⊕ar):=
 let a0:=(↑z0.t.t.q.2.1.length:Int)
 CQ i64 i65 z0 a0
def wD(i64:Int)(i65:Int)(z0:zn dI)(a0:Int):Tr (rI⊕ar):=br (Q0 (i65<i64)) (Qc (zN i65 z0.t.t.q.2.1.length) (Qc (Q0 (0<=0)&&Q0 (0<=i65)&&Q0 (i65<=a0)) (br (sm (List.take (i65.toNat-toNat 0) (List.drop (toNat 0) z0.t.t.q.2.1)) (z0.t.t.q.2.1.getD i65.toNat (zi zg))) (re (ai 7) (au al z0)) (Q9 (rI.h12b i64 (IntKind.i64.wrap (i65+1)) z0))))) (re (ai 0) (au al z0))
def CO(i64:Int)(i65:Int)(z0:zn dI):Tr (rI⊕ar):=
 let a0:=(↑z0.t.t.q.2.1.length:Int)
 wD i64 i65 z0 a0
theorem zhe(y:zn bf):rn Ik 1 Sp Tryz.f138 [Qf 0 0] (au bf y)=(Wm y).map (lf Tryz.f138 QL):=kw
def pu:rI->Tr (rI⊕ar)
 |.h3 l14 i15 i16 z0=>L2 l14 i15 i16 z0
 |.h12 i64 i65 z0=>Hh i64 i65 z0
 |.h12b i64 i65 z0=>CO i64 i65 z0
theorem zjE:∀s,run Ik 1 Sp (Func.results Tryz.f138).toList 400 (ae Tryz.f138 (QL s).1) (QL s).2=(pu s).map (lf Tryz.f138 QL)|.h3 l14 i15 i16 z0=>by kernel_rfl|.h12 i64 i65 z0=>by kernel_rfl|.h12b i64 i65 z0=>by kernel_rfl
def yn(y:zn bf):Option (zy (Qi Q1 [zg])×zn al):=kI [zg] al pu 100000000 (Wm y)
def nf(y:zn bf):Bool:=(yn y).isSome
def jK(y:zn bf):(Sem zg)×zn al:=(λr:zy (Qi Q1 [zg])×zn al=>(r.1.1,r.2)) ((yn y).getD (cw [zg],fS al))
def zeS:zY:=rP bf [] [zg] al (λy _=>nf y) λy _=>(((jK y).1,()),(jK y).2)
theorem zaZ:FK 138 zeS:=ki (ps:=bf) (ks:=[]) (outs:=[zg]) (keep:=Sp) (gas:=400) (n:=100000000) (e:=QL) (t:=pu) (i:=λy x=>Wm y) D7 zjf (λy x=>zhe y) zjE (λ_ _=>by kernel_rfl) (λ_ _=>by kernel_rfl)
def D8:=Ik.add 138 zeS
theorem vO:zx D8:=D7.add zaZ
abbrev OF(y:zn bf):zn bf:=(y.1,(y.2.1.1,y.2.1.2.1,y.2.1.2.2.1,y.2.1.2.2.2.1,y.2.1.t.1,y.2.1.t.2.1,y.2.1.t.q.1,y.2.1.t.q.2.1,zm y.2.1.t.t.1,y.2.1.t.t.2.1,y.2.1.t.t.q.1,zm y.2.1.t.t.q.2.1,y.2.1.t.t.t),(y.2.2.1.1,y.2.2.1.2.1,y.2.2.1.2.2.1,y.2.2.1.2.2.2.1,y.2.2.1.t.1,zm y.2.2.1.t.2),(y.2.2.2.1.1,y.2.2.2.1.2.1,y.2.2.2.1.2.2.1,y.2.2.2.1.2.2.2.1,y.2.2.2.1.t.1,zm y.2.2.2.1.t.2),y.t.1,y.t.2.1,y.t.q.1,y.t.q.2.1,y.t.t.1,zm y.t.t.2.1,y.t.t.q.1,())
abbrev ME(y:zn al):zn al:=(y.1,(y.2.1.1,y.2.1.2.1,y.2.1.2.2.1,y.2.1.2.2.2.1,y.2.1.t.1,y.2.1.t.2.1,y.2.1.t.q.1,y.2.1.t.q.2.1,zm y.2.1.t.t.1,y.2.1.t.t.2.1,y.2.1.t.t.q.1,zm y.2.1.t.t.q.2.1,y.2.1.t.t.t),(y.2.2.1.1,y.2.2.1.2.1,y.2.2.1.2.2.1,y.2.2.1.2.2.2.1,y.2.2.1.t.1,zm y.2.2.1.t.2),(y.2.2.2.1.1,y.2.2.2.1.2.1,y.2.2.2.1.2.2.1,y.2.2.2.1.2.2.2.1,y.2.2.2.1.t.1,zm y.2.2.2.1.t.2),y.t.1,y.t.2.1,y.t.q.1,y.t.q.2.1,y.t.t.1,y.t.t.2.1,zm y.t.t.q.1,y.t.t.q.2.1,y.t.t.t.1,())
abbrev Zc:Nat->aN:=λ_=>{ }
theorem ziM:zJ D8.P 95 Tryz.f95 1:=bQ kw
def RY(_:zn bf)(a0:Sem zh.sl×zn [CP.d zl,CP.d zo,CP.d zo,CP.d Q6,CP.d Q6,CP.d Q6,CP.d Q6,CP.nil,CP.d zg,CP.nil,CP.nil,CP.d Q5,CP.nil,CP.d zg])(a1:Sem zg×zn al)(a2:Sem zg):Tr (Empty⊕ar):=Qc (nf a0) (br (a1.1!=0) (re (ai a1.1) (au al a1.2)) (br (Q0 (a2<0)) (re (ai 1) (au al (a1.2.1,a1.2.2.1,a1.2.2.2.1,a1.t.1,a1.t.2.1,a1.t.q.1,a1.t.q.2.1,a1.t.t.1,a1.t.t.2.1,a2,a1.t.t.q.2))) (re (ai 0) (au al (a1.2.1,a1.2.2.1,a1.2.2.2.1,a1.t.1,a1.t.2.1,a1.t.q.1,a1.t.q.2.1,a1.t.t.1,a1.t.t.2.1,a2,a1.t.t.q.2)))))
def RX(y:zn bf):Tr (Empty⊕ar):=
 let a0:=OF y
 let a1:=jK a0
 let a2:=gV a1.t.t.t.1 a1.2.2.2.1.2.2.1
 RY y a0 a1 a2
theorem zg1(y:zn bf):rn D8 1 Zc Tryz.f95 [Qf 0 0] (au bf y)=(RX y).map (lf Tryz.f95 e0):=kw
def F5(y:zn bf):Option (zy (Qi Q1 [zg])×zn al):=kI [zg] al t0 100000000 (RX y)
def F4(y:zn bf):Bool:=(F5 y).isSome
def EE(y:zn bf):(Sem zg)×zn al:=(λr:zy (Qi Q1 [zg])×zn al=>(r.1.1,r.2)) ((F5 y).getD (cw [zg],fS al))
def zel:zY:=rP bf [] [zg] al (λy _=>F4 y) λy _=>(((EE y).1,()),(EE y).2)
theorem zao:FK 95 zel:=ki (keep:=Zc) (gas:=400) (n:=100000000) (e:=e0) (t:=t0) (i:=λy x=>RX y) vO ziM (λy x=>zg1 y) (Uy _ _ _ _ _) (λ_ _=>by kernel_rfl) (λ_ _=>by kernel_rfl)
abbrev Ze:Nat->aN:=λ_=>{ }
theorem ziP:zJ D8.P 97 Tryz.f97 1:=bQ kw
def R0(_:zn bf)(a0:Sem zh.sl×zn [CP.d zl,CP.d zo,CP.d zo,CP.d Q6,CP.d Q6,CP.d Q6,CP.d Q6,CP.nil,CP.d zg,CP.nil,CP.nil,CP.d Q5,CP.nil,CP.d zg])(a1:Sem zg×zn al)(a2:Sem zj)(_:Sem zj)(a4:LC)(a5:Sem zj):Tr (Empty⊕ar):=Qc (nf a0) (br (a1.1!=0) (re (ai a1.1) (au al a1.2)) (Qc (zN 1 a1.t.t.2.1.length) (Qc (Q0 (toNat 1<a1.t.t.2.1.length)) (br (a2.2.1!=1) (re (ai 5) (au al a1.2)) (Qc (zN 0 a1.t.t.2.1.length) (Qc (Q0 (toNat 0<a1.t.t.2.1.length)) (Qc (zN 1 a4.length) (Qc (Q0 (toNat 1<a4.length)) (re (ai 0) (au al (a1.2.1,a1.2.2.1,a1.2.2.2.1,a1.t.1,a1.t.2.1,a1.t.q.1,a1.t.q.2.1,a1.t.t.1,a4.set (toNat 1) (a5.1,a5.2.1,Q4),a1.t.t.q)))))))))))
def RZ(y:zn bf):Tr (Empty⊕ar):=
 let a0:=OF y
 let a1:=jK a0
 let a2:=a1.t.t.2.1.getD (toNat 1) (zi zj)
 let a3:=a1.t.t.2.1.getD (toNat 0) (zi zj)
 let a4:=a1.t.t.2.1.set (toNat 0) (a3.1,a3.2.1,Q3)
 let a5:=a4.getD (toNat 1) (zi zj)
 R0 y a0 a1 a2 a3 a4 a5
theorem zg4(y:zn bf):rn D8 1 Ze Tryz.f97 [Qf 0 0] (au bf y)=(RZ y).map (lf Tryz.f97 e0):=kw
def ym(y:zn bf):Option (zy (Qi Q1 [zg])×zn al):=kI [zg] al t0 100000000 (RZ y)
def yl(y:zn bf):Bool:=(ym y).isSome
def wa(y:zn bf):(Sem zg)×zn al:=(λr:zy (Qi Q1 [zg])×zn al=>(r.1.1,r.2)) ((ym y).getD (cw [zg],fS al))
def zeq:zY:=rP bf [] [zg] al (λy _=>yl y) λy _=>(((wa y).1,()),(wa y).2)
theorem zat:FK 97 zeq:=ki (keep:=Ze) (gas:=400) (n:=100000000) (e:=e0) (t:=t0) (i:=λy x=>RZ y) vO ziP (λy x=>zg4 y) (Uy _ _ _ _ _) (λ_ _=>by kernel_rfl) (λ_ _=>by kernel_rfl)
def Im:=D8.addL [(95,zel),(97,zeq)]
theorem D9:zx Im:=vO.addL<|fc zao<|fc zat iV
abbrev Sl:Nat->aN:=λj=>if j=11 then{slots:=[0,83,84,85],prom:=[(0,Q1 60,.int .i64)]}else if j=1000000 then{prom:=[(0,Q1 50,zj),(0,Q1 60,.int .i64)],sett:=[(0,60)]}else{ }
inductive C8 where
 |h11 (l83:LC) (i84:Int) (i85:Int) (z0:zn dI)
abbrev QH:C8->Nat×St
 |.h11 l83 i84 i85 z0=>(11,⟨tm 124 [(0,Qf 0 0),(83,sl zj l83),(84,ai i84),(85,ai i85)],[Qa (bC [1,2] dI z0),AO.vec zj z0.t.t.1,AO.vec zg z0.t.t.q.2.1]⟩)
theorem ziO:zJ Im.P 96 Tryz.f96 1:=bQ kw
def II(y:zn bf)(a0:Sem zg)(a1:Sem Q5×List (Sem zg)×Sem zg×Unit)(a2:Int)(a3:Int):Tr (C8⊕ar):=br (Q0 (a0<0)) (re (ai 4) (au al (y.1,y.2.1,y.2.2.1,y.2.2.2.1,y.t.1,y.t.2.1,y.t.q.1,y.t.q.2.1,[],y.t.t.1,a1))) (br (!jH y.2.2.1.t.1 (a0,y.t.q.1)) (re (ai 10) (au al (y.1,y.2.1,y.2.2.1,y.2.2.2.1,y.t.1,y.t.2.1,y.t.q.1,y.t.q.2.1,[],y.t.t.1,a1))) (br (Q0 (a3>8)) (re (ai 13) (au al (y.1,y.2.1,y.2.2.1,y.2.2.2.1,y.t.1,y.t.2.1,y.t.q.1,y.t.q.2.1,[],y.t.t.1,a1))) (Qc (Q0 (length y.2.2.1.2.1<=1073741824)) (Q9 (C8.h11 y.2.2.2.1.2.1 a2 0 (y.1,y.2.1,y.2.2.1,y.2.2.2.1,y.t.1,y.t.2.1,y.t.q.1,y.t.q.2.1,y.2.2.1.2.1,y.2.2.1.2.2.1,a1))))))
def FV(y:zn bf):Tr (C8⊕ar):=
 let a0:=zQ (y.2.2.1.1,y.2.2.1.2.1,y.2.2.1.2.2.1,y.2.2.1.2.2.2.1,y.2.2.1.t.1,zm y.2.2.1.t.2) y.2.1.t.2.1
 let a1:=(y.t.t.2.1,[],a0,())
 let a2:=(↑(length y.2.2.2.1.2.1):Int)
 let a3:=IntKind.i64.wrap (IntKind.i64.wrap ((↑(length y.2.2.1.2.1):Int)+a2)-1)
 II y a0 a1 a2 a3
def CK(l83:LC)(i84:Int)(i85:Int)(z0:zn dI)(a0:LC)(a1:Int):Tr (C8⊕ar):=br (Q0 (i85<i84)) (Qc (zN i85 l83.length) (br (i85 !=z0.2.2.2.1.2.2.1) (Qc (Q0 (z0.t.t.q.2.1.length+[i85].length<=1073741824)) (Qc (Q0 (z0.t.t.1.length+a0.length<=1073741824)) (Q9 (C8.h11 l83 i84 a1 (z0.1,z0.2.1,z0.2.2.1,z0.2.2.2.1,z0.t.1,z0.t.2.1,z0.t.q.1,z0.t.q.2.1,z0.t.t.1++a0,z0.t.t.2.1,z0.t.t.q.1,z0.t.t.q.2.1++[i85],z0.t.t.t))))) (Q9 (C8.h11 l83 i84 a1 z0)))) (re (ai 0) (au al z0))
def Hc(l83:LC)(i84:Int)(i85:Int)(z0:zn dI):Tr (C8⊕ar):=
 let a0:=[l83.getD i85.toNat (zi zj)]
 let a1:=IntKind.i64.wrap (i85+1)
 CK l83 i84 i85 z0 a0 a1
theorem zg2(y:zn bf):rn Im 1 Sl Tryz.f96 [Qf 0 0] (au bf y)=(FV y).map (lf Tryz.f96 QH):=kw
def JW:C8->Tr (C8⊕ar)
 |.h11 l83 i84 i85 z0=>Hc l83 i84 i85 z0
theorem zju:∀s,run Im 1 Sl (Func.results Tryz.f96).toList 400 (ae Tryz.f96 (QH s).1) (QH s).2=(JW s).map (lf Tryz.f96 QH)|.h11 l83 i84 i85 z0=>by kernel_rfl
def Bq(y:zn bf):Option (zy (Qi Q1 [zg])×zn al):=kI [zg] al JW 100000000 (FV y)
def F6(y:zn bf):Bool:=(Bq y).isSome
def EF(y:zn bf):(Sem zg)×zn al:=(λr:zy (Qi Q1 [zg])×zn al=>(r.1.1,r.2)) ((Bq y).getD (cw [zg],fS al))
def zen:zY:=rP bf [] [zg] al (λy _=>F6 y) λy _=>(((EF y).1,()),(EF y).2)
theorem zaq:FK 96 zen:=ki (keep:=Sl) (gas:=400) (n:=100000000) (e:=QH) (t:=JW) (i:=λy x=>FV y) D9 ziO (λy x=>zg2 y) zju (λ_ _=>by kernel_rfl) (λ_ _=>by kernel_rfl)
def YB:=Im.add 96 zen
theorem Ea:zx YB:=D9.add zaq
abbrev mo:AV:=agg [str [],str [],str [],str [],nils,ai 0,nils,nils,str [],ai 0,ai 0,str [],str [],nils,nils,ai 0]
abbrev wk(z:zn al):AV:=agg [str z.t.1,str z.t.2.1,str z.t.q.1,str z.t.q.2.1,AV.vec 0,ai z.t.t.2.1,nils,nils,str (zf.op z.t.t.q.1),ai (zf.v z.t.t.q.1).1,ai (zf.v z.t.t.q.1).2.1,str (zf.v z.t.t.q.1).2.2,str (zf.s z.t.t.q.1),sl Q5 (zf.l z.t.t.q.1),sl zg z.t.t.q.2.1,ai z.t.t.t.1]
abbrev Gh(z:zn bf):AV:=agg [str z.t.1,str z.t.2.1,str z.t.q.1,str z.t.q.2.1,nils,ai z.t.t.1,nils,nils,str (zf.op z.t.t.2.1),ai (zf.v z.t.t.2.1).1,ai (zf.v z.t.t.2.1).2.1,str (zf.v z.t.t.2.1).2.2,str (zf.s z.t.t.2.1),sl Q5 (zf.l z.t.t.2.1),nils,ai z.t.t.q.1]
def IE(_:Sem zh.sl)(x1:Sem zl)(_:zf)(_:Sem Q6×Sem (Sh.str.pr (Sh.str.pr (Sh.str.sl.pr (zj.sl.pr (Sh.str.pr (Sh.str.sl.pr (iK.sl.pr (Sh.expr.pr (ze.sl.pr (g6.sl.pr (Sh.expr.pr Q6))))))))))))(_:Bool)(a3:Bool)(a4:Bool)(a5:Bool)(_:Sem zh.sl×zn [CP.d zl,CP.d zo,CP.d zo,CP.d Q6,CP.d Q6,CP.d Q6,CP.d Q6,CP.nil,CP.d zg,CP.nil,CP.nil,CP.d Q5,CP.nil,CP.d zg])(a7:Bool)(a8:Sem zg×zn bf)(a9:Bool)(a10:Sem zh.sl×zn [CP.d zl,CP.d zo,CP.d zo,CP.d Q6,CP.d Q6,CP.d Q6,CP.d Q6,CP.nil,CP.d zg,CP.nil,CP.nil,CP.d Q5,CP.nil,CP.d zg])(a11:Sem zg×zn al)(a12:Sem zh.sl×zn [CP.d zl,CP.d zo,CP.d zo,CP.d Q6,CP.d Q6,CP.d Q6,CP.d Q6,CP.vec zj,CP.d zg,CP.nil,CP.nil,CP.d Q5,CP.d zg.sl,CP.d zg])(a13:Sem zg×zn al)(a14:Sem zg×zn al)(a15:Sem zh.sl×zn [CP.d zl,CP.d zo,CP.d zo,CP.d Q6,CP.d Q6,CP.d Q6,CP.d Q6,CP.vec zj,CP.d zg,CP.nil,CP.nil,CP.d Q5,CP.d zg.sl,CP.d zg])(a16:Sem zg×zn al)(a17:Sem zg×zn al)(a18:Sem zh.sl×zn [CP.d zl,CP.d zo,CP.d zo,CP.d Q6,CP.d Q6,CP.d Q6,CP.d Q6,CP.vec zj,CP.d zg,CP.nil,CP.nil,CP.d Q5,CP.d zg.sl,CP.d zg])(a19:Sem zg×zn al):Tr (Empty⊕ar):=
 Qc Q3 (Qc Q3 (Qc Q3 (br (x1.1==[99,111,112,121]) (Qc a3 (br a4 (re (Qe [mo,ai 1]) []) (Qc a5 (Qc a7 (br a9 (Qc (F4 a10) (br (a11.1==0) (Qc (gu a12) (br (a13.1!=0) (re (Qe [mo,ai a13.1]) []) (re (Qe [(wk a13.2),ai 0]) [AO.vec zj a13.t.t.2.1]))) (br (a11.1!=0) (re (Qe [mo,ai a11.1]) []) (re (Qe [(wk a11.2),ai 0]) [AO.vec zj a11.t.t.2.1])))) (br a9 Tr.err (br (a8.1!=0) (re (Qe [mo,ai a8.1]) []) (re (Qe [(Gh a8.2),ai 0]) [])))))))) (br (x1.1==[106,111,105,110]) (Qc a3 (br a4 (re (Qe [mo,ai 1]) []) (Qc a5 (Qc a7 (br a9 (Qc (F6 a10) (br (a14.1==0) (Qc (gu a15) (br (a16.1!=0) (re (Qe [mo,ai a16.1]) []) (re (Qe [(wk a16.2),ai 0]) [AO.vec zj a16.t.t.2.1]))) (br (a14.1!=0) (re (Qe [mo,ai a14.1]) []) (re (Qe [(wk a14.2),ai 0]) [AO.vec zj a14.t.t.2.1])))) (br a9 Tr.err (br (a8.1!=0) (re (Qe [mo,ai a8.1]) []) (re (Qe [(Gh a8.2),ai 0]) [])))))))) (br (x1.1==[103,114,111,117,112]) (Qc a3 (br a4 (re (Qe [mo,ai 1]) []) (Qc a5 (Qc a7 (br a9 (Qc (yl a10) (br (a17.1==0) (Qc (gu a18) (br (a19.1!=0) (re (Qe [mo,ai a19.1]) []) (re (Qe [(wk a19.2),ai 0]) [AO.vec zj a19.t.t.2.1]))) (br (a17.1!=0) (re (Qe [mo,ai a17.1])
 []) (re (Qe [(wk a17.2),ai 0]) [AO.vec zj a17.t.t.2.1])))) (br a9 Tr.err (br (a8.1!=0) (re (Qe [mo,ai a8.1]) []) (re (Qe [(Gh a8.2),ai 0]) [])))))))) (re (Qe [mo,ai 1]) []))))))
def zcc(x0:Sem zh.sl)(x1:Sem zl):Tr (Empty⊕ar):=
 let a0:=zm x1.t.t.1
 let a1:=(x1.1,x1.2.1,x1.2.2.1,x1.2.2.2.1,x1.t.1,x1.t.2.1,x1.t.q.1,x1.t.q.2.1,a0,x1.t.t.2.1,x1.t.t.q.1,zm x1.t.t.q.2.1,x1.t.t.t)
 let a2:=!dY a1
 let a3:=nH a1&&bif a2 then Q3 else mR x0
 let a4:=bif a2 then Q3 else km x0 !=0
 let a5:=qU 16 a0
 let a6:=(x0,a1,([],[],0,[],[],zf.mk [] (0,0,[]) [] []),([],[],0,[],[],zf.mk [] (0,0,[]) [] []),x1.1,x1.2.2.1,x1.t.t.t,x1.2.1,0,a0,0,())
 let a7:=ml a6
 let a8:=mj a6
 let a9:=a8.1==0
 let a10:=OF a8.2
 let a11:=EE a10
 let a12:=ME a11.2
 let a13:=fg a12
 let a14:=EF a10
 let a15:=ME a14.2
 let a16:=fg a15
 let a17:=wa a10
 let a18:=ME a17.2
 let a19:=fg a18
 IE x0 x1 a0 a1 a2 a3 a4 a5 a6 a7 a8 a9 a10 a11 a12 a13 a14 a15 a16 a17 a18 a19
def I7(x0:Sem zh.sl)(x1:Sem zl):=ao [zz,zg] t0 100000000 (zcc x0 x1)
def zc9(x0:Sem zh.sl)(x1:Sem zl):=(I7 x0 x1).isSome
def pOf(x0:Sem zh.sl)(x1:Sem zl):=o2 (I7 x0 x1)
def zdN:=FT [zh.sl,zl] [zz,zg] λx=>I7 x.1 x.2.1
theorem ZO:FK 58 zdN:=Ea.T1 (f:=Tryz.f58) (keep:=k0) (e:=e0)
def MA:=YB.add 58 zdN
theorem mc:zx MA:=Ea.add ZO
abbrev aH:List CP:=[.d (.sl zr),.d zg,.d .bool]
def YW(x0:Sem (Sh.int IntKind.u8)):Tr (Empty⊕ar):=
 let a0:=bif Q0 (97<=x0)then Q0 (x0<=122)else Q4
 re (AV.bool (bif Q0 (65<=x0)then bif Q0 (x0<=90)then Q3 else a0 else a0)) []
def mA(x0:Sem (Sh.int IntKind.u8)):=ao [Q7] t0 100000000 (YW x0)
def kf(x0:Sem (Sh.int IntKind.u8)):=(mA x0).isSome
def mz(x0:Sem (Sh.int IntKind.u8)):=o1 (mA x0)
def XQ:=FT [Sh.int IntKind.u8] [Q7] λx=>mA x.1
theorem U6:FK 123 XQ:=mc.T1 (f:=Tryz.f123) (keep:=k0) (e:=e0)
def zhm(x0:Sem (Sh.int IntKind.u8)):Tr (Empty⊕ar):=
 re (AV.bool (bif Q0 (48<=x0)then Q0 (x0<=57)else Q4)) []
def ui(x0:Sem (Sh.int IntKind.u8)):=ao [Q7] t0 100000000 (zhm x0)
def fC(x0:Sem (Sh.int IntKind.u8)):=(ui x0).isSome
def gG(x0:Sem (Sh.int IntKind.u8)):=o1 (ui x0)
def XS:=FT [Sh.int IntKind.u8] [Q7] λx=>ui x.1
theorem U8:FK 125 XS:=mc.T1 (f:=Tryz.f125) (keep:=k0) (e:=e0)
abbrev zin:=lV [(2,[0,1,5])]
inductive N2 where
 |h2 (l0:LS) (s1:TS) (i5:Int)
abbrev zkT:N2->Nat×St
 |.h2 l0 s1 i5=>(2,⟨tm 18 [(0,sl Q6 l0),(1,str s1),(5,ai i5)],[]⟩)
def zl2(x0:Sem Sh.str.sl)(x1:TS):Tr (N2⊕ar):=
 Q9 (N2.h2 x0 x1 0)
def L3:N2->Tr (N2⊕ar)
 | .h2 l0 s1 i5=>
  br (Q0 (i5<(↑l0.length:Int)))
  (Qc (zN i5 l0.length) (br (l0.getD i5.toNat (zi Q6)==s1) (re (kb Q3) []) (Q9 (N2.h2 l0 s1 (IntKind.i64.wrap (i5+1))))))
  (re (kb Q4) [])
def Ns(x0:Sem Sh.str.sl)(x1:TS):=ao [Q7] L3 100000000 (zl2 x0 x1)
def xy(x0:Sem Sh.str.sl)(x1:TS):=(Ns x0 x1).isSome
def JC(x0:Sem Sh.str.sl)(x1:TS):=o1 (Ns x0 x1)
def ze8:=FT [Sh.str.sl,Q6] [Q7] λx=>Ns x.1 x.2.1
theorem zbe:FK 78 ze8:=mc.T1 (f:=Tryz.f78) (keep:=zin) (e:=zkT)
abbrev Sf:Nat->aN:=λ_=>{ }
theorem zcU:zJ MA.P 88 Tryz.f88 2:=bQ kw
def RO(y:zn aH)(x0:TS):Tr (Empty⊕ar):=
 let a0:=Q0 (y.2.1<(↑(length y.1):Int))
 let a1:=zN y.2.1 (length y.1)
 let a2:=getD y.1 (toNat y.2.1) (zi zr)
 let a3:=a2.1==1
 let a4:=a2.1==4
 let a5:=a2.2==x0
 Qc (bif a0 then a1&&bif a3 then a1 else a1&&bif a4 then a1 else Q3 else Q3)
 (re (AV.bool (bif a0 then bif a3 then a5 else bif a4 then a5 else Q4 else Q4)) (au aH y))
theorem zbV(y:zn aH)(x0:TS):rn MA 1 Sf Tryz.f88 [Qf 0 0,zF Q6 x0] (au aH y)=(RO y x0).map (lf Tryz.f88 e0):=kw
def TR(y:zn aH)(x0:TS):Option (zy (Qi Q1 [Q7])×zn aH):=kI [Q7] aH t0 100000000 (RO y x0)
def GV(y:zn aH)(x0:TS):Bool:=(TR y x0).isSome
def JF(y:zn aH)(x0:TS):(Sem Q7)×zn aH:=(λr:zy (Qi Q1 [Q7])×zn aH=>(r.1.1,r.2)) ((TR y x0).getD (cw [Q7],fS aH))
def XA:zY:=rP aH [Q6] [Q7] aH (λy x=>GV y x.1) λy x=>(((JF y x.1).1,()),(JF y x.1).2)
theorem UN:FK 88 XA:=ki (ps:=aH) (ks:=[Q6]) (outs:=[Q7]) (keep:=Sf) (gas:=400) (n:=100000000) (e:=e0) (t:=t0) (i:=λy x=>RO y x.1) mc zcU (λy x=>zbV y x.1) (Uy _ _ _ _ _) (λ_ _=>by kernel_rfl) (λ_ _=>by kernel_rfl)
def oN:=MA.addL [(123,XQ),(125,XS),(78,ze8),(88,XA)]
theorem iU:zx oN:=mc.addL<|fc U6<|fc U8<|fc zbe<|fc UN iV
abbrev zcu:=lV [(2,[1,3])]
inductive Ad where
 |h2 (i3:Int) (z0:zn [CP.d ze])
abbrev zgF:Ad->Nat×St
 |.h2 i3 z0=>(2,⟨tm 66 [(1,Qf 0 0),(3,ai i3)],[Qa (bC [] [CP.d ze] z0)]⟩)
def YR(x0:Sem ze):Tr (Ad⊕ar):=
 Q9 (Ad.h2 0 (x0,()))
def rD:Ad->Tr (Ad⊕ar)
 | .h2 i3 z0=>
  let a0:=(↑(length z0.1.2.2):Int)
  let a1:=zN i3 (length z0.1.2.2)
  let a2:=(↑(getD z0.1.2.2 i3.toNat 0).toNat:Int)
  let a3:=Q0 (a2<32)
  let a4:=z0.1.2.1==0
  let a5:=z0.1.2.2==[]
  br (Q0 (i3<a0))
  (Qc (a1&&bif a3 then Q3 else a1)
   (br (bif a3 then Q3 else Q0 (a2>126)) (re (kb Q4) []) (Q9 (Ad.h2 (IntKind.i64.wrap (i3+1)) z0))))
  (br (z0.1.1==0) (re (AV.bool (bif a4 then a5 else Q4)) [])
   (br (z0.1.1==1) (re (AV.bool a5) []) (br (z0.1.1==2) (re (AV.bool (bif a4 then Q0 (a0<=40)else Q4)) []) (br (z0.1.1==3) (re (AV.bool (bif a4 then a5 else bif z0.1.2.1==1 then a5 else Q4)) []) (re (kb Q4) [])))))
def Gm(x0:Sem ze):=ao [Q7] rD 100000000 (YR x0)
def lP(x0:Sem ze):=(Gm x0).isSome
def rB(x0:Sem ze):=o1 (Gm x0)
def Xr:=FT [ze] [Q7] λx=>Gm x.1
theorem UD:FK 21 Xr:=iU.T1 (f:=Tryz.f21) (keep:=zcu) (e:=zgF)
def zhn(x0:Sem Q7):Tr (Empty⊕ar):=
 br x0 (re (agg [ai 3,ai 1,str []]) []) (re (agg [ai 3,ai 0,str []]) [])
def tZ(x0:Sem Q7):=ao [ze] t0 100000000 (zhn x0)
def kM(x0:Sem Q7):=(tZ x0).isSome
def aU(x0:Sem Q7):=o1 (tZ x0)
def XW:=FT [Q7] [ze] λx=>tZ x.1
theorem Vc:FK 210 XW:=iU.T1 (f:=Tryz.f210) (keep:=k0) (e:=e0)
abbrev Sk:Nat->aN:=λ_=>{ }
theorem zcZ:zJ oN.P 175 Tryz.f175 1:=bQ kw
def RU(x0:TS):Tr (Empty⊕ar):=
 re
 (AV.bool
  (bif x0==[97,110,100]then Q3
  else bif x0==[111,114]then Q3 else bif x0==[61]then Q3 else bif x0==[60]then Q3 else bif x0==[43]then Q3 else x0==[45]))
 []
theorem zb5(x0:TS):rn oN 0 Sk Tryz.f175 [zF Q6 x0] []=(RU x0).map (lf Tryz.f175 e0):=kw
def Lu(x0:TS):Option (zy (Qi Q1 [Q7])):=ao [Q7] t0 100000000 (RU x0)
def Gy(x0:TS):Bool:=(Lu x0).isSome
def No(x0:TS):Sem Q7:=(λr:zy (Qi Q1 [Q7])=>r.1) ((Lu x0).getD (cw [Q7]))
def Ya:zY:=zR [Q6] [Q7] (λx=>Gy x.1) λx=>(No x.1,())
theorem Vp:FK 175 Ya:=lH (ks:=[Q6]) (outs:=[Q7]) (keep:=Sk) (gas:=400) (n:=100000000) (e:=e0) (t:=t0) (i:=λx=>RU x.1) iU zcZ (λx=>zb5 x.1) (Uy _ _ _ _ _) (λ_=>by kernel_rfl) (λ_=>by kernel_rfl)
abbrev So:Nat->aN:=λj=>if j=2 then{slots:=[0,1,5]}else{ }
inductive HG where
 |h2 (l0:LC) (s1:TS) (i5:Int)
abbrev QK:HG->Nat×St
 |.h2 l0 s1 i5=>(2,⟨tm 20 [(0,sl zj l0),(1,str s1),(5,ai i5)],[]⟩)
theorem ziY:zJ oN.P 48 Tryz.f48 2:=bQ kw
def Wi(x0:Sem zj.sl)(x1:TS):Tr (HG⊕ar):=
 Q9 (HG.h2 x0 x1 0)
def Hg(l0:LC)(s1:TS)(i5:Int)(a0:Sem zj):Tr (HG⊕ar):=
 br (Q0 (i5<(↑l0.length:Int)))
 (Qc (zN i5 l0.length) (br (a0.1==s1) (re (ai i5) []) (Q9 (HG.h2 l0 s1 (IntKind.i64.wrap (i5+1))))))
 (re (ai (-1)) [])
def L1(l0:LC)(s1:TS)(i5:Int):Tr (HG⊕ar):=
 let a0:=l0.getD i5.toNat (zi zj)
 Hg l0 s1 i5 a0
theorem zg7(x0:Sem zj.sl)(x1:TS):rn oN 0 So Tryz.f48 [zF zj.sl x0,zF Q6 x1] []=(Wi x0 x1).map (lf Tryz.f48 QK):=kw
def L0:HG->Tr (HG⊕ar)
 |.h2 l0 s1 i5=>L1 l0 s1 i5
theorem zjz:∀s,run oN 0 So (Func.results Tryz.f48).toList 400 (ae Tryz.f48 (QK s).1) (QK s).2=(L0 s).map (lf Tryz.f48 QK)
 |.h2 l0 s1 i5=>by kernel_rfl
def BZ(x0:Sem zj.sl)(x1:TS):Option (zy (Qi Q1 [zg])):=ao [zg] L0 100000000 (Wi x0 x1)
def dz(x0:Sem zj.sl)(x1:TS):Bool:=(BZ x0 x1).isSome
def eH(x0:Sem zj.sl)(x1:TS):Sem zg:=(λr:zy (Qi Q1 [zg])=>r.1) ((BZ x0 x1).getD (cw [zg]))
def zeA:zY:=zR [zj.sl,Q6] [zg] (λx=>dz x.1 x.2.1) λx=>(eH x.1 x.2.1,())
theorem zaD:FK 48 zeA:=lH (ks:=[zj.sl,Q6]) (outs:=[zg]) (keep:=So) (gas:=400) (n:=100000000) (e:=QK) (t:=L0) (i:=λx=>Wi x.1 x.2.1) iU ziY (λx=>zg7 x.1 x.2.1) zjz (λ_=>by kernel_rfl) (λ_=>by kernel_rfl)
def Ib(g:Sem Q5->Sem Q5->Sem Q7)(c:Sem Q5->Sem Q5->Bool):bX:=oN.add 122 (zR [Q5,Q5] [Q7] (λx=>c x.1 x.2.1) λx=>(g x.1 x.2.1,()))
theorem Ov{g:Sem Q5->Sem Q5->Sem Q7}{c:Sem Q5->Sem Q5->Bool}(hg:FK 122 (zR [Q5,Q5] [Q7] (λx=>c x.1 x.2.1) λx=>(g x.1 x.2.1,()))):zx (Ib g c):=iU.add hg
abbrev Sr:Nat->aN:=λj=>if j=4 then{slots:=[2,3,5]}else{ }
inductive HK where
 |h4 (i5:Int) (z0:zn [CP.d Q5]) (z1:zn [CP.d Q5])
abbrev QN:HK->Nat×St
 |.h4 i5 z0 z1=>(4,⟨tm 53 [(2,Qf 0 0),(3,Qf 1 0),(5,ai i5)],[Qa (bC [] [CP.d Q5] z0),Qa (bC [] [CP.d Q5] z1)]⟩)
theorem zjk(g:Sem Q5->Sem Q5->Sem Q7)(c:Sem Q5->Sem Q5->Bool):zJ (Ib g c).P 122 Tryz.f122 2:=bQ kw
def Bh(_:Sem Q5->Sem Q5->Sem Q7)(_:Sem Q5->Sem Q5->Bool)(x0:Sem Q5)(x1:Sem Q5):Tr (HK⊕ar):=
 br
 (bif !zf.op x0==zf.op x1 then Q3
 else
  bif !((zf.v x0).1==(zf.v x1).1&&((zf.v x0).2.1==(zf.v x1).2.1&&((zf.v x0).2.2==(zf.v x1).2.2&&Q3)))then Q3
  else bif !zf.s x0==zf.s x1 then Q3 else(↑(zf.l x0).length:Int)!=(↑(zf.l x1).length:Int))
 (re (kb Q4) []) (Q9 (HK.h4 0 (x0,()) (x1,())))
def yY(g:Sem Q5->Sem Q5->Sem Q7)(c:Sem Q5->Sem Q5->Bool)(i5:Int)(z0:zn [CP.d Q5])(z1:zn [CP.d Q5])(a0:Int)(a1:zf)(a2:zf):Tr (HK⊕ar):=
 br (Q0 (i5<a0))
 (Qc (zN i5 (zf.l z0.1).length)
  (Qc (zN i5 (zf.l z1.1).length) (Qc (c a1 a2) (br (!g a1 a2) (re (kb Q4) []) (Q9 (HK.h4 (IntKind.i64.wrap (i5+1)) z0 z1))))))
 (re (kb Q3) [])
def Hl(g:Sem Q5->Sem Q5->Sem Q7)(c:Sem Q5->Sem Q5->Bool)(i5:Int)(z0:zn [CP.d Q5])(z1:zn [CP.d Q5]):Tr (HK⊕ar):=
 let a0:=(↑(zf.l z0.1).length:Int)
 let a1:=zm ((zf.l z0.1).getD i5.toNat (zi Q5))
 let a2:=zm ((zf.l z1.1).getD i5.toNat (zi Q5))
 yY g c i5 z0 z1 a0 a1 a2
theorem zhi(g:Sem Q5->Sem Q5->Sem Q7)(c:Sem Q5->Sem Q5->Bool)(x0:Sem Q5)(x1:Sem Q5):rn (Ib g c) 0 Sr Tryz.f122 [zF Q5 x0,zF Q5 x1] []=(Bh g c x0 x1).map (lf Tryz.f122 QN):=kw
def Hk(g:Sem Q5->Sem Q5->Sem Q7)(c:Sem Q5->Sem Q5->Bool):HK->Tr (HK⊕ar)
 |.h4 i5 z0 z1=>Hl g c i5 z0 z1
theorem zjG(g:Sem Q5->Sem Q5->Sem Q7)(c:Sem Q5->Sem Q5->Bool):∀s,run (Ib g c) 0 Sr (Func.results Tryz.f122).toList 400 (ae Tryz.f122 (QN s).1) (QN s).2=(Hk g c s).map (lf Tryz.f122 QN)
 |.h4 i5 z0 z1=>by kernel_rfl
def gF(o:Option (zy (Qi Q1 [Q7]))):Sem Q7:=(λr:zy (Qi Q1 [Q7])=>r.1) (o.getD (cw [Q7]))
def Gt(g:Sem Q5->Sem Q5->Sem Q7)(c:Sem Q5->Sem Q5->Bool)(x0:Sem Q5)(x1:Sem Q5):Option (zy (Qi Q1 [Q7])):=ao [Q7] (Hk g c) 3000000000 (Bh g c x0 x1)
def bM:Nat->Sem Q5->Sem Q5->Option (zy (Qi Q1 [Q7]))
 |0=>λ_ _=>Q2
 |n+1=>Gt (λx0 x1=>gF (bM n x0 x1)) λx0 x1=>(bM n x0 x1).isSome
theorem zcr:zJ oN.P 122 Tryz.f122 2:=bQ kw
theorem Mf:∀n,FK 122 (zR [Q5,Q5] [Q7] (λx=>(bM n x.1 x.2.1).isSome) λx=>(gF (bM n x.1 x.2.1),()))
 |0=>fq ⟨Tryz.f122,zcr.1,zcr.2.1,zcr.2.2.1⟩ (λ_=>rfl)
 |n+1=>lH (E:=Ib (λx0 x1=>gF (bM n x0 x1)) (λx0 x1=>(bM n x0 x1).isSome)) (ks:=[Q5,Q5]) (outs:=[Q7]) (keep:=Sr) (gas:=400) (n:=3000000000) (e:=QN) (t:=Hk (λx0 x1=>gF (bM n x0 x1)) (λx0 x1=>(bM n x0 x1).isSome)) (i:=λx=>Bh (λx0 x1=>gF (bM n x0 x1)) (λx0 x1=>(bM n x0 x1).isSome) x.1 x.2.1) (Ov (Mf n)) (zjk _ _) (λx=>zhi _ _ x.1 x.2.1) (zjG _ _) (λ_=>by kernel_rfl) (λ_=>by kernel_rfl)
def yA(x0:Sem Q5)(x1:Sem Q5):Option (zy (Qi Q1 [Q7])):=bM 16 x0 x1
def gE(x0:Sem Q5)(x1:Sem Q5):Bool:=(yA x0 x1).isSome
def eW(x0:Sem Q5)(x1:Sem Q5):Sem Q7:=gF (yA x0 x1)
def ze3:zY:=zR [Q5,Q5] [Q7] (λx=>gE x.1 x.2.1) λx=>(eW x.1 x.2.1,())
theorem za9:FK 122 ze3:=Mf 16
def AH(g:Sem Q5->Sem zg)(c:Sem Q5->Bool):bX:=oN.add 133 (zR [Q5] [zg] (λx=>c x.1) λx=>(g x.1,()))
theorem Kx{g:Sem Q5->Sem zg}{c:Sem Q5->Bool}(hg:FK 133 (zR [Q5] [zg] (λx=>c x.1) λx=>(g x.1,()))):zx (AH g c):=iU.add hg
abbrev K2:Nat->aN:=λj=>if j=3 then{slots:=[1,3,4]}else{ }
inductive sM where
 |h3 (i3:Int) (i4:Int) (z0:zn [CP.d Q5])
abbrev H6:sM->Nat×St
 |.h3 i3 i4 z0=>(3,⟨tm 21 [(1,Qf 0 0),(3,ai i3),(4,ai i4)],[Qa (bC [] [CP.d Q5] z0)]⟩)
theorem zcY(g:Sem Q5->Sem zg)(c:Sem Q5->Bool):zJ (AH g c).P 133 Tryz.f133 1:=bQ kw
def MJ(_:Sem Q5->Sem zg)(_:Sem Q5->Bool)(x0:Sem Q5):Tr (sM⊕ar):=
 Q9 (sM.h3 1 0 (x0,()))
def CI(g:Sem Q5->Sem zg)(c:Sem Q5->Bool)(i3:Int)(i4:Int)(z0:zn [CP.d Q5])(a0:Int)(a1:zf):Tr (sM⊕ar):=
 br (Q0 (i4<a0))
 (Qc (zN i4 (zf.l z0.1).length) (Qc (c a1) (Q9 (sM.h3 (IntKind.i64.wrap (i3+g a1)) (IntKind.i64.wrap (i4+1)) z0))))
 (re (ai i3) [])
def Hb(g:Sem Q5->Sem zg)(c:Sem Q5->Bool)(i3:Int)(i4:Int)(z0:zn [CP.d Q5]):Tr (sM⊕ar):=
 let a0:=(↑(zf.l z0.1).length:Int)
 let a1:=zm ((zf.l z0.1).getD i4.toNat (zi Q5))
 CI g c i3 i4 z0 a0 a1
theorem zb2(g:Sem Q5->Sem zg)(c:Sem Q5->Bool)(x0:Sem Q5):rn (AH g c) 0 K2 Tryz.f133 [zF Q5 x0] []=(MJ g c x0).map (lf Tryz.f133 H6):=kw
def CH(g:Sem Q5->Sem zg)(c:Sem Q5->Bool):sM->Tr (sM⊕ar)
 |.h3 i3 i4 z0=>Hb g c i3 i4 z0
theorem zc4(g:Sem Q5->Sem zg)(c:Sem Q5->Bool):∀s,run (AH g c) 0 K2 (Func.results Tryz.f133).toList 400 (ae Tryz.f133 (H6 s).1) (H6 s).2=(CH g c s).map (lf Tryz.f133 H6)
 |.h3 i3 i4 z0=>by kernel_rfl
def iw(o:Option (zy (Qi Q1 [zg]))):Sem zg:=(λr:zy (Qi Q1 [zg])=>r.1) (o.getD (cw [zg]))
def Jp(g:Sem Q5->Sem zg)(c:Sem Q5->Bool)(x0:Sem Q5):Option (zy (Qi Q1 [zg])):=ao [zg] (CH g c) 100000000 (MJ g c x0)
def cr:Nat->Sem Q5->Option (zy (Qi Q1 [zg]))
 |0=>λ_=>Q2
 |n+1=>Jp (λx0=>iw (cr n x0)) λx0=>(cr n x0).isSome
theorem Sa:zJ oN.P 133 Tryz.f133 1:=bQ kw
theorem HB:∀n,FK 133 (zR [Q5] [zg] (λx=>(cr n x.1).isSome) λx=>(iw (cr n x.1),()))
 |0=>fq ⟨Tryz.f133,Sa.1,Sa.2.1,Sa.2.2.1⟩ (λ_=>rfl)
 |n+1=>lH (E:=AH (λx0=>iw (cr n x0)) (λx0=>(cr n x0).isSome)) (ks:=[Q5]) (outs:=[zg]) (keep:=K2) (gas:=400) (n:=100000000) (e:=H6) (t:=CH (λx0=>iw (cr n x0)) (λx0=>(cr n x0).isSome)) (i:=λx=>MJ (λx0=>iw (cr n x0)) (λx0=>(cr n x0).isSome) x.1) (Kx (HB n)) (zcY _ _) (λx=>zb2 _ _ x.1) (zc4 _ _) (λ_=>by kernel_rfl) (λ_=>by kernel_rfl)
def BY(x0:Sem Q5):Option (zy (Qi Q1 [zg])):=cr 16 x0
def uc(x0:Sem Q5):Bool:=(BY x0).isSome
def yD(x0:Sem Q5):Sem zg:=iw (BY x0)
def XV:zY:=zR [Q5] [zg] (λx=>uc x.1) λx=>(yD x.1,())
theorem Vb:FK 133 XV:=HB 16
def FE:=oN.addL [(21,Xr),(210,XW),(175,Ya),(48,zeA),(122,ze3),(133,XV)]
theorem ky:zx FE:=iU.addL<|fc UD<|fc Vc<|fc Vp<|fc zaD<|fc za9<|fc Vb iV
def YX(x0:Sem (Sh.int IntKind.u8)):Tr (Empty⊕ar):=
 Qc (fC x0&&bif gG x0 then Q3 else kf x0) (re (AV.bool (bif gG x0 then Q3 else bif mz x0 then Q3 else x0==95)) [])
def uj(x0:Sem (Sh.int IntKind.u8)):=ao [Q7] t0 100000000 (YX x0)
def qA(x0:Sem (Sh.int IntKind.u8)):=(uj x0).isSome
def wu(x0:Sem (Sh.int IntKind.u8)):=o1 (uj x0)
def XR:=FT [Sh.int IntKind.u8] [Q7] λx=>uj x.1
theorem U7:FK 124 XR:=ky.T1 (f:=Tryz.f124) (keep:=k0) (e:=e0)
abbrev zcD:=lV [(3,[0,3,4])]
inductive Dy where
 |h3 (s0:TS) (l3:LS) (i4:Int)
abbrev zgM:Dy->Nat×St
 |.h3 s0 l3 i4=>(3,⟨tm 18 [(0,str s0),(3,sl Q6 l3),(4,ai i4)],[]⟩)
def RR(x0:TS):Tr (Dy⊕ar):=
 Q9
 (Dy.h3 x0
  [[65,78,68],[79,82],[78,79,84],[73,83],[78,85,76,76],[84,82,85,69],[70,65,76,83,69],[67,82,69,65,84,69],[84,65,66,76,69],[75,69,89],[85,78,73,81,85,69],[82,69,70,69,82,69,78,67,69,83],[67,72,69,67,75],[68,82,79,80],[73,78,83,69,82,84],
  [73,78,84,79],[86,65,76,85,69,83],[85,80,68,65,84,69],[83,69,84],[87,72,69,82,69],[68,69,76,69,84,69],[70,82,79,77],[83,69,76,69,67,84],[71,82,65,78,84],[82,69,86,79,75,69],[82,69,65,68],[87,82,73,84,69],[79,78],[84,79],
  [77,73,71,82,65,84,69],[67,79,80,89],[74,79,73,78],[71,82,79,85,80],[66,89],[83,85,77],[73,78,84],[84,69,88,84],[66,79,79,76]]
  0)
def CG:Dy->Tr (Dy⊕ar)
 | .h3 s0 l3 i4=>
  br (Q0 (i4<(↑l3.length:Int)))
  (Qc (zN i4 l3.length) (br (l3.getD i4.toNat (zi Q6)==s0) (re (kb Q3) []) (Q9 (Dy.h3 s0 l3 (IntKind.i64.wrap (i4+1))))))
  (re (kb Q4) [])
def GO(x0:TS):=ao [Q7] CG 100000000 (RR x0)
def Cc(x0:TS):=(GO x0).isSome
def Jz(x0:TS):=o1 (GO x0)
def XP:=FT [Q6] [Q7] λx=>GO x.1
theorem U5:FK 121 XP:=ky.T1 (f:=Tryz.f121) (keep:=zcD) (e:=zgM)
abbrev Sb:Nat->aN:=λ_=>{ }
theorem zcQ:zJ FE.P 81 Tryz.f81 2:=bQ kw
def RK(y:zn aH)(x0:TS):Tr (Empty⊕ar):=
 let a0:=(y.1,y.2.1,y.2.2.1,())
 let a1:=JF a0 x0
 Qc (GV a0 x0)
 (br a1.1 (re (kb Q3) (au aH (a1.2.1,IntKind.i64.wrap (a1.2.2.1+1),a1.2.2.2)))
  (re (kb Q4) (au aH a1.2)))
theorem zbR(y:zn aH)(x0:TS):rn FE 1 Sb Tryz.f81 [Qf 0 0,zF Q6 x0] (au aH y)=(RK y x0).map (lf Tryz.f81 e0):=kw
def Nw(y:zn aH)(x0:TS):Option (zy (Qi Q1 [Q7])×zn aH):=kI [Q7] aH t0 100000000 (RK y x0)
def dM(y:zn aH)(x0:TS):Bool:=(Nw y x0).isSome
def eY(y:zn aH)(x0:TS):(Sem Q7)×zn aH:=(λr:zy (Qi Q1 [Q7])×zn aH=>(r.1.1,r.2)) ((Nw y x0).getD (cw [Q7],fS aH))
def Xv:zY:=rP aH [Q6] [Q7] aH (λy x=>dM y x.1) λy x=>(((eY y x.1).1,()),(eY y x.1).2)
theorem UH:FK 81 Xv:=ki (ps:=aH) (ks:=[Q6]) (outs:=[Q7]) (keep:=Sb) (gas:=400) (n:=100000000) (e:=e0) (t:=t0) (i:=λy x=>RK y x.1) ky zcQ (λy x=>zbR y x.1) (Uy _ _ _ _ _) (λ_ _=>by kernel_rfl) (λ_ _=>by kernel_rfl)
abbrev zil:=lV [(6,[2,3,5]),(11,[2,3,6]),(16,[2,3,7]),(21,[2,3,8]),(26,[2,3,9]),(31,[2,3,10])]
inductive qQ where
 |h6 (i5:Int) (z0:zn oq) (z1:zn oq)
 |h11 (i6:Int) (z0:zn oq) (z1:zn oq)
 |h16 (i7:Int) (z0:zn oq) (z1:zn oq)
 |h21 (i8:Int) (z0:zn oq) (z1:zn oq)
 |h26 (i9:Int) (z0:zn oq) (z1:zn oq)
 |h31 (i10:Int) (z0:zn oq) (z1:zn oq)
abbrev zkR:qQ->Nat×St
 |.h6 i5 z0 z1=>(6,⟨tm 238 [(2,Qf 0 0),(3,Qf 1 0),(5,ai i5)],[Qa (bC [] oq z0),Qa (bC [] oq z1)]⟩)
 |.h11 i6 z0 z1=>(11,⟨tm 238 [(2,Qf 0 0),(3,Qf 1 0),(6,ai i6)],[Qa (bC [] oq z0),Qa (bC [] oq z1)]⟩)
 |.h16 i7 z0 z1=>(16,⟨tm 238 [(2,Qf 0 0),(3,Qf 1 0),(7,ai i7)],[Qa (bC [] oq z0),Qa (bC [] oq z1)]⟩)
 |.h21 i8 z0 z1=>(21,⟨tm 238 [(2,Qf 0 0),(3,Qf 1 0),(8,ai i8)],[Qa (bC [] oq z0),Qa (bC [] oq z1)]⟩)
 |.h26 i9 z0 z1=>(26,⟨tm 238 [(2,Qf 0 0),(3,Qf 1 0),(9,ai i9)],[Qa (bC [] oq z0),Qa (bC [] oq z1)]⟩)
 |.h31 i10 z0 z1=>(31,⟨tm 238 [(2,Qf 0 0),(3,Qf 1 0),(10,ai i10)],[Qa (bC [] oq z0),Qa (bC [] oq z1)]⟩)
def Wn(x0:Sem zl)(x1:Sem zl):Tr (qQ⊕ar):=
 let a0:=!x0.1==x1.1
 let a1:=!x0.2.1==x1.2.1
 let a2:=!x0.2.2.1==x1.2.2.1
 let a3:=!x0.t.2.1==x1.t.2.1
 let a4:=!x0.t.t.t==x1.t.t.t
 let a5:=zm x0.t.t.1
 let a6:=zm x1.t.t.1
 let a7:=!eW a5 a6
 let a8:=zm x0.t.t.q.2.1
 let a9:=zm x1.t.t.q.2.1
 Qc
 (bif a0 then Q3
 else bif a1 then Q3 else bif a2 then Q3 else bif a3 then Q3 else bif a4 then Q3 else gE a5 a6&&bif a7 then Q3 else gE a8 a9)
 (br (bif a0 then Q3 else bif a1 then Q3 else bif a2 then Q3 else bif a3 then Q3 else bif a4 then Q3 else bif a7 then Q3 else !eW a8 a9)
  (re (kb Q4) [])
  (br (bif (↑(length x0.2.2.2.1):Int)!=(↑(length x1.2.2.2.1):Int)then Q3 else bif (↑(length x0.t.1):Int)!=(↑(length x1.t.1):Int)then Q3 else bif (↑(length x0.t.q.1):Int)!=(↑(length x1.t.q.1):Int)then Q3 else bif (↑(length x0.t.q.2.1):Int)!=(↑(length x1.t.q.2.1):Int)then Q3
  else bif (↑(length x0.t.t.2.1):Int)!=(↑(length x1.t.t.2.1):Int)then Q3 else(↑(length x0.t.t.q.1):Int)!=(↑(length x1.t.t.q.1):Int)) (re (kb Q4) []) (Q9 (qQ.h6 0 (x0,()) (x1,())))))
def sI:qQ->Tr (qQ⊕ar)
 | .h6 i5 z0 z1=>
  let a0:=(↑(length z0.1.2.2.2.1):Int)
  br (Q0 (i5<a0))
  (Qc (zN i5 (length z0.1.2.2.2.1))
   (Qc (zN i5 (length z1.1.2.2.2.1)) (br (!getD z0.1.2.2.2.1 i5.toNat (zi Q6)==getD z1.1.2.2.2.1 i5.toNat (zi Q6)) (re (kb Q4) []) (Q9 (qQ.h6 (IntKind.i64.wrap (i5+1)) z0 z1)))))
  (Q9 (qQ.h11 0 z0 z1))
 | .h11 i6 z0 z1=>
  let a0:=(↑(length z0.1.t.1):Int)
  let a1:=getD z0.1.t.1 i6.toNat (zi zj)
  let a2:=getD z1.1.t.1 i6.toNat (zi zj)
  br (Q0 (i6<a0))
  (Qc (zN i6 (length z0.1.t.1))
   (Qc (zN i6 (length z1.1.t.1)) (br (!(a1.1==a2.1&&(a1.2.1==a2.2.1&&(a1.2.2==a2.2.2&&Q3)))) (re (kb Q4) []) (Q9 (qQ.h11 (IntKind.i64.wrap (i6+1)) z0 z1)))))
  (Q9 (qQ.h16 0 z0 z1))
 | .h16 i7 z0 z1=>
  let a0:=(↑(length z0.1.t.q.1):Int)
  br (Q0 (i7<a0))
  (Qc (zN i7 (length z0.1.t.q.1))
   (Qc (zN i7 (length z1.1.t.q.1)) (br (!getD z0.1.t.q.1 i7.toNat (zi Q6)==getD z1.1.t.q.1 i7.toNat (zi Q6)) (re (kb Q4) []) (Q9 (qQ.h16 (IntKind.i64.wrap (i7+1)) z0 z1)))))
  (Q9 (qQ.h21 0 z0 z1))
 | .h21 i8 z0 z1=>
  let a0:=(↑(length z0.1.t.q.2.1):Int)
  let a1:=getD z0.1.t.q.2.1 i8.toNat (zi iK)
  let a2:=getD z1.1.t.q.2.1 i8.toNat (zi iK)
  br (Q0 (i8<a0))
  (Qc (zN i8 (length z0.1.t.q.2.1))
   (Qc (zN i8 (length z1.1.t.q.2.1)) (br (!(a1.1==a2.1&&(a1.2==a2.2&&Q3))) (re (kb Q4) []) (Q9 (qQ.h21 (IntKind.i64.wrap (i8+1)) z0 z1)))))
  (Q9 (qQ.h26 0 z0 z1))
 | .h26 i9 z0 z1=>
  let a0:=(↑(length z0.1.t.t.2.1):Int)
  let a1:=getD z0.1.t.t.2.1 i9.toNat (zi ze)
  let a2:=getD z1.1.t.t.2.1 i9.toNat (zi ze)
  br (Q0 (i9<a0))
  (Qc (zN i9 (length z0.1.t.t.2.1))
   (Qc (zN i9 (length z1.1.t.t.2.1)) (br (!(a1.1==a2.1&&(a1.2.1==a2.2.1&&(a1.2.2==a2.2.2&&Q3)))) (re (kb Q4) []) (Q9 (qQ.h26 (IntKind.i64.wrap (i9+1)) z0 z1)))))
  (Q9 (qQ.h31 0 z0 z1))
 | .h31 i10 z0 z1=>
  let a0:=(↑(length z0.1.t.t.q.1):Int)
  let a1:=zN i10 (length z0.1.t.t.q.1)
  let a2:=zN i10 (length z1.1.t.t.q.1)
  let a3:=getD z0.1.t.t.q.1 i10.toNat (zi g6)
  let a4:=getD z1.1.t.t.q.1 i10.toNat (zi g6)
  let a5:=!a3.1==a4.1
  let a6:=zm a3.2
  let a7:=zm a4.2
  br (Q0 (i10<a0))
  (Qc (a1&&(a2&&bif a5 then Q3 else a1&&(a2&&gE a6 a7)))
   (br (bif a5 then Q3 else !eW a6 a7) (re (kb Q4) []) (Q9 (qQ.h31 (IntKind.i64.wrap (i10+1)) z0 z1))))
  (re (kb Q3) [])
def qC(x0:Sem zl)(x1:Sem zl):=ao [Q7] sI 100000000 (Wn x0 x1)
def yJ(x0:Sem zl)(x1:Sem zl):=(qC x0 x1).isSome
def eX(x0:Sem zl)(x1:Sem zl):=o1 (qC x0 x1)
def ze6:=FT [zl,zl] [Q7] λx=>qC x.1 x.2.1
theorem zbc:FK 74 ze6:=ky.T1 (f:=Tryz.f74) (keep:=zil) (e:=zkR)
def Ed:=FE.addL [(124,XR),(121,XP),(81,Xv),(74,ze6)]
theorem pM:zx Ed:=ky.addL<|fc U7<|fc U5<|fc UH<|fc zbc iV
abbrev zcC:=lV [(2,[0,3])]
inductive Dx where
 |h2 (s0:TS) (i3:Int)
abbrev zgL:Dx->Nat×St
 |.h2 s0 i3=>(2,⟨tm 28 [(0,str s0),(3,ai i3)],[]⟩)
def YV(x0:TS):Tr (Dx⊕ar):=
 Q9 (Dx.h2 x0 0)
def uG:Dx->Tr (Dx⊕ar)
 | .h2 s0 i3=>
  let a0:=(↑(getD s0 i3.toNat 0).toNat:Int)
  let a1:=Q0 (1<=(↑(length s0):Int))
  let a2:=Q0 ((↑(length s0):Int)<=16)
  let a3:=(↑(getD s0 (toNat 0) 0).toNat:Int)
  br (Q0 (i3<(↑(length s0):Int)))
  (Qc (zN i3 (length s0)) (Qc (qA a0) (br (!wu a0) (re (kb Q4) []) (Q9 (Dx.h2 s0 (IntKind.i64.wrap (i3+1)))))))
  (Qc (bif a1 then bif a2 then zN 0 (length s0)&&kf a3 else Q3 else Q3)
   (re (AV.bool (bif a1 then bif a2 then mz a3 else Q4 else Q4)) []))
def yI(x0:TS):=ao [Q7] uG 100000000 (YV x0)
def uh(x0:TS):=(yI x0).isSome
def sF(x0:TS):=o1 (yI x0)
def XO:=FT [Q6] [Q7] λx=>yI x.1
theorem U4:FK 120 XO:=pM.T1 (f:=Tryz.f120) (keep:=zcC) (e:=zgL)
abbrev Sc:Nat->aN:=λ_=>{ }
theorem zcR:zJ Ed.P 83 Tryz.f83 2:=bQ kw
def RL(y:zn aH)(x0:TS):Tr (Empty⊕ar):=
 let a0:=(y.1,y.2.1,y.2.2.1,())
 let a1:=eY a0 x0
 Qc (dM a0 x0)
 (br (!a1.1) (re (Qe []) [Qa [sl zr a1.2.1,ai a1.2.2.1,kb Q4]])
  (re (Qe []) (au aH a1.2)))
theorem zbS(y:zn aH)(x0:TS):rn Ed 1 Sc Tryz.f83 [Qf 0 0,zF Q6 x0] (au aH y)=(RL y x0).map (lf Tryz.f83 e0):=kw
def Nu(y:zn aH)(x0:TS):Option (zy (Qi Q1 [])×zn aH):=kI [] aH t0 100000000 (RL y x0)
def aV(y:zn aH)(x0:TS):Bool:=(Nu y x0).isSome
def bF(y:zn aH)(x0:TS):zn aH:=(λr:zy (Qi Q1 [])×zn aH=>r.2) ((Nu y x0).getD (cw [],fS aH))
def Xx:zY:=rP aH [Q6] [] aH (λy x=>aV y x.1) λy x=>((),bF y x.1)
theorem UK:FK 83 Xx:=ki (ps:=aH) (ks:=[Q6]) (outs:=[]) (keep:=Sc) (gas:=400) (n:=100000000) (e:=e0) (t:=t0) (i:=λy x=>RL y x.1) pM zcR (λy x=>zbS y x.1) (Uy _ _ _ _ _) (λ_ _=>by kernel_rfl) (λ_ _=>by kernel_rfl)
abbrev Sd:Nat->aN:=λ_=>{ }
theorem zcS:zJ Ed.P 84 Tryz.f84 1:=bQ kw
def RM(y:zn aH):Tr (Empty⊕ar):=
 let a0:=Q0 (y.2.1<(↑(length y.1):Int))
 let a1:=zN y.2.1 (length y.1)
 let a2:=getD y.1 (toNat y.2.1) (zi zr)
 let a3:=a2.1==1
 let a4:=IntKind.i64.wrap (y.2.1+1)
 let a5:=IntKind.i64.wrap (a4-1)
 let a6:=getD y.1 a5.toNat (zi zr)
 Qc (bif a0 then a1&&bif a3 then a1&&Cc a2.2 else Q3 else Q3)
 (br (bif a0 then bif a3 then !Jz a2.2 else Q4 else Q4)
  (Qc (zN a5 (length y.1)) (re (str a6.2) (au aH (y.1,a4,y.2.2))))
  (re (str []) [Qa [sl zr y.1,ai y.2.1,kb Q4]]))
theorem zbT(y:zn aH):rn Ed 1 Sd Tryz.f84 [Qf 0 0] (au aH y)=(RM y).map (lf Tryz.f84 e0):=kw
def Nv(y:zn aH):Option (zy (Qi Q1 [Q6])×zn aH):=kI [Q6] aH t0 100000000 (RM y)
def bm(y:zn aH):Bool:=(Nv y).isSome
def bN(y:zn aH):(Sem Q6)×zn aH:=(λr:zy (Qi Q1 [Q6])×zn aH=>(r.1.1,r.2)) ((Nv y).getD (cw [Q6],fS aH))
def Xy:zY:=rP aH [] [Q6] aH (λy _=>bm y) λy _=>(((bN y).1,()),(bN y).2)
theorem UL:FK 84 Xy:=ki (ps:=aH) (ks:=[]) (outs:=[Q6]) (keep:=Sd) (gas:=400) (n:=100000000) (e:=e0) (t:=t0) (i:=λy x=>RM y) pM zcS (λy x=>zbT y) (Uy _ _ _ _ _) (λ_ _=>by kernel_rfl) (λ_ _=>by kernel_rfl)
def Ee:=Ed.addL [(120,XO),(83,Xx),(84,Xy)]
theorem md:zx Ee:=pM.addL<|fc U4<|fc UK<|fc UL iV
def YT(x0:Sem ze):Tr (Empty⊕ar):=
 Qc (lP x0)
 (br (rB x0) (re (agg [ai x0.1,ai x0.2.1,str x0.2.2]) [])
  (re (agg [ai 0,ai 0,str []]) []))
def t7(x0:Sem ze):=ao [ze] t0 100000000 (YT x0)
def ql(x0:Sem ze):=(t7 x0).isSome
def eV(x0:Sem ze):=o1 (t7 x0)
def Xu:=FT [ze] [ze] λx=>t7 x.1
theorem UG:FK 33 Xu:=md.T1 (f:=Tryz.f33) (keep:=k0) (e:=e0)
def YS(x0:Sem ze)(x1:Sem Q7):Tr (Empty⊕ar):=
 Qc (kM x1) (re (AV.bool (x0.1==(aU x1).1&&(x0.2.1==(aU x1).2.1&&(x0.2.2==(aU x1).2.2&&Q3)))) [])
def Jh(x0:Sem ze)(x1:Sem Q7):=ao [Q7] t0 100000000 (YS x0 x1)
def mq(x0:Sem ze)(x1:Sem Q7):=(Jh x0 x1).isSome
def pe(x0:Sem ze)(x1:Sem Q7):=o1 (Jh x0 x1)
def Xs:=FT [ze,Q7] [Q7] λx=>Jh x.1 x.2.1
theorem UE:FK 173 Xs:=md.T1 (f:=Tryz.f173) (keep:=k0) (e:=e0)
def FC(g:Sem Q5->Sem zg->Sem Q7)(c:Sem Q5->Sem zg->Bool):bX:=Ee.add 132 (zR [Q5,zg] [Q7] (λx=>c x.1 x.2.1) λx=>(g x.1 x.2.1,()))
theorem Kw{g:Sem Q5->Sem zg->Sem Q7}{c:Sem Q5->Sem zg->Bool}(hg:FK 132 (zR [Q5,zg] [Q7] (λx=>c x.1 x.2.1) λx=>(g x.1 x.2.1,()))):zx (FC g c):=md.add hg
abbrev Sj:Nat->aN:=λ_=>{ }
theorem zcX(g:Sem Q5->Sem zg->Sem Q7)(c:Sem Q5->Sem zg->Bool):zJ (FC g c).P 132 Tryz.f132 2:=bQ kw
def MI(g:Sem Q5->Sem zg->Sem Q7)(c:Sem Q5->Sem zg->Bool)(x0:Sem Q5)(x1:Sem zg):Tr (Empty⊕ar):=
 let a0:=(↑(zf.l x0).length:Int)==0
 let a1:=(zf.v x0).1==0&&((zf.v x0).2.1==0&&((zf.v x0).2.2==[]&&Q3))
 let a2:=(↑(zf.l x0).length:Int)==1
 let a3:=zN 0 (zf.l x0).length
 let a4:=zm ((zf.l x0).getD (toNat 0) (zi Q5))
 let a5:=IntKind.i64.wrap (x1-1)
 let a6:=c a4 a5
 let a7:=g a4 a5
 let a8:=(↑(zf.l x0).length:Int)==2
 let a9:=zm ((zf.l x0).getD (toNat 1) (zi Q5))
 br (x1==0) (re (kb Q4) [])
 (br (zf.op x0==[108,105,116])
  (Qc (lP (zf.v x0)) (re (AV.bool (bif rB (zf.v x0)then bif zf.s x0==[]then a0 else Q4 else Q4)) []))
  (br (zf.op x0==[99,111,108]) (Qc (bif a1 then uh (zf.s x0)&&bif sF (zf.s x0)then Cc (zf.s x0)else Q3 else Q3) (re (AV.bool (bif a1 then bif sF (zf.s x0)then bif !Jz (zf.s x0)then a0 else Q4 else Q4 else Q4)) [])) (br (bif zf.op x0==[110,111,116]then Q3 else zf.op x0==[110,117,108,108])
  (Qc (bif a1 then bif zf.s x0==[]then bif a2 then a3&&a6 else Q3 else Q3 else Q3) (re (AV.bool (bif a1 then bif zf.s x0==[]then bif a2 then a7 else Q4 else Q4 else Q4)) [])) (Qc (Gy (zf.op x0)) (br (No (zf.op x0)) (Qc
  (bif a1 then bif zf.s x0==[]then bif a8 then a3&&(a6&&bif a7 then zN 1 (zf.l x0).length&&c a9 a5 else Q3)else Q3 else Q3 else Q3) (re (AV.bool (bif a1 then bif zf.s x0==[]then bif a8 then bif a7 then g a9 a5 else Q4 else Q4 else Q4 else Q4)) [])) (re (kb Q4) []))))))
theorem zb1(g:Sem Q5->Sem zg->Sem Q7)(c:Sem Q5->Sem zg->Bool)(x0:Sem Q5)(x1:Sem zg):rn (FC g c) 0 Sj Tryz.f132 [zF Q5 x0,zF zg x1] []=(MI g c x0 x1).map (lf Tryz.f132 e0):=kw
def nu(o:Option (zy (Qi Q1 [Q7]))):Sem Q7:=(λr:zy (Qi Q1 [Q7])=>r.1) (o.getD (cw [Q7]))
def Gx(g:Sem Q5->Sem zg->Sem Q7)(c:Sem Q5->Sem zg->Bool)(x0:Sem Q5)(x1:Sem zg):Option (zy (Qi Q1 [Q7])):=ao [Q7] t0 100000000 (MI g c x0 x1)
def fK:Nat->Sem Q5->Sem zg->Option (zy (Qi Q1 [Q7]))
 |0=>λ_ _=>Q2
 |n+1=>Gx (λx0 x1=>nu (fK n x0 x1)) λx0 x1=>(fK n x0 x1).isSome
theorem R9:zJ Ee.P 132 Tryz.f132 2:=bQ kw
theorem HA:∀n,FK 132 (zR [Q5,zg] [Q7] (λx=>(fK n x.1 x.2.1).isSome) λx=>(nu (fK n x.1 x.2.1),()))
 |0=>fq ⟨Tryz.f132,R9.1,R9.2.1,R9.2.2.1⟩ (λ_=>rfl)
 |n+1=>lH (E:=FC (λx0 x1=>nu (fK n x0 x1)) (λx0 x1=>(fK n x0 x1).isSome)) (ks:=[Q5,zg]) (outs:=[Q7]) (keep:=Sj) (gas:=400) (n:=100000000) (e:=e0) (t:=t0) (i:=λx=>MI (λx0 x1=>nu (fK n x0 x1)) (λx0 x1=>(fK n x0 x1).isSome) x.1 x.2.1) (Kw (HA n)) (zcX _ _) (λx=>zb1 _ _ x.1 x.2.1) (Uy _ _ _ _ _) (λ_=>by kernel_rfl) (λ_=>by kernel_rfl)
def Gw(x0:Sem Q5)(x1:Sem zg):Option (zy (Qi Q1 [Q7])):=fK 16 x0 x1
def yC(x0:Sem Q5)(x1:Sem zg):Bool:=(Gw x0 x1).isSome
def Gv(x0:Sem Q5)(x1:Sem zg):Sem Q7:=nu (Gw x0 x1)
def XU:zY:=zR [Q5,zg] [Q7] (λx=>yC x.1 x.2.1) λx=>(Gv x.1 x.2.1,())
theorem Va:FK 132 XU:=HA 16
def Ic(g:Sem Q5->Sem (Sh.sl zj)->Sem zg×Sem zg)(c:Sem Q5->Sem (Sh.sl zj)->Bool):bX:=Ee.add 80 (zR [Q5,Sh.sl zj] [zg,zg] (λx=>c x.1 x.2.1) λx=>((g x.1 x.2.1).1,(g x.1 x.2.1).2,()))
theorem Ow{g:Sem Q5->Sem (Sh.sl zj)->Sem zg×Sem zg}{c:Sem Q5->Sem (Sh.sl zj)->Bool}(hg:FK 80 (zR [Q5,Sh.sl zj] [zg,zg] (λx=>c x.1 x.2.1) λx=>((g x.1 x.2.1).1,(g x.1 x.2.1).2,()))):zx (Ic g c):=md.add hg
abbrev Ss:Nat->aN:=λj=>if j=5 then{slots:=[1,2,6]}else{ }
inductive N3 where
 |h5 (l1:LC) (i6:Int) (z0:zn [CP.d Q5])
abbrev QO:N3->Nat×St
 |.h5 l1 i6 z0=>(5,⟨tm 116 [(1,sl zj l1),(2,Qf 0 0),(6,ai i6)],[Qa (bC [] [CP.d Q5] z0)]⟩)
theorem zjm(g:Sem Q5->Sem zj.sl->Sem zg×Sem zg)(c:Sem Q5->Sem zj.sl->Bool):zJ (Ic g c).P 80 Tryz.f80 2:=bQ kw
def Bi(g:Sem Q5->Sem zj.sl->Sem zg×Sem zg)(c:Sem Q5->Sem zj.sl->Bool)(x0:Sem Q5)(x1:Sem zj.sl):Tr (N3⊕ar):=
 let a0:=zm ((zf.l x0).getD (toNat 0) (zi Q5))
 let a1:=g a0 x1
 let a2:=zm ((zf.l x0).getD (toNat 1) (zi Q5))
 let a3:=g a2 x1
 let a4:=zf.op x0==[110,117,108,108]
 let a5:=zf.op x0==[61]
 let a6:=a1.1!=0
 let a7:=a3.1!=0
 let a8:=zf.op x0==[60]
 let a9:=zf.op x0==[43]
 let a10:=a1.1!=1
 let a11:=bif a7 then a3.1!=1 else Q4
 let a12:=zf.op x0==[45]
 let a13:=a1.1!=3
 let a14:=bif a7 then a3.1!=3 else Q4
 let a15:=bif a6 then a10 else Q4
 let a16:=bif a6 then a13 else Q4
 br (zf.op x0==[108,105,116]) (re (Qe [ai (zf.v x0).1,ai 0]) [])
 (br (zf.op x0==[99,111,108]) (Q9 (N3.h5 x1 0 (x0,())))
  (Qc (zN 0 (zf.l x0).length) (Qc (c a0 x1) (br (a1.2!=0) (re (Qe [ai 0,ai a1.2]) []) (br ((↑(zf.l x0).length:Int)==2) (Qc (zN 1 (zf.l x0).length) (Qc (c a2 x1) (br (a3.2!=0) (re (Qe [ai 0,ai a3.2]) []) (br a4 (re (Qe [ai 3,ai 0]) []) (br a5
  (br (bif a6 then bif a7 then a1.1!=a3.1 else Q4 else Q4) (re (Qe [ai 0,ai 5]) []) (re (Qe [ai 3,ai 0]) [])) (br a8 (br (bif a6 then bif a7 then a1.1!=a3.1 else Q4 else Q4) (re (Qe [ai 0,ai 5]) []) (re (Qe [ai 3,ai 0]) [])) (br a9
  (br (bif a6 then bif a10 then Q3 else a11 else a11) (re (Qe [ai 0,ai 5]) []) (re (Qe [ai 1,ai 0]) [])) (br a12 (br (bif a6 then bif a10 then Q3 else a11 else a11) (re (Qe [ai 0,ai 5]) []) (re (Qe [ai 1,ai 0]) []))
  (br (bif a6 then bif a13 then Q3 else a14 else a14) (re (Qe [ai 0,ai 5]) []) (re (Qe [ai 3,ai 0]) [])))))))))) (br a4 (re (Qe [ai 3,ai 0]) []) (br a5 (br (bif a6 then bif a6 then a1.1!=a1.1 else Q4 else Q4) (re (Qe [ai 0,ai 5]) [])
  (re (Qe [ai 3,ai 0]) [])) (br a8 (br (bif a6 then bif a6 then a1.1!=a1.1 else Q4 else Q4) (re (Qe [ai 0,ai 5]) []) (re (Qe [ai 3,ai 0]) [])) (br a9 (br (bif a6 then bif a10 then Q3 else a15 else a15) (re (Qe [ai 0,ai 5]) [])
  (re (Qe [ai 1,ai 0]) [])) (br a12 (br (bif a6 then bif a10 then Q3 else a15 else a15) (re (Qe [ai 0,ai 5]) []) (re (Qe [ai 1,ai 0]) [])) (br (bif a6 then bif a13 then Q3 else a16 else a16) (re (Qe [ai 0,ai 5]) []) (re (Qe [ai 3,ai 0]) []))))))))))))
theorem zhj(g:Sem Q5->Sem zj.sl->Sem zg×Sem zg)(c:Sem Q5->Sem zj.sl->Bool)(x0:Sem Q5)(x1:Sem zj.sl):rn (Ic g c) 0 Ss Tryz.f80 [zF Q5 x0,zF zj.sl x1] []=(Bi g c x0 x1).map (lf Tryz.f80 QO):=kw
def JY(_:Sem Q5->Sem zj.sl->Sem zg×Sem zg)(_:Sem Q5->Sem zj.sl->Bool):N3->Tr (N3⊕ar)
 | .h5 l1 i6 z0=>
  let a0:=l1.getD i6.toNat (zi zj)
  br (Q0 (i6<(↑l1.length:Int)))
  (Qc (zN i6 l1.length)
   (br (a0.1==zf.s z0.1) (Qc (zN i6 l1.length) (re (Qe [ai a0.2.1,ai 0]) [])) (Q9 (N3.h5 l1 (IntKind.i64.wrap (i6+1)) z0))))
  (re (Qe [ai 0,ai 4]) [])
theorem zjH(g:Sem Q5->Sem zj.sl->Sem zg×Sem zg)(c:Sem Q5->Sem zj.sl->Bool):∀s,run (Ic g c) 0 Ss (Func.results Tryz.f80).toList 400 (ae Tryz.f80 (QO s).1) (QO s).2=(JY g c s).map (lf Tryz.f80 QO)
 |.h5 l1 i6 z0=>by kernel_rfl
def fJ(o:Option (zy (Qi Q1 [zg,zg]))):Sem zg×Sem zg:=(λr:zy (Qi Q1 [zg,zg])=>(r.1,r.2.1)) (o.getD (cw [zg,zg]))
def Nn(g:Sem Q5->Sem zj.sl->Sem zg×Sem zg)(c:Sem Q5->Sem zj.sl->Bool)(x0:Sem Q5)(x1:Sem zj.sl):Option (zy (Qi Q1 [zg,zg])):=ao [zg,zg] (JY g c) 100000000 (Bi g c x0 x1)
def bV:Nat->Sem Q5->Sem zj.sl->Option (zy (Qi Q1 [zg,zg]))
 |0=>λ_ _=>Q2
 |n+1=>Nn (λx0 x1=>fJ (bV n x0 x1)) λx0 x1=>(bV n x0 x1).isSome
theorem zcs:zJ Ee.P 80 Tryz.f80 2:=bQ kw
theorem Mg:∀n,FK 80 (zR [Q5,zj.sl] [zg,zg] (λx=>(bV n x.1 x.2.1).isSome) λx=>((fJ (bV n x.1 x.2.1)).1,(fJ (bV n x.1 x.2.1)).2,()))
 |0=>fq ⟨Tryz.f80,zcs.1,zcs.2.1,zcs.2.2.1⟩ (λ_=>rfl)
 |n+1=>lH (E:=Ic (λx0 x1=>fJ (bV n x0 x1)) (λx0 x1=>(bV n x0 x1).isSome)) (ks:=[Q5,zj.sl]) (outs:=[zg,zg]) (keep:=Ss) (gas:=400) (n:=100000000) (e:=QO) (t:=JY (λx0 x1=>fJ (bV n x0 x1)) (λx0 x1=>(bV n x0 x1).isSome)) (i:=λx=>Bi (λx0 x1=>fJ (bV n x0 x1)) (λx0 x1=>(bV n x0 x1).isSome) x.1 x.2.1) (Ow (Mg n)) (zjm _ _) (λx=>zhj _ _ x.1 x.2.1) (zjH _ _) (λ_=>by kernel_rfl) (λ_=>by kernel_rfl)
def yB(x0:Sem Q5)(x1:Sem zj.sl):Option (zy (Qi Q1 [zg,zg])):=bV 16 x0 x1
def nt(x0:Sem Q5)(x1:Sem zj.sl):Bool:=(yB x0 x1).isSome
def iv(x0:Sem Q5)(x1:Sem zj.sl):Sem zg×Sem zg:=fJ (yB x0 x1)
def zfa:zY:=zR [Q5,zj.sl] [zg,zg] (λx=>nt x.1 x.2.1) λx=>((iv x.1 x.2.1).1,(iv x.1 x.2.1).2,())
theorem zbg:FK 80 zfa:=Mg 16
def QT:=Ee.addL [(33,Xu),(173,Xs),(132,XU),(80,zfa)]
theorem gK:zx QT:=md.addL<|fc UG<|fc UE<|fc Va<|fc zbg iV
def zhx(x0:Sem ze)(x1:Sem ze):Tr (Empty⊕ar):=
 let a0:=(eV x0).1==(eV x1).1
 let a1:=(eV x0).2.1==(eV x1).2.1
 Qc (ql x0)
 (Qc (ql x1)
  (br (a0&&(a1&&((eV x0).2.2==(eV x1).2.2&&Q3))) (re (ai 0) []) (br (bif Q0 ((eV x0).1<(eV x1).1)then Q3 else bif a0 then bif Q0 ((eV x0).2.1<(eV x1).2.1)then Q3 else bif a1 then Op.bytesLess (eV x0).2.2 (eV x1).2.2 else Q4 else Q4) (re (ai (-1)) []) (re (ai 1) []))))
def pg(x0:Sem ze)(x1:Sem ze):=ao [zg] t0 100000000 (zhx x0 x1)
def BR(x0:Sem ze)(x1:Sem ze):=(pg x0 x1).isSome
def Gp(x0:Sem ze)(x1:Sem ze):=o1 (pg x0 x1)
def zeN:=FT [ze,ze] [zg] λx=>pg x.1 x.2.1
theorem zaT:FK 12 zeN:=gK.T1 (f:=Tryz.f12) (keep:=k0) (e:=e0)
def Y5(x0:Sem ze)(x1:Sem ze):Tr (Empty⊕ar):=
 Qc (ql x0)
 (Qc (ql x1)
  (re (AV.bool (bif (eV x0).1==0 then Q3 else bif (eV x1).1==0 then Q3 else(eV x0).1!=(eV x1).1)) []))
def ph(x0:Sem ze)(x1:Sem ze):=ao [Q7] t0 100000000 (Y5 x0 x1)
def mr(x0:Sem ze)(x1:Sem ze):=(ph x0 x1).isSome
def qi(x0:Sem ze)(x1:Sem ze):=o1 (ph x0 x1)
def Yb:=FT [ze,ze] [Q7] λx=>ph x.1 x.2.1
theorem Vq:FK 251 Yb:=gK.T1 (f:=Tryz.f251) (keep:=k0) (e:=e0)
def YZ(x0:Sem ze)(x1:Sem ze):Tr (Empty⊕ar):=
 Qc (mq x0 Q4&&bif pe x0 Q4 then Q3 else mq x1 Q4)
 (br (bif pe x0 Q4 then Q3 else pe x1 Q4)
  (Qc Q3 (re (agg [ai (aU Q4).1,ai (aU Q4).2.1,str (aU Q4).2.2]) []))
  (Qc (mq x0 Q3&&bif pe x0 Q3 then mq x1 Q3 else Q3) (br (bif pe x0 Q3 then pe x1 Q3 else Q4) (Qc Q3 (re (agg [ai (aU Q3).1,ai (aU Q3).2.1,str (aU Q3).2.2]) [])) (re (agg [ai 0,ai 0,str []]) []))))
def BN(x0:Sem ze)(x1:Sem ze):=ao [ze] t0 100000000 (YZ x0 x1)
def Gk(x0:Sem ze)(x1:Sem ze):=(BN x0 x1).isSome
def EN(x0:Sem ze)(x1:Sem ze):=o1 (BN x0 x1)
def XY:=FT [ze,ze] [ze] λx=>BN x.1 x.2.1
theorem Ve:FK 212 XY:=gK.T1 (f:=Tryz.f212) (keep:=k0) (e:=e0)
def Y0(x0:Sem ze)(x1:Sem ze):Tr (Empty⊕ar):=
 Qc (mq x0 Q3&&bif pe x0 Q3 then Q3 else mq x1 Q3)
 (br (bif pe x0 Q3 then Q3 else pe x1 Q3)
  (Qc Q3 (re (agg [ai (aU Q3).1,ai (aU Q3).2.1,str (aU Q3).2.2]) []))
  (Qc (mq x0 Q4&&bif pe x0 Q4 then mq x1 Q4 else Q3) (br (bif pe x0 Q4 then pe x1 Q4 else Q4) (Qc Q3 (re (agg [ai (aU Q4).1,ai (aU Q4).2.1,str (aU Q4).2.2]) [])) (re (agg [ai 0,ai 0,str []]) []))))
def Jk(x0:Sem ze)(x1:Sem ze):=ao [ze] t0 100000000 (Y0 x0 x1)
def Nj(x0:Sem ze)(x1:Sem ze):=(Jk x0 x1).isSome
def Pc(x0:Sem ze)(x1:Sem ze):=o1 (Jk x0 x1)
def XZ:=FT [ze,ze] [ze] λx=>Jk x.1 x.2.1
theorem Vf:FK 213 XZ:=gK.T1 (f:=Tryz.f213) (keep:=k0) (e:=e0)
def YY(x0:Sem ze):Tr (Empty⊕ar):=
 Qc (mq x0 Q3)
 (br (pe x0 Q3)
  (Qc Q3 (re (agg [ai (aU Q4).1,ai (aU Q4).2.1,str (aU Q4).2.2]) []))
  (Qc (mq x0 Q4) (br (pe x0 Q4) (Qc Q3 (re (agg [ai (aU Q3).1,ai (aU Q3).2.1,str (aU Q3).2.2]) [])) (re (agg [ai 0,ai 0,str []]) []))))
def BQ(x0:Sem ze):=ao [ze] t0 100000000 (YY x0)
def Gn(x0:Sem ze):=(BQ x0).isSome
def EP(x0:Sem ze):=o1 (BQ x0)
def XX:=FT [ze] [ze] λx=>BQ x.1
theorem Vd:FK 211 XX:=gK.T1 (f:=Tryz.f211) (keep:=k0) (e:=e0)
def zhE(x0:Sem Q5):Tr (Empty⊕ar):=
 let a0:=Gv (zm x0) 12
 Qc (yC (zm x0) 12&&bif a0 then uc (zm x0)else Q3) (re (AV.bool (bif a0 then Q0 (yD (zm x0)<=60)else Q4)) [])
def BW(x0:Sem Q5):=ao [Q7] t0 100000000 (zhE x0)
def wo(x0:Sem Q5):=(BW x0).isSome
def EU(x0:Sem Q5):=o1 (BW x0)
def ze9:=FT [Q5] [Q7] λx=>BW x.1
theorem zbf:FK 79 ze9:=gK.T1 (f:=Tryz.f79) (keep:=k0) (e:=e0)
def QU:=QT.addL [(12,zeN),(251,Yb),(212,XY),(213,XZ),(211,XX),(79,ze9)]
theorem AP:zx QU:=gK.addL<|fc zaT<|fc Vq<|fc Ve<|fc Vf<|fc Vd<|fc zbf iV
abbrev zcH:=lV [(2,[0,3])]
inductive DA where
 |h2 (i0:Sem zg) (s3:List UInt8)
abbrev zgO:DA->Nat×St
 |.h2 i0 s3=>(2,⟨tm 21 [(0,ai i0),(3,str s3)],[]⟩)
def zhp(x0:Sem zg):Tr (DA⊕ar):=
 Q9 (DA.h2 x0 [])
def CJ:DA->Tr (DA⊕ar)
 | .h2 i0 s3=>
  let a0:=iN [IntKind.u8.wrap (IntKind.i64.wrap (48-IntKind.i64.wrap (Int.tmod i0 10)))]
  br (bif Q0 (i0<0)then Q3 else s3==[])
  (Qc Q3 (Qc (Q0 (length a0+s3.length<=1099511627776)) (Qc Q3 (Q9 (DA.h2 (IntKind.i64.wrap (Int.tdiv i0 10)) (a0++s3))))))
  (re (str s3) [])
def qk(x0:Sem zg):=ao [Q6] CJ 100000000 (zhp x0)
def kd(x0:Sem zg):=(qk x0).isSome
def kN(x0:Sem zg):=o1 (qk x0)
def X9:=FT [zg] [Q6] λx=>qk x.1
theorem Vo:FK 171 X9:=AP.T1 (f:=Tryz.f171) (keep:=zcH) (e:=zgO)
def QZ:=QU.add 171 X9
theorem AR:zx QZ:=AP.add Vo
abbrev zcA:=lV [(13,[1,3,4])]
inductive Ae where
 |h13 (s3:List UInt8) (i4:Int) (z0:zn [CP.d ze])
abbrev zgJ:Ae->Nat×St
 |.h13 s3 i4 z0=>(13,⟨tm 54 [(1,Qf 0 0),(3,str s3),(4,ai i4)],[Qa (bC [] [CP.d ze] z0)]⟩)
def xk(x0:Sem ze):Tr (Ae⊕ar):=
 let a0:=IntKind.i64.wrap (0-x0.2.1)
 Qc (lP x0)
 (br (!rB x0) (re (str []) [])
  (br (x0.1==0) (re (str [78,85,76,76]) []) (br (x0.1==1) (br (Q0 (x0.2.1<0)) (Qc (kd x0.2.1) (Qc (Q0 ([45].length+length (kN x0.2.1)<=1099511627776)) (re (str ([45]++kN x0.2.1)) []))) (Qc (kd a0) (re (str (kN a0)) []))) (br (x0.1==2) (Q9 (Ae.h13 [39] 0 (x0,())))
  (br (x0.2.1==1) (re (str [84,82,85,69]) []) (re (str [70,65,76,83,69]) []))))))
def uF:Ae->Tr (Ae⊕ar)
 | .h13 s3 i4 z0=>
  let a0:=(↑(length z0.1.2.2):Int)
  let a1:=IntKind.i64.wrap (i4+1)
  let a2:=List.take (a1.toNat-i4.toNat) (List.drop i4.toNat z0.1.2.2)
  let a3:=s3++a2
  br (Q0 (i4<a0))
  (Qc (Q0 (0<=i4)&&Q0 (i4<=a1)&&Q0 (a1<=a0))
   (Qc (Q0 (s3.length+a2.length<=1099511627776)) (Qc (zN i4 (length z0.1.2.2)) (br ((↑(getD z0.1.2.2 i4.toNat 0).toNat:Int)==39) (Qc (Q0 (length a3+[39].length<=1099511627776)) (Q9 (Ae.h13 (a3++[39]) a1 z0))) (Q9 (Ae.h13 a3 a1 z0))))))
  (Qc (Q0 (s3.length+[39].length<=1099511627776)) (re (str (s3++[39])) []))
def yu(x0:Sem ze):=ao [Q6] uF 100000000 (xk x0)
def tY(x0:Sem ze):=(yu x0).isSome
def BT(x0:Sem ze):=o1 (yu x0)
def XL:=FT [ze] [Q6] λx=>yu x.1
theorem UY:FK 117 XL:=AR.T1 (f:=Tryz.f117) (keep:=zcA) (e:=zgJ)
def FH:=QZ.add 117 XL
theorem AU:zx FH:=AR.add UY
def FB(g:Sem Q5->Sem Q6)(c:Sem Q5->Bool):bX:=FH.add 118 (zR [Q5] [Q6] (λx=>c x.1) λx=>(g x.1,()))
theorem Kv{g:Sem Q5->Sem Q6}{c:Sem Q5->Bool}(hg:FK 118 (zR [Q5] [Q6] (λx=>c x.1) λx=>(g x.1,()))):zx (FB g c):=AU.add hg
abbrev Si:Nat->aN:=λ_=>{ }
theorem zcW(g:Sem Q5->Sem Q6)(c:Sem Q5->Bool):zJ (FB g c).P 118 Tryz.f118 1:=bQ kw
def nQ(g:Sem Q5->Sem Q6)(c:Sem Q5->Bool)(x0:Sem Q5):Tr (Empty⊕ar):=
 let a0:=zN 0 (zf.l x0).length
 let a1:=zm ((zf.l x0).getD (toNat 0) (zi Q5))
 let a2:=c a1
 let a3:=g a1
 let a4:=[40,78,79,84,32]++a3
 let a5:=Q0 ([40].length+length a3<=1099511627776)
 let a6:=[40]++a3
 let a7:=zN 1 (zf.l x0).length
 let a8:=zm ((zf.l x0).getD (toNat 1) (zi Q5))
 let a9:=c a8
 let a10:=a6++[32,65,78,68,32]
 let a11:=g a8
 let a12:=a10++a11
 let a13:=a6++[32,79,82,32]
 let a14:=a13++a11
 let a15:=a6++[32]
 let a16:=a15++zf.op x0
 let a17:=a16++[32]
 let a18:=a17++a11
 br (zf.op x0==[108,105,116]) (Qc (tY (zf.v x0)) (re (str (BT (zf.v x0))) []))
 (br (zf.op x0==[99,111,108]) (re (str (zf.s x0)) [])
  (br (zf.op x0==[110,111,116]) (Qc a0 (Qc a2 (Qc (Q0 ([40,78,79,84,32].length+length a3<=1099511627776)) (Qc (Q0 (length a4+[41].length<=1099511627776)) (re (str (a4++[41])) []))))) (br (zf.op x0==[110,117,108,108]) (Qc a0 (Qc a2 (Qc a5
  (Qc (Q0 (length a6+[32,73,83,32,78,85,76,76,41].length<=1099511627776)) (re (str (a6++[32,73,83,32,78,85,76,76,41])) []))))) (br (zf.op x0==[97,110,100]) (Qc a0 (Qc a2 (Qc a5 (Qc (Q0 (length a6+[32,65,78,68,32].length<=1099511627776)) (Qc a7 (Qc a9
  (Qc (Q0 (length a10+length a11<=1099511627776)) (Qc (Q0 (length a12+[41].length<=1099511627776)) (re (str (a12++[41])) []))))))))) (br (zf.op x0==[111,114]) (Qc a0 (Qc a2 (Qc a5 (Qc (Q0 (length a6+[32,79,82,32].length<=1099511627776)) (Qc a7 (Qc a9
  (Qc (Q0 (length a13+length a11<=1099511627776)) (Qc (Q0 (length a14+[41].length<=1099511627776)) (re (str (a14++[41])) []))))))))) (Qc a0 (Qc a2 (Qc a5 (Qc (Q0 (length a6+[32].length<=1099511627776)) (Qc (Q0 (length a15+length (zf.op x0)<=1099511627776))
  (Qc (Q0 (length a16+[32].length<=1099511627776)) (Qc a7 (Qc a9 (Qc (Q0 (length a17+length a11<=1099511627776)) (Qc (Q0 (length a18+[41].length<=1099511627776)) (re (str (a18++[41])) []))))))))))))))))
theorem zb0(g:Sem Q5->Sem Q6)(c:Sem Q5->Bool)(x0:Sem Q5):rn (FB g c) 0 Si Tryz.f118 [zF Q5 x0] []=(nQ g c x0).map (lf Tryz.f118 e0):=kw
def iu(o:Option (zy (Qi Q1 [Q6]))):Sem Q6:=(λr:zy (Qi Q1 [Q6])=>r.1) (o.getD (cw [Q6]))
def Nm(g:Sem Q5->Sem Q6)(c:Sem Q5->Bool)(x0:Sem Q5):Option (zy (Qi Q1 [Q6])):=ao [Q6] t0 100000000 (nQ g c x0)
def cB:Nat->Sem Q5->Option (zy (Qi Q1 [Q6]))
 |0=>λ_=>Q2
 |n+1=>Nm (λx0=>iu (cB n x0)) λx0=>(cB n x0).isSome
theorem R8:zJ FH.P 118 Tryz.f118 1:=bQ kw
theorem Hz:∀n,FK 118 (zR [Q5] [Q6] (λx=>(cB n x.1).isSome) λx=>(iu (cB n x.1),()))
 |0=>fq ⟨Tryz.f118,R8.1,R8.2.1,R8.2.2.1⟩ (λ_=>rfl)
 |n+1=>lH (E:=FB (λx0=>iu (cB n x0)) (λx0=>(cB n x0).isSome)) (ks:=[Q5]) (outs:=[Q6]) (keep:=Si) (gas:=400) (n:=100000000) (e:=e0) (t:=t0) (i:=λx=>nQ (λx0=>iu (cB n x0)) (λx0=>(cB n x0).isSome) x.1) (Kv (Hz n)) (zcW _ _) (λx=>zb0 _ _ x.1) (Uy _ _ _ _ _) (λ_=>by kernel_rfl) (λ_=>by kernel_rfl)
def Gu(x0:Sem Q5):Option (zy (Qi Q1 [Q6])):=cB 16 x0
def qr(x0:Sem Q5):Bool:=(Gu x0).isSome
def pi(x0:Sem Q5):Sem Q6:=iu (Gu x0)
def XM:zY:=zR [Q5] [Q6] (λx=>qr x.1) λx=>(pi x.1,())
theorem UZ:FK 118 XM:=Hz 16
def FI:=FH.add 118 XM
theorem mV:zx FI:=AU.add UZ
abbrev zcE:=lV [(6,[1,3])]
inductive Dz where
 |h6 (i3:Int) (z0:zn [CP.d zr])
abbrev zgN:Dz->Nat×St
 |.h6 i3 z0=>(6,⟨tm 82 [(1,Qf 0 0),(3,ai i3)],[Qa (bC [] [CP.d zr] z0)]⟩)
def IG(x0:Sem zr):Tr (Dz⊕ar):=
 let a0:=(2,0,x0.2)
 br (x0.1==1) (Qc (uh x0.2) (re (AV.bool (sF x0.2)) []))
 (br (x0.1==2) (Q9 (Dz.h6 0 (x0,())))
  (br (x0.1==3) (Qc (lP a0) (re (AV.bool (rB a0)) [])) (br (x0.1==4) (re (AV.bool (bif x0.2==[40]then Q3 else bif x0.2==[41]then Q3 else bif x0.2==[44]then Q3 else bif x0.2==[61]then Q3 else bif x0.2==[60]then Q3 else bif x0.2==[43]then Q3 else bif x0.2==[45]then Q3 else x0.2==[42])) []) (re (kb Q4) []))))
def uH:Dz->Tr (Dz⊕ar)
 | .h6 i3 z0=>
  let a0:=(↑(length z0.1.2):Int)
  let a1:=(↑(getD z0.1.2 i3.toNat 0).toNat:Int)
  br (Q0 (i3<a0))
  (Qc (zN i3 (length z0.1.2))
   (Qc (fC a1) (br (!gG a1) (re (kb Q4) []) (Q9 (Dz.h6 (IntKind.i64.wrap (i3+1)) z0)))))
  (re (AV.bool (bif Q0 (1<=a0)then Q0 (a0<=19)else Q4)) [])
def GN(x0:Sem zr):=ao [Q7] uH 100000000 (IG x0)
def iy(x0:Sem zr):=(GN x0).isSome
def lB(x0:Sem zr):=o1 (GN x0)
def XT:=FT [zr] [Q7] λx=>GN x.1
theorem U9:FK 126 XT:=mV.T1 (f:=Tryz.f126) (keep:=zcE) (e:=zgN)
abbrev Se:Nat->aN:=λ_=>{ }
theorem zcT:zJ FI.P 87 Tryz.f87 2:=bQ kw
def RN(y:zn aH)(x0:TS):Tr (Empty⊕ar):=
 let a0:=(y.1,y.2.1,y.2.2.1,())
 let a1:=eY a0 x0
 Qc (dM a0 x0)
 (br (!a1.1) (re (agg [str [],ai 0,ai 0,str [],str [],nils]) (au aH a1.2))
  (br (x0==[87,72,69,82,69]) Tr.err (Qc (aV (a1.2.1,a1.2.2.1,a1.2.2.2.1,()) [40]) Tr.err)))
theorem zbU(y:zn aH)(x0:TS):rn FI 1 Se Tryz.f87 [Qf 0 0,zF Q6 x0] (au aH y)=(RN y x0).map (lf Tryz.f87 e0):=kw
def Nt(y:zn aH)(x0:TS):Option (zy (Qi Q1 [Q5])×zn aH):=kI [Q5] aH t0 100000000 (RN y x0)
def dF(y:zn aH)(x0:TS):Bool:=(Nt y x0).isSome
def eJ(y:zn aH)(x0:TS):(Sem Q5)×zn aH:=(λr:zy (Qi Q1 [Q5])×zn aH=>(r.1.1,r.2)) ((Nt y x0).getD (cw [Q5],fS aH))
def Xz:zY:=rP aH [Q6] [Q5] aH (λy x=>dF y x.1) λy x=>(((eJ y x.1).1,()),(eJ y x.1).2)
theorem UM:FK 87 Xz:=ki (ps:=aH) (ks:=[Q6]) (outs:=[Q5]) (keep:=Se) (gas:=400) (n:=100000000) (e:=e0) (t:=t0) (i:=λy x=>RN y x.1) mV zcT (λy x=>zbU y x.1) (Uy _ _ _ _ _) (λ_ _=>by kernel_rfl) (λ_ _=>by kernel_rfl)
def zhC(x0:TS):Tr (Empty⊕ar):=
 Qc (uh x0&&bif sF x0 then Cc x0 else Q3) (re (AV.bool (bif sF x0 then !Jz x0 else Q4)) [])
def ul(x0:TS):=ao [Q7] t0 100000000 (zhC x0)
def dD(x0:TS):=(ul x0).isSome
def bp(x0:TS):=o1 (ul x0)
def ze5:=FT [Q6] [Q7] λx=>ul x.1
theorem zbb:FK 73 ze5:=mV.T1 (f:=Tryz.f73) (keep:=k0) (e:=e0)
def YD:=FI.addL [(126,XT),(87,Xz),(73,ze5)]
theorem pN:zx YD:=mV.addL<|fc U9<|fc UM<|fc zbb iV
end
end Cad
