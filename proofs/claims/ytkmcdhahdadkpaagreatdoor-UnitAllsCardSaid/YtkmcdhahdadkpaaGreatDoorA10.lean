/- slices.Clone: what it answers is memory of its own. schema.copied is its argument, of what is not too deep. Statements: words of columns, tokens. Statements: parts. -/
import Derived.Test.YtkmcdhahdadkpaaGreatDoorA09
import Derived.Test.YtkmcdhahdadkpaaGreatDoorA08
namespace Cad
open Go Go.Proofs
open List renaming drop→Qh,take→Qg
open Tr renaming chk→Qc,«to»→Q9
open AO renaming box→Qa
open Sh renaming bool→Q7,str→Q6,expr→Q5
open Bool renaming false→Q4,true→Q3
open Option renaming none→Q2,some→Q1
open Decidable renaming decide→Q0
open Int (toNat)
open List (getD length)
open Tr (chk br re)
open AV (nils agg tup ptr kb str sl)
theorem Reach.promNil{E:cd}{C:eV}{fn:FuncId}{todo:List Item}{st:St}(e:Sh)(hC:∀id,C.ρ0 id=Q2)(h:Reach E C fn todo st (λr h=>(r,h)=(.nils,[]))):Reach E C fn todo st (λr h=>(r,h)=(.vec 0,[.vec e []])):=by
 intro b cs a w U ρ h1 h2 hc hW;obtain⟨en,w',fr,⟨v,r,h',U',ρ',he,hq,hrv,hH,hnew,hr0,hWd⟩,hcm,hf,hl⟩:=h b cs a w U ρ h1 h2 hc hW;cases hq;cases hrv with
 |nils ad=>
 have hno:∀id o b,o=(AO.vec e []:AO)\/o=AO.dead->¬ap (λid=>if id=0 then Q1 (.slice ad 0 0)else Q2) id o b:=by
  rintro id o b ho ⟨h3,x,h4,h5⟩;rcases ho with rfl|rfl
  ·simp only at h4;split at h4
   ·cases h4;cases ad<;>simp[eR]at h5
   ·cases h4
  ·simp[AO.owns]at h3
 have hob:∀id,(([AO.vec e []]:List AO).getD id .dead)=(if id=0 then AO.vec e []else AO.dead):=by
  intro id;cases id<;>simp
 refine⟨en,w',fr,⟨_,_,_,U',λid=>if id=0 then Q1 (.slice ad 0 0)else Q2,he,rfl,.vec 0 _ sw (by simp[Value.oneCell']),⟨λid=>?_,λid1 id2 b o=>?_,λid b o=>?_⟩,λid hid=>?_,λid v hv=>?_,hWd⟩,hcm,hf,hl⟩
 ·show bB w' U' _ id (([AO.vec e []]:List AO).getD id .dead);rw[hob];split
  ·rename_i h0;subst h0;exact⟨ad,0,sw,sw,.inl ⟨rfl,rfl⟩⟩
  ·trivial
 ·exfalso;have o':ap (λid=>if id=0 then Q1 (.slice ad 0 0)else Q2) id1 (([AO.vec e []]:List AO).getD id1 .dead) b:=o;rw[hob]at o';split at o'
  ·exact hno _ _ _ (.inl rfl) o'
  ·exact hno _ _ _ (.inr rfl) o'
 ·exfalso;have o':ap (λid=>if id=0 then Q1 (.slice ad 0 0)else Q2) id (([AO.vec e []]:List AO).getD id .dead) b:=o;rw[hob]at o';split at o'
  ·exact hno _ _ _ (.inl rfl) o'
  ·exact hno _ _ _ (.inr rfl) o'
 ·simp at hid;simp;omega
 ·rw[hC id]at hv;cases hv
def dV:Tr zE->List Item×List Item×St
 |.ok (.fork _ k1 k2 st)=>(k1,k2,st)
 |_=>([],[],⟨[],[]⟩)
abbrev W5:Nat->aO:=λ_=>{ }
noncomputable abbrev Ix(l:List zf):Tr zE:=run rI 0 W5 (Func.results Tryz.f146).toList 300 (bx Tryz.f146) (bg (Func.ntmps Tryz.f146) [.sl .expr l] [])
theorem Xg:zL rI.P 146 Tryz.f146 1:=bS kw
theorem zmz(l:List zf):Ix l=.ok (.fork l.isEmpty (dV (Ix l)).1 (dV (Ix l)).2.1 (dV (Ix l)).2.2):=kw
theorem zky(l:List zf):run rI 0 W5 (Func.results Tryz.f146).toList 300 (dV (Ix l)).1 (dV (Ix l)).2.2=.ok (.ret .nils []):=kw
theorem zkz(l:List zf):run rI 0 W5 (Func.results Tryz.f146).toList 300 (dV (Ix l)).2.1 (dV (Ix l)).2.2=.chk (Q0 (l.length<=1073741824)) (.ok (.ret (.vec 0) [.vec .expr l])):=kw
def G53:il [Q1 (.sl .expr)]:=λx h=>match h with
 |[]=>.chk (Q0 (length x.1<=1073741824)) (.ok (.vec 0,[.vec .expr x.1]))
 |_=>.err
def F53:ac:=bm [Q1 (.sl .expr)] G53
theorem zgC:FK 146 F53:=by
 refine dv Xg λx h0 res hx C hC=>?_
 unfold G53 at hx;split at hx
 ·simp only[Tr.val]at hx;split at hx
  ·rename_i hl;simp only[bD]at hx;subst hx;obtain⟨l,u⟩:=x;refine zF (n0:=0) iZ Xg hC (zmz l) ?_;refine⟨λhe=>?_,?_⟩
   ·have hn:l=[]:=List.isEmpty_iff.1 he;refine Reach.weaken (Q:=λr h=>(r,h)=(.vec 0,[.vec .expr []])) (Reach.promNil .expr (λid=>hC id sw) (zF (n0:=0) iZ Xg hC (zky l) rfl)) ?_;intro r h hq;cases hq;refine⟨_,?_,λ_ _ _ _ h=>h⟩;show(AV.vec 0,[AO.vec Q5 []])=(AV.vec 0,[AO.vec Q5 l]);rw[hn]
   ·exact zF (n0:=0) iZ Xg hC (zkz l) (kd hl rfl)
  ·cases hx
 ·simp at hx
noncomputable abbrev Iw(l:List (Sem zj)):Tr zE:=run rI 0 W5 (Func.results Tryz.f142).toList 300 (bx Tryz.f142) (bg (Func.ntmps Tryz.f142) [.sl zj l] [])
theorem Xe:zL rI.P 142 Tryz.f142 1:=bS kw
theorem zmh(l:List (Sem zj)):Iw l=.ok (.fork l.isEmpty (dV (Iw l)).1 (dV (Iw l)).2.1 (dV (Iw l)).2.2):=kw
theorem zkt(l:List (Sem zj)):run rI 0 W5 (Func.results Tryz.f142).toList 300 (dV (Iw l)).1 (dV (Iw l)).2.2=.ok (.ret .nils []):=kw
theorem zku(l:List (Sem zj)):run rI 0 W5 (Func.results Tryz.f142).toList 300 (dV (Iw l)).2.1 (dV (Iw l)).2.2=.chk (Q0 (l.length<=1073741824)) (.ok (.ret (.vec 0) [.vec zj l])):=kw
def G32:il [Q1 (.sl zj)]:=λx h=>match h with
 |[]=>.chk (Q0 (length x.1<=1073741824)) (.ok (.vec 0,[.vec zj x.1]))
 |_=>.err
def F32:ac:=bm [Q1 (.sl zj)] G32
theorem zgj:FK 142 F32:=by
 refine dv Xe λx h0 res hx C hC=>?_
 unfold G32 at hx;split at hx
 ·simp only[Tr.val]at hx;split at hx
  ·rename_i hl;simp only[bD]at hx;subst hx;obtain⟨l,u⟩:=x;refine zF (n0:=0) iZ Xe hC (zmh l) ?_;refine⟨λhe=>?_,?_⟩
   ·have hn:l=[]:=List.isEmpty_iff.1 he;refine Reach.weaken (Q:=λr h=>(r,h)=(.vec 0,[.vec zj []])) (Reach.promNil zj (λid=>hC id sw) (zF (n0:=0) iZ Xe hC (zkt l) rfl)) ?_;intro r h hq;cases hq;refine⟨_,?_,λ_ _ _ _ h=>h⟩;show(AV.vec 0,[AO.vec zj []])=(AV.vec 0,[AO.vec zj l]);rw[hn]
   ·exact zF (n0:=0) iZ Xe hC (zku l) (kd hl rfl)
  ·cases hx
 ·simp at hx
noncomputable def zcv:=rI.addL [(146,F53),(142,F32)]
theorem I0:zy zcv:=iZ.addL<|fc zgC<|fc zgj iM
def Qw(c:zf->Bool):ac:=zV [.expr] [.expr] (λx=>c x.1) λx=>(x.1,())
noncomputable def OZ(c:zf->Bool):cd:=zcv.add 100 (Qw c)
theorem Bc{c:zf->Bool}(hg:FK 100 (Qw c)):zy (OZ c):=I0.add hg
abbrev ziU:Nat->aO:=λj=>if j=3 then{slots:=[1,2,10,11]}else{ }
abbrev N7(i10:Int)(i11:Int)(ja0:zD)(ja1:Int)(ja2:Int)(ja3:zD)(ja4:zD)(lh_2:List (Sem Q5)):St:={
 tmps:=
  (tm 26 [(1,ptr 0 0),(2,ptr 1 0),(10,ai i10),(11,ai i11)]),
 heap:=
  [Qa [str ja0,ai ja1,ai ja2,str ja3,str ja4,AV.vec 2],
   Qa [str [],ai 0,ai 0,str [],str [],nils],AO.vec Q5 lh_2]}
theorem LO(c:zf->Bool):zL (OZ c).P 100 Tryz.f100 1:=bS kw
theorem zmi(c:zf->Bool)(op:zD)(v:V)(s:zD)(l:List zf):rn (OZ c) 0 ziU Tryz.f100 [zH Q5 (zf.mk op v s l)] []=
 Qc (Q0 (l.length<=1073741824)) (Tr.ok (zE.head 3 (ag Tryz.f100 3) (N7 (↑l.length:Int) 0 op v.1 v.2.1 v.2.2 s l))):=kw
theorem TJ(c:zf->Bool)(i10:Int)(i11:Int)(ja0:zD)(ja1:Int)(ja2:Int)(ja3:zD)(ja4:zD)(lh_2:List (Sem Sh.expr)):rh (OZ c) 0 ziU Tryz.f100 3 (N7 i10 i11 ja0 ja1 ja2 ja3 ja4 lh_2)=
 br (Q0 (i11<i10))
 (chk (zK i11 lh_2.length)
  (chk (decide (i11.toNat<lh_2.length))
   (chk (c (zn (lh_2.getD i11.toNat (zi Sh.expr))))
    (chk (zK i11 lh_2.length)
     (chk (decide (i11.toNat<lh_2.length))
      (Tr.ok
       (zE.head 3 (ag Tryz.f100 3)
        (N7 i10 (IntKind.i64.wrap (i11+1)) ja0 ja1 ja2 ja3 ja4
         (lh_2.set i11.toNat
          (zn (lh_2.getD i11.toNat (zi Q5))))))))))))
 (Tr.ok
  (zE.ret (agg [str ja0,ai ja1,ai ja2,str ja3,str ja4,AV.vec 0]) [AO.vec Q5 lh_2])):=kw
theorem zlh{c:zf->Bool}(hg:FK 100 (Qw c)){C:eV}(hC:∀id,C.ρ0 id=Q2)(op:zD)(v:V)(s:zD)(l:List zf)(hl:l.length<=1073741824)(hcl:l.all c=Q3):
  ∀(k i:Nat),l.length-i=k->i<=l.length->Reach (OZ c) C 100 (ag Tryz.f100 3) (N7 l.length i op v.1 v.2.1 v.2.2 s l) (λr h=>aL h [.expr] r=Q1 (zf.mk op v s l,())):=by
 intro k
 induction k with
 | zero=>
  intro i hk hi;obtain rfl:i=l.length:=by omega
  refine zF (n0:=0) (Bc hg) (LO c) (λid _=>hC id) (TJ c _ _ _ _ _ _ _ _) ?_;simp only[zA,Tr.val_brF];rfl
 | succ k IH=>
  intro i hk hi;have hlt:i<l.length:=by omega
  refine zF (n0:=0) (Bc hg) (LO c) (λid _=>hC id) (TJ c _ _ _ _ _ _ _ _) ?_;have h1:c l[i]=Q3:=dX.1 hcl _ (bd hlt);have h2:Q0 ((i:Int).toNat<l.length)=Q3:=by simpa using hlt
  have h3:l.set (i:Int).toNat l[i]=l:=by simp
  simp only[zC hlt,zt hlt,cF l _ hlt,zf.eta,Tr.val_brT,Tr.val_chkT,h1,h2,h3,zp i um];exact IH (i+1) ow ow
def rt:Nat->zf->Bool
 |0,_=>Q4
 |n+1,.mk _ _ _ l=>Q0 (l.length<=1073741824)&&l.all (rt n)
theorem KG:∀n,FK 100 (Qw (rt n))
 |0=>fy ⟨Tryz.f100,(LO (λ_=>Q4)).1,(LO (λ_=>Q4)).2.1,(LO (λ_=>Q4)).2.2.1⟩ (λ_=>rfl)
 | n+1=>by
  refine aM (E:=OZ (rt n)) (LO _) λx hc C hC=>?_
  obtain⟨⟨op,v,s,l⟩,u⟩:=x;have hc:(Q0 (l.length<=1073741824)&&l.all (rt n))=Q3:=hc;simp only[aC,aP]at hc;refine zF (n0:=0) (Bc (KG n)) (LO _) (λid _=>hC id) (zmi _ op v s l) ?_;refine kd (by simpa using hc.1) ?_;exact zlh (KG n) hC op v s l hc.1 hc.2 _ 0 rfl (be _)
def F33:ac:=Qw (rt 16)
theorem zgk:FK 100 F33:=KG 16
noncomputable def lH:=zcv.add 100 F33
theorem ja:zy lH:=I0.add zgk
set_option maxHeartbeats 4000000
abbrev iS:Sh:=.pr .str .str
abbrev ic:Sh:=.pr .str .expr
abbrev zl:Sh:=.pr .str (.pr .str (.pr .str (.pr (.sl .str) (.pr (.sl zj) (.pr .str (.pr (.sl .str) (.pr (.sl iS) (.pr .expr (.pr (.sl ze) (.pr (.sl ic) (.pr .expr .str)))))))))))
def DK(x:Sem zl):Sem zl:=(x.1,x.2.1,x.2.2.1,x.2.2.2.1,x.2.2.2.2.1,x.2.2.2.2.2.1,x.2.2.2.2.2.2.1,x.2.2.2.2.2.2.2.1,zn x.2.2.2.2.2.2.2.2.1,x.2.2.2.2.2.2.2.2.2.1,x.2.2.2.2.2.2.2.2.2.2.1,zn x.2.2.2.2.2.2.2.2.2.2.2.1,x.2.2.2.2.2.2.2.2.2.2.2.2)
theorem Nd(x:Sem zl):DK x=x:=by unfold DK;rw[zk,zk]
abbrev ZM:Nat->aO:=λj=>if j=2 then{slots:=[0,2,4]}else{ }
abbrev CX(s0:TS)(i4:Int)(ja0:Int)(ja1:List UInt8):St:={tmps:=(tm 37 [(0,str s0),(2,ptr 0 0),(4,ai i4)]),heap:=[Qa [ai ja0,str ja1]]}
theorem Tw:zL (lH).P 281 Tryz.f281 1:=bS kw
theorem zhM(x0:TS):rn lH 0 ZM Tryz.f281 [zH Q6 x0] []=Tr.ok (zE.head 2 (ag Tryz.f281 2) (CX x0 1 0 [])):=kw
theorem Xj(s0:TS)(i4:Int)(ja0:Int)(ja1:List UInt8):rh lH 0 ZM Tryz.f281 2 (CX s0 i4 ja0 ja1)=br (Q0 (i4<(↑(length s0):Int))) (Qc (zK i4 (length s0)) (br ((↑(getD s0 i4.toNat 0).toNat:Int)!=39) (Tr.ok (zE.head 2 (ag Tryz.f281 2) (CX s0 (IntKind.i64.wrap (i4+1)) ja0 ja1))) (Qc (bif Q0 (IntKind.i64.wrap (i4+1)<(↑(length s0):Int))then zK (IntKind.i64.wrap (i4+1)) (length s0)else Q3) (br (bif Q0 (IntKind.i64.wrap (i4+1)<(↑(length s0):Int))then(↑(getD s0 (IntKind.i64.wrap (i4+1)).toNat 0).toNat:Int)==39 else Q4) (Tr.ok (zE.head 2 (ag Tryz.f281 2) (CX s0 (IntKind.i64.wrap (IntKind.i64.wrap (i4+1)+1)) ja0 ja1))) (Qc (Q0 (0<=1)&&Q0 (1<=i4)&&Q0 (i4<=(↑(length s0):Int))) (Qc (uK (Qg (i4.toNat-toNat 1) (Qh (toNat 1) s0)) [39,39] [39]) (Tr.ok (zE.ret (tup [agg [ai 3,str (Lib.replaceAll (Qg (i4.toNat-toNat 1) (Qh (toNat 1) s0)) [39,39] [39])],ai (IntKind.i64.wrap (i4+1))]) [])))))))) (Tr.ok (zE.ret (tup [agg [ai 0,str []],ai 0]) [])):=kw
def eS:Nat->(Sem Sh.str)->Int->Int->(List UInt8)->Sem bZ×Sem zg
 |0,_,_,_,_=>default
 |n+1,s0,i4,ja0,ja1=>(if Q0 (i4<(↑(length s0):Int))=Q3 then
 if((↑(getD s0 i4.toNat 0).toNat:Int)!=39)=Q3 then eS n s0 (IntKind.i64.wrap (i4+1)) ja0 ja1
 else
  if
    (bif Q0 (IntKind.i64.wrap (i4+1)<(↑(length s0):Int))then(↑(getD s0 (IntKind.i64.wrap (i4+1)).toNat 0).toNat:Int)==39
     else Q4)=
     Q3 then
   eS n s0 (IntKind.i64.wrap (IntKind.i64.wrap (i4+1)+1)) ja0 ja1
  else((3,Lib.replaceAll (Qg (i4.toNat-toNat 1) (Qh (toNat 1) s0)) [39,39] [39]),IntKind.i64.wrap (i4+1))
else((0,[]),0))
def jf:Nat->(Sem Sh.str)->Int->Int->(List UInt8)->Bool
 |0,_,_,_,_=>Q4
 |n+1,s0,i4,ja0,ja1=>(if Q0 (i4<(↑(length s0):Int))=Q3 then
 if zK i4 (length s0)=true then
  if((↑(getD s0 i4.toNat 0).toNat:Int)!=39)=Q3 then jf n s0 (IntKind.i64.wrap (i4+1)) ja0 ja1
  else
   if (bif decide (IntKind.i64.wrap (i4+1) < (↑(length s0):Int)) then zK (IntKind.i64.wrap (i4+1)) (length s0) else true)=true then
    if
      (bif Q0 (IntKind.i64.wrap (i4+1)<(↑(length s0):Int))then(↑(getD s0 (IntKind.i64.wrap (i4+1)).toNat 0).toNat:Int)==39
       else Q4)=
       Q3 then
     jf n s0 (IntKind.i64.wrap (IntKind.i64.wrap (i4+1)+1)) ja0 ja1
    else
     if(Q0 (0<=1)&&Q0 (1<=i4)&&Q0 (i4<=(↑(length s0):Int)))=Q3 then
      if uK (Qg (i4.toNat-toNat 1) (Qh (toNat 1) s0)) [39,39] [39]=Q3 then Q3 else Q4
     else Q4
   else Q4
 else Q4
else Q3)
theorem MV{C:eV}(hC:∀id,C.ρ0 id=Q2):∀(n:Nat)(s0:TS)(i4:Int)(ja0:Int)(ja1:List UInt8),jf n s0 i4 ja0 ja1=Q3->
  Reach (lH) C 281 (ag Tryz.f281 2) (CX s0 i4 ja0 ja1) (λr h=>aL h [bZ,zg] r=Q1 ((eS n s0 i4 ja0 ja1).1,(eS n s0 i4 ja0 ja1).2,()))
 |0,s0,i4,ja0,ja1,hc=>by cases hc
 | n+1,s0,i4,ja0,ja1,hc=>by
  refine zF ja (Tw) (λid _=>hC id) (Xj _ _ _ _) ?_;rw[jf]at hc;generalize hy:eS (n+1) s0 i4 ja0 ja1=y;rw[eS]at hy
  try simp only[zf.eta,zk]
  repeat' (first|with_reducible refine uh hy hc (λ_ hy hc=>?_) (λ_ hy hc=>?_)|with_reducible refine di hy (λ_ hy=>?_) (λ_ hy=>?_)|with_reducible refine iB hc (λhc=>?_)|with_reducible refine zN ?_)
  all_goals first|(cases hc;done)|(subst hy;first|(change Reach _ _ _ _ _ _;refine MV hC n _ _ _ _ ?_<;>exact hc)|rfl)
def dW(x0:TS):Sem bZ×Sem zg:=(eS (length x0+1) x0 1 0 [])
def j9(x0:TS):Bool:=(jf (length x0+1) x0 1 0 [])
def zeF:ac:=zV [Q6] [bZ,zg] (λx=>j9 x.1) λx=>((dW x.1).1,(dW x.1).2,())
theorem zax:FK 281 zeF:=by
 refine aM (Tw) λx hc C hC=>?_
 unfold j9 at hc;refine zF ja (Tw) (λid _=>hC id) (zhM x.1) ?_;generalize hy:dW x.1=y;unfold dW at hy
 try simp only[zf.eta,zk]
 repeat' (first|with_reducible refine uh hy hc (λ_ hy hc=>?_) (λ_ hy hc=>?_)|with_reducible refine di hy (λ_ hy=>?_) (λ_ hy=>?_)|with_reducible refine iB hc (λhc=>?_)|with_reducible refine zN ?_)
 all_goals first|(cases hc;done)|(subst hy;first|(change Reach _ _ _ _ _ _;refine MV hC _ _ _ _ _ ?_<;>exact hc)|rfl)
abbrev ziC:Nat->aO:=λ_=>{ }
theorem ZX:zL (lH).P 263 Tryz.f263 1:=bS kw
theorem zhK(x0:Sem Q5):rn lH 0 ziC Tryz.f263 [zH Q5 x0] []=Tr.ok (zE.ret (AV.bool (bif zf.op x0==[]then bif (zf.v x0).1==0&&((zf.v x0).2.1==0&&((zf.v x0).2.2==[]&&Q3))then bif zf.s x0==[]then(↑(zf.l x0).length:Int)==0 else Q4 else Q4 else Q4)) []):=kw
def gX(x0:Sem Q5):Sem Q7:=(bif zf.op x0==[]then bif (zf.v x0).1==0&&((zf.v x0).2.1==0&&((zf.v x0).2.2==[]&&Q3))then bif zf.s x0==[]then(↑(zf.l x0).length:Int)==0 else Q4 else Q4 else Q4)
def zev:ac:=aF [Q5] [Q7] λx=>(gX x.1,())
theorem zan:FK 263 zev:=by
 refine af (ZX) λx C hC=>?_
 refine zF ja (ZX) (λid _=>hC id) (zhK x.1) ?_;generalize hy:gX x.1=y;unfold gX at hy
 try simp only[zf.eta,zk]
 repeat' (first|with_reducible refine di hy (λ_ hy=>?_) (λ_ hy=>?_)|with_reducible refine zN ?_)
 all_goals first|(cases hc;done)|(subst hy;first|rfl)
abbrev znh:Nat->aO:=λ_=>{ }
theorem zkn:zL (lH).P 231 Tryz.f231 1:=bS kw
theorem zmQ(x0:TS):rn lH 0 znh Tryz.f231 [zH Q6 x0] []=Tr.ok (zE.ret (str x0) []):=kw
def lU(x0:TS):Sem Q6:=(x0)
def F88:ac:=aF [Q6] [Q6] λx=>(lU x.1,())
theorem zg5:FK 231 F88:=by
 refine af (zkn) λx C hC=>?_
 refine zF ja (zkn) (λid _=>hC id) (zmQ x.1) ?_;generalize hy:lU x.1=y;unfold lU at hy
 try simp only[zf.eta,zk]
 repeat' (first|with_reducible refine di hy (λ_ hy=>?_) (λ_ hy=>?_)|with_reducible refine zN ?_)
 all_goals first|(cases hc;done)|(subst hy;first|rfl)
abbrev zne:Nat->aO:=λ_=>{ }
theorem zkj:zL (lH).P 223 Tryz.f223 1:=bS kw
theorem zmN(x0:TS):rn lH 0 zne Tryz.f223 [zH Q6 x0] []=Tr.ok (zE.ret (AV.bool (bif dU x0 then !jg x0 else Q4)) []):=kw
def bR(x0:TS):Sem Q7:=(bif dU x0 then !jg x0 else Q4)
def F80:ac:=aF [Q6] [Q7] λx=>(bR x.1,())
theorem zg1:FK 223 F80:=by
 refine af (zkj) λx C hC=>?_
 refine zF ja (zkj) (λid _=>hC id) (zmN x.1) ?_;generalize hy:bR x.1=y;unfold bR at hy
 try simp only[zf.eta,zk]
 repeat' (first|with_reducible refine di hy (λ_ hy=>?_) (λ_ hy=>?_)|with_reducible refine zN ?_)
 all_goals first|(cases hc;done)|(subst hy;first|rfl)
abbrev zi1:Nat->aO:=λ_=>{unroll:=Q3}
theorem Z1:zL (lH).P 243 Tryz.f243 1:=bS kw
theorem zhY(x0:Sem bZ):rn lH 0 zi1 Tryz.f243 [zH bZ x0] []=br (x0.1==3) (Tr.ok (zE.ret (AV.bool (aR (2,0,x0.2))) [])) (br (x0.1==4) (Qc (bif (↑(length x0.2):Int)==1 then length x0.2==1 else Q3) (Tr.ok (zE.ret (AV.bool (bif (↑(length x0.2):Int)==1 then Q0 (0<=Lib.indexByte [40,41,44,61,60,43,45,42] (List.headD x0.2 0))else Q4)) []))) (br Q3 (Qc Q3 (br (1==x0.1) (Tr.ok (zE.ret (AV.bool (bif Q0 ((↑(length x0.2):Int)>=1)then bif Q0 ((↑(length x0.2):Int)<=16)then(↑(aN aK bw x0.2):Int)==(↑(length x0.2):Int)else Q4 else Q4)) [])) (br Q3 (Qc Q3 (br (2==x0.1) (Tr.ok (zE.ret (AV.bool (bif Q0 ((↑(length x0.2):Int)>=1)then bif Q0 ((↑(length x0.2):Int)<=19)then(↑(aN zY zY x0.2):Int)==(↑(length x0.2):Int)else Q4 else Q4)) [])) (br Q4 Tr.err (Tr.ok (zE.ret (kb Q4) []))))) (Tr.ok (zE.ret (kb Q4) []))))) (Tr.ok (zE.ret (kb Q4) [])))):=kw
def ck(x0:Sem bZ):Sem Q7:=(if(x0.1==3)=Q3 then aR (2,0,x0.2)else if(x0.1==4)=Q3 then bif (↑(length x0.2):Int)==1 then Q0 (0<=Lib.indexByte [40,41,44,61,60,43,45,42] (List.headD x0.2 0))else Q4 else if Q3=Q3 then if(1==x0.1)=Q3 then bif Q0 ((↑(length x0.2):Int)>=1)then bif Q0 ((↑(length x0.2):Int)<=16)then(↑(aN aK bw x0.2):Int)==(↑(length x0.2):Int)else Q4 else Q4 else if Q3=Q3 then if(2==x0.1)=Q3 then bif Q0 ((↑(length x0.2):Int)>=1)then bif Q0 ((↑(length x0.2):Int)<=19)then(↑(aN zY zY x0.2):Int)==(↑(length x0.2):Int)else Q4 else Q4 else if Q4=Q3 then default else Q4 else Q4 else Q4)
def rb(x0:Sem bZ):Bool:=(if(x0.1==3)=Q3 then Q3 else if(x0.1==4)=Q3 then if(bif (↑(length x0.2):Int)==1 then length x0.2==1 else Q3)=Q3 then Q3 else Q4 else if Q3=Q3 then if Q3=Q3 then if(1==x0.1)=Q3 then Q3 else if Q3=Q3 then if Q3=Q3 then if(2==x0.1)=Q3 then Q3 else if Q4=Q3 then Q4 else Q3 else Q4 else Q3 else Q4 else Q3)
def zfu:ac:=zV [bZ] [Q7] (λx=>rb x.1) λx=>(ck x.1,())
theorem zbo:FK 243 zfu:=by
 refine aM (Z1) λx hc C hC=>?_
 unfold rb at hc;refine zF ja (Z1) (λid _=>hC id) (zhY x.1) ?_;generalize hy:ck x.1=y;unfold ck at hy
 try simp only[zf.eta,zk]
 repeat' (first|with_reducible refine uh hy hc (λ_ hy hc=>?_) (λ_ hy hc=>?_)|with_reducible refine di hy (λ_ hy=>?_) (λ_ hy=>?_)|with_reducible refine iB hc (λhc=>?_)|with_reducible refine zN ?_)
 all_goals first|(cases hc;done)|(subst hy;first|rfl)
noncomputable def kJ:=lH.addL [(281,zeF),(263,zev),(231,F88),(223,F80),(243,zfu)]
theorem gY:zy kJ:=ja.addL<|fc zax<|fc zan<|fc zg5<|fc zg1<|fc zbo iM
abbrev znf:Nat->aO:=λ_=>{ }
theorem zkl:zL (kJ).P 228 Tryz.f228 1:=bS kw
theorem zmO(x0:Sem Q5):rn kJ 0 znf Tryz.f228 [zH Q5 x0] []=Tr.ok (zE.ret (AV.bool (bif gX (zn x0)then Q3 else de (zn x0))) []):=kw
def bT(x0:Sem Q5):Sem Q7:=(bif gX x0 then Q3 else de x0)
def F85:ac:=aF [Q5] [Q7] λx=>(bT x.1,())
theorem zg2:FK 228 F85:=by
 refine af (zkl) λx C hC=>?_
 refine zF gY (zkl) (λid _=>hC id) (zmO x.1) ?_;generalize hy:bT x.1=y;unfold bT at hy
 try simp only[zf.eta]
 repeat' (first|with_reducible refine di hy (λ_ hy=>?_) (λ_ hy=>?_)|with_reducible refine zN ?_)
 all_goals first|(cases hc;done)|(subst hy;first|rfl)
def zhp(x0:Sem zj):Sem Q7:=(bif bR x0.1 then bif Q0 (x0.2.1>=1)then Q0 (x0.2.1<=3)else Q4 else Q4)
def zkM(x0:Sem iS):Sem Q7:=(bif bR x0.1 then bR x0.2 else Q4)
abbrev znj:Nat->aO:=λ_=>{ }
theorem zko:zL (kJ).P 235 Tryz.f235 1:=bS kw
theorem zmR(x0:Sem ze):rn kJ 0 znj Tryz.f235 [zH ze x0] []=br (!aR x0) (Tr.ok (zE.ret (str []) [])) (br (x0.1==1) (Qc (10==10) (Tr.ok (zE.ret (str (rM x0.2.1)) []))) (br (x0.1==2) (Qc (uK x0.2.2 [39] [39,39]) (Qc (Q0 ([39].length+(Lib.replaceAll x0.2.2 [39] [39,39]).length<=1099511627776)) (Qc (Q0 (length ([39]++Lib.replaceAll x0.2.2 [39] [39,39])+[39].length<=1099511627776)) (Tr.ok (zE.ret (str ([39]++Lib.replaceAll x0.2.2 [39] [39,39]++[39])) []))))) (br (x0.1==3) (br (dT x0==2) (Tr.ok (zE.ret (str [84,82,85,69]) [])) (Tr.ok (zE.ret (str [70,65,76,83,69]) []))) (Tr.ok (zE.ret (str [78,85,76,76]) []))))):=kw
def ig(x0:Sem ze):Sem Q6:=(if(!aR x0)=Q3 then[]else if(x0.1==1)=Q3 then rM x0.2.1 else if(x0.1==2)=Q3 then[39]++Lib.replaceAll x0.2.2 [39] [39,39]++[39]else if(x0.1==3)=Q3 then if(dT x0==2)=Q3 then[84,82,85,69]else[70,65,76,83,69]else[78,85,76,76])
def xf(x0:Sem ze):Bool:=(if(!aR x0)=Q3 then Q3 else if(x0.1==1)=Q3 then if(10==10)=Q3 then Q3 else Q4 else if(x0.1==2)=Q3 then if uK x0.2.2 [39] [39,39]=Q3 then if Q0 ([39].length+(Lib.replaceAll x0.2.2 [39] [39,39]).length<=1099511627776)=Q3 then if Q0 (length ([39]++Lib.replaceAll x0.2.2 [39] [39,39])+[39].length<=1099511627776)=Q3 then Q3 else Q4 else Q4 else Q4 else Q3)
def F92:ac:=zV [ze] [Q6] (λx=>xf x.1) λx=>(ig x.1,())
theorem zha:FK 235 F92:=by
 refine aM (zko) λx hc C hC=>?_
 unfold xf at hc;refine zF gY (zko) (λid _=>hC id) (zmR x.1) ?_;generalize hy:ig x.1=y;unfold ig at hy
 try simp only[zf.eta,zk]
 repeat' (first|with_reducible refine uh hy hc (λ_ hy hc=>?_) (λ_ hy hc=>?_)|with_reducible refine di hy (λ_ hy=>?_) (λ_ hy=>?_)|with_reducible refine iB hc (λhc=>?_)|with_reducible refine zN ?_)
 all_goals first|(cases hc;done)|(subst hy;first|rfl)
abbrev zng:Nat->aO:=λ_=>{ }
theorem zkm:zL (kJ).P 230 Tryz.f230 1:=bS kw
theorem zmP(x0:Sem zl):rn kJ 0 zng Tryz.f230 [zH zl x0] []=Qc (Q0 (length x0.2.1+length x0.2.2.1<=1099511627776)) (Qc (Q0 (length (x0.2.1++x0.2.2.1)+length x0.2.2.2.2.2.1<=1099511627776)) (Qc (Q0 (length (x0.2.1++x0.2.2.1++x0.2.2.2.2.2.1)+length x0.2.2.2.2.2.2.2.2.2.2.2.2<=1099511627776)) (Tr.ok (zE.ret (AV.bool (bif x0.2.1++x0.2.2.1++x0.2.2.2.2.2.1++x0.2.2.2.2.2.2.2.2.2.2.2.2==[]then bif IntKind.i64.wrap (IntKind.i64.wrap (IntKind.i64.wrap (IntKind.i64.wrap (IntKind.i64.wrap ((↑(length x0.2.2.2.1):Int)+(↑(length x0.2.2.2.2.1):Int))+(↑(length x0.2.2.2.2.2.2.1):Int))+(↑(length x0.2.2.2.2.2.2.2.1):Int))+(↑(length x0.2.2.2.2.2.2.2.2.2.1):Int))+(↑(length x0.2.2.2.2.2.2.2.2.2.2.1):Int))==0 then bif gX (zn x0.2.2.2.2.2.2.2.2.1)then gX (zn x0.2.2.2.2.2.2.2.2.2.2.2.1)else Q4 else Q4 else Q4)) [])))):=kw
def eB(x0:Sem zl):Sem Q7:=(bif x0.2.1++x0.2.2.1++x0.2.2.2.2.2.1++x0.2.2.2.2.2.2.2.2.2.2.2.2==[]then bif IntKind.i64.wrap (IntKind.i64.wrap (IntKind.i64.wrap (IntKind.i64.wrap (IntKind.i64.wrap ((↑(length x0.2.2.2.1):Int)+(↑(length x0.2.2.2.2.1):Int))+(↑(length x0.2.2.2.2.2.2.1):Int))+(↑(length x0.2.2.2.2.2.2.2.1):Int))+(↑(length x0.2.2.2.2.2.2.2.2.2.1):Int))+(↑(length x0.2.2.2.2.2.2.2.2.2.2.1):Int))==0 then bif gX x0.2.2.2.2.2.2.2.2.1 then gX x0.2.2.2.2.2.2.2.2.2.2.2.1 else Q4 else Q4 else Q4)
def ee(x0:Sem zl):Bool:=(if Q0 (length x0.2.1+length x0.2.2.1<=1099511627776)=Q3 then if Q0 (length (x0.2.1++x0.2.2.1)+length x0.2.2.2.2.2.1<=1099511627776)=Q3 then if Q0 (length (x0.2.1++x0.2.2.1++x0.2.2.2.2.2.1)+length x0.2.2.2.2.2.2.2.2.2.2.2.2<=1099511627776)=Q3 then Q3 else Q4 else Q4 else Q4)
def F87:ac:=zV [zl] [Q7] (λx=>ee x.1) λx=>(eB x.1,())
theorem zg4:FK 230 F87:=by
 refine aM (zkm) λx hc C hC=>?_
 unfold ee at hc;refine zF gY (zkm) (λid _=>hC id) (zmP x.1) ?_;generalize hy:eB x.1=y;unfold eB at hy
 try simp only[zf.eta]
 repeat' (first|with_reducible refine uh hy hc (λ_ hy hc=>?_) (λ_ hy hc=>?_)|with_reducible refine di hy (λ_ hy=>?_) (λ_ hy=>?_)|with_reducible refine iB hc (λhc=>?_)|with_reducible refine zN ?_)
 all_goals first|(cases hc;done)|(subst hy;first|rfl)
abbrev znm:Nat->aO:=λ_=>{unroll:=Q3}
theorem zkr:zL (kJ).P 242 Tryz.f242 1:=bS kw
theorem zmV(x0:TS):rn kJ 0 znm Tryz.f242 [zH Q6 x0] []=br Q3 (Qc Q3 (br (Q0 ((↑(aN aK bw x0):Int)>0)) (Qc (Q0 (0<=0)&&Q0 (0<=(↑(aN aK bw x0):Int))&&Q0 ((↑(aN aK bw x0):Int)<=(↑(length x0):Int))) (Tr.ok (zE.ret (tup [agg [ai 1,str (Qg ((↑(aN aK bw x0):Int).toNat-toNat 0) (Qh (toNat 0) x0))],ai (↑(aN aK bw x0):Int)]) []))) (br Q3 (Qc Q3 (br (Q0 ((↑(aN zY zY x0):Int)>0)) (Qc (Q0 (0<=0)&&Q0 (0<=(↑(aN zY zY x0):Int))&&Q0 ((↑(aN zY zY x0):Int)<=(↑(length x0):Int))) (Tr.ok (zE.ret (tup [agg [ai 2,str (Qg ((↑(aN zY zY x0):Int).toNat-toNat 0) (Qh (toNat 0) x0))],ai (↑(aN zY zY x0):Int)]) []))) (br Q4 Tr.err (Qc (zK 0 (length x0)) (br ((↑(getD x0 (toNat 0) 0).toNat:Int)==39) (Qc (j9 x0) (Tr.ok (zE.ret (tup [agg [ai (dW x0).1.1,str (dW x0).1.2],ai (dW x0).2]) []))) (Qc (Q0 (0<=0)&&Q0 (0<=1)&&Q0 (1<=(↑(length x0):Int))) (Tr.ok (zE.ret (tup [agg [ai 4,str (Qg (toNat 1-toNat 0) (Qh (toNat 0) x0))],ai 1]) [])))))))) (Qc (zK 0 (length x0)) (br ((↑(getD x0 (toNat 0) 0).toNat:Int)==39)
 (Qc (j9 x0) (Tr.ok (zE.ret (tup [agg [ai (dW x0).1.1,str (dW x0).1.2],ai (dW x0).2]) []))) (Qc (Q0 (0<=0)&&Q0 (0<=1)&&Q0 (1<=(↑(length x0):Int))) (Tr.ok (zE.ret (tup [agg [ai 4,str (Qg (toNat 1-toNat 0) (Qh (toNat 0) x0))],ai 1]) [])))))))) (Qc (zK 0 (length x0)) (br ((↑(getD x0 (toNat 0) 0).toNat:Int)==39) (Qc (j9 x0) (Tr.ok (zE.ret (tup [agg [ai (dW x0).1.1,str (dW x0).1.2],ai (dW x0).2]) []))) (Qc (Q0 (0<=0)&&Q0 (0<=1)&&Q0 (1<=(↑(length x0):Int))) (Tr.ok (zE.ret (tup [agg [ai 4,str (Qg (toNat 1-toNat 0) (Qh (toNat 0) x0))],ai 1]) []))))):=kw
def bF(x0:TS):Sem bZ×Sem zg:=(if Q3=Q3 then if Q0 ((↑(aN aK bw x0):Int)>0)=Q3 then((1,Qg ((↑(aN aK bw x0):Int).toNat-toNat 0) (Qh (toNat 0) x0)),(↑(aN aK bw x0):Int))else if Q3=Q3 then if Q0 ((↑(aN zY zY x0):Int)>0)=Q3 then((2,Qg ((↑(aN zY zY x0):Int).toNat-toNat 0) (Qh (toNat 0) x0)),(↑(aN zY zY x0):Int))else if Q4=Q3 then default else if((↑(getD x0 (toNat 0) 0).toNat:Int)==39)=Q3 then((dW x0).1,(dW x0).2)else((4,Qg (toNat 1-toNat 0) (Qh (toNat 0) x0)),1)else if((↑(getD x0 (toNat 0) 0).toNat:Int)==39)=Q3 then((dW x0).1,(dW x0).2)else((4,Qg (toNat 1-toNat 0) (Qh (toNat 0) x0)),1)else if((↑(getD x0 (toNat 0) 0).toNat:Int)==39)=Q3 then((dW x0).1,(dW x0).2)else((4,Qg (toNat 1-toNat 0) (Qh (toNat 0) x0)),1))
def kx(x0:TS):Bool:=(if Q3=Q3 then if Q3=Q3 then if Q0 ((↑(aN aK bw x0):Int)>0)=Q3 then if(Q0 (0<=0)&&Q0 (0<=(↑(aN aK bw x0):Int))&&Q0 ((↑(aN aK bw x0):Int)<=(↑(length x0):Int)))=Q3 then Q3 else Q4 else if Q3=Q3 then if Q3=Q3 then if Q0 ((↑(aN zY zY x0):Int)>0)=Q3 then if(Q0 (0<=0)&&Q0 (0<=(↑(aN zY zY x0):Int))&&Q0 ((↑(aN zY zY x0):Int)<=(↑(length x0):Int)))=Q3 then Q3 else Q4 else if Q4=Q3 then Q4 else if zK 0 (length x0)=Q3 then if((↑(getD x0 (toNat 0) 0).toNat:Int)==39)=Q3 then if j9 x0=Q3 then Q3 else Q4 else if(Q0 (0<=0)&&Q0 (0<=1)&&Q0 (1<=(↑(length x0):Int)))=Q3 then Q3 else Q4 else Q4 else Q4 else if zK 0 (length x0)=Q3 then if((↑(getD x0 (toNat 0) 0).toNat:Int)==39)=Q3 then if j9 x0=Q3 then Q3 else Q4 else if(Q0 (0<=0)&&Q0 (0<=1)&&Q0 (1<=(↑(length x0):Int)))=Q3 then Q3 else Q4 else Q4 else Q4 else if zK 0 (length x0)=Q3 then if((↑(getD x0 (toNat 0) 0).toNat:Int)==39)=Q3 then if j9 x0=Q3 then Q3 else Q4 else if(Q0 (0<=0)&&Q0 (0<=1)&&Q0 (1<=(↑(length x0):Int)))=Q3 then Q3 else Q4 else Q4)
def F99:ac:=zV [Q6] [bZ,zg] (λx=>kx x.1) λx=>((bF x.1).1,(bF x.1).2,())
theorem zhe:FK 242 F99:=by
 refine aM (zkr) λx hc C hC=>?_
 unfold kx at hc;refine zF gY (zkr) (λid _=>hC id) (zmV x.1) ?_;generalize hy:bF x.1=y;unfold bF at hy
 try simp only[zf.eta,zk]
 repeat' (first|with_reducible refine uh hy hc (λ_ hy hc=>?_) (λ_ hy hc=>?_)|with_reducible refine di hy (λ_ hy=>?_) (λ_ hy=>?_)|with_reducible refine iB hc (λhc=>?_)|with_reducible refine zN ?_)
 all_goals first|(cases hc;done)|(subst hy;first|rfl)
abbrev zjp:Nat->aO:=λj=>if j=3 then{slots:=[1,5,8,9,10],prom:=[(5,Q2,.str)]}else{ }
abbrev Kj(l8:LS)(i9:Int)(i10:Int)(lh_0:LS):St:={tmps:=(tm 23 [(1,AV.clo (Fn.func 231) [] []),(5,AV.vec 0),(8,sl Q6 l8),(9,ai i9),(10,ai i10)]),heap:=[AO.vec Q6 lh_0]}
theorem Xi:zL (kJ).P 240 Tryz.f240 2:=bS kw
theorem zmT(x0:Sem Sh.str.sl):rn kJ 0 zjp Tryz.f240 [zH Sh.str.sl x0,AV.clo (Fn.func 231) [] []] []=Tr.ok (zE.head 3 (ag Tryz.f240 3) (Kj x0 (↑(length x0):Int) 0 [])):=kw
theorem TN(l8:LS)(i9:Int)(i10:Int)(lh_0:LS):rh kJ 0 zjp Tryz.f240 3 (Kj l8 i9 i10 lh_0)=br (Q0 (i10<i9)) (Qc (zK i10 l8.length) (Qc (Q0 (lh_0.length+[lU (l8.getD i10.toNat (zi Q6))].length<=1073741824)) (Tr.ok (zE.head 3 (ag Tryz.f240 3) (Kj l8 i9 (IntKind.i64.wrap (i10+1)) (lh_0++[lU (l8.getD i10.toNat (zi Q6))])))))) (Qc (Q0 (lh_0.length<=140737488355328)&&Q0 ((Lib.join lh_0 [32,44,32]).length<=140737488355328)) (Tr.ok (zE.ret (str (Lib.join lh_0 [32,44,32])) []))):=kw
def dF:List (Sem Q6)->Int->List (Sem Q6)->Sem Q6
 |[],_,lh_0=>(Lib.join lh_0 [32,44,32])
 |x::r,i10,lh_0=>(dF r (i10+1) (lh_0++[lU x]))
def dR:List (Sem Q6)->Int->List (Sem Q6)->Bool
 |[],_,lh_0=>(if(Q0 (lh_0.length<=140737488355328)&&Q0 ((Lib.join lh_0 [32,44,32]).length<=140737488355328))=Q3 then Q3 else Q4)
 |x::r,i10,lh_0=>(if Q0 (lh_0.length+[lU x].length<=1073741824)=Q3 then dR r (i10+1) (lh_0++[lU x])else Q4)
theorem zch{C:eV}(hC:∀id,C.ρ0 id=Q2)(l8:LS)(hl:l8.length<=aH):∀(m i:Nat)(lh_0:LS),l8.length-i=m->i<=l8.length->dR (l8.drop i) i lh_0=Q3->
  Reach (kJ) C 240 (ag Tryz.f240 3) (Kj l8 (l8.length:Int) (i:Int) lh_0) (λr h=>aL h [Q6] r=Q1 (dF (l8.drop i) i lh_0,())):=by
 intro m
 induction m with
 | zero=>
  intro i lh_0 hm hi hc;obtain rfl:i=l8.length:=by omega
  rw[jw]at hc⊢;refine zF gY (Xi) (λid _=>hC id) (TN _ _ _ _) ?_;rw[dR]at hc;generalize hy:dF [] _ lh_0=y;rw[dF]at hy;simp only[zA,Tr.val_brF];repeat' (first|with_reducible refine uh hy hc (λ_ hy hc=>?_) (λ_ hy hc=>?_)|with_reducible refine di hy (λ_ hy=>?_) (λ_ hy=>?_)|with_reducible refine iB hc (λhc=>?_)|with_reducible refine zN ?_)
  all_goals first|(cases hc;done)|(subst hy;first|rfl)
 | succ m IH=>
  intro i lh_0 hm hi hc;have hlt:i<l8.length:=by omega
  have IH:=IH (i+1);have hcast:((i:Int)+1)=((i+1:Nat):Int):=by omega
  have hwr:=zp i ow;rw[eY hlt]at hc⊢;refine zF gY (Xi) (λid _=>hC id) (TN _ _ _ _) ?_;rw[dR]at hc;generalize hy:dF (l8[i]::l8.drop (i+1)) (i:Int) lh_0=y;rw[dF]at hy;simp only[zC hlt,zt hlt,cF l8 _ hlt,hwr,Tr.val_brT,Tr.val_chkT];clear hwr
  try simp only[zt hlt]at hy
  simp only[hcast]at hy
  try simp only[zt hlt]at hc
  try simp only[hcast]at hc
  repeat' (first|with_reducible refine uh hy hc (λ_ hy hc=>?_) (λ_ hy hc=>?_)|with_reducible refine di hy (λ_ hy=>?_) (λ_ hy=>?_)|with_reducible refine iB hc (λhc=>?_)|with_reducible refine zN ?_)
  all_goals first|(cases hc;done)|(subst hy;first|(change Reach _ _ _ _ _ _;apply IH<;>first|omega|assumption)|rfl)
theorem Wm{C:eV}(hC:∀id,C.ρ0 id=Q2)(l8:LS)(lh_0:LS)(hc:dR l8 0 lh_0=Q3):
  Reach (kJ) C 240 (ag Tryz.f240 3) (Kj l8 (l8.length:Int) 0 lh_0) (λr h=>aL h [Q6] r=Q1 (dF l8 0 lh_0,())):=
 Reach.len 8 (Q6) l8 rfl λhl=>zch hC l8 hl _ 0 lh_0 rfl (be _) hc
def gD(x0:Sem Sh.str.sl):Sem Q6:=(dF x0 0 [])
def mX(x0:Sem Sh.str.sl):Bool:=(dR x0 0 [])
def F97:ac:=T2 [Sh.str.sl] [Q6] [(231,(λx=>mX x.1),λx=>(gD x.1,()))]
theorem zhc:FK 240 F97:=by
 refine KH (Xi) λj c g hm x hc C hC=>?_
 simp only[gw,cA]at hm;obtain⟨rfl,rfl,rfl⟩:=hm
 replace hc:mX x.1=Q3:=hc
 unfold mX at hc;refine zF gY (Xi) (λid _=>hC id) (zmT x.1) ?_;generalize hy:gD x.1=y;unfold gD at hy
 skip
 repeat' (first|with_reducible refine uh hy hc (λ_ hy hc=>?_) (λ_ hy hc=>?_)|with_reducible refine di hy (λ_ hy=>?_) (λ_ hy=>?_)|with_reducible refine iB hc (λhc=>?_)|with_reducible refine zN ?_)
 all_goals first|(cases hc;done)|(subst hy;first|(change Reach _ _ _ _ _ _;apply Wm hC<;>first|assumption|exact hc)|rfl)
noncomputable def M4:=kJ.addL [(228,F85),(235,F92),(230,F87),(242,F99),(240,F97)]
theorem vY:zy M4:=gY.addL<|fc zg2<|fc zha<|fc zg4<|fc zhe<|fc zhc iM
noncomputable def zex:ac:=bm (List.replicate 2 Q2) (fk M4 Tryz.f265 (List.replicate 2 Q2))
theorem zap:FK 265 zex:=ce _ vY (bS kw)
noncomputable def Rz(g:Sem Q5->Sem Q6)(c:Sem Q5->Bool):cd:=M4.add 305 (zV [Q5] [Q6] (λx=>c x.1) λx=>(g x.1,()))
theorem OX{g:Sem Q5->Sem Q6}{c:Sem Q5->Bool}(hg:FK 305 (zV [Q5] [Q6] (λx=>c x.1) λx=>(g x.1,()))):zy (Rz g c):=vY.add hg
abbrev zdp:Nat->aO:=λ_=>{ }
theorem B6(g:Sem Q5->Sem Q6)(c:Sem Q5->Bool):zL (Rz g c).P 305 Tryz.f305 1:=bS kw
theorem zcL(g:Sem Q5->Sem Q6)(c:Sem Q5->Bool)(x0:Sem Q5):rn (Rz g c) 0 zdp Tryz.f305 [zH Q5 x0] []=br (zf.op x0==[108,105,116]) (Qc (xf (zf.v x0)) (Tr.ok (zE.ret (str (ig (zf.v x0))) []))) (br (zf.op x0==[99,111,108]) (Tr.ok (zE.ret (str (zf.s x0)) [])) (br (zf.op x0==[110,111,116]) (Qc (zK 0 (zf.l x0).length) (Qc (c (zn ((zf.l x0).getD (toNat 0) (zi Q5)))) (Qc (Q0 ([40,78,79,84,32].length+length (g (zn ((zf.l x0).getD (toNat 0) (zi Q5))))<=1099511627776)) (Qc (Q0 (length ([40,78,79,84,32]++g (zn ((zf.l x0).getD (toNat 0) (zi Q5))))+[41].length<=1099511627776)) (Tr.ok (zE.ret (str ([40,78,79,84,32]++g (zn ((zf.l x0).getD (toNat 0) (zi Q5)))++[41])) [])))))) (br (zf.op x0==[110,117,108,108]) (Qc (zK 0 (zf.l x0).length) (Qc (c (zn ((zf.l x0).getD (toNat 0) (zi Q5)))) (Qc (Q0 ([40].length+length (g (zn ((zf.l x0).getD (toNat 0) (zi Q5))))<=1099511627776)) (Qc (Q0 (length ([40]++g (zn ((zf.l x0).getD (toNat 0) (zi Q5))))+[32,73,83,32,78,85,76,76,41].length<=1099511627776)) (Tr.ok (zE.ret (str ([40]++g (zn ((zf.l x0).getD (toNat 0) (zi Q5)))++[32,73,83,32,78,85,76,76,41]))
 [])))))) (Qc (zK 0 (zf.l x0).length) (Qc (c (zn ((zf.l x0).getD (toNat 0) (zi Q5)))) (Qc (Q0 ([40].length+length (g (zn ((zf.l x0).getD (toNat 0) (zi Q5))))<=1099511627776)) (Qc (Q0 (length ([40]++g (zn ((zf.l x0).getD (toNat 0) (zi Q5))))+[32].length<=1099511627776)) (Qc (Q0 (length (zf.op x0)<=140737488355328)&&List.all (zf.op x0) λb=>Q0 (b.toNat<128)) (Qc (Q0 (length ([40]++g (zn ((zf.l x0).getD (toNat 0) (zi Q5)))++[32])+(Lib.toUpperA (zf.op x0)).length<=1099511627776)) (Qc (Q0 (length ([40]++g (zn ((zf.l x0).getD (toNat 0) (zi Q5)))++[32]++Lib.toUpperA (zf.op x0))+[32].length<=1099511627776)) (Qc (zK 1 (zf.l x0).length) (Qc (c (zn ((zf.l x0).getD (toNat 1) (zi Q5)))) (Qc (Q0 (length ([40]++g (zn ((zf.l x0).getD (toNat 0) (zi Q5)))++[32]++Lib.toUpperA (zf.op x0)++[32])+length (g (zn ((zf.l x0).getD (toNat 1) (zi Q5))))<=1099511627776)) (Qc (Q0 (length ([40]++g (zn ((zf.l x0).getD (toNat 0) (zi Q5)))++[32]++Lib.toUpperA (zf.op x0)++[32]++g (zn ((zf.l x0).getD (toNat 1) (zi Q5))))+[41].length<=1099511627776)) (Tr.ok (zE.ret (str ([40]++g (zn ((zf.l x0).getD (toNat 0) (zi Q5)))++[32]++Lib.toUpperA (zf.op x0)++[32]++g
 (zn ((zf.l x0).getD (toNat 1) (zi Q5)))++[41])) [])))))))))))))))):=kw
def su(g:Sem Q5->Sem Q6)(_:Sem Q5->Bool)(x0:Sem Q5):Sem Q6:=(if(zf.op x0==[108,105,116])=Q3 then ig (zf.v x0)else if(zf.op x0==[99,111,108])=Q3 then zf.s x0 else if(zf.op x0==[110,111,116])=Q3 then[40,78,79,84,32]++g ((zf.l x0).getD (toNat 0) (zi Q5))++[41]else if(zf.op x0==[110,117,108,108])=Q3 then[40]++g ((zf.l x0).getD (toNat 0) (zi Q5))++[32,73,83,32,78,85,76,76,41]else[40]++g ((zf.l x0).getD (toNat 0) (zi Q5))++[32]++Lib.toUpperA (zf.op x0)++[32]++g ((zf.l x0).getD (toNat 1) (zi Q5))++[41])
def yF(g:Sem Q5->Sem Q6)(c:Sem Q5->Bool)(x0:Sem Q5):Bool:=(if(zf.op x0==[108,105,116])=Q3 then if xf (zf.v x0)=Q3 then Q3 else Q4 else if(zf.op x0==[99,111,108])=Q3 then Q3 else if(zf.op x0==[110,111,116])=Q3 then if zK 0 (zf.l x0).length=Q3 then if c ((zf.l x0).getD (toNat 0) (zi Q5))=Q3 then if Q0 ([40,78,79,84,32].length+length (g ((zf.l x0).getD (toNat 0) (zi Q5)))<=1099511627776)=Q3 then if Q0 (length ([40,78,79,84,32]++g ((zf.l x0).getD (toNat 0) (zi Q5)))+[41].length<=1099511627776)=Q3 then Q3 else Q4 else Q4 else Q4 else Q4 else if(zf.op x0==[110,117,108,108])=Q3 then if zK 0 (zf.l x0).length=Q3 then if c ((zf.l x0).getD (toNat 0) (zi Q5))=Q3 then if Q0 ([40].length+length (g ((zf.l x0).getD (toNat 0) (zi Q5)))<=1099511627776)=Q3 then if Q0 (length ([40]++g ((zf.l x0).getD (toNat 0) (zi Q5)))+[32,73,83,32,78,85,76,76,41].length<=1099511627776)=Q3 then Q3 else Q4 else Q4 else Q4 else Q4 else if zK 0 (zf.l x0).length=Q3 then if c ((zf.l x0).getD (toNat 0) (zi Q5))=Q3 then if Q0 ([40].length+length (g ((zf.l x0).getD (toNat 0) (zi Q5)))<=1099511627776)=Q3 then
 if Q0 (length ([40]++g ((zf.l x0).getD (toNat 0) (zi Q5)))+[32].length<=1099511627776)=Q3 then if(Q0 (length (zf.op x0)<=140737488355328)&&List.all (zf.op x0) λb=>Q0 (b.toNat<128))=Q3 then if Q0 (length ([40]++g ((zf.l x0).getD (toNat 0) (zi Q5))++[32])+(Lib.toUpperA (zf.op x0)).length<=1099511627776)=Q3 then if Q0 (length ([40]++g ((zf.l x0).getD (toNat 0) (zi Q5))++[32]++Lib.toUpperA (zf.op x0))+[32].length<=1099511627776)=Q3 then if zK 1 (zf.l x0).length=Q3 then if c ((zf.l x0).getD (toNat 1) (zi Q5))=Q3 then if Q0 (length ([40]++g ((zf.l x0).getD (toNat 0) (zi Q5))++[32]++Lib.toUpperA (zf.op x0)++[32])+length (g ((zf.l x0).getD (toNat 1) (zi Q5)))<=1099511627776)=Q3 then if Q0 (length ([40]++g ((zf.l x0).getD (toNat 0) (zi Q5))++[32]++Lib.toUpperA (zf.op x0)++[32]++g ((zf.l x0).getD (toNat 1) (zi Q5)))+[41].length<=1099511627776)=Q3 then Q3 else Q4 else Q4 else Q4 else Q4 else Q4 else Q4 else Q4 else Q4 else Q4 else Q4 else Q4)
def zeM(g:Sem Q5->Sem Q6)(c:Sem Q5->Bool):ac:=zV [Q5] [Q6] (λx=>yF g c x.1) λx=>(su g c x.1,())
theorem VT(g:Sem Q5->Sem Q6)(c:Sem Q5->Bool)(hg:FK 305 (zV [Q5] [Q6] (λx=>c x.1) λx=>(g x.1,()))):FK 305 (zeM g c):=by
 refine aM (B6 g c) λx hc C hC=>?_
 unfold yF at hc;refine zF (OX hg) (B6 g c) (λid _=>hC id) (zcL g c x.1) ?_;generalize hy:su g c x.1=y;unfold su at hy
 try simp only[zf.eta]
 repeat' (first|with_reducible refine uh hy hc (λ_ hy hc=>?_) (λ_ hy hc=>?_)|with_reducible refine di hy (λ_ hy=>?_) (λ_ hy=>?_)|with_reducible refine iB hc (λhc=>?_)|with_reducible refine zN ?_)
 all_goals first|(cases hc;done)|(subst hy;first|rfl)
mutual
def aQ:Nat->Sem Q5->Sem Q6
 |0=>λ_=>default
 |n+1=>su (aQ n) (gH n)
def gH:Nat->Sem Q5->Bool
 |0=>λ_=>Q4
 |n+1=>yF (aQ n) (gH n)
end
theorem MI:∀n,FK 305 (zV [Q5] [Q6] (λx=>gH n x.1) λx=>(aQ n x.1,()))
 |0=>fy ⟨Tryz.f305,(B6 default default).1,(B6 default default).2.1,(B6 default default).2.2.1⟩ (λ_=>rfl)
 |n+1=>VT (aQ n) (gH n) (MI n)
def zeL:ac:=zV [Q5] [Q6] (λx=>gH 16 x.1) λx=>(aQ 16 x.1,())
theorem zaD:FK 305 zeL:=MI 16
noncomputable def oZ:=M4.addL [(265,zex),(305,zeL)]
theorem kj:zy oZ:=vY.addL<|fc zap<|fc zaD iM
abbrev uR(l:LS)(i:Int):St:={tmps:=[.sl Q6 l,.clo (.func 265) [] [.ptr 0 0],.any,.any,.any,.any,.any,.int .i64 l.length,.int .i64 i,.any,.any,.any,.any,.any,.any,.any,.any,.any,.any],heap:=[.box [.clo (.func 223) [] []]]}
theorem Pg(l:LS):run oZ 1 yo Tryz.f295.results.toList 300 (bx Tryz.f295) (bg Tryz.f295.ntmps [.sl Q6 l,.clo (.func 265) [] [.ptr 0 0]] [.box [.clo (.func 223) [] []]])=.ok (.head 2 (ag Tryz.f295 2) (uR l 0)):=kw
theorem PF(l:LS)(i:Int):run oZ 1 yo Tryz.f295.results.toList 300 (ag Tryz.f295 2) (uR l i)=nF (K:=ag Tryz.f295 2) (e:=Q6) l (λx=>!bR x) (uR l) [.box [.clo (.func 223) [] []]] i:=kw
theorem Tx:zL oZ.P 295 Tryz.f295 2:=bS kw
def zhi:il [Q1 (.sl Q6),Q2]:=λx h=>match x,h with
 |(l,.clo (.func 265) [] [.ptr 0 0],_),[.box [.clo (.func 223) [] []]]=>.ok (.int .i64 (zW (λx=>!bR x) l 0),[.box [.clo (.func 223) [] []]])
 |_,_=>.err
def zeH:ac:=bm [Q1 (.sl Q6),Q2] zhi
theorem zaz:FK 295 zeH:=by
 refine dv Tx λx h0 res hx C hC=>?_
 unfold zhi at hx;split at hx
 ·rename_i l u;simp only[Tr.val_ok,bD]at hx;subst hx;refine Reach.len 0 Q6 l rfl λhl=>?_
  refine zF (n0:=1) kj Tx hC (Pg l) ?_;exact kv l (λx=>!bR x) (uR l) kj Tx hC (PF l) hl _ 0 rfl (be _)
 ·simp at hx
abbrev ziE:Nat->aO:=λ_=>{ }
theorem ZY:zL (oZ).P 278 Tryz.f278 1:=bS kw
theorem zhL(x0:Sem Q5):rn oZ 0 ziE Tryz.f278 [zH Q5 x0] []=br (!de (zn x0)) (Tr.ok (zE.ret (tup [str [],ai 1]) [])) (Qc (gH 16 (zn x0)) (Tr.ok (zE.ret (tup [str (aQ 16 (zn x0)),ai 0]) []))):=kw
def nA(x0:Sem Q5):Sem Q6×Sem zg:=(if(!de x0)=Q3 then([],1)else(aQ 16 x0,0))
def qf(x0:Sem Q5):Bool:=(if(!de x0)=Q3 then Q3 else if gH 16 x0=Q3 then Q3 else Q4)
def zeE:ac:=zV [Q5] [Q6,zg] (λx=>qf x.1) λx=>((nA x.1).1,(nA x.1).2,())
theorem zaw:FK 278 zeE:=by
 refine aM (ZY) λx hc C hC=>?_
 unfold qf at hc;refine zF kj (ZY) (λid _=>hC id) (zhL x.1) ?_;generalize hy:nA x.1=y;unfold nA at hy
 try simp only[zf.eta]
 repeat' (first|with_reducible refine uh hy hc (λ_ hy hc=>?_) (λ_ hy hc=>?_)|with_reducible refine di hy (λ_ hy=>?_) (λ_ hy=>?_)|with_reducible refine iB hc (λhc=>?_)|with_reducible refine zN ?_)
 all_goals first|(cases hc;done)|(subst hy;first|rfl)
abbrev zjd:Nat->aO:=λj=>if j=3 then{slots:=[0,4,5],prom:=[(4,Q2,bZ)]}else{ }
abbrev Ki(s0:TS)(i5:Int)(lh_0:LF):St:={tmps:=(tm 47 [(0,str s0),(4,AV.vec 0),(5,ai i5)]),heap:=[AO.vec zu lh_0]}
theorem zdK:zL (oZ).P 192 Tryz.f192 1:=bS kw
theorem zmI(x0:TS):rn oZ 0 zjd Tryz.f192 [zH Q6 x0] []=Tr.ok (zE.head 3 (ag Tryz.f192 3) (Ki x0 0 [])):=kw
theorem zdR(s0:TS)(i5:Int)(lh_0:LF):rh oZ 0 zjd Tryz.f192 3 (Ki s0 i5 lh_0)=br (Q0 (i5<(↑(length s0):Int))) (Qc (zK i5 (length s0)&&bif (↑(getD s0 i5.toNat 0).toNat:Int)==32 then Q3 else zK i5 (length s0)) (br (bif (↑(getD s0 i5.toNat 0).toNat:Int)==32 then Q3 else(↑(getD s0 i5.toNat 0).toNat:Int)==10) (Tr.ok (zE.head 3 (ag Tryz.f192 3) (Ki s0 (IntKind.i64.wrap (i5+1)) lh_0))) (Qc (Q0 (0<=i5)&&Q0 (i5<=(↑(length s0):Int))&&Q0 ((↑(length s0):Int)<=(↑(length s0):Int))) (Qc (kx (Qg ((↑(length s0):Int).toNat-i5.toNat) (Qh i5.toNat s0))) (Qc (rb (bF (Qg ((↑(length s0):Int).toNat-i5.toNat) (Qh i5.toNat s0))).1) (br (bif !ck (bF (Qg ((↑(length s0):Int).toNat-i5.toNat) (Qh i5.toNat s0))).1 then Q3 else(↑lh_0.length:Int)==400) (Tr.ok (zE.ret (tup [nils,ai 2]) [])) (Qc (Q0 (lh_0.length+[(bF (Qg ((↑(length s0):Int).toNat-i5.toNat) (Qh i5.toNat s0))).1].length<=1073741824)) (Tr.ok (zE.head 3 (ag Tryz.f192 3) (Ki s0 (IntKind.i64.wrap (i5+(bF (Qg ((↑(length s0):Int).toNat-i5.toNat) (Qh i5.toNat s0))).2))
 (lh_0++[(bF (Qg ((↑(length s0):Int).toNat-i5.toNat) (Qh i5.toNat s0))).1]))))))))))) (Tr.ok (zE.ret (tup [AV.vec 0,ai 0]) [AO.vec zu lh_0])):=kw
def tE:Nat->(Sem Sh.str)->Int->(List (Sem zu))->Sem bZ.sl×Sem zg
 |0,_,_,_=>default
 |n+1,s0,i5,lh_0=>(if Q0 (i5<(↑(length s0):Int))=Q3 then
 if(bif (↑(getD s0 i5.toNat 0).toNat:Int)==32 then Q3 else(↑(getD s0 i5.toNat 0).toNat:Int)==10)=Q3 then
  tE n s0 (IntKind.i64.wrap (i5+1)) lh_0
 else
  if
    (bif !ck (bF (Qg ((↑(length s0):Int).toNat-i5.toNat) (Qh i5.toNat s0))).1 then Q3
     else(↑lh_0.length:Int)==400)=
     Q3 then
   ([],2)
  else
   tE n s0 (IntKind.i64.wrap (i5+(bF (Qg ((↑(length s0):Int).toNat-i5.toNat) (Qh i5.toNat s0))).2))
    (lh_0++[(bF (Qg ((↑(length s0):Int).toNat-i5.toNat) (Qh i5.toNat s0))).1])
else(lh_0,0))
def sm:Nat->(Sem Sh.str)->Int->(List (Sem zu))->Bool
 |0,_,_,_=>Q4
 |n+1,s0,i5,lh_0=>(if Q0 (i5<(↑(length s0):Int))=Q3 then
 if (zK i5 (length s0)&&bif (↑(getD s0 i5.toNat 0).toNat:Int)==32 then true else zK i5 (length s0))=true then
  if(bif (↑(getD s0 i5.toNat 0).toNat:Int)==32 then Q3 else(↑(getD s0 i5.toNat 0).toNat:Int)==10)=Q3 then
   sm n s0 (IntKind.i64.wrap (i5+1)) lh_0
  else
   if (decide (0≤i5)&&decide (i5≤(↑(length s0):Int))&&decide ((↑(length s0):Int)≤(↑(length s0):Int)))=true then
    if kx (List.take ((↑(length s0):Int).toNat-i5.toNat) (List.drop i5.toNat s0))=true then
     if rb (bF (List.take ((↑(length s0):Int).toNat-i5.toNat) (List.drop i5.toNat s0))).1=true then
      if
        (bif !ck (bF (Qg ((↑(length s0):Int).toNat-i5.toNat) (Qh i5.toNat s0))).1 then Q3
         else(↑lh_0.length:Int)==400)=
         Q3 then
       Q3
      else
       if
         Q0 (lh_0.length+[(bF (Qg ((↑(length s0):Int).toNat-i5.toNat) (Qh i5.toNat s0))).1].length<=1073741824)=
          Q3 then
        sm n s0 (IntKind.i64.wrap (i5+(bF (Qg ((↑(length s0):Int).toNat-i5.toNat) (Qh i5.toNat s0))).2))
         (lh_0++[(bF (Qg ((↑(length s0):Int).toNat-i5.toNat) (Qh i5.toNat s0))).1])
       else Q4
     else Q4
    else Q4
   else Q4
 else Q4
else Q3)
theorem QZ{C:eV}(hC:∀id,C.ρ0 id=Q2):∀(n:Nat)(s0:TS)(i5:Int)(lh_0:LF),sm n s0 i5 lh_0=Q3->
  Reach (oZ) C 192 (ag Tryz.f192 3) (Ki s0 i5 lh_0) (λr h=>aL h [bZ.sl,zg] r=Q1 ((tE n s0 i5 lh_0).1,(tE n s0 i5 lh_0).2,()))
 |0,s0,i5,lh_0,hc=>by cases hc
 | n+1,s0,i5,lh_0,hc=>by
  refine zF kj (zdK) (λid _=>hC id) (zdR _ _ _) ?_;rw[sm]at hc;generalize hy:tE (n+1) s0 i5 lh_0=y;rw[tE]at hy
  try simp only[zf.eta,zk]
  repeat' (first|with_reducible refine uh hy hc (λ_ hy hc=>?_) (λ_ hy hc=>?_)|with_reducible refine di hy (λ_ hy=>?_) (λ_ hy=>?_)|with_reducible refine iB hc (λhc=>?_)|with_reducible refine zN ?_)
  all_goals first|(cases hc;done)|(subst hy;first|(change Reach _ _ _ _ _ _;refine QZ hC n _ _ _ ?_<;>exact hc)|rfl)
def cut(x0:TS):Sem bZ.sl×Sem zg:=(tE (length x0+1) x0 0 [])
def Rj(x0:TS):Bool:=(sm (length x0+1) x0 0 [])
def F69:ac:=zV [Q6] [bZ.sl,zg] (λx=>Rj x.1) λx=>((cut x.1).1,(cut x.1).2,())
theorem zgP:FK 192 F69:=by
 refine aM (zdK) λx hc C hC=>?_
 unfold Rj at hc;refine zF kj (zdK) (λid _=>hC id) (zmI x.1) ?_;generalize hy:cut x.1=y;unfold cut at hy
 try simp only[zf.eta,zk]
 repeat' (first|with_reducible refine uh hy hc (λ_ hy hc=>?_) (λ_ hy hc=>?_)|with_reducible refine di hy (λ_ hy=>?_) (λ_ hy=>?_)|with_reducible refine iB hc (λhc=>?_)|with_reducible refine zN ?_)
 all_goals first|(cases hc;done)|(subst hy;first|(change Reach _ _ _ _ _ _;refine QZ hC _ _ _ _ ?_<;>exact hc)|rfl)
noncomputable def IN:=oZ.addL [(295,zeH),(278,zeE),(192,F69)]
theorem vZ:zy IN:=kj.addL<|fc zaz<|fc zaw<|fc zgP iM
noncomputable def zew:ac:=bm (List.replicate 2 Q2) (fk IN Tryz.f264 (List.replicate 2 Q2))
theorem zao:FK 264 zew:=ce _ vZ (bS kw)
abbrev znk:Nat->aO:=λ_=>{ }
theorem zkp:zL (IN).P 237 Tryz.f237 1:=bS kw
theorem zmS(x0:Sem Q5):rn IN 0 znk Tryz.f237 [zH Q5 x0] []=Qc (qf (zn x0)) (Tr.ok (zE.ret (str (nA (zn x0)).1) [])):=kw
def iL(x0:Sem Q5):Sem Q6:=((nA x0).1)
def pV(x0:Sem Q5):Bool:=(if qf x0=Q3 then Q3 else Q4)
def F94:ac:=zV [Q5] [Q6] (λx=>pV x.1) λx=>(iL x.1,())
theorem zhb:FK 237 F94:=by
 refine aM (zkp) λx hc C hC=>?_
 unfold pV at hc;refine zF vZ (zkp) (λid _=>hC id) (zmS x.1) ?_;generalize hy:iL x.1=y;unfold iL at hy
 try simp only[zf.eta]
 repeat' (first|with_reducible refine uh hy hc (λ_ hy hc=>?_) (λ_ hy hc=>?_)|with_reducible refine di hy (λ_ hy=>?_) (λ_ hy=>?_)|with_reducible refine iB hc (λhc=>?_)|with_reducible refine zN ?_)
 all_goals first|(cases hc;done)|(subst hy;first|rfl)
noncomputable def IP:=IN.addL [(264,zew),(237,F94)]
theorem wa:zy IP:=vZ.addL<|fc zao<|fc zhb iM
noncomputable def F86:ac:=bm (List.replicate 4 Q2) (fk IP Tryz.f229 (List.replicate 4 Q2))
theorem zg3:FK 229 F86:=ce _ wa (bS kw)
abbrev znl:Nat->aO:=λ_=>{ }
theorem zkq:zL (IP).P 241 Tryz.f241 2:=bS kw
theorem zmU(x0:TS)(x1:Sem Q5):rn IP 0 znl Tryz.f241 [zH Q6 x0,zH Q5 x1] []=br (gX (zn x1)) (Tr.ok (zE.ret (str []) [])) (Qc (Q0 (length x0+[67,72,69,67,75,32,40,32].length<=1099511627776)) (Qc (pV (zn x1)) (Qc (Q0 (length (x0++[67,72,69,67,75,32,40,32])+length (iL (zn x1))<=1099511627776)) (Qc (Q0 (length (x0++[67,72,69,67,75,32,40,32]++iL (zn x1))+[32,41].length<=1099511627776)) (Tr.ok (zE.ret (str (x0++[67,72,69,67,75,32,40,32]++iL (zn x1)++[32,41])) [])))))):=kw
def kD(x0:TS)(x1:Sem Q5):Sem Q6:=(if gX x1=Q3 then[]else x0++[67,72,69,67,75,32,40,32]++iL x1++[32,41])
def tw(x0:TS)(x1:Sem Q5):Bool:=(if gX x1=Q3 then Q3 else if Q0 (length x0+[67,72,69,67,75,32,40,32].length<=1099511627776)=Q3 then if pV x1=Q3 then if Q0 (length (x0++[67,72,69,67,75,32,40,32])+length (iL x1)<=1099511627776)=Q3 then if Q0 (length (x0++[67,72,69,67,75,32,40,32]++iL x1)+[32,41].length<=1099511627776)=Q3 then Q3 else Q4 else Q4 else Q4 else Q4)
def F98:ac:=zV [Q6,Q5] [Q6] (λx=>tw x.1 x.2.1) λx=>(kD x.1 x.2.1,())
theorem zhd:FK 241 F98:=by
 refine aM (zkq) λx hc C hC=>?_
 unfold tw at hc;refine zF wa (zkq) (λid _=>hC id) (zmU x.1 x.2.1) ?_;generalize hy:kD x.1 x.2.1=y;unfold kD at hy
 try simp only[zf.eta]
 repeat' (first|with_reducible refine uh hy hc (λ_ hy hc=>?_) (λ_ hy hc=>?_)|with_reducible refine di hy (λ_ hy=>?_) (λ_ hy=>?_)|with_reducible refine iB hc (λhc=>?_)|with_reducible refine zN ?_)
 all_goals first|(cases hc;done)|(subst hy;first|rfl)
noncomputable def Y8:=IP.addL [(229,F86),(241,F98)]
theorem Pa:zy Y8:=wa.addL<|fc zg3<|fc zhd iM
def zk3(x0:Sem zl):Sem Q7:=(bif bif Q0 ((↑(length x0.2.2.2.2.1):Int)<1)then Q3 else Q0 ((↑(length x0.2.2.2.2.1):Int)>8)then Q4 else bif !Q0 (zW (λx=>!zhp x) x0.2.2.2.2.1 0>=0)then bif bR x0.2.2.2.2.2.1 then bif bif Q0 ((↑(length x0.2.2.2.2.2.2.1):Int)<0)then Q3 else Q0 ((↑(length x0.2.2.2.2.2.2.1):Int)>8)then Q4 else bif !Q0 (zW (λx=>!bR x) x0.2.2.2.2.2.2.1 0>=0)then bif bif Q0 ((↑(length x0.2.2.2.2.2.2.2.1):Int)<0)then Q3 else Q0 ((↑(length x0.2.2.2.2.2.2.2.1):Int)>8)then Q4 else bif !Q0 (zW (λx=>!zkM x) x0.2.2.2.2.2.2.2.1 0>=0)then bT x0.2.2.2.2.2.2.2.2.1 else Q4 else Q4 else Q4 else Q4)
noncomputable def Y9:=Y8
theorem wb:zy Y9:=Pa
noncomputable section
def tV(x0:Sem zl):Tr (Empty⊕aw):=
 let a0:=zn x0.t.t.1
 let a1:=zn x0.t.t.q.2.1
 let a2:=(x0.t.t.2.1,x0.t.t.q.1,a1,x0.t.t.t)
 let a3:=(x0.1,[],x0.2.2.1,x0.2.2.2.1,x0.t.1,x0.t.2.1,x0.t.q.1,x0.t.q.2.1,a0,a2)
 let a4:=bif bR x0.2.1 then bT a1 else Q4
 let a5:=(x0.1,[],x0.2.2.1,x0.2.2.2.1,x0.t.1,x0.t.2.1,x0.t.q.1,x0.t.q.2.1,a0,x0.t.t.2.1,x0.t.t.q.1,zf.mk [] (0,0,[]) [] [],x0.t.t.t)
 let a6:=bR x0.t.t.t
 let a7:=bif bR x0.2.1 then a6 else Q4
 let a8:=(x0.t.t.2.1,x0.t.t.q.1,a1,[])
 let a9:=(x0.1,[],x0.2.2.1,x0.2.2.2.1,x0.t.1,x0.t.2.1,x0.t.q.1,x0.t.q.2.1,a0,a8)
 let a10:=bR x0.2.2.1
 let a11:=(↑(length x0.2.2.2.1):Int)
 let a12:=zW (λx=>!bR x) x0.2.2.2.1 0
 let a13:=bT a0
 let a14:=bif !Q0 (a12>=0)then a13 else Q4
 let a15:=bif bR x0.2.1 then bif a10 then bif bif Q0 (a11<1)then Q3 else Q0 (a11>8)then Q4 else a14 else Q4 else Q4
 let a16:=(x0.1,[],[],[],x0.t.1,x0.t.2.1,x0.t.q.1,x0.t.q.2.1,zf.mk [] (0,0,[]) [] [],a2)
 let a17:=ee a16
 let a18:=eB a16
 let a19:=bif bR x0.2.1 then bif a10 then bif bR x0.t.2.1 then bif a6 then a13 else Q4 else Q4 else Q4 else Q4
 let a20:=(x0.1,[],[],x0.2.2.2.1,x0.t.1,[],x0.t.q.1,x0.t.q.2.1,zf.mk [] (0,0,[]) [] [],a8)
 let a21:=bif bR x0.2.1 then bif a10 then bif bif Q0 (a11<2)then Q3 else Q0 (a11>2)then Q4 else a14 else Q4 else Q4
 br (x0.1==[99,114,101,97,116,101]) (br (bR x0.2.1) Tr.err (re (kb Q4) []))
 (br (x0.1==[100,114,111,112])
  (Qc (bif bR x0.2.1 then ee a3 else Q3) (re (AV.bool (bif bR x0.2.1 then eB a3 else Q4)) []))
  (br (x0.1==[105,110,115,101,114,116]) (br (bR x0.2.1) Tr.err (re (kb Q4) [])) (br (x0.1==[117,112,100,97,116,101]) (br (bR x0.2.1) Tr.err (re (kb Q4) [])) (br (x0.1==[100,101,108,101,116,101]) (Qc (bif a4 then ee a5 else Q3) (re (AV.bool (bif a4 then eB a5 else Q4)) []))
  (br (x0.1==[115,101,108,101,99,116]) (Qc (bif a4 then ee a5 else Q3) (re (AV.bool (bif a4 then eB a5 else Q4)) [])) (br (x0.1==[114,101,97,100]) (Qc (bif a7 then ee a9 else Q3) (re (AV.bool (bif a7 then eB a9 else Q4)) []))
  (br (x0.1==[119,114,105,116,101]) (Qc (bif a7 then ee a9 else Q3) (re (AV.bool (bif a7 then eB a9 else Q4)) [])) (br (x0.1==[117,110,114,101,97,100]) (Qc (bif a7 then ee a9 else Q3) (re (AV.bool (bif a7 then eB a9 else Q4)) [])) (br (x0.1==[117,110,119,114,105,116,101])
  (Qc (bif a7 then ee a9 else Q3) (re (AV.bool (bif a7 then eB a9 else Q4)) [])) (br (x0.1==[99,111,112,121]) (Qc (bif a15 then a17 else Q3) (re (AV.bool (bif a15 then a18 else Q4)) [])) (br (x0.1==[106,111,105,110]) (Qc (bif a19 then ee a20 else Q3) (re (AV.bool (bif a19 then eB a20 else Q4)) []))
  (br (x0.1==[103,114,111,117,112]) (Qc (bif a21 then a17 else Q3) (re (AV.bool (bif a21 then a18 else Q4)) [])) (re (kb Q4) [])))))))))))))
def Av(x0:Sem zl):=al [Q7] t0 100000000 (tV x0)
def uS(x0:Sem zl):=(Av x0).isSome
def fh(x0:Sem zl):=o1 (Av x0)
def Yh:=FT [zl] [Q7] λx=>Av x.1
theorem Vu:FK 190 Yh:=wb.T1 (f:=Tryz.f190) (keep:=k0) (e:=e0)
def xJ(x0:Sem zl):Tr (Empty⊕aw):=
 let a0:=Q0 (length x0.1<=140737488355328)&&List.all x0.1 λb=>Q0 (b.toNat<128)
 let a1:=[77,73,71,82,65,84,69,32]++Lib.toUpperA x0.1
 let a2:=a1++[32]
 let a3:=a2++x0.2.1
 let a4:=a3++[32,70,82,79,77,32]
 let a5:=[71,82,65,78,84,32]++Lib.toUpperA x0.1
 let a6:=a5++[32,79,78,32]
 let a7:=a6++x0.2.1
 let a8:=a7++[32,84,79,32]
 let a9:=Qg ((↑(length x0.1):Int).toNat-toNat 2) (Qh (toNat 2) x0.1)
 let a10:=Lib.toUpperA a9
 let a11:=[82,69,86,79,75,69,32]++a10
 let a12:=a11++[32,79,78,32]
 let a13:=a12++x0.2.1
 let a14:=a13++[32,70,82,79,77,32]
 let a15:=a4++x0.2.2.1
 let a16:=a15++[32,40,32]
 let a17:=gD x0.2.2.2.1
 let a18:=a16++a17
 let a19:=zn x0.t.t.1
 let a20:=tw [32] a19
 let a21:=a18++[32,41]
 let a22:=kD [32] a19
 let a23:=a15++[32,44,32]
 let a24:=a23++x0.t.t.t
 let a25:=a24++[32,79,78,32]
 let a26:=a25++x0.t.2.1
 let a27:=a15++[32,66,89,32]
 let a28:=getD x0.2.2.2.1 (toNat 0) (zi Q6)
 let a29:=a27++a28
 let a30:=a29++[32,83,85,77,32]
 let a31:=getD x0.2.2.2.1 (toNat 1) (zi Q6)
 let a32:=a30++a31
 Qc a0
 (Qc (Q0 ([77,73,71,82,65,84,69,32].length+(Lib.toUpperA x0.1).length<=1099511627776))
  (Qc (Q0 (length a1+[32].length<=1099511627776)) (Qc (Q0 (length a2+length x0.2.1<=1099511627776)) (Qc (Q0 (length a3+[32,70,82,79,77,32].length<=1099511627776)) (Qc (Q0 (length a4+length x0.2.2.1<=1099511627776)) (br (x0.1==[99,114,101,97,116,101]) Tr.err (br (x0.1==[100,114,111,112])
  (Qc (Q0 ([68,82,79,80,32,84,65,66,76,69,32].length+length x0.2.1<=1099511627776)) (re (str ([68,82,79,80,32,84,65,66,76,69,32]++x0.2.1)) [])) (br (x0.1==[105,110,115,101,114,116]) (Qc (Q0 ([73,78,83,69,82,84,32,73,78,84,79,32].length+length x0.2.1<=1099511627776)) (Qc (decide
  (length ([73,78,83,69,82,84,32,73,78,84,79,32]++x0.2.1)+[32,86,65,76,85,69,83,32,40,32].length<=1099511627776)) Tr.err)) (br (x0.1==[117,112,100,97,116,101]) (Qc (Q0 ([85,80,68,65,84,69,32].length+length x0.2.1<=1099511627776))
  (Qc (Q0 (length ([85,80,68,65,84,69,32]++x0.2.1)+[32,83,69,84,32].length<=1099511627776)) Tr.err)) (br (x0.1==[100,101,108,101,116,101]) (Qc (Q0 ([68,69,76,69,84,69,32,70,82,79,77,32].length+length x0.2.1<=1099511627776)) Tr.err) (br (x0.1==[115,101,108,101,99,116])
  (Qc (Q0 ([83,69,76,69,67,84,32,42,32,70,82,79,77,32].length+length x0.2.1<=1099511627776)) Tr.err) (br (x0.1==[114,101,97,100]) (Qc a0 (Qc (Q0 ([71,82,65,78,84,32].length+(Lib.toUpperA x0.1).length<=1099511627776)) (Qc (Q0 (length a5+[32,79,78,32].length<=1099511627776))
  (Qc (Q0 (length a6+length x0.2.1<=1099511627776)) (Qc (Q0 (length a7+[32,84,79,32].length<=1099511627776)) (Qc (Q0 (length a8+length x0.t.t.t<=1099511627776)) (re (str (a8++x0.t.t.t)) []))))))) (br (x0.1==[119,114,105,116,101]) (Qc a0
  (Qc (Q0 ([71,82,65,78,84,32].length+(Lib.toUpperA x0.1).length<=1099511627776)) (Qc (Q0 (length a5+[32,79,78,32].length<=1099511627776)) (Qc (Q0 (length a6+length x0.2.1<=1099511627776)) (Qc (Q0 (length a7+[32,84,79,32].length<=1099511627776))
  (Qc (Q0 (length a8+length x0.t.t.t<=1099511627776)) (re (str (a8++x0.t.t.t)) []))))))) (br (x0.1==[117,110,114,101,97,100]) (Qc (Q0 (0<=2)&&Q0 (2<=(↑(length x0.1):Int))&&Q0 ((↑(length x0.1):Int)<=(↑(length x0.1):Int)))
  (Qc (Q0 (a9.length<=140737488355328)&&a9.all λb=>Q0 (b.toNat<128)) (Qc (Q0 ([82,69,86,79,75,69,32].length+a10.length<=1099511627776)) (Qc (Q0 (length a11+[32,79,78,32].length<=1099511627776)) (Qc (Q0 (length a12+length x0.2.1<=1099511627776))
  (Qc (Q0 (length a13+[32,70,82,79,77,32].length<=1099511627776)) (Qc (Q0 (length a14+length x0.t.t.t<=1099511627776)) (re (str (a14++x0.t.t.t)) [])))))))) (br (x0.1==[117,110,119,114,105,116,101]) (Qc (Q0 (0<=2)&&Q0 (2<=(↑(length x0.1):Int))&&
  Q0 ((↑(length x0.1):Int)<=(↑(length x0.1):Int))) (Qc (Q0 (a9.length<=140737488355328)&&a9.all λb=>Q0 (b.toNat<128)) (Qc (Q0 ([82,69,86,79,75,69,32].length+a10.length<=1099511627776)) (Qc (Q0 (length a11+[32,79,78,32].length<=1099511627776)) (Qc (Q0 (length a12+length x0.2.1<=1099511627776))
  (Qc (Q0 (length a13+[32,70,82,79,77,32].length<=1099511627776)) (Qc (Q0 (length a14+length x0.t.t.t<=1099511627776)) (re (str (a14++x0.t.t.t)) [])))))))) (br (x0.1==[99,111,112,121]) (Qc (Q0 (length a15+[32,40,32].length<=1099511627776)) (Qc (mX x0.2.2.2.1)
  (Qc (Q0 (length a16+length a17<=1099511627776)) (Qc (Q0 (length a18+[32,41].length<=1099511627776)) (Qc a20 (Qc (Q0 (length a21+length a22<=1099511627776)) (re (str (a21++a22)) []))))))) (br (x0.1==[106,111,105,110]) (Qc (Q0 (length a15+[32,44,32].length<=1099511627776))
  (Qc (Q0 (length a23+length x0.t.t.t<=1099511627776)) (Qc (Q0 (length a24+[32,79,78,32].length<=1099511627776)) (Qc (Q0 (length a25+length x0.t.2.1<=1099511627776)) (Qc a20 (Qc (Q0 (length a26+length a22<=1099511627776)) (re (str (a26++a22)) [])))))))
  (Qc (Q0 (length a15+[32,66,89,32].length<=1099511627776)) (Qc (zK 0 (length x0.2.2.2.1)) (Qc (Q0 (length a27+length a28<=1099511627776)) (Qc (Q0 (length a29+[32,83,85,77,32].length<=1099511627776)) (Qc (zK 1 (length x0.2.2.2.1)) (Qc (Q0 (length a30+length a31<=1099511627776)) (Qc a20
  (Qc (Q0 (length a32+length a22<=1099511627776)) (re (str (a32++a22)) []))))))))))))))))))))))))))
def Hy(x0:Sem zl):=al [Q6] t0 100000000 (xJ x0)
def C4(x0:Sem zl):=(Hy x0).isSome
def iJ(x0:Sem zl):=o1 (Hy x0)
def Yi:=FT [zl] [Q6] λx=>Hy x.1
theorem Vv:FK 191 Yi:=wb.T1 (f:=Tryz.f191) (keep:=k0) (e:=e0)
def M5:=Y9.addL [(190,Yh),(191,Yi)]
theorem Ex:zy M5:=wb.addL<|fc Vu<|fc Vv<|iM
end
abbrev znb:Nat->aO:=λ_=>{ }
theorem zj4:zL (M5).P 143 Tryz.f143 1:=bS kw
theorem zmy(x0:Sem zl):rn M5 0 znb Tryz.f143 [zH zl x0] []=Qc (uS (DK x0)) (br (!fh (DK x0)) (Tr.ok (zE.ret (tup [str [],ai 1]) [])) (Qc (C4 (DK x0)) (Qc (Rj (iJ (DK x0))) (br ((cut (iJ (DK x0))).2!=0) (Tr.ok (zE.ret (tup [str [],ai 1]) [])) (Tr.ok (zE.ret (tup [str (iJ (DK x0)),ai 0]) [])))))):=kw
noncomputable def pH(x0:Sem zl):Sem Q6×Sem zg:=(if(!fh x0)=Q3 then([],1)else if((cut (iJ x0)).2!=0)=Q3 then([],1)else(iJ x0,0))
noncomputable def uX(x0:Sem zl):Bool:=(if uS x0=Q3 then if(!fh x0)=Q3 then Q3 else if C4 x0=Q3 then if Rj (iJ x0)=Q3 then Q3 else Q4 else Q4 else Q4)
noncomputable def F52:ac:=zV [zl] [Q6,zg] (λx=>uX x.1) λx=>((pH x.1).1,(pH x.1).2,())
theorem zgB:FK 143 F52:=by
 refine aM (zj4) λx hc C hC=>?_
 unfold uX at hc;refine zF Ex (zj4) (λid _=>hC id) (zmy x.1) ?_;generalize hy:pH x.1=y;unfold pH at hy
 try simp only[Nd]
 repeat' (first|with_reducible refine uh hy hc (λ_ hy hc=>?_) (λ_ hy hc=>?_)|with_reducible refine di hy (λ_ hy=>?_) (λ_ hy=>?_)|with_reducible refine iB hc (λhc=>?_)|with_reducible refine zN ?_)
 all_goals first|(cases hc;done)|(subst hy;first|rfl)
noncomputable def M6:=M5.add 143 F52
theorem Ey:zy M6:=Ex.add zgB
abbrev zna:Nat->aO:=λ_=>{ }
theorem zjL:zL (M6).P 98 Tryz.f98 1:=bS kw
theorem zmg(x0:Sem zl):rn M6 0 zna Tryz.f98 [zH zl x0] []=Qc (uX (DK x0)) (Tr.ok (zE.ret (AV.bool ((pH (DK x0)).2==0)) [])):=kw
noncomputable def dZ(x0:Sem zl):Sem Q7:=((pH x0).2==0)
noncomputable def nY(x0:Sem zl):Bool:=(if uX x0=Q3 then Q3 else Q4)
noncomputable def F31:ac:=zV [zl] [Q7] (λx=>nY x.1) λx=>(dZ x.1,())
theorem zgi:FK 98 F31:=by
 refine aM (zjL) λx hc C hC=>?_
 unfold nY at hc;refine zF Ey (zjL) (λid _=>hC id) (zmg x.1) ?_;generalize hy:dZ x.1=y;unfold dZ at hy
 try simp only[Nd]
 repeat' (first|with_reducible refine uh hy hc (λ_ hy hc=>?_) (λ_ hy hc=>?_)|with_reducible refine di hy (λ_ hy=>?_) (λ_ hy=>?_)|with_reducible refine iB hc (λhc=>?_)|with_reducible refine zN ?_)
 all_goals first|(cases hc;done)|(subst hy;first|rfl)
noncomputable def oq:=M6.add 98 F31
theorem jb:zy oq:=Ey.add zgi
noncomputable def zf5:ac:=bm (List.replicate 2 Q2) (fk oq Tryz.f197 (List.replicate 2 Q2))
theorem zb3:FK 197 zf5:=ce _ jb (bS kw)
abbrev ziP:Nat->aO:=λ_=>{ }
theorem Z0:zL (oq).P 38 Tryz.f38 1:=bS kw
theorem zhP(x0:TS):rn oq 0 ziP Tryz.f38 [zH Q6 x0] []=br (Q0 ((↑(length x0):Int)>20)) (Qc (Q0 (0<=0)&&Q0 (0<=20)&&Q0 (20<=(↑(length x0):Int))) (Tr.ok (zE.ret (str (Qg (toNat 20-toNat 0) (Qh (toNat 0) x0))) []))) (Tr.ok (zE.ret (str x0) [])):=kw
def cZ(x0:TS):Sem Q6:=(if Q0 ((↑(length x0):Int)>20)=Q3 then Qg (toNat 20-toNat 0) (Qh (toNat 0) x0)else x0)
def fm(x0:TS):Bool:=(if Q0 ((↑(length x0):Int)>20)=Q3 then if(Q0 (0<=0)&&Q0 (0<=20)&&Q0 (20<=(↑(length x0):Int)))=Q3 then Q3 else Q4 else Q3)
def ze0:ac:=zV [Q6] [Q6] (λx=>fm x.1) λx=>(cZ x.1,())
theorem zaS:FK 38 ze0:=by
 refine aM (Z0) λx hc C hC=>?_
 unfold fm at hc;refine zF jb (Z0) (λid _=>hC id) (zhP x.1) ?_;generalize hy:cZ x.1=y;unfold cZ at hy
 try simp only[zf.eta]
 repeat' (first|with_reducible refine uh hy hc (λ_ hy hc=>?_) (λ_ hy hc=>?_)|with_reducible refine di hy (λ_ hy=>?_) (λ_ hy=>?_)|with_reducible refine iB hc (λhc=>?_)|with_reducible refine zN ?_)
 all_goals first|(cases hc;done)|(subst hy;first|rfl)
abbrev zdq:Nat->aO:=λ_=>{ }
theorem Ty:zL (oq).P 68 Tryz.f68 3:=bS kw
theorem zcM(x0:Sem ze.sl)(x1:Sem zg)(x2:Sem ze):rn oq 0 zdq Tryz.f68 [zH ze.sl x0,zH zg x1,zH ze x2] []=Qc (bif Q0 (x1>=0)then bif Q0 (x1<(↑(length x0):Int))then zK x1 (length x0)else Q3 else Q3) (Tr.ok (zE.ret (AV.bool (bif Q0 (x1>=0)then bif Q0 (x1<(↑(length x0):Int))then(getD x0 (toNat x1) (zi ze)).1==x2.1&&((getD x0 (toNat x1) (zi ze)).2.1==x2.2.1&&((getD x0 (toNat x1) (zi ze)).2.2==x2.2.2&&Q3))else Q4 else Q4)) [])):=kw
def bz(x0:Sem ze.sl)(x1:Sem zg)(x2:Sem ze):Sem Q7:=(bif Q0 (x1>=0)then bif Q0 (x1<(↑(length x0):Int))then(getD x0 (toNat x1) (zi ze)).1==x2.1&&((getD x0 (toNat x1) (zi ze)).2.1==x2.2.1&&((getD x0 (toNat x1) (zi ze)).2.2==x2.2.2&&Q3))else Q4 else Q4)
def Ap(x0:Sem ze.sl)(x1:Sem zg)(_:Sem ze):Bool:=(if(bif Q0 (x1>=0)then bif Q0 (x1<(↑(length x0):Int))then zK x1 (length x0)else Q3 else Q3)=Q3 then Q3 else Q4)
def YJ:ac:=zV [ze.sl,zg,ze] [Q7] (λx=>Ap x.1 x.2.1 x.2.2.1) λx=>(bz x.1 x.2.1 x.2.2.1,())
theorem MK:FK 68 YJ:=by
 refine aM (Ty) λx hc C hC=>?_
 unfold Ap at hc;refine zF jb (Ty) (λid _=>hC id) (zcM x.1 x.2.1 x.2.2.1) ?_;generalize hy:bz x.1 x.2.1 x.2.2.1=y;unfold bz at hy
 try simp only[zf.eta]
 repeat' (first|with_reducible refine uh hy hc (λ_ hy hc=>?_) (λ_ hy hc=>?_)|with_reducible refine di hy (λ_ hy=>?_) (λ_ hy=>?_)|with_reducible refine iB hc (λhc=>?_)|with_reducible refine zN ?_)
 all_goals first|(cases hc;done)|(subst hy;first|rfl)
abbrev ZN:Nat->aO:=λj=>if j=2 then{slots:=[0,1,5]}else{ }
abbrev CY(l0:List (Sem zh))(s1:TS)(i5:Int):St:={tmps:=(tm 21 [(0,sl zh l0),(1,str s1),(5,ai i5)]),heap:=[]}
theorem Nw:zL (oq).P 45 Tryz.f45 2:=bS kw
theorem zhN(x0:Sem zh.sl)(x1:TS):rn oq 0 ZN Tryz.f45 [zH zh.sl x0,zH Q6 x1] []=Tr.ok (zE.head 2 (ag Tryz.f45 2) (CY x0 x1 0)):=kw
theorem NB(l0:List (Sem zh))(s1:TS)(i5:Int):rh oq 0 ZN Tryz.f45 2 (CY l0 s1 i5)=br (Q0 (i5<(↑l0.length:Int))) (Qc (zK i5 l0.length) (br ((l0.getD i5.toNat (zi zh)).1.1==s1) (Tr.ok (zE.ret (ai i5) [])) (Tr.ok (zE.head 2 (ag Tryz.f45 2) (CY l0 s1 (IntKind.i64.wrap (i5+1))))))) (Tr.ok (zE.ret (ai (-1)) [])):=kw
def gC(s1:TS):List
 (Sem zh)->Int->Sem zg
 |[],_=>(-1)
 |x::r,i5=>(if(x.1.1==s1)=Q3 then i5 else gC s1 r (i5+1))
theorem Wh{C:eV}(hC:∀id,C.ρ0 id=Q2)(s1:TS)(l0:List
 (Sem zh)) (hl:l0.length<=aH):∀(m i:Nat),l0.length-i=m->i<=l0.length->
  Reach (oq) C 45 (ag Tryz.f45 2) (CY l0 s1 (i:Int)) (λr h=>aL h [zg] r=Q1 (gC s1 (l0.drop i) i,())):=by
 intro m
 induction m with
 | zero=>
  intro i hm hi;obtain rfl:i=l0.length:=by omega
  rw[jw];refine zF jb (Nw) (λid _=>hC id) (NB _ _ _) ?_;generalize hy:gC s1 [] _=y;rw[gC]at hy;simp only[zA,Tr.val_brF];repeat' (first|with_reducible refine di hy (λ_ hy=>?_) (λ_ hy=>?_)|with_reducible refine zN ?_)
  all_goals first|(cases hc;done)|(subst hy;first|rfl)
 | succ m IH=>
  intro i hm hi;have hlt:i<l0.length:=by omega
  have IH:=IH (i+1);have hcast:((i:Int)+1)=((i+1:Nat):Int):=by omega
  have hwr:=zp i ow;rw[eY hlt];refine zF jb (Nw) (λid _=>hC id) (NB _ _ _) ?_;generalize hy:gC s1 (l0[i]::l0.drop (i+1)) (i:Int)=y;rw[gC]at hy;simp only[zC hlt,zt hlt,cF l0 _ hlt,hwr,Tr.val_brT,Tr.val_chkT];clear hwr
  try simp only[zt hlt]at hy
  simp only[hcast]at hy;repeat' (first|with_reducible refine di hy (λ_ hy=>?_) (λ_ hy=>?_)|with_reducible refine zN ?_)
  all_goals first|(cases hc;done)|(subst hy;first|(change Reach _ _ _ _ _ _;apply IH<;>first|omega|assumption)|rfl)
theorem QV{C:eV}(hC:∀id,C.ρ0 id=Q2)(s1:TS)(l0:List
 (Sem zh)):
  Reach (oq) C 45 (ag Tryz.f45 2) (CY l0 s1 0) (λr h=>aL h [zg] r=Q1 (gC s1 l0 0,())):=
 Reach.len 0 zh l0 rfl λhl=>Wh hC s1 l0 hl _ 0 rfl (be _)
def lc(x0:Sem zh.sl)(x1:TS):Sem zg:=(gC x1 x0 0)
def zeI:ac:=aF [zh.sl,Q6] [zg] λx=>(lc x.1 x.2.1,())
theorem zaA:FK 45 zeI:=by
 refine af (Nw) λx C hC=>?_
 refine zF jb (Nw) (λid _=>hC id) (zhN x.1 x.2.1) ?_;generalize hy:lc x.1 x.2.1=y;unfold lc at hy
 try simp only[zf.eta]
 repeat' (first|with_reducible refine di hy (λ_ hy=>?_) (λ_ hy=>?_)|with_reducible refine zN ?_)
 all_goals first|(cases hc;done)|(subst hy;first|(change Reach _ _ _ _ _ _;apply QV hC<;>first|assumption|exact hc)|rfl)
noncomputable def rJ:=oq.addL [(197,zf5),(38,ze0),(68,YJ),(45,zeI)]
theorem kk:zy rJ:=jb.addL<|fc zb3<|fc zaS<|fc MK<|fc zaA iM
theorem Hs(x:Sem (Sh.sl ze))(c:Int)(v:Sem ze):Ap x c v=Q3:=by
 unfold Ap;by_cases h1:(c:Int)>=0
 ·by_cases h2:c<(length x:Int)
  ·have h3:zK c (length x)=Q3:=by simp[zK];exact⟨h1,h2⟩
   simp[zx h1,zx h2,h3]
  ·simp[zx h1,aj h2]
 ·simp[aj h1]
def YK:ac:=aF [Sh.sl ze,zg,ze] [Q7] λx=>(bz x.1 x.2.1 x.2.2.1,())
theorem VW:FK 68 YK:=nc MK λx=>Hs x.1 x.2.1 x.2.2.1
abbrev ZO:Nat->aO:=λj=>if j=3 then{slots:=[0,3,4],prom:=[(3,Q2,.str)]}else{ }
abbrev CZ(l0:LS)(i4:Int)(lh_0:LS):St:={tmps:=(tm 24 [(0,sl Q6 l0),(3,AV.vec 0),(4,ai i4)]),heap:=[AO.vec Q6 lh_0]}
theorem Nx:zL (rJ).P 39 Tryz.f39 1:=bS kw
theorem zhQ(x0:Sem Sh.str.sl):rn rJ 0 ZO Tryz.f39 [zH Sh.str.sl x0] []=Tr.ok (zE.head 3 (ag Tryz.f39 3) (CZ x0 0 [])):=kw
theorem NC(l0:LS)(i4:Int)(lh_0:LS):rh rJ 0 ZO Tryz.f39 3 (CZ l0 i4 lh_0)=br (bif Q0 (i4<(↑l0.length:Int))then Q0 (i4<10)else Q4) (Qc (zK i4 l0.length) (Qc (fm (l0.getD i4.toNat (zi Q6))) (Qc (Q0 (lh_0.length+[cZ (l0.getD i4.toNat (zi Q6))].length<=1073741824)) (Tr.ok (zE.head 3 (ag Tryz.f39 3) (CZ l0 (IntKind.i64.wrap (i4+1)) (lh_0++[cZ (l0.getD i4.toNat (zi Q6))]))))))) (Tr.ok (zE.ret (AV.vec 0) [AO.vec Q6 lh_0])):=kw
def eA:List (Sem Q6)->Int->List (Sem Q6)->Sem Sh.str.sl
 |[],_,lh_0=>(lh_0)
 |x::r,i4,lh_0=>(if Q0 (i4<10)=Q3 then eA r (i4+1) (lh_0++[cZ x])else lh_0)
def fF:List (Sem Q6)->Int->List (Sem Q6)->Bool
 |[],_,_=>(Q3)
 |x::r,i4,lh_0=>(if Q0 (i4<10)=Q3 then
 if fm x=Q3 then if Q0 (lh_0.length+[cZ x].length<=1073741824)=Q3 then fF r (i4+1) (lh_0++[cZ x])else Q4 else Q4
else Q3)
theorem Wi{C:eV}(hC:∀id,C.ρ0 id=Q2)(l0:LS)(hl:l0.length<=aH):∀(m i:Nat)(lh_0:LS),l0.length-i=m->i<=l0.length->fF (l0.drop i) i lh_0=Q3->
  Reach (rJ) C 39 (ag Tryz.f39 3) (CZ l0 (i:Int) lh_0) (λr h=>aL h [Sh.str.sl] r=Q1 (eA (l0.drop i) i lh_0,())):=by
 intro m
 induction m with
 | zero=>
  intro i lh_0 hm hi hc;obtain rfl:i=l0.length:=by omega
  rw[jw]at hc⊢;refine zF kk (Nx) (λid _=>hC id) (NC _ _ _) ?_;rw[fF]at hc;generalize hy:eA [] _ lh_0=y;rw[eA]at hy;simp only[zA,ar,Tr.val_brF];repeat' (first|with_reducible refine uh hy hc (λ_ hy hc=>?_) (λ_ hy hc=>?_)|with_reducible refine di hy (λ_ hy=>?_) (λ_ hy=>?_)|with_reducible refine iB hc (λhc=>?_)|with_reducible refine zN ?_)
  all_goals first|(cases hc;done)|(subst hy;first|rfl)
 | succ m IH=>
  intro i lh_0 hm hi hc;have hlt:i<l0.length:=by omega
  have IH:=IH (i+1);have hcast:((i:Int)+1)=((i+1:Nat):Int):=by omega
  have hwr:=zp i ow;rw[eY hlt]at hc⊢;refine zF kk (Nx) (λid _=>hC id) (NC _ _ _) ?_;rw[fF]at hc;generalize hy:eA (l0[i]::l0.drop (i+1)) (i:Int) lh_0=y;rw[eA]at hy;simp only[zC hlt,zt hlt,cF l0 _ hlt,hwr,ae];clear hwr
  try simp only[zt hlt]at hy
  simp only[hcast]at hy
  try simp only[zt hlt]at hc
  try simp only[hcast]at hc
  repeat' (first|with_reducible refine uh hy hc (λ_ hy hc=>?_) (λ_ hy hc=>?_)|with_reducible refine di hy (λ_ hy=>?_) (λ_ hy=>?_)|with_reducible refine iB hc (λhc=>?_)|with_reducible refine zN ?_)
  all_goals first|(cases hc;done)|(subst hy;first|(change Reach _ _ _ _ _ _;apply IH<;>first|omega|assumption)|rfl)
theorem QW{C:eV}(hC:∀id,C.ρ0 id=Q2)(l0:LS)(lh_0:LS)(hc:fF l0 0 lh_0=Q3):
  Reach (rJ) C 39 (ag Tryz.f39 3) (CZ l0 0 lh_0) (λr h=>aL h [Sh.str.sl] r=Q1 (eA l0 0 lh_0,())):=
 Reach.len 0 (Q6) l0 rfl λhl=>Wi hC l0 hl _ 0 lh_0 rfl (be _) hc
def j5(x0:Sem Sh.str.sl):Sem Sh.str.sl:=(eA x0 0 [])
def pk(x0:Sem Sh.str.sl):Bool:=(fF x0 0 [])
def ze3:ac:=zV [Sh.str.sl] [Sh.str.sl] (λx=>pk x.1) λx=>(j5 x.1,())
theorem zaV:FK 39 ze3:=by
 refine aM (Nx) λx hc C hC=>?_
 unfold pk at hc;refine zF kk (Nx) (λid _=>hC id) (zhQ x.1) ?_;generalize hy:j5 x.1=y;unfold j5 at hy
 try simp only[zf.eta]
 repeat' (first|with_reducible refine uh hy hc (λ_ hy hc=>?_) (λ_ hy hc=>?_)|with_reducible refine di hy (λ_ hy=>?_) (λ_ hy=>?_)|with_reducible refine iB hc (λhc=>?_)|with_reducible refine zN ?_)
 all_goals first|(cases hc;done)|(subst hy;first|(change Reach _ _ _ _ _ _;apply QW hC<;>first|assumption|exact hc)|rfl)
abbrev At(s:zD)(l:List (Sem zh))(i:Int):St:={tmps:=[.sl zh l,.clo (.func 197) [] [.ptr 0 0],.any,.any,.any,.any,.any,.int .i64 l.length,.int .i64 i,.any,.any,.any,.any,.any,.any,.any,.any,.any,.any],heap:=[.box [.str s]]}
theorem Sf(s:zD)(l:List (Sem zh)):run rJ 1 yo Tryz.f196.results.toList 300 (bx Tryz.f196) (bg Tryz.f196.ntmps [.sl zh l,.clo (.func 197) [] [.ptr 0 0]] [.box [.str s]])=.ok (.head 2 (ag Tryz.f196 2) (At s l 0)):=kw
theorem TM(s:zD)(l:List (Sem zh))(i:Int):run rJ 1 yo Tryz.f196.results.toList 300 (ag Tryz.f196 2) (At s l i)=nF (K:=ag Tryz.f196 2) (e:=zh) l (λx=>x.1.1==s) (At s l) [.box [.str s]] i:=kw
theorem TF:zL rJ.P 196 Tryz.f196 2:=bS kw
def zhl:il [Q1 (.sl zh),Q2]:=λx h=>match x,h with
 |(l,.clo (.func 197) [] [.ptr 0 0],_),[.box [.str s]]=>.ok (.int .i64 (zW (λx=>x.1.1==s) l 0),[.box [.str s]])
 |_,_=>.err
def zf4:ac:=bm [Q1 (.sl zh),Q2] zhl
theorem zb1:FK 196 zf4:=by
 refine dv TF λx h0 res hx C hC=>?_
 unfold zhl at hx;split at hx
 ·rename_i l u s;simp only[Tr.val_ok,bD]at hx;subst hx;refine Reach.len 0 zh l rfl λhl=>?_
  refine zF (n0:=1) kk TF hC (Sf s l) ?_;exact kv l (λx=>x.1.1==s) (At s l) kk TF hC (TM s l) hl _ 0 rfl (be _)
 ·simp at hx
noncomputable def IQ:=rJ.addL [(68,YK),(39,ze3),(196,zf4)]
theorem wc:zy IQ:=kk.addL<|fc VW<|fc zaV<|fc zb1 iM
noncomputable def YI:ac:=bm (List.replicate 3 Q2) (fk IQ Tryz.f246 (List.replicate 3 Q2))
theorem VV:FK 246 YI:=ce _ wc (bS kw)
abbrev zi5:Nat->aO:=λ_=>{ }
theorem Z3:zL (IQ).P 147 Tryz.f147 2:=bS kw
theorem zh0(x0:Sem zh.sl)(x1:TS):rn IQ 0 zi5 Tryz.f147 [zH zh.sl x0,zH Q6 x1] []=Tr.ok (zE.ret (ai (zW (λx=>x.1.1==x1) x0 0)) []):=kw
def zX(x0:Sem zh.sl)(x1:TS):Sem zg:=(zW (λx=>x.1.1==x1) x0 0)
def zfx:ac:=aF [zh.sl,Q6] [zg] λx=>(zX x.1 x.2.1,())
theorem zbr:FK 147 zfx:=by
 refine af (Z3) λx C hC=>?_
 refine zF wc (Z3) (λid _=>hC id) (zh0 x.1 x.2.1) ?_;generalize hy:zX x.1 x.2.1=y;unfold zX at hy
 try simp only[zf.eta]
 repeat' (first|with_reducible refine di hy (λ_ hy=>?_) (λ_ hy=>?_)|with_reducible refine zN ?_)
 all_goals first|(cases hc;done)|(subst hy;first|rfl)
noncomputable def IR:=IQ.addL [(246,YI),(147,zfx)]
theorem we:zy IR:=wc.addL<|fc VV<|fc zbr iM
abbrev qY(c a b:Int)(s:zD)(l:List (Sem (Sh.sl ze)))(i:Int):St:={tmps:=[.sl (Sh.sl ze) l,.clo (.func 246) [] [.ptr 0 0,.ptr 1 0],.any,.any,.any,.any,.any,.int .i64 l.length,.int .i64 i,.any,.any,.any,.any,.any,.any,.any,.any,.any,.any],heap:=[.box [.int .i64 c],.box [.int .i64 a,.int .i64 b,.str s]]}
theorem Lm(c a b:Int)(s:zD)(l:List (Sem (Sh.sl ze))):run IR 2 yo Tryz.f66.results.toList 300 (bx Tryz.f66) (bg Tryz.f66.ntmps [.sl (Sh.sl ze) l,.clo (.func 246) [] [.ptr 0 0,.ptr 1 0]] [.box [.int .i64 c],.box [.int .i64 a,.int .i64 b,.str s]])=.ok (.head 2 (ag Tryz.f66 2) (qY c a b s l 0)):=kw
theorem LP(c a b:Int)(s:zD)(l:List (Sem (Sh.sl ze)))(i:Int):run IR 2 yo Tryz.f66.results.toList 300 (ag Tryz.f66 2) (qY c a b s l i)=nF (K:=ag Tryz.f66 2) (e:=(Sh.sl ze)) l (λx=>bz x c (a,b,s)) (qY c a b s l) [.box [.int .i64 c],.box [.int .i64 a,.int .i64 b,.str s]] i:=kw
theorem LN:zL IR.P 66 Tryz.f66 2:=bS kw
def YW:il [Q1 (.sl (Sh.sl ze)),Q2]:=λx h=>match x,h with
 |(l,.clo (.func 246) [] [.ptr 0 0,.ptr 1 0],_),[.box [.int .i64 c],.box [.int .i64 a,.int .i64 b,.str s]]=>.ok (.int .i64 (zW (λx=>bz x c (a,b,s)) l 0),[.box [.int .i64 c],.box [.int .i64 a,.int .i64 b,.str s]])
 |_,_=>.err
def YP:ac:=bm [Q1 (.sl (Sh.sl ze)),Q2] YW
theorem V0:FK 66 YP:=by
 refine dv LN λx h0 res hx C hC=>?_
 unfold YW at hx;split at hx
 ·rename_i l u c a b s;simp only[Tr.val_ok,bD]at hx;subst hx;refine Reach.len 0 (Sh.sl ze) l rfl λhl=>?_
  refine zF (n0:=2) we LN hC (Lm c a b s l) ?_;exact kv l (λx=>bz x c (a,b,s)) (qY c a b s l) we LN hC (LP c a b s l) hl _ 0 rfl (be _)
 ·simp at hx
noncomputable def RQ:=IR.add 66 YP
theorem Ez:zy RQ:=we.add V0
noncomputable def YH:ac:=bm (List.replicate 2 Q2) (fk RQ Tryz.f245 (List.replicate 2 Q2))
theorem VU:FK 245 YH:=ce _ Ez (bS kw)
noncomputable def M7:=RQ.add 245 YH
theorem wg:zy M7:=Ez.add VU
noncomputable section
abbrev zdi:Nat->aO:=λ_=>{ }
theorem Tv:zL (M7).P 195 Tryz.f195 3:=bS kw
theorem zcH(x0:Sem zh)(x1:Sem zg)(x2:Sem ze):rn M7 0 zdi Tryz.f195 [zH zh x0,zH zg x1,zH ze x2] []=Tr.ok (zE.ret (AV.bool (Q0 (zW (λx=>bz x x1 x2) x0.2 0>=0))) []):=kw
def gT(x0:Sem zh)(x1:Sem zg)(x2:Sem ze):Sem Q7:=(Q0 (zW (λx=>bz x x1 x2) x0.2 0>=0))
def Yk:ac:=aF [zh,zg,ze] [Q7] λx=>(gT x.1 x.2.1 x.2.2.1,())
theorem Vx:FK 195 Yk:=by
 refine af (Tv) λx C hC=>?_
 refine zF wg (Tv) (λid _=>hC id) (zcH x.1 x.2.1 x.2.2.1) ?_;generalize hy:gT x.1 x.2.1 x.2.2.1=y;unfold gT at hy
 try simp only[zf.eta]
 repeat' (first|with_reducible refine di hy (λ_ hy=>?_) (λ_ hy=>?_)|with_reducible refine zN ?_)
 all_goals first|(cases hc;done)|(subst hy;first|rfl)
abbrev zdh:=lx [(3,[1,5,11,12,13])]
inductive D1 where
 |h3 (i1:Sem zg) (l11:List (Sem ze.sl)) (i12:Int) (i13:Int) (mh_0:List ((Int×Int×zD)×Int))
abbrev zhx:D1->Nat×St
 |.h3 i1 l11 i12 i13 mh_0=>(3,⟨tm 37 [(1,ai i1),(5,AV.mp 0),(11,sl ze.sl l11),(12,ai i12),(13,ai i13)],[AO.vmap Q4 mh_0]⟩)
def Zw(x0:Sem zh)(x1:Sem zg):Tr (D1⊕aw):=Q9 (D1.h3 x1 x0.2 (↑(length x0.2):Int) 0 [])
def ye:D1->Tr (D1⊕aw)
 | .h3 i1 l11 i12 i13 mh_0=>
  let a0:=l11.getD i13.toNat (zi ze.sl)
  let a1:=getD a0 (toNat i1) (zi ze)
  let a2:=(↑(lv mh_0 a1):Int)
  let a3:=jM mh_0 a1
  let a4:=jV a3 a2.toNat (IntKind.i64.wrap (gu mh_0 a1+1))
  let a5:=gu a4 a1
  br (Q0 (i13<i12))
  (Qc (zK i13 l11.length)
   (Qc (zK i1 (length a0)) (Qc (Q0 (mh_0.length<=1073741824)) (Qc (zK a2 a3.length) (br (bif a1.1!=0 then Q0 (a5>1)else Q4) (re (kb Q3) []) (Q9 (D1.h3 i1 l11 i12 (IntKind.i64.wrap (i13+1)) a4)))))))
  (re (kb Q4) [])
def Aq(x0:Sem zh)(x1:Sem zg):=al [Q7] ye 100000000 (Zw x0 x1)
def qU(x0:Sem zh)(x1:Sem zg):=(Aq x0 x1).isSome
def wS(x0:Sem zh)(x1:Sem zg):=o1 (Aq x0 x1)
def Yj:=FT [zh,zg] [Q7] λx=>Aq x.1 x.2.1
theorem Vw:FK 194 Yj:=wg.T1 (f:=Tryz.f194) (keep:=zdh) (e:=zhx)
def Za:=M7.addL [(195,Yk),(194,Yj)]
theorem wh:zy Za:=wg.addL<|fc Vx<|fc Vw iM
end
noncomputable section
abbrev zjh:=lx [(6,[1,18,19,20]),(15,[1,39,40,41]),(21,[1,8])]
inductive DG where
 |h6 (l18:List (Sem ze.sl)) (i19:Int) (i20:Int) (z0:zm [CP.d zh])
 |h15 (l39:LI) (i40:Int) (i41:Int) (z0:zm [CP.d zh])
 |h21 (i8:Int) (z0:zm [CP.d zh])
abbrev zlR:DG->Nat×St
 |.h6 l18 i19 i20 z0=>(6,⟨tm 79 [(1,ptr 0 0),(18,sl ze.sl l18),(19,ai i19),(20,ai i20)],[Qa (bv [] [CP.d zh] z0)]⟩)
 |.h15 l39 i40 i41 z0=>(15,⟨tm 79 [(1,ptr 0 0),(39,sl zg l39),(40,ai i40),(41,ai i41)],[Qa (bv [] [CP.d zh] z0)]⟩)
 |.h21 i8 z0=>(21,⟨tm 79 [(1,ptr 0 0),(8,ai i8)],[Qa (bv [] [CP.d zh] z0)]⟩)
def Pm(x0:Sem zh):Tr (DG⊕aw):=br (!eD (x0.1.1,x0.1.2.1,x0.1.2.2.1,x0.1.2.2.2.1,x0.1.t.1,zn x0.1.t.2)) (re (ai 1) []) (br (Q0 ((↑(length x0.2):Int)>200)) (re (ai 13) []) (Q9 (DG.h6 x0.2 (↑(length x0.2):Int) 0 (x0,()))))
def ij:DG->Tr (DG⊕aw)
 | .h6 l18 i19 i20 z0=>
  let a0:=(z0.1.1.1,z0.1.1.2.1,z0.1.1.2.2.1,z0.1.1.2.2.2.1,z0.1.1.t.1,zn z0.1.1.t.2)
  let a1:=eb a0 (l18.getD i20.toNat (zi ze.sl))
  let a2:=(a0,z0.1.2)
  br (Q0 (i20<i19))
  (Qc (zK i20 l18.length) (br (a1 !=0) (re (ai a1) []) (Q9 (DG.h6 l18 i19 (IntKind.i64.wrap (i20+1)) z0))))
  (Qc (qU a2 z0.1.1.2.2.1)
   (br (wS a2 z0.1.1.2.2.1) (re (ai 7) []) (Q9 (DG.h15 z0.1.1.2.2.2.1 (↑(length z0.1.1.2.2.2.1):Int) 0 z0))))
 | .h15 l39 i40 i41 z0=>
  let a0:=((z0.1.1.1,z0.1.1.2.1,z0.1.1.2.2.1,z0.1.1.2.2.2.1,z0.1.1.t.1,zn z0.1.1.t.2),z0.1.2)
  let a1:=l39.getD i41.toNat (zi zg)
  br (Q0 (i41<i40))
  (Qc (zK i41 l39.length)
   (Qc (qU a0 a1) (br (wS a0 a1) (re (ai 7) []) (Q9 (DG.h15 l39 i40 (IntKind.i64.wrap (i41+1)) z0)))))
  (Q9 (DG.h21 1 z0))
 | .h21 i8 z0=>
  let a0:=(↑(length z0.1.2):Int)
  let a1:=IntKind.i64.wrap (i8-1)
  let a2:=getD z0.1.2 a1.toNat (zi ze.sl)
  let a3:=getD z0.1.2 i8.toNat (zi ze.sl)
  let a4:=bj (getD a2 (toNat z0.1.1.2.2.1) (zi ze)) (getD a3 (toNat z0.1.1.2.2.1) (zi ze))
  br (Q0 (i8<a0))
  (Qc (zK a1 (length z0.1.2))
   (Qc (zK z0.1.1.2.2.1 (length a2)) (Qc (zK i8 (length z0.1.2)) (Qc (zK z0.1.1.2.2.1 (length a3)) (br (Q0 (a4>=0)) (re (ai 15) []) (Q9 (DG.h21 (IntKind.i64.wrap (i8+1)) z0)))))))
  (re (ai 0) [])
def nU(x0:Sem zh):=al [zg] ij 100000000 (Pm x0)
def Hq(x0:Sem zh):=(nU x0).isSome
def Mj(x0:Sem zh):=o1 (nU x0)
def zfP:=FT [zh] [zg] λx=>nU x.1
theorem zbM:FK 144 zfP:=wh.T1 (f:=Tryz.f144) (keep:=zjh) (e:=zlR)
abbrev zji:=lx [(2,[0,11,12,13]),(5,[0,4,11,12,13,19,20,21]),(11,[0,4,6,7,11,12,13,19,20,21,32,33,34])]
inductive DH where
 |h2 (l0:List (Sem zh)) (l11:List (Sem zh)) (i12:Int) (i13:Int)
 |h5 (l0:List (Sem zh)) (l11:List (Sem zh)) (i12:Int) (i13:Int) (l19:LF) (i20:Int) (i21:Int) (z0:zm [CP.d zh])
 |h11 (l0:List (Sem zh)) (i7:Sem zg) (l11:List (Sem zh)) (i12:Int) (i13:Int) (l19:LF) (i20:Int) (i21:Int) (l32:List (Sem ze.sl)) (i33:Int) (i34:Int) (z0:zm [CP.d zh]) (z1:zm [CP.d zu])
abbrev zlS:DH->Nat×St
 |.h2 l0 l11 i12 i13=>(2,⟨tm 64 [(0,sl zh l0),(11,sl zh l11),(12,ai i12),(13,ai i13)],[]⟩)
 |.h5 l0 l11 i12 i13 l19 i20 i21 z0=>(5,⟨tm 64 [(0,sl zh l0),(4,ptr 0 0),(11,sl zh l11),(12,ai i12),(13,ai i13),(19,sl zu l19),(20,ai i20),(21,ai i21)],[Qa (bv [] [CP.d zh] z0)]⟩)
 |.h11 l0 i7 l11 i12 i13 l19 i20 i21 l32 i33 i34 z0 z1=>(11,⟨tm 64 [(0,sl zh l0),(4,ptr 0 0),(6,ptr 1 0),(7,ai i7),(11,sl zh l11),(12,ai i12),(13,ai i13),(19,sl zu l19),(20,ai i20),(21,ai i21),(32,sl ze.sl l32),(33,ai i33),(34,ai i34)],[Qa (bv [] [CP.d zh] z0),Qa (bv [] [CP.d zu] z1)]⟩)
def ziw(x0:Sem zh.sl):Tr (DH⊕aw):=Q9 (DH.h2 x0 x0 (↑(length x0):Int) 0)
def gE:DH->Tr (DH⊕aw)
 | .h2 l0 l11 i12 i13=>
  let a0:=l11.getD i13.toNat (zi zh)
  br (Q0 (i13<i12))
  (Qc (zK i13 l11.length) (Q9 (DH.h5 l0 l11 i12 i13 a0.1.t.1 (↑(length a0.1.t.1):Int) 0 (a0,()))))
  (re (kb Q3) [])
 | .h5 l0 l11 i12 i13 l19 i20 i21 z0=>
  let a0:=l19.getD i21.toNat (zi zu)
  let a1:=zX l0 a0.2
  br (Q0 (i21<i20))
  (Qc (zK i21 l19.length)
   (br (Q0 (a1<0)) (re (kb Q4) []) (Q9 (DH.h11 l0 a1 l11 i12 i13 l19 i20 i21 z0.1.2 (↑(length z0.1.2):Int) 0 z0 (a0,())))))
  (Q9 (DH.h2 l0 l11 i12 (IntKind.i64.wrap (i13+1))))
 | .h11 l0 i7 l11 i12 i13 l19 i20 i21 l32 i33 i34 z0 z1=>
  let a0:=l32.getD i34.toNat (zi ze.sl)
  let a1:=getD a0 (toNat z1.1.1) (zi ze)
  let a2:=a1.1!=0
  let a3:=l0.getD (toNat i7) (zi zh)
  br (Q0 (i34<i33))
  (Qc (zK i34 l32.length)
   (Qc (zK z1.1.1 (length a0)) (Qc (bif a2 then zK i7 l0.length&&zK i7 l0.length else Q3) (br (bif a2 then !gT ((a3.1.1,a3.1.2.1,a3.1.2.2.1,a3.1.2.2.2.1,a3.1.t.1,zn a3.1.t.2),a3.2) a3.1.2.2.1 a1 else Q4) (re (kb Q4) []) (Q9 (DH.h11 l0 i7 l11 i12 i13 l19 i20 i21 l32 i33 (IntKind.i64.wrap (i34+1)) z0 z1))))))
  (Q9 (DH.h5 l0 l11 i12 i13 l19 i20 (IntKind.i64.wrap (i21+1)) z0))
def yB(x0:Sem zh.sl):=al [Q7] gE 100000000 (ziw x0)
def F0(x0:Sem zh.sl):=(yB x0).isSome
def KS(x0:Sem zh.sl):=o1 (yB x0)
def zfQ:=FT [zh.sl] [Q7] λx=>yB x.1
theorem zbN:FK 145 zfQ:=wh.T1 (f:=Tryz.f145) (keep:=zji) (e:=zlS)
def Zb:=Za.addL [(144,zfP),(145,zfQ)]
theorem EA:zy Zb:=wh.addL<|fc zbM<|fc zbN iM
end
noncomputable section
abbrev ziV:=lx [(4,[0,3]),(9,[0,30,31,32])]
inductive H9 where
 |h4 (l0:List (Sem zh)) (i3:Int)
 |h9 (l0:List (Sem zh)) (l30:List (Sem zh)) (i31:Int) (i32:Int)
abbrev zlD:H9->Nat×St
 |.h4 l0 i3=>(4,⟨tm 45 [(0,sl zh l0),(3,ai i3)],[]⟩)
 |.h9 l0 l30 i31 i32=>(9,⟨tm 45 [(0,sl zh l0),(30,sl zh l30),(31,ai i31),(32,ai i32)],[]⟩)
def WP(x0:Sem zh.sl):Tr (H9⊕aw):=br (Q0 ((↑(length x0):Int)>12)) (re (ai 13) []) (Q9 (H9.h4 x0 1))
def nZ:H9->Tr (H9⊕aw)
 | .h4 l0 i3=>
  let a0:=IntKind.i64.wrap (i3-1)
  let a1:=l0.getD a0.toNat (zi zh)
  let a2:=l0.getD i3.toNat (zi zh)
  br (Q0 (i3<(↑l0.length:Int)))
  (Qc (zK a0 l0.length)
   (Qc (zK i3 l0.length) (br (!Op.bytesLess a1.1.1 a2.1.1) (re (ai 15) []) (Q9 (H9.h4 l0 (IntKind.i64.wrap (i3+1)))))))
  (Q9 (H9.h9 l0 l0 (↑l0.length:Int) 0))
 | .h9 l0 l30 i31 i32=>
  let a0:=l30.getD i32.toNat (zi zh)
  let a1:=((a0.1.1,a0.1.2.1,a0.1.2.2.1,a0.1.2.2.2.1,a0.1.t.1,zn a0.1.t.2),a0.2)
  let a2:=Mj a1
  br (Q0 (i32<i31))
  (Qc (zK i32 l30.length)
   (Qc (Hq a1) (br (a2 !=0) (re (ai a2) []) (Q9 (H9.h9 l0 l30 i31 (IntKind.i64.wrap (i32+1)))))))
  (Qc (F0 l0) (br (!KS l0) (re (ai 10) []) (re (ai 0) [])))
def tt(x0:Sem zh.sl):=al [zg] nZ 100000000 (WP x0)
def nh(x0:Sem zh.sl):=(tt x0).isSome
def kC(x0:Sem zh.sl):=o1 (tt x0)
def zfh:=FT [zh.sl] [zg] λx=>tt x.1
theorem zbb:FK 99 zfh:=EA.T1 (f:=Tryz.f99) (keep:=ziV) (e:=zlD)
def gZ:=Zb.add 99 zfh
theorem dM:zy gZ:=EA.add zbb
end
end Cad
