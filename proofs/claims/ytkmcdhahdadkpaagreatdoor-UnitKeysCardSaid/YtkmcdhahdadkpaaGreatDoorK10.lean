/- slices.Clone: what it answers is memory of its own. schema.copied is its argument, of what is not too deep. Statements: words of columns, tokens. Statements: parts. -/
import Derived.Test.YtkmcdhahdadkpaaGreatDoorK09
import Derived.Test.YtkmcdhahdadkpaaGreatDoorK08
namespace Cad
open Go Go.Proofs
open List renaming drop→Qh,take→Qg
open Tr renaming chk→Qc,«to»→Q9
open AO renaming box→Qa
open Sh renaming bool→Q7,str→Q6,expr→Q5
open Bool renaming false→Q4,true→Q3
open Option renaming none→Q2,some→Q1
open Decidable renaming decide→Q0
open Int (toNat)
open List (getD length)
open Tr (chk br re)
open AV (nils agg tup ptr kb str sl)
theorem Reach.promNil{E:bX}{C:eS}{fn:FuncId}{todo:List Item}{st:St}(e:Sh)(hC:∀id,C.ρ0 id=Q2)(h:Reach E C fn todo st (λr h=>(r,h)=(.nils,[]))):Reach E C fn todo st (λr h=>(r,h)=(.vec 0,[.vec e []])):=by
 intro b cs a w U ρ h1 h2 hc hW;obtain⟨en,w',fr,⟨v,r,h',U',ρ',he,hq,hrv,hH,hnew,hr0,hWd⟩,hcm,hf,hl⟩:=h b cs a w U ρ h1 h2 hc hW;cases hq;cases hrv with
 |nils ad=>
 have hno:∀id o b,o=(AO.vec e []:AO)\/o=AO.dead->¬ag (λid=>if id=0 then Q1 (.slice ad 0 0)else Q2) id o b:=by
  rintro id o b ho ⟨h3,x,h4,h5⟩;rcases ho with rfl|rfl
  ·simp only at h4;split at h4
   ·cases h4;cases ad<;>simp[eO]at h5
   ·cases h4
  ·simp[AO.owns]at h3
 have hob:∀id,(([AO.vec e []]:List AO).getD id .dead)=(if id=0 then AO.vec e []else AO.dead):=by
  intro id;cases id<;>simp
 refine⟨en,w',fr,⟨_,_,_,U',λid=>if id=0 then Q1 (.slice ad 0 0)else Q2,he,rfl,.vec 0 _ sw (by simp[Value.oneCell']),⟨λid=>?_,λid1 id2 b o=>?_,λid b o=>?_⟩,λid hid=>?_,λid v hv=>?_,hWd⟩,hcm,hf,hl⟩
 ·show bx w' U' _ id (([AO.vec e []]:List AO).getD id .dead);rw[hob];split
  ·rename_i h0;subst h0;exact⟨ad,0,sw,sw,.inl ⟨rfl,rfl⟩⟩
  ·trivial
 ·exfalso;have o':ag (λid=>if id=0 then Q1 (.slice ad 0 0)else Q2) id1 (([AO.vec e []]:List AO).getD id1 .dead) b:=o;rw[hob]at o';split at o'
  ·exact hno _ _ _ (.inl rfl) o'
  ·exact hno _ _ _ (.inr rfl) o'
 ·exfalso;have o':ag (λid=>if id=0 then Q1 (.slice ad 0 0)else Q2) id (([AO.vec e []]:List AO).getD id .dead) b:=o;rw[hob]at o';split at o'
  ·exact hno _ _ _ (.inl rfl) o'
  ·exact hno _ _ _ (.inr rfl) o'
 ·simp at hid;simp;omega
 ·rw[hC id]at hv;cases hv
def dU:Tr zC->List Item×List Item×St
 |.ok (.fork _ k1 k2 st)=>(k1,k2,st)
 |_=>([],[],⟨[],[]⟩)
abbrev Wt:Nat->aN:=λ_=>{ }
noncomputable abbrev HZ(l:List zf):Tr zC:=run rm 0 Wt (Func.results Tryz.f146).toList 300 (bt Tryz.f146) (bc (Func.ntmps Tryz.f146) [.sl .expr l] [])
theorem WD:zJ rm.P 146 Tryz.f146 1:=bQ kw
theorem zlw(l:List zf):HZ l=.ok (.fork l.isEmpty (dU (HZ l)).1 (dU (HZ l)).2.1 (dU (HZ l)).2.2):=kw
theorem zjA(l:List zf):run rm 0 Wt (Func.results Tryz.f146).toList 300 (dU (HZ l)).1 (dU (HZ l)).2.2=.ok (.ret .nils []):=kw
theorem zjB(l:List zf):run rm 0 Wt (Func.results Tryz.f146).toList 300 (dU (HZ l)).2.1 (dU (HZ l)).2.2=.chk (Q0 (l.length<=1073741824)) (.ok (.ret (.vec 0) [.vec .expr l])):=kw
def G53:ic [Q1 (.sl .expr)]:=λx h=>match h with
 |[]=>.chk (Q0 (length x.1<=1073741824)) (.ok (.vec 0,[.vec .expr x.1]))
 |_=>.err
def F53:zY:=bg [Q1 (.sl .expr)] G53
theorem zfM:FK 146 F53:=by
 refine dt WD λx h0 res hx C hC=>?_
 unfold G53 at hx;split at hx
 ·simp only[Tr.val]at hx;split at hx
  ·rename_i hl;simp only[bz]at hx;subst hx;obtain⟨l,u⟩:=x;refine zD (n0:=0) iR WD hC (zlw l) ?_;refine⟨λhe=>?_,?_⟩
   ·have hn:l=[]:=List.isEmpty_iff.1 he;refine Reach.weaken (Q:=λr h=>(r,h)=(.vec 0,[.vec .expr []])) (Reach.promNil .expr (λid=>hC id sw) (zD (n0:=0) iR WD hC (zjA l) rfl)) ?_;intro r h hq;cases hq;refine⟨_,?_,λ_ _ _ _ h=>h⟩;show(AV.vec 0,[AO.vec Q5 []])=(AV.vec 0,[AO.vec Q5 l]);rw[hn]
   ·exact zD (n0:=0) iR WD hC (zjB l) (jY hl rfl)
  ·cases hx
 ·simp at hx
noncomputable abbrev HY(l:List (Sem zj)):Tr zC:=run rm 0 Wt (Func.results Tryz.f142).toList 300 (bt Tryz.f142) (bc (Func.ntmps Tryz.f142) [.sl zj l] [])
theorem WB:zJ rm.P 142 Tryz.f142 1:=bQ kw
theorem zle(l:List (Sem zj)):HY l=.ok (.fork l.isEmpty (dU (HY l)).1 (dU (HY l)).2.1 (dU (HY l)).2.2):=kw
theorem zjv(l:List (Sem zj)):run rm 0 Wt (Func.results Tryz.f142).toList 300 (dU (HY l)).1 (dU (HY l)).2.2=.ok (.ret .nils []):=kw
theorem zjw(l:List (Sem zj)):run rm 0 Wt (Func.results Tryz.f142).toList 300 (dU (HY l)).2.1 (dU (HY l)).2.2=.chk (Q0 (l.length<=1073741824)) (.ok (.ret (.vec 0) [.vec zj l])):=kw
def G32:ic [Q1 (.sl zj)]:=λx h=>match h with
 |[]=>.chk (Q0 (length x.1<=1073741824)) (.ok (.vec 0,[.vec zj x.1]))
 |_=>.err
def F32:zY:=bg [Q1 (.sl zj)] G32
theorem zft:FK 142 F32:=by
 refine dt WB λx h0 res hx C hC=>?_
 unfold G32 at hx;split at hx
 ·simp only[Tr.val]at hx;split at hx
  ·rename_i hl;simp only[bz]at hx;subst hx;obtain⟨l,u⟩:=x;refine zD (n0:=0) iR WB hC (zle l) ?_;refine⟨λhe=>?_,?_⟩
   ·have hn:l=[]:=List.isEmpty_iff.1 he;refine Reach.weaken (Q:=λr h=>(r,h)=(.vec 0,[.vec zj []])) (Reach.promNil zj (λid=>hC id sw) (zD (n0:=0) iR WB hC (zjv l) rfl)) ?_;intro r h hq;cases hq;refine⟨_,?_,λ_ _ _ _ h=>h⟩;show(AV.vec 0,[AO.vec zj []])=(AV.vec 0,[AO.vec zj l]);rw[hn]
   ·exact zD (n0:=0) iR WB hC (zjw l) (jY hl rfl)
  ·cases hx
 ·simp at hx
noncomputable def zbN:=rm.addL [(146,F53),(142,F32)]
theorem Ir:zx zbN:=iR.addL<|fc zfM<|fc zft iV
def PQ(c:zf->Bool):zY:=zR [.expr] [.expr] (λx=>c x.1) λx=>(x.1,())
noncomputable def On(c:zf->Bool):bX:=zbN.add 100 (PQ c)
theorem AJ{c:zf->Bool}(hg:FK 100 (PQ c)):zx (On c):=Ir.add hg
abbrev zhV:Nat->aN:=λj=>if j=3 then{slots:=[1,2,10,11]}else{ }
abbrev Nz(i10:Int)(i11:Int)(ja0:zB)(ja1:Int)(ja2:Int)(ja3:zB)(ja4:zB)(lh_2:List (Sem Q5)):St:={
 tmps:=
  (tm 26 [(1,ptr 0 0),(2,ptr 1 0),(10,ai i10),(11,ai i11)]),
 heap:=
  [Qa [str ja0,ai ja1,ai ja2,str ja3,str ja4,AV.vec 2],
   Qa [str [],ai 0,ai 0,str [],str [],nils],AO.vec Q5 lh_2]}
theorem Lc(c:zf->Bool):zJ (On c).P 100 Tryz.f100 1:=bQ kw
theorem zlf(c:zf->Bool)(op:zB)(v:V)(s:zB)(l:List zf):rn (On c) 0 zhV Tryz.f100 [zF Q5 (zf.mk op v s l)] []=
 Qc (Q0 (l.length<=1073741824)) (Tr.ok (zC.head 3 (ae Tryz.f100 3) (Nz (↑l.length:Int) 0 op v.1 v.2.1 v.2.2 s l))):=kw
theorem Ta(c:zf->Bool)(i10:Int)(i11:Int)(ja0:zB)(ja1:Int)(ja2:Int)(ja3:zB)(ja4:zB)(lh_2:List (Sem Sh.expr)):rh (On c) 0 zhV Tryz.f100 3 (Nz i10 i11 ja0 ja1 ja2 ja3 ja4 lh_2)=
 br (Q0 (i11<i10))
 (chk (zN i11 lh_2.length)
  (chk (decide (i11.toNat<lh_2.length))
   (chk (c (zm (lh_2.getD i11.toNat (zi Sh.expr))))
    (chk (zN i11 lh_2.length)
     (chk (decide (i11.toNat<lh_2.length))
      (Tr.ok
       (zC.head 3 (ae Tryz.f100 3)
        (Nz i10 (IntKind.i64.wrap (i11+1)) ja0 ja1 ja2 ja3 ja4
         (lh_2.set i11.toNat
          (zm (lh_2.getD i11.toNat (zi Q5))))))))))))
 (Tr.ok
  (zC.ret (agg [str ja0,ai ja1,ai ja2,str ja3,str ja4,AV.vec 0]) [AO.vec Q5 lh_2])):=kw
theorem zki{c:zf->Bool}(hg:FK 100 (PQ c)){C:eS}(hC:∀id,C.ρ0 id=Q2)(op:zB)(v:V)(s:zB)(l:List zf)(hl:l.length<=1073741824)(hcl:l.all c=Q3):
  ∀(k i:Nat),l.length-i=k->i<=l.length->Reach (On c) C 100 (ae Tryz.f100 3) (Nz l.length i op v.1 v.2.1 v.2.2 s l) (λr h=>aM h [.expr] r=Q1 (zf.mk op v s l,())):=by
 intro k
 induction k with
 | zero=>
  intro i hk hi;obtain rfl:i=l.length:=by omega
  refine zD (n0:=0) (AJ hg) (Lc c) (λid _=>hC id) (Ta c _ _ _ _ _ _ _ _) ?_;simp only[zA,Tr.val_brF];rfl
 | succ k IH=>
  intro i hk hi;have hlt:i<l.length:=by omega
  refine zD (n0:=0) (AJ hg) (Lc c) (λid _=>hC id) (Ta c _ _ _ _ _ _ _ _) ?_;have h1:c l[i]=Q3:=dW.1 hcl _ (bu hlt);have h2:Q0 ((i:Int).toNat<l.length)=Q3:=by simpa using hlt
  have h3:l.set (i:Int).toNat l[i]=l:=by simp
  simp only[zH hlt,zt hlt,cA l _ hlt,zf.eta,Tr.val_brT,Tr.val_chkT,h1,h2,h3,zp i um];exact IH (i+1) ow ow
def qU:Nat->zf->Bool
 |0,_=>Q4
 |n+1,.mk _ _ _ l=>Q0 (l.length<=1073741824)&&l.all (qU n)
theorem Ka:∀n,FK 100 (PQ (qU n))
 |0=>fq ⟨Tryz.f100,(Lc (λ_=>Q4)).1,(Lc (λ_=>Q4)).2.1,(Lc (λ_=>Q4)).2.2.1⟩ (λ_=>rfl)
 | n+1=>by
  refine aJ (E:=On (qU n)) (Lc _) λx hc C hC=>?_
  obtain⟨⟨op,v,s,l⟩,u⟩:=x;have hc:(Q0 (l.length<=1073741824)&&l.all (qU n))=Q3:=hc;simp only[aD,aO]at hc;refine zD (n0:=0) (AJ (Ka n)) (Lc _) (λid _=>hC id) (zlf _ op v s l) ?_;refine jY (by simpa using hc.1) ?_;exact zki (Ka n) hC op v s l hc.1 hc.2 _ 0 rfl (aZ _)
def F33:zY:=PQ (qU 16)
theorem zfu:FK 100 F33:=Ka 16
noncomputable def lp:=zbN.add 100 F33
theorem iS:zx lp:=Ir.add zfu
set_option maxHeartbeats 4000000
abbrev iK:Sh:=.pr .str .str
abbrev g6:Sh:=.pr .str .expr
abbrev zl:Sh:=.pr .str (.pr .str (.pr .str (.pr (.sl .str) (.pr (.sl zj) (.pr .str (.pr (.sl .str) (.pr (.sl iK) (.pr .expr (.pr (.sl ze) (.pr (.sl g6) (.pr .expr .str)))))))))))
def Dd(x:Sem zl):Sem zl:=(x.1,x.2.1,x.2.2.1,x.2.2.2.1,x.2.2.2.2.1,x.2.2.2.2.2.1,x.2.2.2.2.2.2.1,x.2.2.2.2.2.2.2.1,zm x.2.2.2.2.2.2.2.2.1,x.2.2.2.2.2.2.2.2.2.1,x.2.2.2.2.2.2.2.2.2.2.1,zm x.2.2.2.2.2.2.2.2.2.2.2.1,x.2.2.2.2.2.2.2.2.2.2.2.2)
theorem MF(x:Sem zl):Dd x=x:=by unfold Dd;rw[zk,zk]
abbrev Y9:Nat->aN:=λj=>if j=2 then{slots:=[0,2,4]}else{ }
abbrev Cr(s0:TS)(i4:Int)(ja0:Int)(ja1:List UInt8):St:={tmps:=(tm 37 [(0,str s0),(2,ptr 0 0),(4,ai i4)]),heap:=[Qa [ai ja0,str ja1]]}
theorem SX:zJ (lp).P 281 Tryz.f281 1:=bQ kw
theorem zgW(x0:TS):rn lp 0 Y9 Tryz.f281 [zF Q6 x0] []=Tr.ok (zC.head 2 (ae Tryz.f281 2) (Cr x0 1 0 [])):=kw
theorem WG(s0:TS)(i4:Int)(ja0:Int)(ja1:List UInt8):rh lp 0 Y9 Tryz.f281 2 (Cr s0 i4 ja0 ja1)=br (Q0 (i4<(↑(length s0):Int))) (Qc (zN i4 (length s0)) (br ((↑(getD s0 i4.toNat 0).toNat:Int)!=39) (Tr.ok (zC.head 2 (ae Tryz.f281 2) (Cr s0 (IntKind.i64.wrap (i4+1)) ja0 ja1))) (Qc (bif Q0 (IntKind.i64.wrap (i4+1)<(↑(length s0):Int))then zN (IntKind.i64.wrap (i4+1)) (length s0)else Q3) (br (bif Q0 (IntKind.i64.wrap (i4+1)<(↑(length s0):Int))then(↑(getD s0 (IntKind.i64.wrap (i4+1)).toNat 0).toNat:Int)==39 else Q4) (Tr.ok (zC.head 2 (ae Tryz.f281 2) (Cr s0 (IntKind.i64.wrap (IntKind.i64.wrap (i4+1)+1)) ja0 ja1))) (Qc (Q0 (0<=1)&&Q0 (1<=i4)&&Q0 (i4<=(↑(length s0):Int))) (Qc (ur (Qg (i4.toNat-toNat 1) (Qh (toNat 1) s0)) [39,39] [39]) (Tr.ok (zC.ret (tup [agg [ai 3,str (Lib.replaceAll (Qg (i4.toNat-toNat 1) (Qh (toNat 1) s0)) [39,39] [39])],ai (IntKind.i64.wrap (i4+1))]) [])))))))) (Tr.ok (zC.ret (tup [agg [ai 0,str []],ai 0]) [])):=kw
def eP:Nat->(Sem Sh.str)->Int->Int->(List UInt8)->Sem bW×Sem zg
 |0,_,_,_,_=>default
 |n+1,s0,i4,ja0,ja1=>(if Q0 (i4<(↑(length s0):Int))=Q3 then
 if((↑(getD s0 i4.toNat 0).toNat:Int)!=39)=Q3 then eP n s0 (IntKind.i64.wrap (i4+1)) ja0 ja1
 else
  if
    (bif Q0 (IntKind.i64.wrap (i4+1)<(↑(length s0):Int))then(↑(getD s0 (IntKind.i64.wrap (i4+1)).toNat 0).toNat:Int)==39
     else Q4)=
     Q3 then
   eP n s0 (IntKind.i64.wrap (IntKind.i64.wrap (i4+1)+1)) ja0 ja1
  else((3,Lib.replaceAll (Qg (i4.toNat-toNat 1) (Qh (toNat 1) s0)) [39,39] [39]),IntKind.i64.wrap (i4+1))
else((0,[]),0))
def iY:Nat->(Sem Sh.str)->Int->Int->(List UInt8)->Bool
 |0,_,_,_,_=>Q4
 |n+1,s0,i4,ja0,ja1=>(if Q0 (i4<(↑(length s0):Int))=Q3 then
 if zN i4 (length s0)=true then
  if((↑(getD s0 i4.toNat 0).toNat:Int)!=39)=Q3 then iY n s0 (IntKind.i64.wrap (i4+1)) ja0 ja1
  else
   if (bif decide (IntKind.i64.wrap (i4+1) < (↑(length s0):Int)) then zN (IntKind.i64.wrap (i4+1)) (length s0) else true)=true then
    if
      (bif Q0 (IntKind.i64.wrap (i4+1)<(↑(length s0):Int))then(↑(getD s0 (IntKind.i64.wrap (i4+1)).toNat 0).toNat:Int)==39
       else Q4)=
       Q3 then
     iY n s0 (IntKind.i64.wrap (IntKind.i64.wrap (i4+1)+1)) ja0 ja1
    else
     if(Q0 (0<=1)&&Q0 (1<=i4)&&Q0 (i4<=(↑(length s0):Int)))=Q3 then
      if ur (Qg (i4.toNat-toNat 1) (Qh (toNat 1) s0)) [39,39] [39]=Q3 then Q3 else Q4
     else Q4
   else Q4
 else Q4
else Q3)
theorem Mn{C:eS}(hC:∀id,C.ρ0 id=Q2):∀(n:Nat)(s0:TS)(i4:Int)(ja0:Int)(ja1:List UInt8),iY n s0 i4 ja0 ja1=Q3->
  Reach (lp) C 281 (ae Tryz.f281 2) (Cr s0 i4 ja0 ja1) (λr h=>aM h [bW,zg] r=Q1 ((eP n s0 i4 ja0 ja1).1,(eP n s0 i4 ja0 ja1).2,()))
 |0,s0,i4,ja0,ja1,hc=>by cases hc
 | n+1,s0,i4,ja0,ja1,hc=>by
  refine zD iS (SX) (λid _=>hC id) (WG _ _ _ _) ?_;rw[iY]at hc;generalize hy:eP (n+1) s0 i4 ja0 ja1=y;rw[eP]at hy
  try simp only[zf.eta,zk]
  repeat' (first|with_reducible refine tP hy hc (λ_ hy hc=>?_) (λ_ hy hc=>?_)|with_reducible refine dg hy (λ_ hy=>?_) (λ_ hy=>?_)|with_reducible refine ir hc (λhc=>?_)|with_reducible refine zK ?_)
  all_goals first|(cases hc;done)|(subst hy;first|(change Reach _ _ _ _ _ _;refine Mn hC n _ _ _ _ ?_<;>exact hc)|rfl)
def dV(x0:TS):Sem bW×Sem zg:=(eP (length x0+1) x0 1 0 [])
def jW(x0:TS):Bool:=(iY (length x0+1) x0 1 0 [])
def zdU:zY:=zR [Q6] [bW,zg] (λx=>jW x.1) λx=>((dV x.1).1,(dV x.1).2,())
theorem ZV:FK 281 zdU:=by
 refine aJ (SX) λx hc C hC=>?_
 unfold jW at hc;refine zD iS (SX) (λid _=>hC id) (zgW x.1) ?_;generalize hy:dV x.1=y;unfold dV at hy
 try simp only[zf.eta,zk]
 repeat' (first|with_reducible refine tP hy hc (λ_ hy hc=>?_) (λ_ hy hc=>?_)|with_reducible refine dg hy (λ_ hy=>?_) (λ_ hy=>?_)|with_reducible refine ir hc (λhc=>?_)|with_reducible refine zK ?_)
 all_goals first|(cases hc;done)|(subst hy;first|(change Reach _ _ _ _ _ _;refine Mn hC _ _ _ _ _ ?_<;>exact hc)|rfl)
abbrev zhH:Nat->aN:=λ_=>{ }
theorem Zl:zJ (lp).P 263 Tryz.f263 1:=bQ kw
theorem zgU(x0:Sem Q5):rn lp 0 zhH Tryz.f263 [zF Q5 x0] []=Tr.ok (zC.ret (AV.bool (bif zf.op x0==[]then bif (zf.v x0).1==0&&((zf.v x0).2.1==0&&((zf.v x0).2.2==[]&&Q3))then bif zf.s x0==[]then(↑(zf.l x0).length:Int)==0 else Q4 else Q4 else Q4)) []):=kw
def gR(x0:Sem Q5):Sem Q7:=(bif zf.op x0==[]then bif (zf.v x0).1==0&&((zf.v x0).2.1==0&&((zf.v x0).2.2==[]&&Q3))then bif zf.s x0==[]then(↑(zf.l x0).length:Int)==0 else Q4 else Q4 else Q4)
def zdK:zY:=aE [Q5] [Q7] λx=>(gR x.1,())
theorem ZL:FK 263 zdK:=by
 refine zZ (Zl) λx C hC=>?_
 refine zD iS (Zl) (λid _=>hC id) (zgU x.1) ?_;generalize hy:gR x.1=y;unfold gR at hy
 try simp only[zf.eta,zk]
 repeat' (first|with_reducible refine dg hy (λ_ hy=>?_) (λ_ hy=>?_)|with_reducible refine zK ?_)
 all_goals first|(cases hc;done)|(subst hy;first|rfl)
abbrev zmf:Nat->aN:=λ_=>{ }
theorem zjp:zJ (lp).P 231 Tryz.f231 1:=bQ kw
theorem zlN(x0:TS):rn lp 0 zmf Tryz.f231 [zF Q6 x0] []=Tr.ok (zC.ret (str x0) []):=kw
def lD(x0:TS):Sem Q6:=(x0)
def F88:zY:=aE [Q6] [Q6] λx=>(lD x.1,())
theorem zgf:FK 231 F88:=by
 refine zZ (zjp) λx C hC=>?_
 refine zD iS (zjp) (λid _=>hC id) (zlN x.1) ?_;generalize hy:lD x.1=y;unfold lD at hy
 try simp only[zf.eta,zk]
 repeat' (first|with_reducible refine dg hy (λ_ hy=>?_) (λ_ hy=>?_)|with_reducible refine zK ?_)
 all_goals first|(cases hc;done)|(subst hy;first|rfl)
abbrev zmc:Nat->aN:=λ_=>{ }
theorem zjl:zJ (lp).P 223 Tryz.f223 1:=bQ kw
theorem zlK(x0:TS):rn lp 0 zmc Tryz.f223 [zF Q6 x0] []=Tr.ok (zC.ret (AV.bool (bif dT x0 then !iZ x0 else Q4)) []):=kw
def bP(x0:TS):Sem Q7:=(bif dT x0 then !iZ x0 else Q4)
def F80:zY:=aE [Q6] [Q7] λx=>(bP x.1,())
theorem zgb:FK 223 F80:=by
 refine zZ (zjl) λx C hC=>?_
 refine zD iS (zjl) (λid _=>hC id) (zlK x.1) ?_;generalize hy:bP x.1=y;unfold bP at hy
 try simp only[zf.eta,zk]
 repeat' (first|with_reducible refine dg hy (λ_ hy=>?_) (λ_ hy=>?_)|with_reducible refine zK ?_)
 all_goals first|(cases hc;done)|(subst hy;first|rfl)
abbrev zh2:Nat->aN:=λ_=>{unroll:=Q3}
theorem Zp:zJ (lp).P 243 Tryz.f243 1:=bQ kw
theorem zg8(x0:Sem bW):rn lp 0 zh2 Tryz.f243 [zF bW x0] []=br (x0.1==3) (Tr.ok (zC.ret (AV.bool (aW (2,0,x0.2))) [])) (br (x0.1==4) (Qc (bif (↑(length x0.2):Int)==1 then length x0.2==1 else Q3) (Tr.ok (zC.ret (AV.bool (bif (↑(length x0.2):Int)==1 then Q0 (0<=Lib.indexByte [40,41,44,61,60,43,45,42] (List.headD x0.2 0))else Q4)) []))) (br Q3 (Qc Q3 (br (1==x0.1) (Tr.ok (zC.ret (AV.bool (bif Q0 ((↑(length x0.2):Int)>=1)then bif Q0 ((↑(length x0.2):Int)<=16)then(↑(aL aI bq x0.2):Int)==(↑(length x0.2):Int)else Q4 else Q4)) [])) (br Q3 (Qc Q3 (br (2==x0.1) (Tr.ok (zC.ret (AV.bool (bif Q0 ((↑(length x0.2):Int)>=1)then bif Q0 ((↑(length x0.2):Int)<=19)then(↑(aL zW zW x0.2):Int)==(↑(length x0.2):Int)else Q4 else Q4)) [])) (br Q4 Tr.err (Tr.ok (zC.ret (kb Q4) []))))) (Tr.ok (zC.ret (kb Q4) []))))) (Tr.ok (zC.ret (kb Q4) [])))):=kw
def cd(x0:Sem bW):Sem Q7:=(if(x0.1==3)=Q3 then aW (2,0,x0.2)else if(x0.1==4)=Q3 then bif (↑(length x0.2):Int)==1 then Q0 (0<=Lib.indexByte [40,41,44,61,60,43,45,42] (List.headD x0.2 0))else Q4 else if Q3=Q3 then if(1==x0.1)=Q3 then bif Q0 ((↑(length x0.2):Int)>=1)then bif Q0 ((↑(length x0.2):Int)<=16)then(↑(aL aI bq x0.2):Int)==(↑(length x0.2):Int)else Q4 else Q4 else if Q3=Q3 then if(2==x0.1)=Q3 then bif Q0 ((↑(length x0.2):Int)>=1)then bif Q0 ((↑(length x0.2):Int)<=19)then(↑(aL zW zW x0.2):Int)==(↑(length x0.2):Int)else Q4 else Q4 else if Q4=Q3 then default else Q4 else Q4 else Q4)
def qM(x0:Sem bW):Bool:=(if(x0.1==3)=Q3 then Q3 else if(x0.1==4)=Q3 then if(bif (↑(length x0.2):Int)==1 then length x0.2==1 else Q3)=Q3 then Q3 else Q4 else if Q3=Q3 then if Q3=Q3 then if(1==x0.1)=Q3 then Q3 else if Q3=Q3 then if Q3=Q3 then if(2==x0.1)=Q3 then Q3 else if Q4=Q3 then Q4 else Q3 else Q4 else Q3 else Q4 else Q3)
def zeE:zY:=zR [bW] [Q7] (λx=>qM x.1) λx=>(cd x.1,())
theorem zaH:FK 243 zeE:=by
 refine aJ (Zp) λx hc C hC=>?_
 unfold qM at hc;refine zD iS (Zp) (λid _=>hC id) (zg8 x.1) ?_;generalize hy:cd x.1=y;unfold cd at hy
 try simp only[zf.eta,zk]
 repeat' (first|with_reducible refine tP hy hc (λ_ hy hc=>?_) (λ_ hy hc=>?_)|with_reducible refine dg hy (λ_ hy=>?_) (λ_ hy=>?_)|with_reducible refine ir hc (λhc=>?_)|with_reducible refine zK ?_)
 all_goals first|(cases hc;done)|(subst hy;first|rfl)
noncomputable def kA:=lp.addL [(281,zdU),(263,zdK),(231,F88),(223,F80),(243,zeE)]
theorem gS:zx kA:=iS.addL<|fc ZV<|fc ZL<|fc zgf<|fc zgb<|fc zaH iV
abbrev zmd:Nat->aN:=λ_=>{ }
theorem zjn:zJ (kA).P 228 Tryz.f228 1:=bQ kw
theorem zlL(x0:Sem Q5):rn kA 0 zmd Tryz.f228 [zF Q5 x0] []=Tr.ok (zC.ret (AV.bool (bif gR (zm x0)then Q3 else dc (zm x0))) []):=kw
def bR(x0:Sem Q5):Sem Q7:=(bif gR x0 then Q3 else dc x0)
def F85:zY:=aE [Q5] [Q7] λx=>(bR x.1,())
theorem zgc:FK 228 F85:=by
 refine zZ (zjn) λx C hC=>?_
 refine zD gS (zjn) (λid _=>hC id) (zlL x.1) ?_;generalize hy:bR x.1=y;unfold bR at hy
 try simp only[zf.eta]
 repeat' (first|with_reducible refine dg hy (λ_ hy=>?_) (λ_ hy=>?_)|with_reducible refine zK ?_)
 all_goals first|(cases hc;done)|(subst hy;first|rfl)
def zgz(x0:Sem zj):Sem Q7:=(bif bP x0.1 then bif Q0 (x0.2.1>=1)then Q0 (x0.2.1<=3)else Q4 else Q4)
def zjO(x0:Sem iK):Sem Q7:=(bif bP x0.1 then bP x0.2 else Q4)
abbrev zmh:Nat->aN:=λ_=>{ }
theorem zjq:zJ (kA).P 235 Tryz.f235 1:=bQ kw
theorem zlO(x0:Sem ze):rn kA 0 zmh Tryz.f235 [zF ze x0] []=br (!aW x0) (Tr.ok (zC.ret (str []) [])) (br (x0.1==1) (Qc (10==10) (Tr.ok (zC.ret (str (rr x0.2.1)) []))) (br (x0.1==2) (Qc (ur x0.2.2 [39] [39,39]) (Qc (Q0 ([39].length+(Lib.replaceAll x0.2.2 [39] [39,39]).length<=1099511627776)) (Qc (Q0 (length ([39]++Lib.replaceAll x0.2.2 [39] [39,39])+[39].length<=1099511627776)) (Tr.ok (zC.ret (str ([39]++Lib.replaceAll x0.2.2 [39] [39,39]++[39])) []))))) (br (x0.1==3) (br (dR x0==2) (Tr.ok (zC.ret (str [84,82,85,69]) [])) (Tr.ok (zC.ret (str [70,65,76,83,69]) []))) (Tr.ok (zC.ret (str [78,85,76,76]) []))))):=kw
def g8(x0:Sem ze):Sem Q6:=(if(!aW x0)=Q3 then[]else if(x0.1==1)=Q3 then rr x0.2.1 else if(x0.1==2)=Q3 then[39]++Lib.replaceAll x0.2.2 [39] [39,39]++[39]else if(x0.1==3)=Q3 then if(dR x0==2)=Q3 then[84,82,85,69]else[70,65,76,83,69]else[78,85,76,76])
def wH(x0:Sem ze):Bool:=(if(!aW x0)=Q3 then Q3 else if(x0.1==1)=Q3 then if(10==10)=Q3 then Q3 else Q4 else if(x0.1==2)=Q3 then if ur x0.2.2 [39] [39,39]=Q3 then if Q0 ([39].length+(Lib.replaceAll x0.2.2 [39] [39,39]).length<=1099511627776)=Q3 then if Q0 (length ([39]++Lib.replaceAll x0.2.2 [39] [39,39])+[39].length<=1099511627776)=Q3 then Q3 else Q4 else Q4 else Q4 else Q3)
def F92:zY:=zR [ze] [Q6] (λx=>wH x.1) λx=>(g8 x.1,())
theorem zgk:FK 235 F92:=by
 refine aJ (zjq) λx hc C hC=>?_
 unfold wH at hc;refine zD gS (zjq) (λid _=>hC id) (zlO x.1) ?_;generalize hy:g8 x.1=y;unfold g8 at hy
 try simp only[zf.eta,zk]
 repeat' (first|with_reducible refine tP hy hc (λ_ hy hc=>?_) (λ_ hy hc=>?_)|with_reducible refine dg hy (λ_ hy=>?_) (λ_ hy=>?_)|with_reducible refine ir hc (λhc=>?_)|with_reducible refine zK ?_)
 all_goals first|(cases hc;done)|(subst hy;first|rfl)
abbrev zme:Nat->aN:=λ_=>{ }
theorem zjo:zJ (kA).P 230 Tryz.f230 1:=bQ kw
theorem zlM(x0:Sem zl):rn kA 0 zme Tryz.f230 [zF zl x0] []=Qc (Q0 (length x0.2.1+length x0.2.2.1<=1099511627776)) (Qc (Q0 (length (x0.2.1++x0.2.2.1)+length x0.2.2.2.2.2.1<=1099511627776)) (Qc (Q0 (length (x0.2.1++x0.2.2.1++x0.2.2.2.2.2.1)+length x0.2.2.2.2.2.2.2.2.2.2.2.2<=1099511627776)) (Tr.ok (zC.ret (AV.bool (bif x0.2.1++x0.2.2.1++x0.2.2.2.2.2.1++x0.2.2.2.2.2.2.2.2.2.2.2.2==[]then bif IntKind.i64.wrap (IntKind.i64.wrap (IntKind.i64.wrap (IntKind.i64.wrap (IntKind.i64.wrap ((↑(length x0.2.2.2.1):Int)+(↑(length x0.2.2.2.2.1):Int))+(↑(length x0.2.2.2.2.2.2.1):Int))+(↑(length x0.2.2.2.2.2.2.2.1):Int))+(↑(length x0.2.2.2.2.2.2.2.2.2.1):Int))+(↑(length x0.2.2.2.2.2.2.2.2.2.2.1):Int))==0 then bif gR (zm x0.2.2.2.2.2.2.2.2.1)then gR (zm x0.2.2.2.2.2.2.2.2.2.2.2.1)else Q4 else Q4 else Q4)) [])))):=kw
def ez(x0:Sem zl):Sem Q7:=(bif x0.2.1++x0.2.2.1++x0.2.2.2.2.2.1++x0.2.2.2.2.2.2.2.2.2.2.2.2==[]then bif IntKind.i64.wrap (IntKind.i64.wrap (IntKind.i64.wrap (IntKind.i64.wrap (IntKind.i64.wrap ((↑(length x0.2.2.2.1):Int)+(↑(length x0.2.2.2.2.1):Int))+(↑(length x0.2.2.2.2.2.2.1):Int))+(↑(length x0.2.2.2.2.2.2.2.1):Int))+(↑(length x0.2.2.2.2.2.2.2.2.2.1):Int))+(↑(length x0.2.2.2.2.2.2.2.2.2.2.1):Int))==0 then bif gR x0.2.2.2.2.2.2.2.2.1 then gR x0.2.2.2.2.2.2.2.2.2.2.2.1 else Q4 else Q4 else Q4)
def ea(x0:Sem zl):Bool:=(if Q0 (length x0.2.1+length x0.2.2.1<=1099511627776)=Q3 then if Q0 (length (x0.2.1++x0.2.2.1)+length x0.2.2.2.2.2.1<=1099511627776)=Q3 then if Q0 (length (x0.2.1++x0.2.2.1++x0.2.2.2.2.2.1)+length x0.2.2.2.2.2.2.2.2.2.2.2.2<=1099511627776)=Q3 then Q3 else Q4 else Q4 else Q4)
def F87:zY:=zR [zl] [Q7] (λx=>ea x.1) λx=>(ez x.1,())
theorem zge:FK 230 F87:=by
 refine aJ (zjo) λx hc C hC=>?_
 unfold ea at hc;refine zD gS (zjo) (λid _=>hC id) (zlM x.1) ?_;generalize hy:ez x.1=y;unfold ez at hy
 try simp only[zf.eta]
 repeat' (first|with_reducible refine tP hy hc (λ_ hy hc=>?_) (λ_ hy hc=>?_)|with_reducible refine dg hy (λ_ hy=>?_) (λ_ hy=>?_)|with_reducible refine ir hc (λhc=>?_)|with_reducible refine zK ?_)
 all_goals first|(cases hc;done)|(subst hy;first|rfl)
abbrev zmk:Nat->aN:=λ_=>{unroll:=Q3}
theorem zjt:zJ (kA).P 242 Tryz.f242 1:=bQ kw
theorem zlS(x0:TS):rn kA 0 zmk Tryz.f242 [zF Q6 x0] []=br Q3 (Qc Q3 (br (Q0 ((↑(aL aI bq x0):Int)>0)) (Qc (Q0 (0<=0)&&Q0 (0<=(↑(aL aI bq x0):Int))&&Q0 ((↑(aL aI bq x0):Int)<=(↑(length x0):Int))) (Tr.ok (zC.ret (tup [agg [ai 1,str (Qg ((↑(aL aI bq x0):Int).toNat-toNat 0) (Qh (toNat 0) x0))],ai (↑(aL aI bq x0):Int)]) []))) (br Q3 (Qc Q3 (br (Q0 ((↑(aL zW zW x0):Int)>0)) (Qc (Q0 (0<=0)&&Q0 (0<=(↑(aL zW zW x0):Int))&&Q0 ((↑(aL zW zW x0):Int)<=(↑(length x0):Int))) (Tr.ok (zC.ret (tup [agg [ai 2,str (Qg ((↑(aL zW zW x0):Int).toNat-toNat 0) (Qh (toNat 0) x0))],ai (↑(aL zW zW x0):Int)]) []))) (br Q4 Tr.err (Qc (zN 0 (length x0)) (br ((↑(getD x0 (toNat 0) 0).toNat:Int)==39) (Qc (jW x0) (Tr.ok (zC.ret (tup [agg [ai (dV x0).1.1,str (dV x0).1.2],ai (dV x0).2]) []))) (Qc (Q0 (0<=0)&&Q0 (0<=1)&&Q0 (1<=(↑(length x0):Int))) (Tr.ok (zC.ret (tup [agg [ai 4,str (Qg (toNat 1-toNat 0) (Qh (toNat 0) x0))],ai 1]) [])))))))) (Qc (zN 0 (length x0)) (br ((↑(getD x0 (toNat 0) 0).toNat:Int)==39)
 (Qc (jW x0) (Tr.ok (zC.ret (tup [agg [ai (dV x0).1.1,str (dV x0).1.2],ai (dV x0).2]) []))) (Qc (Q0 (0<=0)&&Q0 (0<=1)&&Q0 (1<=(↑(length x0):Int))) (Tr.ok (zC.ret (tup [agg [ai 4,str (Qg (toNat 1-toNat 0) (Qh (toNat 0) x0))],ai 1]) [])))))))) (Qc (zN 0 (length x0)) (br ((↑(getD x0 (toNat 0) 0).toNat:Int)==39) (Qc (jW x0) (Tr.ok (zC.ret (tup [agg [ai (dV x0).1.1,str (dV x0).1.2],ai (dV x0).2]) []))) (Qc (Q0 (0<=0)&&Q0 (0<=1)&&Q0 (1<=(↑(length x0):Int))) (Tr.ok (zC.ret (tup [agg [ai 4,str (Qg (toNat 1-toNat 0) (Qh (toNat 0) x0))],ai 1]) []))))):=kw
def bB(x0:TS):Sem bW×Sem zg:=(if Q3=Q3 then if Q0 ((↑(aL aI bq x0):Int)>0)=Q3 then((1,Qg ((↑(aL aI bq x0):Int).toNat-toNat 0) (Qh (toNat 0) x0)),(↑(aL aI bq x0):Int))else if Q3=Q3 then if Q0 ((↑(aL zW zW x0):Int)>0)=Q3 then((2,Qg ((↑(aL zW zW x0):Int).toNat-toNat 0) (Qh (toNat 0) x0)),(↑(aL zW zW x0):Int))else if Q4=Q3 then default else if((↑(getD x0 (toNat 0) 0).toNat:Int)==39)=Q3 then((dV x0).1,(dV x0).2)else((4,Qg (toNat 1-toNat 0) (Qh (toNat 0) x0)),1)else if((↑(getD x0 (toNat 0) 0).toNat:Int)==39)=Q3 then((dV x0).1,(dV x0).2)else((4,Qg (toNat 1-toNat 0) (Qh (toNat 0) x0)),1)else if((↑(getD x0 (toNat 0) 0).toNat:Int)==39)=Q3 then((dV x0).1,(dV x0).2)else((4,Qg (toNat 1-toNat 0) (Qh (toNat 0) x0)),1))
def kh(x0:TS):Bool:=(if Q3=Q3 then if Q3=Q3 then if Q0 ((↑(aL aI bq x0):Int)>0)=Q3 then if(Q0 (0<=0)&&Q0 (0<=(↑(aL aI bq x0):Int))&&Q0 ((↑(aL aI bq x0):Int)<=(↑(length x0):Int)))=Q3 then Q3 else Q4 else if Q3=Q3 then if Q3=Q3 then if Q0 ((↑(aL zW zW x0):Int)>0)=Q3 then if(Q0 (0<=0)&&Q0 (0<=(↑(aL zW zW x0):Int))&&Q0 ((↑(aL zW zW x0):Int)<=(↑(length x0):Int)))=Q3 then Q3 else Q4 else if Q4=Q3 then Q4 else if zN 0 (length x0)=Q3 then if((↑(getD x0 (toNat 0) 0).toNat:Int)==39)=Q3 then if jW x0=Q3 then Q3 else Q4 else if(Q0 (0<=0)&&Q0 (0<=1)&&Q0 (1<=(↑(length x0):Int)))=Q3 then Q3 else Q4 else Q4 else Q4 else if zN 0 (length x0)=Q3 then if((↑(getD x0 (toNat 0) 0).toNat:Int)==39)=Q3 then if jW x0=Q3 then Q3 else Q4 else if(Q0 (0<=0)&&Q0 (0<=1)&&Q0 (1<=(↑(length x0):Int)))=Q3 then Q3 else Q4 else Q4 else Q4 else if zN 0 (length x0)=Q3 then if((↑(getD x0 (toNat 0) 0).toNat:Int)==39)=Q3 then if jW x0=Q3 then Q3 else Q4 else if(Q0 (0<=0)&&Q0 (0<=1)&&Q0 (1<=(↑(length x0):Int)))=Q3 then Q3 else Q4 else Q4)
def F99:zY:=zR [Q6] [bW,zg] (λx=>kh x.1) λx=>((bB x.1).1,(bB x.1).2,())
theorem zgo:FK 242 F99:=by
 refine aJ (zjt) λx hc C hC=>?_
 unfold kh at hc;refine zD gS (zjt) (λid _=>hC id) (zlS x.1) ?_;generalize hy:bB x.1=y;unfold bB at hy
 try simp only[zf.eta,zk]
 repeat' (first|with_reducible refine tP hy hc (λ_ hy hc=>?_) (λ_ hy hc=>?_)|with_reducible refine dg hy (λ_ hy=>?_) (λ_ hy=>?_)|with_reducible refine ir hc (λhc=>?_)|with_reducible refine zK ?_)
 all_goals first|(cases hc;done)|(subst hy;first|rfl)
abbrev zir:Nat->aN:=λj=>if j=3 then{slots:=[1,5,8,9,10],prom:=[(5,Q2,.str)]}else{ }
abbrev JM(l8:LS)(i9:Int)(i10:Int)(lh_0:LS):St:={tmps:=(tm 23 [(1,AV.clo (Fn.func 231) [] []),(5,AV.vec 0),(8,sl Q6 l8),(9,ai i9),(10,ai i10)]),heap:=[AO.vec Q6 lh_0]}
theorem WF:zJ (kA).P 240 Tryz.f240 2:=bQ kw
theorem zlQ(x0:Sem Sh.str.sl):rn kA 0 zir Tryz.f240 [zF Sh.str.sl x0,AV.clo (Fn.func 231) [] []] []=Tr.ok (zC.head 3 (ae Tryz.f240 3) (JM x0 (↑(length x0):Int) 0 [])):=kw
theorem Te(l8:LS)(i9:Int)(i10:Int)(lh_0:LS):rh kA 0 zir Tryz.f240 3 (JM l8 i9 i10 lh_0)=br (Q0 (i10<i9)) (Qc (zN i10 l8.length) (Qc (Q0 (lh_0.length+[lD (l8.getD i10.toNat (zi Q6))].length<=1073741824)) (Tr.ok (zC.head 3 (ae Tryz.f240 3) (JM l8 i9 (IntKind.i64.wrap (i10+1)) (lh_0++[lD (l8.getD i10.toNat (zi Q6))])))))) (Qc (Q0 (lh_0.length<=140737488355328)&&Q0 ((Lib.join lh_0 [32,44,32]).length<=140737488355328)) (Tr.ok (zC.ret (str (Lib.join lh_0 [32,44,32])) []))):=kw
def dB:List (Sem Q6)->Int->List (Sem Q6)->Sem Q6
 |[],_,lh_0=>(Lib.join lh_0 [32,44,32])
 |x::r,i10,lh_0=>(dB r (i10+1) (lh_0++[lD x]))
def dQ:List (Sem Q6)->Int->List (Sem Q6)->Bool
 |[],_,lh_0=>(if(Q0 (lh_0.length<=140737488355328)&&Q0 ((Lib.join lh_0 [32,44,32]).length<=140737488355328))=Q3 then Q3 else Q4)
 |x::r,i10,lh_0=>(if Q0 (lh_0.length+[lD x].length<=1073741824)=Q3 then dQ r (i10+1) (lh_0++[lD x])else Q4)
theorem zbz{C:eS}(hC:∀id,C.ρ0 id=Q2)(l8:LS)(hl:l8.length<=aF):∀(m i:Nat)(lh_0:LS),l8.length-i=m->i<=l8.length->dQ (l8.drop i) i lh_0=Q3->
  Reach (kA) C 240 (ae Tryz.f240 3) (JM l8 (l8.length:Int) (i:Int) lh_0) (λr h=>aM h [Q6] r=Q1 (dB (l8.drop i) i lh_0,())):=by
 intro m
 induction m with
 | zero=>
  intro i lh_0 hm hi hc;obtain rfl:i=l8.length:=by omega
  rw[jo]at hc⊢;refine zD gS (WF) (λid _=>hC id) (Te _ _ _ _) ?_;rw[dQ]at hc;generalize hy:dB [] _ lh_0=y;rw[dB]at hy;simp only[zA,Tr.val_brF];repeat' (first|with_reducible refine tP hy hc (λ_ hy hc=>?_) (λ_ hy hc=>?_)|with_reducible refine dg hy (λ_ hy=>?_) (λ_ hy=>?_)|with_reducible refine ir hc (λhc=>?_)|with_reducible refine zK ?_)
  all_goals first|(cases hc;done)|(subst hy;first|rfl)
 | succ m IH=>
  intro i lh_0 hm hi hc;have hlt:i<l8.length:=by omega
  have IH:=IH (i+1);have hcast:((i:Int)+1)=((i+1:Nat):Int):=by omega
  have hwr:=zp i ow;rw[fu hlt]at hc⊢;refine zD gS (WF) (λid _=>hC id) (Te _ _ _ _) ?_;rw[dQ]at hc;generalize hy:dB (l8[i]::l8.drop (i+1)) (i:Int) lh_0=y;rw[dB]at hy;simp only[zH hlt,zt hlt,cA l8 _ hlt,hwr,Tr.val_brT,Tr.val_chkT];clear hwr
  try simp only[zt hlt]at hy
  simp only[hcast]at hy
  try simp only[zt hlt]at hc
  try simp only[hcast]at hc
  repeat' (first|with_reducible refine tP hy hc (λ_ hy hc=>?_) (λ_ hy hc=>?_)|with_reducible refine dg hy (λ_ hy=>?_) (λ_ hy=>?_)|with_reducible refine ir hc (λhc=>?_)|with_reducible refine zK ?_)
  all_goals first|(cases hc;done)|(subst hy;first|(change Reach _ _ _ _ _ _;apply IH<;>first|omega|assumption)|rfl)
theorem VK{C:eS}(hC:∀id,C.ρ0 id=Q2)(l8:LS)(lh_0:LS)(hc:dQ l8 0 lh_0=Q3):
  Reach (kA) C 240 (ae Tryz.f240 3) (JM l8 (l8.length:Int) 0 lh_0) (λr h=>aM h [Q6] r=Q1 (dB l8 0 lh_0,())):=
 Reach.len 8 (Q6) l8 rfl λhl=>zbz hC l8 hl _ 0 lh_0 rfl (aZ _) hc
def gy(x0:Sem Sh.str.sl):Sem Q6:=(dB x0 0 [])
def mF(x0:Sem Sh.str.sl):Bool:=(dQ x0 0 [])
def F97:zY:=Tq [Sh.str.sl] [Q6] [(231,(λx=>mF x.1),λx=>(gy x.1,()))]
theorem zgm:FK 240 F97:=by
 refine Kb (WF) λj c g hm x hc C hC=>?_
 simp only[gp,cv]at hm;obtain⟨rfl,rfl,rfl⟩:=hm
 replace hc:mF x.1=Q3:=hc
 unfold mF at hc;refine zD gS (WF) (λid _=>hC id) (zlQ x.1) ?_;generalize hy:gy x.1=y;unfold gy at hy
 skip
 repeat' (first|with_reducible refine tP hy hc (λ_ hy hc=>?_) (λ_ hy hc=>?_)|with_reducible refine dg hy (λ_ hy=>?_) (λ_ hy=>?_)|with_reducible refine ir hc (λhc=>?_)|with_reducible refine zK ?_)
 all_goals first|(cases hc;done)|(subst hy;first|(change Reach _ _ _ _ _ _;apply VK hC<;>first|assumption|exact hc)|rfl)
noncomputable def Mw:=kA.addL [(228,F85),(235,F92),(230,F87),(242,F99),(240,F97)]
theorem vE:zx Mw:=gS.addL<|fc zgc<|fc zgk<|fc zge<|fc zgo<|fc zgm iV
noncomputable def zdM:zY:=bg (List.replicate 2 Q2) (fe Mw Tryz.f265 (List.replicate 2 Q2))
theorem ZN:FK 265 zdM:=bY _ vE (bQ kw)
noncomputable def QR(g:Sem Q5->Sem Q6)(c:Sem Q5->Bool):bX:=Mw.add 305 (zR [Q5] [Q6] (λx=>c x.1) λx=>(g x.1,()))
theorem Ol{g:Sem Q5->Sem Q6}{c:Sem Q5->Bool}(hg:FK 305 (zR [Q5] [Q6] (λx=>c x.1) λx=>(g x.1,()))):zx (QR g c):=vE.add hg
abbrev zcF:Nat->aN:=λ_=>{ }
theorem BD(g:Sem Q5->Sem Q6)(c:Sem Q5->Bool):zJ (QR g c).P 305 Tryz.f305 1:=bQ kw
theorem zb3(g:Sem Q5->Sem Q6)(c:Sem Q5->Bool)(x0:Sem Q5):rn (QR g c) 0 zcF Tryz.f305 [zF Q5 x0] []=br (zf.op x0==[108,105,116]) (Qc (wH (zf.v x0)) (Tr.ok (zC.ret (str (g8 (zf.v x0))) []))) (br (zf.op x0==[99,111,108]) (Tr.ok (zC.ret (str (zf.s x0)) [])) (br (zf.op x0==[110,111,116]) (Qc (zN 0 (zf.l x0).length) (Qc (c (zm ((zf.l x0).getD (toNat 0) (zi Q5)))) (Qc (Q0 ([40,78,79,84,32].length+length (g (zm ((zf.l x0).getD (toNat 0) (zi Q5))))<=1099511627776)) (Qc (Q0 (length ([40,78,79,84,32]++g (zm ((zf.l x0).getD (toNat 0) (zi Q5))))+[41].length<=1099511627776)) (Tr.ok (zC.ret (str ([40,78,79,84,32]++g (zm ((zf.l x0).getD (toNat 0) (zi Q5)))++[41])) [])))))) (br (zf.op x0==[110,117,108,108]) (Qc (zN 0 (zf.l x0).length) (Qc (c (zm ((zf.l x0).getD (toNat 0) (zi Q5)))) (Qc (Q0 ([40].length+length (g (zm ((zf.l x0).getD (toNat 0) (zi Q5))))<=1099511627776)) (Qc (Q0 (length ([40]++g (zm ((zf.l x0).getD (toNat 0) (zi Q5))))+[32,73,83,32,78,85,76,76,41].length<=1099511627776)) (Tr.ok (zC.ret (str ([40]++g (zm ((zf.l x0).getD (toNat 0) (zi Q5)))++[32,73,83,32,78,85,76,76,41]))
 [])))))) (Qc (zN 0 (zf.l x0).length) (Qc (c (zm ((zf.l x0).getD (toNat 0) (zi Q5)))) (Qc (Q0 ([40].length+length (g (zm ((zf.l x0).getD (toNat 0) (zi Q5))))<=1099511627776)) (Qc (Q0 (length ([40]++g (zm ((zf.l x0).getD (toNat 0) (zi Q5))))+[32].length<=1099511627776)) (Qc (Q0 (length (zf.op x0)<=140737488355328)&&List.all (zf.op x0) λb=>Q0 (b.toNat<128)) (Qc (Q0 (length ([40]++g (zm ((zf.l x0).getD (toNat 0) (zi Q5)))++[32])+(Lib.toUpperA (zf.op x0)).length<=1099511627776)) (Qc (Q0 (length ([40]++g (zm ((zf.l x0).getD (toNat 0) (zi Q5)))++[32]++Lib.toUpperA (zf.op x0))+[32].length<=1099511627776)) (Qc (zN 1 (zf.l x0).length) (Qc (c (zm ((zf.l x0).getD (toNat 1) (zi Q5)))) (Qc (Q0 (length ([40]++g (zm ((zf.l x0).getD (toNat 0) (zi Q5)))++[32]++Lib.toUpperA (zf.op x0)++[32])+length (g (zm ((zf.l x0).getD (toNat 1) (zi Q5))))<=1099511627776)) (Qc (Q0 (length ([40]++g (zm ((zf.l x0).getD (toNat 0) (zi Q5)))++[32]++Lib.toUpperA (zf.op x0)++[32]++g (zm ((zf.l x0).getD (toNat 1) (zi Q5))))+[41].length<=1099511627776)) (Tr.ok (zC.ret (str ([40]++g (zm ((zf.l x0).getD (toNat 0) (zi Q5)))++[32]++Lib.toUpperA (zf.op x0)++[32]++g
 (zm ((zf.l x0).getD (toNat 1) (zi Q5)))++[41])) [])))))))))))))))):=kw
def rW(g:Sem Q5->Sem Q6)(_:Sem Q5->Bool)(x0:Sem Q5):Sem Q6:=(if(zf.op x0==[108,105,116])=Q3 then g8 (zf.v x0)else if(zf.op x0==[99,111,108])=Q3 then zf.s x0 else if(zf.op x0==[110,111,116])=Q3 then[40,78,79,84,32]++g ((zf.l x0).getD (toNat 0) (zi Q5))++[41]else if(zf.op x0==[110,117,108,108])=Q3 then[40]++g ((zf.l x0).getD (toNat 0) (zi Q5))++[32,73,83,32,78,85,76,76,41]else[40]++g ((zf.l x0).getD (toNat 0) (zi Q5))++[32]++Lib.toUpperA (zf.op x0)++[32]++g ((zf.l x0).getD (toNat 1) (zi Q5))++[41])
def xZ(g:Sem Q5->Sem Q6)(c:Sem Q5->Bool)(x0:Sem Q5):Bool:=(if(zf.op x0==[108,105,116])=Q3 then if wH (zf.v x0)=Q3 then Q3 else Q4 else if(zf.op x0==[99,111,108])=Q3 then Q3 else if(zf.op x0==[110,111,116])=Q3 then if zN 0 (zf.l x0).length=Q3 then if c ((zf.l x0).getD (toNat 0) (zi Q5))=Q3 then if Q0 ([40,78,79,84,32].length+length (g ((zf.l x0).getD (toNat 0) (zi Q5)))<=1099511627776)=Q3 then if Q0 (length ([40,78,79,84,32]++g ((zf.l x0).getD (toNat 0) (zi Q5)))+[41].length<=1099511627776)=Q3 then Q3 else Q4 else Q4 else Q4 else Q4 else if(zf.op x0==[110,117,108,108])=Q3 then if zN 0 (zf.l x0).length=Q3 then if c ((zf.l x0).getD (toNat 0) (zi Q5))=Q3 then if Q0 ([40].length+length (g ((zf.l x0).getD (toNat 0) (zi Q5)))<=1099511627776)=Q3 then if Q0 (length ([40]++g ((zf.l x0).getD (toNat 0) (zi Q5)))+[32,73,83,32,78,85,76,76,41].length<=1099511627776)=Q3 then Q3 else Q4 else Q4 else Q4 else Q4 else if zN 0 (zf.l x0).length=Q3 then if c ((zf.l x0).getD (toNat 0) (zi Q5))=Q3 then if Q0 ([40].length+length (g ((zf.l x0).getD (toNat 0) (zi Q5)))<=1099511627776)=Q3 then
 if Q0 (length ([40]++g ((zf.l x0).getD (toNat 0) (zi Q5)))+[32].length<=1099511627776)=Q3 then if(Q0 (length (zf.op x0)<=140737488355328)&&List.all (zf.op x0) λb=>Q0 (b.toNat<128))=Q3 then if Q0 (length ([40]++g ((zf.l x0).getD (toNat 0) (zi Q5))++[32])+(Lib.toUpperA (zf.op x0)).length<=1099511627776)=Q3 then if Q0 (length ([40]++g ((zf.l x0).getD (toNat 0) (zi Q5))++[32]++Lib.toUpperA (zf.op x0))+[32].length<=1099511627776)=Q3 then if zN 1 (zf.l x0).length=Q3 then if c ((zf.l x0).getD (toNat 1) (zi Q5))=Q3 then if Q0 (length ([40]++g ((zf.l x0).getD (toNat 0) (zi Q5))++[32]++Lib.toUpperA (zf.op x0)++[32])+length (g ((zf.l x0).getD (toNat 1) (zi Q5)))<=1099511627776)=Q3 then if Q0 (length ([40]++g ((zf.l x0).getD (toNat 0) (zi Q5))++[32]++Lib.toUpperA (zf.op x0)++[32]++g ((zf.l x0).getD (toNat 1) (zi Q5)))+[41].length<=1099511627776)=Q3 then Q3 else Q4 else Q4 else Q4 else Q4 else Q4 else Q4 else Q4 else Q4 else Q4 else Q4 else Q4)
def zd1(g:Sem Q5->Sem Q6)(c:Sem Q5->Bool):zY:=zR [Q5] [Q6] (λx=>xZ g c x.1) λx=>(rW g c x.1,())
theorem Vk(g:Sem Q5->Sem Q6)(c:Sem Q5->Bool)(hg:FK 305 (zR [Q5] [Q6] (λx=>c x.1) λx=>(g x.1,()))):FK 305 (zd1 g c):=by
 refine aJ (BD g c) λx hc C hC=>?_
 unfold xZ at hc;refine zD (Ol hg) (BD g c) (λid _=>hC id) (zb3 g c x.1) ?_;generalize hy:rW g c x.1=y;unfold rW at hy
 try simp only[zf.eta]
 repeat' (first|with_reducible refine tP hy hc (λ_ hy hc=>?_) (λ_ hy hc=>?_)|with_reducible refine dg hy (λ_ hy=>?_) (λ_ hy=>?_)|with_reducible refine ir hc (λhc=>?_)|with_reducible refine zK ?_)
 all_goals first|(cases hc;done)|(subst hy;first|rfl)
mutual
def aP:Nat->Sem Q5->Sem Q6
 |0=>λ_=>default
 |n+1=>rW (aP n) (gB n)
def gB:Nat->Sem Q5->Bool
 |0=>λ_=>Q4
 |n+1=>xZ (aP n) (gB n)
end
theorem Ma:∀n,FK 305 (zR [Q5] [Q6] (λx=>gB n x.1) λx=>(aP n x.1,()))
 |0=>fq ⟨Tryz.f305,(BD default default).1,(BD default default).2.1,(BD default default).2.2.1⟩ (λ_=>rfl)
 |n+1=>Vk (aP n) (gB n) (Ma n)
def zd0:zY:=zR [Q5] [Q6] (λx=>gB 16 x.1) λx=>(aP 16 x.1,())
theorem Z1:FK 305 zd0:=Ma 16
noncomputable def oM:=Mw.addL [(265,zdM),(305,zd0)]
theorem j7:zx oM:=vE.addL<|fc ZN<|fc Z1 iV
abbrev uy(l:LS)(i:Int):St:={tmps:=[.sl Q6 l,.clo (.func 265) [] [.ptr 0 0],.any,.any,.any,.any,.any,.int .i64 l.length,.int .i64 i,.any,.any,.any,.any,.any,.any,.any,.any,.any,.any],heap:=[.box [.clo (.func 223) [] []]]}
theorem OH(l:LS):run oM 1 xM Tryz.f295.results.toList 300 (bt Tryz.f295) (bc Tryz.f295.ntmps [.sl Q6 l,.clo (.func 265) [] [.ptr 0 0]] [.box [.clo (.func 223) [] []]])=.ok (.head 2 (ae Tryz.f295 2) (uy l 0)):=kw
theorem O6(l:LS)(i:Int):run oM 1 xM Tryz.f295.results.toList 300 (ae Tryz.f295 2) (uy l i)=na (K:=ae Tryz.f295 2) (e:=Q6) l (λx=>!bP x) (uy l) [.box [.clo (.func 223) [] []]] i:=kw
theorem SY:zJ oM.P 295 Tryz.f295 2:=bQ kw
def zgs:ic [Q1 (.sl Q6),Q2]:=λx h=>match x,h with
 |(l,.clo (.func 265) [] [.ptr 0 0],_),[.box [.clo (.func 223) [] []]]=>.ok (.int .i64 (zU (λx=>!bP x) l 0),[.box [.clo (.func 223) [] []]])
 |_,_=>.err
def zdW:zY:=bg [Q1 (.sl Q6),Q2] zgs
theorem ZX:FK 295 zdW:=by
 refine dt SY λx h0 res hx C hC=>?_
 unfold zgs at hx;split at hx
 ·rename_i l u;simp only[Tr.val_ok,bz]at hx;subst hx;refine Reach.len 0 Q6 l rfl λhl=>?_
  refine zD (n0:=1) j7 SY hC (OH l) ?_;exact kg l (λx=>!bP x) (uy l) j7 SY hC (O6 l) hl _ 0 rfl (aZ _)
 ·simp at hx
abbrev zhJ:Nat->aN:=λ_=>{ }
theorem Zm:zJ (oM).P 278 Tryz.f278 1:=bQ kw
theorem zgV(x0:Sem Q5):rn oM 0 zhJ Tryz.f278 [zF Q5 x0] []=br (!dc (zm x0)) (Tr.ok (zC.ret (tup [str [],ai 1]) [])) (Qc (gB 16 (zm x0)) (Tr.ok (zC.ret (tup [str (aP 16 (zm x0)),ai 0]) []))):=kw
def mZ(x0:Sem Q5):Sem Q6×Sem zg:=(if(!dc x0)=Q3 then([],1)else(aP 16 x0,0))
def pQ(x0:Sem Q5):Bool:=(if(!dc x0)=Q3 then Q3 else if gB 16 x0=Q3 then Q3 else Q4)
def zdT:zY:=zR [Q5] [Q6,zg] (λx=>pQ x.1) λx=>((mZ x.1).1,(mZ x.1).2,())
theorem ZU:FK 278 zdT:=by
 refine aJ (Zm) λx hc C hC=>?_
 unfold pQ at hc;refine zD j7 (Zm) (λid _=>hC id) (zgV x.1) ?_;generalize hy:mZ x.1=y;unfold mZ at hy
 try simp only[zf.eta]
 repeat' (first|with_reducible refine tP hy hc (λ_ hy hc=>?_) (λ_ hy hc=>?_)|with_reducible refine dg hy (λ_ hy=>?_) (λ_ hy=>?_)|with_reducible refine ir hc (λhc=>?_)|with_reducible refine zK ?_)
 all_goals first|(cases hc;done)|(subst hy;first|rfl)
abbrev zie:Nat->aN:=λj=>if j=3 then{slots:=[0,4,5],prom:=[(4,Q2,bW)]}else{ }
abbrev JL(s0:TS)(i5:Int)(lh_0:LF):St:={tmps:=(tm 47 [(0,str s0),(4,AV.vec 0),(5,ai i5)]),heap:=[AO.vec zr lh_0]}
theorem zc0:zJ (oM).P 192 Tryz.f192 1:=bQ kw
theorem zlF(x0:TS):rn oM 0 zie Tryz.f192 [zF Q6 x0] []=Tr.ok (zC.head 3 (ae Tryz.f192 3) (JL x0 0 [])):=kw
theorem zc7(s0:TS)(i5:Int)(lh_0:LF):rh oM 0 zie Tryz.f192 3 (JL s0 i5 lh_0)=br (Q0 (i5<(↑(length s0):Int))) (Qc (zN i5 (length s0)&&bif (↑(getD s0 i5.toNat 0).toNat:Int)==32 then Q3 else zN i5 (length s0)) (br (bif (↑(getD s0 i5.toNat 0).toNat:Int)==32 then Q3 else(↑(getD s0 i5.toNat 0).toNat:Int)==10) (Tr.ok (zC.head 3 (ae Tryz.f192 3) (JL s0 (IntKind.i64.wrap (i5+1)) lh_0))) (Qc (Q0 (0<=i5)&&Q0 (i5<=(↑(length s0):Int))&&Q0 ((↑(length s0):Int)<=(↑(length s0):Int))) (Qc (kh (Qg ((↑(length s0):Int).toNat-i5.toNat) (Qh i5.toNat s0))) (Qc (qM (bB (Qg ((↑(length s0):Int).toNat-i5.toNat) (Qh i5.toNat s0))).1) (br (bif !cd (bB (Qg ((↑(length s0):Int).toNat-i5.toNat) (Qh i5.toNat s0))).1 then Q3 else(↑lh_0.length:Int)==400) (Tr.ok (zC.ret (tup [nils,ai 2]) [])) (Qc (Q0 (lh_0.length+[(bB (Qg ((↑(length s0):Int).toNat-i5.toNat) (Qh i5.toNat s0))).1].length<=1073741824)) (Tr.ok (zC.head 3 (ae Tryz.f192 3) (JL s0 (IntKind.i64.wrap (i5+(bB (Qg ((↑(length s0):Int).toNat-i5.toNat) (Qh i5.toNat s0))).2))
 (lh_0++[(bB (Qg ((↑(length s0):Int).toNat-i5.toNat) (Qh i5.toNat s0))).1]))))))))))) (Tr.ok (zC.ret (tup [AV.vec 0,ai 0]) [AO.vec zr lh_0])):=kw
def te:Nat->(Sem Sh.str)->Int->(List (Sem zr))->Sem bW.sl×Sem zg
 |0,_,_,_=>default
 |n+1,s0,i5,lh_0=>(if Q0 (i5<(↑(length s0):Int))=Q3 then
 if(bif (↑(getD s0 i5.toNat 0).toNat:Int)==32 then Q3 else(↑(getD s0 i5.toNat 0).toNat:Int)==10)=Q3 then
  te n s0 (IntKind.i64.wrap (i5+1)) lh_0
 else
  if
    (bif !cd (bB (Qg ((↑(length s0):Int).toNat-i5.toNat) (Qh i5.toNat s0))).1 then Q3
     else(↑lh_0.length:Int)==400)=
     Q3 then
   ([],2)
  else
   te n s0 (IntKind.i64.wrap (i5+(bB (Qg ((↑(length s0):Int).toNat-i5.toNat) (Qh i5.toNat s0))).2))
    (lh_0++[(bB (Qg ((↑(length s0):Int).toNat-i5.toNat) (Qh i5.toNat s0))).1])
else(lh_0,0))
def rT:Nat->(Sem Sh.str)->Int->(List (Sem zr))->Bool
 |0,_,_,_=>Q4
 |n+1,s0,i5,lh_0=>(if Q0 (i5<(↑(length s0):Int))=Q3 then
 if (zN i5 (length s0)&&bif (↑(getD s0 i5.toNat 0).toNat:Int)==32 then true else zN i5 (length s0))=true then
  if(bif (↑(getD s0 i5.toNat 0).toNat:Int)==32 then Q3 else(↑(getD s0 i5.toNat 0).toNat:Int)==10)=Q3 then
   rT n s0 (IntKind.i64.wrap (i5+1)) lh_0
  else
   if (decide (0≤i5)&&decide (i5≤(↑(length s0):Int))&&decide ((↑(length s0):Int)≤(↑(length s0):Int)))=true then
    if kh (List.take ((↑(length s0):Int).toNat-i5.toNat) (List.drop i5.toNat s0))=true then
     if qM (bB (List.take ((↑(length s0):Int).toNat-i5.toNat) (List.drop i5.toNat s0))).1=true then
      if
        (bif !cd (bB (Qg ((↑(length s0):Int).toNat-i5.toNat) (Qh i5.toNat s0))).1 then Q3
         else(↑lh_0.length:Int)==400)=
         Q3 then
       Q3
      else
       if
         Q0 (lh_0.length+[(bB (Qg ((↑(length s0):Int).toNat-i5.toNat) (Qh i5.toNat s0))).1].length<=1073741824)=
          Q3 then
        rT n s0 (IntKind.i64.wrap (i5+(bB (Qg ((↑(length s0):Int).toNat-i5.toNat) (Qh i5.toNat s0))).2))
         (lh_0++[(bB (Qg ((↑(length s0):Int).toNat-i5.toNat) (Qh i5.toNat s0))).1])
       else Q4
     else Q4
    else Q4
   else Q4
 else Q4
else Q3)
theorem Qs{C:eS}(hC:∀id,C.ρ0 id=Q2):∀(n:Nat)(s0:TS)(i5:Int)(lh_0:LF),rT n s0 i5 lh_0=Q3->
  Reach (oM) C 192 (ae Tryz.f192 3) (JL s0 i5 lh_0) (λr h=>aM h [bW.sl,zg] r=Q1 ((te n s0 i5 lh_0).1,(te n s0 i5 lh_0).2,()))
 |0,s0,i5,lh_0,hc=>by cases hc
 | n+1,s0,i5,lh_0,hc=>by
  refine zD j7 (zc0) (λid _=>hC id) (zc7 _ _ _) ?_;rw[rT]at hc;generalize hy:te (n+1) s0 i5 lh_0=y;rw[te]at hy
  try simp only[zf.eta,zk]
  repeat' (first|with_reducible refine tP hy hc (λ_ hy hc=>?_) (λ_ hy hc=>?_)|with_reducible refine dg hy (λ_ hy=>?_) (λ_ hy=>?_)|with_reducible refine ir hc (λhc=>?_)|with_reducible refine zK ?_)
  all_goals first|(cases hc;done)|(subst hy;first|(change Reach _ _ _ _ _ _;refine Qs hC n _ _ _ ?_<;>exact hc)|rfl)
def cut(x0:TS):Sem bW.sl×Sem zg:=(te (length x0+1) x0 0 [])
def QC(x0:TS):Bool:=(rT (length x0+1) x0 0 [])
def F69:zY:=zR [Q6] [bW.sl,zg] (λx=>QC x.1) λx=>((cut x.1).1,(cut x.1).2,())
theorem zfY:FK 192 F69:=by
 refine aJ (zc0) λx hc C hC=>?_
 unfold QC at hc;refine zD j7 (zc0) (λid _=>hC id) (zlF x.1) ?_;generalize hy:cut x.1=y;unfold cut at hy
 try simp only[zf.eta,zk]
 repeat' (first|with_reducible refine tP hy hc (λ_ hy hc=>?_) (λ_ hy hc=>?_)|with_reducible refine dg hy (λ_ hy=>?_) (λ_ hy=>?_)|with_reducible refine ir hc (λhc=>?_)|with_reducible refine zK ?_)
 all_goals first|(cases hc;done)|(subst hy;first|(change Reach _ _ _ _ _ _;refine Qs hC _ _ _ _ ?_<;>exact hc)|rfl)
noncomputable def Ie:=oM.addL [(295,zdW),(278,zdT),(192,F69)]
theorem vF:zx Ie:=j7.addL<|fc ZX<|fc ZU<|fc zfY iV
noncomputable def zdL:zY:=bg (List.replicate 2 Q2) (fe Ie Tryz.f264 (List.replicate 2 Q2))
theorem ZM:FK 264 zdL:=bY _ vF (bQ kw)
abbrev zmi:Nat->aN:=λ_=>{ }
theorem zjr:zJ (Ie).P 237 Tryz.f237 1:=bQ kw
theorem zlP(x0:Sem Q5):rn Ie 0 zmi Tryz.f237 [zF Q5 x0] []=Qc (pQ (zm x0)) (Tr.ok (zC.ret (str (mZ (zm x0)).1) [])):=kw
def iD(x0:Sem Q5):Sem Q6:=((mZ x0).1)
def pG(x0:Sem Q5):Bool:=(if pQ x0=Q3 then Q3 else Q4)
def F94:zY:=zR [Q5] [Q6] (λx=>pG x.1) λx=>(iD x.1,())
theorem zgl:FK 237 F94:=by
 refine aJ (zjr) λx hc C hC=>?_
 unfold pG at hc;refine zD vF (zjr) (λid _=>hC id) (zlP x.1) ?_;generalize hy:iD x.1=y;unfold iD at hy
 try simp only[zf.eta]
 repeat' (first|with_reducible refine tP hy hc (λ_ hy hc=>?_) (λ_ hy hc=>?_)|with_reducible refine dg hy (λ_ hy=>?_) (λ_ hy=>?_)|with_reducible refine ir hc (λhc=>?_)|with_reducible refine zK ?_)
 all_goals first|(cases hc;done)|(subst hy;first|rfl)
noncomputable def If:=Ie.addL [(264,zdL),(237,F94)]
theorem vG:zx If:=vF.addL<|fc ZM<|fc zgl iV
noncomputable def F86:zY:=bg (List.replicate 4 Q2) (fe If Tryz.f229 (List.replicate 4 Q2))
theorem zgd:FK 229 F86:=bY _ vG (bQ kw)
abbrev zmj:Nat->aN:=λ_=>{ }
theorem zjs:zJ (If).P 241 Tryz.f241 2:=bQ kw
theorem zlR(x0:TS)(x1:Sem Q5):rn If 0 zmj Tryz.f241 [zF Q6 x0,zF Q5 x1] []=br (gR (zm x1)) (Tr.ok (zC.ret (str []) [])) (Qc (Q0 (length x0+[67,72,69,67,75,32,40,32].length<=1099511627776)) (Qc (pG (zm x1)) (Qc (Q0 (length (x0++[67,72,69,67,75,32,40,32])+length (iD (zm x1))<=1099511627776)) (Qc (Q0 (length (x0++[67,72,69,67,75,32,40,32]++iD (zm x1))+[32,41].length<=1099511627776)) (Tr.ok (zC.ret (str (x0++[67,72,69,67,75,32,40,32]++iD (zm x1)++[32,41])) [])))))):=kw
def ko(x0:TS)(x1:Sem Q5):Sem Q6:=(if gR x1=Q3 then[]else x0++[67,72,69,67,75,32,40,32]++iD x1++[32,41])
def sY(x0:TS)(x1:Sem Q5):Bool:=(if gR x1=Q3 then Q3 else if Q0 (length x0+[67,72,69,67,75,32,40,32].length<=1099511627776)=Q3 then if pG x1=Q3 then if Q0 (length (x0++[67,72,69,67,75,32,40,32])+length (iD x1)<=1099511627776)=Q3 then if Q0 (length (x0++[67,72,69,67,75,32,40,32]++iD x1)+[32,41].length<=1099511627776)=Q3 then Q3 else Q4 else Q4 else Q4 else Q4)
def F98:zY:=zR [Q6,Q5] [Q6] (λx=>sY x.1 x.2.1) λx=>(ko x.1 x.2.1,())
theorem zgn:FK 241 F98:=by
 refine aJ (zjs) λx hc C hC=>?_
 unfold sY at hc;refine zD vG (zjs) (λid _=>hC id) (zlR x.1 x.2.1) ?_;generalize hy:ko x.1 x.2.1=y;unfold ko at hy
 try simp only[zf.eta]
 repeat' (first|with_reducible refine tP hy hc (λ_ hy hc=>?_) (λ_ hy hc=>?_)|with_reducible refine dg hy (λ_ hy=>?_) (λ_ hy=>?_)|with_reducible refine ir hc (λhc=>?_)|with_reducible refine zK ?_)
 all_goals first|(cases hc;done)|(subst hy;first|rfl)
noncomputable def Yw:=If.addL [(229,F86),(241,F98)]
theorem OB:zx Yw:=vG.addL<|fc zgd<|fc zgn iV
def zj4(x0:Sem zl):Sem Q7:=(bif bif Q0 ((↑(length x0.2.2.2.2.1):Int)<1)then Q3 else Q0 ((↑(length x0.2.2.2.2.1):Int)>8)then Q4 else bif !Q0 (zU (λx=>!zgz x) x0.2.2.2.2.1 0>=0)then bif bP x0.2.2.2.2.2.1 then bif bif Q0 ((↑(length x0.2.2.2.2.2.2.1):Int)<0)then Q3 else Q0 ((↑(length x0.2.2.2.2.2.2.1):Int)>8)then Q4 else bif !Q0 (zU (λx=>!bP x) x0.2.2.2.2.2.2.1 0>=0)then bif bif Q0 ((↑(length x0.2.2.2.2.2.2.2.1):Int)<0)then Q3 else Q0 ((↑(length x0.2.2.2.2.2.2.2.1):Int)>8)then Q4 else bif !Q0 (zU (λx=>!zjO x) x0.2.2.2.2.2.2.2.1 0>=0)then bR x0.2.2.2.2.2.2.2.2.1 else Q4 else Q4 else Q4 else Q4)
noncomputable def Yx:=Yw
theorem vH:zx Yx:=OB
noncomputable section
def tA(x0:Sem zl):Tr (Empty⊕ar):=
 let a0:=zm x0.t.t.1
 let a1:=zm x0.t.t.q.2.1
 let a2:=(x0.t.t.2.1,x0.t.t.q.1,a1,x0.t.t.t)
 let a3:=(x0.1,[],x0.2.2.1,x0.2.2.2.1,x0.t.1,x0.t.2.1,x0.t.q.1,x0.t.q.2.1,a0,a2)
 let a4:=bif bP x0.2.1 then bR a1 else Q4
 let a5:=(x0.1,[],x0.2.2.1,x0.2.2.2.1,x0.t.1,x0.t.2.1,x0.t.q.1,x0.t.q.2.1,a0,x0.t.t.2.1,x0.t.t.q.1,zf.mk [] (0,0,[]) [] [],x0.t.t.t)
 let a6:=bP x0.t.t.t
 let a7:=bif bP x0.2.1 then a6 else Q4
 let a8:=(x0.t.t.2.1,x0.t.t.q.1,a1,[])
 let a9:=(x0.1,[],x0.2.2.1,x0.2.2.2.1,x0.t.1,x0.t.2.1,x0.t.q.1,x0.t.q.2.1,a0,a8)
 let a10:=bP x0.2.2.1
 let a11:=(↑(length x0.2.2.2.1):Int)
 let a12:=zU (λx=>!bP x) x0.2.2.2.1 0
 let a13:=bR a0
 let a14:=bif !Q0 (a12>=0)then a13 else Q4
 let a15:=bif bP x0.2.1 then bif a10 then bif bif Q0 (a11<1)then Q3 else Q0 (a11>8)then Q4 else a14 else Q4 else Q4
 let a16:=(x0.1,[],[],[],x0.t.1,x0.t.2.1,x0.t.q.1,x0.t.q.2.1,zf.mk [] (0,0,[]) [] [],a2)
 let a17:=ea a16
 let a18:=ez a16
 let a19:=bif bP x0.2.1 then bif a10 then bif bP x0.t.2.1 then bif a6 then a13 else Q4 else Q4 else Q4 else Q4
 let a20:=(x0.1,[],[],x0.2.2.2.1,x0.t.1,[],x0.t.q.1,x0.t.q.2.1,zf.mk [] (0,0,[]) [] [],a8)
 let a21:=bif bP x0.2.1 then bif a10 then bif bif Q0 (a11<2)then Q3 else Q0 (a11>2)then Q4 else a14 else Q4 else Q4
 br (x0.1==[99,114,101,97,116,101]) (br (bP x0.2.1) Tr.err (re (kb Q4) []))
 (br (x0.1==[100,114,111,112])
  (Qc (bif bP x0.2.1 then ea a3 else Q3) (re (AV.bool (bif bP x0.2.1 then ez a3 else Q4)) []))
  (br (x0.1==[105,110,115,101,114,116]) (br (bP x0.2.1) Tr.err (re (kb Q4) [])) (br (x0.1==[117,112,100,97,116,101]) (br (bP x0.2.1) Tr.err (re (kb Q4) [])) (br (x0.1==[100,101,108,101,116,101]) (Qc (bif a4 then ea a5 else Q3) (re (AV.bool (bif a4 then ez a5 else Q4)) []))
  (br (x0.1==[115,101,108,101,99,116]) (Qc (bif a4 then ea a5 else Q3) (re (AV.bool (bif a4 then ez a5 else Q4)) [])) (br (x0.1==[114,101,97,100]) (Qc (bif a7 then ea a9 else Q3) (re (AV.bool (bif a7 then ez a9 else Q4)) []))
  (br (x0.1==[119,114,105,116,101]) (Qc (bif a7 then ea a9 else Q3) (re (AV.bool (bif a7 then ez a9 else Q4)) [])) (br (x0.1==[117,110,114,101,97,100]) (Qc (bif a7 then ea a9 else Q3) (re (AV.bool (bif a7 then ez a9 else Q4)) [])) (br (x0.1==[117,110,119,114,105,116,101])
  (Qc (bif a7 then ea a9 else Q3) (re (AV.bool (bif a7 then ez a9 else Q4)) [])) (br (x0.1==[99,111,112,121]) (Qc (bif a15 then a17 else Q3) (re (AV.bool (bif a15 then a18 else Q4)) [])) (br (x0.1==[106,111,105,110]) (Qc (bif a19 then ea a20 else Q3) (re (AV.bool (bif a19 then ez a20 else Q4)) []))
  (br (x0.1==[103,114,111,117,112]) (Qc (bif a21 then a17 else Q3) (re (AV.bool (bif a21 then a18 else Q4)) [])) (re (kb Q4) [])))))))))))))
def yS(x0:Sem zl):=ao [Q7] t0 100000000 (tA x0)
def uz(x0:Sem zl):=(yS x0).isSome
def eZ(x0:Sem zl):=o1 (yS x0)
def XF:=FT [zl] [Q7] λx=>yS x.1
theorem US:FK 190 XF:=vH.T1 (f:=Tryz.f190) (keep:=k0) (e:=e0)
def xj(x0:Sem zl):Tr (Empty⊕ar):=
 let a0:=Q0 (length x0.1<=140737488355328)&&List.all x0.1 λb=>Q0 (b.toNat<128)
 let a1:=[77,73,71,82,65,84,69,32]++Lib.toUpperA x0.1
 let a2:=a1++[32]
 let a3:=a2++x0.2.1
 let a4:=a3++[32,70,82,79,77,32]
 let a5:=[71,82,65,78,84,32]++Lib.toUpperA x0.1
 let a6:=a5++[32,79,78,32]
 let a7:=a6++x0.2.1
 let a8:=a7++[32,84,79,32]
 let a9:=Qg ((↑(length x0.1):Int).toNat-toNat 2) (Qh (toNat 2) x0.1)
 let a10:=Lib.toUpperA a9
 let a11:=[82,69,86,79,75,69,32]++a10
 let a12:=a11++[32,79,78,32]
 let a13:=a12++x0.2.1
 let a14:=a13++[32,70,82,79,77,32]
 let a15:=a4++x0.2.2.1
 let a16:=a15++[32,40,32]
 let a17:=gy x0.2.2.2.1
 let a18:=a16++a17
 let a19:=zm x0.t.t.1
 let a20:=sY [32] a19
 let a21:=a18++[32,41]
 let a22:=ko [32] a19
 let a23:=a15++[32,44,32]
 let a24:=a23++x0.t.t.t
 let a25:=a24++[32,79,78,32]
 let a26:=a25++x0.t.2.1
 let a27:=a15++[32,66,89,32]
 let a28:=getD x0.2.2.2.1 (toNat 0) (zi Q6)
 let a29:=a27++a28
 let a30:=a29++[32,83,85,77,32]
 let a31:=getD x0.2.2.2.1 (toNat 1) (zi Q6)
 let a32:=a30++a31
 Qc a0
 (Qc (Q0 ([77,73,71,82,65,84,69,32].length+(Lib.toUpperA x0.1).length<=1099511627776))
  (Qc (Q0 (length a1+[32].length<=1099511627776)) (Qc (Q0 (length a2+length x0.2.1<=1099511627776)) (Qc (Q0 (length a3+[32,70,82,79,77,32].length<=1099511627776)) (Qc (Q0 (length a4+length x0.2.2.1<=1099511627776)) (br (x0.1==[99,114,101,97,116,101]) Tr.err (br (x0.1==[100,114,111,112])
  (Qc (Q0 ([68,82,79,80,32,84,65,66,76,69,32].length+length x0.2.1<=1099511627776)) (re (str ([68,82,79,80,32,84,65,66,76,69,32]++x0.2.1)) [])) (br (x0.1==[105,110,115,101,114,116]) (Qc (Q0 ([73,78,83,69,82,84,32,73,78,84,79,32].length+length x0.2.1<=1099511627776)) (Qc (decide
  (length ([73,78,83,69,82,84,32,73,78,84,79,32]++x0.2.1)+[32,86,65,76,85,69,83,32,40,32].length<=1099511627776)) Tr.err)) (br (x0.1==[117,112,100,97,116,101]) (Qc (Q0 ([85,80,68,65,84,69,32].length+length x0.2.1<=1099511627776))
  (Qc (Q0 (length ([85,80,68,65,84,69,32]++x0.2.1)+[32,83,69,84,32].length<=1099511627776)) Tr.err)) (br (x0.1==[100,101,108,101,116,101]) (Qc (Q0 ([68,69,76,69,84,69,32,70,82,79,77,32].length+length x0.2.1<=1099511627776)) Tr.err) (br (x0.1==[115,101,108,101,99,116])
  (Qc (Q0 ([83,69,76,69,67,84,32,42,32,70,82,79,77,32].length+length x0.2.1<=1099511627776)) Tr.err) (br (x0.1==[114,101,97,100]) (Qc a0 (Qc (Q0 ([71,82,65,78,84,32].length+(Lib.toUpperA x0.1).length<=1099511627776)) (Qc (Q0 (length a5+[32,79,78,32].length<=1099511627776))
  (Qc (Q0 (length a6+length x0.2.1<=1099511627776)) (Qc (Q0 (length a7+[32,84,79,32].length<=1099511627776)) (Qc (Q0 (length a8+length x0.t.t.t<=1099511627776)) (re (str (a8++x0.t.t.t)) []))))))) (br (x0.1==[119,114,105,116,101]) (Qc a0
  (Qc (Q0 ([71,82,65,78,84,32].length+(Lib.toUpperA x0.1).length<=1099511627776)) (Qc (Q0 (length a5+[32,79,78,32].length<=1099511627776)) (Qc (Q0 (length a6+length x0.2.1<=1099511627776)) (Qc (Q0 (length a7+[32,84,79,32].length<=1099511627776))
  (Qc (Q0 (length a8+length x0.t.t.t<=1099511627776)) (re (str (a8++x0.t.t.t)) []))))))) (br (x0.1==[117,110,114,101,97,100]) (Qc (Q0 (0<=2)&&Q0 (2<=(↑(length x0.1):Int))&&Q0 ((↑(length x0.1):Int)<=(↑(length x0.1):Int)))
  (Qc (Q0 (a9.length<=140737488355328)&&a9.all λb=>Q0 (b.toNat<128)) (Qc (Q0 ([82,69,86,79,75,69,32].length+a10.length<=1099511627776)) (Qc (Q0 (length a11+[32,79,78,32].length<=1099511627776)) (Qc (Q0 (length a12+length x0.2.1<=1099511627776))
  (Qc (Q0 (length a13+[32,70,82,79,77,32].length<=1099511627776)) (Qc (Q0 (length a14+length x0.t.t.t<=1099511627776)) (re (str (a14++x0.t.t.t)) [])))))))) (br (x0.1==[117,110,119,114,105,116,101]) (Qc (Q0 (0<=2)&&Q0 (2<=(↑(length x0.1):Int))&&
  Q0 ((↑(length x0.1):Int)<=(↑(length x0.1):Int))) (Qc (Q0 (a9.length<=140737488355328)&&a9.all λb=>Q0 (b.toNat<128)) (Qc (Q0 ([82,69,86,79,75,69,32].length+a10.length<=1099511627776)) (Qc (Q0 (length a11+[32,79,78,32].length<=1099511627776)) (Qc (Q0 (length a12+length x0.2.1<=1099511627776))
  (Qc (Q0 (length a13+[32,70,82,79,77,32].length<=1099511627776)) (Qc (Q0 (length a14+length x0.t.t.t<=1099511627776)) (re (str (a14++x0.t.t.t)) [])))))))) (br (x0.1==[99,111,112,121]) (Qc (Q0 (length a15+[32,40,32].length<=1099511627776)) (Qc (mF x0.2.2.2.1)
  (Qc (Q0 (length a16+length a17<=1099511627776)) (Qc (Q0 (length a18+[32,41].length<=1099511627776)) (Qc a20 (Qc (Q0 (length a21+length a22<=1099511627776)) (re (str (a21++a22)) []))))))) (br (x0.1==[106,111,105,110]) (Qc (Q0 (length a15+[32,44,32].length<=1099511627776))
  (Qc (Q0 (length a23+length x0.t.t.t<=1099511627776)) (Qc (Q0 (length a24+[32,79,78,32].length<=1099511627776)) (Qc (Q0 (length a25+length x0.t.2.1<=1099511627776)) (Qc a20 (Qc (Q0 (length a26+length a22<=1099511627776)) (re (str (a26++a22)) [])))))))
  (Qc (Q0 (length a15+[32,66,89,32].length<=1099511627776)) (Qc (zN 0 (length x0.2.2.2.1)) (Qc (Q0 (length a27+length a28<=1099511627776)) (Qc (Q0 (length a29+[32,83,85,77,32].length<=1099511627776)) (Qc (zN 1 (length x0.2.2.2.1)) (Qc (Q0 (length a30+length a31<=1099511627776)) (Qc a20
  (Qc (Q0 (length a32+length a22<=1099511627776)) (re (str (a32++a22)) []))))))))))))))))))))))))))
def G0(x0:Sem zl):=ao [Q6] t0 100000000 (xj x0)
def Cz(x0:Sem zl):=(G0 x0).isSome
def iB(x0:Sem zl):=o1 (G0 x0)
def XG:=FT [zl] [Q6] λx=>G0 x.1
theorem UT:FK 191 XG:=vH.T1 (f:=Tryz.f191) (keep:=k0) (e:=e0)
def Mx:=Yx.addL [(190,XF),(191,XG)]
theorem D0:zx Mx:=vH.addL<|fc US<|fc UT<|iV
end
abbrev zl9:Nat->aN:=λ_=>{ }
theorem zi6:zJ (Mx).P 143 Tryz.f143 1:=bQ kw
theorem zlv(x0:Sem zl):rn Mx 0 zl9 Tryz.f143 [zF zl x0] []=Qc (uz (Dd x0)) (br (!eZ (Dd x0)) (Tr.ok (zC.ret (tup [str [],ai 1]) [])) (Qc (Cz (Dd x0)) (Qc (QC (iB (Dd x0))) (br ((cut (iB (Dd x0))).2!=0) (Tr.ok (zC.ret (tup [str [],ai 1]) [])) (Tr.ok (zC.ret (tup [str (iB (Dd x0)),ai 0]) [])))))):=kw
noncomputable def pn(x0:Sem zl):Sem Q6×Sem zg:=(if(!eZ x0)=Q3 then([],1)else if((cut (iB x0)).2!=0)=Q3 then([],1)else(iB x0,0))
noncomputable def uD(x0:Sem zl):Bool:=(if uz x0=Q3 then if(!eZ x0)=Q3 then Q3 else if Cz x0=Q3 then if QC (iB x0)=Q3 then Q3 else Q4 else Q4 else Q4)
noncomputable def F52:zY:=zR [zl] [Q6,zg] (λx=>uD x.1) λx=>((pn x.1).1,(pn x.1).2,())
theorem zfL:FK 143 F52:=by
 refine aJ (zi6) λx hc C hC=>?_
 unfold uD at hc;refine zD D0 (zi6) (λid _=>hC id) (zlv x.1) ?_;generalize hy:pn x.1=y;unfold pn at hy
 try simp only[MF]
 repeat' (first|with_reducible refine tP hy hc (λ_ hy hc=>?_) (λ_ hy hc=>?_)|with_reducible refine dg hy (λ_ hy=>?_) (λ_ hy=>?_)|with_reducible refine ir hc (λhc=>?_)|with_reducible refine zK ?_)
 all_goals first|(cases hc;done)|(subst hy;first|rfl)
noncomputable def My:=Mx.add 143 F52
theorem D1:zx My:=D0.add zfL
abbrev zl8:Nat->aN:=λ_=>{ }
theorem ziN:zJ (My).P 98 Tryz.f98 1:=bQ kw
theorem zld(x0:Sem zl):rn My 0 zl8 Tryz.f98 [zF zl x0] []=Qc (uD (Dd x0)) (Tr.ok (zC.ret (AV.bool ((pn (Dd x0)).2==0)) [])):=kw
noncomputable def dY(x0:Sem zl):Sem Q7:=((pn x0).2==0)
noncomputable def nH(x0:Sem zl):Bool:=(if uD x0=Q3 then Q3 else Q4)
noncomputable def F31:zY:=zR [zl] [Q7] (λx=>nH x.1) λx=>(dY x.1,())
theorem zfs:FK 98 F31:=by
 refine aJ (ziN) λx hc C hC=>?_
 unfold nH at hc;refine zD D1 (ziN) (λid _=>hC id) (zld x.1) ?_;generalize hy:dY x.1=y;unfold dY at hy
 try simp only[MF]
 repeat' (first|with_reducible refine tP hy hc (λ_ hy hc=>?_) (λ_ hy hc=>?_)|with_reducible refine dg hy (λ_ hy=>?_) (λ_ hy=>?_)|with_reducible refine ir hc (λhc=>?_)|with_reducible refine zK ?_)
 all_goals first|(cases hc;done)|(subst hy;first|rfl)
noncomputable def nO:=My.add 98 F31
theorem iT:zx nO:=D1.add zfs
noncomputable def zff:zY:=bg (List.replicate 2 Q2) (fe nO Tryz.f197 (List.replicate 2 Q2))
theorem zbm:FK 197 zff:=bY _ iT (bQ kw)
abbrev zhQ:Nat->aN:=λ_=>{ }
theorem Zo:zJ (nO).P 38 Tryz.f38 1:=bQ kw
theorem zgZ(x0:TS):rn nO 0 zhQ Tryz.f38 [zF Q6 x0] []=br (Q0 ((↑(length x0):Int)>20)) (Qc (Q0 (0<=0)&&Q0 (0<=20)&&Q0 (20<=(↑(length x0):Int))) (Tr.ok (zC.ret (str (Qg (toNat 20-toNat 0) (Qh (toNat 0) x0))) []))) (Tr.ok (zC.ret (str x0) [])):=kw
def cV(x0:TS):Sem Q6:=(if Q0 ((↑(length x0):Int)>20)=Q3 then Qg (toNat 20-toNat 0) (Qh (toNat 0) x0)else x0)
def ff(x0:TS):Bool:=(if Q0 ((↑(length x0):Int)>20)=Q3 then if(Q0 (0<=0)&&Q0 (0<=20)&&Q0 (20<=(↑(length x0):Int)))=Q3 then Q3 else Q4 else Q3)
def zeb:zY:=zR [Q6] [Q6] (λx=>ff x.1) λx=>(cV x.1,())
theorem zac:FK 38 zeb:=by
 refine aJ (Zo) λx hc C hC=>?_
 unfold ff at hc;refine zD iT (Zo) (λid _=>hC id) (zgZ x.1) ?_;generalize hy:cV x.1=y;unfold cV at hy
 try simp only[zf.eta]
 repeat' (first|with_reducible refine tP hy hc (λ_ hy hc=>?_) (λ_ hy hc=>?_)|with_reducible refine dg hy (λ_ hy=>?_) (λ_ hy=>?_)|with_reducible refine ir hc (λhc=>?_)|with_reducible refine zK ?_)
 all_goals first|(cases hc;done)|(subst hy;first|rfl)
abbrev zcG:Nat->aN:=λ_=>{ }
theorem SZ:zJ (nO).P 68 Tryz.f68 3:=bQ kw
theorem zb4(x0:Sem ze.sl)(x1:Sem zg)(x2:Sem ze):rn nO 0 zcG Tryz.f68 [zF ze.sl x0,zF zg x1,zF ze x2] []=Qc (bif Q0 (x1>=0)then bif Q0 (x1<(↑(length x0):Int))then zN x1 (length x0)else Q3 else Q3) (Tr.ok (zC.ret (AV.bool (bif Q0 (x1>=0)then bif Q0 (x1<(↑(length x0):Int))then(getD x0 (toNat x1) (zi ze)).1==x2.1&&((getD x0 (toNat x1) (zi ze)).2.1==x2.2.1&&((getD x0 (toNat x1) (zi ze)).2.2==x2.2.2&&Q3))else Q4 else Q4)) [])):=kw
def bw(x0:Sem ze.sl)(x1:Sem zg)(x2:Sem ze):Sem Q7:=(bif Q0 (x1>=0)then bif Q0 (x1<(↑(length x0):Int))then(getD x0 (toNat x1) (zi ze)).1==x2.1&&((getD x0 (toNat x1) (zi ze)).2.1==x2.2.1&&((getD x0 (toNat x1) (zi ze)).2.2==x2.2.2&&Q3))else Q4 else Q4)
def yM(x0:Sem ze.sl)(x1:Sem zg)(_:Sem ze):Bool:=(if(bif Q0 (x1>=0)then bif Q0 (x1<(↑(length x0):Int))then zN x1 (length x0)else Q3 else Q3)=Q3 then Q3 else Q4)
def X7:zY:=zR [ze.sl,zg,ze] [Q7] (λx=>yM x.1 x.2.1 x.2.2.1) λx=>(bw x.1 x.2.1 x.2.2.1,())
theorem Mc:FK 68 X7:=by
 refine aJ (SZ) λx hc C hC=>?_
 unfold yM at hc;refine zD iT (SZ) (λid _=>hC id) (zb4 x.1 x.2.1 x.2.2.1) ?_;generalize hy:bw x.1 x.2.1 x.2.2.1=y;unfold bw at hy
 try simp only[zf.eta]
 repeat' (first|with_reducible refine tP hy hc (λ_ hy hc=>?_) (λ_ hy hc=>?_)|with_reducible refine dg hy (λ_ hy=>?_) (λ_ hy=>?_)|with_reducible refine ir hc (λhc=>?_)|with_reducible refine zK ?_)
 all_goals first|(cases hc;done)|(subst hy;first|rfl)
abbrev Za:Nat->aN:=λj=>if j=2 then{slots:=[0,1,5]}else{ }
abbrev Ct(l0:List (Sem zh))(s1:TS)(i5:Int):St:={tmps:=(tm 21 [(0,sl zh l0),(1,str s1),(5,ai i5)]),heap:=[]}
theorem MX:zJ (nO).P 45 Tryz.f45 2:=bQ kw
theorem zgX(x0:Sem zh.sl)(x1:TS):rn nO 0 Za Tryz.f45 [zF zh.sl x0,zF Q6 x1] []=Tr.ok (zC.head 2 (ae Tryz.f45 2) (Ct x0 x1 0)):=kw
theorem M2(l0:List (Sem zh))(s1:TS)(i5:Int):rh nO 0 Za Tryz.f45 2 (Ct l0 s1 i5)=br (Q0 (i5<(↑l0.length:Int))) (Qc (zN i5 l0.length) (br ((l0.getD i5.toNat (zi zh)).1.1==s1) (Tr.ok (zC.ret (ai i5) [])) (Tr.ok (zC.head 2 (ae Tryz.f45 2) (Ct l0 s1 (IntKind.i64.wrap (i5+1))))))) (Tr.ok (zC.ret (ai (-1)) [])):=kw
def gw(s1:TS):List
 (Sem zh)->Int->Sem zg
 |[],_=>(-1)
 |x::r,i5=>(if(x.1.1==s1)=Q3 then i5 else gw s1 r (i5+1))
theorem VF{C:eS}(hC:∀id,C.ρ0 id=Q2)(s1:TS)(l0:List
 (Sem zh)) (hl:l0.length<=aF):∀(m i:Nat),l0.length-i=m->i<=l0.length->
  Reach (nO) C 45 (ae Tryz.f45 2) (Ct l0 s1 (i:Int)) (λr h=>aM h [zg] r=Q1 (gw s1 (l0.drop i) i,())):=by
 intro m
 induction m with
 | zero=>
  intro i hm hi;obtain rfl:i=l0.length:=by omega
  rw[jo];refine zD iT (MX) (λid _=>hC id) (M2 _ _ _) ?_;generalize hy:gw s1 [] _=y;rw[gw]at hy;simp only[zA,Tr.val_brF];repeat' (first|with_reducible refine dg hy (λ_ hy=>?_) (λ_ hy=>?_)|with_reducible refine zK ?_)
  all_goals first|(cases hc;done)|(subst hy;first|rfl)
 | succ m IH=>
  intro i hm hi;have hlt:i<l0.length:=by omega
  have IH:=IH (i+1);have hcast:((i:Int)+1)=((i+1:Nat):Int):=by omega
  have hwr:=zp i ow;rw[fu hlt];refine zD iT (MX) (λid _=>hC id) (M2 _ _ _) ?_;generalize hy:gw s1 (l0[i]::l0.drop (i+1)) (i:Int)=y;rw[gw]at hy;simp only[zH hlt,zt hlt,cA l0 _ hlt,hwr,Tr.val_brT,Tr.val_chkT];clear hwr
  try simp only[zt hlt]at hy
  simp only[hcast]at hy;repeat' (first|with_reducible refine dg hy (λ_ hy=>?_) (λ_ hy=>?_)|with_reducible refine zK ?_)
  all_goals first|(cases hc;done)|(subst hy;first|(change Reach _ _ _ _ _ _;apply IH<;>first|omega|assumption)|rfl)
theorem Qo{C:eS}(hC:∀id,C.ρ0 id=Q2)(s1:TS)(l0:List
 (Sem zh)):
  Reach (nO) C 45 (ae Tryz.f45 2) (Ct l0 s1 0) (λr h=>aM h [zg] r=Q1 (gw s1 l0 0,())):=
 Reach.len 0 zh l0 rfl λhl=>VF hC s1 l0 hl _ 0 rfl (aZ _)
def kP(x0:Sem zh.sl)(x1:TS):Sem zg:=(gw x1 x0 0)
def zdX:zY:=aE [zh.sl,Q6] [zg] λx=>(kP x.1 x.2.1,())
theorem ZY:FK 45 zdX:=by
 refine zZ (MX) λx C hC=>?_
 refine zD iT (MX) (λid _=>hC id) (zgX x.1 x.2.1) ?_;generalize hy:kP x.1 x.2.1=y;unfold kP at hy
 try simp only[zf.eta]
 repeat' (first|with_reducible refine dg hy (λ_ hy=>?_) (λ_ hy=>?_)|with_reducible refine zK ?_)
 all_goals first|(cases hc;done)|(subst hy;first|(change Reach _ _ _ _ _ _;apply Qo hC<;>first|assumption|exact hc)|rfl)
noncomputable def ro:=nO.addL [(197,zff),(38,zeb),(68,X7),(45,zdX)]
theorem j8:zx ro:=iT.addL<|fc zbm<|fc zac<|fc Mc<|fc ZY iV
theorem GU(x:Sem (Sh.sl ze))(c:Int)(v:Sem ze):yM x c v=Q3:=by
 unfold yM;by_cases h1:(c:Int)>=0
 ·by_cases h2:c<(length x:Int)
  ·have h3:zN c (length x)=Q3:=by simp[zN];exact⟨h1,h2⟩
   simp[zu h1,zu h2,h3]
  ·simp[zu h1,aj h2]
 ·simp[aj h1]
def X8:zY:=aE [Sh.sl ze,zg,ze] [Q7] λx=>(bw x.1 x.2.1 x.2.2.1,())
theorem Vn:FK 68 X8:=mM Mc λx=>GU x.1 x.2.1 x.2.2.1
abbrev Zb:Nat->aN:=λj=>if j=3 then{slots:=[0,3,4],prom:=[(3,Q2,.str)]}else{ }
abbrev Cu(l0:LS)(i4:Int)(lh_0:LS):St:={tmps:=(tm 24 [(0,sl Q6 l0),(3,AV.vec 0),(4,ai i4)]),heap:=[AO.vec Q6 lh_0]}
theorem MY:zJ (ro).P 39 Tryz.f39 1:=bQ kw
theorem zg0(x0:Sem Sh.str.sl):rn ro 0 Zb Tryz.f39 [zF Sh.str.sl x0] []=Tr.ok (zC.head 3 (ae Tryz.f39 3) (Cu x0 0 [])):=kw
theorem M3(l0:LS)(i4:Int)(lh_0:LS):rh ro 0 Zb Tryz.f39 3 (Cu l0 i4 lh_0)=br (bif Q0 (i4<(↑l0.length:Int))then Q0 (i4<10)else Q4) (Qc (zN i4 l0.length) (Qc (ff (l0.getD i4.toNat (zi Q6))) (Qc (Q0 (lh_0.length+[cV (l0.getD i4.toNat (zi Q6))].length<=1073741824)) (Tr.ok (zC.head 3 (ae Tryz.f39 3) (Cu l0 (IntKind.i64.wrap (i4+1)) (lh_0++[cV (l0.getD i4.toNat (zi Q6))]))))))) (Tr.ok (zC.ret (AV.vec 0) [AO.vec Q6 lh_0])):=kw
def eu:List (Sem Q6)->Int->List (Sem Q6)->Sem Sh.str.sl
 |[],_,lh_0=>(lh_0)
 |x::r,i4,lh_0=>(if Q0 (i4<10)=Q3 then eu r (i4+1) (lh_0++[cV x])else lh_0)
def fB:List (Sem Q6)->Int->List (Sem Q6)->Bool
 |[],_,_=>(Q3)
 |x::r,i4,lh_0=>(if Q0 (i4<10)=Q3 then
 if ff x=Q3 then if Q0 (lh_0.length+[cV x].length<=1073741824)=Q3 then fB r (i4+1) (lh_0++[cV x])else Q4 else Q4
else Q3)
theorem VG{C:eS}(hC:∀id,C.ρ0 id=Q2)(l0:LS)(hl:l0.length<=aF):∀(m i:Nat)(lh_0:LS),l0.length-i=m->i<=l0.length->fB (l0.drop i) i lh_0=Q3->
  Reach (ro) C 39 (ae Tryz.f39 3) (Cu l0 (i:Int) lh_0) (λr h=>aM h [Sh.str.sl] r=Q1 (eu (l0.drop i) i lh_0,())):=by
 intro m
 induction m with
 | zero=>
  intro i lh_0 hm hi hc;obtain rfl:i=l0.length:=by omega
  rw[jo]at hc⊢;refine zD j8 (MY) (λid _=>hC id) (M3 _ _ _) ?_;rw[fB]at hc;generalize hy:eu [] _ lh_0=y;rw[eu]at hy;simp only[zA,ay,Tr.val_brF];repeat' (first|with_reducible refine tP hy hc (λ_ hy hc=>?_) (λ_ hy hc=>?_)|with_reducible refine dg hy (λ_ hy=>?_) (λ_ hy=>?_)|with_reducible refine ir hc (λhc=>?_)|with_reducible refine zK ?_)
  all_goals first|(cases hc;done)|(subst hy;first|rfl)
 | succ m IH=>
  intro i lh_0 hm hi hc;have hlt:i<l0.length:=by omega
  have IH:=IH (i+1);have hcast:((i:Int)+1)=((i+1:Nat):Int):=by omega
  have hwr:=zp i ow;rw[fu hlt]at hc⊢;refine zD j8 (MY) (λid _=>hC id) (M3 _ _ _) ?_;rw[fB]at hc;generalize hy:eu (l0[i]::l0.drop (i+1)) (i:Int) lh_0=y;rw[eu]at hy;simp only[zH hlt,zt hlt,cA l0 _ hlt,hwr,ah];clear hwr
  try simp only[zt hlt]at hy
  simp only[hcast]at hy
  try simp only[zt hlt]at hc
  try simp only[hcast]at hc
  repeat' (first|with_reducible refine tP hy hc (λ_ hy hc=>?_) (λ_ hy hc=>?_)|with_reducible refine dg hy (λ_ hy=>?_) (λ_ hy=>?_)|with_reducible refine ir hc (λhc=>?_)|with_reducible refine zK ?_)
  all_goals first|(cases hc;done)|(subst hy;first|(change Reach _ _ _ _ _ _;apply IH<;>first|omega|assumption)|rfl)
theorem Qp{C:eS}(hC:∀id,C.ρ0 id=Q2)(l0:LS)(lh_0:LS)(hc:fB l0 0 lh_0=Q3):
  Reach (ro) C 39 (ae Tryz.f39 3) (Cu l0 0 lh_0) (λr h=>aM h [Sh.str.sl] r=Q1 (eu l0 0 lh_0,())):=
 Reach.len 0 (Q6) l0 rfl λhl=>VG hC l0 hl _ 0 lh_0 rfl (aZ _) hc
def jS(x0:Sem Sh.str.sl):Sem Sh.str.sl:=(eu x0 0 [])
def oZ(x0:Sem Sh.str.sl):Bool:=(fB x0 0 [])
def zed:zY:=zR [Sh.str.sl] [Sh.str.sl] (λx=>oZ x.1) λx=>(jS x.1,())
theorem zae:FK 39 zed:=by
 refine aJ (MY) λx hc C hC=>?_
 unfold oZ at hc;refine zD j8 (MY) (λid _=>hC id) (zg0 x.1) ?_;generalize hy:jS x.1=y;unfold jS at hy
 try simp only[zf.eta]
 repeat' (first|with_reducible refine tP hy hc (λ_ hy hc=>?_) (λ_ hy hc=>?_)|with_reducible refine dg hy (λ_ hy=>?_) (λ_ hy=>?_)|with_reducible refine ir hc (λhc=>?_)|with_reducible refine zK ?_)
 all_goals first|(cases hc;done)|(subst hy;first|(change Reach _ _ _ _ _ _;apply Qp hC<;>first|assumption|exact hc)|rfl)
abbrev yQ(s:zB)(l:List (Sem zh))(i:Int):St:={tmps:=[.sl zh l,.clo (.func 197) [] [.ptr 0 0],.any,.any,.any,.any,.any,.int .i64 l.length,.int .i64 i,.any,.any,.any,.any,.any,.any,.any,.any,.any,.any],heap:=[.box [.str s]]}
theorem RE(s:zB)(l:List (Sem zh)):run ro 1 xM Tryz.f196.results.toList 300 (bt Tryz.f196) (bc Tryz.f196.ntmps [.sl zh l,.clo (.func 197) [] [.ptr 0 0]] [.box [.str s]])=.ok (.head 2 (ae Tryz.f196 2) (yQ s l 0)):=kw
theorem Td(s:zB)(l:List (Sem zh))(i:Int):run ro 1 xM Tryz.f196.results.toList 300 (ae Tryz.f196 2) (yQ s l i)=na (K:=ae Tryz.f196 2) (e:=zh) l (λx=>x.1.1==s) (yQ s l) [.box [.str s]] i:=kw
theorem S6:zJ ro.P 196 Tryz.f196 2:=bQ kw
def zgv:ic [Q1 (.sl zh),Q2]:=λx h=>match x,h with
 |(l,.clo (.func 197) [] [.ptr 0 0],_),[.box [.str s]]=>.ok (.int .i64 (zU (λx=>x.1.1==s) l 0),[.box [.str s]])
 |_,_=>.err
def zfe:zY:=bg [Q1 (.sl zh),Q2] zgv
theorem zbk:FK 196 zfe:=by
 refine dt S6 λx h0 res hx C hC=>?_
 unfold zgv at hx;split at hx
 ·rename_i l u s;simp only[Tr.val_ok,bz]at hx;subst hx;refine Reach.len 0 zh l rfl λhl=>?_
  refine zD (n0:=1) j8 S6 hC (RE s l) ?_;exact kg l (λx=>x.1.1==s) (yQ s l) j8 S6 hC (Td s l) hl _ 0 rfl (aZ _)
 ·simp at hx
noncomputable def Ig:=ro.addL [(68,X8),(39,zed),(196,zfe)]
theorem vI:zx Ig:=j8.addL<|fc Vn<|fc zae<|fc zbk iV
noncomputable def X6:zY:=bg (List.replicate 3 Q2) (fe Ig Tryz.f246 (List.replicate 3 Q2))
theorem Vm:FK 246 X6:=bY _ vI (bQ kw)
abbrev zh6:Nat->aN:=λ_=>{ }
theorem Zr:zJ (Ig).P 147 Tryz.f147 2:=bQ kw
theorem zha(x0:Sem zh.sl)(x1:TS):rn Ig 0 zh6 Tryz.f147 [zF zh.sl x0,zF Q6 x1] []=Tr.ok (zC.ret (ai (zU (λx=>x.1.1==x1) x0 0)) []):=kw
def zV(x0:Sem zh.sl)(x1:TS):Sem zg:=(zU (λx=>x.1.1==x1) x0 0)
def zeH:zY:=aE [zh.sl,Q6] [zg] λx=>(zV x.1 x.2.1,())
theorem zaK:FK 147 zeH:=by
 refine zZ (Zr) λx C hC=>?_
 refine zD vI (Zr) (λid _=>hC id) (zha x.1 x.2.1) ?_;generalize hy:zV x.1 x.2.1=y;unfold zV at hy
 try simp only[zf.eta]
 repeat' (first|with_reducible refine dg hy (λ_ hy=>?_) (λ_ hy=>?_)|with_reducible refine zK ?_)
 all_goals first|(cases hc;done)|(subst hy;first|rfl)
noncomputable def Ih:=Ig.addL [(246,X6),(147,zeH)]
theorem vJ:zx Ih:=vI.addL<|fc Vm<|fc zaK iV
abbrev qI(c a b:Int)(s:zB)(l:List (Sem (Sh.sl ze)))(i:Int):St:={tmps:=[.sl (Sh.sl ze) l,.clo (.func 246) [] [.ptr 0 0,.ptr 1 0],.any,.any,.any,.any,.any,.int .i64 l.length,.int .i64 i,.any,.any,.any,.any,.any,.any,.any,.any,.any,.any],heap:=[.box [.int .i64 c],.box [.int .i64 a,.int .i64 b,.str s]]}
theorem KR(c a b:Int)(s:zB)(l:List (Sem (Sh.sl ze))):run Ih 2 xM Tryz.f66.results.toList 300 (bt Tryz.f66) (bc Tryz.f66.ntmps [.sl (Sh.sl ze) l,.clo (.func 246) [] [.ptr 0 0,.ptr 1 0]] [.box [.int .i64 c],.box [.int .i64 a,.int .i64 b,.str s]])=.ok (.head 2 (ae Tryz.f66 2) (qI c a b s l 0)):=kw
theorem Ld(c a b:Int)(s:zB)(l:List (Sem (Sh.sl ze)))(i:Int):run Ih 2 xM Tryz.f66.results.toList 300 (ae Tryz.f66 2) (qI c a b s l i)=na (K:=ae Tryz.f66 2) (e:=(Sh.sl ze)) l (λx=>bw x c (a,b,s)) (qI c a b s l) [.box [.int .i64 c],.box [.int .i64 a,.int .i64 b,.str s]] i:=kw
theorem Lb:zJ Ih.P 66 Tryz.f66 2:=bQ kw
def Yk:ic [Q1 (.sl (Sh.sl ze)),Q2]:=λx h=>match x,h with
 |(l,.clo (.func 246) [] [.ptr 0 0,.ptr 1 0],_),[.box [.int .i64 c],.box [.int .i64 a,.int .i64 b,.str s]]=>.ok (.int .i64 (zU (λx=>bw x c (a,b,s)) l 0),[.box [.int .i64 c],.box [.int .i64 a,.int .i64 b,.str s]])
 |_,_=>.err
def Yd:zY:=bg [Q1 (.sl (Sh.sl ze)),Q2] Yk
theorem Vr:FK 66 Yd:=by
 refine dt Lb λx h0 res hx C hC=>?_
 unfold Yk at hx;split at hx
 ·rename_i l u c a b s;simp only[Tr.val_ok,bz]at hx;subst hx;refine Reach.len 0 (Sh.sl ze) l rfl λhl=>?_
  refine zD (n0:=2) vJ Lb hC (KR c a b s l) ?_;exact kg l (λx=>bw x c (a,b,s)) (qI c a b s l) vJ Lb hC (Ld c a b s l) hl _ 0 rfl (aZ _)
 ·simp at hx
noncomputable def Ri:=Ih.add 66 Yd
theorem D2:zx Ri:=vJ.add Vr
noncomputable def X5:zY:=bg (List.replicate 2 Q2) (fe Ri Tryz.f245 (List.replicate 2 Q2))
theorem Vl:FK 245 X5:=bY _ D2 (bQ kw)
noncomputable def Mz:=Ri.add 245 X5
theorem vK:zx Mz:=D2.add Vl
noncomputable section
abbrev zcy:Nat->aN:=λ_=>{ }
theorem SW:zJ (Mz).P 195 Tryz.f195 3:=bQ kw
theorem zbZ(x0:Sem zh)(x1:Sem zg)(x2:Sem ze):rn Mz 0 zcy Tryz.f195 [zF zh x0,zF zg x1,zF ze x2] []=Tr.ok (zC.ret (AV.bool (Q0 (zU (λx=>bw x x1 x2) x0.2 0>=0))) []):=kw
def gN(x0:Sem zh)(x1:Sem zg)(x2:Sem ze):Sem Q7:=(Q0 (zU (λx=>bw x x1 x2) x0.2 0>=0))
def XI:zY:=aE [zh,zg,ze] [Q7] λx=>(gN x.1 x.2.1 x.2.2.1,())
theorem UV:FK 195 XI:=by
 refine zZ (SW) λx C hC=>?_
 refine zD vK (SW) (λid _=>hC id) (zbZ x.1 x.2.1 x.2.2.1) ?_;generalize hy:gN x.1 x.2.1 x.2.2.1=y;unfold gN at hy
 try simp only[zf.eta]
 repeat' (first|with_reducible refine dg hy (λ_ hy=>?_) (λ_ hy=>?_)|with_reducible refine zK ?_)
 all_goals first|(cases hc;done)|(subst hy;first|rfl)
abbrev zcx:=lV [(3,[1,5,11,12,13])]
inductive Dw where
 |h3 (i1:Sem zg) (l11:List (Sem ze.sl)) (i12:Int) (i13:Int) (mh_0:List ((Int×Int×zB)×Int))
abbrev zgH:Dw->Nat×St
 |.h3 i1 l11 i12 i13 mh_0=>(3,⟨tm 37 [(1,ai i1),(5,AV.mp 0),(11,sl ze.sl l11),(12,ai i12),(13,ai i13)],[AO.vmap Q4 mh_0]⟩)
def YU(x0:Sem zh)(x1:Sem zg):Tr (Dw⊕ar):=Q9 (Dw.h3 x1 x0.2 (↑(length x0.2):Int) 0 [])
def xD:Dw->Tr (Dw⊕ar)
 | .h3 i1 l11 i12 i13 mh_0=>
  let a0:=l11.getD i13.toNat (zi ze.sl)
  let a1:=getD a0 (toNat i1) (zi ze)
  let a2:=(↑(kZ mh_0 a1):Int)
  let a3:=jC mh_0 a1
  let a4:=jL a3 a2.toNat (IntKind.i64.wrap (gh mh_0 a1+1))
  let a5:=gh a4 a1
  br (Q0 (i13<i12))
  (Qc (zN i13 l11.length)
   (Qc (zN i1 (length a0)) (Qc (Q0 (mh_0.length<=1073741824)) (Qc (zN a2 a3.length) (br (bif a1.1!=0 then Q0 (a5>1)else Q4) (re (kb Q3) []) (Q9 (Dw.h3 i1 l11 i12 (IntKind.i64.wrap (i13+1)) a4)))))))
  (re (kb Q4) [])
def yN(x0:Sem zh)(x1:Sem zg):=ao [Q7] xD 100000000 (YU x0 x1)
def qE(x0:Sem zh)(x1:Sem zg):=(yN x0 x1).isSome
def wv(x0:Sem zh)(x1:Sem zg):=o1 (yN x0 x1)
def XH:=FT [zh,zg] [Q7] λx=>yN x.1 x.2.1
theorem UU:FK 194 XH:=vK.T1 (f:=Tryz.f194) (keep:=zcx) (e:=zgH)
def Yy:=Mz.addL [(195,XI),(194,XH)]
theorem vL:zx Yy:=vK.addL<|fc UV<|fc UU iV
end
noncomputable section
abbrev zii:=lV [(6,[1,18,19,20]),(15,[1,39,40,41]),(21,[1,8])]
inductive Da where
 |h6 (l18:List (Sem ze.sl)) (i19:Int) (i20:Int) (z0:zn [CP.d zh])
 |h15 (l39:LI) (i40:Int) (i41:Int) (z0:zn [CP.d zh])
 |h21 (i8:Int) (z0:zn [CP.d zh])
abbrev zkO:Da->Nat×St
 |.h6 l18 i19 i20 z0=>(6,⟨tm 79 [(1,ptr 0 0),(18,sl ze.sl l18),(19,ai i19),(20,ai i20)],[Qa (bC [] [CP.d zh] z0)]⟩)
 |.h15 l39 i40 i41 z0=>(15,⟨tm 79 [(1,ptr 0 0),(39,sl zg l39),(40,ai i40),(41,ai i41)],[Qa (bC [] [CP.d zh] z0)]⟩)
 |.h21 i8 z0=>(21,⟨tm 79 [(1,ptr 0 0),(8,ai i8)],[Qa (bC [] [CP.d zh] z0)]⟩)
def OL(x0:Sem zh):Tr (Da⊕ar):=br (!eB (x0.1.1,x0.1.2.1,x0.1.2.2.1,x0.1.2.2.2.1,x0.1.t.1,zm x0.1.t.2)) (re (ai 1) []) (br (Q0 ((↑(length x0.2):Int)>200)) (re (ai 13) []) (Q9 (Da.h6 x0.2 (↑(length x0.2):Int) 0 (x0,()))))
def ib:Da->Tr (Da⊕ar)
 | .h6 l18 i19 i20 z0=>
  let a0:=(z0.1.1.1,z0.1.1.2.1,z0.1.1.2.2.1,z0.1.1.2.2.2.1,z0.1.1.t.1,zm z0.1.1.t.2)
  let a1:=dZ a0 (l18.getD i20.toNat (zi ze.sl))
  let a2:=(a0,z0.1.2)
  br (Q0 (i20<i19))
  (Qc (zN i20 l18.length) (br (a1 !=0) (re (ai a1) []) (Q9 (Da.h6 l18 i19 (IntKind.i64.wrap (i20+1)) z0))))
  (Qc (qE a2 z0.1.1.2.2.1)
   (br (wv a2 z0.1.1.2.2.1) (re (ai 7) []) (Q9 (Da.h15 z0.1.1.2.2.2.1 (↑(length z0.1.1.2.2.2.1):Int) 0 z0))))
 | .h15 l39 i40 i41 z0=>
  let a0:=((z0.1.1.1,z0.1.1.2.1,z0.1.1.2.2.1,z0.1.1.2.2.2.1,z0.1.1.t.1,zm z0.1.1.t.2),z0.1.2)
  let a1:=l39.getD i41.toNat (zi zg)
  br (Q0 (i41<i40))
  (Qc (zN i41 l39.length)
   (Qc (qE a0 a1) (br (wv a0 a1) (re (ai 7) []) (Q9 (Da.h15 l39 i40 (IntKind.i64.wrap (i41+1)) z0)))))
  (Q9 (Da.h21 1 z0))
 | .h21 i8 z0=>
  let a0:=(↑(length z0.1.2):Int)
  let a1:=IntKind.i64.wrap (i8-1)
  let a2:=getD z0.1.2 a1.toNat (zi ze.sl)
  let a3:=getD z0.1.2 i8.toNat (zi ze.sl)
  let a4:=cO (getD a2 (toNat z0.1.1.2.2.1) (zi ze)) (getD a3 (toNat z0.1.1.2.2.1) (zi ze))
  br (Q0 (i8<a0))
  (Qc (zN a1 (length z0.1.2))
   (Qc (zN z0.1.1.2.2.1 (length a2)) (Qc (zN i8 (length z0.1.2)) (Qc (zN z0.1.1.2.2.1 (length a3)) (br (Q0 (a4>=0)) (re (ai 15) []) (Q9 (Da.h21 (IntKind.i64.wrap (i8+1)) z0)))))))
  (re (ai 0) [])
def nC(x0:Sem zh):=ao [zg] ib 100000000 (OL x0)
def GR(x0:Sem zh):=(nC x0).isSome
def LH(x0:Sem zh):=o1 (nC x0)
def zeZ:=FT [zh] [zg] λx=>nC x.1
theorem za5:FK 144 zeZ:=vL.T1 (f:=Tryz.f144) (keep:=zii) (e:=zkO)
abbrev zij:=lV [(2,[0,11,12,13]),(5,[0,4,11,12,13,19,20,21]),(11,[0,4,6,7,11,12,13,19,20,21,32,33,34])]
inductive Db where
 |h2 (l0:List (Sem zh)) (l11:List (Sem zh)) (i12:Int) (i13:Int)
 |h5 (l0:List (Sem zh)) (l11:List (Sem zh)) (i12:Int) (i13:Int) (l19:LF) (i20:Int) (i21:Int) (z0:zn [CP.d zh])
 |h11 (l0:List (Sem zh)) (i7:Sem zg) (l11:List (Sem zh)) (i12:Int) (i13:Int) (l19:LF) (i20:Int) (i21:Int) (l32:List (Sem ze.sl)) (i33:Int) (i34:Int) (z0:zn [CP.d zh]) (z1:zn [CP.d zr])
abbrev zkP:Db->Nat×St
 |.h2 l0 l11 i12 i13=>(2,⟨tm 64 [(0,sl zh l0),(11,sl zh l11),(12,ai i12),(13,ai i13)],[]⟩)
 |.h5 l0 l11 i12 i13 l19 i20 i21 z0=>(5,⟨tm 64 [(0,sl zh l0),(4,ptr 0 0),(11,sl zh l11),(12,ai i12),(13,ai i13),(19,sl zr l19),(20,ai i20),(21,ai i21)],[Qa (bC [] [CP.d zh] z0)]⟩)
 |.h11 l0 i7 l11 i12 i13 l19 i20 i21 l32 i33 i34 z0 z1=>(11,⟨tm 64 [(0,sl zh l0),(4,ptr 0 0),(6,ptr 1 0),(7,ai i7),(11,sl zh l11),(12,ai i12),(13,ai i13),(19,sl zr l19),(20,ai i20),(21,ai i21),(32,sl ze.sl l32),(33,ai i33),(34,ai i34)],[Qa (bC [] [CP.d zh] z0),Qa (bC [] [CP.d zr] z1)]⟩)
def zhB(x0:Sem zh.sl):Tr (Db⊕ar):=Q9 (Db.h2 x0 x0 (↑(length x0):Int) 0)
def gz:Db->Tr (Db⊕ar)
 | .h2 l0 l11 i12 i13=>
  let a0:=l11.getD i13.toNat (zi zh)
  br (Q0 (i13<i12))
  (Qc (zN i13 l11.length) (Q9 (Db.h5 l0 l11 i12 i13 a0.1.t.1 (↑(length a0.1.t.1):Int) 0 (a0,()))))
  (re (kb Q3) [])
 | .h5 l0 l11 i12 i13 l19 i20 i21 z0=>
  let a0:=l19.getD i21.toNat (zi zr)
  let a1:=zV l0 a0.2
  br (Q0 (i21<i20))
  (Qc (zN i21 l19.length)
   (br (Q0 (a1<0)) (re (kb Q4) []) (Q9 (Db.h11 l0 a1 l11 i12 i13 l19 i20 i21 z0.1.2 (↑(length z0.1.2):Int) 0 z0 (a0,())))))
  (Q9 (Db.h2 l0 l11 i12 (IntKind.i64.wrap (i13+1))))
 | .h11 l0 i7 l11 i12 i13 l19 i20 i21 l32 i33 i34 z0 z1=>
  let a0:=l32.getD i34.toNat (zi ze.sl)
  let a1:=getD a0 (toNat z1.1.1) (zi ze)
  let a2:=a1.1!=0
  let a3:=l0.getD (toNat i7) (zi zh)
  br (Q0 (i34<i33))
  (Qc (zN i34 l32.length)
   (Qc (zN z1.1.1 (length a0)) (Qc (bif a2 then zN i7 l0.length&&zN i7 l0.length else Q3) (br (bif a2 then !gN ((a3.1.1,a3.1.2.1,a3.1.2.2.1,a3.1.2.2.2.1,a3.1.t.1,zm a3.1.t.2),a3.2) a3.1.2.2.1 a1 else Q4) (re (kb Q4) []) (Q9 (Db.h11 l0 i7 l11 i12 i13 l19 i20 i21 l32 i33 (IntKind.i64.wrap (i34+1)) z0 z1))))))
  (Q9 (Db.h5 l0 l11 i12 i13 l19 i20 (IntKind.i64.wrap (i21+1)) z0))
def xV(x0:Sem zh.sl):=ao [Q7] gz 100000000 (zhB x0)
def Fs(x0:Sem zh.sl):=(xV x0).isSome
def Km(x0:Sem zh.sl):=o1 (xV x0)
def ze0:=FT [zh.sl] [Q7] λx=>xV x.1
theorem za6:FK 145 ze0:=vL.T1 (f:=Tryz.f145) (keep:=zij) (e:=zkP)
def Yz:=Yy.addL [(144,zeZ),(145,ze0)]
theorem D3:zx Yz:=vL.addL<|fc za5<|fc za6 iV
end
noncomputable section
abbrev zhW:=lV [(4,[0,3]),(9,[0,30,31,32])]
inductive HD where
 |h4 (l0:List (Sem zh)) (i3:Int)
 |h9 (l0:List (Sem zh)) (l30:List (Sem zh)) (i31:Int) (i32:Int)
abbrev zkA:HD->Nat×St
 |.h4 l0 i3=>(4,⟨tm 45 [(0,sl zh l0),(3,ai i3)],[]⟩)
 |.h9 l0 l30 i31 i32=>(9,⟨tm 45 [(0,sl zh l0),(30,sl zh l30),(31,ai i31),(32,ai i32)],[]⟩)
def Wf(x0:Sem zh.sl):Tr (HD⊕ar):=br (Q0 ((↑(length x0):Int)>12)) (re (ai 13) []) (Q9 (HD.h4 x0 1))
def nI:HD->Tr (HD⊕ar)
 | .h4 l0 i3=>
  let a0:=IntKind.i64.wrap (i3-1)
  let a1:=l0.getD a0.toNat (zi zh)
  let a2:=l0.getD i3.toNat (zi zh)
  br (Q0 (i3<(↑l0.length:Int)))
  (Qc (zN a0 l0.length)
   (Qc (zN i3 l0.length) (br (!Op.bytesLess a1.1.1 a2.1.1) (re (ai 15) []) (Q9 (HD.h4 l0 (IntKind.i64.wrap (i3+1)))))))
  (Q9 (HD.h9 l0 l0 (↑l0.length:Int) 0))
 | .h9 l0 l30 i31 i32=>
  let a0:=l30.getD i32.toNat (zi zh)
  let a1:=((a0.1.1,a0.1.2.1,a0.1.2.2.1,a0.1.2.2.2.1,a0.1.t.1,zm a0.1.t.2),a0.2)
  let a2:=LH a1
  br (Q0 (i32<i31))
  (Qc (zN i32 l30.length)
   (Qc (GR a1) (br (a2 !=0) (re (ai a2) []) (Q9 (HD.h9 l0 l30 i31 (IntKind.i64.wrap (i32+1)))))))
  (Qc (Fs l0) (br (!Km l0) (re (ai 10) []) (re (ai 0) [])))
def sV(x0:Sem zh.sl):=ao [zg] nI 100000000 (Wf x0)
def mR(x0:Sem zh.sl):=(sV x0).isSome
def km(x0:Sem zh.sl):=o1 (sV x0)
def zer:=FT [zh.sl] [zg] λx=>sV x.1
theorem zau:FK 99 zer:=D3.T1 (f:=Tryz.f99) (keep:=zhW) (e:=zkA)
def gT:=Yz.add 99 zer
theorem dL:zx gT:=D3.add zau
end
end Cad
