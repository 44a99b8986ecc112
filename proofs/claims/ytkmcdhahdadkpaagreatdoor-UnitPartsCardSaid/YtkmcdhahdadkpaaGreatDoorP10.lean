/- slices.Clone: what it answers is memory of its own. schema.copied is its argument, of what is not too deep. Statements: words of columns, tokens. Statements: parts. -/
import Derived.Test.YtkmcdhahdadkpaaGreatDoorP09
import Derived.Test.YtkmcdhahdadkpaaGreatDoorP08
namespace Cad
open Go Go.Proofs
open List renaming drop→Qh,take→Qg
open Tr renaming chk→Qc,«to»→Q9
open AO renaming box→Qa
open Sh renaming bool→Q7,str→Q6,expr→Q5
open Bool renaming false→Q4,true→Q3
open Option renaming none→Q2,some→Q1
open Decidable renaming decide→Q0
open Int (toNat)
open List (getD length)
open Tr (chk br re)
open AV (nils agg tup ptr kb str sl)
theorem Reach.promNil{E:bX}{C:eP}{fn:FuncId}{todo:List Item}{st:St}(e:Sh)(hC:∀id,C.ρ0 id=Q2)(h:Reach E C fn todo st (λr h=>(r,h)=(.nils,[]))):Reach E C fn todo st (λr h=>(r,h)=(.vec 0,[.vec e []])):=by
 intro b cs a w U ρ h1 h2 hc hW;obtain⟨en,w',fr,⟨v,r,h',U',ρ',he,hq,hrv,hH,hnew,hr0,hWd⟩,hcm,hf,hl⟩:=h b cs a w U ρ h1 h2 hc hW;cases hq;cases hrv with
 |nils ad=>
 have hno:∀id o b,o=(AO.vec e []:AO)\/o=AO.dead->¬ag (λid=>if id=0 then Q1 (.slice ad 0 0)else Q2) id o b:=by
  rintro id o b ho ⟨h3,x,h4,h5⟩;rcases ho with rfl|rfl
  ·simp only at h4;split at h4
   ·cases h4;cases ad<;>simp[eJ]at h5
   ·cases h4
  ·simp[AO.owns]at h3
 have hob:∀id,(([AO.vec e []]:List AO).getD id .dead)=(if id=0 then AO.vec e []else AO.dead):=by
  intro id;cases id<;>simp
 refine⟨en,w',fr,⟨_,_,_,U',λid=>if id=0 then Q1 (.slice ad 0 0)else Q2,he,rfl,.vec 0 _ sw (by simp[Value.oneCell']),⟨λid=>?_,λid1 id2 b o=>?_,λid b o=>?_⟩,λid hid=>?_,λid v hv=>?_,hWd⟩,hcm,hf,hl⟩
 ·show bx w' U' _ id (([AO.vec e []]:List AO).getD id .dead);rw[hob];split
  ·rename_i h0;subst h0;exact⟨ad,0,sw,sw,.inl ⟨rfl,rfl⟩⟩
  ·trivial
 ·exfalso;have o':ag (λid=>if id=0 then Q1 (.slice ad 0 0)else Q2) id1 (([AO.vec e []]:List AO).getD id1 .dead) b:=o;rw[hob]at o';split at o'
  ·exact hno _ _ _ (.inl rfl) o'
  ·exact hno _ _ _ (.inr rfl) o'
 ·exfalso;have o':ag (λid=>if id=0 then Q1 (.slice ad 0 0)else Q2) id (([AO.vec e []]:List AO).getD id .dead) b:=o;rw[hob]at o';split at o'
  ·exact hno _ _ _ (.inl rfl) o'
  ·exact hno _ _ _ (.inr rfl) o'
 ·simp at hid;simp;omega
 ·rw[hC id]at hv;cases hv
def dQ:Tr zC->List Item×List Item×St
 |.ok (.fork _ k1 k2 st)=>(k1,k2,st)
 |_=>([],[],⟨[],[]⟩)
abbrev VV:Nat->aM:=λ_=>{ }
noncomputable abbrev HN(l:List ze):Tr zC:=run rc 0 VV (Func.results Tryz.f146).toList 300 (bw Tryz.f146) (be (Func.ntmps Tryz.f146) [.sl .expr l] [])
theorem V6:zI rc.P 146 Tryz.f146 1:=bU kw
theorem zkC(l:List ze):HN l=.ok (.fork l.isEmpty (dQ (HN l)).1 (dQ (HN l)).2.1 (dQ (HN l)).2.2):=kw
theorem ziG(l:List ze):run rc 0 VV (Func.results Tryz.f146).toList 300 (dQ (HN l)).1 (dQ (HN l)).2.2=.ok (.ret .nils []):=kw
theorem ziH(l:List ze):run rc 0 VV (Func.results Tryz.f146).toList 300 (dQ (HN l)).2.1 (dQ (HN l)).2.2=.chk (Q0 (l.length<=1073741824)) (.ok (.ret (.vec 0) [.vec .expr l])):=kw
def G53:iw [Q1 (.sl .expr)]:=λx h=>match h with
 |[]=>.chk (Q0 (length x.1<=1073741824)) (.ok (.vec 0,[.vec .expr x.1]))
 |_=>.err
def F53:zX:=bm [Q1 (.sl .expr)] G53
theorem zeY:FK 146 F53:=by
 refine dH V6 λx h0 res hx C hC=>?_
 unfold G53 at hx;split at hx
 ·simp only[Tr.val]at hx;split at hx
  ·rename_i hl;simp only[bB]at hx;subst hx;obtain⟨l,u⟩:=x;refine zD (n0:=0) iK V6 hC (zkC l) ?_;refine⟨λhe=>?_,?_⟩
   ·have hn:l=[]:=List.isEmpty_iff.1 he;refine Reach.weaken (Q:=λr h=>(r,h)=(.vec 0,[.vec .expr []])) (Reach.promNil .expr (λid=>hC id sw) (zD (n0:=0) iK V6 hC (ziG l) rfl)) ?_;intro r h hq;cases hq;refine⟨_,?_,λ_ _ _ _ h=>h⟩;show(AV.vec 0,[AO.vec Q5 []])=(AV.vec 0,[AO.vec Q5 l]);rw[hn]
   ·exact zD (n0:=0) iK V6 hC (ziH l) (jU hl rfl)
  ·cases hx
 ·simp at hx
noncomputable abbrev HM(l:List (Sem zj)):Tr zC:=run rc 0 VV (Func.results Tryz.f142).toList 300 (bw Tryz.f142) (be (Func.ntmps Tryz.f142) [.sl zj l] [])
theorem V4:zI rc.P 142 Tryz.f142 1:=bU kw
theorem zkk(l:List (Sem zj)):HM l=.ok (.fork l.isEmpty (dQ (HM l)).1 (dQ (HM l)).2.1 (dQ (HM l)).2.2):=kw
theorem ziB(l:List (Sem zj)):run rc 0 VV (Func.results Tryz.f142).toList 300 (dQ (HM l)).1 (dQ (HM l)).2.2=.ok (.ret .nils []):=kw
theorem ziC(l:List (Sem zj)):run rc 0 VV (Func.results Tryz.f142).toList 300 (dQ (HM l)).2.1 (dQ (HM l)).2.2=.chk (Q0 (l.length<=1073741824)) (.ok (.ret (.vec 0) [.vec zj l])):=kw
def G32:iw [Q1 (.sl zj)]:=λx h=>match h with
 |[]=>.chk (Q0 (length x.1<=1073741824)) (.ok (.vec 0,[.vec zj x.1]))
 |_=>.err
def F32:zX:=bm [Q1 (.sl zj)] G32
theorem zeE:FK 142 F32:=by
 refine dH V4 λx h0 res hx C hC=>?_
 unfold G32 at hx;split at hx
 ·simp only[Tr.val]at hx;split at hx
  ·rename_i hl;simp only[bB]at hx;subst hx;obtain⟨l,u⟩:=x;refine zD (n0:=0) iK V4 hC (zkk l) ?_;refine⟨λhe=>?_,?_⟩
   ·have hn:l=[]:=List.isEmpty_iff.1 he;refine Reach.weaken (Q:=λr h=>(r,h)=(.vec 0,[.vec zj []])) (Reach.promNil zj (λid=>hC id sw) (zD (n0:=0) iK V4 hC (ziB l) rfl)) ?_;intro r h hq;cases hq;refine⟨_,?_,λ_ _ _ _ h=>h⟩;show(AV.vec 0,[AO.vec zj []])=(AV.vec 0,[AO.vec zj l]);rw[hn]
   ·exact zD (n0:=0) iK V4 hC (ziC l) (jU hl rfl)
  ·cases hx
 ·simp at hx
noncomputable def zbb:=rc.addL [(146,F53),(142,F32)]
theorem Ie:zw zbb:=iK.addL<|fc zeY<|fc zeE jm
def Pp(c:ze->Bool):zX:=zP [.expr] [.expr] (λx=>c x.1) λx=>(x.1,())
noncomputable def N3(c:ze->Bool):bX:=zbb.add 100 (Pp c)
theorem AA{c:ze->Bool}(hg:FK 100 (Pp c)):zw (N3 c):=Ie.add hg
abbrev zg2:Nat->aM:=λj=>if j=3 then{slots:=[1,2,10,11]}else{ }
abbrev Nj(i10:Int)(i11:Int)(ja0:zB)(ja1:Int)(ja2:Int)(ja3:zB)(ja4:zB)(lh_2:List (Sem Q5)):St:={
 tmps:=
  (tm 26 [(1,ptr 0 0),(2,ptr 1 0),(10,ai i10),(11,ai i11)]),
 heap:=
  [Qa [str ja0,ai ja1,ai ja2,str ja3,str ja4,AV.vec 2],
   Qa [str [],ai 0,ai 0,str [],str [],nils],AO.vec Q5 lh_2]}
theorem KY(c:ze->Bool):zI (N3 c).P 100 Tryz.f100 1:=bU kw
theorem zkl(c:ze->Bool)(op:zB)(v:V)(s:zB)(l:List ze):rn (N3 c) 0 zg2 Tryz.f100 [zE Q5 (ze.mk op v s l)] []=
 Qc (Q0 (l.length<=1073741824)) (Tr.ok (zC.head 3 (ac Tryz.f100 3) (Nj (↑l.length:Int) 0 op v.1 v.2.1 v.2.2 s l))):=kw
theorem SI(c:ze->Bool)(i10:Int)(i11:Int)(ja0:zB)(ja1:Int)(ja2:Int)(ja3:zB)(ja4:zB)(lh_2:List (Sem Sh.expr)):rh (N3 c) 0 zg2 Tryz.f100 3 (Nj i10 i11 ja0 ja1 ja2 ja3 ja4 lh_2)=
 br (Q0 (i11<i10))
 (chk (zM i11 lh_2.length)
  (chk (decide (i11.toNat<lh_2.length))
   (chk (c (zm (lh_2.getD i11.toNat (zi Sh.expr))))
    (chk (zM i11 lh_2.length)
     (chk (decide (i11.toNat<lh_2.length))
      (Tr.ok
       (zC.head 3 (ac Tryz.f100 3)
        (Nj i10 (IntKind.i64.wrap (i11+1)) ja0 ja1 ja2 ja3 ja4
         (lh_2.set i11.toNat
          (zm (lh_2.getD i11.toNat (zi Q5))))))))))))
 (Tr.ok
  (zC.ret (agg [str ja0,ai ja1,ai ja2,str ja3,str ja4,AV.vec 0]) [AO.vec Q5 lh_2])):=kw
theorem zjq{c:ze->Bool}(hg:FK 100 (Pp c)){C:eP}(hC:∀id,C.ρ0 id=Q2)(op:zB)(v:V)(s:zB)(l:List ze)(hl:l.length<=1073741824)(hcl:l.all c=Q3):
  ∀(k i:Nat),l.length-i=k->i<=l.length->Reach (N3 c) C 100 (ac Tryz.f100 3) (Nj l.length i op v.1 v.2.1 v.2.2 s l) (λr h=>aL h [.expr] r=Q1 (ze.mk op v s l,())):=by
 intro k
 induction k with
 | zero=>
  intro i hk hi;obtain rfl:i=l.length:=by omega
  refine zD (n0:=0) (AA hg) (KY c) (λid _=>hC id) (SI c _ _ _ _ _ _ _ _) ?_;simp only[zA,Tr.val_brF];rfl
 | succ k IH=>
  intro i hk hi;have hlt:i<l.length:=by omega
  refine zD (n0:=0) (AA hg) (KY c) (λid _=>hC id) (SI c _ _ _ _ _ _ _ _) ?_;have h1:c l[i]=Q3:=dT.1 hcl _ (bq hlt);have h2:Q0 ((i:Int).toNat<l.length)=Q3:=by simpa using hlt
  have h3:l.set (i:Int).toNat l[i]=l:=by simp
  simp only[zH hlt,zu hlt,cA l _ hlt,ze.eta,Tr.val_brT,Tr.val_chkT,h1,h2,h3,zp i um];exact IH (i+1) ow ow
def qR:Nat->ze->Bool
 |0,_=>Q4
 |n+1,.mk _ _ _ l=>Q0 (l.length<=1073741824)&&l.all (qR n)
theorem JZ:∀n,FK 100 (Pp (qR n))
 |0=>fj ⟨Tryz.f100,(KY (λ_=>Q4)).1,(KY (λ_=>Q4)).2.1,(KY (λ_=>Q4)).2.2.1⟩ (λ_=>rfl)
 | n+1=>by
  refine aI (E:=N3 (qR n)) (KY _) λx hc C hC=>?_
  obtain⟨⟨op,v,s,l⟩,u⟩:=x;have hc:(Q0 (l.length<=1073741824)&&l.all (qR n))=Q3:=hc;simp only[aD,aP]at hc;refine zD (n0:=0) (AA (JZ n)) (KY _) (λid _=>hC id) (zkl _ op v s l) ?_;refine jU (by simpa using hc.1) ?_;exact zjq (JZ n) hC op v s l hc.1 hc.2 _ 0 rfl (bd _)
def F33:zX:=Pp (qR 16)
theorem zeF:FK 100 F33:=JZ 16
noncomputable def ln:=zbb.add 100 F33
theorem iL:zw ln:=Ie.add zeF
set_option maxHeartbeats 4000000
abbrev iD:Sh:=.pr .str .str
abbrev gU:Sh:=.pr .str .expr
abbrev zk:Sh:=.pr .str (.pr .str (.pr .str (.pr (.sl .str) (.pr (.sl zj) (.pr .str (.pr (.sl .str) (.pr (.sl iD) (.pr .expr (.pr (.sl zf) (.pr (.sl gU) (.pr .expr .str)))))))))))
def C6(x:Sem zk):Sem zk:=(x.1,x.2.1,x.2.2.1,x.2.2.2.1,x.2.2.2.2.1,x.2.2.2.2.2.1,x.2.2.2.2.2.2.1,x.2.2.2.2.2.2.2.1,zm x.2.2.2.2.2.2.2.2.1,x.2.2.2.2.2.2.2.2.2.1,x.2.2.2.2.2.2.2.2.2.2.1,zm x.2.2.2.2.2.2.2.2.2.2.2.1,x.2.2.2.2.2.2.2.2.2.2.2.2)
theorem Mq(x:Sem zk):C6 x=x:=by unfold C6;rw[zl,zl]
abbrev YF:Nat->aM:=λj=>if j=2 then{slots:=[0,2,4]}else{ }
abbrev Ce(s0:TS)(i4:Int)(ja0:Int)(ja1:List UInt8):St:={tmps:=(tm 37 [(0,str s0),(2,ptr 0 0),(4,ai i4)]),heap:=[Qa [ai ja0,str ja1]]}
theorem Sw:zI (ln).P 281 Tryz.f281 1:=bU kw
theorem zf6(x0:TS):rn ln 0 YF Tryz.f281 [zE Q6 x0] []=Tr.ok (zC.head 2 (ac Tryz.f281 2) (Ce x0 1 0 [])):=kw
theorem V9(s0:TS)(i4:Int)(ja0:Int)(ja1:List UInt8):rh ln 0 YF Tryz.f281 2 (Ce s0 i4 ja0 ja1)=br (Q0 (i4<(↑(length s0):Int))) (Qc (zM i4 (length s0)) (br ((↑(getD s0 i4.toNat 0).toNat:Int)!=39) (Tr.ok (zC.head 2 (ac Tryz.f281 2) (Ce s0 (IntKind.i64.wrap (i4+1)) ja0 ja1))) (Qc (bif Q0 (IntKind.i64.wrap (i4+1)<(↑(length s0):Int))then zM (IntKind.i64.wrap (i4+1)) (length s0)else Q3) (br (bif Q0 (IntKind.i64.wrap (i4+1)<(↑(length s0):Int))then(↑(getD s0 (IntKind.i64.wrap (i4+1)).toNat 0).toNat:Int)==39 else Q4) (Tr.ok (zC.head 2 (ac Tryz.f281 2) (Ce s0 (IntKind.i64.wrap (IntKind.i64.wrap (i4+1)+1)) ja0 ja1))) (Qc (Q0 (0<=1)&&Q0 (1<=i4)&&Q0 (i4<=(↑(length s0):Int))) (Qc (uo (Qg (i4.toNat-toNat 1) (Qh (toNat 1) s0)) [39,39] [39]) (Tr.ok (zC.ret (tup [agg [ai 3,str (Lib.replaceAll (Qg (i4.toNat-toNat 1) (Qh (toNat 1) s0)) [39,39] [39])],ai (IntKind.i64.wrap (i4+1))]) [])))))))) (Tr.ok (zC.ret (tup [agg [ai 0,str []],ai 0]) [])):=kw
def eL:Nat->(Sem Sh.str)->Int->Int->(List UInt8)->Sem bW×Sem zg
 |0,_,_,_,_=>default
 |n+1,s0,i4,ja0,ja1=>(if Q0 (i4<(↑(length s0):Int))=Q3 then
 if((↑(getD s0 i4.toNat 0).toNat:Int)!=39)=Q3 then eL n s0 (IntKind.i64.wrap (i4+1)) ja0 ja1
 else
  if
    (bif Q0 (IntKind.i64.wrap (i4+1)<(↑(length s0):Int))then(↑(getD s0 (IntKind.i64.wrap (i4+1)).toNat 0).toNat:Int)==39
     else Q4)=
     Q3 then
   eL n s0 (IntKind.i64.wrap (IntKind.i64.wrap (i4+1)+1)) ja0 ja1
  else((3,Lib.replaceAll (Qg (i4.toNat-toNat 1) (Qh (toNat 1) s0)) [39,39] [39]),IntKind.i64.wrap (i4+1))
else((0,[]),0))
def iQ:Nat->(Sem Sh.str)->Int->Int->(List UInt8)->Bool
 |0,_,_,_,_=>Q4
 |n+1,s0,i4,ja0,ja1=>(if Q0 (i4<(↑(length s0):Int))=Q3 then
 if zM i4 (length s0)=true then
  if((↑(getD s0 i4.toNat 0).toNat:Int)!=39)=Q3 then iQ n s0 (IntKind.i64.wrap (i4+1)) ja0 ja1
  else
   if (bif decide (IntKind.i64.wrap (i4+1) < (↑(length s0):Int)) then zM (IntKind.i64.wrap (i4+1)) (length s0) else true)=true then
    if
      (bif Q0 (IntKind.i64.wrap (i4+1)<(↑(length s0):Int))then(↑(getD s0 (IntKind.i64.wrap (i4+1)).toNat 0).toNat:Int)==39
       else Q4)=
       Q3 then
     iQ n s0 (IntKind.i64.wrap (IntKind.i64.wrap (i4+1)+1)) ja0 ja1
    else
     if(Q0 (0<=1)&&Q0 (1<=i4)&&Q0 (i4<=(↑(length s0):Int)))=Q3 then
      if uo (Qg (i4.toNat-toNat 1) (Qh (toNat 1) s0)) [39,39] [39]=Q3 then Q3 else Q4
     else Q4
   else Q4
 else Q4
else Q3)
theorem L8{C:eP}(hC:∀id,C.ρ0 id=Q2):∀(n:Nat)(s0:TS)(i4:Int)(ja0:Int)(ja1:List UInt8),iQ n s0 i4 ja0 ja1=Q3->
  Reach (ln) C 281 (ac Tryz.f281 2) (Ce s0 i4 ja0 ja1) (λr h=>aL h [bW,zg] r=Q1 ((eL n s0 i4 ja0 ja1).1,(eL n s0 i4 ja0 ja1).2,()))
 |0,s0,i4,ja0,ja1,hc=>by cases hc
 | n+1,s0,i4,ja0,ja1,hc=>by
  refine zD iL (Sw) (λid _=>hC id) (V9 _ _ _ _) ?_;rw[iQ]at hc;generalize hy:eL (n+1) s0 i4 ja0 ja1=y;rw[eL]at hy
  try simp only[ze.eta,zl]
  repeat' (first|with_reducible refine tM hy hc (λ_ hy hc=>?_) (λ_ hy hc=>?_)|with_reducible refine dc hy (λ_ hy=>?_) (λ_ hy=>?_)|with_reducible refine ii hc (λhc=>?_)|with_reducible refine zJ ?_)
  all_goals first|(cases hc;done)|(subst hy;first|(change Reach _ _ _ _ _ _;refine L8 hC n _ _ _ _ ?_<;>exact hc)|rfl)
def dR(x0:TS):Sem bW×Sem zg:=(eL (length x0+1) x0 1 0 [])
def jR(x0:TS):Bool:=(iQ (length x0+1) x0 1 0 [])
def zdd:zX:=zP [Q6] [bW,zg] (λx=>jR x.1) λx=>((dR x.1).1,(dR x.1).2,())
theorem Zr:FK 281 zdd:=by
 refine aI (Sw) λx hc C hC=>?_
 unfold jR at hc;refine zD iL (Sw) (λid _=>hC id) (zf6 x.1) ?_;generalize hy:dR x.1=y;unfold dR at hy
 try simp only[ze.eta,zl]
 repeat' (first|with_reducible refine tM hy hc (λ_ hy hc=>?_) (λ_ hy hc=>?_)|with_reducible refine dc hy (λ_ hy=>?_) (λ_ hy=>?_)|with_reducible refine ii hc (λhc=>?_)|with_reducible refine zJ ?_)
 all_goals first|(cases hc;done)|(subst hy;first|(change Reach _ _ _ _ _ _;refine L8 hC _ _ _ _ _ ?_<;>exact hc)|rfl)
abbrev zgP:Nat->aM:=λ_=>{ }
theorem YR:zI (ln).P 263 Tryz.f263 1:=bU kw
theorem zf4(x0:Sem Q5):rn ln 0 zgP Tryz.f263 [zE Q5 x0] []=Tr.ok (zC.ret (AV.bool (bif ze.op x0==[]then bif (ze.v x0).1==0&&((ze.v x0).2.1==0&&((ze.v x0).2.2==[]&&Q3))then bif ze.s x0==[]then(↑(ze.l x0).length:Int)==0 else Q4 else Q4 else Q4)) []):=kw
def gM(x0:Sem Q5):Sem Q7:=(bif ze.op x0==[]then bif (ze.v x0).1==0&&((ze.v x0).2.1==0&&((ze.v x0).2.2==[]&&Q3))then bif ze.s x0==[]then(↑(ze.l x0).length:Int)==0 else Q4 else Q4 else Q4)
def zc3:zX:=aC [Q5] [Q7] λx=>(gM x.1,())
theorem Zh:FK 263 zc3:=by
 refine zW (YR) λx C hC=>?_
 refine zD iL (YR) (λid _=>hC id) (zf4 x.1) ?_;generalize hy:gM x.1=y;unfold gM at hy
 try simp only[ze.eta,zl]
 repeat' (first|with_reducible refine dc hy (λ_ hy=>?_) (λ_ hy=>?_)|with_reducible refine zJ ?_)
 all_goals first|(cases hc;done)|(subst hy;first|rfl)
abbrev zlk:Nat->aM:=λ_=>{ }
theorem ziv:zI (ln).P 231 Tryz.f231 1:=bU kw
theorem zkT(x0:TS):rn ln 0 zlk Tryz.f231 [zE Q6 x0] []=Tr.ok (zC.ret (str x0) []):=kw
def lC(x0:TS):Sem Q6:=(x0)
def F88:zX:=aC [Q6] [Q6] λx=>(lC x.1,())
theorem zfq:FK 231 F88:=by
 refine zW (ziv) λx C hC=>?_
 refine zD iL (ziv) (λid _=>hC id) (zkT x.1) ?_;generalize hy:lC x.1=y;unfold lC at hy
 try simp only[ze.eta,zl]
 repeat' (first|with_reducible refine dc hy (λ_ hy=>?_) (λ_ hy=>?_)|with_reducible refine zJ ?_)
 all_goals first|(cases hc;done)|(subst hy;first|rfl)
abbrev zlh:Nat->aM:=λ_=>{ }
theorem zir:zI (ln).P 223 Tryz.f223 1:=bU kw
theorem zkQ(x0:TS):rn ln 0 zlh Tryz.f223 [zE Q6 x0] []=Tr.ok (zC.ret (AV.bool (bif dP x0 then !iR x0 else Q4)) []):=kw
def bP(x0:TS):Sem Q7:=(bif dP x0 then !iR x0 else Q4)
def F80:zX:=aC [Q6] [Q7] λx=>(bP x.1,())
theorem zfm:FK 223 F80:=by
 refine zW (zir) λx C hC=>?_
 refine zD iL (zir) (λid _=>hC id) (zkQ x.1) ?_;generalize hy:bP x.1=y;unfold bP at hy
 try simp only[ze.eta,zl]
 repeat' (first|with_reducible refine dc hy (λ_ hy=>?_) (λ_ hy=>?_)|with_reducible refine zJ ?_)
 all_goals first|(cases hc;done)|(subst hy;first|rfl)
abbrev zg9:Nat->aM:=λ_=>{unroll:=Q3}
theorem YV:zI (ln).P 243 Tryz.f243 1:=bU kw
theorem zgi(x0:Sem bW):rn ln 0 zg9 Tryz.f243 [zE bW x0] []=br (x0.1==3) (Tr.ok (zC.ret (AV.bool (aW (2,0,x0.2))) [])) (br (x0.1==4) (Qc (bif (↑(length x0.2):Int)==1 then length x0.2==1 else Q3) (Tr.ok (zC.ret (AV.bool (bif (↑(length x0.2):Int)==1 then Q0 (0<=Lib.indexByte [40,41,44,61,60,43,45,42] (List.headD x0.2 0))else Q4)) []))) (br Q3 (Qc Q3 (br (1==x0.1) (Tr.ok (zC.ret (AV.bool (bif Q0 ((↑(length x0.2):Int)>=1)then bif Q0 ((↑(length x0.2):Int)<=16)then(↑(aK aH bt x0.2):Int)==(↑(length x0.2):Int)else Q4 else Q4)) [])) (br Q3 (Qc Q3 (br (2==x0.1) (Tr.ok (zC.ret (AV.bool (bif Q0 ((↑(length x0.2):Int)>=1)then bif Q0 ((↑(length x0.2):Int)<=19)then(↑(aK zU zU x0.2):Int)==(↑(length x0.2):Int)else Q4 else Q4)) [])) (br Q4 Tr.err (Tr.ok (zC.ret (kb Q4) []))))) (Tr.ok (zC.ret (kb Q4) []))))) (Tr.ok (zC.ret (kb Q4) [])))):=kw
def bZ(x0:Sem bW):Sem Q7:=(if(x0.1==3)=Q3 then aW (2,0,x0.2)else if(x0.1==4)=Q3 then bif (↑(length x0.2):Int)==1 then Q0 (0<=Lib.indexByte [40,41,44,61,60,43,45,42] (List.headD x0.2 0))else Q4 else if Q3=Q3 then if(1==x0.1)=Q3 then bif Q0 ((↑(length x0.2):Int)>=1)then bif Q0 ((↑(length x0.2):Int)<=16)then(↑(aK aH bt x0.2):Int)==(↑(length x0.2):Int)else Q4 else Q4 else if Q3=Q3 then if(2==x0.1)=Q3 then bif Q0 ((↑(length x0.2):Int)>=1)then bif Q0 ((↑(length x0.2):Int)<=19)then(↑(aK zU zU x0.2):Int)==(↑(length x0.2):Int)else Q4 else Q4 else if Q4=Q3 then default else Q4 else Q4 else Q4)
def qJ(x0:Sem bW):Bool:=(if(x0.1==3)=Q3 then Q3 else if(x0.1==4)=Q3 then if(bif (↑(length x0.2):Int)==1 then length x0.2==1 else Q3)=Q3 then Q3 else Q4 else if Q3=Q3 then if Q3=Q3 then if(1==x0.1)=Q3 then Q3 else if Q3=Q3 then if Q3=Q3 then if(2==x0.1)=Q3 then Q3 else if Q4=Q3 then Q4 else Q3 else Q4 else Q3 else Q4 else Q3)
def zdT:zX:=zP [bW] [Q7] (λx=>qJ x.1) λx=>(bZ x.1,())
theorem Z9:FK 243 zdT:=by
 refine aI (YV) λx hc C hC=>?_
 unfold qJ at hc;refine zD iL (YV) (λid _=>hC id) (zgi x.1) ?_;generalize hy:bZ x.1=y;unfold bZ at hy
 try simp only[ze.eta,zl]
 repeat' (first|with_reducible refine tM hy hc (λ_ hy hc=>?_) (λ_ hy hc=>?_)|with_reducible refine dc hy (λ_ hy=>?_) (λ_ hy=>?_)|with_reducible refine ii hc (λhc=>?_)|with_reducible refine zJ ?_)
 all_goals first|(cases hc;done)|(subst hy;first|rfl)
noncomputable def kv:=ln.addL [(281,zdd),(263,zc3),(231,F88),(223,F80),(243,zdT)]
theorem gN:zw kv:=iL.addL<|fc Zr<|fc Zh<|fc zfq<|fc zfm<|fc Z9 jm
abbrev zli:Nat->aM:=λ_=>{ }
theorem zit:zI (kv).P 228 Tryz.f228 1:=bU kw
theorem zkR(x0:Sem Q5):rn kv 0 zli Tryz.f228 [zE Q5 x0] []=Tr.ok (zC.ret (AV.bool (bif gM (zm x0)then Q3 else cY (zm x0))) []):=kw
def bQ(x0:Sem Q5):Sem Q7:=(bif gM x0 then Q3 else cY x0)
def F85:zX:=aC [Q5] [Q7] λx=>(bQ x.1,())
theorem zfn:FK 228 F85:=by
 refine zW (zit) λx C hC=>?_
 refine zD gN (zit) (λid _=>hC id) (zkR x.1) ?_;generalize hy:bQ x.1=y;unfold bQ at hy
 try simp only[ze.eta]
 repeat' (first|with_reducible refine dc hy (λ_ hy=>?_) (λ_ hy=>?_)|with_reducible refine zJ ?_)
 all_goals first|(cases hc;done)|(subst hy;first|rfl)
def zfJ(x0:Sem zj):Sem Q7:=(bif bP x0.1 then bif Q0 (x0.2.1>=1)then Q0 (x0.2.1<=3)else Q4 else Q4)
def ziU(x0:Sem iD):Sem Q7:=(bif bP x0.1 then bP x0.2 else Q4)
abbrev zlm:Nat->aM:=λ_=>{ }
theorem ziw:zI (kv).P 235 Tryz.f235 1:=bU kw
theorem zkU(x0:Sem zf):rn kv 0 zlm Tryz.f235 [zE zf x0] []=br (!aW x0) (Tr.ok (zC.ret (str []) [])) (br (x0.1==1) (Qc (10==10) (Tr.ok (zC.ret (str (ro x0.2.1)) []))) (br (x0.1==2) (Qc (uo x0.2.2 [39] [39,39]) (Qc (Q0 ([39].length+(Lib.replaceAll x0.2.2 [39] [39,39]).length<=1099511627776)) (Qc (Q0 (length ([39]++Lib.replaceAll x0.2.2 [39] [39,39])+[39].length<=1099511627776)) (Tr.ok (zC.ret (str ([39]++Lib.replaceAll x0.2.2 [39] [39,39]++[39])) []))))) (br (x0.1==3) (br (dO x0==2) (Tr.ok (zC.ret (str [84,82,85,69]) [])) (Tr.ok (zC.ret (str [70,65,76,83,69]) []))) (Tr.ok (zC.ret (str [78,85,76,76]) []))))):=kw
def gW(x0:Sem zf):Sem Q6:=(if(!aW x0)=Q3 then[]else if(x0.1==1)=Q3 then ro x0.2.1 else if(x0.1==2)=Q3 then[39]++Lib.replaceAll x0.2.2 [39] [39,39]++[39]else if(x0.1==3)=Q3 then if(dO x0==2)=Q3 then[84,82,85,69]else[70,65,76,83,69]else[78,85,76,76])
def wD(x0:Sem zf):Bool:=(if(!aW x0)=Q3 then Q3 else if(x0.1==1)=Q3 then if(10==10)=Q3 then Q3 else Q4 else if(x0.1==2)=Q3 then if uo x0.2.2 [39] [39,39]=Q3 then if Q0 ([39].length+(Lib.replaceAll x0.2.2 [39] [39,39]).length<=1099511627776)=Q3 then if Q0 (length ([39]++Lib.replaceAll x0.2.2 [39] [39,39])+[39].length<=1099511627776)=Q3 then Q3 else Q4 else Q4 else Q4 else Q3)
def F92:zX:=zP [zf] [Q6] (λx=>wD x.1) λx=>(gW x.1,())
theorem zfv:FK 235 F92:=by
 refine aI (ziw) λx hc C hC=>?_
 unfold wD at hc;refine zD gN (ziw) (λid _=>hC id) (zkU x.1) ?_;generalize hy:gW x.1=y;unfold gW at hy
 try simp only[ze.eta,zl]
 repeat' (first|with_reducible refine tM hy hc (λ_ hy hc=>?_) (λ_ hy hc=>?_)|with_reducible refine dc hy (λ_ hy=>?_) (λ_ hy=>?_)|with_reducible refine ii hc (λhc=>?_)|with_reducible refine zJ ?_)
 all_goals first|(cases hc;done)|(subst hy;first|rfl)
abbrev zlj:Nat->aM:=λ_=>{ }
theorem ziu:zI (kv).P 230 Tryz.f230 1:=bU kw
theorem zkS(x0:Sem zk):rn kv 0 zlj Tryz.f230 [zE zk x0] []=Qc (Q0 (length x0.2.1+length x0.2.2.1<=1099511627776)) (Qc (Q0 (length (x0.2.1++x0.2.2.1)+length x0.2.2.2.2.2.1<=1099511627776)) (Qc (Q0 (length (x0.2.1++x0.2.2.1++x0.2.2.2.2.2.1)+length x0.2.2.2.2.2.2.2.2.2.2.2.2<=1099511627776)) (Tr.ok (zC.ret (AV.bool (bif x0.2.1++x0.2.2.1++x0.2.2.2.2.2.1++x0.2.2.2.2.2.2.2.2.2.2.2.2==[]then bif IntKind.i64.wrap (IntKind.i64.wrap (IntKind.i64.wrap (IntKind.i64.wrap (IntKind.i64.wrap ((↑(length x0.2.2.2.1):Int)+(↑(length x0.2.2.2.2.1):Int))+(↑(length x0.2.2.2.2.2.2.1):Int))+(↑(length x0.2.2.2.2.2.2.2.1):Int))+(↑(length x0.2.2.2.2.2.2.2.2.2.1):Int))+(↑(length x0.2.2.2.2.2.2.2.2.2.2.1):Int))==0 then bif gM (zm x0.2.2.2.2.2.2.2.2.1)then gM (zm x0.2.2.2.2.2.2.2.2.2.2.2.1)else Q4 else Q4 else Q4)) [])))):=kw
def ei(x0:Sem zk):Sem Q7:=(bif x0.2.1++x0.2.2.1++x0.2.2.2.2.2.1++x0.2.2.2.2.2.2.2.2.2.2.2.2==[]then bif IntKind.i64.wrap (IntKind.i64.wrap (IntKind.i64.wrap (IntKind.i64.wrap (IntKind.i64.wrap ((↑(length x0.2.2.2.1):Int)+(↑(length x0.2.2.2.2.1):Int))+(↑(length x0.2.2.2.2.2.2.1):Int))+(↑(length x0.2.2.2.2.2.2.2.1):Int))+(↑(length x0.2.2.2.2.2.2.2.2.2.1):Int))+(↑(length x0.2.2.2.2.2.2.2.2.2.2.1):Int))==0 then bif gM x0.2.2.2.2.2.2.2.2.1 then gM x0.2.2.2.2.2.2.2.2.2.2.2.1 else Q4 else Q4 else Q4)
def dX(x0:Sem zk):Bool:=(if Q0 (length x0.2.1+length x0.2.2.1<=1099511627776)=Q3 then if Q0 (length (x0.2.1++x0.2.2.1)+length x0.2.2.2.2.2.1<=1099511627776)=Q3 then if Q0 (length (x0.2.1++x0.2.2.1++x0.2.2.2.2.2.1)+length x0.2.2.2.2.2.2.2.2.2.2.2.2<=1099511627776)=Q3 then Q3 else Q4 else Q4 else Q4)
def F87:zX:=zP [zk] [Q7] (λx=>dX x.1) λx=>(ei x.1,())
theorem zfp:FK 230 F87:=by
 refine aI (ziu) λx hc C hC=>?_
 unfold dX at hc;refine zD gN (ziu) (λid _=>hC id) (zkS x.1) ?_;generalize hy:ei x.1=y;unfold ei at hy
 try simp only[ze.eta]
 repeat' (first|with_reducible refine tM hy hc (λ_ hy hc=>?_) (λ_ hy hc=>?_)|with_reducible refine dc hy (λ_ hy=>?_) (λ_ hy=>?_)|with_reducible refine ii hc (λhc=>?_)|with_reducible refine zJ ?_)
 all_goals first|(cases hc;done)|(subst hy;first|rfl)
abbrev zlp:Nat->aM:=λ_=>{unroll:=Q3}
theorem ziz:zI (kv).P 242 Tryz.f242 1:=bU kw
theorem zkY(x0:TS):rn kv 0 zlp Tryz.f242 [zE Q6 x0] []=br Q3 (Qc Q3 (br (Q0 ((↑(aK aH bt x0):Int)>0)) (Qc (Q0 (0<=0)&&Q0 (0<=(↑(aK aH bt x0):Int))&&Q0 ((↑(aK aH bt x0):Int)<=(↑(length x0):Int))) (Tr.ok (zC.ret (tup [agg [ai 1,str (Qg ((↑(aK aH bt x0):Int).toNat-toNat 0) (Qh (toNat 0) x0))],ai (↑(aK aH bt x0):Int)]) []))) (br Q3 (Qc Q3 (br (Q0 ((↑(aK zU zU x0):Int)>0)) (Qc (Q0 (0<=0)&&Q0 (0<=(↑(aK zU zU x0):Int))&&Q0 ((↑(aK zU zU x0):Int)<=(↑(length x0):Int))) (Tr.ok (zC.ret (tup [agg [ai 2,str (Qg ((↑(aK zU zU x0):Int).toNat-toNat 0) (Qh (toNat 0) x0))],ai (↑(aK zU zU x0):Int)]) []))) (br Q4 Tr.err (Qc (zM 0 (length x0)) (br ((↑(getD x0 (toNat 0) 0).toNat:Int)==39) (Qc (jR x0) (Tr.ok (zC.ret (tup [agg [ai (dR x0).1.1,str (dR x0).1.2],ai (dR x0).2]) []))) (Qc (Q0 (0<=0)&&Q0 (0<=1)&&Q0 (1<=(↑(length x0):Int))) (Tr.ok (zC.ret (tup [agg [ai 4,str (Qg (toNat 1-toNat 0) (Qh (toNat 0) x0))],ai 1]) [])))))))) (Qc (zM 0 (length x0)) (br ((↑(getD x0 (toNat 0) 0).toNat:Int)==39)
 (Qc (jR x0) (Tr.ok (zC.ret (tup [agg [ai (dR x0).1.1,str (dR x0).1.2],ai (dR x0).2]) []))) (Qc (Q0 (0<=0)&&Q0 (0<=1)&&Q0 (1<=(↑(length x0):Int))) (Tr.ok (zC.ret (tup [agg [ai 4,str (Qg (toNat 1-toNat 0) (Qh (toNat 0) x0))],ai 1]) [])))))))) (Qc (zM 0 (length x0)) (br ((↑(getD x0 (toNat 0) 0).toNat:Int)==39) (Qc (jR x0) (Tr.ok (zC.ret (tup [agg [ai (dR x0).1.1,str (dR x0).1.2],ai (dR x0).2]) []))) (Qc (Q0 (0<=0)&&Q0 (0<=1)&&Q0 (1<=(↑(length x0):Int))) (Tr.ok (zC.ret (tup [agg [ai 4,str (Qg (toNat 1-toNat 0) (Qh (toNat 0) x0))],ai 1]) []))))):=kw
def bA(x0:TS):Sem bW×Sem zg:=(if Q3=Q3 then if Q0 ((↑(aK aH bt x0):Int)>0)=Q3 then((1,Qg ((↑(aK aH bt x0):Int).toNat-toNat 0) (Qh (toNat 0) x0)),(↑(aK aH bt x0):Int))else if Q3=Q3 then if Q0 ((↑(aK zU zU x0):Int)>0)=Q3 then((2,Qg ((↑(aK zU zU x0):Int).toNat-toNat 0) (Qh (toNat 0) x0)),(↑(aK zU zU x0):Int))else if Q4=Q3 then default else if((↑(getD x0 (toNat 0) 0).toNat:Int)==39)=Q3 then((dR x0).1,(dR x0).2)else((4,Qg (toNat 1-toNat 0) (Qh (toNat 0) x0)),1)else if((↑(getD x0 (toNat 0) 0).toNat:Int)==39)=Q3 then((dR x0).1,(dR x0).2)else((4,Qg (toNat 1-toNat 0) (Qh (toNat 0) x0)),1)else if((↑(getD x0 (toNat 0) 0).toNat:Int)==39)=Q3 then((dR x0).1,(dR x0).2)else((4,Qg (toNat 1-toNat 0) (Qh (toNat 0) x0)),1))
def kc(x0:TS):Bool:=(if Q3=Q3 then if Q3=Q3 then if Q0 ((↑(aK aH bt x0):Int)>0)=Q3 then if(Q0 (0<=0)&&Q0 (0<=(↑(aK aH bt x0):Int))&&Q0 ((↑(aK aH bt x0):Int)<=(↑(length x0):Int)))=Q3 then Q3 else Q4 else if Q3=Q3 then if Q3=Q3 then if Q0 ((↑(aK zU zU x0):Int)>0)=Q3 then if(Q0 (0<=0)&&Q0 (0<=(↑(aK zU zU x0):Int))&&Q0 ((↑(aK zU zU x0):Int)<=(↑(length x0):Int)))=Q3 then Q3 else Q4 else if Q4=Q3 then Q4 else if zM 0 (length x0)=Q3 then if((↑(getD x0 (toNat 0) 0).toNat:Int)==39)=Q3 then if jR x0=Q3 then Q3 else Q4 else if(Q0 (0<=0)&&Q0 (0<=1)&&Q0 (1<=(↑(length x0):Int)))=Q3 then Q3 else Q4 else Q4 else Q4 else if zM 0 (length x0)=Q3 then if((↑(getD x0 (toNat 0) 0).toNat:Int)==39)=Q3 then if jR x0=Q3 then Q3 else Q4 else if(Q0 (0<=0)&&Q0 (0<=1)&&Q0 (1<=(↑(length x0):Int)))=Q3 then Q3 else Q4 else Q4 else Q4 else if zM 0 (length x0)=Q3 then if((↑(getD x0 (toNat 0) 0).toNat:Int)==39)=Q3 then if jR x0=Q3 then Q3 else Q4 else if(Q0 (0<=0)&&Q0 (0<=1)&&Q0 (1<=(↑(length x0):Int)))=Q3 then Q3 else Q4 else Q4)
def F99:zX:=zP [Q6] [bW,zg] (λx=>kc x.1) λx=>((bA x.1).1,(bA x.1).2,())
theorem zfz:FK 242 F99:=by
 refine aI (ziz) λx hc C hC=>?_
 unfold kc at hc;refine zD gN (ziz) (λid _=>hC id) (zkY x.1) ?_;generalize hy:bA x.1=y;unfold bA at hy
 try simp only[ze.eta,zl]
 repeat' (first|with_reducible refine tM hy hc (λ_ hy hc=>?_) (λ_ hy hc=>?_)|with_reducible refine dc hy (λ_ hy=>?_) (λ_ hy=>?_)|with_reducible refine ii hc (λhc=>?_)|with_reducible refine zJ ?_)
 all_goals first|(cases hc;done)|(subst hy;first|rfl)
abbrev zhw:Nat->aM:=λj=>if j=3 then{slots:=[1,5,8,9,10],prom:=[(5,Q2,.str)]}else{ }
abbrev JC(l8:LS)(i9:Int)(i10:Int)(lh_0:LS):St:={tmps:=(tm 23 [(1,AV.clo (Fn.func 231) [] []),(5,AV.vec 0),(8,sl Q6 l8),(9,ai i9),(10,ai i10)]),heap:=[AO.vec Q6 lh_0]}
theorem V8:zI (kv).P 240 Tryz.f240 2:=bU kw
theorem zkW(x0:Sem Sh.str.sl):rn kv 0 zhw Tryz.f240 [zE Sh.str.sl x0,AV.clo (Fn.func 231) [] []] []=Tr.ok (zC.head 3 (ac Tryz.f240 3) (JC x0 (↑(length x0):Int) 0 [])):=kw
theorem SL(l8:LS)(i9:Int)(i10:Int)(lh_0:LS):rh kv 0 zhw Tryz.f240 3 (JC l8 i9 i10 lh_0)=br (Q0 (i10<i9)) (Qc (zM i10 l8.length) (Qc (Q0 (lh_0.length+[lC (l8.getD i10.toNat (zi Q6))].length<=1073741824)) (Tr.ok (zC.head 3 (ac Tryz.f240 3) (JC l8 i9 (IntKind.i64.wrap (i10+1)) (lh_0++[lC (l8.getD i10.toNat (zi Q6))])))))) (Qc (Q0 (lh_0.length<=140737488355328)&&Q0 ((Lib.join lh_0 [32,44,32]).length<=140737488355328)) (Tr.ok (zC.ret (str (Lib.join lh_0 [32,44,32])) []))):=kw
def dz:List (Sem Q6)->Int->List (Sem Q6)->Sem Q6
 |[],_,lh_0=>(Lib.join lh_0 [32,44,32])
 |x::r,i10,lh_0=>(dz r (i10+1) (lh_0++[lC x]))
def dN:List (Sem Q6)->Int->List (Sem Q6)->Bool
 |[],_,lh_0=>(if(Q0 (lh_0.length<=140737488355328)&&Q0 ((Lib.join lh_0 [32,44,32]).length<=140737488355328))=Q3 then Q3 else Q4)
 |x::r,i10,lh_0=>(if Q0 (lh_0.length+[lC x].length<=1073741824)=Q3 then dN r (i10+1) (lh_0++[lC x])else Q4)
theorem zaX{C:eP}(hC:∀id,C.ρ0 id=Q2)(l8:LS)(hl:l8.length<=aE):∀(m i:Nat)(lh_0:LS),l8.length-i=m->i<=l8.length->dN (l8.drop i) i lh_0=Q3->
  Reach (kv) C 240 (ac Tryz.f240 3) (JC l8 (l8.length:Int) (i:Int) lh_0) (λr h=>aL h [Q6] r=Q1 (dz (l8.drop i) i lh_0,())):=by
 intro m
 induction m with
 | zero=>
  intro i lh_0 hm hi hc;obtain rfl:i=l8.length:=by omega
  rw[jh]at hc⊢;refine zD gN (V8) (λid _=>hC id) (SL _ _ _ _) ?_;rw[dN]at hc;generalize hy:dz [] _ lh_0=y;rw[dz]at hy;simp only[zA,Tr.val_brF];repeat' (first|with_reducible refine tM hy hc (λ_ hy hc=>?_) (λ_ hy hc=>?_)|with_reducible refine dc hy (λ_ hy=>?_) (λ_ hy=>?_)|with_reducible refine ii hc (λhc=>?_)|with_reducible refine zJ ?_)
  all_goals first|(cases hc;done)|(subst hy;first|rfl)
 | succ m IH=>
  intro i lh_0 hm hi hc;have hlt:i<l8.length:=by omega
  have IH:=IH (i+1);have hcast:((i:Int)+1)=((i+1:Nat):Int):=by omega
  have hwr:=zp i ow;rw[fk hlt]at hc⊢;refine zD gN (V8) (λid _=>hC id) (SL _ _ _ _) ?_;rw[dN]at hc;generalize hy:dz (l8[i]::l8.drop (i+1)) (i:Int) lh_0=y;rw[dz]at hy;simp only[zH hlt,zu hlt,cA l8 _ hlt,hwr,Tr.val_brT,Tr.val_chkT];clear hwr
  try simp only[zu hlt]at hy
  simp only[hcast]at hy
  try simp only[zu hlt]at hc
  try simp only[hcast]at hc
  repeat' (first|with_reducible refine tM hy hc (λ_ hy hc=>?_) (λ_ hy hc=>?_)|with_reducible refine dc hy (λ_ hy=>?_) (λ_ hy=>?_)|with_reducible refine ii hc (λhc=>?_)|with_reducible refine zJ ?_)
  all_goals first|(cases hc;done)|(subst hy;first|(change Reach _ _ _ _ _ _;apply IH<;>first|omega|assumption)|rfl)
theorem Ve{C:eP}(hC:∀id,C.ρ0 id=Q2)(l8:LS)(lh_0:LS)(hc:dN l8 0 lh_0=Q3):
  Reach (kv) C 240 (ac Tryz.f240 3) (JC l8 (l8.length:Int) 0 lh_0) (λr h=>aL h [Q6] r=Q1 (dz l8 0 lh_0,())):=
 Reach.len 8 (Q6) l8 rfl λhl=>zaX hC l8 hl _ 0 lh_0 rfl (bd _) hc
def gq(x0:Sem Sh.str.sl):Sem Q6:=(dz x0 0 [])
def mF(x0:Sem Sh.str.sl):Bool:=(dN x0 0 [])
def F97:zX:=SZ [Sh.str.sl] [Q6] [(231,(λx=>mF x.1),λx=>(gq x.1,()))]
theorem zfx:FK 240 F97:=by
 refine J0 (V8) λj c g hm x hc C hC=>?_
 simp only[fZ,cr]at hm;obtain⟨rfl,rfl,rfl⟩:=hm
 replace hc:mF x.1=Q3:=hc
 unfold mF at hc;refine zD gN (V8) (λid _=>hC id) (zkW x.1) ?_;generalize hy:gq x.1=y;unfold gq at hy
 skip
 repeat' (first|with_reducible refine tM hy hc (λ_ hy hc=>?_) (λ_ hy hc=>?_)|with_reducible refine dc hy (λ_ hy=>?_) (λ_ hy=>?_)|with_reducible refine ii hc (λhc=>?_)|with_reducible refine zJ ?_)
 all_goals first|(cases hc;done)|(subst hy;first|(change Reach _ _ _ _ _ _;apply Ve hC<;>first|assumption|exact hc)|rfl)
noncomputable def Mh:=kv.addL [(228,F85),(235,F92),(230,F87),(242,F99),(240,F97)]
theorem vA:zw Mh:=gN.addL<|fc zfn<|fc zfv<|fc zfp<|fc zfz<|fc zfx jm
noncomputable def zc5:zX:=bm (List.replicate 2 Q2) (fN Mh Tryz.f265 (List.replicate 2 Q2))
theorem Zj:FK 265 zc5:=cw _ vA (bU kw)
noncomputable def Qs(g:Sem Q5->Sem Q6)(c:Sem Q5->Bool):bX:=Mh.add 305 (zP [Q5] [Q6] (λx=>c x.1) λx=>(g x.1,()))
theorem N1{g:Sem Q5->Sem Q6}{c:Sem Q5->Bool}(hg:FK 305 (zP [Q5] [Q6] (λx=>c x.1) λx=>(g x.1,()))):zw (Qs g c):=vA.add hg
abbrev zb2:Nat->aM:=λ_=>{ }
theorem Bp(g:Sem Q5->Sem Q6)(c:Sem Q5->Bool):zI (Qs g c).P 305 Tryz.f305 1:=bU kw
theorem zbq(g:Sem Q5->Sem Q6)(c:Sem Q5->Bool)(x0:Sem Q5):rn (Qs g c) 0 zb2 Tryz.f305 [zE Q5 x0] []=br (ze.op x0==[108,105,116]) (Qc (wD (ze.v x0)) (Tr.ok (zC.ret (str (gW (ze.v x0))) []))) (br (ze.op x0==[99,111,108]) (Tr.ok (zC.ret (str (ze.s x0)) [])) (br (ze.op x0==[110,111,116]) (Qc (zM 0 (ze.l x0).length) (Qc (c (zm ((ze.l x0).getD (toNat 0) (zi Q5)))) (Qc (Q0 ([40,78,79,84,32].length+length (g (zm ((ze.l x0).getD (toNat 0) (zi Q5))))<=1099511627776)) (Qc (Q0 (length ([40,78,79,84,32]++g (zm ((ze.l x0).getD (toNat 0) (zi Q5))))+[41].length<=1099511627776)) (Tr.ok (zC.ret (str ([40,78,79,84,32]++g (zm ((ze.l x0).getD (toNat 0) (zi Q5)))++[41])) [])))))) (br (ze.op x0==[110,117,108,108]) (Qc (zM 0 (ze.l x0).length) (Qc (c (zm ((ze.l x0).getD (toNat 0) (zi Q5)))) (Qc (Q0 ([40].length+length (g (zm ((ze.l x0).getD (toNat 0) (zi Q5))))<=1099511627776)) (Qc (Q0 (length ([40]++g (zm ((ze.l x0).getD (toNat 0) (zi Q5))))+[32,73,83,32,78,85,76,76,41].length<=1099511627776)) (Tr.ok (zC.ret (str ([40]++g (zm ((ze.l x0).getD (toNat 0) (zi Q5)))++[32,73,83,32,78,85,76,76,41]))
 [])))))) (Qc (zM 0 (ze.l x0).length) (Qc (c (zm ((ze.l x0).getD (toNat 0) (zi Q5)))) (Qc (Q0 ([40].length+length (g (zm ((ze.l x0).getD (toNat 0) (zi Q5))))<=1099511627776)) (Qc (Q0 (length ([40]++g (zm ((ze.l x0).getD (toNat 0) (zi Q5))))+[32].length<=1099511627776)) (Qc (Q0 (length (ze.op x0)<=140737488355328)&&List.all (ze.op x0) λb=>Q0 (b.toNat<128)) (Qc (Q0 (length ([40]++g (zm ((ze.l x0).getD (toNat 0) (zi Q5)))++[32])+(Lib.toUpperA (ze.op x0)).length<=1099511627776)) (Qc (Q0 (length ([40]++g (zm ((ze.l x0).getD (toNat 0) (zi Q5)))++[32]++Lib.toUpperA (ze.op x0))+[32].length<=1099511627776)) (Qc (zM 1 (ze.l x0).length) (Qc (c (zm ((ze.l x0).getD (toNat 1) (zi Q5)))) (Qc (Q0 (length ([40]++g (zm ((ze.l x0).getD (toNat 0) (zi Q5)))++[32]++Lib.toUpperA (ze.op x0)++[32])+length (g (zm ((ze.l x0).getD (toNat 1) (zi Q5))))<=1099511627776)) (Qc (Q0 (length ([40]++g (zm ((ze.l x0).getD (toNat 0) (zi Q5)))++[32]++Lib.toUpperA (ze.op x0)++[32]++g (zm ((ze.l x0).getD (toNat 1) (zi Q5))))+[41].length<=1099511627776)) (Tr.ok (zC.ret (str ([40]++g (zm ((ze.l x0).getD (toNat 0) (zi Q5)))++[32]++Lib.toUpperA (ze.op x0)++[32]++g
 (zm ((ze.l x0).getD (toNat 1) (zi Q5)))++[41])) [])))))))))))))))):=kw
def rT(g:Sem Q5->Sem Q6)(_:Sem Q5->Bool)(x0:Sem Q5):Sem Q6:=(if(ze.op x0==[108,105,116])=Q3 then gW (ze.v x0)else if(ze.op x0==[99,111,108])=Q3 then ze.s x0 else if(ze.op x0==[110,111,116])=Q3 then[40,78,79,84,32]++g ((ze.l x0).getD (toNat 0) (zi Q5))++[41]else if(ze.op x0==[110,117,108,108])=Q3 then[40]++g ((ze.l x0).getD (toNat 0) (zi Q5))++[32,73,83,32,78,85,76,76,41]else[40]++g ((ze.l x0).getD (toNat 0) (zi Q5))++[32]++Lib.toUpperA (ze.op x0)++[32]++g ((ze.l x0).getD (toNat 1) (zi Q5))++[41])
def xU(g:Sem Q5->Sem Q6)(c:Sem Q5->Bool)(x0:Sem Q5):Bool:=(if(ze.op x0==[108,105,116])=Q3 then if wD (ze.v x0)=Q3 then Q3 else Q4 else if(ze.op x0==[99,111,108])=Q3 then Q3 else if(ze.op x0==[110,111,116])=Q3 then if zM 0 (ze.l x0).length=Q3 then if c ((ze.l x0).getD (toNat 0) (zi Q5))=Q3 then if Q0 ([40,78,79,84,32].length+length (g ((ze.l x0).getD (toNat 0) (zi Q5)))<=1099511627776)=Q3 then if Q0 (length ([40,78,79,84,32]++g ((ze.l x0).getD (toNat 0) (zi Q5)))+[41].length<=1099511627776)=Q3 then Q3 else Q4 else Q4 else Q4 else Q4 else if(ze.op x0==[110,117,108,108])=Q3 then if zM 0 (ze.l x0).length=Q3 then if c ((ze.l x0).getD (toNat 0) (zi Q5))=Q3 then if Q0 ([40].length+length (g ((ze.l x0).getD (toNat 0) (zi Q5)))<=1099511627776)=Q3 then if Q0 (length ([40]++g ((ze.l x0).getD (toNat 0) (zi Q5)))+[32,73,83,32,78,85,76,76,41].length<=1099511627776)=Q3 then Q3 else Q4 else Q4 else Q4 else Q4 else if zM 0 (ze.l x0).length=Q3 then if c ((ze.l x0).getD (toNat 0) (zi Q5))=Q3 then if Q0 ([40].length+length (g ((ze.l x0).getD (toNat 0) (zi Q5)))<=1099511627776)=Q3 then
 if Q0 (length ([40]++g ((ze.l x0).getD (toNat 0) (zi Q5)))+[32].length<=1099511627776)=Q3 then if(Q0 (length (ze.op x0)<=140737488355328)&&List.all (ze.op x0) λb=>Q0 (b.toNat<128))=Q3 then if Q0 (length ([40]++g ((ze.l x0).getD (toNat 0) (zi Q5))++[32])+(Lib.toUpperA (ze.op x0)).length<=1099511627776)=Q3 then if Q0 (length ([40]++g ((ze.l x0).getD (toNat 0) (zi Q5))++[32]++Lib.toUpperA (ze.op x0))+[32].length<=1099511627776)=Q3 then if zM 1 (ze.l x0).length=Q3 then if c ((ze.l x0).getD (toNat 1) (zi Q5))=Q3 then if Q0 (length ([40]++g ((ze.l x0).getD (toNat 0) (zi Q5))++[32]++Lib.toUpperA (ze.op x0)++[32])+length (g ((ze.l x0).getD (toNat 1) (zi Q5)))<=1099511627776)=Q3 then if Q0 (length ([40]++g ((ze.l x0).getD (toNat 0) (zi Q5))++[32]++Lib.toUpperA (ze.op x0)++[32]++g ((ze.l x0).getD (toNat 1) (zi Q5)))+[41].length<=1099511627776)=Q3 then Q3 else Q4 else Q4 else Q4 else Q4 else Q4 else Q4 else Q4 else Q4 else Q4 else Q4 else Q4)
def zdk(g:Sem Q5->Sem Q6)(c:Sem Q5->Bool):zX:=zP [Q5] [Q6] (λx=>xU g c x.1) λx=>(rT g c x.1,())
theorem UL(g:Sem Q5->Sem Q6)(c:Sem Q5->Bool)(hg:FK 305 (zP [Q5] [Q6] (λx=>c x.1) λx=>(g x.1,()))):FK 305 (zdk g c):=by
 refine aI (Bp g c) λx hc C hC=>?_
 unfold xU at hc;refine zD (N1 hg) (Bp g c) (λid _=>hC id) (zbq g c x.1) ?_;generalize hy:rT g c x.1=y;unfold rT at hy
 try simp only[ze.eta]
 repeat' (first|with_reducible refine tM hy hc (λ_ hy hc=>?_) (λ_ hy hc=>?_)|with_reducible refine dc hy (λ_ hy=>?_) (λ_ hy=>?_)|with_reducible refine ii hc (λhc=>?_)|with_reducible refine zJ ?_)
 all_goals first|(cases hc;done)|(subst hy;first|rfl)
mutual
def aO:Nat->Sem Q5->Sem Q6
 |0=>λ_=>default
 |n+1=>rT (aO n) (gu n)
def gu:Nat->Sem Q5->Bool
 |0=>λ_=>Q4
 |n+1=>xU (aO n) (gu n)
end
theorem LR:∀n,FK 305 (zP [Q5] [Q6] (λx=>gu n x.1) λx=>(aO n x.1,()))
 |0=>fj ⟨Tryz.f305,(Bp default default).1,(Bp default default).2.1,(Bp default default).2.2.1⟩ (λ_=>rfl)
 |n+1=>UL (aO n) (gu n) (LR n)
def zdj:zX:=zP [Q5] [Q6] (λx=>gu 16 x.1) λx=>(aO 16 x.1,())
theorem Zx:FK 305 zdj:=LR 16
noncomputable def oH:=Mh.addL [(265,zc5),(305,zdj)]
theorem j0:zw oH:=vA.addL<|fc Zj<|fc Zx jm
abbrev uw(l:LS)(i:Int):St:={tmps:=[.sl Q6 l,.clo (.func 265) [] [.ptr 0 0],.any,.any,.any,.any,.any,.int .i64 l.length,.int .i64 i,.any,.any,.any,.any,.any,.any,.any,.any,.any,.any],heap:=[.box [.clo (.func 223) [] []]]}
theorem Ok(l:LS):run oH 1 Dc Tryz.f295.results.toList 300 (bw Tryz.f295) (be Tryz.f295.ntmps [.sl Q6 l,.clo (.func 265) [] [.ptr 0 0]] [.box [.clo (.func 223) [] []]])=.ok (.head 2 (ac Tryz.f295 2) (uw l 0)):=kw
theorem OK(l:LS)(i:Int):run oH 1 Dc Tryz.f295.results.toList 300 (ac Tryz.f295 2) (uw l i)=oV (K:=ac Tryz.f295 2) (e:=Q6) l (λx=>!bP x) (uw l) [.box [.clo (.func 223) [] []]] i:=kw
theorem Sx:zI oH.P 295 Tryz.f295 2:=bU kw
def zfD:iw [Q1 (.sl Q6),Q2]:=λx h=>match x,h with
 |(l,.clo (.func 265) [] [.ptr 0 0],_),[.box [.clo (.func 223) [] []]]=>.ok (.int .i64 (ae (λx=>!bP x) l 0),[.box [.clo (.func 223) [] []]])
 |_,_=>.err
def zdf:zX:=bm [Q1 (.sl Q6),Q2] zfD
theorem Zt:FK 295 zdf:=by
 refine dH Sx λx h0 res hx C hC=>?_
 unfold zfD at hx;split at hx
 ·rename_i l u;simp only[Tr.val_ok,bB]at hx;subst hx;refine Reach.len 0 Q6 l rfl λhl=>?_
  refine zD (n0:=1) j0 Sx hC (Ok l) ?_;exact mA l (λx=>!bP x) (uw l) j0 Sx hC (OK l) hl _ 0 rfl (bd _)
 ·simp at hx
abbrev zgR:Nat->aM:=λ_=>{ }
theorem YS:zI (oH).P 278 Tryz.f278 1:=bU kw
theorem zf5(x0:Sem Q5):rn oH 0 zgR Tryz.f278 [zE Q5 x0] []=br (!cY (zm x0)) (Tr.ok (zC.ret (tup [str [],ai 1]) [])) (Qc (gu 16 (zm x0)) (Tr.ok (zC.ret (tup [str (aO 16 (zm x0)),ai 0]) []))):=kw
def mY(x0:Sem Q5):Sem Q6×Sem zg:=(if(!cY x0)=Q3 then([],1)else(aO 16 x0,0))
def pN(x0:Sem Q5):Bool:=(if(!cY x0)=Q3 then Q3 else if gu 16 x0=Q3 then Q3 else Q4)
def zdc:zX:=zP [Q5] [Q6,zg] (λx=>pN x.1) λx=>((mY x.1).1,(mY x.1).2,())
theorem Zq:FK 278 zdc:=by
 refine aI (YS) λx hc C hC=>?_
 unfold pN at hc;refine zD j0 (YS) (λid _=>hC id) (zf5 x.1) ?_;generalize hy:mY x.1=y;unfold mY at hy
 try simp only[ze.eta]
 repeat' (first|with_reducible refine tM hy hc (λ_ hy hc=>?_) (λ_ hy hc=>?_)|with_reducible refine dc hy (λ_ hy=>?_) (λ_ hy=>?_)|with_reducible refine ii hc (λhc=>?_)|with_reducible refine zJ ?_)
 all_goals first|(cases hc;done)|(subst hy;first|rfl)
abbrev zhl:Nat->aM:=λj=>if j=3 then{slots:=[0,4,5],prom:=[(4,Q2,bW)]}else{ }
abbrev JB(s0:TS)(i5:Int)(lh_0:LF):St:={tmps:=(tm 47 [(0,str s0),(4,AV.vec 0),(5,ai i5)]),heap:=[AO.vec zr lh_0]}
theorem zcn:zI (oH).P 192 Tryz.f192 1:=bU kw
theorem zkL(x0:TS):rn oH 0 zhl Tryz.f192 [zE Q6 x0] []=Tr.ok (zC.head 3 (ac Tryz.f192 3) (JB x0 0 [])):=kw
theorem zcu(s0:TS)(i5:Int)(lh_0:LF):rh oH 0 zhl Tryz.f192 3 (JB s0 i5 lh_0)=br (Q0 (i5<(↑(length s0):Int))) (Qc (zM i5 (length s0)&&bif (↑(getD s0 i5.toNat 0).toNat:Int)==32 then Q3 else zM i5 (length s0)) (br (bif (↑(getD s0 i5.toNat 0).toNat:Int)==32 then Q3 else(↑(getD s0 i5.toNat 0).toNat:Int)==10) (Tr.ok (zC.head 3 (ac Tryz.f192 3) (JB s0 (IntKind.i64.wrap (i5+1)) lh_0))) (Qc (Q0 (0<=i5)&&Q0 (i5<=(↑(length s0):Int))&&Q0 ((↑(length s0):Int)<=(↑(length s0):Int))) (Qc (kc (Qg ((↑(length s0):Int).toNat-i5.toNat) (Qh i5.toNat s0))) (Qc (qJ (bA (Qg ((↑(length s0):Int).toNat-i5.toNat) (Qh i5.toNat s0))).1) (br (bif !bZ (bA (Qg ((↑(length s0):Int).toNat-i5.toNat) (Qh i5.toNat s0))).1 then Q3 else(↑lh_0.length:Int)==400) (Tr.ok (zC.ret (tup [nils,ai 2]) [])) (Qc (Q0 (lh_0.length+[(bA (Qg ((↑(length s0):Int).toNat-i5.toNat) (Qh i5.toNat s0))).1].length<=1073741824)) (Tr.ok (zC.head 3 (ac Tryz.f192 3) (JB s0 (IntKind.i64.wrap (i5+(bA (Qg ((↑(length s0):Int).toNat-i5.toNat) (Qh i5.toNat s0))).2))
 (lh_0++[(bA (Qg ((↑(length s0):Int).toNat-i5.toNat) (Qh i5.toNat s0))).1]))))))))))) (Tr.ok (zC.ret (tup [AV.vec 0,ai 0]) [AO.vec zr lh_0])):=kw
def ta:Nat->(Sem Sh.str)->Int->(List (Sem zr))->Sem bW.sl×Sem zg
 |0,_,_,_=>default
 |n+1,s0,i5,lh_0=>(if Q0 (i5<(↑(length s0):Int))=Q3 then
 if(bif (↑(getD s0 i5.toNat 0).toNat:Int)==32 then Q3 else(↑(getD s0 i5.toNat 0).toNat:Int)==10)=Q3 then
  ta n s0 (IntKind.i64.wrap (i5+1)) lh_0
 else
  if
    (bif !bZ (bA (Qg ((↑(length s0):Int).toNat-i5.toNat) (Qh i5.toNat s0))).1 then Q3
     else(↑lh_0.length:Int)==400)=
     Q3 then
   ([],2)
  else
   ta n s0 (IntKind.i64.wrap (i5+(bA (Qg ((↑(length s0):Int).toNat-i5.toNat) (Qh i5.toNat s0))).2))
    (lh_0++[(bA (Qg ((↑(length s0):Int).toNat-i5.toNat) (Qh i5.toNat s0))).1])
else(lh_0,0))
def rQ:Nat->(Sem Sh.str)->Int->(List (Sem zr))->Bool
 |0,_,_,_=>Q4
 |n+1,s0,i5,lh_0=>(if Q0 (i5<(↑(length s0):Int))=Q3 then
 if (zM i5 (length s0)&&bif (↑(getD s0 i5.toNat 0).toNat:Int)==32 then true else zM i5 (length s0))=true then
  if(bif (↑(getD s0 i5.toNat 0).toNat:Int)==32 then Q3 else(↑(getD s0 i5.toNat 0).toNat:Int)==10)=Q3 then
   rQ n s0 (IntKind.i64.wrap (i5+1)) lh_0
  else
   if (decide (0≤i5)&&decide (i5≤(↑(length s0):Int))&&decide ((↑(length s0):Int)≤(↑(length s0):Int)))=true then
    if kc (List.take ((↑(length s0):Int).toNat-i5.toNat) (List.drop i5.toNat s0))=true then
     if qJ (bA (List.take ((↑(length s0):Int).toNat-i5.toNat) (List.drop i5.toNat s0))).1=true then
      if
        (bif !bZ (bA (Qg ((↑(length s0):Int).toNat-i5.toNat) (Qh i5.toNat s0))).1 then Q3
         else(↑lh_0.length:Int)==400)=
         Q3 then
       Q3
      else
       if
         Q0 (lh_0.length+[(bA (Qg ((↑(length s0):Int).toNat-i5.toNat) (Qh i5.toNat s0))).1].length<=1073741824)=
          Q3 then
        rQ n s0 (IntKind.i64.wrap (i5+(bA (Qg ((↑(length s0):Int).toNat-i5.toNat) (Qh i5.toNat s0))).2))
         (lh_0++[(bA (Qg ((↑(length s0):Int).toNat-i5.toNat) (Qh i5.toNat s0))).1])
       else Q4
     else Q4
    else Q4
   else Q4
 else Q4
else Q3)
theorem PU{C:eP}(hC:∀id,C.ρ0 id=Q2):∀(n:Nat)(s0:TS)(i5:Int)(lh_0:LF),rQ n s0 i5 lh_0=Q3->
  Reach (oH) C 192 (ac Tryz.f192 3) (JB s0 i5 lh_0) (λr h=>aL h [bW.sl,zg] r=Q1 ((ta n s0 i5 lh_0).1,(ta n s0 i5 lh_0).2,()))
 |0,s0,i5,lh_0,hc=>by cases hc
 | n+1,s0,i5,lh_0,hc=>by
  refine zD j0 (zcn) (λid _=>hC id) (zcu _ _ _) ?_;rw[rQ]at hc;generalize hy:ta (n+1) s0 i5 lh_0=y;rw[ta]at hy
  try simp only[ze.eta,zl]
  repeat' (first|with_reducible refine tM hy hc (λ_ hy hc=>?_) (λ_ hy hc=>?_)|with_reducible refine dc hy (λ_ hy=>?_) (λ_ hy=>?_)|with_reducible refine ii hc (λhc=>?_)|with_reducible refine zJ ?_)
  all_goals first|(cases hc;done)|(subst hy;first|(change Reach _ _ _ _ _ _;refine PU hC n _ _ _ ?_<;>exact hc)|rfl)
def cut(x0:TS):Sem bW.sl×Sem zg:=(ta (length x0+1) x0 0 [])
def P4(x0:TS):Bool:=(rQ (length x0+1) x0 0 [])
def F69:zX:=zP [Q6] [bW.sl,zg] (λx=>P4 x.1) λx=>((cut x.1).1,(cut x.1).2,())
theorem zfa:FK 192 F69:=by
 refine aI (zcn) λx hc C hC=>?_
 unfold P4 at hc;refine zD j0 (zcn) (λid _=>hC id) (zkL x.1) ?_;generalize hy:cut x.1=y;unfold cut at hy
 try simp only[ze.eta,zl]
 repeat' (first|with_reducible refine tM hy hc (λ_ hy hc=>?_) (λ_ hy hc=>?_)|with_reducible refine dc hy (λ_ hy=>?_) (λ_ hy=>?_)|with_reducible refine ii hc (λhc=>?_)|with_reducible refine zJ ?_)
 all_goals first|(cases hc;done)|(subst hy;first|(change Reach _ _ _ _ _ _;refine PU hC _ _ _ _ ?_<;>exact hc)|rfl)
noncomputable def H2:=oH.addL [(295,zdf),(278,zdc),(192,F69)]
theorem vB:zw H2:=j0.addL<|fc Zt<|fc Zq<|fc zfa jm
noncomputable def zc4:zX:=bm (List.replicate 2 Q2) (fN H2 Tryz.f264 (List.replicate 2 Q2))
theorem Zi:FK 264 zc4:=cw _ vB (bU kw)
abbrev zln:Nat->aM:=λ_=>{ }
theorem zix:zI (H2).P 237 Tryz.f237 1:=bU kw
theorem zkV(x0:Sem Q5):rn H2 0 zln Tryz.f237 [zE Q5 x0] []=Qc (pN (zm x0)) (Tr.ok (zC.ret (str (mY (zm x0)).1) [])):=kw
def iv(x0:Sem Q5):Sem Q6:=((mY x0).1)
def pD(x0:Sem Q5):Bool:=(if pN x0=Q3 then Q3 else Q4)
def F94:zX:=zP [Q5] [Q6] (λx=>pD x.1) λx=>(iv x.1,())
theorem zfw:FK 237 F94:=by
 refine aI (zix) λx hc C hC=>?_
 unfold pD at hc;refine zD vB (zix) (λid _=>hC id) (zkV x.1) ?_;generalize hy:iv x.1=y;unfold iv at hy
 try simp only[ze.eta]
 repeat' (first|with_reducible refine tM hy hc (λ_ hy hc=>?_) (λ_ hy hc=>?_)|with_reducible refine dc hy (λ_ hy=>?_) (λ_ hy=>?_)|with_reducible refine ii hc (λhc=>?_)|with_reducible refine zJ ?_)
 all_goals first|(cases hc;done)|(subst hy;first|rfl)
noncomputable def H3:=H2.addL [(264,zc4),(237,F94)]
theorem vC:zw H3:=vB.addL<|fc Zi<|fc zfw jm
noncomputable def F86:zX:=bm (List.replicate 4 Q2) (fN H3 Tryz.f229 (List.replicate 4 Q2))
theorem zfo:FK 229 F86:=cw _ vC (bU kw)
abbrev zlo:Nat->aM:=λ_=>{ }
theorem ziy:zI (H3).P 241 Tryz.f241 2:=bU kw
theorem zkX(x0:TS)(x1:Sem Q5):rn H3 0 zlo Tryz.f241 [zE Q6 x0,zE Q5 x1] []=br (gM (zm x1)) (Tr.ok (zC.ret (str []) [])) (Qc (Q0 (length x0+[67,72,69,67,75,32,40,32].length<=1099511627776)) (Qc (pD (zm x1)) (Qc (Q0 (length (x0++[67,72,69,67,75,32,40,32])+length (iv (zm x1))<=1099511627776)) (Qc (Q0 (length (x0++[67,72,69,67,75,32,40,32]++iv (zm x1))+[32,41].length<=1099511627776)) (Tr.ok (zC.ret (str (x0++[67,72,69,67,75,32,40,32]++iv (zm x1)++[32,41])) [])))))):=kw
def kj(x0:TS)(x1:Sem Q5):Sem Q6:=(if gM x1=Q3 then[]else x0++[67,72,69,67,75,32,40,32]++iv x1++[32,41])
def sV(x0:TS)(x1:Sem Q5):Bool:=(if gM x1=Q3 then Q3 else if Q0 (length x0+[67,72,69,67,75,32,40,32].length<=1099511627776)=Q3 then if pD x1=Q3 then if Q0 (length (x0++[67,72,69,67,75,32,40,32])+length (iv x1)<=1099511627776)=Q3 then if Q0 (length (x0++[67,72,69,67,75,32,40,32]++iv x1)+[32,41].length<=1099511627776)=Q3 then Q3 else Q4 else Q4 else Q4 else Q4)
def F98:zX:=zP [Q6,Q5] [Q6] (λx=>sV x.1 x.2.1) λx=>(kj x.1 x.2.1,())
theorem zfy:FK 241 F98:=by
 refine aI (ziy) λx hc C hC=>?_
 unfold sV at hc;refine zD vC (ziy) (λid _=>hC id) (zkX x.1 x.2.1) ?_;generalize hy:kj x.1 x.2.1=y;unfold kj at hy
 try simp only[ze.eta]
 repeat' (first|with_reducible refine tM hy hc (λ_ hy hc=>?_) (λ_ hy hc=>?_)|with_reducible refine dc hy (λ_ hy=>?_) (λ_ hy=>?_)|with_reducible refine ii hc (λhc=>?_)|with_reducible refine zJ ?_)
 all_goals first|(cases hc;done)|(subst hy;first|rfl)
noncomputable def X2:=H3.addL [(229,F86),(241,F98)]
theorem Oe:zw X2:=vC.addL<|fc zfo<|fc zfy jm
def zja(x0:Sem zk):Sem Q7:=(bif bif Q0 ((↑(length x0.2.2.2.2.1):Int)<1)then Q3 else Q0 ((↑(length x0.2.2.2.2.1):Int)>8)then Q4 else bif !Q0 (ae (λx=>!zfJ x) x0.2.2.2.2.1 0>=0)then bif bP x0.2.2.2.2.2.1 then bif bif Q0 ((↑(length x0.2.2.2.2.2.2.1):Int)<0)then Q3 else Q0 ((↑(length x0.2.2.2.2.2.2.1):Int)>8)then Q4 else bif !Q0 (ae (λx=>!bP x) x0.2.2.2.2.2.2.1 0>=0)then bif bif Q0 ((↑(length x0.2.2.2.2.2.2.2.1):Int)<0)then Q3 else Q0 ((↑(length x0.2.2.2.2.2.2.2.1):Int)>8)then Q4 else bif !Q0 (ae (λx=>!ziU x) x0.2.2.2.2.2.2.2.1 0>=0)then bQ x0.2.2.2.2.2.2.2.2.1 else Q4 else Q4 else Q4 else Q4)
noncomputable def X3:=X2
theorem vD:zw X3:=Oe
noncomputable section
def tv(x0:Sem zk):Tr (Empty⊕aw):=
 let a0:=zm x0.t.t.1
 let a1:=zm x0.t.t.q.2.1
 let a2:=(x0.t.t.2.1,x0.t.t.q.1,a1,x0.t.t.t)
 let a3:=(x0.1,[],x0.2.2.1,x0.2.2.2.1,x0.t.1,x0.t.2.1,x0.t.q.1,x0.t.q.2.1,a0,a2)
 let a4:=bif bP x0.2.1 then bQ a1 else Q4
 let a5:=(x0.1,[],x0.2.2.1,x0.2.2.2.1,x0.t.1,x0.t.2.1,x0.t.q.1,x0.t.q.2.1,a0,x0.t.t.2.1,x0.t.t.q.1,ze.mk [] (0,0,[]) [] [],x0.t.t.t)
 let a6:=bP x0.t.t.t
 let a7:=bif bP x0.2.1 then a6 else Q4
 let a8:=(x0.t.t.2.1,x0.t.t.q.1,a1,[])
 let a9:=(x0.1,[],x0.2.2.1,x0.2.2.2.1,x0.t.1,x0.t.2.1,x0.t.q.1,x0.t.q.2.1,a0,a8)
 let a10:=bP x0.2.2.1
 let a11:=(↑(length x0.2.2.2.1):Int)
 let a12:=ae (λx=>!bP x) x0.2.2.2.1 0
 let a13:=bQ a0
 let a14:=bif !Q0 (a12>=0)then a13 else Q4
 let a15:=bif bP x0.2.1 then bif a10 then bif bif Q0 (a11<1)then Q3 else Q0 (a11>8)then Q4 else a14 else Q4 else Q4
 let a16:=(x0.1,[],[],[],x0.t.1,x0.t.2.1,x0.t.q.1,x0.t.q.2.1,ze.mk [] (0,0,[]) [] [],a2)
 let a17:=dX a16
 let a18:=ei a16
 let a19:=bif bP x0.2.1 then bif a10 then bif bP x0.t.2.1 then bif a6 then a13 else Q4 else Q4 else Q4 else Q4
 let a20:=(x0.1,[],[],x0.2.2.2.1,x0.t.1,[],x0.t.q.1,x0.t.q.2.1,ze.mk [] (0,0,[]) [] [],a8)
 let a21:=bif bP x0.2.1 then bif a10 then bif bif Q0 (a11<2)then Q3 else Q0 (a11>2)then Q4 else a14 else Q4 else Q4
 br (x0.1==[99,114,101,97,116,101]) (br (bP x0.2.1) Tr.err (re (kb Q4) []))
 (br (x0.1==[100,114,111,112])
  (Qc (bif bP x0.2.1 then dX a3 else Q3) (re (AV.bool (bif bP x0.2.1 then ei a3 else Q4)) []))
  (br (x0.1==[105,110,115,101,114,116]) (br (bP x0.2.1) Tr.err (re (kb Q4) [])) (br (x0.1==[117,112,100,97,116,101]) (br (bP x0.2.1) Tr.err (re (kb Q4) [])) (br (x0.1==[100,101,108,101,116,101]) (Qc (bif a4 then dX a5 else Q3) (re (AV.bool (bif a4 then ei a5 else Q4)) []))
  (br (x0.1==[115,101,108,101,99,116]) (Qc (bif a4 then dX a5 else Q3) (re (AV.bool (bif a4 then ei a5 else Q4)) [])) (br (x0.1==[114,101,97,100]) (Qc (bif a7 then dX a9 else Q3) (re (AV.bool (bif a7 then ei a9 else Q4)) []))
  (br (x0.1==[119,114,105,116,101]) (Qc (bif a7 then dX a9 else Q3) (re (AV.bool (bif a7 then ei a9 else Q4)) [])) (br (x0.1==[117,110,114,101,97,100]) (Qc (bif a7 then dX a9 else Q3) (re (AV.bool (bif a7 then ei a9 else Q4)) [])) (br (x0.1==[117,110,119,114,105,116,101])
  (Qc (bif a7 then dX a9 else Q3) (re (AV.bool (bif a7 then ei a9 else Q4)) [])) (br (x0.1==[99,111,112,121]) (Qc (bif a15 then a17 else Q3) (re (AV.bool (bif a15 then a18 else Q4)) [])) (br (x0.1==[106,111,105,110]) (Qc (bif a19 then dX a20 else Q3) (re (AV.bool (bif a19 then ei a20 else Q4)) []))
  (br (x0.1==[103,114,111,117,112]) (Qc (bif a21 then a17 else Q3) (re (AV.bool (bif a21 then a18 else Q4)) [])) (re (kb Q4) [])))))))))))))
def yJ(x0:Sem zk):=al [Q7] t0 100000000 (tv x0)
def ux(x0:Sem zk):=(yJ x0).isSome
def eW(x0:Sem zk):=o1 (yJ x0)
def Xb:=FT [zk] [Q7] λx=>yJ x.1
theorem Um:FK 190 Xb:=vD.T1 (f:=Tryz.f190) (keep:=k0) (e:=e0)
def xe(x0:Sem zk):Tr (Empty⊕aw):=
 let a0:=Q0 (length x0.1<=140737488355328)&&List.all x0.1 λb=>Q0 (b.toNat<128)
 let a1:=[77,73,71,82,65,84,69,32]++Lib.toUpperA x0.1
 let a2:=a1++[32]
 let a3:=a2++x0.2.1
 let a4:=a3++[32,70,82,79,77,32]
 let a5:=[71,82,65,78,84,32]++Lib.toUpperA x0.1
 let a6:=a5++[32,79,78,32]
 let a7:=a6++x0.2.1
 let a8:=a7++[32,84,79,32]
 let a9:=Qg ((↑(length x0.1):Int).toNat-toNat 2) (Qh (toNat 2) x0.1)
 let a10:=Lib.toUpperA a9
 let a11:=[82,69,86,79,75,69,32]++a10
 let a12:=a11++[32,79,78,32]
 let a13:=a12++x0.2.1
 let a14:=a13++[32,70,82,79,77,32]
 let a15:=a4++x0.2.2.1
 let a16:=a15++[32,40,32]
 let a17:=gq x0.2.2.2.1
 let a18:=a16++a17
 let a19:=zm x0.t.t.1
 let a20:=sV [32] a19
 let a21:=a18++[32,41]
 let a22:=kj [32] a19
 let a23:=a15++[32,44,32]
 let a24:=a23++x0.t.t.t
 let a25:=a24++[32,79,78,32]
 let a26:=a25++x0.t.2.1
 let a27:=a15++[32,66,89,32]
 let a28:=getD x0.2.2.2.1 (toNat 0) (zi Q6)
 let a29:=a27++a28
 let a30:=a29++[32,83,85,77,32]
 let a31:=getD x0.2.2.2.1 (toNat 1) (zi Q6)
 let a32:=a30++a31
 Qc a0
 (Qc (Q0 ([77,73,71,82,65,84,69,32].length+(Lib.toUpperA x0.1).length<=1099511627776))
  (Qc (Q0 (length a1+[32].length<=1099511627776)) (Qc (Q0 (length a2+length x0.2.1<=1099511627776)) (Qc (Q0 (length a3+[32,70,82,79,77,32].length<=1099511627776)) (Qc (Q0 (length a4+length x0.2.2.1<=1099511627776)) (br (x0.1==[99,114,101,97,116,101]) Tr.err (br (x0.1==[100,114,111,112])
  (Qc (Q0 ([68,82,79,80,32,84,65,66,76,69,32].length+length x0.2.1<=1099511627776)) (re (str ([68,82,79,80,32,84,65,66,76,69,32]++x0.2.1)) [])) (br (x0.1==[105,110,115,101,114,116]) (Qc (Q0 ([73,78,83,69,82,84,32,73,78,84,79,32].length+length x0.2.1<=1099511627776)) (Qc (decide
  (length ([73,78,83,69,82,84,32,73,78,84,79,32]++x0.2.1)+[32,86,65,76,85,69,83,32,40,32].length<=1099511627776)) Tr.err)) (br (x0.1==[117,112,100,97,116,101]) (Qc (Q0 ([85,80,68,65,84,69,32].length+length x0.2.1<=1099511627776))
  (Qc (Q0 (length ([85,80,68,65,84,69,32]++x0.2.1)+[32,83,69,84,32].length<=1099511627776)) Tr.err)) (br (x0.1==[100,101,108,101,116,101]) (Qc (Q0 ([68,69,76,69,84,69,32,70,82,79,77,32].length+length x0.2.1<=1099511627776)) Tr.err) (br (x0.1==[115,101,108,101,99,116])
  (Qc (Q0 ([83,69,76,69,67,84,32,42,32,70,82,79,77,32].length+length x0.2.1<=1099511627776)) Tr.err) (br (x0.1==[114,101,97,100]) (Qc a0 (Qc (Q0 ([71,82,65,78,84,32].length+(Lib.toUpperA x0.1).length<=1099511627776)) (Qc (Q0 (length a5+[32,79,78,32].length<=1099511627776))
  (Qc (Q0 (length a6+length x0.2.1<=1099511627776)) (Qc (Q0 (length a7+[32,84,79,32].length<=1099511627776)) (Qc (Q0 (length a8+length x0.t.t.t<=1099511627776)) (re (str (a8++x0.t.t.t)) []))))))) (br (x0.1==[119,114,105,116,101]) (Qc a0
  (Qc (Q0 ([71,82,65,78,84,32].length+(Lib.toUpperA x0.1).length<=1099511627776)) (Qc (Q0 (length a5+[32,79,78,32].length<=1099511627776)) (Qc (Q0 (length a6+length x0.2.1<=1099511627776)) (Qc (Q0 (length a7+[32,84,79,32].length<=1099511627776))
  (Qc (Q0 (length a8+length x0.t.t.t<=1099511627776)) (re (str (a8++x0.t.t.t)) []))))))) (br (x0.1==[117,110,114,101,97,100]) (Qc (Q0 (0<=2)&&Q0 (2<=(↑(length x0.1):Int))&&Q0 ((↑(length x0.1):Int)<=(↑(length x0.1):Int)))
  (Qc (Q0 (a9.length<=140737488355328)&&a9.all λb=>Q0 (b.toNat<128)) (Qc (Q0 ([82,69,86,79,75,69,32].length+a10.length<=1099511627776)) (Qc (Q0 (length a11+[32,79,78,32].length<=1099511627776)) (Qc (Q0 (length a12+length x0.2.1<=1099511627776))
  (Qc (Q0 (length a13+[32,70,82,79,77,32].length<=1099511627776)) (Qc (Q0 (length a14+length x0.t.t.t<=1099511627776)) (re (str (a14++x0.t.t.t)) [])))))))) (br (x0.1==[117,110,119,114,105,116,101]) (Qc (Q0 (0<=2)&&Q0 (2<=(↑(length x0.1):Int))&&
  Q0 ((↑(length x0.1):Int)<=(↑(length x0.1):Int))) (Qc (Q0 (a9.length<=140737488355328)&&a9.all λb=>Q0 (b.toNat<128)) (Qc (Q0 ([82,69,86,79,75,69,32].length+a10.length<=1099511627776)) (Qc (Q0 (length a11+[32,79,78,32].length<=1099511627776)) (Qc (Q0 (length a12+length x0.2.1<=1099511627776))
  (Qc (Q0 (length a13+[32,70,82,79,77,32].length<=1099511627776)) (Qc (Q0 (length a14+length x0.t.t.t<=1099511627776)) (re (str (a14++x0.t.t.t)) [])))))))) (br (x0.1==[99,111,112,121]) (Qc (Q0 (length a15+[32,40,32].length<=1099511627776)) (Qc (mF x0.2.2.2.1)
  (Qc (Q0 (length a16+length a17<=1099511627776)) (Qc (Q0 (length a18+[32,41].length<=1099511627776)) (Qc a20 (Qc (Q0 (length a21+length a22<=1099511627776)) (re (str (a21++a22)) []))))))) (br (x0.1==[106,111,105,110]) (Qc (Q0 (length a15+[32,44,32].length<=1099511627776))
  (Qc (Q0 (length a23+length x0.t.t.t<=1099511627776)) (Qc (Q0 (length a24+[32,79,78,32].length<=1099511627776)) (Qc (Q0 (length a25+length x0.t.2.1<=1099511627776)) (Qc a20 (Qc (Q0 (length a26+length a22<=1099511627776)) (re (str (a26++a22)) [])))))))
  (Qc (Q0 (length a15+[32,66,89,32].length<=1099511627776)) (Qc (zM 0 (length x0.2.2.2.1)) (Qc (Q0 (length a27+length a28<=1099511627776)) (Qc (Q0 (length a29+[32,83,85,77,32].length<=1099511627776)) (Qc (zM 1 (length x0.2.2.2.1)) (Qc (Q0 (length a30+length a31<=1099511627776)) (Qc a20
  (Qc (Q0 (length a32+length a22<=1099511627776)) (re (str (a32++a22)) []))))))))))))))))))))))))))
def GP(x0:Sem zk):=al [Q6] t0 100000000 (xe x0)
def Cl(x0:Sem zk):=(GP x0).isSome
def ir(x0:Sem zk):=o1 (GP x0)
def Xc:=FT [zk] [Q6] λx=>GP x.1
theorem Un:FK 191 Xc:=vD.T1 (f:=Tryz.f191) (keep:=k0) (e:=e0)
def Mi:=X3.addL [(190,Xb),(191,Xc)]
theorem DV:zw Mi:=vD.addL<|fc Um<|fc Un<|jm
end
abbrev zlf:Nat->aM:=λ_=>{ }
theorem zib:zI (Mi).P 143 Tryz.f143 1:=bU kw
theorem zkB(x0:Sem zk):rn Mi 0 zlf Tryz.f143 [zE zk x0] []=Qc (ux (C6 x0)) (br (!eW (C6 x0)) (Tr.ok (zC.ret (tup [str [],ai 1]) [])) (Qc (Cl (C6 x0)) (Qc (P4 (ir (C6 x0))) (br ((cut (ir (C6 x0))).2!=0) (Tr.ok (zC.ret (tup [str [],ai 1]) [])) (Tr.ok (zC.ret (tup [str (ir (C6 x0)),ai 0]) [])))))):=kw
noncomputable def pl(x0:Sem zk):Sem Q6×Sem zg:=(if(!eW x0)=Q3 then([],1)else if((cut (ir x0)).2!=0)=Q3 then([],1)else(ir x0,0))
noncomputable def uB(x0:Sem zk):Bool:=(if ux x0=Q3 then if(!eW x0)=Q3 then Q3 else if Cl x0=Q3 then if P4 (ir x0)=Q3 then Q3 else Q4 else Q4 else Q4)
noncomputable def F52:zX:=zP [zk] [Q6,zg] (λx=>uB x.1) λx=>((pl x.1).1,(pl x.1).2,())
theorem zeX:FK 143 F52:=by
 refine aI (zib) λx hc C hC=>?_
 unfold uB at hc;refine zD DV (zib) (λid _=>hC id) (zkB x.1) ?_;generalize hy:pl x.1=y;unfold pl at hy
 try simp only[Mq]
 repeat' (first|with_reducible refine tM hy hc (λ_ hy hc=>?_) (λ_ hy hc=>?_)|with_reducible refine dc hy (λ_ hy=>?_) (λ_ hy=>?_)|with_reducible refine ii hc (λhc=>?_)|with_reducible refine zJ ?_)
 all_goals first|(cases hc;done)|(subst hy;first|rfl)
noncomputable def Mj:=Mi.add 143 F52
theorem DW:zw Mj:=DV.add zeX
abbrev zld:Nat->aM:=λ_=>{ }
theorem zhS:zI (Mj).P 98 Tryz.f98 1:=bU kw
theorem zkj(x0:Sem zk):rn Mj 0 zld Tryz.f98 [zE zk x0] []=Qc (uB (C6 x0)) (Tr.ok (zC.ret (AV.bool ((pl (C6 x0)).2==0)) [])):=kw
noncomputable def dV(x0:Sem zk):Sem Q7:=((pl x0).2==0)
noncomputable def nF(x0:Sem zk):Bool:=(if uB x0=Q3 then Q3 else Q4)
noncomputable def F31:zX:=zP [zk] [Q7] (λx=>nF x.1) λx=>(dV x.1,())
theorem zeD:FK 98 F31:=by
 refine aI (zhS) λx hc C hC=>?_
 unfold nF at hc;refine zD DW (zhS) (λid _=>hC id) (zkj x.1) ?_;generalize hy:dV x.1=y;unfold dV at hy
 try simp only[Mq]
 repeat' (first|with_reducible refine tM hy hc (λ_ hy hc=>?_) (λ_ hy hc=>?_)|with_reducible refine dc hy (λ_ hy=>?_) (λ_ hy=>?_)|with_reducible refine ii hc (λhc=>?_)|with_reducible refine zJ ?_)
 all_goals first|(cases hc;done)|(subst hy;first|rfl)
noncomputable def nM:=Mj.add 98 F31
theorem iM:zw nM:=DW.add zeD
noncomputable def zeq:zX:=bm (List.replicate 2 Q2) (fN nM Tryz.f197 (List.replicate 2 Q2))
theorem zaK:FK 197 zeq:=cw _ iM (bU kw)
abbrev zgX:Nat->aM:=λ_=>{ }
theorem YU:zI (nM).P 38 Tryz.f38 1:=bU kw
theorem zf9(x0:TS):rn nM 0 zgX Tryz.f38 [zE Q6 x0] []=br (Q0 ((↑(length x0):Int)>20)) (Qc (Q0 (0<=0)&&Q0 (0<=20)&&Q0 (20<=(↑(length x0):Int))) (Tr.ok (zC.ret (str (Qg (toNat 20-toNat 0) (Qh (toNat 0) x0))) []))) (Tr.ok (zC.ret (str x0) [])):=kw
def cR(x0:TS):Sem Q6:=(if Q0 ((↑(length x0):Int)>20)=Q3 then Qg (toNat 20-toNat 0) (Qh (toNat 0) x0)else x0)
def fb(x0:TS):Bool:=(if Q0 ((↑(length x0):Int)>20)=Q3 then if(Q0 (0<=0)&&Q0 (0<=20)&&Q0 (20<=(↑(length x0):Int)))=Q3 then Q3 else Q4 else Q3)
def zds:zX:=zP [Q6] [Q6] (λx=>fb x.1) λx=>(cR x.1,())
theorem ZG:FK 38 zds:=by
 refine aI (YU) λx hc C hC=>?_
 unfold fb at hc;refine zD iM (YU) (λid _=>hC id) (zf9 x.1) ?_;generalize hy:cR x.1=y;unfold cR at hy
 try simp only[ze.eta]
 repeat' (first|with_reducible refine tM hy hc (λ_ hy hc=>?_) (λ_ hy hc=>?_)|with_reducible refine dc hy (λ_ hy=>?_) (λ_ hy=>?_)|with_reducible refine ii hc (λhc=>?_)|with_reducible refine zJ ?_)
 all_goals first|(cases hc;done)|(subst hy;first|rfl)
abbrev zb3:Nat->aM:=λ_=>{ }
theorem Sy:zI (nM).P 68 Tryz.f68 3:=bU kw
theorem zbr(x0:Sem zf.sl)(x1:Sem zg)(x2:Sem zf):rn nM 0 zb3 Tryz.f68 [zE zf.sl x0,zE zg x1,zE zf x2] []=Qc (bif Q0 (x1>=0)then bif Q0 (x1<(↑(length x0):Int))then zM x1 (length x0)else Q3 else Q3) (Tr.ok (zC.ret (AV.bool (bif Q0 (x1>=0)then bif Q0 (x1<(↑(length x0):Int))then(getD x0 (toNat x1) (zi zf)).1==x2.1&&((getD x0 (toNat x1) (zi zf)).2.1==x2.2.1&&((getD x0 (toNat x1) (zi zf)).2.2==x2.2.2&&Q3))else Q4 else Q4)) [])):=kw
def dw(x0:Sem zf.sl)(x1:Sem zg)(x2:Sem zf):Sem Q7:=(bif Q0 (x1>=0)then bif Q0 (x1<(↑(length x0):Int))then(getD x0 (toNat x1) (zi zf)).1==x2.1&&((getD x0 (toNat x1) (zi zf)).2.1==x2.2.1&&((getD x0 (toNat x1) (zi zf)).2.2==x2.2.2&&Q3))else Q4 else Q4)
def yE(x0:Sem zf.sl)(x1:Sem zg)(_:Sem zf):Bool:=(if(bif Q0 (x1>=0)then bif Q0 (x1<(↑(length x0):Int))then zM x1 (length x0)else Q3 else Q3)=Q3 then Q3 else Q4)
def XD:zX:=zP [zf.sl,zg,zf] [Q7] (λx=>yE x.1 x.2.1 x.2.2.1) λx=>(dw x.1 x.2.1 x.2.2.1,())
theorem LW:FK 68 XD:=by
 refine aI (Sy) λx hc C hC=>?_
 unfold yE at hc;refine zD iM (Sy) (λid _=>hC id) (zbr x.1 x.2.1 x.2.2.1) ?_;generalize hy:dw x.1 x.2.1 x.2.2.1=y;unfold dw at hy
 try simp only[ze.eta]
 repeat' (first|with_reducible refine tM hy hc (λ_ hy hc=>?_) (λ_ hy hc=>?_)|with_reducible refine dc hy (λ_ hy=>?_) (λ_ hy=>?_)|with_reducible refine ii hc (λhc=>?_)|with_reducible refine zJ ?_)
 all_goals first|(cases hc;done)|(subst hy;first|rfl)
abbrev YG:Nat->aM:=λj=>if j=2 then{slots:=[0,1,5]}else{ }
abbrev Cf(l0:List (Sem zh))(s1:TS)(i5:Int):St:={tmps:=(tm 21 [(0,sl zh l0),(1,str s1),(5,ai i5)]),heap:=[]}
theorem MH:zI (nM).P 45 Tryz.f45 2:=bU kw
theorem zf7(x0:Sem zh.sl)(x1:TS):rn nM 0 YG Tryz.f45 [zE zh.sl x0,zE Q6 x1] []=Tr.ok (zC.head 2 (ac Tryz.f45 2) (Cf x0 x1 0)):=kw
theorem MM(l0:List (Sem zh))(s1:TS)(i5:Int):rh nM 0 YG Tryz.f45 2 (Cf l0 s1 i5)=br (Q0 (i5<(↑l0.length:Int))) (Qc (zM i5 l0.length) (br ((l0.getD i5.toNat (zi zh)).1.1==s1) (Tr.ok (zC.ret (ai i5) [])) (Tr.ok (zC.head 2 (ac Tryz.f45 2) (Cf l0 s1 (IntKind.i64.wrap (i5+1))))))) (Tr.ok (zC.ret (ai (-1)) [])):=kw
def gp(s1:TS):List
 (Sem zh)->Int->Sem zg
 |[],_=>(-1)
 |x::r,i5=>(if(x.1.1==s1)=Q3 then i5 else gp s1 r (i5+1))
theorem U9{C:eP}(hC:∀id,C.ρ0 id=Q2)(s1:TS)(l0:List
 (Sem zh)) (hl:l0.length<=aE):∀(m i:Nat),l0.length-i=m->i<=l0.length->
  Reach (nM) C 45 (ac Tryz.f45 2) (Cf l0 s1 (i:Int)) (λr h=>aL h [zg] r=Q1 (gp s1 (l0.drop i) i,())):=by
 intro m
 induction m with
 | zero=>
  intro i hm hi;obtain rfl:i=l0.length:=by omega
  rw[jh];refine zD iM (MH) (λid _=>hC id) (MM _ _ _) ?_;generalize hy:gp s1 [] _=y;rw[gp]at hy;simp only[zA,Tr.val_brF];repeat' (first|with_reducible refine dc hy (λ_ hy=>?_) (λ_ hy=>?_)|with_reducible refine zJ ?_)
  all_goals first|(cases hc;done)|(subst hy;first|rfl)
 | succ m IH=>
  intro i hm hi;have hlt:i<l0.length:=by omega
  have IH:=IH (i+1);have hcast:((i:Int)+1)=((i+1:Nat):Int):=by omega
  have hwr:=zp i ow;rw[fk hlt];refine zD iM (MH) (λid _=>hC id) (MM _ _ _) ?_;generalize hy:gp s1 (l0[i]::l0.drop (i+1)) (i:Int)=y;rw[gp]at hy;simp only[zH hlt,zu hlt,cA l0 _ hlt,hwr,Tr.val_brT,Tr.val_chkT];clear hwr
  try simp only[zu hlt]at hy
  simp only[hcast]at hy;repeat' (first|with_reducible refine dc hy (λ_ hy=>?_) (λ_ hy=>?_)|with_reducible refine zJ ?_)
  all_goals first|(cases hc;done)|(subst hy;first|(change Reach _ _ _ _ _ _;apply IH<;>first|omega|assumption)|rfl)
theorem PQ{C:eP}(hC:∀id,C.ρ0 id=Q2)(s1:TS)(l0:List
 (Sem zh)):
  Reach (nM) C 45 (ac Tryz.f45 2) (Cf l0 s1 0) (λr h=>aL h [zg] r=Q1 (gp s1 l0 0,())):=
 Reach.len 0 zh l0 rfl λhl=>U9 hC s1 l0 hl _ 0 rfl (bd _)
def kL(x0:Sem zh.sl)(x1:TS):Sem zg:=(gp x1 x0 0)
def zdg:zX:=aC [zh.sl,Q6] [zg] λx=>(kL x.1 x.2.1,())
theorem Zu:FK 45 zdg:=by
 refine zW (MH) λx C hC=>?_
 refine zD iM (MH) (λid _=>hC id) (zf7 x.1 x.2.1) ?_;generalize hy:kL x.1 x.2.1=y;unfold kL at hy
 try simp only[ze.eta]
 repeat' (first|with_reducible refine dc hy (λ_ hy=>?_) (λ_ hy=>?_)|with_reducible refine zJ ?_)
 all_goals first|(cases hc;done)|(subst hy;first|(change Reach _ _ _ _ _ _;apply PQ hC<;>first|assumption|exact hc)|rfl)
noncomputable def rg:=nM.addL [(197,zeq),(38,zds),(68,XD),(45,zdg)]
theorem j4:zw rg:=iM.addL<|fc zaK<|fc ZG<|fc LW<|fc Zu jm
theorem GI(x:Sem (Sh.sl zf))(c:Int)(v:Sem zf):yE x c v=Q3:=by
 unfold yE;by_cases h1:(c:Int)>=0
 ·by_cases h2:c<(length x:Int)
  ·have h3:zM c (length x)=Q3:=by simp[zM];exact⟨h1,h2⟩
   simp[zt h1,zt h2,h3]
  ·simp[zt h1,af h2]
 ·simp[af h1]
def XE:zX:=aC [Sh.sl zf,zg,zf] [Q7] λx=>(dw x.1 x.2.1 x.2.2.1,())
theorem UO:FK 68 XE:=mO LW λx=>GI x.1 x.2.1 x.2.2.1
abbrev YH:Nat->aM:=λj=>if j=3 then{slots:=[0,3,4],prom:=[(3,Q2,.str)]}else{ }
abbrev Cg(l0:LS)(i4:Int)(lh_0:LS):St:={tmps:=(tm 24 [(0,sl Q6 l0),(3,AV.vec 0),(4,ai i4)]),heap:=[AO.vec Q6 lh_0]}
theorem MI:zI (rg).P 39 Tryz.f39 1:=bU kw
theorem zga(x0:Sem Sh.str.sl):rn rg 0 YH Tryz.f39 [zE Sh.str.sl x0] []=Tr.ok (zC.head 3 (ac Tryz.f39 3) (Cg x0 0 [])):=kw
theorem MN(l0:LS)(i4:Int)(lh_0:LS):rh rg 0 YH Tryz.f39 3 (Cg l0 i4 lh_0)=br (bif Q0 (i4<(↑l0.length:Int))then Q0 (i4<10)else Q4) (Qc (zM i4 l0.length) (Qc (fb (l0.getD i4.toNat (zi Q6))) (Qc (Q0 (lh_0.length+[cR (l0.getD i4.toNat (zi Q6))].length<=1073741824)) (Tr.ok (zC.head 3 (ac Tryz.f39 3) (Cg l0 (IntKind.i64.wrap (i4+1)) (lh_0++[cR (l0.getD i4.toNat (zi Q6))]))))))) (Tr.ok (zC.ret (AV.vec 0) [AO.vec Q6 lh_0])):=kw
def eh:List (Sem Q6)->Int->List (Sem Q6)->Sem Sh.str.sl
 |[],_,lh_0=>(lh_0)
 |x::r,i4,lh_0=>(if Q0 (i4<10)=Q3 then eh r (i4+1) (lh_0++[cR x])else lh_0)
def fw:List (Sem Q6)->Int->List (Sem Q6)->Bool
 |[],_,_=>(Q3)
 |x::r,i4,lh_0=>(if Q0 (i4<10)=Q3 then
 if fb x=Q3 then if Q0 (lh_0.length+[cR x].length<=1073741824)=Q3 then fw r (i4+1) (lh_0++[cR x])else Q4 else Q4
else Q3)
theorem Va{C:eP}(hC:∀id,C.ρ0 id=Q2)(l0:LS)(hl:l0.length<=aE):∀(m i:Nat)(lh_0:LS),l0.length-i=m->i<=l0.length->fw (l0.drop i) i lh_0=Q3->
  Reach (rg) C 39 (ac Tryz.f39 3) (Cg l0 (i:Int) lh_0) (λr h=>aL h [Sh.str.sl] r=Q1 (eh (l0.drop i) i lh_0,())):=by
 intro m
 induction m with
 | zero=>
  intro i lh_0 hm hi hc;obtain rfl:i=l0.length:=by omega
  rw[jh]at hc⊢;refine zD j4 (MI) (λid _=>hC id) (MN _ _ _) ?_;rw[fw]at hc;generalize hy:eh [] _ lh_0=y;rw[eh]at hy;simp only[zA,aN,Tr.val_brF];repeat' (first|with_reducible refine tM hy hc (λ_ hy hc=>?_) (λ_ hy hc=>?_)|with_reducible refine dc hy (λ_ hy=>?_) (λ_ hy=>?_)|with_reducible refine ii hc (λhc=>?_)|with_reducible refine zJ ?_)
  all_goals first|(cases hc;done)|(subst hy;first|rfl)
 | succ m IH=>
  intro i lh_0 hm hi hc;have hlt:i<l0.length:=by omega
  have IH:=IH (i+1);have hcast:((i:Int)+1)=((i+1:Nat):Int):=by omega
  have hwr:=zp i ow;rw[fk hlt]at hc⊢;refine zD j4 (MI) (λid _=>hC id) (MN _ _ _) ?_;rw[fw]at hc;generalize hy:eh (l0[i]::l0.drop (i+1)) (i:Int) lh_0=y;rw[eh]at hy;simp only[zH hlt,zu hlt,cA l0 _ hlt,hwr,ay];clear hwr
  try simp only[zu hlt]at hy
  simp only[hcast]at hy
  try simp only[zu hlt]at hc
  try simp only[hcast]at hc
  repeat' (first|with_reducible refine tM hy hc (λ_ hy hc=>?_) (λ_ hy hc=>?_)|with_reducible refine dc hy (λ_ hy=>?_) (λ_ hy=>?_)|with_reducible refine ii hc (λhc=>?_)|with_reducible refine zJ ?_)
  all_goals first|(cases hc;done)|(subst hy;first|(change Reach _ _ _ _ _ _;apply IH<;>first|omega|assumption)|rfl)
theorem PR{C:eP}(hC:∀id,C.ρ0 id=Q2)(l0:LS)(lh_0:LS)(hc:fw l0 0 lh_0=Q3):
  Reach (rg) C 39 (ac Tryz.f39 3) (Cg l0 0 lh_0) (λr h=>aL h [Sh.str.sl] r=Q1 (eh l0 0 lh_0,())):=
 Reach.len 0 (Q6) l0 rfl λhl=>Va hC l0 hl _ 0 lh_0 rfl (bd _) hc
def jN(x0:Sem Sh.str.sl):Sem Sh.str.sl:=(eh x0 0 [])
def oW(x0:Sem Sh.str.sl):Bool:=(fw x0 0 [])
def zdu:zX:=zP [Sh.str.sl] [Sh.str.sl] (λx=>oW x.1) λx=>(jN x.1,())
theorem ZI:FK 39 zdu:=by
 refine aI (MI) λx hc C hC=>?_
 unfold oW at hc;refine zD j4 (MI) (λid _=>hC id) (zga x.1) ?_;generalize hy:jN x.1=y;unfold jN at hy
 try simp only[ze.eta]
 repeat' (first|with_reducible refine tM hy hc (λ_ hy hc=>?_) (λ_ hy hc=>?_)|with_reducible refine dc hy (λ_ hy=>?_) (λ_ hy=>?_)|with_reducible refine ii hc (λhc=>?_)|with_reducible refine zJ ?_)
 all_goals first|(cases hc;done)|(subst hy;first|(change Reach _ _ _ _ _ _;apply PR hC<;>first|assumption|exact hc)|rfl)
abbrev yH(s:zB)(l:List (Sem zh))(i:Int):St:={tmps:=[.sl zh l,.clo (.func 197) [] [.ptr 0 0],.any,.any,.any,.any,.any,.int .i64 l.length,.int .i64 i,.any,.any,.any,.any,.any,.any,.any,.any,.any,.any],heap:=[.box [.str s]]}
theorem Rc(s:zB)(l:List (Sem zh)):run rg 1 Dc Tryz.f196.results.toList 300 (bw Tryz.f196) (be Tryz.f196.ntmps [.sl zh l,.clo (.func 197) [] [.ptr 0 0]] [.box [.str s]])=.ok (.head 2 (ac Tryz.f196 2) (yH s l 0)):=kw
theorem SK(s:zB)(l:List (Sem zh))(i:Int):run rg 1 Dc Tryz.f196.results.toList 300 (ac Tryz.f196 2) (yH s l i)=oV (K:=ac Tryz.f196 2) (e:=zh) l (λx=>x.1.1==s) (yH s l) [.box [.str s]] i:=kw
theorem SE:zI rg.P 196 Tryz.f196 2:=bU kw
def zfF:iw [Q1 (.sl zh),Q2]:=λx h=>match x,h with
 |(l,.clo (.func 197) [] [.ptr 0 0],_),[.box [.str s]]=>.ok (.int .i64 (ae (λx=>x.1.1==s) l 0),[.box [.str s]])
 |_,_=>.err
def zep:zX:=bm [Q1 (.sl zh),Q2] zfF
theorem zaI:FK 196 zep:=by
 refine dH SE λx h0 res hx C hC=>?_
 unfold zfF at hx;split at hx
 ·rename_i l u s;simp only[Tr.val_ok,bB]at hx;subst hx;refine Reach.len 0 zh l rfl λhl=>?_
  refine zD (n0:=1) j4 SE hC (Rc s l) ?_;exact mA l (λx=>x.1.1==s) (yH s l) j4 SE hC (SK s l) hl _ 0 rfl (bd _)
 ·simp at hx
noncomputable def H4:=rg.addL [(68,XE),(39,zdu),(196,zep)]
theorem vE:zw H4:=j4.addL<|fc UO<|fc ZI<|fc zaI jm
noncomputable def XC:zX:=bm (List.replicate 3 Q2) (fN H4 Tryz.f246 (List.replicate 3 Q2))
theorem UN:FK 246 XC:=cw _ vE (bU kw)
abbrev zhd:Nat->aM:=λ_=>{ }
theorem YX:zI (H4).P 147 Tryz.f147 2:=bU kw
theorem zgk(x0:Sem zh.sl)(x1:TS):rn H4 0 zhd Tryz.f147 [zE zh.sl x0,zE Q6 x1] []=Tr.ok (zC.ret (ai (ae (λx=>x.1.1==x1) x0 0)) []):=kw
def zS(x0:Sem zh.sl)(x1:TS):Sem zg:=(ae (λx=>x.1.1==x1) x0 0)
def zdW:zX:=aC [zh.sl,Q6] [zg] λx=>(zS x.1 x.2.1,())
theorem zac:FK 147 zdW:=by
 refine zW (YX) λx C hC=>?_
 refine zD vE (YX) (λid _=>hC id) (zgk x.1 x.2.1) ?_;generalize hy:zS x.1 x.2.1=y;unfold zS at hy
 try simp only[ze.eta]
 repeat' (first|with_reducible refine dc hy (λ_ hy=>?_) (λ_ hy=>?_)|with_reducible refine zJ ?_)
 all_goals first|(cases hc;done)|(subst hy;first|rfl)
noncomputable def H5:=H4.addL [(246,XC),(147,zdW)]
theorem vF:zw H5:=vE.addL<|fc UN<|fc zac jm
abbrev qF(c a b:Int)(s:zB)(l:List (Sem (Sh.sl zf)))(i:Int):St:={tmps:=[.sl (Sh.sl zf) l,.clo (.func 246) [] [.ptr 0 0,.ptr 1 0],.any,.any,.any,.any,.any,.int .i64 l.length,.int .i64 i,.any,.any,.any,.any,.any,.any,.any,.any,.any,.any],heap:=[.box [.int .i64 c],.box [.int .i64 a,.int .i64 b,.str s]]}
theorem KE(c a b:Int)(s:zB)(l:List (Sem (Sh.sl zf))):run H5 2 Dc Tryz.f66.results.toList 300 (bw Tryz.f66) (be Tryz.f66.ntmps [.sl (Sh.sl zf) l,.clo (.func 246) [] [.ptr 0 0,.ptr 1 0]] [.box [.int .i64 c],.box [.int .i64 a,.int .i64 b,.str s]])=.ok (.head 2 (ac Tryz.f66 2) (qF c a b s l 0)):=kw
theorem KZ(c a b:Int)(s:zB)(l:List (Sem (Sh.sl zf)))(i:Int):run H5 2 Dc Tryz.f66.results.toList 300 (ac Tryz.f66 2) (qF c a b s l i)=oV (K:=ac Tryz.f66 2) (e:=(Sh.sl zf)) l (λx=>dw x c (a,b,s)) (qF c a b s l) [.box [.int .i64 c],.box [.int .i64 a,.int .i64 b,.str s]] i:=kw
theorem KX:zI H5.P 66 Tryz.f66 2:=bU kw
def XQ:iw [Q1 (.sl (Sh.sl zf)),Q2]:=λx h=>match x,h with
 |(l,.clo (.func 246) [] [.ptr 0 0,.ptr 1 0],_),[.box [.int .i64 c],.box [.int .i64 a,.int .i64 b,.str s]]=>.ok (.int .i64 (ae (λx=>dw x c (a,b,s)) l 0),[.box [.int .i64 c],.box [.int .i64 a,.int .i64 b,.str s]])
 |_,_=>.err
def XJ:zX:=bm [Q1 (.sl (Sh.sl zf)),Q2] XQ
theorem US:FK 66 XJ:=by
 refine dH KX λx h0 res hx C hC=>?_
 unfold XQ at hx;split at hx
 ·rename_i l u c a b s;simp only[Tr.val_ok,bB]at hx;subst hx;refine Reach.len 0 (Sh.sl zf) l rfl λhl=>?_
  refine zD (n0:=2) vF KX hC (KE c a b s l) ?_;exact mA l (λx=>dw x c (a,b,s)) (qF c a b s l) vF KX hC (KZ c a b s l) hl _ 0 rfl (bd _)
 ·simp at hx
noncomputable def QJ:=H5.add 66 XJ
theorem DX:zw QJ:=vF.add US
noncomputable def XB:zX:=bm (List.replicate 2 Q2) (fN QJ Tryz.f245 (List.replicate 2 Q2))
theorem UM:FK 245 XB:=cw _ DX (bU kw)
noncomputable def Mk:=QJ.add 245 XB
theorem vG:zw Mk:=DX.add UM
noncomputable section
abbrev zbV:Nat->aM:=λ_=>{ }
theorem Sv:zI (Mk).P 195 Tryz.f195 3:=bU kw
theorem zbm(x0:Sem zh)(x1:Sem zg)(x2:Sem zf):rn Mk 0 zbV Tryz.f195 [zE zh x0,zE zg x1,zE zf x2] []=Tr.ok (zC.ret (AV.bool (Q0 (ae (λx=>dw x x1 x2) x0.2 0>=0))) []):=kw
def gH(x0:Sem zh)(x1:Sem zg)(x2:Sem zf):Sem Q7:=(Q0 (ae (λx=>dw x x1 x2) x0.2 0>=0))
def Xe:zX:=aC [zh,zg,zf] [Q7] λx=>(gH x.1 x.2.1 x.2.2.1,())
theorem Up:FK 195 Xe:=by
 refine zW (Sv) λx C hC=>?_
 refine zD vG (Sv) (λid _=>hC id) (zbm x.1 x.2.1 x.2.2.1) ?_;generalize hy:gH x.1 x.2.1 x.2.2.1=y;unfold gH at hy
 try simp only[ze.eta]
 repeat' (first|with_reducible refine dc hy (λ_ hy=>?_) (λ_ hy=>?_)|with_reducible refine zJ ?_)
 all_goals first|(cases hc;done)|(subst hy;first|rfl)
abbrev zbU:=mM [(3,[1,5,11,12,13])]
inductive Dq where
 |h3 (i1:Sem zg) (l11:List (Sem zf.sl)) (i12:Int) (i13:Int) (mh_0:List ((Int×Int×zB)×Int))
abbrev zfR:Dq->Nat×St
 |.h3 i1 l11 i12 i13 mh_0=>(3,⟨tm 37 [(1,ai i1),(5,AV.mp 0),(11,sl zf.sl l11),(12,ai i12),(13,ai i13)],[AO.vmap Q4 mh_0]⟩)
def Yq(x0:Sem zh)(x1:Sem zg):Tr (Dq⊕aw):=Q9 (Dq.h3 x1 x0.2 (↑(length x0.2):Int) 0 [])
def Ct:Dq->Tr (Dq⊕aw)
 | .h3 i1 l11 i12 i13 mh_0=>
  let a0:=l11.getD i13.toNat (zi zf.sl)
  let a1:=getD a0 (toNat i1) (zi zf)
  let a2:=(↑(kW mh_0 a1):Int)
  let a3:=jx mh_0 a1
  let a4:=jH a3 a2.toNat (IntKind.i64.wrap (fX mh_0 a1+1))
  let a5:=fX a4 a1
  br (Q0 (i13<i12))
  (Qc (zM i13 l11.length)
   (Qc (zM i1 (length a0)) (Qc (Q0 (mh_0.length<=1073741824)) (Qc (zM a2 a3.length) (br (bif a1.1!=0 then Q0 (a5>1)else Q4) (re (kb Q3) []) (Q9 (Dq.h3 i1 l11 i12 (IntKind.i64.wrap (i13+1)) a4)))))))
  (re (kb Q4) [])
def yF(x0:Sem zh)(x1:Sem zg):=al [Q7] Ct 100000000 (Yq x0 x1)
def qB(x0:Sem zh)(x1:Sem zg):=(yF x0 x1).isSome
def wo(x0:Sem zh)(x1:Sem zg):=o1 (yF x0 x1)
def Xd:=FT [zh,zg] [Q7] λx=>yF x.1 x.2.1
theorem Uo:FK 194 Xd:=vG.T1 (f:=Tryz.f194) (keep:=zbU) (e:=zfR)
def X4:=Mk.addL [(195,Xe),(194,Xd)]
theorem vH:zw X4:=vG.addL<|fc Up<|fc Uo jm
end
noncomputable section
abbrev zho:=mM [(6,[1,18,19,20]),(15,[1,39,40,41]),(21,[1,8])]
inductive C3 where
 |h6 (l18:List (Sem zf.sl)) (i19:Int) (i20:Int) (z0:zn [CP.d zh])
 |h15 (l39:LI) (i40:Int) (i41:Int) (z0:zn [CP.d zh])
 |h21 (i8:Int) (z0:zn [CP.d zh])
abbrev zjU:C3->Nat×St
 |.h6 l18 i19 i20 z0=>(6,⟨tm 79 [(1,ptr 0 0),(18,sl zf.sl l18),(19,ai i19),(20,ai i20)],[Qa (bC [] [CP.d zh] z0)]⟩)
 |.h15 l39 i40 i41 z0=>(15,⟨tm 79 [(1,ptr 0 0),(39,sl zg l39),(40,ai i40),(41,ai i41)],[Qa (bC [] [CP.d zh] z0)]⟩)
 |.h21 i8 z0=>(21,⟨tm 79 [(1,ptr 0 0),(8,ai i8)],[Qa (bC [] [CP.d zh] z0)]⟩)
def On(x0:Sem zh):Tr (C3⊕aw):=br (!eF (x0.1.1,x0.1.2.1,x0.1.2.2.1,x0.1.2.2.2.1,x0.1.t.1,zm x0.1.t.2)) (re (ai 1) []) (br (Q0 ((↑(length x0.2):Int)>200)) (re (ai 13) []) (Q9 (C3.h6 x0.2 (↑(length x0.2):Int) 0 (x0,()))))
def jS:C3->Tr (C3⊕aw)
 | .h6 l18 i19 i20 z0=>
  let a0:=(z0.1.1.1,z0.1.1.2.1,z0.1.1.2.2.1,z0.1.1.2.2.2.1,z0.1.1.t.1,zm z0.1.1.t.2)
  let a1:=dW a0 (l18.getD i20.toNat (zi zf.sl))
  let a2:=(a0,z0.1.2)
  br (Q0 (i20<i19))
  (Qc (zM i20 l18.length) (br (a1 !=0) (re (ai a1) []) (Q9 (C3.h6 l18 i19 (IntKind.i64.wrap (i20+1)) z0))))
  (Qc (qB a2 z0.1.1.2.2.1)
   (br (wo a2 z0.1.1.2.2.1) (re (ai 7) []) (Q9 (C3.h15 z0.1.1.2.2.2.1 (↑(length z0.1.1.2.2.2.1):Int) 0 z0))))
 | .h15 l39 i40 i41 z0=>
  let a0:=((z0.1.1.1,z0.1.1.2.1,z0.1.1.2.2.1,z0.1.1.2.2.2.1,z0.1.1.t.1,zm z0.1.1.t.2),z0.1.2)
  let a1:=l39.getD i41.toNat (zi zg)
  br (Q0 (i41<i40))
  (Qc (zM i41 l39.length)
   (Qc (qB a0 a1) (br (wo a0 a1) (re (ai 7) []) (Q9 (C3.h15 l39 i40 (IntKind.i64.wrap (i41+1)) z0)))))
  (Q9 (C3.h21 1 z0))
 | .h21 i8 z0=>
  let a0:=(↑(length z0.1.2):Int)
  let a1:=IntKind.i64.wrap (i8-1)
  let a2:=getD z0.1.2 a1.toNat (zi zf.sl)
  let a3:=getD z0.1.2 i8.toNat (zi zf.sl)
  let a4:=cD (getD a2 (toNat z0.1.1.2.2.1) (zi zf)) (getD a3 (toNat z0.1.1.2.2.1) (zi zf))
  br (Q0 (i8<a0))
  (Qc (zM a1 (length z0.1.2))
   (Qc (zM z0.1.1.2.2.1 (length a2)) (Qc (zM i8 (length z0.1.2)) (Qc (zM z0.1.1.2.2.1 (length a3)) (br (Q0 (a4>=0)) (re (ai 15) []) (Q9 (C3.h21 (IntKind.i64.wrap (i8+1)) z0)))))))
  (re (ai 0) [])
def nB(x0:Sem zh):=al [zg] jS 100000000 (On x0)
def GH(x0:Sem zh):=(nB x0).isSome
def Lo(x0:Sem zh):=o1 (nB x0)
def zea:=FT [zh] [zg] λx=>nB x.1
theorem zat:FK 144 zea:=vH.T1 (f:=Tryz.f144) (keep:=zho) (e:=zjU)
abbrev zhp:=mM [(2,[0,11,12,13]),(5,[0,4,11,12,13,19,20,21]),(11,[0,4,6,7,11,12,13,19,20,21,32,33,34])]
inductive C4 where
 |h2 (l0:List (Sem zh)) (l11:List (Sem zh)) (i12:Int) (i13:Int)
 |h5 (l0:List (Sem zh)) (l11:List (Sem zh)) (i12:Int) (i13:Int) (l19:LF) (i20:Int) (i21:Int) (z0:zn [CP.d zh])
 |h11 (l0:List (Sem zh)) (i7:Sem zg) (l11:List (Sem zh)) (i12:Int) (i13:Int) (l19:LF) (i20:Int) (i21:Int) (l32:List (Sem zf.sl)) (i33:Int) (i34:Int) (z0:zn [CP.d zh]) (z1:zn [CP.d zr])
abbrev zjV:C4->Nat×St
 |.h2 l0 l11 i12 i13=>(2,⟨tm 64 [(0,sl zh l0),(11,sl zh l11),(12,ai i12),(13,ai i13)],[]⟩)
 |.h5 l0 l11 i12 i13 l19 i20 i21 z0=>(5,⟨tm 64 [(0,sl zh l0),(4,ptr 0 0),(11,sl zh l11),(12,ai i12),(13,ai i13),(19,sl zr l19),(20,ai i20),(21,ai i21)],[Qa (bC [] [CP.d zh] z0)]⟩)
 |.h11 l0 i7 l11 i12 i13 l19 i20 i21 l32 i33 i34 z0 z1=>(11,⟨tm 64 [(0,sl zh l0),(4,ptr 0 0),(6,ptr 1 0),(7,ai i7),(11,sl zh l11),(12,ai i12),(13,ai i13),(19,sl zr l19),(20,ai i20),(21,ai i21),(32,sl zf.sl l32),(33,ai i33),(34,ai i34)],[Qa (bC [] [CP.d zh] z0),Qa (bC [] [CP.d zr] z1)]⟩)
def zgJ(x0:Sem zh.sl):Tr (C4⊕aw):=Q9 (C4.h2 x0 x0 (↑(length x0):Int) 0)
def jv:C4->Tr (C4⊕aw)
 | .h2 l0 l11 i12 i13=>
  let a0:=l11.getD i13.toNat (zi zh)
  br (Q0 (i13<i12))
  (Qc (zM i13 l11.length) (Q9 (C4.h5 l0 l11 i12 i13 a0.1.t.1 (↑(length a0.1.t.1):Int) 0 (a0,()))))
  (re (kb Q3) [])
 | .h5 l0 l11 i12 i13 l19 i20 i21 z0=>
  let a0:=l19.getD i21.toNat (zi zr)
  let a1:=zS l0 a0.2
  br (Q0 (i21<i20))
  (Qc (zM i21 l19.length)
   (br (Q0 (a1<0)) (re (kb Q4) []) (Q9 (C4.h11 l0 a1 l11 i12 i13 l19 i20 i21 z0.1.2 (↑(length z0.1.2):Int) 0 z0 (a0,())))))
  (Q9 (C4.h2 l0 l11 i12 (IntKind.i64.wrap (i13+1))))
 | .h11 l0 i7 l11 i12 i13 l19 i20 i21 l32 i33 i34 z0 z1=>
  let a0:=l32.getD i34.toNat (zi zf.sl)
  let a1:=getD a0 (toNat z1.1.1) (zi zf)
  let a2:=a1.1!=0
  let a3:=l0.getD (toNat i7) (zi zh)
  br (Q0 (i34<i33))
  (Qc (zM i34 l32.length)
   (Qc (zM z1.1.1 (length a0)) (Qc (bif a2 then zM i7 l0.length&&zM i7 l0.length else Q3) (br (bif a2 then !gH ((a3.1.1,a3.1.2.1,a3.1.2.2.1,a3.1.2.2.2.1,a3.1.t.1,zm a3.1.t.2),a3.2) a3.1.2.2.1 a1 else Q4) (re (kb Q4) []) (Q9 (C4.h11 l0 i7 l11 i12 i13 l19 i20 i21 l32 i33 (IntKind.i64.wrap (i34+1)) z0 z1))))))
  (Q9 (C4.h5 l0 l11 i12 i13 l19 i20 (IntKind.i64.wrap (i21+1)) z0))
def xQ(x0:Sem zh.sl):=al [Q7] jv 100000000 (zgJ x0)
def Fk(x0:Sem zh.sl):=(xQ x0).isSome
def Kb(x0:Sem zh.sl):=o1 (xQ x0)
def zeb:=FT [zh.sl] [Q7] λx=>xQ x.1
theorem zau:FK 145 zeb:=vH.T1 (f:=Tryz.f145) (keep:=zhp) (e:=zjV)
def X5:=X4.addL [(144,zea),(145,zeb)]
theorem DY:zw X5:=vH.addL<|fc zat<|fc zau jm
end
noncomputable section
abbrev zg3:=mM [(4,[0,3]),(9,[0,30,31,32])]
inductive Hs where
 |h4 (l0:List (Sem zh)) (i3:Int)
 |h9 (l0:List (Sem zh)) (l30:List (Sem zh)) (i31:Int) (i32:Int)
abbrev zjH:Hs->Nat×St
 |.h4 l0 i3=>(4,⟨tm 45 [(0,sl zh l0),(3,ai i3)],[]⟩)
 |.h9 l0 l30 i31 i32=>(9,⟨tm 45 [(0,sl zh l0),(30,sl zh l30),(31,ai i31),(32,ai i32)],[]⟩)
def VH(x0:Sem zh.sl):Tr (Hs⊕aw):=br (Q0 ((↑(length x0):Int)>12)) (re (ai 13) []) (Q9 (Hs.h4 x0 1))
def sF:Hs->Tr (Hs⊕aw)
 | .h4 l0 i3=>
  let a0:=IntKind.i64.wrap (i3-1)
  let a1:=l0.getD a0.toNat (zi zh)
  let a2:=l0.getD i3.toNat (zi zh)
  br (Q0 (i3<(↑l0.length:Int)))
  (Qc (zM a0 l0.length)
   (Qc (zM i3 l0.length) (br (!Op.bytesLess a1.1.1 a2.1.1) (re (ai 15) []) (Q9 (Hs.h4 l0 (IntKind.i64.wrap (i3+1)))))))
  (Q9 (Hs.h9 l0 l0 (↑l0.length:Int) 0))
 | .h9 l0 l30 i31 i32=>
  let a0:=l30.getD i32.toNat (zi zh)
  let a1:=((a0.1.1,a0.1.2.1,a0.1.2.2.1,a0.1.2.2.2.1,a0.1.t.1,zm a0.1.t.2),a0.2)
  let a2:=Lo a1
  br (Q0 (i32<i31))
  (Qc (zM i32 l30.length)
   (Qc (GH a1) (br (a2 !=0) (re (ai a2) []) (Q9 (Hs.h9 l0 l30 i31 (IntKind.i64.wrap (i32+1)))))))
  (Qc (Fk l0) (br (!Kb l0) (re (ai 10) []) (re (ai 0) [])))
def sS(x0:Sem zh.sl):=al [zg] sF 100000000 (VH x0)
def mR(x0:Sem zh.sl):=(sS x0).isSome
def ki(x0:Sem zh.sl):=o1 (sS x0)
def zdI:=FT [zh.sl] [zg] λx=>sS x.1
theorem ZY:FK 99 zdI:=DY.T1 (f:=Tryz.f99) (keep:=zg3) (e:=zjH)
def gO:=X5.add 99 zdI
theorem dI:zw gO:=DY.add ZY
end
end Cad
