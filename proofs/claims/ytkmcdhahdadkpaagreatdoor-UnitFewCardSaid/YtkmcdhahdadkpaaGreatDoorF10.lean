/- slices.Clone: what it answers is memory of its own. schema.copied is its argument, of what is not too deep. Statements: words of columns, tokens. Statements: parts. -/
import Derived.Test.YtkmcdhahdadkpaaGreatDoorF09
import Derived.Test.YtkmcdhahdadkpaaGreatDoorF08
namespace Cad
open Go Go.Proofs
open List renaming drop→Qh,take→Qg
open Tr renaming chk→Qc,«to»→Q9
open AO renaming box→Qa
open Sh renaming bool→Q7,str→Q6,expr→Q5
open Bool renaming false→Q4,true→Q3
open Option renaming none→Q2,some→Q1
open Decidable renaming decide→Q0
open Int (toNat)
open List (getD length)
open Tr (chk br re)
open AV (nils agg tup ptr kb str sl)
theorem Reach.promNil{E:bT}{C:eP}{fn:FuncId}{todo:List Item}{st:St}(e:Sh)(hC:∀id,C.ρ0 id=Q2)(h:Reach E C fn todo st (λr h=>(r,h)=(.nils,[]))):Reach E C fn todo st (λr h=>(r,h)=(.vec 0,[.vec e []])):=by
 intro b cs a w U ρ h1 h2 hc hW;obtain⟨en,w',fr,⟨v,r,h',U',ρ',he,hq,hrv,hH,hnew,hr0,hWd⟩,hcm,hf,hl⟩:=h b cs a w U ρ h1 h2 hc hW;cases hq;cases hrv with
 |nils ad=>
 have hno:∀id o b,o=(AO.vec e []:AO)\/o=AO.dead->¬af (λid=>if id=0 then Q1 (.slice ad 0 0)else Q2) id o b:=by
  rintro id o b ho ⟨h3,x,h4,h5⟩;rcases ho with rfl|rfl
  ·simp only at h4;split at h4
   ·cases h4;cases ad<;>simp[eK]at h5
   ·cases h4
  ·simp[AO.owns]at h3
 have hob:∀id,(([AO.vec e []]:List AO).getD id .dead)=(if id=0 then AO.vec e []else AO.dead):=by
  intro id;cases id<;>simp
 refine⟨en,w',fr,⟨_,_,_,U',λid=>if id=0 then Q1 (.slice ad 0 0)else Q2,he,rfl,.vec 0 _ sw (by simp[Value.oneCell']),⟨λid=>?_,λid1 id2 b o=>?_,λid b o=>?_⟩,λid hid=>?_,λid v hv=>?_,hWd⟩,hcm,hf,hl⟩
 ·show bt w' U' _ id (([AO.vec e []]:List AO).getD id .dead);rw[hob];split
  ·rename_i h0;subst h0;exact⟨ad,0,sw,sw,.inl ⟨rfl,rfl⟩⟩
  ·trivial
 ·exfalso;have o':af (λid=>if id=0 then Q1 (.slice ad 0 0)else Q2) id1 (([AO.vec e []]:List AO).getD id1 .dead) b:=o;rw[hob]at o';split at o'
  ·exact hno _ _ _ (.inl rfl) o'
  ·exact hno _ _ _ (.inr rfl) o'
 ·exfalso;have o':af (λid=>if id=0 then Q1 (.slice ad 0 0)else Q2) id (([AO.vec e []]:List AO).getD id .dead) b:=o;rw[hob]at o';split at o'
  ·exact hno _ _ _ (.inl rfl) o'
  ·exact hno _ _ _ (.inr rfl) o'
 ·simp at hid;simp;omega
 ·rw[hC id]at hv;cases hv
def dR:Tr zB->List Item×List Item×St
 |.ok (.fork _ k1 k2 st)=>(k1,k2,st)
 |_=>([],[],⟨[],[]⟩)
abbrev VM:Nat->aM:=λ_=>{ }
noncomputable abbrev HH(l:List ze):Tr zB:=run qY 0 VM (Func.results Tryz.f146).toList 300 (bq Tryz.f146) (bc (Func.ntmps Tryz.f146) [.sl .expr l] [])
theorem VW:zI qY.P 146 Tryz.f146 1:=bQ kw
theorem zkj(l:List ze):HH l=.ok (.fork l.isEmpty (dR (HH l)).1 (dR (HH l)).2.1 (dR (HH l)).2.2):=kw
theorem ziq(l:List ze):run qY 0 VM (Func.results Tryz.f146).toList 300 (dR (HH l)).1 (dR (HH l)).2.2=.ok (.ret .nils []):=kw
theorem zir(l:List ze):run qY 0 VM (Func.results Tryz.f146).toList 300 (dR (HH l)).2.1 (dR (HH l)).2.2=.chk (Q0 (l.length<=1073741824)) (.ok (.ret (.vec 0) [.vec .expr l])):=kw
def G53:iv [Q1 (.sl .expr)]:=λx h=>match h with
 |[]=>.chk (Q0 (length x.1<=1073741824)) (.ok (.vec 0,[.vec .expr x.1]))
 |_=>.err
def F53:zX:=bh [Q1 (.sl .expr)] G53
theorem zeI:FK 146 F53:=by
 refine dI VW λx h0 res hx C hC=>?_
 unfold G53 at hx;split at hx
 ·simp only[Tr.val]at hx;split at hx
  ·rename_i hl;simp only[bw]at hx;subst hx;obtain⟨l,u⟩:=x;refine zD (n0:=0) iK VW hC (zkj l) ?_;refine⟨λhe=>?_,?_⟩
   ·have hn:l=[]:=List.isEmpty_iff.1 he;refine Reach.weaken (Q:=λr h=>(r,h)=(.vec 0,[.vec .expr []])) (Reach.promNil .expr (λid=>hC id sw) (zD (n0:=0) iK VW hC (ziq l) rfl)) ?_;intro r h hq;cases hq;refine⟨_,?_,λ_ _ _ _ h=>h⟩;show(AV.vec 0,[AO.vec Q5 []])=(AV.vec 0,[AO.vec Q5 l]);rw[hn]
   ·exact zD (n0:=0) iK VW hC (zir l) (jQ hl rfl)
  ·cases hx
 ·simp at hx
noncomputable abbrev HG(l:List (Sem zj)):Tr zB:=run qY 0 VM (Func.results Tryz.f142).toList 300 (bq Tryz.f142) (bc (Func.ntmps Tryz.f142) [.sl zj l] [])
theorem VU:zI qY.P 142 Tryz.f142 1:=bQ kw
theorem zj1(l:List (Sem zj)):HG l=.ok (.fork l.isEmpty (dR (HG l)).1 (dR (HG l)).2.1 (dR (HG l)).2.2):=kw
theorem zik(l:List (Sem zj)):run qY 0 VM (Func.results Tryz.f142).toList 300 (dR (HG l)).1 (dR (HG l)).2.2=.ok (.ret .nils []):=kw
theorem zil(l:List (Sem zj)):run qY 0 VM (Func.results Tryz.f142).toList 300 (dR (HG l)).2.1 (dR (HG l)).2.2=.chk (Q0 (l.length<=1073741824)) (.ok (.ret (.vec 0) [.vec zj l])):=kw
def G32:iv [Q1 (.sl zj)]:=λx h=>match h with
 |[]=>.chk (Q0 (length x.1<=1073741824)) (.ok (.vec 0,[.vec zj x.1]))
 |_=>.err
def F32:zX:=bh [Q1 (.sl zj)] G32
theorem zeo:FK 142 F32:=by
 refine dI VU λx h0 res hx C hC=>?_
 unfold G32 at hx;split at hx
 ·simp only[Tr.val]at hx;split at hx
  ·rename_i hl;simp only[bw]at hx;subst hx;obtain⟨l,u⟩:=x;refine zD (n0:=0) iK VU hC (zj1 l) ?_;refine⟨λhe=>?_,?_⟩
   ·have hn:l=[]:=List.isEmpty_iff.1 he;refine Reach.weaken (Q:=λr h=>(r,h)=(.vec 0,[.vec zj []])) (Reach.promNil zj (λid=>hC id sw) (zD (n0:=0) iK VU hC (zik l) rfl)) ?_;intro r h hq;cases hq;refine⟨_,?_,λ_ _ _ _ h=>h⟩;show(AV.vec 0,[AO.vec zj []])=(AV.vec 0,[AO.vec zj l]);rw[hn]
   ·exact zD (n0:=0) iK VU hC (zil l) (jQ hl rfl)
  ·cases hx
 ·simp at hx
noncomputable def zaX:=qY.addL [(146,F53),(142,F32)]
theorem H8:zw zaX:=iK.addL<|fc zeI<|fc zeo jj
def Pk(c:ze->Bool):zX:=zO [.expr] [.expr] (λx=>c x.1) λx=>(x.1,())
noncomputable def NY(c:ze->Bool):bT:=zaX.add 100 (Pk c)
theorem Az{c:ze->Bool}(hg:FK 100 (Pk c)):zw (NY c):=H8.add hg
abbrev zgM:Nat->aM:=λj=>if j=3 then{slots:=[1,2,10,11]}else{ }
abbrev Ng(i10:Int)(i11:Int)(ja0:zA)(ja1:Int)(ja2:Int)(ja3:zA)(ja4:zA)(lh_2:List (Sem Q5)):St:={
 tmps:=
  (tm 26 [(1,ptr 0 0),(2,ptr 1 0),(10,ai i10),(11,ai i11)]),
 heap:=
  [Qa [str ja0,ai ja1,ai ja2,str ja3,str ja4,AV.vec 2],
   Qa [str [],ai 0,ai 0,str [],str [],nils],AO.vec Q5 lh_2]}
theorem KQ(c:ze->Bool):zI (NY c).P 100 Tryz.f100 1:=bQ kw
theorem zj2(c:ze->Bool)(op:zA)(v:V)(s:zA)(l:List ze):rn (NY c) 0 zgM Tryz.f100 [zC Q5 (ze.mk op v s l)] []=
 Qc (Q0 (l.length<=1073741824)) (Tr.ok (zB.head 3 (zZ Tryz.f100 3) (Ng (↑l.length:Int) 0 op v.1 v.2.1 v.2.2 s l))):=kw
theorem SA(c:ze->Bool)(i10:Int)(i11:Int)(ja0:zA)(ja1:Int)(ja2:Int)(ja3:zA)(ja4:zA)(lh_2:List (Sem Sh.expr)):rh (NY c) 0 zgM Tryz.f100 3 (Ng i10 i11 ja0 ja1 ja2 ja3 ja4 lh_2)=
 br (Q0 (i11<i10))
 (chk (zP i11 lh_2.length)
  (chk (decide (i11.toNat<lh_2.length))
   (chk (c (zm (lh_2.getD i11.toNat (zi Sh.expr))))
    (chk (zP i11 lh_2.length)
     (chk (decide (i11.toNat<lh_2.length))
      (Tr.ok
       (zB.head 3 (zZ Tryz.f100 3)
        (Ng i10 (IntKind.i64.wrap (i11+1)) ja0 ja1 ja2 ja3 ja4
         (lh_2.set i11.toNat
          (zm (lh_2.getD i11.toNat (zi Q5))))))))))))
 (Tr.ok
  (zB.ret (agg [str ja0,ai ja1,ai ja2,str ja3,str ja4,AV.vec 0]) [AO.vec Q5 lh_2])):=kw
theorem zi8{c:ze->Bool}(hg:FK 100 (Pk c)){C:eP}(hC:∀id,C.ρ0 id=Q2)(op:zA)(v:V)(s:zA)(l:List ze)(hl:l.length<=1073741824)(hcl:l.all c=Q3):
  ∀(k i:Nat),l.length-i=k->i<=l.length->Reach (NY c) C 100 (zZ Tryz.f100 3) (Ng l.length i op v.1 v.2.1 v.2.2 s l) (λr h=>aL h [.expr] r=Q1 (ze.mk op v s l,())):=by
 intro k
 induction k with
 | zero=>
  intro i hk hi;obtain rfl:i=l.length:=by omega
  refine zD (n0:=0) (Az hg) (KQ c) (λid _=>hC id) (SA c _ _ _ _ _ _ _ _) ?_;simp only[zz,Tr.val_brF];rfl
 | succ k IH=>
  intro i hk hi;have hlt:i<l.length:=by omega
  refine zD (n0:=0) (Az hg) (KQ c) (λid _=>hC id) (SA c _ _ _ _ _ _ _ _) ?_;have h1:c l[i]=Q3:=dU.1 hcl _ (bC hlt);have h2:Q0 ((i:Int).toNat<l.length)=Q3:=by simpa using hlt
  have h3:l.set (i:Int).toNat l[i]=l:=by simp
  simp only[zH hlt,zu hlt,cw l _ hlt,ze.eta,Tr.val_brT,Tr.val_chkT,h1,h2,h3,zq i um];exact IH (i+1) ow ow
def qM:Nat->ze->Bool
 |0,_=>Q4
 |n+1,.mk _ _ _ l=>Q0 (l.length<=1073741824)&&l.all (qM n)
theorem JQ:∀n,FK 100 (Pk (qM n))
 |0=>fh ⟨Tryz.f100,(KQ (λ_=>Q4)).1,(KQ (λ_=>Q4)).2.1,(KQ (λ_=>Q4)).2.2.1⟩ (λ_=>rfl)
 | n+1=>by
  refine aI (E:=NY (qM n)) (KQ _) λx hc C hC=>?_
  obtain⟨⟨op,v,s,l⟩,u⟩:=x;have hc:(Q0 (l.length<=1073741824)&&l.all (qM n))=Q3:=hc;simp only[aD,aN]at hc;refine zD (n0:=0) (Az (JQ n)) (KQ _) (λid _=>hC id) (zj2 _ op v s l) ?_;refine jQ (by simpa using hc.1) ?_;exact zi8 (JQ n) hC op v s l hc.1 hc.2 _ 0 rfl (ba _)
def F33:zX:=Pk (qM 16)
theorem zep:FK 100 F33:=JQ 16
noncomputable def kZ:=zaX.add 100 F33
theorem iL:zw kZ:=H8.add zep
set_option maxHeartbeats 4000000
abbrev iD:Sh:=.pr .str .str
abbrev gS:Sh:=.pr .str .expr
abbrev zk:Sh:=.pr .str (.pr .str (.pr .str (.pr (.sl .str) (.pr (.sl zj) (.pr .str (.pr (.sl .str) (.pr (.sl iD) (.pr .expr (.pr (.sl zf) (.pr (.sl gS) (.pr .expr .str)))))))))))
def C2(x:Sem zk):Sem zk:=(x.1,x.2.1,x.2.2.1,x.2.2.2.1,x.2.2.2.2.1,x.2.2.2.2.2.1,x.2.2.2.2.2.2.1,x.2.2.2.2.2.2.2.1,zm x.2.2.2.2.2.2.2.2.1,x.2.2.2.2.2.2.2.2.2.1,x.2.2.2.2.2.2.2.2.2.2.1,zm x.2.2.2.2.2.2.2.2.2.2.2.1,x.2.2.2.2.2.2.2.2.2.2.2.2)
theorem Mk(x:Sem zk):C2 x=x:=by unfold C2;rw[zl,zl]
abbrev Yt:Nat->aM:=λj=>if j=2 then{slots:=[0,2,4]}else{ }
abbrev Cd(s0:TS)(i4:Int)(ja0:Int)(ja1:List UInt8):St:={tmps:=(tm 37 [(0,str s0),(2,ptr 0 0),(4,ai i4)]),heap:=[Qa [ai ja0,str ja1]]}
theorem Sn:zI (kZ).P 281 Tryz.f281 1:=bQ kw
theorem zfR(x0:TS):rn kZ 0 Yt Tryz.f281 [zC Q6 x0] []=Tr.ok (zB.head 2 (zZ Tryz.f281 2) (Cd x0 1 0 [])):=kw
theorem VZ(s0:TS)(i4:Int)(ja0:Int)(ja1:List UInt8):rh kZ 0 Yt Tryz.f281 2 (Cd s0 i4 ja0 ja1)=br (Q0 (i4<(↑(length s0):Int))) (Qc (zP i4 (length s0)) (br ((↑(getD s0 i4.toNat 0).toNat:Int)!=39) (Tr.ok (zB.head 2 (zZ Tryz.f281 2) (Cd s0 (IntKind.i64.wrap (i4+1)) ja0 ja1))) (Qc (bif Q0 (IntKind.i64.wrap (i4+1)<(↑(length s0):Int))then zP (IntKind.i64.wrap (i4+1)) (length s0)else Q3) (br (bif Q0 (IntKind.i64.wrap (i4+1)<(↑(length s0):Int))then(↑(getD s0 (IntKind.i64.wrap (i4+1)).toNat 0).toNat:Int)==39 else Q4) (Tr.ok (zB.head 2 (zZ Tryz.f281 2) (Cd s0 (IntKind.i64.wrap (IntKind.i64.wrap (i4+1)+1)) ja0 ja1))) (Qc (Q0 (0<=1)&&Q0 (1<=i4)&&Q0 (i4<=(↑(length s0):Int))) (Qc (ul (Qg (i4.toNat-toNat 1) (Qh (toNat 1) s0)) [39,39] [39]) (Tr.ok (zB.ret (tup [agg [ai 3,str (Lib.replaceAll (Qg (i4.toNat-toNat 1) (Qh (toNat 1) s0)) [39,39] [39])],ai (IntKind.i64.wrap (i4+1))]) [])))))))) (Tr.ok (zB.ret (tup [agg [ai 0,str []],ai 0]) [])):=kw
def eL:Nat->(Sem Sh.str)->Int->Int->(List UInt8)->Sem bS×Sem zg
 |0,_,_,_,_=>default
 |n+1,s0,i4,ja0,ja1=>(if Q0 (i4<(↑(length s0):Int))=Q3 then
 if((↑(getD s0 i4.toNat 0).toNat:Int)!=39)=Q3 then eL n s0 (IntKind.i64.wrap (i4+1)) ja0 ja1
 else
  if
    (bif Q0 (IntKind.i64.wrap (i4+1)<(↑(length s0):Int))then(↑(getD s0 (IntKind.i64.wrap (i4+1)).toNat 0).toNat:Int)==39
     else Q4)=
     Q3 then
   eL n s0 (IntKind.i64.wrap (IntKind.i64.wrap (i4+1)+1)) ja0 ja1
  else((3,Lib.replaceAll (Qg (i4.toNat-toNat 1) (Qh (toNat 1) s0)) [39,39] [39]),IntKind.i64.wrap (i4+1))
else((0,[]),0))
def iQ:Nat->(Sem Sh.str)->Int->Int->(List UInt8)->Bool
 |0,_,_,_,_=>Q4
 |n+1,s0,i4,ja0,ja1=>(if Q0 (i4<(↑(length s0):Int))=Q3 then
 if zP i4 (length s0)=true then
  if((↑(getD s0 i4.toNat 0).toNat:Int)!=39)=Q3 then iQ n s0 (IntKind.i64.wrap (i4+1)) ja0 ja1
  else
   if (bif decide (IntKind.i64.wrap (i4+1) < (↑(length s0):Int)) then zP (IntKind.i64.wrap (i4+1)) (length s0) else true)=true then
    if
      (bif Q0 (IntKind.i64.wrap (i4+1)<(↑(length s0):Int))then(↑(getD s0 (IntKind.i64.wrap (i4+1)).toNat 0).toNat:Int)==39
       else Q4)=
       Q3 then
     iQ n s0 (IntKind.i64.wrap (IntKind.i64.wrap (i4+1)+1)) ja0 ja1
    else
     if(Q0 (0<=1)&&Q0 (1<=i4)&&Q0 (i4<=(↑(length s0):Int)))=Q3 then
      if ul (Qg (i4.toNat-toNat 1) (Qh (toNat 1) s0)) [39,39] [39]=Q3 then Q3 else Q4
     else Q4
   else Q4
 else Q4
else Q3)
theorem L2{C:eP}(hC:∀id,C.ρ0 id=Q2):∀(n:Nat)(s0:TS)(i4:Int)(ja0:Int)(ja1:List UInt8),iQ n s0 i4 ja0 ja1=Q3->
  Reach (kZ) C 281 (zZ Tryz.f281 2) (Cd s0 i4 ja0 ja1) (λr h=>aL h [bS,zg] r=Q1 ((eL n s0 i4 ja0 ja1).1,(eL n s0 i4 ja0 ja1).2,()))
 |0,s0,i4,ja0,ja1,hc=>by cases hc
 | n+1,s0,i4,ja0,ja1,hc=>by
  refine zD iL (Sn) (λid _=>hC id) (VZ _ _ _ _) ?_;rw[iQ]at hc;generalize hy:eL (n+1) s0 i4 ja0 ja1=y;rw[eL]at hy
  try simp only[ze.eta,zl]
  repeat' (first|with_reducible refine tL hy hc (λ_ hy hc=>?_) (λ_ hy hc=>?_)|with_reducible refine cZ hy (λ_ hy=>?_) (λ_ hy=>?_)|with_reducible refine ig hc (λhc=>?_)|with_reducible refine zJ ?_)
  all_goals first|(cases hc;done)|(subst hy;first|(change Reach _ _ _ _ _ _;refine L2 hC n _ _ _ _ ?_<;>exact hc)|rfl)
def dT(x0:TS):Sem bS×Sem zg:=(eL (length x0+1) x0 1 0 [])
def jO(x0:TS):Bool:=(iQ (length x0+1) x0 1 0 [])
def zcY:zX:=zO [Q6] [bS,zg] (λx=>jO x.1) λx=>((dT x.1).1,(dT x.1).2,())
theorem Ze:FK 281 zcY:=by
 refine aI (Sn) λx hc C hC=>?_
 unfold jO at hc;refine zD iL (Sn) (λid _=>hC id) (zfR x.1) ?_;generalize hy:dT x.1=y;unfold dT at hy
 try simp only[ze.eta,zl]
 repeat' (first|with_reducible refine tL hy hc (λ_ hy hc=>?_) (λ_ hy hc=>?_)|with_reducible refine cZ hy (λ_ hy=>?_) (λ_ hy=>?_)|with_reducible refine ig hc (λhc=>?_)|with_reducible refine zJ ?_)
 all_goals first|(cases hc;done)|(subst hy;first|(change Reach _ _ _ _ _ _;refine L2 hC _ _ _ _ _ ?_<;>exact hc)|rfl)
abbrev zgA:Nat->aM:=λ_=>{ }
theorem YE:zI (kZ).P 263 Tryz.f263 1:=bQ kw
theorem zfP(x0:Sem Q5):rn kZ 0 zgA Tryz.f263 [zC Q5 x0] []=Tr.ok (zB.ret (AV.bool (bif ze.op x0==[]then bif (ze.v x0).1==0&&((ze.v x0).2.1==0&&((ze.v x0).2.2==[]&&Q3))then bif ze.s x0==[]then(↑(ze.l x0).length:Int)==0 else Q4 else Q4 else Q4)) []):=kw
def gK(x0:Sem Q5):Sem Q7:=(bif ze.op x0==[]then bif (ze.v x0).1==0&&((ze.v x0).2.1==0&&((ze.v x0).2.2==[]&&Q3))then bif ze.s x0==[]then(↑(ze.l x0).length:Int)==0 else Q4 else Q4 else Q4)
def zcO:zX:=aC [Q5] [Q7] λx=>(gK x.1,())
theorem Y4:FK 263 zcO:=by
 refine zW (YE) λx C hC=>?_
 refine zD iL (YE) (λid _=>hC id) (zfP x.1) ?_;generalize hy:gK x.1=y;unfold gK at hy
 try simp only[ze.eta,zl]
 repeat' (first|with_reducible refine cZ hy (λ_ hy=>?_) (λ_ hy=>?_)|with_reducible refine zJ ?_)
 all_goals first|(cases hc;done)|(subst hy;first|rfl)
abbrev zk1:Nat->aM:=λ_=>{ }
theorem zie:zI (kZ).P 231 Tryz.f231 1:=bQ kw
theorem zkA(x0:TS):rn kZ 0 zk1 Tryz.f231 [zC Q6 x0] []=Tr.ok (zB.ret (str x0) []):=kw
def lv(x0:TS):Sem Q6:=(x0)
def F88:zX:=aC [Q6] [Q6] λx=>(lv x.1,())
theorem zfa:FK 231 F88:=by
 refine zW (zie) λx C hC=>?_
 refine zD iL (zie) (λid _=>hC id) (zkA x.1) ?_;generalize hy:lv x.1=y;unfold lv at hy
 try simp only[ze.eta,zl]
 repeat' (first|with_reducible refine cZ hy (λ_ hy=>?_) (λ_ hy=>?_)|with_reducible refine zJ ?_)
 all_goals first|(cases hc;done)|(subst hy;first|rfl)
abbrev zkY:Nat->aM:=λ_=>{ }
theorem zia:zI (kZ).P 223 Tryz.f223 1:=bQ kw
theorem zkx(x0:TS):rn kZ 0 zkY Tryz.f223 [zC Q6 x0] []=Tr.ok (zB.ret (AV.bool (bif dQ x0 then !iR x0 else Q4)) []):=kw
def bL(x0:TS):Sem Q7:=(bif dQ x0 then !iR x0 else Q4)
def F80:zX:=aC [Q6] [Q7] λx=>(bL x.1,())
theorem ze6:FK 223 F80:=by
 refine zW (zia) λx C hC=>?_
 refine zD iL (zia) (λid _=>hC id) (zkx x.1) ?_;generalize hy:bL x.1=y;unfold bL at hy
 try simp only[ze.eta,zl]
 repeat' (first|with_reducible refine cZ hy (λ_ hy=>?_) (λ_ hy=>?_)|with_reducible refine zJ ?_)
 all_goals first|(cases hc;done)|(subst hy;first|rfl)
abbrev zgT:Nat->aM:=λ_=>{unroll:=Q3}
theorem YI:zI (kZ).P 243 Tryz.f243 1:=bQ kw
theorem zf3(x0:Sem bS):rn kZ 0 zgT Tryz.f243 [zC bS x0] []=br (x0.1==3) (Tr.ok (zB.ret (AV.bool (bd (2,0,x0.2))) [])) (br (x0.1==4) (Qc (bif (↑(length x0.2):Int)==1 then length x0.2==1 else Q3) (Tr.ok (zB.ret (AV.bool (bif (↑(length x0.2):Int)==1 then Q0 (0<=Lib.indexByte [40,41,44,61,60,43,45,42] (List.headD x0.2 0))else Q4)) []))) (br Q3 (Qc Q3 (br (1==x0.1) (Tr.ok (zB.ret (AV.bool (bif Q0 ((↑(length x0.2):Int)>=1)then bif Q0 ((↑(length x0.2):Int)<=16)then(↑(aK aH bn x0.2):Int)==(↑(length x0.2):Int)else Q4 else Q4)) [])) (br Q3 (Qc Q3 (br (2==x0.1) (Tr.ok (zB.ret (AV.bool (bif Q0 ((↑(length x0.2):Int)>=1)then bif Q0 ((↑(length x0.2):Int)<=19)then(↑(aK zT zT x0.2):Int)==(↑(length x0.2):Int)else Q4 else Q4)) [])) (br Q4 Tr.err (Tr.ok (zB.ret (kb Q4) []))))) (Tr.ok (zB.ret (kb Q4) []))))) (Tr.ok (zB.ret (kb Q4) [])))):=kw
def bV(x0:Sem bS):Sem Q7:=(if(x0.1==3)=Q3 then bd (2,0,x0.2)else if(x0.1==4)=Q3 then bif (↑(length x0.2):Int)==1 then Q0 (0<=Lib.indexByte [40,41,44,61,60,43,45,42] (List.headD x0.2 0))else Q4 else if Q3=Q3 then if(1==x0.1)=Q3 then bif Q0 ((↑(length x0.2):Int)>=1)then bif Q0 ((↑(length x0.2):Int)<=16)then(↑(aK aH bn x0.2):Int)==(↑(length x0.2):Int)else Q4 else Q4 else if Q3=Q3 then if(2==x0.1)=Q3 then bif Q0 ((↑(length x0.2):Int)>=1)then bif Q0 ((↑(length x0.2):Int)<=19)then(↑(aK zT zT x0.2):Int)==(↑(length x0.2):Int)else Q4 else Q4 else if Q4=Q3 then default else Q4 else Q4 else Q4)
def qF(x0:Sem bS):Bool:=(if(x0.1==3)=Q3 then Q3 else if(x0.1==4)=Q3 then if(bif (↑(length x0.2):Int)==1 then length x0.2==1 else Q3)=Q3 then Q3 else Q4 else if Q3=Q3 then if Q3=Q3 then if(1==x0.1)=Q3 then Q3 else if Q3=Q3 then if Q3=Q3 then if(2==x0.1)=Q3 then Q3 else if Q4=Q3 then Q4 else Q3 else Q4 else Q3 else Q4 else Q3)
def zdD:zX:=zO [bS] [Q7] (λx=>qF x.1) λx=>(bV x.1,())
theorem ZV:FK 243 zdD:=by
 refine aI (YI) λx hc C hC=>?_
 unfold qF at hc;refine zD iL (YI) (λid _=>hC id) (zf3 x.1) ?_;generalize hy:bV x.1=y;unfold bV at hy
 try simp only[ze.eta,zl]
 repeat' (first|with_reducible refine tL hy hc (λ_ hy hc=>?_) (λ_ hy hc=>?_)|with_reducible refine cZ hy (λ_ hy=>?_) (λ_ hy=>?_)|with_reducible refine ig hc (λhc=>?_)|with_reducible refine zJ ?_)
 all_goals first|(cases hc;done)|(subst hy;first|rfl)
noncomputable def km:=kZ.addL [(281,zcY),(263,zcO),(231,F88),(223,F80),(243,zdD)]
theorem gL:zw km:=iL.addL<|fc Ze<|fc Y4<|fc zfa<|fc ze6<|fc ZV jj
abbrev zkZ:Nat->aM:=λ_=>{ }
theorem zic:zI (km).P 228 Tryz.f228 1:=bQ kw
theorem zky(x0:Sem Q5):rn km 0 zkZ Tryz.f228 [zC Q5 x0] []=Tr.ok (zB.ret (AV.bool (bif gK (zm x0)then Q3 else cW (zm x0))) []):=kw
def bM(x0:Sem Q5):Sem Q7:=(bif gK x0 then Q3 else cW x0)
def F85:zX:=aC [Q5] [Q7] λx=>(bM x.1,())
theorem ze7:FK 228 F85:=by
 refine zW (zic) λx C hC=>?_
 refine zD gL (zic) (λid _=>hC id) (zky x.1) ?_;generalize hy:bM x.1=y;unfold bM at hy
 try simp only[ze.eta]
 repeat' (first|with_reducible refine cZ hy (λ_ hy=>?_) (λ_ hy=>?_)|with_reducible refine zJ ?_)
 all_goals first|(cases hc;done)|(subst hy;first|rfl)
def zft(x0:Sem zj):Sem Q7:=(bif bL x0.1 then bif Q0 (x0.2.1>=1)then Q0 (x0.2.1<=3)else Q4 else Q4)
def ziE(x0:Sem iD):Sem Q7:=(bif bL x0.1 then bL x0.2 else Q4)
abbrev zk3:Nat->aM:=λ_=>{ }
theorem zif:zI (km).P 235 Tryz.f235 1:=bQ kw
theorem zkB(x0:Sem zf):rn km 0 zk3 Tryz.f235 [zC zf x0] []=br (!bd x0) (Tr.ok (zB.ret (str []) [])) (br (x0.1==1) (Qc (10==10) (Tr.ok (zB.ret (str (rc x0.2.1)) []))) (br (x0.1==2) (Qc (ul x0.2.2 [39] [39,39]) (Qc (Q0 ([39].length+(Lib.replaceAll x0.2.2 [39] [39,39]).length<=1099511627776)) (Qc (Q0 (length ([39]++Lib.replaceAll x0.2.2 [39] [39,39])+[39].length<=1099511627776)) (Tr.ok (zB.ret (str ([39]++Lib.replaceAll x0.2.2 [39] [39,39]++[39])) []))))) (br (x0.1==3) (br (dP x0==2) (Tr.ok (zB.ret (str [84,82,85,69]) [])) (Tr.ok (zB.ret (str [70,65,76,83,69]) []))) (Tr.ok (zB.ret (str [78,85,76,76]) []))))):=kw
def gU(x0:Sem zf):Sem Q6:=(if(!bd x0)=Q3 then[]else if(x0.1==1)=Q3 then rc x0.2.1 else if(x0.1==2)=Q3 then[39]++Lib.replaceAll x0.2.2 [39] [39,39]++[39]else if(x0.1==3)=Q3 then if(dP x0==2)=Q3 then[84,82,85,69]else[70,65,76,83,69]else[78,85,76,76])
def wD(x0:Sem zf):Bool:=(if(!bd x0)=Q3 then Q3 else if(x0.1==1)=Q3 then if(10==10)=Q3 then Q3 else Q4 else if(x0.1==2)=Q3 then if ul x0.2.2 [39] [39,39]=Q3 then if Q0 ([39].length+(Lib.replaceAll x0.2.2 [39] [39,39]).length<=1099511627776)=Q3 then if Q0 (length ([39]++Lib.replaceAll x0.2.2 [39] [39,39])+[39].length<=1099511627776)=Q3 then Q3 else Q4 else Q4 else Q4 else Q3)
def F92:zX:=zO [zf] [Q6] (λx=>wD x.1) λx=>(gU x.1,())
theorem zff:FK 235 F92:=by
 refine aI (zif) λx hc C hC=>?_
 unfold wD at hc;refine zD gL (zif) (λid _=>hC id) (zkB x.1) ?_;generalize hy:gU x.1=y;unfold gU at hy
 try simp only[ze.eta,zl]
 repeat' (first|with_reducible refine tL hy hc (λ_ hy hc=>?_) (λ_ hy hc=>?_)|with_reducible refine cZ hy (λ_ hy=>?_) (λ_ hy=>?_)|with_reducible refine ig hc (λhc=>?_)|with_reducible refine zJ ?_)
 all_goals first|(cases hc;done)|(subst hy;first|rfl)
abbrev zk0:Nat->aM:=λ_=>{ }
theorem zid:zI (km).P 230 Tryz.f230 1:=bQ kw
theorem zkz(x0:Sem zk):rn km 0 zk0 Tryz.f230 [zC zk x0] []=Qc (Q0 (length x0.2.1+length x0.2.2.1<=1099511627776)) (Qc (Q0 (length (x0.2.1++x0.2.2.1)+length x0.2.2.2.2.2.1<=1099511627776)) (Qc (Q0 (length (x0.2.1++x0.2.2.1++x0.2.2.2.2.2.1)+length x0.2.2.2.2.2.2.2.2.2.2.2.2<=1099511627776)) (Tr.ok (zB.ret (AV.bool (bif x0.2.1++x0.2.2.1++x0.2.2.2.2.2.1++x0.2.2.2.2.2.2.2.2.2.2.2.2==[]then bif IntKind.i64.wrap (IntKind.i64.wrap (IntKind.i64.wrap (IntKind.i64.wrap (IntKind.i64.wrap ((↑(length x0.2.2.2.1):Int)+(↑(length x0.2.2.2.2.1):Int))+(↑(length x0.2.2.2.2.2.2.1):Int))+(↑(length x0.2.2.2.2.2.2.2.1):Int))+(↑(length x0.2.2.2.2.2.2.2.2.2.1):Int))+(↑(length x0.2.2.2.2.2.2.2.2.2.2.1):Int))==0 then bif gK (zm x0.2.2.2.2.2.2.2.2.1)then gK (zm x0.2.2.2.2.2.2.2.2.2.2.2.1)else Q4 else Q4 else Q4)) [])))):=kw
def ej(x0:Sem zk):Sem Q7:=(bif x0.2.1++x0.2.2.1++x0.2.2.2.2.2.1++x0.2.2.2.2.2.2.2.2.2.2.2.2==[]then bif IntKind.i64.wrap (IntKind.i64.wrap (IntKind.i64.wrap (IntKind.i64.wrap (IntKind.i64.wrap ((↑(length x0.2.2.2.1):Int)+(↑(length x0.2.2.2.2.1):Int))+(↑(length x0.2.2.2.2.2.2.1):Int))+(↑(length x0.2.2.2.2.2.2.2.1):Int))+(↑(length x0.2.2.2.2.2.2.2.2.2.1):Int))+(↑(length x0.2.2.2.2.2.2.2.2.2.2.1):Int))==0 then bif gK x0.2.2.2.2.2.2.2.2.1 then gK x0.2.2.2.2.2.2.2.2.2.2.2.1 else Q4 else Q4 else Q4)
def dY(x0:Sem zk):Bool:=(if Q0 (length x0.2.1+length x0.2.2.1<=1099511627776)=Q3 then if Q0 (length (x0.2.1++x0.2.2.1)+length x0.2.2.2.2.2.1<=1099511627776)=Q3 then if Q0 (length (x0.2.1++x0.2.2.1++x0.2.2.2.2.2.1)+length x0.2.2.2.2.2.2.2.2.2.2.2.2<=1099511627776)=Q3 then Q3 else Q4 else Q4 else Q4)
def F87:zX:=zO [zk] [Q7] (λx=>dY x.1) λx=>(ej x.1,())
theorem ze9:FK 230 F87:=by
 refine aI (zid) λx hc C hC=>?_
 unfold dY at hc;refine zD gL (zid) (λid _=>hC id) (zkz x.1) ?_;generalize hy:ej x.1=y;unfold ej at hy
 try simp only[ze.eta]
 repeat' (first|with_reducible refine tL hy hc (λ_ hy hc=>?_) (λ_ hy hc=>?_)|with_reducible refine cZ hy (λ_ hy=>?_) (λ_ hy=>?_)|with_reducible refine ig hc (λhc=>?_)|with_reducible refine zJ ?_)
 all_goals first|(cases hc;done)|(subst hy;first|rfl)
abbrev zk6:Nat->aM:=λ_=>{unroll:=Q3}
theorem zii:zI (km).P 242 Tryz.f242 1:=bQ kw
theorem zkF(x0:TS):rn km 0 zk6 Tryz.f242 [zC Q6 x0] []=br Q3 (Qc Q3 (br (Q0 ((↑(aK aH bn x0):Int)>0)) (Qc (Q0 (0<=0)&&Q0 (0<=(↑(aK aH bn x0):Int))&&Q0 ((↑(aK aH bn x0):Int)<=(↑(length x0):Int))) (Tr.ok (zB.ret (tup [agg [ai 1,str (Qg ((↑(aK aH bn x0):Int).toNat-toNat 0) (Qh (toNat 0) x0))],ai (↑(aK aH bn x0):Int)]) []))) (br Q3 (Qc Q3 (br (Q0 ((↑(aK zT zT x0):Int)>0)) (Qc (Q0 (0<=0)&&Q0 (0<=(↑(aK zT zT x0):Int))&&Q0 ((↑(aK zT zT x0):Int)<=(↑(length x0):Int))) (Tr.ok (zB.ret (tup [agg [ai 2,str (Qg ((↑(aK zT zT x0):Int).toNat-toNat 0) (Qh (toNat 0) x0))],ai (↑(aK zT zT x0):Int)]) []))) (br Q4 Tr.err (Qc (zP 0 (length x0)) (br ((↑(getD x0 (toNat 0) 0).toNat:Int)==39) (Qc (jO x0) (Tr.ok (zB.ret (tup [agg [ai (dT x0).1.1,str (dT x0).1.2],ai (dT x0).2]) []))) (Qc (Q0 (0<=0)&&Q0 (0<=1)&&Q0 (1<=(↑(length x0):Int))) (Tr.ok (zB.ret (tup [agg [ai 4,str (Qg (toNat 1-toNat 0) (Qh (toNat 0) x0))],ai 1]) [])))))))) (Qc (zP 0 (length x0)) (br ((↑(getD x0 (toNat 0) 0).toNat:Int)==39)
 (Qc (jO x0) (Tr.ok (zB.ret (tup [agg [ai (dT x0).1.1,str (dT x0).1.2],ai (dT x0).2]) []))) (Qc (Q0 (0<=0)&&Q0 (0<=1)&&Q0 (1<=(↑(length x0):Int))) (Tr.ok (zB.ret (tup [agg [ai 4,str (Qg (toNat 1-toNat 0) (Qh (toNat 0) x0))],ai 1]) [])))))))) (Qc (zP 0 (length x0)) (br ((↑(getD x0 (toNat 0) 0).toNat:Int)==39) (Qc (jO x0) (Tr.ok (zB.ret (tup [agg [ai (dT x0).1.1,str (dT x0).1.2],ai (dT x0).2]) []))) (Qc (Q0 (0<=0)&&Q0 (0<=1)&&Q0 (1<=(↑(length x0):Int))) (Tr.ok (zB.ret (tup [agg [ai 4,str (Qg (toNat 1-toNat 0) (Qh (toNat 0) x0))],ai 1]) []))))):=kw
def bv(x0:TS):Sem bS×Sem zg:=(if Q3=Q3 then if Q0 ((↑(aK aH bn x0):Int)>0)=Q3 then((1,Qg ((↑(aK aH bn x0):Int).toNat-toNat 0) (Qh (toNat 0) x0)),(↑(aK aH bn x0):Int))else if Q3=Q3 then if Q0 ((↑(aK zT zT x0):Int)>0)=Q3 then((2,Qg ((↑(aK zT zT x0):Int).toNat-toNat 0) (Qh (toNat 0) x0)),(↑(aK zT zT x0):Int))else if Q4=Q3 then default else if((↑(getD x0 (toNat 0) 0).toNat:Int)==39)=Q3 then((dT x0).1,(dT x0).2)else((4,Qg (toNat 1-toNat 0) (Qh (toNat 0) x0)),1)else if((↑(getD x0 (toNat 0) 0).toNat:Int)==39)=Q3 then((dT x0).1,(dT x0).2)else((4,Qg (toNat 1-toNat 0) (Qh (toNat 0) x0)),1)else if((↑(getD x0 (toNat 0) 0).toNat:Int)==39)=Q3 then((dT x0).1,(dT x0).2)else((4,Qg (toNat 1-toNat 0) (Qh (toNat 0) x0)),1))
def j6(x0:TS):Bool:=(if Q3=Q3 then if Q3=Q3 then if Q0 ((↑(aK aH bn x0):Int)>0)=Q3 then if(Q0 (0<=0)&&Q0 (0<=(↑(aK aH bn x0):Int))&&Q0 ((↑(aK aH bn x0):Int)<=(↑(length x0):Int)))=Q3 then Q3 else Q4 else if Q3=Q3 then if Q3=Q3 then if Q0 ((↑(aK zT zT x0):Int)>0)=Q3 then if(Q0 (0<=0)&&Q0 (0<=(↑(aK zT zT x0):Int))&&Q0 ((↑(aK zT zT x0):Int)<=(↑(length x0):Int)))=Q3 then Q3 else Q4 else if Q4=Q3 then Q4 else if zP 0 (length x0)=Q3 then if((↑(getD x0 (toNat 0) 0).toNat:Int)==39)=Q3 then if jO x0=Q3 then Q3 else Q4 else if(Q0 (0<=0)&&Q0 (0<=1)&&Q0 (1<=(↑(length x0):Int)))=Q3 then Q3 else Q4 else Q4 else Q4 else if zP 0 (length x0)=Q3 then if((↑(getD x0 (toNat 0) 0).toNat:Int)==39)=Q3 then if jO x0=Q3 then Q3 else Q4 else if(Q0 (0<=0)&&Q0 (0<=1)&&Q0 (1<=(↑(length x0):Int)))=Q3 then Q3 else Q4 else Q4 else Q4 else if zP 0 (length x0)=Q3 then if((↑(getD x0 (toNat 0) 0).toNat:Int)==39)=Q3 then if jO x0=Q3 then Q3 else Q4 else if(Q0 (0<=0)&&Q0 (0<=1)&&Q0 (1<=(↑(length x0):Int)))=Q3 then Q3 else Q4 else Q4)
def F99:zX:=zO [Q6] [bS,zg] (λx=>j6 x.1) λx=>((bv x.1).1,(bv x.1).2,())
theorem zfj:FK 242 F99:=by
 refine aI (zii) λx hc C hC=>?_
 unfold j6 at hc;refine zD gL (zii) (λid _=>hC id) (zkF x.1) ?_;generalize hy:bv x.1=y;unfold bv at hy
 try simp only[ze.eta,zl]
 repeat' (first|with_reducible refine tL hy hc (λ_ hy hc=>?_) (λ_ hy hc=>?_)|with_reducible refine cZ hy (λ_ hy=>?_) (λ_ hy=>?_)|with_reducible refine ig hc (λhc=>?_)|with_reducible refine zJ ?_)
 all_goals first|(cases hc;done)|(subst hy;first|rfl)
abbrev zhg:Nat->aM:=λj=>if j=3 then{slots:=[1,5,8,9,10],prom:=[(5,Q2,.str)]}else{ }
abbrev Js(l8:LS)(i9:Int)(i10:Int)(lh_0:LS):St:={tmps:=(tm 23 [(1,AV.clo (Fn.func 231) [] []),(5,AV.vec 0),(8,sl Q6 l8),(9,ai i9),(10,ai i10)]),heap:=[AO.vec Q6 lh_0]}
theorem VY:zI (km).P 240 Tryz.f240 2:=bQ kw
theorem zkD(x0:Sem Sh.str.sl):rn km 0 zhg Tryz.f240 [zC Sh.str.sl x0,AV.clo (Fn.func 231) [] []] []=Tr.ok (zB.head 3 (zZ Tryz.f240 3) (Js x0 (↑(length x0):Int) 0 [])):=kw
theorem SD(l8:LS)(i9:Int)(i10:Int)(lh_0:LS):rh km 0 zhg Tryz.f240 3 (Js l8 i9 i10 lh_0)=br (Q0 (i10<i9)) (Qc (zP i10 l8.length) (Qc (Q0 (lh_0.length+[lv (l8.getD i10.toNat (zi Q6))].length<=1073741824)) (Tr.ok (zB.head 3 (zZ Tryz.f240 3) (Js l8 i9 (IntKind.i64.wrap (i10+1)) (lh_0++[lv (l8.getD i10.toNat (zi Q6))])))))) (Qc (Q0 (lh_0.length<=140737488355328)&&Q0 ((Lib.join lh_0 [32,44,32]).length<=140737488355328)) (Tr.ok (zB.ret (str (Lib.join lh_0 [32,44,32])) []))):=kw
def dw:List (Sem Q6)->Int->List (Sem Q6)->Sem Q6
 |[],_,lh_0=>(Lib.join lh_0 [32,44,32])
 |x::r,i10,lh_0=>(dw r (i10+1) (lh_0++[lv x]))
def dO:List (Sem Q6)->Int->List (Sem Q6)->Bool
 |[],_,lh_0=>(if(Q0 (lh_0.length<=140737488355328)&&Q0 ((Lib.join lh_0 [32,44,32]).length<=140737488355328))=Q3 then Q3 else Q4)
 |x::r,i10,lh_0=>(if Q0 (lh_0.length+[lv x].length<=1073741824)=Q3 then dO r (i10+1) (lh_0++[lv x])else Q4)
theorem zaJ{C:eP}(hC:∀id,C.ρ0 id=Q2)(l8:LS)(hl:l8.length<=aE):∀(m i:Nat)(lh_0:LS),l8.length-i=m->i<=l8.length->dO (l8.drop i) i lh_0=Q3->
  Reach (km) C 240 (zZ Tryz.f240 3) (Js l8 (l8.length:Int) (i:Int) lh_0) (λr h=>aL h [Q6] r=Q1 (dw (l8.drop i) i lh_0,())):=by
 intro m
 induction m with
 | zero=>
  intro i lh_0 hm hi hc;obtain rfl:i=l8.length:=by omega
  rw[jg]at hc⊢;refine zD gL (VY) (λid _=>hC id) (SD _ _ _ _) ?_;rw[dO]at hc;generalize hy:dw [] _ lh_0=y;rw[dw]at hy;simp only[zz,Tr.val_brF];repeat' (first|with_reducible refine tL hy hc (λ_ hy hc=>?_) (λ_ hy hc=>?_)|with_reducible refine cZ hy (λ_ hy=>?_) (λ_ hy=>?_)|with_reducible refine ig hc (λhc=>?_)|with_reducible refine zJ ?_)
  all_goals first|(cases hc;done)|(subst hy;first|rfl)
 | succ m IH=>
  intro i lh_0 hm hi hc;have hlt:i<l8.length:=by omega
  have IH:=IH (i+1);have hcast:((i:Int)+1)=((i+1:Nat):Int):=by omega
  have hwr:=zq i ow;rw[fj hlt]at hc⊢;refine zD gL (VY) (λid _=>hC id) (SD _ _ _ _) ?_;rw[dO]at hc;generalize hy:dw (l8[i]::l8.drop (i+1)) (i:Int) lh_0=y;rw[dw]at hy;simp only[zH hlt,zu hlt,cw l8 _ hlt,hwr,Tr.val_brT,Tr.val_chkT];clear hwr
  try simp only[zu hlt]at hy
  simp only[hcast]at hy
  try simp only[zu hlt]at hc
  try simp only[hcast]at hc
  repeat' (first|with_reducible refine tL hy hc (λ_ hy hc=>?_) (λ_ hy hc=>?_)|with_reducible refine cZ hy (λ_ hy=>?_) (λ_ hy=>?_)|with_reducible refine ig hc (λhc=>?_)|with_reducible refine zJ ?_)
  all_goals first|(cases hc;done)|(subst hy;first|(change Reach _ _ _ _ _ _;apply IH<;>first|omega|assumption)|rfl)
theorem U5{C:eP}(hC:∀id,C.ρ0 id=Q2)(l8:LS)(lh_0:LS)(hc:dO l8 0 lh_0=Q3):
  Reach (km) C 240 (zZ Tryz.f240 3) (Js l8 (l8.length:Int) 0 lh_0) (λr h=>aL h [Q6] r=Q1 (dw l8 0 lh_0,())):=
 Reach.len 8 (Q6) l8 rfl λhl=>zaJ hC l8 hl _ 0 lh_0 rfl (ba _) hc
def gm(x0:Sem Sh.str.sl):Sem Q6:=(dw x0 0 [])
def my(x0:Sem Sh.str.sl):Bool:=(dO x0 0 [])
def F97:zX:=SP [Sh.str.sl] [Q6] [(231,(λx=>my x.1),λx=>(gm x.1,()))]
theorem zfh:FK 240 F97:=by
 refine JR (VY) λj c g hm x hc C hC=>?_
 simp only[fX,cm]at hm;obtain⟨rfl,rfl,rfl⟩:=hm
 replace hc:my x.1=Q3:=hc
 unfold my at hc;refine zD gL (VY) (λid _=>hC id) (zkD x.1) ?_;generalize hy:gm x.1=y;unfold gm at hy
 skip
 repeat' (first|with_reducible refine tL hy hc (λ_ hy hc=>?_) (λ_ hy hc=>?_)|with_reducible refine cZ hy (λ_ hy=>?_) (λ_ hy=>?_)|with_reducible refine ig hc (λhc=>?_)|with_reducible refine zJ ?_)
 all_goals first|(cases hc;done)|(subst hy;first|(change Reach _ _ _ _ _ _;apply U5 hC<;>first|assumption|exact hc)|rfl)
noncomputable def Mb:=km.addL [(228,F85),(235,F92),(230,F87),(242,F99),(240,F97)]
theorem vA:zw Mb:=gL.addL<|fc ze7<|fc zff<|fc ze9<|fc zfj<|fc zfh jj
noncomputable def zcQ:zX:=bh (List.replicate 2 Q2) (fL Mb Tryz.f265 (List.replicate 2 Q2))
theorem Y6:FK 265 zcQ:=cr _ vA (bQ kw)
noncomputable def Ql(g:Sem Q5->Sem Q6)(c:Sem Q5->Bool):bT:=Mb.add 305 (zO [Q5] [Q6] (λx=>c x.1) λx=>(g x.1,()))
theorem NW{g:Sem Q5->Sem Q6}{c:Sem Q5->Bool}(hg:FK 305 (zO [Q5] [Q6] (λx=>c x.1) λx=>(g x.1,()))):zw (Ql g c):=vA.add hg
abbrev zbO:Nat->aM:=λ_=>{ }
theorem Bo(g:Sem Q5->Sem Q6)(c:Sem Q5->Bool):zI (Ql g c).P 305 Tryz.f305 1:=bQ kw
theorem zbc(g:Sem Q5->Sem Q6)(c:Sem Q5->Bool)(x0:Sem Q5):rn (Ql g c) 0 zbO Tryz.f305 [zC Q5 x0] []=br (ze.op x0==[108,105,116]) (Qc (wD (ze.v x0)) (Tr.ok (zB.ret (str (gU (ze.v x0))) []))) (br (ze.op x0==[99,111,108]) (Tr.ok (zB.ret (str (ze.s x0)) [])) (br (ze.op x0==[110,111,116]) (Qc (zP 0 (ze.l x0).length) (Qc (c (zm ((ze.l x0).getD (toNat 0) (zi Q5)))) (Qc (Q0 ([40,78,79,84,32].length+length (g (zm ((ze.l x0).getD (toNat 0) (zi Q5))))<=1099511627776)) (Qc (Q0 (length ([40,78,79,84,32]++g (zm ((ze.l x0).getD (toNat 0) (zi Q5))))+[41].length<=1099511627776)) (Tr.ok (zB.ret (str ([40,78,79,84,32]++g (zm ((ze.l x0).getD (toNat 0) (zi Q5)))++[41])) [])))))) (br (ze.op x0==[110,117,108,108]) (Qc (zP 0 (ze.l x0).length) (Qc (c (zm ((ze.l x0).getD (toNat 0) (zi Q5)))) (Qc (Q0 ([40].length+length (g (zm ((ze.l x0).getD (toNat 0) (zi Q5))))<=1099511627776)) (Qc (Q0 (length ([40]++g (zm ((ze.l x0).getD (toNat 0) (zi Q5))))+[32,73,83,32,78,85,76,76,41].length<=1099511627776)) (Tr.ok (zB.ret (str ([40]++g (zm ((ze.l x0).getD (toNat 0) (zi Q5)))++[32,73,83,32,78,85,76,76,41]))
 [])))))) (Qc (zP 0 (ze.l x0).length) (Qc (c (zm ((ze.l x0).getD (toNat 0) (zi Q5)))) (Qc (Q0 ([40].length+length (g (zm ((ze.l x0).getD (toNat 0) (zi Q5))))<=1099511627776)) (Qc (Q0 (length ([40]++g (zm ((ze.l x0).getD (toNat 0) (zi Q5))))+[32].length<=1099511627776)) (Qc (Q0 (length (ze.op x0)<=140737488355328)&&List.all (ze.op x0) λb=>Q0 (b.toNat<128)) (Qc (Q0 (length ([40]++g (zm ((ze.l x0).getD (toNat 0) (zi Q5)))++[32])+(Lib.toUpperA (ze.op x0)).length<=1099511627776)) (Qc (Q0 (length ([40]++g (zm ((ze.l x0).getD (toNat 0) (zi Q5)))++[32]++Lib.toUpperA (ze.op x0))+[32].length<=1099511627776)) (Qc (zP 1 (ze.l x0).length) (Qc (c (zm ((ze.l x0).getD (toNat 1) (zi Q5)))) (Qc (Q0 (length ([40]++g (zm ((ze.l x0).getD (toNat 0) (zi Q5)))++[32]++Lib.toUpperA (ze.op x0)++[32])+length (g (zm ((ze.l x0).getD (toNat 1) (zi Q5))))<=1099511627776)) (Qc (Q0 (length ([40]++g (zm ((ze.l x0).getD (toNat 0) (zi Q5)))++[32]++Lib.toUpperA (ze.op x0)++[32]++g (zm ((ze.l x0).getD (toNat 1) (zi Q5))))+[41].length<=1099511627776)) (Tr.ok (zB.ret (str ([40]++g (zm ((ze.l x0).getD (toNat 0) (zi Q5)))++[32]++Lib.toUpperA (ze.op x0)++[32]++g
 (zm ((ze.l x0).getD (toNat 1) (zi Q5)))++[41])) [])))))))))))))))):=kw
def rQ(g:Sem Q5->Sem Q6)(_:Sem Q5->Bool)(x0:Sem Q5):Sem Q6:=(if(ze.op x0==[108,105,116])=Q3 then gU (ze.v x0)else if(ze.op x0==[99,111,108])=Q3 then ze.s x0 else if(ze.op x0==[110,111,116])=Q3 then[40,78,79,84,32]++g ((ze.l x0).getD (toNat 0) (zi Q5))++[41]else if(ze.op x0==[110,117,108,108])=Q3 then[40]++g ((ze.l x0).getD (toNat 0) (zi Q5))++[32,73,83,32,78,85,76,76,41]else[40]++g ((ze.l x0).getD (toNat 0) (zi Q5))++[32]++Lib.toUpperA (ze.op x0)++[32]++g ((ze.l x0).getD (toNat 1) (zi Q5))++[41])
def xV(g:Sem Q5->Sem Q6)(c:Sem Q5->Bool)(x0:Sem Q5):Bool:=(if(ze.op x0==[108,105,116])=Q3 then if wD (ze.v x0)=Q3 then Q3 else Q4 else if(ze.op x0==[99,111,108])=Q3 then Q3 else if(ze.op x0==[110,111,116])=Q3 then if zP 0 (ze.l x0).length=Q3 then if c ((ze.l x0).getD (toNat 0) (zi Q5))=Q3 then if Q0 ([40,78,79,84,32].length+length (g ((ze.l x0).getD (toNat 0) (zi Q5)))<=1099511627776)=Q3 then if Q0 (length ([40,78,79,84,32]++g ((ze.l x0).getD (toNat 0) (zi Q5)))+[41].length<=1099511627776)=Q3 then Q3 else Q4 else Q4 else Q4 else Q4 else if(ze.op x0==[110,117,108,108])=Q3 then if zP 0 (ze.l x0).length=Q3 then if c ((ze.l x0).getD (toNat 0) (zi Q5))=Q3 then if Q0 ([40].length+length (g ((ze.l x0).getD (toNat 0) (zi Q5)))<=1099511627776)=Q3 then if Q0 (length ([40]++g ((ze.l x0).getD (toNat 0) (zi Q5)))+[32,73,83,32,78,85,76,76,41].length<=1099511627776)=Q3 then Q3 else Q4 else Q4 else Q4 else Q4 else if zP 0 (ze.l x0).length=Q3 then if c ((ze.l x0).getD (toNat 0) (zi Q5))=Q3 then if Q0 ([40].length+length (g ((ze.l x0).getD (toNat 0) (zi Q5)))<=1099511627776)=Q3 then
 if Q0 (length ([40]++g ((ze.l x0).getD (toNat 0) (zi Q5)))+[32].length<=1099511627776)=Q3 then if(Q0 (length (ze.op x0)<=140737488355328)&&List.all (ze.op x0) λb=>Q0 (b.toNat<128))=Q3 then if Q0 (length ([40]++g ((ze.l x0).getD (toNat 0) (zi Q5))++[32])+(Lib.toUpperA (ze.op x0)).length<=1099511627776)=Q3 then if Q0 (length ([40]++g ((ze.l x0).getD (toNat 0) (zi Q5))++[32]++Lib.toUpperA (ze.op x0))+[32].length<=1099511627776)=Q3 then if zP 1 (ze.l x0).length=Q3 then if c ((ze.l x0).getD (toNat 1) (zi Q5))=Q3 then if Q0 (length ([40]++g ((ze.l x0).getD (toNat 0) (zi Q5))++[32]++Lib.toUpperA (ze.op x0)++[32])+length (g ((ze.l x0).getD (toNat 1) (zi Q5)))<=1099511627776)=Q3 then if Q0 (length ([40]++g ((ze.l x0).getD (toNat 0) (zi Q5))++[32]++Lib.toUpperA (ze.op x0)++[32]++g ((ze.l x0).getD (toNat 1) (zi Q5)))+[41].length<=1099511627776)=Q3 then Q3 else Q4 else Q4 else Q4 else Q4 else Q4 else Q4 else Q4 else Q4 else Q4 else Q4 else Q4)
def zc4(g:Sem Q5->Sem Q6)(c:Sem Q5->Bool):zX:=zO [Q5] [Q6] (λx=>xV g c x.1) λx=>(rQ g c x.1,())
theorem UC(g:Sem Q5->Sem Q6)(c:Sem Q5->Bool)(hg:FK 305 (zO [Q5] [Q6] (λx=>c x.1) λx=>(g x.1,()))):FK 305 (zc4 g c):=by
 refine aI (Bo g c) λx hc C hC=>?_
 unfold xV at hc;refine zD (NW hg) (Bo g c) (λid _=>hC id) (zbc g c x.1) ?_;generalize hy:rQ g c x.1=y;unfold rQ at hy
 try simp only[ze.eta]
 repeat' (first|with_reducible refine tL hy hc (λ_ hy hc=>?_) (λ_ hy hc=>?_)|with_reducible refine cZ hy (λ_ hy=>?_) (λ_ hy=>?_)|with_reducible refine ig hc (λhc=>?_)|with_reducible refine zJ ?_)
 all_goals first|(cases hc;done)|(subst hy;first|rfl)
mutual
def aO:Nat->Sem Q5->Sem Q6
 |0=>λ_=>default
 |n+1=>rQ (aO n) (gq n)
def gq:Nat->Sem Q5->Bool
 |0=>λ_=>Q4
 |n+1=>xV (aO n) (gq n)
end
theorem LK:∀n,FK 305 (zO [Q5] [Q6] (λx=>gq n x.1) λx=>(aO n x.1,()))
 |0=>fh ⟨Tryz.f305,(Bo default default).1,(Bo default default).2.1,(Bo default default).2.2.1⟩ (λ_=>rfl)
 |n+1=>UC (aO n) (gq n) (LK n)
def zc3:zX:=zO [Q5] [Q6] (λx=>gq 16 x.1) λx=>(aO 16 x.1,())
theorem Zj:FK 305 zc3:=LK 16
noncomputable def oD:=Mb.addL [(265,zcQ),(305,zc3)]
theorem jW:zw oD:=vA.addL<|fc Y6<|fc Zj jj
abbrev uu(l:LS)(i:Int):St:={tmps:=[.sl Q6 l,.clo (.func 265) [] [.ptr 0 0],.any,.any,.any,.any,.any,.int .i64 l.length,.int .i64 i,.any,.any,.any,.any,.any,.any,.any,.any,.any,.any],heap:=[.box [.clo (.func 223) [] []]]}
theorem Of(l:LS):run oD 1 C8 Tryz.f295.results.toList 300 (bq Tryz.f295) (bc Tryz.f295.ntmps [.sl Q6 l,.clo (.func 265) [] [.ptr 0 0]] [.box [.clo (.func 223) [] []]])=.ok (.head 2 (zZ Tryz.f295 2) (uu l 0)):=kw
theorem OF(l:LS)(i:Int):run oD 1 C8 Tryz.f295.results.toList 300 (zZ Tryz.f295 2) (uu l i)=oR (K:=zZ Tryz.f295 2) (e:=Q6) l (λx=>!bL x) (uu l) [.box [.clo (.func 223) [] []]] i:=kw
theorem So:zI oD.P 295 Tryz.f295 2:=bQ kw
def zfn:iv [Q1 (.sl Q6),Q2]:=λx h=>match x,h with
 |(l,.clo (.func 265) [] [.ptr 0 0],_),[.box [.clo (.func 223) [] []]]=>.ok (.int .i64 (ae (λx=>!bL x) l 0),[.box [.clo (.func 223) [] []]])
 |_,_=>.err
def zc0:zX:=bh [Q1 (.sl Q6),Q2] zfn
theorem Zg:FK 295 zc0:=by
 refine dI So λx h0 res hx C hC=>?_
 unfold zfn at hx;split at hx
 ·rename_i l u;simp only[Tr.val_ok,bw]at hx;subst hx;refine Reach.len 0 Q6 l rfl λhl=>?_
  refine zD (n0:=1) jW So hC (Of l) ?_;exact mr l (λx=>!bL x) (uu l) jW So hC (OF l) hl _ 0 rfl (ba _)
 ·simp at hx
abbrev zgC:Nat->aM:=λ_=>{ }
theorem YF:zI (oD).P 278 Tryz.f278 1:=bQ kw
theorem zfQ(x0:Sem Q5):rn oD 0 zgC Tryz.f278 [zC Q5 x0] []=br (!cW (zm x0)) (Tr.ok (zB.ret (tup [str [],ai 1]) [])) (Qc (gq 16 (zm x0)) (Tr.ok (zB.ret (tup [str (aO 16 (zm x0)),ai 0]) []))):=kw
def mQ(x0:Sem Q5):Sem Q6×Sem zg:=(if(!cW x0)=Q3 then([],1)else(aO 16 x0,0))
def pJ(x0:Sem Q5):Bool:=(if(!cW x0)=Q3 then Q3 else if gq 16 x0=Q3 then Q3 else Q4)
def zcX:zX:=zO [Q5] [Q6,zg] (λx=>pJ x.1) λx=>((mQ x.1).1,(mQ x.1).2,())
theorem Zd:FK 278 zcX:=by
 refine aI (YF) λx hc C hC=>?_
 unfold pJ at hc;refine zD jW (YF) (λid _=>hC id) (zfQ x.1) ?_;generalize hy:mQ x.1=y;unfold mQ at hy
 try simp only[ze.eta]
 repeat' (first|with_reducible refine tL hy hc (λ_ hy hc=>?_) (λ_ hy hc=>?_)|with_reducible refine cZ hy (λ_ hy=>?_) (λ_ hy=>?_)|with_reducible refine ig hc (λhc=>?_)|with_reducible refine zJ ?_)
 all_goals first|(cases hc;done)|(subst hy;first|rfl)
abbrev zg5:Nat->aM:=λj=>if j=3 then{slots:=[0,4,5],prom:=[(4,Q2,bS)]}else{ }
abbrev Jr(s0:TS)(i5:Int)(lh_0:LF):St:={tmps:=(tm 47 [(0,str s0),(4,AV.vec 0),(5,ai i5)]),heap:=[AO.vec zr lh_0]}
theorem zb9:zI (oD).P 192 Tryz.f192 1:=bQ kw
theorem zks(x0:TS):rn oD 0 zg5 Tryz.f192 [zC Q6 x0] []=Tr.ok (zB.head 3 (zZ Tryz.f192 3) (Jr x0 0 [])):=kw
theorem zcg(s0:TS)(i5:Int)(lh_0:LF):rh oD 0 zg5 Tryz.f192 3 (Jr s0 i5 lh_0)=br (Q0 (i5<(↑(length s0):Int))) (Qc (zP i5 (length s0)&&bif (↑(getD s0 i5.toNat 0).toNat:Int)==32 then Q3 else zP i5 (length s0)) (br (bif (↑(getD s0 i5.toNat 0).toNat:Int)==32 then Q3 else(↑(getD s0 i5.toNat 0).toNat:Int)==10) (Tr.ok (zB.head 3 (zZ Tryz.f192 3) (Jr s0 (IntKind.i64.wrap (i5+1)) lh_0))) (Qc (Q0 (0<=i5)&&Q0 (i5<=(↑(length s0):Int))&&Q0 ((↑(length s0):Int)<=(↑(length s0):Int))) (Qc (j6 (Qg ((↑(length s0):Int).toNat-i5.toNat) (Qh i5.toNat s0))) (Qc (qF (bv (Qg ((↑(length s0):Int).toNat-i5.toNat) (Qh i5.toNat s0))).1) (br (bif !bV (bv (Qg ((↑(length s0):Int).toNat-i5.toNat) (Qh i5.toNat s0))).1 then Q3 else(↑lh_0.length:Int)==400) (Tr.ok (zB.ret (tup [nils,ai 2]) [])) (Qc (Q0 (lh_0.length+[(bv (Qg ((↑(length s0):Int).toNat-i5.toNat) (Qh i5.toNat s0))).1].length<=1073741824)) (Tr.ok (zB.head 3 (zZ Tryz.f192 3) (Jr s0 (IntKind.i64.wrap (i5+(bv (Qg ((↑(length s0):Int).toNat-i5.toNat) (Qh i5.toNat s0))).2))
 (lh_0++[(bv (Qg ((↑(length s0):Int).toNat-i5.toNat) (Qh i5.toNat s0))).1]))))))))))) (Tr.ok (zB.ret (tup [AV.vec 0,ai 0]) [AO.vec zr lh_0])):=kw
def sZ:Nat->(Sem Sh.str)->Int->(List (Sem zr))->Sem bS.sl×Sem zg
 |0,_,_,_=>default
 |n+1,s0,i5,lh_0=>(if Q0 (i5<(↑(length s0):Int))=Q3 then
 if(bif (↑(getD s0 i5.toNat 0).toNat:Int)==32 then Q3 else(↑(getD s0 i5.toNat 0).toNat:Int)==10)=Q3 then
  sZ n s0 (IntKind.i64.wrap (i5+1)) lh_0
 else
  if
    (bif !bV (bv (Qg ((↑(length s0):Int).toNat-i5.toNat) (Qh i5.toNat s0))).1 then Q3
     else(↑lh_0.length:Int)==400)=
     Q3 then
   ([],2)
  else
   sZ n s0 (IntKind.i64.wrap (i5+(bv (Qg ((↑(length s0):Int).toNat-i5.toNat) (Qh i5.toNat s0))).2))
    (lh_0++[(bv (Qg ((↑(length s0):Int).toNat-i5.toNat) (Qh i5.toNat s0))).1])
else(lh_0,0))
def rM:Nat->(Sem Sh.str)->Int->(List (Sem zr))->Bool
 |0,_,_,_=>Q4
 |n+1,s0,i5,lh_0=>(if Q0 (i5<(↑(length s0):Int))=Q3 then
 if (zP i5 (length s0)&&bif (↑(getD s0 i5.toNat 0).toNat:Int)==32 then true else zP i5 (length s0))=true then
  if(bif (↑(getD s0 i5.toNat 0).toNat:Int)==32 then Q3 else(↑(getD s0 i5.toNat 0).toNat:Int)==10)=Q3 then
   rM n s0 (IntKind.i64.wrap (i5+1)) lh_0
  else
   if (decide (0≤i5)&&decide (i5≤(↑(length s0):Int))&&decide ((↑(length s0):Int)≤(↑(length s0):Int)))=true then
    if j6 (List.take ((↑(length s0):Int).toNat-i5.toNat) (List.drop i5.toNat s0))=true then
     if qF (bv (List.take ((↑(length s0):Int).toNat-i5.toNat) (List.drop i5.toNat s0))).1=true then
      if
        (bif !bV (bv (Qg ((↑(length s0):Int).toNat-i5.toNat) (Qh i5.toNat s0))).1 then Q3
         else(↑lh_0.length:Int)==400)=
         Q3 then
       Q3
      else
       if
         Q0 (lh_0.length+[(bv (Qg ((↑(length s0):Int).toNat-i5.toNat) (Qh i5.toNat s0))).1].length<=1073741824)=
          Q3 then
        rM n s0 (IntKind.i64.wrap (i5+(bv (Qg ((↑(length s0):Int).toNat-i5.toNat) (Qh i5.toNat s0))).2))
         (lh_0++[(bv (Qg ((↑(length s0):Int).toNat-i5.toNat) (Qh i5.toNat s0))).1])
       else Q4
     else Q4
    else Q4
   else Q4
 else Q4
else Q3)
theorem PN{C:eP}(hC:∀id,C.ρ0 id=Q2):∀(n:Nat)(s0:TS)(i5:Int)(lh_0:LF),rM n s0 i5 lh_0=Q3->
  Reach (oD) C 192 (zZ Tryz.f192 3) (Jr s0 i5 lh_0) (λr h=>aL h [bS.sl,zg] r=Q1 ((sZ n s0 i5 lh_0).1,(sZ n s0 i5 lh_0).2,()))
 |0,s0,i5,lh_0,hc=>by cases hc
 | n+1,s0,i5,lh_0,hc=>by
  refine zD jW (zb9) (λid _=>hC id) (zcg _ _ _) ?_;rw[rM]at hc;generalize hy:sZ (n+1) s0 i5 lh_0=y;rw[sZ]at hy
  try simp only[ze.eta,zl]
  repeat' (first|with_reducible refine tL hy hc (λ_ hy hc=>?_) (λ_ hy hc=>?_)|with_reducible refine cZ hy (λ_ hy=>?_) (λ_ hy=>?_)|with_reducible refine ig hc (λhc=>?_)|with_reducible refine zJ ?_)
  all_goals first|(cases hc;done)|(subst hy;first|(change Reach _ _ _ _ _ _;refine PN hC n _ _ _ ?_<;>exact hc)|rfl)
def cut(x0:TS):Sem bS.sl×Sem zg:=(sZ (length x0+1) x0 0 [])
def PX(x0:TS):Bool:=(rM (length x0+1) x0 0 [])
def F69:zX:=zO [Q6] [bS.sl,zg] (λx=>PX x.1) λx=>((cut x.1).1,(cut x.1).2,())
theorem zeU:FK 192 F69:=by
 refine aI (zb9) λx hc C hC=>?_
 unfold PX at hc;refine zD jW (zb9) (λid _=>hC id) (zks x.1) ?_;generalize hy:cut x.1=y;unfold cut at hy
 try simp only[ze.eta,zl]
 repeat' (first|with_reducible refine tL hy hc (λ_ hy hc=>?_) (λ_ hy hc=>?_)|with_reducible refine cZ hy (λ_ hy=>?_) (λ_ hy=>?_)|with_reducible refine ig hc (λhc=>?_)|with_reducible refine zJ ?_)
 all_goals first|(cases hc;done)|(subst hy;first|(change Reach _ _ _ _ _ _;refine PN hC _ _ _ _ ?_<;>exact hc)|rfl)
noncomputable def HW:=oD.addL [(295,zc0),(278,zcX),(192,F69)]
theorem vB:zw HW:=jW.addL<|fc Zg<|fc Zd<|fc zeU jj
noncomputable def zcP:zX:=bh (List.replicate 2 Q2) (fL HW Tryz.f264 (List.replicate 2 Q2))
theorem Y5:FK 264 zcP:=cr _ vB (bQ kw)
abbrev zk4:Nat->aM:=λ_=>{ }
theorem zig:zI (HW).P 237 Tryz.f237 1:=bQ kw
theorem zkC(x0:Sem Q5):rn HW 0 zk4 Tryz.f237 [zC Q5 x0] []=Qc (pJ (zm x0)) (Tr.ok (zB.ret (str (mQ (zm x0)).1) [])):=kw
def iu(x0:Sem Q5):Sem Q6:=((mQ x0).1)
def pA(x0:Sem Q5):Bool:=(if pJ x0=Q3 then Q3 else Q4)
def F94:zX:=zO [Q5] [Q6] (λx=>pA x.1) λx=>(iu x.1,())
theorem zfg:FK 237 F94:=by
 refine aI (zig) λx hc C hC=>?_
 unfold pA at hc;refine zD vB (zig) (λid _=>hC id) (zkC x.1) ?_;generalize hy:iu x.1=y;unfold iu at hy
 try simp only[ze.eta]
 repeat' (first|with_reducible refine tL hy hc (λ_ hy hc=>?_) (λ_ hy hc=>?_)|with_reducible refine cZ hy (λ_ hy=>?_) (λ_ hy=>?_)|with_reducible refine ig hc (λhc=>?_)|with_reducible refine zJ ?_)
 all_goals first|(cases hc;done)|(subst hy;first|rfl)
noncomputable def HX:=HW.addL [(264,zcP),(237,F94)]
theorem vC:zw HX:=vB.addL<|fc Y5<|fc zfg jj
noncomputable def F86:zX:=bh (List.replicate 4 Q2) (fL HX Tryz.f229 (List.replicate 4 Q2))
theorem ze8:FK 229 F86:=cr _ vC (bQ kw)
abbrev zk5:Nat->aM:=λ_=>{ }
theorem zih:zI (HX).P 241 Tryz.f241 2:=bQ kw
theorem zkE(x0:TS)(x1:Sem Q5):rn HX 0 zk5 Tryz.f241 [zC Q6 x0,zC Q5 x1] []=br (gK (zm x1)) (Tr.ok (zB.ret (str []) [])) (Qc (Q0 (length x0+[67,72,69,67,75,32,40,32].length<=1099511627776)) (Qc (pA (zm x1)) (Qc (Q0 (length (x0++[67,72,69,67,75,32,40,32])+length (iu (zm x1))<=1099511627776)) (Qc (Q0 (length (x0++[67,72,69,67,75,32,40,32]++iu (zm x1))+[32,41].length<=1099511627776)) (Tr.ok (zB.ret (str (x0++[67,72,69,67,75,32,40,32]++iu (zm x1)++[32,41])) [])))))):=kw
def kf(x0:TS)(x1:Sem Q5):Sem Q6:=(if gK x1=Q3 then[]else x0++[67,72,69,67,75,32,40,32]++iu x1++[32,41])
def sU(x0:TS)(x1:Sem Q5):Bool:=(if gK x1=Q3 then Q3 else if Q0 (length x0+[67,72,69,67,75,32,40,32].length<=1099511627776)=Q3 then if pA x1=Q3 then if Q0 (length (x0++[67,72,69,67,75,32,40,32])+length (iu x1)<=1099511627776)=Q3 then if Q0 (length (x0++[67,72,69,67,75,32,40,32]++iu x1)+[32,41].length<=1099511627776)=Q3 then Q3 else Q4 else Q4 else Q4 else Q4)
def F98:zX:=zO [Q6,Q5] [Q6] (λx=>sU x.1 x.2.1) λx=>(kf x.1 x.2.1,())
theorem zfi:FK 241 F98:=by
 refine aI (zih) λx hc C hC=>?_
 unfold sU at hc;refine zD vC (zih) (λid _=>hC id) (zkE x.1 x.2.1) ?_;generalize hy:kf x.1 x.2.1=y;unfold kf at hy
 try simp only[ze.eta]
 repeat' (first|with_reducible refine tL hy hc (λ_ hy hc=>?_) (λ_ hy hc=>?_)|with_reducible refine cZ hy (λ_ hy=>?_) (λ_ hy=>?_)|with_reducible refine ig hc (λhc=>?_)|with_reducible refine zJ ?_)
 all_goals first|(cases hc;done)|(subst hy;first|rfl)
noncomputable def XR:=HX.addL [(229,F86),(241,F98)]
theorem N9:zw XR:=vC.addL<|fc ze8<|fc zfi jj
def ziU(x0:Sem zk):Sem Q7:=(bif bif Q0 ((↑(length x0.2.2.2.2.1):Int)<1)then Q3 else Q0 ((↑(length x0.2.2.2.2.1):Int)>8)then Q4 else bif !Q0 (ae (λx=>!zft x) x0.2.2.2.2.1 0>=0)then bif bL x0.2.2.2.2.2.1 then bif bif Q0 ((↑(length x0.2.2.2.2.2.2.1):Int)<0)then Q3 else Q0 ((↑(length x0.2.2.2.2.2.2.1):Int)>8)then Q4 else bif !Q0 (ae (λx=>!bL x) x0.2.2.2.2.2.2.1 0>=0)then bif bif Q0 ((↑(length x0.2.2.2.2.2.2.2.1):Int)<0)then Q3 else Q0 ((↑(length x0.2.2.2.2.2.2.2.1):Int)>8)then Q4 else bif !Q0 (ae (λx=>!ziE x) x0.2.2.2.2.2.2.2.1 0>=0)then bM x0.2.2.2.2.2.2.2.2.1 else Q4 else Q4 else Q4 else Q4)
noncomputable def XS:=XR
theorem vD:zw XS:=N9
noncomputable section
def tu(x0:Sem zk):Tr (Empty⊕aw):=
 let a0:=zm x0.t.t.1
 let a1:=zm x0.t.t.q.2.1
 let a2:=(x0.t.t.2.1,x0.t.t.q.1,a1,x0.t.t.t)
 let a3:=(x0.1,[],x0.2.2.1,x0.2.2.2.1,x0.t.1,x0.t.2.1,x0.t.q.1,x0.t.q.2.1,a0,a2)
 let a4:=bif bL x0.2.1 then bM a1 else Q4
 let a5:=(x0.1,[],x0.2.2.1,x0.2.2.2.1,x0.t.1,x0.t.2.1,x0.t.q.1,x0.t.q.2.1,a0,x0.t.t.2.1,x0.t.t.q.1,ze.mk [] (0,0,[]) [] [],x0.t.t.t)
 let a6:=bL x0.t.t.t
 let a7:=bif bL x0.2.1 then a6 else Q4
 let a8:=(x0.t.t.2.1,x0.t.t.q.1,a1,[])
 let a9:=(x0.1,[],x0.2.2.1,x0.2.2.2.1,x0.t.1,x0.t.2.1,x0.t.q.1,x0.t.q.2.1,a0,a8)
 let a10:=bL x0.2.2.1
 let a11:=(↑(length x0.2.2.2.1):Int)
 let a12:=ae (λx=>!bL x) x0.2.2.2.1 0
 let a13:=bM a0
 let a14:=bif !Q0 (a12>=0)then a13 else Q4
 let a15:=bif bL x0.2.1 then bif a10 then bif bif Q0 (a11<1)then Q3 else Q0 (a11>8)then Q4 else a14 else Q4 else Q4
 let a16:=(x0.1,[],[],[],x0.t.1,x0.t.2.1,x0.t.q.1,x0.t.q.2.1,ze.mk [] (0,0,[]) [] [],a2)
 let a17:=dY a16
 let a18:=ej a16
 let a19:=bif bL x0.2.1 then bif a10 then bif bL x0.t.2.1 then bif a6 then a13 else Q4 else Q4 else Q4 else Q4
 let a20:=(x0.1,[],[],x0.2.2.2.1,x0.t.1,[],x0.t.q.1,x0.t.q.2.1,ze.mk [] (0,0,[]) [] [],a8)
 let a21:=bif bL x0.2.1 then bif a10 then bif bif Q0 (a11<2)then Q3 else Q0 (a11>2)then Q4 else a14 else Q4 else Q4
 br (x0.1==[99,114,101,97,116,101]) (br (bL x0.2.1) Tr.err (re (kb Q4) []))
 (br (x0.1==[100,114,111,112])
  (Qc (bif bL x0.2.1 then dY a3 else Q3) (re (AV.bool (bif bL x0.2.1 then ej a3 else Q4)) []))
  (br (x0.1==[105,110,115,101,114,116]) (br (bL x0.2.1) Tr.err (re (kb Q4) [])) (br (x0.1==[117,112,100,97,116,101]) (br (bL x0.2.1) Tr.err (re (kb Q4) [])) (br (x0.1==[100,101,108,101,116,101]) (Qc (bif a4 then dY a5 else Q3) (re (AV.bool (bif a4 then ej a5 else Q4)) []))
  (br (x0.1==[115,101,108,101,99,116]) (Qc (bif a4 then dY a5 else Q3) (re (AV.bool (bif a4 then ej a5 else Q4)) [])) (br (x0.1==[114,101,97,100]) (Qc (bif a7 then dY a9 else Q3) (re (AV.bool (bif a7 then ej a9 else Q4)) []))
  (br (x0.1==[119,114,105,116,101]) (Qc (bif a7 then dY a9 else Q3) (re (AV.bool (bif a7 then ej a9 else Q4)) [])) (br (x0.1==[117,110,114,101,97,100]) (Qc (bif a7 then dY a9 else Q3) (re (AV.bool (bif a7 then ej a9 else Q4)) [])) (br (x0.1==[117,110,119,114,105,116,101])
  (Qc (bif a7 then dY a9 else Q3) (re (AV.bool (bif a7 then ej a9 else Q4)) [])) (br (x0.1==[99,111,112,121]) (Qc (bif a15 then a17 else Q3) (re (AV.bool (bif a15 then a18 else Q4)) [])) (br (x0.1==[106,111,105,110]) (Qc (bif a19 then dY a20 else Q3) (re (AV.bool (bif a19 then ej a20 else Q4)) []))
  (br (x0.1==[103,114,111,117,112]) (Qc (bif a21 then a17 else Q3) (re (AV.bool (bif a21 then a18 else Q4)) [])) (re (kb Q4) [])))))))))))))
def yJ(x0:Sem zk):=al [Q7] t0 100000000 (tu x0)
def uv(x0:Sem zk):=(yJ x0).isSome
def eW(x0:Sem zk):=o1 (yJ x0)
def WW:=FT [zk] [Q7] λx=>yJ x.1
theorem Ud:FK 190 WW:=vD.T1 (f:=Tryz.f190) (keep:=k0) (e:=e0)
def xf(x0:Sem zk):Tr (Empty⊕aw):=
 let a0:=Q0 (length x0.1<=140737488355328)&&List.all x0.1 λb=>Q0 (b.toNat<128)
 let a1:=[77,73,71,82,65,84,69,32]++Lib.toUpperA x0.1
 let a2:=a1++[32]
 let a3:=a2++x0.2.1
 let a4:=a3++[32,70,82,79,77,32]
 let a5:=[71,82,65,78,84,32]++Lib.toUpperA x0.1
 let a6:=a5++[32,79,78,32]
 let a7:=a6++x0.2.1
 let a8:=a7++[32,84,79,32]
 let a9:=Qg ((↑(length x0.1):Int).toNat-toNat 2) (Qh (toNat 2) x0.1)
 let a10:=Lib.toUpperA a9
 let a11:=[82,69,86,79,75,69,32]++a10
 let a12:=a11++[32,79,78,32]
 let a13:=a12++x0.2.1
 let a14:=a13++[32,70,82,79,77,32]
 let a15:=a4++x0.2.2.1
 let a16:=a15++[32,40,32]
 let a17:=gm x0.2.2.2.1
 let a18:=a16++a17
 let a19:=zm x0.t.t.1
 let a20:=sU [32] a19
 let a21:=a18++[32,41]
 let a22:=kf [32] a19
 let a23:=a15++[32,44,32]
 let a24:=a23++x0.t.t.t
 let a25:=a24++[32,79,78,32]
 let a26:=a25++x0.t.2.1
 let a27:=a15++[32,66,89,32]
 let a28:=getD x0.2.2.2.1 (toNat 0) (zi Q6)
 let a29:=a27++a28
 let a30:=a29++[32,83,85,77,32]
 let a31:=getD x0.2.2.2.1 (toNat 1) (zi Q6)
 let a32:=a30++a31
 Qc a0
 (Qc (Q0 ([77,73,71,82,65,84,69,32].length+(Lib.toUpperA x0.1).length<=1099511627776))
  (Qc (Q0 (length a1+[32].length<=1099511627776)) (Qc (Q0 (length a2+length x0.2.1<=1099511627776)) (Qc (Q0 (length a3+[32,70,82,79,77,32].length<=1099511627776)) (Qc (Q0 (length a4+length x0.2.2.1<=1099511627776)) (br (x0.1==[99,114,101,97,116,101]) Tr.err (br (x0.1==[100,114,111,112])
  (Qc (Q0 ([68,82,79,80,32,84,65,66,76,69,32].length+length x0.2.1<=1099511627776)) (re (str ([68,82,79,80,32,84,65,66,76,69,32]++x0.2.1)) [])) (br (x0.1==[105,110,115,101,114,116]) (Qc (Q0 ([73,78,83,69,82,84,32,73,78,84,79,32].length+length x0.2.1<=1099511627776)) (Qc (decide
  (length ([73,78,83,69,82,84,32,73,78,84,79,32]++x0.2.1)+[32,86,65,76,85,69,83,32,40,32].length<=1099511627776)) Tr.err)) (br (x0.1==[117,112,100,97,116,101]) (Qc (Q0 ([85,80,68,65,84,69,32].length+length x0.2.1<=1099511627776))
  (Qc (Q0 (length ([85,80,68,65,84,69,32]++x0.2.1)+[32,83,69,84,32].length<=1099511627776)) Tr.err)) (br (x0.1==[100,101,108,101,116,101]) (Qc (Q0 ([68,69,76,69,84,69,32,70,82,79,77,32].length+length x0.2.1<=1099511627776)) Tr.err) (br (x0.1==[115,101,108,101,99,116])
  (Qc (Q0 ([83,69,76,69,67,84,32,42,32,70,82,79,77,32].length+length x0.2.1<=1099511627776)) Tr.err) (br (x0.1==[114,101,97,100]) (Qc a0 (Qc (Q0 ([71,82,65,78,84,32].length+(Lib.toUpperA x0.1).length<=1099511627776)) (Qc (Q0 (length a5+[32,79,78,32].length<=1099511627776))
  (Qc (Q0 (length a6+length x0.2.1<=1099511627776)) (Qc (Q0 (length a7+[32,84,79,32].length<=1099511627776)) (Qc (Q0 (length a8+length x0.t.t.t<=1099511627776)) (re (str (a8++x0.t.t.t)) []))))))) (br (x0.1==[119,114,105,116,101]) (Qc a0
  (Qc (Q0 ([71,82,65,78,84,32].length+(Lib.toUpperA x0.1).length<=1099511627776)) (Qc (Q0 (length a5+[32,79,78,32].length<=1099511627776)) (Qc (Q0 (length a6+length x0.2.1<=1099511627776)) (Qc (Q0 (length a7+[32,84,79,32].length<=1099511627776))
  (Qc (Q0 (length a8+length x0.t.t.t<=1099511627776)) (re (str (a8++x0.t.t.t)) []))))))) (br (x0.1==[117,110,114,101,97,100]) (Qc (Q0 (0<=2)&&Q0 (2<=(↑(length x0.1):Int))&&Q0 ((↑(length x0.1):Int)<=(↑(length x0.1):Int)))
  (Qc (Q0 (a9.length<=140737488355328)&&a9.all λb=>Q0 (b.toNat<128)) (Qc (Q0 ([82,69,86,79,75,69,32].length+a10.length<=1099511627776)) (Qc (Q0 (length a11+[32,79,78,32].length<=1099511627776)) (Qc (Q0 (length a12+length x0.2.1<=1099511627776))
  (Qc (Q0 (length a13+[32,70,82,79,77,32].length<=1099511627776)) (Qc (Q0 (length a14+length x0.t.t.t<=1099511627776)) (re (str (a14++x0.t.t.t)) [])))))))) (br (x0.1==[117,110,119,114,105,116,101]) (Qc (Q0 (0<=2)&&Q0 (2<=(↑(length x0.1):Int))&&
  Q0 ((↑(length x0.1):Int)<=(↑(length x0.1):Int))) (Qc (Q0 (a9.length<=140737488355328)&&a9.all λb=>Q0 (b.toNat<128)) (Qc (Q0 ([82,69,86,79,75,69,32].length+a10.length<=1099511627776)) (Qc (Q0 (length a11+[32,79,78,32].length<=1099511627776)) (Qc (Q0 (length a12+length x0.2.1<=1099511627776))
  (Qc (Q0 (length a13+[32,70,82,79,77,32].length<=1099511627776)) (Qc (Q0 (length a14+length x0.t.t.t<=1099511627776)) (re (str (a14++x0.t.t.t)) [])))))))) (br (x0.1==[99,111,112,121]) (Qc (Q0 (length a15+[32,40,32].length<=1099511627776)) (Qc (my x0.2.2.2.1)
  (Qc (Q0 (length a16+length a17<=1099511627776)) (Qc (Q0 (length a18+[32,41].length<=1099511627776)) (Qc a20 (Qc (Q0 (length a21+length a22<=1099511627776)) (re (str (a21++a22)) []))))))) (br (x0.1==[106,111,105,110]) (Qc (Q0 (length a15+[32,44,32].length<=1099511627776))
  (Qc (Q0 (length a23+length x0.t.t.t<=1099511627776)) (Qc (Q0 (length a24+[32,79,78,32].length<=1099511627776)) (Qc (Q0 (length a25+length x0.t.2.1<=1099511627776)) (Qc a20 (Qc (Q0 (length a26+length a22<=1099511627776)) (re (str (a26++a22)) [])))))))
  (Qc (Q0 (length a15+[32,66,89,32].length<=1099511627776)) (Qc (zP 0 (length x0.2.2.2.1)) (Qc (Q0 (length a27+length a28<=1099511627776)) (Qc (Q0 (length a29+[32,83,85,77,32].length<=1099511627776)) (Qc (zP 1 (length x0.2.2.2.1)) (Qc (Q0 (length a30+length a31<=1099511627776)) (Qc a20
  (Qc (Q0 (length a32+length a22<=1099511627776)) (re (str (a32++a22)) []))))))))))))))))))))))))))
def GJ(x0:Sem zk):=al [Q6] t0 100000000 (xf x0)
def Ck(x0:Sem zk):=(GJ x0).isSome
def iq(x0:Sem zk):=o1 (GJ x0)
def WX:=FT [zk] [Q6] λx=>GJ x.1
theorem Ue:FK 191 WX:=vD.T1 (f:=Tryz.f191) (keep:=k0) (e:=e0)
def Mc:=XS.addL [(190,WW),(191,WX)]
theorem DP:zw Mc:=vD.addL<|fc Ud<|fc Ue<|jj
end
abbrev zkW:Nat->aM:=λ_=>{ }
theorem zhV:zI (Mc).P 143 Tryz.f143 1:=bQ kw
theorem zki(x0:Sem zk):rn Mc 0 zkW Tryz.f143 [zC zk x0] []=Qc (uv (C2 x0)) (br (!eW (C2 x0)) (Tr.ok (zB.ret (tup [str [],ai 1]) [])) (Qc (Ck (C2 x0)) (Qc (PX (iq (C2 x0))) (br ((cut (iq (C2 x0))).2!=0) (Tr.ok (zB.ret (tup [str [],ai 1]) [])) (Tr.ok (zB.ret (tup [str (iq (C2 x0)),ai 0]) [])))))):=kw
noncomputable def pg(x0:Sem zk):Sem Q6×Sem zg:=(if(!eW x0)=Q3 then([],1)else if((cut (iq x0)).2!=0)=Q3 then([],1)else(iq x0,0))
noncomputable def uz(x0:Sem zk):Bool:=(if uv x0=Q3 then if(!eW x0)=Q3 then Q3 else if Ck x0=Q3 then if PX (iq x0)=Q3 then Q3 else Q4 else Q4 else Q4)
noncomputable def F52:zX:=zO [zk] [Q6,zg] (λx=>uz x.1) λx=>((pg x.1).1,(pg x.1).2,())
theorem zeH:FK 143 F52:=by
 refine aI (zhV) λx hc C hC=>?_
 unfold uz at hc;refine zD DP (zhV) (λid _=>hC id) (zki x.1) ?_;generalize hy:pg x.1=y;unfold pg at hy
 try simp only[Mk]
 repeat' (first|with_reducible refine tL hy hc (λ_ hy hc=>?_) (λ_ hy hc=>?_)|with_reducible refine cZ hy (λ_ hy=>?_) (λ_ hy=>?_)|with_reducible refine ig hc (λhc=>?_)|with_reducible refine zJ ?_)
 all_goals first|(cases hc;done)|(subst hy;first|rfl)
noncomputable def Md:=Mc.add 143 F52
theorem DQ:zw Md:=DP.add zeH
abbrev zkU:Nat->aM:=λ_=>{ }
theorem zhC:zI (Md).P 98 Tryz.f98 1:=bQ kw
theorem zj0(x0:Sem zk):rn Md 0 zkU Tryz.f98 [zC zk x0] []=Qc (uz (C2 x0)) (Tr.ok (zB.ret (AV.bool ((pg (C2 x0)).2==0)) [])):=kw
noncomputable def dW(x0:Sem zk):Sem Q7:=((pg x0).2==0)
noncomputable def nu(x0:Sem zk):Bool:=(if uz x0=Q3 then Q3 else Q4)
noncomputable def F31:zX:=zO [zk] [Q7] (λx=>nu x.1) λx=>(dW x.1,())
theorem zen:FK 98 F31:=by
 refine aI (zhC) λx hc C hC=>?_
 unfold nu at hc;refine zD DQ (zhC) (λid _=>hC id) (zj0 x.1) ?_;generalize hy:dW x.1=y;unfold dW at hy
 try simp only[Mk]
 repeat' (first|with_reducible refine tL hy hc (λ_ hy hc=>?_) (λ_ hy hc=>?_)|with_reducible refine cZ hy (λ_ hy=>?_) (λ_ hy=>?_)|with_reducible refine ig hc (λhc=>?_)|with_reducible refine zJ ?_)
 all_goals first|(cases hc;done)|(subst hy;first|rfl)
noncomputable def nF:=Md.add 98 F31
theorem iM:zw nF:=DQ.add zen
noncomputable def zea:zX:=bh (List.replicate 2 Q2) (fL nF Tryz.f197 (List.replicate 2 Q2))
theorem zaw:FK 197 zea:=cr _ iM (bQ kw)
abbrev zgH:Nat->aM:=λ_=>{ }
theorem YH:zI (nF).P 38 Tryz.f38 1:=bQ kw
theorem zfU(x0:TS):rn nF 0 zgH Tryz.f38 [zC Q6 x0] []=br (Q0 ((↑(length x0):Int)>20)) (Qc (Q0 (0<=0)&&Q0 (0<=20)&&Q0 (20<=(↑(length x0):Int))) (Tr.ok (zB.ret (str (Qg (toNat 20-toNat 0) (Qh (toNat 0) x0))) []))) (Tr.ok (zB.ret (str x0) [])):=kw
def cQ(x0:TS):Sem Q6:=(if Q0 ((↑(length x0):Int)>20)=Q3 then Qg (toNat 20-toNat 0) (Qh (toNat 0) x0)else x0)
def eZ(x0:TS):Bool:=(if Q0 ((↑(length x0):Int)>20)=Q3 then if(Q0 (0<=0)&&Q0 (0<=20)&&Q0 (20<=(↑(length x0):Int)))=Q3 then Q3 else Q4 else Q3)
def zdc:zX:=zO [Q6] [Q6] (λx=>eZ x.1) λx=>(cQ x.1,())
theorem Zs:FK 38 zdc:=by
 refine aI (YH) λx hc C hC=>?_
 unfold eZ at hc;refine zD iM (YH) (λid _=>hC id) (zfU x.1) ?_;generalize hy:cQ x.1=y;unfold cQ at hy
 try simp only[ze.eta]
 repeat' (first|with_reducible refine tL hy hc (λ_ hy hc=>?_) (λ_ hy hc=>?_)|with_reducible refine cZ hy (λ_ hy=>?_) (λ_ hy=>?_)|with_reducible refine ig hc (λhc=>?_)|with_reducible refine zJ ?_)
 all_goals first|(cases hc;done)|(subst hy;first|rfl)
abbrev zbP:Nat->aM:=λ_=>{ }
theorem Sp:zI (nF).P 68 Tryz.f68 3:=bQ kw
theorem zbd(x0:Sem zf.sl)(x1:Sem zg)(x2:Sem zf):rn nF 0 zbP Tryz.f68 [zC zf.sl x0,zC zg x1,zC zf x2] []=Qc (bif Q0 (x1>=0)then bif Q0 (x1<(↑(length x0):Int))then zP x1 (length x0)else Q3 else Q3) (Tr.ok (zB.ret (AV.bool (bif Q0 (x1>=0)then bif Q0 (x1<(↑(length x0):Int))then(getD x0 (toNat x1) (zi zf)).1==x2.1&&((getD x0 (toNat x1) (zi zf)).2.1==x2.2.1&&((getD x0 (toNat x1) (zi zf)).2.2==x2.2.2&&Q3))else Q4 else Q4)) [])):=kw
def dv(x0:Sem zf.sl)(x1:Sem zg)(x2:Sem zf):Sem Q7:=(bif Q0 (x1>=0)then bif Q0 (x1<(↑(length x0):Int))then(getD x0 (toNat x1) (zi zf)).1==x2.1&&((getD x0 (toNat x1) (zi zf)).2.1==x2.2.1&&((getD x0 (toNat x1) (zi zf)).2.2==x2.2.2&&Q3))else Q4 else Q4)
def yE(x0:Sem zf.sl)(x1:Sem zg)(_:Sem zf):Bool:=(if(bif Q0 (x1>=0)then bif Q0 (x1<(↑(length x0):Int))then zP x1 (length x0)else Q3 else Q3)=Q3 then Q3 else Q4)
def Xr:zX:=zO [zf.sl,zg,zf] [Q7] (λx=>yE x.1 x.2.1 x.2.2.1) λx=>(dv x.1 x.2.1 x.2.2.1,())
theorem LM:FK 68 Xr:=by
 refine aI (Sp) λx hc C hC=>?_
 unfold yE at hc;refine zD iM (Sp) (λid _=>hC id) (zbd x.1 x.2.1 x.2.2.1) ?_;generalize hy:dv x.1 x.2.1 x.2.2.1=y;unfold dv at hy
 try simp only[ze.eta]
 repeat' (first|with_reducible refine tL hy hc (λ_ hy hc=>?_) (λ_ hy hc=>?_)|with_reducible refine cZ hy (λ_ hy=>?_) (λ_ hy=>?_)|with_reducible refine ig hc (λhc=>?_)|with_reducible refine zJ ?_)
 all_goals first|(cases hc;done)|(subst hy;first|rfl)
abbrev Yu:Nat->aM:=λj=>if j=2 then{slots:=[0,1,5]}else{ }
abbrev Ce(l0:List (Sem zh))(s1:TS)(i5:Int):St:={tmps:=(tm 21 [(0,sl zh l0),(1,str s1),(5,ai i5)]),heap:=[]}
theorem MC:zI (nF).P 45 Tryz.f45 2:=bQ kw
theorem zfS(x0:Sem zh.sl)(x1:TS):rn nF 0 Yu Tryz.f45 [zC zh.sl x0,zC Q6 x1] []=Tr.ok (zB.head 2 (zZ Tryz.f45 2) (Ce x0 x1 0)):=kw
theorem MH(l0:List (Sem zh))(s1:TS)(i5:Int):rh nF 0 Yu Tryz.f45 2 (Ce l0 s1 i5)=br (Q0 (i5<(↑l0.length:Int))) (Qc (zP i5 l0.length) (br ((l0.getD i5.toNat (zi zh)).1.1==s1) (Tr.ok (zB.ret (ai i5) [])) (Tr.ok (zB.head 2 (zZ Tryz.f45 2) (Ce l0 s1 (IntKind.i64.wrap (i5+1))))))) (Tr.ok (zB.ret (ai (-1)) [])):=kw
def gh(s1:TS):List
 (Sem zh)->Int->Sem zg
 |[],_=>(-1)
 |x::r,i5=>(if(x.1.1==s1)=Q3 then i5 else gh s1 r (i5+1))
theorem UX{C:eP}(hC:∀id,C.ρ0 id=Q2)(s1:TS)(l0:List
 (Sem zh)) (hl:l0.length<=aE):∀(m i:Nat),l0.length-i=m->i<=l0.length->
  Reach (nF) C 45 (zZ Tryz.f45 2) (Ce l0 s1 (i:Int)) (λr h=>aL h [zg] r=Q1 (gh s1 (l0.drop i) i,())):=by
 intro m
 induction m with
 | zero=>
  intro i hm hi;obtain rfl:i=l0.length:=by omega
  rw[jg];refine zD iM (MC) (λid _=>hC id) (MH _ _ _) ?_;generalize hy:gh s1 [] _=y;rw[gh]at hy;simp only[zz,Tr.val_brF];repeat' (first|with_reducible refine cZ hy (λ_ hy=>?_) (λ_ hy=>?_)|with_reducible refine zJ ?_)
  all_goals first|(cases hc;done)|(subst hy;first|rfl)
 | succ m IH=>
  intro i hm hi;have hlt:i<l0.length:=by omega
  have IH:=IH (i+1);have hcast:((i:Int)+1)=((i+1:Nat):Int):=by omega
  have hwr:=zq i ow;rw[fj hlt];refine zD iM (MC) (λid _=>hC id) (MH _ _ _) ?_;generalize hy:gh s1 (l0[i]::l0.drop (i+1)) (i:Int)=y;rw[gh]at hy;simp only[zH hlt,zu hlt,cw l0 _ hlt,hwr,Tr.val_brT,Tr.val_chkT];clear hwr
  try simp only[zu hlt]at hy
  simp only[hcast]at hy;repeat' (first|with_reducible refine cZ hy (λ_ hy=>?_) (λ_ hy=>?_)|with_reducible refine zJ ?_)
  all_goals first|(cases hc;done)|(subst hy;first|(change Reach _ _ _ _ _ _;apply IH<;>first|omega|assumption)|rfl)
theorem PJ{C:eP}(hC:∀id,C.ρ0 id=Q2)(s1:TS)(l0:List
 (Sem zh)):
  Reach (nF) C 45 (zZ Tryz.f45 2) (Ce l0 s1 0) (λr h=>aL h [zg] r=Q1 (gh s1 l0 0,())):=
 Reach.len 0 zh l0 rfl λhl=>UX hC s1 l0 hl _ 0 rfl (ba _)
def kH(x0:Sem zh.sl)(x1:TS):Sem zg:=(gh x1 x0 0)
def zc1:zX:=aC [zh.sl,Q6] [zg] λx=>(kH x.1 x.2.1,())
theorem Zh:FK 45 zc1:=by
 refine zW (MC) λx C hC=>?_
 refine zD iM (MC) (λid _=>hC id) (zfS x.1 x.2.1) ?_;generalize hy:kH x.1 x.2.1=y;unfold kH at hy
 try simp only[ze.eta]
 repeat' (first|with_reducible refine cZ hy (λ_ hy=>?_) (λ_ hy=>?_)|with_reducible refine zJ ?_)
 all_goals first|(cases hc;done)|(subst hy;first|(change Reach _ _ _ _ _ _;apply PJ hC<;>first|assumption|exact hc)|rfl)
noncomputable def qZ:=nF.addL [(197,zea),(38,zdc),(68,Xr),(45,zc1)]
theorem jX:zw qZ:=iM.addL<|fc zaw<|fc Zs<|fc LM<|fc Zh jj
theorem GC(x:Sem (Sh.sl zf))(c:Int)(v:Sem zf):yE x c v=Q3:=by
 unfold yE;by_cases h1:(c:Int)>=0
 ·by_cases h2:c<(length x:Int)
  ·have h3:zP c (length x)=Q3:=by simp[zP];exact⟨h1,h2⟩
   simp[zt h1,zt h2,h3]
  ·simp[zt h1,ah h2]
 ·simp[ah h1]
def Xs:zX:=aC [Sh.sl zf,zg,zf] [Q7] λx=>(dv x.1 x.2.1 x.2.2.1,())
theorem UF:FK 68 Xs:=mG LM λx=>GC x.1 x.2.1 x.2.2.1
abbrev Yv:Nat->aM:=λj=>if j=3 then{slots:=[0,3,4],prom:=[(3,Q2,.str)]}else{ }
abbrev Cf(l0:LS)(i4:Int)(lh_0:LS):St:={tmps:=(tm 24 [(0,sl Q6 l0),(3,AV.vec 0),(4,ai i4)]),heap:=[AO.vec Q6 lh_0]}
theorem MD:zI (qZ).P 39 Tryz.f39 1:=bQ kw
theorem zfV(x0:Sem Sh.str.sl):rn qZ 0 Yv Tryz.f39 [zC Sh.str.sl x0] []=Tr.ok (zB.head 3 (zZ Tryz.f39 3) (Cf x0 0 [])):=kw
theorem MI(l0:LS)(i4:Int)(lh_0:LS):rh qZ 0 Yv Tryz.f39 3 (Cf l0 i4 lh_0)=br (bif Q0 (i4<(↑l0.length:Int))then Q0 (i4<10)else Q4) (Qc (zP i4 l0.length) (Qc (eZ (l0.getD i4.toNat (zi Q6))) (Qc (Q0 (lh_0.length+[cQ (l0.getD i4.toNat (zi Q6))].length<=1073741824)) (Tr.ok (zB.head 3 (zZ Tryz.f39 3) (Cf l0 (IntKind.i64.wrap (i4+1)) (lh_0++[cQ (l0.getD i4.toNat (zi Q6))]))))))) (Tr.ok (zB.ret (AV.vec 0) [AO.vec Q6 lh_0])):=kw
def ei:List (Sem Q6)->Int->List (Sem Q6)->Sem Sh.str.sl
 |[],_,lh_0=>(lh_0)
 |x::r,i4,lh_0=>(if Q0 (i4<10)=Q3 then ei r (i4+1) (lh_0++[cQ x])else lh_0)
def ft:List (Sem Q6)->Int->List (Sem Q6)->Bool
 |[],_,_=>(Q3)
 |x::r,i4,lh_0=>(if Q0 (i4<10)=Q3 then
 if eZ x=Q3 then if Q0 (lh_0.length+[cQ x].length<=1073741824)=Q3 then ft r (i4+1) (lh_0++[cQ x])else Q4 else Q4
else Q3)
theorem UY{C:eP}(hC:∀id,C.ρ0 id=Q2)(l0:LS)(hl:l0.length<=aE):∀(m i:Nat)(lh_0:LS),l0.length-i=m->i<=l0.length->ft (l0.drop i) i lh_0=Q3->
  Reach (qZ) C 39 (zZ Tryz.f39 3) (Cf l0 (i:Int) lh_0) (λr h=>aL h [Sh.str.sl] r=Q1 (ei (l0.drop i) i lh_0,())):=by
 intro m
 induction m with
 | zero=>
  intro i lh_0 hm hi hc;obtain rfl:i=l0.length:=by omega
  rw[jg]at hc⊢;refine zD jX (MD) (λid _=>hC id) (MI _ _ _) ?_;rw[ft]at hc;generalize hy:ei [] _ lh_0=y;rw[ei]at hy;simp only[zz,ay,Tr.val_brF];repeat' (first|with_reducible refine tL hy hc (λ_ hy hc=>?_) (λ_ hy hc=>?_)|with_reducible refine cZ hy (λ_ hy=>?_) (λ_ hy=>?_)|with_reducible refine ig hc (λhc=>?_)|with_reducible refine zJ ?_)
  all_goals first|(cases hc;done)|(subst hy;first|rfl)
 | succ m IH=>
  intro i lh_0 hm hi hc;have hlt:i<l0.length:=by omega
  have IH:=IH (i+1);have hcast:((i:Int)+1)=((i+1:Nat):Int):=by omega
  have hwr:=zq i ow;rw[fj hlt]at hc⊢;refine zD jX (MD) (λid _=>hC id) (MI _ _ _) ?_;rw[ft]at hc;generalize hy:ei (l0[i]::l0.drop (i+1)) (i:Int) lh_0=y;rw[ei]at hy;simp only[zH hlt,zu hlt,cw l0 _ hlt,hwr,ag];clear hwr
  try simp only[zu hlt]at hy
  simp only[hcast]at hy
  try simp only[zu hlt]at hc
  try simp only[hcast]at hc
  repeat' (first|with_reducible refine tL hy hc (λ_ hy hc=>?_) (λ_ hy hc=>?_)|with_reducible refine cZ hy (λ_ hy=>?_) (λ_ hy=>?_)|with_reducible refine ig hc (λhc=>?_)|with_reducible refine zJ ?_)
  all_goals first|(cases hc;done)|(subst hy;first|(change Reach _ _ _ _ _ _;apply IH<;>first|omega|assumption)|rfl)
theorem PK{C:eP}(hC:∀id,C.ρ0 id=Q2)(l0:LS)(lh_0:LS)(hc:ft l0 0 lh_0=Q3):
  Reach (qZ) C 39 (zZ Tryz.f39 3) (Cf l0 0 lh_0) (λr h=>aL h [Sh.str.sl] r=Q1 (ei l0 0 lh_0,())):=
 Reach.len 0 (Q6) l0 rfl λhl=>UY hC l0 hl _ 0 lh_0 rfl (ba _) hc
def jK(x0:Sem Sh.str.sl):Sem Sh.str.sl:=(ei x0 0 [])
def oS(x0:Sem Sh.str.sl):Bool:=(ft x0 0 [])
def zde:zX:=zO [Sh.str.sl] [Sh.str.sl] (λx=>oS x.1) λx=>(jK x.1,())
theorem Zu:FK 39 zde:=by
 refine aI (MD) λx hc C hC=>?_
 unfold oS at hc;refine zD jX (MD) (λid _=>hC id) (zfV x.1) ?_;generalize hy:jK x.1=y;unfold jK at hy
 try simp only[ze.eta]
 repeat' (first|with_reducible refine tL hy hc (λ_ hy hc=>?_) (λ_ hy hc=>?_)|with_reducible refine cZ hy (λ_ hy=>?_) (λ_ hy=>?_)|with_reducible refine ig hc (λhc=>?_)|with_reducible refine zJ ?_)
 all_goals first|(cases hc;done)|(subst hy;first|(change Reach _ _ _ _ _ _;apply PK hC<;>first|assumption|exact hc)|rfl)
abbrev yH(s:zA)(l:List (Sem zh))(i:Int):St:={tmps:=[.sl zh l,.clo (.func 197) [] [.ptr 0 0],.any,.any,.any,.any,.any,.int .i64 l.length,.int .i64 i,.any,.any,.any,.any,.any,.any,.any,.any,.any,.any],heap:=[.box [.str s]]}
theorem QU(s:zA)(l:List (Sem zh)):run qZ 1 C8 Tryz.f196.results.toList 300 (bq Tryz.f196) (bc Tryz.f196.ntmps [.sl zh l,.clo (.func 197) [] [.ptr 0 0]] [.box [.str s]])=.ok (.head 2 (zZ Tryz.f196 2) (yH s l 0)):=kw
theorem SC(s:zA)(l:List (Sem zh))(i:Int):run qZ 1 C8 Tryz.f196.results.toList 300 (zZ Tryz.f196 2) (yH s l i)=oR (K:=zZ Tryz.f196 2) (e:=zh) l (λx=>x.1.1==s) (yH s l) [.box [.str s]] i:=kw
theorem Sw:zI qZ.P 196 Tryz.f196 2:=bQ kw
def zfp:iv [Q1 (.sl zh),Q2]:=λx h=>match x,h with
 |(l,.clo (.func 197) [] [.ptr 0 0],_),[.box [.str s]]=>.ok (.int .i64 (ae (λx=>x.1.1==s) l 0),[.box [.str s]])
 |_,_=>.err
def zd9:zX:=bh [Q1 (.sl zh),Q2] zfp
theorem zau:FK 196 zd9:=by
 refine dI Sw λx h0 res hx C hC=>?_
 unfold zfp at hx;split at hx
 ·rename_i l u s;simp only[Tr.val_ok,bw]at hx;subst hx;refine Reach.len 0 zh l rfl λhl=>?_
  refine zD (n0:=1) jX Sw hC (QU s l) ?_;exact mr l (λx=>x.1.1==s) (yH s l) jX Sw hC (SC s l) hl _ 0 rfl (ba _)
 ·simp at hx
noncomputable def HY:=qZ.addL [(68,Xs),(39,zde),(196,zd9)]
theorem vE:zw HY:=jX.addL<|fc UF<|fc Zu<|fc zau jj
noncomputable def Xq:zX:=bh (List.replicate 3 Q2) (fL HY Tryz.f246 (List.replicate 3 Q2))
theorem UE:FK 246 Xq:=cr _ vE (bQ kw)
abbrev zgX:Nat->aM:=λ_=>{ }
theorem YK:zI (HY).P 147 Tryz.f147 2:=bQ kw
theorem zf5(x0:Sem zh.sl)(x1:TS):rn HY 0 zgX Tryz.f147 [zC zh.sl x0,zC Q6 x1] []=Tr.ok (zB.ret (ai (ae (λx=>x.1.1==x1) x0 0)) []):=kw
def zS(x0:Sem zh.sl)(x1:TS):Sem zg:=(ae (λx=>x.1.1==x1) x0 0)
def zdG:zX:=aC [zh.sl,Q6] [zg] λx=>(zS x.1 x.2.1,())
theorem ZY:FK 147 zdG:=by
 refine zW (YK) λx C hC=>?_
 refine zD vE (YK) (λid _=>hC id) (zf5 x.1 x.2.1) ?_;generalize hy:zS x.1 x.2.1=y;unfold zS at hy
 try simp only[ze.eta]
 repeat' (first|with_reducible refine cZ hy (λ_ hy=>?_) (λ_ hy=>?_)|with_reducible refine zJ ?_)
 all_goals first|(cases hc;done)|(subst hy;first|rfl)
noncomputable def HZ:=HY.addL [(246,Xq),(147,zdG)]
theorem vF:zw HZ:=vE.addL<|fc UE<|fc ZY jj
abbrev qB(c a b:Int)(s:zA)(l:List (Sem (Sh.sl zf)))(i:Int):St:={tmps:=[.sl (Sh.sl zf) l,.clo (.func 246) [] [.ptr 0 0,.ptr 1 0],.any,.any,.any,.any,.any,.int .i64 l.length,.int .i64 i,.any,.any,.any,.any,.any,.any,.any,.any,.any,.any],heap:=[.box [.int .i64 c],.box [.int .i64 a,.int .i64 b,.str s]]}
theorem Kv(c a b:Int)(s:zA)(l:List (Sem (Sh.sl zf))):run HZ 2 C8 Tryz.f66.results.toList 300 (bq Tryz.f66) (bc Tryz.f66.ntmps [.sl (Sh.sl zf) l,.clo (.func 246) [] [.ptr 0 0,.ptr 1 0]] [.box [.int .i64 c],.box [.int .i64 a,.int .i64 b,.str s]])=.ok (.head 2 (zZ Tryz.f66 2) (qB c a b s l 0)):=kw
theorem KR(c a b:Int)(s:zA)(l:List (Sem (Sh.sl zf)))(i:Int):run HZ 2 C8 Tryz.f66.results.toList 300 (zZ Tryz.f66 2) (qB c a b s l i)=oR (K:=zZ Tryz.f66 2) (e:=(Sh.sl zf)) l (λx=>dv x c (a,b,s)) (qB c a b s l) [.box [.int .i64 c],.box [.int .i64 a,.int .i64 b,.str s]] i:=kw
theorem KP:zI HZ.P 66 Tryz.f66 2:=bQ kw
def XE:iv [Q1 (.sl (Sh.sl zf)),Q2]:=λx h=>match x,h with
 |(l,.clo (.func 246) [] [.ptr 0 0,.ptr 1 0],_),[.box [.int .i64 c],.box [.int .i64 a,.int .i64 b,.str s]]=>.ok (.int .i64 (ae (λx=>dv x c (a,b,s)) l 0),[.box [.int .i64 c],.box [.int .i64 a,.int .i64 b,.str s]])
 |_,_=>.err
def Xx:zX:=bh [Q1 (.sl (Sh.sl zf)),Q2] XE
theorem UJ:FK 66 Xx:=by
 refine dI KP λx h0 res hx C hC=>?_
 unfold XE at hx;split at hx
 ·rename_i l u c a b s;simp only[Tr.val_ok,bw]at hx;subst hx;refine Reach.len 0 (Sh.sl zf) l rfl λhl=>?_
  refine zD (n0:=2) vF KP hC (Kv c a b s l) ?_;exact mr l (λx=>dv x c (a,b,s)) (qB c a b s l) vF KP hC (KR c a b s l) hl _ 0 rfl (ba _)
 ·simp at hx
noncomputable def QC:=HZ.add 66 Xx
theorem DR:zw QC:=vF.add UJ
noncomputable def Xp:zX:=bh (List.replicate 2 Q2) (fL QC Tryz.f245 (List.replicate 2 Q2))
theorem UD:FK 245 Xp:=cr _ DR (bQ kw)
noncomputable def Me:=QC.add 245 Xp
theorem vG:zw Me:=DR.add UD
noncomputable section
abbrev zbH:Nat->aM:=λ_=>{ }
theorem Sm:zI (Me).P 195 Tryz.f195 3:=bQ kw
theorem za8(x0:Sem zh)(x1:Sem zg)(x2:Sem zf):rn Me 0 zbH Tryz.f195 [zC zh x0,zC zg x1,zC zf x2] []=Tr.ok (zB.ret (AV.bool (Q0 (ae (λx=>dv x x1 x2) x0.2 0>=0))) []):=kw
def gG(x0:Sem zh)(x1:Sem zg)(x2:Sem zf):Sem Q7:=(Q0 (ae (λx=>dv x x1 x2) x0.2 0>=0))
def WZ:zX:=aC [zh,zg,zf] [Q7] λx=>(gG x.1 x.2.1 x.2.2.1,())
theorem Ug:FK 195 WZ:=by
 refine zW (Sm) λx C hC=>?_
 refine zD vG (Sm) (λid _=>hC id) (za8 x.1 x.2.1 x.2.2.1) ?_;generalize hy:gG x.1 x.2.1 x.2.2.1=y;unfold gG at hy
 try simp only[ze.eta]
 repeat' (first|with_reducible refine cZ hy (λ_ hy=>?_) (λ_ hy=>?_)|with_reducible refine zJ ?_)
 all_goals first|(cases hc;done)|(subst hy;first|rfl)
abbrev zbG:=mV [(3,[1,5,11,12,13])]
inductive Dk where
 |h3 (i1:Sem zg) (l11:List (Sem zf.sl)) (i12:Int) (i13:Int) (mh_0:List ((Int×Int×zA)×Int))
abbrev zfB:Dk->Nat×St
 |.h3 i1 l11 i12 i13 mh_0=>(3,⟨tm 37 [(1,ai i1),(5,AV.mp 0),(11,sl zf.sl l11),(12,ai i12),(13,ai i13)],[AO.vmap Q4 mh_0]⟩)
def Ye(x0:Sem zh)(x1:Sem zg):Tr (Dk⊕aw):=Q9 (Dk.h3 x1 x0.2 (↑(length x0.2):Int) 0 [])
def xz:Dk->Tr (Dk⊕aw)
 | .h3 i1 l11 i12 i13 mh_0=>
  let a0:=l11.getD i13.toNat (zi zf.sl)
  let a1:=getD a0 (toNat i1) (zi zf)
  let a2:=(↑(kR mh_0 a1):Int)
  let a3:=jt mh_0 a1
  let a4:=jC a3 a2.toNat (IntKind.i64.wrap (fV mh_0 a1+1))
  let a5:=fV a4 a1
  br (Q0 (i13<i12))
  (Qc (zP i13 l11.length)
   (Qc (zP i1 (length a0)) (Qc (Q0 (mh_0.length<=1073741824)) (Qc (zP a2 a3.length) (br (bif a1.1!=0 then Q0 (a5>1)else Q4) (re (kb Q3) []) (Q9 (Dk.h3 i1 l11 i12 (IntKind.i64.wrap (i13+1)) a4)))))))
  (re (kb Q4) [])
def yF(x0:Sem zh)(x1:Sem zg):=al [Q7] xz 100000000 (Ye x0 x1)
def qw(x0:Sem zh)(x1:Sem zg):=(yF x0 x1).isSome
def wq(x0:Sem zh)(x1:Sem zg):=o1 (yF x0 x1)
def WY:=FT [zh,zg] [Q7] λx=>yF x.1 x.2.1
theorem Uf:FK 194 WY:=vG.T1 (f:=Tryz.f194) (keep:=zbG) (e:=zfB)
def XT:=Me.addL [(195,WZ),(194,WY)]
theorem vH:zw XT:=vG.addL<|fc Ug<|fc Uf jj
end
noncomputable section
abbrev zg8:=mV [(6,[1,18,19,20]),(15,[1,39,40,41]),(21,[1,8])]
inductive CZ where
 |h6 (l18:List (Sem zf.sl)) (i19:Int) (i20:Int) (z0:zn [CP.d zh])
 |h15 (l39:LI) (i40:Int) (i41:Int) (z0:zn [CP.d zh])
 |h21 (i8:Int) (z0:zn [CP.d zh])
abbrev zjB:CZ->Nat×St
 |.h6 l18 i19 i20 z0=>(6,⟨tm 79 [(1,ptr 0 0),(18,sl zf.sl l18),(19,ai i19),(20,ai i20)],[Qa (bx [] [CP.d zh] z0)]⟩)
 |.h15 l39 i40 i41 z0=>(15,⟨tm 79 [(1,ptr 0 0),(39,sl zg l39),(40,ai i40),(41,ai i41)],[Qa (bx [] [CP.d zh] z0)]⟩)
 |.h21 i8 z0=>(21,⟨tm 79 [(1,ptr 0 0),(8,ai i8)],[Qa (bx [] [CP.d zh] z0)]⟩)
def Oi(x0:Sem zh):Tr (CZ⊕aw):=br (!eG (x0.1.1,x0.1.2.1,x0.1.2.2.1,x0.1.2.2.2.1,x0.1.t.1,zm x0.1.t.2)) (re (ai 1) []) (br (Q0 ((↑(length x0.2):Int)>200)) (re (ai 13) []) (Q9 (CZ.h6 x0.2 (↑(length x0.2):Int) 0 (x0,()))))
def gW:CZ->Tr (CZ⊕aw)
 | .h6 l18 i19 i20 z0=>
  let a0:=(z0.1.1.1,z0.1.1.2.1,z0.1.1.2.2.1,z0.1.1.2.2.2.1,z0.1.1.t.1,zm z0.1.1.t.2)
  let a1:=dX a0 (l18.getD i20.toNat (zi zf.sl))
  let a2:=(a0,z0.1.2)
  br (Q0 (i20<i19))
  (Qc (zP i20 l18.length) (br (a1 !=0) (re (ai a1) []) (Q9 (CZ.h6 l18 i19 (IntKind.i64.wrap (i20+1)) z0))))
  (Qc (qw a2 z0.1.1.2.2.1)
   (br (wq a2 z0.1.1.2.2.1) (re (ai 7) []) (Q9 (CZ.h15 z0.1.1.2.2.2.1 (↑(length z0.1.1.2.2.2.1):Int) 0 z0))))
 | .h15 l39 i40 i41 z0=>
  let a0:=((z0.1.1.1,z0.1.1.2.1,z0.1.1.2.2.1,z0.1.1.2.2.2.1,z0.1.1.t.1,zm z0.1.1.t.2),z0.1.2)
  let a1:=l39.getD i41.toNat (zi zg)
  br (Q0 (i41<i40))
  (Qc (zP i41 l39.length)
   (Qc (qw a0 a1) (br (wq a0 a1) (re (ai 7) []) (Q9 (CZ.h15 l39 i40 (IntKind.i64.wrap (i41+1)) z0)))))
  (Q9 (CZ.h21 1 z0))
 | .h21 i8 z0=>
  let a0:=(↑(length z0.1.2):Int)
  let a1:=IntKind.i64.wrap (i8-1)
  let a2:=getD z0.1.2 a1.toNat (zi zf.sl)
  let a3:=getD z0.1.2 i8.toNat (zi zf.sl)
  let a4:=cJ (getD a2 (toNat z0.1.1.2.2.1) (zi zf)) (getD a3 (toNat z0.1.1.2.2.1) (zi zf))
  br (Q0 (i8<a0))
  (Qc (zP a1 (length z0.1.2))
   (Qc (zP z0.1.1.2.2.1 (length a2)) (Qc (zP i8 (length z0.1.2)) (Qc (zP z0.1.1.2.2.1 (length a3)) (br (Q0 (a4>=0)) (re (ai 15) []) (Q9 (CZ.h21 (IntKind.i64.wrap (i8+1)) z0)))))))
  (re (ai 0) [])
def nl(x0:Sem zh):=al [zg] gW 100000000 (Oi x0)
def GB(x0:Sem zh):=(nl x0).isSome
def Lh(x0:Sem zh):=o1 (nl x0)
def zdU:=FT [zh] [zg] λx=>nl x.1
theorem zaf:FK 144 zdU:=vH.T1 (f:=Tryz.f144) (keep:=zg8) (e:=zjB)
abbrev zg9:=mV [(2,[0,11,12,13]),(5,[0,4,11,12,13,19,20,21]),(11,[0,4,6,7,11,12,13,19,20,21,32,33,34])]
inductive C0 where
 |h2 (l0:List (Sem zh)) (l11:List (Sem zh)) (i12:Int) (i13:Int)
 |h5 (l0:List (Sem zh)) (l11:List (Sem zh)) (i12:Int) (i13:Int) (l19:LF) (i20:Int) (i21:Int) (z0:zn [CP.d zh])
 |h11 (l0:List (Sem zh)) (i7:Sem zg) (l11:List (Sem zh)) (i12:Int) (i13:Int) (l19:LF) (i20:Int) (i21:Int) (l32:List (Sem zf.sl)) (i33:Int) (i34:Int) (z0:zn [CP.d zh]) (z1:zn [CP.d zr])
abbrev zjC:C0->Nat×St
 |.h2 l0 l11 i12 i13=>(2,⟨tm 64 [(0,sl zh l0),(11,sl zh l11),(12,ai i12),(13,ai i13)],[]⟩)
 |.h5 l0 l11 i12 i13 l19 i20 i21 z0=>(5,⟨tm 64 [(0,sl zh l0),(4,ptr 0 0),(11,sl zh l11),(12,ai i12),(13,ai i13),(19,sl zr l19),(20,ai i20),(21,ai i21)],[Qa (bx [] [CP.d zh] z0)]⟩)
 |.h11 l0 i7 l11 i12 i13 l19 i20 i21 l32 i33 i34 z0 z1=>(11,⟨tm 64 [(0,sl zh l0),(4,ptr 0 0),(6,ptr 1 0),(7,ai i7),(11,sl zh l11),(12,ai i12),(13,ai i13),(19,sl zr l19),(20,ai i20),(21,ai i21),(32,sl zf.sl l32),(33,ai i33),(34,ai i34)],[Qa (bx [] [CP.d zh] z0),Qa (bx [] [CP.d zr] z1)]⟩)
def zgu(x0:Sem zh.sl):Tr (C0⊕aw):=Q9 (C0.h2 x0 x0 (↑(length x0):Int) 0)
def gn:C0->Tr (C0⊕aw)
 | .h2 l0 l11 i12 i13=>
  let a0:=l11.getD i13.toNat (zi zh)
  br (Q0 (i13<i12))
  (Qc (zP i13 l11.length) (Q9 (C0.h5 l0 l11 i12 i13 a0.1.t.1 (↑(length a0.1.t.1):Int) 0 (a0,()))))
  (re (kb Q3) [])
 | .h5 l0 l11 i12 i13 l19 i20 i21 z0=>
  let a0:=l19.getD i21.toNat (zi zr)
  let a1:=zS l0 a0.2
  br (Q0 (i21<i20))
  (Qc (zP i21 l19.length)
   (br (Q0 (a1<0)) (re (kb Q4) []) (Q9 (C0.h11 l0 a1 l11 i12 i13 l19 i20 i21 z0.1.2 (↑(length z0.1.2):Int) 0 z0 (a0,())))))
  (Q9 (C0.h2 l0 l11 i12 (IntKind.i64.wrap (i13+1))))
 | .h11 l0 i7 l11 i12 i13 l19 i20 i21 l32 i33 i34 z0 z1=>
  let a0:=l32.getD i34.toNat (zi zf.sl)
  let a1:=getD a0 (toNat z1.1.1) (zi zf)
  let a2:=a1.1!=0
  let a3:=l0.getD (toNat i7) (zi zh)
  br (Q0 (i34<i33))
  (Qc (zP i34 l32.length)
   (Qc (zP z1.1.1 (length a0)) (Qc (bif a2 then zP i7 l0.length&&zP i7 l0.length else Q3) (br (bif a2 then !gG ((a3.1.1,a3.1.2.1,a3.1.2.2.1,a3.1.2.2.2.1,a3.1.t.1,zm a3.1.t.2),a3.2) a3.1.2.2.1 a1 else Q4) (re (kb Q4) []) (Q9 (C0.h11 l0 i7 l11 i12 i13 l19 i20 i21 l32 i33 (IntKind.i64.wrap (i34+1)) z0 z1))))))
  (Q9 (C0.h5 l0 l11 i12 i13 l19 i20 (IntKind.i64.wrap (i21+1)) z0))
def xR(x0:Sem zh.sl):=al [Q7] gn 100000000 (zgu x0)
def Fe(x0:Sem zh.sl):=(xR x0).isSome
def J2(x0:Sem zh.sl):=o1 (xR x0)
def zdV:=FT [zh.sl] [Q7] λx=>xR x.1
theorem zag:FK 145 zdV:=vH.T1 (f:=Tryz.f145) (keep:=zg9) (e:=zjC)
def XU:=XT.addL [(144,zdU),(145,zdV)]
theorem DS:zw XU:=vH.addL<|fc zaf<|fc zag jj
end
noncomputable section
abbrev zgN:=mV [(4,[0,3]),(9,[0,30,31,32])]
inductive Hl where
 |h4 (l0:List (Sem zh)) (i3:Int)
 |h9 (l0:List (Sem zh)) (l30:List (Sem zh)) (i31:Int) (i32:Int)
abbrev zjo:Hl->Nat×St
 |.h4 l0 i3=>(4,⟨tm 45 [(0,sl zh l0),(3,ai i3)],[]⟩)
 |.h9 l0 l30 i31 i32=>(9,⟨tm 45 [(0,sl zh l0),(30,sl zh l30),(31,ai i31),(32,ai i32)],[]⟩)
def Vy(x0:Sem zh.sl):Tr (Hl⊕aw):=br (Q0 ((↑(length x0):Int)>12)) (re (ai 13) []) (Q9 (Hl.h4 x0 1))
def nv:Hl->Tr (Hl⊕aw)
 | .h4 l0 i3=>
  let a0:=IntKind.i64.wrap (i3-1)
  let a1:=l0.getD a0.toNat (zi zh)
  let a2:=l0.getD i3.toNat (zi zh)
  br (Q0 (i3<(↑l0.length:Int)))
  (Qc (zP a0 l0.length)
   (Qc (zP i3 l0.length) (br (!Op.bytesLess a1.1.1 a2.1.1) (re (ai 15) []) (Q9 (Hl.h4 l0 (IntKind.i64.wrap (i3+1)))))))
  (Q9 (Hl.h9 l0 l0 (↑l0.length:Int) 0))
 | .h9 l0 l30 i31 i32=>
  let a0:=l30.getD i32.toNat (zi zh)
  let a1:=((a0.1.1,a0.1.2.1,a0.1.2.2.1,a0.1.2.2.2.1,a0.1.t.1,zm a0.1.t.2),a0.2)
  let a2:=Lh a1
  br (Q0 (i32<i31))
  (Qc (zP i32 l30.length)
   (Qc (GB a1) (br (a2 !=0) (re (ai a2) []) (Q9 (Hl.h9 l0 l30 i31 (IntKind.i64.wrap (i32+1)))))))
  (Qc (Fe l0) (br (!J2 l0) (re (ai 10) []) (re (ai 0) [])))
def sQ(x0:Sem zh.sl):=al [zg] nv 100000000 (Vy x0)
def mJ(x0:Sem zh.sl):=(sQ x0).isSome
def ke(x0:Sem zh.sl):=o1 (sQ x0)
def zds:=FT [zh.sl] [zg] λx=>sQ x.1
theorem ZK:FK 99 zds:=DS.T1 (f:=Tryz.f99) (keep:=zgN) (e:=zjo)
def gM:=XU.add 99 zds
theorem dJ:zw gM:=DS.add ZK
end
end Cad
