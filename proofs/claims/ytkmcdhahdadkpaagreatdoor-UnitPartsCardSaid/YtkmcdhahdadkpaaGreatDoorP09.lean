/- Expressions: their types. Expressions: bounded ones; the same ones. Expressions: which may be. Expressions: their values. Expressions: may, bounded. -/
import Derived.Test.YtkmcdhahdadkpaaGreatDoorP08
namespace Cad
open Go Go.Proofs
open List renaming drop→Qh,take→Qg
open Tr renaming chk→Qc,«to»→Q9,val→Q8
open AO renaming box→Qa
open Sh renaming bool→Q7,expr→Q5
open Bool renaming false→Q4,true→Q3
open Option renaming none→Q2,some→Q1
open Decidable renaming decide→Q0
open Int (toNat)
open List (getD length)
open Tr (chk br re)
open AV (nils agg tup ptr kb str sl)
theorem fj{P:Program}{gl:Nat->AV}{k:FuncId}{ks outs:List Sh}{c:zy (ks.map Q1)->Bool}{g:zy (ks.map Q1)->zy (outs.map Q1)}(hf:∃fn,P.funcs[k]?=Q1 fn/\(fn.name=="runtime.NumGoroutine")=Q4/\fn.body.isNone=Q4)(hc:∀x,c x=Q4):nV P gl k (zP ks outs c g):=by
 refine⟨hf,?_⟩;intro w U ρ hp n args vals f fp hv;exfalso;unfold zP bm at hv;split at hv
 ·simp only at hv;split at hv
  ·split at hv
   ·simp only[Tr.val_bind,fL]at hv;obtain⟨res,h1,h2⟩:=hv;unfold ff at h1;split at h1
    ·simp only[Q8,hc]at h1;simp at h1
    ·simp at h1
   ·simp at hv
  ·simp at hv
 ·simp at hv
theorem lW{Φ:zC->Prop}{c:Bool}{t f:Tr zC}(h1:c=Q3->fY Φ t.val)(h2:c=Q4->fY Φ f.val):fY Φ (br c t f).val:=by
 cases c
 ·simpa[Q8]using h2 rfl
 ·simpa[Q8]using h1 rfl
theorem jU{Φ:zC->Prop}{c:Bool}{t:Tr zC}(hc:c=Q3)(h:fY Φ t.val):fY Φ (Qc c t).val:=by
 subst hc;simpa[Q8]using h
theorem zJ{Φ:zC->Prop}{t:Tr zC}(h:fY Φ t.val):fY Φ (Qc Q3 t).val:=h
theorem ml{c:Bool}(h:c=Q4):¬c=Q3:=by rw[h];simp
theorem pR{c g:Bool}(h:(if c=Q3 then g else Q4)=Q3):c=Q3/\g=Q3:=by
 split at h
 ·exact⟨‹_›,h⟩
 ·cases h
theorem tM{Φ:zC->Prop}{c:Bool}{t f:Tr zC}{α:Sort _}{a b y:α}{p q:Bool}(hy:(if c=Q3 then a else b)=y)(hc:(if c=Q3 then p else q)=Q3)(h1:c=Q3->a=y->p=Q3->fY Φ t.val)(h2:c=Q4->b=y->q=Q3->fY Φ f.val):fY Φ (Tr.br c t f).val:=
 lW (λh=>h1 h (by rwa [if_pos h]at hy) (by rwa [if_pos h]at hc)) (λh=>h2 h (by rwa [if_neg (ml h)]at hy) (by rwa [if_neg (ml h)]at hc))
theorem dc{Φ:zC->Prop}{c:Bool}{t f:Tr zC}{α:Sort _}{a b y:α}(hy:(if c=Q3 then a else b)=y)(h1:c=Q3->a=y->fY Φ t.val)(h2:c=Q4->b=y->fY Φ f.val):fY Φ (Tr.br c t f).val:=
 lW (λh=>h1 h (by rwa [if_pos h]at hy)) (λh=>h2 h (by rwa [if_neg (ml h)]at hy))
theorem ii{Φ:zC->Prop}{c g:Bool}{t:Tr zC}(hc:(if c=Q3 then g else Q4)=Q3)(h:g=Q3->fY Φ t.val):fY Φ (Tr.chk c t).val:=
 jU (pR hc).1 (h (pR hc).2)
theorem Tr.val_brT{α:Type}(t f:Tr α):(br Q3 t f).val=t.val:=rfl
theorem Tr.val_brF{α:Type}(t f:Tr α):(br Q4 t f).val=f.val:=rfl
theorem Tr.val_chkT{α:Type}(t:Tr α):(Qc Q3 t).val=t.val:=rfl
instance:Inhabited ze:=⟨.mk [] (0,0,[]) [] []⟩
instance (s:Sh):Inhabited (Sem s):=⟨zi s⟩
noncomputable def N6(g:Sem Q5->Sem (Sh.sl zj)->Sem zg×Sem zg)(c:Sem Q5->Sem (Sh.sl zj)->Bool):bX:=QF.add 201 (zP [Q5,Sh.sl zj] [zg,zg] (λx=>c x.1 x.2.1) λx=>((g x.1 x.2.1).1,(g x.1 x.2.1).2,()))
theorem AD{g:Sem Q5->Sem (Sh.sl zj)->Sem zg×Sem zg}{c:Sem Q5->Sem (Sh.sl zj)->Bool}(hg:FK 201 (zP [Q5,Sh.sl zj] [zg,zg] (λx=>c x.1 x.2.1) λx=>((g x.1 x.2.1).1,(g x.1 x.2.1).2,()))):zw (N6 g c):=DN.add hg
abbrev YL:Nat->aM:=λj=>if j=3 then{slots:=[1,2,6,15,16,17],prom:=[(6,Q2,zg)]}else{ }
abbrev Ch(l1:LC)(l15:LX)(i16:Int)(i17:Int)(ja0:zB)(ja1:Int)(ja2:Int)(ja3:zB)(ja4:zB)(ja5:LX)(lh_1:LI):St:={tmps:=(tm 91 [(1,sl zj l1),(2,ptr 0 0),(6,AV.vec 1),(15,sl Q5 l15),(16,ai i16),(17,ai i17)]),heap:=[Qa [str ja0,ai ja1,ai ja2,str ja3,str ja4,sl Q5 ja5],AO.vec zg lh_1]}
theorem Bq(g:Sem Q5->Sem (Sh.sl zj)->Sem zg×Sem zg)(c:Sem Q5->Sem (Sh.sl zj)->Bool):zI (N6 g c).P 201 Tryz.f201 2:=bU kw
theorem zgl(g:Sem Q5->Sem (Sh.sl zj)->Sem zg×Sem zg)(c:Sem Q5->Sem (Sh.sl zj)->Bool)(x0:Sem Q5)(x1:Sem zj.sl):rn (N6 g c) 0 YL Tryz.f201 [zE Q5 x0,zE zj.sl x1] []=Tr.ok (zC.head 3 (ac Tryz.f201 3) (Ch x1 (ze.l x0) (↑(ze.l x0).length:Int) 0 (ze.op x0) (ze.v x0).1 (ze.v x0).2.1 (ze.v x0).2.2 (ze.s x0) (ze.l x0) [])):=kw
theorem MP(g:Sem Q5->Sem (Sh.sl zj)->Sem zg×Sem zg)(c:Sem Q5->Sem (Sh.sl zj)->Bool)(l1:LC)(l15:LX)(i16:Int)(i17:Int)(ja0:zB)(ja1:Int)(ja2:Int)(ja3:zB)(ja4:zB)(ja5:LX)(lh_1:LI):rh (N6 g c) 0 YL Tryz.f201 3 (Ch l1 l15 i16 i17 ja0 ja1 ja2 ja3 ja4 ja5 lh_1)=br (Q0 (i17<i16)) (Qc (zM i17 l15.length) (Qc (c (zm (l15.getD i17.toNat (zi Q5))) l1) (br ((g (zm (l15.getD i17.toNat (zi Q5))) l1).2!=0) (Tr.ok (zC.ret (tup [ai 0,AV.int IntKind.i64 (g (zm (l15.getD i17.toNat (zi Q5))) l1).2]) [])) (Qc (Q0 (lh_1.length+[(g (zm (l15.getD i17.toNat (zi Q5))) l1).1].length<=1073741824)) (Tr.ok (zC.head 3 (ac Tryz.f201 3) (Ch l1 l15 i16 (IntKind.i64.wrap (i17+1)) ja0 ja1 ja2 ja3 ja4 ja5 (lh_1++[(g (zm (l15.getD i17.toNat (zi Q5))) l1).1])))))))) (br (ja0==[108,105,116]) (Tr.ok (zC.ret (tup [ai ja1,ai 0]) [])) (br (ja0==[99,111,108]) (br (Q0 (zZ l1 ja4<0)) (Tr.ok (zC.ret (tup [ai 0,ai 4]) [])) (Qc (zM (zZ l1 ja4) l1.length) (Tr.ok (zC.ret (tup [ai (l1.getD (toNat (zZ l1 ja4)) (zi zj)).2.1,ai 0]) [])))) (br (ja0==[110,111,116]) (br (!lM lh_1 3) (Tr.ok (zC.ret (tup [ai 0,ai 5]) [])) (Tr.ok (zC.ret (tup [ai 3,ai 0]) []))) (br (ja0==[97,110,100])
 (br (!lM lh_1 3) (Tr.ok (zC.ret (tup [ai 0,ai 5]) [])) (Tr.ok (zC.ret (tup [ai 3,ai 0]) []))) (br (ja0==[111,114]) (br (!lM lh_1 3) (Tr.ok (zC.ret (tup [ai 0,ai 5]) [])) (Tr.ok (zC.ret (tup [ai 3,ai 0]) []))) (br (ja0==[61]) (Qc (zM 0 lh_1.length&&(Q0 (toNat 0<lh_1.length)&&(zM 1 lh_1.length&&(Q0 (toNat 1<lh_1.length)&&bif lh_1.getD (toNat 0) (zi zg)==lh_1.getD (toNat 1) (zi zg)then Q3 else zM 0 lh_1.length&&(Q0 (toNat 0<lh_1.length)&&bif lh_1.getD (toNat 0) (zi zg)==0 then Q3 else zM 1 lh_1.length&&Q0 (toNat 1<lh_1.length)))))) (br (!bif lh_1.getD (toNat 0) (zi zg)==lh_1.getD (toNat 1) (zi zg)then Q3 else bif lh_1.getD (toNat 0) (zi zg)==0 then Q3 else lh_1.getD (toNat 1) (zi zg)==0) (Tr.ok (zC.ret (tup [ai 0,ai 5]) [])) (Tr.ok (zC.ret (tup [ai 3,ai 0]) [])))) (br (ja0==[60]) (Qc (zM 0 lh_1.length&&(Q0 (toNat 0<lh_1.length)&&(zM 1 lh_1.length&&(Q0 (toNat 1<lh_1.length)&&bif lh_1.getD (toNat 0) (zi zg)==lh_1.getD (toNat 1) (zi zg)then Q3 else zM 0 lh_1.length&&(Q0 (toNat 0<lh_1.length)&&bif lh_1.getD (toNat 0) (zi zg)==0 then Q3 else zM 1 lh_1.length&&Q0 (toNat 1<lh_1.length)))))) (br (!bif lh_1.getD (toNat 0) (zi zg)==lh_1.getD (toNat 1) (zi zg)then Q3
 else bif lh_1.getD (toNat 0) (zi zg)==0 then Q3 else lh_1.getD (toNat 1) (zi zg)==0) (Tr.ok (zC.ret (tup [ai 0,ai 5]) [])) (Tr.ok (zC.ret (tup [ai 3,ai 0]) [])))) (br (ja0==[43]) (br (!lM lh_1 1) (Tr.ok (zC.ret (tup [ai 0,ai 5]) [])) (Tr.ok (zC.ret (tup [ai 1,ai 0]) []))) (br (ja0==[45]) (br (!lM lh_1 1) (Tr.ok (zC.ret (tup [ai 0,ai 5]) [])) (Tr.ok (zC.ret (tup [ai 1,ai 0]) []))) (Tr.ok (zC.ret (tup [ai 3,ai 0]) []))))))))))):=kw
def aF(g:Sem Q5->Sem (Sh.sl zj)->Sem zg×Sem zg)(c:Sem Q5->Sem (Sh.sl zj)->Bool)(l1:LC)(ja0:zB)(ja1:Int)(ja2:Int)(ja3:zB)(ja4:zB)(ja5:LX):List (Sem Q5)->Int->List (Sem zg)->Sem zg×Sem zg
 |[],_,lh_1=>if(ja0==[108,105,116])=Q3 then(ja1,0)
else
 if(ja0==[99,111,108])=Q3 then
  if Q0 (zZ l1 ja4<0)=Q3 then(0,4)
  else((l1.getD (toNat (zZ l1 ja4)) (zi zj)).2.1,0)
 else
  if(ja0==[110,111,116])=Q3 then if(!lM lh_1 3)=Q3 then(0,5)else(3,0)
  else
   if(ja0==[97,110,100])=Q3 then if(!lM lh_1 3)=Q3 then(0,5)else(3,0)
   else
    if(ja0==[111,114])=Q3 then if(!lM lh_1 3)=Q3 then(0,5)else(3,0)
    else
     if (ja0==[61])=true then
      if
        (!bif lh_1.getD (toNat 0) (zi zg)==lh_1.getD (toNat 1) (zi zg)then Q3
          else bif lh_1.getD (toNat 0) (zi zg)==0 then Q3 else lh_1.getD (toNat 1) (zi zg)==0)=
         Q3 then
       (0,5)
      else(3,0)
     else
      if (ja0==[60])=true then
       if
         (!bif lh_1.getD (toNat 0) (zi zg)==lh_1.getD (toNat 1) (zi zg)then Q3
           else
            bif lh_1.getD (toNat 0) (zi zg)==0 then Q3 else lh_1.getD (toNat 1) (zi zg)==0)=
          Q3 then
        (0,5)
       else(3,0)
      else
       if(ja0==[43])=Q3 then if(!lM lh_1 1)=Q3 then(0,5)else(1,0)
       else if(ja0==[45])=Q3 then if(!lM lh_1 1)=Q3 then(0,5)else(1,0)else(3,0)
 |x::r,i17,lh_1=>if((g x l1).2!=0)=Q3 then(0,(g x l1).2)else aF g c l1 ja0 ja1 ja2 ja3 ja4 ja5 r (i17+1) (lh_1++[(g x l1).1])
def fI(g:Sem Q5->Sem (Sh.sl zj)->Sem zg×Sem zg)(c:Sem Q5->Sem (Sh.sl zj)->Bool)(l1:LC)(ja0:zB)(ja1:Int)(ja2:Int)(ja3:zB)(ja4:zB)(ja5:LX):List (Sem Q5)->Int->List (Sem zg)->Bool
 |[],_,lh_1=>if(ja0==[108,105,116])=Q3 then Q3
else
 if(ja0==[99,111,108])=Q3 then
  if Q0 (zZ l1 ja4<0)=Q3 then Q3 else if zM (zZ l1 ja4) l1.length=Q3 then Q3 else Q4
 else
  if(ja0==[110,111,116])=Q3 then Q3
  else
   if(ja0==[97,110,100])=Q3 then Q3
   else
    if(ja0==[111,114])=Q3 then Q3
    else
     if (ja0 == [61])=true then
      if
        (zM 0 lh_1.length&&
          (Q0 (toNat 0<lh_1.length)&&
           (zM 1 lh_1.length&&
            (Q0 (toNat 1<lh_1.length)&&
             bif lh_1.getD (toNat 0) (zi zg)==lh_1.getD (toNat 1) (zi zg)then Q3
             else
              zM 0 lh_1.length&&
               (Q0 (toNat 0<lh_1.length)&&
                bif lh_1.getD (toNat 0) (zi zg)==0 then Q3
                else zM 1 lh_1.length&&Q0 (toNat 1<lh_1.length))))))=
         Q3 then
       Q3
      else Q4
     else
      if (ja0 == [60])=true then
       if
         (zM 0 lh_1.length&&
           (Q0 (toNat 0<lh_1.length)&&
            (zM 1 lh_1.length&&
             (Q0 (toNat 1<lh_1.length)&&
              bif lh_1.getD (toNat 0) (zi zg)==lh_1.getD (toNat 1) (zi zg)then Q3
              else
               zM 0 lh_1.length&&
                (Q0 (toNat 0<lh_1.length)&&
                 bif lh_1.getD (toNat 0) (zi zg)==0 then Q3
                 else zM 1 lh_1.length&&Q0 (toNat 1<lh_1.length))))))=
          Q3 then
        Q3
       else Q4
      else Q3
 |x::r,i17,lh_1=>if c x l1=Q3 then
 if((g x l1).2!=0)=Q3 then Q3
 else
  if Q0 (lh_1.length+[(g x l1).1].length<=1073741824)=Q3 then
   fI g c l1 ja0 ja1 ja2 ja3 ja4 ja5 r (i17+1) (lh_1++[(g x l1).1])
  else Q4
else Q4
theorem Vb(g:Sem Q5->Sem (Sh.sl zj)->Sem zg×Sem zg)(c:Sem Q5->Sem (Sh.sl zj)->Bool)(hg:FK 201 (zP [Q5,Sh.sl zj] [zg,zg] (λx=>c x.1 x.2.1) λx=>((g x.1 x.2.1).1,(g x.1 x.2.1).2,()))){C:eP}(hC:∀id,C.ρ0 id=Q2)(l1:LC)(ja0:zB)(ja1:Int)(ja2:Int)(ja3:zB)(ja4:zB)(ja5:LX)(l15:LX)(hl:l15.length<=aE):∀(m i:Nat)(lh_1:LI),l15.length-i=m->i<=l15.length->fI g c l1 ja0 ja1 ja2 ja3 ja4 ja5 (l15.drop i) i lh_1=Q3->
  Reach (N6 g c) C 201 (ac Tryz.f201 3) (Ch l1 l15 (l15.length:Int) (i:Int) ja0 ja1 ja2 ja3 ja4 ja5 lh_1) (λr h=>aL h [zg,zg] r=Q1 ((aF g c l1 ja0 ja1 ja2 ja3 ja4 ja5 (l15.drop i) i lh_1).1,(aF g c l1 ja0 ja1 ja2 ja3 ja4 ja5 (l15.drop i) i lh_1).2,())):=by
 intro m
 induction m with
 | zero=>
  intro i lh_1 hm hi hc;obtain rfl:i=l15.length:=by omega
  rw[jh]at hc⊢;refine zD (AD hg) (Bq g c) (λid _=>hC id) (MP g c _ _ _ _ _ _ _ _ _ _ _) ?_;rw[fI]at hc;generalize hy:aF g c l1 ja0 ja1 ja2 ja3 ja4 ja5 [] _ lh_1=y;rw[aF]at hy;simp only[ze.eta,zA,Tr.val_brF];repeat' (first|with_reducible refine tM hy hc (λ_ hy hc=>?_) (λ_ hy hc=>?_)|with_reducible refine dc hy (λ_ hy=>?_) (λ_ hy=>?_)|with_reducible refine ii hc (λhc=>?_)|with_reducible refine zJ ?_)
  all_goals(subst hy;first|rfl)
 | succ m IH=>
  intro i lh_1 hm hi hc;have hlt:i<l15.length:=by omega
  have IH:=IH (i+1);have hcast:((i:Int)+1)=((i+1:Nat):Int):=by omega
  have hwr:=zp i ow;rw[fk hlt]at hc⊢;refine zD (AD hg) (Bq g c) (λid _=>hC id) (MP g c _ _ _ _ _ _ _ _ _ _ _) ?_;rw[fI]at hc;generalize hy:aF g c l1 ja0 ja1 ja2 ja3 ja4 ja5 (l15[i]::l15.drop (i+1)) (i:Int) lh_1=y;rw[aF]at hy;simp only[ze.eta,zH hlt,zu hlt,cA l15 _ hlt,hwr,Tr.val_brT,Tr.val_chkT];clear hwr;simp only[hcast]at hy
  try simp only[hcast]at hc
  repeat' (first|with_reducible refine tM hy hc (λ_ hy hc=>?_) (λ_ hy hc=>?_)|with_reducible refine dc hy (λ_ hy=>?_) (λ_ hy=>?_)|with_reducible refine ii hc (λhc=>?_)|with_reducible refine zJ ?_)
  all_goals(subst hy;first|(change Reach _ _ _ _ _ _;apply IH<;>first|omega|assumption)|rfl)
theorem PS(g:Sem Q5->Sem (Sh.sl zj)->Sem zg×Sem zg)(c:Sem Q5->Sem (Sh.sl zj)->Bool)(hg:FK 201 (zP [Q5,Sh.sl zj] [zg,zg] (λx=>c x.1 x.2.1) λx=>((g x.1 x.2.1).1,(g x.1 x.2.1).2,()))){C:eP}(hC:∀id,C.ρ0 id=Q2)(l1:LC)(ja0:zB)(ja1:Int)(ja2:Int)(ja3:zB)(ja4:zB)(ja5:LX)(l15:LX)(lh_1:LI)(hc:fI g c l1 ja0 ja1 ja2 ja3 ja4 ja5 l15 0 lh_1=Q3):
  Reach (N6 g c) C 201 (ac Tryz.f201 3) (Ch l1 l15 (l15.length:Int) 0 ja0 ja1 ja2 ja3 ja4 ja5 lh_1) (λr h=>aL h [zg,zg] r=Q1 ((aF g c l1 ja0 ja1 ja2 ja3 ja4 ja5 l15 0 lh_1).1,(aF g c l1 ja0 ja1 ja2 ja3 ja4 ja5 l15 0 lh_1).2,())):=
 Reach.len 15 (Q5) l15 rfl λhl=>Vb g c hg hC l1 ja0 ja1 ja2 ja3 ja4 ja5 l15 hl _ 0 lh_1 rfl (bd _) hc
def wC(g:Sem Q5->Sem (Sh.sl zj)->Sem zg×Sem zg)(c:Sem Q5->Sem (Sh.sl zj)->Bool)(x0:Sem Q5)(x1:Sem zj.sl):Sem zg×Sem zg:=aF g c x1 (ze.op x0) (ze.v x0).1 (ze.v x0).2.1 (ze.v x0).2.2 (ze.s x0) (ze.l x0) (ze.l x0) 0 []
def yQ(g:Sem Q5->Sem (Sh.sl zj)->Sem zg×Sem zg)(c:Sem Q5->Sem (Sh.sl zj)->Bool)(x0:Sem Q5)(x1:Sem zj.sl):Bool:=fI g c x1 (ze.op x0) (ze.v x0).1 (ze.v x0).2.1 (ze.v x0).2.2 (ze.s x0) (ze.l x0) (ze.l x0) 0 []
def zjh(g:Sem Q5->Sem (Sh.sl zj)->Sem zg×Sem zg)(c:Sem Q5->Sem (Sh.sl zj)->Bool):zX:=zP [Q5,zj.sl] [zg,zg] (λx=>yQ g c x.1 x.2.1) λx=>((wC g c x.1 x.2.1).1,(wC g c x.1 x.2.1).2,())
theorem zad(g:Sem Q5->Sem (Sh.sl zj)->Sem zg×Sem zg)(c:Sem Q5->Sem (Sh.sl zj)->Bool)(hg:FK 201 (zP [Q5,Sh.sl zj] [zg,zg] (λx=>c x.1 x.2.1) λx=>((g x.1 x.2.1).1,(g x.1 x.2.1).2,()))):FK 201 (zjh g c):=by
 refine aI (Bq g c) λx hc C hC=>?_
 unfold yQ at hc;refine zD (AD hg) (Bq g c) (λid _=>hC id) (zgl g c x.1 x.2.1) ?_;generalize hy:wC g c x.1 x.2.1=y;unfold wC at hy
 try simp only[ze.eta,zl]
 repeat' (first|with_reducible refine tM hy hc (λ_ hy hc=>?_) (λ_ hy hc=>?_)|with_reducible refine dc hy (λ_ hy=>?_) (λ_ hy=>?_)|with_reducible refine ii hc (λhc=>?_)|with_reducible refine zJ ?_)
 all_goals(subst hy;first|(change Reach _ _ _ _ _ _;apply PS g c hg hC<;>first|assumption|exact hc)|rfl)
mutual
def zL:Nat->Sem Q5->Sem (Sh.sl zj)->Sem zg×Sem zg
 |0=>λ_ _=>default
 |n+1=>wC (zL n) (bc n)
def bc:Nat->Sem Q5->Sem (Sh.sl zj)->Bool
 |0=>λ_ _=>Q4
 |n+1=>yQ (zL n) (bc n)
end
theorem Pv:∀n,FK 201 (zP [Q5,Sh.sl zj] [zg,zg] (λx=>bc n x.1 x.2.1) λx=>((zL n x.1 x.2.1).1,(zL n x.1 x.2.1).2,()))
 |0=>fj ⟨Tryz.f201,(Bq default default).1,(Bq default default).2.1,(Bq default default).2.2.1⟩ (λ_=>rfl)
 |n+1=>zad (zL n) (bc n) (Pv n)
def F51:zX:=zP [Q5,Sh.sl zj] [zg,zg] (λx=>bc 16 x.1 x.2.1) λx=>((zL 16 x.1 x.2.1).1,(zL 16 x.1 x.2.1).2,())
theorem zeW:FK 201 F51:=Pv 16
noncomputable def DO:=QF.add 201 F51
theorem pH:zw DO:=DN.add zeW
abbrev XV:List CP:=[.d .expr]
abbrev zfK:List CP:=[.d .str,.d zg,.d zg,.d .str,.d .str,.vec .expr]
abbrev nZ:List CP:=[.d .str,.d zg,.d zg,.d .str,.d .str,.nil]
noncomputable def HY(g:Sem Q5->Sem zg->Sem zg->Sem Q5×Sem zg)(c:Sem Q5->Sem zg->Sem zg->Bool):bX:=DO.add 71 (zP [Q5,zg,zg] [Q5,zg] (λx=>c x.1 x.2.1 x.2.2.1) λx=>((g x.1 x.2.1 x.2.2.1).1,(g x.1 x.2.1 x.2.2.1).2,()))
theorem N7{g:Sem Q5->Sem zg->Sem zg->Sem Q5×Sem zg}{c:Sem Q5->Sem zg->Sem zg->Bool}(hg:FK 71 (zP [Q5,zg,zg] [Q5,zg] (λx=>c x.1 x.2.1 x.2.2.1) λx=>((g x.1 x.2.1 x.2.2.1).1,(g x.1 x.2.1 x.2.2.1).2,()))):zw (HY g c):=pH.add hg
abbrev RY:Nat->aM:=λj=>if j=10 then{slots:=[1,2,3,6,8,9],prom:=[(8,Q1 5,Q5)]}else if j=500004 then{slots:=[1,2,3,6,8,30],cut:=Q3}else if j=500006 then{slots:=[1,2,3,6,8,39],cut:=Q3}else if j=500008 then{slots:=[1,2,3,6,8],cut:=Q3}else{ }
inductive xC where
 |h500004 (i1:Sem zg) (i2:Sem zg) (b30:Bool) (z0:zn XV) (z1:zn nZ) (z2:zn nZ)
 |h500006 (i1:Sem zg) (i2:Sem zg) (b39:Bool) (z0:zn XV) (z1:zn nZ) (z2:zn nZ)
 |h500008 (i1:Sem zg) (i2:Int) (z0:zn XV) (z1:zn nZ) (z2:zn nZ)
 |h10 (i1:Sem zg) (i2:Int) (i9:Int) (z0:zn XV) (z1:zn nZ) (z2:zn zfK)
abbrev Qn:xC->Nat×St
 |.h500004 i1 i2 b30 z0 z1 z2=>(500004,⟨tm 88 [(1,ai i1),(2,ai i2),(3,ptr 0 0),(6,ptr 1 0),(8,ptr 2 0),(30,AV.bool b30)],[Qa (bC [] XV z0),Qa (bC [] nZ z1),Qa (bC [] nZ z2)]⟩)
 |.h500006 i1 i2 b39 z0 z1 z2=>(500006,⟨tm 88 [(1,ai i1),(2,ai i2),(3,ptr 0 0),(6,ptr 1 0),(8,ptr 2 0),(39,AV.bool b39)],[Qa (bC [] XV z0),Qa (bC [] nZ z1),Qa (bC [] nZ z2)]⟩)
 |.h500008 i1 i2 z0 z1 z2=>(500008,⟨tm 88 [(1,ai i1),(2,ai i2),(3,ptr 0 0),(6,ptr 1 0),(8,ptr 2 0)],[Qa (bC [] XV z0),Qa (bC [] nZ z1),Qa (bC [] nZ z2)]⟩)
 |.h10 i1 i2 i9 z0 z1 z2=>(10,⟨tm 88 [(1,ai i1),(2,ai i2),(3,ptr 0 0),(6,ptr 1 0),(8,ptr 2 0),(9,ai i9)],[Qa (bC [] XV z0),Qa (bC [] nZ z1),Qa (bC [3] zfK z2),AO.vec Q5 z2.t.2.1]⟩)
theorem zim(g:Sem Q5->Sem zg->Sem zg->Sem Q5×Sem zg)(c:Sem Q5->Sem zg->Sem zg->Bool):zI (HY g c).P 71 Tryz.f71 3:=bU kw
def Rz(_:Sem Q5->Sem zg->Sem zg->Sem Q5×Sem zg)(_:Sem Q5->Sem zg->Sem zg->Bool)(x0:Sem Q5)(x1:Sem zg)(x2:Sem zg):Tr (xC⊕aw):=
 let a0:=Q0 ((↑(length (ze.s x0)):Int)>20)
 let a1:=((ze.v x0).1,(ze.v x0).2.1,(ze.v x0).2.2,ze.s x0,())
 br (Q0 ((↑(length (ze.op x0)):Int)>8))
 (Qc (Q0 (0<=0)&&Q0 (0<=8)&&Q0 (8<=(↑(length (ze.op x0)):Int)))
  (Q9 (xC.h500004 x1 x2 a0 (x0,()) ([],0,0,[],[],()) (Qg (toNat 8-toNat 0) (Qh (toNat 0) (ze.op x0)),a1))))
 (Q9 (xC.h500004 x1 x2 a0 (x0,()) ([],0,0,[],[],()) (ze.op x0,a1)))
theorem zgr(g:Sem Q5->Sem zg->Sem zg->Sem Q5×Sem zg)(c:Sem Q5->Sem zg->Sem zg->Bool)(x0:Sem Q5)(x1:Sem zg)(x2:Sem zg):rn (HY g c) 0 RY Tryz.f71 [zE Q5 x0,zE zg x1,zE zg x2] []=(Rz g c x0 x1 x2).map (lf Tryz.f71 Qn):=kw
def uF(g:Sem Q5->Sem zg->Sem zg->Sem Q5×Sem zg)(c:Sem Q5->Sem zg->Sem zg->Bool):xC->Tr (xC⊕aw)
 | .h500004 i1 i2 b30 z0 z1 z2=>
  let a0:=(↑(length z2.t.1):Int)
  let a1:=(↑(length z2.2.2.2.1):Int)
  let a2:=Q0 (a1>45)
  br b30
  (Qc (Q0 (0<=0)&&Q0 (0<=20)&&Q0 (20<=a0)) (Q9 (xC.h500006 i1 i2 a2 z0 z1 (z2.1,z2.2.1,z2.2.2.1,z2.2.2.2.1,Qg (toNat 20-toNat 0) (Qh (toNat 0) z2.t.1),()))))
  (Q9 (xC.h500006 i1 i2 a2 z0 z1 z2))
 | .h500006 i1 i2 b39 z0 z1 z2=>
  let a0:=(↑(length z2.2.2.2.1):Int)
  let a1:=IntKind.i64.wrap (i2-1)
  br b39
  (Qc (Q0 (0<=0)&&Q0 (0<=45)&&Q0 (45<=a0)) (Q9 (xC.h500008 i1 a1 z0 z1 (z2.1,z2.2.1,z2.2.2.1,Qg (toNat 45-toNat 0) (Qh (toNat 0) z2.2.2.2.1),z2.t))))
  (Q9 (xC.h500008 i1 a1 z0 z1 z2))
 | .h500008 i1 i2 z0 z1 z2=>
  Q9 (xC.h10 i1 i2 0 z0 z1 (z2.1,z2.2.1,z2.2.2.1,z2.2.2.2.1,z2.t.1,[],()))
 | .h10 i1 i2 i9 z0 z1 z2=>
  let a0:=(↑(ze.l z0.1).length:Int)
  let a1:=zm ((ze.l z0.1).getD i9.toNat (zi Q5))
  let a2:=IntKind.i64.wrap (i1-1)
  let a3:=g a1 a2 i2
  let a4:=[zm a3.1]
  br (bif Q0 (i9<a0)then bif Q0 (i9<3)then bif Q0 (i1>0)then Q0 (i2>0)else Q4 else Q4 else Q4)
  (Qc (zM i9 (ze.l z0.1).length) (Qc (c a1 a2 i2) (Qc (Q0 (z2.t.2.1.length+a4.length<=1073741824)) (Q9 (xC.h10 i1 a3.2 (IntKind.i64.wrap (i9+1)) z0 z1 (z2.1,z2.2.1,z2.2.2.1,z2.2.2.2.1,z2.t.1,z2.t.2.1++a4,()))))))
  (re (tup [agg [str z2.1,ai z2.2.1,ai z2.2.2.1,str z2.2.2.2.1,str z2.t.1,AV.vec 0],ai i2]) [AO.vec Q5 z2.t.2.1])
theorem ziL(g:Sem Q5->Sem zg->Sem zg->Sem Q5×Sem zg)(c:Sem Q5->Sem zg->Sem zg->Bool):∀s,run (HY g c) 0 RY (Func.results Tryz.f71).toList 400 (ac Tryz.f71 (Qn s).1) (Qn s).2=(uF g c s).map (lf Tryz.f71 Qn):=by intro s;cases s<;>kernel_rfl
def HW(o:Option (zy (List.map Q1 [Q5,zg]))):Sem Q5×Sem zg:=(λr:zy (List.map Q1 [Q5,zg])=>(r.1,r.2.1)) (o.getD (cu [Q5,zg]))
def zf0(g:Sem Q5->Sem zg->Sem zg->Sem Q5×Sem zg)(c:Sem Q5->Sem zg->Sem zg->Bool)(x0:Sem Q5)(x1:Sem zg)(x2:Sem zg):Option (zy (List.map Q1 [Q5,zg])):=al [Q5,zg] (uF g c) 100000000 (Rz g c x0 x1 x2)
def oe:Nat->Sem Q5->Sem zg->Sem zg->Option (zy (List.map Q1 [Q5,zg]))
 |0=>λ_ _ _=>Q2
 |n+1=>zf0 (λx0 x1 x2=>HW (oe n x0 x1 x2)) λx0 x1 x2=>(oe n x0 x1 x2).isSome
theorem zbN:zI DO.P 71 Tryz.f71 3:=bU kw
theorem LZ:∀n,FK 71 (zP [Q5,zg,zg] [Q5,zg] (λx=>(oe n x.1 x.2.1 x.2.2.1).isSome) λx=>((HW (oe n x.1 x.2.1 x.2.2.1)).1,(HW (oe n x.1 x.2.1 x.2.2.1)).2,()))
 |0=>fj ⟨Tryz.f71,zbN.1,zbN.2.1,zbN.2.2.1⟩ (λ_=>rfl)
 |n+1=>lG (E:=HY (λx0 x1 x2=>HW (oe n x0 x1 x2)) (λx0 x1 x2=>(oe n x0 x1 x2).isSome)) (ks:=[Q5,zg,zg]) (outs:=[Q5,zg]) (keep:=RY) (gas:=400) (n:=100000000) (e:=Qn) (t:=uF (λx0 x1 x2=>HW (oe n x0 x1 x2)) (λx0 x1 x2=>(oe n x0 x1 x2).isSome)) (i:=λx=>Rz (λx0 x1 x2=>HW (oe n x0 x1 x2)) (λx0 x1 x2=>(oe n x0 x1 x2).isSome) x.1 x.2.1 x.2.2.1) (N7 (LZ n)) (zim _ _) (λx=>zgr _ _ x.1 x.2.1 x.2.2.1) (ziL _ _) (λ_=>by kernel_rfl) (λ_=>by kernel_rfl)
def qS(N:Nat)(e:Sem Q5)(d n:Sem zg):Sem Q5×Sem zg:=HW (oe N e d n)
def Ik(N:Nat)(e:Sem Q5)(d n:Sem zg):Bool:=(oe N e d n).isSome
def F15:zX:=zP [Q5,zg,zg] [Q5,zg] (λx=>Ik 16 x.1 x.2.1 x.2.2.1) λx=>((qS 16 x.1 x.2.1 x.2.2.1).1,(qS 16 x.1 x.2.1 x.2.2.1).2,())
theorem zes:FK 71 F15:=LZ 16
def Vv(g:ze->ze->Bool):List ze->List ze->Bool
 |x::r,y::s=>if(!g x y)=Q3 then Q4 else Vv g r s
 |_,_=>Q3
def Oh(g c:ze->ze->Bool):List ze->List ze->Bool
 |x::r,y::s=>if c x y=Q3 then(if(!g x y)=Q3 then Q3 else Oh g c r s)else Q4
 |_,_=>Q3
noncomputable def N5(g c:ze->ze->Bool):bX:=DO.add 154 (zP [.expr,.expr] [.bool] (λx=>c x.1 x.2.1) (λx=>(g x.1 x.2.1,())))
theorem AC{g c:ze->ze->Bool}(hg:FK 154 (zP [.expr,.expr] [.bool] (λx=>c x.1 x.2.1) (λx=>(g x.1 x.2.1,())))):zw (N5 g c):=pH.add hg
abbrev zha:Nat->aM:=λj=>if j=4 then{slots:=[1,2,15,16,17]}else{ }
abbrev Nk(l1:List ze)(l15:List ze)(i16:Int)(i17:Int):St:={tmps:=(tm 32 [(1,sl Q5 l1),(2,AV.clo (Fn.func 154) [] []),(15,sl Q5 l15),(16,ai i16),(17,ai i17)]),heap:=[]}
theorem V5(g c:ze->ze->Bool):zI (N5 g c).P 202 Tryz.f202 3:=bU kw
theorem zkA(g c:ze->ze->Bool)(l:List ze)(m:List ze):rn (N5 g c) 0 zha Tryz.f202 [sl Q5 l,sl Q5 m,AV.clo (Fn.func 154) [] []] []=br ((↑l.length:Int)!=(↑m.length:Int)) (Tr.ok (zC.ret (kb Q4) [])) (Tr.ok (zC.head 4 (ac Tryz.f202 4) (Nk m l (↑l.length:Int) 0))):=kw
theorem SJ(g c:ze->ze->Bool)(l1:List ze)(l15:List ze)(i16:Int)(i17:Int):rh (N5 g c) 0 zha Tryz.f202 4 (Nk l1 l15 i16 i17)=br (Q0 (i17<i16)) (Qc (zM i17 l15.length) (Qc (zM i17 l1.length) (Qc (c (zm (l15.getD i17.toNat (zi Q5))) (zm (l1.getD i17.toNat (zi Q5)))) (br (!g (zm (l15.getD i17.toNat (zi Q5))) (zm (l1.getD i17.toNat (zi Q5)))) (Tr.ok (zC.ret (kb Q4) [])) (Tr.ok (zC.head 4 (ac Tryz.f202 4) (Nk l1 l15 i16 (IntKind.i64.wrap (i17+1))))))))) (Tr.ok (zC.ret (kb Q3) [])):=kw
theorem zjs{g c:ze->ze->Bool}(hg:FK 154 (zP [.expr,.expr] [.bool] (λx=>c x.1 x.2.1) (λx=>(g x.1 x.2.1,())))){C:eP}(hC:∀id,0<=id->C.ρ0 id=Q2)(l m:List ze)(hlm:l.length=m.length)(hl:l.length<=aE):
  ∀(k i:Nat),l.length-i=k->i<=l.length->Oh g c (l.drop i) (m.drop i)=Q3->Reach (N5 g c) C 202 (ac Tryz.f202 4) (Nk m l l.length i) (λr h=>(r,h)=(.kb (Vv g (l.drop i) (m.drop i)),[])):=by
 intro k
 induction k with
 | zero=>
  intro i hk hi hc;obtain rfl:i=l.length:=by omega
  refine zD (AC hg) (V5 g c) hC (SJ g c _ _ _ _) ?_;simp only[zA,Tr.val_brF,jh];rfl
 | succ k IH=>
  intro i hk hi hc;have hlt:i<l.length:=by omega
  have hlt':i<m.length:=by omega
  refine zD (AC hg) (V5 g c) hC (SJ g c _ _ _ _) ?_;rw[fk hlt,fk hlt']at hc⊢;rw[Oh]at hc;have hc1:=pR hc;simp only[zH hlt,zu hlt,zu hlt',cA l _ hlt,cA m _ hlt',ze.eta,Tr.val_brT,Tr.val_chkT,hc1.1,zp i ow];refine lW (λh=>?_) (λh=>?_)
  ·rw[Vv,if_pos h];rfl
  ·rw[Vv,if_neg (ml h)];have h2:=hc1.2;rw[if_neg (ml h)]at h2;exact IH (i+1) ow ow h2
def Kt(g:ze->ze->Bool)(l m:List ze):Bool:=if((↑l.length:Int)!=(↑m.length:Int))=Q3 then Q4 else Vv g l m
def wY(g c:ze->ze->Bool)(l m:List ze):Bool:=if((↑l.length:Int)!=(↑m.length:Int))=Q3 then Q3 else Oh g c l m
def G50(g c:ze->ze->Bool):iw [Q1 (.sl .expr),Q1 (.sl .expr),Q2]:=λx h=>match x,h with
 |(l,m,.clo (.func 154) [] [],_),[]=>.chk (wY g c l m) (.ok (.bool (Kt g l m),[]))
 |_,_=>.err
def F50(g c:ze->ze->Bool):zX:=bm [Q1 (.sl .expr),Q1 (.sl .expr),Q2] (G50 g c)
theorem Reach.weaken{E:bX}{C:eP}{fn:FuncId}{todo:List Item}{st:St}{Q Q':AV->List AO->Prop}(h:Reach E C fn todo st Q)(hq:∀r h,Q r h->∃r',Q' r' h/\∀w U ρ v,Rv w U ρ r v->Rv w U ρ r' v):Reach E C fn todo st Q':=by
 intro b cs a w U ρ h1 h2 hc hW;obtain⟨e,w',fr,⟨v,r,h',U',ρ',he,hq1,hrv,hrest⟩,hcm⟩:=h b cs a w U ρ h1 h2 hc hW;obtain⟨r',hq2,hrr⟩:=hq r h' hq1;exact⟨e,w',fr,⟨v,r',h',U',ρ',he,hq2,hrr _ _ _ _ hrv,hrest⟩,hcm⟩
theorem zeV{g c:ze->ze->Bool}(hg:FK 154 (zP [.expr,.expr] [.bool] (λx=>c x.1 x.2.1) (λx=>(g x.1 x.2.1,())))):FK 202 (F50 g c):=by
 refine dH (E:=N5 g c) (V5 g c) λx h0 res hx C hC=>?_
 unfold G50 at hx;split at hx
 ·rename_i l m u;simp only[Q8]at hx;split at hx
  ·rename_i hc;simp only[bB]at hx;subst hx;refine Reach.len 0 .expr l rfl λhl=>?_
   refine Reach.weaken (Q:=λr h=>(r,h)=(.kb (Kt g l m),[])) ?_ ?_
   ·refine zD (n0:=0) (AC hg) (V5 g c) hC (zkA g c l m) ?_;unfold wY at hc;unfold Kt;refine lW (λh=>?_) (λh=>?_)
    ·rw[if_pos h];rfl
    ·rw[if_neg (ml h)]at hc⊢;have:(l.length:Int)=m.length:=by simpa using h
     have:l.length=m.length:=by omega
     exact zjs hg hC l m this hl _ 0 rfl (bd _) hc
   ·rintro r h hq;cases hq;refine⟨_,rfl,λw U ρ v hv=>?_⟩;cases hv;exact .bool _
  ·simp at hx
 ·simp at hx
noncomputable def Vr(g c:ze->ze->Bool):bX:=DO.add 202 (F50 g c)
theorem Qt{g c:ze->ze->Bool}(hg:FK 154 (zP [.expr,.expr] [.bool] (λx=>c x.1 x.2.1) (λx=>(g x.1 x.2.1,())))):zw (Vr g c):=pH.add (zeV hg)
def TZ(a b:V):Bool:=a.1==b.1&&(a.2.1==b.2.1&&(a.2.2==b.2.2&&Q3))
def JE(g:ze->ze->Bool)(a b:ze):Bool:=bif a.op==b.op then bif TZ a.v b.v then bif a.s==b.s then Kt g a.l b.l else Q4 else Q4 else Q4
def GQ(g c:ze->ze->Bool)(a b:ze):Bool:=bif a.op==b.op then bif TZ a.v b.v then bif a.s==b.s then wY g c a.l b.l else Q3 else Q3 else Q3
theorem SB(g c:ze->ze->Bool):zI (Vr g c).P 154 Tryz.f154 2:=bU kw
theorem zkh(g c:ze->ze->Bool)(l:ze)(m:ze):rn (Vr g c) 0 (λ_=>{}) Tryz.f154 [zE Q5 l,zE Q5 m] []=Qc (GQ g c l m) (Tr.ok (zC.ret (AV.bool (JE g l m)) [])):=kw
theorem ZP{g c:ze->ze->Bool}(hg:FK 154 (zP [.expr,.expr] [.bool] (λx=>c x.1 x.2.1) (λx=>(g x.1 x.2.1,())))):FK 154 (zP [.expr,.expr] [.bool] (λx=>GQ g c x.1 x.2.1) (λx=>(JE g x.1 x.2.1,()))):=by
 refine aI (E:=Vr g c) (SB g c) λx hx C hC=>?_
 refine zD (n0:=0) (Qt hg) (SB g c) (λid _=>hC id) (zkh g c x.1 x.2.1) ?_;exact jU hx rfl
mutual
def fh:Nat->ze->ze->Bool
 |0=>λ_ _=>Q4
 |n+1=>JE (fh n)
def iU:Nat->ze->ze->Bool
 |0=>λ_ _=>Q4
 |n+1=>GQ (fh n) (iU n)
end
theorem Ps:∀n,FK 154 (zP [.expr,.expr] [.bool] (λx=>iU n x.1 x.2.1) (λx=>(fh n x.1 x.2.1,())))
 |0=>fj ⟨Tryz.f154,(SB (λ_ _=>Q4) (λ_ _=>Q4)).1,(SB (λ_ _=>Q4) (λ_ _=>Q4)).2.1,(SB (λ_ _=>Q4) (λ_ _=>Q4)).2.2.1⟩ (λ_=>rfl)
 |n+1=>ZP (Ps n)
def F29:zX:=zP [.expr,.expr] [.bool] (λx=>iU 16 x.1 x.2.1) (λx=>(fh 16 x.1 x.2.1,()))
theorem zeC:FK 154 F29:=Ps 16
noncomputable def Mg:=DO.addL [(71,F15),(154,F29)]
theorem DP:zw Mg:=pH.addL<|fc zes<|fc zeC jm
def aY(v:V):Bool:=v.1==0&&(v.2.1==0&&(v.2.2==[]&&Q3))
def avB:AV->Option Bool
 |.bool b=>Q1 b
 |.kb b=>Q1 b
 |_=>Q2
theorem Reach.toBool{E:bX}{C:eP}{fn:FuncId}{todo:List Item}{st:St}{b:Bool}{hp:List AO}(h:Reach E C fn todo st (λr h=>avB r=Q1 b/\h=hp)):Reach E C fn todo st (λr h=>(r,h)=(.bool b,hp)):=by
 refine h.weaken λr h' hq=>?_
 obtain⟨h1,rfl⟩:=hq;refine⟨.bool b,rfl,λw U ρ v hv=>?_⟩;cases r<;>simp[avB]at h1<;>subst h1<;>cases hv<;>exact .bool _
def zaP(g:ze->Int->Int->Bool×Int)(c:ze->Int->Int->Bool):iw [Q2,Q1 .expr,Q1 zg]:=λx h=>match x,h with
 |(.ptr 0 0,e,d,_),[.box [.int .i64 n]]=>.chk (c e d n) (.ok (.bool (g e d n).1,[.box [.int .i64 (g e d n).2]]))
 |_,_=>.err
def JY(g:ze->Int->Int->Bool×Int)(c:ze->Int->Int->Bool):zX:=bm [Q2,Q1 .expr,Q1 zg] (zaP g c)
noncomputable def N4(g:ze->Int->Int->Bool×Int)(c:ze->Int->Int->Bool):bX:=Mg.add 247 (JY g c)
theorem AB{g:ze->Int->Int->Bool×Int}{c:ze->Int->Int->Bool}(hg:FK 247 (JY g c)):zw (N4 g c):=DP.add hg
abbrev zg4:Nat->aM:=λj=>if j=12 then{slots:=[0,2,73,74,75]}else{ }
abbrev GN(i2:Int)(l73:LX)(i74:Int)(i75:Int)(ja0:Int):St:={tmps:=(tm 86 [(0,ptr 0 0),(2,ai i2),(73,sl Q5 l73),(74,ai i74),(75,ai i75)]),heap:=[Qa [ai ja0]]}
theorem SC(g:ze->Int->Int->Bool×Int)(c:ze->Int->Int->Bool):zI (N4 g c).P 247 Tryz.f247 3:=bU kw
theorem zkn(g:ze->Int->Int->Bool×Int)(c:ze->Int->Int->Bool)(e:ze)(d:Int)(n:Int):rn (N4 g c) 1 zg4 Tryz.f247 [ptr 0 0,zE Q5 e,ai d] [Qa [ai n]]=br (bif Q0 (d>12)then Q3 else bif Q0 (IntKind.i64.wrap (n+1)>60)then Q3 else(↑e.l.length:Int)!=cK e.op) (Tr.ok (zC.ret (kb Q4) [Qa [ai (IntKind.i64.wrap (n+1))]])) (br (e.op==[108,105,116]) (Tr.ok (zC.ret (AV.bool (bif e.s==[]then aW e.v else Q4)) [Qa [ai (IntKind.i64.wrap (n+1))]])) (br (e.op==[99,111,108]) (Tr.ok (zC.ret (AV.bool (bif aY e.v then bif dP e.s then !iR e.s else Q4 else Q4)) [Qa [ai (IntKind.i64.wrap (n+1))]])) (br (bif !aY e.v then Q3 else !e.s==[]) (Tr.ok (zC.ret (kb Q4) [Qa [ai (IntKind.i64.wrap (n+1))]])) (Tr.ok (zC.head 12 (ac Tryz.f247 12) (GN d e.l (↑e.l.length:Int) 0 (IntKind.i64.wrap (n+1)))))))):=kw
theorem MO(g:ze->Int->Int->Bool×Int)(c:ze->Int->Int->Bool)(i2:Int)(l73:LX)(i74:Int)(i75:Int)(ja0:Int):rh (N4 g c) 1 zg4 Tryz.f247 12 (GN i2 l73 i74 i75 ja0)=br (Q0 (i75<i74)) (Qc (zM i75 l73.length) (Qc (c (zm (l73.getD i75.toNat (zi Q5))) (IntKind.i64.wrap (i2+1)) ja0) (br (!(g (zm (l73.getD i75.toNat (zi Q5))) (IntKind.i64.wrap (i2+1)) ja0).1) (Tr.ok (zC.ret (kb Q4) [Qa [AV.int IntKind.i64 (g (zm (l73.getD i75.toNat (zi Q5))) (IntKind.i64.wrap (i2+1)) ja0).2]])) (Tr.ok (zC.head 12 (ac Tryz.f247 12) (GN i2 l73 i74 (IntKind.i64.wrap (i75+1)) (g (zm (l73.getD i75.toNat (zi Q5))) (IntKind.i64.wrap (i2+1)) ja0).2)))))) (Tr.ok (zC.ret (kb Q3) [Qa [ai ja0]])):=kw
def oh(g:ze->Int->Int->Bool×Int)(d:Int):List ze->Int->Bool×Int
 |[],n=>(Q3,n)
 |x::r,n=>if(!(g x (IntKind.i64.wrap (d+1)) n).1)=Q3 then(Q4,(g x (IntKind.i64.wrap (d+1)) n).2)else oh g d r (g x (IntKind.i64.wrap (d+1)) n).2
def Bh(g:ze->Int->Int->Bool×Int)(c:ze->Int->Int->Bool)(d:Int):List ze->Int->Bool
 |[],_=>Q3
 |x::r,n=>if c x (IntKind.i64.wrap (d+1)) n=Q3 then(if(!(g x (IntKind.i64.wrap (d+1)) n).1)=Q3 then Q3 else Bh g c d r (g x (IntKind.i64.wrap (d+1)) n).2)else Q4
theorem zjr{g:ze->Int->Int->Bool×Int}{c:ze->Int->Int->Bool}(hg:FK 247 (JY g c)){C:eP}(hC:∀id,1<=id->C.ρ0 id=Q2)(d:Int)(l:List ze)(hl:l.length<=aE):
  ∀(k i:Nat)(n:Int),l.length-i=k->i<=l.length->Bh g c d (l.drop i) n=Q3->Reach (N4 g c) C 247 (ac Tryz.f247 12) (GN d l l.length i n) (λr h=>avB r=Q1 (oh g d (l.drop i) n).1/\h=[.box [.int .i64 (oh g d (l.drop i) n).2]]):=by
 intro k
 induction k with
 | zero=>
  intro i n hk hi hc;obtain rfl:i=l.length:=by omega
  refine zD (AB hg) (SC g c) hC (MO g c _ _ _ _ _) ?_;simp only[zA,Tr.val_brF,jh];exact⟨rfl,rfl⟩
 | succ k IH=>
  intro i n hk hi hc;have hlt:i<l.length:=by omega
  refine zD (AB hg) (SC g c) hC (MO g c _ _ _ _ _) ?_;rw[fk hlt]at hc⊢;rw[Bh]at hc;have hc1:=pR hc;simp only[zH hlt,zu hlt,cA l _ hlt,ze.eta,Tr.val_brT,Tr.val_chkT,hc1.1,zp i ow];refine lW (λh=>?_) (λh=>?_)
  ·rw[oh,if_pos h];exact⟨rfl,rfl⟩
  ·rw[oh,if_neg (ml h)];have h2:=hc1.2;rw[if_neg (ml h)]at h2;exact IH (i+1) _ ow ow h2
def xH(g:ze->Int->Int->Bool×Int)(e:ze)(d n:Int):Bool×Int:=if(bif Q0 (d>12)then Q3 else bif Q0 (IntKind.i64.wrap (n+1)>60)then Q3 else(↑e.l.length:Int)!=cK e.op)=Q3 then(Q4,IntKind.i64.wrap (n+1))else if(e.op==[108,105,116])=Q3 then(bif e.s==[]then aW e.v else Q4,IntKind.i64.wrap (n+1))else if(e.op==[99,111,108])=Q3 then(bif aY e.v then bif dP e.s then !iR e.s else Q4 else Q4,IntKind.i64.wrap (n+1))else if(bif !aY e.v then Q3 else !e.s==[])=Q3 then(Q4,IntKind.i64.wrap (n+1))else oh g d e.l (IntKind.i64.wrap (n+1))
def MC(g:ze->Int->Int->Bool×Int)(c:ze->Int->Int->Bool)(e:ze)(d n:Int):Bool:=if(bif Q0 (d>12)then Q3 else bif Q0 (IntKind.i64.wrap (n+1)>60)then Q3 else(↑e.l.length:Int)!=cK e.op)=Q3 then Q3 else if(e.op==[108,105,116])=Q3 then Q3 else if(e.op==[99,111,108])=Q3 then Q3 else if(bif !aY e.v then Q3 else !e.s==[])=Q3 then Q3 else Bh g c d e.l (IntKind.i64.wrap (n+1))
theorem Z1{g:ze->Int->Int->Bool×Int}{c:ze->Int->Int->Bool}(hg:FK 247 (JY g c)):FK 247 (JY (xH g) (MC g c)):=by
 refine dH (E:=N4 g c) (SC g c) λx h0 res hx C hC=>?_
 unfold zaP at hx;split at hx
 ·rename_i e d u n;simp only[Q8]at hx;split at hx
  ·rename_i hc;simp only[bB]at hx;subst hx;refine Reach.toBool ?_;refine zD (n0:=1) (AB hg) (SC g c) hC (zkn g c e d n) ?_;generalize hy:xH g e d n=y;unfold xH at hy;unfold MC at hc;repeat' (refine lW (λhsp=>?_) (λhsp=>?_)<;>first|(rw[if_pos hsp]at hy hc)|(rw[if_neg (ml hsp)]at hy hc))
   all_goals subst hy
   ·exact⟨rfl,rfl⟩
   ·exact⟨rfl,rfl⟩
   ·exact⟨rfl,rfl⟩
   ·exact⟨rfl,rfl⟩
   ·exact Reach.len 73 .expr e.l rfl λhl=>zjr hg hC d e.l hl _ 0 _ rfl (bd _) hc
  ·simp at hx
 ·simp at hx
mutual
def gX:Nat->ze->Int->Int->Bool×Int
 |0=>λ_ _ _=>(Q4,0)
 |n+1=>xH (gX n)
def tH:Nat->ze->Int->Int->Bool
 |0=>λ_ _ _=>Q4
 |n+1=>MC (gX n) (tH n)
end
theorem Pt:∀n,FK 247 (JY (gX n) (tH n))
 | 0=>by
  have h:FK 247 (bm [Q2,Q1 .expr,Q1 zg] (λ_ _=>.err)):=dH (SC (λ_ _ _=>(Q4,0)) (λ_ _ _=>Q4)) (E:=Mg) λx h0 res hx=>by simp at hx
  refine xN (ι:=Unit) (Gs:=λ_ _ _=>.err) (λ_=>h) λx h0 res hx=>?_
  unfold zaP at hx;split at hx
  ·simp[Q8,tH]at hx
  ·simp at hx
 |n+1=>Z1 (Pt n)
def F37:zX:=JY (gX 16) (tH 16)
theorem zeH:FK 247 F37:=Pt 16
noncomputable def DQ:=Mg.add 247 F37
theorem vq:zw DQ:=DP.add zeH
abbrev iC:List (zB×AV):=[([97,110,100],.clo (.func 310) [] []),([111,114],.clo (.func 311) [] []),([110,111,116],.clo (.func 312) [] []),([61],.clo (.func 314) [] []),([60],.clo (.func 315) [] []),([43],.clo (.func 316) [] []),([45],.clo (.func 317) [] []),([110,117,108,108],.clo (.func 318) [] [])]
abbrev zlb:Nat->aM:=λ_=>{ }
theorem zhN:zI DQ.P 283 Tryz.f283 0:=bU kw
theorem zke:(run DQ 0 zlb (Func.results Tryz.f283).toList 400 (bw Tryz.f283) (be (Func.ntmps Tryz.f283) [] [])).val=Q1 (zC.ret (AV.mp 0) [AO.fmap iC]):=kw
def G23:iw []:=λ_ h=>match h with
 |[]=>.ok (.mp 0,[.fmap iC])
 |_=>.err
def F23:zX:=bm [] G23
theorem zex:FK 283 F23:=by
 refine dH zhN λx h0 res hx C hC=>?_
 unfold G23 at hx;split at hx
 ·simp only[Q8,bB]at hx;subst hx;exact mB (n0:=0) vq zhN hC zke rfl
 ·simp at hx
def opV(op:zB)(x y:V):V:=if(op==[97,110,100])=Q3 then Dk x y else if(op==[111,114])=Q3 then T3 x y else if(op==[110,111,116])=Q3 then Nw x y else if(op==[61])=Q3 then lT x y else if(op==[60])=Q3 then rB x y else if(op==[43])=Q3 then rC x y else if(op==[45])=Q3 then lU x y else if(op==[110,117,108,108])=Q3 then Hk x y else(0,0,[])
def opC(op:zB):Bool:=if(op==[97,110,100])=Q3 then Q3 else if(op==[111,114])=Q3 then Q3 else if(op==[110,111,116])=Q3 then Q3 else if(op==[61])=Q3 then Q3 else if(op==[60])=Q3 then Q3 else if(op==[43])=Q3 then Q3 else if(op==[45])=Q3 then Q3 else if(op==[110,117,108,108])=Q3 then Q3 else Q4
def opL(op:zB)(x y:V)(h:List AO):Option zC:=if(op==[97,110,100])=Q3 then Q1 (.ret (zE zf (Dk x y)) h)else if(op==[111,114])=Q3 then Q1 (.ret (zE zf (T3 x y)) h)else if(op==[110,111,116])=Q3 then Q1 (.ret (zE zf (Nw x y)) h)else if(op==[61])=Q3 then Q1 (.ret (zE zf (lT x y)) h)else if(op==[60])=Q3 then Q1 (.ret (zE zf (rB x y)) h)else if(op==[43])=Q3 then Q1 (.ret (zE zf (rC x y)) h)else if(op==[45])=Q3 then Q1 (.ret (zE zf (lU x y)) h)else if(op==[110,117,108,108])=Q3 then Q1 (.ret (zE zf (Hk x y)) h)else Q2
def zaO(g:List (Sem zj)->List (Sem zf)->ze->V)(c:List (Sem zj)->List (Sem zf)->ze->Bool):iw [Q2,Q1 .expr]:=λx h=>match x,h with
 | (.agg [.sl (.pr .str (.pr (.int .i64) .bool)) cols,.sl (.pr (.int .i64) (.pr (.int .i64) .str)) row,.mp 0],e,_),[.fmap [(k1,.clo (.func 310) [] []),(k2,.clo (.func 311) [] []),(k3,.clo (.func 312) [] []),(k4,.clo (.func 314) [] []),(k5,.clo (.func 315) [] []),(k6,.clo (.func 316) [] []),(k7,.clo (.func 317) [] []),(k8,.clo (.func 318) [] [])]]=>
  .chk (k1==[97,110,100]&&(k2==[111,114]&&(k3==[110,111,116]&&(k4==[61]&&(k5==[60]&&(k6==[43]&&(k7==[45]&&(k8==[110,117,108,108])))))))) (.chk (c cols row e) (.ok (zE zf (g cols row e),[.fmap iC])))
 |_,_=>.err
def NA(g:List (Sem zj)->List (Sem zf)->ze->V)(c:List (Sem zj)->List (Sem zf)->ze->Bool):zX:=bm [Q2,Q1 .expr] (zaO g c)
noncomputable def N2(g:List (Sem zj)->List (Sem zf)->ze->V)(c:List (Sem zj)->List (Sem zf)->ze->Bool):bX:=DQ.add 284 (NA g c)
theorem Az{g:List (Sem zj)->List (Sem zf)->ze->V}{c:List (Sem zj)->List (Sem zf)->ze->Bool}(hg:FK 284 (NA g c)):zw (N2 g c):=vq.add hg
theorem Sz(g:List (Sem zj)->List (Sem zf)->ze->V)(c:List (Sem zj)->List (Sem zf)->ze->Bool):zI (N2 g c).P 284 Tryz.f284 2:=bU kw
theorem zbt(g:List (Sem zj)->List (Sem zf)->ze->V)(c:List (Sem zj)->List (Sem zf)->ze->Bool)(cols:LC)(row:LV)(op:zB)(v:V)(s:zB):(run (N2 g c) 1 unr (Func.results Tryz.f284).toList 600 (bw Tryz.f284) (be (Func.ntmps Tryz.f284) [agg [sl zj cols,sl zf row,AV.mp 0],zE Q5 (.mk op v s [])] [AO.fmap iC])).val=if(op==[108,105,116])=Q3 then Q1 (.ret (zE zf v) [.fmap iC])else if(op==[99,111,108])=Q3 then(if(bif Q0 (zZ cols s<0)then Q3 else Q0 (zZ cols s>=(↑row.length:Int)))=Q3 then Q1 (.ret (zE zf (0,0,[])) [.fmap iC])else if zM (zZ cols s) row.length=Q3 then Q1 (.ret (zE zf (row.getD (toNat (zZ cols s)) (zi zf))) [.fmap iC])else Q2)else opL op (0,0,[]) (0,0,[]) [.fmap iC]:=kw
theorem zbu(g:List (Sem zj)->List (Sem zf)->ze->V)(c:List (Sem zj)->List (Sem zf)->ze->Bool)(cols:LC)(row:LV)(op:zB)(v:V)(s:zB)(a:ze):(run (N2 g c) 1 unr (Func.results Tryz.f284).toList 600 (bw Tryz.f284) (be (Func.ntmps Tryz.f284) [agg [sl zj cols,sl zf row,AV.mp 0],zE Q5 (.mk op v s [a])] [AO.fmap iC])).val=if(op==[108,105,116])=Q3 then Q1 (.ret (zE zf v) [.fmap iC])else if(op==[99,111,108])=Q3 then(if(bif Q0 (zZ cols s<0)then Q3 else Q0 (zZ cols s>=(↑row.length:Int)))=Q3 then Q1 (.ret (zE zf (0,0,[])) [.fmap iC])else if zM (zZ cols s) row.length=Q3 then Q1 (.ret (zE zf (row.getD (toNat (zZ cols s)) (zi zf))) [.fmap iC])else Q2)else if c cols row (.mk a.op a.v a.s a.l)=Q3 then opL op (g cols row (.mk a.op a.v a.s a.l)) (0,0,[]) [.fmap iC]else Q2:=kw
theorem zbv(g:List (Sem zj)->List (Sem zf)->ze->V)(c:List (Sem zj)->List (Sem zf)->ze->Bool)(cols:LC)(row:LV)(op:zB)(v:V)(s:zB)(a b:ze):(run (N2 g c) 1 unr (Func.results Tryz.f284).toList 600 (bw Tryz.f284) (be (Func.ntmps Tryz.f284) [agg [sl zj cols,sl zf row,AV.mp 0],zE Q5 (.mk op v s [a,b])] [AO.fmap iC])).val=if(op==[108,105,116])=Q3 then Q1 (.ret (zE zf v) [.fmap iC])else if(op==[99,111,108])=Q3 then(if(bif Q0 (zZ cols s<0)then Q3 else Q0 (zZ cols s>=(↑row.length:Int)))=Q3 then Q1 (.ret (zE zf (0,0,[])) [.fmap iC])else if zM (zZ cols s) row.length=Q3 then Q1 (.ret (zE zf (row.getD (toNat (zZ cols s)) (zi zf))) [.fmap iC])else Q2)else if c cols row (.mk a.op a.v a.s a.l)=Q3 then(if c cols row (.mk b.op b.v b.s b.l)=Q3 then opL op (g cols row (.mk a.op a.v a.s a.l)) (g cols row (.mk b.op b.v b.s b.l)) [.fmap iC]else Q2)else Q2:=kw
theorem pE{Φ:zC->Prop}{c:Bool}{a b:Option zC}(h1:c=Q3->fY Φ a)(h2:c=Q4->fY Φ b):fY Φ (if c=Q3 then a else b):=by
 cases c
 ·simpa using h2 rfl
 ·simpa using h1 rfl
theorem wt{E:bX}{C:eP}{k:FuncId}{f:Func}{Q:AV->List AO->Prop}{n n0:Nat}(hE:zw E)(hf:zI E.P k f n)(hC:∀id,n0<=id->C.ρ0 id=Q2){keep:Nat->aM}{fuel:Nat}
  {todo:List Item} {st:St} {o:Option zC} (ht:(run E n0 keep f.results.toList fuel todo st).val=o) (h:fY (jz E C k Q) o):Reach E C k todo st Q:=
 zD hE hf hC rfl (by rw[ht];exact h)
theorem wa{E:bX}{C:eP}{op:zB}{x y:V}{h:List AO}(hc:opC op=Q3):fY (jz E C 284 (λr h'=>(r,h')=(zE zf (opV op x y),h))) (opL op x y h):=by
 generalize hy:opV op x y=z;unfold opC at hc;unfold opV at hy;unfold opL;repeat' (refine pE (λhsp=>?_) (λhsp=>?_)<;>first|(rw[if_pos hsp]at hy;try rw[if_pos hsp]at hc)|(rw[if_neg (ml hsp)]at hy;try rw[if_neg (ml hsp)]at hc))
 all_goals first|(cases hc;done)|(subst hy;rfl)
def qW(g:List (Sem zj)->List (Sem zf)->ze->V)(cols:LC)(row:LV):ze->V
 | .mk op v s l=>if (op==[108,105,116])=Q3 then v else
  if(op==[99,111,108])=Q3 then(if(bif Q0 (zZ cols s<0)then Q3 else Q0 (zZ cols s>=(↑row.length:Int)))=Q3 then(0,0,[])else row.getD (toNat (zZ cols s)) (zi zf))else
  match l with
  |[]=>opV op (0,0,[]) (0,0,[])
  |[a]=>opV op (g cols row a) (0,0,[])
  |[a,b]=>opV op (g cols row a) (g cols row b)
  |_=>(0,0,[])
def uP(c:List (Sem zj)->List (Sem zf)->ze->Bool)(cols:LC)(row:LV):ze->Bool
 |.mk _ _ _ (_::_::_::_)=>Q4
 | .mk op _ s l=>if (op==[108,105,116])=Q3 then Q3 else
  if(op==[99,111,108])=Q3 then(if(bif Q0 (zZ cols s<0)then Q3 else Q0 (zZ cols s>=(↑row.length:Int)))=Q3 then Q3 else zM (zZ cols s) row.length)else
  match l with
  |[]=>opC op
  |[a]=>if c cols row a=Q3 then opC op else Q4
  |[a,b]=>if c cols row a=Q3 then(if c cols row b=Q3 then opC op else Q4)else Q4
  |_=>Q4
theorem ZJ{g:List (Sem zj)->List (Sem zf)->ze->V}{c:List (Sem zj)->List (Sem zf)->ze->Bool}(hg:FK 284 (NA g c)):FK 284 (NA (qW g) (uP c)):=by
 refine dH (E:=N2 g c) (Sz g c) λx h0 res hx C hC=>?_
 unfold zaO at hx;split at hx
 ·rename_i cols row e u k1 k2 k3 k4 k5 k6 k7 k8;simp only[Q8]at hx;split at hx
  ·rename_i hk;split at hx
   ·rename_i hc;simp only[aD,aZ]at hk;obtain⟨rfl,rfl,rfl,rfl,rfl,rfl,rfl,rfl⟩:=hk;simp only[bB]at hx;subst hx;obtain⟨op,v,s,l⟩:=e
    match l,hc with
    | [],hc=>
     refine wt (n0:=1) (Az hg) (Sz g c) hC (zbt g c cols row op v s) ?_;generalize hy:qW g cols row (.mk op v s [])=z;rw[uP]at hc;rw[qW]at hy;repeat' (first|(subst hy;exact wa hc)|refine pE (λhsp=>?_) (λhsp=>?_)<;>first|(first|rw[if_pos hsp]at hy hc|rw[if_pos hsp]at hc|rw[if_pos hsp]at hy)|(first|rw[if_neg (ml hsp)]at hy hc|rw[if_neg (ml hsp)]at hc|rw[if_neg (ml hsp)]at hy)|skip)
     all_goals first|(subst hy;exact wa hc)|(subst hy;rfl)|(rw[hc]at hsp;cases hsp)
    | [a],hc=>
     refine wt (n0:=1) (Az hg) (Sz g c) hC (zbu g c cols row op v s a) ?_;generalize hy:qW g cols row (.mk op v s [a])=z;rw[uP]at hc;rw[qW]at hy;simp only[ze.eta];repeat' (first|(subst hy;exact wa hc)|refine pE (λhsp=>?_) (λhsp=>?_)<;>first|(first|rw[if_pos hsp]at hy hc|rw[if_pos hsp]at hc|rw[if_pos hsp]at hy)|(first|rw[if_neg (ml hsp)]at hy hc|rw[if_neg (ml hsp)]at hc|rw[if_neg (ml hsp)]at hy)|skip)
     all_goals first|(subst hy;exact wa hc)|(subst hy;rfl)|(cases hc;done)|(rw[hc]at hsp;cases hsp)
    | [a,b],hc=>
     refine wt (n0:=1) (Az hg) (Sz g c) hC (zbv g c cols row op v s a b) ?_;generalize hy:qW g cols row (.mk op v s [a,b])=z;rw[uP]at hc;rw[qW]at hy;simp only[ze.eta];repeat' (first|(subst hy;exact wa hc)|refine pE (λhsp=>?_) (λhsp=>?_)<;>first|(first|rw[if_pos hsp]at hy hc|rw[if_pos hsp]at hc|rw[if_pos hsp]at hy)|(first|rw[if_neg (ml hsp)]at hy hc|rw[if_neg (ml hsp)]at hc|rw[if_neg (ml hsp)]at hy)|skip)
     all_goals first|(subst hy;exact wa hc)|(subst hy;rfl)|(cases hc;done)|(rw[hc]at hsp;cases hsp)
    | _::_::_::_,hc=>
     cases hc
   ·simp at hx
  ·simp at hx
 ·simp at hx
mutual
def di:Nat->List (Sem zj)->List (Sem zf)->ze->V
 |0=>λ_ _ _=>(0,0,[])
 |n+1=>qW (di n)
def uO:Nat->List (Sem zj)->List (Sem zf)->ze->Bool
 |0=>λ_ _ _=>Q4
 |n+1=>uP (uO n)
end
theorem Pr:∀n,FK 284 (NA (di n) (uO n))
 | 0=>by
  have h:FK 284 (bm [Q2,Q1 .expr] (λ_ _=>.err)):=dH (Sz (λ_ _ _=>(0,0,[])) (λ_ _ _=>Q4)) (E:=DQ) λx h0 res hx=>by simp at hx
  refine xN (ι:=Unit) (Gs:=λ_ _ _=>.err) (λ_=>h) λx h0 res hx=>?_
  unfold zaO at hx;split at hx
  ·simp[Q8,uO]at hx
  ·simp at hx
 |n+1=>ZJ (Pr n)
def F24:zX:=NA (di 16) (uO 16)
theorem zey:FK 284 F24:=Pr 16
noncomputable def DR:=DQ.addL [(283,F23),(284,F24)]
theorem vt:zw DR:=vq.addL<|fc zex<|fc zey jm
abbrev zla:Nat->aM:=λ_=>{ }
theorem zhM:zI (DR).P 200 Tryz.f200 1:=bU kw
theorem zkd(x0:Sem Q5):rn DR 0 zla Tryz.f200 [zE Q5 x0] []=Qc (tH 16 (zm x0) 1 0) (Tr.ok (zC.ret (AV.bool (gX 16 (zm x0) 1 0).1) [])):=kw
def cY(x0:Sem Q5):Sem Q7:=(gX 16 x0 1 0).1
def wV(x0:Sem Q5):Bool:=if tH 16 x0 1 0=Q3 then Q3 else Q4
def F22:zX:=zP [Q5] [Q7] (λx=>wV x.1) λx=>(cY x.1,())
theorem XN:FK 200 F22:=by
 refine aI (zhM) λx hc C hC=>?_
 unfold wV at hc;refine zD vt (zhM) (λid _=>hC id) (zkd x.1) ?_;generalize hy:cY x.1=y;unfold cY at hy
 try simp only[ze.eta]
 repeat' (first|with_reducible refine tM hy hc (λ_ hy hc=>?_) (λ_ hy hc=>?_)|with_reducible refine dc hy (λ_ hy=>?_) (λ_ hy=>?_)|with_reducible refine ii hc (λhc=>?_)|with_reducible refine zJ ?_)
 all_goals(subst hy;first|rfl)
abbrev kp7:Nat->aM:=λ_=>{ }
theorem ok7:zI (DR).P 41 Tryz.f41 1:=bU kw
theorem go7(x0:Sem Q5):rn DR 0 kp7 Tryz.f41 [zE Q5 x0] []=Qc (Ik 16 (zm x0) 14 80) (Tr.ok (zC.ret (agg [str (ze.op (qS 16 (zm x0) 14 80).1),ai (ze.v (qS 16 (zm x0) 14 80).1).1,ai (ze.v (qS 16 (zm x0) 14 80).1).2.1,str (ze.v (qS 16 (zm x0) 14 80).1).2.2,str (ze.s (qS 16 (zm x0) 14 80).1),sl Q5 (ze.l (qS 16 (zm x0) 14 80).1)]) [])):=kw
def gD(x0:Sem Q5):Sem Q5:=ze.mk (ze.op (qS 16 x0 14 80).1) (ze.v (qS 16 x0 14 80).1) (ze.s (qS 16 x0 14 80).1) (ze.l (qS 16 x0 14 80).1)
def Me(x0:Sem Q5):Bool:=if Ik 16 x0 14 80=Q3 then Q3 else Q4
def F7:zX:=zP [Q5] [Q5] (λx=>Me x.1) λx=>(gD x.1,())
theorem zfc:FK 41 F7:=by
 refine aI (ok7) λx hc C hC=>?_
 unfold Me at hc;refine zD vt (ok7) (λid _=>hC id) (go7 x.1) ?_;generalize hy:gD x.1=y;unfold gD at hy
 try simp only[ze.eta]
 repeat' (first|with_reducible refine tM hy hc (λ_ hy hc=>?_) (λ_ hy hc=>?_)|with_reducible refine dc hy (λ_ hy=>?_) (λ_ hy=>?_)|with_reducible refine ii hc (λhc=>?_)|with_reducible refine zJ ?_)
 all_goals(subst hy;first|rfl)
noncomputable def DS:=DR.addL [(200,F22),(41,F7)]
theorem vu:zw DS:=vt.addL<|fc XN<|fc zfc jm
abbrev zlc:Nat->aM:=λ_=>{ }
theorem zhQ:zI (DS).P 151 Tryz.f151 2:=bU kw
theorem zki(x0:Sem Q5)(x1:Sem zj.sl):rn DS 0 zlc Tryz.f151 [zE Q5 x0,zE zj.sl x1] []=Qc (wV (zm x0)) (br (!cY (zm x0)) (Tr.ok (zC.ret (tup [ai 0,ai 1]) [])) (Qc (bc 16 (zm x0) x1) (Tr.ok (zC.ret (tup [ai (zL 16 (zm x0) x1).1,ai (zL 16 (zm x0) x1).2]) [])))):=kw
def bH(x0:Sem Q5)(x1:Sem zj.sl):Sem zg×Sem zg:=if(!cY x0)=Q3 then(0,1)else((zL 16 x0 x1).1,(zL 16 x0 x1).2)
def Fs(x0:Sem Q5)(x1:Sem zj.sl):Bool:=if wV x0=Q3 then if(!cY x0)=Q3 then Q3 else if bc 16 x0 x1=Q3 then Q3 else Q4 else Q4
def F30:zX:=zP [Q5,zj.sl] [zg,zg] (λx=>Fs x.1 x.2.1) λx=>((bH x.1 x.2.1).1,(bH x.1 x.2.1).2,())
theorem XO:FK 151 F30:=by
 refine aI (zhQ) λx hc C hC=>?_
 unfold Fs at hc;refine zD vu (zhQ) (λid _=>hC id) (zki x.1 x.2.1) ?_;generalize hy:bH x.1 x.2.1=y;unfold bH at hy
 try simp only[ze.eta]
 repeat' (first|with_reducible refine tM hy hc (λ_ hy hc=>?_) (λ_ hy hc=>?_)|with_reducible refine dc hy (λ_ hy=>?_) (λ_ hy=>?_)|with_reducible refine ii hc (λhc=>?_)|with_reducible refine zJ ?_)
 all_goals(subst hy;first|rfl)
abbrev zk9:Nat->aM:=λ_=>{ }
theorem zhG:zI (DS).P 244 Tryz.f244 3:=bU kw
theorem zj7(x0:Sem Q5)(x1:Sem zj.sl)(x2:Sem zf.sl):rn DS 0 zk9 Tryz.f244 [zE Q5 x0,zE zj.sl x1,zE zf.sl x2] []=Qc (wV (zm x0)) (br (!cY (zm x0)) (Tr.ok (zC.ret (agg [ai 0,ai 0,str []]) [])) (Qc ([97,110,100]==[97,110,100]&&([111,114]==[111,114]&&([110,111,116]==[110,111,116]&&([61]==[61]&&([60]==[60]&&([43]==[43]&&([45]==[45]&&[110,117,108,108]==[110,117,108,108]))))))) (Qc (uO 16 x1 x2 (zm x0)) (Tr.ok (zC.ret (agg [ai (di 16 x1 x2 (zm x0)).1,ai (di 16 x1 x2 (zm x0)).2.1,str (di 16 x1 x2 (zm x0)).2.2]) []))))):=kw
def jJ(x0:Sem Q5)(x1:Sem zj.sl)(x2:Sem zf.sl):Sem zf:=if(!cY x0)=Q3 then(0,0,[])else di 16 x1 x2 x0
def Fq(x0:Sem Q5)(x1:Sem zj.sl)(x2:Sem zf.sl):Bool:=if wV x0=Q3 then if(!cY x0)=Q3 then Q3 else if([97,110,100]==[97,110,100]&&([111,114]==[111,114]&&([110,111,116]==[110,111,116]&&([61]==[61]&&([60]==[60]&&([43]==[43]&&([45]==[45]&&[110,117,108,108]==[110,117,108,108])))))))=Q3 then if uO 16 x1 x2 x0=Q3 then Q3 else Q4 else Q4 else Q4
def F11:zX:=zP [Q5,zj.sl,zf.sl] [zf] (λx=>Fq x.1 x.2.1 x.2.2.1) λx=>(jJ x.1 x.2.1 x.2.2.1,())
theorem XK:FK 244 F11:=by
 refine aI (zhG) λx hc C hC=>?_
 unfold Fq at hc;refine zD vu (zhG) (λid _=>hC id) (zj7 x.1 x.2.1 x.2.2.1) ?_;generalize hy:jJ x.1 x.2.1 x.2.2.1=y;unfold jJ at hy
 try simp only[ze.eta]
 repeat' (first|with_reducible refine tM hy hc (λ_ hy hc=>?_) (λ_ hy hc=>?_)|with_reducible refine dc hy (λ_ hy=>?_) (λ_ hy=>?_)|with_reducible refine ii hc (λhc=>?_)|with_reducible refine zJ ?_)
 all_goals(subst hy;first|rfl)
noncomputable def XX:=DS.addL [(151,F30),(244,F11)]
theorem Oa:zw XX:=vu.addL<|fc XO<|fc XK jm
theorem kX(d:Int)(h1:-1000<=d)(h2:d<=1000):IntKind.i64.wrap d=d:=by
 rw[fM];omega
theorem FL{P:Nat->ze->ze->Prop}(hP:∀N e(o t s:zB)(l:List ze),(∀y∈l,∃x∈ze.l e,P N x y)->l.length<=3->t.length<=45->s.length<=20->P (N+1) e (.mk o ((ze.v e).1,(ze.v e).2.1,t) s l)):
  ∀(N:Nat)(e:ze)(d n:Int),0<=d->d<N->N<=100->∃r m,oe N e d n=Q1 (r,m,())/\P N e r
 |0,_,_,_,h1,h2,_=>by omega
 | N + 1,e,d,n,h1,h2,h3=>by
  have IH:∀x m,0<d->∃r k,oe N x (IntKind.i64.wrap (d-1)) m=Q1 (r,k,())/\P N x r:=λx m hd=>by
   rw[kX _ ow ow];exact FL hP N x (d-1) m ow ow ow
  generalize hg:(λx0 x1 x2=>HW (oe N x0 x1 x2))=g;generalize hc:(λx0 x1 x2=>(oe N x0 x1 x2).isSome)=c
  have key:∀(k i:Nat)(n:Int)(acc:List ze)(z1:zn nZ)(o t s:zB),i+k=3->acc.length=i->(∀y∈acc,∃x∈ze.l e,P N x y)->
    ∃m r n',zT (uF g c) m (.h10 d n (i:Int) (e,()) z1 (o,(ze.v e).1,(ze.v e).2.1,t,s,acc,())) (.tup [.agg [.str o,.int .i64 (ze.v e).1,.int .i64 (ze.v e).2.1,.str t,.str s,.vec 0],.int .i64 n'],[.vec .expr r])/\m<=k+1/\(∀y∈r,∃x∈ze.l e,P N x y)/\r.length<=3:=by
   intro k
   induction k with
   | zero=>
    intro i n acc z1 o t s hi ha hq;refine⟨1,acc,n,zT.of ?_,ow,hq,ow⟩;have h3:Q0 ((i:Int)<3)=Q4:=by simp;omega
    simp only[uF,Q8,h3,aN,Bool.cond_self,zG,if_false]
   | succ k ih=>
    intro i n acc z1 o t s hi ha hq;by_cases hb:(bif Q0 ((i:Int)<(↑(ze.l e).length:Int))then bif Q0 ((i:Int)<3)then bif Q0 (d>0)then Q0 (n>0)else Q4 else Q4 else Q4)=Q3
    ·have hl:i<(ze.l e).length/\0<d:=by
      cases h1:Q0 ((i:Int)<(↑(ze.l e).length:Int))<;>cases h2:Q0 ((i:Int)<3)<;>cases h3:Q0 (d>0)<;>simp_all
     obtain⟨r,m,e1,e2⟩:=IH (ze.l e)[i] n hl.2;have gx:g (ze.l e)[i] (IntKind.i64.wrap (d-1)) n=(r,m):=by rw[<-hg];simp only[e1];rfl
     have cx:c (ze.l e)[i] (IntKind.i64.wrap (d-1)) n=Q3:=by rw[<-hc];simp only[e1];rfl
     obtain⟨m2,r2,n2,k1,k2,k3,k4⟩:=ih (i+1) m (acc++[r]) z1 o t s ow sg (λy hy=>by
      rcases cN.1 hy with hy|hy
      ·exact hq y hy
      ·rw[fZ]at hy;exact⟨_,bq hl.1,hy▸e2⟩)
     refine⟨m2+1,r2,n2,(zQ.of ?_).ends k1,?_,k3,k4⟩
     ·have hn:(acc.length+[zm r].length<=1073741824):=by simp;omega
      have hin:zM (i:Int) (ze.l e).length=Q3:=by simp[zM,hl.1]
      have hgd:getD (ze.l e) (toNat (i:Int)) (zi Q5)=(ze.l e)[i]:=by rw[aJ,ba,zR hl.1,dq]
      simp only[uF,Q8,hb,hin,hgd,zl,gx,cx,if_true];rw[zl]at hn;rw[if_pos (zt hn),zp i um]
     ·omega
    ·refine⟨1,acc,n,zT.of ?_,ow,hq,ow⟩;simp only[uF,Q8];rw[if_neg hb]
  have h8:∀(z1:zn nZ)(o t s:zB),t.length<=45->s.length<=20->∃r m R,zT (uF g c) 101 (.h500008 d (IntKind.i64.wrap (n-1)) (e,()) z1 (o,(ze.v e).1,(ze.v e).2.1,t,s,())) R/\aL R.2 [Q5,zg] R.1=Q1 (r,m,())/\P (N+1) e r:=λz1 o t s ht hs=>by
   obtain⟨m,r,n',k1,k2,k3,k4⟩:=key 3 0 (IntKind.i64.wrap (n-1)) [] z1 o t s rfl rfl sw;exact⟨.mk o ((ze.v e).1,(ze.v e).2.1,t) s r,n',_,((zQ.of rfl).ends k1).mono ow,rfl,hP N e o t s r k3 k4 ht hs⟩
  have h6:∀(z1:zn nZ)(o s:zB),s.length<=20->∃r m R,zT (uF g c) 102 (.h500006 d n (Q0 ((↑(length (ze.v e).2.2):Int)>45)) (e,()) z1 (o,(ze.v e).1,(ze.v e).2.1,(ze.v e).2.2,s,())) R/\aL R.2 [Q5,zg] R.1=Q1 (r,m,())/\P (N+1) e r:=λz1 o s hs=>by
   by_cases hb:(length (ze.v e).2.2:Int)>45
   ·obtain⟨r,m,R,e1,e2,e3⟩:=h8 z1 o (Qg (toNat 45-toNat 0) (Qh (toNat 0) (ze.v e).2.2)) s sg hs;refine⟨r,m,R,(zQ.of ?_).ends e1,e2,e3⟩;have h45:Q0 ((45:Int)<=(length (ze.v e).2.2:Int))=Q3:=by simp;omega
    simp only[uF,Q8,zt hb,h45,if_true];rfl
   ·obtain⟨r,m,R,e1,e2,e3⟩:=h8 z1 o (ze.v e).2.2 s ow hs;refine⟨r,m,R,(zQ.of ?_).ends e1,e2,e3⟩;simp only[uF,Q8,af hb,zG,if_false]
  have h4:∀(z1:zn nZ)(o:zB),∃r m R,zT (uF g c) 103 (.h500004 d n (Q0 ((↑(length (ze.s e)):Int)>20)) (e,()) z1 (o,(ze.v e).1,(ze.v e).2.1,(ze.v e).2.2,ze.s e,())) R/\aL R.2 [Q5,zg] R.1=Q1 (r,m,())/\P (N+1) e r:=λz1 o=>by
   by_cases hb:(length (ze.s e):Int)>20
   ·obtain⟨r,m,R,e1,e2,e3⟩:=h6 z1 o (Qg (toNat 20-toNat 0) (Qh (toNat 0) (ze.s e))) sg;refine⟨r,m,R,(zQ.of ?_).ends e1,e2,e3⟩;have h20:Q0 ((20:Int)<=(length (ze.s e):Int))=Q3:=by simp;omega
    simp only[uF,Q8,zt hb,h20,if_true];rfl
   ·obtain⟨r,m,R,e1,e2,e3⟩:=h6 z1 o (ze.s e) ow;refine⟨r,m,R,(zQ.of ?_).ends e1,e2,e3⟩;simp only[uF,Q8,af hb,zG,if_false]
  have e0:oe (N+1) e d n=zf0 g c e d n:=by rw[<-hg,<-hc];rfl
  rw[e0];by_cases hb:(length (ze.op e):Int)>8
  ·obtain⟨r,m,R,e1,e2,e3⟩:=h4 ([],0,0,[],[],()) (Qg (toNat 8-toNat 0) (Qh (toNat 0) (ze.op e)));refine⟨r,m,zx ?_ e1 ow e2,e3⟩;have h8:Q0 ((8:Int)<=(length (ze.op e):Int))=Q3:=by simp;omega
   simp only[Rz,Q8,zt hb,h8,if_true];rfl
  ·obtain⟨r,m,R,e1,e2,e3⟩:=h4 ([],0,0,[],[],()) (ze.op e);refine⟨r,m,zx ?_ e1 ow e2,e3⟩;simp only[Rz,Q8,af hb,zG,if_false]
theorem KA(N:Nat)(e:ze)(d n:Int)(h1:0<=d)(h2:d<N)(h3:N<=100):Ik N e d n=Q3:=by
 obtain⟨r,m,h,_⟩:=FL (P:=λ_ _ _=>True) (λ_ _ _ _ _ _ _ _ _ _=>trivial) N e d n h1 h2 h3;unfold Ik;rw[h];rfl
theorem Bi{g:ze->Int->Int->Bool×Int}{c:ze->Int->Int->Bool}{d:Int}(h:∀x n,c x (IntKind.i64.wrap (d+1)) n=Q3):∀(l:List ze)(n:Int),Bh g c d l n=Q3
 |[],_=>rfl
 | x::r,n=>by
  rw[Bh,if_pos (h x n)];split
  ·rfl
  ·exact Bi h r _
theorem Bg:∀(N:Nat)(e:ze)(d n:Int),0<=d->d<=13->14<=d+N->tH N e d n=Q3
 |0,_,_,_,_,_,_=>by omega
 | N+1,e,d,n,h1,h2,h3=>by
  rw[tH];unfold MC;by_cases hd:d>12
  ·simp[hd]
  ·have hl:Bh (gX N) (tH N) d e.l (IntKind.i64.wrap (n+1))=Q3:=Bi (λx m=>by
    rw[kX _ ow ow];exact Bg N x (d+1) m ow ow ow) _ _
   repeat' split
   all_goals first|rfl|exact hl
abbrev vY:ze:=.mk [] (0,0,[]) [] []
theorem Ls(N:Nat)(e:ze):iU (N+1) e vY=Q3:=by
 rw[iU];unfold GQ;have hl:wY (fh N) (iU N) e.l []=Q3:=by
  unfold wY;split
  ·rfl
  ·cases e.l<;>rfl
 show(bif e.op==[]then bif TZ e.v (0,0,[])then bif e.s==[]then wY (fh N) (iU N) e.l []else Q3 else Q3 else Q3)=Q3;rw[hl];cases e.op==[]<;>cases TZ e.v (0,0,[])<;>cases e.s==[]<;>rfl
theorem ia{α:Type}(p:α->Bool):∀(l:List α)(i:Nat),ae p l i=-1\/((i:Int)<=ae p l i/\ae p l i<i+l.length)
 |[],_=>.inl rfl
 | x::r,i=>by
  unfold ae;split
  ·exact .inr ⟨ow,sg⟩
  ·rcases ia p r (i+1)with h|⟨h1,h2⟩
   ·exact .inl h
   ·exact .inr ⟨ow,sg⟩
theorem Fm(l:List (Sem zj))(s:zB):zZ l s=-1\/(0<=zZ l s/\zZ l s<l.length):=by
 have:=ia (λc:Sem zj=>c.1==s) l 0;unfold zZ;simpa using this
theorem ly(op:zB):(cK op=0/\(op=[108,105,116]\/op=[99,111,108]))\/(cK op=1/\(op=[110,111,116]\/op=[110,117,108,108]))\/
  (cK op=2/\(op=[97,110,100]\/op=[111,114]\/op=[61]\/op=[60]\/op=[43]\/op=[45]))\/cK op=-1:=by
 unfold cK xn;simp only[No];repeat' split
 all_goals simp_all
theorem vX{g:ze->Int->Int->Bool×Int}{e:ze}{d n:Int}(h:(xH g e d n).1=Q3):(e.l.length:Int)=cK e.op/\
  ((e.op=[108,105,116]\/e.op=[99,111,108])\/(oh g d e.l (IntKind.i64.wrap (n+1))).1=Q3):=by
 unfold xH at h;split at h
 ·cases h
 ·rename_i h1;have hl:(e.l.length:Int)=cK e.op:=by
   cases h2:Q0 (d>12)<;>cases h3:Q0 (IntKind.i64.wrap (n+1)>60)<;>simp_all
  refine⟨hl,?_⟩;split at h
  ·rename_i h2;exact .inl (.inl (by simpa using h2))
  ·split at h
   ·rename_i h2;exact .inl (.inr (by simpa using h2))
   ·split at h
    ·cases h
    ·exact .inr h
theorem tI{g:ze->Int->Int->Bool×Int}{d:Int}:∀(l:List ze)(n:Int),(oh g d l n).1=Q3->∀x∈l,∃m,(g x (IntKind.i64.wrap (d+1)) m).1=Q3
 |[],_,_,_,hx=>by simp at hx
 | y::r,n,h,x,hx=>by
  rw[oh]at h;split at h
  ·cases h
  ·rename_i hy;rcases cj.1 hx with rfl|hx
   ·exact⟨n,by simpa using hy⟩
   ·exact tI r _ h x hx
theorem xz{g:ze->List (Sem zj)->Int×Int}{c:ze->List (Sem zj)->Bool}{cols:List (Sem zj)}{op:zB}{a1 a2:Int}{a3 a4:zB}{w:List ze}:
    ∀(l:List ze)(i:Int)(acc:List Int),(∀x∈l,c x cols=Q3)->((acc.length:Int)+l.length)=cK op->fI g c cols op a1 a2 a3 a4 w l i acc=Q3
  | [], i,acc,_,hp=>by
    have hp:(acc.length:Int)=cK op:=by simpa using hp
    have hcp:Q0 (zZ cols a4<0)=Q3\/zM (zZ cols a4) cols.length=Q3:=by
      rcases Fm cols a4 with h|⟨h1,h2⟩
      · exact .inl (by rw[h];rfl)
      · exact .inr (by simp[zM,h1,h2])
    have h2:op=[61]\/op=[60]->acc.length=2:=by
      rintro(rfl|rfl)
      · have:cK [61]=2:=by decide
        omega
      · have:cK [60]=2:=by decide
        omega
    unfold fI;repeat' split
    all_goals first
      |rfl
      |(exfalso;rcases hcp with h|h<;>simp_all;done)
      | (exfalso
         rename_i h7 h8;have h9:=h2 (by simp_all);rw[h9]at h8;exact h8 (by cases hA:(acc.getD (toNat 0) (zi zg)==acc.getD (toNat 1) (zi zg))<;>cases hB:(acc.getD (toNat 0) (zi zg)==0)<;>rfl))
  | x :: r,i,acc,hc,hp=>by
    have hle:cK op<=2:=by rcases ly op with h|h|h|h<;>omega
    rw[fI,if_pos (hc x sw)];split
    · rfl
    · rw[if_pos (by simp at hp⊢;omega)]
      exact xz r (i+1) _ (λy hy=>hc y (by simp[hy])) (by simp at hp⊢;omega)
theorem uK:∀(N:Nat)(e:ze)(d n:Int)(cols:List (Sem zj)),(gX N e d n).1=Q3->bc N e cols=Q3
 |0,_,_,_,_,h=>by cases h
 | N+1,e,d,n,cols,h=>by
  rw[gX]at h;obtain⟨hl,h2⟩:=vX h;rw[bc];unfold yQ;refine xz e.l 0 [] (λx hx=>?_) (by simpa using hl);rcases h2 with h2|h2
  ·exfalso;have:cK e.op=0:=by
    rcases h2 with h2|h2<;>rw[h2]<;>decide
   rw[this]at hl;have:e.l=[]:=xD ow;rw[this]at hx;simp at hx
  ·obtain⟨m,hm⟩:=tI e.l _ h2 x hx;exact uK N x _ _ cols hm
theorem CO:∀(N:Nat)(e:ze)(d n:Int)(cols:List (Sem zj))(row:List (Sem zf)),(gX N e d n).1=Q3->uO N cols row e=Q3
 |0,_,_,_,_,_,h=>by cases h
 | N + 1,.mk op v s l,d,n,cols,row,h=>by
  rw[gX]at h;obtain⟨hl,h2⟩:=vX h;have hl:(l.length:Int)=cK op:=hl;have h2:(op=[108,105,116]\/op=[99,111,108])\/(oh (gX N) d l (IntKind.i64.wrap (n+1))).1=Q3:=h2;have hx:∀x∈l,(¬(op=[108,105,116]\/op=[99,111,108]))->uO N cols row x=Q3:=by
   intro x hx hno;rcases h2 with h2|h2
   ·exact(hno h2).elim
   ·obtain⟨m,hm⟩:=tI l _ h2 x hx;exact CO N x _ _ cols row hm
  have hcol:(if(bif Q0 (zZ cols s<0)then Q3 else Q0 (zZ cols s>=(↑row.length:Int)))=Q3 then Q3 else zM (zZ cols s) row.length)=Q3:=by
   split
   ·rfl
   ·rename_i hh;have h1:0<=zZ cols s/\zZ cols s<row.length:=by
     cases hq:Q0 (zZ cols s<0)
     ·rw[hq]at hh;simp at hq hh;exact⟨hq,hh⟩
     ·rw[hq]at hh;simp at hh
    simp[zM,h1.1,h1.2]
  rw[uO];rcases ly op with⟨hp,ho⟩|⟨hp,ho⟩|⟨hp,ho⟩|hp
  ·have:l=[]:=xD ow;subst this;rcases ho with rfl|rfl
   ·rfl
   ·rw[uP];exact hcol
  ·match l,hl,hx with
   | [a],_,hx=>
    rcases ho with rfl|rfl
    ·rw[uP];exact(if_pos (hx a sw (by decide))).trans rfl
    ·rw[uP];exact(if_pos (hx a sw (by decide))).trans rfl
   |[],hl,_=>simp at hl;omega
   |_::_::_,hl,_=>simp at hl;omega
  ·match l,hl,hx with
   | [a,b],_,hx=>
    rcases ho with rfl|rfl|rfl|rfl|rfl|rfl<;>
     (rw[uP];exact(if_pos (hx a sw (by decide))).trans ((if_pos (hx b sw (by decide))).trans rfl))
   |[],hl,_=>simp at hl;omega
   |[_],hl,_=>simp at hl;omega
   |_::_::_::_,hl,_=>simp at hl;omega
  ·omega
theorem rS(e:ze):wV e=Q3:=by
 unfold wV;rw[if_pos (Bg 16 e 1 0 ow ow ow)]
theorem Ki(e:ze):Me e=Q3:=by
 unfold Me;rw[if_pos (KA 16 e 14 80 ow ow ow)]
theorem HX(e:ze)(cols:List (Sem zj)):Fs e cols=Q3:=by
 unfold Fs;rw[if_pos (rS e)];split
 ·rfl
 ·rename_i h;rw[if_pos (uK 16 e 1 0 cols (by simpa[cY]using h))]
theorem HV(e:ze)(cols:List (Sem zj))(row:List (Sem zf)):Fq e cols row=Q3:=by
 unfold Fq;rw[if_pos (rS e)];split
 ·rfl
 ·rename_i h;rw[if_pos (by decide),if_pos (CO 16 e 1 0 cols row (by simpa[cY]using h))]
def zdt:zX:=aC [Q5] [Q7] λx=>(cY x.1,())
theorem ZH:FK 200 zdt:=mO XN λx=>rS x.1
def F7t:zX:=aC [Q5] [Q5] λx=>(gD x.1,())
theorem zfk:FK 41 F7t:=mO zfc λx=>Ki x.1
def zdD:zX:=aC [Q5,zj.sl] [zg,zg] λx=>((bH x.1 x.2.1).1,(bH x.1 x.2.1).2,())
theorem ZT:FK 151 zdD:=mO XO λx=>HX x.1 x.2.1
def zc7:zX:=aC [Q5,zj.sl,zf.sl] [zf] λx=>(jJ x.1 x.2.1 x.2.2.1,())
theorem Zl:FK 244 zc7:=mO XK λx=>HV x.1 x.2.1 x.2.2.1
noncomputable def XY:=XX.addL [(200,zdt),(41,F7t),(151,zdD),(244,zc7)]
theorem vw:zw XY:=Oa.addL<|fc ZH<|fc zfk<|fc ZT<|fc Zl jm
noncomputable section
set_option maxHeartbeats 4000000
abbrev sZ:List CP:=[.d zo]
abbrev Vo:List CP:=[.d .str,.nil,.d zg,.nil,.nil,.d .str,.d zg,.d zg,.d .str,.d .str,.nil]
abbrev zfN:List CP:=[.d .str,.d (.sl zj),.d zg,.vec zg,.nil,.d .expr]
abbrev zfO:List CP:=[.d .str,.d (.sl zj),.d zg,.vec zg,.vec zr,.d .expr]
def Rq(x0:Sem Q5)(x1:Sem zj.sl):Tr (Empty⊕aw):=Qc (iU 16 (zm x0) (ze.mk [] (0,0,[]) [] [])) (br (fh 16 (zm x0) (ze.mk [] (0,0,[]) [] [])) (re (ai 0) []) (br (bif (bH (zm x0) x1).2==0 then bif (bH (zm x0) x1).1!=3 then(bH (zm x0) x1).1!=0 else Q4 else Q4) (re (ai 5) []) (re (ai (bH (zm x0) x1).2) [])))
def JD(x0:Sem Q5)(x1:Sem zj.sl):=al [zg] t0 100000000 (Rq x0 x1)
def XA:=FT [Q5,zj.sl] [zg] λx=>JD x.1 x.2.1
theorem LU:FK 170 XA:=vw.T1 (f:=Tryz.f170) (keep:=k0) (e:=e0)
abbrev zhn:Nat->aM:=λj=>if j=3 then{slots:=[1,2,3,4],prom:=[(3,Q1 3,zg)]}else if j=7 then{slots:=[1,2,3,5],prom:=[(3,Q1 4,zr)]}else{ }
inductive Hy where
 |h3 (i4:Int) (z0:zn sZ) (z1:zn Vo) (z2:zn zfN)
 |h7 (i5:Int) (z0:zn sZ) (z1:zn Vo) (z2:zn zfO)
abbrev zjT:Hy->Nat×St
 |.h3 i4 z0 z1 z2=>(3,⟨tm 70 [(1,ptr 0 0),(2,ptr 1 0),(3,ptr 2 0),(4,ai i4)],[Qa (bC [] sZ z0),Qa (bC [] Vo z1),Qa (bC [3] zfN z2),AO.vec zg z2.2.2.2.1]⟩)
 |.h7 i5 z0 z1 z2=>(7,⟨tm 70 [(1,ptr 0 0),(2,ptr 1 0),(3,ptr 2 0),(5,ai i5)],[Qa (bC [] sZ z0),Qa (bC [] Vo z1),Qa (bC [3,4] zfO z2),AO.vec zg z2.2.2.2.1,AO.vec zr z2.t.1]⟩)
def zbL(x0:Sem zo):Tr (Hy⊕aw):=Q9 (Hy.h3 0 (x0,()) ([],0,[],0,0,[],[],()) (iT x0.1,jo x0.2.1,x0.2.2.1,[],gD (zm x0.t.2),()))
def G9:Hy->Tr (Hy⊕aw)
 | .h3 i4 z0 z1 z2=>
  let a0:=(↑(length z0.1.2.2.2.1):Int)
  let a1:=[getD z0.1.2.2.2.1 i4.toNat (zi zg)]
  br (bif Q0 (i4<a0)then Q0 (i4<10)else Q4)
  (Qc (zM i4 (length z0.1.2.2.2.1)) (Qc (Q0 (z2.2.2.2.1.length+a1.length<=1073741824)) (Q9 (Hy.h3 (IntKind.i64.wrap (i4+1)) z0 z1 (z2.1,z2.2.1,z2.2.2.1,z2.2.2.2.1++a1,z2.t)))))
  (Q9 (Hy.h7 0 z0 z1 (z2.1,z2.2.1,z2.2.2.1,z2.2.2.2.1,[],z2.t)))
 | .h7 i5 z0 z1 z2=>
  let a0:=(↑(length z0.1.t.1):Int)
  let a1:=zM i5 (length z0.1.t.1)
  let a2:=getD z0.1.t.1 i5.toNat (zi zr)
  let a3:=[(a2.1,iT a2.2)]
  br (bif Q0 (i5<a0)then Q0 (i5<10)else Q4)
  (Qc a1 (Qc a1 (Qc (Q0 (z2.t.1.length+a3.length<=1073741824)) (Q9 (Hy.h7 (IntKind.i64.wrap (i5+1)) z0 z1 (z2.1,z2.2.1,z2.2.2.1,z2.2.2.2.1,z2.t.1++a3,z2.t.2))))))
  (re (agg [str z2.1,sl zj z2.2.1,ai z2.2.2.1,AV.vec 0,AV.vec 1,str (ze.op z2.t.2.1),ai (ze.v z2.t.2.1).1,ai (ze.v z2.t.2.1).2.1,str (ze.v z2.t.2.1).2.2,str (ze.s z2.t.2.1),sl Q5 (ze.l z2.t.2.1)]) [AO.vec zg z2.2.2.2.1,AO.vec zr z2.t.1])
def TE(x0:Sem zo):=al [zo] G9 100000000 (zbL x0)
def zd9:=FT [zo] [zo] λx=>TE x.1
theorem Pw:FK 70 zd9:=vw.T1 (f:=Tryz.f70) (keep:=zhn) (e:=zjT)
def iq(x0:Sem Q5)(x1:Sem zj.sl):Sem zg:=if fh 16 x0 (ze.mk [] (0,0,[]) [] [])=Q3 then 0 else if(bif (bH x0 x1).2==0 then bif (bH x0 x1).1!=3 then(bH x0 x1).1!=0 else Q4 else Q4)=Q3 then 5 else(bH x0 x1).2
theorem Lq(e:ze)(cols:LC):JD e cols=Q1 (iq e cols,()):=by
 have hv:(Rq e cols).val=Q1 (.inr (.int .i64 (iq e cols),[])):=by
  unfold iq;simp only[Rq,zl,Q8];rw[if_pos (Ls 15 e)];repeat' split
  all_goals rfl
 exact zN hv rfl
def CH(t:Sem zo):Sem zo:=(iT t.1,jo t.2.1,t.2.2.1,Qg 10 t.2.2.2.1,(Qg 10 t.t.1).map (λf:Sem zr=>((f.1,iT f.2):Sem zr)),gD t.t.2)
theorem TF(t:Sem zo):TE t=Q1 (CH t,()):=by
 have g1:=zQ.all (t:=G9) 1 (λi=>.h3 (i:Int) (t,()) ([],0,[],0,0,[],[],()) (iT t.1,jo t.2.1,t.2.2.1,Qg i t.2.2.2.1,gD t.t.2,())) (min 10 (length t.2.2.2.1)) λi hi=>zQ.of (by
  have hl:i<length t.2.2.2.1:=by omega
  simp only[G9,Q8,VX (k:=10) (K:=10) rfl hi,zu hl,if_true,aJ];rw[if_pos sg,zp i um,He hl (zi zg)])
 have g2:zQ G9 1 (.h3 ((min 10 (length t.2.2.2.1):Nat):Int) (t,()) ([],0,[],0,0,[],[],()) (iT t.1,jo t.2.1,t.2.2.1,Qg (min 10 (length t.2.2.2.1)) t.2.2.2.1,gD t.t.2,())) (.h7 ((0:Nat):Int) (t,()) ([],0,[],0,0,[],[],()) (iT t.1,jo t.2.1,t.2.2.1,Qg (min 10 (length t.2.2.2.1)) t.2.2.2.1,[],gD t.t.2,())):=zQ.of (by
  simp only[G9,Q8,MB (k:=10) (K:=10) rfl,zG,if_false];rfl)
 rw[uH]at g1 g2;have g3:=zQ.all (t:=G9) 1 (λi=>.h7 (i:Int) (t,()) ([],0,[],0,0,[],[],()) (iT t.1,jo t.2.1,t.2.2.1,Qg 10 t.2.2.2.1,(Qg i t.t.1).map (λf:Sem zr=>((f.1,iT f.2):Sem zr)),gD t.t.2,())) (min 10 (length t.t.1)) λi hi=>zQ.of (by
  have hl:i<length t.t.1:=by omega
  simp only[G9,Q8,VX (k:=10) (K:=10) rfl hi,zu hl,if_true,aJ];rw[if_pos sg,zp i um,He hl (zi zr),gZ];rfl)
 rw[uH]at g3;have he:zT G9 1 (.h7 ((min 10 (length t.t.1):Nat):Int) (t,()) ([],0,[],0,0,[],[],()) (iT t.1,jo t.2.1,t.2.2.1,Qg 10 t.2.2.2.1,(Qg 10 t.t.1).map (λf:Sem zr=>((f.1,iT f.2):Sem zr)),gD t.t.2,())) _:=zT.of (by
  simp only[G9,Q8,MB (k:=10) (K:=10) rfl,zG,if_false];rfl)
 have hs:(zbL t).val=Q1 (.inl (.h3 ((0:Nat):Int) (t,()) ([],0,[],0,0,[],[],()) (iT t.1,jo t.2.1,t.2.2.1,Qg 0 t.2.2.2.1,gD t.t.2,()))):=by
  simp only[zbL,zl,Q8];rfl
 unfold CH;rw[<-zl (gD t.t.2)];exact zx hs (((g1.trans g2).trans g3).ends he) ow rfl
def XZ:=XY.addL [(170,XA),(70,zd9)]
theorem Ob:zw XZ:=vw.addL<|fc LU<|fc Pw jm
end
def zdq:zX:=aC [Q5,zj.sl] [zg] λx=>(iq x.1 x.2.1,())
theorem ZE:FK 170 zdq:=gJ LU λx=>Lq x.1 x.2.1
def F5t:zX:=aC [zo] [zo] λx=>(CH x.1,())
theorem ze4:FK 70 F5t:=gJ Pw λx=>TF x.1
noncomputable def QH:=XZ.addL [(170,zdq),(70,F5t)]
theorem DT:zw QH:=Ob.addL<|fc ZE<|fc ze4 jm
abbrev zbS:=mM [(4,[1,27,28,29]),(11,[1,5,59,60,61]),(17,[1,5,71,72,73])]
inductive qX where
 |h4 (l27:LC) (i28:Int) (i29:Int) (z0:zn sZ)
 |h11 (l59:LI) (i60:Int) (i61:Int) (z0:zn sZ)
 |h17 (l71:LF) (i72:Int) (i73:Int) (z0:zn sZ)
abbrev zfQ:qX->Nat×St
 |.h4 l27 i28 i29 z0=>(4,⟨tm 110 [(1,ptr 0 0),(27,sl zj l27),(28,ai i28),(29,ai i29)],[Qa (bC [] sZ z0)]⟩)
 |.h11 l59 i60 i61 z0=>(11,⟨tm 110 [(1,ptr 0 0),(5,AV.clo (Fn.func 169) [] [ptr 0 0]),(59,sl zg l59),(60,ai i60),(61,ai i61)],[Qa (bC [] sZ z0)]⟩)
 |.h17 l71 i72 i73 z0=>(17,⟨tm 110 [(1,ptr 0 0),(5,AV.clo (Fn.func 169) [] [ptr 0 0]),(71,sl zr l71),(72,ai i72),(73,ai i73)],[Qa (bC [] sZ z0)]⟩)
noncomputable def Is(x0:Sem zo):Tr (qX⊕aw):=
 let a0:=(↑(length x0.2.1):Int)
 br (bif !zK x0.1 then Q3 else bif Q0 (a0<1)then Q3 else Q0 (a0>8)) (re (kb Q4) [])
 (Q9 (qX.h4 x0.2.1 a0 0 (x0,())))
noncomputable def nU:qX->Tr (qX⊕aw)
 | .h4 l27 i28 i29 z0=>
  let a0:=l27.getD i29.toNat (zi zj)
  br (Q0 (i29<i28))
  (Qc (zM i29 l27.length) (br (bif !zK a0.1 then Q3 else bif Q0 (a0.2.1<1)then Q3 else bif Q0 (a0.2.1>3)then Q3 else zO (z0.1.1,z0.1.2.1,z0.1.2.2.1,z0.1.2.2.2.1,z0.1.t.1,zm z0.1.t.2) a0.1!=i29) (re (kb Q4) []) (Q9 (qX.h4 l27 i28 (IntKind.i64.wrap (i29+1)) z0))))
  (Q9 (qX.h11 z0.1.2.2.2.1 (↑(length z0.1.2.2.2.1):Int) 0 z0))
 | .h11 l59 i60 i61 z0=>
  let a0:=l59.getD i61.toNat (zi zg)
  let a1:=(↑(length z0.1.2.1):Int)
  br (Q0 (i61<i60))
  (Qc (zM i61 l59.length) (br (!bif Q0 (a0>=0)then Q0 (a0<a1)else Q4) (re (kb Q4) []) (Q9 (qX.h11 l59 i60 (IntKind.i64.wrap (i61+1)) z0))))
  (Q9 (qX.h17 z0.1.t.1 (↑(length z0.1.t.1):Int) 0 z0))
 | .h17 l71 i72 i73 z0=>
  let a0:=l71.getD i73.toNat (zi zr)
  let a1:=(↑(length z0.1.2.1):Int)
  let a2:=getD z0.1.2.1 (toNat z0.1.2.2.1) (zi zj)
  br (Q0 (i73<i72))
  (Qc (zM i73 l71.length) (br (!bif Q0 (a0.1>=0)then Q0 (a0.1<a1)else Q4) (re (kb Q4) []) (br (!zK a0.2) (re (kb Q4) []) (Q9 (qX.h17 l71 i72 (IntKind.i64.wrap (i73+1)) z0)))))
  (br (bif Q0 (z0.1.2.2.1>=0)then Q0 (z0.1.2.2.1<a1)else Q4) (Qc (zM z0.1.2.2.1 (length z0.1.2.1)) (br a2.2.2 (re (AV.bool (iq (zm z0.1.t.2) z0.1.2.1==0)) []) (re (kb Q4) []))) (re (kb Q4) []))
noncomputable def zcH(x0:Sem zo):=al [Q7] nU 40000000000000000000 (Is x0)
theorem QZ{σ:Type}{t:σ->Tr (σ⊕aw)}{st:Nat->σ}{N:Nat}{b:Nat->Bool}{R:aw}(h:∀i,i<N->(t (st i)).val=if b i=Q3 then Q1 (.inl (st (i+1)))else Q1 (.inr R)):
  ((List.range N).all b=Q3/\zQ t N (st 0) (st N))\/((List.range N).all b=Q4/\zT t N (st 0) R):=by
 rcases lH (t:=t) (Φ:=λr=>r=R) 1 st (λi=>b i=Q3) N (λi hi _=>by
  cases hb:b i
  ·exact .inr ⟨sw,R,zT.of (by rw[h i hi,hb];rfl),rfl⟩
  ·exact .inl ⟨rfl,zQ.of (by rw[h i hi,hb];rfl)⟩)with⟨h1,h2⟩|⟨h1,r,h2,rfl⟩
 ·exact .inl ⟨by rw[dT];exact λi hi=>h1 i (oy.1 hi),h2.mono ow⟩
 ·refine .inr ⟨?_,h2.mono ow⟩;rw[Bool.eq_false_iff,Ne,dT];exact λq=>h1 λi hi=>q i (oy.2 hi)
def vQ(x:Int)(n:Nat):Bool:=bif Q0 (x>=0)then Q0 (x<(n:Int))else Q4
def Ke(t:Sem zo)(i:Nat):Bool:=!(bif !zK (getD t.2.1 i (zi zj)).1 then Q3 else bif Q0 ((getD t.2.1 i (zi zj)).2.1<1)then Q3 else bif Q0 ((getD t.2.1 i (zi zj)).2.1>3)then Q3 else zO t (getD t.2.1 i (zi zj)).1!=(i:Int))
def Wr(t:Sem zo)(i:Nat):Bool:=vQ (getD t.t.1 i (zi zr)).1 (length t.2.1)&&zK (getD t.t.1 i (zi zr)).2
def eF(t:Sem zo):Sem Q7:=!(bif !zK t.1 then Q3 else bif Q0 ((↑(length t.2.1):Int)<1)then Q3 else Q0 ((↑(length t.2.1):Int)>8))&&((List.range (length t.2.1)).all (Ke t)&&((List.range (length t.2.2.2.1)).all (λi=>vQ (getD t.2.2.2.1 i (zi zg)) (length t.2.1))&&((List.range (length t.t.1)).all (Wr t)&&(vQ t.2.2.1 (length t.2.1)&&((getD t.2.1 (toNat t.2.2.1) (zi zj)).2.2&&(iq t.t.2 t.2.1==0))))))
theorem TG{t:Sem zo}(h2:length t.2.2.2.1<=aE)(h3:length t.t.1<=aE):zcH t=Q1 (eF t,()):=by
 unfold eF;by_cases h0:(bif !zK t.1 then Q3 else bif Q0 ((↑(length t.2.1):Int)<1)then Q3 else Q0 ((↑(length t.2.1):Int)>8))=Q3
 ·rw[h0];refine zN (r:=(.kb Q4,[])) ?_ rfl;simp only[Is,Q8];exact if_pos h0
 have h8:length t.2.1<=8:=by
  cases hn:zK t.1
  ·rw[hn]at h0;simp at h0
  ·rw[hn]at h0;simp at h0;omega
 have hs:(Is t).val=Q1 (.inl (.h4 t.2.1 (length t.2.1:Int) ((0:Nat):Int) (t,()))):=by
  simp only[Is,Q8];exact if_neg h0
 rw[gg]at h0;rw[h0];have hm:aE=9223372036854775807:=rfl
 rcases QZ (t:=nU) (R:=(.kb Q4,[])) (N:=length t.2.1) (st:=λi=>.h4 t.2.1 (length t.2.1:Int) (i:Int) (t,())) (b:=Ke t) (λi hi=>by
  simp only[nU,Q8,zH hi,zu hi,if_true,aJ,zl,Prod.eta,zp i (show i<aE by omega)];unfold Ke;split
  ·rename_i c;rw[c];rfl
  ·rename_i c;rw[gg]at c;rw[c];rfl)with⟨a1,g1⟩|⟨a1,g1⟩
 rotate_left
 ·rw[a1];exact zx hs g1 ow rfl
 have g1':=g1.trans (zQ.of (s':=.h11 t.2.2.2.1 (length t.2.2.2.1:Int) ((0:Nat):Int) (t,())) (by
  simp only[nU,Q8,zA,zG,if_false];rfl))
 rw[a1]
 rcases QZ (t:=nU) (R:=(.kb Q4,[])) (N:=length t.2.2.2.1) (st:=λi=>.h11 t.2.2.2.1 (length t.2.2.2.1:Int) (i:Int) (t,())) (b:=λi=>vQ (getD t.2.2.2.1 i (zi zg)) (length t.2.1)) (λi hi=>by
  simp only[nU,Q8,zH hi,zu hi,if_true,aJ,zp i (show i<aE by omega)];unfold vQ;split
  ·rename_i c;rw[wK]at c;rw[c];rfl
  ·rename_i c;rw[gg,Bool.not_eq_false']at c;rw[c];rfl)with⟨a2,g2⟩|⟨a2,g2⟩
 rotate_left
 ·rw[a2];exact zx hs (g1'.ends g2) ow rfl
 have g2':=(g1'.trans g2).trans (zQ.of (s':=.h17 t.t.1 (length t.t.1:Int) ((0:Nat):Int) (t,())) (by
  simp only[nU,Q8,zA,zG,if_false];rfl))
 rw[a2]
 rcases QZ (t:=nU) (R:=(.kb Q4,[])) (N:=length t.t.1) (st:=λi=>.h17 t.t.1 (length t.t.1:Int) (i:Int) (t,())) (b:=Wr t) (λi hi=>by
  simp only[nU,Q8,zH hi,zu hi,if_true,aJ,zp i (show i<aE by omega)];unfold Wr vQ;split
  ·rename_i c;rw[wK]at c;rw[c];rfl
  ·rename_i c;rw[gg,Bool.not_eq_false']at c;rw[c];cases zK (getD t.t.1 i (zi zr)).2<;>rfl)with⟨a3,g3⟩|⟨a3,g3⟩
 rotate_left
 ·rw[a3];exact zx hs (g2'.ends g3) ow rfl
 rw[a3];have hend:∃r,(nU (.h17 t.t.1 (length t.t.1:Int) (length t.t.1:Int) (t,()))).val=Q1 (.inr r)/\aL r.2 [Q7] r.1=Q1 ((vQ t.2.2.1 (length t.2.1)&&((getD t.2.1 (toNat t.2.2.1) (zi zj)).2.2&&(iq t.t.2 t.2.1==0))),()):=by
  simp only[nU,Q8,zA,zl,zG,if_false];unfold vQ;cases c:(bif Q0 (t.2.2.1>=0)then Q0 (t.2.2.1<(↑(length t.2.1):Int))else Q4)
  ·exact⟨_,rfl,rfl⟩
  ·have hi:zM t.2.2.1 (length t.2.1)=Q3:=by
    cases h1:Q0 (t.2.2.1>=0)<;>simp_all[zM]
   rw[hi];cases(getD t.2.1 (toNat t.2.2.1) (zi zj)).2.2
   ·exact⟨_,rfl,rfl⟩
   ·exact⟨_,rfl,rfl⟩
 obtain⟨r,e1,e2⟩:=hend;exact zx hs ((g2'.trans g3).ends (zT.of e1)) ow e2
theorem ok8:zI QH.P 113 Tryz.f113 1:=bU kw
def F8t:zX:=aC [zo] [Q7] λx=>(eF x.1,())
theorem zft:FK 113 F8t:=zW ok8 λx C hC=>Reach.lenA 0 3 zg x.1.2.2.2.1 rfl rfl λh2=>Reach.lenA 0 4 zr x.1.t.1 rfl rfl λh3=>
 Wq (n0:=0) (t:=nU) (e:=zfQ) (keep:=zbS) (gas:=400) (i:=Is x.1) DT ok8 (λid _=>hC id) kw (by intro s;cases s<;>kernel_rfl) (TG h2 h3)
noncomputable def X0:=QH.add 113 F8t
theorem DU:zw X0:=DT.add zft
abbrev zb5:=mM [(4,[1,2,19,20,21]),(10,[1,2,30,31])]
inductive wH where
 |h4 (l1:LV) (l19:LV) (i20:Int) (i21:Int) (z0:zn sZ)
 |h10 (l1:LV) (i30:Int) (i31:Int) (z0:zn sZ)
abbrev zfZ:wH->Nat×St
 |.h4 l1 l19 i20 i21 z0=>(4,⟨tm 79 [(1,sl zf l1),(2,ptr 0 0),(19,sl zf l19),(20,ai i20),(21,ai i21)],[Qa (bC [] sZ z0)]⟩)
 |.h10 l1 i30 i31 z0=>(10,⟨tm 79 [(1,sl zf l1),(2,ptr 0 0),(30,ai i30),(31,ai i31)],[Qa (bC [] sZ z0)]⟩)
noncomputable def Rs(x0:Sem zo)(x1:Sem zf.sl):Tr (wH⊕aw):=br (bif !eF (x0.1,x0.2.1,x0.2.2.1,x0.2.2.2.1,x0.t.1,zm x0.t.2)then Q3 else(↑(length x1):Int)!=(↑(length x0.2.1):Int)) (re (ai 1) []) (Q9 (wH.h4 x1 x1 (↑(length x1):Int) 0 (x0,())))
noncomputable def uE:wH->Tr (wH⊕aw)
 | .h4 l1 l19 i20 i21 z0=>
  br (Q0 (i21<i20))
  (Qc (zM i21 l19.length) (br (!aW (l19.getD i21.toNat (zi zf))) (re (ai 1) []) (Q9 (wH.h4 l1 l19 i20 (IntKind.i64.wrap (i21+1)) z0))))
  (Q9 (wH.h10 l1 (↑l1.length:Int) 0 z0))
 | .h10 l1 i30 i31 z0=>
  let a0:=l1.getD i31.toNat (zi zf)
  let a1:=a0.1==0
  let a2:=zM i31 (length z0.1.2.1)
  let a3:=getD z0.1.2.1 i31.toNat (zi zj)
  let a4:=a0.1!=0
  let a5:=jJ (zm z0.1.t.2) z0.1.2.1 l1
  br (Q0 (i31<i30))
  (Qc (zM i31 l1.length&&bif a1 then a2 else Q3) (br (bif a1 then a3.2.2 else Q4) (re (ai 8) []) (Qc (zM i31 l1.length&&bif a4 then zM i31 l1.length&&a2 else Q3) (br (bif a4 then a0.1!=a3.2.1 else Q4) (re (ai 5) []) (Q9 (wH.h10 l1 i30 (IntKind.i64.wrap (i31+1)) z0))))))
  (br (a5.1==3&&(a5.2.1==0&&(a5.2.2==[]&&Q3))) (re (ai 9) []) (re (ai 0) []))
noncomputable def Nr(x0:Sem zo)(x1:Sem zf.sl):=al [zg] uE 100000000 (Rs x0 x1)
noncomputable def XI:=FT [zo,zf.sl] [zg] λx=>Nr x.1 x.2.1
theorem LY:FK 193 XI:=DU.T1 (f:=Tryz.f193) (keep:=zb5) (e:=zfZ)
def ef(t:Sem zo)(row:LV):List (Sem zf)->Int->Sem zg
 |[],_=>if((jJ t.t.2 t.2.1 row).1==3&&((jJ t.t.2 t.2.1 row).2.1==0&&((jJ t.t.2 t.2.1 row).2.2==[]&&Q3)))=Q3 then 9 else 0
 |x::r,i=>if(bif x.1==0 then(getD t.2.1 i.toNat (zi zj)).2.2 else Q4)=Q3 then 8 else if(bif x.1!=0 then x.1!=(getD t.2.1 i.toNat (zi zj)).2.1 else Q4)=Q3 then 5 else ef t row r (i+1)
def fP(t:Sem zo)(row:LV):List (Sem zf)->Int->Sem zg
 |[],_=>ef t row row 0
 |x::r,i=>if(!aW x)=Q3 then 1 else fP t row r (i+1)
def dW(t:Sem zo)(row:Sem zf.sl):Sem zg:=if(bif !eF t then Q3 else(↑(length row):Int)!=(↑(length t.2.1):Int))=Q3 then 1 else fP t row row 0
theorem ME{t:Sem zo}(h:eF t=Q3):length t.2.1<=8:=by
 unfold eF at h;rw[aD]at h;have h:=h.1;cases hn:zK t.1
 ·rw[hn]at h;simp at h
 ·rw[hn]at h;simp at h;omega
theorem O5(t:Sem zo)(row:LV):Nr t row=Q1 (dW t row,()):=by
 unfold dW;by_cases h:(bif !eF t then Q3 else(↑(length row):Int)!=(↑(length t.2.1):Int))=Q3
 ·rw[if_pos h];refine zN (r:=(.int .i64 1,[])) ?_ rfl;simp only[Rs,zl,Prod.eta,Q8];exact if_pos h
 rw[if_neg h];have hm:eF t=Q3/\row.length=length t.2.1:=by
  cases hm:eF t
  ·rw[hm]at h;simp at h
  ·rw[hm]at h;simp at h;exact⟨rfl,ow⟩
 have h8:=ME hm.1;have h10:∀(m i:Nat),row.length-i=m->i<=row.length->zT uE (m+1) (.h10 row row.length i (t,())) (.int .i64 (ef t row (row.drop i) i),[]):=by
  intro m
  induction m with
  | zero=>
   intro i hi hl;obtain rfl:i=row.length:=by omega
   rw[jh,ef];refine zT.of ?_;simp only[uE,Q8,zA,zl,zG,if_false];split<;>rfl
  | succ m ih=>
   intro i hi hl;have hlt:i<row.length:=by omega
   have hg:getD row i (zi zf)=row[i]:=cA _ _ hlt;rw[fk hlt,ef];have hv:(uE (.h10 row row.length i (t,()))).val=if(bif row[i].1==0 then(getD t.2.1 i (zi zj)).2.2 else Q4)=Q3 then Q1 (.inr (.int .i64 8,[]))else if(bif row[i].1!=0 then row[i].1!=(getD t.2.1 i (zi zj)).2.1 else Q4)=Q3 then Q1 (.inr (.int .i64 5,[]))else Q1 (.inl (.h10 row row.length ((i+1:Nat):Int) (t,()))):=by
    simp only[uE,Q8,zH hlt,zu hlt,zu (show i<length t.2.1 by omega),aJ,hg,dl,Bool.cond_self,if_true,zp i (show i<aE by unfold aE;omega)]
   simp only[aJ];split
   ·rename_i c;exact(zT.of (by rw[hv,if_pos c])).mono ow
   ·rename_i c;split
    ·rename_i c2;exact(zT.of (by rw[hv,if_neg c,if_pos c2])).mono ow
    ·rename_i c2;exact(zQ.of (by rw[hv,if_neg c,if_neg c2])).ends (ih (i+1) ow ow)
 have h4:∀(m i:Nat),row.length-i=m->i<=row.length->zT uE (m+row.length+2) (.h4 row row row.length i (t,())) (.int .i64 (fP t row (row.drop i) i),[]):=by
  intro m
  induction m with
  | zero=>
   intro i hi hl;obtain rfl:i=row.length:=by omega
   rw[jh,fP];refine((zQ.of (s':=.h10 row row.length ((0:Nat):Int) (t,())) ?_).ends (h10 row.length 0 ow ow)).mono ow;simp only[uE,Q8,zA,zG,if_false];rfl
  | succ m ih=>
   intro i hi hl;have hlt:i<row.length:=by omega
   have hg:getD row i (zi zf)=row[i]:=cA _ _ hlt;rw[fk hlt,fP];have hv:(uE (.h4 row row row.length i (t,()))).val=if(!aW row[i])=Q3 then Q1 (.inr (.int .i64 1,[]))else Q1 (.inl (.h4 row row row.length ((i+1:Nat):Int) (t,()))):=by
    simp only[uE,Q8,zH hlt,zu hlt,aJ,hg,if_true,zp i (show i<aE by unfold aE;omega)]
   split
   ·rename_i c;exact(zT.of (by rw[hv,if_pos c])).mono ow
   ·rename_i c;exact((zQ.of (by rw[hv,if_neg c])).ends (ih (i+1) ow ow)).mono ow
 refine zx (s:=.h4 row row row.length ((0:Nat):Int) (t,())) ?_ (h4 row.length 0 ow ow) ow rfl;simp only[Rs,zl,Prod.eta,Q8];exact if_neg h
noncomputable def X1:=X0.add 193 XI
theorem Oc:zw X1:=DU.add LY
def zc1:zX:=aC [zo,zf.sl] [zg] λx=>(dW x.1 x.2.1,())
theorem Zf:FK 193 zc1:=gJ LY λx=>O5 x.1 x.2.1
noncomputable def AM:=X1.add 193 zc1
theorem Od:zw AM:=Oc.add Zf
open Go.RowKit Go.Lib in
theorem zam:FK 282 (zP [.str,.str] [.bool] (λx=>x.2.1.length==1) λx=>(Q0 (0<=Lib.indexByte x.1 (x.2.1.headD 0)),())):=by
 refine fC (E:=AM) ⟨Tryz.f282,kw,kw,kw⟩ λx h0 res hx=>?_
 unfold ff at hx;split at hx
 ·simp only[Q8]at hx;split at hx
  ·rename_i hc;simp only[bB]at hx;subst hx;obtain⟨s,sub,u⟩:=x;have hc:(sub.length==1)=Q3:=hc
   match sub,hc with
   | [c],_=>
    intro C w U ρ vals _ hr hH hnew hr0 hW;have hl:=hr.len
    match vals,hl,hr with
    | [v1,v2],_,hr=>
     have h1:=hr.rv 0 (.str s) v1 rfl rfl;have h2:=hr.rv 1 (.str [c]) v2 rfl rfl;cases h1 with
     |str _ hs=>
     cases h2 with
     |str _ hs2=>
     refine(Tryz.strings_Contains_one ⟨s.toArray⟩ c w).mono ?_;rintro e w' ⟨rfl,rfl⟩;exact eA hH hnew hr0 hW (Below.refl _ _) (.bool _)
  ·cases hx
 ·simp at hx
def F63:zX:=zP [.str,.str] [.bool] (λx=>x.2.1.length==1) λx=>(Q0 (0<=Lib.indexByte x.1 (x.2.1.headD 0)),())
theorem ze7:FK 282 F63:=zam
def F89:zX:=zP [.str] [.str] (λx=>Q0 (x.1.length<=140737488355328)&&x.1.all λb=>Q0 (b.toNat<128)) λx=>(Lib.toUpperA x.1,())
open Go.RowKit Go.Lib in
theorem zfr:FK 232 F89:=by
 refine fC (E:=AM) ⟨Tryz.f232,kw,kw,kw⟩ λx h0 res hx=>?_
 unfold ff at hx;split at hx
 ·simp only[Q8]at hx;split at hx
  ·rename_i hc;simp only[bB]at hx;subst hx;obtain⟨s,u⟩:=x;have hc:(Q0 (s.length<=140737488355328)&&s.all λb=>Q0 (b.toNat<128))=Q3:=hc;simp only[aD,aP]at hc;obtain⟨hc0,hc⟩:=hc;intro C w U ρ vals _ hr hH hnew hr0 hW;have hl:=hr.len
   match vals,hl,hr with
   | [v1],_,hr=>
    have h1:=hr.rv 0 (.str s) v1 rfl rfl;cases h1 with
    |str _ hs=>
    refine(Tryz.strings_ToUpper_ascii ⟨s.toArray⟩ w (by simpa[ByteArray.size]using hc0) (λj b hj=>?_)).mono ?_
    ·have hm:b∈s:=ov (by simpa using hj);simp only[dT,aP]at hc;exact hc b hm
    ·rintro e w' ⟨rfl,hb⟩;have hbb:=eA (r:=.str (Lib.toUpperA s)) hH hnew hr0 hW hb (.str _ (by simpa[Lib.toUpperA]using hs));exact hbb
  ·cases hx
 ·simp at hx
def mT:Nat->Nat->zB
 |0,_=>[]
 |f+1,n=>if n<10 then[UInt8.ofNat (48+n)]else mT f (n/10)++[UInt8.ofNat (48+n%10)]
def ro(n:Int):zB:=if n<0 then 45::mT 20 n.natAbs else mT 20 n.natAbs
theorem Fp:∀(f n:Nat),n<10^f->0<f->mT f n=Lib.decDigits n
 |0,_,_,h=>by omega
 | f+1,n,h,_=>by
  rw[mT,Lib.decDigits];split
  ·rfl
  ·rename_i hn;have hf:0<f:=by
    cases f with
    |zero=>simp at h;omega
    |succ f=>omega
   rw[Fp f (n/10) (by rw[Ah]at h;omega) hf]
theorem Au:∀(f n:Nat),(mT f n).length<=f
 |0,_=>by simp[mT]
 | f+1,n=>by
  rw[mT];split
  ·simp
  ·have:=Au f (n/10);simp;omega
theorem Et(n:Int):(ro n).length<=21:=by
 unfold ro;have:=Au 20 n.natAbs;split<;>simp<;>omega
theorem RD(n:Int)(h:cJ .i64 n):Lib.itoa n=ro n:=by
 have h1:-9223372036854775808<=n:=h.1;have h2:n<=9223372036854775807:=h.2;unfold Lib.itoa ro;split
 ·rw[Fp 20 _ ow ow]
 ·rw[Fp 20 _ ow ow];congr 1;omega
def zda:zX:=zP [zg,zg] [.str] (λx=>x.2.1==10) λx=>(ro x.1,())
open Go.RowKit Go.Lib in
theorem Zo:FK 275 zda:=by
 refine fC (E:=AM) ⟨Tryz.f275,kw,kw,kw⟩ λx h0 res hx=>?_
 unfold ff at hx;split at hx
 ·simp only[Q8]at hx;split at hx
  ·rename_i hc;simp only[bB]at hx;subst hx;obtain⟨n,b,u⟩:=x;have hc:(b==10)=Q3:=hc;simp only[aZ]at hc;subst hc;intro C w U ρ vals _ hr hH hnew hr0 hW;have hl:=hr.len
   match vals,hl,hr with
   | [v1,v2],_,hr=>
    have h1:=hr.rv 0 (.int .i64 n) v1 rfl rfl;have h2:=hr.rv 1 (.int .i64 10) v2 rfl rfl;cases h1 with
    |int _ _ hn=>
    cases h2;have h5:Rv w U (λ_=>Q2) (.tab .u64 lN) (.pointer (Q1 ⟨5,0,Q2⟩)):=hW.gl 5;have htab:Lib.TabIs Tryz.prog w "internal/strconv.uint64pow10" .u64 Lib.pow10Tab:=by
     cases h5 with
     |tab _ _ _ T fr hb hU=>
     have hg:Tryz.prog.globalNamed "internal/strconv.uint64pow10"=Q1 5:=by kernel_rfl
     have ht:Lib.pow10Tab=lN:=by decide+kernel
     unfold Lib.TabIs World.var?;rw[hg,ht];simp only[Option.bind_some,hb]
    refine(Tryz.strconv_FormatInt_10 n hn.1 hn.2 w htab).mono ?_;rintro e w' ⟨rfl,k,os,rfl⟩;rw[RD n hn];exact eA (r:=.str (ro n)) hH hnew hr0 hW ⟨rfl,rfl,rfl,by show w.heap.size<=(w.heap++os).size;simp,λj hj=>by show(w.heap++os)[j]?=w.heap[j]?;rw[Array.getElem?_append_left hj]⟩ (.str _ (by have:=Et n;unfold aE;omega))
  ·cases hx
 ·simp at hx
theorem up(old new:zB):∀(k:Nat)(s:zB),(Lib.replaceK old new k s).length<=s.length+k*new.length
 |0,s=>by simp[Lib.replaceK]
 | k+1,s=>by
  rw[Lib.replaceK];split
  ·omega
  ·have:=up old new k (s.drop ((Lib.index s old).toNat+old.length));simp only[jg,nI,List.length_drop]at this⊢;rw[kg];omega
theorem kM(s old new:zB):(Lib.replaceAll s old new).length<=s.length+(s.length+1)*new.length:=by
 unfold Lib.replaceAll Lib.replace;split
 ·omega
 ·refine cy (up old new _ s) ?_;have hc:=Lib.count_le s old;have:Lib.replaceNum s old (-1)=Lib.count s old:=by unfold Lib.replaceNum;rw[if_pos (.inl ow)]
  rw[this];have:=gK new.length hc;omega
def uo(s old new:zB):Bool:=Q0 (s.length<=4000000000)&&(Q0 (1<=old.length)&&Q0 (new.length<=1000))
def zdb:zX:=zP [.str,.str,.str] [.str] (λx=>uo x.1 x.2.1 x.2.2.1) λx=>(Lib.replaceAll x.1 x.2.1 x.2.2.1,())
open Go.RowKit Go.Lib in
theorem Zp:FK 276 zdb:=by
 refine fC (E:=AM) ⟨Tryz.f276,kw,kw,kw⟩ λx h0 res hx=>?_
 unfold ff at hx;split at hx
 ·simp only[Q8]at hx;split at hx
  ·rename_i hc;simp only[bB]at hx;subst hx;obtain⟨s,old,new,u⟩:=x;have hc:uo s old new=Q3:=hc;unfold uo at hc;simp only[aD,aP]at hc;obtain⟨hc1,hc2,hc3⟩:=hc;intro C w U ρ vals _ hr hH hnew hr0 hW;have hl:=hr.len
   match vals,hl,hr with
   | [v1,v2,v3],_,hr=>
    have h1:=hr.rv 0 (.str s) v1 rfl rfl;have h2:=hr.rv 1 (.str old) v2 rfl rfl;have h3:=hr.rv 2 (.str new) v3 rfl rfl;cases h1 with
    |str _ hs1=>
    cases h2 with
    |str _ hs2=>
    cases h3 with
    |str _ hs3=>
    have hg1:Rv w U (λ_=>Q2) .gint (.pointer (Q1 ⟨0,0,Q2⟩)):=hW.gl 0;have hmm:∃m:Int,w.cell? ⟨0,0,Q2⟩=Q1 (.int .i64 m):=by
     cases hg1 with
     |gint m _ T fr _ hb _=>exact⟨m,by simp[World.cell?,hb]⟩
    obtain⟨m,hm⟩:=hmm;have hcb:=Lib.countB_le (⟨old.toArray⟩:ByteArray) (by simpa[ByteArray.size]using hc2) s.length (⟨s.toArray⟩:ByteArray) (by simp[ByteArray.size]);have hsz:(⟨s.toArray⟩:ByteArray).size=s.length:=by simp[ByteArray.size]
    have hnz:(⟨new.toArray⟩:ByteArray).size=new.length:=by simp[ByteArray.size]
    have hmul:Lib.countB (⟨s.toArray⟩:ByteArray) ⟨old.toArray⟩*new.length<=4000000000*1000:=DG ow hc3;refine(Tryz.strings_ReplaceAll ⟨s.toArray⟩ ⟨old.toArray⟩ ⟨new.toArray⟩ m w (by rw[hsz];omega) hm (by simpa[ByteArray.size]using hc2) (by rw[hsz,hnz];omega)).mono ?_;rintro e w' ⟨rfl,hbel⟩;refine eA (r:=.str (Lib.replaceAll s old new)) hH hnew hr0 hW hbel (.str _ ?_);have hlen:=kM s old new;have hmul2:(s.length+1)*new.length<=4000000001*1000:=DG ow hc3;unfold aE;omega
  ·cases hx
 ·simp at hx
def zc9:zX:=zP [.sl .str,.str] [.str] (λx=>Q0 (x.1.length<=140737488355328)&&Q0 ((Lib.join x.1 x.2.1).length<=140737488355328)) λx=>(Lib.join x.1 x.2.1,())
open Go.RowKit Go.Lib in
theorem Zn:FK 274 zc9:=by
 refine fC (E:=AM) ⟨Tryz.f274,kw,kw,kw⟩ λx h0 res hx=>?_
 unfold ff at hx;split at hx
 ·simp only[Q8]at hx;split at hx
  ·rename_i hc;simp only[bB]at hx;subst hx;obtain⟨l,sep,u⟩:=x;have hc:(Q0 (l.length<=140737488355328)&&Q0 ((Lib.join l sep).length<=140737488355328))=Q3:=hc;simp only[aD,aP]at hc;obtain⟨hc0,hc⟩:=hc;have hms:aE=9223372036854775807:=rfl;intro C w U ρ vals _ hr hH hnew hr0 hW;have hl:=hr.len
   match vals,hl,hr with
   | [v1,v2],_,hr=>
    have h1:=hr.rv 0 (.sl .str l) v1 rfl rfl;have h2:=hr.rv 1 (.str sep) v2 rfl rfl;cases h2 with
    |str _ hs2=>
    generalize hl0:l=l0 at h1 hc hc0 hr;cases h1 with
    | sl0 _ a c=>
     subst hl0;refine(Tryz.strings_Join_none a c ⟨sep.toArray⟩ w).mono ?_;rintro e w' ⟨rfl,rfl⟩;exact eA (r:=.str []) hH hnew hr0 hW (Below.refl _ _) (.str _ sw)
    | sl _ _ b o c vals' hcc hm hb hU hcell hrr=>
     subst hl0;have hx:∀(j:Nat) x,(l.map λs=>(⟨s.toArray⟩:ByteArray))[j]?=Q1 x->w.cell? ⟨b,o+j,Q2⟩=Q1 (.string x):=by
      intro j x hj;simp only[eY,dZ]at hj;obtain⟨s,hs,rfl⟩:=hj;obtain⟨hlt,rfl⟩:=cW.1 hs;have h3:=hcell j 0 hlt (by simp[Sh.size]);have h4:=hrr j hlt 0 (.str l[j]) rfl;simp only[Sh.size,Nat.mul_one,wO]at h3;rw[h3];generalize vals' j 0=vv at h4;cases h4;rfl
     have hmap:(l.map λs=>(⟨s.toArray⟩:ByteArray)).map (·.data.toList)=l:=by
      simp[sM]
     have hj:=Tryz.strings_Join b o c (l.map λs=>(⟨s.toArray⟩:ByteArray)) ⟨sep.toArray⟩ w hx hb (by simpa using hc0) (by simpa using hcc) (by rw[hmap];exact hc);rw[hmap]at hj;simp only[cX]at hj;refine hj.mono ?_;rintro e w' ⟨rfl,hbel⟩;exact eA (r:=.str (Lib.join l sep)) hH hnew hr0 hW hbel (.str _ ow)
  ·cases hx
 ·simp at hx
noncomputable def rc:=AM.addL [(282,F63),(232,F89),(275,zda),(276,zdb),(274,zc9)]
theorem iK:zw rc:=Od.addL<|fc ze7<|fc zfr<|fc Zo<|fc Zp<|fc Zn jm
end Cad
