/- Expressions: their types. Expressions: bounded ones; the same ones. Expressions: which may be. Expressions: their values. Expressions: may, bounded. -/
import Derived.Test.YtkmcdhahdadkpaaGreatDoorK08
namespace Cad
open Go Go.Proofs
open List renaming drop→Qh,take→Qg
open Tr renaming chk→Qc,«to»→Q9,val→Q8
open AO renaming box→Qa
open Sh renaming bool→Q7,expr→Q5
open Bool renaming false→Q4,true→Q3
open Option renaming none→Q2,some→Q1
open Decidable renaming decide→Q0
open Int (toNat)
open List (getD length)
open Tr (chk br re)
open AV (nils agg tup ptr kb str sl)
theorem fq{P:Program}{gl:Nat->AV}{k:FuncId}{ks outs:List Sh}{c:zy (ks.map Q1)->Bool}{g:zy (ks.map Q1)->zy (outs.map Q1)}(hf:∃fn,P.funcs[k]?=Q1 fn/\(fn.name=="runtime.NumGoroutine")=Q4/\fn.body.isNone=Q4)(hc:∀x,c x=Q4):nX P gl k (zR ks outs c g):=by
 refine⟨hf,?_⟩;intro w U ρ hp n args vals f fp hv;exfalso;unfold zR bg at hv;split at hv
 ·simp only at hv;split at hv
  ·split at hv
   ·simp only[Tr.val_bind,fQ]at hv;obtain⟨res,h1,h2⟩:=hv;unfold fh at h1;split at h1
    ·simp only[Q8,hc]at h1;simp at h1
    ·simp at h1
   ·simp at hv
  ·simp at hv
 ·simp at hv
theorem lX{Φ:zC->Prop}{c:Bool}{t f:Tr zC}(h1:c=Q3->gm Φ t.val)(h2:c=Q4->gm Φ f.val):gm Φ (br c t f).val:=by
 cases c
 ·simpa[Q8]using h2 rfl
 ·simpa[Q8]using h1 rfl
theorem jY{Φ:zC->Prop}{c:Bool}{t:Tr zC}(hc:c=Q3)(h:gm Φ t.val):gm Φ (Qc c t).val:=by
 subst hc;simpa[Q8]using h
theorem zK{Φ:zC->Prop}{t:Tr zC}(h:gm Φ t.val):gm Φ (Qc Q3 t).val:=h
theorem mn{c:Bool}(h:c=Q4):¬c=Q3:=by rw[h];simp
theorem pU{c g:Bool}(h:(if c=Q3 then g else Q4)=Q3):c=Q3/\g=Q3:=by
 split at h
 ·exact⟨‹_›,h⟩
 ·cases h
theorem tP{Φ:zC->Prop}{c:Bool}{t f:Tr zC}{α:Sort _}{a b y:α}{p q:Bool}(hy:(if c=Q3 then a else b)=y)(hc:(if c=Q3 then p else q)=Q3)(h1:c=Q3->a=y->p=Q3->gm Φ t.val)(h2:c=Q4->b=y->q=Q3->gm Φ f.val):gm Φ (Tr.br c t f).val:=
 lX (λh=>h1 h (by rwa [if_pos h]at hy) (by rwa [if_pos h]at hc)) (λh=>h2 h (by rwa [if_neg (mn h)]at hy) (by rwa [if_neg (mn h)]at hc))
theorem dg{Φ:zC->Prop}{c:Bool}{t f:Tr zC}{α:Sort _}{a b y:α}(hy:(if c=Q3 then a else b)=y)(h1:c=Q3->a=y->gm Φ t.val)(h2:c=Q4->b=y->gm Φ f.val):gm Φ (Tr.br c t f).val:=
 lX (λh=>h1 h (by rwa [if_pos h]at hy)) (λh=>h2 h (by rwa [if_neg (mn h)]at hy))
theorem ir{Φ:zC->Prop}{c g:Bool}{t:Tr zC}(hc:(if c=Q3 then g else Q4)=Q3)(h:g=Q3->gm Φ t.val):gm Φ (Tr.chk c t).val:=
 jY (pU hc).1 (h (pU hc).2)
theorem Tr.val_brT{α:Type}(t f:Tr α):(br Q3 t f).val=t.val:=rfl
theorem Tr.val_brF{α:Type}(t f:Tr α):(br Q4 t f).val=f.val:=rfl
theorem Tr.val_chkT{α:Type}(t:Tr α):(Qc Q3 t).val=t.val:=rfl
instance:Inhabited zf:=⟨.mk [] (0,0,[]) [] []⟩
instance (s:Sh):Inhabited (Sem s):=⟨zi s⟩
noncomputable def Ot(g:Sem Q5->Sem (Sh.sl zj)->Sem zg×Sem zg)(c:Sem Q5->Sem (Sh.sl zj)->Bool):bX:=Re.add 201 (zR [Q5,Sh.sl zj] [zg,zg] (λx=>c x.1 x.2.1) λx=>((g x.1 x.2.1).1,(g x.1 x.2.1).2,()))
theorem AM{g:Sem Q5->Sem (Sh.sl zj)->Sem zg×Sem zg}{c:Sem Q5->Sem (Sh.sl zj)->Bool}(hg:FK 201 (zR [Q5,Sh.sl zj] [zg,zg] (λx=>c x.1 x.2.1) λx=>((g x.1 x.2.1).1,(g x.1 x.2.1).2,()))):zx (Ot g c):=DS.add hg
abbrev Zf:Nat->aN:=λj=>if j=3 then{slots:=[1,2,6,15,16,17],prom:=[(6,Q2,zg)]}else{ }
abbrev Cv(l1:LC)(l15:LX)(i16:Int)(i17:Int)(ja0:zB)(ja1:Int)(ja2:Int)(ja3:zB)(ja4:zB)(ja5:LX)(lh_1:LI):St:={tmps:=(tm 91 [(1,sl zj l1),(2,ptr 0 0),(6,AV.vec 1),(15,sl Q5 l15),(16,ai i16),(17,ai i17)]),heap:=[Qa [str ja0,ai ja1,ai ja2,str ja3,str ja4,sl Q5 ja5],AO.vec zg lh_1]}
theorem BE(g:Sem Q5->Sem (Sh.sl zj)->Sem zg×Sem zg)(c:Sem Q5->Sem (Sh.sl zj)->Bool):zJ (Ot g c).P 201 Tryz.f201 2:=bQ kw
theorem zhb(g:Sem Q5->Sem (Sh.sl zj)->Sem zg×Sem zg)(c:Sem Q5->Sem (Sh.sl zj)->Bool)(x0:Sem Q5)(x1:Sem zj.sl):rn (Ot g c) 0 Zf Tryz.f201 [zF Q5 x0,zF zj.sl x1] []=Tr.ok (zC.head 3 (ae Tryz.f201 3) (Cv x1 (zf.l x0) (↑(zf.l x0).length:Int) 0 (zf.op x0) (zf.v x0).1 (zf.v x0).2.1 (zf.v x0).2.2 (zf.s x0) (zf.l x0) [])):=kw
theorem M5(g:Sem Q5->Sem (Sh.sl zj)->Sem zg×Sem zg)(c:Sem Q5->Sem (Sh.sl zj)->Bool)(l1:LC)(l15:LX)(i16:Int)(i17:Int)(ja0:zB)(ja1:Int)(ja2:Int)(ja3:zB)(ja4:zB)(ja5:LX)(lh_1:LI):rh (Ot g c) 0 Zf Tryz.f201 3 (Cv l1 l15 i16 i17 ja0 ja1 ja2 ja3 ja4 ja5 lh_1)=br (Q0 (i17<i16)) (Qc (zN i17 l15.length) (Qc (c (zm (l15.getD i17.toNat (zi Q5))) l1) (br ((g (zm (l15.getD i17.toNat (zi Q5))) l1).2!=0) (Tr.ok (zC.ret (tup [ai 0,AV.int IntKind.i64 (g (zm (l15.getD i17.toNat (zi Q5))) l1).2]) [])) (Qc (Q0 (lh_1.length+[(g (zm (l15.getD i17.toNat (zi Q5))) l1).1].length<=1073741824)) (Tr.ok (zC.head 3 (ae Tryz.f201 3) (Cv l1 l15 i16 (IntKind.i64.wrap (i17+1)) ja0 ja1 ja2 ja3 ja4 ja5 (lh_1++[(g (zm (l15.getD i17.toNat (zi Q5))) l1).1])))))))) (br (ja0==[108,105,116]) (Tr.ok (zC.ret (tup [ai ja1,ai 0]) [])) (br (ja0==[99,111,108]) (br (Q0 (af l1 ja4<0)) (Tr.ok (zC.ret (tup [ai 0,ai 4]) [])) (Qc (zN (af l1 ja4) l1.length) (Tr.ok (zC.ret (tup [ai (l1.getD (toNat (af l1 ja4)) (zi zj)).2.1,ai 0]) [])))) (br (ja0==[110,111,116]) (br (!lN lh_1 3) (Tr.ok (zC.ret (tup [ai 0,ai 5]) [])) (Tr.ok (zC.ret (tup [ai 3,ai 0]) []))) (br (ja0==[97,110,100])
 (br (!lN lh_1 3) (Tr.ok (zC.ret (tup [ai 0,ai 5]) [])) (Tr.ok (zC.ret (tup [ai 3,ai 0]) []))) (br (ja0==[111,114]) (br (!lN lh_1 3) (Tr.ok (zC.ret (tup [ai 0,ai 5]) [])) (Tr.ok (zC.ret (tup [ai 3,ai 0]) []))) (br (ja0==[61]) (Qc (zN 0 lh_1.length&&(Q0 (toNat 0<lh_1.length)&&(zN 1 lh_1.length&&(Q0 (toNat 1<lh_1.length)&&bif lh_1.getD (toNat 0) (zi zg)==lh_1.getD (toNat 1) (zi zg)then Q3 else zN 0 lh_1.length&&(Q0 (toNat 0<lh_1.length)&&bif lh_1.getD (toNat 0) (zi zg)==0 then Q3 else zN 1 lh_1.length&&Q0 (toNat 1<lh_1.length)))))) (br (!bif lh_1.getD (toNat 0) (zi zg)==lh_1.getD (toNat 1) (zi zg)then Q3 else bif lh_1.getD (toNat 0) (zi zg)==0 then Q3 else lh_1.getD (toNat 1) (zi zg)==0) (Tr.ok (zC.ret (tup [ai 0,ai 5]) [])) (Tr.ok (zC.ret (tup [ai 3,ai 0]) [])))) (br (ja0==[60]) (Qc (zN 0 lh_1.length&&(Q0 (toNat 0<lh_1.length)&&(zN 1 lh_1.length&&(Q0 (toNat 1<lh_1.length)&&bif lh_1.getD (toNat 0) (zi zg)==lh_1.getD (toNat 1) (zi zg)then Q3 else zN 0 lh_1.length&&(Q0 (toNat 0<lh_1.length)&&bif lh_1.getD (toNat 0) (zi zg)==0 then Q3 else zN 1 lh_1.length&&Q0 (toNat 1<lh_1.length)))))) (br (!bif lh_1.getD (toNat 0) (zi zg)==lh_1.getD (toNat 1) (zi zg)then Q3
 else bif lh_1.getD (toNat 0) (zi zg)==0 then Q3 else lh_1.getD (toNat 1) (zi zg)==0) (Tr.ok (zC.ret (tup [ai 0,ai 5]) [])) (Tr.ok (zC.ret (tup [ai 3,ai 0]) [])))) (br (ja0==[43]) (br (!lN lh_1 1) (Tr.ok (zC.ret (tup [ai 0,ai 5]) [])) (Tr.ok (zC.ret (tup [ai 1,ai 0]) []))) (br (ja0==[45]) (br (!lN lh_1 1) (Tr.ok (zC.ret (tup [ai 0,ai 5]) [])) (Tr.ok (zC.ret (tup [ai 1,ai 0]) []))) (Tr.ok (zC.ret (tup [ai 3,ai 0]) []))))))))))):=kw
def aG(g:Sem Q5->Sem (Sh.sl zj)->Sem zg×Sem zg)(c:Sem Q5->Sem (Sh.sl zj)->Bool)(l1:LC)(ja0:zB)(ja1:Int)(ja2:Int)(ja3:zB)(ja4:zB)(ja5:LX):List (Sem Q5)->Int->List (Sem zg)->Sem zg×Sem zg
 |[],_,lh_1=>if(ja0==[108,105,116])=Q3 then(ja1,0)
else
 if(ja0==[99,111,108])=Q3 then
  if Q0 (af l1 ja4<0)=Q3 then(0,4)
  else((l1.getD (toNat (af l1 ja4)) (zi zj)).2.1,0)
 else
  if(ja0==[110,111,116])=Q3 then if(!lN lh_1 3)=Q3 then(0,5)else(3,0)
  else
   if(ja0==[97,110,100])=Q3 then if(!lN lh_1 3)=Q3 then(0,5)else(3,0)
   else
    if(ja0==[111,114])=Q3 then if(!lN lh_1 3)=Q3 then(0,5)else(3,0)
    else
     if (ja0==[61])=true then
      if
        (!bif lh_1.getD (toNat 0) (zi zg)==lh_1.getD (toNat 1) (zi zg)then Q3
          else bif lh_1.getD (toNat 0) (zi zg)==0 then Q3 else lh_1.getD (toNat 1) (zi zg)==0)=
         Q3 then
       (0,5)
      else(3,0)
     else
      if (ja0==[60])=true then
       if
         (!bif lh_1.getD (toNat 0) (zi zg)==lh_1.getD (toNat 1) (zi zg)then Q3
           else
            bif lh_1.getD (toNat 0) (zi zg)==0 then Q3 else lh_1.getD (toNat 1) (zi zg)==0)=
          Q3 then
        (0,5)
       else(3,0)
      else
       if(ja0==[43])=Q3 then if(!lN lh_1 1)=Q3 then(0,5)else(1,0)
       else if(ja0==[45])=Q3 then if(!lN lh_1 1)=Q3 then(0,5)else(1,0)else(3,0)
 |x::r,i17,lh_1=>if((g x l1).2!=0)=Q3 then(0,(g x l1).2)else aG g c l1 ja0 ja1 ja2 ja3 ja4 ja5 r (i17+1) (lh_1++[(g x l1).1])
def fN(g:Sem Q5->Sem (Sh.sl zj)->Sem zg×Sem zg)(c:Sem Q5->Sem (Sh.sl zj)->Bool)(l1:LC)(ja0:zB)(ja1:Int)(ja2:Int)(ja3:zB)(ja4:zB)(ja5:LX):List (Sem Q5)->Int->List (Sem zg)->Bool
 |[],_,lh_1=>if(ja0==[108,105,116])=Q3 then Q3
else
 if(ja0==[99,111,108])=Q3 then
  if Q0 (af l1 ja4<0)=Q3 then Q3 else if zN (af l1 ja4) l1.length=Q3 then Q3 else Q4
 else
  if(ja0==[110,111,116])=Q3 then Q3
  else
   if(ja0==[97,110,100])=Q3 then Q3
   else
    if(ja0==[111,114])=Q3 then Q3
    else
     if (ja0 == [61])=true then
      if
        (zN 0 lh_1.length&&
          (Q0 (toNat 0<lh_1.length)&&
           (zN 1 lh_1.length&&
            (Q0 (toNat 1<lh_1.length)&&
             bif lh_1.getD (toNat 0) (zi zg)==lh_1.getD (toNat 1) (zi zg)then Q3
             else
              zN 0 lh_1.length&&
               (Q0 (toNat 0<lh_1.length)&&
                bif lh_1.getD (toNat 0) (zi zg)==0 then Q3
                else zN 1 lh_1.length&&Q0 (toNat 1<lh_1.length))))))=
         Q3 then
       Q3
      else Q4
     else
      if (ja0 == [60])=true then
       if
         (zN 0 lh_1.length&&
           (Q0 (toNat 0<lh_1.length)&&
            (zN 1 lh_1.length&&
             (Q0 (toNat 1<lh_1.length)&&
              bif lh_1.getD (toNat 0) (zi zg)==lh_1.getD (toNat 1) (zi zg)then Q3
              else
               zN 0 lh_1.length&&
                (Q0 (toNat 0<lh_1.length)&&
                 bif lh_1.getD (toNat 0) (zi zg)==0 then Q3
                 else zN 1 lh_1.length&&Q0 (toNat 1<lh_1.length))))))=
          Q3 then
        Q3
       else Q4
      else Q3
 |x::r,i17,lh_1=>if c x l1=Q3 then
 if((g x l1).2!=0)=Q3 then Q3
 else
  if Q0 (lh_1.length+[(g x l1).1].length<=1073741824)=Q3 then
   fN g c l1 ja0 ja1 ja2 ja3 ja4 ja5 r (i17+1) (lh_1++[(g x l1).1])
  else Q4
else Q4
theorem VH(g:Sem Q5->Sem (Sh.sl zj)->Sem zg×Sem zg)(c:Sem Q5->Sem (Sh.sl zj)->Bool)(hg:FK 201 (zR [Q5,Sh.sl zj] [zg,zg] (λx=>c x.1 x.2.1) λx=>((g x.1 x.2.1).1,(g x.1 x.2.1).2,()))){C:eS}(hC:∀id,C.ρ0 id=Q2)(l1:LC)(ja0:zB)(ja1:Int)(ja2:Int)(ja3:zB)(ja4:zB)(ja5:LX)(l15:LX)(hl:l15.length<=aF):∀(m i:Nat)(lh_1:LI),l15.length-i=m->i<=l15.length->fN g c l1 ja0 ja1 ja2 ja3 ja4 ja5 (l15.drop i) i lh_1=Q3->
  Reach (Ot g c) C 201 (ae Tryz.f201 3) (Cv l1 l15 (l15.length:Int) (i:Int) ja0 ja1 ja2 ja3 ja4 ja5 lh_1) (λr h=>aM h [zg,zg] r=Q1 ((aG g c l1 ja0 ja1 ja2 ja3 ja4 ja5 (l15.drop i) i lh_1).1,(aG g c l1 ja0 ja1 ja2 ja3 ja4 ja5 (l15.drop i) i lh_1).2,())):=by
 intro m
 induction m with
 | zero=>
  intro i lh_1 hm hi hc;obtain rfl:i=l15.length:=by omega
  rw[jo]at hc⊢;refine zD (AM hg) (BE g c) (λid _=>hC id) (M5 g c _ _ _ _ _ _ _ _ _ _ _) ?_;rw[fN]at hc;generalize hy:aG g c l1 ja0 ja1 ja2 ja3 ja4 ja5 [] _ lh_1=y;rw[aG]at hy;simp only[zf.eta,zA,Tr.val_brF];repeat' (first|with_reducible refine tP hy hc (λ_ hy hc=>?_) (λ_ hy hc=>?_)|with_reducible refine dg hy (λ_ hy=>?_) (λ_ hy=>?_)|with_reducible refine ir hc (λhc=>?_)|with_reducible refine zK ?_)
  all_goals(subst hy;first|rfl)
 | succ m IH=>
  intro i lh_1 hm hi hc;have hlt:i<l15.length:=by omega
  have IH:=IH (i+1);have hcast:((i:Int)+1)=((i+1:Nat):Int):=by omega
  have hwr:=zp i ow;rw[fu hlt]at hc⊢;refine zD (AM hg) (BE g c) (λid _=>hC id) (M5 g c _ _ _ _ _ _ _ _ _ _ _) ?_;rw[fN]at hc;generalize hy:aG g c l1 ja0 ja1 ja2 ja3 ja4 ja5 (l15[i]::l15.drop (i+1)) (i:Int) lh_1=y;rw[aG]at hy;simp only[zf.eta,zH hlt,zt hlt,cA l15 _ hlt,hwr,Tr.val_brT,Tr.val_chkT];clear hwr;simp only[hcast]at hy
  try simp only[hcast]at hc
  repeat' (first|with_reducible refine tP hy hc (λ_ hy hc=>?_) (λ_ hy hc=>?_)|with_reducible refine dg hy (λ_ hy=>?_) (λ_ hy=>?_)|with_reducible refine ir hc (λhc=>?_)|with_reducible refine zK ?_)
  all_goals(subst hy;first|(change Reach _ _ _ _ _ _;apply IH<;>first|omega|assumption)|rfl)
theorem Qq(g:Sem Q5->Sem (Sh.sl zj)->Sem zg×Sem zg)(c:Sem Q5->Sem (Sh.sl zj)->Bool)(hg:FK 201 (zR [Q5,Sh.sl zj] [zg,zg] (λx=>c x.1 x.2.1) λx=>((g x.1 x.2.1).1,(g x.1 x.2.1).2,()))){C:eS}(hC:∀id,C.ρ0 id=Q2)(l1:LC)(ja0:zB)(ja1:Int)(ja2:Int)(ja3:zB)(ja4:zB)(ja5:LX)(l15:LX)(lh_1:LI)(hc:fN g c l1 ja0 ja1 ja2 ja3 ja4 ja5 l15 0 lh_1=Q3):
  Reach (Ot g c) C 201 (ae Tryz.f201 3) (Cv l1 l15 (l15.length:Int) 0 ja0 ja1 ja2 ja3 ja4 ja5 lh_1) (λr h=>aM h [zg,zg] r=Q1 ((aG g c l1 ja0 ja1 ja2 ja3 ja4 ja5 l15 0 lh_1).1,(aG g c l1 ja0 ja1 ja2 ja3 ja4 ja5 l15 0 lh_1).2,())):=
 Reach.len 15 (Q5) l15 rfl λhl=>VH g c hg hC l1 ja0 ja1 ja2 ja3 ja4 ja5 l15 hl _ 0 lh_1 rfl (aZ _) hc
def wG(g:Sem Q5->Sem (Sh.sl zj)->Sem zg×Sem zg)(c:Sem Q5->Sem (Sh.sl zj)->Bool)(x0:Sem Q5)(x1:Sem zj.sl):Sem zg×Sem zg:=aG g c x1 (zf.op x0) (zf.v x0).1 (zf.v x0).2.1 (zf.v x0).2.2 (zf.s x0) (zf.l x0) (zf.l x0) 0 []
def yZ(g:Sem Q5->Sem (Sh.sl zj)->Sem zg×Sem zg)(c:Sem Q5->Sem (Sh.sl zj)->Bool)(x0:Sem Q5)(x1:Sem zj.sl):Bool:=fN g c x1 (zf.op x0) (zf.v x0).1 (zf.v x0).2.1 (zf.v x0).2.2 (zf.s x0) (zf.l x0) (zf.l x0) 0 []
def zj9(g:Sem Q5->Sem (Sh.sl zj)->Sem zg×Sem zg)(c:Sem Q5->Sem (Sh.sl zj)->Bool):zY:=zR [Q5,zj.sl] [zg,zg] (λx=>yZ g c x.1 x.2.1) λx=>((wG g c x.1 x.2.1).1,(wG g c x.1 x.2.1).2,())
theorem zaL(g:Sem Q5->Sem (Sh.sl zj)->Sem zg×Sem zg)(c:Sem Q5->Sem (Sh.sl zj)->Bool)(hg:FK 201 (zR [Q5,Sh.sl zj] [zg,zg] (λx=>c x.1 x.2.1) λx=>((g x.1 x.2.1).1,(g x.1 x.2.1).2,()))):FK 201 (zj9 g c):=by
 refine aJ (BE g c) λx hc C hC=>?_
 unfold yZ at hc;refine zD (AM hg) (BE g c) (λid _=>hC id) (zhb g c x.1 x.2.1) ?_;generalize hy:wG g c x.1 x.2.1=y;unfold wG at hy
 try simp only[zf.eta,zk]
 repeat' (first|with_reducible refine tP hy hc (λ_ hy hc=>?_) (λ_ hy hc=>?_)|with_reducible refine dg hy (λ_ hy=>?_) (λ_ hy=>?_)|with_reducible refine ir hc (λhc=>?_)|with_reducible refine zK ?_)
 all_goals(subst hy;first|(change Reach _ _ _ _ _ _;apply Qq g c hg hC<;>first|assumption|exact hc)|rfl)
mutual
def zM:Nat->Sem Q5->Sem (Sh.sl zj)->Sem zg×Sem zg
 |0=>λ_ _=>default
 |n+1=>wG (zM n) (be n)
def be:Nat->Sem Q5->Sem (Sh.sl zj)->Bool
 |0=>λ_ _=>Q4
 |n+1=>yZ (zM n) (be n)
end
theorem PW:∀n,FK 201 (zR [Q5,Sh.sl zj] [zg,zg] (λx=>be n x.1 x.2.1) λx=>((zM n x.1 x.2.1).1,(zM n x.1 x.2.1).2,()))
 |0=>fq ⟨Tryz.f201,(BE default default).1,(BE default default).2.1,(BE default default).2.2.1⟩ (λ_=>rfl)
 |n+1=>zaL (zM n) (be n) (PW n)
def F51:zY:=zR [Q5,Sh.sl zj] [zg,zg] (λx=>be 16 x.1 x.2.1) λx=>((zM 16 x.1 x.2.1).1,(zM 16 x.1 x.2.1).2,())
theorem zfK:FK 201 F51:=PW 16
noncomputable def DT:=Re.add 201 F51
theorem pK:zx DT:=DS.add zfK
abbrev Yp:List CP:=[.d .expr]
abbrev zgA:List CP:=[.d .str,.d zg,.d zg,.d .str,.d .str,.vec .expr]
abbrev og:List CP:=[.d .str,.d zg,.d zg,.d .str,.d .str,.nil]
noncomputable def Ia(g:Sem Q5->Sem zg->Sem zg->Sem Q5×Sem zg)(c:Sem Q5->Sem zg->Sem zg->Bool):bX:=DT.add 71 (zR [Q5,zg,zg] [Q5,zg] (λx=>c x.1 x.2.1 x.2.2.1) λx=>((g x.1 x.2.1 x.2.2.1).1,(g x.1 x.2.1 x.2.2.1).2,()))
theorem Ou{g:Sem Q5->Sem zg->Sem zg->Sem Q5×Sem zg}{c:Sem Q5->Sem zg->Sem zg->Bool}(hg:FK 71 (zR [Q5,zg,zg] [Q5,zg] (λx=>c x.1 x.2.1 x.2.2.1) λx=>((g x.1 x.2.1 x.2.2.1).1,(g x.1 x.2.1 x.2.2.1).2,()))):zx (Ia g c):=pK.add hg
abbrev Sq:Nat->aN:=λj=>if j=10 then{slots:=[1,2,3,6,8,9],prom:=[(8,Q1 5,Q5)]}else if j=500004 then{slots:=[1,2,3,6,8,30],cut:=Q3}else if j=500006 then{slots:=[1,2,3,6,8,39],cut:=Q3}else if j=500008 then{slots:=[1,2,3,6,8],cut:=Q3}else{ }
inductive xH where
 |h500004 (i1:Sem zg) (i2:Sem zg) (b30:Bool) (z0:zn Yp) (z1:zn og) (z2:zn og)
 |h500006 (i1:Sem zg) (i2:Sem zg) (b39:Bool) (z0:zn Yp) (z1:zn og) (z2:zn og)
 |h500008 (i1:Sem zg) (i2:Int) (z0:zn Yp) (z1:zn og) (z2:zn og)
 |h10 (i1:Sem zg) (i2:Int) (i9:Int) (z0:zn Yp) (z1:zn og) (z2:zn zgA)
abbrev QM:xH->Nat×St
 |.h500004 i1 i2 b30 z0 z1 z2=>(500004,⟨tm 88 [(1,ai i1),(2,ai i2),(3,ptr 0 0),(6,ptr 1 0),(8,ptr 2 0),(30,AV.bool b30)],[Qa (bC [] Yp z0),Qa (bC [] og z1),Qa (bC [] og z2)]⟩)
 |.h500006 i1 i2 b39 z0 z1 z2=>(500006,⟨tm 88 [(1,ai i1),(2,ai i2),(3,ptr 0 0),(6,ptr 1 0),(8,ptr 2 0),(39,AV.bool b39)],[Qa (bC [] Yp z0),Qa (bC [] og z1),Qa (bC [] og z2)]⟩)
 |.h500008 i1 i2 z0 z1 z2=>(500008,⟨tm 88 [(1,ai i1),(2,ai i2),(3,ptr 0 0),(6,ptr 1 0),(8,ptr 2 0)],[Qa (bC [] Yp z0),Qa (bC [] og z1),Qa (bC [] og z2)]⟩)
 |.h10 i1 i2 i9 z0 z1 z2=>(10,⟨tm 88 [(1,ai i1),(2,ai i2),(3,ptr 0 0),(6,ptr 1 0),(8,ptr 2 0),(9,ai i9)],[Qa (bC [] Yp z0),Qa (bC [] og z1),Qa (bC [3] zgA z2),AO.vec Q5 z2.t.2.1]⟩)
theorem zjh(g:Sem Q5->Sem zg->Sem zg->Sem Q5×Sem zg)(c:Sem Q5->Sem zg->Sem zg->Bool):zJ (Ia g c).P 71 Tryz.f71 3:=bQ kw
def R1(_:Sem Q5->Sem zg->Sem zg->Sem Q5×Sem zg)(_:Sem Q5->Sem zg->Sem zg->Bool)(x0:Sem Q5)(x1:Sem zg)(x2:Sem zg):Tr (xH⊕ar):=
 let a0:=Q0 ((↑(length (zf.s x0)):Int)>20)
 let a1:=((zf.v x0).1,(zf.v x0).2.1,(zf.v x0).2.2,zf.s x0,())
 br (Q0 ((↑(length (zf.op x0)):Int)>8))
 (Qc (Q0 (0<=0)&&Q0 (0<=8)&&Q0 (8<=(↑(length (zf.op x0)):Int)))
  (Q9 (xH.h500004 x1 x2 a0 (x0,()) ([],0,0,[],[],()) (Qg (toNat 8-toNat 0) (Qh (toNat 0) (zf.op x0)),a1))))
 (Q9 (xH.h500004 x1 x2 a0 (x0,()) ([],0,0,[],[],()) (zf.op x0,a1)))
theorem zhh(g:Sem Q5->Sem zg->Sem zg->Sem Q5×Sem zg)(c:Sem Q5->Sem zg->Sem zg->Bool)(x0:Sem Q5)(x1:Sem zg)(x2:Sem zg):rn (Ia g c) 0 Sq Tryz.f71 [zF Q5 x0,zF zg x1,zF zg x2] []=(R1 g c x0 x1 x2).map (lf Tryz.f71 QM):=kw
def uJ(g:Sem Q5->Sem zg->Sem zg->Sem Q5×Sem zg)(c:Sem Q5->Sem zg->Sem zg->Bool):xH->Tr (xH⊕ar)
 | .h500004 i1 i2 b30 z0 z1 z2=>
  let a0:=(↑(length z2.t.1):Int)
  let a1:=(↑(length z2.2.2.2.1):Int)
  let a2:=Q0 (a1>45)
  br b30
  (Qc (Q0 (0<=0)&&Q0 (0<=20)&&Q0 (20<=a0)) (Q9 (xH.h500006 i1 i2 a2 z0 z1 (z2.1,z2.2.1,z2.2.2.1,z2.2.2.2.1,Qg (toNat 20-toNat 0) (Qh (toNat 0) z2.t.1),()))))
  (Q9 (xH.h500006 i1 i2 a2 z0 z1 z2))
 | .h500006 i1 i2 b39 z0 z1 z2=>
  let a0:=(↑(length z2.2.2.2.1):Int)
  let a1:=IntKind.i64.wrap (i2-1)
  br b39
  (Qc (Q0 (0<=0)&&Q0 (0<=45)&&Q0 (45<=a0)) (Q9 (xH.h500008 i1 a1 z0 z1 (z2.1,z2.2.1,z2.2.2.1,Qg (toNat 45-toNat 0) (Qh (toNat 0) z2.2.2.2.1),z2.t))))
  (Q9 (xH.h500008 i1 a1 z0 z1 z2))
 | .h500008 i1 i2 z0 z1 z2=>
  Q9 (xH.h10 i1 i2 0 z0 z1 (z2.1,z2.2.1,z2.2.2.1,z2.2.2.2.1,z2.t.1,[],()))
 | .h10 i1 i2 i9 z0 z1 z2=>
  let a0:=(↑(zf.l z0.1).length:Int)
  let a1:=zm ((zf.l z0.1).getD i9.toNat (zi Q5))
  let a2:=IntKind.i64.wrap (i1-1)
  let a3:=g a1 a2 i2
  let a4:=[zm a3.1]
  br (bif Q0 (i9<a0)then bif Q0 (i9<3)then bif Q0 (i1>0)then Q0 (i2>0)else Q4 else Q4 else Q4)
  (Qc (zN i9 (zf.l z0.1).length) (Qc (c a1 a2 i2) (Qc (Q0 (z2.t.2.1.length+a4.length<=1073741824)) (Q9 (xH.h10 i1 a3.2 (IntKind.i64.wrap (i9+1)) z0 z1 (z2.1,z2.2.1,z2.2.2.1,z2.2.2.2.1,z2.t.1,z2.t.2.1++a4,()))))))
  (re (tup [agg [str z2.1,ai z2.2.1,ai z2.2.2.1,str z2.2.2.2.1,str z2.t.1,AV.vec 0],ai i2]) [AO.vec Q5 z2.t.2.1])
theorem zjF(g:Sem Q5->Sem zg->Sem zg->Sem Q5×Sem zg)(c:Sem Q5->Sem zg->Sem zg->Bool):∀s,run (Ia g c) 0 Sq (Func.results Tryz.f71).toList 400 (ae Tryz.f71 (QM s).1) (QM s).2=(uJ g c s).map (lf Tryz.f71 QM):=by intro s;cases s<;>kernel_rfl
def H8(o:Option (zy (List.map Q1 [Q5,zg]))):Sem Q5×Sem zg:=(λr:zy (List.map Q1 [Q5,zg])=>(r.1,r.2.1)) (o.getD (cw [Q5,zg]))
def zgQ(g:Sem Q5->Sem zg->Sem zg->Sem Q5×Sem zg)(c:Sem Q5->Sem zg->Sem zg->Bool)(x0:Sem Q5)(x1:Sem zg)(x2:Sem zg):Option (zy (List.map Q1 [Q5,zg])):=ao [Q5,zg] (uJ g c) 100000000 (R1 g c x0 x1 x2)
def oh:Nat->Sem Q5->Sem zg->Sem zg->Option (zy (List.map Q1 [Q5,zg]))
 |0=>λ_ _ _=>Q2
 |n+1=>zgQ (λx0 x1 x2=>H8 (oh n x0 x1 x2)) λx0 x1 x2=>(oh n x0 x1 x2).isSome
theorem zcq:zJ DT.P 71 Tryz.f71 3:=bQ kw
theorem Me:∀n,FK 71 (zR [Q5,zg,zg] [Q5,zg] (λx=>(oh n x.1 x.2.1 x.2.2.1).isSome) λx=>((H8 (oh n x.1 x.2.1 x.2.2.1)).1,(H8 (oh n x.1 x.2.1 x.2.2.1)).2,()))
 |0=>fq ⟨Tryz.f71,zcq.1,zcq.2.1,zcq.2.2.1⟩ (λ_=>rfl)
 |n+1=>lH (E:=Ia (λx0 x1 x2=>H8 (oh n x0 x1 x2)) (λx0 x1 x2=>(oh n x0 x1 x2).isSome)) (ks:=[Q5,zg,zg]) (outs:=[Q5,zg]) (keep:=Sq) (gas:=400) (n:=100000000) (e:=QM) (t:=uJ (λx0 x1 x2=>H8 (oh n x0 x1 x2)) (λx0 x1 x2=>(oh n x0 x1 x2).isSome)) (i:=λx=>R1 (λx0 x1 x2=>H8 (oh n x0 x1 x2)) (λx0 x1 x2=>(oh n x0 x1 x2).isSome) x.1 x.2.1 x.2.2.1) (Ou (Me n)) (zjh _ _) (λx=>zhh _ _ x.1 x.2.1 x.2.2.1) (zjF _ _) (λ_=>by kernel_rfl) (λ_=>by kernel_rfl)
def qV(N:Nat)(e:Sem Q5)(d n:Sem zg):Sem Q5×Sem zg:=H8 (oh N e d n)
def Iw(N:Nat)(e:Sem Q5)(d n:Sem zg):Bool:=(oh N e d n).isSome
def F15:zY:=zR [Q5,zg,zg] [Q5,zg] (λx=>Iw 16 x.1 x.2.1 x.2.2.1) λx=>((qV 16 x.1 x.2.1 x.2.2.1).1,(qV 16 x.1 x.2.1 x.2.2.1).2,())
theorem zfh:FK 71 F15:=Me 16
def V0(g:zf->zf->Bool):List zf->List zf->Bool
 |x::r,y::s=>if(!g x y)=Q3 then Q4 else V0 g r s
 |_,_=>Q3
def OE(g c:zf->zf->Bool):List zf->List zf->Bool
 |x::r,y::s=>if c x y=Q3 then(if(!g x y)=Q3 then Q3 else OE g c r s)else Q4
 |_,_=>Q3
noncomputable def Oq(g c:zf->zf->Bool):bX:=DT.add 154 (zR [.expr,.expr] [.bool] (λx=>c x.1 x.2.1) (λx=>(g x.1 x.2.1,())))
theorem AL{g c:zf->zf->Bool}(hg:FK 154 (zR [.expr,.expr] [.bool] (λx=>c x.1 x.2.1) (λx=>(g x.1 x.2.1,())))):zx (Oq g c):=pK.add hg
abbrev zh3:Nat->aN:=λj=>if j=4 then{slots:=[1,2,15,16,17]}else{ }
abbrev NA(l1:List zf)(l15:List zf)(i16:Int)(i17:Int):St:={tmps:=(tm 32 [(1,sl Q5 l1),(2,AV.clo (Fn.func 154) [] []),(15,sl Q5 l15),(16,ai i16),(17,ai i17)]),heap:=[]}
theorem WC(g c:zf->zf->Bool):zJ (Oq g c).P 202 Tryz.f202 3:=bQ kw
theorem zlu(g c:zf->zf->Bool)(l:List zf)(m:List zf):rn (Oq g c) 0 zh3 Tryz.f202 [sl Q5 l,sl Q5 m,AV.clo (Fn.func 154) [] []] []=br ((↑l.length:Int)!=(↑m.length:Int)) (Tr.ok (zC.ret (kb Q4) [])) (Tr.ok (zC.head 4 (ae Tryz.f202 4) (NA m l (↑l.length:Int) 0))):=kw
theorem Tb(g c:zf->zf->Bool)(l1:List zf)(l15:List zf)(i16:Int)(i17:Int):rh (Oq g c) 0 zh3 Tryz.f202 4 (NA l1 l15 i16 i17)=br (Q0 (i17<i16)) (Qc (zN i17 l15.length) (Qc (zN i17 l1.length) (Qc (c (zm (l15.getD i17.toNat (zi Q5))) (zm (l1.getD i17.toNat (zi Q5)))) (br (!g (zm (l15.getD i17.toNat (zi Q5))) (zm (l1.getD i17.toNat (zi Q5)))) (Tr.ok (zC.ret (kb Q4) [])) (Tr.ok (zC.head 4 (ae Tryz.f202 4) (NA l1 l15 i16 (IntKind.i64.wrap (i17+1))))))))) (Tr.ok (zC.ret (kb Q3) [])):=kw
theorem zkk{g c:zf->zf->Bool}(hg:FK 154 (zR [.expr,.expr] [.bool] (λx=>c x.1 x.2.1) (λx=>(g x.1 x.2.1,())))){C:eS}(hC:∀id,0<=id->C.ρ0 id=Q2)(l m:List zf)(hlm:l.length=m.length)(hl:l.length<=aF):
  ∀(k i:Nat),l.length-i=k->i<=l.length->OE g c (l.drop i) (m.drop i)=Q3->Reach (Oq g c) C 202 (ae Tryz.f202 4) (NA m l l.length i) (λr h=>(r,h)=(.kb (V0 g (l.drop i) (m.drop i)),[])):=by
 intro k
 induction k with
 | zero=>
  intro i hk hi hc;obtain rfl:i=l.length:=by omega
  refine zD (AL hg) (WC g c) hC (Tb g c _ _ _ _) ?_;simp only[zA,Tr.val_brF,jo];rfl
 | succ k IH=>
  intro i hk hi hc;have hlt:i<l.length:=by omega
  have hlt':i<m.length:=by omega
  refine zD (AL hg) (WC g c) hC (Tb g c _ _ _ _) ?_;rw[fu hlt,fu hlt']at hc⊢;rw[OE]at hc;have hc1:=pU hc;simp only[zH hlt,zt hlt,zt hlt',cA l _ hlt,cA m _ hlt',zf.eta,Tr.val_brT,Tr.val_chkT,hc1.1,zp i ow];refine lX (λh=>?_) (λh=>?_)
  ·rw[V0,if_pos h];rfl
  ·rw[V0,if_neg (mn h)];have h2:=hc1.2;rw[if_neg (mn h)]at h2;exact IH (i+1) ow ow h2
def KF(g:zf->zf->Bool)(l m:List zf):Bool:=if((↑l.length:Int)!=(↑m.length:Int))=Q3 then Q4 else V0 g l m
def xe(g c:zf->zf->Bool)(l m:List zf):Bool:=if((↑l.length:Int)!=(↑m.length:Int))=Q3 then Q3 else OE g c l m
def G50(g c:zf->zf->Bool):ic [Q1 (.sl .expr),Q1 (.sl .expr),Q2]:=λx h=>match x,h with
 |(l,m,.clo (.func 154) [] [],_),[]=>.chk (xe g c l m) (.ok (.bool (KF g l m),[]))
 |_,_=>.err
def F50(g c:zf->zf->Bool):zY:=bg [Q1 (.sl .expr),Q1 (.sl .expr),Q2] (G50 g c)
theorem Reach.weaken{E:bX}{C:eS}{fn:FuncId}{todo:List Item}{st:St}{Q Q':AV->List AO->Prop}(h:Reach E C fn todo st Q)(hq:∀r h,Q r h->∃r',Q' r' h/\∀w U ρ v,Rv w U ρ r v->Rv w U ρ r' v):Reach E C fn todo st Q':=by
 intro b cs a w U ρ h1 h2 hc hW;obtain⟨e,w',fr,⟨v,r,h',U',ρ',he,hq1,hrv,hrest⟩,hcm⟩:=h b cs a w U ρ h1 h2 hc hW;obtain⟨r',hq2,hrr⟩:=hq r h' hq1;exact⟨e,w',fr,⟨v,r',h',U',ρ',he,hq2,hrr _ _ _ _ hrv,hrest⟩,hcm⟩
theorem zfJ{g c:zf->zf->Bool}(hg:FK 154 (zR [.expr,.expr] [.bool] (λx=>c x.1 x.2.1) (λx=>(g x.1 x.2.1,())))):FK 202 (F50 g c):=by
 refine dt (E:=Oq g c) (WC g c) λx h0 res hx C hC=>?_
 unfold G50 at hx;split at hx
 ·rename_i l m u;simp only[Q8]at hx;split at hx
  ·rename_i hc;simp only[bz]at hx;subst hx;refine Reach.len 0 .expr l rfl λhl=>?_
   refine Reach.weaken (Q:=λr h=>(r,h)=(.kb (KF g l m),[])) ?_ ?_
   ·refine zD (n0:=0) (AL hg) (WC g c) hC (zlu g c l m) ?_;unfold xe at hc;unfold KF;refine lX (λh=>?_) (λh=>?_)
    ·rw[if_pos h];rfl
    ·rw[if_neg (mn h)]at hc⊢;have:(l.length:Int)=m.length:=by simpa using h
     have:l.length=m.length:=by omega
     exact zkk hg hC l m this hl _ 0 rfl (aZ _) hc
   ·rintro r h hq;cases hq;refine⟨_,rfl,λw U ρ v hv=>?_⟩;cases hv;exact .bool _
  ·simp at hx
 ·simp at hx
noncomputable def VX(g c:zf->zf->Bool):bX:=DT.add 202 (F50 g c)
theorem QS{g c:zf->zf->Bool}(hg:FK 154 (zR [.expr,.expr] [.bool] (λx=>c x.1 x.2.1) (λx=>(g x.1 x.2.1,())))):zx (VX g c):=pK.add (zfJ hg)
def Ux(a b:V):Bool:=a.1==b.1&&(a.2.1==b.2.1&&(a.2.2==b.2.2&&Q3))
def JO(g:zf->zf->Bool)(a b:zf):Bool:=bif a.op==b.op then bif Ux a.v b.v then bif a.s==b.s then KF g a.l b.l else Q4 else Q4 else Q4
def G1(g c:zf->zf->Bool)(a b:zf):Bool:=bif a.op==b.op then bif Ux a.v b.v then bif a.s==b.s then xe g c a.l b.l else Q3 else Q3 else Q3
theorem S2(g c:zf->zf->Bool):zJ (VX g c).P 154 Tryz.f154 2:=bQ kw
theorem zlb(g c:zf->zf->Bool)(l:zf)(m:zf):rn (VX g c) 0 (λ_=>{}) Tryz.f154 [zF Q5 l,zF Q5 m] []=Qc (G1 g c l m) (Tr.ok (zC.ret (AV.bool (JO g l m)) [])):=kw
theorem zal{g c:zf->zf->Bool}(hg:FK 154 (zR [.expr,.expr] [.bool] (λx=>c x.1 x.2.1) (λx=>(g x.1 x.2.1,())))):FK 154 (zR [.expr,.expr] [.bool] (λx=>G1 g c x.1 x.2.1) (λx=>(JO g x.1 x.2.1,()))):=by
 refine aJ (E:=VX g c) (S2 g c) λx hx C hC=>?_
 refine zD (n0:=0) (QS hg) (S2 g c) (λid _=>hC id) (zlb g c x.1 x.2.1) ?_;exact jY hx rfl
mutual
def fj:Nat->zf->zf->Bool
 |0=>λ_ _=>Q4
 |n+1=>JO (fj n)
def jc:Nat->zf->zf->Bool
 |0=>λ_ _=>Q4
 |n+1=>G1 (fj n) (jc n)
end
theorem PT:∀n,FK 154 (zR [.expr,.expr] [.bool] (λx=>jc n x.1 x.2.1) (λx=>(fj n x.1 x.2.1,())))
 |0=>fq ⟨Tryz.f154,(S2 (λ_ _=>Q4) (λ_ _=>Q4)).1,(S2 (λ_ _=>Q4) (λ_ _=>Q4)).2.1,(S2 (λ_ _=>Q4) (λ_ _=>Q4)).2.2.1⟩ (λ_=>rfl)
 |n+1=>zal (PT n)
def F29:zY:=zR [.expr,.expr] [.bool] (λx=>jc 16 x.1 x.2.1) (λx=>(fj 16 x.1 x.2.1,()))
theorem zfr:FK 154 F29:=PT 16
noncomputable def Mv:=DT.addL [(71,F15),(154,F29)]
theorem DU:zx Mv:=pK.addL<|fc zfh<|fc zfr iV
def aY(v:V):Bool:=v.1==0&&(v.2.1==0&&(v.2.2==[]&&Q3))
def avB:AV->Option Bool
 |.bool b=>Q1 b
 |.kb b=>Q1 b
 |_=>Q2
theorem Reach.toBool{E:bX}{C:eS}{fn:FuncId}{todo:List Item}{st:St}{b:Bool}{hp:List AO}(h:Reach E C fn todo st (λr h=>avB r=Q1 b/\h=hp)):Reach E C fn todo st (λr h=>(r,h)=(.bool b,hp)):=by
 refine h.weaken λr h' hq=>?_
 obtain⟨h1,rfl⟩:=hq;refine⟨.bool b,rfl,λw U ρ v hv=>?_⟩;cases r<;>simp[avB]at h1<;>subst h1<;>cases hv<;>exact .bool _
def zbr(g:zf->Int->Int->Bool×Int)(c:zf->Int->Int->Bool):ic [Q2,Q1 .expr,Q1 zg]:=λx h=>match x,h with
 |(.ptr 0 0,e,d,_),[.box [.int .i64 n]]=>.chk (c e d n) (.ok (.bool (g e d n).1,[.box [.int .i64 (g e d n).2]]))
 |_,_=>.err
def J9(g:zf->Int->Int->Bool×Int)(c:zf->Int->Int->Bool):zY:=bg [Q2,Q1 .expr,Q1 zg] (zbr g c)
noncomputable def Oo(g:zf->Int->Int->Bool×Int)(c:zf->Int->Int->Bool):bX:=Mv.add 247 (J9 g c)
theorem AK{g:zf->Int->Int->Bool×Int}{c:zf->Int->Int->Bool}(hg:FK 247 (J9 g c)):zx (Oo g c):=DU.add hg
abbrev zhX:Nat->aN:=λj=>if j=12 then{slots:=[0,2,73,74,75]}else{ }
abbrev GY(i2:Int)(l73:LX)(i74:Int)(i75:Int)(ja0:Int):St:={tmps:=(tm 86 [(0,ptr 0 0),(2,ai i2),(73,sl Q5 l73),(74,ai i74),(75,ai i75)]),heap:=[Qa [ai ja0]]}
theorem S3(g:zf->Int->Int->Bool×Int)(c:zf->Int->Int->Bool):zJ (Oo g c).P 247 Tryz.f247 3:=bQ kw
theorem zlh(g:zf->Int->Int->Bool×Int)(c:zf->Int->Int->Bool)(e:zf)(d:Int)(n:Int):rn (Oo g c) 1 zhX Tryz.f247 [ptr 0 0,zF Q5 e,ai d] [Qa [ai n]]=br (bif Q0 (d>12)then Q3 else bif Q0 (IntKind.i64.wrap (n+1)>60)then Q3 else(↑e.l.length:Int)!=cK e.op) (Tr.ok (zC.ret (kb Q4) [Qa [ai (IntKind.i64.wrap (n+1))]])) (br (e.op==[108,105,116]) (Tr.ok (zC.ret (AV.bool (bif e.s==[]then aW e.v else Q4)) [Qa [ai (IntKind.i64.wrap (n+1))]])) (br (e.op==[99,111,108]) (Tr.ok (zC.ret (AV.bool (bif aY e.v then bif dT e.s then !iZ e.s else Q4 else Q4)) [Qa [ai (IntKind.i64.wrap (n+1))]])) (br (bif !aY e.v then Q3 else !e.s==[]) (Tr.ok (zC.ret (kb Q4) [Qa [ai (IntKind.i64.wrap (n+1))]])) (Tr.ok (zC.head 12 (ae Tryz.f247 12) (GY d e.l (↑e.l.length:Int) 0 (IntKind.i64.wrap (n+1)))))))):=kw
theorem M4(g:zf->Int->Int->Bool×Int)(c:zf->Int->Int->Bool)(i2:Int)(l73:LX)(i74:Int)(i75:Int)(ja0:Int):rh (Oo g c) 1 zhX Tryz.f247 12 (GY i2 l73 i74 i75 ja0)=br (Q0 (i75<i74)) (Qc (zN i75 l73.length) (Qc (c (zm (l73.getD i75.toNat (zi Q5))) (IntKind.i64.wrap (i2+1)) ja0) (br (!(g (zm (l73.getD i75.toNat (zi Q5))) (IntKind.i64.wrap (i2+1)) ja0).1) (Tr.ok (zC.ret (kb Q4) [Qa [AV.int IntKind.i64 (g (zm (l73.getD i75.toNat (zi Q5))) (IntKind.i64.wrap (i2+1)) ja0).2]])) (Tr.ok (zC.head 12 (ae Tryz.f247 12) (GY i2 l73 i74 (IntKind.i64.wrap (i75+1)) (g (zm (l73.getD i75.toNat (zi Q5))) (IntKind.i64.wrap (i2+1)) ja0).2)))))) (Tr.ok (zC.ret (kb Q3) [Qa [ai ja0]])):=kw
def om(g:zf->Int->Int->Bool×Int)(d:Int):List zf->Int->Bool×Int
 |[],n=>(Q3,n)
 |x::r,n=>if(!(g x (IntKind.i64.wrap (d+1)) n).1)=Q3 then(Q4,(g x (IntKind.i64.wrap (d+1)) n).2)else om g d r (g x (IntKind.i64.wrap (d+1)) n).2
def Bu(g:zf->Int->Int->Bool×Int)(c:zf->Int->Int->Bool)(d:Int):List zf->Int->Bool
 |[],_=>Q3
 |x::r,n=>if c x (IntKind.i64.wrap (d+1)) n=Q3 then(if(!(g x (IntKind.i64.wrap (d+1)) n).1)=Q3 then Q3 else Bu g c d r (g x (IntKind.i64.wrap (d+1)) n).2)else Q4
theorem zkj{g:zf->Int->Int->Bool×Int}{c:zf->Int->Int->Bool}(hg:FK 247 (J9 g c)){C:eS}(hC:∀id,1<=id->C.ρ0 id=Q2)(d:Int)(l:List zf)(hl:l.length<=aF):
  ∀(k i:Nat)(n:Int),l.length-i=k->i<=l.length->Bu g c d (l.drop i) n=Q3->Reach (Oo g c) C 247 (ae Tryz.f247 12) (GY d l l.length i n) (λr h=>avB r=Q1 (om g d (l.drop i) n).1/\h=[.box [.int .i64 (om g d (l.drop i) n).2]]):=by
 intro k
 induction k with
 | zero=>
  intro i n hk hi hc;obtain rfl:i=l.length:=by omega
  refine zD (AK hg) (S3 g c) hC (M4 g c _ _ _ _ _) ?_;simp only[zA,Tr.val_brF,jo];exact⟨rfl,rfl⟩
 | succ k IH=>
  intro i n hk hi hc;have hlt:i<l.length:=by omega
  refine zD (AK hg) (S3 g c) hC (M4 g c _ _ _ _ _) ?_;rw[fu hlt]at hc⊢;rw[Bu]at hc;have hc1:=pU hc;simp only[zH hlt,zt hlt,cA l _ hlt,zf.eta,Tr.val_brT,Tr.val_chkT,hc1.1,zp i ow];refine lX (λh=>?_) (λh=>?_)
  ·rw[om,if_pos h];exact⟨rfl,rfl⟩
  ·rw[om,if_neg (mn h)];have h2:=hc1.2;rw[if_neg (mn h)]at h2;exact IH (i+1) _ ow ow h2
def xN(g:zf->Int->Int->Bool×Int)(e:zf)(d n:Int):Bool×Int:=if(bif Q0 (d>12)then Q3 else bif Q0 (IntKind.i64.wrap (n+1)>60)then Q3 else(↑e.l.length:Int)!=cK e.op)=Q3 then(Q4,IntKind.i64.wrap (n+1))else if(e.op==[108,105,116])=Q3 then(bif e.s==[]then aW e.v else Q4,IntKind.i64.wrap (n+1))else if(e.op==[99,111,108])=Q3 then(bif aY e.v then bif dT e.s then !iZ e.s else Q4 else Q4,IntKind.i64.wrap (n+1))else if(bif !aY e.v then Q3 else !e.s==[])=Q3 then(Q4,IntKind.i64.wrap (n+1))else om g d e.l (IntKind.i64.wrap (n+1))
def MS(g:zf->Int->Int->Bool×Int)(c:zf->Int->Int->Bool)(e:zf)(d n:Int):Bool:=if(bif Q0 (d>12)then Q3 else bif Q0 (IntKind.i64.wrap (n+1)>60)then Q3 else(↑e.l.length:Int)!=cK e.op)=Q3 then Q3 else if(e.op==[108,105,116])=Q3 then Q3 else if(e.op==[99,111,108])=Q3 then Q3 else if(bif !aY e.v then Q3 else !e.s==[])=Q3 then Q3 else Bu g c d e.l (IntKind.i64.wrap (n+1))
theorem zaz{g:zf->Int->Int->Bool×Int}{c:zf->Int->Int->Bool}(hg:FK 247 (J9 g c)):FK 247 (J9 (xN g) (MS g c)):=by
 refine dt (E:=Oo g c) (S3 g c) λx h0 res hx C hC=>?_
 unfold zbr at hx;split at hx
 ·rename_i e d u n;simp only[Q8]at hx;split at hx
  ·rename_i hc;simp only[bz]at hx;subst hx;refine Reach.toBool ?_;refine zD (n0:=1) (AK hg) (S3 g c) hC (zlh g c e d n) ?_;generalize hy:xN g e d n=y;unfold xN at hy;unfold MS at hc;repeat' (refine lX (λhsp=>?_) (λhsp=>?_)<;>first|(rw[if_pos hsp]at hy hc)|(rw[if_neg (mn hsp)]at hy hc))
   all_goals subst hy
   ·exact⟨rfl,rfl⟩
   ·exact⟨rfl,rfl⟩
   ·exact⟨rfl,rfl⟩
   ·exact⟨rfl,rfl⟩
   ·exact Reach.len 73 .expr e.l rfl λhl=>zkj hg hC d e.l hl _ 0 _ rfl (aZ _) hc
  ·simp at hx
 ·simp at hx
mutual
def ia:Nat->zf->Int->Int->Bool×Int
 |0=>λ_ _ _=>(Q4,0)
 |n+1=>xN (ia n)
def tL:Nat->zf->Int->Int->Bool
 |0=>λ_ _ _=>Q4
 |n+1=>MS (ia n) (tL n)
end
theorem PU:∀n,FK 247 (J9 (ia n) (tL n))
 | 0=>by
  have h:FK 247 (bg [Q2,Q1 .expr,Q1 zg] (λ_ _=>.err)):=dt (S3 (λ_ _ _=>(Q4,0)) (λ_ _ _=>Q4)) (E:=Mv) λx h0 res hx=>by simp at hx
  refine xS (ι:=Unit) (Gs:=λ_ _ _=>.err) (λ_=>h) λx h0 res hx=>?_
  unfold zbr at hx;split at hx
  ·simp[Q8,tL]at hx
  ·simp at hx
 |n+1=>zaz (PU n)
def F37:zY:=J9 (ia 16) (tL 16)
theorem zfw:FK 247 F37:=PU 16
noncomputable def DV:=Mv.add 247 F37
theorem vA:zx DV:=DU.add zfw
abbrev iJ:List (zB×AV):=[([97,110,100],.clo (.func 310) [] []),([111,114],.clo (.func 311) [] []),([110,111,116],.clo (.func 312) [] []),([61],.clo (.func 314) [] []),([60],.clo (.func 315) [] []),([43],.clo (.func 316) [] []),([45],.clo (.func 317) [] []),([110,117,108,108],.clo (.func 318) [] [])]
abbrev zl6:Nat->aN:=λ_=>{ }
theorem ziI:zJ DV.P 283 Tryz.f283 0:=bQ kw
theorem zk8:(run DV 0 zl6 (Func.results Tryz.f283).toList 400 (bt Tryz.f283) (bc (Func.ntmps Tryz.f283) [] [])).val=Q1 (zC.ret (AV.mp 0) [AO.fmap iJ]):=kw
def G23:ic []:=λ_ h=>match h with
 |[]=>.ok (.mp 0,[.fmap iJ])
 |_=>.err
def F23:zY:=bg [] G23
theorem zfm:FK 283 F23:=by
 refine dt ziI λx h0 res hx C hC=>?_
 unfold G23 at hx;split at hx
 ·simp only[Q8,bz]at hx;subst hx;exact mB (n0:=0) vA ziI hC zk8 rfl
 ·simp at hx
def opV(op:zB)(x y:V):V:=if(op==[97,110,100])=Q3 then Dq x y else if(op==[111,114])=Q3 then Uz x y else if(op==[110,111,116])=Q3 then NO x y else if(op==[61])=Q3 then lT x y else if(op==[60])=Q3 then rG x y else if(op==[43])=Q3 then rH x y else if(op==[45])=Q3 then lU x y else if(op==[110,117,108,108])=Q3 then Ht x y else(0,0,[])
def opC(op:zB):Bool:=if(op==[97,110,100])=Q3 then Q3 else if(op==[111,114])=Q3 then Q3 else if(op==[110,111,116])=Q3 then Q3 else if(op==[61])=Q3 then Q3 else if(op==[60])=Q3 then Q3 else if(op==[43])=Q3 then Q3 else if(op==[45])=Q3 then Q3 else if(op==[110,117,108,108])=Q3 then Q3 else Q4
def opL(op:zB)(x y:V)(h:List AO):Option zC:=if(op==[97,110,100])=Q3 then Q1 (.ret (zF ze (Dq x y)) h)else if(op==[111,114])=Q3 then Q1 (.ret (zF ze (Uz x y)) h)else if(op==[110,111,116])=Q3 then Q1 (.ret (zF ze (NO x y)) h)else if(op==[61])=Q3 then Q1 (.ret (zF ze (lT x y)) h)else if(op==[60])=Q3 then Q1 (.ret (zF ze (rG x y)) h)else if(op==[43])=Q3 then Q1 (.ret (zF ze (rH x y)) h)else if(op==[45])=Q3 then Q1 (.ret (zF ze (lU x y)) h)else if(op==[110,117,108,108])=Q3 then Q1 (.ret (zF ze (Ht x y)) h)else Q2
def zbq(g:List (Sem zj)->List (Sem ze)->zf->V)(c:List (Sem zj)->List (Sem ze)->zf->Bool):ic [Q2,Q1 .expr]:=λx h=>match x,h with
 | (.agg [.sl (.pr .str (.pr (.int .i64) .bool)) cols,.sl (.pr (.int .i64) (.pr (.int .i64) .str)) row,.mp 0],e,_),[.fmap [(k1,.clo (.func 310) [] []),(k2,.clo (.func 311) [] []),(k3,.clo (.func 312) [] []),(k4,.clo (.func 314) [] []),(k5,.clo (.func 315) [] []),(k6,.clo (.func 316) [] []),(k7,.clo (.func 317) [] []),(k8,.clo (.func 318) [] [])]]=>
  .chk (k1==[97,110,100]&&(k2==[111,114]&&(k3==[110,111,116]&&(k4==[61]&&(k5==[60]&&(k6==[43]&&(k7==[45]&&(k8==[110,117,108,108])))))))) (.chk (c cols row e) (.ok (zF ze (g cols row e),[.fmap iJ])))
 |_,_=>.err
def NS(g:List (Sem zj)->List (Sem ze)->zf->V)(c:List (Sem zj)->List (Sem ze)->zf->Bool):zY:=bg [Q2,Q1 .expr] (zbq g c)
noncomputable def Om(g:List (Sem zj)->List (Sem ze)->zf->V)(c:List (Sem zj)->List (Sem ze)->zf->Bool):bX:=DV.add 284 (NS g c)
theorem AI{g:List (Sem zj)->List (Sem ze)->zf->V}{c:List (Sem zj)->List (Sem ze)->zf->Bool}(hg:FK 284 (NS g c)):zx (Om g c):=vA.add hg
theorem S0(g:List (Sem zj)->List (Sem ze)->zf->V)(c:List (Sem zj)->List (Sem ze)->zf->Bool):zJ (Om g c).P 284 Tryz.f284 2:=bQ kw
theorem zb6(g:List (Sem zj)->List (Sem ze)->zf->V)(c:List (Sem zj)->List (Sem ze)->zf->Bool)(cols:LC)(row:LV)(op:zB)(v:V)(s:zB):(run (Om g c) 1 unr (Func.results Tryz.f284).toList 600 (bt Tryz.f284) (bc (Func.ntmps Tryz.f284) [agg [sl zj cols,sl ze row,AV.mp 0],zF Q5 (.mk op v s [])] [AO.fmap iJ])).val=if(op==[108,105,116])=Q3 then Q1 (.ret (zF ze v) [.fmap iJ])else if(op==[99,111,108])=Q3 then(if(bif Q0 (af cols s<0)then Q3 else Q0 (af cols s>=(↑row.length:Int)))=Q3 then Q1 (.ret (zF ze (0,0,[])) [.fmap iJ])else if zN (af cols s) row.length=Q3 then Q1 (.ret (zF ze (row.getD (toNat (af cols s)) (zi ze))) [.fmap iJ])else Q2)else opL op (0,0,[]) (0,0,[]) [.fmap iJ]:=kw
theorem zb7(g:List (Sem zj)->List (Sem ze)->zf->V)(c:List (Sem zj)->List (Sem ze)->zf->Bool)(cols:LC)(row:LV)(op:zB)(v:V)(s:zB)(a:zf):(run (Om g c) 1 unr (Func.results Tryz.f284).toList 600 (bt Tryz.f284) (bc (Func.ntmps Tryz.f284) [agg [sl zj cols,sl ze row,AV.mp 0],zF Q5 (.mk op v s [a])] [AO.fmap iJ])).val=if(op==[108,105,116])=Q3 then Q1 (.ret (zF ze v) [.fmap iJ])else if(op==[99,111,108])=Q3 then(if(bif Q0 (af cols s<0)then Q3 else Q0 (af cols s>=(↑row.length:Int)))=Q3 then Q1 (.ret (zF ze (0,0,[])) [.fmap iJ])else if zN (af cols s) row.length=Q3 then Q1 (.ret (zF ze (row.getD (toNat (af cols s)) (zi ze))) [.fmap iJ])else Q2)else if c cols row (.mk a.op a.v a.s a.l)=Q3 then opL op (g cols row (.mk a.op a.v a.s a.l)) (0,0,[]) [.fmap iJ]else Q2:=kw
theorem zb8(g:List (Sem zj)->List (Sem ze)->zf->V)(c:List (Sem zj)->List (Sem ze)->zf->Bool)(cols:LC)(row:LV)(op:zB)(v:V)(s:zB)(a b:zf):(run (Om g c) 1 unr (Func.results Tryz.f284).toList 600 (bt Tryz.f284) (bc (Func.ntmps Tryz.f284) [agg [sl zj cols,sl ze row,AV.mp 0],zF Q5 (.mk op v s [a,b])] [AO.fmap iJ])).val=if(op==[108,105,116])=Q3 then Q1 (.ret (zF ze v) [.fmap iJ])else if(op==[99,111,108])=Q3 then(if(bif Q0 (af cols s<0)then Q3 else Q0 (af cols s>=(↑row.length:Int)))=Q3 then Q1 (.ret (zF ze (0,0,[])) [.fmap iJ])else if zN (af cols s) row.length=Q3 then Q1 (.ret (zF ze (row.getD (toNat (af cols s)) (zi ze))) [.fmap iJ])else Q2)else if c cols row (.mk a.op a.v a.s a.l)=Q3 then(if c cols row (.mk b.op b.v b.s b.l)=Q3 then opL op (g cols row (.mk a.op a.v a.s a.l)) (g cols row (.mk b.op b.v b.s b.l)) [.fmap iJ]else Q2)else Q2:=kw
theorem pH{Φ:zC->Prop}{c:Bool}{a b:Option zC}(h1:c=Q3->gm Φ a)(h2:c=Q4->gm Φ b):gm Φ (if c=Q3 then a else b):=by
 cases c
 ·simpa using h2 rfl
 ·simpa using h1 rfl
theorem wz{E:bX}{C:eS}{k:FuncId}{f:Func}{Q:AV->List AO->Prop}{n n0:Nat}(hE:zx E)(hf:zJ E.P k f n)(hC:∀id,n0<=id->C.ρ0 id=Q2){keep:Nat->aN}{fuel:Nat}
  {todo:List Item} {st:St} {o:Option zC} (ht:(run E n0 keep f.results.toList fuel todo st).val=o) (h:gm (jD E C k Q) o):Reach E C k todo st Q:=
 zD hE hf hC rfl (by rw[ht];exact h)
theorem wh{E:bX}{C:eS}{op:zB}{x y:V}{h:List AO}(hc:opC op=Q3):gm (jD E C 284 (λr h'=>(r,h')=(zF ze (opV op x y),h))) (opL op x y h):=by
 generalize hy:opV op x y=z;unfold opC at hc;unfold opV at hy;unfold opL;repeat' (refine pH (λhsp=>?_) (λhsp=>?_)<;>first|(rw[if_pos hsp]at hy;try rw[if_pos hsp]at hc)|(rw[if_neg (mn hsp)]at hy;try rw[if_neg (mn hsp)]at hc))
 all_goals first|(cases hc;done)|(subst hy;rfl)
def qZ(g:List (Sem zj)->List (Sem ze)->zf->V)(cols:LC)(row:LV):zf->V
 | .mk op v s l=>if (op==[108,105,116])=Q3 then v else
  if(op==[99,111,108])=Q3 then(if(bif Q0 (af cols s<0)then Q3 else Q0 (af cols s>=(↑row.length:Int)))=Q3 then(0,0,[])else row.getD (toNat (af cols s)) (zi ze))else
  match l with
  |[]=>opV op (0,0,[]) (0,0,[])
  |[a]=>opV op (g cols row a) (0,0,[])
  |[a,b]=>opV op (g cols row a) (g cols row b)
  |_=>(0,0,[])
def uT(c:List (Sem zj)->List (Sem ze)->zf->Bool)(cols:LC)(row:LV):zf->Bool
 |.mk _ _ _ (_::_::_::_)=>Q4
 | .mk op _ s l=>if (op==[108,105,116])=Q3 then Q3 else
  if(op==[99,111,108])=Q3 then(if(bif Q0 (af cols s<0)then Q3 else Q0 (af cols s>=(↑row.length:Int)))=Q3 then Q3 else zN (af cols s) row.length)else
  match l with
  |[]=>opC op
  |[a]=>if c cols row a=Q3 then opC op else Q4
  |[a,b]=>if c cols row a=Q3 then(if c cols row b=Q3 then opC op else Q4)else Q4
  |_=>Q4
theorem zaf{g:List (Sem zj)->List (Sem ze)->zf->V}{c:List (Sem zj)->List (Sem ze)->zf->Bool}(hg:FK 284 (NS g c)):FK 284 (NS (qZ g) (uT c)):=by
 refine dt (E:=Om g c) (S0 g c) λx h0 res hx C hC=>?_
 unfold zbq at hx;split at hx
 ·rename_i cols row e u k1 k2 k3 k4 k5 k6 k7 k8;simp only[Q8]at hx;split at hx
  ·rename_i hk;split at hx
   ·rename_i hc;simp only[aD,ba]at hk;obtain⟨rfl,rfl,rfl,rfl,rfl,rfl,rfl,rfl⟩:=hk;simp only[bz]at hx;subst hx;obtain⟨op,v,s,l⟩:=e
    match l,hc with
    | [],hc=>
     refine wz (n0:=1) (AI hg) (S0 g c) hC (zb6 g c cols row op v s) ?_;generalize hy:qZ g cols row (.mk op v s [])=z;rw[uT]at hc;rw[qZ]at hy;repeat' (first|(subst hy;exact wh hc)|refine pH (λhsp=>?_) (λhsp=>?_)<;>first|(first|rw[if_pos hsp]at hy hc|rw[if_pos hsp]at hc|rw[if_pos hsp]at hy)|(first|rw[if_neg (mn hsp)]at hy hc|rw[if_neg (mn hsp)]at hc|rw[if_neg (mn hsp)]at hy)|skip)
     all_goals first|(subst hy;exact wh hc)|(subst hy;rfl)|(rw[hc]at hsp;cases hsp)
    | [a],hc=>
     refine wz (n0:=1) (AI hg) (S0 g c) hC (zb7 g c cols row op v s a) ?_;generalize hy:qZ g cols row (.mk op v s [a])=z;rw[uT]at hc;rw[qZ]at hy;simp only[zf.eta];repeat' (first|(subst hy;exact wh hc)|refine pH (λhsp=>?_) (λhsp=>?_)<;>first|(first|rw[if_pos hsp]at hy hc|rw[if_pos hsp]at hc|rw[if_pos hsp]at hy)|(first|rw[if_neg (mn hsp)]at hy hc|rw[if_neg (mn hsp)]at hc|rw[if_neg (mn hsp)]at hy)|skip)
     all_goals first|(subst hy;exact wh hc)|(subst hy;rfl)|(cases hc;done)|(rw[hc]at hsp;cases hsp)
    | [a,b],hc=>
     refine wz (n0:=1) (AI hg) (S0 g c) hC (zb8 g c cols row op v s a b) ?_;generalize hy:qZ g cols row (.mk op v s [a,b])=z;rw[uT]at hc;rw[qZ]at hy;simp only[zf.eta];repeat' (first|(subst hy;exact wh hc)|refine pH (λhsp=>?_) (λhsp=>?_)<;>first|(first|rw[if_pos hsp]at hy hc|rw[if_pos hsp]at hc|rw[if_pos hsp]at hy)|(first|rw[if_neg (mn hsp)]at hy hc|rw[if_neg (mn hsp)]at hc|rw[if_neg (mn hsp)]at hy)|skip)
     all_goals first|(subst hy;exact wh hc)|(subst hy;rfl)|(cases hc;done)|(rw[hc]at hsp;cases hsp)
    | _::_::_::_,hc=>
     cases hc
   ·simp at hx
  ·simp at hx
 ·simp at hx
mutual
def dm:Nat->List (Sem zj)->List (Sem ze)->zf->V
 |0=>λ_ _ _=>(0,0,[])
 |n+1=>qZ (dm n)
def uS:Nat->List (Sem zj)->List (Sem ze)->zf->Bool
 |0=>λ_ _ _=>Q4
 |n+1=>uT (uS n)
end
theorem PS:∀n,FK 284 (NS (dm n) (uS n))
 | 0=>by
  have h:FK 284 (bg [Q2,Q1 .expr] (λ_ _=>.err)):=dt (S0 (λ_ _ _=>(0,0,[])) (λ_ _ _=>Q4)) (E:=DV) λx h0 res hx=>by simp at hx
  refine xS (ι:=Unit) (Gs:=λ_ _ _=>.err) (λ_=>h) λx h0 res hx=>?_
  unfold zbq at hx;split at hx
  ·simp[Q8,uS]at hx
  ·simp at hx
 |n+1=>zaf (PS n)
def F24:zY:=NS (dm 16) (uS 16)
theorem zfn:FK 284 F24:=PS 16
noncomputable def DW:=DV.addL [(283,F23),(284,F24)]
theorem vB:zx DW:=vA.addL<|fc zfm<|fc zfn iV
abbrev zl5:Nat->aN:=λ_=>{ }
theorem ziH:zJ (DW).P 200 Tryz.f200 1:=bQ kw
theorem zk7(x0:Sem Q5):rn DW 0 zl5 Tryz.f200 [zF Q5 x0] []=Qc (tL 16 (zm x0) 1 0) (Tr.ok (zC.ret (AV.bool (ia 16 (zm x0) 1 0).1) [])):=kw
def dc(x0:Sem Q5):Sem Q7:=(ia 16 x0 1 0).1
def w7(x0:Sem Q5):Bool:=if tL 16 x0 1 0=Q3 then Q3 else Q4
def F22:zY:=zR [Q5] [Q7] (λx=>w7 x.1) λx=>(dc x.1,())
theorem Yh:FK 200 F22:=by
 refine aJ (ziH) λx hc C hC=>?_
 unfold w7 at hc;refine zD vB (ziH) (λid _=>hC id) (zk7 x.1) ?_;generalize hy:dc x.1=y;unfold dc at hy
 try simp only[zf.eta]
 repeat' (first|with_reducible refine tP hy hc (λ_ hy hc=>?_) (λ_ hy hc=>?_)|with_reducible refine dg hy (λ_ hy=>?_) (λ_ hy=>?_)|with_reducible refine ir hc (λhc=>?_)|with_reducible refine zK ?_)
 all_goals(subst hy;first|rfl)
abbrev kp7:Nat->aN:=λ_=>{ }
theorem ok7:zJ (DW).P 41 Tryz.f41 1:=bQ kw
theorem go7(x0:Sem Q5):rn DW 0 kp7 Tryz.f41 [zF Q5 x0] []=Qc (Iw 16 (zm x0) 14 80) (Tr.ok (zC.ret (agg [str (zf.op (qV 16 (zm x0) 14 80).1),ai (zf.v (qV 16 (zm x0) 14 80).1).1,ai (zf.v (qV 16 (zm x0) 14 80).1).2.1,str (zf.v (qV 16 (zm x0) 14 80).1).2.2,str (zf.s (qV 16 (zm x0) 14 80).1),sl Q5 (zf.l (qV 16 (zm x0) 14 80).1)]) [])):=kw
def gJ(x0:Sem Q5):Sem Q5:=zf.mk (zf.op (qV 16 x0 14 80).1) (zf.v (qV 16 x0 14 80).1) (zf.s (qV 16 x0 14 80).1) (zf.l (qV 16 x0 14 80).1)
def Mt(x0:Sem Q5):Bool:=if Iw 16 x0 14 80=Q3 then Q3 else Q4
def F7:zY:=zR [Q5] [Q5] (λx=>Mt x.1) λx=>(gJ x.1,())
theorem zf1:FK 41 F7:=by
 refine aJ (ok7) λx hc C hC=>?_
 unfold Mt at hc;refine zD vB (ok7) (λid _=>hC id) (go7 x.1) ?_;generalize hy:gJ x.1=y;unfold gJ at hy
 try simp only[zf.eta]
 repeat' (first|with_reducible refine tP hy hc (λ_ hy hc=>?_) (λ_ hy hc=>?_)|with_reducible refine dg hy (λ_ hy=>?_) (λ_ hy=>?_)|with_reducible refine ir hc (λhc=>?_)|with_reducible refine zK ?_)
 all_goals(subst hy;first|rfl)
noncomputable def DX:=DW.addL [(200,F22),(41,F7)]
theorem vC:zx DX:=vB.addL<|fc Yh<|fc zf1 iV
abbrev zl7:Nat->aN:=λ_=>{ }
theorem ziL:zJ (DX).P 151 Tryz.f151 2:=bQ kw
theorem zlc(x0:Sem Q5)(x1:Sem zj.sl):rn DX 0 zl7 Tryz.f151 [zF Q5 x0,zF zj.sl x1] []=Qc (w7 (zm x0)) (br (!dc (zm x0)) (Tr.ok (zC.ret (tup [ai 0,ai 1]) [])) (Qc (be 16 (zm x0) x1) (Tr.ok (zC.ret (tup [ai (zM 16 (zm x0) x1).1,ai (zM 16 (zm x0) x1).2]) [])))):=kw
def bG(x0:Sem Q5)(x1:Sem zj.sl):Sem zg×Sem zg:=if(!dc x0)=Q3 then(0,1)else((zM 16 x0 x1).1,(zM 16 x0 x1).2)
def Fz(x0:Sem Q5)(x1:Sem zj.sl):Bool:=if w7 x0=Q3 then if(!dc x0)=Q3 then Q3 else if be 16 x0 x1=Q3 then Q3 else Q4 else Q4
def F30:zY:=zR [Q5,zj.sl] [zg,zg] (λx=>Fz x.1 x.2.1) λx=>((bG x.1 x.2.1).1,(bG x.1 x.2.1).2,())
theorem Yi:FK 151 F30:=by
 refine aJ (ziL) λx hc C hC=>?_
 unfold Fz at hc;refine zD vC (ziL) (λid _=>hC id) (zlc x.1 x.2.1) ?_;generalize hy:bG x.1 x.2.1=y;unfold bG at hy
 try simp only[zf.eta]
 repeat' (first|with_reducible refine tP hy hc (λ_ hy hc=>?_) (λ_ hy hc=>?_)|with_reducible refine dg hy (λ_ hy=>?_) (λ_ hy=>?_)|with_reducible refine ir hc (λhc=>?_)|with_reducible refine zK ?_)
 all_goals(subst hy;first|rfl)
abbrev zl4:Nat->aN:=λ_=>{ }
theorem ziB:zJ (DX).P 244 Tryz.f244 3:=bQ kw
theorem zk1(x0:Sem Q5)(x1:Sem zj.sl)(x2:Sem ze.sl):rn DX 0 zl4 Tryz.f244 [zF Q5 x0,zF zj.sl x1,zF ze.sl x2] []=Qc (w7 (zm x0)) (br (!dc (zm x0)) (Tr.ok (zC.ret (agg [ai 0,ai 0,str []]) [])) (Qc ([97,110,100]==[97,110,100]&&([111,114]==[111,114]&&([110,111,116]==[110,111,116]&&([61]==[61]&&([60]==[60]&&([43]==[43]&&([45]==[45]&&[110,117,108,108]==[110,117,108,108]))))))) (Qc (uS 16 x1 x2 (zm x0)) (Tr.ok (zC.ret (agg [ai (dm 16 x1 x2 (zm x0)).1,ai (dm 16 x1 x2 (zm x0)).2.1,str (dm 16 x1 x2 (zm x0)).2.2]) []))))):=kw
def jO(x0:Sem Q5)(x1:Sem zj.sl)(x2:Sem ze.sl):Sem ze:=if(!dc x0)=Q3 then(0,0,[])else dm 16 x1 x2 x0
def Fx(x0:Sem Q5)(x1:Sem zj.sl)(x2:Sem ze.sl):Bool:=if w7 x0=Q3 then if(!dc x0)=Q3 then Q3 else if([97,110,100]==[97,110,100]&&([111,114]==[111,114]&&([110,111,116]==[110,111,116]&&([61]==[61]&&([60]==[60]&&([43]==[43]&&([45]==[45]&&[110,117,108,108]==[110,117,108,108])))))))=Q3 then if uS 16 x1 x2 x0=Q3 then Q3 else Q4 else Q4 else Q4
def F11:zY:=zR [Q5,zj.sl,ze.sl] [ze] (λx=>Fx x.1 x.2.1 x.2.2.1) λx=>(jO x.1 x.2.1 x.2.2.1,())
theorem Ye:FK 244 F11:=by
 refine aJ (ziB) λx hc C hC=>?_
 unfold Fx at hc;refine zD vC (ziB) (λid _=>hC id) (zk1 x.1 x.2.1 x.2.2.1) ?_;generalize hy:jO x.1 x.2.1 x.2.2.1=y;unfold jO at hy
 try simp only[zf.eta]
 repeat' (first|with_reducible refine tP hy hc (λ_ hy hc=>?_) (λ_ hy hc=>?_)|with_reducible refine dg hy (λ_ hy=>?_) (λ_ hy=>?_)|with_reducible refine ir hc (λhc=>?_)|with_reducible refine zK ?_)
 all_goals(subst hy;first|rfl)
noncomputable def Yr:=DX.addL [(151,F30),(244,F11)]
theorem Ox:zx Yr:=vC.addL<|fc Yi<|fc Ye iV
theorem lc(d:Int)(h1:-1000<=d)(h2:d<=1000):IntKind.i64.wrap d=d:=by
 rw[fR];omega
theorem FS{P:Nat->zf->zf->Prop}(hP:∀N e(o t s:zB)(l:List zf),(∀y∈l,∃x∈zf.l e,P N x y)->l.length<=3->t.length<=45->s.length<=20->P (N+1) e (.mk o ((zf.v e).1,(zf.v e).2.1,t) s l)):
  ∀(N:Nat)(e:zf)(d n:Int),0<=d->d<N->N<=100->∃r m,oh N e d n=Q1 (r,m,())/\P N e r
 |0,_,_,_,h1,h2,_=>by omega
 | N + 1,e,d,n,h1,h2,h3=>by
  have IH:∀x m,0<d->∃r k,oh N x (IntKind.i64.wrap (d-1)) m=Q1 (r,k,())/\P N x r:=λx m hd=>by
   rw[lc _ ow ow];exact FS hP N x (d-1) m ow ow ow
  generalize hg:(λx0 x1 x2=>H8 (oh N x0 x1 x2))=g;generalize hc:(λx0 x1 x2=>(oh N x0 x1 x2).isSome)=c
  have key:∀(k i:Nat)(n:Int)(acc:List zf)(z1:zn og)(o t s:zB),i+k=3->acc.length=i->(∀y∈acc,∃x∈zf.l e,P N x y)->
    ∃m r n',zT (uJ g c) m (.h10 d n (i:Int) (e,()) z1 (o,(zf.v e).1,(zf.v e).2.1,t,s,acc,())) (.tup [.agg [.str o,.int .i64 (zf.v e).1,.int .i64 (zf.v e).2.1,.str t,.str s,.vec 0],.int .i64 n'],[.vec .expr r])/\m<=k+1/\(∀y∈r,∃x∈zf.l e,P N x y)/\r.length<=3:=by
   intro k
   induction k with
   | zero=>
    intro i n acc z1 o t s hi ha hq;refine⟨1,acc,n,zT.of ?_,ow,hq,ow⟩;have h3:Q0 ((i:Int)<3)=Q4:=by simp;omega
    simp only[uJ,Q8,h3,ay,Bool.cond_self,zE,if_false]
   | succ k ih=>
    intro i n acc z1 o t s hi ha hq;by_cases hb:(bif Q0 ((i:Int)<(↑(zf.l e).length:Int))then bif Q0 ((i:Int)<3)then bif Q0 (d>0)then Q0 (n>0)else Q4 else Q4 else Q4)=Q3
    ·have hl:i<(zf.l e).length/\0<d:=by
      cases h1:Q0 ((i:Int)<(↑(zf.l e).length:Int))<;>cases h2:Q0 ((i:Int)<3)<;>cases h3:Q0 (d>0)<;>simp_all
     obtain⟨r,m,e1,e2⟩:=IH (zf.l e)[i] n hl.2;have gx:g (zf.l e)[i] (IntKind.i64.wrap (d-1)) n=(r,m):=by rw[<-hg];simp only[e1];rfl
     have cx:c (zf.l e)[i] (IntKind.i64.wrap (d-1)) n=Q3:=by rw[<-hc];simp only[e1];rfl
     obtain⟨m2,r2,n2,k1,k2,k3,k4⟩:=ih (i+1) m (acc++[r]) z1 o t s ow sg (λy hy=>by
      rcases cP.1 hy with hy|hy
      ·exact hq y hy
      ·rw[gp]at hy;exact⟨_,bu hl.1,hy▸e2⟩)
     refine⟨m2+1,r2,n2,(zP.of ?_).ends k1,?_,k3,k4⟩
     ·have hn:(acc.length+[zm r].length<=1073741824):=by simp;omega
      have hin:zN (i:Int) (zf.l e).length=Q3:=by simp[zN,hl.1]
      have hgd:getD (zf.l e) (toNat (i:Int)) (zi Q5)=(zf.l e)[i]:=by rw[aK,bd,zS hl.1,du]
      simp only[uJ,Q8,hb,hin,hgd,zk,gx,cx,if_true];rw[zk]at hn;rw[if_pos (zu hn),zp i um]
     ·omega
    ·refine⟨1,acc,n,zT.of ?_,ow,hq,ow⟩;simp only[uJ,Q8];rw[if_neg hb]
  have h8:∀(z1:zn og)(o t s:zB),t.length<=45->s.length<=20->∃r m R,zT (uJ g c) 101 (.h500008 d (IntKind.i64.wrap (n-1)) (e,()) z1 (o,(zf.v e).1,(zf.v e).2.1,t,s,())) R/\aM R.2 [Q5,zg] R.1=Q1 (r,m,())/\P (N+1) e r:=λz1 o t s ht hs=>by
   obtain⟨m,r,n',k1,k2,k3,k4⟩:=key 3 0 (IntKind.i64.wrap (n-1)) [] z1 o t s rfl rfl sw;exact⟨.mk o ((zf.v e).1,(zf.v e).2.1,t) s r,n',_,((zP.of rfl).ends k1).mono ow,rfl,hP N e o t s r k3 k4 ht hs⟩
  have h6:∀(z1:zn og)(o s:zB),s.length<=20->∃r m R,zT (uJ g c) 102 (.h500006 d n (Q0 ((↑(length (zf.v e).2.2):Int)>45)) (e,()) z1 (o,(zf.v e).1,(zf.v e).2.1,(zf.v e).2.2,s,())) R/\aM R.2 [Q5,zg] R.1=Q1 (r,m,())/\P (N+1) e r:=λz1 o s hs=>by
   by_cases hb:(length (zf.v e).2.2:Int)>45
   ·obtain⟨r,m,R,e1,e2,e3⟩:=h8 z1 o (Qg (toNat 45-toNat 0) (Qh (toNat 0) (zf.v e).2.2)) s sg hs;refine⟨r,m,R,(zP.of ?_).ends e1,e2,e3⟩;have h45:Q0 ((45:Int)<=(length (zf.v e).2.2:Int))=Q3:=by simp;omega
    simp only[uJ,Q8,zu hb,h45,if_true];rfl
   ·obtain⟨r,m,R,e1,e2,e3⟩:=h8 z1 o (zf.v e).2.2 s ow hs;refine⟨r,m,R,(zP.of ?_).ends e1,e2,e3⟩;simp only[uJ,Q8,aj hb,zE,if_false]
  have h4:∀(z1:zn og)(o:zB),∃r m R,zT (uJ g c) 103 (.h500004 d n (Q0 ((↑(length (zf.s e)):Int)>20)) (e,()) z1 (o,(zf.v e).1,(zf.v e).2.1,(zf.v e).2.2,zf.s e,())) R/\aM R.2 [Q5,zg] R.1=Q1 (r,m,())/\P (N+1) e r:=λz1 o=>by
   by_cases hb:(length (zf.s e):Int)>20
   ·obtain⟨r,m,R,e1,e2,e3⟩:=h6 z1 o (Qg (toNat 20-toNat 0) (Qh (toNat 0) (zf.s e))) sg;refine⟨r,m,R,(zP.of ?_).ends e1,e2,e3⟩;have h20:Q0 ((20:Int)<=(length (zf.s e):Int))=Q3:=by simp;omega
    simp only[uJ,Q8,zu hb,h20,if_true];rfl
   ·obtain⟨r,m,R,e1,e2,e3⟩:=h6 z1 o (zf.s e) ow;refine⟨r,m,R,(zP.of ?_).ends e1,e2,e3⟩;simp only[uJ,Q8,aj hb,zE,if_false]
  have e0:oh (N+1) e d n=zgQ g c e d n:=by rw[<-hg,<-hc];rfl
  rw[e0];by_cases hb:(length (zf.op e):Int)>8
  ·obtain⟨r,m,R,e1,e2,e3⟩:=h4 ([],0,0,[],[],()) (Qg (toNat 8-toNat 0) (Qh (toNat 0) (zf.op e)));refine⟨r,m,zw ?_ e1 ow e2,e3⟩;have h8:Q0 ((8:Int)<=(length (zf.op e):Int))=Q3:=by simp;omega
   simp only[R1,Q8,zu hb,h8,if_true];rfl
  ·obtain⟨r,m,R,e1,e2,e3⟩:=h4 ([],0,0,[],[],()) (zf.op e);refine⟨r,m,zw ?_ e1 ow e2,e3⟩;simp only[R1,Q8,aj hb,zE,if_false]
theorem KN(N:Nat)(e:zf)(d n:Int)(h1:0<=d)(h2:d<N)(h3:N<=100):Iw N e d n=Q3:=by
 obtain⟨r,m,h,_⟩:=FS (P:=λ_ _ _=>True) (λ_ _ _ _ _ _ _ _ _ _=>trivial) N e d n h1 h2 h3;unfold Iw;rw[h];rfl
theorem Bv{g:zf->Int->Int->Bool×Int}{c:zf->Int->Int->Bool}{d:Int}(h:∀x n,c x (IntKind.i64.wrap (d+1)) n=Q3):∀(l:List zf)(n:Int),Bu g c d l n=Q3
 |[],_=>rfl
 | x::r,n=>by
  rw[Bu,if_pos (h x n)];split
  ·rfl
  ·exact Bv h r _
theorem Bt:∀(N:Nat)(e:zf)(d n:Int),0<=d->d<=13->14<=d+N->tL N e d n=Q3
 |0,_,_,_,_,_,_=>by omega
 | N+1,e,d,n,h1,h2,h3=>by
  rw[tL];unfold MS;by_cases hd:d>12
  ·simp[hd]
  ·have hl:Bu (ia N) (tL N) d e.l (IntKind.i64.wrap (n+1))=Q3:=Bv (λx m=>by
    rw[lc _ ow ow];exact Bt N x (d+1) m ow ow ow) _ _
   repeat' split
   all_goals first|rfl|exact hl
abbrev we:zf:=.mk [] (0,0,[]) [] []
theorem LN(N:Nat)(e:zf):jc (N+1) e we=Q3:=by
 rw[jc];unfold G1;have hl:xe (fj N) (jc N) e.l []=Q3:=by
  unfold xe;split
  ·rfl
  ·cases e.l<;>rfl
 show(bif e.op==[]then bif Ux e.v (0,0,[])then bif e.s==[]then xe (fj N) (jc N) e.l []else Q3 else Q3 else Q3)=Q3;rw[hl];cases e.op==[]<;>cases Ux e.v (0,0,[])<;>cases e.s==[]<;>rfl
theorem fH{α:Type}(p:α->Bool):∀(l:List α)(i:Nat),zU p l i=-1\/((i:Int)<=zU p l i/\zU p l i<i+l.length)
 |[],_=>.inl rfl
 | x::r,i=>by
  unfold zU;split
  ·exact .inr ⟨ow,sg⟩
  ·rcases fH p r (i+1)with h|⟨h1,h2⟩
   ·exact .inl h
   ·exact .inr ⟨ow,sg⟩
theorem Fu(l:List (Sem zj))(s:zB):af l s=-1\/(0<=af l s/\af l s<l.length):=by
 have:=fH (λc:Sem zj=>c.1==s) l 0;unfold af;simpa using this
theorem lz(op:zB):(cK op=0/\(op=[108,105,116]\/op=[99,111,108]))\/(cK op=1/\(op=[110,111,116]\/op=[110,117,108,108]))\/
  (cK op=2/\(op=[97,110,100]\/op=[111,114]\/op=[61]\/op=[60]\/op=[43]\/op=[45]))\/cK op=-1:=by
 unfold cK xu;simp only[ND];repeat' split
 all_goals simp_all
theorem wc{g:zf->Int->Int->Bool×Int}{e:zf}{d n:Int}(h:(xN g e d n).1=Q3):(e.l.length:Int)=cK e.op/\
  ((e.op=[108,105,116]\/e.op=[99,111,108])\/(om g d e.l (IntKind.i64.wrap (n+1))).1=Q3):=by
 unfold xN at h;split at h
 ·cases h
 ·rename_i h1;have hl:(e.l.length:Int)=cK e.op:=by
   cases h2:Q0 (d>12)<;>cases h3:Q0 (IntKind.i64.wrap (n+1)>60)<;>simp_all
  refine⟨hl,?_⟩;split at h
  ·rename_i h2;exact .inl (.inl (by simpa using h2))
  ·split at h
   ·rename_i h2;exact .inl (.inr (by simpa using h2))
   ·split at h
    ·cases h
    ·exact .inr h
theorem tM{g:zf->Int->Int->Bool×Int}{d:Int}:∀(l:List zf)(n:Int),(om g d l n).1=Q3->∀x∈l,∃m,(g x (IntKind.i64.wrap (d+1)) m).1=Q3
 |[],_,_,_,hx=>by simp at hx
 | y::r,n,h,x,hx=>by
  rw[om]at h;split at h
  ·cases h
  ·rename_i hy;rcases cm.1 hx with rfl|hx
   ·exact⟨n,by simpa using hy⟩
   ·exact tM r _ h x hx
theorem xE{g:zf->List (Sem zj)->Int×Int}{c:zf->List (Sem zj)->Bool}{cols:List (Sem zj)}{op:zB}{a1 a2:Int}{a3 a4:zB}{w:List zf}:
    ∀(l:List zf)(i:Int)(acc:List Int),(∀x∈l,c x cols=Q3)->((acc.length:Int)+l.length)=cK op->fN g c cols op a1 a2 a3 a4 w l i acc=Q3
  | [], i,acc,_,hp=>by
    have hp:(acc.length:Int)=cK op:=by simpa using hp
    have hcp:Q0 (af cols a4<0)=Q3\/zN (af cols a4) cols.length=Q3:=by
      rcases Fu cols a4 with h|⟨h1,h2⟩
      · exact .inl (by rw[h];rfl)
      · exact .inr (by simp[zN,h1,h2])
    have h2:op=[61]\/op=[60]->acc.length=2:=by
      rintro(rfl|rfl)
      · have:cK [61]=2:=by decide
        omega
      · have:cK [60]=2:=by decide
        omega
    unfold fN;repeat' split
    all_goals first
      |rfl
      |(exfalso;rcases hcp with h|h<;>simp_all;done)
      | (exfalso
         rename_i h7 h8;have h9:=h2 (by simp_all);rw[h9]at h8;exact h8 (by cases hA:(acc.getD (toNat 0) (zi zg)==acc.getD (toNat 1) (zi zg))<;>cases hB:(acc.getD (toNat 0) (zi zg)==0)<;>rfl))
  | x :: r,i,acc,hc,hp=>by
    have hle:cK op<=2:=by rcases lz op with h|h|h|h<;>omega
    rw[fN,if_pos (hc x sw)];split
    · rfl
    · rw[if_pos (by simp at hp⊢;omega)]
      exact xE r (i+1) _ (λy hy=>hc y (by simp[hy])) (by simp at hp⊢;omega)
theorem uO:∀(N:Nat)(e:zf)(d n:Int)(cols:List (Sem zj)),(ia N e d n).1=Q3->be N e cols=Q3
 |0,_,_,_,_,h=>by cases h
 | N+1,e,d,n,cols,h=>by
  rw[ia]at h;obtain⟨hl,h2⟩:=wc h;rw[be];unfold yZ;refine xE e.l 0 [] (λx hx=>?_) (by simpa using hl);rcases h2 with h2|h2
  ·exfalso;have:cK e.op=0:=by
    rcases h2 with h2|h2<;>rw[h2]<;>decide
   rw[this]at hl;have:e.l=[]:=xI ow;rw[this]at hx;simp at hx
  ·obtain⟨m,hm⟩:=tM e.l _ h2 x hx;exact uO N x _ _ cols hm
theorem CX:∀(N:Nat)(e:zf)(d n:Int)(cols:List (Sem zj))(row:List (Sem ze)),(ia N e d n).1=Q3->uS N cols row e=Q3
 |0,_,_,_,_,_,h=>by cases h
 | N + 1,.mk op v s l,d,n,cols,row,h=>by
  rw[ia]at h;obtain⟨hl,h2⟩:=wc h;have hl:(l.length:Int)=cK op:=hl;have h2:(op=[108,105,116]\/op=[99,111,108])\/(om (ia N) d l (IntKind.i64.wrap (n+1))).1=Q3:=h2;have hx:∀x∈l,(¬(op=[108,105,116]\/op=[99,111,108]))->uS N cols row x=Q3:=by
   intro x hx hno;rcases h2 with h2|h2
   ·exact(hno h2).elim
   ·obtain⟨m,hm⟩:=tM l _ h2 x hx;exact CX N x _ _ cols row hm
  have hcol:(if(bif Q0 (af cols s<0)then Q3 else Q0 (af cols s>=(↑row.length:Int)))=Q3 then Q3 else zN (af cols s) row.length)=Q3:=by
   split
   ·rfl
   ·rename_i hh;have h1:0<=af cols s/\af cols s<row.length:=by
     cases hq:Q0 (af cols s<0)
     ·rw[hq]at hh;simp at hq hh;exact⟨hq,hh⟩
     ·rw[hq]at hh;simp at hh
    simp[zN,h1.1,h1.2]
  rw[uS];rcases lz op with⟨hp,ho⟩|⟨hp,ho⟩|⟨hp,ho⟩|hp
  ·have:l=[]:=xI ow;subst this;rcases ho with rfl|rfl
   ·rfl
   ·rw[uT];exact hcol
  ·match l,hl,hx with
   | [a],_,hx=>
    rcases ho with rfl|rfl
    ·rw[uT];exact(if_pos (hx a sw (by decide))).trans rfl
    ·rw[uT];exact(if_pos (hx a sw (by decide))).trans rfl
   |[],hl,_=>simp at hl;omega
   |_::_::_,hl,_=>simp at hl;omega
  ·match l,hl,hx with
   | [a,b],_,hx=>
    rcases ho with rfl|rfl|rfl|rfl|rfl|rfl<;>
     (rw[uT];exact(if_pos (hx a sw (by decide))).trans ((if_pos (hx b sw (by decide))).trans rfl))
   |[],hl,_=>simp at hl;omega
   |[_],hl,_=>simp at hl;omega
   |_::_::_::_,hl,_=>simp at hl;omega
  ·omega
theorem rV(e:zf):w7 e=Q3:=by
 unfold w7;rw[if_pos (Bt 16 e 1 0 ow ow ow)]
theorem Kt(e:zf):Mt e=Q3:=by
 unfold Mt;rw[if_pos (KN 16 e 14 80 ow ow ow)]
theorem H9(e:zf)(cols:List (Sem zj)):Fz e cols=Q3:=by
 unfold Fz;rw[if_pos (rV e)];split
 ·rfl
 ·rename_i h;rw[if_pos (uO 16 e 1 0 cols (by simpa[dc]using h))]
theorem H7(e:zf)(cols:List (Sem zj))(row:List (Sem ze)):Fx e cols row=Q3:=by
 unfold Fx;rw[if_pos (rV e)];split
 ·rfl
 ·rename_i h;rw[if_pos (by decide),if_pos (CX 16 e 1 0 cols row (by simpa[dc]using h))]
def zec:zY:=aE [Q5] [Q7] λx=>(dc x.1,())
theorem zad:FK 200 zec:=mM Yh λx=>rV x.1
def F7t:zY:=aE [Q5] [Q5] λx=>(gJ x.1,())
theorem zf9:FK 41 F7t:=mM zf1 λx=>Kt x.1
def zem:zY:=aE [Q5,zj.sl] [zg,zg] λx=>((bG x.1 x.2.1).1,(bG x.1 x.2.1).2,())
theorem zap:FK 151 zem:=mM Yi λx=>H9 x.1 x.2.1
def zdO:zY:=aE [Q5,zj.sl,ze.sl] [ze] λx=>(jO x.1 x.2.1 x.2.2.1,())
theorem ZP:FK 244 zdO:=mM Ye λx=>H7 x.1 x.2.1 x.2.2.1
noncomputable def Ys:=Yr.addL [(200,zec),(41,F7t),(151,zem),(244,zdO)]
theorem vD:zx Ys:=Ox.addL<|fc zad<|fc zf9<|fc zap<|fc ZP iV
noncomputable section
set_option maxHeartbeats 4000000
abbrev td:List CP:=[.d zo]
abbrev VU:List CP:=[.d .str,.nil,.d zg,.nil,.nil,.d .str,.d zg,.d zg,.d .str,.d .str,.nil]
abbrev zgD:List CP:=[.d .str,.d (.sl zj),.d zg,.vec zg,.nil,.d .expr]
abbrev zgE:List CP:=[.d .str,.d (.sl zj),.d zg,.vec zg,.vec zr,.d .expr]
def RT(x0:Sem Q5)(x1:Sem zj.sl):Tr (Empty⊕ar):=Qc (jc 16 (zm x0) (zf.mk [] (0,0,[]) [] [])) (br (fj 16 (zm x0) (zf.mk [] (0,0,[]) [] [])) (re (ai 0) []) (br (bif (bG (zm x0) x1).2==0 then bif (bG (zm x0) x1).1!=3 then(bG (zm x0) x1).1!=0 else Q4 else Q4) (re (ai 5) []) (re (ai (bG (zm x0) x1).2) [])))
def JN(x0:Sem Q5)(x1:Sem zj.sl):=ao [zg] t0 100000000 (RT x0 x1)
def X4:=FT [Q5,zj.sl] [zg] λx=>JN x.1 x.2.1
theorem Mb:FK 170 X4:=vD.T1 (f:=Tryz.f170) (keep:=k0) (e:=e0)
abbrev zih:Nat->aN:=λj=>if j=3 then{slots:=[1,2,3,4],prom:=[(3,Q1 3,zg)]}else if j=7 then{slots:=[1,2,3,5],prom:=[(3,Q1 4,zr)]}else{ }
inductive HJ where
 |h3 (i4:Int) (z0:zn td) (z1:zn VU) (z2:zn zgD)
 |h7 (i5:Int) (z0:zn td) (z1:zn VU) (z2:zn zgE)
abbrev zkN:HJ->Nat×St
 |.h3 i4 z0 z1 z2=>(3,⟨tm 70 [(1,ptr 0 0),(2,ptr 1 0),(3,ptr 2 0),(4,ai i4)],[Qa (bC [] td z0),Qa (bC [] VU z1),Qa (bC [3] zgD z2),AO.vec zg z2.2.2.2.1]⟩)
 |.h7 i5 z0 z1 z2=>(7,⟨tm 70 [(1,ptr 0 0),(2,ptr 1 0),(3,ptr 2 0),(5,ai i5)],[Qa (bC [] td z0),Qa (bC [] VU z1),Qa (bC [3,4] zgE z2),AO.vec zg z2.2.2.2.1,AO.vec zr z2.t.1]⟩)
def zco(x0:Sem zo):Tr (HJ⊕ar):=Q9 (HJ.h3 0 (x0,()) ([],0,[],0,0,[],[],()) (jb x0.1,ju x0.2.1,x0.2.2.1,[],gJ (zm x0.t.2),()))
def Hj:HJ->Tr (HJ⊕ar)
 | .h3 i4 z0 z1 z2=>
  let a0:=(↑(length z0.1.2.2.2.1):Int)
  let a1:=[getD z0.1.2.2.2.1 i4.toNat (zi zg)]
  br (bif Q0 (i4<a0)then Q0 (i4<10)else Q4)
  (Qc (zN i4 (length z0.1.2.2.2.1)) (Qc (Q0 (z2.2.2.2.1.length+a1.length<=1073741824)) (Q9 (HJ.h3 (IntKind.i64.wrap (i4+1)) z0 z1 (z2.1,z2.2.1,z2.2.2.1,z2.2.2.2.1++a1,z2.t)))))
  (Q9 (HJ.h7 0 z0 z1 (z2.1,z2.2.1,z2.2.2.1,z2.2.2.2.1,[],z2.t)))
 | .h7 i5 z0 z1 z2=>
  let a0:=(↑(length z0.1.t.1):Int)
  let a1:=zN i5 (length z0.1.t.1)
  let a2:=getD z0.1.t.1 i5.toNat (zi zr)
  let a3:=[(a2.1,jb a2.2)]
  br (bif Q0 (i5<a0)then Q0 (i5<10)else Q4)
  (Qc a1 (Qc a1 (Qc (Q0 (z2.t.1.length+a3.length<=1073741824)) (Q9 (HJ.h7 (IntKind.i64.wrap (i5+1)) z0 z1 (z2.1,z2.2.1,z2.2.2.1,z2.2.2.2.1,z2.t.1++a3,z2.t.2))))))
  (re (agg [str z2.1,sl zj z2.2.1,ai z2.2.2.1,AV.vec 0,AV.vec 1,str (zf.op z2.t.2.1),ai (zf.v z2.t.2.1).1,ai (zf.v z2.t.2.1).2.1,str (zf.v z2.t.2.1).2.2,str (zf.s z2.t.2.1),sl Q5 (zf.l z2.t.2.1)]) [AO.vec zg z2.2.2.2.1,AO.vec zr z2.t.1])
def Ua(x0:Sem zo):=ao [zo] Hj 100000000 (zco x0)
def zeY:=FT [zo] [zo] λx=>Ua x.1
theorem PX:FK 70 zeY:=vD.T1 (f:=Tryz.f70) (keep:=zih) (e:=zkN)
def iA(x0:Sem Q5)(x1:Sem zj.sl):Sem zg:=if fj 16 x0 (zf.mk [] (0,0,[]) [] [])=Q3 then 0 else if(bif (bG x0 x1).2==0 then bif (bG x0 x1).1!=3 then(bG x0 x1).1!=0 else Q4 else Q4)=Q3 then 5 else(bG x0 x1).2
theorem LL(e:zf)(cols:LC):JN e cols=Q1 (iA e cols,()):=by
 have hv:(RT e cols).val=Q1 (.inr (.int .i64 (iA e cols),[])):=by
  unfold iA;simp only[RT,zk,Q8];rw[if_pos (LN 15 e)];repeat' split
  all_goals rfl
 exact zI hv rfl
def CR(t:Sem zo):Sem zo:=(jb t.1,ju t.2.1,t.2.2.1,Qg 10 t.2.2.2.1,(Qg 10 t.t.1).map (λf:Sem zr=>((f.1,jb f.2):Sem zr)),gJ t.t.2)
theorem Ub(t:Sem zo):Ua t=Q1 (CR t,()):=by
 have g1:=zP.all (t:=Hj) 1 (λi=>.h3 (i:Int) (t,()) ([],0,[],0,0,[],[],()) (jb t.1,ju t.2.1,t.2.2.1,Qg i t.2.2.2.1,gJ t.t.2,())) (min 10 (length t.2.2.2.1)) λi hi=>zP.of (by
  have hl:i<length t.2.2.2.1:=by omega
  simp only[Hj,Q8,Wv (k:=10) (K:=10) rfl hi,zt hl,if_true,aK];rw[if_pos sg,zp i um,Ho hl (zi zg)])
 have g2:zP Hj 1 (.h3 ((min 10 (length t.2.2.2.1):Nat):Int) (t,()) ([],0,[],0,0,[],[],()) (jb t.1,ju t.2.1,t.2.2.1,Qg (min 10 (length t.2.2.2.1)) t.2.2.2.1,gJ t.t.2,())) (.h7 ((0:Nat):Int) (t,()) ([],0,[],0,0,[],[],()) (jb t.1,ju t.2.1,t.2.2.1,Qg (min 10 (length t.2.2.2.1)) t.2.2.2.1,[],gJ t.t.2,())):=zP.of (by
  simp only[Hj,Q8,MR (k:=10) (K:=10) rfl,zE,if_false];rfl)
 rw[uL]at g1 g2;have g3:=zP.all (t:=Hj) 1 (λi=>.h7 (i:Int) (t,()) ([],0,[],0,0,[],[],()) (jb t.1,ju t.2.1,t.2.2.1,Qg 10 t.2.2.2.1,(Qg i t.t.1).map (λf:Sem zr=>((f.1,jb f.2):Sem zr)),gJ t.t.2,())) (min 10 (length t.t.1)) λi hi=>zP.of (by
  have hl:i<length t.t.1:=by omega
  simp only[Hj,Q8,Wv (k:=10) (K:=10) rfl hi,zt hl,if_true,aK];rw[if_pos sg,zp i um,Ho hl (zi zr),iI];rfl)
 rw[uL]at g3;have he:zT Hj 1 (.h7 ((min 10 (length t.t.1):Nat):Int) (t,()) ([],0,[],0,0,[],[],()) (jb t.1,ju t.2.1,t.2.2.1,Qg 10 t.2.2.2.1,(Qg 10 t.t.1).map (λf:Sem zr=>((f.1,jb f.2):Sem zr)),gJ t.t.2,())) _:=zT.of (by
  simp only[Hj,Q8,MR (k:=10) (K:=10) rfl,zE,if_false];rfl)
 have hs:(zco t).val=Q1 (.inl (.h3 ((0:Nat):Int) (t,()) ([],0,[],0,0,[],[],()) (jb t.1,ju t.2.1,t.2.2.1,Qg 0 t.2.2.2.1,gJ t.t.2,()))):=by
  simp only[zco,zk,Q8];rfl
 unfold CR;rw[<-zk (gJ t.t.2)];exact zw hs (((g1.trans g2).trans g3).ends he) ow rfl
def Yt:=Ys.addL [(170,X4),(70,zeY)]
theorem Oy:zx Yt:=vD.addL<|fc Mb<|fc PX iV
end
def zd8:zY:=aE [Q5,zj.sl] [zg] λx=>(iA x.1 x.2.1,())
theorem Z9:FK 170 zd8:=gP Mb λx=>LL x.1 x.2.1
def F5t:zY:=aE [zo] [zo] λx=>(CR x.1,())
theorem zfS:FK 70 F5t:=gP PX λx=>Ub x.1
noncomputable def Rg:=Yt.addL [(170,zd8),(70,F5t)]
theorem DY:zx Rg:=Oy.addL<|fc Z9<|fc zfS iV
abbrev zcv:=lV [(4,[1,27,28,29]),(11,[1,5,59,60,61]),(17,[1,5,71,72,73])]
inductive ra where
 |h4 (l27:LC) (i28:Int) (i29:Int) (z0:zn td)
 |h11 (l59:LI) (i60:Int) (i61:Int) (z0:zn td)
 |h17 (l71:LF) (i72:Int) (i73:Int) (z0:zn td)
abbrev zgG:ra->Nat×St
 |.h4 l27 i28 i29 z0=>(4,⟨tm 110 [(1,ptr 0 0),(27,sl zj l27),(28,ai i28),(29,ai i29)],[Qa (bC [] td z0)]⟩)
 |.h11 l59 i60 i61 z0=>(11,⟨tm 110 [(1,ptr 0 0),(5,AV.clo (Fn.func 169) [] [ptr 0 0]),(59,sl zg l59),(60,ai i60),(61,ai i61)],[Qa (bC [] td z0)]⟩)
 |.h17 l71 i72 i73 z0=>(17,⟨tm 110 [(1,ptr 0 0),(5,AV.clo (Fn.func 169) [] [ptr 0 0]),(71,sl zr l71),(72,ai i72),(73,ai i73)],[Qa (bC [] td z0)]⟩)
noncomputable def ID(x0:Sem zo):Tr (ra⊕ar):=
 let a0:=(↑(length x0.2.1):Int)
 br (bif !zL x0.1 then Q3 else bif Q0 (a0<1)then Q3 else Q0 (a0>8)) (re (kb Q4) [])
 (Q9 (ra.h4 x0.2.1 a0 0 (x0,())))
noncomputable def nW:ra->Tr (ra⊕ar)
 | .h4 l27 i28 i29 z0=>
  let a0:=l27.getD i29.toNat (zi zj)
  br (Q0 (i29<i28))
  (Qc (zN i29 l27.length) (br (bif !zL a0.1 then Q3 else bif Q0 (a0.2.1<1)then Q3 else bif Q0 (a0.2.1>3)then Q3 else zQ (z0.1.1,z0.1.2.1,z0.1.2.2.1,z0.1.2.2.2.1,z0.1.t.1,zm z0.1.t.2) a0.1!=i29) (re (kb Q4) []) (Q9 (ra.h4 l27 i28 (IntKind.i64.wrap (i29+1)) z0))))
  (Q9 (ra.h11 z0.1.2.2.2.1 (↑(length z0.1.2.2.2.1):Int) 0 z0))
 | .h11 l59 i60 i61 z0=>
  let a0:=l59.getD i61.toNat (zi zg)
  let a1:=(↑(length z0.1.2.1):Int)
  br (Q0 (i61<i60))
  (Qc (zN i61 l59.length) (br (!bif Q0 (a0>=0)then Q0 (a0<a1)else Q4) (re (kb Q4) []) (Q9 (ra.h11 l59 i60 (IntKind.i64.wrap (i61+1)) z0))))
  (Q9 (ra.h17 z0.1.t.1 (↑(length z0.1.t.1):Int) 0 z0))
 | .h17 l71 i72 i73 z0=>
  let a0:=l71.getD i73.toNat (zi zr)
  let a1:=(↑(length z0.1.2.1):Int)
  let a2:=getD z0.1.2.1 (toNat z0.1.2.2.1) (zi zj)
  br (Q0 (i73<i72))
  (Qc (zN i73 l71.length) (br (!bif Q0 (a0.1>=0)then Q0 (a0.1<a1)else Q4) (re (kb Q4) []) (br (!zL a0.2) (re (kb Q4) []) (Q9 (ra.h17 l71 i72 (IntKind.i64.wrap (i73+1)) z0)))))
  (br (bif Q0 (z0.1.2.2.1>=0)then Q0 (z0.1.2.2.1<a1)else Q4) (Qc (zN z0.1.2.2.1 (length z0.1.2.1)) (br a2.2.2 (re (AV.bool (iA (zm z0.1.t.2) z0.1.2.1==0)) []) (re (kb Q4) []))) (re (kb Q4) []))
noncomputable def zdk(x0:Sem zo):=ao [Q7] nW 40000000000000000000 (ID x0)
theorem RB{σ:Type}{t:σ->Tr (σ⊕ar)}{st:Nat->σ}{N:Nat}{b:Nat->Bool}{R:ar}(h:∀i,i<N->(t (st i)).val=if b i=Q3 then Q1 (.inl (st (i+1)))else Q1 (.inr R)):
  ((List.range N).all b=Q3/\zP t N (st 0) (st N))\/((List.range N).all b=Q4/\zT t N (st 0) R):=by
 rcases lI (t:=t) (Φ:=λr=>r=R) 1 st (λi=>b i=Q3) N (λi hi _=>by
  cases hb:b i
  ·exact .inr ⟨sw,R,zT.of (by rw[h i hi,hb];rfl),rfl⟩
  ·exact .inl ⟨rfl,zP.of (by rw[h i hi,hb];rfl)⟩)with⟨h1,h2⟩|⟨h1,r,h2,rfl⟩
 ·exact .inl ⟨by rw[dW];exact λi hi=>h1 i (oB.1 hi),h2.mono ow⟩
 ·refine .inr ⟨?_,h2.mono ow⟩;rw[Bool.eq_false_iff,Ne,dW];exact λq=>h1 λi hi=>q i (oB.2 hi)
def vU(x:Int)(n:Nat):Bool:=bif Q0 (x>=0)then Q0 (x<(n:Int))else Q4
def Kp(t:Sem zo)(i:Nat):Bool:=!(bif !zL (getD t.2.1 i (zi zj)).1 then Q3 else bif Q0 ((getD t.2.1 i (zi zj)).2.1<1)then Q3 else bif Q0 ((getD t.2.1 i (zi zj)).2.1>3)then Q3 else zQ t (getD t.2.1 i (zi zj)).1!=(i:Int))
def WX(t:Sem zo)(i:Nat):Bool:=vU (getD t.t.1 i (zi zr)).1 (length t.2.1)&&zL (getD t.t.1 i (zi zr)).2
def eB(t:Sem zo):Sem Q7:=!(bif !zL t.1 then Q3 else bif Q0 ((↑(length t.2.1):Int)<1)then Q3 else Q0 ((↑(length t.2.1):Int)>8))&&((List.range (length t.2.1)).all (Kp t)&&((List.range (length t.2.2.2.1)).all (λi=>vU (getD t.2.2.2.1 i (zi zg)) (length t.2.1))&&((List.range (length t.t.1)).all (WX t)&&(vU t.2.2.1 (length t.2.1)&&((getD t.2.1 (toNat t.2.2.1) (zi zj)).2.2&&(iA t.t.2 t.2.1==0))))))
theorem Uc{t:Sem zo}(h2:length t.2.2.2.1<=aF)(h3:length t.t.1<=aF):zdk t=Q1 (eB t,()):=by
 unfold eB;by_cases h0:(bif !zL t.1 then Q3 else bif Q0 ((↑(length t.2.1):Int)<1)then Q3 else Q0 ((↑(length t.2.1):Int)>8))=Q3
 ·rw[h0];refine zI (r:=(.kb Q4,[])) ?_ rfl;simp only[ID,Q8];exact if_pos h0
 have h8:length t.2.1<=8:=by
  cases hn:zL t.1
  ·rw[hn]at h0;simp at h0
  ·rw[hn]at h0;simp at h0;omega
 have hs:(ID t).val=Q1 (.inl (.h4 t.2.1 (length t.2.1:Int) ((0:Nat):Int) (t,()))):=by
  simp only[ID,Q8];exact if_neg h0
 rw[gq]at h0;rw[h0];have hm:aF=9223372036854775807:=rfl
 rcases RB (t:=nW) (R:=(.kb Q4,[])) (N:=length t.2.1) (st:=λi=>.h4 t.2.1 (length t.2.1:Int) (i:Int) (t,())) (b:=Kp t) (λi hi=>by
  simp only[nW,Q8,zH hi,zt hi,if_true,aK,zk,Prod.eta,zp i (show i<aF by omega)];unfold Kp;split
  ·rename_i c;rw[c];rfl
  ·rename_i c;rw[gq]at c;rw[c];rfl)with⟨a1,g1⟩|⟨a1,g1⟩
 rotate_left
 ·rw[a1];exact zw hs g1 ow rfl
 have g1':=g1.trans (zP.of (s':=.h11 t.2.2.2.1 (length t.2.2.2.1:Int) ((0:Nat):Int) (t,())) (by
  simp only[nW,Q8,zA,zE,if_false];rfl))
 rw[a1]
 rcases RB (t:=nW) (R:=(.kb Q4,[])) (N:=length t.2.2.2.1) (st:=λi=>.h11 t.2.2.2.1 (length t.2.2.2.1:Int) (i:Int) (t,())) (b:=λi=>vU (getD t.2.2.2.1 i (zi zg)) (length t.2.1)) (λi hi=>by
  simp only[nW,Q8,zH hi,zt hi,if_true,aK,zp i (show i<aF by omega)];unfold vU;split
  ·rename_i c;rw[wP]at c;rw[c];rfl
  ·rename_i c;rw[gq,Bool.not_eq_false']at c;rw[c];rfl)with⟨a2,g2⟩|⟨a2,g2⟩
 rotate_left
 ·rw[a2];exact zw hs (g1'.ends g2) ow rfl
 have g2':=(g1'.trans g2).trans (zP.of (s':=.h17 t.t.1 (length t.t.1:Int) ((0:Nat):Int) (t,())) (by
  simp only[nW,Q8,zA,zE,if_false];rfl))
 rw[a2]
 rcases RB (t:=nW) (R:=(.kb Q4,[])) (N:=length t.t.1) (st:=λi=>.h17 t.t.1 (length t.t.1:Int) (i:Int) (t,())) (b:=WX t) (λi hi=>by
  simp only[nW,Q8,zH hi,zt hi,if_true,aK,zp i (show i<aF by omega)];unfold WX vU;split
  ·rename_i c;rw[wP]at c;rw[c];rfl
  ·rename_i c;rw[gq,Bool.not_eq_false']at c;rw[c];cases zL (getD t.t.1 i (zi zr)).2<;>rfl)with⟨a3,g3⟩|⟨a3,g3⟩
 rotate_left
 ·rw[a3];exact zw hs (g2'.ends g3) ow rfl
 rw[a3];have hend:∃r,(nW (.h17 t.t.1 (length t.t.1:Int) (length t.t.1:Int) (t,()))).val=Q1 (.inr r)/\aM r.2 [Q7] r.1=Q1 ((vU t.2.2.1 (length t.2.1)&&((getD t.2.1 (toNat t.2.2.1) (zi zj)).2.2&&(iA t.t.2 t.2.1==0))),()):=by
  simp only[nW,Q8,zA,zk,zE,if_false];unfold vU;cases c:(bif Q0 (t.2.2.1>=0)then Q0 (t.2.2.1<(↑(length t.2.1):Int))else Q4)
  ·exact⟨_,rfl,rfl⟩
  ·have hi:zN t.2.2.1 (length t.2.1)=Q3:=by
    cases h1:Q0 (t.2.2.1>=0)<;>simp_all[zN]
   rw[hi];cases(getD t.2.1 (toNat t.2.2.1) (zi zj)).2.2
   ·exact⟨_,rfl,rfl⟩
   ·exact⟨_,rfl,rfl⟩
 obtain⟨r,e1,e2⟩:=hend;exact zw hs ((g2'.trans g3).ends (zT.of e1)) ow e2
theorem ok8:zJ Rg.P 113 Tryz.f113 1:=bQ kw
def F8t:zY:=aE [zo] [Q7] λx=>(eB x.1,())
theorem zgi:FK 113 F8t:=zZ ok8 λx C hC=>Reach.lenA 0 3 zg x.1.2.2.2.1 rfl rfl λh2=>Reach.lenA 0 4 zr x.1.t.1 rfl rfl λh3=>
 WW (n0:=0) (t:=nW) (e:=zgG) (keep:=zcv) (gas:=400) (i:=ID x.1) DY ok8 (λid _=>hC id) kw (by intro s;cases s<;>kernel_rfl) (Uc h2 h3)
noncomputable def Yu:=Rg.add 113 F8t
theorem DZ:zx Yu:=DY.add zgi
abbrev zcI:=lV [(4,[1,2,19,20,21]),(10,[1,2,30,31])]
inductive wL where
 |h4 (l1:LV) (l19:LV) (i20:Int) (i21:Int) (z0:zn td)
 |h10 (l1:LV) (i30:Int) (i31:Int) (z0:zn td)
abbrev zgP:wL->Nat×St
 |.h4 l1 l19 i20 i21 z0=>(4,⟨tm 79 [(1,sl ze l1),(2,ptr 0 0),(19,sl ze l19),(20,ai i20),(21,ai i21)],[Qa (bC [] td z0)]⟩)
 |.h10 l1 i30 i31 z0=>(10,⟨tm 79 [(1,sl ze l1),(2,ptr 0 0),(30,ai i30),(31,ai i31)],[Qa (bC [] td z0)]⟩)
noncomputable def RV(x0:Sem zo)(x1:Sem ze.sl):Tr (wL⊕ar):=br (bif !eB (x0.1,x0.2.1,x0.2.2.1,x0.2.2.2.1,x0.t.1,zm x0.t.2)then Q3 else(↑(length x1):Int)!=(↑(length x0.2.1):Int)) (re (ai 1) []) (Q9 (wL.h4 x1 x1 (↑(length x1):Int) 0 (x0,())))
noncomputable def uI:wL->Tr (wL⊕ar)
 | .h4 l1 l19 i20 i21 z0=>
  br (Q0 (i21<i20))
  (Qc (zN i21 l19.length) (br (!aW (l19.getD i21.toNat (zi ze))) (re (ai 1) []) (Q9 (wL.h4 l1 l19 i20 (IntKind.i64.wrap (i21+1)) z0))))
  (Q9 (wL.h10 l1 (↑l1.length:Int) 0 z0))
 | .h10 l1 i30 i31 z0=>
  let a0:=l1.getD i31.toNat (zi ze)
  let a1:=a0.1==0
  let a2:=zN i31 (length z0.1.2.1)
  let a3:=getD z0.1.2.1 i31.toNat (zi zj)
  let a4:=a0.1!=0
  let a5:=jO (zm z0.1.t.2) z0.1.2.1 l1
  br (Q0 (i31<i30))
  (Qc (zN i31 l1.length&&bif a1 then a2 else Q3) (br (bif a1 then a3.2.2 else Q4) (re (ai 8) []) (Qc (zN i31 l1.length&&bif a4 then zN i31 l1.length&&a2 else Q3) (br (bif a4 then a0.1!=a3.2.1 else Q4) (re (ai 5) []) (Q9 (wL.h10 l1 i30 (IntKind.i64.wrap (i31+1)) z0))))))
  (br (a5.1==3&&(a5.2.1==0&&(a5.2.2==[]&&Q3))) (re (ai 9) []) (re (ai 0) []))
noncomputable def NF(x0:Sem zo)(x1:Sem ze.sl):=ao [zg] uI 100000000 (RV x0 x1)
noncomputable def Yc:=FT [zo,ze.sl] [zg] λx=>NF x.1 x.2.1
theorem Md:FK 193 Yc:=DZ.T1 (f:=Tryz.f193) (keep:=zcI) (e:=zgP)
def eo(t:Sem zo)(row:LV):List (Sem ze)->Int->Sem zg
 |[],_=>if((jO t.t.2 t.2.1 row).1==3&&((jO t.t.2 t.2.1 row).2.1==0&&((jO t.t.2 t.2.1 row).2.2==[]&&Q3)))=Q3 then 9 else 0
 |x::r,i=>if(bif x.1==0 then(getD t.2.1 i.toNat (zi zj)).2.2 else Q4)=Q3 then 8 else if(bif x.1!=0 then x.1!=(getD t.2.1 i.toNat (zi zj)).2.1 else Q4)=Q3 then 5 else eo t row r (i+1)
def fT(t:Sem zo)(row:LV):List (Sem ze)->Int->Sem zg
 |[],_=>eo t row row 0
 |x::r,i=>if(!aW x)=Q3 then 1 else fT t row r (i+1)
def dZ(t:Sem zo)(row:Sem ze.sl):Sem zg:=if(bif !eB t then Q3 else(↑(length row):Int)!=(↑(length t.2.1):Int))=Q3 then 1 else fT t row row 0
theorem MU{t:Sem zo}(h:eB t=Q3):length t.2.1<=8:=by
 unfold eB at h;rw[aD]at h;have h:=h.1;cases hn:zL t.1
 ·rw[hn]at h;simp at h
 ·rw[hn]at h;simp at h;omega
theorem Pw(t:Sem zo)(row:LV):NF t row=Q1 (dZ t row,()):=by
 unfold dZ;by_cases h:(bif !eB t then Q3 else(↑(length row):Int)!=(↑(length t.2.1):Int))=Q3
 ·rw[if_pos h];refine zI (r:=(.int .i64 1,[])) ?_ rfl;simp only[RV,zk,Prod.eta,Q8];exact if_pos h
 rw[if_neg h];have hm:eB t=Q3/\row.length=length t.2.1:=by
  cases hm:eB t
  ·rw[hm]at h;simp at h
  ·rw[hm]at h;simp at h;exact⟨rfl,ow⟩
 have h8:=MU hm.1;have h10:∀(m i:Nat),row.length-i=m->i<=row.length->zT uI (m+1) (.h10 row row.length i (t,())) (.int .i64 (eo t row (row.drop i) i),[]):=by
  intro m
  induction m with
  | zero=>
   intro i hi hl;obtain rfl:i=row.length:=by omega
   rw[jo,eo];refine zT.of ?_;simp only[uI,Q8,zA,zk,zE,if_false];split<;>rfl
  | succ m ih=>
   intro i hi hl;have hlt:i<row.length:=by omega
   have hg:getD row i (zi ze)=row[i]:=cA _ _ hlt;rw[fu hlt,eo];have hv:(uI (.h10 row row.length i (t,()))).val=if(bif row[i].1==0 then(getD t.2.1 i (zi zj)).2.2 else Q4)=Q3 then Q1 (.inr (.int .i64 8,[]))else if(bif row[i].1!=0 then row[i].1!=(getD t.2.1 i (zi zj)).2.1 else Q4)=Q3 then Q1 (.inr (.int .i64 5,[]))else Q1 (.inl (.h10 row row.length ((i+1:Nat):Int) (t,()))):=by
    simp only[uI,Q8,zH hlt,zt hlt,zt (show i<length t.2.1 by omega),aK,hg,dH,Bool.cond_self,if_true,zp i (show i<aF by unfold aF;omega)]
   simp only[aK];split
   ·rename_i c;exact(zT.of (by rw[hv,if_pos c])).mono ow
   ·rename_i c;split
    ·rename_i c2;exact(zT.of (by rw[hv,if_neg c,if_pos c2])).mono ow
    ·rename_i c2;exact(zP.of (by rw[hv,if_neg c,if_neg c2])).ends (ih (i+1) ow ow)
 have h4:∀(m i:Nat),row.length-i=m->i<=row.length->zT uI (m+row.length+2) (.h4 row row row.length i (t,())) (.int .i64 (fT t row (row.drop i) i),[]):=by
  intro m
  induction m with
  | zero=>
   intro i hi hl;obtain rfl:i=row.length:=by omega
   rw[jo,fT];refine((zP.of (s':=.h10 row row.length ((0:Nat):Int) (t,())) ?_).ends (h10 row.length 0 ow ow)).mono ow;simp only[uI,Q8,zA,zE,if_false];rfl
  | succ m ih=>
   intro i hi hl;have hlt:i<row.length:=by omega
   have hg:getD row i (zi ze)=row[i]:=cA _ _ hlt;rw[fu hlt,fT];have hv:(uI (.h4 row row row.length i (t,()))).val=if(!aW row[i])=Q3 then Q1 (.inr (.int .i64 1,[]))else Q1 (.inl (.h4 row row row.length ((i+1:Nat):Int) (t,()))):=by
    simp only[uI,Q8,zH hlt,zt hlt,aK,hg,if_true,zp i (show i<aF by unfold aF;omega)]
   split
   ·rename_i c;exact(zT.of (by rw[hv,if_pos c])).mono ow
   ·rename_i c;exact((zP.of (by rw[hv,if_neg c])).ends (ih (i+1) ow ow)).mono ow
 refine zw (s:=.h4 row row row.length ((0:Nat):Int) (t,())) ?_ (h4 row.length 0 ow ow) ow rfl;simp only[RV,zk,Prod.eta,Q8];exact if_neg h
noncomputable def Yv:=Yu.add 193 Yc
theorem Oz:zx Yv:=DZ.add Md
def zdI:zY:=aE [zo,ze.sl] [zg] λx=>(dZ x.1 x.2.1,())
theorem ZJ:FK 193 zdI:=gP Md λx=>Pw x.1 x.2.1
noncomputable def AX:=Yv.add 193 zdI
theorem OA:zx AX:=Oz.add ZJ
open Go.RowKit Go.Lib in
theorem zaU:FK 282 (zR [.str,.str] [.bool] (λx=>x.2.1.length==1) λx=>(Q0 (0<=Lib.indexByte x.1 (x.2.1.headD 0)),())):=by
 refine fG (E:=AX) ⟨Tryz.f282,kw,kw,kw⟩ λx h0 res hx=>?_
 unfold fh at hx;split at hx
 ·simp only[Q8]at hx;split at hx
  ·rename_i hc;simp only[bz]at hx;subst hx;obtain⟨s,sub,u⟩:=x;have hc:(sub.length==1)=Q3:=hc
   match sub,hc with
   | [c],_=>
    intro C w U ρ vals _ hr hH hnew hr0 hW;have hl:=hr.len
    match vals,hl,hr with
    | [v1,v2],_,hr=>
     have h1:=hr.rv 0 (.str s) v1 rfl rfl;have h2:=hr.rv 1 (.str [c]) v2 rfl rfl;cases h1 with
     |str _ hs=>
     cases h2 with
     |str _ hs2=>
     refine(Tryz.strings_Contains_one ⟨s.toArray⟩ c w).mono ?_;rintro e w' ⟨rfl,rfl⟩;exact eG hH hnew hr0 hW (Below.refl _ _) (.bool _)
  ·cases hx
 ·simp at hx
def F63:zY:=zR [.str,.str] [.bool] (λx=>x.2.1.length==1) λx=>(Q0 (0<=Lib.indexByte x.1 (x.2.1.headD 0)),())
theorem zfV:FK 282 F63:=zaU
def F89:zY:=zR [.str] [.str] (λx=>Q0 (x.1.length<=140737488355328)&&x.1.all λb=>Q0 (b.toNat<128)) λx=>(Lib.toUpperA x.1,())
open Go.RowKit Go.Lib in
theorem zgg:FK 232 F89:=by
 refine fG (E:=AX) ⟨Tryz.f232,kw,kw,kw⟩ λx h0 res hx=>?_
 unfold fh at hx;split at hx
 ·simp only[Q8]at hx;split at hx
  ·rename_i hc;simp only[bz]at hx;subst hx;obtain⟨s,u⟩:=x;have hc:(Q0 (s.length<=140737488355328)&&s.all λb=>Q0 (b.toNat<128))=Q3:=hc;simp only[aD,aO]at hc;obtain⟨hc0,hc⟩:=hc;intro C w U ρ vals _ hr hH hnew hr0 hW;have hl:=hr.len
   match vals,hl,hr with
   | [v1],_,hr=>
    have h1:=hr.rv 0 (.str s) v1 rfl rfl;cases h1 with
    |str _ hs=>
    refine(Tryz.strings_ToUpper_ascii ⟨s.toArray⟩ w (by simpa[ByteArray.size]using hc0) (λj b hj=>?_)).mono ?_
    ·have hm:b∈s:=oy (by simpa using hj);simp only[dW,aO]at hc;exact hc b hm
    ·rintro e w' ⟨rfl,hb⟩;have hbb:=eG (r:=.str (Lib.toUpperA s)) hH hnew hr0 hW hb (.str _ (by simpa[Lib.toUpperA]using hs));exact hbb
  ·cases hx
 ·simp at hx
def mT:Nat->Nat->zB
 |0,_=>[]
 |f+1,n=>if n<10 then[UInt8.ofNat (48+n)]else mT f (n/10)++[UInt8.ofNat (48+n%10)]
def rr(n:Int):zB:=if n<0 then 45::mT 20 n.natAbs else mT 20 n.natAbs
theorem Fw:∀(f n:Nat),n<10^f->0<f->mT f n=Lib.decDigits n
 |0,_,_,h=>by omega
 | f+1,n,h,_=>by
  rw[mT,Lib.decDigits];split
  ·rfl
  ·rename_i hn;have hf:0<f:=by
    cases f with
    |zero=>simp at h;omega
    |succ f=>omega
   rw[Fw f (n/10) (by rw[Aq]at h;omega) hf]
theorem AD:∀(f n:Nat),(mT f n).length<=f
 |0,_=>by simp[mT]
 | f+1,n=>by
  rw[mT];split
  ·simp
  ·have:=AD f (n/10);simp;omega
theorem Ez(n:Int):(rr n).length<=21:=by
 unfold rr;have:=AD 20 n.natAbs;split<;>simp<;>omega
theorem R5(n:Int)(h:cJ .i64 n):Lib.itoa n=rr n:=by
 have h1:-9223372036854775808<=n:=h.1;have h2:n<=9223372036854775807:=h.2;unfold Lib.itoa rr;split
 ·rw[Fw 20 _ ow ow]
 ·rw[Fw 20 _ ow ow];congr 1;omega
def zdR:zY:=zR [zg,zg] [.str] (λx=>x.2.1==10) λx=>(rr x.1,())
open Go.RowKit Go.Lib in
theorem ZS:FK 275 zdR:=by
 refine fG (E:=AX) ⟨Tryz.f275,kw,kw,kw⟩ λx h0 res hx=>?_
 unfold fh at hx;split at hx
 ·simp only[Q8]at hx;split at hx
  ·rename_i hc;simp only[bz]at hx;subst hx;obtain⟨n,b,u⟩:=x;have hc:(b==10)=Q3:=hc;simp only[ba]at hc;subst hc;intro C w U ρ vals _ hr hH hnew hr0 hW;have hl:=hr.len
   match vals,hl,hr with
   | [v1,v2],_,hr=>
    have h1:=hr.rv 0 (.int .i64 n) v1 rfl rfl;have h2:=hr.rv 1 (.int .i64 10) v2 rfl rfl;cases h1 with
    |int _ _ hn=>
    cases h2;have h5:Rv w U (λ_=>Q2) (.tab .u64 lO) (.pointer (Q1 ⟨5,0,Q2⟩)):=hW.gl 5;have htab:Lib.TabIs Tryz.prog w "internal/strconv.uint64pow10" .u64 Lib.pow10Tab:=by
     cases h5 with
     |tab _ _ _ T fr hb hU=>
     have hg:Tryz.prog.globalNamed "internal/strconv.uint64pow10"=Q1 5:=by kernel_rfl
     have ht:Lib.pow10Tab=lO:=by decide+kernel
     unfold Lib.TabIs World.var?;rw[hg,ht];simp only[Option.bind_some,hb]
    refine(Tryz.strconv_FormatInt_10 n hn.1 hn.2 w htab).mono ?_;rintro e w' ⟨rfl,k,os,rfl⟩;rw[R5 n hn];exact eG (r:=.str (rr n)) hH hnew hr0 hW ⟨rfl,rfl,rfl,by show w.heap.size<=(w.heap++os).size;simp,λj hj=>by show(w.heap++os)[j]?=w.heap[j]?;rw[Array.getElem?_append_left hj]⟩ (.str _ (by have:=Ez n;unfold aF;omega))
  ·cases hx
 ·simp at hx
theorem us(old new:zB):∀(k:Nat)(s:zB),(Lib.replaceK old new k s).length<=s.length+k*new.length
 |0,s=>by simp[Lib.replaceK]
 | k+1,s=>by
  rw[Lib.replaceK];split
  ·omega
  ·have:=us old new k (s.drop ((Lib.index s old).toNat+old.length));simp only[jM,oA,List.length_drop]at this⊢;rw[kl];omega
theorem kQ(s old new:zB):(Lib.replaceAll s old new).length<=s.length+(s.length+1)*new.length:=by
 unfold Lib.replaceAll Lib.replace;split
 ·omega
 ·refine cG (us old new _ s) ?_;have hc:=Lib.count_le s old;have:Lib.replaceNum s old (-1)=Lib.count s old:=by unfold Lib.replaceNum;rw[if_pos (.inl ow)]
  rw[this];have:=gQ new.length hc;omega
def ur(s old new:zB):Bool:=Q0 (s.length<=4000000000)&&(Q0 (1<=old.length)&&Q0 (new.length<=1000))
def zdS:zY:=zR [.str,.str,.str] [.str] (λx=>ur x.1 x.2.1 x.2.2.1) λx=>(Lib.replaceAll x.1 x.2.1 x.2.2.1,())
open Go.RowKit Go.Lib in
theorem ZT:FK 276 zdS:=by
 refine fG (E:=AX) ⟨Tryz.f276,kw,kw,kw⟩ λx h0 res hx=>?_
 unfold fh at hx;split at hx
 ·simp only[Q8]at hx;split at hx
  ·rename_i hc;simp only[bz]at hx;subst hx;obtain⟨s,old,new,u⟩:=x;have hc:ur s old new=Q3:=hc;unfold ur at hc;simp only[aD,aO]at hc;obtain⟨hc1,hc2,hc3⟩:=hc;intro C w U ρ vals _ hr hH hnew hr0 hW;have hl:=hr.len
   match vals,hl,hr with
   | [v1,v2,v3],_,hr=>
    have h1:=hr.rv 0 (.str s) v1 rfl rfl;have h2:=hr.rv 1 (.str old) v2 rfl rfl;have h3:=hr.rv 2 (.str new) v3 rfl rfl;cases h1 with
    |str _ hs1=>
    cases h2 with
    |str _ hs2=>
    cases h3 with
    |str _ hs3=>
    have hg1:Rv w U (λ_=>Q2) .gint (.pointer (Q1 ⟨0,0,Q2⟩)):=hW.gl 0;have hmm:∃m:Int,w.cell? ⟨0,0,Q2⟩=Q1 (.int .i64 m):=by
     cases hg1 with
     |gint m _ T fr _ hb _=>exact⟨m,by simp[World.cell?,hb]⟩
    obtain⟨m,hm⟩:=hmm;have hcb:=Lib.countB_le (⟨old.toArray⟩:ByteArray) (by simpa[ByteArray.size]using hc2) s.length (⟨s.toArray⟩:ByteArray) (by simp[ByteArray.size]);have hsz:(⟨s.toArray⟩:ByteArray).size=s.length:=by simp[ByteArray.size]
    have hnz:(⟨new.toArray⟩:ByteArray).size=new.length:=by simp[ByteArray.size]
    have hmul:Lib.countB (⟨s.toArray⟩:ByteArray) ⟨old.toArray⟩*new.length<=4000000000*1000:=DL ow hc3;refine(Tryz.strings_ReplaceAll ⟨s.toArray⟩ ⟨old.toArray⟩ ⟨new.toArray⟩ m w (by rw[hsz];omega) hm (by simpa[ByteArray.size]using hc2) (by rw[hsz,hnz];omega)).mono ?_;rintro e w' ⟨rfl,hbel⟩;refine eG (r:=.str (Lib.replaceAll s old new)) hH hnew hr0 hW hbel (.str _ ?_);have hlen:=kQ s old new;have hmul2:(s.length+1)*new.length<=4000000001*1000:=DL ow hc3;unfold aF;omega
  ·cases hx
 ·simp at hx
def zdQ:zY:=zR [.sl .str,.str] [.str] (λx=>Q0 (x.1.length<=140737488355328)&&Q0 ((Lib.join x.1 x.2.1).length<=140737488355328)) λx=>(Lib.join x.1 x.2.1,())
open Go.RowKit Go.Lib in
theorem ZR:FK 274 zdQ:=by
 refine fG (E:=AX) ⟨Tryz.f274,kw,kw,kw⟩ λx h0 res hx=>?_
 unfold fh at hx;split at hx
 ·simp only[Q8]at hx;split at hx
  ·rename_i hc;simp only[bz]at hx;subst hx;obtain⟨l,sep,u⟩:=x;have hc:(Q0 (l.length<=140737488355328)&&Q0 ((Lib.join l sep).length<=140737488355328))=Q3:=hc;simp only[aD,aO]at hc;obtain⟨hc0,hc⟩:=hc;have hms:aF=9223372036854775807:=rfl;intro C w U ρ vals _ hr hH hnew hr0 hW;have hl:=hr.len
   match vals,hl,hr with
   | [v1,v2],_,hr=>
    have h1:=hr.rv 0 (.sl .str l) v1 rfl rfl;have h2:=hr.rv 1 (.str sep) v2 rfl rfl;cases h2 with
    |str _ hs2=>
    generalize hl0:l=l0 at h1 hc hc0 hr;cases h1 with
    | sl0 _ a c=>
     subst hl0;refine(Tryz.strings_Join_none a c ⟨sep.toArray⟩ w).mono ?_;rintro e w' ⟨rfl,rfl⟩;exact eG (r:=.str []) hH hnew hr0 hW (Below.refl _ _) (.str _ sw)
    | sl _ _ b o c vals' hcc hm hb hU hcell hrr=>
     subst hl0;have hx:∀(j:Nat) x,(l.map λs=>(⟨s.toArray⟩:ByteArray))[j]?=Q1 x->w.cell? ⟨b,o+j,Q2⟩=Q1 (.string x):=by
      intro j x hj;simp only[fa,ef]at hj;obtain⟨s,hs,rfl⟩:=hj;obtain⟨hlt,rfl⟩:=cZ.1 hs;have h3:=hcell j 0 hlt (by simp[Sh.size]);have h4:=hrr j hlt 0 (.str l[j]) rfl;simp only[Sh.size,Nat.mul_one,wT]at h3;rw[h3];generalize vals' j 0=vv at h4;cases h4;rfl
     have hmap:(l.map λs=>(⟨s.toArray⟩:ByteArray)).map (·.data.toList)=l:=by
      simp[sQ]
     have hj:=Tryz.strings_Join b o c (l.map λs=>(⟨s.toArray⟩:ByteArray)) ⟨sep.toArray⟩ w hx hb (by simpa using hc0) (by simpa using hcc) (by rw[hmap];exact hc);rw[hmap]at hj;simp only[da]at hj;refine hj.mono ?_;rintro e w' ⟨rfl,hbel⟩;exact eG (r:=.str (Lib.join l sep)) hH hnew hr0 hW hbel (.str _ ow)
  ·cases hx
 ·simp at hx
noncomputable def rm:=AX.addL [(282,F63),(232,F89),(275,zdR),(276,zdS),(274,zdQ)]
theorem iR:zx rm:=OA.addL<|fc zfV<|fc zgg<|fc ZS<|fc ZT<|fc ZR iV
end Cad
