/- Expressions: their types. Expressions: bounded ones; the same ones. Expressions: which may be. Expressions: their values. Expressions: may, bounded. -/
import Derived.Test.YtkmcdhahdadkpaaGreatDoorA08
namespace Cad
open Go Go.Proofs
open List renaming drop→Qh,take→Qg
open Tr renaming chk→Qc,«to»→Q9,val→Q8
open AO renaming box→Qa
open Sh renaming bool→Q7,expr→Q5
open Bool renaming false→Q4,true→Q3
open Option renaming none→Q2,some→Q1
open Decidable renaming decide→Q0
open Int (toNat)
open List (getD length)
open Tr (chk br re)
open AV (nils agg tup ptr kb str sl)
theorem fy{P:Program}{gl:Nat->AV}{k:FuncId}{ks outs:List Sh}{c:zz (ks.map Q1)->Bool}{g:zz (ks.map Q1)->zz (outs.map Q1)}(hf:∃fn,P.funcs[k]?=Q1 fn/\(fn.name=="runtime.NumGoroutine")=Q4/\fn.body.isNone=Q4)(hc:∀x,c x=Q4):oC P gl k (zV ks outs c g):=by
 refine⟨hf,?_⟩;intro w U ρ hp n args vals f fp hv;exfalso;unfold zV bm at hv;split at hv
 ·simp only at hv;split at hv
  ·split at hv
   ·simp only[Tr.val_bind,fV]at hv;obtain⟨res,h1,h2⟩:=hv;unfold ft at h1;split at h1
    ·simp only[Q8,hc]at h1;simp at h1
    ·simp at h1
   ·simp at hv
  ·simp at hv
 ·simp at hv
theorem ml{Φ:zE->Prop}{c:Bool}{t f:Tr zE}(h1:c=Q3->gv Φ t.val)(h2:c=Q4->gv Φ f.val):gv Φ (br c t f).val:=by
 cases c
 ·simpa[Q8]using h2 rfl
 ·simpa[Q8]using h1 rfl
theorem kd{Φ:zE->Prop}{c:Bool}{t:Tr zE}(hc:c=Q3)(h:gv Φ t.val):gv Φ (Qc c t).val:=by
 subst hc;simpa[Q8]using h
theorem zN{Φ:zE->Prop}{t:Tr zE}(h:gv Φ t.val):gv Φ (Qc Q3 t).val:=h
theorem mH{c:Bool}(h:c=Q4):¬c=Q3:=by rw[h];simp
theorem qk{c g:Bool}(h:(if c=Q3 then g else Q4)=Q3):c=Q3/\g=Q3:=by
 split at h
 ·exact⟨‹_›,h⟩
 ·cases h
theorem uh{Φ:zE->Prop}{c:Bool}{t f:Tr zE}{α:Sort _}{a b y:α}{p q:Bool}(hy:(if c=Q3 then a else b)=y)(hc:(if c=Q3 then p else q)=Q3)(h1:c=Q3->a=y->p=Q3->gv Φ t.val)(h2:c=Q4->b=y->q=Q3->gv Φ f.val):gv Φ (Tr.br c t f).val:=
 ml (λh=>h1 h (by rwa [if_pos h]at hy) (by rwa [if_pos h]at hc)) (λh=>h2 h (by rwa [if_neg (mH h)]at hy) (by rwa [if_neg (mH h)]at hc))
theorem di{Φ:zE->Prop}{c:Bool}{t f:Tr zE}{α:Sort _}{a b y:α}(hy:(if c=Q3 then a else b)=y)(h1:c=Q3->a=y->gv Φ t.val)(h2:c=Q4->b=y->gv Φ f.val):gv Φ (Tr.br c t f).val:=
 ml (λh=>h1 h (by rwa [if_pos h]at hy)) (λh=>h2 h (by rwa [if_neg (mH h)]at hy))
theorem iB{Φ:zE->Prop}{c g:Bool}{t:Tr zE}(hc:(if c=Q3 then g else Q4)=Q3)(h:g=Q3->gv Φ t.val):gv Φ (Tr.chk c t).val:=
 kd (qk hc).1 (h (qk hc).2)
theorem Tr.val_brT{α:Type}(t f:Tr α):(br Q3 t f).val=t.val:=rfl
theorem Tr.val_brF{α:Type}(t f:Tr α):(br Q4 t f).val=f.val:=rfl
theorem Tr.val_chkT{α:Type}(t:Tr α):(Qc Q3 t).val=t.val:=rfl
instance:Inhabited zf:=⟨.mk [] (0,0,[]) [] []⟩
instance (s:Sh):Inhabited (Sem s):=⟨zi s⟩
noncomputable def O2(g:Sem Q5->Sem (Sh.sl zj)->Sem zg×Sem zg)(c:Sem Q5->Sem (Sh.sl zj)->Bool):cd:=RM.add 201 (zV [Q5,Sh.sl zj] [zg,zg] (λx=>c x.1 x.2.1) λx=>((g x.1 x.2.1).1,(g x.1 x.2.1).2,()))
theorem Bf{g:Sem Q5->Sem (Sh.sl zj)->Sem zg×Sem zg}{c:Sem Q5->Sem (Sh.sl zj)->Bool}(hg:FK 201 (zV [Q5,Sh.sl zj] [zg,zg] (λx=>c x.1 x.2.1) λx=>((g x.1 x.2.1).1,(g x.1 x.2.1).2,()))):zy (O2 g c):=Eo.add hg
abbrev ZS:Nat->aO:=λj=>if j=3 then{slots:=[1,2,6,15,16,17],prom:=[(6,Q2,zg)]}else{ }
abbrev C0(l1:LC)(l15:LX)(i16:Int)(i17:Int)(ja0:zD)(ja1:Int)(ja2:Int)(ja3:zD)(ja4:zD)(ja5:LX)(lh_1:LI):St:={tmps:=(tm 91 [(1,sl zj l1),(2,ptr 0 0),(6,AV.vec 1),(15,sl Q5 l15),(16,ai i16),(17,ai i17)]),heap:=[Qa [str ja0,ai ja1,ai ja2,str ja3,str ja4,sl Q5 ja5],AO.vec zg lh_1]}
theorem B7(g:Sem Q5->Sem (Sh.sl zj)->Sem zg×Sem zg)(c:Sem Q5->Sem (Sh.sl zj)->Bool):zL (O2 g c).P 201 Tryz.f201 2:=bS kw
theorem zh1(g:Sem Q5->Sem (Sh.sl zj)->Sem zg×Sem zg)(c:Sem Q5->Sem (Sh.sl zj)->Bool)(x0:Sem Q5)(x1:Sem zj.sl):rn (O2 g c) 0 ZS Tryz.f201 [zH Q5 x0,zH zj.sl x1] []=Tr.ok (zE.head 3 (ag Tryz.f201 3) (C0 x1 (zf.l x0) (↑(zf.l x0).length:Int) 0 (zf.op x0) (zf.v x0).1 (zf.v x0).2.1 (zf.v x0).2.2 (zf.s x0) (zf.l x0) [])):=kw
theorem NE(g:Sem Q5->Sem (Sh.sl zj)->Sem zg×Sem zg)(c:Sem Q5->Sem (Sh.sl zj)->Bool)(l1:LC)(l15:LX)(i16:Int)(i17:Int)(ja0:zD)(ja1:Int)(ja2:Int)(ja3:zD)(ja4:zD)(ja5:LX)(lh_1:LI):rh (O2 g c) 0 ZS Tryz.f201 3 (C0 l1 l15 i16 i17 ja0 ja1 ja2 ja3 ja4 ja5 lh_1)=br (Q0 (i17<i16)) (Qc (zK i17 l15.length) (Qc (c (zn (l15.getD i17.toNat (zi Q5))) l1) (br ((g (zn (l15.getD i17.toNat (zi Q5))) l1).2!=0) (Tr.ok (zE.ret (tup [ai 0,AV.int IntKind.i64 (g (zn (l15.getD i17.toNat (zi Q5))) l1).2]) [])) (Qc (Q0 (lh_1.length+[(g (zn (l15.getD i17.toNat (zi Q5))) l1).1].length<=1073741824)) (Tr.ok (zE.head 3 (ag Tryz.f201 3) (C0 l1 l15 i16 (IntKind.i64.wrap (i17+1)) ja0 ja1 ja2 ja3 ja4 ja5 (lh_1++[(g (zn (l15.getD i17.toNat (zi Q5))) l1).1])))))))) (br (ja0==[108,105,116]) (Tr.ok (zE.ret (tup [ai ja1,ai 0]) [])) (br (ja0==[99,111,108]) (br (Q0 (ah l1 ja4<0)) (Tr.ok (zE.ret (tup [ai 0,ai 4]) [])) (Qc (zK (ah l1 ja4) l1.length) (Tr.ok (zE.ret (tup [ai (l1.getD (toNat (ah l1 ja4)) (zi zj)).2.1,ai 0]) [])))) (br (ja0==[110,111,116]) (br (!mb lh_1 3) (Tr.ok (zE.ret (tup [ai 0,ai 5]) [])) (Tr.ok (zE.ret (tup [ai 3,ai 0]) []))) (br (ja0==[97,110,100])
 (br (!mb lh_1 3) (Tr.ok (zE.ret (tup [ai 0,ai 5]) [])) (Tr.ok (zE.ret (tup [ai 3,ai 0]) []))) (br (ja0==[111,114]) (br (!mb lh_1 3) (Tr.ok (zE.ret (tup [ai 0,ai 5]) [])) (Tr.ok (zE.ret (tup [ai 3,ai 0]) []))) (br (ja0==[61]) (Qc (zK 0 lh_1.length&&(Q0 (toNat 0<lh_1.length)&&(zK 1 lh_1.length&&(Q0 (toNat 1<lh_1.length)&&bif lh_1.getD (toNat 0) (zi zg)==lh_1.getD (toNat 1) (zi zg)then Q3 else zK 0 lh_1.length&&(Q0 (toNat 0<lh_1.length)&&bif lh_1.getD (toNat 0) (zi zg)==0 then Q3 else zK 1 lh_1.length&&Q0 (toNat 1<lh_1.length)))))) (br (!bif lh_1.getD (toNat 0) (zi zg)==lh_1.getD (toNat 1) (zi zg)then Q3 else bif lh_1.getD (toNat 0) (zi zg)==0 then Q3 else lh_1.getD (toNat 1) (zi zg)==0) (Tr.ok (zE.ret (tup [ai 0,ai 5]) [])) (Tr.ok (zE.ret (tup [ai 3,ai 0]) [])))) (br (ja0==[60]) (Qc (zK 0 lh_1.length&&(Q0 (toNat 0<lh_1.length)&&(zK 1 lh_1.length&&(Q0 (toNat 1<lh_1.length)&&bif lh_1.getD (toNat 0) (zi zg)==lh_1.getD (toNat 1) (zi zg)then Q3 else zK 0 lh_1.length&&(Q0 (toNat 0<lh_1.length)&&bif lh_1.getD (toNat 0) (zi zg)==0 then Q3 else zK 1 lh_1.length&&Q0 (toNat 1<lh_1.length)))))) (br (!bif lh_1.getD (toNat 0) (zi zg)==lh_1.getD (toNat 1) (zi zg)then Q3
 else bif lh_1.getD (toNat 0) (zi zg)==0 then Q3 else lh_1.getD (toNat 1) (zi zg)==0) (Tr.ok (zE.ret (tup [ai 0,ai 5]) [])) (Tr.ok (zE.ret (tup [ai 3,ai 0]) [])))) (br (ja0==[43]) (br (!mb lh_1 1) (Tr.ok (zE.ret (tup [ai 0,ai 5]) [])) (Tr.ok (zE.ret (tup [ai 1,ai 0]) []))) (br (ja0==[45]) (br (!mb lh_1 1) (Tr.ok (zE.ret (tup [ai 0,ai 5]) [])) (Tr.ok (zE.ret (tup [ai 1,ai 0]) []))) (Tr.ok (zE.ret (tup [ai 3,ai 0]) []))))))))))):=kw
def aI(g:Sem Q5->Sem (Sh.sl zj)->Sem zg×Sem zg)(c:Sem Q5->Sem (Sh.sl zj)->Bool)(l1:LC)(ja0:zD)(ja1:Int)(ja2:Int)(ja3:zD)(ja4:zD)(ja5:LX):List (Sem Q5)->Int->List (Sem zg)->Sem zg×Sem zg
 |[],_,lh_1=>if(ja0==[108,105,116])=Q3 then(ja1,0)
else
 if(ja0==[99,111,108])=Q3 then
  if Q0 (ah l1 ja4<0)=Q3 then(0,4)
  else((l1.getD (toNat (ah l1 ja4)) (zi zj)).2.1,0)
 else
  if(ja0==[110,111,116])=Q3 then if(!mb lh_1 3)=Q3 then(0,5)else(3,0)
  else
   if(ja0==[97,110,100])=Q3 then if(!mb lh_1 3)=Q3 then(0,5)else(3,0)
   else
    if(ja0==[111,114])=Q3 then if(!mb lh_1 3)=Q3 then(0,5)else(3,0)
    else
     if (ja0==[61])=true then
      if
        (!bif lh_1.getD (toNat 0) (zi zg)==lh_1.getD (toNat 1) (zi zg)then Q3
          else bif lh_1.getD (toNat 0) (zi zg)==0 then Q3 else lh_1.getD (toNat 1) (zi zg)==0)=
         Q3 then
       (0,5)
      else(3,0)
     else
      if (ja0==[60])=true then
       if
         (!bif lh_1.getD (toNat 0) (zi zg)==lh_1.getD (toNat 1) (zi zg)then Q3
           else
            bif lh_1.getD (toNat 0) (zi zg)==0 then Q3 else lh_1.getD (toNat 1) (zi zg)==0)=
          Q3 then
        (0,5)
       else(3,0)
      else
       if(ja0==[43])=Q3 then if(!mb lh_1 1)=Q3 then(0,5)else(1,0)
       else if(ja0==[45])=Q3 then if(!mb lh_1 1)=Q3 then(0,5)else(1,0)else(3,0)
 |x::r,i17,lh_1=>if((g x l1).2!=0)=Q3 then(0,(g x l1).2)else aI g c l1 ja0 ja1 ja2 ja3 ja4 ja5 r (i17+1) (lh_1++[(g x l1).1])
def fS(g:Sem Q5->Sem (Sh.sl zj)->Sem zg×Sem zg)(c:Sem Q5->Sem (Sh.sl zj)->Bool)(l1:LC)(ja0:zD)(ja1:Int)(ja2:Int)(ja3:zD)(ja4:zD)(ja5:LX):List (Sem Q5)->Int->List (Sem zg)->Bool
 |[],_,lh_1=>if(ja0==[108,105,116])=Q3 then Q3
else
 if(ja0==[99,111,108])=Q3 then
  if Q0 (ah l1 ja4<0)=Q3 then Q3 else if zK (ah l1 ja4) l1.length=Q3 then Q3 else Q4
 else
  if(ja0==[110,111,116])=Q3 then Q3
  else
   if(ja0==[97,110,100])=Q3 then Q3
   else
    if(ja0==[111,114])=Q3 then Q3
    else
     if (ja0 == [61])=true then
      if
        (zK 0 lh_1.length&&
          (Q0 (toNat 0<lh_1.length)&&
           (zK 1 lh_1.length&&
            (Q0 (toNat 1<lh_1.length)&&
             bif lh_1.getD (toNat 0) (zi zg)==lh_1.getD (toNat 1) (zi zg)then Q3
             else
              zK 0 lh_1.length&&
               (Q0 (toNat 0<lh_1.length)&&
                bif lh_1.getD (toNat 0) (zi zg)==0 then Q3
                else zK 1 lh_1.length&&Q0 (toNat 1<lh_1.length))))))=
         Q3 then
       Q3
      else Q4
     else
      if (ja0 == [60])=true then
       if
         (zK 0 lh_1.length&&
           (Q0 (toNat 0<lh_1.length)&&
            (zK 1 lh_1.length&&
             (Q0 (toNat 1<lh_1.length)&&
              bif lh_1.getD (toNat 0) (zi zg)==lh_1.getD (toNat 1) (zi zg)then Q3
              else
               zK 0 lh_1.length&&
                (Q0 (toNat 0<lh_1.length)&&
                 bif lh_1.getD (toNat 0) (zi zg)==0 then Q3
                 else zK 1 lh_1.length&&Q0 (toNat 1<lh_1.length))))))=
          Q3 then
        Q3
       else Q4
      else Q3
 |x::r,i17,lh_1=>if c x l1=Q3 then
 if((g x l1).2!=0)=Q3 then Q3
 else
  if Q0 (lh_1.length+[(g x l1).1].length<=1073741824)=Q3 then
   fS g c l1 ja0 ja1 ja2 ja3 ja4 ja5 r (i17+1) (lh_1++[(g x l1).1])
  else Q4
else Q4
theorem Wj(g:Sem Q5->Sem (Sh.sl zj)->Sem zg×Sem zg)(c:Sem Q5->Sem (Sh.sl zj)->Bool)(hg:FK 201 (zV [Q5,Sh.sl zj] [zg,zg] (λx=>c x.1 x.2.1) λx=>((g x.1 x.2.1).1,(g x.1 x.2.1).2,()))){C:eV}(hC:∀id,C.ρ0 id=Q2)(l1:LC)(ja0:zD)(ja1:Int)(ja2:Int)(ja3:zD)(ja4:zD)(ja5:LX)(l15:LX)(hl:l15.length<=aH):∀(m i:Nat)(lh_1:LI),l15.length-i=m->i<=l15.length->fS g c l1 ja0 ja1 ja2 ja3 ja4 ja5 (l15.drop i) i lh_1=Q3->
  Reach (O2 g c) C 201 (ag Tryz.f201 3) (C0 l1 l15 (l15.length:Int) (i:Int) ja0 ja1 ja2 ja3 ja4 ja5 lh_1) (λr h=>aL h [zg,zg] r=Q1 ((aI g c l1 ja0 ja1 ja2 ja3 ja4 ja5 (l15.drop i) i lh_1).1,(aI g c l1 ja0 ja1 ja2 ja3 ja4 ja5 (l15.drop i) i lh_1).2,())):=by
 intro m
 induction m with
 | zero=>
  intro i lh_1 hm hi hc;obtain rfl:i=l15.length:=by omega
  rw[jw]at hc⊢;refine zF (Bf hg) (B7 g c) (λid _=>hC id) (NE g c _ _ _ _ _ _ _ _ _ _ _) ?_;rw[fS]at hc;generalize hy:aI g c l1 ja0 ja1 ja2 ja3 ja4 ja5 [] _ lh_1=y;rw[aI]at hy;simp only[zf.eta,zA,Tr.val_brF];repeat' (first|with_reducible refine uh hy hc (λ_ hy hc=>?_) (λ_ hy hc=>?_)|with_reducible refine di hy (λ_ hy=>?_) (λ_ hy=>?_)|with_reducible refine iB hc (λhc=>?_)|with_reducible refine zN ?_)
  all_goals(subst hy;first|rfl)
 | succ m IH=>
  intro i lh_1 hm hi hc;have hlt:i<l15.length:=by omega
  have IH:=IH (i+1);have hcast:((i:Int)+1)=((i+1:Nat):Int):=by omega
  have hwr:=zp i ow;rw[eY hlt]at hc⊢;refine zF (Bf hg) (B7 g c) (λid _=>hC id) (NE g c _ _ _ _ _ _ _ _ _ _ _) ?_;rw[fS]at hc;generalize hy:aI g c l1 ja0 ja1 ja2 ja3 ja4 ja5 (l15[i]::l15.drop (i+1)) (i:Int) lh_1=y;rw[aI]at hy;simp only[zf.eta,zC hlt,zt hlt,cF l15 _ hlt,hwr,Tr.val_brT,Tr.val_chkT];clear hwr;simp only[hcast]at hy
  try simp only[hcast]at hc
  repeat' (first|with_reducible refine uh hy hc (λ_ hy hc=>?_) (λ_ hy hc=>?_)|with_reducible refine di hy (λ_ hy=>?_) (λ_ hy=>?_)|with_reducible refine iB hc (λhc=>?_)|with_reducible refine zN ?_)
  all_goals(subst hy;first|(change Reach _ _ _ _ _ _;apply IH<;>first|omega|assumption)|rfl)
theorem QX(g:Sem Q5->Sem (Sh.sl zj)->Sem zg×Sem zg)(c:Sem Q5->Sem (Sh.sl zj)->Bool)(hg:FK 201 (zV [Q5,Sh.sl zj] [zg,zg] (λx=>c x.1 x.2.1) λx=>((g x.1 x.2.1).1,(g x.1 x.2.1).2,()))){C:eV}(hC:∀id,C.ρ0 id=Q2)(l1:LC)(ja0:zD)(ja1:Int)(ja2:Int)(ja3:zD)(ja4:zD)(ja5:LX)(l15:LX)(lh_1:LI)(hc:fS g c l1 ja0 ja1 ja2 ja3 ja4 ja5 l15 0 lh_1=Q3):
  Reach (O2 g c) C 201 (ag Tryz.f201 3) (C0 l1 l15 (l15.length:Int) 0 ja0 ja1 ja2 ja3 ja4 ja5 lh_1) (λr h=>aL h [zg,zg] r=Q1 ((aI g c l1 ja0 ja1 ja2 ja3 ja4 ja5 l15 0 lh_1).1,(aI g c l1 ja0 ja1 ja2 ja3 ja4 ja5 l15 0 lh_1).2,())):=
 Reach.len 15 (Q5) l15 rfl λhl=>Wj g c hg hC l1 ja0 ja1 ja2 ja3 ja4 ja5 l15 hl _ 0 lh_1 rfl (be _) hc
def w9(g:Sem Q5->Sem (Sh.sl zj)->Sem zg×Sem zg)(c:Sem Q5->Sem (Sh.sl zj)->Bool)(x0:Sem Q5)(x1:Sem zj.sl):Sem zg×Sem zg:=aI g c x1 (zf.op x0) (zf.v x0).1 (zf.v x0).2.1 (zf.v x0).2.2 (zf.s x0) (zf.l x0) (zf.l x0) 0 []
def AC(g:Sem Q5->Sem (Sh.sl zj)->Sem zg×Sem zg)(c:Sem Q5->Sem (Sh.sl zj)->Bool)(x0:Sem Q5)(x1:Sem zj.sl):Bool:=fS g c x1 (zf.op x0) (zf.v x0).1 (zf.v x0).2.1 (zf.v x0).2.2 (zf.s x0) (zf.l x0) (zf.l x0) 0 []
def zk8(g:Sem Q5->Sem (Sh.sl zj)->Sem zg×Sem zg)(c:Sem Q5->Sem (Sh.sl zj)->Bool):ac:=zV [Q5,zj.sl] [zg,zg] (λx=>AC g c x.1 x.2.1) λx=>((w9 g c x.1 x.2.1).1,(w9 g c x.1 x.2.1).2,())
theorem zbs(g:Sem Q5->Sem (Sh.sl zj)->Sem zg×Sem zg)(c:Sem Q5->Sem (Sh.sl zj)->Bool)(hg:FK 201 (zV [Q5,Sh.sl zj] [zg,zg] (λx=>c x.1 x.2.1) λx=>((g x.1 x.2.1).1,(g x.1 x.2.1).2,()))):FK 201 (zk8 g c):=by
 refine aM (B7 g c) λx hc C hC=>?_
 unfold AC at hc;refine zF (Bf hg) (B7 g c) (λid _=>hC id) (zh1 g c x.1 x.2.1) ?_;generalize hy:w9 g c x.1 x.2.1=y;unfold w9 at hy
 try simp only[zf.eta,zk]
 repeat' (first|with_reducible refine uh hy hc (λ_ hy hc=>?_) (λ_ hy hc=>?_)|with_reducible refine di hy (λ_ hy=>?_) (λ_ hy=>?_)|with_reducible refine iB hc (λhc=>?_)|with_reducible refine zN ?_)
 all_goals(subst hy;first|(change Reach _ _ _ _ _ _;apply QX g c hg hC<;>first|assumption|exact hc)|rfl)
mutual
def zP:Nat->Sem Q5->Sem (Sh.sl zj)->Sem zg×Sem zg
 |0=>λ_ _=>default
 |n+1=>w9 (zP n) (bh n)
def bh:Nat->Sem Q5->Sem (Sh.sl zj)->Bool
 |0=>λ_ _=>Q4
 |n+1=>AC (zP n) (bh n)
end
theorem QC:∀n,FK 201 (zV [Q5,Sh.sl zj] [zg,zg] (λx=>bh n x.1 x.2.1) λx=>((zP n x.1 x.2.1).1,(zP n x.1 x.2.1).2,()))
 |0=>fy ⟨Tryz.f201,(B7 default default).1,(B7 default default).2.1,(B7 default default).2.2.1⟩ (λ_=>rfl)
 |n+1=>zbs (zP n) (bh n) (QC n)
def F51:ac:=zV [Q5,Sh.sl zj] [zg,zg] (λx=>bh 16 x.1 x.2.1) λx=>((zP 16 x.1 x.2.1).1,(zP 16 x.1 x.2.1).2,())
theorem zgA:FK 201 F51:=QC 16
noncomputable def Ep:=RM.add 201 F51
theorem pZ:zy Ep:=Eo.add zgA
abbrev Y1:List CP:=[.d .expr]
abbrev zhq:List CP:=[.d .str,.d zg,.d zg,.d .str,.d .str,.vec .expr]
abbrev oE:List CP:=[.d .str,.d zg,.d zg,.d .str,.d .str,.nil]
noncomputable def IJ(g:Sem Q5->Sem zg->Sem zg->Sem Q5×Sem zg)(c:Sem Q5->Sem zg->Sem zg->Bool):cd:=Ep.add 71 (zV [Q5,zg,zg] [Q5,zg] (λx=>c x.1 x.2.1 x.2.2.1) λx=>((g x.1 x.2.1 x.2.2.1).1,(g x.1 x.2.1 x.2.2.1).2,()))
theorem O3{g:Sem Q5->Sem zg->Sem zg->Sem Q5×Sem zg}{c:Sem Q5->Sem zg->Sem zg->Bool}(hg:FK 71 (zV [Q5,zg,zg] [Q5,zg] (λx=>c x.1 x.2.1 x.2.2.1) λx=>((g x.1 x.2.1 x.2.2.1).1,(g x.1 x.2.1 x.2.2.1).2,()))):zy (IJ g c):=pZ.add hg
abbrev S0:Nat->aO:=λj=>if j=10 then{slots:=[1,2,3,6,8,9],prom:=[(8,Q1 5,Q5)]}else if j=500004 then{slots:=[1,2,3,6,8,30],cut:=Q3}else if j=500006 then{slots:=[1,2,3,6,8,39],cut:=Q3}else if j=500008 then{slots:=[1,2,3,6,8],cut:=Q3}else{ }
inductive yi where
 |h500004 (i1:Sem zg) (i2:Sem zg) (b30:Bool) (z0:zm Y1) (z1:zm oE) (z2:zm oE)
 |h500006 (i1:Sem zg) (i2:Sem zg) (b39:Bool) (z0:zm Y1) (z1:zm oE) (z2:zm oE)
 |h500008 (i1:Sem zg) (i2:Int) (z0:zm Y1) (z1:zm oE) (z2:zm oE)
 |h10 (i1:Sem zg) (i2:Int) (i9:Int) (z0:zm Y1) (z1:zm oE) (z2:zm zhq)
abbrev Rt:yi->Nat×St
 |.h500004 i1 i2 b30 z0 z1 z2=>(500004,⟨tm 88 [(1,ai i1),(2,ai i2),(3,ptr 0 0),(6,ptr 1 0),(8,ptr 2 0),(30,AV.bool b30)],[Qa (bv [] Y1 z0),Qa (bv [] oE z1),Qa (bv [] oE z2)]⟩)
 |.h500006 i1 i2 b39 z0 z1 z2=>(500006,⟨tm 88 [(1,ai i1),(2,ai i2),(3,ptr 0 0),(6,ptr 1 0),(8,ptr 2 0),(39,AV.bool b39)],[Qa (bv [] Y1 z0),Qa (bv [] oE z1),Qa (bv [] oE z2)]⟩)
 |.h500008 i1 i2 z0 z1 z2=>(500008,⟨tm 88 [(1,ai i1),(2,ai i2),(3,ptr 0 0),(6,ptr 1 0),(8,ptr 2 0)],[Qa (bv [] Y1 z0),Qa (bv [] oE z1),Qa (bv [] oE z2)]⟩)
 |.h10 i1 i2 i9 z0 z1 z2=>(10,⟨tm 88 [(1,ai i1),(2,ai i2),(3,ptr 0 0),(6,ptr 1 0),(8,ptr 2 0),(9,ai i9)],[Qa (bv [] Y1 z0),Qa (bv [] oE z1),Qa (bv [3] zhq z2),AO.vec Q5 z2.t.2.1]⟩)
theorem zkf(g:Sem Q5->Sem zg->Sem zg->Sem Q5×Sem zg)(c:Sem Q5->Sem zg->Sem zg->Bool):zL (IJ g c).P 71 Tryz.f71 3:=bS kw
def SC(_:Sem Q5->Sem zg->Sem zg->Sem Q5×Sem zg)(_:Sem Q5->Sem zg->Sem zg->Bool)(x0:Sem Q5)(x1:Sem zg)(x2:Sem zg):Tr (yi⊕aw):=
 let a0:=Q0 ((↑(length (zf.s x0)):Int)>20)
 let a1:=((zf.v x0).1,(zf.v x0).2.1,(zf.v x0).2.2,zf.s x0,())
 br (Q0 ((↑(length (zf.op x0)):Int)>8))
 (Qc (Q0 (0<=0)&&Q0 (0<=8)&&Q0 (8<=(↑(length (zf.op x0)):Int)))
  (Q9 (yi.h500004 x1 x2 a0 (x0,()) ([],0,0,[],[],()) (Qg (toNat 8-toNat 0) (Qh (toNat 0) (zf.op x0)),a1))))
 (Q9 (yi.h500004 x1 x2 a0 (x0,()) ([],0,0,[],[],()) (zf.op x0,a1)))
theorem zh7(g:Sem Q5->Sem zg->Sem zg->Sem Q5×Sem zg)(c:Sem Q5->Sem zg->Sem zg->Bool)(x0:Sem Q5)(x1:Sem zg)(x2:Sem zg):rn (IJ g c) 0 S0 Tryz.f71 [zH Q5 x0,zH zg x1,zH zg x2] []=(SC g c x0 x1 x2).map (lf Tryz.f71 Rt):=kw
def vj(g:Sem Q5->Sem zg->Sem zg->Sem Q5×Sem zg)(c:Sem Q5->Sem zg->Sem zg->Bool):yi->Tr (yi⊕aw)
 | .h500004 i1 i2 b30 z0 z1 z2=>
  let a0:=(↑(length z2.t.1):Int)
  let a1:=(↑(length z2.2.2.2.1):Int)
  let a2:=Q0 (a1>45)
  br b30
  (Qc (Q0 (0<=0)&&Q0 (0<=20)&&Q0 (20<=a0)) (Q9 (yi.h500006 i1 i2 a2 z0 z1 (z2.1,z2.2.1,z2.2.2.1,z2.2.2.2.1,Qg (toNat 20-toNat 0) (Qh (toNat 0) z2.t.1),()))))
  (Q9 (yi.h500006 i1 i2 a2 z0 z1 z2))
 | .h500006 i1 i2 b39 z0 z1 z2=>
  let a0:=(↑(length z2.2.2.2.1):Int)
  let a1:=IntKind.i64.wrap (i2-1)
  br b39
  (Qc (Q0 (0<=0)&&Q0 (0<=45)&&Q0 (45<=a0)) (Q9 (yi.h500008 i1 a1 z0 z1 (z2.1,z2.2.1,z2.2.2.1,Qg (toNat 45-toNat 0) (Qh (toNat 0) z2.2.2.2.1),z2.t))))
  (Q9 (yi.h500008 i1 a1 z0 z1 z2))
 | .h500008 i1 i2 z0 z1 z2=>
  Q9 (yi.h10 i1 i2 0 z0 z1 (z2.1,z2.2.1,z2.2.2.1,z2.2.2.2.1,z2.t.1,[],()))
 | .h10 i1 i2 i9 z0 z1 z2=>
  let a0:=(↑(zf.l z0.1).length:Int)
  let a1:=zn ((zf.l z0.1).getD i9.toNat (zi Q5))
  let a2:=IntKind.i64.wrap (i1-1)
  let a3:=g a1 a2 i2
  let a4:=[zn a3.1]
  br (bif Q0 (i9<a0)then bif Q0 (i9<3)then bif Q0 (i1>0)then Q0 (i2>0)else Q4 else Q4 else Q4)
  (Qc (zK i9 (zf.l z0.1).length) (Qc (c a1 a2 i2) (Qc (Q0 (z2.t.2.1.length+a4.length<=1073741824)) (Q9 (yi.h10 i1 a3.2 (IntKind.i64.wrap (i9+1)) z0 z1 (z2.1,z2.2.1,z2.2.2.1,z2.2.2.2.1,z2.t.1,z2.t.2.1++a4,()))))))
  (re (tup [agg [str z2.1,ai z2.2.1,ai z2.2.2.1,str z2.2.2.2.1,str z2.t.1,AV.vec 0],ai i2]) [AO.vec Q5 z2.t.2.1])
theorem zkD(g:Sem Q5->Sem zg->Sem zg->Sem Q5×Sem zg)(c:Sem Q5->Sem zg->Sem zg->Bool):∀s,run (IJ g c) 0 S0 (Func.results Tryz.f71).toList 400 (ag Tryz.f71 (Rt s).1) (Rt s).2=(vj g c s).map (lf Tryz.f71 Rt):=by intro s;cases s<;>kernel_rfl
def IG(o:Option (zz (List.map Q1 [Q5,zg]))):Sem Q5×Sem zg:=(λr:zz (List.map Q1 [Q5,zg])=>(r.1,r.2.1)) (o.getD (cg [Q5,zg]))
def zhG(g:Sem Q5->Sem zg->Sem zg->Sem Q5×Sem zg)(c:Sem Q5->Sem zg->Sem zg->Bool)(x0:Sem Q5)(x1:Sem zg)(x2:Sem zg):Option (zz (List.map Q1 [Q5,zg])):=al [Q5,zg] (vj g c) 100000000 (SC g c x0 x1 x2)
def oF:Nat->Sem Q5->Sem zg->Sem zg->Option (zz (List.map Q1 [Q5,zg]))
 |0=>λ_ _ _=>Q2
 |n+1=>zhG (λx0 x1 x2=>IG (oF n x0 x1 x2)) λx0 x1 x2=>(oF n x0 x1 x2).isSome
theorem zda:zL Ep.P 71 Tryz.f71 3:=bS kw
theorem MM:∀n,FK 71 (zV [Q5,zg,zg] [Q5,zg] (λx=>(oF n x.1 x.2.1 x.2.2.1).isSome) λx=>((IG (oF n x.1 x.2.1 x.2.2.1)).1,(IG (oF n x.1 x.2.1 x.2.2.1)).2,()))
 |0=>fy ⟨Tryz.f71,zda.1,zda.2.1,zda.2.2.1⟩ (λ_=>rfl)
 |n+1=>lY (E:=IJ (λx0 x1 x2=>IG (oF n x0 x1 x2)) (λx0 x1 x2=>(oF n x0 x1 x2).isSome)) (ks:=[Q5,zg,zg]) (outs:=[Q5,zg]) (keep:=S0) (gas:=400) (n:=100000000) (e:=Rt) (t:=vj (λx0 x1 x2=>IG (oF n x0 x1 x2)) (λx0 x1 x2=>(oF n x0 x1 x2).isSome)) (i:=λx=>SC (λx0 x1 x2=>IG (oF n x0 x1 x2)) (λx0 x1 x2=>(oF n x0 x1 x2).isSome) x.1 x.2.1 x.2.2.1) (O3 (MM n)) (zkf _ _) (λx=>zh7 _ _ x.1 x.2.1 x.2.2.1) (zkD _ _) (λ_=>by kernel_rfl) (λ_=>by kernel_rfl)
def ru(N:Nat)(e:Sem Q5)(d n:Sem zg):Sem Q5×Sem zg:=IG (oF N e d n)
def I5(N:Nat)(e:Sem Q5)(d n:Sem zg):Bool:=(oF N e d n).isSome
def F15:ac:=zV [Q5,zg,zg] [Q5,zg] (λx=>I5 16 x.1 x.2.1 x.2.2.1) λx=>((ru 16 x.1 x.2.1 x.2.2.1).1,(ru 16 x.1 x.2.1 x.2.2.1).2,())
theorem zf7:FK 71 F15:=MM 16
def WC(g:zf->zf->Bool):List zf->List zf->Bool
 |x::r,y::s=>if(!g x y)=Q3 then Q4 else WC g r s
 |_,_=>Q3
def Pd(g c:zf->zf->Bool):List zf->List zf->Bool
 |x::r,y::s=>if c x y=Q3 then(if(!g x y)=Q3 then Q3 else Pd g c r s)else Q4
 |_,_=>Q3
noncomputable def O1(g c:zf->zf->Bool):cd:=Ep.add 154 (zV [.expr,.expr] [.bool] (λx=>c x.1 x.2.1) (λx=>(g x.1 x.2.1,())))
theorem Be{g c:zf->zf->Bool}(hg:FK 154 (zV [.expr,.expr] [.bool] (λx=>c x.1 x.2.1) (λx=>(g x.1 x.2.1,())))):zy (O1 g c):=pZ.add hg
abbrev zi2:Nat->aO:=λj=>if j=4 then{slots:=[1,2,15,16,17]}else{ }
abbrev N8(l1:List zf)(l15:List zf)(i16:Int)(i17:Int):St:={tmps:=(tm 32 [(1,sl Q5 l1),(2,AV.clo (Fn.func 154) [] []),(15,sl Q5 l15),(16,ai i16),(17,ai i17)]),heap:=[]}
theorem Xf(g c:zf->zf->Bool):zL (O1 g c).P 202 Tryz.f202 3:=bS kw
theorem zmx(g c:zf->zf->Bool)(l:List zf)(m:List zf):rn (O1 g c) 0 zi2 Tryz.f202 [sl Q5 l,sl Q5 m,AV.clo (Fn.func 154) [] []] []=br ((↑l.length:Int)!=(↑m.length:Int)) (Tr.ok (zE.ret (kb Q4) [])) (Tr.ok (zE.head 4 (ag Tryz.f202 4) (N8 m l (↑l.length:Int) 0))):=kw
theorem TK(g c:zf->zf->Bool)(l1:List zf)(l15:List zf)(i16:Int)(i17:Int):rh (O1 g c) 0 zi2 Tryz.f202 4 (N8 l1 l15 i16 i17)=br (Q0 (i17<i16)) (Qc (zK i17 l15.length) (Qc (zK i17 l1.length) (Qc (c (zn (l15.getD i17.toNat (zi Q5))) (zn (l1.getD i17.toNat (zi Q5)))) (br (!g (zn (l15.getD i17.toNat (zi Q5))) (zn (l1.getD i17.toNat (zi Q5)))) (Tr.ok (zE.ret (kb Q4) [])) (Tr.ok (zE.head 4 (ag Tryz.f202 4) (N8 l1 l15 i16 (IntKind.i64.wrap (i17+1))))))))) (Tr.ok (zE.ret (kb Q3) [])):=kw
theorem zlj{g c:zf->zf->Bool}(hg:FK 154 (zV [.expr,.expr] [.bool] (λx=>c x.1 x.2.1) (λx=>(g x.1 x.2.1,())))){C:eV}(hC:∀id,0<=id->C.ρ0 id=Q2)(l m:List zf)(hlm:l.length=m.length)(hl:l.length<=aH):
  ∀(k i:Nat),l.length-i=k->i<=l.length->Pd g c (l.drop i) (m.drop i)=Q3->Reach (O1 g c) C 202 (ag Tryz.f202 4) (N8 m l l.length i) (λr h=>(r,h)=(.kb (WC g (l.drop i) (m.drop i)),[])):=by
 intro k
 induction k with
 | zero=>
  intro i hk hi hc;obtain rfl:i=l.length:=by omega
  refine zF (Be hg) (Xf g c) hC (TK g c _ _ _ _) ?_;simp only[zA,Tr.val_brF,jw];rfl
 | succ k IH=>
  intro i hk hi hc;have hlt:i<l.length:=by omega
  have hlt':i<m.length:=by omega
  refine zF (Be hg) (Xf g c) hC (TK g c _ _ _ _) ?_;rw[eY hlt,eY hlt']at hc⊢;rw[Pd]at hc;have hc1:=qk hc;simp only[zC hlt,zt hlt,zt hlt',cF l _ hlt,cF m _ hlt',zf.eta,Tr.val_brT,Tr.val_chkT,hc1.1,zp i ow];refine ml (λh=>?_) (λh=>?_)
  ·rw[WC,if_pos h];rfl
  ·rw[WC,if_neg (mH h)];have h2:=hc1.2;rw[if_neg (mH h)]at h2;exact IH (i+1) ow ow h2
def Lb(g:zf->zf->Bool)(l m:List zf):Bool:=if((↑l.length:Int)!=(↑m.length:Int))=Q3 then Q4 else WC g l m
def xE(g c:zf->zf->Bool)(l m:List zf):Bool:=if((↑l.length:Int)!=(↑m.length:Int))=Q3 then Q3 else Pd g c l m
def G50(g c:zf->zf->Bool):il [Q1 (.sl .expr),Q1 (.sl .expr),Q2]:=λx h=>match x,h with
 |(l,m,.clo (.func 154) [] [],_),[]=>.chk (xE g c l m) (.ok (.bool (Lb g l m),[]))
 |_,_=>.err
def F50(g c:zf->zf->Bool):ac:=bm [Q1 (.sl .expr),Q1 (.sl .expr),Q2] (G50 g c)
theorem Reach.weaken{E:cd}{C:eV}{fn:FuncId}{todo:List Item}{st:St}{Q Q':AV->List AO->Prop}(h:Reach E C fn todo st Q)(hq:∀r h,Q r h->∃r',Q' r' h/\∀w U ρ v,Rv w U ρ r v->Rv w U ρ r' v):Reach E C fn todo st Q':=by
 intro b cs a w U ρ h1 h2 hc hW;obtain⟨e,w',fr,⟨v,r,h',U',ρ',he,hq1,hrv,hrest⟩,hcm⟩:=h b cs a w U ρ h1 h2 hc hW;obtain⟨r',hq2,hrr⟩:=hq r h' hq1;exact⟨e,w',fr,⟨v,r',h',U',ρ',he,hq2,hrr _ _ _ _ hrv,hrest⟩,hcm⟩
theorem zgz{g c:zf->zf->Bool}(hg:FK 154 (zV [.expr,.expr] [.bool] (λx=>c x.1 x.2.1) (λx=>(g x.1 x.2.1,())))):FK 202 (F50 g c):=by
 refine dv (E:=O1 g c) (Xf g c) λx h0 res hx C hC=>?_
 unfold G50 at hx;split at hx
 ·rename_i l m u;simp only[Q8]at hx;split at hx
  ·rename_i hc;simp only[bD]at hx;subst hx;refine Reach.len 0 .expr l rfl λhl=>?_
   refine Reach.weaken (Q:=λr h=>(r,h)=(.kb (Lb g l m),[])) ?_ ?_
   ·refine zF (n0:=0) (Be hg) (Xf g c) hC (zmx g c l m) ?_;unfold xE at hc;unfold Lb;refine ml (λh=>?_) (λh=>?_)
    ·rw[if_pos h];rfl
    ·rw[if_neg (mH h)]at hc⊢;have:(l.length:Int)=m.length:=by simpa using h
     have:l.length=m.length:=by omega
     exact zlj hg hC l m this hl _ 0 rfl (be _) hc
   ·rintro r h hq;cases hq;refine⟨_,rfl,λw U ρ v hv=>?_⟩;cases hv;exact .bool _
  ·simp at hx
 ·simp at hx
noncomputable def Wz(g c:zf->zf->Bool):cd:=Ep.add 202 (F50 g c)
theorem RA{g c:zf->zf->Bool}(hg:FK 154 (zV [.expr,.expr] [.bool] (λx=>c x.1 x.2.1) (λx=>(g x.1 x.2.1,())))):zy (Wz g c):=pZ.add (zgz hg)
def U8(a b:V):Bool:=a.1==b.1&&(a.2.1==b.2.1&&(a.2.2==b.2.2&&Q3))
def Kl(g:zf->zf->Bool)(a b:zf):Bool:=bif a.op==b.op then bif U8 a.v b.v then bif a.s==b.s then Lb g a.l b.l else Q4 else Q4 else Q4
def Hz(g c:zf->zf->Bool)(a b:zf):Bool:=bif a.op==b.op then bif U8 a.v b.v then bif a.s==b.s then xE g c a.l b.l else Q3 else Q3 else Q3
theorem TB(g c:zf->zf->Bool):zL (Wz g c).P 154 Tryz.f154 2:=bS kw
theorem zme(g c:zf->zf->Bool)(l:zf)(m:zf):rn (Wz g c) 0 (λ_=>{}) Tryz.f154 [zH Q5 l,zH Q5 m] []=Qc (Hz g c l m) (Tr.ok (zE.ret (AV.bool (Kl g l m)) [])):=kw
theorem za2{g c:zf->zf->Bool}(hg:FK 154 (zV [.expr,.expr] [.bool] (λx=>c x.1 x.2.1) (λx=>(g x.1 x.2.1,())))):FK 154 (zV [.expr,.expr] [.bool] (λx=>Hz g c x.1 x.2.1) (λx=>(Kl g x.1 x.2.1,()))):=by
 refine aM (E:=Wz g c) (TB g c) λx hx C hC=>?_
 refine zF (n0:=0) (RA hg) (TB g c) (λid _=>hC id) (zme g c x.1 x.2.1) ?_;exact kd hx rfl
mutual
def fw:Nat->zf->zf->Bool
 |0=>λ_ _=>Q4
 |n+1=>Kl (fw n)
def jj:Nat->zf->zf->Bool
 |0=>λ_ _=>Q4
 |n+1=>Hz (fw n) (jj n)
end
theorem Qz:∀n,FK 154 (zV [.expr,.expr] [.bool] (λx=>jj n x.1 x.2.1) (λx=>(fw n x.1 x.2.1,())))
 |0=>fy ⟨Tryz.f154,(TB (λ_ _=>Q4) (λ_ _=>Q4)).1,(TB (λ_ _=>Q4) (λ_ _=>Q4)).2.1,(TB (λ_ _=>Q4) (λ_ _=>Q4)).2.2.1⟩ (λ_=>rfl)
 |n+1=>za2 (Qz n)
def F29:ac:=zV [.expr,.expr] [.bool] (λx=>jj 16 x.1 x.2.1) (λx=>(fw 16 x.1 x.2.1,()))
theorem zgh:FK 154 F29:=Qz 16
noncomputable def M3:=Ep.addL [(71,F15),(154,F29)]
theorem Er:zy M3:=pZ.addL<|fc zf7<|fc zgh iM
def ba(v:V):Bool:=v.1==0&&(v.2.1==0&&(v.2.2==[]&&Q3))
def avB:AV->Option Bool
 |.bool b=>Q1 b
 |.kb b=>Q1 b
 |_=>Q2
theorem Reach.toBool{E:cd}{C:eV}{fn:FuncId}{todo:List Item}{st:St}{b:Bool}{hp:List AO}(h:Reach E C fn todo st (λr h=>avB r=Q1 b/\h=hp)):Reach E C fn todo st (λr h=>(r,h)=(.bool b,hp)):=by
 refine h.weaken λr h' hq=>?_
 obtain⟨h1,rfl⟩:=hq;refine⟨.bool b,rfl,λw U ρ v hv=>?_⟩;cases r<;>simp[avB]at h1<;>subst h1<;>cases hv<;>exact .bool _
def zb8(g:zf->Int->Int->Bool×Int)(c:zf->Int->Int->Bool):il [Q2,Q1 .expr,Q1 zg]:=λx h=>match x,h with
 |(.ptr 0 0,e,d,_),[.box [.int .i64 n]]=>.chk (c e d n) (.ok (.bool (g e d n).1,[.box [.int .i64 (g e d n).2]]))
 |_,_=>.err
def KF(g:zf->Int->Int->Bool×Int)(c:zf->Int->Int->Bool):ac:=bm [Q2,Q1 .expr,Q1 zg] (zb8 g c)
noncomputable def O0(g:zf->Int->Int->Bool×Int)(c:zf->Int->Int->Bool):cd:=M3.add 247 (KF g c)
theorem Bd{g:zf->Int->Int->Bool×Int}{c:zf->Int->Int->Bool}(hg:FK 247 (KF g c)):zy (O0 g c):=Er.add hg
abbrev ziW:Nat->aO:=λj=>if j=12 then{slots:=[0,2,73,74,75]}else{ }
abbrev Hw(i2:Int)(l73:LX)(i74:Int)(i75:Int)(ja0:Int):St:={tmps:=(tm 86 [(0,ptr 0 0),(2,ai i2),(73,sl Q5 l73),(74,ai i74),(75,ai i75)]),heap:=[Qa [ai ja0]]}
theorem TC(g:zf->Int->Int->Bool×Int)(c:zf->Int->Int->Bool):zL (O0 g c).P 247 Tryz.f247 3:=bS kw
theorem zmk(g:zf->Int->Int->Bool×Int)(c:zf->Int->Int->Bool)(e:zf)(d:Int)(n:Int):rn (O0 g c) 1 ziW Tryz.f247 [ptr 0 0,zH Q5 e,ai d] [Qa [ai n]]=br (bif Q0 (d>12)then Q3 else bif Q0 (IntKind.i64.wrap (n+1)>60)then Q3 else(↑e.l.length:Int)!=cO e.op) (Tr.ok (zE.ret (kb Q4) [Qa [ai (IntKind.i64.wrap (n+1))]])) (br (e.op==[108,105,116]) (Tr.ok (zE.ret (AV.bool (bif e.s==[]then aR e.v else Q4)) [Qa [ai (IntKind.i64.wrap (n+1))]])) (br (e.op==[99,111,108]) (Tr.ok (zE.ret (AV.bool (bif ba e.v then bif dU e.s then !jg e.s else Q4 else Q4)) [Qa [ai (IntKind.i64.wrap (n+1))]])) (br (bif !ba e.v then Q3 else !e.s==[]) (Tr.ok (zE.ret (kb Q4) [Qa [ai (IntKind.i64.wrap (n+1))]])) (Tr.ok (zE.head 12 (ag Tryz.f247 12) (Hw d e.l (↑e.l.length:Int) 0 (IntKind.i64.wrap (n+1)))))))):=kw
theorem ND(g:zf->Int->Int->Bool×Int)(c:zf->Int->Int->Bool)(i2:Int)(l73:LX)(i74:Int)(i75:Int)(ja0:Int):rh (O0 g c) 1 ziW Tryz.f247 12 (Hw i2 l73 i74 i75 ja0)=br (Q0 (i75<i74)) (Qc (zK i75 l73.length) (Qc (c (zn (l73.getD i75.toNat (zi Q5))) (IntKind.i64.wrap (i2+1)) ja0) (br (!(g (zn (l73.getD i75.toNat (zi Q5))) (IntKind.i64.wrap (i2+1)) ja0).1) (Tr.ok (zE.ret (kb Q4) [Qa [AV.int IntKind.i64 (g (zn (l73.getD i75.toNat (zi Q5))) (IntKind.i64.wrap (i2+1)) ja0).2]])) (Tr.ok (zE.head 12 (ag Tryz.f247 12) (Hw i2 l73 i74 (IntKind.i64.wrap (i75+1)) (g (zn (l73.getD i75.toNat (zi Q5))) (IntKind.i64.wrap (i2+1)) ja0).2)))))) (Tr.ok (zE.ret (kb Q3) [Qa [ai ja0]])):=kw
def oH(g:zf->Int->Int->Bool×Int)(d:Int):List zf->Int->Bool×Int
 |[],n=>(Q3,n)
 |x::r,n=>if(!(g x (IntKind.i64.wrap (d+1)) n).1)=Q3 then(Q4,(g x (IntKind.i64.wrap (d+1)) n).2)else oH g d r (g x (IntKind.i64.wrap (d+1)) n).2
def BX(g:zf->Int->Int->Bool×Int)(c:zf->Int->Int->Bool)(d:Int):List zf->Int->Bool
 |[],_=>Q3
 |x::r,n=>if c x (IntKind.i64.wrap (d+1)) n=Q3 then(if(!(g x (IntKind.i64.wrap (d+1)) n).1)=Q3 then Q3 else BX g c d r (g x (IntKind.i64.wrap (d+1)) n).2)else Q4
theorem zli{g:zf->Int->Int->Bool×Int}{c:zf->Int->Int->Bool}(hg:FK 247 (KF g c)){C:eV}(hC:∀id,1<=id->C.ρ0 id=Q2)(d:Int)(l:List zf)(hl:l.length<=aH):
  ∀(k i:Nat)(n:Int),l.length-i=k->i<=l.length->BX g c d (l.drop i) n=Q3->Reach (O0 g c) C 247 (ag Tryz.f247 12) (Hw d l l.length i n) (λr h=>avB r=Q1 (oH g d (l.drop i) n).1/\h=[.box [.int .i64 (oH g d (l.drop i) n).2]]):=by
 intro k
 induction k with
 | zero=>
  intro i n hk hi hc;obtain rfl:i=l.length:=by omega
  refine zF (Bd hg) (TC g c) hC (ND g c _ _ _ _ _) ?_;simp only[zA,Tr.val_brF,jw];exact⟨rfl,rfl⟩
 | succ k IH=>
  intro i n hk hi hc;have hlt:i<l.length:=by omega
  refine zF (Bd hg) (TC g c) hC (ND g c _ _ _ _ _) ?_;rw[eY hlt]at hc⊢;rw[BX]at hc;have hc1:=qk hc;simp only[zC hlt,zt hlt,cF l _ hlt,zf.eta,Tr.val_brT,Tr.val_chkT,hc1.1,zp i ow];refine ml (λh=>?_) (λh=>?_)
  ·rw[oH,if_pos h];exact⟨rfl,rfl⟩
  ·rw[oH,if_neg (mH h)];have h2:=hc1.2;rw[if_neg (mH h)]at h2;exact IH (i+1) _ ow ow h2
def yp(g:zf->Int->Int->Bool×Int)(e:zf)(d n:Int):Bool×Int:=if(bif Q0 (d>12)then Q3 else bif Q0 (IntKind.i64.wrap (n+1)>60)then Q3 else(↑e.l.length:Int)!=cO e.op)=Q3 then(Q4,IntKind.i64.wrap (n+1))else if(e.op==[108,105,116])=Q3 then(bif e.s==[]then aR e.v else Q4,IntKind.i64.wrap (n+1))else if(e.op==[99,111,108])=Q3 then(bif ba e.v then bif dU e.s then !jg e.s else Q4 else Q4,IntKind.i64.wrap (n+1))else if(bif !ba e.v then Q3 else !e.s==[])=Q3 then(Q4,IntKind.i64.wrap (n+1))else oH g d e.l (IntKind.i64.wrap (n+1))
def Nr(g:zf->Int->Int->Bool×Int)(c:zf->Int->Int->Bool)(e:zf)(d n:Int):Bool:=if(bif Q0 (d>12)then Q3 else bif Q0 (IntKind.i64.wrap (n+1)>60)then Q3 else(↑e.l.length:Int)!=cO e.op)=Q3 then Q3 else if(e.op==[108,105,116])=Q3 then Q3 else if(e.op==[99,111,108])=Q3 then Q3 else if(bif !ba e.v then Q3 else !e.s==[])=Q3 then Q3 else BX g c d e.l (IntKind.i64.wrap (n+1))
theorem zbg{g:zf->Int->Int->Bool×Int}{c:zf->Int->Int->Bool}(hg:FK 247 (KF g c)):FK 247 (KF (yp g) (Nr g c)):=by
 refine dv (E:=O0 g c) (TC g c) λx h0 res hx C hC=>?_
 unfold zb8 at hx;split at hx
 ·rename_i e d u n;simp only[Q8]at hx;split at hx
  ·rename_i hc;simp only[bD]at hx;subst hx;refine Reach.toBool ?_;refine zF (n0:=1) (Bd hg) (TC g c) hC (zmk g c e d n) ?_;generalize hy:yp g e d n=y;unfold yp at hy;unfold Nr at hc;repeat' (refine ml (λhsp=>?_) (λhsp=>?_)<;>first|(rw[if_pos hsp]at hy hc)|(rw[if_neg (mH hsp)]at hy hc))
   all_goals subst hy
   ·exact⟨rfl,rfl⟩
   ·exact⟨rfl,rfl⟩
   ·exact⟨rfl,rfl⟩
   ·exact⟨rfl,rfl⟩
   ·exact Reach.len 73 .expr e.l rfl λhl=>zli hg hC d e.l hl _ 0 _ rfl (be _) hc
  ·simp at hx
 ·simp at hx
mutual
def ii:Nat->zf->Int->Int->Bool×Int
 |0=>λ_ _ _=>(Q4,0)
 |n+1=>yp (ii n)
def ud:Nat->zf->Int->Int->Bool
 |0=>λ_ _ _=>Q4
 |n+1=>Nr (ii n) (ud n)
end
theorem QA:∀n,FK 247 (KF (ii n) (ud n))
 | 0=>by
  have h:FK 247 (bm [Q2,Q1 .expr,Q1 zg] (λ_ _=>.err)):=dv (TC (λ_ _ _=>(Q4,0)) (λ_ _ _=>Q4)) (E:=M3) λx h0 res hx=>by simp at hx
  refine yx (ι:=Unit) (Gs:=λ_ _ _=>.err) (λ_=>h) λx h0 res hx=>?_
  unfold zb8 at hx;split at hx
  ·simp[Q8,ud]at hx
  ·simp at hx
 |n+1=>zbg (QA n)
def F37:ac:=KF (ii 16) (ud 16)
theorem zgm:FK 247 F37:=QA 16
noncomputable def Es:=M3.add 247 F37
theorem vU:zy Es:=Er.add zgm
abbrev iQ:List (zD×AV):=[([97,110,100],.clo (.func 310) [] []),([111,114],.clo (.func 311) [] []),([110,111,116],.clo (.func 312) [] []),([61],.clo (.func 314) [] []),([60],.clo (.func 315) [] []),([43],.clo (.func 316) [] []),([45],.clo (.func 317) [] []),([110,117,108,108],.clo (.func 318) [] [])]
abbrev zm8:Nat->aO:=λ_=>{ }
theorem zjG:zL Es.P 283 Tryz.f283 0:=bS kw
theorem zmb:(run Es 0 zm8 (Func.results Tryz.f283).toList 400 (bx Tryz.f283) (bg (Func.ntmps Tryz.f283) [] [])).val=Q1 (zE.ret (AV.mp 0) [AO.fmap iQ]):=kw
def G23:il []:=λ_ h=>match h with
 |[]=>.ok (.mp 0,[.fmap iQ])
 |_=>.err
def F23:ac:=bm [] G23
theorem zgc:FK 283 F23:=by
 refine dv zjG λx h0 res hx C hC=>?_
 unfold G23 at hx;split at hx
 ·simp only[Q8,bD]at hx;subst hx;exact mT (n0:=0) vU zjG hC zmb rfl
 ·simp at hx
def opV(op:zD)(x y:V):V:=if(op==[97,110,100])=Q3 then DW x y else if(op==[111,114])=Q3 then Vb x y else if(op==[110,111,116])=Q3 then Ol x y else if(op==[61])=Q3 then mh x y else if(op==[60])=Q3 then rY x y else if(op==[43])=Q3 then rZ x y else if(op==[45])=Q3 then mi x y else if(op==[110,117,108,108])=Q3 then H0 x y else(0,0,[])
def opC(op:zD):Bool:=if(op==[97,110,100])=Q3 then Q3 else if(op==[111,114])=Q3 then Q3 else if(op==[110,111,116])=Q3 then Q3 else if(op==[61])=Q3 then Q3 else if(op==[60])=Q3 then Q3 else if(op==[43])=Q3 then Q3 else if(op==[45])=Q3 then Q3 else if(op==[110,117,108,108])=Q3 then Q3 else Q4
def opL(op:zD)(x y:V)(h:List AO):Option zE:=if(op==[97,110,100])=Q3 then Q1 (.ret (zH ze (DW x y)) h)else if(op==[111,114])=Q3 then Q1 (.ret (zH ze (Vb x y)) h)else if(op==[110,111,116])=Q3 then Q1 (.ret (zH ze (Ol x y)) h)else if(op==[61])=Q3 then Q1 (.ret (zH ze (mh x y)) h)else if(op==[60])=Q3 then Q1 (.ret (zH ze (rY x y)) h)else if(op==[43])=Q3 then Q1 (.ret (zH ze (rZ x y)) h)else if(op==[45])=Q3 then Q1 (.ret (zH ze (mi x y)) h)else if(op==[110,117,108,108])=Q3 then Q1 (.ret (zH ze (H0 x y)) h)else Q2
def zb7(g:List (Sem zj)->List (Sem ze)->zf->V)(c:List (Sem zj)->List (Sem ze)->zf->Bool):il [Q2,Q1 .expr]:=λx h=>match x,h with
 | (.agg [.sl (.pr .str (.pr (.int .i64) .bool)) cols,.sl (.pr (.int .i64) (.pr (.int .i64) .str)) row,.mp 0],e,_),[.fmap [(k1,.clo (.func 310) [] []),(k2,.clo (.func 311) [] []),(k3,.clo (.func 312) [] []),(k4,.clo (.func 314) [] []),(k5,.clo (.func 315) [] []),(k6,.clo (.func 316) [] []),(k7,.clo (.func 317) [] []),(k8,.clo (.func 318) [] [])]]=>
  .chk (k1==[97,110,100]&&(k2==[111,114]&&(k3==[110,111,116]&&(k4==[61]&&(k5==[60]&&(k6==[43]&&(k7==[45]&&(k8==[110,117,108,108])))))))) (.chk (c cols row e) (.ok (zH ze (g cols row e),[.fmap iQ])))
 |_,_=>.err
def Oq(g:List (Sem zj)->List (Sem ze)->zf->V)(c:List (Sem zj)->List (Sem ze)->zf->Bool):ac:=bm [Q2,Q1 .expr] (zb7 g c)
noncomputable def OY(g:List (Sem zj)->List (Sem ze)->zf->V)(c:List (Sem zj)->List (Sem ze)->zf->Bool):cd:=Es.add 284 (Oq g c)
theorem Bb{g:List (Sem zj)->List (Sem ze)->zf->V}{c:List (Sem zj)->List (Sem ze)->zf->Bool}(hg:FK 284 (Oq g c)):zy (OY g c):=vU.add hg
theorem Tz(g:List (Sem zj)->List (Sem ze)->zf->V)(c:List (Sem zj)->List (Sem ze)->zf->Bool):zL (OY g c).P 284 Tryz.f284 2:=bS kw
theorem zcO(g:List (Sem zj)->List (Sem ze)->zf->V)(c:List (Sem zj)->List (Sem ze)->zf->Bool)(cols:LC)(row:LV)(op:zD)(v:V)(s:zD):(run (OY g c) 1 unr (Func.results Tryz.f284).toList 600 (bx Tryz.f284) (bg (Func.ntmps Tryz.f284) [agg [sl zj cols,sl ze row,AV.mp 0],zH Q5 (.mk op v s [])] [AO.fmap iQ])).val=if(op==[108,105,116])=Q3 then Q1 (.ret (zH ze v) [.fmap iQ])else if(op==[99,111,108])=Q3 then(if(bif Q0 (ah cols s<0)then Q3 else Q0 (ah cols s>=(↑row.length:Int)))=Q3 then Q1 (.ret (zH ze (0,0,[])) [.fmap iQ])else if zK (ah cols s) row.length=Q3 then Q1 (.ret (zH ze (row.getD (toNat (ah cols s)) (zi ze))) [.fmap iQ])else Q2)else opL op (0,0,[]) (0,0,[]) [.fmap iQ]:=kw
theorem zcP(g:List (Sem zj)->List (Sem ze)->zf->V)(c:List (Sem zj)->List (Sem ze)->zf->Bool)(cols:LC)(row:LV)(op:zD)(v:V)(s:zD)(a:zf):(run (OY g c) 1 unr (Func.results Tryz.f284).toList 600 (bx Tryz.f284) (bg (Func.ntmps Tryz.f284) [agg [sl zj cols,sl ze row,AV.mp 0],zH Q5 (.mk op v s [a])] [AO.fmap iQ])).val=if(op==[108,105,116])=Q3 then Q1 (.ret (zH ze v) [.fmap iQ])else if(op==[99,111,108])=Q3 then(if(bif Q0 (ah cols s<0)then Q3 else Q0 (ah cols s>=(↑row.length:Int)))=Q3 then Q1 (.ret (zH ze (0,0,[])) [.fmap iQ])else if zK (ah cols s) row.length=Q3 then Q1 (.ret (zH ze (row.getD (toNat (ah cols s)) (zi ze))) [.fmap iQ])else Q2)else if c cols row (.mk a.op a.v a.s a.l)=Q3 then opL op (g cols row (.mk a.op a.v a.s a.l)) (0,0,[]) [.fmap iQ]else Q2:=kw
theorem zcQ(g:List (Sem zj)->List (Sem ze)->zf->V)(c:List (Sem zj)->List (Sem ze)->zf->Bool)(cols:LC)(row:LV)(op:zD)(v:V)(s:zD)(a b:zf):(run (OY g c) 1 unr (Func.results Tryz.f284).toList 600 (bx Tryz.f284) (bg (Func.ntmps Tryz.f284) [agg [sl zj cols,sl ze row,AV.mp 0],zH Q5 (.mk op v s [a,b])] [AO.fmap iQ])).val=if(op==[108,105,116])=Q3 then Q1 (.ret (zH ze v) [.fmap iQ])else if(op==[99,111,108])=Q3 then(if(bif Q0 (ah cols s<0)then Q3 else Q0 (ah cols s>=(↑row.length:Int)))=Q3 then Q1 (.ret (zH ze (0,0,[])) [.fmap iQ])else if zK (ah cols s) row.length=Q3 then Q1 (.ret (zH ze (row.getD (toNat (ah cols s)) (zi ze))) [.fmap iQ])else Q2)else if c cols row (.mk a.op a.v a.s a.l)=Q3 then(if c cols row (.mk b.op b.v b.s b.l)=Q3 then opL op (g cols row (.mk a.op a.v a.s a.l)) (g cols row (.mk b.op b.v b.s b.l)) [.fmap iQ]else Q2)else Q2:=kw
theorem pW{Φ:zE->Prop}{c:Bool}{a b:Option zE}(h1:c=Q3->gv Φ a)(h2:c=Q4->gv Φ b):gv Φ (if c=Q3 then a else b):=by
 cases c
 ·simpa using h2 rfl
 ·simpa using h1 rfl
theorem wV{E:cd}{C:eV}{k:FuncId}{f:Func}{Q:AV->List AO->Prop}{n n0:Nat}(hE:zy E)(hf:zL E.P k f n)(hC:∀id,n0<=id->C.ρ0 id=Q2){keep:Nat->aO}{fuel:Nat}
  {todo:List Item} {st:St} {o:Option zE} (ht:(run E n0 keep f.results.toList fuel todo st).val=o) (h:gv (jN E C k Q) o):Reach E C k todo st Q:=
 zF hE hf hC rfl (by rw[ht];exact h)
theorem wF{E:cd}{C:eV}{op:zD}{x y:V}{h:List AO}(hc:opC op=Q3):gv (jN E C 284 (λr h'=>(r,h')=(zH ze (opV op x y),h))) (opL op x y h):=by
 generalize hy:opV op x y=z;unfold opC at hc;unfold opV at hy;unfold opL;repeat' (refine pW (λhsp=>?_) (λhsp=>?_)<;>first|(rw[if_pos hsp]at hy;try rw[if_pos hsp]at hc)|(rw[if_neg (mH hsp)]at hy;try rw[if_neg (mH hsp)]at hc))
 all_goals first|(cases hc;done)|(subst hy;rfl)
def rA(g:List (Sem zj)->List (Sem ze)->zf->V)(cols:LC)(row:LV):zf->V
 | .mk op v s l=>if (op==[108,105,116])=Q3 then v else
  if(op==[99,111,108])=Q3 then(if(bif Q0 (ah cols s<0)then Q3 else Q0 (ah cols s>=(↑row.length:Int)))=Q3 then(0,0,[])else row.getD (toNat (ah cols s)) (zi ze))else
  match l with
  |[]=>opV op (0,0,[]) (0,0,[])
  |[a]=>opV op (g cols row a) (0,0,[])
  |[a,b]=>opV op (g cols row a) (g cols row b)
  |_=>(0,0,[])
def vC(c:List (Sem zj)->List (Sem ze)->zf->Bool)(cols:LC)(row:LV):zf->Bool
 |.mk _ _ _ (_::_::_::_)=>Q4
 | .mk op _ s l=>if (op==[108,105,116])=Q3 then Q3 else
  if(op==[99,111,108])=Q3 then(if(bif Q0 (ah cols s<0)then Q3 else Q0 (ah cols s>=(↑row.length:Int)))=Q3 then Q3 else zK (ah cols s) row.length)else
  match l with
  |[]=>opC op
  |[a]=>if c cols row a=Q3 then opC op else Q4
  |[a,b]=>if c cols row a=Q3 then(if c cols row b=Q3 then opC op else Q4)else Q4
  |_=>Q4
theorem zaW{g:List (Sem zj)->List (Sem ze)->zf->V}{c:List (Sem zj)->List (Sem ze)->zf->Bool}(hg:FK 284 (Oq g c)):FK 284 (Oq (rA g) (vC c)):=by
 refine dv (E:=OY g c) (Tz g c) λx h0 res hx C hC=>?_
 unfold zb7 at hx;split at hx
 ·rename_i cols row e u k1 k2 k3 k4 k5 k6 k7 k8;simp only[Q8]at hx;split at hx
  ·rename_i hk;split at hx
   ·rename_i hc;simp only[aC,bf]at hk;obtain⟨rfl,rfl,rfl,rfl,rfl,rfl,rfl,rfl⟩:=hk;simp only[bD]at hx;subst hx;obtain⟨op,v,s,l⟩:=e
    match l,hc with
    | [],hc=>
     refine wV (n0:=1) (Bb hg) (Tz g c) hC (zcO g c cols row op v s) ?_;generalize hy:rA g cols row (.mk op v s [])=z;rw[vC]at hc;rw[rA]at hy;repeat' (first|(subst hy;exact wF hc)|refine pW (λhsp=>?_) (λhsp=>?_)<;>first|(first|rw[if_pos hsp]at hy hc|rw[if_pos hsp]at hc|rw[if_pos hsp]at hy)|(first|rw[if_neg (mH hsp)]at hy hc|rw[if_neg (mH hsp)]at hc|rw[if_neg (mH hsp)]at hy)|skip)
     all_goals first|(subst hy;exact wF hc)|(subst hy;rfl)|(rw[hc]at hsp;cases hsp)
    | [a],hc=>
     refine wV (n0:=1) (Bb hg) (Tz g c) hC (zcP g c cols row op v s a) ?_;generalize hy:rA g cols row (.mk op v s [a])=z;rw[vC]at hc;rw[rA]at hy;simp only[zf.eta];repeat' (first|(subst hy;exact wF hc)|refine pW (λhsp=>?_) (λhsp=>?_)<;>first|(first|rw[if_pos hsp]at hy hc|rw[if_pos hsp]at hc|rw[if_pos hsp]at hy)|(first|rw[if_neg (mH hsp)]at hy hc|rw[if_neg (mH hsp)]at hc|rw[if_neg (mH hsp)]at hy)|skip)
     all_goals first|(subst hy;exact wF hc)|(subst hy;rfl)|(cases hc;done)|(rw[hc]at hsp;cases hsp)
    | [a,b],hc=>
     refine wV (n0:=1) (Bb hg) (Tz g c) hC (zcQ g c cols row op v s a b) ?_;generalize hy:rA g cols row (.mk op v s [a,b])=z;rw[vC]at hc;rw[rA]at hy;simp only[zf.eta];repeat' (first|(subst hy;exact wF hc)|refine pW (λhsp=>?_) (λhsp=>?_)<;>first|(first|rw[if_pos hsp]at hy hc|rw[if_pos hsp]at hc|rw[if_pos hsp]at hy)|(first|rw[if_neg (mH hsp)]at hy hc|rw[if_neg (mH hsp)]at hc|rw[if_neg (mH hsp)]at hy)|skip)
     all_goals first|(subst hy;exact wF hc)|(subst hy;rfl)|(cases hc;done)|(rw[hc]at hsp;cases hsp)
    | _::_::_::_,hc=>
     cases hc
   ·simp at hx
  ·simp at hx
 ·simp at hx
mutual
def dp:Nat->List (Sem zj)->List (Sem ze)->zf->V
 |0=>λ_ _ _=>(0,0,[])
 |n+1=>rA (dp n)
def vB:Nat->List (Sem zj)->List (Sem ze)->zf->Bool
 |0=>λ_ _ _=>Q4
 |n+1=>vC (vB n)
end
theorem Qy:∀n,FK 284 (Oq (dp n) (vB n))
 | 0=>by
  have h:FK 284 (bm [Q2,Q1 .expr] (λ_ _=>.err)):=dv (Tz (λ_ _ _=>(0,0,[])) (λ_ _ _=>Q4)) (E:=Es) λx h0 res hx=>by simp at hx
  refine yx (ι:=Unit) (Gs:=λ_ _ _=>.err) (λ_=>h) λx h0 res hx=>?_
  unfold zb7 at hx;split at hx
  ·simp[Q8,vB]at hx
  ·simp at hx
 |n+1=>zaW (Qy n)
def F24:ac:=Oq (dp 16) (vB 16)
theorem zgd:FK 284 F24:=Qy 16
noncomputable def Et:=Es.addL [(283,F23),(284,F24)]
theorem vV:zy Et:=vU.addL<|fc zgc<|fc zgd iM
abbrev zm7:Nat->aO:=λ_=>{ }
theorem zjF:zL (Et).P 200 Tryz.f200 1:=bS kw
theorem zma(x0:Sem Q5):rn Et 0 zm7 Tryz.f200 [zH Q5 x0] []=Qc (ud 16 (zn x0) 1 0) (Tr.ok (zE.ret (AV.bool (ii 16 (zn x0) 1 0).1) [])):=kw
def de(x0:Sem Q5):Sem Q7:=(ii 16 x0 1 0).1
def xB(x0:Sem Q5):Bool:=if ud 16 x0 1 0=Q3 then Q3 else Q4
def F22:ac:=zV [Q5] [Q7] (λx=>xB x.1) λx=>(de x.1,())
theorem YT:FK 200 F22:=by
 refine aM (zjF) λx hc C hC=>?_
 unfold xB at hc;refine zF vV (zjF) (λid _=>hC id) (zma x.1) ?_;generalize hy:de x.1=y;unfold de at hy
 try simp only[zf.eta]
 repeat' (first|with_reducible refine uh hy hc (λ_ hy hc=>?_) (λ_ hy hc=>?_)|with_reducible refine di hy (λ_ hy=>?_) (λ_ hy=>?_)|with_reducible refine iB hc (λhc=>?_)|with_reducible refine zN ?_)
 all_goals(subst hy;first|rfl)
abbrev kp7:Nat->aO:=λ_=>{ }
theorem ok7:zL (Et).P 41 Tryz.f41 1:=bS kw
theorem go7(x0:Sem Q5):rn Et 0 kp7 Tryz.f41 [zH Q5 x0] []=Qc (I5 16 (zn x0) 14 80) (Tr.ok (zE.ret (agg [str (zf.op (ru 16 (zn x0) 14 80).1),ai (zf.v (ru 16 (zn x0) 14 80).1).1,ai (zf.v (ru 16 (zn x0) 14 80).1).2.1,str (zf.v (ru 16 (zn x0) 14 80).1).2.2,str (zf.s (ru 16 (zn x0) 14 80).1),sl Q5 (zf.l (ru 16 (zn x0) 14 80).1)]) [])):=kw
def gP(x0:Sem Q5):Sem Q5:=zf.mk (zf.op (ru 16 x0 14 80).1) (zf.v (ru 16 x0 14 80).1) (zf.s (ru 16 x0 14 80).1) (zf.l (ru 16 x0 14 80).1)
def M1(x0:Sem Q5):Bool:=if I5 16 x0 14 80=Q3 then Q3 else Q4
def F7:ac:=zV [Q5] [Q5] (λx=>M1 x.1) λx=>(gP x.1,())
theorem zgR:FK 41 F7:=by
 refine aM (ok7) λx hc C hC=>?_
 unfold M1 at hc;refine zF vV (ok7) (λid _=>hC id) (go7 x.1) ?_;generalize hy:gP x.1=y;unfold gP at hy
 try simp only[zf.eta]
 repeat' (first|with_reducible refine uh hy hc (λ_ hy hc=>?_) (λ_ hy hc=>?_)|with_reducible refine di hy (λ_ hy=>?_) (λ_ hy=>?_)|with_reducible refine iB hc (λhc=>?_)|with_reducible refine zN ?_)
 all_goals(subst hy;first|rfl)
noncomputable def Eu:=Et.addL [(200,F22),(41,F7)]
theorem vW:zy Eu:=vV.addL<|fc YT<|fc zgR iM
abbrev zm9:Nat->aO:=λ_=>{ }
theorem zjJ:zL (Eu).P 151 Tryz.f151 2:=bS kw
theorem zmf(x0:Sem Q5)(x1:Sem zj.sl):rn Eu 0 zm9 Tryz.f151 [zH Q5 x0,zH zj.sl x1] []=Qc (xB (zn x0)) (br (!de (zn x0)) (Tr.ok (zE.ret (tup [ai 0,ai 1]) [])) (Qc (bh 16 (zn x0) x1) (Tr.ok (zE.ret (tup [ai (zP 16 (zn x0) x1).1,ai (zP 16 (zn x0) x1).2]) [])))):=kw
def bK(x0:Sem Q5)(x1:Sem zj.sl):Sem zg×Sem zg:=if(!de x0)=Q3 then(0,1)else((zP 16 x0 x1).1,(zP 16 x0 x1).2)
def F8(x0:Sem Q5)(x1:Sem zj.sl):Bool:=if xB x0=Q3 then if(!de x0)=Q3 then Q3 else if bh 16 x0 x1=Q3 then Q3 else Q4 else Q4
def F30:ac:=zV [Q5,zj.sl] [zg,zg] (λx=>F8 x.1 x.2.1) λx=>((bK x.1 x.2.1).1,(bK x.1 x.2.1).2,())
theorem YU:FK 151 F30:=by
 refine aM (zjJ) λx hc C hC=>?_
 unfold F8 at hc;refine zF vW (zjJ) (λid _=>hC id) (zmf x.1 x.2.1) ?_;generalize hy:bK x.1 x.2.1=y;unfold bK at hy
 try simp only[zf.eta]
 repeat' (first|with_reducible refine uh hy hc (λ_ hy hc=>?_) (λ_ hy hc=>?_)|with_reducible refine di hy (λ_ hy=>?_) (λ_ hy=>?_)|with_reducible refine iB hc (λhc=>?_)|with_reducible refine zN ?_)
 all_goals(subst hy;first|rfl)
abbrev zm6:Nat->aO:=λ_=>{ }
theorem zjz:zL (Eu).P 244 Tryz.f244 3:=bS kw
theorem zl4(x0:Sem Q5)(x1:Sem zj.sl)(x2:Sem ze.sl):rn Eu 0 zm6 Tryz.f244 [zH Q5 x0,zH zj.sl x1,zH ze.sl x2] []=Qc (xB (zn x0)) (br (!de (zn x0)) (Tr.ok (zE.ret (agg [ai 0,ai 0,str []]) [])) (Qc ([97,110,100]==[97,110,100]&&([111,114]==[111,114]&&([110,111,116]==[110,111,116]&&([61]==[61]&&([60]==[60]&&([43]==[43]&&([45]==[45]&&[110,117,108,108]==[110,117,108,108]))))))) (Qc (vB 16 x1 x2 (zn x0)) (Tr.ok (zE.ret (agg [ai (dp 16 x1 x2 (zn x0)).1,ai (dp 16 x1 x2 (zn x0)).2.1,str (dp 16 x1 x2 (zn x0)).2.2]) []))))):=kw
def jY(x0:Sem Q5)(x1:Sem zj.sl)(x2:Sem ze.sl):Sem ze:=if(!de x0)=Q3 then(0,0,[])else dp 16 x1 x2 x0
def F5(x0:Sem Q5)(x1:Sem zj.sl)(x2:Sem ze.sl):Bool:=if xB x0=Q3 then if(!de x0)=Q3 then Q3 else if([97,110,100]==[97,110,100]&&([111,114]==[111,114]&&([110,111,116]==[110,111,116]&&([61]==[61]&&([60]==[60]&&([43]==[43]&&([45]==[45]&&[110,117,108,108]==[110,117,108,108])))))))=Q3 then if vB 16 x1 x2 x0=Q3 then Q3 else Q4 else Q4 else Q4
def F11:ac:=zV [Q5,zj.sl,ze.sl] [ze] (λx=>F5 x.1 x.2.1 x.2.2.1) λx=>(jY x.1 x.2.1 x.2.2.1,())
theorem YQ:FK 244 F11:=by
 refine aM (zjz) λx hc C hC=>?_
 unfold F5 at hc;refine zF vW (zjz) (λid _=>hC id) (zl4 x.1 x.2.1 x.2.2.1) ?_;generalize hy:jY x.1 x.2.1 x.2.2.1=y;unfold jY at hy
 try simp only[zf.eta]
 repeat' (first|with_reducible refine uh hy hc (λ_ hy hc=>?_) (λ_ hy hc=>?_)|with_reducible refine di hy (λ_ hy=>?_) (λ_ hy=>?_)|with_reducible refine iB hc (λhc=>?_)|with_reducible refine zN ?_)
 all_goals(subst hy;first|rfl)
noncomputable def Y3:=Eu.addL [(151,F30),(244,F11)]
theorem O6:zy Y3:=vW.addL<|fc YU<|fc YQ iM
theorem lw(d:Int)(h1:-1000<=d)(h2:d<=1000):IntKind.i64.wrap d=d:=by
 rw[fX];omega
theorem Gr{P:Nat->zf->zf->Prop}(hP:∀N e(o t s:zD)(l:List zf),(∀y∈l,∃x∈zf.l e,P N x y)->l.length<=3->t.length<=45->s.length<=20->P (N+1) e (.mk o ((zf.v e).1,(zf.v e).2.1,t) s l)):
  ∀(N:Nat)(e:zf)(d n:Int),0<=d->d<N->N<=100->∃r m,oF N e d n=Q1 (r,m,())/\P N e r
 |0,_,_,_,h1,h2,_=>by omega
 | N + 1,e,d,n,h1,h2,h3=>by
  have IH:∀x m,0<d->∃r k,oF N x (IntKind.i64.wrap (d-1)) m=Q1 (r,k,())/\P N x r:=λx m hd=>by
   rw[lw _ ow ow];exact Gr hP N x (d-1) m ow ow ow
  generalize hg:(λx0 x1 x2=>IG (oF N x0 x1 x2))=g;generalize hc:(λx0 x1 x2=>(oF N x0 x1 x2).isSome)=c
  have key:∀(k i:Nat)(n:Int)(acc:List zf)(z1:zm oE)(o t s:zD),i+k=3->acc.length=i->(∀y∈acc,∃x∈zf.l e,P N x y)->
    ∃m r n',zU (vj g c) m (.h10 d n (i:Int) (e,()) z1 (o,(zf.v e).1,(zf.v e).2.1,t,s,acc,())) (.tup [.agg [.str o,.int .i64 (zf.v e).1,.int .i64 (zf.v e).2.1,.str t,.str s,.vec 0],.int .i64 n'],[.vec .expr r])/\m<=k+1/\(∀y∈r,∃x∈zf.l e,P N x y)/\r.length<=3:=by
   intro k
   induction k with
   | zero=>
    intro i n acc z1 o t s hi ha hq;refine⟨1,acc,n,zU.of ?_,ow,hq,ow⟩;have h3:Q0 ((i:Int)<3)=Q4:=by simp;omega
    simp only[vj,Q8,h3,ar,Bool.cond_self,zB,if_false]
   | succ k ih=>
    intro i n acc z1 o t s hi ha hq;by_cases hb:(bif Q0 ((i:Int)<(↑(zf.l e).length:Int))then bif Q0 ((i:Int)<3)then bif Q0 (d>0)then Q0 (n>0)else Q4 else Q4 else Q4)=Q3
    ·have hl:i<(zf.l e).length/\0<d:=by
      cases h1:Q0 ((i:Int)<(↑(zf.l e).length:Int))<;>cases h2:Q0 ((i:Int)<3)<;>cases h3:Q0 (d>0)<;>simp_all
     obtain⟨r,m,e1,e2⟩:=IH (zf.l e)[i] n hl.2;have gx:g (zf.l e)[i] (IntKind.i64.wrap (d-1)) n=(r,m):=by rw[<-hg];simp only[e1];rfl
     have cx:c (zf.l e)[i] (IntKind.i64.wrap (d-1)) n=Q3:=by rw[<-hc];simp only[e1];rfl
     obtain⟨m2,r2,n2,k1,k2,k3,k4⟩:=ih (i+1) m (acc++[r]) z1 o t s ow sg (λy hy=>by
      rcases cR.1 hy with hy|hy
      ·exact hq y hy
      ·rw[gw]at hy;exact⟨_,bd hl.1,hy▸e2⟩)
     refine⟨m2+1,r2,n2,(zQ.of ?_).ends k1,?_,k3,k4⟩
     ·have hn:(acc.length+[zn r].length<=1073741824):=by simp;omega
      have hin:zK (i:Int) (zf.l e).length=Q3:=by simp[zK,hl.1]
      have hgd:getD (zf.l e) (toNat (i:Int)) (zi Q5)=(zf.l e)[i]:=by rw[aG,bc,zS hl.1,dw]
      simp only[vj,Q8,hb,hin,hgd,zk,gx,cx,if_true];rw[zk]at hn;rw[if_pos (zx hn),zp i um]
     ·omega
    ·refine⟨1,acc,n,zU.of ?_,ow,hq,ow⟩;simp only[vj,Q8];rw[if_neg hb]
  have h8:∀(z1:zm oE)(o t s:zD),t.length<=45->s.length<=20->∃r m R,zU (vj g c) 101 (.h500008 d (IntKind.i64.wrap (n-1)) (e,()) z1 (o,(zf.v e).1,(zf.v e).2.1,t,s,())) R/\aL R.2 [Q5,zg] R.1=Q1 (r,m,())/\P (N+1) e r:=λz1 o t s ht hs=>by
   obtain⟨m,r,n',k1,k2,k3,k4⟩:=key 3 0 (IntKind.i64.wrap (n-1)) [] z1 o t s rfl rfl sw;exact⟨.mk o ((zf.v e).1,(zf.v e).2.1,t) s r,n',_,((zQ.of rfl).ends k1).mono ow,rfl,hP N e o t s r k3 k4 ht hs⟩
  have h6:∀(z1:zm oE)(o s:zD),s.length<=20->∃r m R,zU (vj g c) 102 (.h500006 d n (Q0 ((↑(length (zf.v e).2.2):Int)>45)) (e,()) z1 (o,(zf.v e).1,(zf.v e).2.1,(zf.v e).2.2,s,())) R/\aL R.2 [Q5,zg] R.1=Q1 (r,m,())/\P (N+1) e r:=λz1 o s hs=>by
   by_cases hb:(length (zf.v e).2.2:Int)>45
   ·obtain⟨r,m,R,e1,e2,e3⟩:=h8 z1 o (Qg (toNat 45-toNat 0) (Qh (toNat 0) (zf.v e).2.2)) s sg hs;refine⟨r,m,R,(zQ.of ?_).ends e1,e2,e3⟩;have h45:Q0 ((45:Int)<=(length (zf.v e).2.2:Int))=Q3:=by simp;omega
    simp only[vj,Q8,zx hb,h45,if_true];rfl
   ·obtain⟨r,m,R,e1,e2,e3⟩:=h8 z1 o (zf.v e).2.2 s ow hs;refine⟨r,m,R,(zQ.of ?_).ends e1,e2,e3⟩;simp only[vj,Q8,aj hb,zB,if_false]
  have h4:∀(z1:zm oE)(o:zD),∃r m R,zU (vj g c) 103 (.h500004 d n (Q0 ((↑(length (zf.s e)):Int)>20)) (e,()) z1 (o,(zf.v e).1,(zf.v e).2.1,(zf.v e).2.2,zf.s e,())) R/\aL R.2 [Q5,zg] R.1=Q1 (r,m,())/\P (N+1) e r:=λz1 o=>by
   by_cases hb:(length (zf.s e):Int)>20
   ·obtain⟨r,m,R,e1,e2,e3⟩:=h6 z1 o (Qg (toNat 20-toNat 0) (Qh (toNat 0) (zf.s e))) sg;refine⟨r,m,R,(zQ.of ?_).ends e1,e2,e3⟩;have h20:Q0 ((20:Int)<=(length (zf.s e):Int))=Q3:=by simp;omega
    simp only[vj,Q8,zx hb,h20,if_true];rfl
   ·obtain⟨r,m,R,e1,e2,e3⟩:=h6 z1 o (zf.s e) ow;refine⟨r,m,R,(zQ.of ?_).ends e1,e2,e3⟩;simp only[vj,Q8,aj hb,zB,if_false]
  have e0:oF (N+1) e d n=zhG g c e d n:=by rw[<-hg,<-hc];rfl
  rw[e0];by_cases hb:(length (zf.op e):Int)>8
  ·obtain⟨r,m,R,e1,e2,e3⟩:=h4 ([],0,0,[],[],()) (Qg (toNat 8-toNat 0) (Qh (toNat 0) (zf.op e)));refine⟨r,m,zw ?_ e1 ow e2,e3⟩;have h8:Q0 ((8:Int)<=(length (zf.op e):Int))=Q3:=by simp;omega
   simp only[SC,Q8,zx hb,h8,if_true];rfl
  ·obtain⟨r,m,R,e1,e2,e3⟩:=h4 ([],0,0,[],[],()) (zf.op e);refine⟨r,m,zw ?_ e1 ow e2,e3⟩;simp only[SC,Q8,aj hb,zB,if_false]
theorem Li(N:Nat)(e:zf)(d n:Int)(h1:0<=d)(h2:d<N)(h3:N<=100):I5 N e d n=Q3:=by
 obtain⟨r,m,h,_⟩:=Gr (P:=λ_ _ _=>True) (λ_ _ _ _ _ _ _ _ _ _=>trivial) N e d n h1 h2 h3;unfold I5;rw[h];rfl
theorem BY{g:zf->Int->Int->Bool×Int}{c:zf->Int->Int->Bool}{d:Int}(h:∀x n,c x (IntKind.i64.wrap (d+1)) n=Q3):∀(l:List zf)(n:Int),BX g c d l n=Q3
 |[],_=>rfl
 | x::r,n=>by
  rw[BX,if_pos (h x n)];split
  ·rfl
  ·exact BY h r _
theorem BW:∀(N:Nat)(e:zf)(d n:Int),0<=d->d<=13->14<=d+N->ud N e d n=Q3
 |0,_,_,_,_,_,_=>by omega
 | N+1,e,d,n,h1,h2,h3=>by
  rw[ud];unfold Nr;by_cases hd:d>12
  ·simp[hd]
  ·have hl:BX (ii N) (ud N) d e.l (IntKind.i64.wrap (n+1))=Q3:=BY (λx m=>by
    rw[lw _ ow ow];exact BW N x (d+1) m ow ow ow) _ _
   repeat' split
   all_goals first|rfl|exact hl
abbrev wD:zf:=.mk [] (0,0,[]) [] []
theorem Mo(N:Nat)(e:zf):jj (N+1) e wD=Q3:=by
 rw[jj];unfold Hz;have hl:xE (fw N) (jj N) e.l []=Q3:=by
  unfold xE;split
  ·rfl
  ·cases e.l<;>rfl
 show(bif e.op==[]then bif U8 e.v (0,0,[])then bif e.s==[]then xE (fw N) (jj N) e.l []else Q3 else Q3 else Q3)=Q3;rw[hl];cases e.op==[]<;>cases U8 e.v (0,0,[])<;>cases e.s==[]<;>rfl
theorem fL{α:Type}(p:α->Bool):∀(l:List α)(i:Nat),zW p l i=-1\/((i:Int)<=zW p l i/\zW p l i<i+l.length)
 |[],_=>.inl rfl
 | x::r,i=>by
  unfold zW;split
  ·exact .inr ⟨ow,sg⟩
  ·rcases fL p r (i+1)with h|⟨h1,h2⟩
   ·exact .inl h
   ·exact .inr ⟨ow,sg⟩
theorem F2(l:List (Sem zj))(s:zD):ah l s=-1\/(0<=ah l s/\ah l s<l.length):=by
 have:=fL (λc:Sem zj=>c.1==s) l 0;unfold ah;simpa using this
theorem lP(op:zD):(cO op=0/\(op=[108,105,116]\/op=[99,111,108]))\/(cO op=1/\(op=[110,111,116]\/op=[110,117,108,108]))\/
  (cO op=2/\(op=[97,110,100]\/op=[111,114]\/op=[61]\/op=[60]\/op=[43]\/op=[45]))\/cO op=-1:=by
 unfold cO xR;simp only[Ob];repeat' split
 all_goals simp_all
theorem wC{g:zf->Int->Int->Bool×Int}{e:zf}{d n:Int}(h:(yp g e d n).1=Q3):(e.l.length:Int)=cO e.op/\
  ((e.op=[108,105,116]\/e.op=[99,111,108])\/(oH g d e.l (IntKind.i64.wrap (n+1))).1=Q3):=by
 unfold yp at h;split at h
 ·cases h
 ·rename_i h1;have hl:(e.l.length:Int)=cO e.op:=by
   cases h2:Q0 (d>12)<;>cases h3:Q0 (IntKind.i64.wrap (n+1)>60)<;>simp_all
  refine⟨hl,?_⟩;split at h
  ·rename_i h2;exact .inl (.inl (by simpa using h2))
  ·split at h
   ·rename_i h2;exact .inl (.inr (by simpa using h2))
   ·split at h
    ·cases h
    ·exact .inr h
theorem ue{g:zf->Int->Int->Bool×Int}{d:Int}:∀(l:List zf)(n:Int),(oH g d l n).1=Q3->∀x∈l,∃m,(g x (IntKind.i64.wrap (d+1)) m).1=Q3
 |[],_,_,_,hx=>by simp at hx
 | y::r,n,h,x,hx=>by
  rw[oH]at h;split at h
  ·cases h
  ·rename_i hy;rcases cu.1 hx with rfl|hx
   ·exact⟨n,by simpa using hy⟩
   ·exact ue r _ h x hx
theorem yf{g:zf->List (Sem zj)->Int×Int}{c:zf->List (Sem zj)->Bool}{cols:List (Sem zj)}{op:zD}{a1 a2:Int}{a3 a4:zD}{w:List zf}:
    ∀(l:List zf)(i:Int)(acc:List Int),(∀x∈l,c x cols=Q3)->((acc.length:Int)+l.length)=cO op->fS g c cols op a1 a2 a3 a4 w l i acc=Q3
  | [], i,acc,_,hp=>by
    have hp:(acc.length:Int)=cO op:=by simpa using hp
    have hcp:Q0 (ah cols a4<0)=Q3\/zK (ah cols a4) cols.length=Q3:=by
      rcases F2 cols a4 with h|⟨h1,h2⟩
      · exact .inl (by rw[h];rfl)
      · exact .inr (by simp[zK,h1,h2])
    have h2:op=[61]\/op=[60]->acc.length=2:=by
      rintro(rfl|rfl)
      · have:cO [61]=2:=by decide
        omega
      · have:cO [60]=2:=by decide
        omega
    unfold fS;repeat' split
    all_goals first
      |rfl
      |(exfalso;rcases hcp with h|h<;>simp_all;done)
      | (exfalso
         rename_i h7 h8;have h9:=h2 (by simp_all);rw[h9]at h8;exact h8 (by cases hA:(acc.getD (toNat 0) (zi zg)==acc.getD (toNat 1) (zi zg))<;>cases hB:(acc.getD (toNat 0) (zi zg)==0)<;>rfl))
  | x :: r,i,acc,hc,hp=>by
    have hle:cO op<=2:=by rcases lP op with h|h|h|h<;>omega
    rw[fS,if_pos (hc x sw)];split
    · rfl
    · rw[if_pos (by simp at hp⊢;omega)]
      exact yf r (i+1) _ (λy hy=>hc y (by simp[hy])) (by simp at hp⊢;omega)
theorem vq:∀(N:Nat)(e:zf)(d n:Int)(cols:List (Sem zj)),(ii N e d n).1=Q3->bh N e cols=Q3
 |0,_,_,_,_,h=>by cases h
 | N+1,e,d,n,cols,h=>by
  rw[ii]at h;obtain⟨hl,h2⟩:=wC h;rw[bh];unfold AC;refine yf e.l 0 [] (λx hx=>?_) (by simpa using hl);rcases h2 with h2|h2
  ·exfalso;have:cO e.op=0:=by
    rcases h2 with h2|h2<;>rw[h2]<;>decide
   rw[this]at hl;have:e.l=[]:=yk ow;rw[this]at hx;simp at hx
  ·obtain⟨m,hm⟩:=ue e.l _ h2 x hx;exact vq N x _ _ cols hm
theorem Ds:∀(N:Nat)(e:zf)(d n:Int)(cols:List (Sem zj))(row:List (Sem ze)),(ii N e d n).1=Q3->vB N cols row e=Q3
 |0,_,_,_,_,_,h=>by cases h
 | N + 1,.mk op v s l,d,n,cols,row,h=>by
  rw[ii]at h;obtain⟨hl,h2⟩:=wC h;have hl:(l.length:Int)=cO op:=hl;have h2:(op=[108,105,116]\/op=[99,111,108])\/(oH (ii N) d l (IntKind.i64.wrap (n+1))).1=Q3:=h2;have hx:∀x∈l,(¬(op=[108,105,116]\/op=[99,111,108]))->vB N cols row x=Q3:=by
   intro x hx hno;rcases h2 with h2|h2
   ·exact(hno h2).elim
   ·obtain⟨m,hm⟩:=ue l _ h2 x hx;exact Ds N x _ _ cols row hm
  have hcol:(if(bif Q0 (ah cols s<0)then Q3 else Q0 (ah cols s>=(↑row.length:Int)))=Q3 then Q3 else zK (ah cols s) row.length)=Q3:=by
   split
   ·rfl
   ·rename_i hh;have h1:0<=ah cols s/\ah cols s<row.length:=by
     cases hq:Q0 (ah cols s<0)
     ·rw[hq]at hh;simp at hq hh;exact⟨hq,hh⟩
     ·rw[hq]at hh;simp at hh
    simp[zK,h1.1,h1.2]
  rw[vB];rcases lP op with⟨hp,ho⟩|⟨hp,ho⟩|⟨hp,ho⟩|hp
  ·have:l=[]:=yk ow;subst this;rcases ho with rfl|rfl
   ·rfl
   ·rw[vC];exact hcol
  ·match l,hl,hx with
   | [a],_,hx=>
    rcases ho with rfl|rfl
    ·rw[vC];exact(if_pos (hx a sw (by decide))).trans rfl
    ·rw[vC];exact(if_pos (hx a sw (by decide))).trans rfl
   |[],hl,_=>simp at hl;omega
   |_::_::_,hl,_=>simp at hl;omega
  ·match l,hl,hx with
   | [a,b],_,hx=>
    rcases ho with rfl|rfl|rfl|rfl|rfl|rfl<;>
     (rw[vC];exact(if_pos (hx a sw (by decide))).trans ((if_pos (hx b sw (by decide))).trans rfl))
   |[],hl,_=>simp at hl;omega
   |[_],hl,_=>simp at hl;omega
   |_::_::_::_,hl,_=>simp at hl;omega
  ·omega
theorem sr(e:zf):xB e=Q3:=by
 unfold xB;rw[if_pos (BW 16 e 1 0 ow ow ow)]
theorem KZ(e:zf):M1 e=Q3:=by
 unfold M1;rw[if_pos (Li 16 e 14 80 ow ow ow)]
theorem II(e:zf)(cols:List (Sem zj)):F8 e cols=Q3:=by
 unfold F8;rw[if_pos (sr e)];split
 ·rfl
 ·rename_i h;rw[if_pos (vq 16 e 1 0 cols (by simpa[de]using h))]
theorem IF(e:zf)(cols:List (Sem zj))(row:List (Sem ze)):F5 e cols row=Q3:=by
 unfold F5;rw[if_pos (sr e)];split
 ·rfl
 ·rename_i h;rw[if_pos (by decide),if_pos (Ds 16 e 1 0 cols row (by simpa[de]using h))]
def ze1:ac:=aF [Q5] [Q7] λx=>(de x.1,())
theorem zaT:FK 200 ze1:=nc YT λx=>sr x.1
def F7t:ac:=aF [Q5] [Q5] λx=>(gP x.1,())
theorem zgZ:FK 41 F7t:=nc zgR λx=>KZ x.1
def zfc:ac:=aF [Q5,zj.sl] [zg,zg] λx=>((bK x.1 x.2.1).1,(bK x.1 x.2.1).2,())
theorem za6:FK 151 zfc:=nc YU λx=>II x.1 x.2.1
def zez:ac:=aF [Q5,zj.sl,ze.sl] [ze] λx=>(jY x.1 x.2.1 x.2.2.1,())
theorem zar:FK 244 zez:=nc YQ λx=>IF x.1 x.2.1 x.2.2.1
noncomputable def Y4:=Y3.addL [(200,ze1),(41,F7t),(151,zfc),(244,zez)]
theorem vX:zy Y4:=O6.addL<|fc zaT<|fc zgZ<|fc za6<|fc zar iM
noncomputable section
set_option maxHeartbeats 4000000
abbrev tD:List CP:=[.d zo]
abbrev Ww:List CP:=[.d .str,.nil,.d zg,.nil,.nil,.d .str,.d zg,.d zg,.d .str,.d .str,.nil]
abbrev zht:List CP:=[.d .str,.d (.sl zj),.d zg,.vec zg,.nil,.d .expr]
abbrev zhu:List CP:=[.d .str,.d (.sl zj),.d zg,.vec zg,.vec zu,.d .expr]
def Su(x0:Sem Q5)(x1:Sem zj.sl):Tr (Empty⊕aw):=Qc (jj 16 (zn x0) (zf.mk [] (0,0,[]) [] [])) (br (fw 16 (zn x0) (zf.mk [] (0,0,[]) [] [])) (re (ai 0) []) (br (bif (bK (zn x0) x1).2==0 then bif (bK (zn x0) x1).1!=3 then(bK (zn x0) x1).1!=0 else Q4 else Q4) (re (ai 5) []) (re (ai (bK (zn x0) x1).2) [])))
def Kk(x0:Sem Q5)(x1:Sem zj.sl):=al [zg] t0 100000000 (Su x0 x1)
def YG:=FT [Q5,zj.sl] [zg] λx=>Kk x.1 x.2.1
theorem MJ:FK 170 YG:=vX.T1 (f:=Tryz.f170) (keep:=k0) (e:=e0)
abbrev zjg:Nat->aO:=λj=>if j=3 then{slots:=[1,2,3,4],prom:=[(3,Q1 3,zg)]}else if j=7 then{slots:=[1,2,3,5],prom:=[(3,Q1 4,zu)]}else{ }
inductive If where
 |h3 (i4:Int) (z0:zm tD) (z1:zm Ww) (z2:zm zht)
 |h7 (i5:Int) (z0:zm tD) (z1:zm Ww) (z2:zm zhu)
abbrev zlQ:If->Nat×St
 |.h3 i4 z0 z1 z2=>(3,⟨tm 70 [(1,ptr 0 0),(2,ptr 1 0),(3,ptr 2 0),(4,ai i4)],[Qa (bv [] tD z0),Qa (bv [] Ww z1),Qa (bv [3] zht z2),AO.vec zg z2.2.2.2.1]⟩)
 |.h7 i5 z0 z1 z2=>(7,⟨tm 70 [(1,ptr 0 0),(2,ptr 1 0),(3,ptr 2 0),(5,ai i5)],[Qa (bv [] tD z0),Qa (bv [] Ww z1),Qa (bv [3,4] zhu z2),AO.vec zg z2.2.2.2.1,AO.vec zu z2.t.1]⟩)
def zc7(x0:Sem zo):Tr (If⊕aw):=Q9 (If.h3 0 (x0,()) ([],0,[],0,0,[],[],()) (ji x0.1,jD x0.2.1,x0.2.2.1,[],gP (zn x0.t.2),()))
def HR:If->Tr (If⊕aw)
 | .h3 i4 z0 z1 z2=>
  let a0:=(↑(length z0.1.2.2.2.1):Int)
  let a1:=[getD z0.1.2.2.2.1 i4.toNat (zi zg)]
  br (bif Q0 (i4<a0)then Q0 (i4<10)else Q4)
  (Qc (zK i4 (length z0.1.2.2.2.1)) (Qc (Q0 (z2.2.2.2.1.length+a1.length<=1073741824)) (Q9 (If.h3 (IntKind.i64.wrap (i4+1)) z0 z1 (z2.1,z2.2.1,z2.2.2.1,z2.2.2.2.1++a1,z2.t)))))
  (Q9 (If.h7 0 z0 z1 (z2.1,z2.2.1,z2.2.2.1,z2.2.2.2.1,[],z2.t)))
 | .h7 i5 z0 z1 z2=>
  let a0:=(↑(length z0.1.t.1):Int)
  let a1:=zK i5 (length z0.1.t.1)
  let a2:=getD z0.1.t.1 i5.toNat (zi zu)
  let a3:=[(a2.1,ji a2.2)]
  br (bif Q0 (i5<a0)then Q0 (i5<10)else Q4)
  (Qc a1 (Qc a1 (Qc (Q0 (z2.t.1.length+a3.length<=1073741824)) (Q9 (If.h7 (IntKind.i64.wrap (i5+1)) z0 z1 (z2.1,z2.2.1,z2.2.2.1,z2.2.2.2.1,z2.t.1++a3,z2.t.2))))))
  (re (agg [str z2.1,sl zj z2.2.1,ai z2.2.2.1,AV.vec 0,AV.vec 1,str (zf.op z2.t.2.1),ai (zf.v z2.t.2.1).1,ai (zf.v z2.t.2.1).2.1,str (zf.v z2.t.2.1).2.2,str (zf.s z2.t.2.1),sl Q5 (zf.l z2.t.2.1)]) [AO.vec zg z2.2.2.2.1,AO.vec zu z2.t.1])
def UI(x0:Sem zo):=al [zo] HR 100000000 (zc7 x0)
def zfO:=FT [zo] [zo] λx=>UI x.1
theorem QD:FK 70 zfO:=vX.T1 (f:=Tryz.f70) (keep:=zjg) (e:=zlQ)
def iI(x0:Sem Q5)(x1:Sem zj.sl):Sem zg:=if fw 16 x0 (zf.mk [] (0,0,[]) [] [])=Q3 then 0 else if(bif (bK x0 x1).2==0 then bif (bK x0 x1).1!=3 then(bK x0 x1).1!=0 else Q4 else Q4)=Q3 then 5 else(bK x0 x1).2
theorem Mm(e:zf)(cols:LC):Kk e cols=Q1 (iI e cols,()):=by
 have hv:(Su e cols).val=Q1 (.inr (.int .i64 (iI e cols),[])):=by
  unfold iI;simp only[Su,zk,Q8];rw[if_pos (Mo 15 e)];repeat' split
  all_goals rfl
 exact zJ hv rfl
def Dl(t:Sem zo):Sem zo:=(ji t.1,jD t.2.1,t.2.2.1,Qg 10 t.2.2.2.1,(Qg 10 t.t.1).map (λf:Sem zu=>((f.1,ji f.2):Sem zu)),gP t.t.2)
theorem UJ(t:Sem zo):UI t=Q1 (Dl t,()):=by
 have g1:=zQ.all (t:=HR) 1 (λi=>.h3 (i:Int) (t,()) ([],0,[],0,0,[],[],()) (ji t.1,jD t.2.1,t.2.2.1,Qg i t.2.2.2.1,gP t.t.2,())) (min 10 (length t.2.2.2.1)) λi hi=>zQ.of (by
  have hl:i<length t.2.2.2.1:=by omega
  simp only[HR,Q8,W7 (k:=10) (K:=10) rfl hi,zt hl,if_true,aG];rw[if_pos sg,zp i um,HW hl (zi zg)])
 have g2:zQ HR 1 (.h3 ((min 10 (length t.2.2.2.1):Nat):Int) (t,()) ([],0,[],0,0,[],[],()) (ji t.1,jD t.2.1,t.2.2.1,Qg (min 10 (length t.2.2.2.1)) t.2.2.2.1,gP t.t.2,())) (.h7 ((0:Nat):Int) (t,()) ([],0,[],0,0,[],[],()) (ji t.1,jD t.2.1,t.2.2.1,Qg (min 10 (length t.2.2.2.1)) t.2.2.2.1,[],gP t.t.2,())):=zQ.of (by
  simp only[HR,Q8,Nq (k:=10) (K:=10) rfl,zB,if_false];rfl)
 rw[vn]at g1 g2;have g3:=zQ.all (t:=HR) 1 (λi=>.h7 (i:Int) (t,()) ([],0,[],0,0,[],[],()) (ji t.1,jD t.2.1,t.2.2.1,Qg 10 t.2.2.2.1,(Qg i t.t.1).map (λf:Sem zu=>((f.1,ji f.2):Sem zu)),gP t.t.2,())) (min 10 (length t.t.1)) λi hi=>zQ.of (by
  have hl:i<length t.t.1:=by omega
  simp only[HR,Q8,W7 (k:=10) (K:=10) rfl hi,zt hl,if_true,aG];rw[if_pos sg,zp i um,HW hl (zi zu),iP];rfl)
 rw[vn]at g3;have he:zU HR 1 (.h7 ((min 10 (length t.t.1):Nat):Int) (t,()) ([],0,[],0,0,[],[],()) (ji t.1,jD t.2.1,t.2.2.1,Qg 10 t.2.2.2.1,(Qg 10 t.t.1).map (λf:Sem zu=>((f.1,ji f.2):Sem zu)),gP t.t.2,())) _:=zU.of (by
  simp only[HR,Q8,Nq (k:=10) (K:=10) rfl,zB,if_false];rfl)
 have hs:(zc7 t).val=Q1 (.inl (.h3 ((0:Nat):Int) (t,()) ([],0,[],0,0,[],[],()) (ji t.1,jD t.2.1,t.2.2.1,Qg 0 t.2.2.2.1,gP t.t.2,()))):=by
  simp only[zc7,zk,Q8];rfl
 unfold Dl;rw[<-zk (gP t.t.2)];exact zw hs (((g1.trans g2).trans g3).ends he) ow rfl
def Y5:=Y4.addL [(170,YG),(70,zfO)]
theorem O7:zy Y5:=vX.addL<|fc MJ<|fc QD iM
end
def zeW:ac:=aF [Q5,zj.sl] [zg] λx=>(iI x.1 x.2.1,())
theorem zaO:FK 170 zeW:=gV MJ λx=>Mm x.1 x.2.1
def F5t:ac:=aF [zo] [zo] λx=>(Dl x.1,())
theorem zgI:FK 70 F5t:=gV QD λx=>UJ x.1
noncomputable def RO:=Y5.addL [(170,zeW),(70,F5t)]
theorem Ev:zy RO:=O7.addL<|fc zaO<|fc zgI iM
abbrev zdf:=lx [(4,[1,27,28,29]),(11,[1,5,59,60,61]),(17,[1,5,71,72,73])]
inductive rB where
 |h4 (l27:LC) (i28:Int) (i29:Int) (z0:zm tD)
 |h11 (l59:LI) (i60:Int) (i61:Int) (z0:zm tD)
 |h17 (l71:LF) (i72:Int) (i73:Int) (z0:zm tD)
abbrev zhw:rB->Nat×St
 |.h4 l27 i28 i29 z0=>(4,⟨tm 110 [(1,ptr 0 0),(27,sl zj l27),(28,ai i28),(29,ai i29)],[Qa (bv [] tD z0)]⟩)
 |.h11 l59 i60 i61 z0=>(11,⟨tm 110 [(1,ptr 0 0),(5,AV.clo (Fn.func 169) [] [ptr 0 0]),(59,sl zg l59),(60,ai i60),(61,ai i61)],[Qa (bv [] tD z0)]⟩)
 |.h17 l71 i72 i73 z0=>(17,⟨tm 110 [(1,ptr 0 0),(5,AV.clo (Fn.func 169) [] [ptr 0 0]),(71,sl zu l71),(72,ai i72),(73,ai i73)],[Qa (bv [] tD z0)]⟩)
noncomputable def Jc(x0:Sem zo):Tr (rB⊕aw):=
 let a0:=(↑(length x0.2.1):Int)
 br (bif !zO x0.1 then Q3 else bif Q0 (a0<1)then Q3 else Q0 (a0>8)) (re (kb Q4) [])
 (Q9 (rB.h4 x0.2.1 a0 0 (x0,())))
noncomputable def oB:rB->Tr (rB⊕aw)
 | .h4 l27 i28 i29 z0=>
  let a0:=l27.getD i29.toNat (zi zj)
  br (Q0 (i29<i28))
  (Qc (zK i29 l27.length) (br (bif !zO a0.1 then Q3 else bif Q0 (a0.2.1<1)then Q3 else bif Q0 (a0.2.1>3)then Q3 else zT (z0.1.1,z0.1.2.1,z0.1.2.2.1,z0.1.2.2.2.1,z0.1.t.1,zn z0.1.t.2) a0.1!=i29) (re (kb Q4) []) (Q9 (rB.h4 l27 i28 (IntKind.i64.wrap (i29+1)) z0))))
  (Q9 (rB.h11 z0.1.2.2.2.1 (↑(length z0.1.2.2.2.1):Int) 0 z0))
 | .h11 l59 i60 i61 z0=>
  let a0:=l59.getD i61.toNat (zi zg)
  let a1:=(↑(length z0.1.2.1):Int)
  br (Q0 (i61<i60))
  (Qc (zK i61 l59.length) (br (!bif Q0 (a0>=0)then Q0 (a0<a1)else Q4) (re (kb Q4) []) (Q9 (rB.h11 l59 i60 (IntKind.i64.wrap (i61+1)) z0))))
  (Q9 (rB.h17 z0.1.t.1 (↑(length z0.1.t.1):Int) 0 z0))
 | .h17 l71 i72 i73 z0=>
  let a0:=l71.getD i73.toNat (zi zu)
  let a1:=(↑(length z0.1.2.1):Int)
  let a2:=getD z0.1.2.1 (toNat z0.1.2.2.1) (zi zj)
  br (Q0 (i73<i72))
  (Qc (zK i73 l71.length) (br (!bif Q0 (a0.1>=0)then Q0 (a0.1<a1)else Q4) (re (kb Q4) []) (br (!zO a0.2) (re (kb Q4) []) (Q9 (rB.h17 l71 i72 (IntKind.i64.wrap (i73+1)) z0)))))
  (br (bif Q0 (z0.1.2.2.1>=0)then Q0 (z0.1.2.2.1<a1)else Q4) (Qc (zK z0.1.2.2.1 (length z0.1.2.1)) (br a2.2.2 (re (AV.bool (iI (zn z0.1.t.2) z0.1.2.1==0)) []) (re (kb Q4) []))) (re (kb Q4) []))
noncomputable def zd5(x0:Sem zo):=al [Q7] oB 40000000000000000000 (Jc x0)
theorem Sb{σ:Type}{t:σ->Tr (σ⊕aw)}{st:Nat->σ}{N:Nat}{b:Nat->Bool}{R:aw}(h:∀i,i<N->(t (st i)).val=if b i=Q3 then Q1 (.inl (st (i+1)))else Q1 (.inr R)):
  ((List.range N).all b=Q3/\zQ t N (st 0) (st N))\/((List.range N).all b=Q4/\zU t N (st 0) R):=by
 rcases ly (t:=t) (Φ:=λr=>r=R) 1 st (λi=>b i=Q3) N (λi hi _=>by
  cases hb:b i
  ·exact .inr ⟨sw,R,zU.of (by rw[h i hi,hb];rfl),rfl⟩
  ·exact .inl ⟨rfl,zQ.of (by rw[h i hi,hb];rfl)⟩)with⟨h1,h2⟩|⟨h1,r,h2,rfl⟩
 ·exact .inl ⟨by rw[dX];exact λi hi=>h1 i (oR.1 hi),h2.mono ow⟩
 ·refine .inr ⟨?_,h2.mono ow⟩;rw[Bool.eq_false_iff,Ne,dX];exact λq=>h1 λi hi=>q i (oR.2 hi)
def wt(x:Int)(n:Nat):Bool:=bif Q0 (x>=0)then Q0 (x<(n:Int))else Q4
def KV(t:Sem zo)(i:Nat):Bool:=!(bif !zO (getD t.2.1 i (zi zj)).1 then Q3 else bif Q0 ((getD t.2.1 i (zi zj)).2.1<1)then Q3 else bif Q0 ((getD t.2.1 i (zi zj)).2.1>3)then Q3 else zT t (getD t.2.1 i (zi zj)).1!=(i:Int))
def XA(t:Sem zo)(i:Nat):Bool:=wt (getD t.t.1 i (zi zu)).1 (length t.2.1)&&zO (getD t.t.1 i (zi zu)).2
def eD(t:Sem zo):Sem Q7:=!(bif !zO t.1 then Q3 else bif Q0 ((↑(length t.2.1):Int)<1)then Q3 else Q0 ((↑(length t.2.1):Int)>8))&&((List.range (length t.2.1)).all (KV t)&&((List.range (length t.2.2.2.1)).all (λi=>wt (getD t.2.2.2.1 i (zi zg)) (length t.2.1))&&((List.range (length t.t.1)).all (XA t)&&(wt t.2.2.1 (length t.2.1)&&((getD t.2.1 (toNat t.2.2.1) (zi zj)).2.2&&(iI t.t.2 t.2.1==0))))))
theorem UK{t:Sem zo}(h2:length t.2.2.2.1<=aH)(h3:length t.t.1<=aH):zd5 t=Q1 (eD t,()):=by
 unfold eD;by_cases h0:(bif !zO t.1 then Q3 else bif Q0 ((↑(length t.2.1):Int)<1)then Q3 else Q0 ((↑(length t.2.1):Int)>8))=Q3
 ·rw[h0];refine zJ (r:=(.kb Q4,[])) ?_ rfl;simp only[Jc,Q8];exact if_pos h0
 have h8:length t.2.1<=8:=by
  cases hn:zO t.1
  ·rw[hn]at h0;simp at h0
  ·rw[hn]at h0;simp at h0;omega
 have hs:(Jc t).val=Q1 (.inl (.h4 t.2.1 (length t.2.1:Int) ((0:Nat):Int) (t,()))):=by
  simp only[Jc,Q8];exact if_neg h0
 rw[gy]at h0;rw[h0];have hm:aH=9223372036854775807:=rfl
 rcases Sb (t:=oB) (R:=(.kb Q4,[])) (N:=length t.2.1) (st:=λi=>.h4 t.2.1 (length t.2.1:Int) (i:Int) (t,())) (b:=KV t) (λi hi=>by
  simp only[oB,Q8,zC hi,zt hi,if_true,aG,zk,Prod.eta,zp i (show i<aH by omega)];unfold KV;split
  ·rename_i c;rw[c];rfl
  ·rename_i c;rw[gy]at c;rw[c];rfl)with⟨a1,g1⟩|⟨a1,g1⟩
 rotate_left
 ·rw[a1];exact zw hs g1 ow rfl
 have g1':=g1.trans (zQ.of (s':=.h11 t.2.2.2.1 (length t.2.2.2.1:Int) ((0:Nat):Int) (t,())) (by
  simp only[oB,Q8,zA,zB,if_false];rfl))
 rw[a1]
 rcases Sb (t:=oB) (R:=(.kb Q4,[])) (N:=length t.2.2.2.1) (st:=λi=>.h11 t.2.2.2.1 (length t.2.2.2.1:Int) (i:Int) (t,())) (b:=λi=>wt (getD t.2.2.2.1 i (zi zg)) (length t.2.1)) (λi hi=>by
  simp only[oB,Q8,zC hi,zt hi,if_true,aG,zp i (show i<aH by omega)];unfold wt;split
  ·rename_i c;rw[xp]at c;rw[c];rfl
  ·rename_i c;rw[gy,Bool.not_eq_false']at c;rw[c];rfl)with⟨a2,g2⟩|⟨a2,g2⟩
 rotate_left
 ·rw[a2];exact zw hs (g1'.ends g2) ow rfl
 have g2':=(g1'.trans g2).trans (zQ.of (s':=.h17 t.t.1 (length t.t.1:Int) ((0:Nat):Int) (t,())) (by
  simp only[oB,Q8,zA,zB,if_false];rfl))
 rw[a2]
 rcases Sb (t:=oB) (R:=(.kb Q4,[])) (N:=length t.t.1) (st:=λi=>.h17 t.t.1 (length t.t.1:Int) (i:Int) (t,())) (b:=XA t) (λi hi=>by
  simp only[oB,Q8,zC hi,zt hi,if_true,aG,zp i (show i<aH by omega)];unfold XA wt;split
  ·rename_i c;rw[xp]at c;rw[c];rfl
  ·rename_i c;rw[gy,Bool.not_eq_false']at c;rw[c];cases zO (getD t.t.1 i (zi zu)).2<;>rfl)with⟨a3,g3⟩|⟨a3,g3⟩
 rotate_left
 ·rw[a3];exact zw hs (g2'.ends g3) ow rfl
 rw[a3];have hend:∃r,(oB (.h17 t.t.1 (length t.t.1:Int) (length t.t.1:Int) (t,()))).val=Q1 (.inr r)/\aL r.2 [Q7] r.1=Q1 ((wt t.2.2.1 (length t.2.1)&&((getD t.2.1 (toNat t.2.2.1) (zi zj)).2.2&&(iI t.t.2 t.2.1==0))),()):=by
  simp only[oB,Q8,zA,zk,zB,if_false];unfold wt;cases c:(bif Q0 (t.2.2.1>=0)then Q0 (t.2.2.1<(↑(length t.2.1):Int))else Q4)
  ·exact⟨_,rfl,rfl⟩
  ·have hi:zK t.2.2.1 (length t.2.1)=Q3:=by
    cases h1:Q0 (t.2.2.1>=0)<;>simp_all[zK]
   rw[hi];cases(getD t.2.1 (toNat t.2.2.1) (zi zj)).2.2
   ·exact⟨_,rfl,rfl⟩
   ·exact⟨_,rfl,rfl⟩
 obtain⟨r,e1,e2⟩:=hend;exact zw hs ((g2'.trans g3).ends (zU.of e1)) ow e2
theorem ok8:zL RO.P 113 Tryz.f113 1:=bS kw
def F8t:ac:=aF [zo] [Q7] λx=>(eD x.1,())
theorem zg8:FK 113 F8t:=af ok8 λx C hC=>Reach.lenA 0 3 zg x.1.2.2.2.1 rfl rfl λh2=>Reach.lenA 0 4 zu x.1.t.1 rfl rfl λh3=>
 Xz (n0:=0) (t:=oB) (e:=zhw) (keep:=zdf) (gas:=400) (i:=Jc x.1) Ev ok8 (λid _=>hC id) kw (by intro s;cases s<;>kernel_rfl) (UK h2 h3)
noncomputable def Y6:=RO.add 113 F8t
theorem Ew:zy Y6:=Ev.add zg8
abbrev zds:=lx [(4,[1,2,19,20,21]),(10,[1,2,30,31])]
inductive xj where
 |h4 (l1:LV) (l19:LV) (i20:Int) (i21:Int) (z0:zm tD)
 |h10 (l1:LV) (i30:Int) (i31:Int) (z0:zm tD)
abbrev zhF:xj->Nat×St
 |.h4 l1 l19 i20 i21 z0=>(4,⟨tm 79 [(1,sl ze l1),(2,ptr 0 0),(19,sl ze l19),(20,ai i20),(21,ai i21)],[Qa (bv [] tD z0)]⟩)
 |.h10 l1 i30 i31 z0=>(10,⟨tm 79 [(1,sl ze l1),(2,ptr 0 0),(30,ai i30),(31,ai i31)],[Qa (bv [] tD z0)]⟩)
noncomputable def Sw(x0:Sem zo)(x1:Sem ze.sl):Tr (xj⊕aw):=br (bif !eD (x0.1,x0.2.1,x0.2.2.1,x0.2.2.2.1,x0.t.1,zn x0.t.2)then Q3 else(↑(length x1):Int)!=(↑(length x0.2.1):Int)) (re (ai 1) []) (Q9 (xj.h4 x1 x1 (↑(length x1):Int) 0 (x0,())))
noncomputable def vg:xj->Tr (xj⊕aw)
 | .h4 l1 l19 i20 i21 z0=>
  br (Q0 (i21<i20))
  (Qc (zK i21 l19.length) (br (!aR (l19.getD i21.toNat (zi ze))) (re (ai 1) []) (Q9 (xj.h4 l1 l19 i20 (IntKind.i64.wrap (i21+1)) z0))))
  (Q9 (xj.h10 l1 (↑l1.length:Int) 0 z0))
 | .h10 l1 i30 i31 z0=>
  let a0:=l1.getD i31.toNat (zi ze)
  let a1:=a0.1==0
  let a2:=zK i31 (length z0.1.2.1)
  let a3:=getD z0.1.2.1 i31.toNat (zi zj)
  let a4:=a0.1!=0
  let a5:=jY (zn z0.1.t.2) z0.1.2.1 l1
  br (Q0 (i31<i30))
  (Qc (zK i31 l1.length&&bif a1 then a2 else Q3) (br (bif a1 then a3.2.2 else Q4) (re (ai 8) []) (Qc (zK i31 l1.length&&bif a4 then zK i31 l1.length&&a2 else Q3) (br (bif a4 then a0.1!=a3.2.1 else Q4) (re (ai 5) []) (Q9 (xj.h10 l1 i30 (IntKind.i64.wrap (i31+1)) z0))))))
  (br (a5.1==3&&(a5.2.1==0&&(a5.2.2==[]&&Q3))) (re (ai 9) []) (re (ai 0) []))
noncomputable def Od(x0:Sem zo)(x1:Sem ze.sl):=al [zg] vg 100000000 (Sw x0 x1)
noncomputable def YO:=FT [zo,ze.sl] [zg] λx=>Od x.1 x.2.1
theorem ML:FK 193 YO:=Ew.T1 (f:=Tryz.f193) (keep:=zds) (e:=zhF)
def ez(t:Sem zo)(row:LV):List (Sem ze)->Int->Sem zg
 |[],_=>if((jY t.t.2 t.2.1 row).1==3&&((jY t.t.2 t.2.1 row).2.1==0&&((jY t.t.2 t.2.1 row).2.2==[]&&Q3)))=Q3 then 9 else 0
 |x::r,i=>if(bif x.1==0 then(getD t.2.1 i.toNat (zi zj)).2.2 else Q4)=Q3 then 8 else if(bif x.1!=0 then x.1!=(getD t.2.1 i.toNat (zi zj)).2.1 else Q4)=Q3 then 5 else ez t row r (i+1)
def fZ(t:Sem zo)(row:LV):List (Sem ze)->Int->Sem zg
 |[],_=>ez t row row 0
 |x::r,i=>if(!aR x)=Q3 then 1 else fZ t row r (i+1)
def eb(t:Sem zo)(row:Sem ze.sl):Sem zg:=if(bif !eD t then Q3 else(↑(length row):Int)!=(↑(length t.2.1):Int))=Q3 then 1 else fZ t row row 0
theorem Nt{t:Sem zo}(h:eD t=Q3):length t.2.1<=8:=by
 unfold eD at h;rw[aC]at h;have h:=h.1;cases hn:zO t.1
 ·rw[hn]at h;simp at h
 ·rw[hn]at h;simp at h;omega
theorem P3(t:Sem zo)(row:LV):Od t row=Q1 (eb t row,()):=by
 unfold eb;by_cases h:(bif !eD t then Q3 else(↑(length row):Int)!=(↑(length t.2.1):Int))=Q3
 ·rw[if_pos h];refine zJ (r:=(.int .i64 1,[])) ?_ rfl;simp only[Sw,zk,Prod.eta,Q8];exact if_pos h
 rw[if_neg h];have hm:eD t=Q3/\row.length=length t.2.1:=by
  cases hm:eD t
  ·rw[hm]at h;simp at h
  ·rw[hm]at h;simp at h;exact⟨rfl,ow⟩
 have h8:=Nt hm.1;have h10:∀(m i:Nat),row.length-i=m->i<=row.length->zU vg (m+1) (.h10 row row.length i (t,())) (.int .i64 (ez t row (row.drop i) i),[]):=by
  intro m
  induction m with
  | zero=>
   intro i hi hl;obtain rfl:i=row.length:=by omega
   rw[jw,ez];refine zU.of ?_;simp only[vg,Q8,zA,zk,zB,if_false];split<;>rfl
  | succ m ih=>
   intro i hi hl;have hlt:i<row.length:=by omega
   have hg:getD row i (zi ze)=row[i]:=cF _ _ hlt;rw[eY hlt,ez];have hv:(vg (.h10 row row.length i (t,()))).val=if(bif row[i].1==0 then(getD t.2.1 i (zi zj)).2.2 else Q4)=Q3 then Q1 (.inr (.int .i64 8,[]))else if(bif row[i].1!=0 then row[i].1!=(getD t.2.1 i (zi zj)).2.1 else Q4)=Q3 then Q1 (.inr (.int .i64 5,[]))else Q1 (.inl (.h10 row row.length ((i+1:Nat):Int) (t,()))):=by
    simp only[vg,Q8,zC hlt,zt hlt,zt (show i<length t.2.1 by omega),aG,hg,dz,Bool.cond_self,if_true,zp i (show i<aH by unfold aH;omega)]
   simp only[aG];split
   ·rename_i c;exact(zU.of (by rw[hv,if_pos c])).mono ow
   ·rename_i c;split
    ·rename_i c2;exact(zU.of (by rw[hv,if_neg c,if_pos c2])).mono ow
    ·rename_i c2;exact(zQ.of (by rw[hv,if_neg c,if_neg c2])).ends (ih (i+1) ow ow)
 have h4:∀(m i:Nat),row.length-i=m->i<=row.length->zU vg (m+row.length+2) (.h4 row row row.length i (t,())) (.int .i64 (fZ t row (row.drop i) i),[]):=by
  intro m
  induction m with
  | zero=>
   intro i hi hl;obtain rfl:i=row.length:=by omega
   rw[jw,fZ];refine((zQ.of (s':=.h10 row row.length ((0:Nat):Int) (t,())) ?_).ends (h10 row.length 0 ow ow)).mono ow;simp only[vg,Q8,zA,zB,if_false];rfl
  | succ m ih=>
   intro i hi hl;have hlt:i<row.length:=by omega
   have hg:getD row i (zi ze)=row[i]:=cF _ _ hlt;rw[eY hlt,fZ];have hv:(vg (.h4 row row row.length i (t,()))).val=if(!aR row[i])=Q3 then Q1 (.inr (.int .i64 1,[]))else Q1 (.inl (.h4 row row row.length ((i+1:Nat):Int) (t,()))):=by
    simp only[vg,Q8,zC hlt,zt hlt,aG,hg,if_true,zp i (show i<aH by unfold aH;omega)]
   split
   ·rename_i c;exact(zU.of (by rw[hv,if_pos c])).mono ow
   ·rename_i c;exact((zQ.of (by rw[hv,if_neg c])).ends (ih (i+1) ow ow)).mono ow
 refine zw (s:=.h4 row row row.length ((0:Nat):Int) (t,())) ?_ (h4 row.length 0 ow ow) ow rfl;simp only[Sw,zk,Prod.eta,Q8];exact if_neg h
noncomputable def Y7:=Y6.add 193 YO
theorem O8:zy Y7:=Ew.add ML
def zet:ac:=aF [zo,ze.sl] [zg] λx=>(eb x.1 x.2.1,())
theorem zal:FK 193 zet:=gV ML λx=>P3 x.1 x.2.1
noncomputable def Bo:=Y7.add 193 zet
theorem O9:zy Bo:=O8.add zal
open Go.RowKit Go.Lib in
theorem zbB:FK 282 (zV [.str,.str] [.bool] (λx=>x.2.1.length==1) λx=>(Q0 (0<=Lib.indexByte x.1 (x.2.1.headD 0)),())):=by
 refine fK (E:=Bo) ⟨Tryz.f282,kw,kw,kw⟩ λx h0 res hx=>?_
 unfold ft at hx;split at hx
 ·simp only[Q8]at hx;split at hx
  ·rename_i hc;simp only[bD]at hx;subst hx;obtain⟨s,sub,u⟩:=x;have hc:(sub.length==1)=Q3:=hc
   match sub,hc with
   | [c],_=>
    intro C w U ρ vals _ hr hH hnew hr0 hW;have hl:=hr.len
    match vals,hl,hr with
    | [v1,v2],_,hr=>
     have h1:=hr.rv 0 (.str s) v1 rfl rfl;have h2:=hr.rv 1 (.str [c]) v2 rfl rfl;cases h1 with
     |str _ hs=>
     cases h2 with
     |str _ hs2=>
     refine(Tryz.strings_Contains_one ⟨s.toArray⟩ c w).mono ?_;rintro e w' ⟨rfl,rfl⟩;exact eJ hH hnew hr0 hW (Below.refl _ _) (.bool _)
  ·cases hx
 ·simp at hx
def F63:ac:=zV [.str,.str] [.bool] (λx=>x.2.1.length==1) λx=>(Q0 (0<=Lib.indexByte x.1 (x.2.1.headD 0)),())
theorem zgM:FK 282 F63:=zbB
def F89:ac:=zV [.str] [.str] (λx=>Q0 (x.1.length<=140737488355328)&&x.1.all λb=>Q0 (b.toNat<128)) λx=>(Lib.toUpperA x.1,())
open Go.RowKit Go.Lib in
theorem zg6:FK 232 F89:=by
 refine fK (E:=Bo) ⟨Tryz.f232,kw,kw,kw⟩ λx h0 res hx=>?_
 unfold ft at hx;split at hx
 ·simp only[Q8]at hx;split at hx
  ·rename_i hc;simp only[bD]at hx;subst hx;obtain⟨s,u⟩:=x;have hc:(Q0 (s.length<=140737488355328)&&s.all λb=>Q0 (b.toNat<128))=Q3:=hc;simp only[aC,aP]at hc;obtain⟨hc0,hc⟩:=hc;intro C w U ρ vals _ hr hH hnew hr0 hW;have hl:=hr.len
   match vals,hl,hr with
   | [v1],_,hr=>
    have h1:=hr.rv 0 (.str s) v1 rfl rfl;cases h1 with
    |str _ hs=>
    refine(Tryz.strings_ToUpper_ascii ⟨s.toArray⟩ w (by simpa[ByteArray.size]using hc0) (λj b hj=>?_)).mono ?_
    ·have hm:b∈s:=oP (by simpa using hj);simp only[dX,aP]at hc;exact hc b hm
    ·rintro e w' ⟨rfl,hb⟩;have hbb:=eJ (r:=.str (Lib.toUpperA s)) hH hnew hr0 hW hb (.str _ (by simpa[Lib.toUpperA]using hs));exact hbb
  ·cases hx
 ·simp at hx
def nl:Nat->Nat->zD
 |0,_=>[]
 |f+1,n=>if n<10 then[UInt8.ofNat (48+n)]else nl f (n/10)++[UInt8.ofNat (48+n%10)]
def rM(n:Int):zD:=if n<0 then 45::nl 20 n.natAbs else nl 20 n.natAbs
theorem F4:∀(f n:Nat),n<10^f->0<f->nl f n=Lib.decDigits n
 |0,_,_,h=>by omega
 | f+1,n,h,_=>by
  rw[nl,Lib.decDigits];split
  ·rfl
  ·rename_i hn;have hf:0<f:=by
    cases f with
    |zero=>simp at h;omega
    |succ f=>omega
   rw[F4 f (n/10) (by rw[AS]at h;omega) hf]
theorem A6:∀(f n:Nat),(nl f n).length<=f
 |0,_=>by simp[nl]
 | f+1,n=>by
  rw[nl];split
  ·simp
  ·have:=A6 f (n/10);simp;omega
theorem E4(n:Int):(rM n).length<=21:=by
 unfold rM;have:=A6 20 n.natAbs;split<;>simp<;>omega
theorem SG(n:Int)(h:cN .i64 n):Lib.itoa n=rM n:=by
 have h1:-9223372036854775808<=n:=h.1;have h2:n<=9223372036854775807:=h.2;unfold Lib.itoa rM;split
 ·rw[F4 20 _ ow ow]
 ·rw[F4 20 _ ow ow];congr 1;omega
def zeC:ac:=zV [zg,zg] [.str] (λx=>x.2.1==10) λx=>(rM x.1,())
open Go.RowKit Go.Lib in
theorem zau:FK 275 zeC:=by
 refine fK (E:=Bo) ⟨Tryz.f275,kw,kw,kw⟩ λx h0 res hx=>?_
 unfold ft at hx;split at hx
 ·simp only[Q8]at hx;split at hx
  ·rename_i hc;simp only[bD]at hx;subst hx;obtain⟨n,b,u⟩:=x;have hc:(b==10)=Q3:=hc;simp only[bf]at hc;subst hc;intro C w U ρ vals _ hr hH hnew hr0 hW;have hl:=hr.len
   match vals,hl,hr with
   | [v1,v2],_,hr=>
    have h1:=hr.rv 0 (.int .i64 n) v1 rfl rfl;have h2:=hr.rv 1 (.int .i64 10) v2 rfl rfl;cases h1 with
    |int _ _ hn=>
    cases h2;have h5:Rv w U (λ_=>Q2) (.tab .u64 mc) (.pointer (Q1 ⟨5,0,Q2⟩)):=hW.gl 5;have htab:Lib.TabIs Tryz.prog w "internal/strconv.uint64pow10" .u64 Lib.pow10Tab:=by
     cases h5 with
     |tab _ _ _ T fr hb hU=>
     have hg:Tryz.prog.globalNamed "internal/strconv.uint64pow10"=Q1 5:=by kernel_rfl
     have ht:Lib.pow10Tab=mc:=by decide+kernel
     unfold Lib.TabIs World.var?;rw[hg,ht];simp only[Option.bind_some,hb]
    refine(Tryz.strconv_FormatInt_10 n hn.1 hn.2 w htab).mono ?_;rintro e w' ⟨rfl,k,os,rfl⟩;rw[SG n hn];exact eJ (r:=.str (rM n)) hH hnew hr0 hW ⟨rfl,rfl,rfl,by show w.heap.size<=(w.heap++os).size;simp,λj hj=>by show(w.heap++os)[j]?=w.heap[j]?;rw[Array.getElem?_append_left hj]⟩ (.str _ (by have:=E4 n;unfold aH;omega))
  ·cases hx
 ·simp at hx
theorem uL(old new:zD):∀(k:Nat)(s:zD),(Lib.replaceK old new k s).length<=s.length+k*new.length
 |0,s=>by simp[Lib.replaceK]
 | k+1,s=>by
  rw[Lib.replaceK];split
  ·omega
  ·have:=uL old new k (s.drop ((Lib.index s old).toNat+old.length));simp only[jW,ol,List.length_drop]at this⊢;rw[kB];omega
theorem ld(s old new:zD):(Lib.replaceAll s old new).length<=s.length+(s.length+1)*new.length:=by
 unfold Lib.replaceAll Lib.replace;split
 ·omega
 ·refine cD (uL old new _ s) ?_;have hc:=Lib.count_le s old;have:Lib.replaceNum s old (-1)=Lib.count s old:=by unfold Lib.replaceNum;rw[if_pos (.inl ow)]
  rw[this];have:=gW new.length hc;omega
def uK(s old new:zD):Bool:=Q0 (s.length<=4000000000)&&(Q0 (1<=old.length)&&Q0 (new.length<=1000))
def zeD:ac:=zV [.str,.str,.str] [.str] (λx=>uK x.1 x.2.1 x.2.2.1) λx=>(Lib.replaceAll x.1 x.2.1 x.2.2.1,())
open Go.RowKit Go.Lib in
theorem zav:FK 276 zeD:=by
 refine fK (E:=Bo) ⟨Tryz.f276,kw,kw,kw⟩ λx h0 res hx=>?_
 unfold ft at hx;split at hx
 ·simp only[Q8]at hx;split at hx
  ·rename_i hc;simp only[bD]at hx;subst hx;obtain⟨s,old,new,u⟩:=x;have hc:uK s old new=Q3:=hc;unfold uK at hc;simp only[aC,aP]at hc;obtain⟨hc1,hc2,hc3⟩:=hc;intro C w U ρ vals _ hr hH hnew hr0 hW;have hl:=hr.len
   match vals,hl,hr with
   | [v1,v2,v3],_,hr=>
    have h1:=hr.rv 0 (.str s) v1 rfl rfl;have h2:=hr.rv 1 (.str old) v2 rfl rfl;have h3:=hr.rv 2 (.str new) v3 rfl rfl;cases h1 with
    |str _ hs1=>
    cases h2 with
    |str _ hs2=>
    cases h3 with
    |str _ hs3=>
    have hg1:Rv w U (λ_=>Q2) .gint (.pointer (Q1 ⟨0,0,Q2⟩)):=hW.gl 0;have hmm:∃m:Int,w.cell? ⟨0,0,Q2⟩=Q1 (.int .i64 m):=by
     cases hg1 with
     |gint m _ T fr _ hb _=>exact⟨m,by simp[World.cell?,hb]⟩
    obtain⟨m,hm⟩:=hmm;have hcb:=Lib.countB_le (⟨old.toArray⟩:ByteArray) (by simpa[ByteArray.size]using hc2) s.length (⟨s.toArray⟩:ByteArray) (by simp[ByteArray.size]);have hsz:(⟨s.toArray⟩:ByteArray).size=s.length:=by simp[ByteArray.size]
    have hnz:(⟨new.toArray⟩:ByteArray).size=new.length:=by simp[ByteArray.size]
    have hmul:Lib.countB (⟨s.toArray⟩:ByteArray) ⟨old.toArray⟩*new.length<=4000000000*1000:=Eh ow hc3;refine(Tryz.strings_ReplaceAll ⟨s.toArray⟩ ⟨old.toArray⟩ ⟨new.toArray⟩ m w (by rw[hsz];omega) hm (by simpa[ByteArray.size]using hc2) (by rw[hsz,hnz];omega)).mono ?_;rintro e w' ⟨rfl,hbel⟩;refine eJ (r:=.str (Lib.replaceAll s old new)) hH hnew hr0 hW hbel (.str _ ?_);have hlen:=ld s old new;have hmul2:(s.length+1)*new.length<=4000000001*1000:=Eh ow hc3;unfold aH;omega
  ·cases hx
 ·simp at hx
def zeB:ac:=zV [.sl .str,.str] [.str] (λx=>Q0 (x.1.length<=140737488355328)&&Q0 ((Lib.join x.1 x.2.1).length<=140737488355328)) λx=>(Lib.join x.1 x.2.1,())
open Go.RowKit Go.Lib in
theorem zat:FK 274 zeB:=by
 refine fK (E:=Bo) ⟨Tryz.f274,kw,kw,kw⟩ λx h0 res hx=>?_
 unfold ft at hx;split at hx
 ·simp only[Q8]at hx;split at hx
  ·rename_i hc;simp only[bD]at hx;subst hx;obtain⟨l,sep,u⟩:=x;have hc:(Q0 (l.length<=140737488355328)&&Q0 ((Lib.join l sep).length<=140737488355328))=Q3:=hc;simp only[aC,aP]at hc;obtain⟨hc0,hc⟩:=hc;have hms:aH=9223372036854775807:=rfl;intro C w U ρ vals _ hr hH hnew hr0 hW;have hl:=hr.len
   match vals,hl,hr with
   | [v1,v2],_,hr=>
    have h1:=hr.rv 0 (.sl .str l) v1 rfl rfl;have h2:=hr.rv 1 (.str sep) v2 rfl rfl;cases h2 with
    |str _ hs2=>
    generalize hl0:l=l0 at h1 hc hc0 hr;cases h1 with
    | sl0 _ a c=>
     subst hl0;refine(Tryz.strings_Join_none a c ⟨sep.toArray⟩ w).mono ?_;rintro e w' ⟨rfl,rfl⟩;exact eJ (r:=.str []) hH hnew hr0 hW (Below.refl _ _) (.str _ sw)
    | sl _ _ b o c vals' hcc hm hb hU hcell hrr=>
     subst hl0;have hx:∀(j:Nat) x,(l.map λs=>(⟨s.toArray⟩:ByteArray))[j]?=Q1 x->w.cell? ⟨b,o+j,Q2⟩=Q1 (.string x):=by
      intro j x hj;simp only[fi,ei]at hj;obtain⟨s,hs,rfl⟩:=hj;obtain⟨hlt,rfl⟩:=cW.1 hs;have h3:=hcell j 0 hlt (by simp[Sh.size]);have h4:=hrr j hlt 0 (.str l[j]) rfl;simp only[Sh.size,Nat.mul_one,xu]at h3;rw[h3];generalize vals' j 0=vv at h4;cases h4;rfl
     have hmap:(l.map λs=>(⟨s.toArray⟩:ByteArray)).map (·.data.toList)=l:=by
      simp[tn]
     have hj:=Tryz.strings_Join b o c (l.map λs=>(⟨s.toArray⟩:ByteArray)) ⟨sep.toArray⟩ w hx hb (by simpa using hc0) (by simpa using hcc) (by rw[hmap];exact hc);rw[hmap]at hj;simp only[cV]at hj;refine hj.mono ?_;rintro e w' ⟨rfl,hbel⟩;exact eJ (r:=.str (Lib.join l sep)) hH hnew hr0 hW hbel (.str _ ow)
  ·cases hx
 ·simp at hx
noncomputable def rI:=Bo.addL [(282,F63),(232,F89),(275,zeC),(276,zeD),(274,zeB)]
theorem iZ:zy rI:=O9.addL<|fc zgM<|fc zg6<|fc zau<|fc zav<|fc zat iM
end Cad
