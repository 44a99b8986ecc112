/- Expressions: their types. Expressions: bounded ones; the same ones. Expressions: which may be. Expressions: their values. Expressions: may, bounded. -/
import Derived.Test.YtkmcdhahdadkpaaGreatDoorF08
namespace Cad
open Go Go.Proofs
open List renaming drop→Qh,take→Qg
open Tr renaming chk→Qc,«to»→Q9,val→Q8
open AO renaming box→Qa
open Sh renaming bool→Q7,expr→Q5
open Bool renaming false→Q4,true→Q3
open Option renaming none→Q2,some→Q1
open Decidable renaming decide→Q0
open Int (toNat)
open List (getD length)
open Tr (chk br re)
open AV (nils agg tup ptr kb str sl)
theorem fh{P:Program}{gl:Nat->AV}{k:FuncId}{ks outs:List Sh}{c:zy (ks.map Q1)->Bool}{g:zy (ks.map Q1)->zy (outs.map Q1)}(hf:∃fn,P.funcs[k]?=Q1 fn/\(fn.name=="runtime.NumGoroutine")=Q4/\fn.body.isNone=Q4)(hc:∀x,c x=Q4):nO P gl k (zO ks outs c g):=by
 refine⟨hf,?_⟩;intro w U ρ hp n args vals f fp hv;exfalso;unfold zO bh at hv;split at hv
 ·simp only at hv;split at hv
  ·split at hv
   ·simp only[Tr.val_bind,fJ]at hv;obtain⟨res,h1,h2⟩:=hv;unfold fb at h1;split at h1
    ·simp only[Q8,hc]at h1;simp at h1
    ·simp at h1
   ·simp at hv
  ·simp at hv
 ·simp at hv
theorem lP{Φ:zB->Prop}{c:Bool}{t f:Tr zB}(h1:c=Q3->fW Φ t.val)(h2:c=Q4->fW Φ f.val):fW Φ (br c t f).val:=by
 cases c
 ·simpa[Q8]using h2 rfl
 ·simpa[Q8]using h1 rfl
theorem jQ{Φ:zB->Prop}{c:Bool}{t:Tr zB}(hc:c=Q3)(h:fW Φ t.val):fW Φ (Qc c t).val:=by
 subst hc;simpa[Q8]using h
theorem zJ{Φ:zB->Prop}{t:Tr zB}(h:fW Φ t.val):fW Φ (Qc Q3 t).val:=h
theorem md{c:Bool}(h:c=Q4):¬c=Q3:=by rw[h];simp
theorem pN{c g:Bool}(h:(if c=Q3 then g else Q4)=Q3):c=Q3/\g=Q3:=by
 split at h
 ·exact⟨‹_›,h⟩
 ·cases h
theorem tL{Φ:zB->Prop}{c:Bool}{t f:Tr zB}{α:Sort _}{a b y:α}{p q:Bool}(hy:(if c=Q3 then a else b)=y)(hc:(if c=Q3 then p else q)=Q3)(h1:c=Q3->a=y->p=Q3->fW Φ t.val)(h2:c=Q4->b=y->q=Q3->fW Φ f.val):fW Φ (Tr.br c t f).val:=
 lP (λh=>h1 h (by rwa [if_pos h]at hy) (by rwa [if_pos h]at hc)) (λh=>h2 h (by rwa [if_neg (md h)]at hy) (by rwa [if_neg (md h)]at hc))
theorem cZ{Φ:zB->Prop}{c:Bool}{t f:Tr zB}{α:Sort _}{a b y:α}(hy:(if c=Q3 then a else b)=y)(h1:c=Q3->a=y->fW Φ t.val)(h2:c=Q4->b=y->fW Φ f.val):fW Φ (Tr.br c t f).val:=
 lP (λh=>h1 h (by rwa [if_pos h]at hy)) (λh=>h2 h (by rwa [if_neg (md h)]at hy))
theorem ig{Φ:zB->Prop}{c g:Bool}{t:Tr zB}(hc:(if c=Q3 then g else Q4)=Q3)(h:g=Q3->fW Φ t.val):fW Φ (Tr.chk c t).val:=
 jQ (pN hc).1 (h (pN hc).2)
theorem Tr.val_brT{α:Type}(t f:Tr α):(br Q3 t f).val=t.val:=rfl
theorem Tr.val_brF{α:Type}(t f:Tr α):(br Q4 t f).val=f.val:=rfl
theorem Tr.val_chkT{α:Type}(t:Tr α):(Qc Q3 t).val=t.val:=rfl
instance:Inhabited ze:=⟨.mk [] (0,0,[]) [] []⟩
instance (s:Sh):Inhabited (Sem s):=⟨zi s⟩
noncomputable def N1(g:Sem Q5->Sem (Sh.sl zj)->Sem zg×Sem zg)(c:Sem Q5->Sem (Sh.sl zj)->Bool):bT:=Qy.add 201 (zO [Q5,Sh.sl zj] [zg,zg] (λx=>c x.1 x.2.1) λx=>((g x.1 x.2.1).1,(g x.1 x.2.1).2,()))
theorem AC{g:Sem Q5->Sem (Sh.sl zj)->Sem zg×Sem zg}{c:Sem Q5->Sem (Sh.sl zj)->Bool}(hg:FK 201 (zO [Q5,Sh.sl zj] [zg,zg] (λx=>c x.1 x.2.1) λx=>((g x.1 x.2.1).1,(g x.1 x.2.1).2,()))):zw (N1 g c):=DH.add hg
abbrev Yz:Nat->aM:=λj=>if j=3 then{slots:=[1,2,6,15,16,17],prom:=[(6,Q2,zg)]}else{ }
abbrev Cg(l1:LC)(l15:LX)(i16:Int)(i17:Int)(ja0:zA)(ja1:Int)(ja2:Int)(ja3:zA)(ja4:zA)(ja5:LX)(lh_1:LI):St:={tmps:=(tm 91 [(1,sl zj l1),(2,ptr 0 0),(6,AV.vec 1),(15,sl Q5 l15),(16,ai i16),(17,ai i17)]),heap:=[Qa [str ja0,ai ja1,ai ja2,str ja3,str ja4,sl Q5 ja5],AO.vec zg lh_1]}
theorem Bp(g:Sem Q5->Sem (Sh.sl zj)->Sem zg×Sem zg)(c:Sem Q5->Sem (Sh.sl zj)->Bool):zI (N1 g c).P 201 Tryz.f201 2:=bQ kw
theorem zf6(g:Sem Q5->Sem (Sh.sl zj)->Sem zg×Sem zg)(c:Sem Q5->Sem (Sh.sl zj)->Bool)(x0:Sem Q5)(x1:Sem zj.sl):rn (N1 g c) 0 Yz Tryz.f201 [zC Q5 x0,zC zj.sl x1] []=Tr.ok (zB.head 3 (zZ Tryz.f201 3) (Cg x1 (ze.l x0) (↑(ze.l x0).length:Int) 0 (ze.op x0) (ze.v x0).1 (ze.v x0).2.1 (ze.v x0).2.2 (ze.s x0) (ze.l x0) [])):=kw
theorem MK(g:Sem Q5->Sem (Sh.sl zj)->Sem zg×Sem zg)(c:Sem Q5->Sem (Sh.sl zj)->Bool)(l1:LC)(l15:LX)(i16:Int)(i17:Int)(ja0:zA)(ja1:Int)(ja2:Int)(ja3:zA)(ja4:zA)(ja5:LX)(lh_1:LI):rh (N1 g c) 0 Yz Tryz.f201 3 (Cg l1 l15 i16 i17 ja0 ja1 ja2 ja3 ja4 ja5 lh_1)=br (Q0 (i17<i16)) (Qc (zP i17 l15.length) (Qc (c (zm (l15.getD i17.toNat (zi Q5))) l1) (br ((g (zm (l15.getD i17.toNat (zi Q5))) l1).2!=0) (Tr.ok (zB.ret (tup [ai 0,AV.int IntKind.i64 (g (zm (l15.getD i17.toNat (zi Q5))) l1).2]) [])) (Qc (Q0 (lh_1.length+[(g (zm (l15.getD i17.toNat (zi Q5))) l1).1].length<=1073741824)) (Tr.ok (zB.head 3 (zZ Tryz.f201 3) (Cg l1 l15 i16 (IntKind.i64.wrap (i17+1)) ja0 ja1 ja2 ja3 ja4 ja5 (lh_1++[(g (zm (l15.getD i17.toNat (zi Q5))) l1).1])))))))) (br (ja0==[108,105,116]) (Tr.ok (zB.ret (tup [ai ja1,ai 0]) [])) (br (ja0==[99,111,108]) (br (Q0 (zY l1 ja4<0)) (Tr.ok (zB.ret (tup [ai 0,ai 4]) [])) (Qc (zP (zY l1 ja4) l1.length) (Tr.ok (zB.ret (tup [ai (l1.getD (toNat (zY l1 ja4)) (zi zj)).2.1,ai 0]) [])))) (br (ja0==[110,111,116]) (br (!lF lh_1 3) (Tr.ok (zB.ret (tup [ai 0,ai 5]) [])) (Tr.ok (zB.ret (tup [ai 3,ai 0]) []))) (br (ja0==[97,110,100])
 (br (!lF lh_1 3) (Tr.ok (zB.ret (tup [ai 0,ai 5]) [])) (Tr.ok (zB.ret (tup [ai 3,ai 0]) []))) (br (ja0==[111,114]) (br (!lF lh_1 3) (Tr.ok (zB.ret (tup [ai 0,ai 5]) [])) (Tr.ok (zB.ret (tup [ai 3,ai 0]) []))) (br (ja0==[61]) (Qc (zP 0 lh_1.length&&(Q0 (toNat 0<lh_1.length)&&(zP 1 lh_1.length&&(Q0 (toNat 1<lh_1.length)&&bif lh_1.getD (toNat 0) (zi zg)==lh_1.getD (toNat 1) (zi zg)then Q3 else zP 0 lh_1.length&&(Q0 (toNat 0<lh_1.length)&&bif lh_1.getD (toNat 0) (zi zg)==0 then Q3 else zP 1 lh_1.length&&Q0 (toNat 1<lh_1.length)))))) (br (!bif lh_1.getD (toNat 0) (zi zg)==lh_1.getD (toNat 1) (zi zg)then Q3 else bif lh_1.getD (toNat 0) (zi zg)==0 then Q3 else lh_1.getD (toNat 1) (zi zg)==0) (Tr.ok (zB.ret (tup [ai 0,ai 5]) [])) (Tr.ok (zB.ret (tup [ai 3,ai 0]) [])))) (br (ja0==[60]) (Qc (zP 0 lh_1.length&&(Q0 (toNat 0<lh_1.length)&&(zP 1 lh_1.length&&(Q0 (toNat 1<lh_1.length)&&bif lh_1.getD (toNat 0) (zi zg)==lh_1.getD (toNat 1) (zi zg)then Q3 else zP 0 lh_1.length&&(Q0 (toNat 0<lh_1.length)&&bif lh_1.getD (toNat 0) (zi zg)==0 then Q3 else zP 1 lh_1.length&&Q0 (toNat 1<lh_1.length)))))) (br (!bif lh_1.getD (toNat 0) (zi zg)==lh_1.getD (toNat 1) (zi zg)then Q3
 else bif lh_1.getD (toNat 0) (zi zg)==0 then Q3 else lh_1.getD (toNat 1) (zi zg)==0) (Tr.ok (zB.ret (tup [ai 0,ai 5]) [])) (Tr.ok (zB.ret (tup [ai 3,ai 0]) [])))) (br (ja0==[43]) (br (!lF lh_1 1) (Tr.ok (zB.ret (tup [ai 0,ai 5]) [])) (Tr.ok (zB.ret (tup [ai 1,ai 0]) []))) (br (ja0==[45]) (br (!lF lh_1 1) (Tr.ok (zB.ret (tup [ai 0,ai 5]) [])) (Tr.ok (zB.ret (tup [ai 1,ai 0]) []))) (Tr.ok (zB.ret (tup [ai 3,ai 0]) []))))))))))):=kw
def aF(g:Sem Q5->Sem (Sh.sl zj)->Sem zg×Sem zg)(c:Sem Q5->Sem (Sh.sl zj)->Bool)(l1:LC)(ja0:zA)(ja1:Int)(ja2:Int)(ja3:zA)(ja4:zA)(ja5:LX):List (Sem Q5)->Int->List (Sem zg)->Sem zg×Sem zg
 |[],_,lh_1=>if(ja0==[108,105,116])=Q3 then(ja1,0)
else
 if(ja0==[99,111,108])=Q3 then
  if Q0 (zY l1 ja4<0)=Q3 then(0,4)
  else((l1.getD (toNat (zY l1 ja4)) (zi zj)).2.1,0)
 else
  if(ja0==[110,111,116])=Q3 then if(!lF lh_1 3)=Q3 then(0,5)else(3,0)
  else
   if(ja0==[97,110,100])=Q3 then if(!lF lh_1 3)=Q3 then(0,5)else(3,0)
   else
    if(ja0==[111,114])=Q3 then if(!lF lh_1 3)=Q3 then(0,5)else(3,0)
    else
     if (ja0==[61])=true then
      if
        (!bif lh_1.getD (toNat 0) (zi zg)==lh_1.getD (toNat 1) (zi zg)then Q3
          else bif lh_1.getD (toNat 0) (zi zg)==0 then Q3 else lh_1.getD (toNat 1) (zi zg)==0)=
         Q3 then
       (0,5)
      else(3,0)
     else
      if (ja0==[60])=true then
       if
         (!bif lh_1.getD (toNat 0) (zi zg)==lh_1.getD (toNat 1) (zi zg)then Q3
           else
            bif lh_1.getD (toNat 0) (zi zg)==0 then Q3 else lh_1.getD (toNat 1) (zi zg)==0)=
          Q3 then
        (0,5)
       else(3,0)
      else
       if(ja0==[43])=Q3 then if(!lF lh_1 1)=Q3 then(0,5)else(1,0)
       else if(ja0==[45])=Q3 then if(!lF lh_1 1)=Q3 then(0,5)else(1,0)else(3,0)
 |x::r,i17,lh_1=>if((g x l1).2!=0)=Q3 then(0,(g x l1).2)else aF g c l1 ja0 ja1 ja2 ja3 ja4 ja5 r (i17+1) (lh_1++[(g x l1).1])
def fG(g:Sem Q5->Sem (Sh.sl zj)->Sem zg×Sem zg)(c:Sem Q5->Sem (Sh.sl zj)->Bool)(l1:LC)(ja0:zA)(ja1:Int)(ja2:Int)(ja3:zA)(ja4:zA)(ja5:LX):List (Sem Q5)->Int->List (Sem zg)->Bool
 |[],_,lh_1=>if(ja0==[108,105,116])=Q3 then Q3
else
 if(ja0==[99,111,108])=Q3 then
  if Q0 (zY l1 ja4<0)=Q3 then Q3 else if zP (zY l1 ja4) l1.length=Q3 then Q3 else Q4
 else
  if(ja0==[110,111,116])=Q3 then Q3
  else
   if(ja0==[97,110,100])=Q3 then Q3
   else
    if(ja0==[111,114])=Q3 then Q3
    else
     if (ja0 == [61])=true then
      if
        (zP 0 lh_1.length&&
          (Q0 (toNat 0<lh_1.length)&&
           (zP 1 lh_1.length&&
            (Q0 (toNat 1<lh_1.length)&&
             bif lh_1.getD (toNat 0) (zi zg)==lh_1.getD (toNat 1) (zi zg)then Q3
             else
              zP 0 lh_1.length&&
               (Q0 (toNat 0<lh_1.length)&&
                bif lh_1.getD (toNat 0) (zi zg)==0 then Q3
                else zP 1 lh_1.length&&Q0 (toNat 1<lh_1.length))))))=
         Q3 then
       Q3
      else Q4
     else
      if (ja0 == [60])=true then
       if
         (zP 0 lh_1.length&&
           (Q0 (toNat 0<lh_1.length)&&
            (zP 1 lh_1.length&&
             (Q0 (toNat 1<lh_1.length)&&
              bif lh_1.getD (toNat 0) (zi zg)==lh_1.getD (toNat 1) (zi zg)then Q3
              else
               zP 0 lh_1.length&&
                (Q0 (toNat 0<lh_1.length)&&
                 bif lh_1.getD (toNat 0) (zi zg)==0 then Q3
                 else zP 1 lh_1.length&&Q0 (toNat 1<lh_1.length))))))=
          Q3 then
        Q3
       else Q4
      else Q3
 |x::r,i17,lh_1=>if c x l1=Q3 then
 if((g x l1).2!=0)=Q3 then Q3
 else
  if Q0 (lh_1.length+[(g x l1).1].length<=1073741824)=Q3 then
   fG g c l1 ja0 ja1 ja2 ja3 ja4 ja5 r (i17+1) (lh_1++[(g x l1).1])
  else Q4
else Q4
theorem UZ(g:Sem Q5->Sem (Sh.sl zj)->Sem zg×Sem zg)(c:Sem Q5->Sem (Sh.sl zj)->Bool)(hg:FK 201 (zO [Q5,Sh.sl zj] [zg,zg] (λx=>c x.1 x.2.1) λx=>((g x.1 x.2.1).1,(g x.1 x.2.1).2,()))){C:eP}(hC:∀id,C.ρ0 id=Q2)(l1:LC)(ja0:zA)(ja1:Int)(ja2:Int)(ja3:zA)(ja4:zA)(ja5:LX)(l15:LX)(hl:l15.length<=aE):∀(m i:Nat)(lh_1:LI),l15.length-i=m->i<=l15.length->fG g c l1 ja0 ja1 ja2 ja3 ja4 ja5 (l15.drop i) i lh_1=Q3->
  Reach (N1 g c) C 201 (zZ Tryz.f201 3) (Cg l1 l15 (l15.length:Int) (i:Int) ja0 ja1 ja2 ja3 ja4 ja5 lh_1) (λr h=>aL h [zg,zg] r=Q1 ((aF g c l1 ja0 ja1 ja2 ja3 ja4 ja5 (l15.drop i) i lh_1).1,(aF g c l1 ja0 ja1 ja2 ja3 ja4 ja5 (l15.drop i) i lh_1).2,())):=by
 intro m
 induction m with
 | zero=>
  intro i lh_1 hm hi hc;obtain rfl:i=l15.length:=by omega
  rw[jg]at hc⊢;refine zD (AC hg) (Bp g c) (λid _=>hC id) (MK g c _ _ _ _ _ _ _ _ _ _ _) ?_;rw[fG]at hc;generalize hy:aF g c l1 ja0 ja1 ja2 ja3 ja4 ja5 [] _ lh_1=y;rw[aF]at hy;simp only[ze.eta,zz,Tr.val_brF];repeat' (first|with_reducible refine tL hy hc (λ_ hy hc=>?_) (λ_ hy hc=>?_)|with_reducible refine cZ hy (λ_ hy=>?_) (λ_ hy=>?_)|with_reducible refine ig hc (λhc=>?_)|with_reducible refine zJ ?_)
  all_goals(subst hy;first|rfl)
 | succ m IH=>
  intro i lh_1 hm hi hc;have hlt:i<l15.length:=by omega
  have IH:=IH (i+1);have hcast:((i:Int)+1)=((i+1:Nat):Int):=by omega
  have hwr:=zq i ow;rw[fj hlt]at hc⊢;refine zD (AC hg) (Bp g c) (λid _=>hC id) (MK g c _ _ _ _ _ _ _ _ _ _ _) ?_;rw[fG]at hc;generalize hy:aF g c l1 ja0 ja1 ja2 ja3 ja4 ja5 (l15[i]::l15.drop (i+1)) (i:Int) lh_1=y;rw[aF]at hy;simp only[ze.eta,zH hlt,zu hlt,cw l15 _ hlt,hwr,Tr.val_brT,Tr.val_chkT];clear hwr;simp only[hcast]at hy
  try simp only[hcast]at hc
  repeat' (first|with_reducible refine tL hy hc (λ_ hy hc=>?_) (λ_ hy hc=>?_)|with_reducible refine cZ hy (λ_ hy=>?_) (λ_ hy=>?_)|with_reducible refine ig hc (λhc=>?_)|with_reducible refine zJ ?_)
  all_goals(subst hy;first|(change Reach _ _ _ _ _ _;apply IH<;>first|omega|assumption)|rfl)
theorem PL(g:Sem Q5->Sem (Sh.sl zj)->Sem zg×Sem zg)(c:Sem Q5->Sem (Sh.sl zj)->Bool)(hg:FK 201 (zO [Q5,Sh.sl zj] [zg,zg] (λx=>c x.1 x.2.1) λx=>((g x.1 x.2.1).1,(g x.1 x.2.1).2,()))){C:eP}(hC:∀id,C.ρ0 id=Q2)(l1:LC)(ja0:zA)(ja1:Int)(ja2:Int)(ja3:zA)(ja4:zA)(ja5:LX)(l15:LX)(lh_1:LI)(hc:fG g c l1 ja0 ja1 ja2 ja3 ja4 ja5 l15 0 lh_1=Q3):
  Reach (N1 g c) C 201 (zZ Tryz.f201 3) (Cg l1 l15 (l15.length:Int) 0 ja0 ja1 ja2 ja3 ja4 ja5 lh_1) (λr h=>aL h [zg,zg] r=Q1 ((aF g c l1 ja0 ja1 ja2 ja3 ja4 ja5 l15 0 lh_1).1,(aF g c l1 ja0 ja1 ja2 ja3 ja4 ja5 l15 0 lh_1).2,())):=
 Reach.len 15 (Q5) l15 rfl λhl=>UZ g c hg hC l1 ja0 ja1 ja2 ja3 ja4 ja5 l15 hl _ 0 lh_1 rfl (ba _) hc
def wC(g:Sem Q5->Sem (Sh.sl zj)->Sem zg×Sem zg)(c:Sem Q5->Sem (Sh.sl zj)->Bool)(x0:Sem Q5)(x1:Sem zj.sl):Sem zg×Sem zg:=aF g c x1 (ze.op x0) (ze.v x0).1 (ze.v x0).2.1 (ze.v x0).2.2 (ze.s x0) (ze.l x0) (ze.l x0) 0 []
def yQ(g:Sem Q5->Sem (Sh.sl zj)->Sem zg×Sem zg)(c:Sem Q5->Sem (Sh.sl zj)->Bool)(x0:Sem Q5)(x1:Sem zj.sl):Bool:=fG g c x1 (ze.op x0) (ze.v x0).1 (ze.v x0).2.1 (ze.v x0).2.2 (ze.s x0) (ze.l x0) (ze.l x0) 0 []
def ziZ(g:Sem Q5->Sem (Sh.sl zj)->Sem zg×Sem zg)(c:Sem Q5->Sem (Sh.sl zj)->Bool):zX:=zO [Q5,zj.sl] [zg,zg] (λx=>yQ g c x.1 x.2.1) λx=>((wC g c x.1 x.2.1).1,(wC g c x.1 x.2.1).2,())
theorem ZZ(g:Sem Q5->Sem (Sh.sl zj)->Sem zg×Sem zg)(c:Sem Q5->Sem (Sh.sl zj)->Bool)(hg:FK 201 (zO [Q5,Sh.sl zj] [zg,zg] (λx=>c x.1 x.2.1) λx=>((g x.1 x.2.1).1,(g x.1 x.2.1).2,()))):FK 201 (ziZ g c):=by
 refine aI (Bp g c) λx hc C hC=>?_
 unfold yQ at hc;refine zD (AC hg) (Bp g c) (λid _=>hC id) (zf6 g c x.1 x.2.1) ?_;generalize hy:wC g c x.1 x.2.1=y;unfold wC at hy
 try simp only[ze.eta,zl]
 repeat' (first|with_reducible refine tL hy hc (λ_ hy hc=>?_) (λ_ hy hc=>?_)|with_reducible refine cZ hy (λ_ hy=>?_) (λ_ hy=>?_)|with_reducible refine ig hc (λhc=>?_)|with_reducible refine zJ ?_)
 all_goals(subst hy;first|(change Reach _ _ _ _ _ _;apply PL g c hg hC<;>first|assumption|exact hc)|rfl)
mutual
def zL:Nat->Sem Q5->Sem (Sh.sl zj)->Sem zg×Sem zg
 |0=>λ_ _=>default
 |n+1=>wC (zL n) (aZ n)
def aZ:Nat->Sem Q5->Sem (Sh.sl zj)->Bool
 |0=>λ_ _=>Q4
 |n+1=>yQ (zL n) (aZ n)
end
theorem Pr:∀n,FK 201 (zO [Q5,Sh.sl zj] [zg,zg] (λx=>aZ n x.1 x.2.1) λx=>((zL n x.1 x.2.1).1,(zL n x.1 x.2.1).2,()))
 |0=>fh ⟨Tryz.f201,(Bp default default).1,(Bp default default).2.1,(Bp default default).2.2.1⟩ (λ_=>rfl)
 |n+1=>ZZ (zL n) (aZ n) (Pr n)
def F51:zX:=zO [Q5,Sh.sl zj] [zg,zg] (λx=>aZ 16 x.1 x.2.1) λx=>((zL 16 x.1 x.2.1).1,(zL 16 x.1 x.2.1).2,())
theorem zeG:FK 201 F51:=Pr 16
noncomputable def DI:=Qy.add 201 F51
theorem pE:zw DI:=DH.add zeG
abbrev XK:List CP:=[.d .expr]
abbrev zfu:List CP:=[.d .str,.d zg,.d zg,.d .str,.d .str,.vec .expr]
abbrev nT:List CP:=[.d .str,.d zg,.d zg,.d .str,.d .str,.nil]
noncomputable def HS(g:Sem Q5->Sem zg->Sem zg->Sem Q5×Sem zg)(c:Sem Q5->Sem zg->Sem zg->Bool):bT:=DI.add 71 (zO [Q5,zg,zg] [Q5,zg] (λx=>c x.1 x.2.1 x.2.2.1) λx=>((g x.1 x.2.1 x.2.2.1).1,(g x.1 x.2.1 x.2.2.1).2,()))
theorem N2{g:Sem Q5->Sem zg->Sem zg->Sem Q5×Sem zg}{c:Sem Q5->Sem zg->Sem zg->Bool}(hg:FK 71 (zO [Q5,zg,zg] [Q5,zg] (λx=>c x.1 x.2.1 x.2.2.1) λx=>((g x.1 x.2.1 x.2.2.1).1,(g x.1 x.2.1 x.2.2.1).2,()))):zw (HS g c):=pE.add hg
abbrev RP:Nat->aM:=λj=>if j=10 then{slots:=[1,2,3,6,8,9],prom:=[(8,Q1 5,Q5)]}else if j=500004 then{slots:=[1,2,3,6,8,30],cut:=Q3}else if j=500006 then{slots:=[1,2,3,6,8,39],cut:=Q3}else if j=500008 then{slots:=[1,2,3,6,8],cut:=Q3}else{ }
inductive xC where
 |h500004 (i1:Sem zg) (i2:Sem zg) (b30:Bool) (z0:zn XK) (z1:zn nT) (z2:zn nT)
 |h500006 (i1:Sem zg) (i2:Sem zg) (b39:Bool) (z0:zn XK) (z1:zn nT) (z2:zn nT)
 |h500008 (i1:Sem zg) (i2:Int) (z0:zn XK) (z1:zn nT) (z2:zn nT)
 |h10 (i1:Sem zg) (i2:Int) (i9:Int) (z0:zn XK) (z1:zn nT) (z2:zn zfu)
abbrev P7:xC->Nat×St
 |.h500004 i1 i2 b30 z0 z1 z2=>(500004,⟨tm 88 [(1,ai i1),(2,ai i2),(3,ptr 0 0),(6,ptr 1 0),(8,ptr 2 0),(30,AV.bool b30)],[Qa (bx [] XK z0),Qa (bx [] nT z1),Qa (bx [] nT z2)]⟩)
 |.h500006 i1 i2 b39 z0 z1 z2=>(500006,⟨tm 88 [(1,ai i1),(2,ai i2),(3,ptr 0 0),(6,ptr 1 0),(8,ptr 2 0),(39,AV.bool b39)],[Qa (bx [] XK z0),Qa (bx [] nT z1),Qa (bx [] nT z2)]⟩)
 |.h500008 i1 i2 z0 z1 z2=>(500008,⟨tm 88 [(1,ai i1),(2,ai i2),(3,ptr 0 0),(6,ptr 1 0),(8,ptr 2 0)],[Qa (bx [] XK z0),Qa (bx [] nT z1),Qa (bx [] nT z2)]⟩)
 |.h10 i1 i2 i9 z0 z1 z2=>(10,⟨tm 88 [(1,ai i1),(2,ai i2),(3,ptr 0 0),(6,ptr 1 0),(8,ptr 2 0),(9,ai i9)],[Qa (bx [] XK z0),Qa (bx [] nT z1),Qa (bx [3] zfu z2),AO.vec Q5 z2.t.2.1]⟩)
theorem zh6(g:Sem Q5->Sem zg->Sem zg->Sem Q5×Sem zg)(c:Sem Q5->Sem zg->Sem zg->Bool):zI (HS g c).P 71 Tryz.f71 3:=bQ kw
def Rq(_:Sem Q5->Sem zg->Sem zg->Sem Q5×Sem zg)(_:Sem Q5->Sem zg->Sem zg->Bool)(x0:Sem Q5)(x1:Sem zg)(x2:Sem zg):Tr (xC⊕aw):=
 let a0:=Q0 ((↑(length (ze.s x0)):Int)>20)
 let a1:=((ze.v x0).1,(ze.v x0).2.1,(ze.v x0).2.2,ze.s x0,())
 br (Q0 ((↑(length (ze.op x0)):Int)>8))
 (Qc (Q0 (0<=0)&&Q0 (0<=8)&&Q0 (8<=(↑(length (ze.op x0)):Int)))
  (Q9 (xC.h500004 x1 x2 a0 (x0,()) ([],0,0,[],[],()) (Qg (toNat 8-toNat 0) (Qh (toNat 0) (ze.op x0)),a1))))
 (Q9 (xC.h500004 x1 x2 a0 (x0,()) ([],0,0,[],[],()) (ze.op x0,a1)))
theorem zgc(g:Sem Q5->Sem zg->Sem zg->Sem Q5×Sem zg)(c:Sem Q5->Sem zg->Sem zg->Bool)(x0:Sem Q5)(x1:Sem zg)(x2:Sem zg):rn (HS g c) 0 RP Tryz.f71 [zC Q5 x0,zC zg x1,zC zg x2] []=(Rq g c x0 x1 x2).map (lf Tryz.f71 P7):=kw
def uF(g:Sem Q5->Sem zg->Sem zg->Sem Q5×Sem zg)(c:Sem Q5->Sem zg->Sem zg->Bool):xC->Tr (xC⊕aw)
 | .h500004 i1 i2 b30 z0 z1 z2=>
  let a0:=(↑(length z2.t.1):Int)
  let a1:=(↑(length z2.2.2.2.1):Int)
  let a2:=Q0 (a1>45)
  br b30
  (Qc (Q0 (0<=0)&&Q0 (0<=20)&&Q0 (20<=a0)) (Q9 (xC.h500006 i1 i2 a2 z0 z1 (z2.1,z2.2.1,z2.2.2.1,z2.2.2.2.1,Qg (toNat 20-toNat 0) (Qh (toNat 0) z2.t.1),()))))
  (Q9 (xC.h500006 i1 i2 a2 z0 z1 z2))
 | .h500006 i1 i2 b39 z0 z1 z2=>
  let a0:=(↑(length z2.2.2.2.1):Int)
  let a1:=IntKind.i64.wrap (i2-1)
  br b39
  (Qc (Q0 (0<=0)&&Q0 (0<=45)&&Q0 (45<=a0)) (Q9 (xC.h500008 i1 a1 z0 z1 (z2.1,z2.2.1,z2.2.2.1,Qg (toNat 45-toNat 0) (Qh (toNat 0) z2.2.2.2.1),z2.t))))
  (Q9 (xC.h500008 i1 a1 z0 z1 z2))
 | .h500008 i1 i2 z0 z1 z2=>
  Q9 (xC.h10 i1 i2 0 z0 z1 (z2.1,z2.2.1,z2.2.2.1,z2.2.2.2.1,z2.t.1,[],()))
 | .h10 i1 i2 i9 z0 z1 z2=>
  let a0:=(↑(ze.l z0.1).length:Int)
  let a1:=zm ((ze.l z0.1).getD i9.toNat (zi Q5))
  let a2:=IntKind.i64.wrap (i1-1)
  let a3:=g a1 a2 i2
  let a4:=[zm a3.1]
  br (bif Q0 (i9<a0)then bif Q0 (i9<3)then bif Q0 (i1>0)then Q0 (i2>0)else Q4 else Q4 else Q4)
  (Qc (zP i9 (ze.l z0.1).length) (Qc (c a1 a2 i2) (Qc (Q0 (z2.t.2.1.length+a4.length<=1073741824)) (Q9 (xC.h10 i1 a3.2 (IntKind.i64.wrap (i9+1)) z0 z1 (z2.1,z2.2.1,z2.2.2.1,z2.2.2.2.1,z2.t.1,z2.t.2.1++a4,()))))))
  (re (tup [agg [str z2.1,ai z2.2.1,ai z2.2.2.1,str z2.2.2.2.1,str z2.t.1,AV.vec 0],ai i2]) [AO.vec Q5 z2.t.2.1])
theorem ziv(g:Sem Q5->Sem zg->Sem zg->Sem Q5×Sem zg)(c:Sem Q5->Sem zg->Sem zg->Bool):∀s,run (HS g c) 0 RP (Func.results Tryz.f71).toList 400 (zZ Tryz.f71 (P7 s).1) (P7 s).2=(uF g c s).map (lf Tryz.f71 P7):=by intro s;cases s<;>kernel_rfl
def HQ(o:Option (zy (List.map Q1 [Q5,zg]))):Sem Q5×Sem zg:=(λr:zy (List.map Q1 [Q5,zg])=>(r.1,r.2.1)) (o.getD (cn [Q5,zg]))
def zfK(g:Sem Q5->Sem zg->Sem zg->Sem Q5×Sem zg)(c:Sem Q5->Sem zg->Sem zg->Bool)(x0:Sem Q5)(x1:Sem zg)(x2:Sem zg):Option (zy (List.map Q1 [Q5,zg])):=al [Q5,zg] (uF g c) 100000000 (Rq g c x0 x1 x2)
def nU:Nat->Sem Q5->Sem zg->Sem zg->Option (zy (List.map Q1 [Q5,zg]))
 |0=>λ_ _ _=>Q2
 |n+1=>zfK (λx0 x1 x2=>HQ (nU n x0 x1 x2)) λx0 x1 x2=>(nU n x0 x1 x2).isSome
theorem zbz:zI DI.P 71 Tryz.f71 3:=bQ kw
theorem LO:∀n,FK 71 (zO [Q5,zg,zg] [Q5,zg] (λx=>(nU n x.1 x.2.1 x.2.2.1).isSome) λx=>((HQ (nU n x.1 x.2.1 x.2.2.1)).1,(HQ (nU n x.1 x.2.1 x.2.2.1)).2,()))
 |0=>fh ⟨Tryz.f71,zbz.1,zbz.2.1,zbz.2.2.1⟩ (λ_=>rfl)
 |n+1=>lA (E:=HS (λx0 x1 x2=>HQ (nU n x0 x1 x2)) (λx0 x1 x2=>(nU n x0 x1 x2).isSome)) (ks:=[Q5,zg,zg]) (outs:=[Q5,zg]) (keep:=RP) (gas:=400) (n:=100000000) (e:=P7) (t:=uF (λx0 x1 x2=>HQ (nU n x0 x1 x2)) (λx0 x1 x2=>(nU n x0 x1 x2).isSome)) (i:=λx=>Rq (λx0 x1 x2=>HQ (nU n x0 x1 x2)) (λx0 x1 x2=>(nU n x0 x1 x2).isSome) x.1 x.2.1 x.2.2.1) (N2 (LO n)) (zh6 _ _) (λx=>zgc _ _ x.1 x.2.1 x.2.2.1) (ziv _ _) (λ_=>by kernel_rfl) (λ_=>by kernel_rfl)
def qN(N:Nat)(e:Sem Q5)(d n:Sem zg):Sem Q5×Sem zg:=HQ (nU N e d n)
def Id(N:Nat)(e:Sem Q5)(d n:Sem zg):Bool:=(nU N e d n).isSome
def F15:zX:=zO [Q5,zg,zg] [Q5,zg] (λx=>Id 16 x.1 x.2.1 x.2.2.1) λx=>((qN 16 x.1 x.2.1 x.2.2.1).1,(qN 16 x.1 x.2.1 x.2.2.1).2,())
theorem zec:FK 71 F15:=LO 16
def Vl(g:ze->ze->Bool):List ze->List ze->Bool
 |x::r,y::s=>if(!g x y)=Q3 then Q4 else Vl g r s
 |_,_=>Q3
def Oc(g c:ze->ze->Bool):List ze->List ze->Bool
 |x::r,y::s=>if c x y=Q3 then(if(!g x y)=Q3 then Q3 else Oc g c r s)else Q4
 |_,_=>Q3
noncomputable def N0(g c:ze->ze->Bool):bT:=DI.add 154 (zO [.expr,.expr] [.bool] (λx=>c x.1 x.2.1) (λx=>(g x.1 x.2.1,())))
theorem AB{g c:ze->ze->Bool}(hg:FK 154 (zO [.expr,.expr] [.bool] (λx=>c x.1 x.2.1) (λx=>(g x.1 x.2.1,())))):zw (N0 g c):=pE.add hg
abbrev zgU:Nat->aM:=λj=>if j=4 then{slots:=[1,2,15,16,17]}else{ }
abbrev Nh(l1:List ze)(l15:List ze)(i16:Int)(i17:Int):St:={tmps:=(tm 32 [(1,sl Q5 l1),(2,AV.clo (Fn.func 154) [] []),(15,sl Q5 l15),(16,ai i16),(17,ai i17)]),heap:=[]}
theorem VV(g c:ze->ze->Bool):zI (N0 g c).P 202 Tryz.f202 3:=bQ kw
theorem zkh(g c:ze->ze->Bool)(l:List ze)(m:List ze):rn (N0 g c) 0 zgU Tryz.f202 [sl Q5 l,sl Q5 m,AV.clo (Fn.func 154) [] []] []=br ((↑l.length:Int)!=(↑m.length:Int)) (Tr.ok (zB.ret (kb Q4) [])) (Tr.ok (zB.head 4 (zZ Tryz.f202 4) (Nh m l (↑l.length:Int) 0))):=kw
theorem SB(g c:ze->ze->Bool)(l1:List ze)(l15:List ze)(i16:Int)(i17:Int):rh (N0 g c) 0 zgU Tryz.f202 4 (Nh l1 l15 i16 i17)=br (Q0 (i17<i16)) (Qc (zP i17 l15.length) (Qc (zP i17 l1.length) (Qc (c (zm (l15.getD i17.toNat (zi Q5))) (zm (l1.getD i17.toNat (zi Q5)))) (br (!g (zm (l15.getD i17.toNat (zi Q5))) (zm (l1.getD i17.toNat (zi Q5)))) (Tr.ok (zB.ret (kb Q4) [])) (Tr.ok (zB.head 4 (zZ Tryz.f202 4) (Nh l1 l15 i16 (IntKind.i64.wrap (i17+1))))))))) (Tr.ok (zB.ret (kb Q3) [])):=kw
theorem zja{g c:ze->ze->Bool}(hg:FK 154 (zO [.expr,.expr] [.bool] (λx=>c x.1 x.2.1) (λx=>(g x.1 x.2.1,())))){C:eP}(hC:∀id,0<=id->C.ρ0 id=Q2)(l m:List ze)(hlm:l.length=m.length)(hl:l.length<=aE):
  ∀(k i:Nat),l.length-i=k->i<=l.length->Oc g c (l.drop i) (m.drop i)=Q3->Reach (N0 g c) C 202 (zZ Tryz.f202 4) (Nh m l l.length i) (λr h=>(r,h)=(.kb (Vl g (l.drop i) (m.drop i)),[])):=by
 intro k
 induction k with
 | zero=>
  intro i hk hi hc;obtain rfl:i=l.length:=by omega
  refine zD (AB hg) (VV g c) hC (SB g c _ _ _ _) ?_;simp only[zz,Tr.val_brF,jg];rfl
 | succ k IH=>
  intro i hk hi hc;have hlt:i<l.length:=by omega
  have hlt':i<m.length:=by omega
  refine zD (AB hg) (VV g c) hC (SB g c _ _ _ _) ?_;rw[fj hlt,fj hlt']at hc⊢;rw[Oc]at hc;have hc1:=pN hc;simp only[zH hlt,zu hlt,zu hlt',cw l _ hlt,cw m _ hlt',ze.eta,Tr.val_brT,Tr.val_chkT,hc1.1,zq i ow];refine lP (λh=>?_) (λh=>?_)
  ·rw[Vl,if_pos h];rfl
  ·rw[Vl,if_neg (md h)];have h2:=hc1.2;rw[if_neg (md h)]at h2;exact IH (i+1) ow ow h2
def Kk(g:ze->ze->Bool)(l m:List ze):Bool:=if((↑l.length:Int)!=(↑m.length:Int))=Q3 then Q4 else Vl g l m
def wY(g c:ze->ze->Bool)(l m:List ze):Bool:=if((↑l.length:Int)!=(↑m.length:Int))=Q3 then Q3 else Oc g c l m
def G50(g c:ze->ze->Bool):iv [Q1 (.sl .expr),Q1 (.sl .expr),Q2]:=λx h=>match x,h with
 |(l,m,.clo (.func 154) [] [],_),[]=>.chk (wY g c l m) (.ok (.bool (Kk g l m),[]))
 |_,_=>.err
def F50(g c:ze->ze->Bool):zX:=bh [Q1 (.sl .expr),Q1 (.sl .expr),Q2] (G50 g c)
theorem Reach.weaken{E:bT}{C:eP}{fn:FuncId}{todo:List Item}{st:St}{Q Q':AV->List AO->Prop}(h:Reach E C fn todo st Q)(hq:∀r h,Q r h->∃r',Q' r' h/\∀w U ρ v,Rv w U ρ r v->Rv w U ρ r' v):Reach E C fn todo st Q':=by
 intro b cs a w U ρ h1 h2 hc hW;obtain⟨e,w',fr,⟨v,r,h',U',ρ',he,hq1,hrv,hrest⟩,hcm⟩:=h b cs a w U ρ h1 h2 hc hW;obtain⟨r',hq2,hrr⟩:=hq r h' hq1;exact⟨e,w',fr,⟨v,r',h',U',ρ',he,hq2,hrr _ _ _ _ hrv,hrest⟩,hcm⟩
theorem zeF{g c:ze->ze->Bool}(hg:FK 154 (zO [.expr,.expr] [.bool] (λx=>c x.1 x.2.1) (λx=>(g x.1 x.2.1,())))):FK 202 (F50 g c):=by
 refine dI (E:=N0 g c) (VV g c) λx h0 res hx C hC=>?_
 unfold G50 at hx;split at hx
 ·rename_i l m u;simp only[Q8]at hx;split at hx
  ·rename_i hc;simp only[bw]at hx;subst hx;refine Reach.len 0 .expr l rfl λhl=>?_
   refine Reach.weaken (Q:=λr h=>(r,h)=(.kb (Kk g l m),[])) ?_ ?_
   ·refine zD (n0:=0) (AB hg) (VV g c) hC (zkh g c l m) ?_;unfold wY at hc;unfold Kk;refine lP (λh=>?_) (λh=>?_)
    ·rw[if_pos h];rfl
    ·rw[if_neg (md h)]at hc⊢;have:(l.length:Int)=m.length:=by simpa using h
     have:l.length=m.length:=by omega
     exact zja hg hC l m this hl _ 0 rfl (ba _) hc
   ·rintro r h hq;cases hq;refine⟨_,rfl,λw U ρ v hv=>?_⟩;cases hv;exact .bool _
  ·simp at hx
 ·simp at hx
noncomputable def Vi(g c:ze->ze->Bool):bT:=DI.add 202 (F50 g c)
theorem Qm{g c:ze->ze->Bool}(hg:FK 154 (zO [.expr,.expr] [.bool] (λx=>c x.1 x.2.1) (λx=>(g x.1 x.2.1,())))):zw (Vi g c):=pE.add (zeF hg)
def TP(a b:V):Bool:=a.1==b.1&&(a.2.1==b.2.1&&(a.2.2==b.2.2&&Q3))
def Ju(g:ze->ze->Bool)(a b:ze):Bool:=bif a.op==b.op then bif TP a.v b.v then bif a.s==b.s then Kk g a.l b.l else Q4 else Q4 else Q4
def GK(g c:ze->ze->Bool)(a b:ze):Bool:=bif a.op==b.op then bif TP a.v b.v then bif a.s==b.s then wY g c a.l b.l else Q3 else Q3 else Q3
theorem Ss(g c:ze->ze->Bool):zI (Vi g c).P 154 Tryz.f154 2:=bQ kw
theorem zjY(g c:ze->ze->Bool)(l:ze)(m:ze):rn (Vi g c) 0 (λ_=>{}) Tryz.f154 [zC Q5 l,zC Q5 m] []=Qc (GK g c l m) (Tr.ok (zB.ret (AV.bool (Ju g l m)) [])):=kw
theorem ZB{g c:ze->ze->Bool}(hg:FK 154 (zO [.expr,.expr] [.bool] (λx=>c x.1 x.2.1) (λx=>(g x.1 x.2.1,())))):FK 154 (zO [.expr,.expr] [.bool] (λx=>GK g c x.1 x.2.1) (λx=>(Ju g x.1 x.2.1,()))):=by
 refine aI (E:=Vi g c) (Ss g c) λx hx C hC=>?_
 refine zD (n0:=0) (Qm hg) (Ss g c) (λid _=>hC id) (zjY g c x.1 x.2.1) ?_;exact jQ hx rfl
mutual
def ff:Nat->ze->ze->Bool
 |0=>λ_ _=>Q4
 |n+1=>Ju (ff n)
def iU:Nat->ze->ze->Bool
 |0=>λ_ _=>Q4
 |n+1=>GK (ff n) (iU n)
end
theorem Po:∀n,FK 154 (zO [.expr,.expr] [.bool] (λx=>iU n x.1 x.2.1) (λx=>(ff n x.1 x.2.1,())))
 |0=>fh ⟨Tryz.f154,(Ss (λ_ _=>Q4) (λ_ _=>Q4)).1,(Ss (λ_ _=>Q4) (λ_ _=>Q4)).2.1,(Ss (λ_ _=>Q4) (λ_ _=>Q4)).2.2.1⟩ (λ_=>rfl)
 |n+1=>ZB (Po n)
def F29:zX:=zO [.expr,.expr] [.bool] (λx=>iU 16 x.1 x.2.1) (λx=>(ff 16 x.1 x.2.1,()))
theorem zem:FK 154 F29:=Po 16
noncomputable def Ma:=DI.addL [(71,F15),(154,F29)]
theorem DJ:zw Ma:=pE.addL<|fc zec<|fc zem jj
def aW(v:V):Bool:=v.1==0&&(v.2.1==0&&(v.2.2==[]&&Q3))
def avB:AV->Option Bool
 |.bool b=>Q1 b
 |.kb b=>Q1 b
 |_=>Q2
theorem Reach.toBool{E:bT}{C:eP}{fn:FuncId}{todo:List Item}{st:St}{b:Bool}{hp:List AO}(h:Reach E C fn todo st (λr h=>avB r=Q1 b/\h=hp)):Reach E C fn todo st (λr h=>(r,h)=(.bool b,hp)):=by
 refine h.weaken λr h' hq=>?_
 obtain⟨h1,rfl⟩:=hq;refine⟨.bool b,rfl,λw U ρ v hv=>?_⟩;cases r<;>simp[avB]at h1<;>subst h1<;>cases hv<;>exact .bool _
def zaB(g:ze->Int->Int->Bool×Int)(c:ze->Int->Int->Bool):iv [Q2,Q1 .expr,Q1 zg]:=λx h=>match x,h with
 |(.ptr 0 0,e,d,_),[.box [.int .i64 n]]=>.chk (c e d n) (.ok (.bool (g e d n).1,[.box [.int .i64 (g e d n).2]]))
 |_,_=>.err
def JP(g:ze->Int->Int->Bool×Int)(c:ze->Int->Int->Bool):zX:=bh [Q2,Q1 .expr,Q1 zg] (zaB g c)
noncomputable def NZ(g:ze->Int->Int->Bool×Int)(c:ze->Int->Int->Bool):bT:=Ma.add 247 (JP g c)
theorem AA{g:ze->Int->Int->Bool×Int}{c:ze->Int->Int->Bool}(hg:FK 247 (JP g c)):zw (NZ g c):=DJ.add hg
abbrev zgO:Nat->aM:=λj=>if j=12 then{slots:=[0,2,73,74,75]}else{ }
abbrev GH(i2:Int)(l73:LX)(i74:Int)(i75:Int)(ja0:Int):St:={tmps:=(tm 86 [(0,ptr 0 0),(2,ai i2),(73,sl Q5 l73),(74,ai i74),(75,ai i75)]),heap:=[Qa [ai ja0]]}
theorem Su(g:ze->Int->Int->Bool×Int)(c:ze->Int->Int->Bool):zI (NZ g c).P 247 Tryz.f247 3:=bQ kw
theorem zj4(g:ze->Int->Int->Bool×Int)(c:ze->Int->Int->Bool)(e:ze)(d:Int)(n:Int):rn (NZ g c) 1 zgO Tryz.f247 [ptr 0 0,zC Q5 e,ai d] [Qa [ai n]]=br (bif Q0 (d>12)then Q3 else bif Q0 (IntKind.i64.wrap (n+1)>60)then Q3 else(↑e.l.length:Int)!=cG e.op) (Tr.ok (zB.ret (kb Q4) [Qa [ai (IntKind.i64.wrap (n+1))]])) (br (e.op==[108,105,116]) (Tr.ok (zB.ret (AV.bool (bif e.s==[]then bd e.v else Q4)) [Qa [ai (IntKind.i64.wrap (n+1))]])) (br (e.op==[99,111,108]) (Tr.ok (zB.ret (AV.bool (bif aW e.v then bif dQ e.s then !iR e.s else Q4 else Q4)) [Qa [ai (IntKind.i64.wrap (n+1))]])) (br (bif !aW e.v then Q3 else !e.s==[]) (Tr.ok (zB.ret (kb Q4) [Qa [ai (IntKind.i64.wrap (n+1))]])) (Tr.ok (zB.head 12 (zZ Tryz.f247 12) (GH d e.l (↑e.l.length:Int) 0 (IntKind.i64.wrap (n+1)))))))):=kw
theorem MJ(g:ze->Int->Int->Bool×Int)(c:ze->Int->Int->Bool)(i2:Int)(l73:LX)(i74:Int)(i75:Int)(ja0:Int):rh (NZ g c) 1 zgO Tryz.f247 12 (GH i2 l73 i74 i75 ja0)=br (Q0 (i75<i74)) (Qc (zP i75 l73.length) (Qc (c (zm (l73.getD i75.toNat (zi Q5))) (IntKind.i64.wrap (i2+1)) ja0) (br (!(g (zm (l73.getD i75.toNat (zi Q5))) (IntKind.i64.wrap (i2+1)) ja0).1) (Tr.ok (zB.ret (kb Q4) [Qa [AV.int IntKind.i64 (g (zm (l73.getD i75.toNat (zi Q5))) (IntKind.i64.wrap (i2+1)) ja0).2]])) (Tr.ok (zB.head 12 (zZ Tryz.f247 12) (GH i2 l73 i74 (IntKind.i64.wrap (i75+1)) (g (zm (l73.getD i75.toNat (zi Q5))) (IntKind.i64.wrap (i2+1)) ja0).2)))))) (Tr.ok (zB.ret (kb Q3) [Qa [ai ja0]])):=kw
def nW(g:ze->Int->Int->Bool×Int)(d:Int):List ze->Int->Bool×Int
 |[],n=>(Q3,n)
 |x::r,n=>if(!(g x (IntKind.i64.wrap (d+1)) n).1)=Q3 then(Q4,(g x (IntKind.i64.wrap (d+1)) n).2)else nW g d r (g x (IntKind.i64.wrap (d+1)) n).2
def Bg(g:ze->Int->Int->Bool×Int)(c:ze->Int->Int->Bool)(d:Int):List ze->Int->Bool
 |[],_=>Q3
 |x::r,n=>if c x (IntKind.i64.wrap (d+1)) n=Q3 then(if(!(g x (IntKind.i64.wrap (d+1)) n).1)=Q3 then Q3 else Bg g c d r (g x (IntKind.i64.wrap (d+1)) n).2)else Q4
theorem zi9{g:ze->Int->Int->Bool×Int}{c:ze->Int->Int->Bool}(hg:FK 247 (JP g c)){C:eP}(hC:∀id,1<=id->C.ρ0 id=Q2)(d:Int)(l:List ze)(hl:l.length<=aE):
  ∀(k i:Nat)(n:Int),l.length-i=k->i<=l.length->Bg g c d (l.drop i) n=Q3->Reach (NZ g c) C 247 (zZ Tryz.f247 12) (GH d l l.length i n) (λr h=>avB r=Q1 (nW g d (l.drop i) n).1/\h=[.box [.int .i64 (nW g d (l.drop i) n).2]]):=by
 intro k
 induction k with
 | zero=>
  intro i n hk hi hc;obtain rfl:i=l.length:=by omega
  refine zD (AA hg) (Su g c) hC (MJ g c _ _ _ _ _) ?_;simp only[zz,Tr.val_brF,jg];exact⟨rfl,rfl⟩
 | succ k IH=>
  intro i n hk hi hc;have hlt:i<l.length:=by omega
  refine zD (AA hg) (Su g c) hC (MJ g c _ _ _ _ _) ?_;rw[fj hlt]at hc⊢;rw[Bg]at hc;have hc1:=pN hc;simp only[zH hlt,zu hlt,cw l _ hlt,ze.eta,Tr.val_brT,Tr.val_chkT,hc1.1,zq i ow];refine lP (λh=>?_) (λh=>?_)
  ·rw[nW,if_pos h];exact⟨rfl,rfl⟩
  ·rw[nW,if_neg (md h)];have h2:=hc1.2;rw[if_neg (md h)]at h2;exact IH (i+1) _ ow ow h2
def xI(g:ze->Int->Int->Bool×Int)(e:ze)(d n:Int):Bool×Int:=if(bif Q0 (d>12)then Q3 else bif Q0 (IntKind.i64.wrap (n+1)>60)then Q3 else(↑e.l.length:Int)!=cG e.op)=Q3 then(Q4,IntKind.i64.wrap (n+1))else if(e.op==[108,105,116])=Q3 then(bif e.s==[]then bd e.v else Q4,IntKind.i64.wrap (n+1))else if(e.op==[99,111,108])=Q3 then(bif aW e.v then bif dQ e.s then !iR e.s else Q4 else Q4,IntKind.i64.wrap (n+1))else if(bif !aW e.v then Q3 else !e.s==[])=Q3 then(Q4,IntKind.i64.wrap (n+1))else nW g d e.l (IntKind.i64.wrap (n+1))
def Mx(g:ze->Int->Int->Bool×Int)(c:ze->Int->Int->Bool)(e:ze)(d n:Int):Bool:=if(bif Q0 (d>12)then Q3 else bif Q0 (IntKind.i64.wrap (n+1)>60)then Q3 else(↑e.l.length:Int)!=cG e.op)=Q3 then Q3 else if(e.op==[108,105,116])=Q3 then Q3 else if(e.op==[99,111,108])=Q3 then Q3 else if(bif !aW e.v then Q3 else !e.s==[])=Q3 then Q3 else Bg g c d e.l (IntKind.i64.wrap (n+1))
theorem ZN{g:ze->Int->Int->Bool×Int}{c:ze->Int->Int->Bool}(hg:FK 247 (JP g c)):FK 247 (JP (xI g) (Mx g c)):=by
 refine dI (E:=NZ g c) (Su g c) λx h0 res hx C hC=>?_
 unfold zaB at hx;split at hx
 ·rename_i e d u n;simp only[Q8]at hx;split at hx
  ·rename_i hc;simp only[bw]at hx;subst hx;refine Reach.toBool ?_;refine zD (n0:=1) (AA hg) (Su g c) hC (zj4 g c e d n) ?_;generalize hy:xI g e d n=y;unfold xI at hy;unfold Mx at hc;repeat' (refine lP (λhsp=>?_) (λhsp=>?_)<;>first|(rw[if_pos hsp]at hy hc)|(rw[if_neg (md hsp)]at hy hc))
   all_goals subst hy
   ·exact⟨rfl,rfl⟩
   ·exact⟨rfl,rfl⟩
   ·exact⟨rfl,rfl⟩
   ·exact⟨rfl,rfl⟩
   ·exact Reach.len 73 .expr e.l rfl λhl=>zi9 hg hC d e.l hl _ 0 _ rfl (ba _) hc
  ·simp at hx
 ·simp at hx
mutual
def gV:Nat->ze->Int->Int->Bool×Int
 |0=>λ_ _ _=>(Q4,0)
 |n+1=>xI (gV n)
def tF:Nat->ze->Int->Int->Bool
 |0=>λ_ _ _=>Q4
 |n+1=>Mx (gV n) (tF n)
end
theorem Pp:∀n,FK 247 (JP (gV n) (tF n))
 | 0=>by
  have h:FK 247 (bh [Q2,Q1 .expr,Q1 zg] (λ_ _=>.err)):=dI (Su (λ_ _ _=>(Q4,0)) (λ_ _ _=>Q4)) (E:=Ma) λx h0 res hx=>by simp at hx
  refine xO (ι:=Unit) (Gs:=λ_ _ _=>.err) (λ_=>h) λx h0 res hx=>?_
  unfold zaB at hx;split at hx
  ·simp[Q8,tF]at hx
  ·simp at hx
 |n+1=>ZN (Pp n)
def F37:zX:=JP (gV 16) (tF 16)
theorem zer:FK 247 F37:=Pp 16
noncomputable def DK:=Ma.add 247 F37
theorem vq:zw DK:=DJ.add zer
abbrev iC:List (zA×AV):=[([97,110,100],.clo (.func 310) [] []),([111,114],.clo (.func 311) [] []),([110,111,116],.clo (.func 312) [] []),([61],.clo (.func 314) [] []),([60],.clo (.func 315) [] []),([43],.clo (.func 316) [] []),([45],.clo (.func 317) [] []),([110,117,108,108],.clo (.func 318) [] [])]
abbrev zkS:Nat->aM:=λ_=>{ }
theorem zhx:zI DK.P 283 Tryz.f283 0:=bQ kw
theorem zjV:(run DK 0 zkS (Func.results Tryz.f283).toList 400 (bq Tryz.f283) (bc (Func.ntmps Tryz.f283) [] [])).val=Q1 (zB.ret (AV.mp 0) [AO.fmap iC]):=kw
def G23:iv []:=λ_ h=>match h with
 |[]=>.ok (.mp 0,[.fmap iC])
 |_=>.err
def F23:zX:=bh [] G23
theorem zeh:FK 283 F23:=by
 refine dI zhx λx h0 res hx C hC=>?_
 unfold G23 at hx;split at hx
 ·simp only[Q8,bw]at hx;subst hx;exact ms (n0:=0) vq zhx hC zjV rfl
 ·simp at hx
def opV(op:zA)(x y:V):V:=if(op==[97,110,100])=Q3 then Df x y else if(op==[111,114])=Q3 then TR x y else if(op==[110,111,116])=Q3 then Nr x y else if(op==[61])=Q3 then lL x y else if(op==[60])=Q3 then ry x y else if(op==[43])=Q3 then rz x y else if(op==[45])=Q3 then lM x y else if(op==[110,117,108,108])=Q3 then Hd x y else(0,0,[])
def opC(op:zA):Bool:=if(op==[97,110,100])=Q3 then Q3 else if(op==[111,114])=Q3 then Q3 else if(op==[110,111,116])=Q3 then Q3 else if(op==[61])=Q3 then Q3 else if(op==[60])=Q3 then Q3 else if(op==[43])=Q3 then Q3 else if(op==[45])=Q3 then Q3 else if(op==[110,117,108,108])=Q3 then Q3 else Q4
def opL(op:zA)(x y:V)(h:List AO):Option zB:=if(op==[97,110,100])=Q3 then Q1 (.ret (zC zf (Df x y)) h)else if(op==[111,114])=Q3 then Q1 (.ret (zC zf (TR x y)) h)else if(op==[110,111,116])=Q3 then Q1 (.ret (zC zf (Nr x y)) h)else if(op==[61])=Q3 then Q1 (.ret (zC zf (lL x y)) h)else if(op==[60])=Q3 then Q1 (.ret (zC zf (ry x y)) h)else if(op==[43])=Q3 then Q1 (.ret (zC zf (rz x y)) h)else if(op==[45])=Q3 then Q1 (.ret (zC zf (lM x y)) h)else if(op==[110,117,108,108])=Q3 then Q1 (.ret (zC zf (Hd x y)) h)else Q2
def zaA(g:List (Sem zj)->List (Sem zf)->ze->V)(c:List (Sem zj)->List (Sem zf)->ze->Bool):iv [Q2,Q1 .expr]:=λx h=>match x,h with
 | (.agg [.sl (.pr .str (.pr (.int .i64) .bool)) cols,.sl (.pr (.int .i64) (.pr (.int .i64) .str)) row,.mp 0],e,_),[.fmap [(k1,.clo (.func 310) [] []),(k2,.clo (.func 311) [] []),(k3,.clo (.func 312) [] []),(k4,.clo (.func 314) [] []),(k5,.clo (.func 315) [] []),(k6,.clo (.func 316) [] []),(k7,.clo (.func 317) [] []),(k8,.clo (.func 318) [] [])]]=>
  .chk (k1==[97,110,100]&&(k2==[111,114]&&(k3==[110,111,116]&&(k4==[61]&&(k5==[60]&&(k6==[43]&&(k7==[45]&&(k8==[110,117,108,108])))))))) (.chk (c cols row e) (.ok (zC zf (g cols row e),[.fmap iC])))
 |_,_=>.err
def Nv(g:List (Sem zj)->List (Sem zf)->ze->V)(c:List (Sem zj)->List (Sem zf)->ze->Bool):zX:=bh [Q2,Q1 .expr] (zaA g c)
noncomputable def NX(g:List (Sem zj)->List (Sem zf)->ze->V)(c:List (Sem zj)->List (Sem zf)->ze->Bool):bT:=DK.add 284 (Nv g c)
theorem Ay{g:List (Sem zj)->List (Sem zf)->ze->V}{c:List (Sem zj)->List (Sem zf)->ze->Bool}(hg:FK 284 (Nv g c)):zw (NX g c):=vq.add hg
theorem Sq(g:List (Sem zj)->List (Sem zf)->ze->V)(c:List (Sem zj)->List (Sem zf)->ze->Bool):zI (NX g c).P 284 Tryz.f284 2:=bQ kw
theorem zbf(g:List (Sem zj)->List (Sem zf)->ze->V)(c:List (Sem zj)->List (Sem zf)->ze->Bool)(cols:LC)(row:LV)(op:zA)(v:V)(s:zA):(run (NX g c) 1 unr (Func.results Tryz.f284).toList 600 (bq Tryz.f284) (bc (Func.ntmps Tryz.f284) [agg [sl zj cols,sl zf row,AV.mp 0],zC Q5 (.mk op v s [])] [AO.fmap iC])).val=if(op==[108,105,116])=Q3 then Q1 (.ret (zC zf v) [.fmap iC])else if(op==[99,111,108])=Q3 then(if(bif Q0 (zY cols s<0)then Q3 else Q0 (zY cols s>=(↑row.length:Int)))=Q3 then Q1 (.ret (zC zf (0,0,[])) [.fmap iC])else if zP (zY cols s) row.length=Q3 then Q1 (.ret (zC zf (row.getD (toNat (zY cols s)) (zi zf))) [.fmap iC])else Q2)else opL op (0,0,[]) (0,0,[]) [.fmap iC]:=kw
theorem zbg(g:List (Sem zj)->List (Sem zf)->ze->V)(c:List (Sem zj)->List (Sem zf)->ze->Bool)(cols:LC)(row:LV)(op:zA)(v:V)(s:zA)(a:ze):(run (NX g c) 1 unr (Func.results Tryz.f284).toList 600 (bq Tryz.f284) (bc (Func.ntmps Tryz.f284) [agg [sl zj cols,sl zf row,AV.mp 0],zC Q5 (.mk op v s [a])] [AO.fmap iC])).val=if(op==[108,105,116])=Q3 then Q1 (.ret (zC zf v) [.fmap iC])else if(op==[99,111,108])=Q3 then(if(bif Q0 (zY cols s<0)then Q3 else Q0 (zY cols s>=(↑row.length:Int)))=Q3 then Q1 (.ret (zC zf (0,0,[])) [.fmap iC])else if zP (zY cols s) row.length=Q3 then Q1 (.ret (zC zf (row.getD (toNat (zY cols s)) (zi zf))) [.fmap iC])else Q2)else if c cols row (.mk a.op a.v a.s a.l)=Q3 then opL op (g cols row (.mk a.op a.v a.s a.l)) (0,0,[]) [.fmap iC]else Q2:=kw
theorem zbh(g:List (Sem zj)->List (Sem zf)->ze->V)(c:List (Sem zj)->List (Sem zf)->ze->Bool)(cols:LC)(row:LV)(op:zA)(v:V)(s:zA)(a b:ze):(run (NX g c) 1 unr (Func.results Tryz.f284).toList 600 (bq Tryz.f284) (bc (Func.ntmps Tryz.f284) [agg [sl zj cols,sl zf row,AV.mp 0],zC Q5 (.mk op v s [a,b])] [AO.fmap iC])).val=if(op==[108,105,116])=Q3 then Q1 (.ret (zC zf v) [.fmap iC])else if(op==[99,111,108])=Q3 then(if(bif Q0 (zY cols s<0)then Q3 else Q0 (zY cols s>=(↑row.length:Int)))=Q3 then Q1 (.ret (zC zf (0,0,[])) [.fmap iC])else if zP (zY cols s) row.length=Q3 then Q1 (.ret (zC zf (row.getD (toNat (zY cols s)) (zi zf))) [.fmap iC])else Q2)else if c cols row (.mk a.op a.v a.s a.l)=Q3 then(if c cols row (.mk b.op b.v b.s b.l)=Q3 then opL op (g cols row (.mk a.op a.v a.s a.l)) (g cols row (.mk b.op b.v b.s b.l)) [.fmap iC]else Q2)else Q2:=kw
theorem pB{Φ:zB->Prop}{c:Bool}{a b:Option zB}(h1:c=Q3->fW Φ a)(h2:c=Q4->fW Φ b):fW Φ (if c=Q3 then a else b):=by
 cases c
 ·simpa using h2 rfl
 ·simpa using h1 rfl
theorem wu{E:bT}{C:eP}{k:FuncId}{f:Func}{Q:AV->List AO->Prop}{n n0:Nat}(hE:zw E)(hf:zI E.P k f n)(hC:∀id,n0<=id->C.ρ0 id=Q2){keep:Nat->aM}{fuel:Nat}
  {todo:List Item} {st:St} {o:Option zB} (ht:(run E n0 keep f.results.toList fuel todo st).val=o) (h:fW (ju E C k Q) o):Reach E C k todo st Q:=
 zD hE hf hC rfl (by rw[ht];exact h)
theorem wb{E:bT}{C:eP}{op:zA}{x y:V}{h:List AO}(hc:opC op=Q3):fW (ju E C 284 (λr h'=>(r,h')=(zC zf (opV op x y),h))) (opL op x y h):=by
 generalize hy:opV op x y=z;unfold opC at hc;unfold opV at hy;unfold opL;repeat' (refine pB (λhsp=>?_) (λhsp=>?_)<;>first|(rw[if_pos hsp]at hy;try rw[if_pos hsp]at hc)|(rw[if_neg (md hsp)]at hy;try rw[if_neg (md hsp)]at hc))
 all_goals first|(cases hc;done)|(subst hy;rfl)
def qR(g:List (Sem zj)->List (Sem zf)->ze->V)(cols:LC)(row:LV):ze->V
 | .mk op v s l=>if (op==[108,105,116])=Q3 then v else
  if(op==[99,111,108])=Q3 then(if(bif Q0 (zY cols s<0)then Q3 else Q0 (zY cols s>=(↑row.length:Int)))=Q3 then(0,0,[])else row.getD (toNat (zY cols s)) (zi zf))else
  match l with
  |[]=>opV op (0,0,[]) (0,0,[])
  |[a]=>opV op (g cols row a) (0,0,[])
  |[a,b]=>opV op (g cols row a) (g cols row b)
  |_=>(0,0,[])
def uQ(c:List (Sem zj)->List (Sem zf)->ze->Bool)(cols:LC)(row:LV):ze->Bool
 |.mk _ _ _ (_::_::_::_)=>Q4
 | .mk op _ s l=>if (op==[108,105,116])=Q3 then Q3 else
  if(op==[99,111,108])=Q3 then(if(bif Q0 (zY cols s<0)then Q3 else Q0 (zY cols s>=(↑row.length:Int)))=Q3 then Q3 else zP (zY cols s) row.length)else
  match l with
  |[]=>opC op
  |[a]=>if c cols row a=Q3 then opC op else Q4
  |[a,b]=>if c cols row a=Q3 then(if c cols row b=Q3 then opC op else Q4)else Q4
  |_=>Q4
theorem Zv{g:List (Sem zj)->List (Sem zf)->ze->V}{c:List (Sem zj)->List (Sem zf)->ze->Bool}(hg:FK 284 (Nv g c)):FK 284 (Nv (qR g) (uQ c)):=by
 refine dI (E:=NX g c) (Sq g c) λx h0 res hx C hC=>?_
 unfold zaA at hx;split at hx
 ·rename_i cols row e u k1 k2 k3 k4 k5 k6 k7 k8;simp only[Q8]at hx;split at hx
  ·rename_i hk;split at hx
   ·rename_i hc;simp only[aD,aX]at hk;obtain⟨rfl,rfl,rfl,rfl,rfl,rfl,rfl,rfl⟩:=hk;simp only[bw]at hx;subst hx;obtain⟨op,v,s,l⟩:=e
    match l,hc with
    | [],hc=>
     refine wu (n0:=1) (Ay hg) (Sq g c) hC (zbf g c cols row op v s) ?_;generalize hy:qR g cols row (.mk op v s [])=z;rw[uQ]at hc;rw[qR]at hy;repeat' (first|(subst hy;exact wb hc)|refine pB (λhsp=>?_) (λhsp=>?_)<;>first|(first|rw[if_pos hsp]at hy hc|rw[if_pos hsp]at hc|rw[if_pos hsp]at hy)|(first|rw[if_neg (md hsp)]at hy hc|rw[if_neg (md hsp)]at hc|rw[if_neg (md hsp)]at hy)|skip)
     all_goals first|(subst hy;exact wb hc)|(subst hy;rfl)|(rw[hc]at hsp;cases hsp)
    | [a],hc=>
     refine wu (n0:=1) (Ay hg) (Sq g c) hC (zbg g c cols row op v s a) ?_;generalize hy:qR g cols row (.mk op v s [a])=z;rw[uQ]at hc;rw[qR]at hy;simp only[ze.eta];repeat' (first|(subst hy;exact wb hc)|refine pB (λhsp=>?_) (λhsp=>?_)<;>first|(first|rw[if_pos hsp]at hy hc|rw[if_pos hsp]at hc|rw[if_pos hsp]at hy)|(first|rw[if_neg (md hsp)]at hy hc|rw[if_neg (md hsp)]at hc|rw[if_neg (md hsp)]at hy)|skip)
     all_goals first|(subst hy;exact wb hc)|(subst hy;rfl)|(cases hc;done)|(rw[hc]at hsp;cases hsp)
    | [a,b],hc=>
     refine wu (n0:=1) (Ay hg) (Sq g c) hC (zbh g c cols row op v s a b) ?_;generalize hy:qR g cols row (.mk op v s [a,b])=z;rw[uQ]at hc;rw[qR]at hy;simp only[ze.eta];repeat' (first|(subst hy;exact wb hc)|refine pB (λhsp=>?_) (λhsp=>?_)<;>first|(first|rw[if_pos hsp]at hy hc|rw[if_pos hsp]at hc|rw[if_pos hsp]at hy)|(first|rw[if_neg (md hsp)]at hy hc|rw[if_neg (md hsp)]at hc|rw[if_neg (md hsp)]at hy)|skip)
     all_goals first|(subst hy;exact wb hc)|(subst hy;rfl)|(cases hc;done)|(rw[hc]at hsp;cases hsp)
    | _::_::_::_,hc=>
     cases hc
   ·simp at hx
  ·simp at hx
 ·simp at hx
mutual
def dh:Nat->List (Sem zj)->List (Sem zf)->ze->V
 |0=>λ_ _ _=>(0,0,[])
 |n+1=>qR (dh n)
def uP:Nat->List (Sem zj)->List (Sem zf)->ze->Bool
 |0=>λ_ _ _=>Q4
 |n+1=>uQ (uP n)
end
theorem Pn:∀n,FK 284 (Nv (dh n) (uP n))
 | 0=>by
  have h:FK 284 (bh [Q2,Q1 .expr] (λ_ _=>.err)):=dI (Sq (λ_ _ _=>(0,0,[])) (λ_ _ _=>Q4)) (E:=DK) λx h0 res hx=>by simp at hx
  refine xO (ι:=Unit) (Gs:=λ_ _ _=>.err) (λ_=>h) λx h0 res hx=>?_
  unfold zaA at hx;split at hx
  ·simp[Q8,uP]at hx
  ·simp at hx
 |n+1=>Zv (Pn n)
def F24:zX:=Nv (dh 16) (uP 16)
theorem zei:FK 284 F24:=Pn 16
noncomputable def DL:=DK.addL [(283,F23),(284,F24)]
theorem vt:zw DL:=vq.addL<|fc zeh<|fc zei jj
abbrev zkR:Nat->aM:=λ_=>{ }
theorem zhw:zI (DL).P 200 Tryz.f200 1:=bQ kw
theorem zjU(x0:Sem Q5):rn DL 0 zkR Tryz.f200 [zC Q5 x0] []=Qc (tF 16 (zm x0) 1 0) (Tr.ok (zB.ret (AV.bool (gV 16 (zm x0) 1 0).1) [])):=kw
def cW(x0:Sem Q5):Sem Q7:=(gV 16 x0 1 0).1
def wV(x0:Sem Q5):Bool:=if tF 16 x0 1 0=Q3 then Q3 else Q4
def F22:zX:=zO [Q5] [Q7] (λx=>wV x.1) λx=>(cW x.1,())
theorem XB:FK 200 F22:=by
 refine aI (zhw) λx hc C hC=>?_
 unfold wV at hc;refine zD vt (zhw) (λid _=>hC id) (zjU x.1) ?_;generalize hy:cW x.1=y;unfold cW at hy
 try simp only[ze.eta]
 repeat' (first|with_reducible refine tL hy hc (λ_ hy hc=>?_) (λ_ hy hc=>?_)|with_reducible refine cZ hy (λ_ hy=>?_) (λ_ hy=>?_)|with_reducible refine ig hc (λhc=>?_)|with_reducible refine zJ ?_)
 all_goals(subst hy;first|rfl)
abbrev kp7:Nat->aM:=λ_=>{ }
theorem ok7:zI (DL).P 41 Tryz.f41 1:=bQ kw
theorem go7(x0:Sem Q5):rn DL 0 kp7 Tryz.f41 [zC Q5 x0] []=Qc (Id 16 (zm x0) 14 80) (Tr.ok (zB.ret (agg [str (ze.op (qN 16 (zm x0) 14 80).1),ai (ze.v (qN 16 (zm x0) 14 80).1).1,ai (ze.v (qN 16 (zm x0) 14 80).1).2.1,str (ze.v (qN 16 (zm x0) 14 80).1).2.2,str (ze.s (qN 16 (zm x0) 14 80).1),sl Q5 (ze.l (qN 16 (zm x0) 14 80).1)]) [])):=kw
def gB(x0:Sem Q5):Sem Q5:=ze.mk (ze.op (qN 16 x0 14 80).1) (ze.v (qN 16 x0 14 80).1) (ze.s (qN 16 x0 14 80).1) (ze.l (qN 16 x0 14 80).1)
def L8(x0:Sem Q5):Bool:=if Id 16 x0 14 80=Q3 then Q3 else Q4
def F7:zX:=zO [Q5] [Q5] (λx=>L8 x.1) λx=>(gB x.1,())
theorem zeW:FK 41 F7:=by
 refine aI (ok7) λx hc C hC=>?_
 unfold L8 at hc;refine zD vt (ok7) (λid _=>hC id) (go7 x.1) ?_;generalize hy:gB x.1=y;unfold gB at hy
 try simp only[ze.eta]
 repeat' (first|with_reducible refine tL hy hc (λ_ hy hc=>?_) (λ_ hy hc=>?_)|with_reducible refine cZ hy (λ_ hy=>?_) (λ_ hy=>?_)|with_reducible refine ig hc (λhc=>?_)|with_reducible refine zJ ?_)
 all_goals(subst hy;first|rfl)
noncomputable def DM:=DL.addL [(200,F22),(41,F7)]
theorem vu:zw DM:=vt.addL<|fc XB<|fc zeW jj
abbrev zkT:Nat->aM:=λ_=>{ }
theorem zhA:zI (DM).P 151 Tryz.f151 2:=bQ kw
theorem zjZ(x0:Sem Q5)(x1:Sem zj.sl):rn DM 0 zkT Tryz.f151 [zC Q5 x0,zC zj.sl x1] []=Qc (wV (zm x0)) (br (!cW (zm x0)) (Tr.ok (zB.ret (tup [ai 0,ai 1]) [])) (Qc (aZ 16 (zm x0) x1) (Tr.ok (zB.ret (tup [ai (zL 16 (zm x0) x1).1,ai (zL 16 (zm x0) x1).2]) [])))):=kw
def bD(x0:Sem Q5)(x1:Sem zj.sl):Sem zg×Sem zg:=if(!cW x0)=Q3 then(0,1)else((zL 16 x0 x1).1,(zL 16 x0 x1).2)
def Fl(x0:Sem Q5)(x1:Sem zj.sl):Bool:=if wV x0=Q3 then if(!cW x0)=Q3 then Q3 else if aZ 16 x0 x1=Q3 then Q3 else Q4 else Q4
def F30:zX:=zO [Q5,zj.sl] [zg,zg] (λx=>Fl x.1 x.2.1) λx=>((bD x.1 x.2.1).1,(bD x.1 x.2.1).2,())
theorem XC:FK 151 F30:=by
 refine aI (zhA) λx hc C hC=>?_
 unfold Fl at hc;refine zD vu (zhA) (λid _=>hC id) (zjZ x.1 x.2.1) ?_;generalize hy:bD x.1 x.2.1=y;unfold bD at hy
 try simp only[ze.eta]
 repeat' (first|with_reducible refine tL hy hc (λ_ hy hc=>?_) (λ_ hy hc=>?_)|with_reducible refine cZ hy (λ_ hy=>?_) (λ_ hy=>?_)|with_reducible refine ig hc (λhc=>?_)|with_reducible refine zJ ?_)
 all_goals(subst hy;first|rfl)
abbrev zkQ:Nat->aM:=λ_=>{ }
theorem zhq:zI (DM).P 244 Tryz.f244 3:=bQ kw
theorem zjO(x0:Sem Q5)(x1:Sem zj.sl)(x2:Sem zf.sl):rn DM 0 zkQ Tryz.f244 [zC Q5 x0,zC zj.sl x1,zC zf.sl x2] []=Qc (wV (zm x0)) (br (!cW (zm x0)) (Tr.ok (zB.ret (agg [ai 0,ai 0,str []]) [])) (Qc ([97,110,100]==[97,110,100]&&([111,114]==[111,114]&&([110,111,116]==[110,111,116]&&([61]==[61]&&([60]==[60]&&([43]==[43]&&([45]==[45]&&[110,117,108,108]==[110,117,108,108]))))))) (Qc (uP 16 x1 x2 (zm x0)) (Tr.ok (zB.ret (agg [ai (dh 16 x1 x2 (zm x0)).1,ai (dh 16 x1 x2 (zm x0)).2.1,str (dh 16 x1 x2 (zm x0)).2.2]) []))))):=kw
def jG(x0:Sem Q5)(x1:Sem zj.sl)(x2:Sem zf.sl):Sem zf:=if(!cW x0)=Q3 then(0,0,[])else dh 16 x1 x2 x0
def Fj(x0:Sem Q5)(x1:Sem zj.sl)(x2:Sem zf.sl):Bool:=if wV x0=Q3 then if(!cW x0)=Q3 then Q3 else if([97,110,100]==[97,110,100]&&([111,114]==[111,114]&&([110,111,116]==[110,111,116]&&([61]==[61]&&([60]==[60]&&([43]==[43]&&([45]==[45]&&[110,117,108,108]==[110,117,108,108])))))))=Q3 then if uP 16 x1 x2 x0=Q3 then Q3 else Q4 else Q4 else Q4
def F11:zX:=zO [Q5,zj.sl,zf.sl] [zf] (λx=>Fj x.1 x.2.1 x.2.2.1) λx=>(jG x.1 x.2.1 x.2.2.1,())
theorem Xy:FK 244 F11:=by
 refine aI (zhq) λx hc C hC=>?_
 unfold Fj at hc;refine zD vu (zhq) (λid _=>hC id) (zjO x.1 x.2.1 x.2.2.1) ?_;generalize hy:jG x.1 x.2.1 x.2.2.1=y;unfold jG at hy
 try simp only[ze.eta]
 repeat' (first|with_reducible refine tL hy hc (λ_ hy hc=>?_) (λ_ hy hc=>?_)|with_reducible refine cZ hy (λ_ hy=>?_) (λ_ hy=>?_)|with_reducible refine ig hc (λhc=>?_)|with_reducible refine zJ ?_)
 all_goals(subst hy;first|rfl)
noncomputable def XM:=DM.addL [(151,F30),(244,F11)]
theorem N5:zw XM:=vu.addL<|fc XC<|fc Xy jj
theorem kS(d:Int)(h1:-1000<=d)(h2:d<=1000):IntKind.i64.wrap d=d:=by
 rw[fK];omega
theorem FE{P:Nat->ze->ze->Prop}(hP:∀N e(o t s:zA)(l:List ze),(∀y∈l,∃x∈ze.l e,P N x y)->l.length<=3->t.length<=45->s.length<=20->P (N+1) e (.mk o ((ze.v e).1,(ze.v e).2.1,t) s l)):
  ∀(N:Nat)(e:ze)(d n:Int),0<=d->d<N->N<=100->∃r m,nU N e d n=Q1 (r,m,())/\P N e r
 |0,_,_,_,h1,h2,_=>by omega
 | N + 1,e,d,n,h1,h2,h3=>by
  have IH:∀x m,0<d->∃r k,nU N x (IntKind.i64.wrap (d-1)) m=Q1 (r,k,())/\P N x r:=λx m hd=>by
   rw[kS _ ow ow];exact FE hP N x (d-1) m ow ow ow
  generalize hg:(λx0 x1 x2=>HQ (nU N x0 x1 x2))=g;generalize hc:(λx0 x1 x2=>(nU N x0 x1 x2).isSome)=c
  have key:∀(k i:Nat)(n:Int)(acc:List ze)(z1:zn nT)(o t s:zA),i+k=3->acc.length=i->(∀y∈acc,∃x∈ze.l e,P N x y)->
    ∃m r n',zV (uF g c) m (.h10 d n (i:Int) (e,()) z1 (o,(ze.v e).1,(ze.v e).2.1,t,s,acc,())) (.tup [.agg [.str o,.int .i64 (ze.v e).1,.int .i64 (ze.v e).2.1,.str t,.str s,.vec 0],.int .i64 n'],[.vec .expr r])/\m<=k+1/\(∀y∈r,∃x∈ze.l e,P N x y)/\r.length<=3:=by
   intro k
   induction k with
   | zero=>
    intro i n acc z1 o t s hi ha hq;refine⟨1,acc,n,zV.of ?_,ow,hq,ow⟩;have h3:Q0 ((i:Int)<3)=Q4:=by simp;omega
    simp only[uF,Q8,h3,ay,Bool.cond_self,zG,if_false]
   | succ k ih=>
    intro i n acc z1 o t s hi ha hq;by_cases hb:(bif Q0 ((i:Int)<(↑(ze.l e).length:Int))then bif Q0 ((i:Int)<3)then bif Q0 (d>0)then Q0 (n>0)else Q4 else Q4 else Q4)=Q3
    ·have hl:i<(ze.l e).length/\0<d:=by
      cases h1:Q0 ((i:Int)<(↑(ze.l e).length:Int))<;>cases h2:Q0 ((i:Int)<3)<;>cases h3:Q0 (d>0)<;>simp_all
     obtain⟨r,m,e1,e2⟩:=IH (ze.l e)[i] n hl.2;have gx:g (ze.l e)[i] (IntKind.i64.wrap (d-1)) n=(r,m):=by rw[<-hg];simp only[e1];rfl
     have cx:c (ze.l e)[i] (IntKind.i64.wrap (d-1)) n=Q3:=by rw[<-hc];simp only[e1];rfl
     obtain⟨m2,r2,n2,k1,k2,k3,k4⟩:=ih (i+1) m (acc++[r]) z1 o t s ow sg (λy hy=>by
      rcases cK.1 hy with hy|hy
      ·exact hq y hy
      ·rw[fX]at hy;exact⟨_,bC hl.1,hy▸e2⟩)
     refine⟨m2+1,r2,n2,(zR.of ?_).ends k1,?_,k3,k4⟩
     ·have hn:(acc.length+[zm r].length<=1073741824):=by simp;omega
      have hin:zP (i:Int) (ze.l e).length=Q3:=by simp[zP,hl.1]
      have hgd:getD (ze.l e) (toNat (i:Int)) (zi Q5)=(ze.l e)[i]:=by rw[aJ,aY,zQ hl.1,dn]
      simp only[uF,Q8,hb,hin,hgd,zl,gx,cx,if_true];rw[zl]at hn;rw[if_pos (zt hn),zq i um]
     ·omega
    ·refine⟨1,acc,n,zV.of ?_,ow,hq,ow⟩;simp only[uF,Q8];rw[if_neg hb]
  have h8:∀(z1:zn nT)(o t s:zA),t.length<=45->s.length<=20->∃r m R,zV (uF g c) 101 (.h500008 d (IntKind.i64.wrap (n-1)) (e,()) z1 (o,(ze.v e).1,(ze.v e).2.1,t,s,())) R/\aL R.2 [Q5,zg] R.1=Q1 (r,m,())/\P (N+1) e r:=λz1 o t s ht hs=>by
   obtain⟨m,r,n',k1,k2,k3,k4⟩:=key 3 0 (IntKind.i64.wrap (n-1)) [] z1 o t s rfl rfl sw;exact⟨.mk o ((ze.v e).1,(ze.v e).2.1,t) s r,n',_,((zR.of rfl).ends k1).mono ow,rfl,hP N e o t s r k3 k4 ht hs⟩
  have h6:∀(z1:zn nT)(o s:zA),s.length<=20->∃r m R,zV (uF g c) 102 (.h500006 d n (Q0 ((↑(length (ze.v e).2.2):Int)>45)) (e,()) z1 (o,(ze.v e).1,(ze.v e).2.1,(ze.v e).2.2,s,())) R/\aL R.2 [Q5,zg] R.1=Q1 (r,m,())/\P (N+1) e r:=λz1 o s hs=>by
   by_cases hb:(length (ze.v e).2.2:Int)>45
   ·obtain⟨r,m,R,e1,e2,e3⟩:=h8 z1 o (Qg (toNat 45-toNat 0) (Qh (toNat 0) (ze.v e).2.2)) s sg hs;refine⟨r,m,R,(zR.of ?_).ends e1,e2,e3⟩;have h45:Q0 ((45:Int)<=(length (ze.v e).2.2:Int))=Q3:=by simp;omega
    simp only[uF,Q8,zt hb,h45,if_true];rfl
   ·obtain⟨r,m,R,e1,e2,e3⟩:=h8 z1 o (ze.v e).2.2 s ow hs;refine⟨r,m,R,(zR.of ?_).ends e1,e2,e3⟩;simp only[uF,Q8,ah hb,zG,if_false]
  have h4:∀(z1:zn nT)(o:zA),∃r m R,zV (uF g c) 103 (.h500004 d n (Q0 ((↑(length (ze.s e)):Int)>20)) (e,()) z1 (o,(ze.v e).1,(ze.v e).2.1,(ze.v e).2.2,ze.s e,())) R/\aL R.2 [Q5,zg] R.1=Q1 (r,m,())/\P (N+1) e r:=λz1 o=>by
   by_cases hb:(length (ze.s e):Int)>20
   ·obtain⟨r,m,R,e1,e2,e3⟩:=h6 z1 o (Qg (toNat 20-toNat 0) (Qh (toNat 0) (ze.s e))) sg;refine⟨r,m,R,(zR.of ?_).ends e1,e2,e3⟩;have h20:Q0 ((20:Int)<=(length (ze.s e):Int))=Q3:=by simp;omega
    simp only[uF,Q8,zt hb,h20,if_true];rfl
   ·obtain⟨r,m,R,e1,e2,e3⟩:=h6 z1 o (ze.s e) ow;refine⟨r,m,R,(zR.of ?_).ends e1,e2,e3⟩;simp only[uF,Q8,ah hb,zG,if_false]
  have e0:nU (N+1) e d n=zfK g c e d n:=by rw[<-hg,<-hc];rfl
  rw[e0];by_cases hb:(length (ze.op e):Int)>8
  ·obtain⟨r,m,R,e1,e2,e3⟩:=h4 ([],0,0,[],[],()) (Qg (toNat 8-toNat 0) (Qh (toNat 0) (ze.op e)));refine⟨r,m,zx ?_ e1 ow e2,e3⟩;have h8:Q0 ((8:Int)<=(length (ze.op e):Int))=Q3:=by simp;omega
   simp only[Rq,Q8,zt hb,h8,if_true];rfl
  ·obtain⟨r,m,R,e1,e2,e3⟩:=h4 ([],0,0,[],[],()) (ze.op e);refine⟨r,m,zx ?_ e1 ow e2,e3⟩;simp only[Rq,Q8,ah hb,zG,if_false]
theorem Kr(N:Nat)(e:ze)(d n:Int)(h1:0<=d)(h2:d<N)(h3:N<=100):Id N e d n=Q3:=by
 obtain⟨r,m,h,_⟩:=FE (P:=λ_ _ _=>True) (λ_ _ _ _ _ _ _ _ _ _=>trivial) N e d n h1 h2 h3;unfold Id;rw[h];rfl
theorem Bh{g:ze->Int->Int->Bool×Int}{c:ze->Int->Int->Bool}{d:Int}(h:∀x n,c x (IntKind.i64.wrap (d+1)) n=Q3):∀(l:List ze)(n:Int),Bg g c d l n=Q3
 |[],_=>rfl
 | x::r,n=>by
  rw[Bg,if_pos (h x n)];split
  ·rfl
  ·exact Bh h r _
theorem Bf:∀(N:Nat)(e:ze)(d n:Int),0<=d->d<=13->14<=d+N->tF N e d n=Q3
 |0,_,_,_,_,_,_=>by omega
 | N+1,e,d,n,h1,h2,h3=>by
  rw[tF];unfold Mx;by_cases hd:d>12
  ·simp[hd]
  ·have hl:Bg (gV N) (tF N) d e.l (IntKind.i64.wrap (n+1))=Q3:=Bh (λx m=>by
    rw[kS _ ow ow];exact Bf N x (d+1) m ow ow ow) _ _
   repeat' split
   all_goals first|rfl|exact hl
abbrev vZ:ze:=.mk [] (0,0,[]) [] []
theorem Ll(N:Nat)(e:ze):iU (N+1) e vZ=Q3:=by
 rw[iU];unfold GK;have hl:wY (ff N) (iU N) e.l []=Q3:=by
  unfold wY;split
  ·rfl
  ·cases e.l<;>rfl
 show(bif e.op==[]then bif TP e.v (0,0,[])then bif e.s==[]then wY (ff N) (iU N) e.l []else Q3 else Q3 else Q3)=Q3;rw[hl];cases e.op==[]<;>cases TP e.v (0,0,[])<;>cases e.s==[]<;>rfl
theorem g8{α:Type}(p:α->Bool):∀(l:List α)(i:Nat),ae p l i=-1\/((i:Int)<=ae p l i/\ae p l i<i+l.length)
 |[],_=>.inl rfl
 | x::r,i=>by
  unfold ae;split
  ·exact .inr ⟨ow,sg⟩
  ·rcases g8 p r (i+1)with h|⟨h1,h2⟩
   ·exact .inl h
   ·exact .inr ⟨ow,sg⟩
theorem Fg(l:List (Sem zj))(s:zA):zY l s=-1\/(0<=zY l s/\zY l s<l.length):=by
 have:=g8 (λc:Sem zj=>c.1==s) l 0;unfold zY;simpa using this
theorem lq(op:zA):(cG op=0/\(op=[108,105,116]\/op=[99,111,108]))\/(cG op=1/\(op=[110,111,116]\/op=[110,117,108,108]))\/
  (cG op=2/\(op=[97,110,100]\/op=[111,114]\/op=[61]\/op=[60]\/op=[43]\/op=[45]))\/cG op=-1:=by
 unfold cG xp;simp only[Nk];repeat' split
 all_goals simp_all
theorem vY{g:ze->Int->Int->Bool×Int}{e:ze}{d n:Int}(h:(xI g e d n).1=Q3):(e.l.length:Int)=cG e.op/\
  ((e.op=[108,105,116]\/e.op=[99,111,108])\/(nW g d e.l (IntKind.i64.wrap (n+1))).1=Q3):=by
 unfold xI at h;split at h
 ·cases h
 ·rename_i h1;have hl:(e.l.length:Int)=cG e.op:=by
   cases h2:Q0 (d>12)<;>cases h3:Q0 (IntKind.i64.wrap (n+1)>60)<;>simp_all
  refine⟨hl,?_⟩;split at h
  ·rename_i h2;exact .inl (.inl (by simpa using h2))
  ·split at h
   ·rename_i h2;exact .inl (.inr (by simpa using h2))
   ·split at h
    ·cases h
    ·exact .inr h
theorem tH{g:ze->Int->Int->Bool×Int}{d:Int}:∀(l:List ze)(n:Int),(nW g d l n).1=Q3->∀x∈l,∃m,(g x (IntKind.i64.wrap (d+1)) m).1=Q3
 |[],_,_,_,hx=>by simp at hx
 | y::r,n,h,x,hx=>by
  rw[nW]at h;split at h
  ·cases h
  ·rename_i hy;rcases ce.1 hx with rfl|hx
   ·exact⟨n,by simpa using hy⟩
   ·exact tH r _ h x hx
theorem xA{g:ze->List (Sem zj)->Int×Int}{c:ze->List (Sem zj)->Bool}{cols:List (Sem zj)}{op:zA}{a1 a2:Int}{a3 a4:zA}{w:List ze}:
    ∀(l:List ze)(i:Int)(acc:List Int),(∀x∈l,c x cols=Q3)->((acc.length:Int)+l.length)=cG op->fG g c cols op a1 a2 a3 a4 w l i acc=Q3
  | [], i,acc,_,hp=>by
    have hp:(acc.length:Int)=cG op:=by simpa using hp
    have hcp:Q0 (zY cols a4<0)=Q3\/zP (zY cols a4) cols.length=Q3:=by
      rcases Fg cols a4 with h|⟨h1,h2⟩
      · exact .inl (by rw[h];rfl)
      · exact .inr (by simp[zP,h1,h2])
    have h2:op=[61]\/op=[60]->acc.length=2:=by
      rintro(rfl|rfl)
      · have:cG [61]=2:=by decide
        omega
      · have:cG [60]=2:=by decide
        omega
    unfold fG;repeat' split
    all_goals first
      |rfl
      |(exfalso;rcases hcp with h|h<;>simp_all;done)
      | (exfalso
         rename_i h7 h8;have h9:=h2 (by simp_all);rw[h9]at h8;exact h8 (by cases hA:(acc.getD (toNat 0) (zi zg)==acc.getD (toNat 1) (zi zg))<;>cases hB:(acc.getD (toNat 0) (zi zg)==0)<;>rfl))
  | x :: r,i,acc,hc,hp=>by
    have hle:cG op<=2:=by rcases lq op with h|h|h|h<;>omega
    rw[fG,if_pos (hc x sw)];split
    · rfl
    · rw[if_pos (by simp at hp⊢;omega)]
      exact xA r (i+1) _ (λy hy=>hc y (by simp[hy])) (by simp at hp⊢;omega)
theorem uL:∀(N:Nat)(e:ze)(d n:Int)(cols:List (Sem zj)),(gV N e d n).1=Q3->aZ N e cols=Q3
 |0,_,_,_,_,h=>by cases h
 | N+1,e,d,n,cols,h=>by
  rw[gV]at h;obtain⟨hl,h2⟩:=vY h;rw[aZ];unfold yQ;refine xA e.l 0 [] (λx hx=>?_) (by simpa using hl);rcases h2 with h2|h2
  ·exfalso;have:cG e.op=0:=by
    rcases h2 with h2|h2<;>rw[h2]<;>decide
   rw[this]at hl;have:e.l=[]:=xE ow;rw[this]at hx;simp at hx
  ·obtain⟨m,hm⟩:=tH e.l _ h2 x hx;exact uL N x _ _ cols hm
theorem CL:∀(N:Nat)(e:ze)(d n:Int)(cols:List (Sem zj))(row:List (Sem zf)),(gV N e d n).1=Q3->uP N cols row e=Q3
 |0,_,_,_,_,_,h=>by cases h
 | N + 1,.mk op v s l,d,n,cols,row,h=>by
  rw[gV]at h;obtain⟨hl,h2⟩:=vY h;have hl:(l.length:Int)=cG op:=hl;have h2:(op=[108,105,116]\/op=[99,111,108])\/(nW (gV N) d l (IntKind.i64.wrap (n+1))).1=Q3:=h2;have hx:∀x∈l,(¬(op=[108,105,116]\/op=[99,111,108]))->uP N cols row x=Q3:=by
   intro x hx hno;rcases h2 with h2|h2
   ·exact(hno h2).elim
   ·obtain⟨m,hm⟩:=tH l _ h2 x hx;exact CL N x _ _ cols row hm
  have hcol:(if(bif Q0 (zY cols s<0)then Q3 else Q0 (zY cols s>=(↑row.length:Int)))=Q3 then Q3 else zP (zY cols s) row.length)=Q3:=by
   split
   ·rfl
   ·rename_i hh;have h1:0<=zY cols s/\zY cols s<row.length:=by
     cases hq:Q0 (zY cols s<0)
     ·rw[hq]at hh;simp at hq hh;exact⟨hq,hh⟩
     ·rw[hq]at hh;simp at hh
    simp[zP,h1.1,h1.2]
  rw[uP];rcases lq op with⟨hp,ho⟩|⟨hp,ho⟩|⟨hp,ho⟩|hp
  ·have:l=[]:=xE ow;subst this;rcases ho with rfl|rfl
   ·rfl
   ·rw[uQ];exact hcol
  ·match l,hl,hx with
   | [a],_,hx=>
    rcases ho with rfl|rfl
    ·rw[uQ];exact(if_pos (hx a sw (by decide))).trans rfl
    ·rw[uQ];exact(if_pos (hx a sw (by decide))).trans rfl
   |[],hl,_=>simp at hl;omega
   |_::_::_,hl,_=>simp at hl;omega
  ·match l,hl,hx with
   | [a,b],_,hx=>
    rcases ho with rfl|rfl|rfl|rfl|rfl|rfl<;>
     (rw[uQ];exact(if_pos (hx a sw (by decide))).trans ((if_pos (hx b sw (by decide))).trans rfl))
   |[],hl,_=>simp at hl;omega
   |[_],hl,_=>simp at hl;omega
   |_::_::_::_,hl,_=>simp at hl;omega
  ·omega
theorem rP(e:ze):wV e=Q3:=by
 unfold wV;rw[if_pos (Bf 16 e 1 0 ow ow ow)]
theorem J9(e:ze):L8 e=Q3:=by
 unfold L8;rw[if_pos (Kr 16 e 14 80 ow ow ow)]
theorem HR(e:ze)(cols:List (Sem zj)):Fl e cols=Q3:=by
 unfold Fl;rw[if_pos (rP e)];split
 ·rfl
 ·rename_i h;rw[if_pos (uL 16 e 1 0 cols (by simpa[cW]using h))]
theorem HP(e:ze)(cols:List (Sem zj))(row:List (Sem zf)):Fj e cols row=Q3:=by
 unfold Fj;rw[if_pos (rP e)];split
 ·rfl
 ·rename_i h;rw[if_pos (by decide),if_pos (CL 16 e 1 0 cols row (by simpa[cW]using h))]
def zdd:zX:=aC [Q5] [Q7] λx=>(cW x.1,())
theorem Zt:FK 200 zdd:=mG XB λx=>rP x.1
def F7t:zX:=aC [Q5] [Q5] λx=>(gB x.1,())
theorem ze4:FK 41 F7t:=mG zeW λx=>J9 x.1
def zdn:zX:=aC [Q5,zj.sl] [zg,zg] λx=>((bD x.1 x.2.1).1,(bD x.1 x.2.1).2,())
theorem ZF:FK 151 zdn:=mG XC λx=>HR x.1 x.2.1
def zcS:zX:=aC [Q5,zj.sl,zf.sl] [zf] λx=>(jG x.1 x.2.1 x.2.2.1,())
theorem Y8:FK 244 zcS:=mG Xy λx=>HP x.1 x.2.1 x.2.2.1
noncomputable def XN:=XM.addL [(200,zdd),(41,F7t),(151,zdn),(244,zcS)]
theorem vw:zw XN:=N5.addL<|fc Zt<|fc ze4<|fc ZF<|fc Y8 jj
noncomputable section
set_option maxHeartbeats 4000000
abbrev sY:List CP:=[.d zo]
abbrev Vf:List CP:=[.d .str,.nil,.d zg,.nil,.nil,.d .str,.d zg,.d zg,.d .str,.d .str,.nil]
abbrev zfx:List CP:=[.d .str,.d (.sl zj),.d zg,.vec zg,.nil,.d .expr]
abbrev zfy:List CP:=[.d .str,.d (.sl zj),.d zg,.vec zg,.vec zr,.d .expr]
def Ri(x0:Sem Q5)(x1:Sem zj.sl):Tr (Empty⊕aw):=Qc (iU 16 (zm x0) (ze.mk [] (0,0,[]) [] [])) (br (ff 16 (zm x0) (ze.mk [] (0,0,[]) [] [])) (re (ai 0) []) (br (bif (bD (zm x0) x1).2==0 then bif (bD (zm x0) x1).1!=3 then(bD (zm x0) x1).1!=0 else Q4 else Q4) (re (ai 5) []) (re (ai (bD (zm x0) x1).2) [])))
def Jt(x0:Sem Q5)(x1:Sem zj.sl):=al [zg] t0 100000000 (Ri x0 x1)
def Xo:=FT [Q5,zj.sl] [zg] λx=>Jt x.1 x.2.1
theorem LL:FK 170 Xo:=vw.T1 (f:=Tryz.f170) (keep:=k0) (e:=e0)
abbrev zg7:Nat->aM:=λj=>if j=3 then{slots:=[1,2,3,4],prom:=[(3,Q1 3,zg)]}else if j=7 then{slots:=[1,2,3,5],prom:=[(3,Q1 4,zr)]}else{ }
inductive Hr where
 |h3 (i4:Int) (z0:zn sY) (z1:zn Vf) (z2:zn zfx)
 |h7 (i5:Int) (z0:zn sY) (z1:zn Vf) (z2:zn zfy)
abbrev zjA:Hr->Nat×St
 |.h3 i4 z0 z1 z2=>(3,⟨tm 70 [(1,ptr 0 0),(2,ptr 1 0),(3,ptr 2 0),(4,ai i4)],[Qa (bx [] sY z0),Qa (bx [] Vf z1),Qa (bx [3] zfx z2),AO.vec zg z2.2.2.2.1]⟩)
 |.h7 i5 z0 z1 z2=>(7,⟨tm 70 [(1,ptr 0 0),(2,ptr 1 0),(3,ptr 2 0),(5,ai i5)],[Qa (bx [] sY z0),Qa (bx [] Vf z1),Qa (bx [3,4] zfy z2),AO.vec zg z2.2.2.2.1,AO.vec zr z2.t.1]⟩)
def zbx(x0:Sem zo):Tr (Hr⊕aw):=Q9 (Hr.h3 0 (x0,()) ([],0,[],0,0,[],[],()) (iT x0.1,jl x0.2.1,x0.2.2.1,[],gB (zm x0.t.2),()))
def G3:Hr->Tr (Hr⊕aw)
 | .h3 i4 z0 z1 z2=>
  let a0:=(↑(length z0.1.2.2.2.1):Int)
  let a1:=[getD z0.1.2.2.2.1 i4.toNat (zi zg)]
  br (bif Q0 (i4<a0)then Q0 (i4<10)else Q4)
  (Qc (zP i4 (length z0.1.2.2.2.1)) (Qc (Q0 (z2.2.2.2.1.length+a1.length<=1073741824)) (Q9 (Hr.h3 (IntKind.i64.wrap (i4+1)) z0 z1 (z2.1,z2.2.1,z2.2.2.1,z2.2.2.2.1++a1,z2.t)))))
  (Q9 (Hr.h7 0 z0 z1 (z2.1,z2.2.1,z2.2.2.1,z2.2.2.2.1,[],z2.t)))
 | .h7 i5 z0 z1 z2=>
  let a0:=(↑(length z0.1.t.1):Int)
  let a1:=zP i5 (length z0.1.t.1)
  let a2:=getD z0.1.t.1 i5.toNat (zi zr)
  let a3:=[(a2.1,iT a2.2)]
  br (bif Q0 (i5<a0)then Q0 (i5<10)else Q4)
  (Qc a1 (Qc a1 (Qc (Q0 (z2.t.1.length+a3.length<=1073741824)) (Q9 (Hr.h7 (IntKind.i64.wrap (i5+1)) z0 z1 (z2.1,z2.2.1,z2.2.2.1,z2.2.2.2.1,z2.t.1++a3,z2.t.2))))))
  (re (agg [str z2.1,sl zj z2.2.1,ai z2.2.2.1,AV.vec 0,AV.vec 1,str (ze.op z2.t.2.1),ai (ze.v z2.t.2.1).1,ai (ze.v z2.t.2.1).2.1,str (ze.v z2.t.2.1).2.2,str (ze.s z2.t.2.1),sl Q5 (ze.l z2.t.2.1)]) [AO.vec zg z2.2.2.2.1,AO.vec zr z2.t.1])
def Tu(x0:Sem zo):=al [zo] G3 100000000 (zbx x0)
def zdT:=FT [zo] [zo] λx=>Tu x.1
theorem Ps:FK 70 zdT:=vw.T1 (f:=Tryz.f70) (keep:=zg7) (e:=zjA)
def ip(x0:Sem Q5)(x1:Sem zj.sl):Sem zg:=if ff 16 x0 (ze.mk [] (0,0,[]) [] [])=Q3 then 0 else if(bif (bD x0 x1).2==0 then bif (bD x0 x1).1!=3 then(bD x0 x1).1!=0 else Q4 else Q4)=Q3 then 5 else(bD x0 x1).2
theorem Lj(e:ze)(cols:LC):Jt e cols=Q1 (ip e cols,()):=by
 have hv:(Ri e cols).val=Q1 (.inr (.int .i64 (ip e cols),[])):=by
  unfold ip;simp only[Ri,zl,Q8];rw[if_pos (Ll 15 e)];repeat' split
  all_goals rfl
 exact zM hv rfl
def CD(t:Sem zo):Sem zo:=(iT t.1,jl t.2.1,t.2.2.1,Qg 10 t.2.2.2.1,(Qg 10 t.t.1).map (λf:Sem zr=>((f.1,iT f.2):Sem zr)),gB t.t.2)
theorem Tv(t:Sem zo):Tu t=Q1 (CD t,()):=by
 have g1:=zR.all (t:=G3) 1 (λi=>.h3 (i:Int) (t,()) ([],0,[],0,0,[],[],()) (iT t.1,jl t.2.1,t.2.2.1,Qg i t.2.2.2.1,gB t.t.2,())) (min 10 (length t.2.2.2.1)) λi hi=>zR.of (by
  have hl:i<length t.2.2.2.1:=by omega
  simp only[G3,Q8,VO (k:=10) (K:=10) rfl hi,zu hl,if_true,aJ];rw[if_pos sg,zq i um,G8 hl (zi zg)])
 have g2:zR G3 1 (.h3 ((min 10 (length t.2.2.2.1):Nat):Int) (t,()) ([],0,[],0,0,[],[],()) (iT t.1,jl t.2.1,t.2.2.1,Qg (min 10 (length t.2.2.2.1)) t.2.2.2.1,gB t.t.2,())) (.h7 ((0:Nat):Int) (t,()) ([],0,[],0,0,[],[],()) (iT t.1,jl t.2.1,t.2.2.1,Qg (min 10 (length t.2.2.2.1)) t.2.2.2.1,[],gB t.t.2,())):=zR.of (by
  simp only[G3,Q8,Mw (k:=10) (K:=10) rfl,zG,if_false];rfl)
 rw[uH]at g1 g2;have g3:=zR.all (t:=G3) 1 (λi=>.h7 (i:Int) (t,()) ([],0,[],0,0,[],[],()) (iT t.1,jl t.2.1,t.2.2.1,Qg 10 t.2.2.2.1,(Qg i t.t.1).map (λf:Sem zr=>((f.1,iT f.2):Sem zr)),gB t.t.2,())) (min 10 (length t.t.1)) λi hi=>zR.of (by
  have hl:i<length t.t.1:=by omega
  simp only[G3,Q8,VO (k:=10) (K:=10) rfl hi,zu hl,if_true,aJ];rw[if_pos sg,zq i um,G8 hl (zi zr),iB];rfl)
 rw[uH]at g3;have he:zV G3 1 (.h7 ((min 10 (length t.t.1):Nat):Int) (t,()) ([],0,[],0,0,[],[],()) (iT t.1,jl t.2.1,t.2.2.1,Qg 10 t.2.2.2.1,(Qg 10 t.t.1).map (λf:Sem zr=>((f.1,iT f.2):Sem zr)),gB t.t.2,())) _:=zV.of (by
  simp only[G3,Q8,Mw (k:=10) (K:=10) rfl,zG,if_false];rfl)
 have hs:(zbx t).val=Q1 (.inl (.h3 ((0:Nat):Int) (t,()) ([],0,[],0,0,[],[],()) (iT t.1,jl t.2.1,t.2.2.1,Qg 0 t.2.2.2.1,gB t.t.2,()))):=by
  simp only[zbx,zl,Q8];rfl
 unfold CD;rw[<-zl (gB t.t.2)];exact zx hs (((g1.trans g2).trans g3).ends he) ow rfl
def XO:=XN.addL [(170,Xo),(70,zdT)]
theorem N6:zw XO:=vw.addL<|fc LL<|fc Ps jj
end
def zda:zX:=aC [Q5,zj.sl] [zg] λx=>(ip x.1 x.2.1,())
theorem Zq:FK 170 zda:=gH LL λx=>Lj x.1 x.2.1
def F5t:zX:=aC [zo] [zo] λx=>(CD x.1,())
theorem zeO:FK 70 F5t:=gH Ps λx=>Tv x.1
noncomputable def QA:=XO.addL [(170,zda),(70,F5t)]
theorem DN:zw QA:=N6.addL<|fc Zq<|fc zeO jj
abbrev zbE:=mV [(4,[1,27,28,29]),(11,[1,5,59,60,61]),(17,[1,5,71,72,73])]
inductive qS where
 |h4 (l27:LC) (i28:Int) (i29:Int) (z0:zn sY)
 |h11 (l59:LI) (i60:Int) (i61:Int) (z0:zn sY)
 |h17 (l71:LF) (i72:Int) (i73:Int) (z0:zn sY)
abbrev zfA:qS->Nat×St
 |.h4 l27 i28 i29 z0=>(4,⟨tm 110 [(1,ptr 0 0),(27,sl zj l27),(28,ai i28),(29,ai i29)],[Qa (bx [] sY z0)]⟩)
 |.h11 l59 i60 i61 z0=>(11,⟨tm 110 [(1,ptr 0 0),(5,AV.clo (Fn.func 169) [] [ptr 0 0]),(59,sl zg l59),(60,ai i60),(61,ai i61)],[Qa (bx [] sY z0)]⟩)
 |.h17 l71 i72 i73 z0=>(17,⟨tm 110 [(1,ptr 0 0),(5,AV.clo (Fn.func 169) [] [ptr 0 0]),(71,sl zr l71),(72,ai i72),(73,ai i73)],[Qa (bx [] sY z0)]⟩)
noncomputable def Ik(x0:Sem zo):Tr (qS⊕aw):=
 let a0:=(↑(length x0.2.1):Int)
 br (bif !zK x0.1 then Q3 else bif Q0 (a0<1)then Q3 else Q0 (a0>8)) (re (kb Q4) [])
 (Q9 (qS.h4 x0.2.1 a0 0 (x0,())))
noncomputable def nN:qS->Tr (qS⊕aw)
 | .h4 l27 i28 i29 z0=>
  let a0:=l27.getD i29.toNat (zi zj)
  br (Q0 (i29<i28))
  (Qc (zP i29 l27.length) (br (bif !zK a0.1 then Q3 else bif Q0 (a0.2.1<1)then Q3 else bif Q0 (a0.2.1>3)then Q3 else zN (z0.1.1,z0.1.2.1,z0.1.2.2.1,z0.1.2.2.2.1,z0.1.t.1,zm z0.1.t.2) a0.1!=i29) (re (kb Q4) []) (Q9 (qS.h4 l27 i28 (IntKind.i64.wrap (i29+1)) z0))))
  (Q9 (qS.h11 z0.1.2.2.2.1 (↑(length z0.1.2.2.2.1):Int) 0 z0))
 | .h11 l59 i60 i61 z0=>
  let a0:=l59.getD i61.toNat (zi zg)
  let a1:=(↑(length z0.1.2.1):Int)
  br (Q0 (i61<i60))
  (Qc (zP i61 l59.length) (br (!bif Q0 (a0>=0)then Q0 (a0<a1)else Q4) (re (kb Q4) []) (Q9 (qS.h11 l59 i60 (IntKind.i64.wrap (i61+1)) z0))))
  (Q9 (qS.h17 z0.1.t.1 (↑(length z0.1.t.1):Int) 0 z0))
 | .h17 l71 i72 i73 z0=>
  let a0:=l71.getD i73.toNat (zi zr)
  let a1:=(↑(length z0.1.2.1):Int)
  let a2:=getD z0.1.2.1 (toNat z0.1.2.2.1) (zi zj)
  br (Q0 (i73<i72))
  (Qc (zP i73 l71.length) (br (!bif Q0 (a0.1>=0)then Q0 (a0.1<a1)else Q4) (re (kb Q4) []) (br (!zK a0.2) (re (kb Q4) []) (Q9 (qS.h17 l71 i72 (IntKind.i64.wrap (i73+1)) z0)))))
  (br (bif Q0 (z0.1.2.2.1>=0)then Q0 (z0.1.2.2.1<a1)else Q4) (Qc (zP z0.1.2.2.1 (length z0.1.2.1)) (br a2.2.2 (re (AV.bool (ip (zm z0.1.t.2) z0.1.2.1==0)) []) (re (kb Q4) []))) (re (kb Q4) []))
noncomputable def zct(x0:Sem zo):=al [Q7] nN 40000000000000000000 (Ik x0)
theorem QS{σ:Type}{t:σ->Tr (σ⊕aw)}{st:Nat->σ}{N:Nat}{b:Nat->Bool}{R:aw}(h:∀i,i<N->(t (st i)).val=if b i=Q3 then Q1 (.inl (st (i+1)))else Q1 (.inr R)):
  ((List.range N).all b=Q3/\zR t N (st 0) (st N))\/((List.range N).all b=Q4/\zV t N (st 0) R):=by
 rcases lN (t:=t) (Φ:=λr=>r=R) 1 st (λi=>b i=Q3) N (λi hi _=>by
  cases hb:b i
  ·exact .inr ⟨sw,R,zV.of (by rw[h i hi,hb];rfl),rfl⟩
  ·exact .inl ⟨rfl,zR.of (by rw[h i hi,hb];rfl)⟩)with⟨h1,h2⟩|⟨h1,r,h2,rfl⟩
 ·exact .inl ⟨by rw[dU];exact λi hi=>h1 i (ou.1 hi),h2.mono ow⟩
 ·refine .inr ⟨?_,h2.mono ow⟩;rw[Bool.eq_false_iff,Ne,dU];exact λq=>h1 λi hi=>q i (ou.2 hi)
def vR(x:Int)(n:Nat):Bool:=bif Q0 (x>=0)then Q0 (x<(n:Int))else Q4
def J5(t:Sem zo)(i:Nat):Bool:=!(bif !zK (getD t.2.1 i (zi zj)).1 then Q3 else bif Q0 ((getD t.2.1 i (zi zj)).2.1<1)then Q3 else bif Q0 ((getD t.2.1 i (zi zj)).2.1>3)then Q3 else zN t (getD t.2.1 i (zi zj)).1!=(i:Int))
def Wj(t:Sem zo)(i:Nat):Bool:=vR (getD t.t.1 i (zi zr)).1 (length t.2.1)&&zK (getD t.t.1 i (zi zr)).2
def eG(t:Sem zo):Sem Q7:=!(bif !zK t.1 then Q3 else bif Q0 ((↑(length t.2.1):Int)<1)then Q3 else Q0 ((↑(length t.2.1):Int)>8))&&((List.range (length t.2.1)).all (J5 t)&&((List.range (length t.2.2.2.1)).all (λi=>vR (getD t.2.2.2.1 i (zi zg)) (length t.2.1))&&((List.range (length t.t.1)).all (Wj t)&&(vR t.2.2.1 (length t.2.1)&&((getD t.2.1 (toNat t.2.2.1) (zi zj)).2.2&&(ip t.t.2 t.2.1==0))))))
theorem Tw{t:Sem zo}(h2:length t.2.2.2.1<=aE)(h3:length t.t.1<=aE):zct t=Q1 (eG t,()):=by
 unfold eG;by_cases h0:(bif !zK t.1 then Q3 else bif Q0 ((↑(length t.2.1):Int)<1)then Q3 else Q0 ((↑(length t.2.1):Int)>8))=Q3
 ·rw[h0];refine zM (r:=(.kb Q4,[])) ?_ rfl;simp only[Ik,Q8];exact if_pos h0
 have h8:length t.2.1<=8:=by
  cases hn:zK t.1
  ·rw[hn]at h0;simp at h0
  ·rw[hn]at h0;simp at h0;omega
 have hs:(Ik t).val=Q1 (.inl (.h4 t.2.1 (length t.2.1:Int) ((0:Nat):Int) (t,()))):=by
  simp only[Ik,Q8];exact if_neg h0
 rw[gJ]at h0;rw[h0];have hm:aE=9223372036854775807:=rfl
 rcases QS (t:=nN) (R:=(.kb Q4,[])) (N:=length t.2.1) (st:=λi=>.h4 t.2.1 (length t.2.1:Int) (i:Int) (t,())) (b:=J5 t) (λi hi=>by
  simp only[nN,Q8,zH hi,zu hi,if_true,aJ,zl,Prod.eta,zq i (show i<aE by omega)];unfold J5;split
  ·rename_i c;rw[c];rfl
  ·rename_i c;rw[gJ]at c;rw[c];rfl)with⟨a1,g1⟩|⟨a1,g1⟩
 rotate_left
 ·rw[a1];exact zx hs g1 ow rfl
 have g1':=g1.trans (zR.of (s':=.h11 t.2.2.2.1 (length t.2.2.2.1:Int) ((0:Nat):Int) (t,())) (by
  simp only[nN,Q8,zz,zG,if_false];rfl))
 rw[a1]
 rcases QS (t:=nN) (R:=(.kb Q4,[])) (N:=length t.2.2.2.1) (st:=λi=>.h11 t.2.2.2.1 (length t.2.2.2.1:Int) (i:Int) (t,())) (b:=λi=>vR (getD t.2.2.2.1 i (zi zg)) (length t.2.1)) (λi hi=>by
  simp only[nN,Q8,zH hi,zu hi,if_true,aJ,zq i (show i<aE by omega)];unfold vR;split
  ·rename_i c;rw[wK]at c;rw[c];rfl
  ·rename_i c;rw[gJ,Bool.not_eq_false']at c;rw[c];rfl)with⟨a2,g2⟩|⟨a2,g2⟩
 rotate_left
 ·rw[a2];exact zx hs (g1'.ends g2) ow rfl
 have g2':=(g1'.trans g2).trans (zR.of (s':=.h17 t.t.1 (length t.t.1:Int) ((0:Nat):Int) (t,())) (by
  simp only[nN,Q8,zz,zG,if_false];rfl))
 rw[a2]
 rcases QS (t:=nN) (R:=(.kb Q4,[])) (N:=length t.t.1) (st:=λi=>.h17 t.t.1 (length t.t.1:Int) (i:Int) (t,())) (b:=Wj t) (λi hi=>by
  simp only[nN,Q8,zH hi,zu hi,if_true,aJ,zq i (show i<aE by omega)];unfold Wj vR;split
  ·rename_i c;rw[wK]at c;rw[c];rfl
  ·rename_i c;rw[gJ,Bool.not_eq_false']at c;rw[c];cases zK (getD t.t.1 i (zi zr)).2<;>rfl)with⟨a3,g3⟩|⟨a3,g3⟩
 rotate_left
 ·rw[a3];exact zx hs (g2'.ends g3) ow rfl
 rw[a3];have hend:∃r,(nN (.h17 t.t.1 (length t.t.1:Int) (length t.t.1:Int) (t,()))).val=Q1 (.inr r)/\aL r.2 [Q7] r.1=Q1 ((vR t.2.2.1 (length t.2.1)&&((getD t.2.1 (toNat t.2.2.1) (zi zj)).2.2&&(ip t.t.2 t.2.1==0))),()):=by
  simp only[nN,Q8,zz,zl,zG,if_false];unfold vR;cases c:(bif Q0 (t.2.2.1>=0)then Q0 (t.2.2.1<(↑(length t.2.1):Int))else Q4)
  ·exact⟨_,rfl,rfl⟩
  ·have hi:zP t.2.2.1 (length t.2.1)=Q3:=by
    cases h1:Q0 (t.2.2.1>=0)<;>simp_all[zP]
   rw[hi];cases(getD t.2.1 (toNat t.2.2.1) (zi zj)).2.2
   ·exact⟨_,rfl,rfl⟩
   ·exact⟨_,rfl,rfl⟩
 obtain⟨r,e1,e2⟩:=hend;exact zx hs ((g2'.trans g3).ends (zV.of e1)) ow e2
theorem ok8:zI QA.P 113 Tryz.f113 1:=bQ kw
def F8t:zX:=aC [zo] [Q7] λx=>(eG x.1,())
theorem zfd:FK 113 F8t:=zW ok8 λx C hC=>Reach.lenA 0 3 zg x.1.2.2.2.1 rfl rfl λh2=>Reach.lenA 0 4 zr x.1.t.1 rfl rfl λh3=>
 Wi (n0:=0) (t:=nN) (e:=zfA) (keep:=zbE) (gas:=400) (i:=Ik x.1) DN ok8 (λid _=>hC id) kw (by intro s;cases s<;>kernel_rfl) (Tw h2 h3)
noncomputable def XP:=QA.add 113 F8t
theorem DO:zw XP:=DN.add zfd
abbrev zbR:=mV [(4,[1,2,19,20,21]),(10,[1,2,30,31])]
inductive wH where
 |h4 (l1:LV) (l19:LV) (i20:Int) (i21:Int) (z0:zn sY)
 |h10 (l1:LV) (i30:Int) (i31:Int) (z0:zn sY)
abbrev zfJ:wH->Nat×St
 |.h4 l1 l19 i20 i21 z0=>(4,⟨tm 79 [(1,sl zf l1),(2,ptr 0 0),(19,sl zf l19),(20,ai i20),(21,ai i21)],[Qa (bx [] sY z0)]⟩)
 |.h10 l1 i30 i31 z0=>(10,⟨tm 79 [(1,sl zf l1),(2,ptr 0 0),(30,ai i30),(31,ai i31)],[Qa (bx [] sY z0)]⟩)
noncomputable def Rk(x0:Sem zo)(x1:Sem zf.sl):Tr (wH⊕aw):=br (bif !eG (x0.1,x0.2.1,x0.2.2.1,x0.2.2.2.1,x0.t.1,zm x0.t.2)then Q3 else(↑(length x1):Int)!=(↑(length x0.2.1):Int)) (re (ai 1) []) (Q9 (wH.h4 x1 x1 (↑(length x1):Int) 0 (x0,())))
noncomputable def uE:wH->Tr (wH⊕aw)
 | .h4 l1 l19 i20 i21 z0=>
  br (Q0 (i21<i20))
  (Qc (zP i21 l19.length) (br (!bd (l19.getD i21.toNat (zi zf))) (re (ai 1) []) (Q9 (wH.h4 l1 l19 i20 (IntKind.i64.wrap (i21+1)) z0))))
  (Q9 (wH.h10 l1 (↑l1.length:Int) 0 z0))
 | .h10 l1 i30 i31 z0=>
  let a0:=l1.getD i31.toNat (zi zf)
  let a1:=a0.1==0
  let a2:=zP i31 (length z0.1.2.1)
  let a3:=getD z0.1.2.1 i31.toNat (zi zj)
  let a4:=a0.1!=0
  let a5:=jG (zm z0.1.t.2) z0.1.2.1 l1
  br (Q0 (i31<i30))
  (Qc (zP i31 l1.length&&bif a1 then a2 else Q3) (br (bif a1 then a3.2.2 else Q4) (re (ai 8) []) (Qc (zP i31 l1.length&&bif a4 then zP i31 l1.length&&a2 else Q3) (br (bif a4 then a0.1!=a3.2.1 else Q4) (re (ai 5) []) (Q9 (wH.h10 l1 i30 (IntKind.i64.wrap (i31+1)) z0))))))
  (br (a5.1==3&&(a5.2.1==0&&(a5.2.2==[]&&Q3))) (re (ai 9) []) (re (ai 0) []))
noncomputable def Nm(x0:Sem zo)(x1:Sem zf.sl):=al [zg] uE 100000000 (Rk x0 x1)
noncomputable def Xw:=FT [zo,zf.sl] [zg] λx=>Nm x.1 x.2.1
theorem LN:FK 193 Xw:=DO.T1 (f:=Tryz.f193) (keep:=zbR) (e:=zfJ)
def eh(t:Sem zo)(row:LV):List (Sem zf)->Int->Sem zg
 |[],_=>if((jG t.t.2 t.2.1 row).1==3&&((jG t.t.2 t.2.1 row).2.1==0&&((jG t.t.2 t.2.1 row).2.2==[]&&Q3)))=Q3 then 9 else 0
 |x::r,i=>if(bif x.1==0 then(getD t.2.1 i.toNat (zi zj)).2.2 else Q4)=Q3 then 8 else if(bif x.1!=0 then x.1!=(getD t.2.1 i.toNat (zi zj)).2.1 else Q4)=Q3 then 5 else eh t row r (i+1)
def fN(t:Sem zo)(row:LV):List (Sem zf)->Int->Sem zg
 |[],_=>eh t row row 0
 |x::r,i=>if(!bd x)=Q3 then 1 else fN t row r (i+1)
def dX(t:Sem zo)(row:Sem zf.sl):Sem zg:=if(bif !eG t then Q3 else(↑(length row):Int)!=(↑(length t.2.1):Int))=Q3 then 1 else fN t row row 0
theorem Mz{t:Sem zo}(h:eG t=Q3):length t.2.1<=8:=by
 unfold eG at h;rw[aD]at h;have h:=h.1;cases hn:zK t.1
 ·rw[hn]at h;simp at h
 ·rw[hn]at h;simp at h;omega
theorem OZ(t:Sem zo)(row:LV):Nm t row=Q1 (dX t row,()):=by
 unfold dX;by_cases h:(bif !eG t then Q3 else(↑(length row):Int)!=(↑(length t.2.1):Int))=Q3
 ·rw[if_pos h];refine zM (r:=(.int .i64 1,[])) ?_ rfl;simp only[Rk,zl,Prod.eta,Q8];exact if_pos h
 rw[if_neg h];have hm:eG t=Q3/\row.length=length t.2.1:=by
  cases hm:eG t
  ·rw[hm]at h;simp at h
  ·rw[hm]at h;simp at h;exact⟨rfl,ow⟩
 have h8:=Mz hm.1;have h10:∀(m i:Nat),row.length-i=m->i<=row.length->zV uE (m+1) (.h10 row row.length i (t,())) (.int .i64 (eh t row (row.drop i) i),[]):=by
  intro m
  induction m with
  | zero=>
   intro i hi hl;obtain rfl:i=row.length:=by omega
   rw[jg,eh];refine zV.of ?_;simp only[uE,Q8,zz,zl,zG,if_false];split<;>rfl
  | succ m ih=>
   intro i hi hl;have hlt:i<row.length:=by omega
   have hg:getD row i (zi zf)=row[i]:=cw _ _ hlt;rw[fj hlt,eh];have hv:(uE (.h10 row row.length i (t,()))).val=if(bif row[i].1==0 then(getD t.2.1 i (zi zj)).2.2 else Q4)=Q3 then Q1 (.inr (.int .i64 8,[]))else if(bif row[i].1!=0 then row[i].1!=(getD t.2.1 i (zi zj)).2.1 else Q4)=Q3 then Q1 (.inr (.int .i64 5,[]))else Q1 (.inl (.h10 row row.length ((i+1:Nat):Int) (t,()))):=by
    simp only[uE,Q8,zH hlt,zu hlt,zu (show i<length t.2.1 by omega),aJ,hg,dF,Bool.cond_self,if_true,zq i (show i<aE by unfold aE;omega)]
   simp only[aJ];split
   ·rename_i c;exact(zV.of (by rw[hv,if_pos c])).mono ow
   ·rename_i c;split
    ·rename_i c2;exact(zV.of (by rw[hv,if_neg c,if_pos c2])).mono ow
    ·rename_i c2;exact(zR.of (by rw[hv,if_neg c,if_neg c2])).ends (ih (i+1) ow ow)
 have h4:∀(m i:Nat),row.length-i=m->i<=row.length->zV uE (m+row.length+2) (.h4 row row row.length i (t,())) (.int .i64 (fN t row (row.drop i) i),[]):=by
  intro m
  induction m with
  | zero=>
   intro i hi hl;obtain rfl:i=row.length:=by omega
   rw[jg,fN];refine((zR.of (s':=.h10 row row.length ((0:Nat):Int) (t,())) ?_).ends (h10 row.length 0 ow ow)).mono ow;simp only[uE,Q8,zz,zG,if_false];rfl
  | succ m ih=>
   intro i hi hl;have hlt:i<row.length:=by omega
   have hg:getD row i (zi zf)=row[i]:=cw _ _ hlt;rw[fj hlt,fN];have hv:(uE (.h4 row row row.length i (t,()))).val=if(!bd row[i])=Q3 then Q1 (.inr (.int .i64 1,[]))else Q1 (.inl (.h4 row row row.length ((i+1:Nat):Int) (t,()))):=by
    simp only[uE,Q8,zH hlt,zu hlt,aJ,hg,if_true,zq i (show i<aE by unfold aE;omega)]
   split
   ·rename_i c;exact(zV.of (by rw[hv,if_pos c])).mono ow
   ·rename_i c;exact((zR.of (by rw[hv,if_neg c])).ends (ih (i+1) ow ow)).mono ow
 refine zx (s:=.h4 row row row.length ((0:Nat):Int) (t,())) ?_ (h4 row.length 0 ow ow) ow rfl;simp only[Rk,zl,Prod.eta,Q8];exact if_neg h
noncomputable def XQ:=XP.add 193 Xw
theorem N7:zw XQ:=DO.add LN
def zcM:zX:=aC [zo,zf.sl] [zg] λx=>(dX x.1 x.2.1,())
theorem Y2:FK 193 zcM:=gH LN λx=>OZ x.1 x.2.1
noncomputable def AL:=XQ.add 193 zcM
theorem N8:zw AL:=N7.add Y2
open Go.RowKit Go.Lib in
theorem Z8:FK 282 (zO [.str,.str] [.bool] (λx=>x.2.1.length==1) λx=>(Q0 (0<=Lib.indexByte x.1 (x.2.1.headD 0)),())):=by
 refine fA (E:=AL) ⟨Tryz.f282,kw,kw,kw⟩ λx h0 res hx=>?_
 unfold fb at hx;split at hx
 ·simp only[Q8]at hx;split at hx
  ·rename_i hc;simp only[bw]at hx;subst hx;obtain⟨s,sub,u⟩:=x;have hc:(sub.length==1)=Q3:=hc
   match sub,hc with
   | [c],_=>
    intro C w U ρ vals _ hr hH hnew hr0 hW;have hl:=hr.len
    match vals,hl,hr with
    | [v1,v2],_,hr=>
     have h1:=hr.rv 0 (.str s) v1 rfl rfl;have h2:=hr.rv 1 (.str [c]) v2 rfl rfl;cases h1 with
     |str _ hs=>
     cases h2 with
     |str _ hs2=>
     refine(Tryz.strings_Contains_one ⟨s.toArray⟩ c w).mono ?_;rintro e w' ⟨rfl,rfl⟩;exact eB hH hnew hr0 hW (Below.refl _ _) (.bool _)
  ·cases hx
 ·simp at hx
def F63:zX:=zO [.str,.str] [.bool] (λx=>x.2.1.length==1) λx=>(Q0 (0<=Lib.indexByte x.1 (x.2.1.headD 0)),())
theorem zeR:FK 282 F63:=Z8
def F89:zX:=zO [.str] [.str] (λx=>Q0 (x.1.length<=140737488355328)&&x.1.all λb=>Q0 (b.toNat<128)) λx=>(Lib.toUpperA x.1,())
open Go.RowKit Go.Lib in
theorem zfb:FK 232 F89:=by
 refine fA (E:=AL) ⟨Tryz.f232,kw,kw,kw⟩ λx h0 res hx=>?_
 unfold fb at hx;split at hx
 ·simp only[Q8]at hx;split at hx
  ·rename_i hc;simp only[bw]at hx;subst hx;obtain⟨s,u⟩:=x;have hc:(Q0 (s.length<=140737488355328)&&s.all λb=>Q0 (b.toNat<128))=Q3:=hc;simp only[aD,aN]at hc;obtain⟨hc0,hc⟩:=hc;intro C w U ρ vals _ hr hH hnew hr0 hW;have hl:=hr.len
   match vals,hl,hr with
   | [v1],_,hr=>
    have h1:=hr.rv 0 (.str s) v1 rfl rfl;cases h1 with
    |str _ hs=>
    refine(Tryz.strings_ToUpper_ascii ⟨s.toArray⟩ w (by simpa[ByteArray.size]using hc0) (λj b hj=>?_)).mono ?_
    ·have hm:b∈s:=om (by simpa using hj);simp only[dU,aN]at hc;exact hc b hm
    ·rintro e w' ⟨rfl,hb⟩;have hbb:=eB (r:=.str (Lib.toUpperA s)) hH hnew hr0 hW hb (.str _ (by simpa[Lib.toUpperA]using hs));exact hbb
  ·cases hx
 ·simp at hx
def mL:Nat->Nat->zA
 |0,_=>[]
 |f+1,n=>if n<10 then[UInt8.ofNat (48+n)]else mL f (n/10)++[UInt8.ofNat (48+n%10)]
def rc(n:Int):zA:=if n<0 then 45::mL 20 n.natAbs else mL 20 n.natAbs
theorem Fi:∀(f n:Nat),n<10^f->0<f->mL f n=Lib.decDigits n
 |0,_,_,h=>by omega
 | f+1,n,h,_=>by
  rw[mL,Lib.decDigits];split
  ·rfl
  ·rename_i hn;have hf:0<f:=by
    cases f with
    |zero=>simp at h;omega
    |succ f=>omega
   rw[Fi f (n/10) (by rw[Ag]at h;omega) hf]
theorem At:∀(f n:Nat),(mL f n).length<=f
 |0,_=>by simp[mL]
 | f+1,n=>by
  rw[mL];split
  ·simp
  ·have:=At f (n/10);simp;omega
theorem Em(n:Int):(rc n).length<=21:=by
 unfold rc;have:=At 20 n.natAbs;split<;>simp<;>omega
theorem Ru(n:Int)(h:cF .i64 n):Lib.itoa n=rc n:=by
 have h1:-9223372036854775808<=n:=h.1;have h2:n<=9223372036854775807:=h.2;unfold Lib.itoa rc;split
 ·rw[Fi 20 _ ow ow]
 ·rw[Fi 20 _ ow ow];congr 1;omega
def zcV:zX:=zO [zg,zg] [.str] (λx=>x.2.1==10) λx=>(rc x.1,())
open Go.RowKit Go.Lib in
theorem Zb:FK 275 zcV:=by
 refine fA (E:=AL) ⟨Tryz.f275,kw,kw,kw⟩ λx h0 res hx=>?_
 unfold fb at hx;split at hx
 ·simp only[Q8]at hx;split at hx
  ·rename_i hc;simp only[bw]at hx;subst hx;obtain⟨n,b,u⟩:=x;have hc:(b==10)=Q3:=hc;simp only[aX]at hc;subst hc;intro C w U ρ vals _ hr hH hnew hr0 hW;have hl:=hr.len
   match vals,hl,hr with
   | [v1,v2],_,hr=>
    have h1:=hr.rv 0 (.int .i64 n) v1 rfl rfl;have h2:=hr.rv 1 (.int .i64 10) v2 rfl rfl;cases h1 with
    |int _ _ hn=>
    cases h2;have h5:Rv w U (λ_=>Q2) (.tab .u64 lG) (.pointer (Q1 ⟨5,0,Q2⟩)):=hW.gl 5;have htab:Lib.TabIs Tryz.prog w "internal/strconv.uint64pow10" .u64 Lib.pow10Tab:=by
     cases h5 with
     |tab _ _ _ T fr hb hU=>
     have hg:Tryz.prog.globalNamed "internal/strconv.uint64pow10"=Q1 5:=by kernel_rfl
     have ht:Lib.pow10Tab=lG:=by decide+kernel
     unfold Lib.TabIs World.var?;rw[hg,ht];simp only[Option.bind_some,hb]
    refine(Tryz.strconv_FormatInt_10 n hn.1 hn.2 w htab).mono ?_;rintro e w' ⟨rfl,k,os,rfl⟩;rw[Ru n hn];exact eB (r:=.str (rc n)) hH hnew hr0 hW ⟨rfl,rfl,rfl,by show w.heap.size<=(w.heap++os).size;simp,λj hj=>by show(w.heap++os)[j]?=w.heap[j]?;rw[Array.getElem?_append_left hj]⟩ (.str _ (by have:=Em n;unfold aE;omega))
  ·cases hx
 ·simp at hx
theorem un(old new:zA):∀(k:Nat)(s:zA),(Lib.replaceK old new k s).length<=s.length+k*new.length
 |0,s=>by simp[Lib.replaceK]
 | k+1,s=>by
  rw[Lib.replaceK];split
  ·omega
  ·have:=un old new k (s.drop ((Lib.index s old).toNat+old.length));simp only[jD,ot,List.length_drop]at this⊢;rw[kc];omega
theorem kI(s old new:zA):(Lib.replaceAll s old new).length<=s.length+(s.length+1)*new.length:=by
 unfold Lib.replaceAll Lib.replace;split
 ·omega
 ·refine cL (un old new _ s) ?_;have hc:=Lib.count_le s old;have:Lib.replaceNum s old (-1)=Lib.count s old:=by unfold Lib.replaceNum;rw[if_pos (.inl ow)]
  rw[this];have:=gI new.length hc;omega
def ul(s old new:zA):Bool:=Q0 (s.length<=4000000000)&&(Q0 (1<=old.length)&&Q0 (new.length<=1000))
def zcW:zX:=zO [.str,.str,.str] [.str] (λx=>ul x.1 x.2.1 x.2.2.1) λx=>(Lib.replaceAll x.1 x.2.1 x.2.2.1,())
open Go.RowKit Go.Lib in
theorem Zc:FK 276 zcW:=by
 refine fA (E:=AL) ⟨Tryz.f276,kw,kw,kw⟩ λx h0 res hx=>?_
 unfold fb at hx;split at hx
 ·simp only[Q8]at hx;split at hx
  ·rename_i hc;simp only[bw]at hx;subst hx;obtain⟨s,old,new,u⟩:=x;have hc:ul s old new=Q3:=hc;unfold ul at hc;simp only[aD,aN]at hc;obtain⟨hc1,hc2,hc3⟩:=hc;intro C w U ρ vals _ hr hH hnew hr0 hW;have hl:=hr.len
   match vals,hl,hr with
   | [v1,v2,v3],_,hr=>
    have h1:=hr.rv 0 (.str s) v1 rfl rfl;have h2:=hr.rv 1 (.str old) v2 rfl rfl;have h3:=hr.rv 2 (.str new) v3 rfl rfl;cases h1 with
    |str _ hs1=>
    cases h2 with
    |str _ hs2=>
    cases h3 with
    |str _ hs3=>
    have hg1:Rv w U (λ_=>Q2) .gint (.pointer (Q1 ⟨0,0,Q2⟩)):=hW.gl 0;have hmm:∃m:Int,w.cell? ⟨0,0,Q2⟩=Q1 (.int .i64 m):=by
     cases hg1 with
     |gint m _ T fr _ hb _=>exact⟨m,by simp[World.cell?,hb]⟩
    obtain⟨m,hm⟩:=hmm;have hcb:=Lib.countB_le (⟨old.toArray⟩:ByteArray) (by simpa[ByteArray.size]using hc2) s.length (⟨s.toArray⟩:ByteArray) (by simp[ByteArray.size]);have hsz:(⟨s.toArray⟩:ByteArray).size=s.length:=by simp[ByteArray.size]
    have hnz:(⟨new.toArray⟩:ByteArray).size=new.length:=by simp[ByteArray.size]
    have hmul:Lib.countB (⟨s.toArray⟩:ByteArray) ⟨old.toArray⟩*new.length<=4000000000*1000:=DA ow hc3;refine(Tryz.strings_ReplaceAll ⟨s.toArray⟩ ⟨old.toArray⟩ ⟨new.toArray⟩ m w (by rw[hsz];omega) hm (by simpa[ByteArray.size]using hc2) (by rw[hsz,hnz];omega)).mono ?_;rintro e w' ⟨rfl,hbel⟩;refine eB (r:=.str (Lib.replaceAll s old new)) hH hnew hr0 hW hbel (.str _ ?_);have hlen:=kI s old new;have hmul2:(s.length+1)*new.length<=4000000001*1000:=DA ow hc3;unfold aE;omega
  ·cases hx
 ·simp at hx
def zcU:zX:=zO [.sl .str,.str] [.str] (λx=>Q0 (x.1.length<=140737488355328)&&Q0 ((Lib.join x.1 x.2.1).length<=140737488355328)) λx=>(Lib.join x.1 x.2.1,())
open Go.RowKit Go.Lib in
theorem Za:FK 274 zcU:=by
 refine fA (E:=AL) ⟨Tryz.f274,kw,kw,kw⟩ λx h0 res hx=>?_
 unfold fb at hx;split at hx
 ·simp only[Q8]at hx;split at hx
  ·rename_i hc;simp only[bw]at hx;subst hx;obtain⟨l,sep,u⟩:=x;have hc:(Q0 (l.length<=140737488355328)&&Q0 ((Lib.join l sep).length<=140737488355328))=Q3:=hc;simp only[aD,aN]at hc;obtain⟨hc0,hc⟩:=hc;have hms:aE=9223372036854775807:=rfl;intro C w U ρ vals _ hr hH hnew hr0 hW;have hl:=hr.len
   match vals,hl,hr with
   | [v1,v2],_,hr=>
    have h1:=hr.rv 0 (.sl .str l) v1 rfl rfl;have h2:=hr.rv 1 (.str sep) v2 rfl rfl;cases h2 with
    |str _ hs2=>
    generalize hl0:l=l0 at h1 hc hc0 hr;cases h1 with
    | sl0 _ a c=>
     subst hl0;refine(Tryz.strings_Join_none a c ⟨sep.toArray⟩ w).mono ?_;rintro e w' ⟨rfl,rfl⟩;exact eB (r:=.str []) hH hnew hr0 hW (Below.refl _ _) (.str _ sw)
    | sl _ _ b o c vals' hcc hm hb hU hcell hrr=>
     subst hl0;have hx:∀(j:Nat) x,(l.map λs=>(⟨s.toArray⟩:ByteArray))[j]?=Q1 x->w.cell? ⟨b,o+j,Q2⟩=Q1 (.string x):=by
      intro j x hj;simp only[eY,ea]at hj;obtain⟨s,hs,rfl⟩:=hj;obtain⟨hlt,rfl⟩:=cV.1 hs;have h3:=hcell j 0 hlt (by simp[Sh.size]);have h4:=hrr j hlt 0 (.str l[j]) rfl;simp only[Sh.size,Nat.mul_one,wO]at h3;rw[h3];generalize vals' j 0=vv at h4;cases h4;rfl
     have hmap:(l.map λs=>(⟨s.toArray⟩:ByteArray)).map (·.data.toList)=l:=by
      simp[sK]
     have hj:=Tryz.strings_Join b o c (l.map λs=>(⟨s.toArray⟩:ByteArray)) ⟨sep.toArray⟩ w hx hb (by simpa using hc0) (by simpa using hcc) (by rw[hmap];exact hc);rw[hmap]at hj;simp only[cN]at hj;refine hj.mono ?_;rintro e w' ⟨rfl,hbel⟩;exact eB (r:=.str (Lib.join l sep)) hH hnew hr0 hW hbel (.str _ ow)
  ·cases hx
 ·simp at hx
noncomputable def qY:=AL.addL [(282,F63),(232,F89),(275,zcV),(276,zcW),(274,zcU)]
theorem iK:zw qY:=N8.addL<|fc zeR<|fc zfb<|fc Zb<|fc Zc<|fc Za jj
end Cad
