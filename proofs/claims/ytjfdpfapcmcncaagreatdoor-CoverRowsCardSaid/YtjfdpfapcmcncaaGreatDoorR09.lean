/- Expressions. -/
import Derived.Test.YtjfdpfapcmcncaaGreatDoorR08
import Derived.Sort.Grow
import Derived.Deep.Draws
import Derived.Shelf.SlSortCmp.QuietGrown
import Derived.RegionTactic
import Derived.RegionCalls
import Derived.Deep.RegionWith
import Derived.StillTailTactics
namespace Cad
open Go Go.Proofs
open List renaming length→Io,drop→Qh,take→Qg
open IntKind renaming wrap→Γ,i64→Δ
open AO renaming box→Qa
open Tr renaming val→Q8
open Sh renaming expr→Q5
open Bool renaming false→Q4,true→Q3
open Option renaming none→Q2,some→Q1
open Decidable renaming decide→Q0
open Int (toNat)
open Tr (chk br re)
open AV (nils agg tup ptr kb str sl)
abbrev cpE:List CP:=[.d .expr]
abbrev zmb:List CP:=[.d .str,.d zg,.d zg,.d .str,.d .str,.vec .expr]
abbrev pu:List CP:=[.d .str,.d zg,.d zg,.d .str,.d .str,.nil]
noncomputable def KZ(g:Sem Q5->Sem zg->Sem zg->Sem Q5×Sem zg)(c:Sem Q5->Sem zg->Sem zg->Bool):bZ:=Gj.add 21 (zT [Q5,zg,zg] [Q5,zg] (λx=>c x.1 x.2.1 x.2.2.1) λx=>((g x.1 x.2.1 x.2.2.1).1,(g x.1 x.2.1 x.2.2.1).2,()))
theorem Sj{g:Sem Q5->Sem zg->Sem zg->Sem Q5×Sem zg}{c:Sem Q5->Sem zg->Sem zg->Bool}(h:FK 21 (zT [Q5,zg,zg] [Q5,zg] (λx=>c x.1 x.2.1 x.2.2.1) λx=>((g x.1 x.2.1 x.2.2.1).1,(g x.1 x.2.1 x.2.2.1).2,()))):zw (KZ g c):=ra.add h
abbrev Wm:Nat->aN:=λj=>if j=10 then{slots:=[1,2,3,6,8,9],prom:=[(8,Q1 5,Q5)]}else if j=500004 then{slots:=[1,2,3,6,8,30],cut:=Q3}else if j=500006 then{slots:=[1,2,3,6,8,39],cut:=Q3}else if j=500008 then{slots:=[1,2,3,6,8],cut:=Q3}else{ }
inductive AM where
 |h500004 (i1:Sem zg) (i2:Sem zg) (b30:Bool) (z0:zl cpE) (z1:zl pu) (z2:zl pu)
 |h500006 (i1:Sem zg) (i2:Sem zg) (b39:Bool) (z0:zl cpE) (z1:zl pu) (z2:zl pu)
 |h500008 (i1:Sem zg) (i2:Int) (z0:zl cpE) (z1:zl pu) (z2:zl pu)
 |h10 (i1:Sem zg) (i2:Int) (i9:Int) (z0:zl cpE) (z1:zl pu) (z2:zl zmb)
abbrev UI:AM->Nat×St
 |.h500004 h o C u B z=>(500004,⟨tm 88 [(1,ai h),(2,ai o),(3,ptr 0 0),(6,ptr 1 0),(8,ptr 2 0),(30,AV.bool C)],[Qa (bb [] cpE u),Qa (bb [] pu B),Qa (bb [] pu z)]⟩)
 |.h500006 h o D u B z=>(500006,⟨tm 88 [(1,ai h),(2,ai o),(3,ptr 0 0),(6,ptr 1 0),(8,ptr 2 0),(39,AV.bool D)],[Qa (bb [] cpE u),Qa (bb [] pu B),Qa (bb [] pu z)]⟩)
 |.h500008 h o u B z=>(500008,⟨tm 88 [(1,ai h),(2,ai o),(3,ptr 0 0),(6,ptr 1 0),(8,ptr 2 0)],[Qa (bb [] cpE u),Qa (bb [] pu B),Qa (bb [] pu z)]⟩)
 |.h10 h o E u B z=>(10,⟨tm 88 [(1,ai h),(2,ai o),(3,ptr 0 0),(6,ptr 1 0),(8,ptr 2 0),(9,ai E)],[Qa (bb [] cpE u),Qa (bb [] pu B),Qa (bb [3] zmb z),AO.vec Q5 z.t.2.1]⟩)
theorem zo9(g:Sem Q5->Sem zg->Sem zg->Sem Q5×Sem zg)(c:Sem Q5->Sem zg->Sem zg->Bool):zO (KZ g c).P 21 Tryz.f21 3:=bU kw
def VU(_:Sem Q5->Sem zg->Sem zg->Sem Q5×Sem zg)(_:Sem Q5->Sem zg->Sem zg->Bool)(h:Sem Q5)(z:Sem zg)(B:Sem zg):Tr (AM⊕aw):=
 let o:=Q0 ((↑(Io (zf.s h)):Int)>20)
 let u:=((zf.v h).1,(zf.v h).2.1,(zf.v h).2.2,zf.s h,())
 br (Q0 ((↑(Io (zf.op h)):Int)>8))
 (chk (Q0 (0<=0)&&Q0 (0<=8)&&Q0 (8<=(↑(Io (zf.op h)):Int)))
  (Tr.to (AM.h500004 z B o (h,()) ([],0,0,[],[],()) (Qg (toNat 8-toNat 0) (Qh (toNat 0) (zf.op h)),u))))
 (Tr.to (AM.h500004 z B o (h,()) ([],0,0,[],[],()) (zf.op h,u)))
theorem zmU(g:Sem Q5->Sem zg->Sem zg->Sem Q5×Sem zg)(c:Sem Q5->Sem zg->Sem zg->Bool)(h:Sem Q5)(o:Sem zg)(u:Sem zg):rn (KZ g c) 0 Wm Tryz.f21 [zC Q5 h,zC zg o,zC zg u] []=(VU g c h o u).map (lf Tryz.f21 UI):=kw
def wR(g:Sem Q5->Sem zg->Sem zg->Sem Q5×Sem zg)(c:Sem Q5->Sem zg->Sem zg->Bool):AM->Tr (AM⊕aw)
 | .h500004 o u G h B z=>
  let D:=(↑(Io z.t.1):Int)
  let C:=(↑(Io z.2.2.2.1):Int)
  let E:=Q0 (C>45)
  br G
  (chk (Q0 (0<=0)&&Q0 (0<=20)&&Q0 (20<=D)) (Tr.to (AM.h500006 o u E h B (z.1,z.2.1,z.2.2.1,z.2.2.2.1,Qg (toNat 20-toNat 0) (Qh (toNat 0) z.t.1),()))))
  (Tr.to (AM.h500006 o u E h B z))
 | .h500006 o u H h B z=>
  let D:=(↑(Io z.2.2.2.1):Int)
  let C:=Γ Δ (u-1)
  br H
  (chk (Q0 (0<=0)&&Q0 (0<=45)&&Q0 (45<=D)) (Tr.to (AM.h500008 o C h B (z.1,z.2.1,z.2.2.1,Qg (toNat 45-toNat 0) (Qh (toNat 0) z.2.2.2.1),z.t))))
  (Tr.to (AM.h500008 o C h B z))
 | .h500008 o u h B z=>
  Tr.to (AM.h10 o u 0 h B (z.1,z.2.1,z.2.2.1,z.2.2.2.1,z.t.1,[],()))
 | .h10 o u F h B z=>
  let D:=(↑(zf.l h.1).length:Int)
  let C:=zm ((zf.l h.1).getD F.toNat (zi Q5))
  let E:=Γ Δ (o-1)
  let I:=g C E u
  let J:=[zm I.1]
  br (cond (Q0 (F<D)) (cond (Q0 (F<3)) (cond (Q0 (o>0)) (Q0 (u>0)) Q4) Q4) Q4)
  (chk (zJ F (zf.l h.1).length) (chk (c C E u) (chk (Q0 (Io z.t.2.1+Io J<=1073741824)) (Tr.to (AM.h10 o I.2 (Γ Δ (F+1)) h B (z.1,z.2.1,z.2.2.1,z.2.2.2.1,z.t.1,z.t.2.1++J,()))))))
  (re (tup [agg [str z.1,ai z.2.1,ai z.2.2.1,str z.2.2.2.1,str z.t.1,AV.vec 0],ai u]) [AO.vec Q5 z.t.2.1])
theorem zpy(g:Sem Q5->Sem zg->Sem zg->Sem Q5×Sem zg)(c:Sem Q5->Sem zg->Sem zg->Bool):∀s,run (KZ g c) 0 Wm (Func.results Tryz.f21).toList 400 (aj Tryz.f21 (UI s).1) (UI s).2=(wR g c s).map (lf Tryz.f21 UI):=by intro s;cases s<;>kernel_rfl
def KX(o:Option (zz (List.map Q1 [Q5,zg]))):Sem Q5×Sem zg:=(λr:zz (List.map Q1 [Q5,zg])=>(r.1,r.2.1)) (o.getD (bQ [Q5,zg]))
def zmt(g:Sem Q5->Sem zg->Sem zg->Sem Q5×Sem zg)(c:Sem Q5->Sem zg->Sem zg->Bool)(h:Sem Q5)(o:Sem zg)(u:Sem zg):Option (zz (List.map Q1 [Q5,zg])):=al [Q5,zg] (wR g c) 100000000 (VU g c h o u)
def px:Nat->Sem Q5->Sem zg->Sem zg->Option (zz (List.map Q1 [Q5,zg]))
 |0=>λ_ _ _=>Q2
 |n+1=>zmt (λh o u=>KX (px n h o u)) λh o u=>(px n h o u).isSome
theorem zhF:zO Gj.P 21 Tryz.f21 3:=bU kw
theorem Pm:∀n,FK 21 (zT [Q5,zg,zg] [Q5,zg] (λx=>(px n x.1 x.2.1 x.2.2.1).isSome) λx=>((KX (px n x.1 x.2.1 x.2.2.1)).1,(KX (px n x.1 x.2.1 x.2.2.1)).2,()))
 |0=>eY ⟨Tryz.f21,zhF.1,zhF.2.1,zhF.2.2.1⟩ (λ_=>rfl)
 |n+1=>kY (E:=KZ (λh o u=>KX (px n h o u)) (λh o u=>(px n h o u).isSome)) (ks:=[Q5,zg,zg]) (outs:=[Q5,zg]) (keep:=Wm) (gas:=400) (n:=100000000) (e:=UI) (t:=wR (λh o u=>KX (px n h o u)) (λh o u=>(px n h o u).isSome)) (i:=λx=>VU (λh o u=>KX (px n h o u)) (λh o u=>(px n h o u).isSome) x.1 x.2.1 x.2.2.1) (Sj (Pm n)) (zo9 _ _) (λx=>zmU _ _ x.1 x.2.1 x.2.2.1) (zpy _ _) (λ_=>by kernel_rfl) (λ_=>by kernel_rfl)
def sH(N:Nat)(e:Sem Q5)(d n:Sem zg):Sem Q5×Sem zg:=KX (px N e d n)
def Lk(N:Nat)(e:Sem Q5)(d n:Sem zg):Bool:=(px N e d n).isSome
def F15:zZ:=zT [Q5,zg,zg] [Q5,zg] (λx=>Lk 16 x.1 x.2.1 x.2.2.1) λx=>((sH 16 x.1 x.2.1 x.2.2.1).1,(sH 16 x.1 x.2.1 x.2.2.1).2,())
theorem zkM:FK 21 F15:=Pm 16
def eqL(g:zf->zf->Bool):List zf->List zf->Bool
 |x::r,y::s=>if(!g x y)=Q3 then Q4 else eqL g r s
 |_,_=>Q3
def Sw(g c:zf->zf->Bool):List zf->List zf->Bool
 |x::r,y::s=>if c x y=Q3 then(ite ((!g x y)=Q3) Q3 (Sw g c r s))else Q4
 |_,_=>Q3
noncomputable def Sg(g c:zf->zf->Bool):bZ:=Gj.add 168 (zT [.expr,.expr] [.bool] (λx=>c x.1 x.2.1) (λx=>(g x.1 x.2.1,())))
theorem CW{g c:zf->zf->Bool}(h:FK 168 (zT [.expr,.expr] [.bool] (λx=>c x.1 x.2.1) (λx=>(g x.1 x.2.1,())))):zw (Sg g c):=ra.add h
abbrev znU:Nat->aN:=λj=>if j=4 then{slots:=[1,2,15,16,17]}else{ }
abbrev QX(z:List zf)(u:List zf)(h:Int)(o:Int):St:={tmps:=(tm 32 [(1,sl Q5 z),(2,AV.clo (Fn.func 168) [] []),(15,sl Q5 u),(16,ai h),(17,ai o)]),heap:=[]}
theorem za7(g c:zf->zf->Bool):zO (Sg g c).P 207 Tryz.f207 3:=bU kw
theorem zrA(g c:zf->zf->Bool)(l:List zf)(m:List zf):rn (Sg g c) 0 znU Tryz.f207 [sl Q5 l,sl Q5 m,AV.clo (Fn.func 168) [] []] []=br ((↑l.length:Int)!=(↑m.length:Int)) (Tr.ok (zG.ret (kb Q4) [])) (Tr.ok (zG.head 4 (aj Tryz.f207 4) (QX m l (↑l.length:Int) 0))):=kw
theorem Xd(g c:zf->zf->Bool)(z:List zf)(o:List zf)(u:Int)(h:Int):rh (Sg g c) 0 znU Tryz.f207 4 (QX z o u h)=br (Q0 (h<u)) (chk (zJ h (Io o)) (chk (zJ h (Io z)) (chk (c (zm (o.getD h.toNat (zi Q5))) (zm (z.getD h.toNat (zi Q5)))) (br (!g (zm (o.getD h.toNat (zi Q5))) (zm (z.getD h.toNat (zi Q5)))) (Tr.ok (zG.ret (kb Q4) [])) (Tr.ok (zG.head 4 (aj Tryz.f207 4) (QX z o u (Γ Δ (h+1))))))))) (Tr.ok (zG.ret (kb Q3) [])):=kw
theorem zql{g c:zf->zf->Bool}(F:FK 168 (zT [.expr,.expr] [.bool] (λx=>c x.1 x.2.1) (λx=>(g x.1 x.2.1,())))){C:ff}(E:∀id,0<=id->C.ρ0 id=Q2)(l m:List zf)(J:Io l=Io m)(L:Io l<=aG):
  ∀(k i:Nat),Io l-i=k->i<=Io l->Sw g c (l.drop i) (m.drop i)=Q3->Reach (Sg g c) C 207 (aj Tryz.f207 4) (QX m l (Io l) i) (λr h=>(r,h)=(.kb (eqL g (l.drop i) (m.drop i)),[])):=by
 intro k
 induction k with
 | zero=>
  intro i H G B;obtain rfl:i=Io l:=by omega
  refine zK (CW F) (za7 g c) E (Xd g c _ _ _ _) ?_;simp only[zB,Tr.val_brF,jK];rfl
 | succ k I=>
  intro i H G B;have u:i<Io l:=by omega
  have o:i<Io m:=by omega
  refine zK (CW F) (za7 g c) E (Xd g c _ _ _ _) ?_;rw[fj u,fj o]at B⊢;rw[Sw]at B;have z:=rr B;simp only[zF u,zt u,zt o,cM l _ u,cM m _ o,zf.eta,Tr.val_brT,Tr.val_chkT,z.1,zr i ow];refine mL (λh=>?_) (λh=>?_)
  ·rw[eqL,if_pos h];rfl
  ·rw[eqL,if_neg (nj h)];have D:=z.2;rw[if_neg (nj h)]at D;exact I (i+1) ow ow D
def NR(g:zf->zf->Bool)(l m:List zf):Bool:=if((↑l.length:Int)!=(↑m.length:Int))=Q3 then Q4 else eqL g l m
def Ak(g c:zf->zf->Bool)(l m:List zf):Bool:=if((↑l.length:Int)!=(↑m.length:Int))=Q3 then Q3 else Sw g c l m
def G50(g c:zf->zf->Bool):iU [Q1 (.sl .expr),Q1 (.sl .expr),Q2]:=λx h=>match x,h with
 |(l,m,.clo (.func 168) [] [],_),[]=>.chk (Ak g c l m) (.ok (.bool (NR g l m),[]))
 |_,_=>.err
def F50(g c:zf->zf->Bool):zZ:=bp [Q1 (.sl .expr),Q1 (.sl .expr),Q2] (G50 g c)
theorem Reach.weaken{E:bZ}{C:ff}{J:FuncId}{o:List Item}{st:St}{Q I:AV->List AO->Prop}(h:Reach E C J o st Q)(Z:∀r h,Q r h->∃z,I z h/\∀w U ρ v,Rv w U ρ r v->Rv w U ρ z v):Reach E C J o st I:=by
 intro b cs a w U ρ S T X W;obtain⟨e,w',O,⟨v,r,L,M,ρ',Y,D,H,u⟩,B⟩:=h b cs a w U ρ S T X W;obtain⟨z,F,G⟩:=Z r L D;exact⟨e,w',O,⟨v,z,L,M,ρ',Y,F,G _ _ _ _ H,u⟩,B⟩
theorem zle{g c:zf->zf->Bool}(D:FK 168 (zT [.expr,.expr] [.bool] (λx=>c x.1 x.2.1) (λx=>(g x.1 x.2.1,())))):FK 207 (F50 g c):=by
 refine dX (E:=Sg g c) (za7 g c) λx J I o C B=>?_
 unfold G50 at o;split at o
 ·rename_i l m u;simp only[Q8]at o;split at o
  ·rename_i z;simp only[bH]at o;subst o;refine Reach.len 0 .expr l rfl λF=>?_
   refine Reach.weaken (Q:=λr h=>(r,h)=(.kb (NR g l m),[])) ?_ ?_
   ·refine zK (n0:=0) (CW D) (za7 g c) B (zrA g c l m) ?_;unfold Ak at z;unfold NR;refine mL (λh=>?_) (λh=>?_)
    ·rw[if_pos h];rfl
    ·rw[if_neg (nj h)]at z⊢;have:(Io l:Int)=Io m:=by simpa using h
     have:Io l=Io m:=by omega
     exact zql D B l m this F _ 0 rfl (aO _) z
   ·rintro r h G;cases G;refine⟨_,rfl,λw U ρ v H=>?_⟩;cases H;exact .bool _
  ·simp at o
 ·simp at o
noncomputable def zat(g c:zf->zf->Bool):bZ:=Gj.add 207 (F50 g c)
theorem UP{g c:zf->zf->Bool}(h:FK 168 (zT [.expr,.expr] [.bool] (λx=>c x.1 x.2.1) (λx=>(g x.1 x.2.1,())))):zw (zat g c):=ra.add (zle h)
def YD(a b:V):Bool:=a.1==b.1&&(a.2.1==b.2.1&&(a.2.2==b.2.2&&Q3))
def MR(g:zf->zf->Bool)(a b:zf):Bool:=bif a.op==b.op then bif YD a.v b.v then bif a.s==b.s then NR g a.l b.l else Q4 else Q4 else Q4
def JO(g c:zf->zf->Bool)(a b:zf):Bool:=bif a.op==b.op then bif YD a.v b.v then bif a.s==b.s then Ak g c a.l b.l else Q3 else Q3 else Q3
theorem WZ(g c:zf->zf->Bool):zO (zat g c).P 168 Tryz.f168 2:=bU kw
theorem zrh(g c:zf->zf->Bool)(l:zf)(m:zf):rn (zat g c) 0 (λ_=>{}) Tryz.f168 [zC Q5 l,zC Q5 m] []=chk (JO g c l m) (Tr.ok (zG.ret (AV.bool (MR g l m)) [])):=kw
theorem zfm{g c:zf->zf->Bool}(o:FK 168 (zT [.expr,.expr] [.bool] (λx=>c x.1 x.2.1) (λx=>(g x.1 x.2.1,())))):FK 168 (zT [.expr,.expr] [.bool] (λx=>JO g c x.1 x.2.1) (λx=>(MR g x.1 x.2.1,()))):=by
 refine aM (E:=zat g c) (WZ g c) λx u C h=>?_
 refine zK (n0:=0) (UP o) (WZ g c) (λid _=>h id) (zrh g c x.1 x.2.1) ?_;exact mM u rfl
mutual
def fE:Nat->zf->zf->Bool
 |0=>λ_ _=>Q4
 |n+1=>MR (fE n)
def jz:Nat->zf->zf->Bool
 |0=>λ_ _=>Q4
 |n+1=>JO (fE n) (jz n)
end
theorem TO:∀n,FK 168 (zT [.expr,.expr] [.bool] (λx=>jz n x.1 x.2.1) (λx=>(fE n x.1 x.2.1,())))
 |0=>eY ⟨Tryz.f168,(WZ (λ_ _=>Q4) (λ_ _=>Q4)).1,(WZ (λ_ _=>Q4) (λ_ _=>Q4)).2.1,(WZ (λ_ _=>Q4) (λ_ _=>Q4)).2.2.1⟩ (λ_=>rfl)
 |n+1=>zfm (TO n)
def F29:zZ:=zT [.expr,.expr] [.bool] (λx=>jz 16 x.1 x.2.1) (λx=>(fE 16 x.1 x.2.1,()))
theorem zkW:FK 168 F29:=TO 16
noncomputable def PH:=Gj.addL [(21,F15),(168,F29)]
theorem Gk:zw PH:=ra.addL<|fc zkM<|fc zkW iz
def aT(v:V):Bool:=v.1==0&&(v.2.1==0&&(v.2.2==[]&&Q3))
def avB:AV->Option Bool
 |.bool b=>Q1 b
 |.kb b=>Q1 b
 |_=>Q2
theorem Reach.toBool{E:bZ}{C:ff}{u:FuncId}{o:List Item}{st:St}{b:Bool}{hp:List AO}(h:Reach E C u o st (λr h=>avB r=Q1 b/\h=hp)):Reach E C u o st (λr h=>(r,h)=(.bool b,hp)):=by
 refine h.weaken λr F B=>?_
 obtain⟨z,rfl⟩:=B;refine⟨.bool b,rfl,λw U ρ v D=>?_⟩;cases r<;>simp[avB]at z<;>subst z<;>cases D<;>exact .bool _
def zgt(g:zf->Int->Int->Bool×Int)(c:zf->Int->Int->Bool):iU [Q2,Q1 .expr,Q1 zg]:=λx h=>match x,h with
 |(.ptr 0 0,e,d,_),[.box [.int .i64 n]]=>.chk (c e d n) (.ok (.bool (g e d n).1,[.box [.int .i64 (g e d n).2]]))
 |_,_=>.err
def M9(g:zf->Int->Int->Bool×Int)(c:zf->Int->Int->Bool):zZ:=bp [Q2,Q1 .expr,Q1 zg] (zgt g c)
noncomputable def Sf(g:zf->Int->Int->Bool×Int)(c:zf->Int->Int->Bool):bZ:=PH.add 80 (M9 g c)
theorem CV{g:zf->Int->Int->Bool×Int}{c:zf->Int->Int->Bool}(h:FK 80 (M9 g c)):zw (Sf g c):=Gk.add h
abbrev znO:Nat->aN:=λj=>if j=12 then{slots:=[0,2,73,74,75]}else{ }
abbrev JL(B:Int)(z:LX)(h:Int)(o:Int)(u:Int):St:={tmps:=(tm 86 [(0,ptr 0 0),(2,ai B),(73,sl Q5 z),(74,ai h),(75,ai o)]),heap:=[Qa [ai u]]}
theorem W0(g:zf->Int->Int->Bool×Int)(c:zf->Int->Int->Bool):zO (Sf g c).P 80 Tryz.f80 3:=bU kw
theorem zrn(g:zf->Int->Int->Bool×Int)(c:zf->Int->Int->Bool)(e:zf)(d:Int)(n:Int):rn (Sf g c) 1 znO Tryz.f80 [ptr 0 0,zC Q5 e,ai d] [Qa [ai n]]=br (cond (Q0 (d>12)) Q3 (cond (Q0 (Γ Δ (n+1)>60)) Q3 ((↑e.l.length:Int)!=cY e.op))) (Tr.ok (zG.ret (kb Q4) [Qa [ai (Γ Δ (n+1))]])) (br (e.op==kH) (Tr.ok (zG.ret (AV.bool (cond (e.s==[]) (aU e.v) Q4)) [Qa [ai (Γ Δ (n+1))]])) (br (e.op==cX) (Tr.ok (zG.ret (AV.bool (cond (aT e.v) (cond (ei e.s) (!jw e.s) Q4) Q4)) [Qa [ai (Γ Δ (n+1))]])) (br (cond (!aT e.v) Q3 (!e.s==[])) (Tr.ok (zG.ret (kb Q4) [Qa [ai (Γ Δ (n+1))]])) (Tr.ok (zG.head 12 (aj Tryz.f80 12) (JL d e.l (↑e.l.length:Int) 0 (Γ Δ (n+1)))))))):=kw
theorem Qt(g:zf->Int->Int->Bool×Int)(c:zf->Int->Int->Bool)(B:Int)(o:LX)(z:Int)(h:Int)(u:Int):rh (Sf g c) 1 znO Tryz.f80 12 (JL B o z h u)=br (Q0 (h<z)) (chk (zJ h (Io o)) (chk (c (zm (o.getD h.toNat (zi Q5))) (Γ Δ (B+1)) u) (br (!(g (zm (o.getD h.toNat (zi Q5))) (Γ Δ (B+1)) u).1) (Tr.ok (zG.ret (kb Q4) [Qa [AV.int IntKind.i64 (g (zm (o.getD h.toNat (zi Q5))) (Γ Δ (B+1)) u).2]])) (Tr.ok (zG.head 12 (aj Tryz.f80 12) (JL B o z (Γ Δ (h+1)) (g (zm (o.getD h.toNat (zi Q5))) (Γ Δ (B+1)) u).2)))))) (Tr.ok (zG.ret (kb Q3) [Qa [ai u]])):=kw
def pz(g:zf->Int->Int->Bool×Int)(d:Int):List zf->Int->Bool×Int
 |[],n=>(Q3,n)
 |x::r,n=>if(!(g x (Γ Δ (d+1)) n).1)=Q3 then(Q4,(g x (Γ Δ (d+1)) n).2)else pz g d r (g x (Γ Δ (d+1)) n).2
def DG(g:zf->Int->Int->Bool×Int)(c:zf->Int->Int->Bool)(d:Int):List zf->Int->Bool
 |[],_=>Q3
 |x::r,n=>if c x (Γ Δ (d+1)) n=Q3 then(ite ((!(g x (Γ Δ (d+1)) n).1)=Q3) Q3 (DG g c d r (g x (Γ Δ (d+1)) n).2))else Q4
theorem zqk{g:zf->Int->Int->Bool×Int}{c:zf->Int->Int->Bool}(E:FK 80 (M9 g c)){C:ff}(D:∀id,1<=id->C.ρ0 id=Q2)(d:Int)(l:List zf)(H:Io l<=aG):
  ∀(k i:Nat)(n:Int),Io l-i=k->i<=Io l->DG g c d (l.drop i) n=Q3->Reach (Sf g c) C 80 (aj Tryz.f80 12) (JL d l (Io l) i n) (λr h=>avB r=Q1 (pz g d (l.drop i) n).1/\h=[.box [.int .i64 (pz g d (l.drop i) n).2]]):=by
 intro k
 induction k with
 | zero=>
  intro i n G F z;obtain rfl:i=Io l:=by omega
  refine zK (CV E) (W0 g c) D (Qt g c _ _ _ _ _) ?_;simp only[zB,Tr.val_brF,jK];exact⟨rfl,rfl⟩
 | succ k I=>
  intro i n G F z;have o:i<Io l:=by omega
  refine zK (CV E) (W0 g c) D (Qt g c _ _ _ _ _) ?_;rw[fj o]at z⊢;rw[DG]at z;have u:=rr z;simp only[zF o,zt o,cM l _ o,zf.eta,Tr.val_brT,Tr.val_chkT,u.1,zr i ow];refine mL (λh=>?_) (λh=>?_)
  ·rw[pz,if_pos h];exact⟨rfl,rfl⟩
  ·rw[pz,if_neg (nj h)];have B:=u.2;rw[if_neg (nj h)]at B;exact I (i+1) _ ow ow B
def AZ(g:zf->Int->Int->Bool×Int)(e:zf)(d n:Int):Bool×Int:=if(cond (Q0 (d>12)) Q3 (cond (Q0 (Γ Δ (n+1)>60)) Q3 ((↑e.l.length:Int)!=cY e.op)))=Q3 then(Q4,Γ Δ (n+1))else if(e.op==kH)=Q3 then(cond (e.s==[]) (aU e.v) Q4,Γ Δ (n+1))else if(e.op==cX)=Q3 then(cond (aT e.v) (cond (ei e.s) (!jw e.s) Q4) Q4,Γ Δ (n+1))else if(cond (!aT e.v) Q3 (!e.s==[]))=Q3 then(Q4,Γ Δ (n+1))else pz g d e.l (Γ Δ (n+1))
def P8(g:zf->Int->Int->Bool×Int)(c:zf->Int->Int->Bool)(e:zf)(d n:Int):Bool:=if(cond (Q0 (d>12)) Q3 (cond (Q0 (Γ Δ (n+1)>60)) Q3 ((↑e.l.length:Int)!=cY e.op)))=Q3 then Q3 else if(e.op==kH)=Q3 then Q3 else if(e.op==cX)=Q3 then Q3 else if(cond (!aT e.v) Q3 (!e.s==[]))=Q3 then Q3 else DG g c d e.l (Γ Δ (n+1))
theorem zfz{g:zf->Int->Int->Bool×Int}{c:zf->Int->Int->Bool}(F:FK 80 (M9 g c)):FK 80 (M9 (AZ g) (P8 g c)):=by
 refine dX (E:=Sf g c) (W0 g c) λx I H h C D=>?_
 unfold zgt at h;split at h
 ·rename_i e d u n;simp only[Q8]at h;split at h
  ·rename_i z;simp only[bH]at h;subst h;refine Reach.toBool ?_;refine zK (n0:=1) (CV F) (W0 g c) D (zrn g c e d n) ?_;generalize B:AZ g e d n=y;unfold AZ at B;unfold P8 at z;repeat' (refine mL (λo=>?_) (λo=>?_)<;>first|(rw[if_pos o]at B z)|(rw[if_neg (nj o)]at B z))
   all_goals subst B
   ·exact⟨rfl,rfl⟩
   ·exact⟨rfl,rfl⟩
   ·exact⟨rfl,rfl⟩
   ·exact⟨rfl,rfl⟩
   ·exact Reach.len 73 .expr e.l rfl λG=>zqk F D d e.l G _ 0 _ rfl (aO _) z
  ·simp at h
 ·simp at h
mutual
def il:Nat->zf->Int->Int->Bool×Int
 |0=>λ_ _ _=>(Q4,0)
 |n+1=>AZ (il n)
def vG:Nat->zf->Int->Int->Bool
 |0=>λ_ _ _=>Q4
 |n+1=>P8 (il n) (vG n)
end
theorem TP:∀n,FK 80 (M9 (il n) (vG n))
 | 0=>by
  have h:FK 80 (bp [Q2,Q1 .expr,Q1 zg] (λ_ _=>.err)):=dX (W0 (λ_ _ _=>(Q4,0)) (λ_ _ _=>Q4)) (E:=PH) λx z u o=>by simp at o
  refine A6 (ι:=Unit) (Gs:=λ_ _ _=>.err) (λ_=>h) λx z u o=>?_
  unfold zgt at o;split at o
  ·simp[Q8,vG]at o
  ·simp at o
 |n+1=>zfz (TP n)
def F37:zZ:=M9 (il 16) (vG 16)
theorem zk1:FK 80 F37:=TP 16
noncomputable def Gl:=PH.add 80 F37
theorem xA:zw Gl:=Gk.add zk1
abbrev ja:List (zD×AV):=[(em,.clo (.func 317) [] []),(uQ,.clo (.func 318) [] []),(mS,.clo (.func 319) [] []),([61],.clo (.func 321) [] []),([60],.clo (.func 322) [] []),([43],.clo (.func 323) [] []),([45],.clo (.func 324) [] []),(pb,.clo (.func 325) [] [])]
abbrev zse:Nat->aN:=λ_=>{ }
theorem zoA:zO Gl.P 293 Tryz.f293 0:=bU kw
theorem zre:(run Gl 0 zse (Func.results Tryz.f293).toList 400 (bC Tryz.f293) (bl (Func.ntmps Tryz.f293) [] [])).val=Q1 (zG.ret (AV.mp 0) [AO.fmap ja]):=kw
def G23:iU []:=λ_ h=>match h with
 |[]=>.ok (.mp 0,[.fmap ja])
 |_=>.err
def F23:zZ:=bp [] G23
theorem zkR:FK 293 F23:=by
 refine dX zoA λx z u h C o=>?_
 unfold G23 at h;split at h
 ·simp only[Q8,bH]at h;subst h;exact nF (n0:=0) xA zoA o zre rfl
 ·simp at h
def opV(o:zD)(x y:V):V:=if(o==em)=Q3 then A3 x y else if(o==uQ)=Q3 then YF x y else if(o==mS)=Q3 then Rl x y else if(o==[61])=Q3 then km x y else if(o==[60])=Q3 then tq x y else if(o==[43])=Q3 then qS x y else if(o==[45])=Q3 then mG x y else if(o==pb)=Q3 then Kf x y else(0,0,[])
def opC(o:zD):Bool:=if(o==em)=Q3 then Q3 else if(o==uQ)=Q3 then Q3 else if(o==mS)=Q3 then Q3 else if(o==[61])=Q3 then Q3 else if(o==[60])=Q3 then Q3 else if(o==[43])=Q3 then Q3 else if(o==[45])=Q3 then Q3 else if(o==pb)=Q3 then Q3 else Q4
def opL(o:zD)(x y:V)(h:List AO):Option zG:=if(o==em)=Q3 then Q1 (.ret (zC ze (A3 x y)) h)else if(o==uQ)=Q3 then Q1 (.ret (zC ze (YF x y)) h)else if(o==mS)=Q3 then Q1 (.ret (zC ze (Rl x y)) h)else if(o==[61])=Q3 then Q1 (.ret (zC ze (km x y)) h)else if(o==[60])=Q3 then Q1 (.ret (zC ze (tq x y)) h)else if(o==[43])=Q3 then Q1 (.ret (zC ze (qS x y)) h)else if(o==[45])=Q3 then Q1 (.ret (zC ze (mG x y)) h)else if(o==pb)=Q3 then Q1 (.ret (zC ze (Kf x y)) h)else Q2
def zgs(g:List (Sem zj)->List (Sem ze)->zf->V)(c:List (Sem zj)->List (Sem ze)->zf->Bool):iU [Q2,Q1 .expr]:=λx h=>match x,h with
 | (.agg [.sl (.pr .str (.pr (.int .i64) .bool)) cols,.sl (.pr (.int .i64) (.pr (.int .i64) .str)) row,.mp 0],e,_),[.fmap [(k1,.clo (.func 317) [] []),(k2,.clo (.func 318) [] []),(k3,.clo (.func 319) [] []),(k4,.clo (.func 321) [] []),(k5,.clo (.func 322) [] []),(k6,.clo (.func 323) [] []),(k7,.clo (.func 324) [] []),(k8,.clo (.func 325) [] [])]]=>
  .chk (k1==em&&(k2==uQ&&(k3==mS&&(k4==[61]&&(k5==[60]&&(k6==[43]&&(k7==[45]&&(k8==pb)))))))) (.chk (c cols row e) (.ok (zC ze (g cols row e),[.fmap ja])))
 |_,_=>.err
def Rr(g:List (Sem zj)->List (Sem ze)->zf->V)(c:List (Sem zj)->List (Sem ze)->zf->Bool):zZ:=bp [Q2,Q1 .expr] (zgs g c)
noncomputable def Sd(g:List (Sem zj)->List (Sem ze)->zf->V)(c:List (Sem zj)->List (Sem ze)->zf->Bool):bZ:=Gl.add 294 (Rr g c)
theorem CT{g:List (Sem zj)->List (Sem ze)->zf->V}{c:List (Sem zj)->List (Sem ze)->zf->Bool}(h:FK 294 (Rr g c)):zw (Sd g c):=xA.add h
theorem WX(g:List (Sem zj)->List (Sem ze)->zf->V)(c:List (Sem zj)->List (Sem ze)->zf->Bool):zO (Sd g c).P 294 Tryz.f294 2:=bU kw
theorem zhk(g:List (Sem zj)->List (Sem ze)->zf->V)(c:List (Sem zj)->List (Sem ze)->zf->Bool)(h:LC)(o:LV)(u:zD)(v:V)(s:zD):(run (Sd g c) 1 unr (Func.results Tryz.f294).toList 600 (bC Tryz.f294) (bl (Func.ntmps Tryz.f294) [agg [sl zj h,sl ze o,AV.mp 0],zC Q5 (.mk u v s [])] [AO.fmap ja])).val=if(u==kH)=Q3 then Q1 (.ret (zC ze v) [.fmap ja])else if(u==cX)=Q3 then(ite ((cond (Q0 (ap h s<0)) Q3 (Q0 (ap h s>=(↑o.length:Int))))=Q3) (Q1 (.ret (zC ze (0,0,[])) [.fmap ja])) (ite (zJ (ap h s) (Io o)=Q3) (Q1 (.ret (zC ze (o.getD (toNat (ap h s)) (zi ze))) [.fmap ja])) Q2))else opL u (0,0,[]) (0,0,[]) [.fmap ja]:=kw
theorem zhl(g:List (Sem zj)->List (Sem ze)->zf->V)(c:List (Sem zj)->List (Sem ze)->zf->Bool)(h:LC)(o:LV)(u:zD)(v:V)(s:zD)(a:zf):(run (Sd g c) 1 unr (Func.results Tryz.f294).toList 600 (bC Tryz.f294) (bl (Func.ntmps Tryz.f294) [agg [sl zj h,sl ze o,AV.mp 0],zC Q5 (.mk u v s [a])] [AO.fmap ja])).val=if(u==kH)=Q3 then Q1 (.ret (zC ze v) [.fmap ja])else if(u==cX)=Q3 then(ite ((cond (Q0 (ap h s<0)) Q3 (Q0 (ap h s>=(↑o.length:Int))))=Q3) (Q1 (.ret (zC ze (0,0,[])) [.fmap ja])) (ite (zJ (ap h s) (Io o)=Q3) (Q1 (.ret (zC ze (o.getD (toNat (ap h s)) (zi ze))) [.fmap ja])) Q2))else if c h o (.mk a.op a.v a.s a.l)=Q3 then opL u (g h o (.mk a.op a.v a.s a.l)) (0,0,[]) [.fmap ja]else Q2:=kw
theorem zhm(g:List (Sem zj)->List (Sem ze)->zf->V)(c:List (Sem zj)->List (Sem ze)->zf->Bool)(h:LC)(o:LV)(u:zD)(v:V)(s:zD)(a b:zf):(run (Sd g c) 1 unr (Func.results Tryz.f294).toList 600 (bC Tryz.f294) (bl (Func.ntmps Tryz.f294) [agg [sl zj h,sl ze o,AV.mp 0],zC Q5 (.mk u v s [a,b])] [AO.fmap ja])).val=if(u==kH)=Q3 then Q1 (.ret (zC ze v) [.fmap ja])else if(u==cX)=Q3 then(ite ((cond (Q0 (ap h s<0)) Q3 (Q0 (ap h s>=(↑o.length:Int))))=Q3) (Q1 (.ret (zC ze (0,0,[])) [.fmap ja])) (ite (zJ (ap h s) (Io o)=Q3) (Q1 (.ret (zC ze (o.getD (toNat (ap h s)) (zi ze))) [.fmap ja])) Q2))else if c h o (.mk a.op a.v a.s a.l)=Q3 then(ite (c h o (.mk b.op b.v b.s b.l)=Q3) (opL u (g h o (.mk a.op a.v a.s a.l)) (g h o (.mk b.op b.v b.s b.l)) [.fmap ja]) Q2)else Q2:=kw
theorem qX{Φ:zG->Prop}{c:Bool}{a b:Option zG}(h:c=Q3->gC Φ a)(o:c=Q4->gC Φ b):gC Φ (ite (c=Q3) a b):=by
 cases c
 ·simpa using o rfl
 ·simpa using h rfl
theorem yH{E:bZ}{C:ff}{k:FuncId}{f:Func}{Q:AV->List AO->Prop}{n n0:Nat}(D:zw E)(F:zO E.P k f n)(B:∀id,n0<=id->C.ρ0 id=Q2){keep:Nat->aN}{z:Nat}
  {u:List Item} {st:St} {o:Option zG} (G:(run E n0 keep f.results.toList z u st).val=o) (h:gC (kc E C k Q) o):Reach E C k u st Q:=
 zK D F B rfl (by rw[G];exact h)
theorem ym{E:bZ}{C:ff}{D:zD}{x y:V}{h:List AO}(u:opC D=Q3):gC (kc E C 294 (λr F=>(r,F)=(zC ze (opV D x y),h))) (opL D x y h):=by
 generalize B:opV D x y=z;unfold opC at u;unfold opV at B;unfold opL;repeat' (refine qX (λo=>?_) (λo=>?_)<;>first|(rw[if_pos o]at B;try rw[if_pos o]at u)|(rw[if_neg (nj o)]at B;try rw[if_neg (nj o)]at u))
 all_goals first|(cases u;done)|(subst B;rfl)
def sM(g:List (Sem zj)->List (Sem ze)->zf->V)(h:LC)(o:LV):zf->V
 | .mk u v s l=>if (u==kH)=Q3 then v else
  if(u==cX)=Q3 then(ite ((cond (Q0 (ap h s<0)) Q3 (Q0 (ap h s>=(↑o.length:Int))))=Q3) (0,0,[]) (o.getD (toNat (ap h s)) (zi ze)))else
  match l with
  |[]=>opV u (0,0,[]) (0,0,[])
  |[a]=>opV u (g h o a) (0,0,[])
  |[a,b]=>opV u (g h o a) (g h o b)
  |_=>(0,0,[])
def w8(c:List (Sem zj)->List (Sem ze)->zf->Bool)(h:LC)(o:LV):zf->Bool
 |.mk _ _ _ (_::_::_::_)=>Q4
 | .mk u _ s l=>if (u==kH)=Q3 then Q3 else
  if(u==cX)=Q3 then(ite ((cond (Q0 (ap h s<0)) Q3 (Q0 (ap h s>=(↑o.length:Int))))=Q3) Q3 (zJ (ap h s) (Io o)))else
  match l with
  |[]=>opC u
  |[a]=>if c h o a=Q3 then opC u else Q4
  |[a,b]=>if c h o a=Q3 then(ite (c h o b=Q3) (opC u) Q4)else Q4
  |_=>Q4
theorem zfd{g:List (Sem zj)->List (Sem ze)->zf->V}{c:List (Sem zj)->List (Sem ze)->zf->Bool}(J:FK 294 (Rr g c)):FK 294 (Rr (sM g) (w8 c)):=by
 refine dX (E:=Sd g c) (WX g c) λx O M G C I=>?_
 unfold zgs at G;split at G
 ·rename_i D F e u S T W X Y Z k7 k8;simp only[Q8]at G;split at G
  ·rename_i L;split at G
   ·rename_i o;simp only[aE,bh]at L;obtain⟨rfl,rfl,rfl,rfl,rfl,rfl,rfl,rfl⟩:=L;simp only[bH]at G;subst G;obtain⟨H,v,s,l⟩:=e
    match l,o with
    | [],o=>
     refine yH (n0:=1) (CT J) (WX g c) I (zhk g c D F H v s) ?_;generalize B:sM g D F (.mk H v s [])=z;rw[w8]at o;rw[sM]at B;repeat' (first|(subst B;exact ym o)|refine qX (λh=>?_) (λh=>?_)<;>first|(first|rw[if_pos h]at B o|rw[if_pos h]at o|rw[if_pos h]at B)|(first|rw[if_neg (nj h)]at B o|rw[if_neg (nj h)]at o|rw[if_neg (nj h)]at B)|skip)
     all_goals first|(subst B;exact ym o)|(subst B;rfl)|(rw[o]at h;cases h)
    | [a],o=>
     refine yH (n0:=1) (CT J) (WX g c) I (zhl g c D F H v s a) ?_;generalize B:sM g D F (.mk H v s [a])=z;rw[w8]at o;rw[sM]at B;simp only[zf.eta];repeat' (first|(subst B;exact ym o)|refine qX (λh=>?_) (λh=>?_)<;>first|(first|rw[if_pos h]at B o|rw[if_pos h]at o|rw[if_pos h]at B)|(first|rw[if_neg (nj h)]at B o|rw[if_neg (nj h)]at o|rw[if_neg (nj h)]at B)|skip)
     all_goals first|(subst B;exact ym o)|(subst B;rfl)|(cases o;done)|(rw[o]at h;cases h)
    | [a,b],o=>
     refine yH (n0:=1) (CT J) (WX g c) I (zhm g c D F H v s a b) ?_;generalize B:sM g D F (.mk H v s [a,b])=z;rw[w8]at o;rw[sM]at B;simp only[zf.eta];repeat' (first|(subst B;exact ym o)|refine qX (λh=>?_) (λh=>?_)<;>first|(first|rw[if_pos h]at B o|rw[if_pos h]at o|rw[if_pos h]at B)|(first|rw[if_neg (nj h)]at B o|rw[if_neg (nj h)]at o|rw[if_neg (nj h)]at B)|skip)
     all_goals first|(subst B;exact ym o)|(subst B;rfl)|(cases o;done)|(rw[o]at h;cases h)
    | _::_::_::_,o=>
     cases o
   ·simp at G
  ·simp at G
 ·simp at G
mutual
def cW:Nat->List (Sem zj)->List (Sem ze)->zf->V
 |0=>λ_ _ _=>(0,0,[])
 |n+1=>sM (cW n)
def w7:Nat->List (Sem zj)->List (Sem ze)->zf->Bool
 |0=>λ_ _ _=>Q4
 |n+1=>w8 (w7 n)
end
theorem TN:∀n,FK 294 (Rr (cW n) (w7 n))
 | 0=>by
  have h:FK 294 (bp [Q2,Q1 .expr] (λ_ _=>.err)):=dX (WX (λ_ _ _=>(0,0,[])) (λ_ _ _=>Q4)) (E:=Gl) λx z u o=>by simp at o
  refine A6 (ι:=Unit) (Gs:=λ_ _ _=>.err) (λ_=>h) λx z u o=>?_
  unfold zgs at o;split at o
  ·simp[Q8,w7]at o
  ·simp at o
 |n+1=>zfd (TN n)
def F24:zZ:=Rr (cW 16) (w7 16)
theorem zkS:FK 294 F24:=TN 16
noncomputable def Gm:=Gl.addL [(293,F23),(294,F24)]
theorem xB:zw Gm:=xA.addL<|fc zkR<|fc zkS iz
abbrev zsd:Nat->aN:=λ_=>{ }
theorem zoz:zO (Gm).P 35 Tryz.f35 1:=bU kw
theorem zrd(h:Sem Q5):rn Gm 0 zsd Tryz.f35 [zC Q5 h] []=chk (vG 16 (zm h) 1 0) (Tr.ok (zG.ret (AV.bool (il 16 (zm h) 1 0).1) [])):=kw
def cG(h:Sem Q5):Sem Sh.bool:=(il 16 h 1 0).1
def Ah(h:Sem Q5):Bool:=if vG 16 h 1 0=Q3 then Q3 else Q4
def F22:zZ:=zT [Q5] [Sh.bool] (λx=>Ah x.1) λx=>(cG x.1,())
theorem zcZ:FK 35 F22:=by
 refine aM (zoz) λx o C u=>?_
 unfold Ah at o;refine zK xB (zoz) (λid _=>u id) (zrd x.1) ?_;generalize h:cG x.1=y;unfold cG at h
 try simp only[zf.eta]
 repeat' (first|with_reducible refine vK h o (λ_ h o=>?_) (λ_ h o=>?_)|with_reducible refine du h (λ_ h=>?_) (λ_ h=>?_)|with_reducible refine iH o (λo=>?_)|with_reducible refine zP ?_)
 all_goals(subst h;first|rfl)
abbrev kp7:Nat->aN:=λ_=>{ }
theorem ok7:zO (Gm).P 7 Tryz.f7 1:=bU kw
theorem go7(h:Sem Q5):rn Gm 0 kp7 Tryz.f7 [zC Q5 h] []=chk (Lk 16 (zm h) 14 80) (Tr.ok (zG.ret (agg [str (zf.op (sH 16 (zm h) 14 80).1),ai (zf.v (sH 16 (zm h) 14 80).1).1,ai (zf.v (sH 16 (zm h) 14 80).1).2.1,str (zf.v (sH 16 (zm h) 14 80).1).2.2,str (zf.s (sH 16 (zm h) 14 80).1),sl Q5 (zf.l (sH 16 (zm h) 14 80).1)]) [])):=kw
def dw(h:Sem Q5):Sem Q5:=zf.mk (zf.op (sH 16 h 14 80).1) (zf.v (sH 16 h 14 80).1) (zf.s (sH 16 h 14 80).1) (zf.l (sH 16 h 14 80).1)
def PF(h:Sem Q5):Bool:=if Lk 16 h 14 80=Q3 then Q3 else Q4
def F7:zZ:=zT [Q5] [Q5] (λx=>PF x.1) λx=>(dw x.1,())
theorem zlw:FK 7 F7:=by
 refine aM (ok7) λx o C u=>?_
 unfold PF at o;refine zK xB (ok7) (λid _=>u id) (go7 x.1) ?_;generalize h:dw x.1=y;unfold dw at h
 try simp only[zf.eta]
 repeat' (first|with_reducible refine vK h o (λ_ h o=>?_) (λ_ h o=>?_)|with_reducible refine du h (λ_ h=>?_) (λ_ h=>?_)|with_reducible refine iH o (λo=>?_)|with_reducible refine zP ?_)
 all_goals(subst h;first|rfl)
noncomputable def Gn:=Gm.addL [(35,F22),(7,F7)]
theorem xC:zw Gn:=xB.addL<|fc zcZ<|fc zlw iz
abbrev zsf:Nat->aN:=λ_=>{ }
theorem zoD:zO (Gn).P 165 Tryz.f165 2:=bU kw
theorem zri(h:Sem Q5)(o:Sem zj.sl):rn Gn 0 zsf Tryz.f165 [zC Q5 h,zC zj.sl o] []=chk (Ah (zm h)) (br (!cG (zm h)) (Tr.ok (zG.ret (tup [ai 0,ai 1]) [])) (chk (bj 16 (zm h) o) (Tr.ok (zG.ret (tup [ai (zS 16 (zm h) o).1,ai (zS 16 (zm h) o).2]) [])))):=kw
def bM(h:Sem Q5)(o:Sem zj.sl):Sem zg×Sem zg:=if(!cG h)=Q3 then(0,1)else((zS 16 h o).1,(zS 16 h o).2)
def Ig(h:Sem Q5)(o:Sem zj.sl):Bool:=if Ah h=Q3 then if(!cG h)=Q3 then Q3 else if bj 16 h o=Q3 then Q3 else Q4 else Q4
def F30:zZ:=zT [Q5,zj.sl] [zg,zg] (λx=>Ig x.1 x.2.1) λx=>((bM x.1 x.2.1).1,(bM x.1 x.2.1).2,())
theorem zc0:FK 165 F30:=by
 refine aM (zoD) λx o C u=>?_
 unfold Ig at o;refine zK xC (zoD) (λid _=>u id) (zri x.1 x.2.1) ?_;generalize h:bM x.1 x.2.1=y;unfold bM at h
 try simp only[zf.eta]
 repeat' (first|with_reducible refine vK h o (λ_ h o=>?_) (λ_ h o=>?_)|with_reducible refine du h (λ_ h=>?_) (λ_ h=>?_)|with_reducible refine iH o (λo=>?_)|with_reducible refine zP ?_)
 all_goals(subst h;first|rfl)
abbrev zsc:Nat->aN:=λ_=>{ }
theorem zot:zO (Gn).P 253 Tryz.f253 3:=bU kw
theorem zq7(h:Sem Q5)(o:Sem zj.sl)(u:Sem ze.sl):rn Gn 0 zsc Tryz.f253 [zC Q5 h,zC zj.sl o,zC ze.sl u] []=chk (Ah (zm h)) (br (!cG (zm h)) (Tr.ok (zG.ret (agg [ai 0,ai 0,str []]) [])) (chk (em==em&&(uQ==uQ&&(mS==mS&&([61]==[61]&&([60]==[60]&&([43]==[43]&&([45]==[45]&&pb==pb))))))) (chk (w7 16 o u (zm h)) (Tr.ok (zG.ret (agg [ai (cW 16 o u (zm h)).1,ai (cW 16 o u (zm h)).2.1,str (cW 16 o u (zm h)).2.2]) []))))):=kw
def kr(h:Sem Q5)(o:Sem zj.sl)(u:Sem ze.sl):Sem ze:=if(!cG h)=Q3 then(0,0,[])else cW 16 o u h
def Ie(h:Sem Q5)(o:Sem zj.sl)(u:Sem ze.sl):Bool:=if Ah h=Q3 then if(!cG h)=Q3 then Q3 else if(em==em&&(uQ==uQ&&(mS==mS&&([61]==[61]&&([60]==[60]&&([43]==[43]&&([45]==[45]&&pb==pb)))))))=Q3 then if w7 16 o u h=Q3 then Q3 else Q4 else Q4 else Q4
def F11:zZ:=zT [Q5,zj.sl,ze.sl] [ze] (λx=>Ie x.1 x.2.1 x.2.2.1) λx=>(kr x.1 x.2.1 x.2.2.1,())
theorem zcW:FK 253 F11:=by
 refine aM (zot) λx o C u=>?_
 unfold Ie at o;refine zK xC (zot) (λid _=>u id) (zq7 x.1 x.2.1 x.2.2.1) ?_;generalize h:kr x.1 x.2.1 x.2.2.1=y;unfold kr at h
 try simp only[zf.eta]
 repeat' (first|with_reducible refine vK h o (λ_ h o=>?_) (λ_ h o=>?_)|with_reducible refine du h (λ_ h=>?_) (λ_ h=>?_)|with_reducible refine iH o (λo=>?_)|with_reducible refine zP ?_)
 all_goals(subst h;first|rfl)
noncomputable def zda:=Gn.addL [(165,F30),(253,F11)]
theorem Sm:zw zda:=xC.addL<|fc zc0<|fc zcW iz
theorem lU(d:Int)(h:-1000<=d)(o:d<=1000):Γ Δ d=d:=by
 rw[gr];omega
theorem IA{P:Nat->zf->zf->Prop}(hP:∀N e(o t s:zD)(l:List zf),(∀y∈l,∃x∈zf.l e,P N x y)->Io l<=3->Io t<=45->Io s<=20->P (N+1) e (.mk o ((zf.v e).1,(zf.v e).2.1,t) s l)):
  ∀(N:Nat)(e:zf)(d n:Int),0<=d->d<N->N<=100->∃r m,px N e d n=Q1 (r,m,())/\P N e r
 |0,_,_,_,h1,h2,_=>by omega
 | N + 1,e,d,n,h1,h2,J=>by
  have IH:∀x m,0<d->∃r k,px N x (Γ Δ (d-1)) m=Q1 (r,k,())/\P N x r:=λx m hd=>by
   rw[lU _ ow ow];exact IA hP N x (d-1) m ow ow ow
  generalize hg:(λY Z x2=>KX (px N Y Z x2))=g;generalize hc:(λY Z x2=>(px N Y Z x2).isSome)=c
  have key:∀(k i:Nat)(n:Int)(acc:List zf)(z:zl pu)(o t s:zD),i+k=3->Io acc=i->(∀y∈acc,∃x∈zf.l e,P N x y)->
    ∃m r X,zV (wR g c) m (.h10 d n (i:Int) (e,()) z (o,(zf.v e).1,(zf.v e).2.1,t,s,acc,())) (.tup [.agg [.str o,.int .i64 (zf.v e).1,.int .i64 (zf.v e).2.1,.str t,.str s,.vec 0],.int .i64 X],[.vec .expr r])/\m<=k+1/\(∀y∈r,∃x∈zf.l e,P N x y)/\Io r<=3:=by
   intro k
   induction k with
   | zero=>
    intro i n acc z o t s hi ha G;refine⟨1,acc,n,zV.of ?_,ow,G,ow⟩;have J:Q0 ((i:Int)<3)=Q4:=by simp;omega
    simp only[wR,Q8,J,ao,Bool.cond_self,zA,if_false]
   | succ k ih=>
    intro i n acc z o t s hi ha G;by_cases C:(cond (Q0 ((i:Int)<(↑(zf.l e).length:Int))) (cond (Q0 ((i:Int)<3)) (cond (Q0 (d>0)) (Q0 (n>0)) Q4) Q4) Q4)=Q3
    ·have F:i<(zf.l e).length/\0<d:=by
      cases h1:Q0 ((i:Int)<(↑(zf.l e).length:Int))<;>cases h2:Q0 ((i:Int)<3)<;>cases J:Q0 (d>0)<;>simp_all
     obtain⟨r,m,h,u⟩:=IH (zf.l e)[i] n F.2;have gx:g (zf.l e)[i] (Γ Δ (d-1)) n=(r,m):=by rw[<-hg];simp only[h];rfl
     have cx:c (zf.l e)[i] (Γ Δ (d-1)) n=Q3:=by rw[<-hc];simp only[h];rfl
     obtain⟨m2,r2,n2,S,k2,T,W⟩:=ih (i+1) m (acc++[r]) z o t s ow sg (λy D=>by
      rcases cJ.1 D with D|D
      ·exact G y D
      ·rw[eD]at D;exact⟨_,aK F.1,D▸u⟩)
     refine⟨m2+1,r2,n2,(zL.of ?_).ends S,?_,T,W⟩
     ·have hn:(Io acc+[zm r].length<=1073741824):=by simp;omega
      have O:zJ (i:Int) (zf.l e).length=Q3:=by simp[zJ,F.1]
      have M:List.getD (zf.l e) (toNat (i:Int)) (zi Q5)=(zf.l e)[i]:=by rw[aD,aS,zU F.1,dv]
      simp only[wR,Q8,C,O,M,zk,gx,cx,if_true];rw[zk]at hn;rw[if_pos (zx hn),zr i um]
     ·omega
    ·refine⟨1,acc,n,zV.of ?_,ow,G,ow⟩;simp only[wR,Q8];rw[if_neg C]
  have E:∀(z:zl pu)(o t s:zD),Io t<=45->Io s<=20->∃r m R,zV (wR g c) 101 (.h500008 d (Γ Δ (n-1)) (e,()) z (o,(zf.v e).1,(zf.v e).2.1,t,s,())) R/\aI R.2 [Q5,zg] R.1=Q1 (r,m,())/\P (N+1) e r:=λz o t s ht H=>by
   obtain⟨m,r,X,S,k2,T,W⟩:=key 3 0 (Γ Δ (n-1)) [] z o t s rfl rfl sw;exact⟨.mk o ((zf.v e).1,(zf.v e).2.1,t) s r,X,_,((zL.of rfl).ends S).mono ow,rfl,hP N e o t s r T W ht H⟩
  have h6:∀(z:zl pu)(o s:zD),Io s<=20->∃r m R,zV (wR g c) 102 (.h500006 d n (Q0 ((↑(Io (zf.v e).2.2):Int)>45)) (e,()) z (o,(zf.v e).1,(zf.v e).2.1,(zf.v e).2.2,s,())) R/\aI R.2 [Q5,zg] R.1=Q1 (r,m,())/\P (N+1) e r:=λz o s H=>by
   by_cases C:(Io (zf.v e).2.2:Int)>45
   ·obtain⟨r,m,R,h,u,B⟩:=E z o (Qg (toNat 45-toNat 0) (Qh (toNat 0) (zf.v e).2.2)) s sg H;refine⟨r,m,R,(zL.of ?_).ends h,u,B⟩;have L:Q0 ((45:Int)<=(Io (zf.v e).2.2:Int))=Q3:=by simp;omega
    simp only[wR,Q8,zx C,L,if_true];rfl
   ·obtain⟨r,m,R,h,u,B⟩:=E z o (zf.v e).2.2 s ow H;refine⟨r,m,R,(zL.of ?_).ends h,u,B⟩;simp only[wR,Q8,aq C,zA,if_false]
  have h4:∀(z:zl pu)(o:zD),∃r m R,zV (wR g c) 103 (.h500004 d n (Q0 ((↑(Io (zf.s e)):Int)>20)) (e,()) z (o,(zf.v e).1,(zf.v e).2.1,(zf.v e).2.2,zf.s e,())) R/\aI R.2 [Q5,zg] R.1=Q1 (r,m,())/\P (N+1) e r:=λz o=>by
   by_cases C:(Io (zf.s e):Int)>20
   ·obtain⟨r,m,R,h,u,B⟩:=h6 z o (Qg (toNat 20-toNat 0) (Qh (toNat 0) (zf.s e))) sg;refine⟨r,m,R,(zL.of ?_).ends h,u,B⟩;have I:Q0 ((20:Int)<=(Io (zf.s e):Int))=Q3:=by simp;omega
    simp only[wR,Q8,zx C,I,if_true];rfl
   ·obtain⟨r,m,R,h,u,B⟩:=h6 z o (zf.s e) ow;refine⟨r,m,R,(zL.of ?_).ends h,u,B⟩;simp only[wR,Q8,aq C,zA,if_false]
  have e0:px (N+1) e d n=zmt g c e d n:=by rw[<-hg,<-hc];rfl
  rw[e0];by_cases C:(Io (zf.op e):Int)>8
  ·obtain⟨r,m,R,h,u,B⟩:=h4 ([],0,0,[],[],()) (Qg (toNat 8-toNat 0) (Qh (toNat 0) (zf.op e)));refine⟨r,m,zy ?_ h ow u,B⟩;have E:Q0 ((8:Int)<=(Io (zf.op e):Int))=Q3:=by simp;omega
   simp only[VU,Q8,zx C,E,if_true];rfl
  ·obtain⟨r,m,R,h,u,B⟩:=h4 ([],0,0,[],[],()) (zf.op e);refine⟨r,m,zy ?_ h ow u,B⟩;simp only[VU,Q8,aq C,zA,if_false]
theorem NZ(N:Nat)(e:zf)(d n:Int)(o:0<=d)(u:d<N)(z:N<=100):Lk N e d n=Q3:=by
 obtain⟨r,m,h,_⟩:=IA (P:=λ_ _ _=>True) (λ_ _ _ _ _ _ _ _ _ _=>trivial) N e d n o u z;unfold Lk;rw[h];rfl
theorem DH{g:zf->Int->Int->Bool×Int}{c:zf->Int->Int->Bool}{d:Int}(h:∀x n,c x (Γ Δ (d+1)) n=Q3):∀(l:List zf)(n:Int),DG g c d l n=Q3
 |[],_=>rfl
 | x::r,n=>by
  rw[DG,if_pos (h x n)];split
  ·rfl
  ·exact DH h r _
theorem DF:∀(N:Nat)(e:zf)(d n:Int),0<=d->d<=13->14<=d+N->vG N e d n=Q3
 |0,_,_,_,_,_,_=>by omega
 | N+1,e,d,n,u,z,B=>by
  rw[vG];unfold P8;by_cases h:d>12
  ·simp[h]
  ·have o:DG (il N) (vG N) d e.l (Γ Δ (n+1))=Q3:=DH (λx m=>by
    rw[lU _ ow ow];exact DF N x (d+1) m ow ow ow) _ _
   repeat' split
   all_goals first|rfl|exact o
abbrev yk:zf:=.mk [] (0,0,[]) [] []
theorem OY(N:Nat)(e:zf):jz (N+1) e yk=Q3:=by
 rw[jz];unfold JO;have h:Ak (fE N) (jz N) e.l []=Q3:=by
  unfold Ak;split
  ·rfl
  ·cases e.l<;>rfl
 show(cond (e.op==[]) (cond (YD e.v (0,0,[])) (cond (e.s==[]) (Ak (fE N) (jz N) e.l []) Q3) Q3) Q3)=Q3;rw[h];cases e.op==[]<;>cases YD e.v (0,0,[])<;>cases e.s==[]<;>rfl
theorem fU{α:Type}(p:α->Bool):∀(l:List α)(i:Nat),zW p l i=-1\/((i:Int)<=zW p l i/\zW p l i<i+Io l)
 |[],_=>.inl rfl
 | x::r,i=>by
  unfold zW;split
  ·exact .inr ⟨ow,sg⟩
  ·rcases fU p r (i+1)with h|⟨o,u⟩
   ·exact .inl h
   ·exact .inr ⟨ow,sg⟩
theorem Ia(l:List (Sem zj))(s:zD):ap l s=-1\/(0<=ap l s/\ap l s<Io l):=by
 have:=fU (λc:Sem zj=>c.1==s) l 0;unfold ap;simpa using this
theorem mj(o:zD):(cY o=0/\(o=kH\/o=cX))\/(cY o=1/\(o=mS\/o=pb))\/
  (cY o=2/\(o=em\/o=uQ\/o=[61]\/o=[60]\/o=[43]\/o=[45]))\/cY o=-1:=by
 unfold cY Ay;simp only[Rb];repeat' split
 all_goals simp_all
theorem yj{g:zf->Int->Int->Bool×Int}{e:zf}{d n:Int}(h:(AZ g e d n).1=Q3):(e.l.length:Int)=cY e.op/\
  ((e.op=kH\/e.op=cX)\/(pz g d e.l (Γ Δ (n+1))).1=Q3):=by
 unfold AZ at h;split at h
 ·cases h
 ·rename_i z;have u:(e.l.length:Int)=cY e.op:=by
   cases o:Q0 (d>12)<;>cases B:Q0 (Γ Δ (n+1)>60)<;>simp_all
  refine⟨u,?_⟩;split at h
  ·rename_i o;exact .inl (.inl (by simpa using o))
  ·split at h
   ·rename_i o;exact .inl (.inr (by simpa using o))
   ·split at h
    ·cases h
    ·exact .inr h
theorem vH{g:zf->Int->Int->Bool×Int}{d:Int}:∀(l:List zf)(n:Int),(pz g d l n).1=Q3->∀x∈l,∃m,(g x (Γ Δ (d+1)) m).1=Q3
 |[],_,_,_,o=>by simp at o
 | y::r,n,h,x,o=>by
  rw[pz]at h;split at h
  ·cases h
  ·rename_i u;rcases bL.1 o with rfl|o
   ·exact⟨n,by simpa using u⟩
   ·exact vH r _ h x o
theorem AI{g:zf->List (Sem zj)->Int×Int}{c:zf->List (Sem zj)->Bool}{o:List (Sem zj)}{u:zD}{E F:Int}{G z:zD}{w:List zf}:
    ∀(l:List zf)(i:Int)(acc:List Int),(∀x∈l,c x o=Q3)->((Io acc:Int)+Io l)=cY u->gm g c o u E F G z w l i acc=Q3
  | [], i,acc,_,hp=>by
    have hp:(Io acc:Int)=cY u:=by simpa using hp
    have C:Q0 (ap o z<0)=Q3\/zJ (ap o z) (Io o)=Q3:=by
      rcases Ia o z with h|⟨H,B⟩
      · exact .inl (by rw[h];rfl)
      · exact .inr (by simp[zJ,H,B])
    have B:u=[61]\/u=[60]->Io acc=2:=by
      rintro(rfl|rfl)
      · have:cY [61]=2:=by decide
        omega
      · have:cY [60]=2:=by decide
        omega
    unfold gm;repeat' split
    all_goals first
      |rfl
      |(exfalso;rcases C with h|h<;>simp_all;done)
      | (exfalso
         rename_i M D;have I:=B (by simp_all);rw[I]at D;exact D (by cases O:(acc.getD (toNat 0) (zi zg)==acc.getD (toNat 1) (zi zg))<;>cases S:(acc.getD (toNat 0) (zi zg)==0)<;>rfl))
  | x :: r,i,acc,hc,hp=>by
    have J:cY u<=2:=by rcases mj u with h|h|h|h<;>omega
    rw[gm,if_pos (hc x sw)];split
    · rfl
    · rw[if_pos (by simp at hp⊢;omega)]
      exact AI r (i+1) _ (λy L=>hc y (by simp[L])) (by simp at hp⊢;omega)
theorem wX:∀(N:Nat)(e:zf)(d n:Int)(o:List (Sem zj)),(il N e d n).1=Q3->bj N e o=Q3
 |0,_,_,_,_,h=>by cases h
 | N+1,e,d,n,o,h=>by
  rw[il]at h;obtain⟨B,u⟩:=yj h;rw[bj];unfold B6;refine AI e.l 0 [] (λx z=>?_) (by simpa using B);rcases u with u|u
  ·exfalso;have:cY e.op=0:=by
    rcases u with u|u<;>rw[u]<;>decide
   rw[this]at B;have:e.l=[]:=AQ ow;rw[this]at z;simp at z
  ·obtain⟨m,C⟩:=vH e.l _ u x z;exact wX N x _ _ o C
theorem Fd:∀(N:Nat)(e:zf)(d n:Int)(o:List (Sem zj))(u:List (Sem ze)),(il N e d n).1=Q3->w7 N o u e=Q3
 |0,_,_,_,_,_,h=>by cases h
 | N + 1,.mk D v s l,d,n,o,u,h=>by
  rw[il]at h;obtain⟨z,C⟩:=yj h;have z:(Io l:Int)=cY D:=z;have C:(D=kH\/D=cX)\/(pz (il N) d l (Γ Δ (n+1))).1=Q3:=C;have B:∀x∈l,(¬(D=kH\/D=cX))->w7 N o u x=Q3:=by
   intro x B I;rcases C with C|C
   ·exact(I C).elim
   ·obtain⟨m,L⟩:=vH l _ C x B;exact Fd N x _ _ o u L
  have E:(ite ((cond (Q0 (ap o s<0)) Q3 (Q0 (ap o s>=(↑u.length:Int))))=Q3) Q3 (zJ (ap o s) (Io u)))=Q3:=by
   split
   ·rfl
   ·rename_i F;have J:0<=ap o s/\ap o s<Io u:=by
     cases H:Q0 (ap o s<0)
     ·rw[H]at F;simp at H F;exact⟨H,F⟩
     ·rw[H]at F;simp at F
    simp[zJ,J.1,J.2]
  rw[w7];rcases mj D with⟨hp,G⟩|⟨hp,G⟩|⟨hp,G⟩|hp
  ·have:l=[]:=AQ ow;subst this;rcases G with rfl|rfl
   ·rfl
   ·rw[w8];exact E
  ·match l,z,B with
   | [a],_,B=>
    rcases G with rfl|rfl
    ·rw[w8];exact(if_pos (B a sw (by decide))).trans rfl
    ·rw[w8];exact(if_pos (B a sw (by decide))).trans rfl
   |[],z,_=>simp at z;omega
   |_::_::_,z,_=>simp at z;omega
  ·match l,z,B with
   | [a,b],_,B=>
    rcases G with rfl|rfl|rfl|rfl|rfl|rfl<;>
     (rw[w8];exact(if_pos (B a sw (by decide))).trans ((if_pos (B b sw (by decide))).trans rfl))
   |[],z,_=>simp at z;omega
   |[_],z,_=>simp at z;omega
   |_::_::_::_,z,_=>simp at z;omega
  ·omega
theorem tN(e:zf):Ah e=Q3:=by
 unfold Ah;rw[if_pos (DF 16 e 1 0 ow ow ow)]
theorem ND(e:zf):PF e=Q3:=by
 unfold PF;rw[if_pos (NZ 16 e 14 80 ow ow ow)]
theorem KY(e:zf)(o:List (Sem zj)):Ig e o=Q3:=by
 unfold Ig;rw[if_pos (tN e)];split
 ·rfl
 ·rename_i h;rw[if_pos (wX 16 e 1 0 o (by simpa[cG]using h))]
theorem KW(e:zf)(o:List (Sem zj))(u:List (Sem ze)):Ie e o u=Q3:=by
 unfold Ie;rw[if_pos (tN e)];split
 ·rfl
 ·rename_i h;rw[if_pos (by decide),if_pos (Fd 16 e 1 0 o u (by simpa[cG]using h))]
def YI:zZ:=aH [Q5] [Sh.bool] λx=>(cG x.1,())
theorem TM:FK 35 YI:=nQ zcZ λx=>tN x.1
def F7t:zZ:=aH [Q5] [Q5] λx=>(dw x.1,())
theorem zlE:FK 7 F7t:=nQ zlw λx=>ND x.1
def zjQ:zZ:=aH [Q5,zj.sl] [zg,zg] λx=>((bM x.1 x.2.1).1,(bM x.1 x.2.1).2,())
theorem zfq:FK 165 zjQ:=nQ zc0 λx=>KY x.1 x.2.1
def zjc:zZ:=aH [Q5,zj.sl,ze.sl] [ze] λx=>(kr x.1 x.2.1 x.2.2.1,())
theorem zeJ:FK 253 zjc:=nQ zcW λx=>KW x.1 x.2.1 x.2.2.1
noncomputable def zdb:=zda.addL [(35,YI),(7,F7t),(165,zjQ),(253,zjc)]
theorem xD:zw zdb:=Sm.addL<|fc TM<|fc zlE<|fc zfq<|fc zeJ iz
open Go Go.Proofs Go.RowKit
set_option maxHeartbeats 4000000
set_option maxRecDepth 100000
attribute [local go_sem] Oper.semAt_some
theorem Az{k:FuncId}{F:zZ}(G:FK k F){args:List AV}{vals:List Value}{r:AV}{w:World}{U:Nat->Prop}{ρ:Nat->Option Value}(h:(F args (λ_=>.dead) 0).val=Q1 {val:=r})(I:dA w U ρ args vals)
  (C:∀b,U b->b<w.heap.size) (z:tr Dq w U) (B:AV.idsL args=[]):
  Calls Tryz.prog k vals.toArray w λe D=>∃v,e=.returned v/\Below w.heap.size w D/\∃u E,Rv D u E r v:=by
 refine(G.calls w U ρ (λ_=>.dead) 0 args vals _ [] h I C z ⟨sw,sw⟩ (by rw[B];simp) sw sw).1.mono ?_;rintro e D ⟨v,u,E,rfl,o⟩;exact⟨v,rfl,{size:=o.ext.sz,block:=λb H=>o.same b H sw,os:=o.ext.os,output:=o.ext.out,tape:=o.ext.tape},u,E,o.val⟩
theorem nP.mono{w0 W:World}{U:Nat->Prop}{ρ:Nat->Option Value}{e:zf}{a:Option Addr}{c:Nat}(h:nP w0 U ρ e a c)(u:Below w0.heap.size w0 W):nP W U ρ e a c:=
 ⟨h.len,λj cc v z B=>(h.rv j cc v z B).mono u.size (λb o _=>u.block b o) (λ_ _ h=>h) (λ_ _ h=>h)⟩
theorem nP.agg{w:World}{U:Nat->Prop}{ρ:Nat->Option Value}{e:zf}{a:Option Addr}{c:Nat}(h:nP w U ρ e a c):Rv w U ρ (zC .expr e) (.agg (bx e a c).toArray):=
 .agg _ _ rfl (by simp[Value.oneCell']) h.rv
abbrev sO(v:Sem ze):List Value:=[.int .i64 v.1,.int .i64 v.2.1,.string ⟨v.2.2.toArray⟩]
def dY(o:zf->zD->Sem ze×Bool)(h:zD):List zf->Sem ze×Bool
 |[]=>((0,0,[]),Q4)
 |x::r=>bif (o x h).2 then((o x h).1,Q3)else dY o h r
theorem nG{tmps:Array Value}{w:World}{o h:Nat}{v:Sem ze}{b:Bool}(B:tmps[4]?=Q1 (.pointer (Q1 ⟨o,0,Q2⟩)))(C:tmps[5]?=Q1 (.pointer (Q1 ⟨h,0,Q2⟩)))
  (G:w.heap[o]?=Q1 (.cells (sO v).toArray 27 (0,0))) (E:w.heap[h]?=Q1 (.cells #[.bool b] 4 (0,0))):(results Tryz.f14 tmps).run Tryz.prog w=.ok (.tuple #[.agg (sO v).toArray,.bool b]) w:=by
 have u:tmps.getD 4 undef=.pointer (Q1 ⟨o,0,Q2⟩):=by rw[pp,B];rfl
 have z:tmps.getD 5 undef=.pointer (Q1 ⟨h,0,Q2⟩):=by rw[pp,C];rfl
 have H:=run_loadVar_row (P:=Tryz.prog) w o 27 27 _ (0,0) _ G Tryz.underlying27 rfl kw;have I:(loadVar 4 ⟨h,0,Q2⟩).run Tryz.prog w=.ok (.bool b) w:=by
  have F:w.cell? ⟨h,0,Q2⟩=Q1 (.bool b):=by simp[World.cell?,E]
  have D:(isAgg 4).run Tryz.prog w=.ok Q4 w:=by
   unfold isAgg;rw[cI,bD Tryz.underlying4 w];rfl
  simp[loadVar,D,load,Sem.run,F]
 rw[uy,show Tryz.f14.results=#[.cell 4 27,.cell 5 4]from by kernel_rfl];simp[yK,u,z,asAddr,H,I]
section
variable {w:World} {U:Nat->Prop} {ρ:Nat->Option Value} (n:Nat) (p0 p1 p2 p3 p6 p7 p8 p9 p10 p11 p12 p13 p14 p15:Value) (ca:Option Addr) (cl cc:Nat) (key:Int) {e:zf} {a:Option Addr} {c:Nat}
abbrev DY:List Value:=[p0,p1,p2,p3,.slice ca cl cc,.int .i64 key,p6,p7,p8,p9,p10,p11,p12,p13,p14,p15]
theorem UN(e:zf):(YI [zC .expr e] (λ_=>.dead) 0).val=Q1 {val:=.bool (cG e)}:=by
 have h:(YI [zC .expr e] (λ_=>.dead) 0).val=Q1 {val:=.bool (cG (zm e))}:=by kernel_rfl
 rw[h,zk]
theorem ziL{W:World}{B:Nat}{v:Sem ze}(h:W.heap[B]?=Q1 (.cells (sO v).toArray 27 (0,0))):W.cell? ⟨B,0,Q2⟩=Q1 (.int .i64 v.1)/\W.cell? ⟨B,1,Q2⟩=Q1 (.int .i64 v.2.1)/\W.cell? ⟨B,2,Q2⟩=Q1 (.string ⟨v.2.2.toArray⟩)/\
  W.frozen? ⟨B,0,Q2⟩=Q4/\W.frozen? ⟨B,1,Q2⟩=Q4/\W.frozen? ⟨B,2,Q2⟩=Q4:=by
 refine⟨?_,?_,?_,?_,?_,?_⟩<;>simp[World.cell?,World.frozen?,h]
theorem zir{W:World}{B:Nat}{v:Value}{t:TypeId}(h:W.heap[B]?=Q1 (.cells #[v] t (0,0))):W.cell? ⟨B,0,Q2⟩=Q1 v/\W.frozen? ⟨B,0,Q2⟩=Q4:=by
 constructor<;>simp[World.cell?,World.frozen?,h]
theorem heap_set{W:World}{B:Nat}{cs:Array Value}{t:TypeId}(h:W.heap[B]?=Q1 (.cells cs t (0,0)))(o:Nat)(v:Value):(W.setCell ⟨B,o,Q2⟩ v).heap[B]?=Q1 (.cells (cs.setIfInBounds o v) t (0,0)):=by
 obtain⟨u,h⟩:=ea.1 h;show(W.heap.modify B _)[B]?=_;rw[tB (by rw[Array.size_modify];exact u),Array.getElem_modify_self,h];rfl
theorem jq{W:World}{B b:Nat}{x:Option Obj}(h:W.heap[b]?=x)(o:Nat)(v:Value)(u:b≠B):(W.setCell ⟨B,o,Q2⟩ v).heap[b]?=x:=(Below.heap_setCell W ⟨B,o,Q2⟩ v b u).trans h
abbrev zix(W:World)(B:Nat)(v:Sem ze):World:=((W.setCell ⟨B,0,Q2⟩ (.int .i64 v.1)).setCell ⟨B,1,Q2⟩ (.int .i64 v.2.1)).setCell ⟨B,2,Q2⟩ (.string ⟨v.2.2.toArray⟩)
theorem I2{W:World}{B:Nat}{u:Sem ze}(h:W.heap[B]?=Q1 (.cells (sO u).toArray 27 (0,0)))(v:Sem ze):(zix W B v).heap[B]?=Q1 (.cells (sO v).toArray 27 (0,0)):=
 heap_set (heap_set (heap_set h 0 _) 1 _) 2 _
theorem vP{W:World}{B b:Nat}{x:Option Obj}(h:W.heap[b]?=x)(v:Sem ze)(o:b≠B):(zix W B v).heap[b]?=x:=jq (jq (jq h 0 _ o) 1 _ o) 2 _ o
theorem un{W:World}{B o:Nat}(v:Sem ze)(h:o<=B):Below o W (zix W B v):=(((Below.refl o W).setCell (p:=⟨B,0,Q2⟩) h _).setCell (p:=⟨B,1,Q2⟩) h _).setCell (p:=⟨B,2,Q2⟩) h _
abbrev RZ(w:World)(o h:List Value):World:=(((w.alloc (.cells o.toArray 40)).alloc (.cells h.toArray 30)).alloc (.cells #[.int .i64 0,.int .i64 0,.string {data:=#[]}] 27)).alloc (.cells #[.bool Q4] 4)
theorem CC(w:World)(o h:List Value):Below w.heap.size w (RZ w o h):=((((Below.refl _ w).alloc (ae _) _).alloc sw _).alloc sg _).alloc sg _
theorem R0(w:World)(o h:List Value):(RZ w o h).heap.size=w.heap.size+4:=by simp
theorem PB(w:World)(u z:List Value):(RZ w u z).heap[w.heap.size]?=Q1 (.cells u.toArray 40 (0,0))/\(RZ w u z).heap[w.heap.size+1]?=Q1 (.cells z.toArray 30 (0,0))/\
  (RZ w u z).heap[w.heap.size+1+1]?=Q1 (.cells (sO (0,0,[])).toArray 27 (0,0))/\(RZ w u z).heap[w.heap.size+1+1+1]?=Q1 (.cells #[.bool Q4] 4 (0,0)):=by
 have e0:=World.alloc_heap_new w (.cells u.toArray 40);have C:=World.alloc_heap_new (w.alloc (.cells u.toArray 40)) (.cells z.toArray 30);have D:=World.alloc_heap_new ((w.alloc (.cells u.toArray 40)).alloc (.cells z.toArray 30)) (.cells #[.int .i64 0,.int .i64 0,.string {data:=#[]}] 27);have E:=World.alloc_heap_new (((w.alloc (.cells u.toArray 40)).alloc (.cells z.toArray 30)).alloc (.cells #[.int .i64 0,.int .i64 0,.string {data:=#[]}] 27)) (.cells #[.bool Q4] 4);simp only[World.size_alloc]at C D E;have B:=λ(W:World)(o:Obj) k h=>Below.heap_alloc W o k h
 refine⟨?_,?_,?_,E⟩
 ·exact(B _ _ _ (by simp<;>omega)).trans ((B _ _ _ (by simp<;>omega)).trans ((B _ _ _ sw).trans e0))
 ·exact(B _ _ _ (by simp<;>omega)).trans ((B _ _ _ sw).trans C)
 ·exact(B _ _ _ sw).trans D
theorem Hm(D:∀b,U b->b<w.heap.size)(C:tr Dq w U)(G:nP w U ρ e a c){W:World}(o:Below w.heap.size w W):
  CallsIn Fence.wide n Tryz.prog 35 #[.agg (bx e a c).toArray] W λE F=>E=.returned (.bool (cG e))/\Below W.heap.size W F:=by
 refine(callsIn_wide.2 (Az TM (args:=[zC .expr e]) (vals:=[.agg (bx e a c).toArray]) (U:=U) (ρ:=ρ) (UN e) ⟨rfl,λj cc v B u=>?_⟩ (λb h=>g7 (D b h) o.size) (λg=>(C g).mono o.size (λb z _=>o.block b z) (λ_ _ h=>h) (λ_ _ h=>h)) rfl)).mono ?_
 ·match j,B,u with
  |0,B,u=>cases B;cases u;exact(G.mono o).agg
 ·rintro E F ⟨v,rfl,o,H,I,u⟩;cases u;exact⟨rfl,o⟩
theorem RQ(F:∀b,U b->b<w.heap.size)(E:tr Dq w U)(T:nP w U ρ e a c)(S:key<0\/(cl:Int)<=key\/cG e=Q4):
  CallsIn Fence.wide n Tryz.prog 14 #[.agg (DY p0 p1 p2 p3 p6 p7 p8 p9 p10 p11 p12 p13 p14 p15 ca cl cc key).toArray,.agg (bx e a c).toArray] w
   λI L=>I=.returned (.tuple #[.agg (sO (0,0,[])).toArray,.bool Q4])/\Below w.heap.size w L:=by
 obtain⟨x0,x1,z,B⟩:=PB w (DY p0 p1 p2 p3 p6 p7 p8 p9 p10 p11 p12 p13 p14 p15 ca cl cc key) (bx e a c);have o:=CC w (DY p0 p1 p2 p3 p6 p7 p8 p9 p10 p11 p12 p13 p14 p15 ca cl cc key) (bx e a c);refine callsIn_of_wp_marks Tryz.func14 rfl trivial ?_ rfl;simp only[Tryz.ntmps14,List.size_toArray,dU,iq,Nat.reduceAdd,Nat.reduceSub,Array.replicate_succ,Array.replicate_zero,List.push_toArray,List.append_toArray,pK,List.cons_append];by_cases u:key<0
 ·have J:Q0 (key<0)=Q3:=by simpa using u
  gi_wp2
  refine⟨trivial,?_⟩
  gi_wp2
  exact⟨_,nG rfl rfl z B,rfl,o⟩
 ·by_cases C:(cl:Int)<=key
  ·have J:Q0 (key<0)=Q4:=by simpa using u
   have M:Q0 ((cl:Int)<=key)=Q3:=by simpa using C
   gi_wp2
   refine⟨trivial,?_⟩
   gi_wp2
   exact⟨_,nG rfl rfl z B,rfl,o⟩
  ·have J:Q0 (key<0)=Q4:=by simpa using u
   have M:Q0 ((cl:Int)<=key)=Q4:=by simpa using C
   have O:cG e=Q4:=(S.resolve_left u).resolve_left C
   gi_wp2
   refine⟨trivial,λh=>(by cases h),(Hm _ F E T o).mono ?_⟩;rintro I L ⟨rfl,D⟩;rw[O];have G:=(D.block _ (ea.1 z).1).trans z;have H:=(D.block _ (ea.1 B).1).trans B;obtain⟨W,X,Y,Z,d4,d5⟩:=ziL G;obtain⟨d6,d7⟩:=zir H
   gi_wp2
   refine⟨_,nG rfl rfl (jq (I2 G (0,0,[])) 0 _ ow) (heap_set (vP H (0,0,[]) ow) 0 _),rfl,?_⟩;exact((o.trans (D.mono o.size)).trans (un (0,0,[]) ow)).setCell (p:=⟨w.heap.size+1+1+1,0,Q2⟩) sg _
end
end Cad
namespace Go.Proofs
open Cad (ae zA)
open Go.Shelf Go.RowKit Go.Lib Go.Sort
open List renaming drop→Qh,take→Qg
open Bool renaming false→Q4,true→Q3
open Option renaming none→Q2,some→Q1
open Decidable renaming decide→Q0
open Int (toNat)
open List (length)
theorem gd_of{w w':World}(h:Below w.heap.size w w')(hd:w.drawn<=w'.drawn):∃q os',w'=grow (w.drewN q) os':=by
 refine⟨w'.drawn-w.drawn,w'.heap.extract w.heap.size w'.heap.size,?_⟩;have hh:w'.heap=w.heap++w'.heap.extract w.heap.size w'.heap.size:=by
  apply Array.ext_getElem?;intro i;by_cases hi:i<w.heap.size
  ·rw[Array.getElem?_append_left hi,h.block i hi]
  ·rw[Array.getElem?_append_right (by omega)];have hs:=h.size;by_cases hi2:i<w'.heap.size
   ·rw[Array.getElem?_extract,if_pos (by omega)];congr 1;omega
   ·rw[Array.getElem?_eq_none (by omega),Array.getElem?_eq_none (by simp;omega)]
 obtain⟨heap,tape,drawn,os,output⟩:=w;obtain⟨heap',tape',drawn',os',output'⟩:=w';have h1:=h.os;have h2:=h.tape;have h3:=h.output;simp only at h1 h2 h3 hd hh;subst h1 h2 h3;unfold grow World.drewN;simp only[World.mk.injEq,true_and,and_true];exact⟨hh,by omega⟩
set_option maxHeartbeats 1000000 in
theorem Tryz.odd63(r:Nat)(W:World):Calls Tryz.prog 176 #[.int .i32 (r:Int)] W λe w'=>e=.returned (.bool (Q0 ((r:Int)<32)||Q0 ((r:Int)>126)))/\w'=W:=by
 go_enter Tryz.func176,Tryz.ntmps176
 go_wp2
 ·go_ret
  exact⟨by simp,rfl⟩
 ·rename_i h
  go_ret
  exact⟨by simp,rfl⟩
set_option maxHeartbeats 4000000 in
set_option maxRecDepth 1000000 in
theorem Tryz.indexFunc112(p:Nat->Bool)(s:ByteArray)(w:World)(hp:∀(W:World)(x:Nat),Calls Tryz.prog 176 #[.int .i32 (x:Int)] W λe w'=>e=.returned (.bool (p x))/\w'=W):
  Calls Tryz.prog 222 #[.string s,.func (.func 176) #[] #[],.bool Q3] w λe w'=>e=.returned (.int .i64 (Lib.idxFunc p Q3 s))/\Below w.heap.size w w'/\w.drawn<=w'.drawn:=by
 go_enter Tryz.func222,Tryz.ntmps222
 go_wp2
 go_loopg [] s.size (λgf wx=>∃pos:Nat,wx.heap[w.heap.size]?=Q1 (.stringIter s pos)/\(Below w.heap.size w wx/\w.drawn<=wx.drawn)/\Lib.idxFuncFrom p Q3 s gf pos=Lib.idxFunc p Q3 s/\s.size<=pos+gf)
 case atStart=>exact⟨0,World.iter_heap w s 0,⟨(Below.refl _ w).alloc (ae _) _,ae _⟩,rfl,by omega⟩
 case round=>
  obtain⟨pos,hit,⟨hbw,hdr⟩,hleft,hfu⟩:=hrel;by_cases hps:pos<s.size
  ·obtain⟨g',rfl⟩:∃g',gk=g'+1:=⟨gk-1,by omega⟩;have hnx:∀ty,(Instr.next (.pointer (Q1 ⟨w.heap.size,0,Q2⟩)) Q3 ty).run Tryz.prog wr=_:=λty=>Lib.run_next_any_at wr w.heap.size s pos ty hit hps
   have hwd:=Lib.width_pos s pos;obtain⟨R,hR⟩:∃R,(Utf8.decode s pos).1=R:=⟨_,rfl⟩;obtain⟨K,hK⟩:∃K,(Utf8.decode s pos).2=K:=⟨_,rfl⟩;simp only[Lib.idxFuncFrom,hps,if_true,hR,hK]at hleft;rw[hR,hK]at hnx;rw[hK]at hwd;have hit2:=Lib.iterAt_heap wr w.heap.size s pos (pos+K) hit;have hbw2:=Lib.below_iterAt hbw (k:=w.heap.size) (ae _) s (pos+K);have hdr2:w.drawn<=(wr.iterAt w.heap.size s (pos+K)).drawn:=hdr;obtain⟨W,hWd⟩:∃W,wr.iterAt w.heap.size s (pos+K)=W:=⟨_,rfl⟩;rw[hWd]at hnx hit2 hbw2 hdr2;have cS:=hp W R;clear hp;cases hsp:p R<;>rw[hsp]at cS<;>simp only[hsp,if_true,zA,if_false]at hleft
   ·go_wp2_with (go_at_call 176;refine cS.mono ?_;rintro e W' ⟨rfl,rfl⟩)
    go_roundg g'
    case measure=>omega
    case rel=>exact⟨pos+K,hit2,⟨hbw2,hdr2⟩,hleft,by omega⟩
   ·go_wp2_with (go_at_call 176;refine cS.mono ?_;rintro e W' ⟨rfl,rfl⟩)
    go_ret
    exact⟨by rw[<-hleft]<;>rfl,hbw2,hdr2⟩
  ·have hnx:∀ty,(Instr.next (.pointer (Q1 ⟨w.heap.size,0,Q2⟩)) Q3 ty).run Tryz.prog wr=_:=λty=>Lib.run_next_end_at wr w.heap.size s pos ty hit hps
   rw[Lib.idxFuncFrom_end p Q3 s gk pos hps]at hleft
   go_wp2
   go_ret
   exact⟨by rw[<-hleft]<;>rfl,hbw,hdr⟩
theorem Tryz.indexFunc64(p:Nat->Bool)(s:ByteArray)(w:World)(hp:∀(W:World)(x:Nat),Calls Tryz.prog 176 #[.int .i32 (x:Int)] W λe w'=>e=.returned (.bool (p x))/\w'=W):
  Calls Tryz.prog 177 #[.string s,.func (.func 176) #[] #[]] w λe w'=>e=.returned (.int .i64 (Lib.idxFunc p Q3 s))/\Below w.heap.size w w'/\w.drawn<=w'.drawn:=by
 have h:=λW'=>Tryz.indexFunc112 p s W' hp
 go_enter Tryz.func177,Tryz.ntmps177
 go_wp2_with (go_at_call 222;refine(h _).mono ?_;rintro e w' ⟨rfl,h1,h2⟩)
 go_ret
 exact⟨rfl,h1,h2⟩
end Go.Proofs
namespace Cad
open Go Go.Proofs Go.Sort
open List renaming length→Io,drop→Qh,take→Qg
open IntKind renaming wrap→Γ,i64→Δ
open AO renaming box→Qa
open Tr renaming val→Q8
open Sh renaming expr→Q5
open Bool renaming false→Q4,true→Q3
open Option renaming none→Q2,some→Q1
open Decidable renaming decide→Q0
open Int (toNat)
set_option maxHeartbeats 4000000
open Tr (chk br)
open AV (nils agg tup ptr kb str sl)
theorem zop(W:World)(x:Nat):Calls Tryz.prog 176 #[.int .i32 (x:Int)] W λe o=>e=.returned (.bool (DN x))/\o=W:=
 (Tryz.odd63 x W).mono λe o h=>⟨by rw[h.1];unfold DN;cases Q0 ((x:Int)<32)<;>rfl,h.2⟩
theorem zom(k n:Int)(s:zD)(W:World):Calls Tryz.prog 129 #[.agg #[.int .i64 k,.int .i64 n,.string ⟨s.toArray⟩]] W λe u=>e=.returned (.bool (aU (k,n,s)))/\RowKit.Below W.heap.size W u/\W.drawn<=u.drawn:=by
 have h:=λB=>Tryz.indexFunc64 (λr=>DN r) ⟨s.toArray⟩ B zop
 have E:Lib.idxFunc (λr=>DN r) Q3 ⟨s.toArray⟩=qr s:=rfl;rw[E]at h;have z:aU (k,n,s)=aU (k,n,s):=rfl;generalize o:aU (k,n,s)=R at z⊢;clear z;unfold aU at o;generalize qr s=I at h o
 go_enter Tryz.func129,Tryz.ntmps129
 go_wp2_with (go_at_call 177;refine(h _).mono ?_;rintro e u ⟨rfl,C,D⟩)
 all_goals
  go_ret
  refine⟨?_,?_,?_⟩
  ·rw[<-o];congr 2;simp_all<;>(rw[<-o];first|(rw[aq ow];rfl)|(rw[beq_false_of_ne ‹¬n=0›];first|rfl|(rw[beq_false_of_ne ‹¬n=1›];rfl)))
  ·first
   |exact(RowKit.Below.refl _ _).alloc (ae _) _
   |exact((RowKit.Below.refl _ W).alloc (ae _) _).trans (C.mono sw)
  ·first
   |exact ae _
   |exact D
theorem Tn(W o:World)(a b c x y z:Value)(h:RowKit.Below ((W.alloc (.cells #[a,b,c] 27)).alloc (.cells #[x,y,z] 27)).heap.size ((W.alloc (.cells #[a,b,c] 27)).alloc (.cells #[x,y,z] 27)) o):
  o.cell? ⟨W.heap.size,0,Q2⟩=Q1 a/\o.cell? ⟨W.heap.size,1,Q2⟩=Q1 b/\o.cell? ⟨W.heap.size,2,Q2⟩=Q1 c/\
  o.cell? ⟨W.heap.size+1,0,Q2⟩=Q1 x/\o.cell? ⟨W.heap.size+1,1,Q2⟩=Q1 y/\o.cell? ⟨W.heap.size+1,2,Q2⟩=Q1 z/\
  o.frozen? ⟨W.heap.size+1,0,Q2⟩=Q4/\o.frozen? ⟨W.heap.size+1,1,Q2⟩=Q4/\o.frozen? ⟨W.heap.size+1,2,Q2⟩=Q4/\o.heap[W.heap.size+1]?=Q1 (.cells #[x,y,z] 27 (0,0)):=by
 have u:=h.block W.heap.size sg;have B:=h.block (W.heap.size+1) sw;have e0:((W.alloc (.cells #[a,b,c] 27)).alloc (.cells #[x,y,z] 27)).heap[W.heap.size]?=Q1 (.cells #[a,b,c] 27 (0,0)):=(bq _ _ _ sw).trans (cH _ _);have C:((W.alloc (.cells #[a,b,c] 27)).alloc (.cells #[x,y,z] 27)).heap[W.heap.size+1]?=Q1 (.cells #[x,y,z] 27 (0,0)):=by
  have:=cH (W.alloc (.cells #[a,b,c] 27)) (.cells #[x,y,z] 27)
  rwa [be]at this
 rw[e0]at u;rw[C]at B;simp[World.cell?,World.frozen?,u,B]
theorem LJ(k n:Int)(s:zD)(W:World):Calls Tryz.prog 170 #[.agg #[.int .i64 k,.int .i64 n,.string ⟨s.toArray⟩]] W λe o=>e=.returned (.agg #[.int .i64 (an (k,n,s)).1,.int .i64 (an (k,n,s)).2.1,.string ⟨(an (k,n,s)).2.2.toArray⟩])/\RowKit.Below W.heap.size W o/\W.drawn<=o.drawn:=by
 have h:=λz=>zom k n s z
 unfold an;generalize aU (k,n,s)=R at h⊢
 go_enter Tryz.func170,Tryz.ntmps170
 go_wp2_with (go_at_call 129;refine(h _).mono ?_;rintro e o ⟨rfl,u,C⟩;obtain⟨F,G,H,I,J,L,M,O,S,B⟩:=Tn W o (.int .i64 k) (.int .i64 n) (.string ⟨s.toArray⟩) (.int .i64 0) (.int .i64 0) (.string ⟨#[]⟩) u)
 all_goals
  have D:RowKit.Below W.heap.size W o:=(((RowKit.Below.refl _ W).alloc (ae _) _).alloc sw _).trans (u.mono sg);have E:W.drawn<=o.drawn:=C;refine bodyPost_ret (results_cell_row rfl _ _ (W.heap.size+1) 27 _ (0,0) _ rfl (by simp[World.setCell,uF,B];rfl) Tryz.underlying27 rfl kw) rfl ⟨?_,?_,?_⟩
  ·rfl
  ·exact((D.setCell (p:=⟨W.heap.size+1,0,Q2⟩) sw _).setCell (p:=⟨W.heap.size+1,1,Q2⟩) sw _).setCell (p:=⟨W.heap.size+1,2,Q2⟩) sw _
  ·exact E
open Go Go.Proofs
set_option maxRecDepth 100000
theorem WI(x:Int)(W:World):Calls Tryz.prog 216 #[.int .i64 x] W λe h=>e=.returned (.bool Q4)/\h=W:=by
 go_enter Tryz.func216,Tryz.ntmps216
 go_wp2
 go_ret
 exact⟨sw,rfl⟩
theorem WJ(x:Int)(W:World):Calls Tryz.prog 217 #[.int .i64 x] W λe h=>e=.returned (.bool Q4)/\h=W:=by
 go_enter Tryz.func217,Tryz.ntmps217
 go_wp2
 go_ret
 exact⟨sw,rfl⟩
theorem WK(x:ByteArray)(W:World):Calls Tryz.prog 218 #[.string x] W λe h=>e=.returned (.bool Q4)/\h=W:=by
 go_enter Tryz.func218,Tryz.ntmps218
 go_wp2
 go_ret
 exact⟨sw,rfl⟩
theorem Up(x y:Int):pR x y=(ite (x<y) (-1) (ite (y<x) 1 0):Int):=by
 unfold pR;simp
theorem R4(x y:Int):jM x y=(ite (x<y) (-1) (ite (y<x) 1 0):Int):=by
 unfold jM;simp
theorem zgT(x y:Int)(W:World):Calls Tryz.prog 172 #[.int .i64 x,.int .i64 y] W λe o=>e=.returned (.int .i64 (pR x y))/\o=W:=by
 have u:=λh=>WI x h
 have z:=λh=>WI y h
 rw[Up]
 go_enter Tryz.func172,Tryz.ntmps172
 go_wp2_with (first|(go_at_call 216;refine(u _).mono ?_;rintro e o ⟨rfl,rfl⟩)|(go_at_call 216;refine(z _).mono ?_;rintro e o ⟨rfl,rfl⟩))
 all_goals
  go_ret
  refine⟨?_,rfl⟩;congr 2
theorem zgU(x y:Int)(W:World):Calls Tryz.prog 173 #[.int .i64 x,.int .i64 y] W λe o=>e=.returned (.int .i64 (jM x y))/\o=W:=by
 have u:=λh=>WJ x h
 have z:=λh=>WJ y h
 rw[R4]
 go_enter Tryz.func173,Tryz.ntmps173
 go_wp2_with (first|(go_at_call 217;refine(u _).mono ?_;rintro e o ⟨rfl,rfl⟩)|(go_at_call 217;refine(z _).mono ?_;rintro e o ⟨rfl,rfl⟩))
 all_goals
  go_ret
  refine⟨?_,rfl⟩;congr 2
theorem zgV(x y:zD)(W:World):Calls Tryz.prog 174 #[.string ⟨x.toArray⟩,.string ⟨y.toArray⟩] W λe o=>e=.returned (.int .i64 (mU x y))/\o=W:=by
 have z:=λh=>WK ⟨x.toArray⟩ h
 have B:=λh=>WK ⟨y.toArray⟩ h
 have C:∀h,(binOp .gtr 9 (.string ⟨x.toArray⟩) (.string ⟨y.toArray⟩)).run Tryz.prog h=.ok (.bool (!(Op.bytesLess x y||x==y))) h:=λh=>by simp[binOp,Op.stringOp]
 have u:mU x y=(ite (Op.bytesLess x y=Q3) (-1) (ite ((!(Op.bytesLess x y||x==y))=Q3) 1 0):Int):=by unfold mU;simp
 rw[u];clear u
 go_enter Tryz.func174,Tryz.ntmps174
 go_wp2_with (first|(go_at_call 218;refine(z _).mono ?_;rintro e o ⟨rfl,rfl⟩)|(go_at_call 218;refine(B _).mono ?_;rintro e o ⟨rfl,rfl⟩))
 all_goals
  go_ret
  refine⟨?_,rfl⟩;simp_all
theorem zpE(x y z:Int)(b:Nat)(W:World)(D:W.cell? ⟨b,0,Q2⟩=Q1 (.int .i64 x))(E:W.cell? ⟨b,1,Q2⟩=Q1 (.int .i64 y))(F:W.cell? ⟨b,2,Q2⟩=Q1 (.int .i64 z)):
  Calls Tryz.prog 171 #[.slice (Q1 ⟨b,0,Q2⟩) 3 3] W λe C=>e=.returned (.int .i64 (FG [x,y,z]))/\C=W:=by
 have B:FG [x,y,z]=if x=0 then(ite (y=0) z y)else x:=by
  unfold FG;unfold FG;unfold FG;unfold FG;by_cases h:x=0<;>by_cases o:y=0<;>by_cases u:z=0<;>simp[h,o,u]
 rw[B];clear B
 go_enter Tryz.func171,Tryz.ntmps171
 go_wp2
 by_cases h:x=0
 ·subst h;by_cases o:y=0
  ·subst o;by_cases u:z=0
   ·subst u;refine wp_loop_rounds 4 ?_
    (rw[rounds_succ];go_wp2)
    (rw[rounds_succ];go_wp2)
    (rw[rounds_succ];go_wp2)
    (rw[rounds_succ];go_wp2)
    go_ret
    exact⟨by simp[*],rfl⟩
   ·refine wp_loop_rounds 4 ?_
    (rw[rounds_succ];go_wp2)
    (rw[rounds_succ];go_wp2)
    (rw[rounds_succ];go_wp2)
    go_ret
    exact⟨by simp[*],rfl⟩
  ·refine wp_loop_rounds 4 ?_
   (rw[rounds_succ];go_wp2)
   (rw[rounds_succ];go_wp2)
   go_ret
   exact⟨by simp[*],rfl⟩
 ·refine wp_loop_rounds 4 ?_
  (rw[rounds_succ];go_wp2)
  go_ret
  exact⟨by simp[*],rfl⟩
structure zqh (p:Prop):Prop where
 out:p
theorem zd0{A o:World}{p q:Nat}{a b c x y z:Value}(e0:A.heap[p]?=Q1 (.cells #[a,b,c] 27 (0,0)))(u:A.heap[q]?=Q1 (.cells #[x,y,z] 27 (0,0)))(h:RowKit.Below A.heap.size A o):
  o.heap[p]?=Q1 (.cells #[a,b,c] 27 (0,0))/\o.heap[q]?=Q1 (.cells #[x,y,z] 27 (0,0)):=
 ⟨(h.block p (ea.1 e0).1).trans e0,(h.block q (ea.1 u).1).trans u⟩
theorem pP{A:World}{p:Nat}{a b c:Value}(e0:A.heap[p]?=Q1 (.cells #[a,b,c] 27 (0,0))):
  A.cell? ⟨p,0,Q2⟩=Q1 a/\A.cell? ⟨p,1,Q2⟩=Q1 b/\A.cell? ⟨p,2,Q2⟩=Q1 c/\A.frozen? ⟨p,0,Q2⟩=Q4/\A.frozen? ⟨p,1,Q2⟩=Q4/\A.frozen? ⟨p,2,Q2⟩=Q4:=by
 simp[World.cell?,World.frozen?,e0]
theorem zbh(k n:Int)(s:zD)(B C:Int)(D:zD)(W:World):Calls Tryz.prog 122 #[.agg #[.int .i64 k,.int .i64 n,.string ⟨s.toArray⟩],.agg #[.int .i64 B,.int .i64 C,.string ⟨D.toArray⟩]] W λe w'=>e=.returned (.int .i64 (aX (k,n,s) (B,C,D)))/\RowKit.Below W.heap.size W w'/\W.drawn<=w'.drawn:=by
 have Y:=λu=>LJ k n s u
 have z:=λu=>LJ B C D u
 have J:Tryz.prog.follows .mixedOrders=Q3:=by kernel_rfl
 unfold aX;generalize an (k,n,s)=a at Y⊢;generalize an (B,C,D)=b at z⊢;obtain⟨L,M,O⟩:=a;obtain⟨S,T,X⟩:=b
 dsimp only at Y z⊢
 have k1:=λu=>zgT L S u
 have k2:=λu=>zgU M T u
 have k3:=λu=>zgV O X u
 generalize pR L S=m1 at k1⊢;generalize jM M T=m2 at k2⊢;generalize mU O X=m3 at k3⊢
 go_enter Tryz.func122,Tryz.ntmps122
 go_wp2
 obtain⟨E,h⟩:∃E,(W.alloc (.cells #[.int .i64 k,.int .i64 n,.string ⟨s.toArray⟩] 27)).alloc (.cells #[.int .i64 B,.int .i64 C,.string ⟨D.toArray⟩] 27)=E:=⟨_,rfl⟩;have e0:E.heap[W.heap.size]?=Q1 (.cells #[.int .i64 k,.int .i64 n,.string ⟨s.toArray⟩] 27 (0,0)):=by rw[<-h];exact(bq _ _ _ sw).trans (cH _ _)
 have e1:E.heap[W.heap.size+1]?=Q1 (.cells #[.int .i64 B,.int .i64 C,.string ⟨D.toArray⟩] 27 (0,0)):=by
  rw[<-h];have:=cH (W.alloc (.cells #[.int .i64 k,.int .i64 n,.string ⟨s.toArray⟩] 27)) (.cells #[.int .i64 B,.int .i64 C,.string ⟨D.toArray⟩] 27)
  rwa [be]at this
 have G:RowKit.Below W.heap.size W E:=by rw[<-h];exact((RowKit.Below.refl _ W).alloc (ae _) _).alloc sw _
 have h7:W.drawn<=E.drawn:=by rw[<-h];exact ae _
 rw[h];clear h;obtain⟨c0,c1,c2,c3,c4,c5⟩:=pP e0;obtain⟨d0,d1,d2,d3,d4,d5⟩:=pP e1;rename_i K hK
 have o:∀W3:World,W3.heap[W.heap.size]?=Q1 (.cells #[.int .i64 L,.int .i64 M,.string ⟨O.toArray⟩] 27 (0,0))->W3.heap[W.heap.size+1]?=Q1 (.cells #[.int .i64 S,.int .i64 T,.string ⟨X.toArray⟩] 27 (0,0))->RowKit.Below W.heap.size W W3->W.drawn<=W3.drawn->
   K {tmps:=#[.agg #[.int .i64 k,.int .i64 n,.string ⟨s.toArray⟩],.agg #[.int .i64 B,.int .i64 C,.string ⟨D.toArray⟩],.pointer (Q1 ⟨W.heap.size,0,Q2⟩),.pointer (Q1 ⟨W.heap.size+1,0,Q2⟩),.int .i64 0,.agg #[.int .i64 k,.int .i64 n,.string ⟨s.toArray⟩],.agg #[.int .i64 L,.int .i64 M,.string ⟨O.toArray⟩],.agg #[.int .i64 B,.int .i64 C,.string ⟨D.toArray⟩],.agg #[.int .i64 S,.int .i64 T,.string ⟨X.toArray⟩],undef,undef,undef,undef,undef,undef,undef,undef,undef,undef,undef,undef,undef,undef,undef,undef,undef],defers:=[]} W3:=by
  intro W3 w0 w1 h0 TF;apply hK;clear hK;have x6:W.heap.size+1<W3.heap.size:=(ea.1 w1).1;obtain⟨x0,x1,x2,x3,x4,x5⟩:=pP w0;obtain⟨y0,y1,y2,y3,y4,y5⟩:=pP w1
  go_wp2
  go_still_tail 15,J
  still_call (k1 _)
  repeat still_step
  still_call (k2 _)
  repeat still_step
  still_call (k3 _)
  refine wpStill_nil ?_;change wpList _ _ _ _ _ W3.drew;have I:W.drawn<=W3.drew.drawn:=bt TF (Nat.le_succ _);have H:RowKit.Below W.heap.size W W3.drew:=h0.drew;generalize W3.drew=W4 at I H⊢
  go_wp2_with (go_at_call 171;refine(zpE m1 m2 m3 W4.heap.size _ sw sw sw).mono ?_;rintro e w' ⟨rfl,rfl⟩)
  go_ret
  exact⟨rfl,H.alloc H.size _,I⟩
 have h4:=zqh.mk o;clear hK o k1 k2 k3
 go_region_with (first
  |(go_at_call 170;refine(Y _).mono ?_;clear Y;rintro e w1 ⟨rfl,F,TF⟩;obtain⟨f0,f1⟩:=zd0 (A:=E.drew) e0 e1 F;obtain⟨p0,p1,p2,p3,p4,p5⟩:=pP f0;obtain⟨q0,q1,q2,q3,q4,q5⟩:=pP f1)
  |(go_at_call 170;refine(z _).mono ?_;clear z;rintro e w2 ⟨rfl,Z,I⟩;obtain⟨g0,g1⟩:=zd0 f0 f1 Z;obtain⟨r0,r1,r2,r3,r4,r5⟩:=pP g0;obtain⟨s0,s1,s2,s3,s4,s5⟩:=pP g1))
 all_goals
  refine h4.out _ ?_ ?_ ?_ ?_
  ·simp[World.setCell,uF,g0]
  ·simp[World.setCell,uF,g1]
  ·have h5:=F.size;have h8:=Z.size;have h3:RowKit.Below W.heap.size W w2:=(G.trans ((RowKit.Below.mono ⟨F.os,F.tape,F.output,F.size,F.block⟩ G.size))).trans (Z.mono (bt G.size h5));exact(((((h3.setCell (p:=⟨W.heap.size,0,Q2⟩) sw _).setCell (p:=⟨W.heap.size,1,Q2⟩) sw _).setCell (p:=⟨W.heap.size,2,Q2⟩) sw _).setCell (p:=⟨W.heap.size+1,0,Q2⟩) sw _).setCell (p:=⟨W.heap.size+1,1,Q2⟩) sw _).setCell (p:=⟨W.heap.size+1,2,Q2⟩) sw _
  ·have h9:E.drawn+1<=w1.drawn:=TF;have h6:W.drawn<=w2.drawn:=by omega
   simpa[World.setCell]using h6
theorem Dk:∀(l:List R12)(i j:Nat)(h:i<Io l),j<12->(flat12 l)[i*12+j]?=l[i].1[j]?
 | x::r,0,j,_,hj=>by
  show(x.1++flat12 r)[0*12+j]?=x.1[j]?;rw[mR (by rw[x.2.1];omega),Nat.zero_mul,ek]
 | x::r,i+1,j,h,hj=>by
  show(x.1++flat12 r)[(i+1)*12+j]?=_;rw[pq (by rw[x.2.1];omega),x.2.1,show(i+1)*12+j-12=i*12+j by omega,Dk r i j (by simpa using h) hj];rfl
@[match_pattern] abbrev zpF:Sh:=.pr (.pr .str (.pr (.sl (.pr .str (.pr (.int .i64) .bool))) (.pr (.int .i64) (.pr (.sl (.int .i64)) (.pr (.sl (.pr (.int .i64) .str)) .expr))))) (.sl (.sl (.pr (.int .i64) (.pr (.int .i64) .str))))
def F91:zZ:=λargs hp n=>match args with
 | [.clo (.func 108) [] [.ptr id 0]]=>match hp id with
  |.box [.sl zpF l]=>.chk (Q0 (0<Io l)) (.chk (Q0 (Io l<=1000)) (.ok {val:=.vec n,nw:=[.vec zh l]}))
  |_=>.err
 |_=>.err
theorem NA{w:World}{U:Nat->Prop}{ρ:Nat->Option Value}{hp:Nat->AO}{n Bs:Nat}{l:List (Sem zh)}{sv:Value}(x2:∀b,U b->b<w.heap.size)(T:w.cell? ⟨Bs,0,Q2⟩=Q1 sv)(hr:Rv w U ρ (.sl zh l) sv)(hn:ρ n=Q2)(h0:0<Io l)(S:Io l<=1000):
  Calls Tryz.prog 106 #[.func (.func 108) #[] #[.pointer (Q1 ⟨Bs,0,Q2⟩)]] w λe Z=>∃v U' ρ',e=.returned v/\Ef n hp {val:=.vec n,nw:=[.vec zh l]} w U ρ v Z U' ρ':=by
 obtain⟨a,h5,rfl,x4,hm,h⟩:=oU hr;rcases h with rfl|⟨b,o,rfl,h9⟩
 ·simp at h0
 have h7:zh.size=12:=rfl;have D:∀i(G:i<Io l) j,j<12->∃c x,(zu zh l[i])[j]?=Q1 c/\w.cell? ⟨b,o+i*12+j,Q2⟩=Q1 x/\Rv w U ρ c x/\x.oneCell'=Q3:=by
  intro i G j I;have X:(zu zh l[i]).length=12:=ac zh l[i];have B:(zu zh l[i])[j]?=Q1 ((zu zh l[i])[j]'(by rw[X];exact I)):=zU _;obtain⟨x,S,z⟩:=h9 i G j _ B;exact⟨_,x,B,S,z,fL zh l[i] j _ x B z⟩
 have O:b<w.heap.size:=by
  obtain⟨c,x,_,z,_⟩:=D 0 h0 0 ow;exact nV z
 let C:List R12:=List.ofFn λi:Fin (Io l)=>⟨(List.range 12).map λj=>(w.cell? ⟨b,o+i.1*12+j,Q2⟩).getD undef,sw,λv L=>by
  obtain⟨j,I,rfl⟩:=bd.1 L;obtain⟨c,x,_,z,_,h4⟩:=D i.1 i.2 j (by simpa using I);rw[z];exact h4⟩
 have E:Io C=Io l:=by simp[C]
 have x3:∀i(G:i<Io C),∀j v,C[i].1[j]?=Q1 v->w.cell? ⟨b,o+i*12+j,Q2⟩=Q1 v:=by
  intro i G j v L;simp only[C,List.getElem_ofFn,eL,eB]at L;obtain⟨q,hq,L⟩:=L;obtain⟨h8,rfl⟩:=yG hq;obtain⟨c,x,_,z,_,_⟩:=D i (by rw[<-E];exact G) q h8;rw[z]at L;rw[z,<-L];rfl
 refine(callsIn_wide.1 (Tryz.collect_in Fence.wide 4 trivial trivial trivial rfl ow Bs b o h5 C ow w (nV T) O (by rw[E];exact T) x3)).mono ?_;rintro e Z ⟨v,rfl,Y,u⟩;rcases Y.2 with⟨_,h⟩|⟨g,F,h6,rfl,hg,hG,x5,_,x0,x1⟩
 ·omega
 have W:g<Z.heap.size:=(ea.1 hG).1
 obtain⟨M,u1,u2,u3⟩:∃M:Nat->Prop,(∀b,b<w.heap.size->(M b↔U b))/\M g/\∀b,M b->b<Z.heap.size:=
  ⟨λb=>U b\/b=g,λb O=>⟨λh=>h.elim id λe=>absurd e ow,.inl⟩,.inr rfl,λb h=>by
   rcases h with h|rfl
   ·exact g7 (x2 b h) u.size
   ·exact W⟩
 have J:∀{c:AV}{x:Value},Rv w U ρ c x->Rv Z M (mJ ρ n (.slice (Q1 ⟨g,0,Q2⟩) (Io C) F)) c x:=λh=>h.mono u.size (λb' H _=>u.block b' H) (λb O h=>(u1 b O).1 h) (eV hn)
 refine⟨_,M,_,rfl,Ef.newVec sw hn rfl (mv.below u) (λb O _=>u.block b O) u3 u1 ?_ ?_⟩
 ·refine⟨_,F,by rw[E];simp[mJ],hm,.inr ⟨g,47,h6,rfl,ow,u2,hG,x0,ow,?_⟩⟩;intro i G j c hc;have I:j<12:=by have:=(dn.1 hc).1;rwa [ac]at this
  obtain⟨c',x,S,z,h3,_⟩:=D i G j I;rw[hc]at S;cases S;refine⟨x,?_,J h3⟩;have hz:(flat12 C)[i*12+j]?=Q1 x:=by
   rw[Dk C i j (by rw[E];exact G) I];simp only[C,List.getElem_ofFn,eL];rw[yW I];simp[z]
  rw[<-x1]at hz;have:=List.getElem?_take.symm.trans hz;split at this
  ·rw[h7,<-sS];exact this
  ·cases this
 ·intro b' H;simp[e7]at H;exact .inl ow
theorem zlP:FK 106 F91 where
 fn:=⟨Tryz.f106,kw,kw,kw⟩
 calls:=λw U ρ hp n args z f W h B L h4 G H h3 I=>by
  unfold F91 at h;split at h
  ·rename_i id;split at h
   ·rename_i l F;simp only[Tr.val_chk,Tr.val_ok,bH,aQ]at h;obtain⟨X,Y,rfl⟩:=h;have hl:=B.len
    match z,hl,B with
    |[va],_,B=>
    have r0:=B.rv 0 _ va rfl rfl;cases r0 with
    |clo _ _ _ vf vc h hc h5 o=>
    match vf,h,vc,hc,o with
    |[],_,[pv],_,o=>
    have r1:=o 0 _ pv rfl rfl;cases r1 with
    |ptr _ _ b0 E=>
    have M:id∈W:=H id (by simp[AV.idsL,AV.ids]);have S:=G.ob id M;rw[F]at S;obtain⟨b',T,arr,O,h2,C,u,Z⟩:=S;rw[E]at O;cases O;have D:=u.len;have J:=u.rv 0 _ (arr.toList[0]'(by rw[<-D];simp)) rfl (zU _);refine⟨NA L ?_ J (I 0 sw) X Y,sw⟩;rw[World.cell?,C];simp
   ·simp at h
  ·simp at h
end Cad
