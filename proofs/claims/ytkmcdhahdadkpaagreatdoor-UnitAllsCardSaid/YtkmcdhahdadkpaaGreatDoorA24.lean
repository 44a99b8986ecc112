/- Units: a key's unit. Units: the law UnitKeys. Units: rows that are the same; the law UnitKeys answers true. -/
import Derived.Test.YtkmcdhahdadkpaaGreatDoorA23
namespace Cad
open Go Go.Proofs
open Tr renaming chk→Qc,«to»→Q9,val→Q8
open AO renaming box→Qa
open Sh renaming bool→Q7
open Bool renaming false→Q4,true→Q3
open Option renaming some→Q1
open Decidable renaming decide→Q0
open Int (toNat)
open List (getD length)
open Tr (chk br re)
open AV (nils agg tup ptr kb str sl)
set_option maxHeartbeats 4000000
theorem XV{l:List (Sem ze)}(v:Sem ze)(hl:l.length<=1000000):Oj l v=Q1 (zW (vw v) l 0,()):=by
 have hs:(ziv l v).val=Q1 (.inl (.h2 l (l.length:Int) ((0:Nat):Int) (v,()))):=rfl
 have hgo:∀k,k<=l.length->(∀x∈l.take k,vw v x=Q4)->zQ P2 (k*1) (.h2 l (l.length:Int) ((0:Nat):Int) (v,())) (.h2 l (l.length:Int) (k:Int) (v,())):=λk hk hn=>
  zQ.all (t:=P2) 1 (λi=>.h2 l (l.length:Int) (i:Int) (v,())) k λi hi=>zQ.of (by
   have hi':i<l.length:=by omega
   have hne:vw v l[i]=Q4:=hn _ (List.mem_take_iff_getElem.2 ⟨i,ow,rfl⟩);unfold vw at hne;simp only[P2,Q8,zC hi',zt hi',if_true,zM _ _ hi',hne,zB,if_false];rw[zp i um])
 rcases eF (vw v) l 0 with⟨h1,h2⟩|⟨k,hk,h1,h2,h3⟩
 ·rw[h1];refine zw hs ((hgo l.length (aA _) (λx hx=>h2 x (List.mem_of_mem_take hx))).ends (zU.of (r:=(.int .i64 (-1),[])) ?_)) ow rfl;simp only[P2,Q8,zA,zB,if_false]
 ·rw[h1];refine zw hs ((hgo k ow h3).ends (zU.of (r:=(.int .i64 (k:Int),[])) ?_)) ow (by rw[eX];rfl);unfold vw at h2;simp only[P2,Q8,zC hk,zt hk,if_true,zM _ _ hk,h2]
theorem XU{l:List (Sem ze)}(v:Sem ze)(hl:l.length<=1000000):Kz l v=Q3/\Dr l v=l.any (vw v):=by
 have h:=XV v hl;have c1:UU l v=Q3:=by unfold UU;rw[h];rfl
 have c2:zea l v=zW (vw v) l 0:=by unfold zea;rw[h];rfl
 have hb:Q0 (GE.ge (α:=Int) (zW (vw v) l 0) 0)=l.any (vw v):=by rw[ip,wv,List.any_eq_true]
 have:Oi l v=Q1 (l.any (vw v),()):=by
  refine zJ (r:=(.bool (l.any (vw v)),[])) ?_ rfl;simp only[zin,Q8,c1,c2,if_true];rw[hb]
 exact⟨by unfold Kz;rw[this];rfl,by unfold Dr;rw[this];rfl⟩
theorem Uo{x:Sem zh}(v:Sem ze)(h:eD x.1=Q3):Mk x v=Q3/\Un x v=zW (λr=>bz r x.1.2.2.1 v) x.2 0:=by
 have:Hr x v=Q1 (zW (λr=>bz r x.1.2.2.1 v) x.2 0,()):=by
  refine zJ (r:=(.int .i64 (zW (λr=>bz r x.1.2.2.1 v) x.2 0),[])) ?_ rfl;simp only[zim,zk,Prod.eta,Q8,h,bG,zB,if_false]
 exact⟨by unfold Mk;rw[this];rfl,by unfold Un;rw[this];rfl⟩
theorem ws{row:List (Sem ze)}{c:Int}{v:Sem ze}(h:zK c row.length=Q3):bz row c v=Q3↔zR c row=v:=by
 simp only[zK,aC,aP]at h;unfold bz;rw[zx (show GE.ge (α:=Int) c 0 from h.1),zx (show LT.lt (α:=Int) c (row.length:Int)from h.2),ae,ae];exact js
theorem eh.find{x:Sem zh}(h:eh x){row:List (Sem ze)}(hr:row∈x.2):
  ∃(k:Nat)(hk:k<x.2.length),zW (λr=>bz r x.1.2.2.1 (zR x.1.2.2.1 row)) x.2 0=(k:Int)/\x.2[k]=row:=by
 rcases eF (λr=>bz r x.1.2.2.1 (zR x.1.2.2.1 row)) x.2 0 with⟨_,h2⟩|⟨k,hk,h1,h2,_⟩
 ·have:=h2 row hr;rw[(ws (h.keys row hr)).2 rfl]at this;cases this
 ·refine⟨k,hk,by rw[h1,eX],?_⟩;have e:=(ws (h.keys _ (bd hk))).1 h2;obtain⟨j,hj,rfl⟩:=fW hr;by_cases hkj:k=j
  ·subst hkj;rfl
  ·have hp:=List.pairwise_iff_getElem.1 (List.pairwise_map.1 (Nl h.pw));rcases Nat.lt_or_gt_of_ne hkj with hlt|hlt
   ·exact absurd e (hp k j hk hj hlt)
   ·exact absurd e.symm (hp j k hj hk hlt)
section
variable {db:List (Sem zh)} {p:Sem zr}
theorem aE.has(h:aE db p){row:List (Sem ze)}(hr:row∈(ch db p).2)(h0:(zR (aT p (zG db p)) row).1≠0):zR (aT p (zG db p)) row∈dd p (zG db p):=by
 refine(h.is _).2 λhn=>?_
 have:=List.filter_eq_nil_iff.1 hn row hr;exact this (lN.2 ⟨rfl,h0⟩)
theorem aE.hasC(h:aE db p)(v:Sem ze):Kz (dd p (zG db p)) v=Q3/\(Dr (dd p (zG db p)) v=Q3↔v∈dd p (zG db p)):=by
 have h1:=h.few;have h2:=h.rel.few;obtain⟨a,b⟩:=XU (l:=dd p (zG db p)) v ow;refine⟨a,?_⟩;rw[b,List.any_eq_true];constructor
 ·rintro⟨x,hx,e⟩;rw[js.1 e];exact hx
 ·intro hv;exact⟨v,hv,js.2 rfl⟩
noncomputable def kQ(db:List (Sem zh))(p:Sem zr)(v:Sem ze):Sem ze×Int:=
 if p.1=[106,111,105,110]then
  let at':=zW (λr=>bz r (ch db p).1.2.2.1 v) (ch db p).2 0
  if LT.lt (α:=Int) at' 0 then((0,0,[]),6)else
   let u:=zR p.t.2 (getD (ch db p).2 at'.toNat (zi ze.sl))
   if Dr (dd p (zG db p)) u=Q3 then(u,0)else((0,0,[]),6)
 else if Dr (dd p (zG db p)) v=Q3 then(v,0)else((0,0,[]),6)
theorem aE.key(h:aE db p)(v:Sem ze):Oh p (zG db p) v=Q1 ((kQ db p v).1,(kQ db p v).2,()):=by
 obtain⟨c1,c2⟩:=yP h.go;have hlen:zK 0 (zG db p).length=Q3:=zt (i:=0) (oe h.go.two).1;have hfr:getD (zG db p) (toNat 0) (zi zh)=ch db p:=rfl;obtain⟨f1,f2⟩:=Uo (x:=ch db p) v h.rel.may;by_cases hj:p.1=[106,111,105,110]
 ·have hb:(p.1==[106,111,105,110])=Q3:=by simpa using hj
  have hon:aT p (zG db p)=p.t.2:=by
   unfold aT;rw[if_neg (by rw[hj];decide),if_pos hj]
  unfold kQ;rw[if_pos hj];by_cases hn:LT.lt (α:=Int) (zW (λr=>bz r (ch db p).1.2.2.1 v) (ch db p).2 0) 0
  ·simp only[if_pos hn];refine zJ (r:=(tup [agg [ai 0,ai 0,str []],ai 6],[])) ?_ rfl;simp only[Pj,zk,Prod.eta,Q8,c1,c2,hb,hlen,hfr,f1,f2,io,zB,if_true,if_false];rw[if_pos (zx hn)]
  ·simp only[if_neg hn];rcases fL (λr=>bz r (ch db p).1.2.2.1 v) (ch db p).2 0 with e|⟨e1,e2⟩
   ·rw[e]at hn;omega
   ·obtain⟨k,hk⟩:∃k:Nat,zW (λr=>bz r (ch db p).1.2.2.1 v) (ch db p).2 0=(k:Int):=⟨_,(Int.toNat_of_nonneg e1).symm⟩;rw[hk]at hn e2 f2⊢;have hk':k<(ch db p).2.length:=by omega
    have hin:=(h.inn _ (bd hk')).1;rw[hon]at hin;obtain⟨g1,g2⟩:=h.hasC (zR p.t.2 (ch db p).2[k]);have e3:Q0 ((k:Int)<0)=Q4:=by simp
    rw[zM _ _ hk'];by_cases hv:Dr (dd p (zG db p)) (zR p.t.2 (ch db p).2[k])=Q3
    ·rw[if_pos hv];refine zJ (r:=(tup [agg [ai (zR p.t.2 (ch db p).2[k]).1,ai (zR p.t.2 (ch db p).2[k]).2.1,str (zR p.t.2 (ch db p).2[k]).2.2],ai 0],[])) ?_ rfl;simp only[Pj,zk,Prod.eta,Q8,c1,c2,hb,hlen,hfr,f1,f2,e3,zt hk',zM _ _ hk',hin,h.all,g1,hv,io,bG,zB,if_true,if_false]
    ·rw[if_neg hv];have hv':=Bool.eq_false_iff.2 hv;refine zJ (r:=(tup [agg [ai 0,ai 0,str []],ai 6],[])) ?_ rfl;simp only[Pj,zk,Prod.eta,Q8,c1,c2,hb,hlen,hfr,f1,f2,e3,zt hk',zM _ _ hk',hin,h.all,g1,hv',io,cC,zB,if_true,if_false]
 ·have hb:(p.1==[106,111,105,110])=Q4:=by simpa using hj
  unfold kQ;rw[if_neg hj];obtain⟨g1,g2⟩:=h.hasC v;by_cases hv:Dr (dd p (zG db p)) v=Q3
  ·rw[if_pos hv];refine zJ (r:=(tup [agg [ai v.1,ai v.2.1,str v.2.2],ai 0],[])) ?_ rfl;simp only[Pj,zk,Prod.eta,Q8,c1,c2,hb,h.all,g1,hv,io,bG,zB,if_true,if_false]
  ·rw[if_neg hv];have hv':=Bool.eq_false_iff.2 hv;refine zJ (r:=(tup [agg [ai 0,ai 0,str []],ai 6],[])) ?_ rfl;simp only[Pj,zk,Prod.eta,Q8,c1,c2,hb,h.all,g1,hv',io,cC,zB,if_true,if_false]
end
noncomputable section
inductive H6u where
 |h5 (l6:List (Sem zh)) (i8:Int) (z0:zm [CP.d zr])
 |h15 (l6:List (Sem zh)) (i8:Int) (l9:List (Sem ze)) (l12:List (Sem ze.sl)) (i15:Int) (z0:zm [CP.d zr]) (z1:zm [CP.d ze])
 |h15b (l6:List (Sem zh)) (i8:Int) (l9:List (Sem ze)) (l12:List (Sem ze.sl)) (b14:Sem Q7) (i15:Int) (z0:zm [CP.d zr]) (z1:zm [CP.d ze])
end
noncomputable def eqR(a b:List (Sem ze)):Bool:=@decide (a=b) (Classical.propDecidable _)
theorem tL{a b:List (Sem ze)}:eqR a b=Q3↔a=b:=by unfold eqR;exact@Ip _ (Classical.propDecidable _)
theorem Fs(a b:List (Sem ze))(ha:a.length<=1000000):yY a b=Q3/\G0 a b=eqR a b:=by
 have:yZ a b=some (eqR a b,()):=by
  by_cases hl:a.length=b.length
  ·have hs:(WM a b).val=Q1 (.inl (.h4 a b ((0:Nat):Int))):=by
    simp only[WM,Q8,hl,io,zB,if_false];rfl
   have hgo:∀k,k<=a.length->(∀i(h:i<k),a[i]?=b[i]?)->zQ PZ (k*1) (.h4 a b ((0:Nat):Int)) (.h4 a b (k:Int)):=λk hk hn=>
    zQ.all (t:=PZ) 1 (λi=>.h4 a b (i:Int)) k λi hi=>zQ.of (by
     have ha':i<a.length:=by omega
     have hb':i<b.length:=by omega
     have e:=hn i hi;rw[zS ha',zS hb']at e;have hne:vw a[i] b[i]=Q3:=js.2 (Option.some.inj e);unfold vw at hne;simp only[PZ,Q8,zC ha',zt ha',zt hb',if_true,zM _ _ ha',zM _ _ hb',hne,bG,zB,if_false];rw[zp i um])
   by_cases he:a=b
   ·rw[tL.2 he];refine zw hs ((hgo a.length (aA _) (λi _=>by rw[he])).ends (zU.of (r:=(.kb Q3,[])) ?_)) ow rfl;simp only[PZ,Q8,zA,zB,if_false]
   ·have hb:eqR a b=Q4:=Bool.eq_false_iff.2 λh=>he (tL.1 h)
    rw[hb];have hex:∃i,a[i]?≠b[i]?:=mq λhno=>he (AQ λi=>mq λh=>hno ⟨i,h⟩)
    obtain⟨k,hk,hm⟩:∃k,a[k]?≠b[k]?/\∀i,i<k->a[i]?=b[i]?:=by
     obtain⟨n,hn⟩:=hex
     induction n using Nat.strongRecOn with
     | ind n ih=>
      by_cases h:∃m,m<n/\a[m]?≠b[m]?
      ·obtain⟨m,h1,h2⟩:=h;exact ih m h1 h2
      ·exact⟨n,hn,λi hi=>mq λh2=>h ⟨i,hi,h2⟩⟩
    have hka:k<a.length:=by
     refine mq λh=>hk ?_
     rw[eE ow,eE ow]
    have hkb:k<b.length:=by omega
    have hne:vw a[k] b[k]=Q4:=Bool.eq_false_iff.2 λh=>hk (by rw[zS hka,zS hkb,js.1 h])
    unfold vw at hne;refine zw hs ((hgo k ow hm).ends (zU.of (r:=(.kb Q4,[])) ?_)) ow rfl;simp only[PZ,Q8,zC hka,zt hka,zt hkb,if_true,zM _ _ hka,zM _ _ hkb,hne,cC]
  ·have hb:eqR a b=Q4:=Bool.eq_false_iff.2 λh=>hl (by rw[tL.1 h])
   have hd:((a.length:Int)!=(b.length:Int))=Q3:=by simp;omega
   rw[hb];refine zJ (r:=(.kb Q4,[])) ?_ rfl;simp only[WM,Q8,hd,if_true]
 exact⟨by unfold yY;rw[this];rfl,by unfold G0;rw[this];rfl⟩
noncomputable section
def WN(x0:Sem zr)(x1:Sem zh.sl)(x2:Sem ze.sl):Tr (Empty⊕aw):=
 let a0:=getD x2 (toNat x0.t.2) (zi ze)
 let a1:=getD x0.t.1 (toNat 0) (zi zg)
 let a2:=getD x2 (toNat a1) (zi ze)
 let a3:=getD x1 (toNat 0) (zi zh)
 let a4:=getD x2 (toNat a3.1.2.2.1) (zi ze)
 br (x0.1==[106,111,105,110])
 (Qc (zK x0.t.2 (length x2)) (re (agg [ai a0.1,ai a0.2.1,str a0.2.2]) []))
 (br (x0.1==[103,114,111,117,112])
  (Qc (zK 0 (length x0.t.1)) (Qc (zK a1 (length x2)) (re (agg [ai a2.1,ai a2.2.1,str a2.2.2]) [])))
  (Qc (zK 0 (length x1)) (Qc (zK a3.1.2.2.1 (length x2)) (re (agg [ai a4.1,ai a4.2.1,str a4.2.2]) []))))
def sW(x0:Sem zr)(x1:Sem zh.sl)(x2:Sem ze.sl):=al [ze] t0 100000000 (WN x0 x1 x2)
def kV(x0:Sem zr)(x1:Sem zh.sl)(x2:Sem ze.sl):=(sW x0 x1 x2).isSome
def rU(x0:Sem zr)(x1:Sem zh.sl)(x2:Sem ze.sl):=o1 (sW x0 x1 x2)
def ze2:=FT [zr,zh.sl,ze.sl] [ze] λx=>sW x.1 x.2.1 x.2.2.1
theorem zaU:FK 22 ze2:=sD.T1 (f:=Tryz.f22) (keep:=k0) (e:=e0)
abbrev ziL:=lx [(4,[0,1,5])]
inductive Ow where
 |h4 (l0:List (Sem ze.sl)) (l1:List (Sem ze.sl)) (i5:Int)
abbrev zlv:Ow->Nat×St
 |.h4 l0 l1 i5=>(4,⟨tm 27 [(0,sl ze.sl l0),(1,sl ze.sl l1),(5,ai i5)],[]⟩)
def zcX(x0:Sem ze.sl.sl)(x1:Sem ze.sl.sl):Tr (Ow⊕aw):=
 br ((↑(length x0):Int)!=(↑(length x1):Int)) (re (kb Q4) []) (Q9 (Ow.h4 x0 x1 0))
def XM:Ow->Tr (Ow⊕aw)
 | .h4 l0 l1 i5=>
  let a0:=l0.getD i5.toNat (zi ze.sl)
  let a1:=l1.getD i5.toNat (zi ze.sl)
  br (Q0 (i5<(↑l0.length:Int)))
  (Qc (zK i5 l0.length) (Qc (zK i5 l1.length) (Qc (yY a0 a1) (br (!G0 a0 a1) (re (kb Q4) []) (Q9 (Ow.h4 l0 l1 (IntKind.i64.wrap (i5+1))))))))
  (re (kb Q3) [])
def Aj(x0:Sem ze.sl.sl)(x1:Sem ze.sl.sl):=al [Q7] XM 100000000 (zcX x0 x1)
def He(x0:Sem ze.sl.sl)(x1:Sem ze.sl.sl):=(Aj x0 x1).isSome
def Md(x0:Sem ze.sl.sl)(x1:Sem ze.sl.sl):=o1 (Aj x0 x1)
def zeU:=FT [ze.sl.sl,ze.sl.sl] [Q7] λx=>Aj x.1 x.2.1
theorem zaM:FK 17 zeU:=sD.T1 (f:=Tryz.f17) (keep:=ziL) (e:=zlv)
def R3:=R2.addL [(22,ze2),(17,zeU)]
theorem nu:zy R3:=sD.addL<|fc zaU<|fc zaM<|iM
end
noncomputable section
abbrev ziN:=lx [(2,[1,3,5,6,8])]
inductive KK where
 |h2 (l1:List (Sem zh)) (i8:Int) (z0:zm [CP.d zr]) (z1:zm [CP.d ze]) (z2:zm [CP.d ze])
abbrev zlx:KK->Nat×St
 |.h2 l1 i8 z0 z1 z2=>(2,⟨tm 61 [(1,sl zh l1),(3,ptr 0 0),(5,ptr 1 0),(6,ptr 2 0),(8,ai i8)],[Qa (bv [] [CP.d zr] z0),Qa (bv [] [CP.d ze] z1),Qa (bv [] [CP.d ze] z2)]⟩)
def zij(x0:Sem zr)(x1:Sem zh.sl)(x2:Sem ze):Tr (KK⊕aw):=
 Q9 (KK.h2 x1 0 (x0,()) (x2,()) ((0,0,[]),()))
def P0:KK->Tr (KK⊕aw)
 | .h2 l1 i8 z0 z1 z2=>
  let a0:=zK 0 l1.length
  let a1:=l1.getD (toNat 0) (zi zh)
  let a2:=(↑(length a1.2):Int)
  let a3:=(z0.1.1,z0.1.2.1,z0.1.2.2.1,(z0.1.2.2.2.1.1,z0.1.2.2.2.1.2.1,z0.1.2.2.2.1.2.2.1,z0.1.2.2.2.1.2.2.2.1,z0.1.2.2.2.1.t.1,zn z0.1.2.2.2.1.t.2),z0.1.t)
  let a4:=getD a1.2 i8.toNat (zi ze.sl)
  let a5:=rU a3 l1 a4
  let a6:=z0.1.1==[106,111,105,110]
  let a7:=getD a4 (toNat a1.1.2.2.1) (zi ze)
  let a8:=bif !a6 then a5.1==z1.1.1&&(a5.2.1==z1.1.2.1&&(a5.2.2==z1.1.2.2&&Q3))else Q4
  Qc a0
  (br (Q0 (i8<a2)) (Qc a0 (Qc (zK i8 (length a1.2)) (Qc (kV a3 l1 a4) (br (a5.1==0) (Q9 (KK.h2 l1 (IntKind.i64.wrap (i8+1)) z0 z1 z2)) (Qc (bif a6 then a0&&zK a1.1.2.2.1 (length a4)else Q3) (br (bif a6 then bif a7.1==z1.1.1&&(a7.2.1==z1.1.2.1&&(a7.2.2==z1.1.2.2&&Q3))then Q3 else a8 else a8)
  (re (tup [agg [ai a5.1,ai a5.2.1,str a5.2.2],kb Q3]) []) (Q9 (KK.h2 l1 (IntKind.i64.wrap (i8+1)) z0 z1 z2)))))))) (re (tup [agg [ai 0,ai 0,str []],kb Q4]) []))
def yT(x0:Sem zr)(x1:Sem zh.sl)(x2:Sem ze):=al [ze,Q7] P0 100000000 (zij x0 x1 x2)
def yS(x0:Sem zr)(x1:Sem zh.sl)(x2:Sem ze):=(yT x0 x1 x2).isSome
def GU(x0:Sem zr)(x1:Sem zh.sl)(x2:Sem ze):=o2 (yT x0 x1 x2)
def zeY:=FT [zr,zh.sl,ze] [ze,Q7] λx=>yT x.1 x.2.1 x.2.2.1
theorem zaQ:FK 20 zeY:=nu.T1 (f:=Tryz.f20) (keep:=ziN) (e:=zlx)
abbrev ziM:=lx [(3,[1,3,5,7,8])]
inductive DB where
 |h3 (l1:List (Sem zh)) (i8:Int) (z0:zm [CP.d zr]) (z1:zm [CP.d ze])
 |h3b (l1:List (Sem zh)) (i8:Int) (z0:zm [CP.d zr]) (z1:zm [CP.d ze]) (lh_2:List (Sem ze.sl))
abbrev zlw:DB->Nat×St
 |.h3 l1 i8 z0 z1=>(3,⟨tm 46 [(1,sl zh l1),(3,ptr 0 0),(5,ptr 1 0),(7,nils),(8,ai i8)],[Qa (bv [] [CP.d zr] z0),Qa (bv [] [CP.d ze] z1)]⟩)
 |.h3b l1 i8 z0 z1 lh_2=>(3,⟨tm 46 [(1,sl zh l1),(3,ptr 0 0),(5,ptr 1 0),(7,AV.vec 2),(8,ai i8)],[Qa (bv [] [CP.d zr] z0),Qa (bv [] [CP.d ze] z1),AO.vec ze.sl lh_2]⟩)
def zii(x0:Sem zr)(x1:Sem zh.sl)(x2:Sem ze):Tr (DB⊕aw):=
 Q9 (DB.h3 x1 0 (x0,()) (x2,()))
def yr:DB->Tr (DB⊕aw)
 | .h3 l1 i8 z0 z1=>
  let a0:=zK 0 l1.length
  let a1:=l1.getD (toNat 0) (zi zh)
  let a2:=(↑(length a1.2):Int)
  let a3:=z1.1.1!=0
  let a4:=zK i8 (length a1.2)
  let a5:=(z0.1.1,z0.1.2.1,z0.1.2.2.1,(z0.1.2.2.2.1.1,z0.1.2.2.2.1.2.1,z0.1.2.2.2.1.2.2.1,z0.1.2.2.2.1.2.2.2.1,z0.1.2.2.2.1.t.1,zn z0.1.2.2.2.1.t.2),z0.1.t)
  let a6:=getD a1.2 i8.toNat (zi ze.sl)
  let a7:=rU a5 l1 a6
  let a8:=[a6]
  let a9:=IntKind.i64.wrap (i8+1)
  Qc a0
  (br (Q0 (i8<a2)) (Qc (bif a3 then a0&&(a4&&kV a5 l1 a6)else Q3) (br (bif a3 then a7.1==z1.1.1&&(a7.2.1==z1.1.2.1&&(a7.2.2==z1.1.2.2&&Q3))else Q4) (Qc a0 (Qc a4 (Qc (Q0 (a8.length<=1073741824)) (Q9 (DB.h3b l1 a9 z0 z1 a8))))) (Q9 (DB.h3 l1 a9 z0 z1)))) (re nils []))
 | .h3b l1 i8 z0 z1 lh_2=>
  let a0:=zK 0 l1.length
  let a1:=l1.getD (toNat 0) (zi zh)
  let a2:=(↑(length a1.2):Int)
  let a3:=z1.1.1!=0
  let a4:=zK i8 (length a1.2)
  let a5:=(z0.1.1,z0.1.2.1,z0.1.2.2.1,(z0.1.2.2.2.1.1,z0.1.2.2.2.1.2.1,z0.1.2.2.2.1.2.2.1,z0.1.2.2.2.1.2.2.2.1,z0.1.2.2.2.1.t.1,zn z0.1.2.2.2.1.t.2),z0.1.t)
  let a6:=getD a1.2 i8.toNat (zi ze.sl)
  let a7:=rU a5 l1 a6
  let a8:=[a6]
  let a9:=IntKind.i64.wrap (i8+1)
  Qc a0
  (br (Q0 (i8<a2)) (Qc (bif a3 then a0&&(a4&&kV a5 l1 a6)else Q3) (br (bif a3 then a7.1==z1.1.1&&(a7.2.1==z1.1.2.1&&(a7.2.2==z1.1.2.2&&Q3))else Q4) (Qc a0 (Qc a4 (Qc (Q0 (lh_2.length+a8.length<=1073741824)) (Q9 (DB.h3b l1 a9 z0 z1 (lh_2++a8)))))) (Q9 (DB.h3b l1 a9 z0 z1 lh_2)))) (re (AV.vec 0) [AO.vec ze.sl lh_2]))
def un(x0:Sem zr)(x1:Sem zh.sl)(x2:Sem ze):=al [ze.sl.sl] yr 100000000 (zii x0 x1 x2)
def Ci(x0:Sem zr)(x1:Sem zh.sl)(x2:Sem ze):=(un x0 x1 x2).isSome
def GV(x0:Sem zr)(x1:Sem zh.sl)(x2:Sem ze):=o1 (un x0 x1 x2)
def zeV:=FT [zr,zh.sl,ze] [ze.sl.sl] λx=>un x.1 x.2.1 x.2.2.1
theorem zaN:FK 18 zeV:=nu.T1 (f:=Tryz.f18) (keep:=ziM) (e:=zlw)
abbrev ziK:=lx [(3,[1,2,5,6]),(9,[1,2,5,6,7,8,9,10])]
inductive fA where
 |h3 (l1:List (Sem zh)) (i6:Int) (z0:zm [CP.d zr])
 |h9 (l1:List (Sem zh)) (i6:Int) (b9:Bool) (i10:Int) (z0:zm [CP.d zr]) (z1:zm [CP.d ze])
 |h3b (l1:List (Sem zh)) (i6:Int) (z0:zm [CP.d zr]) (lh_1:List (Sem ze))
 |h9b (l1:List (Sem zh)) (i6:Int) (b9:Bool) (i10:Int) (z0:zm [CP.d zr]) (z2:zm [CP.d ze]) (lh_1:List (Sem ze))
 |h9bb (l1:List (Sem zh)) (i6:Int) (i10:Int) (z0:zm [CP.d zr]) (z2:zm [CP.d ze]) (lh_1:List (Sem ze)) (lh_3:List (Sem ze))
 |h9bbb (l1:List (Sem zh)) (i6:Int) (b9:Bool) (i10:Int) (z0:zm [CP.d zr]) (z2:zm [CP.d ze]) (lh_1:List (Sem ze)) (lh_3:List (Sem ze))
abbrev zlu:fA->Nat×St
 |.h3 l1 i6 z0=>(3,⟨tm 73 [(1,sl zh l1),(2,ptr 0 0),(5,nils),(6,ai i6)],[Qa (bv [] [CP.d zr] z0)]⟩)
 |.h9 l1 i6 b9 i10 z0 z1=>(9,⟨tm 73 [(1,sl zh l1),(2,ptr 0 0),(5,nils),(6,ai i6),(7,ptr 1 0),(8,nils),(9,AV.bool b9),(10,ai i10)],[Qa (bv [] [CP.d zr] z0),Qa (bv [] [CP.d ze] z1)]⟩)
 |.h3b l1 i6 z0 lh_1=>(3,⟨tm 73 [(1,sl zh l1),(2,ptr 0 0),(5,AV.vec 1),(6,ai i6)],[Qa (bv [] [CP.d zr] z0),AO.vec ze lh_1]⟩)
 |.h9b l1 i6 b9 i10 z0 z2 lh_1=>(9,⟨tm 73 [(1,sl zh l1),(2,ptr 0 0),(5,AV.vec 1),(6,ai i6),(7,ptr 2 0),(8,nils),(9,AV.bool b9),(10,ai i10)],[Qa (bv [] [CP.d zr] z0),AO.vec ze lh_1,Qa (bv [] [CP.d ze] z2)]⟩)
 |.h9bb l1 i6 i10 z0 z2 lh_1 lh_3=>(9,⟨tm 73 [(1,sl zh l1),(2,ptr 0 0),(5,AV.vec 1),(6,ai i6),(7,ptr 2 0),(8,AV.vec 3),(9,kb Q3),(10,ai i10)],[Qa (bv [] [CP.d zr] z0),AO.vec ze lh_1,Qa (bv [] [CP.d ze] z2),AO.vec ze lh_3]⟩)
 |.h9bbb l1 i6 b9 i10 z0 z2 lh_1 lh_3=>(9,⟨tm 73 [(1,sl zh l1),(2,ptr 0 0),(5,AV.vec 1),(6,ai i6),(7,ptr 2 0),(8,AV.vec 3),(9,AV.bool b9),(10,ai i10)],[Qa (bv [] [CP.d zr] z0),AO.vec ze lh_1,Qa (bv [] [CP.d ze] z2),AO.vec ze lh_3]⟩)
def zig(x0:Sem zr)(x1:Sem zh.sl):Tr (fA⊕aw):=
 Q9 (fA.h3 x1 0 (x0,()))
def fR:fA->Tr (fA⊕aw)
 | .h3 l1 i6 z0=>
  let a0:=zK 0 l1.length
  let a1:=l1.getD (toNat 0) (zi zh)
  let a2:=(↑(length a1.2):Int)
  let a3:=(z0.1.1,z0.1.2.1,z0.1.2.2.1,(z0.1.2.2.2.1.1,z0.1.2.2.2.1.2.1,z0.1.2.2.2.1.2.2.1,z0.1.2.2.2.1.2.2.2.1,z0.1.2.2.2.1.t.1,zn z0.1.2.2.2.1.t.2),z0.1.t)
  let a4:=getD a1.2 i6.toNat (zi ze.sl)
  let a5:=rU a3 l1 a4
  Qc a0
  (br (Q0 (i6<a2)) (Qc a0 (Qc (zK i6 (length a1.2)) (Qc (kV a3 l1 a4) (Q9 (fA.h9 l1 i6 (a5.1==0) 0 z0 ((sW a3 l1 a4).getD (cg [ze]))))))) (re nils []))
 | .h9 l1 i6 b9 i10 z0 z1=>
  let a0:=IntKind.i64.wrap (i6+1)
  br (Q0 (i10<0)) Tr.err (br (!b9) (Qc (Q0 ([z1.1].length<=1073741824)) (Q9 (fA.h3b l1 a0 z0 [z1.1]))) (Q9 (fA.h3 l1 a0 z0)))
 | .h3b l1 i6 z0 lh_1=>
  let a0:=zK 0 l1.length
  let a1:=l1.getD (toNat 0) (zi zh)
  let a2:=(↑(length a1.2):Int)
  let a3:=(z0.1.1,z0.1.2.1,z0.1.2.2.1,(z0.1.2.2.2.1.1,z0.1.2.2.2.1.2.1,z0.1.2.2.2.1.2.2.1,z0.1.2.2.2.1.2.2.2.1,z0.1.2.2.2.1.t.1,zn z0.1.2.2.2.1.t.2),z0.1.t)
  let a4:=getD a1.2 i6.toNat (zi ze.sl)
  let a5:=rU a3 l1 a4
  Qc a0
  (br (Q0 (i6<a2)) (Qc a0 (Qc (zK i6 (length a1.2)) (Qc (kV a3 l1 a4) (Q9 (fA.h9b l1 i6 (a5.1==0) 0 z0 ((sW a3 l1 a4).getD (cg [ze])) lh_1))))) (re (AV.vec 0) [AO.vec ze lh_1]))
 | .h9b l1 i6 b9 i10 z0 z2 lh_1=>
  let a0:=Q0 (i10.toNat<lh_1.length)
  let a1:=lh_1.getD i10.toNat (zi ze)
  let a2:=qA a1 z2.1
  let a3:=Q0 (a2>0)
  let a4:=Q0 ([z2.1].length<=1073741824)
  let a5:=[a1]
  let a6:=IntKind.i64.wrap (i10+1)
  let a7:=Q0 (a5.length<=1073741824)
  let a8:=IntKind.i64.wrap (i6+1)
  br (Q0 (i10<(↑lh_1.length:Int)))
  (Qc (zK i10 lh_1.length) (Qc a0 (Qc (mK a1 z2.1) (br (a2==0) (br (bif a3 then !Q3 else Q4) (Qc a4 (Qc (zK i10 lh_1.length) (Qc a0 (Qc (Q0 ([z2.1].length+a5.length<=1073741824)) (Q9 (fA.h9bb l1 i6 a6 z0 z2 lh_1 ([z2.1]++a5))))))) (Qc (zK i10 lh_1.length) (Qc a0 (Qc a7 (Q9 (fA.h9bb l1 i6 a6 z0 z2 lh_1 a5))))))
  (br (bif a3 then !b9 else Q4) (Qc a4 (Qc (zK i10 lh_1.length) (Qc a0 (Qc (Q0 ([z2.1].length+a5.length<=1073741824)) (Q9 (fA.h9bb l1 i6 a6 z0 z2 lh_1 ([z2.1]++a5))))))) (Qc (zK i10 lh_1.length) (Qc a0 (Qc a7 (Q9 (fA.h9bbb l1 i6 b9 a6 z0 z2 lh_1 a5))))))))))
  (br (!b9) (Qc a4 (Q9 (fA.h3b l1 a8 z0 [z2.1]))) (Q9 (fA.h3 l1 a8 z0)))
 | .h9bb l1 i6 i10 z0 z2 lh_1 lh_3=>
  let a0:=Q0 (i10.toNat<lh_1.length)
  let a1:=lh_1.getD i10.toNat (zi ze)
  let a2:=qA a1 z2.1
  let a3:=lh_3++[z2.1]
  let a4:=[a1]
  let a5:=IntKind.i64.wrap (i10+1)
  br (Q0 (i10<(↑lh_1.length:Int)))
  (Qc (zK i10 lh_1.length) (Qc a0 (Qc (mK a1 z2.1) (br (a2==0) (br (bif Q0 (a2>0)then !Q3 else Q4) (Qc (Q0 (lh_3.length+[z2.1].length<=1073741824)) (Qc (zK i10 lh_1.length) (Qc a0 (Qc (Q0 (a3.length+a4.length<=1073741824)) (Q9 (fA.h9bb l1 i6 a5 z0 z2 lh_1 (a3++a4))))))) (Qc (zK i10 lh_1.length)
  (Qc a0 (Qc (Q0 (lh_3.length+a4.length<=1073741824)) (Q9 (fA.h9bb l1 i6 a5 z0 z2 lh_1 (lh_3++a4))))))) (br (bif Q0 (a2>0)then !Q3 else Q4) (Qc (Q0 (lh_3.length+[z2.1].length<=1073741824)) (Qc (zK i10 lh_1.length) (Qc a0 (Qc (Q0 (a3.length+a4.length<=1073741824)) (Q9 (fA.h9bb l1 i6 a5 z0 z2 lh_1 (a3++a4)))))))
  (Qc (zK i10 lh_1.length) (Qc a0 (Qc (Q0 (lh_3.length+a4.length<=1073741824)) (Q9 (fA.h9bb l1 i6 a5 z0 z2 lh_1 (lh_3++a4)))))))))))
  (Q9 (fA.h3b l1 (IntKind.i64.wrap (i6+1)) z0 lh_3))
 | .h9bbb l1 i6 b9 i10 z0 z2 lh_1 lh_3=>
  let a0:=Q0 (i10.toNat<lh_1.length)
  let a1:=lh_1.getD i10.toNat (zi ze)
  let a2:=qA a1 z2.1
  let a3:=Q0 (a2>0)
  let a4:=Q0 (lh_3.length+[z2.1].length<=1073741824)
  let a5:=lh_3++[z2.1]
  let a6:=[a1]
  let a7:=IntKind.i64.wrap (i10+1)
  let a8:=Q0 (lh_3.length+a6.length<=1073741824)
  let a9:=lh_3++a6
  let a10:=IntKind.i64.wrap (i6+1)
  br (Q0 (i10<(↑lh_1.length:Int)))
  (Qc (zK i10 lh_1.length) (Qc a0 (Qc (mK a1 z2.1) (br (a2==0) (br (bif a3 then !Q3 else Q4) (Qc a4 (Qc (zK i10 lh_1.length) (Qc a0 (Qc (Q0 (a5.length+a6.length<=1073741824)) (Q9 (fA.h9bb l1 i6 a7 z0 z2 lh_1 (a5++a6))))))) (Qc (zK i10 lh_1.length) (Qc a0 (Qc a8 (Q9 (fA.h9bb l1 i6 a7 z0 z2 lh_1 a9))))))
  (br (bif a3 then !b9 else Q4) (Qc a4 (Qc (zK i10 lh_1.length) (Qc a0 (Qc (Q0 (a5.length+a6.length<=1073741824)) (Q9 (fA.h9bb l1 i6 a7 z0 z2 lh_1 (a5++a6))))))) (Qc (zK i10 lh_1.length) (Qc a0 (Qc a8 (Q9 (fA.h9bbb l1 i6 b9 a7 z0 z2 lh_1 a9))))))))))
  (br (!b9) (Qc a4 (Q9 (fA.h3b l1 a10 z0 a5))) (Q9 (fA.h3b l1 a10 z0 lh_3)))
def yR(x0:Sem zr)(x1:Sem zh.sl):=al [ze.sl] fR 100000000 (zig x0 x1)
def GS(x0:Sem zr)(x1:Sem zh.sl):=(yR x0 x1).isSome
def L3(x0:Sem zr)(x1:Sem zh.sl):=o1 (yR x0 x1)
def zeT:=FT [zr,zh.sl] [ze.sl] λx=>yR x.1 x.2.1
theorem zaJ:FK 16 zeT:=nu.T1 (f:=Tryz.f16) (keep:=ziK) (e:=zlu)
def zcw:=R3.addL [(20,zeY),(18,zeV),(16,zeT)]
theorem K8:zy zcw:=nu.addL<|fc zaQ<|fc zaN<|fc zaJ<|iM
end
theorem J0{a:List (List (Sem ze))}(ha:a.length<=1000000)(hr:∀r∈a,r.length<=1000000):He a a=Q3/\Md a a=Q3:=by
 have:Aj a a=Q1 (Q3,()):=by
  have hs:(zcX a a).val=Q1 (.inl (.h4 a a ((0:Nat):Int))):=by
   simp only[zcX,Q8,io,zB,if_false];rfl
  have hg:=zQ.all (t:=XM) 1 (λi=>.h4 a a (i:Int)) a.length λi hi=>zQ.of (by
   obtain⟨q1,q2⟩:=Fs a[i] a[i] (hr _ (bd hi));rw[tL.2 rfl]at q2;simp only[XM,Q8,zC hi,zt hi,if_true,zM _ _ hi,q1,q2,bG,zB,if_false];rw[zp i um])
  refine zw hs (hg.ends (zU.of (r:=(.kb Q3,[])) ?_)) ow rfl;simp only[XM,Q8,zA,zB,if_false]
 exact⟨by unfold He;rw[this];rfl,by unfold Md;rw[this];rfl⟩
def s18(l:List (Sem zh))(i:Int)(p:Sem zr)(v:Sem ze):List (List (Sem ze))->DB
 |[]=>.h3 l i (p,()) (v,())
 |a::r=>.h3b l i (p,()) (v,()) (a::r)
section
variable {db:List (Sem zh)} {p:Sem zr}
theorem aE.cols0(h:aE db p)(h1:p.1≠[99,111,112,121])(h2:p.1≠[106,111,105,110]):0<length p.t.1:=by
 refine mq λhn=>?_
 have e1:(p.1==[99,111,112,121])=Q4:=by simpa using h1
 have e2:(p.1==[106,111,105,110])=Q4:=by simpa using h2
 have hj:zK 0 (length p.t.1)=Q4:=by rw[Nat.eq_zero_of_not_pos hn];rfl
 have hv:(Pk p (zG db p)).val=none:=by simp only[Pk,Q8,e1,e2,hj,zB,if_false]
 have:=h.plc;unfold rc al cT at this;rw[hv]at this;cases this
theorem aE.len0(h:aE db p):zK 0 (zG db p).length=Q3:=zt (i:=0) (oe h.go.two).1
theorem aE.qOf(h:aE db p){row:List (Sem ze)}(hin:zK (aT p (zG db p)) row.length=Q3):sW p (zG db p) row=Q1 (zR (aT p (zG db p)) row,()):=by
 have hlen:=h.len0;refine zJ (r:=(agg [ai (zR (aT p (zG db p)) row).1,ai (zR (aT p (zG db p)) row).2.1,str (zR (aT p (zG db p)) row).2.2],[])) ?_ rfl;by_cases h1:p.1=[99,111,112,121]
 ·have e:aT p (zG db p)=(getD (zG db p) (toNat 0) (zi zh)).1.2.2.1:=by unfold aT;rw[if_pos h1];rfl
  rw[e]at hin⊢;simp only[WN,Q8,show(p.1==[106,111,105,110])=Q4 by rw[h1];rfl,show(p.1==[103,114,111,117,112])=Q4 by rw[h1];rfl,hlen,hin,zB,if_true,if_false]
 ·by_cases h2:p.1=[106,111,105,110]
  ·have e:aT p (zG db p)=p.t.2:=by unfold aT;rw[if_neg h1,if_pos h2]
   rw[e]at hin⊢;simp only[WN,Q8,show(p.1==[106,111,105,110])=Q3 by rw[h2];rfl,hin,if_true]
  ·have e:aT p (zG db p)=getD p.t.1 (toNat 0) (zi zg):=by unfold aT;rw[if_neg h1,if_neg h2];rfl
   have hg:(p.1==[103,114,111,117,112])=Q3:=by
    rcases h.mig with e|e|e
    ·exact absurd e h1
    ·exact absurd e h2
    ·rw[e];rfl
   have hj:zK 0 (length p.t.1)=Q3:=zt (i:=0) (h.cols0 h1 h2);rw[e]at hin⊢;simp only[WN,Q8,show(p.1==[106,111,105,110])=Q4 by simpa using h2,hg,hj,hin,zB,if_true,if_false]
theorem aE.qOf'(h:aE db p){row:List (Sem ze)}(hr:row∈(ch db p).2):kV p (zG db p) row=Q3/\rU p (zG db p) row=zR (aT p (zG db p)) row:=by
 have:=h.qOf (h.inn row hr).1;exact⟨by unfold kV;rw[this];rfl,by unfold rU;rw[this];rfl⟩
theorem XD(h:aE db p){v:Sem ze}{acc:List (List (Sem ze))}{i:Nat}(hi:i<(ch db p).2.length)(ha:acc.length<=1000):
  (yr (s18 (zG db p) (i:Int) p v acc)).val=Q1 (.inl (s18 (zG db p) ((i+1:Nat):Int) p v (if ph (aT p (zG db p)) v (ch db p).2[i]=Q3 then acc++[(ch db p).2[i]]else acc))):=by
 have hrl:=h.rel.few;have hlen:=h.len0;have hfr:getD (zG db p) (toNat 0) (zi zh)=ch db p:=rfl;obtain⟨o1,o2⟩:=h.qOf' (bd hi);have hc:(bif v.1!=0 then zK 0 (zG db p).length&&(zK (i:Int) (ch db p).2.length&&kV p (zG db p) (ch db p).2[i])else Q3)=Q3:=by
  rw[hlen,zt hi,o1];cases v.1!=0<;>rfl
 have hb:(bif v.1!=0 then(zR (aT p (zG db p)) (ch db p).2[i]).1==v.1&&((zR (aT p (zG db p)) (ch db p).2[i]).2.1==v.2.1&&((zR (aT p (zG db p)) (ch db p).2[i]).2.2==v.2.2&&Q3))else Q4)=ph (aT p (zG db p)) v (ch db p).2[i]:=by
  unfold ph;show(bif v.1!=0 then vw (zR (aT p (zG db p)) (ch db p).2[i]) v else Q4)=_;cases v.1!=0<;>cases vw (zR (aT p (zG db p)) (ch db p).2[i]) v<;>rfl
 cases acc with
 | nil=>
  show(yr (.h3 _ _ _ _)).val=_;simp only[yr,Q8,hfr,hlen,zC hi,zt hi,if_true,zM _ _ hi,zk,Prod.eta,o2];rw[zp i um,hb];rw[hlen,zt hi]at hc;rw[if_pos hc];cases hu:ph (aT p (zG db p)) v (ch db p).2[i]<;>rfl
 | cons c r=>
  show(yr (.h3b _ _ _ _ _)).val=_;simp only[yr,Q8,hfr,hlen,zC hi,zt hi,if_true,zM _ _ hi,zk,Prod.eta,o2];rw[zp i um,hb];rw[hlen,zt hi]at hc;rw[if_pos hc];cases hu:ph (aT p (zG db p)) v (ch db p).2[i]
  ·rfl
  ·simp only[if_true];rw[if_pos (by simp at ha⊢;omega)];rfl
theorem aE.qRows(h:aE db p)(v:Sem ze):Ci p (zG db p) v=Q3/\GV p (zG db p) v=(ch db p).2.filter (ph (aT p (zG db p)) v):=by
 have hrl:=h.rel.few;have hlen:=h.len0;have hfr:getD (zG db p) (toNat 0) (zi zh)=ch db p:=rfl;have:un p (zG db p) v=Q1 ((ch db p).2.filter (ph (aT p (zG db p)) v),()):=by
  have hs:(zii p (zG db p) v).val=Q1 (.inl (s18 (zG db p) ((0:Nat):Int) p v [])):=rfl;have hg:=zQ.all (t:=yr) 1 (λi=>s18 (zG db p) (i:Int) p v (((ch db p).2.take i).filter (ph (aT p (zG db p)) v))) (ch db p).2.length λi hi=>zQ.of (by
   rw[XD h hi (cD (List.length_filter_le _ _) sg)];congr 3;rw[bV hi,List.filter_append];cases hu:ph (aT p (zG db p)) v (ch db p).2[i]<;>simp[hu])
  simp only[List.take_zero,List.filter_nil,jx]at hg;generalize(ch db p).2.filter (ph (aT p (zG db p)) v)=acc at hg⊢;have hend:∃r,zU yr 1 (s18 (zG db p) ((ch db p).2.length:Int) p v acc) r/\aL r.2 [ze.sl.sl] r.1=Q1 (acc,()):=by
   cases acc with
   | nil=>
    refine⟨_,zU.of (by
     show(yr (.h3 _ _ _ _)).val=_;simp only[yr,Q8,hfr,hlen,zA,zB,if_true,if_false];rfl),rfl⟩
   | cons a r=>
    refine⟨_,zU.of (by
     show(yr (.h3b _ _ _ _ _)).val=_;simp only[yr,Q8,hfr,hlen,zA,zB,if_true,if_false];rfl),rfl⟩
  obtain⟨r,r1,r2⟩:=hend;exact zw hs (hg.ends r1) ow r2
 exact⟨by unfold Ci;rw[this];rfl,by unfold GV;rw[this];rfl⟩
end
section
variable {db:List (Sem zh)} {p:Sem zr}
noncomputable def isK(db:List (Sem zh))(p:Sem zr)(v:Sem ze)(row:List (Sem ze)):Bool:=
 (zR (aT p (zG db p)) row).1!=0&&(bif p.1==[106,111,105,110]then vw (zR (ch db p).1.2.2.1 row) v else vw (zR (aT p (zG db p)) row) v)
theorem aE.k20(h:aE db p){v:Sem ze}{i:Nat}(hi:i<(ch db p).2.length):
  (P0 (.h2 (zG db p) (i:Int) (p,()) (v,()) ((0,0,[]),()))).val=if isK db p v (ch db p).2[i]=Q3 then Q1 (.inr (tup [agg [ai (zR (aT p (zG db p)) (ch db p).2[i]).1,ai (zR (aT p (zG db p)) (ch db p).2[i]).2.1,str (zR (aT p (zG db p)) (ch db p).2[i]).2.2],kb Q3],[]))else Q1 (.inl (.h2 (zG db p) ((i+1:Nat):Int) (p,()) (v,()) ((0,0,[]),()))):=by
 have hrl:=h.rel.few;have hlen:=h.len0;have hfr:getD (zG db p) (toNat 0) (zi zh)=ch db p:=rfl;obtain⟨o1,o2⟩:=h.qOf' (bd hi);have hin:zK (ch db p).1.2.2.1 (ch db p).2[i].length=Q3:=h.rel.keys _ (bd hi);have hc:(bif p.1==[106,111,105,110]then(Q3&&zK (ch db p).1.2.2.1 (ch db p).2[i].length)else Q3)=Q3:=by rw[hin];cases p.1==[106,111,105,110]<;>rfl
 simp only[P0,Q8,hfr,hlen,zC hi,zt hi,if_true,zM _ _ hi,zk,Prod.eta,o1,o2];rw[zp i um];unfold isK;by_cases h0:(zR (aT p (zG db p)) (ch db p).2[i]).1=0
 ·have e1:((zR (aT p (zG db p)) (ch db p).2[i]).1==0)=Q3:=by simpa using h0
  have e2:((zR (aT p (zG db p)) (ch db p).2[i]).1!=0)=Q4:=by simpa using h0
  rw[if_pos e1,e2,Bool.false_and,if_neg sw]
 ·have e1:((zR (aT p (zG db p)) (ch db p).2[i]).1==0)=Q4:=by simpa using h0
  have e2:((zR (aT p (zG db p)) (ch db p).2[i]).1!=0)=Q3:=by simpa using h0
  rw[if_neg (by rw[e1];simp),if_pos hc,e2,dz];show(if(bif p.1==[106,111,105,110]then bif vw (zR (ch db p).1.2.2.1 (ch db p).2[i]) v then Q3 else(bif !(p.1==[106,111,105,110])then vw (zR (aT p (zG db p)) (ch db p).2[i]) v else Q4)else(bif !(p.1==[106,111,105,110])then vw (zR (aT p (zG db p)) (ch db p).2[i]) v else Q4))=Q3 then _ else _)=_;cases p.1==[106,111,105,110]<;>cases vw (zR (ch db p).1.2.2.1 (ch db p).2[i]) v<;>cases vw (zR (aT p (zG db p)) (ch db p).2[i]) v<;>rfl
theorem aE.qKey(h:aE db p)(v:Sem ze):yS p (zG db p) v=Q3/\GU p (zG db p) v=((kQ db p v).1,(kQ db p v).2==0)/\((kQ db p v).2=0\/(kQ db p v).2=6):=by
 have hrl:=h.rel.few;have hlen:=h.len0;have hfr:getD (zG db p) (toNat 0) (zi zh)=ch db p:=rfl;have hs:(zij p (zG db p) v).val=Q1 (.inl (.h2 (zG db p) ((0:Nat):Int) (p,()) (v,()) ((0,0,[]),()))):=rfl
 have hgo:∀k,k<=(ch db p).2.length->(∀x∈(ch db p).2.take k,isK db p v x=Q4)->zQ P0 (k*1) (.h2 (zG db p) ((0:Nat):Int) (p,()) (v,()) ((0,0,[]),())) (.h2 (zG db p) (k:Int) (p,()) (v,()) ((0,0,[]),())):=λk hk hn=>
  zQ.all (t:=P0) 1 (λi=>.h2 (zG db p) (i:Int) (p,()) (v,()) ((0,0,[]),())) k λi hi=>zQ.of (by
   have hi':i<(ch db p).2.length:=by omega
   rw[h.k20 hi',if_neg (by rw[hn _ (List.mem_take_iff_getElem.2 ⟨i,ow,rfl⟩)];simp)])
 have key:∀u:Sem ze×Bool,yT p (zG db p) v=Q1 (u.1,u.2,())->yS p (zG db p) v=Q3/\GU p (zG db p) v=u:=λu e=>⟨by unfold yS;rw[e];rfl,by unfold GU;rw[e];rfl⟩
 rcases eF (isK db p v) (ch db p).2 0 with⟨_,h2⟩|⟨k,hk,_,h2,h3⟩
 ·have e:kQ db p v=((0,0,[]),6):=by
   unfold kQ;by_cases hj:p.1=[106,111,105,110]
   ·rw[if_pos hj];have hb:(p.1==[106,111,105,110])=Q3:=by simpa using hj
    have hon:aT p (zG db p)=p.t.2:=by
     unfold aT;rw[if_neg (by rw[hj];decide),if_pos hj]
    rcases eF (λr=>bz r (ch db p).1.2.2.1 v) (ch db p).2 0 with⟨f1,_⟩|⟨j,hj',f1,f2,_⟩
    ·simp only[f1];rw[if_pos ow]
    ·simp only[f1];rw[if_neg ow,eX,zM _ _ hj',<-hon];by_cases hv:Dr (dd p (zG db p)) (zR (aT p (zG db p)) (ch db p).2[j])=Q3
     ·exfalso;have h0:=h.ne0 (((h.hasC _).2).1 hv);have hf:=h2 _ (bd hj');unfold isK at hf;rw[hb,ae,js.2 ((ws (h.rel.keys _ (bd hj'))).1 f2),Bool.and_true]at hf;exact h0 (by simpa using hf)
     ·rw[if_neg hv]
   ·rw[if_neg hj];have hb:(p.1==[106,111,105,110])=Q4:=by simpa using hj
    by_cases hv:Dr (dd p (zG db p)) v=Q3
    ·exfalso;obtain⟨row,hr⟩:=List.exists_mem_of_ne_nil _ ((h.is v).1 (((h.hasC _).2).1 hv));obtain⟨hr1,hr2⟩:=List.mem_filter.1 hr;obtain⟨e1,e2⟩:=lN.1 hr2;have hf:=h2 _ hr1;unfold isK at hf;rw[hb,ar,js.2 e1,Bool.and_true]at hf;have e1:zR (aT p (zG db p)) row=v:=e1;rw[e1]at hf;exact e2 (by simpa using hf)
    ·rw[if_neg hv]
  rw[e];refine(λx=>⟨x.1,x.2,.inr rfl⟩) (key ((0,0,[]),Q4) (zw hs ((hgo _ (aA _) λx hx=>h2 x (List.mem_of_mem_take hx)).ends (zU.of (r:=(tup [agg [ai 0,ai 0,str []],kb Q4],[])) ?_)) ow rfl));simp only[P0,Q8,hfr,hlen,zA,zB,if_true,if_false]
 ·have hm:=bd hk;have e:kQ db p v=(zR (aT p (zG db p)) (ch db p).2[k],0):=by
   unfold isK at h2;rw[aC]at h2;have h0:(zR (aT p (zG db p)) (ch db p).2[k]).1≠0:=by simpa using h2.1
   have hu:=h.has hm h0;have h4:=h2.2;unfold kQ;by_cases hj:p.1=[106,111,105,110]
   ·rw[if_pos hj];have hb:(p.1==[106,111,105,110])=Q3:=by simpa using hj
    have hon:aT p (zG db p)=p.t.2:=by
     unfold aT;rw[if_neg (by rw[hj];decide),if_pos hj]
    rw[hb,ae]at h4;obtain⟨j,hj',e1,e2⟩:=h.rel.find hm;rw[js.1 h4]at e1;simp only[e1];rw[if_neg ow,zM _ _ hj',e2,<-hon,if_pos ((h.hasC _).2.2 hu)]
   ·rw[if_neg hj];have hb:(p.1==[106,111,105,110])=Q4:=by simpa using hj
    rw[hb,ar]at h4;rw[js.1 h4]at hu⊢;rw[if_pos ((h.hasC _).2.2 hu)]
  rw[e];refine(λx=>⟨x.1,x.2,.inl rfl⟩) (key (zR (aT p (zG db p)) (ch db p).2[k],Q3) (zw hs ((hgo k ow h3).ends (zU.of (r:=(tup [agg [ai (zR (aT p (zG db p)) (ch db p).2[k]).1,ai (zR (aT p (zG db p)) (ch db p).2[k]).2.1,str (zR (aT p (zG db p)) (ch db p).2[k]).2.2],kb Q3],[])) ?_)) ow rfl));rw[h.k20 hk,if_pos h2]
end
noncomputable section
inductive H4u where
 |h9 (l6:List (Sem zh)) (l8:List (Sem ze)) (i10:Int) (i11:Int) (z0:zm [CP.d zr])
 |h16 (l6:List (Sem zh)) (l8:List (Sem ze)) (i10:Int) (i11:Int) (l12:List (Sem ze.sl)) (i14:Int) (z0:zm [CP.d zr])
 |h22 (l6:List (Sem zh)) (i10:Int) (i17:Int) (z0:zm [CP.d zr])
end
theorem Sc{db:List (Sem zh)}{p:Sem zr}:(ch db p).2=(aB db p.2.1).2:=by
 unfold ch zG;have:∃r,bH p.2.1 p.2.2.1=p.2.1::r:=by unfold bH;split<;>exact⟨_,rfl⟩
 obtain⟨r,e⟩:=this;rw[e];rfl
section
variable {db:List (Sem zh)} {p:Sem zr}
end
theorem B8(a:Sem ze):bj a a=(0:Int):=by
 unfold bj;show Fg [rq (ao a).1 (ao a).1,jX (ao a).2.1 (ao a).2.1,nj (ao a).2.2 (ao a).2.2]=(0:Int);rw[<-LJ,if_pos sw]
def Va(l:List (Sem zh))(i:Int)(p:Sem zr):List (Sem ze)->fA
 |[]=>.h3 l i (p,())
 |a::r=>.h3b l i (p,()) (a::r)
section
variable {l:List (Sem zh)} {p:Sem zr} {u:Sem ze} {acc:List (Sem ze)} {i:Nat}
theorem ZI (hl:acc.length≤1000) (hi:i≤1000) (hu:u.2.2.length≤1000000) (hm:∀ o∈acc,o.2.2.length≤1000000∧(bj o u=(0:Int)→o=u)):
    ∀ (rest:List (Sem ze)) (k:Nat),acc.drop k=rest→k≤acc.length→∀ (d:Bool) (nx:List (Sem ze)),nx.length≤2 * k→∀ s,(s=fA.h9bb l (i:Int) (k:Int) (p,()) (u,()) acc nx∧d=Q3∨s=fA.h9bbb l (i:Int) d (k:Int) (p,()) (u,()) acc nx)→
      zQ fR (rest.length+1) s (.h3b l ((i+1:Nat):Int) (p,()) (nx++if d=Q3 then rest else eZ u rest))
  | [],k,hr,hk,d,nx,hn,s,hs=>by
    have hk':k=acc.length:=by
      have:=congrArg length hr;simp at this;omega
    have hc:Q0 (nx.length+[u].length<=1073741824)=Q3:=by simp;omega
    subst hk';rcases hs with⟨rfl,rfl⟩|rfl
    · refine zQ.of ?_
      rw[if_pos rfl,rF];simp only[fR,Q8,zA,zB,if_false];rw[zp i um]
    · refine zQ.of ?_
      simp only[fR,Q8,zA,zB,if_false,hc,if_true];rw[zp i um];cases d
      · rfl
      · rw[if_pos rfl,rF];rfl
  | o :: r, k,hr,hk,d,nx,hn,s,hs=>by
    have hk':k<acc.length:=by
      have:=congrArg length hr;simp at this;omega
    have ho:acc[k]=o:=by
      have:=eY hk';rw[hr]at this;exact(List.cons.inj this).1.symm
    have hr':acc.drop (k+1)=r:=by
      have:=eY hk';rw[hr]at this;exact(List.cons.inj this).2.symm
    obtain⟨m1,m2⟩:=hm o (ho▸bd hk');have hc1:Q0 (nx.length+[u].length<=1073741824)=Q3:=by simp;omega
    have hc2:Q0 (nx.length+[o].length<=1073741824)=Q3:=by simp;omega
    have hc3:Q0 ((nx++[u]).length+[o].length<=1073741824)=Q3:=by simp;omega
    have hd1:Q0 (k<acc.length)=Q3:=zx hk';have hgd:acc.getD k (zi ze)=o:=by rw[<-ho];exact zM acc (zi ze) hk'
    have h00:Q0 (GT.gt (α:=Int) 0 0)=Q4:=rfl;have ih:=ZI hl hi hu hm r (k+1) hr' hk'
    have go:∀(d':Bool)(nx':List (Sem ze))(s':fA),nx'.length<=2*(k+1)->(s'=fA.h9bb l (i:Int) ((k+1:Nat):Int) (p,()) (u,()) acc nx'/\d'=Q3\/s'=fA.h9bbb l (i:Int) d' ((k+1:Nat):Int) (p,()) (u,()) acc nx')->
        (nx'++if d'=Q3 then r else eZ u r)=(nx++if d=Q3 then o::r else eZ u (o::r))->(fR s).val=Q1 (.inl s')->zQ fR ((o::r).length+1) s (.h3b l ((i+1:Nat):Int) (p,()) (nx++if d=Q3 then o::r else eZ u (o::r))):=λd' nx' s' a b c e=>by
      rw[<-c];exact((zQ.of e).trans (ih d' nx' a s' b)).mono sw
    have ea:∀x:List (Sem ze),(nx++[o])++x=nx++o::x:=λx=>by rw[xq];rfl
    have q1:=sX m1 hu;have q2:=wL m1 hu;have hw:=zp k um;have hins:eZ u (o::r)=if LT.lt (α:=Int) (bj o u) 0 then o::eZ u r else if(o==u)=Q3 then o::r else u::o::r:=rfl
    by_cases h0:bj o u=(0:Int)
    · have e:=m2 h0
      have hins:eZ u (o::r)=o::r:=by rw[hins,if_neg (by rw[h0];omega),if_pos (by rw[e];exact BEq.rfl)]
      rw[h0]at q2;refine go Q3 (nx++[o]) _ sg (.inl ⟨rfl,rfl⟩) (by rw[if_pos rfl,ea,hins];cases d<;>rfl) ?_;rcases hs with⟨rfl,rfl⟩|rfl
      · simp only[fR,Q8,zC hk',zt hk',aG,hd1,hgd,q1,q2,hc2,hw,h00,BEq.rfl,ar,zB,if_true,if_false]
      · simp only[fR,Q8,zC hk',zt hk',aG,hd1,hgd,q1,q2,hc2,hw,h00,BEq.rfl,ar,zB,if_true,if_false]
    · have hz:((bj o u:Int)==0)=false:=by simpa using h0
      by_cases hg:GT.gt (α:=Int) (bj o u) 0
      · have hgt:Q0 (GT.gt (α:=Int) (bj o u) 0)=Q3:=zx hg
        have hins:eZ u (o::r)=u::o::r:=by
          rw[hins,if_neg ow,if_neg];intro e;rw[bC e]at h0;exact h0 (B8 u)
        rcases hs with⟨rfl,rfl⟩|rfl
        · refine go Q3 (nx++[o]) _ sg (.inl ⟨rfl,rfl⟩) (by rw[if_pos rfl,if_pos rfl,ea]) ?_
          simp only[fR,Q8,zC hk',zt hk',aG,hd1,hgd,q1,q2,hc2,hw,hz,hgt,bG,ae,zB,if_true,if_false]
        · cases d with
          | true=>
            refine go Q3 (nx++[o]) _ sg (.inr rfl) (by rw[if_pos rfl,if_pos rfl,ea]) ?_;simp only[fR,Q8,zC hk',zt hk',aG,hd1,hgd,q1,q2,hc2,hw,hz,hgt,bG,ae,zB,if_true,if_false]
          | false=>
            refine go Q3 ((nx++[u])++[o]) _ sg (.inl ⟨rfl,rfl⟩) (by rw[if_pos rfl,if_neg sw,hins];simp) ?_;simp only[fR,Q8,zC hk',zt hk',aG,hd1,hgd,q1,q2,hc1,hc3,hw,hz,hgt,cC,ae,zB,if_true,if_false]
      · have hgt:Q0 (GT.gt (α:=Int) (bj o u) 0)=Q4:=aj hg
        have hlt:LT.lt (α:=Int) (bj o u) 0:=
           Int.lt_iff_le_and_ne.2 ⟨Int.not_lt.1 hg,h0⟩
        have hins:eZ u (o::r)=o::eZ u r:=by rw[hins,if_pos hlt]
        rcases hs with⟨rfl,rfl⟩|rfl
        · refine go Q3 (nx++[o]) _ sg (.inl ⟨rfl,rfl⟩) (by rw[if_pos rfl,if_pos rfl,ea]) ?_
          simp only[fR,Q8,zC hk',zt hk',aG,hd1,hgd,q1,q2,hc2,hw,hz,hgt,ar,zB,if_true,if_false]
        · refine go d (nx++[o]) _ sg (.inr rfl) (by rw[hins,ea];cases d<;>rfl) ?_
          simp only[fR,Q8,zC hk',zt hk',aG,hd1,hgd,q1,q2,hc2,hw,hz,hgt,ar,zB,if_true,if_false]
end
section
variable {db:List (Sem zh)} {p:Sem zr}
theorem aE.vlen(h:aE db p)(hw:∀x∈db,Qs x){row:List (Sem ze)}(hr:row∈(ch db p).2){u:Sem ze}(hu:u∈row):u.2.2.length<=1000000:=by
 rw[Sc]at hr;have hin:p.2.1∈bH p.2.1 p.2.2.1:=by unfold bH;split<;>simp
 exact((hw _ (md (h.fnd _ hin)).1).vals row hr u hu).2.2
theorem OK(l:List (Sem ze))(u:Sem ze):iq (l++[u])=if(u.1==0)=Q3 then iq l else eZ u (iq l):=by
 unfold iq;rw[List.foldl_append];rfl
theorem aE.qAll(h:aE db p)(hw:∀x∈db,Qs x):GS p (zG db p)=Q3/\L3 p (zG db p)=dd p (zG db p):=by
 have hrl:=h.rel.few;have hlen:=h.len0;have hfr:getD (zG db p) (toNat 0) (zi zh)=ch db p:=rfl;have hcl:(lp p (zG db p)).length=(ch db p).2.length:=cV _;have hcm:∀v∈lp p (zG db p),aR v=Q3/\v.2.2.length<=1000000:=λv hv=>by
  refine⟨h.may hv,?_⟩;obtain⟨row,hr,rfl⟩:=bq.1 hv;rw[h.pc.2];exact h.vlen hw hr (h.at_mem hr)
 have:yR p (zG db p)=Q1 (dd p (zG db p),()):=by
  have hs:(zig p (zG db p)).val=Q1 (.inl (Va (zG db p) ((0:Nat):Int) p (iq ((lp p (zG db p)).take 0)))):=rfl;have hg:=zQ.all (t:=fR) 1000 (λi=>Va (zG db p) (i:Int) p (iq ((lp p (zG db p)).take i))) (ch db p).2.length λi hi=>by
   have hm:=bd hi;have hi':i<(lp p (zG db p)).length:=by omega
   have hx:(lp p (zG db p))[i]=zR (aT p (zG db p)) (ch db p).2[i]:=by
    rw[<-h.pc.2];exact List.getElem_map _
   have hu:=hcm _ (bd hi');obtain⟨o1,o2⟩:=h.qOf' hm;have o3:=h.qOf (h.inn _ hm).1;have o4:(sW p (zG db p) (ch db p).2[i]).getD (cg [ze])=(zR (aT p (zG db p)) (ch db p).2[i],()):=by rw[o3];rfl
   rw[bV hi',OK];rw[hx]at hu⊢;have hal:=Ir ((lp p (zG db p)).take i);have hle:(iq ((lp p (zG db p)).take i)).length<=200:=by
    rw[ol]at hal;omega
   have hmm:∀o∈iq ((lp p (zG db p)).take i),o.2.2.length<=1000000/\(bj o (zR (aT p (zG db p)) (ch db p).2[i])=(0:Int)->o=zR (aT p (zG db p)) (ch db p).2[i])/\o.1≠0:=λo ho=>by
    obtain⟨a,b⟩:=((lE λx hx=>(hcm x (List.mem_of_mem_take hx)).1).2 o).1 ho;have:=hcm o (List.mem_of_mem_take a);exact⟨this.2,B9 this.1 hu.1,b⟩
   generalize zR (aT p (zG db p)) (ch db p).2[i]=u at hu o2 o4 hmm⊢;generalize iq ((lp p (zG db p)).take i)=acc at hle hmm⊢;have hwi:=zp i um;cases acc with
   | nil=>
    have f1:zQ fR 1 (Va (zG db p) (i:Int) p []) (.h9 (zG db p) (i:Int) (u.1==0) 0 (p,()) (u,())):=zQ.of (by
     show(fR (.h3 _ _ _)).val=_;simp only[fR,Q8,hfr,hlen,zC hi,zt hi,if_true,zM _ _ hi,zk,Prod.eta,o1,o2,o4])
    have f2:zQ fR 1 (.h9 (zG db p) (i:Int) (u.1==0) 0 (p,()) (u,())) (Va (zG db p) ((i+1:Nat):Int) p (if(u.1==0)=Q3 then[]else eZ u [])):=zQ.of (by
     simp only[fR,Q8,show Q0 ((0:Int)<0)=Q4 from rfl,show Q0 ([u].length<=1073741824)=Q3 from rfl,zB,if_true,if_false,hwi];cases u.1==0<;>rfl)
    exact(f1.trans f2).mono ow
   | cons o r=>
    have f1:zQ fR 1 (Va (zG db p) (i:Int) p (o::r)) (.h9b (zG db p) (i:Int) (u.1==0) 0 (p,()) (u,()) (o::r)):=zQ.of (by
     show(fR (.h3b _ _ _ _)).val=_;simp only[fR,Q8,hfr,hlen,zC hi,zt hi,if_true,zM _ _ hi,zk,Prod.eta,o1,o2,o4])
    obtain⟨m1,m2,m3⟩:=hmm o sw;have q1:=sX m1 hu.2;have q2:=wL m1 hu.2;have hw0:=zp 0 um;have hk0:Q0 ((0:Int)<((o::r).length:Int))=Q3:=by simp
    have hb0:zK 0 (o::r).length=Q3:=zt (i:=0) sw;have hn0:Q0 (toNat 0<(o::r).length)=Q3:=by simp
    have inn:=ZI (l:=zG db p) (p:=p) (u:=u) (acc:=o::r) (i:=i) ow ow hu.2 (λx hx=>⟨(hmm x hx).1,(hmm x hx).2.1⟩) r 1 rfl sw;have hins:eZ u (o::r)=if LT.lt (α:=Int) (bj o u) 0 then o::eZ u r else if(o==u)=Q3 then o::r else u::o::r:=rfl
    have go:∀(d':Bool)(nx':List (Sem ze))(s':fA),nx'.length<=2->(s'=fA.h9bb (zG db p) (i:Int) ((1:Nat):Int) (p,()) (u,()) (o::r) nx'/\d'=Q3\/s'=fA.h9bbb (zG db p) (i:Int) d' ((1:Nat):Int) (p,()) (u,()) (o::r) nx')->
      (nx'++if d'=Q3 then r else eZ u r)=(if(u.1==0)=Q3 then o::r else eZ u (o::r))->(fR (.h9b (zG db p) (i:Int) (u.1==0) 0 (p,()) (u,()) (o::r))).val=Q1 (.inl s')->
      zQ fR 1000 (Va (zG db p) (i:Int) p (o::r)) (Va (zG db p) ((i+1:Nat):Int) p (if(u.1==0)=Q3 then o::r else eZ u (o::r))):=λd' nx' s' a b c e=>by
     have f3:=inn d' nx' a s' b;rw[c]at f3;have:∃x y,(if(u.1==0)=Q3 then o::r else eZ u (o::r))=x::y:=by
      rw[hins];split
      ·exact⟨_,_,rfl⟩
      ·split
       ·exact⟨_,_,rfl⟩
       ·split<;>exact⟨_,_,rfl⟩
     obtain⟨x,y,e3⟩:=this;rw[e3]at f3⊢;exact((f1.trans (zQ.of e)).trans f3).mono (by simp at hle;omega)
    by_cases h0:bj o u=(0:Int)
    ·have e:=m2 h0;have hu0:(u.1==0)=Q4:=by rw[<-e];simpa using m3
     have hins:eZ u (o::r)=o::r:=by rw[hins,if_neg (by rw[h0];omega),if_pos (by rw[e];exact BEq.rfl)]
     rw[h0]at q2;refine go Q3 [o] _ sw (.inl ⟨rfl,rfl⟩) (by rw[if_pos rfl,hu0,if_neg sw,hins];rfl) ?_;simp only[fR,Q8,hk0,hb0,hn0,show(o::r).getD (toNat 0) (zi ze)=o from rfl,q1,q2,show Q0 (GT.gt (α:=Int) 0 0)=Q4 from rfl,show Q0 ([o].length<=1073741824)=Q3 from rfl,BEq.rfl,ar,zB,if_true,if_false];rfl
    ·have hz:((bj o u:Int)==0)=Q4:=by simpa using h0
     by_cases hg:GT.gt (α:=Int) (bj o u) 0
     ·have hgt:Q0 (GT.gt (α:=Int) (bj o u) 0)=Q3:=zx hg;have hins:eZ u (o::r)=u::o::r:=by
       rw[hins,if_neg ow,if_neg];intro e;rw[bC e]at h0;exact h0 (B8 u)
      by_cases hu0:(u.1==0)=Q3
      ·refine go Q3 [o] _ sw (.inr rfl) (by rw[if_pos rfl,if_pos hu0];rfl) ?_;simp only[fR,Q8,hk0,hb0,hn0,show(o::r).getD (toNat 0) (zi ze)=o from rfl,q1,q2,hz,hgt,hu0,show Q0 ([o].length<=1073741824)=Q3 from rfl,bG,ae,zB,if_true,if_false];rfl
      ·have hu0':=Bool.eq_false_iff.2 hu0;refine go Q3 [u,o] _ sw (.inl ⟨rfl,rfl⟩) (by rw[if_pos rfl,if_neg hu0,hins];rfl) ?_;simp only[fR,Q8,hk0,hb0,hn0,show(o::r).getD (toNat 0) (zi ze)=o from rfl,q1,q2,hz,hgt,hu0',show Q0 ([u].length<=1073741824)=Q3 from rfl,show Q0 ([u].length+[o].length<=1073741824)=Q3 from rfl,cC,ae,zB,if_true,if_false];rfl
     ·have hgt:Q0 (GT.gt (α:=Int) (bj o u) 0)=Q4:=aj hg;have hlt:LT.lt (α:=Int) (bj o u) 0:=Int.lt_iff_le_and_ne.2 ⟨Int.not_lt.1 hg,h0⟩;have hins:eZ u (o::r)=o::eZ u r:=by rw[hins,if_pos hlt]
      refine go (u.1==0) [o] _ sw (.inr rfl) (by rw[hins];cases u.1==0<;>rfl) ?_;simp only[fR,Q8,hk0,hb0,hn0,show(o::r).getD (toNat 0) (zi ze)=o from rfl,q1,q2,hz,hgt,show Q0 ([o].length<=1073741824)=Q3 from rfl,ar,zB,if_true,if_false];rfl
  have hg:zQ fR ((ch db p).2.length*1000) (Va (zG db p) ((0:Nat):Int) p (iq ((lp p (zG db p)).take 0))) (Va (zG db p) ((ch db p).2.length:Int) p (iq ((lp p (zG db p)).take (ch db p).2.length))):=hg;have hfin:iq ((lp p (zG db p)).take (ch db p).2.length)=dd p (zG db p):=by rw[<-hcl,jx];rfl
  rw[hfin]at hg;generalize dd p (zG db p)=acc at hg⊢;have hend:∃r,zU fR 1 (Va (zG db p) ((ch db p).2.length:Int) p acc) r/\aL r.2 [ze.sl] r.1=Q1 (acc,()):=by
   cases acc with
   | nil=>
    refine⟨_,zU.of (by
     show(fR (.h3 _ _ _)).val=_;simp only[fR,Q8,hfr,hlen,zA,zB,if_true,if_false];rfl),rfl⟩
   | cons a r=>
    refine⟨_,zU.of (by
     show(fR (.h3b _ _ _ _)).val=_;simp only[fR,Q8,hfr,hlen,zA,zB,if_true,if_false];rfl),rfl⟩
  obtain⟨r,r1,r2⟩:=hend;exact zw hs (hg.ends r1) ow r2
 exact⟨by unfold GS;rw[this];rfl,by unfold L3;rw[this];rfl⟩
end
noncomputable section
abbrev znc:=lx [(17,[3,4,6,18])]
inductive H5u where
 |h17 (l4:List (Sem zh)) (l6:List (Sem ze)) (i18:Int) (z0:zm [CP.d zr])
abbrev e5u:H5u->Nat×St
 |.h17 l4 l6 i18 z0=>(17,⟨tm 185 [(3,ptr 0 0),(4,sl zh l4),(6,sl ze l6),(18,ai i18)],[Qa (bv [] [CP.d zr] z0)]⟩)
def i5u(x0:Sem (zh.sl.pr (zl.pr (ze.sl.pr ze)))):Tr (H5u⊕aw):=
 let a0:=(x0.2.1.1,x0.2.1.2.1,x0.2.1.2.2.1,x0.2.1.2.2.2.1,x0.2.1.t.1,x0.2.1.t.2.1,x0.2.1.t.q.1,x0.2.1.t.q.2.1,zn x0.2.1.t.t.1,x0.2.1.t.t.2.1,x0.2.1.t.t.q.1,zn x0.2.1.t.t.q.2.1,x0.2.1.t.t.t)
 let a1:=BS x0.1 a0
 let a2:=(a1.1.1,a1.1.2.1,a1.1.2.2.1,(a1.1.2.2.2.1.1,a1.1.2.2.2.1.2.1,a1.1.2.2.2.1.2.2.1,a1.1.2.2.2.1.2.2.2.1,a1.1.2.2.2.1.t.1,zn a1.1.2.2.2.1.t.2),a1.1.t)
 let a3:=UP a2 a1.2.1
 let a4:=L3 a2 a1.2.1
 let a5:=gF x0.2.2.2
 let a6:=US a2 a1.2.1 a5
 let a7:=GV a2 a1.2.1 a5
 let a8:=zd7 a2 a1.2.1 a5
 let a9:=GU a2 a1.2.1 a5
 Qc (wz x0.1 a0)
 (br (!a1.2.2) (Qc Q3 (Qc Q3 (re (AV.bool Q3) [])))
  (Qc (MD a2 a1.2.1) (Qc (GS a2 a1.2.1&&yY a3.1 a4) (br (bif !G0 a3.1 a4 then Q3 else a3.2!=0) (re (kb Q4) []) (Qc (ME a2 a1.2.1 a5) (Qc (Ci a2 a1.2.1 a5&&He a6.1 a7) (br (bif !Md a6.1 a7 then Q3 else a6.2!=0) (re (kb Q4) []) (Qc (UQ a2 a1.2.1 a5) (Qc (yS a2 a1.2.1 a5) (br
  (bif !(a8.1.1==a9.1.1&&(a8.1.2.1==a9.1.2.1&&(a8.1.2.2==a9.1.2.2&&Q3)))then Q3 else bif !(a8.2==0)==a9.2 then Q3 else bif !a9.2 then a8.2!=6 else Q4) (re (kb Q4) []) (Q9 (H5u.h17 a1.2.1 (iR x0.2.2.1) 0 (a1.1,())))))))))))))
def t5u:H5u->Tr (H5u⊕aw)
 | .h17 l4 l6 i18 z0=>
  let a0:=l6.getD i18.toNat (zi ze)
  let a1:=(z0.1.1,z0.1.2.1,z0.1.2.2.1,(z0.1.2.2.2.1.1,z0.1.2.2.2.1.2.1,z0.1.2.2.2.1.2.2.1,z0.1.2.2.2.1.2.2.2.1,z0.1.2.2.2.1.t.1,zn z0.1.2.2.2.1.t.2),z0.1.t)
  let a2:=l4.getD (toNat 0) (zi zh)
  let a3:=uOf a1 l4 l6
  let a4:=a3.1.1==0&&(a3.1.2.1==0&&(a3.1.2.2==[]&&Q3))
  let a5:=a3.2==1
  let a6:=rU a1 l4 l6
  let a7:=a3.2==6
  let a8:=a3.1.1==a6.1&&(a3.1.2.1==a6.2.1&&(a3.1.2.2==a6.2.2&&Q3))
  let a9:=a3.2==0
  br (Q0 (i18<(↑l6.length:Int)))
  (Qc (zK i18 l6.length) (Qc (kW a0) (br (!py a0) (Qc Q3 (re (AV.bool xe) [])) (Q9 (H5u.h17 l4 l6 (IntKind.i64.wrap (i18+1)) z0)))))
  (Qc (zd8 a1 l4 l6) (Qc (zK 0 l4.length) (br ((↑l6.length:Int)!=(↑(length a2.1.2.1):Int)) (Qc (bif a4 then bif a5 then vu else Q3 else Q3) (re (AV.bool (bif a4 then bif a5 then xe else Q4 else Q4)) [])) (Qc (kV a1 l4 l6) (br (a6.1==0)
  (Qc (bif a4 then bif a7 then vu else Q3 else Q3) (re (AV.bool (bif a4 then bif a7 then xe else Q4 else Q4)) [])) (Qc (bif a8 then bif a9 then vu else Q3 else Q3) (re (AV.bool (bif a8 then bif a9 then xe else Q4 else Q4)) [])))))))
def Gz(x0:Sem (zh.sl.pr (zl.pr (ze.sl.pr ze)))):=al [Q7] t5u 100000000 (i5u x0)
def F5u:=FT [zh.sl.pr (zl.pr (ze.sl.pr ze))] [Q7] λx=>Gz x.1
theorem zgJ:FK 5 F5u:=K8.T1 (f:=Tryz.f5) (keep:=znc) (e:=e5u)
end
abbrev uW:Sh:=.pr (.sl zh) (.pr zl (.pr (.sl ze) ze))
theorem We{x:Sem uW}(hx:∀r∈x.1,RgR r)(h1:RgS x.2.1)(hv:∀v∈x.2.2.1,RgV v):Gz x=Q1 (Q3,()):=by
 obtain⟨p,src,ok,h,hok⟩:=LZ hx h1;have hc:wz x.1 x.2.1=Q3:=by unfold wz;rw[h];rfl
 have hp:BS x.1 x.2.1=(p,src,ok):=by unfold BS;rw[h];rfl
 cases ok with
 | false=>
  refine zJ (r:=(.bool Q3,[])) ?_ rfl;simp only[i5u,zk,Prod.eta,Q8,hc,hp,cC,if_true]
 | true=>
  obtain⟨db,hP,rfl,hw⟩:=hok rfl;have hrl:=hP.rel.few;have hfew:=hP.few;have hlen:=hP.len0;have hfr:getD (zG db p) (toNat 0) (zi zh)=ch db p:=rfl;have ha:=hP.uall;have a1:MD p (zG db p)=Q3:=by unfold MD;rw[ha];rfl
  have a2:UP p (zG db p)=(dd p (zG db p),0):=by unfold UP;rw[ha];rfl
  obtain⟨b1,b2⟩:=hP.qAll hw;obtain⟨s1,s2⟩:=Fs (dd p (zG db p)) (dd p (zG db p)) ow;rw[tL.2 rfl]at s2;have hr:=hP.rows (gF x.2.2.2);have r1:ME p (zG db p) (gF x.2.2.2)=Q3:=by unfold ME;rw[hr];rfl
  have r2:US p (zG db p) (gF x.2.2.2)=((ch db p).2.filter (ph (aT p (zG db p)) (gF x.2.2.2)),0):=by unfold US;rw[hr];rfl
  obtain⟨c1,c2⟩:=hP.qRows (gF x.2.2.2);obtain⟨d1,d2⟩:=J0 (a:=(ch db p).2.filter (ph (aT p (zG db p)) (gF x.2.2.2))) (cD (List.length_filter_le _ _) ow) λr hr=>cD (hP.len (List.mem_filter.1 hr).1) ow
  have hk:=hP.key (gF x.2.2.2);have k1:UQ p (zG db p) (gF x.2.2.2)=Q3:=by unfold UQ;rw[hk];rfl
  have k2:zd7 p (zG db p) (gF x.2.2.2)=kQ db p (gF x.2.2.2):=by unfold zd7;rw[hk];rfl
  obtain⟨l1,l2,l3⟩:=hP.qKey (gF x.2.2.2);have hb:(bif !((kQ db p (gF x.2.2.2)).1.1==(kQ db p (gF x.2.2.2)).1.1&&((kQ db p (gF x.2.2.2)).1.2.1==(kQ db p (gF x.2.2.2)).1.2.1&&((kQ db p (gF x.2.2.2)).1.2.2==(kQ db p (gF x.2.2.2)).1.2.2&&Q3)))then Q3 else bif !((kQ db p (gF x.2.2.2)).2==0)==((kQ db p (gF x.2.2.2)).2==0)then Q3 else bif !((kQ db p (gF x.2.2.2)).2==0)then(kQ db p (gF x.2.2.2)).2!=6 else Q4)=Q4:=by
   rw[BEq.rfl,BEq.rfl,BEq.rfl];rcases l3 with e|e<;>rw[e]<;>rfl
  have hs:(i5u x).val=Q1 (.inl (.h17 (zG db p) (iR x.2.2.1) ((0:Nat):Int) (p,()))):=by
   simp only[i5u,zk,Prod.eta,Q8,hc,hp,a1,a2,b1,b2,s1,s2,r1,r2,c1,c2,d1,d2,k1,k2,l1,l2,hb,io,lD,bG,ar,zB,if_true,if_false];rfl
  have hvl:∀v∈iR x.2.2.1,v.2.2.length<=1000000:=λv hm=>(BR hv v hm).2.2
  have hll:=E7 x.2.2.1;generalize iR x.2.2.1=row at hs hvl hll;have hf:=ly (t:=t5u) (Φ:=λr=>r=(.bool Q3,[])) 1 (λi=>.h17 (zG db p) row (i:Int) (p,())) (λi=>aR (getD row i (zi ze))=Q3) row.length (λi hi _=>by
   have hg:getD row i (zi ze)=row[i]:=by rw[bc,zS hi];rfl
   rw[hg];have m:=hvl _ (bd hi);have m1:=jH m;have m2:=lR m;by_cases hm:aR row[i]=Q3
   ·refine .inl ⟨hm,zQ.of ?_⟩;rw[hm]at m2;simp only[t5u,Q8,zC hi,zt hi,zM _ _ hi,m1,m2,bG,zB,if_true,if_false];rw[zp i um]
   ·refine .inr ⟨hm,(.bool Q3,[]),zU.of ?_,rfl⟩;rw[Bool.eq_false_iff.2 hm]at m2;simp only[t5u,Q8,zC hi,zt hi,zM _ _ hi,m1,m2,cC,ln.2,if_true])
  rcases hf with⟨hmay,hg⟩|⟨_,r,h2,h3⟩
  ·have hmay:∀v∈row,aR v=Q3:=λv hm=>by
    obtain⟨i,hi,rfl⟩:=fW hm;have:=hmay i hi
    rwa [bc,zS hi]at this
   have ho:=hP.of (row:=row) ow;have o1:zd8 p (zG db p) row=Q3:=by unfold zd8;rw[ho];rfl
   have o2:uOf p (zG db p) row=Xd p (zG db p) (aT p (zG db p)) row:=by unfold uOf;rw[ho];rfl
   have hofv:Xd p (zG db p) (aT p (zG db p)) row=if row.length≠length (ch db p).1.2.1\/¬∀v∈row,aR v=Q3 then((0,0,[]),1)else if(zR (aT p (zG db p)) row).1=0 then((0,0,[]),6)else(zR (aT p (zG db p)) row,0):=rfl
   rw[hofv]at o2;refine zw hs (hg.ends (zU.of (r:=(.bool Q3,[])) ?_)) ow rfl;by_cases hl:row.length=length (ch db p).1.2.1
   ·rw[if_neg (by simp[hl];exact λa b c hm=>hmay _ hm)]at o2;have hin:zK (aT p (zG db p)) row.length=Q3:=by
     simp only[zK,aC,aP];rw[hl];exact hP.col
    have q:=hP.qOf hin;have q1:kV p (zG db p) row=Q3:=by unfold kV;rw[q];rfl
    have q2:rU p (zG db p) row=zR (aT p (zG db p)) row:=by unfold rU;rw[q];rfl
    have hle:((row.length:Int)!=((length (ch db p).1.2.1:Nat):Int))=Q4:=by rw[hl];simp
    by_cases h0:(zR (aT p (zG db p)) row).1=0
    ·rw[if_pos h0]at o2;simp only[t5u,Q8,zA,hlen,hfr,hle,zk,Prod.eta,o1,o2,q1,q2,h0,ln.1,ln.2,BEq.rfl,lD,ae,zB,if_true,if_false]
    ·have h0':((zR (aT p (zG db p)) row).1==0)=Q4:=by simpa using h0
     rw[if_neg h0]at o2;simp only[t5u,Q8,zA,hlen,hfr,hle,zk,Prod.eta,o1,o2,q1,q2,h0',ln.1,ln.2,BEq.rfl,lD,ae,zB,if_true,if_false]
   ·rw[if_pos (.inl hl)]at o2;have hle:((row.length:Int)!=((length (ch db p).1.2.1:Nat):Int))=Q3:=by simp;omega
    simp only[t5u,Q8,zA,hlen,hfr,hle,zk,Prod.eta,o1,o2,ln.1,ln.2,BEq.rfl,lD,ae,zB,if_true,if_false]
  ·rw[h3]at h2;exact zw hs h2 ow rfl
section
variable {w:World} {U:Nat->Prop} {ρ:Nat->Option Value} {a b:List AV}
theorem Lp(h:yj w U ρ (a++b)):yj w U ρ a:=λj c hc=>h j c (by rw[ms (cW.1 hc).1];exact hc)
theorem Gu(h:yj w U ρ (a++b)):yj w U ρ b:=λj c hc=>h (a.length+j) c (by rw[ng ow,Nat.add_sub_cancel_left];exact hc)
end
theorem QT(x:zz ([uW].map Q1)){W:World}{vs:List Value}(hr:dq W U0 iH (jl ([uW].map Q1) x) vs):(F5u (jl ([uW].map Q1) x) (λ_=>.dead) 0).val=Q1 {val:=.bool Q3}:=by
 obtain⟨a,u⟩:=x;have hr:dq W U0 iH [zH uW a] vs:=hr;have hl:=hr.len;have at':∀j c,([zH uW a]:List AV)[j]?=Q1 c->∃v,Rv W U0 iH c v:=λj c hj=>by
  have hlt:j<vs.length:=by rw[<-hl];exact(cW.1 hj).1
  exact⟨vs[j],hr.rv j c _ hj (zS hlt)⟩
 obtain⟨v0,h0⟩:=at' 0 _ rfl;have hh:yj W U0 iH (zq (.sl zh) a.1++(zq zl a.2.1++(zq (.sl ze) a.2.2.1++zq ze a.2.2.2))):=QR h0;obtain⟨_,hd⟩:=Lp hh 0 _ rfl;obtain⟨_,hw⟩:=Lp (Gu (Gu hh)) 0 _ rfl;have e:a=(a.1,(a.2.1.1,a.2.1.2.1,a.2.1.2.2.1,a.2.1.2.2.2.1,a.2.1.t.1,a.2.1.t.2.1,a.2.1.t.q.1,a.2.1.t.q.2.1,zn a.2.1.t.t.1,a.2.1.t.t.2.1,a.2.1.t.t.q.1,zn a.2.1.t.t.q.2.1,a.2.1.t.t.t),a.2.2.1,(a.2.2.2.1,a.t.1,a.t.2)):=by rw[zk,zk]
 have h:(F5u [zH uW a] (λ_=>.dead) 0).val=(Qc (Gz (a.1,(a.2.1.1,a.2.1.2.1,a.2.1.2.2.1,a.2.1.2.2.2.1,a.2.1.t.1,a.2.1.t.2.1,a.2.1.t.q.1,a.2.1.t.q.2.1,zn a.2.1.t.t.1,a.2.1.t.t.2.1,a.2.1.t.t.q.1,zn a.2.1.t.t.q.2.1,a.2.1.t.t.t),a.2.2.1,(a.2.2.2.1,a.t.1,a.t.2))).isSome (Tr.ok ({val:=.bool ((Gz (a.1,(a.2.1.1,a.2.1.2.1,a.2.1.2.2.1,a.2.1.2.2.2.1,a.2.1.t.1,a.2.1.t.2.1,a.2.1.t.q.1,a.2.1.t.q.2.1,zn a.2.1.t.t.1,a.2.1.t.t.2.1,a.2.1.t.t.q.1,zn a.2.1.t.t.q.2.1,a.2.1.t.t.t),a.2.2.1,(a.2.2.2.1,a.t.1,a.t.2))).getD (cg [.bool])).1}:fU))).val:=by kernel_rfl
 show(F5u [zH uW a] (λ_=>.dead) 0).val=_;rw[h,<-e,We (nW hd · · |>zcS) (zcT (Lp (Gu hh))) λv hv=>Lq (nW hw v hv)];rfl
end Cad
