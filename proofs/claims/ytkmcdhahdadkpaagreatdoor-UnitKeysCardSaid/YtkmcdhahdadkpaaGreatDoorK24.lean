/- Units: a key's unit. Units: the law UnitKeys. Units: rows that are the same; the law UnitKeys answers true. -/
import Derived.Test.YtkmcdhahdadkpaaGreatDoorK23
namespace Cad
open Go Go.Proofs
open Tr renaming val→Q8
open Bool renaming false→Q4,true→Q3
open Tr (chk br re)
open AV (nils agg tup ptr kb str sl)
set_option maxHeartbeats 4000000
theorem Xj{l:List (Sem ze)}(v:Sem ze)(hl:l.length<=1000000):NM l v=some (zU (Fe v) l 0,()):=by
 have hs:(zhA l v).val=some (.inl (.h2 l (l.length:Int) ((0:Nat):Int) (v,()))):=rfl
 have hgo:∀k,k<=l.length->(∀x∈l.take k,Fe v x=Q4)->zP Pv (k*1) (.h2 l (l.length:Int) ((0:Nat):Int) (v,())) (.h2 l (l.length:Int) (k:Int) (v,())):=λk hk hn=>
  zP.all (t:=Pv) 1 (λi=>.h2 l (l.length:Int) (i:Int) (v,())) k λi hi=>zP.of (by
   have hi':i<l.length:=by omega
   have hne:Fe v l[i]=Q4:=hn _ (List.mem_take_iff_getElem.2 ⟨i,ow,rfl⟩);unfold Fe at hne;simp only[Pv,Q8,zH hi',zt hi',if_true,zO _ _ hi',hne,zE,if_false];rw[zp i um])
 rcases gU (Fe v) l 0 with⟨h1,h2⟩|⟨k,hk,h1,h2,h3⟩
 ·rw[h1];refine zw hs ((hgo l.length (az _) (λx hx=>h2 x (List.mem_of_mem_take hx))).ends (zT.of (r:=(.int .i64 (-1),[])) ?_)) ow rfl;simp only[Pv,Q8,zA,zE,if_false]
 ·rw[h1];refine zw hs ((hgo k ow h3).ends (zT.of (r:=(.int .i64 (k:Int),[])) ?_)) ow (by rw[ft];rfl);unfold Fe at h2;simp only[Pv,Q8,zH hk,zt hk,if_true,zO _ _ hk,h2]
theorem Xi{l:List (Sem ze)}(v:Sem ze)(hl:l.length<=1000000):J3 l v=Q3/\Hs l v=l.any (Fe v):=by
 have h:=Xj v hl;have c1:Ul l v=Q3:=by unfold Ul;rw[h];rfl
 have c2:zdq l v=zU (Fe v) l 0:=by unfold zdq;rw[h];rfl
 have hb:decide (GE.ge (α:=Int) (zU (Fe v) l 0) 0)=l.any (Fe v):=by rw[ig,vW,List.any_eq_true]
 have:NL l v=some (l.any (Fe v),()):=by
  refine zI (r:=(.bool (l.any (Fe v)),[])) ?_ rfl;simp only[zht,Q8,c1,c2,if_true];rw[hb]
 exact⟨by unfold J3;rw[this];rfl,by unfold Hs;rw[this];rfl⟩
theorem TN{x:Sem zh}(v:Sem ze)(h:eB x.1=Q3):LJ x v=Q3/\TM x v=zU (λr=>bw r x.1.2.2.1 v) x.2 0:=by
 have:GS x v=some (zU (λr=>bw r x.1.2.2.1 v) x.2 0,()):=by
  refine zI (r:=(.int .i64 (zU (λr=>bw r x.1.2.2.1 v) x.2 0),[])) ?_ rfl;simp only[zhs,zk,Prod.eta,Q8,h,bK,zE,if_false]
 exact⟨by unfold LJ;rw[this];rfl,by unfold TM;rw[this];rfl⟩
theorem Ey{row:List (Sem ze)}{c:Int}{v:Sem ze}(h:zN c row.length=Q3):bw row c v=Q3↔ac c row=v:=by
 simp only[zN,aD,aO]at h;unfold bw;rw[zu (show GE.ge (α:=Int) c 0 from h.1),zu (show LT.lt (α:=Int) c (row.length:Int)from h.2),ah,ah];exact qN
theorem ee.find{x:Sem zh}(h:ee x){row:List (Sem ze)}(hr:row∈x.2):
  ∃(k:Nat)(hk:k<x.2.length),zU (λr=>bw r x.1.2.2.1 (ac x.1.2.2.1 row)) x.2 0=(k:Int)/\x.2[k]=row:=by
 rcases gU (λr=>bw r x.1.2.2.1 (ac x.1.2.2.1 row)) x.2 0 with⟨_,h2⟩|⟨k,hk,h1,h2,_⟩
 ·have:=h2 row hr;rw[(Ey (h.keys row hr)).2 rfl]at this;cases this
 ·refine⟨k,hk,by rw[h1,ft],?_⟩;have e:=(Ey (h.keys _ (bu hk))).1 h2;obtain⟨j,hj,rfl⟩:=gn hr;by_cases hkj:k=j
  ·subst hkj;rfl
  ·have hp:=List.pairwise_iff_getElem.1 (List.pairwise_map.1 (MM h.pw));rcases Nat.lt_or_gt_of_ne hkj with hlt|hlt
   ·exact absurd e (hp k j hk hj hlt)
   ·exact absurd e.symm (hp j k hj hk hlt)
section
variable {db:List (Sem zh)} {p:Sem zz}
theorem bl.has(h:bl db p){row:List (Sem ze)}(hr:row∈(dJ db p).2)(h0:(ac (cL p (aC db p)) row).1≠0):ac (cL p (aC db p)) row∈fm p (aC db p):=by
 refine(h.is _).2 λhn=>?_
 have:=List.filter_eq_nil_iff.1 hn row hr;exact this (lw.2 ⟨rfl,h0⟩)
theorem bl.hasC(h:bl db p)(v:Sem ze):J3 (fm p (aC db p)) v=Q3/\(Hs (fm p (aC db p)) v=Q3↔v∈fm p (aC db p)):=by
 have h1:=h.few;have h2:=h.rel.few;obtain⟨a,b⟩:=Xi (l:=fm p (aC db p)) v ow;refine⟨a,?_⟩;rw[b,List.any_eq_true];constructor
 ·rintro⟨x,hx,e⟩;rw[qN.1 e];exact hx
 ·intro hv;exact⟨v,hv,qN.2 rfl⟩
noncomputable def KZ(db:List (Sem zh))(p:Sem zz)(v:Sem ze):Sem ze×Int:=
 if p.1=[106,111,105,110]then
  let at':=zU (λr=>bw r (dJ db p).1.2.2.1 v) (dJ db p).2 0
  if LT.lt (α:=Int) at' 0 then((0,0,[]),6)else
   let u:=ac p.t.2 (List.getD (dJ db p).2 at'.toNat (zi ze.sl))
   if Hs (fm p (aC db p)) u=Q3 then(u,0)else((0,0,[]),6)
 else if Hs (fm p (aC db p)) v=Q3 then(v,0)else((0,0,[]),6)
theorem bl.key(h:bl db p)(v:Sem ze):NK p (aC db p) v=some ((KZ db p v).1,(KZ db p v).2,()):=by
 obtain⟨c1,c2⟩:=Gc h.go;have hlen:zN 0 (aC db p).length=Q3:=zt (i:=0) (nJ h.go.two).1;have hfr:List.getD (aC db p) (Int.toNat 0) (zi zh)=dJ db p:=rfl;obtain⟨f1,f2⟩:=TN (x:=dJ db p) v h.rel.may;by_cases hj:p.1=[106,111,105,110]
 ·have hb:(p.1==[106,111,105,110])=Q3:=by simpa using hj
  have hon:cL p (aC db p)=p.t.2:=by
   unfold cL;rw[if_neg (by rw[hj];decide),if_pos hj]
  unfold KZ;rw[if_pos hj];by_cases hn:LT.lt (α:=Int) (zU (λr=>bw r (dJ db p).1.2.2.1 v) (dJ db p).2 0) 0
  ·simp only[if_pos hn];refine zI (r:=(tup [agg [ai 0,ai 0,str []],ai 6],[])) ?_ rfl;simp only[OK,zk,Prod.eta,Q8,c1,c2,hb,hlen,hfr,f1,f2,iH,zE,if_true,if_false];rw[if_pos (zu hn)]
  ·simp only[if_neg hn];rcases fH (λr=>bw r (dJ db p).1.2.2.1 v) (dJ db p).2 0 with e|⟨e1,e2⟩
   ·rw[e]at hn;omega
   ·obtain⟨k,hk⟩:∃k:Nat,zU (λr=>bw r (dJ db p).1.2.2.1 v) (dJ db p).2 0=(k:Int):=⟨_,(Int.toNat_of_nonneg e1).symm⟩;rw[hk]at hn e2 f2⊢;have hk':k<(dJ db p).2.length:=by omega
    have hin:=(h.inn _ (bu hk')).1;rw[hon]at hin;obtain⟨g1,g2⟩:=h.hasC (ac p.t.2 (dJ db p).2[k]);have e3:decide ((k:Int)<0)=Q4:=by simp
    rw[zO _ _ hk'];by_cases hv:Hs (fm p (aC db p)) (ac p.t.2 (dJ db p).2[k])=Q3
    ·rw[if_pos hv];refine zI (r:=(tup [agg [ai (ac p.t.2 (dJ db p).2[k]).1,ai (ac p.t.2 (dJ db p).2[k]).2.1,str (ac p.t.2 (dJ db p).2[k]).2.2],ai 0],[])) ?_ rfl;simp only[OK,zk,Prod.eta,Q8,c1,c2,hb,hlen,hfr,f1,f2,e3,zt hk',zO _ _ hk',hin,h.all,g1,hv,iH,bK,zE,if_true,if_false]
    ·rw[if_neg hv];have hv':=Bool.eq_false_iff.2 hv;refine zI (r:=(tup [agg [ai 0,ai 0,str []],ai 6],[])) ?_ rfl;simp only[OK,zk,Prod.eta,Q8,c1,c2,hb,hlen,hfr,f1,f2,e3,zt hk',zO _ _ hk',hin,h.all,g1,hv',iH,cQ,zE,if_true,if_false]
 ·have hb:(p.1==[106,111,105,110])=Q4:=by simpa using hj
  unfold KZ;rw[if_neg hj];obtain⟨g1,g2⟩:=h.hasC v;by_cases hv:Hs (fm p (aC db p)) v=Q3
  ·rw[if_pos hv];refine zI (r:=(tup [agg [ai v.1,ai v.2.1,str v.2.2],ai 0],[])) ?_ rfl;simp only[OK,zk,Prod.eta,Q8,c1,c2,hb,h.all,g1,hv,iH,bK,zE,if_true,if_false]
  ·rw[if_neg hv];have hv':=Bool.eq_false_iff.2 hv;refine zI (r:=(tup [agg [ai 0,ai 0,str []],ai 6],[])) ?_ rfl;simp only[OK,zk,Prod.eta,Q8,c1,c2,hb,h.all,g1,hv',iH,cQ,zE,if_true,if_false]
theorem bl.mine(h:bl db p)(hg:p.1≠[103,114,111,117,112]){row:List (Sem ze)}(hr:row∈(dJ db p).2)(h0:(ac (cL p (aC db p)) row).1≠0):
  KZ db p (ac (dJ db p).1.2.2.1 row)=(ac (cL p (aC db p)) row,0):=by
 have hu:=h.has hr h0;unfold KZ;by_cases hj:p.1=[106,111,105,110]
 ·have hon:cL p (aC db p)=p.t.2:=by
   unfold cL;rw[if_neg (by rw[hj];decide),if_pos hj]
  rw[if_pos hj];obtain⟨k,hk,e1,e2⟩:=h.rel.find hr;simp only[e1];rw[if_neg ow,zO _ _ hk,e2,<-hon,if_pos ((h.hasC _).2.2 hu)]
 ·rw[if_neg hj];have hc:p.1=[99,111,112,121]:=by
   rcases h.mig with e|e|e
   ·exact e
   ·exact absurd e hj
   ·exact absurd e hg
  have hon:cL p (aC db p)=(dJ db p).1.2.2.1:=by
   unfold cL;rw[if_pos hc];rfl
  rw[hon]at hu⊢;rw[if_pos ((h.hasC _).2.2 hu)]
end
noncomputable section
abbrev zma:=lV [(5,[5,6,8]),(15,[5,6,8,9,10,12,14,15])]
inductive PL where
 |h5 (l6:List (Sem zh)) (i8:Int) (z0:zn [CP.d zz])
 |h15 (l6:List (Sem zh)) (i8:Int) (l9:List (Sem ze)) (l12:List (Sem ze.sl)) (i15:Int) (z0:zn [CP.d zz]) (z1:zn [CP.d ze])
 |h15b (l6:List (Sem zh)) (i8:Int) (l9:List (Sem ze)) (l12:List (Sem ze.sl)) (b14:Sem Sh.bool) (i15:Int) (z0:zn [CP.d zz]) (z1:zn [CP.d ze])
abbrev e6u:PL->Nat×St
 |.h5 l6 i8 z0=>(5,⟨tm 108 [(5,ptr 0 0),(6,sl zh l6),(8,ai i8)],[AO.box (bC [] [CP.d zz] z0)]⟩)
 |.h15 l6 i8 l9 l12 i15 z0 z1=>(15,⟨tm 108 [(5,ptr 0 0),(6,sl zh l6),(8,ai i8),(9,sl ze l9),(10,ptr 1 0),(12,sl ze.sl l12),(14,kb Q4),(15,ai i15)],[AO.box (bC [] [CP.d zz] z0),AO.box (bC [] [CP.d ze] z1)]⟩)
 |.h15b l6 i8 l9 l12 b14 i15 z0 z1=>(15,⟨tm 108 [(5,ptr 0 0),(6,sl zh l6),(8,ai i8),(9,sl ze l9),(10,ptr 1 0),(12,sl ze.sl l12),(14,AV.bool b14),(15,ai i15)],[AO.box (bC [] [CP.d zz] z0),AO.box (bC [] [CP.d ze] z1)]⟩)
def i6u(x0:Sem zh.sl)(x1:Sem zl):Tr (PL⊕ar):=
 let a0:=(x1.1,x1.2.1,x1.2.2.1,x1.2.2.2.1,x1.t.1,x1.t.2.1,x1.t.q.1,x1.t.q.2.1,zm x1.t.t.1,x1.t.t.2.1,x1.t.t.q.1,zm x1.t.t.q.2.1,x1.t.t.t)
 let a1:=Bo x0 a0
 chk (vZ x0 a0) (br (!a1.2.2) (chk Q3 (re (AV.bool Hr) [])) (Tr.to (PL.h5 a1.2.1 0 (a1.1,()))))
def Hx:PL->Tr (PL⊕ar)
 | .h5 l6 i8 z0=>
  let a0:=zN 0 l6.length
  let a1:=l6.getD (Int.toNat 0) (zi zh)
  let a2:=(↑(List.length a1.2):Int)
  let a3:=(z0.1.1,z0.1.2.1,z0.1.2.2.1,(z0.1.2.2.2.1.1,z0.1.2.2.2.1.2.1,z0.1.2.2.2.1.2.2.1,z0.1.2.2.2.1.2.2.2.1,z0.1.2.2.2.1.t.1,zm z0.1.2.2.2.1.t.2),z0.1.t)
  let a4:=List.getD a1.2 i8.toNat (zi ze.sl)
  let a5:=uOf a3 l6 a4
  let a6:=Uj a3 l6 a5.1
  chk a0
  (br (decide (i8<a2)) (chk a0 (chk (zN i8 (List.length a1.2)) (chk (zdo a3 l6 a4) (br (a5.2==6) (Tr.to (PL.h5 l6 (IntKind.i64.wrap (i8+1)) z0)) (chk (L6 a3 l6 a5.1) (br (bif a5.2!=0 then Q3 else a6.2!=0) (re (kb Q4) []) (Tr.to (PL.h15 l6 i8 a4 a6.1 0 z0 (a5.1,()))))))))) (chk Q3 (re (AV.bool Hr) [])))
 | .h15 l6 i8 l9 l12 i15 z0 z1=>
  let a0:=l12.getD i15.toNat (zi ze.sl)
  br (decide (i15<(↑l12.length:Int)))
  (chk (zN i15 l12.length) (chk (yv a0 l9) (Tr.to (PL.h15b l6 i8 l9 l12 (Gq a0 l9) (IntKind.i64.wrap (i15+1)) z0 z1))))
  (re (kb Q4) [])
 | .h15b l6 i8 l9 l12 b14 i15 z0 z1=>
  let a0:=l12.getD i15.toNat (zi ze.sl)
  let a1:=l6.getD (Int.toNat 0) (zi zh)
  let a2:=(z0.1.1,z0.1.2.1,z0.1.2.2.1,(z0.1.2.2.2.1.1,z0.1.2.2.2.1.2.1,z0.1.2.2.2.1.2.2.1,z0.1.2.2.2.1.2.2.2.1,z0.1.2.2.2.1.t.1,zm z0.1.2.2.2.1.t.2),z0.1.t)
  let a3:=l9.getD (Int.toNat a1.1.2.2.1) (zi ze)
  let a4:=zdn a2 l6 a3
  br (decide (i15<(↑l12.length:Int)))
  (chk (bif b14 then Q3 else zN i15 l12.length&&yv a0 l9) (Tr.to (PL.h15b l6 i8 l9 l12 (bif b14 then Q3 else Gq a0 l9) (IntKind.i64.wrap (i15+1)) z0 z1)))
  (br (!b14) (re (kb Q4) []) (br (z0.1.1==[103,114,111,117,112]) (Tr.to (PL.h5 l6 (IntKind.i64.wrap (i8+1)) z0)) (chk (zN 0 l6.length) (chk (zN a1.1.2.2.1 l9.length) (chk (Uh a2 l6 a3) (br (bif !(a4.1.1==z1.1.1&&(a4.1.2.1==z1.1.2.1&&(a4.1.2.2==z1.1.2.2&&Q3)))then Q3 else a4.2!=0)
  (re (kb Q4) []) (Tr.to (PL.h5 l6 (IntKind.i64.wrap (i8+1)) z0))))))))
def FZ(x0:Sem zh.sl)(x1:Sem zl):=ao [Sh.bool] Hx 100000000 (i6u x0 x1)
def F6u:=FT [zh.sl,zl] [Sh.bool] λx=>FZ x.1 x.2.1
theorem zf0:FK 6 F6u:=KC.T1 (f:=Tryz.f6) (keep:=zma) (e:=e6u)
end
noncomputable def KG(a b:List (Sem ze)):Bool:=@decide (a=b) (Classical.propDecidable _)
theorem yf{a b:List (Sem ze)}:KG a b=Q3↔a=b:=by unfold KG;exact@HS _ (Classical.propDecidable _)
theorem Pf(a b:List (Sem ze))(ha:a.length<=1000000):yv a b=Q3/\Gq a b=KG a b:=by
 have:yw a b=some (KG a b,()):=by
  by_cases hl:a.length=b.length
  ·have hs:(Wb a b).val=some (.inl (.h4 a b ((0:Nat):Int))):=by
    simp only[Wb,Q8,hl,iH,zE,if_false];rfl
   have hgo:∀k,k<=a.length->(∀i(h:i<k),a[i]?=b[i]?)->zP Pt (k*1) (.h4 a b ((0:Nat):Int)) (.h4 a b (k:Int)):=λk hk hn=>
    zP.all (t:=Pt) 1 (λi=>.h4 a b (i:Int)) k λi hi=>zP.of (by
     have ha':i<a.length:=by omega
     have hb':i<b.length:=by omega
     have e:=hn i hi;rw[zS ha',zS hb']at e;have hne:Fe a[i] b[i]=Q3:=qN.2 (Option.some.inj e);unfold Fe at hne;simp only[Pt,Q8,zH ha',zt ha',zt hb',if_true,zO _ _ ha',zO _ _ hb',hne,bK,zE,if_false];rw[zp i um])
   by_cases he:a=b
   ·rw[yf.2 he];refine zw hs ((hgo a.length (az _) (λi _=>by rw[he])).ends (zT.of (r:=(.kb Q3,[])) ?_)) ow rfl;simp only[Pt,Q8,zA,zE,if_false]
   ·have hb:KG a b=Q4:=Bool.eq_false_iff.2 λh=>he (yf.1 h)
    rw[hb];have hex:∃i,a[i]?≠b[i]?:=mO λhno=>he (Ao λi=>mO λh=>hno ⟨i,h⟩)
    obtain⟨k,hk,hm⟩:∃k,a[k]?≠b[k]?/\∀i,i<k->a[i]?=b[i]?:=by
     obtain⟨n,hn⟩:=hex
     induction n using Nat.strongRecOn with
     | ind n ih=>
      by_cases h:∃m,m<n/\a[m]?≠b[m]?
      ·obtain⟨m,h1,h2⟩:=h;exact ih m h1 h2
      ·exact⟨n,hn,λi hi=>mO λh2=>h ⟨i,hi,h2⟩⟩
    have hka:k<a.length:=by
     refine mO λh=>hk ?_
     rw[eC ow,eC ow]
    have hkb:k<b.length:=by omega
    have hne:Fe a[k] b[k]=Q4:=Bool.eq_false_iff.2 λh=>hk (by rw[zS hka,zS hkb,qN.1 h])
    unfold Fe at hne;refine zw hs ((hgo k ow hm).ends (zT.of (r:=(.kb Q4,[])) ?_)) ow rfl;simp only[Pt,Q8,zH hka,zt hka,zt hkb,if_true,zO _ _ hka,zO _ _ hkb,hne,cQ]
  ·have hb:KG a b=Q4:=Bool.eq_false_iff.2 λh=>hl (by rw[yf.1 h])
   have hd:((a.length:Int)!=(b.length:Int))=Q3:=by simp;omega
   rw[hb];refine zI (r:=(.kb Q4,[])) ?_ rfl;simp only[Wb,Q8,hd,if_true]
 exact⟨by unfold yv;rw[this];rfl,by unfold Gq;rw[this];rfl⟩
def sK(l6:List (Sem zh))(i8:Int)(row:List (Sem ze))(R:List (List (Sem ze)))(p:Sem zz)(u:Sem ze)(b:Bool):Nat->PL
 |0=>.h15 l6 i8 row R ((0:Nat):Int) (p,()) (u,())
 |i+1=>.h15b l6 i8 row R b ((i+1:Nat):Int) (p,()) (u,())
theorem Wr{x0:List (Sem zh)}{x1:Sem zl}(hx:∀x∈x0,RgR x)(h1:RgS x1):FZ x0 x1=some (Q3,()):=by
 obtain⟨p,src,ok,h,hok⟩:=Lk hx h1;have hc:vZ x0 x1=Q3:=by unfold vZ;rw[h];rfl
 have hp:Bo x0 x1=(p,src,ok):=by unfold Bo;rw[h];rfl
 cases ok with
 | false=>
  refine zI (r:=(.bool Q3,[])) ?_ rfl;simp only[i6u,zk,Prod.eta,Q8,hc,hp,J1.2,cQ,if_true]
 | true=>
  obtain⟨db,hP,rfl,hw⟩:=hok rfl;have hrl:=hP.rel.few;have hlen:zN 0 (aC db p).length=Q3:=zt (i:=0) (nJ hP.go.two).1;have hfr:List.getD (aC db p) (Int.toNat 0) (zi zh)=dJ db p:=rfl;have hrow:∀v,L6 p (aC db p) v=Q3/\Uj p (aC db p) v=((dJ db p).2.filter (uW (cL p (aC db p)) v),0):=λv=>by
   have hr:=hP.rows v;exact⟨by unfold L6;rw[hr];rfl,by unfold Uj;rw[hr];rfl⟩
  have hof:∀row∈(dJ db p).2,zdo p (aC db p) row=Q3/\uOf p (aC db p) row=Zk p (aC db p) (cL p (aC db p)) row:=λrow hr=>by
   have ho:=hP.of (row:=row) (cG (hP.len hr) ow);exact⟨by unfold zdo;rw[ho];rfl,by unfold uOf;rw[ho];rfl⟩
  have hkey:∀v,Uh p (aC db p) v=Q3/\zdn p (aC db p) v=KZ db p v:=λv=>by
   have hr:=hP.key v;exact⟨by unfold Uh;rw[hr];rfl,by unfold zdn;rw[hr];rfl⟩
  have hs:(i6u x0 x1).val=some (.inl (.h5 (aC db p) ((0:Nat):Int) (p,()))):=by
   simp only[i6u,zk,Prod.eta,Q8,hc,hp,bK,zE,if_true,if_false];rfl
  have g:=zP.all (t:=Hx) 300 (λi=>.h5 (aC db p) (i:Int) (p,())) (dJ db p).2.length λi hi=>by
   have hm:=bu hi;obtain⟨o1,o2⟩:=hof (dJ db p).2[i] hm;rw[hP.row hm]at o2;by_cases h0:(ac (cL p (aC db p)) (dJ db p).2[i]).1=0
   ·rw[if_pos h0]at o2;refine(zP.of ?_:zP Hx 1 _ _).mono ow;simp only[Hx,Q8,hlen,hfr,zH hi,zt hi,if_true,zO _ _ hi,zk,Prod.eta,o1,o2,BEq.rfl];rw[zp i um]
   ·rw[if_neg h0]at o2;obtain⟨w1,w2⟩:=hrow (ac (cL p (aC db p)) (dJ db p).2[i]);have hme:(dJ db p).2[i]∈(dJ db p).2.filter (uW (cL p (aC db p)) (ac (cL p (aC db p)) (dJ db p).2[i])):=List.mem_filter.2 ⟨hm,lw.2 ⟨rfl,h0⟩⟩;have hRl:((dJ db p).2.filter (uW (cL p (aC db p)) (ac (cL p (aC db p)) (dJ db p).2[i]))).length<=(dJ db p).2.length:=List.length_filter_le _ _;have hRm:∀r∈(dJ db p).2.filter (uW (cL p (aC db p)) (ac (cL p (aC db p)) (dJ db p).2[i])),r.length<=8:=λr hr=>hP.len (List.mem_filter.1 hr).1
    generalize(dJ db p).2.filter (uW (cL p (aC db p)) (ac (cL p (aC db p)) (dJ db p).2[i]))=R at w2 hme hRl hRm;have f1:zP Hx 1 (.h5 (aC db p) (i:Int) (p,())) (sK (aC db p) (i:Int) (dJ db p).2[i] R p (ac (cL p (aC db p)) (dJ db p).2[i]) ((R.take 0).any (KG · (dJ db p).2[i])) 0):=zP.of (by
     simp only[Hx,Q8,hlen,hfr,zH hi,zt hi,if_true,zO _ _ hi,zk,Prod.eta,o1,o2,w1,w2,iH,ay,zE,if_false];rfl)
    have f2:=zP.all (t:=Hx) 1 (λk=>sK (aC db p) (i:Int) (dJ db p).2[i] R p (ac (cL p (aC db p)) (dJ db p).2[i]) ((R.take k).any (KG · (dJ db p).2[i])) k) R.length λk hk=>zP.of (by
     have hx:(R.take (k+1)).any (KG · (dJ db p).2[i])=((R.take k).any (KG · (dJ db p).2[i])||KG R[k] (dJ db p).2[i]):=by
      rw[cj hk,List.any_append];simp
     obtain⟨q1,q2⟩:=Pf R[k] (dJ db p).2[i] (cG (hRm _ (bu hk)) ow);rw[hx];cases k with
     | zero=>
      show(Hx (.h15 _ _ _ _ _ _ _)).val=_;simp only[Hx,Q8,zH hk,zt hk,if_true,zO _ _ hk,q1,q2];rw[zp 0 um];rfl
     | succ k=>
      show(Hx (.h15b _ _ _ _ _ _ _ _)).val=_;simp only[Hx,Q8,zH hk,zt hk,if_true,zO _ _ hk,q1,q2];rw[zp (k+1) um];cases(R.take (k+1)).any (KG · (dJ db p).2[i])<;>rfl)
    have f2:zP Hx (R.length*1) (sK (aC db p) (i:Int) (dJ db p).2[i] R p (ac (cL p (aC db p)) (dJ db p).2[i]) ((R.take 0).any (KG · (dJ db p).2[i])) 0) (sK (aC db p) (i:Int) (dJ db p).2[i] R p (ac (cL p (aC db p)) (dJ db p).2[i]) ((R.take R.length).any (KG · (dJ db p).2[i])) R.length):=f2;rw[jN,show R.any (KG · (dJ db p).2[i])=Q3 from List.any_eq_true.2 ⟨_,hme,yf.2 rfl⟩]at f2;have f3:zP Hx 1 (sK (aC db p) (i:Int) (dJ db p).2[i] R p (ac (cL p (aC db p)) (dJ db p).2[i]) Q3 R.length) (.h5 (aC db p) ((i+1:Nat):Int) (p,())):=zP.of (by
     obtain⟨n,hn⟩:∃n,R.length=n+1:=⟨R.length-1,by have:=List.length_pos_iff.2 (List.ne_nil_of_mem hme);omega⟩;rw[hn];show(Hx (.h15b _ _ _ _ _ _ _ _)).val=_;have hin:zN (dJ db p).1.2.2.1 (dJ db p).2[i].length=Q3:=hP.rel.keys _ hm;obtain⟨k1,k2⟩:=hkey (ac (dJ db p).1.2.2.1 (dJ db p).2[i]);by_cases hg:p.1=[103,114,111,117,112]
     ·have hg':(p.1==[103,114,111,117,112])=Q3:=by simpa using hg
      simp only[Hx,Q8,hn,zA,hg',bK,zE,if_true,if_false];rw[zp i um]
     ·have hg':(p.1==[103,114,111,117,112])=Q4:=by simpa using hg
      rw[hP.mine hg hm h0]at k2;simp only[Hx,Q8,hn,zA,hg',hlen,hfr,hin,zk,Prod.eta,k1,k2,BEq.rfl,oC,iH,ay,bK,zE,if_true,if_false];rw[zp i um])
    exact((f1.trans f2).trans f3).mono ow
  have hend:(Hx (.h5 (aC db p) ((dJ db p).2.length:Int) (p,()))).val=some (.inr (.bool Q3,[])):=by
   simp only[Hx,Q8,hlen,hfr,zA,J1.2,zE,if_true,if_false]
  exact zw hs (g.ends (zT.of hend)) ow rfl
theorem OO(x:zy ([.sl zh,zl].map some)){W:World}{vs:List Value}(hr:dn W U0 iE (je ([.sl zh,zl].map some) x) vs):(F6u (je ([.sl zh,zl].map some) x) (λ_=>.dead) 0).val=some {val:=.bool Q3}:=by
 obtain⟨db,s,u⟩:=x;have hr:dn W U0 iE [.sl zh db,zF zl s] vs:=hr;have hl:=hr.len;have at':∀j c,([.sl zh db,zF zl s]:List AV)[j]?=some c->∃v,Rv W U0 iE c v:=λj c hj=>by
  have hlt:j<vs.length:=by rw[<-hl];exact(cZ.1 hj).1
  exact⟨vs[j],hr.rv j c _ hj (zS hlt)⟩
 obtain⟨v0,h0⟩:=at' 0 _ rfl;obtain⟨v1,h1⟩:=at' 1 _ rfl;have e:s=(s.1,s.2.1,s.2.2.1,s.2.2.2.1,s.t.1,s.t.2.1,s.t.q.1,s.t.q.2.1,zm s.t.t.1,s.t.t.2.1,s.t.t.q.1,zm s.t.t.q.2.1,s.t.t.t):=by rw[zk,zk]
 have h:(F6u [.sl zh db,zF zl s] (λ_=>.dead) 0).val=(chk (FZ db (s.1,s.2.1,s.2.2.1,s.2.2.2.1,s.t.1,s.t.2.1,s.t.q.1,s.t.q.2.1,zm s.t.t.1,s.t.t.2.1,s.t.t.q.1,zm s.t.t.q.2.1,s.t.t.t)).isSome (Tr.ok ({val:=.bool ((FZ db (s.1,s.2.1,s.2.2.1,s.2.2.2.1,s.t.1,s.t.2.1,s.t.q.1,s.t.q.2.1,zm s.t.t.1,s.t.t.2.1,s.t.t.q.1,zm s.t.t.q.2.1,s.t.t.t)).getD (cw [.bool])).1}:fP))).val:=by kernel_rfl
 show(F6u [.sl zh db,zF zl s] (λ_=>.dead) 0).val=_;rw[h,<-e,Wr (qK h0 · · |>zca) (zcb (Qk h1))];rfl
end Cad
