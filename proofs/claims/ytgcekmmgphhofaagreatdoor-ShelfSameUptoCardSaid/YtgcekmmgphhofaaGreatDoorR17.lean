/- Statements. -/
import Derived.Test.YtgcekmmgphhofaaGreatDoorR16
namespace Cad
open Go Go.Proofs Tryz
open List renaming length->Io,drop->Qh,take->Qg,length->M
open IntKind renaming wrap->Γ,i64->Δ
open Tr renaming chk->Qd,«to»->Qa
open Sh renaming bool->Q8,str->Q7,expr->Q6
open Bool renaming true->Z,false->J
open Option renaming none->Q2
open Decidable renaming decide->L
open Int renaming toNat->T
open List (getD)
open List renaming getD->W
open Tr (chk br re)
open AV (nils agg tup ptr kb)
open AV renaming str->X,sl->O
open Cad renaming ai->I,Sem->N,Tr->K,ze->Q,ow->S
noncomputable section
set_option maxHeartbeats 4000000
abbrev ug(l:LS)(i:Int):St:={tmps:=[.sl Q7 l,.clo (.func 384) [] [.ptr 0 0],.any,.any,.any,.any,.any,I (M l),I i,.any,.any,.any,.any,.any,.any,.any,.any,.any,.any],heap:=[.box [.clo (.func 335) [] []]]}
theorem Sd(l:LS):run pd 1 yi f405.results.toList 300 (aK f405) (aC f405.ntmps [.sl Q7 l,.clo (.func 384) [] [.ptr 0 0]] [.box [.clo (.func 335) [] []]])=.ok (.head 2 (zZ f405 2) (ug l 0)):=kw
theorem SF(l:LS)(i:Int):run pd 1 yi f405.results.toList 300 (zZ f405 2) (ug l i)=nI (K:=zZ f405 2) (e:=Q7) l (λx=>!du x) (ug l) [.box [.clo (.func 335) [] []]] i:=kw
theorem WZ:zJ pd.P 405 f405 2:=bG kw
def zmk:ee [some (.sl Q7),Q2]:=λx h=>match x,h with
 |(l,.clo (.func 384) [] [.ptr 0 0],_),[.box [.clo (.func 335) [] []]]=>.ok (I (aj (λx=>!du x) l 0),[.box [.clo (.func 335) [] []]])
 |_,_=>.err
def zjz:zV:=au [some (.sl Q7),Q2] zmk
theorem zey:FK 405 zjz:=by
 refine cP WZ λx d c h C a=>?_
 unfold zmk at h;split at h
 .rename_i l u;simp only[Tr.val_ok,ax]at h;subst h;refine Reach.len 0 Q7 l rfl λb=>?_
  refine zB (n0:=1) kk WZ a (Sd l) ?_;exact kr l (λx=>!du x) (ug l) kk WZ a (SF l) b _ 0 rfl (zU _)
 .simp at h
abbrev znU:Nat->aR:=λ_=>{ }
theorem zdS:zJ (pd).P 85 f85 1:=bG kw
theorem znd(x:N Q6):rn pd 0 znU f85 [zI Q6 x] []=br (!gY (zP x)) (Tr.ok (zM.ret (tup [X [],I 1]) [])) (Qd (gF 16 (zP x)) (Tr.ok (zM.ret (tup [X (aq 16 (zP x)),I 0]) []))):=kw
def iU(x:N Q6):N Q7×zy:=(ite ((!gY x)=Z) ([],1) (aq 16 x,0))
def jU(x:N Q6):Bool:=(ite ((!gY x)=Z) Z (ite (gF 16 x=Z) Z J))
def zjv:zV:=ae [Q6] [Q7,zi] (λx=>jU x.1) λx=>((iU x.1).1,(iU x.1).2,())
theorem zeu:FK 85 zjv:=by
 refine aH (zdS) λx h C b=>?_
 unfold jU at h;refine zB kk (zdS) (λid _=>b id) (znd x.1) ?_;generalize a:iU x.1=y;unfold iU at a
 try simp only[zg.eta]
 exact LG a h
abbrev zoR:Nat->aR:=λj=>if j=3 then{slots:=[0,4,5],prom:=[(4,Q2,jP)]}else{ }
abbrev K7(s:TS)(i:Int)(l:LF):St:={tmps:=(tm 47 [(0,X s),(4,AV.vec 0),(5,I i)]),heap:=[AO.vec zW l]}
theorem zif:zJ (pd).P 141 f141 1:=bG kw
theorem zs1(x:TS):rn pd 0 zoR f141 [zI Q7 x] []=Tr.ok (zM.head 3 (zZ f141 3) (K7 x 0 [])):=kw
theorem zim(s:TS)(i:Int)(l:LF):rh pd 0 zoR f141 3 (K7 s i l)=let h:=(M s:Int);let a:=Qg (h.toNat-i.toNat) (Qh i.toNat s);let x:=(↑(W s i.toNat 0).toNat:Int);br (L (i<h)) (Qd (zT i (M s)&&bif x==32 then Z else zT i (M s)) (br (cond (x==32) Z (x==10)) (Tr.ok (zM.head 3 (zZ f141 3) (K7 s (Γ Δ (i+1)) l))) (Qd (L (0<=i)&&L (i<=h)&&L (h<=h)) (Qd (ku a) (Qd (qH (bY a).1) (br (cond (!e9 (bY a).1) Z ((M l:Int)==400)) (Tr.ok (zM.ret (tup [nils,I 2]) [])) (Qd (L (M l+[(bY a).1].length<=1073741824)) (Tr.ok (zM.head 3 (zZ f141 3) (K7 s (Γ Δ (i+(bY a).2)) (l++[(bY a).1]))))))))))) (Tr.ok (zM.ret (tup [AV.vec 0,I 0]) [AO.vec zW l])):=kw
def AG:Nat->(Sem Sh.str)->Int->eu->Sem jP.sl×zy
 |0,_,_,_=>default
 |n+1,s,i,l=>(if L (i<(M s:Int))=Z then
 if(cond ((↑(W s i.toNat 0).toNat:Int)==32) Z ((↑(W s i.toNat 0).toNat:Int)==10))=Z then
  AG n s (Γ Δ (i+1)) l
 else
  if
    (bif !e9 (bY (Qg ((M s:Int).toNat-i.toNat) (Qh i.toNat s))).1 then Z
     else(M l:Int)==400)=
     Z then
   ([],2)
  else
   AG n s (Γ Δ (i+(bY (Qg ((M s:Int).toNat-i.toNat) (Qh i.toNat s))).2))
    (l++[(bY (Qg ((M s:Int).toNat-i.toNat) (Qh i.toNat s))).1])
else(l,0))
def rF:Nat->(Sem Sh.str)->Int->eu->Bool
 |0,_,_,_=>J
 |n+1,s,i,l=>(if L (i<(M s:Int))=Z then
 if (zT i (Io s)&&bif (↑(getD s i.toNat 0).toNat:Int)==32 then true else zT i (Io s))=true then
  if(cond ((↑(W s i.toNat 0).toNat:Int)==32) Z ((↑(W s i.toNat 0).toNat:Int)==10))=Z then
   rF n s (Γ Δ (i+1)) l
  else
   if (decide (0≤i)&&decide (i≤(Io s:Int))&&decide ((Io s:Int)≤(Io s:Int)))=true then
    if ku (List.take ((Io s:Int).toNat-i.toNat) (List.drop i.toNat s))=true then
     if qH (bY (List.take ((Io s:Int).toNat-i.toNat) (List.drop i.toNat s))).1=true then
      if
        (bif !e9 (bY (Qg ((M s:Int).toNat-i.toNat) (Qh i.toNat s))).1 then Z
         else(M l:Int)==400)=
         Z then
       Z
      else
       if
         L (M l+[(bY (Qg ((M s:Int).toNat-i.toNat) (Qh i.toNat s))).1].length<=1073741824)=
          Z then
        rF n s (Γ Δ (i+(bY (Qg ((M s:Int).toNat-i.toNat) (Qh i.toNat s))).2))
         (l++[(bY (Qg ((M s:Int).toNat-i.toNat) (Qh i.toNat s))).1])
       else J
     else J
    else J
   else J
 else J
else Z)
theorem T5{C:eS}(b:∀id,C.ρ0 id=Q2):∀(n:Nat)(s:TS)(i:Int)(l:LF),rF n s i l=Z->
  Reach (pd) C 141 (zZ f141 3) (K7 s i l) (λr h=>bc h [jP.sl,zi] r=some ((AG n s i l).1,(AG n s i l).2,()))
 |0,s,i,l,x=>by cases x
 | n+1,s,i,l,x=>by
  refine zB kk (zif) (λid _=>b id) (zim _ _ _) ?_;rw[rF]at x;generalize a:AG (n+1) s i l=y;rw[AG]at a
  skip
  repeat' (first|with_reducible refine obr a x (λ_ a x=>?_) (λ_ a x=>?_)|with_reducible refine B5 a (λ_ a=>?_) (λ_ a=>?_)|with_reducible refine G2 x (λx=>?_)|with_reducible refine dP ?_)
  all_goals first|(cases x;done)|(subst a;first|(change Reach _ _ _ _ _ _;refine T5 b n _ _ _ ?_<;>exact x)|rfl)
def cut(x:TS):N jP.sl×zy:=(AG (M x+1) x 0 [])
def Uw(x:TS):Bool:=(rF (M x+1) x 0 [])
def F69:zV:=ae [Q7] [jP.sl,zi] (λx=>Uw x.1) λx=>((cut x.1).1,(cut x.1).2,())
theorem zlS:FK 141 F69:=by
 refine aH (zif) λx h C b=>?_
 unfold Uw at h;refine zB kk (zif) (λid _=>b id) (zs1 x.1) ?_;generalize a:cut x.1=y;unfold cut at a
 try simp only[zg.eta,zt]
 repeat' (first|with_reducible refine obr a h (λ_ a h=>?_) (λ_ a h=>?_)|with_reducible refine B5 a (λ_ a=>?_) (λ_ a=>?_)|with_reducible refine G2 h (λh=>?_)|with_reducible refine dP ?_)
 all_goals first|(cases h;done)|(subst a;first|(change Reach _ _ _ _ _ _;refine T5 b _ _ _ _ ?_<;>exact h)|rfl)
def Js:=pd.addL [(405,zjz),(85,zjv),(141,F69)]
theorem vq:zm Js:=kk.addL<|fc zey<|fc zeu<|fc zlS ip
def zjn:zV:=au (List.replicate 2 Q2) (eJ Js f383 (List.replicate 2 Q2))
theorem zem:FK 383 zjn:=bM _ vq (bG kw)
abbrev zt0:Nat->aR:=λ_=>{ }
theorem zqh:zJ (Js).P 347 f347 1:=bG kw
theorem ztb(x:N Q6):rn Js 0 zt0 f347 [zI Q6 x] []=Qd (jU (zP x)) (Tr.ok (zM.ret (X (iU (zP x)).1) [])):=kw
def jd(x:N Q6):N Q7:=((iU x).1)
def pT(x:N Q6):Bool:=(ite (jU x=Z) Z J)
def F94:zV:=ae [Q6] [Q7] (λx=>pT x.1) λx=>(jd x.1,())
theorem zmf:FK 347 F94:=by
 refine aH (zqh) λx h C b=>?_
 unfold pT at h;refine zB vq (zqh) (λid _=>b id) (ztb x.1) ?_;generalize a:jd x.1=y;unfold jd at a
 try simp only[zg.eta]
 exact LG a h
def Jt:=Js.addL [(383,zjn),(347,F94)]
theorem vr:zm Jt:=vq.addL<|fc zem<|fc zmf ip
def F86:zV:=au (List.replicate 4 Q2) (eJ Jt f341 (List.replicate 4 Q2))
theorem zl6:FK 341 F86:=bM _ vr (bG kw)
abbrev zt1:Nat->aR:=λ_=>{ }
theorem zqi:zJ (Jt).P 351 f351 2:=bG kw
theorem ztd(x:TS)(h:N Q6):rn Jt 0 zt1 f351 [zI Q7 x,zI Q6 h] []=let a:=zP h;br (jI a) (Tr.ok (zM.ret (X []) [])) (Qd (L (M x+M I1<=1099511627776)) (Qd (pT a) (Qd (L (M (x++I1)+M (jd a)<=1099511627776)) (Qd (L (M (x++I1++jd a)+[32,41].length<=1099511627776)) (Tr.ok (zM.ret (X (x++I1++jd a++[32,41])) [])))))):=kw
def nh(h:TS)(x:N Q6):N Q7:=(ite (jI x=Z) [] (h++I1++jd x++[32,41]))
def sM(h:TS)(x:N Q6):Bool:=(ite (jI x=Z) Z (ite (L (M h+M I1<=1099511627776)=Z) (ite (pT x=Z) (ite (L (M (h++I1)+M (jd x)<=1099511627776)=Z) (ite (L (M (h++I1++jd x)+[32,41].length<=1099511627776)=Z) Z J) J) J) J))
def F98:zV:=ae [Q7,Q6] [Q7] (λx=>sM x.1 x.2.1) λx=>(nh x.1 x.2.1,())
theorem zmh:FK 351 F98:=by
 refine aH (zqi) λx h C b=>?_
 unfold sM at h;refine zB vr (zqi) (λid _=>b id) (ztd x.1 x.2.1) ?_;generalize a:nh x.1 x.2.1=y;unfold nh at a
 try simp only[zg.eta]
 exact LG a h
def zcI:=Jt.addL [(341,F86),(351,F98)]
theorem RG:zm zcI:=vr.addL<|fc zl6<|fc zmh ip
def zq8(h:aG):N Q8:=(cond (cond (L ((M h.2.2.2.2.1:Int)<1)) Z (L ((M h.2.2.2.2.1:Int)>8))) J (bif !L (aj (λx=>!zmJ x) h.2.2.2.2.1 0>=0)then bif du h.2.2.2.2.2.1 then bif bif L ((M h.2.2.2.2.2.2.1:Int)<0)then Z else L ((M h.2.2.2.2.2.2.1:Int)>8)then J else bif !L (aj (λx=>!du x) h.2.2.2.2.2.2.1 0>=0)then bif bif L ((M h.2.2.2.2.2.2.2.1:Int)<0)then Z else L ((M h.2.2.2.2.2.2.2.1:Int)>8)then J else bif !L (aj (λx=>!zqz x) h.2.2.2.2.2.2.2.1 0>=0)then iO h.2.2.2.2.2.2.2.2.1 else J else J else J else J))
def zcJ:=zcI
theorem vt:zm zcJ:=RG
def tz(h:aG):K (Empty⊕ac):=
 let A:=zP h.x.1
 let E:=zP h.s.1
 let G:=(h.y.1,h.z.1,E,h.p)
 let H:=(h.1,[],h.q.1,h.r.1,h.t.1,h.u.1,h.v.1,h.w.1,A,G)
 let C:=bif du h.2.1 then iO E else J
 let D:=(h.1,[],h.q.1,h.r.1,h.t.1,h.u.1,h.v.1,h.w.1,A,h.y.1,h.z.1,zg.mk [] (0,0,[]) [] [],h.p)
 let P:=du h.p
 let b:=bif du h.2.1 then P else J
 let U:=(h.y.1,h.z.1,E,[])
 let c:=(h.1,[],h.q.1,h.r.1,h.t.1,h.u.1,h.v.1,h.w.1,A,U)
 let d:=du h.q.1
 let a:=(M h.r.1:Int)
 let F:=aj (λx=>!du x) h.r.1 0
 let e:=iO A
 let g:=bif !L (F>=0)then e else J
 let i:=bif du h.2.1 then bif d then bif bif L (a<1)then Z else L (a>8)then J else g else J else J
 let j:=(h.1,[],[],[],h.t.1,h.u.1,h.v.1,h.w.1,zg.mk [] (0,0,[]) [] [],G)
 let k:=eZ j
 let l:=iC j
 let m:=bif du h.2.1 then bif d then bif du h.u.1 then bif P then e else J else J else J else J
 let n:=(h.1,[],[],h.r.1,h.t.1,[],h.v.1,h.w.1,zg.mk [] (0,0,[]) [] [],U)
 let o:=bif du h.2.1 then bif d then bif bif L (a<2)then Z else L (a>2)then J else g else J else J
 br (h.1==Uk) (br (du h.2.1) Tr.err (re (kb J) []))
 (br (h.1==bl1)
  (Qd (cond (du h.2.1) (eZ H) Z) (re (AV.bool (cond (du h.2.1) (iC H) J)) []))
  (br (h.1==bl3) (br (du h.2.1) Tr.err (re (kb J) [])) (br (h.1==Uh) (br (du h.2.1) Tr.err (re (kb J) [])) (br (h.1==bl0) (Qd (cond C (eZ D) Z) (re (AV.bool (cond C (iC D) J)) []))
  (br (h.1==Ue) (Qd (cond C (eZ D) Z) (re (AV.bool (cond C (iC D) J)) [])) (br (h.1==bl9) (Qd (cond b (eZ c) Z) (re (AV.bool (cond b (iC c) J)) []))
  (br (h.1==Ui) (Qd (cond b (eZ c) Z) (re (AV.bool (cond b (iC c) J)) [])) (br (h.1==Uf) (Qd (cond b (eZ c) Z) (re (AV.bool (cond b (iC c) J)) [])) (br (h.1==Ug)
  (Qd (cond b (eZ c) Z) (re (AV.bool (cond b (iC c) J)) [])) (br (h.1==eR) (Qd (cond i k Z) (re (AV.bool (cond i l J)) [])) (br (h.1==iK) (Qd (cond m (eZ n) Z) (re (AV.bool (cond m (iC n) J)) []))
  (br (h.1==yu) (Qd (cond o k Z) (re (AV.bool (cond o l J)) [])) (re (kb J) [])))))))))))))
def yZ(x:aG):=aA [Q8] t0 100000000 (tz x)
def qE(x:aG):=(yZ x).isSome
def iW(x:aG):=o1 (yZ x)
def zbN:=FT [bQ] [Q8] λx=>yZ x.1
theorem YL:FK 284 zbN:=vt.T1 (f:=f284) (keep:=k0) (e:=e0)
def xt(h:aG):K (Empty⊕ac):=
 let P:=L (M h.1<=140737488355328)&&List.all h.1 λb=>L (b.toNat<128)
 let a1:=Uj++Lib.toUpperA h.1
 let a2:=a1++[32]
 let a3:=a2++h.2.1
 let a4:=a3++I0
 let U:=zgB++Lib.toUpperA h.1
 let a6:=U++Gc
 let a7:=a6++h.2.1
 let H:=a7++[32,84,79,32]
 let G:=Qg ((M h.1:Int).toNat-T 2) (Qh (T 2) h.1)
 let e:=Lib.toUpperA G
 let g:=zgD++e
 let i:=g++Gc
 let j:=i++h.2.1
 let d:=j++I0
 let a:=a4++h.q.1
 let l:=a++[32,40,32]
 let m:=jq h.r.1
 let n:=l++m
 let o:=zP h.x.1
 let k:=sM [32] o
 let s:=n++[32,41]
 let c:=nh [32] o
 let t:=a++AB
 let v:=t++h.p
 let w:=v++Gc
 let y:=w++h.u.1
 let z:=a++[32,66,89,32]
 let A:=W h.r.1 (T 0) (zk Q7)
 let C:=z++A
 let D:=C++zgz
 let E:=W h.r.1 (T 1) (zk Q7)
 let F:=D++E
 Qd P
 (Qd (L (M Uj+(Lib.toUpperA h.1).length<=1099511627776))
  (Qd (L (M a1+[32].length<=1099511627776)) (Qd (L (M a2+M h.2.1<=1099511627776)) (Qd (L (M a3+M I0<=1099511627776)) (Qd (L (M a4+M h.q.1<=1099511627776)) (br (h.1==Uk) Tr.err (br (h.1==bl1)
  (Qd (L (M zmA+M h.2.1<=1099511627776)) (re (X (zmA++h.2.1)) [])) (br (h.1==bl3) (Qd (L (M zmC+M h.2.1<=1099511627776)) (Qd (decide
  (M (zmC++h.2.1)+[32,86,65,76,85,69,83,32,40,32].length<=1099511627776)) Tr.err)) (br (h.1==Uh) (Qd (L ([85,80,68,65,84,69,32].length+M h.2.1<=1099511627776))
  (Qd (L (M ([85,80,68,65,84,69,32]++h.2.1)+[32,83,69,84,32].length<=1099511627776)) Tr.err)) (br (h.1==bl0) (Qd (L ([68,69,76,69,84,69,32,70,82,79,77,32].length+M h.2.1<=1099511627776)) Tr.err) (br (h.1==Ue)
  (Qd (L ([83,69,76,69,67,84,32,42,32,70,82,79,77,32].length+M h.2.1<=1099511627776)) Tr.err) (br (h.1==bl9) (Qd P (Qd (L (M zgB+(Lib.toUpperA h.1).length<=1099511627776)) (Qd (L (M U+M Gc<=1099511627776))
  (Qd (L (M a6+M h.2.1<=1099511627776)) (Qd (L (M a7+[32,84,79,32].length<=1099511627776)) (Qd (L (M H+M h.p<=1099511627776)) (re (X (H++h.p)) []))))))) (br (h.1==Ui) (Qd P
  (Qd (L (M zgB+(Lib.toUpperA h.1).length<=1099511627776)) (Qd (L (M U+M Gc<=1099511627776)) (Qd (L (M a6+M h.2.1<=1099511627776)) (Qd (L (M a7+[32,84,79,32].length<=1099511627776))
  (Qd (L (M H+M h.p<=1099511627776)) (re (X (H++h.p)) []))))))) (br (h.1==Uf) (Qd (L (0<=2)&&L (2<=(M h.1:Int))&&L ((M h.1:Int)<=(M h.1:Int)))
  (Qd (L (M G<=140737488355328)&&G.all λb=>L (b.toNat<128)) (Qd (L (M zgD+M e<=1099511627776)) (Qd (L (M g+M Gc<=1099511627776)) (Qd (L (M i+M h.2.1<=1099511627776))
  (Qd (L (M j+M I0<=1099511627776)) (Qd (L (M d+M h.p<=1099511627776)) (re (X (d++h.p)) [])))))))) (br (h.1==Ug) (Qd (L (0<=2)&&L (2<=(M h.1:Int))&&
  L ((M h.1:Int)<=(M h.1:Int))) (Qd (L (M G<=140737488355328)&&G.all λb=>L (b.toNat<128)) (Qd (L (M zgD+M e<=1099511627776)) (Qd (L (M g+M Gc<=1099511627776)) (Qd (L (M i+M h.2.1<=1099511627776))
  (Qd (L (M j+M I0<=1099511627776)) (Qd (L (M d+M h.p<=1099511627776)) (re (X (d++h.p)) [])))))))) (br (h.1==eR) (Qd (L (M a+[32,40,32].length<=1099511627776)) (Qd (mT h.r.1)
  (Qd (L (M l+M m<=1099511627776)) (Qd (L (M n+[32,41].length<=1099511627776)) (Qd k (Qd (L (M s+M c<=1099511627776)) (re (X (s++c)) []))))))) (br (h.1==iK) (Qd (L (M a+M AB<=1099511627776))
  (Qd (L (M t+M h.p<=1099511627776)) (Qd (L (M v+M Gc<=1099511627776)) (Qd (L (M w+M h.u.1<=1099511627776)) (Qd k (Qd (L (M y+M c<=1099511627776)) (re (X (y++c)) [])))))))
  (Qd (L (M a+[32,66,89,32].length<=1099511627776)) (Qd (zT 0 (M h.r.1)) (Qd (L (M z+M A<=1099511627776)) (Qd (L (M C+M zgz<=1099511627776)) (Qd (zT 1 (M h.r.1)) (Qd (L (M D+M E<=1099511627776)) (Qd k
  (Qd (L (M F+M c<=1099511627776)) (re (X (F++c)) []))))))))))))))))))))))))))
def HP(x:aG):=aA [Q7] t0 100000000 (xt x)
def CL(x:aG):=(HP x).isSome
def uh(x:aG):=o1 (HP x)
def zbP:=FT [bQ] [Q7] λx=>HP x.1
theorem YN:FK 285 zbP:=vt.T1 (f:=f285) (keep:=k0) (e:=e0)
def OR:=zcJ.addL [(284,zbN),(285,zbP)]
theorem Er:zm OR:=vt.addL<|fc YL<|fc YN<|ip
abbrev ztR:Nat->aR:=λ_=>{ }
theorem zpR:zJ (OR).P 224 f224 1:=bG kw
theorem zsR(x:aG):rn OR 0 ztR f224 [zI bQ x] []=let a:=(ZZ x);let h:=Tr.ok (zM.ret (tup [X [],I 1]) []);Qd (qE a) (br (!iW a) h (Qd (CL a) (Qd (Uw (uh a)) (br ((cut (uh a)).2!=0) h (Tr.ok (zM.ret (tup [X (uh a),I 0]) [])))))):=kw
def si(x:aG):N Q7×zy:=(ite ((!iW x)=Z) ([],1) (ite (((cut (uh x)).2!=0)=Z) ([],1) (uh x,0)))
def qF(x:aG):Bool:=(ite (qE x=Z) (ite ((!iW x)=Z) Z (ite (CL x=Z) (ite (Uw (uh x)=Z) Z J) J)) J)
def F52:zV:=ae [bQ] [Q7,zi] (λx=>qF x.1) λx=>((si x.1).1,(si x.1).2,())
theorem zlF:FK 224 F52:=by
 refine aH (zpR) λx h C b=>?_
 unfold qF at h;refine zB Er (zpR) (λid _=>b id) (zsR x.1) ?_;generalize a:si x.1=y;unfold si at a
 try simp only[O5]
 exact LG a h
def OS:=OR.add 224 F52
theorem Es:zm OS:=Er.add zlF
abbrev ztQ:Nat->aR:=λ_=>{ }
theorem zpx:zJ (OS).P 167 f167 1:=bG kw
theorem zsz(x:aG):rn OS 0 ztQ f167 [zI bQ x] []=let a:=(ZZ x);Qd (qF a) (Tr.ok (zM.ret (AV.bool ((si a).2==0)) [])):=kw
def gA(x:aG):N Q8:=((si x).2==0)
def lh(x:aG):Bool:=(ite (qF x=Z) Z J)
def F31:zV:=ae [bQ] [Q8] (λx=>lh x.1) λx=>(gA x.1,())
theorem zll:FK 167 F31:=by
 refine aH (zpx) λx h C b=>?_
 unfold lh at h;refine zB Es (zpx) (λid _=>b id) (zsz x.1) ?_;generalize a:gA x.1=y;unfold gA at a
 try simp only[O5]
 exact LG a h
def Ju:=OS.add 167 F31
theorem vy:zm Ju:=Es.add zll
def zk5:zV:=au (List.replicate 2 Q2) (eJ Ju f111 (List.replicate 2 Q2))
theorem zgb:FK 111 zk5:=bM _ vy (bG kw)
abbrev zhR:Nat->aR:=λ_=>{ }
theorem W6:zJ (Ju).P 215 f215 3:=bG kw
theorem zg2(h:N ze.sl)(x:zy)(a:zw):rn Ju 0 zhR f215 [zI ze.sl h,zI zi x,zI Q a] []=let b:=W h (T x) (zk Q);Qd (cond (L (x>=0)) (cond (L (x<(M h:Int))) (zT x (M h)) Z) Z) (Tr.ok (zM.ret (AV.bool (cond (L (x>=0)) (cond (L (x<(M h:Int))) (b.1==a.1&&(b.2.1==a.2.1&&(b.2.2==a.2.2&&Z))) J) J)) [])):=kw
def cy(h:N ze.sl)(x:zy)(a:zw):N Q8:=(cond (L (x>=0)) (cond (L (x<(M h:Int))) ((W h (T x) (zk Q)).1==a.1&&((W h (T x) (zk Q)).2.1==a.2.1&&((W h (T x) (zk Q)).2.2==a.2.2&&Z))) J) J)
def yT(h:N ze.sl)(x:zy)(_:zw):Bool:=(ite ((cond (L (x>=0)) (cond (L (x<(M h:Int))) (zT x (M h)) Z) Z)=Z) Z J)
def zb4:zV:=ae [ze.sl,zi,Q] [Q8] (λx=>yT x.1 x.2.1 x.q.1) λx=>(cy x.1 x.2.1 x.q.1,())
theorem Oh:FK 215 zb4:=by
 refine aH (W6) λx h C b=>?_
 unfold yT at h;refine zB vy (W6) (λid _=>b id) (zg2 x.1 x.2.1 x.q.1) ?_;generalize a:cy x.1 x.2.1 x.q.1=y;unfold cy at a;exact LG a h
def Jv:=Ju.addL [(111,zk5),(215,zb4)]
theorem vz:zm Jv:=vy.addL<|fc zgb<|fc Oh<|ip
theorem HF(x:fM)(c:Int)(v:zw):yT x c v=Z:=by
 unfold yT;by_cases h:(c:Int)>=0
 .by_cases a:c<(M x:Int)
  .have b:zT c (M x)=Z:=by simp[zT];exact⟨h,a⟩
   simp[zL h,zL a,b]
  .simp[zL h,aQ a]
 .simp[aQ h]
def zb5:zV:=ay [Sh.sl Q,zi,Q] [Q8] λx=>(cy x.1 x.2.1 x.q.1,())
theorem Y3:FK 215 zb5:=nc Oh λx=>HF x.1 x.2.1 x.q.1
abbrev yX(s:zD)(l:zH)(i:Int):St:={tmps:=[.sl zl l,.clo (.func 111) [] [.ptr 0 0],.any,.any,.any,.any,.any,I (M l),I i,.any,.any,.any,.any,.any,.any,.any,.any,.any,.any],heap:=[.box [.str s]]}
theorem VP(s:zD)(l:zH):run Jv 1 yi f110.results.toList 300 (aK f110) (aC f110.ntmps [.sl zl l,.clo (.func 111) [] [.ptr 0 0]] [.box [.str s]])=.ok (.head 2 (zZ f110 2) (yX s l 0)):=kw
theorem Xk(s:zD)(l:zH)(i:Int):run Jv 1 yi f110.results.toList 300 (zZ f110 2) (yX s l i)=nI (K:=zZ f110 2) (e:=zl) l (λx=>x.1.1==s) (yX s l) [.box [.str s]] i:=kw
theorem Xd:zJ Jv.P 110 f110 2:=bG kw
def zmm:ee [some (.sl zl),Q2]:=λx h=>match x,h with
 |(l,.clo (.func 111) [] [.ptr 0 0],_),[.box [.str s]]=>.ok (I (aj (λx=>x.1.1==s) l 0),[.box [.str s]])
 |_,_=>.err
def zk4:zV:=au [some (.sl zl),Q2] zmm
theorem zf9:FK 110 zk4:=by
 refine cP Xd λx d c h C a=>?_
 unfold zmm at h;split at h
 .rename_i l u s;simp only[Tr.val_ok,ax]at h;subst h;refine Reach.len 0 zl l rfl λb=>?_
  refine zB (n0:=1) vz Xd a (VP s l) ?_;exact kr l (λx=>x.1.1==s) (yX s l) vz Xd a (Xk s l) b _ 0 rfl (zU _)
 .simp at h
def Jw:=Jv.addL [(215,zb5),(110,zk4)]
theorem vA:zm Jw:=vz.addL<|fc Y3<|fc zf9<|ip
def zb3:zV:=au (List.replicate 3 Q2) (eJ Jw f214 (List.replicate 3 Q2))
theorem Y2:FK 214 zb3:=bM _ vA (bG kw)
abbrev zoF:Nat->aR:=λ_=>{ }
theorem zdW:zJ (Jw).P 73 f73 2:=bG kw
theorem zni(h:N zl.sl)(a:TS):rn Jw 0 zoF f73 [zI zl.sl h,zI Q7 a] []=Tr.ok (zM.ret (I (aj (λx=>x.1.1==a) h 0)) []):=kw
def ab(h:N zl.sl)(a:TS):zy:=(aj (λx=>x.1.1==a) h 0)
def zkt:zV:=ay [zl.sl,Q7] [zi] λx=>(ab x.1 x.2.1,())
theorem zfv:FK 73 zkt:=by
 refine z7 (zdW) λx C a=>?_
 refine zB vA (zdW) (λid _=>a id) (zni x.1 x.2.1) ?_;generalize h:ab x.1 x.2.1=y;unfold ab at h;exact SY h
def Jy:=Jw.addL [(214,zb3),(73,zkt)]
theorem vB:zm Jy:=vA.addL<|fc Y2<|fc zfv ip
abbrev qD(c a b:Int)(s:zD)(l:List fM)(i:Int):St:={tmps:=[.sl (Sh.sl Q) l,.clo (.func 214) [] [.ptr 0 0,.ptr 1 0],.any,.any,.any,.any,.any,I (M l),I i,.any,.any,.any,.any,.any,.any,.any,.any,.any,.any],heap:=[.box [I c],.box [I a,I b,.str s]]}
theorem MW(c a b:Int)(s:zD)(l:List fM):run Jy 2 yi f271.results.toList 300 (aK f271) (aC f271.ntmps [.sl (Sh.sl Q) l,.clo (.func 214) [] [.ptr 0 0,.ptr 1 0]] [.box [I c],.box [I a,I b,.str s]])=.ok (.head 2 (zZ f271 2) (qD c a b s l 0)):=kw
theorem Ni(c a b:Int)(s:zD)(l:List fM)(i:Int):run Jy 2 yi f271.results.toList 300 (zZ f271 2) (qD c a b s l i)=nI (K:=zZ f271 2) (e:=(Sh.sl Q)) l (λx=>cy x c (a,b,s)) (qD c a b s l) [.box [I c],.box [I a,I b,.str s]] i:=kw
theorem Ng:zJ Jy.P 271 f271 2:=bG kw
def zct:ee [some (.sl (Sh.sl Q)),Q2]:=λx h=>match x,h with
 |(l,.clo (.func 214) [] [.ptr 0 0,.ptr 1 0],_),[.box [I c],.box [I a,I b,.str s]]=>.ok (I (aj (λx=>cy x c (a,b,s)) l 0),[.box [I c],.box [I a,I b,.str s]])
 |_,_=>.err
def zcd:zV:=au [some (.sl (Sh.sl Q)),Q2] zct
theorem Za:FK 271 zcd:=by
 refine cP Ng λx i g h C d=>?_
 unfold zct at h;split at h
 .rename_i l u c a b s;simp only[Tr.val_ok,ax]at h;subst h;refine Reach.len 0 (Sh.sl Q) l rfl λe=>?_
  refine zB (n0:=2) vB Ng d (MW c a b s l) ?_;exact kr l (λx=>cy x c (a,b,s)) (qD c a b s l) vB Ng d (Ni c a b s l) e _ 0 rfl (zU _)
 .simp at h
def U7:=Jy.add 271 zcd
theorem Et:zm U7:=vB.add Za
def zb2:zV:=au (List.replicate 2 Q2) (eJ U7 f213 (List.replicate 2 Q2))
theorem Y1:FK 213 zb2:=bM _ Et (bG kw)
def OT:=U7.add 213 zb2
theorem vC:zm OT:=Et.add Y1
abbrev zhM:Nat->aR:=λ_=>{ }
theorem WX:zJ (OT).P 156 f156 3:=bG kw
theorem zgZ(h:zX)(a:zy)(b:zw):rn OT 0 zhM f156 [zI zl h,zI zi a,zI Q b] []=Tr.ok (zM.ret (AV.bool (L (aj (λx=>cy x a b) h.2 0>=0))) []):=kw
def mK(h:zX)(a:zy)(b:zw):N Q8:=(L (aj (λx=>cy x a b) h.2 0>=0))
def zbV:zV:=ay [zl,zi,Q] [Q8] λx=>(mK x.1 x.2.1 x.q.1,())
theorem YT:FK 156 zbV:=by
 refine z7 (WX) λx C a=>?_
 refine zB vC (WX) (λid _=>a id) (zgZ x.1 x.2.1 x.q.1) ?_;generalize h:mK x.1 x.2.1 x.q.1=y;unfold mK at h;exact SY h
abbrev zhK:=fZ [(3,[1,5,11,12,13])]
inductive DR where
 |h3 (i1:zy) (l11:List (N ze.sl)) (i12:Int) (i13:Int) (mh_0:List ((Int×Int×zD)×Int))
abbrev zmZ:DR->Nat×St
 |.h3 x l i h m=>(3,⟨tm 37 [(1,I x),(5,AV.mp 0),(11,O ze.sl l),(12,I i),(13,I h)],[AO.vmap J m]⟩)
def zdw(x:zX)(h:zy):K (DR⊕ac):=Qa (DR.h3 h x.2 (M x.2:Int) 0 [])
def xP:DR->K (DR⊕ac)
 | .h3 x l h i m=>
  let b:=l.getD i.toNat (zk ze.sl)
  let a:=W b (T x) (zk Q)
  let c:=(↑(ln m a):Int)
  let d:=js m a
  let e:=jE d c.toNat (Γ Δ (gp m a+1))
  let g:=gp e a
  br (L (i<h))
  (Qd (zT i (M l))
   (Qd (zT x (M b)) (Qd (L (M m<=1073741824)) (Qd (zT c (M d)) (br (cond (a.1!=0) (L (g>1)) J) (re (kb Z) []) (Qa (DR.h3 x l h (Γ Δ (i+1)) e)))))))
  (re (kb J) [])
def yU(x:zX)(h:zy):=aA [Q8] xP 100000000 (zdw x h)
def qx(x:zX)(h:zy):=(yU x h).isSome
def wq(x:zX)(h:zy):=o1 (yU x h)
def zbT:=FT [zl,zi] [Q8] λx=>yU x.1 x.2.1
theorem YR:FK 154 zbT:=vC.T1 (f:=f154) (keep:=zhK) (e:=zmZ)
def zcK:=OT.addL [(156,zbV),(154,zbT)]
theorem vD:zm zcK:=vC.addL<|fc YT<|fc YR ip
abbrev zoU:=fZ [(6,[1,18,19,20]),(15,[1,39,40,41]),(21,[1,8])]
inductive Dl where
 |h6 (l18:List (N ze.sl)) (i19:Int) (i20:Int) (z0:zn [CP.d zl])
 |h15 (l39:LI) (i40:Int) (i41:Int) (z0:zn [CP.d zl])
 |h21 (i8:Int) (z0:zn [CP.d zl])
abbrev zr8:Dl->Nat×St
 |.h6 l i h z=>(6,⟨tm 79 [(1,ptr 0 0),(18,O ze.sl l),(19,I i),(20,I h)],[AO.box (fD [] [CP.d zl] z)]⟩)
 |.h15 b x a z=>(15,⟨tm 79 [(1,ptr 0 0),(39,O zi b),(40,I x),(41,I a)],[AO.box (fD [] [CP.d zl] z)]⟩)
 |.h21 c z=>(21,⟨tm 79 [(1,ptr 0 0),(8,I c)],[AO.box (fD [] [CP.d zl] z)]⟩)
def Sk(x:zX):K (Dl⊕ac):=br (!gO (x.1.1,x.1.2.1,x.1.q.1,x.1.r.1,x.1.t.1,zP x.1.u)) (re (I 1) []) (br (L ((M x.2:Int)>200)) (re (I 13) []) (Qa (Dl.h6 x.2 (M x.2:Int) 0 (x,()))))
def g6:Dl->K (Dl⊕ac)
 | .h6 l d i z=>
  let x:=(z.1.1.1,z.1.1.2.1,z.1.1.q.1,z.1.1.r.1,z.1.1.t.1,zP z.1.1.u)
  let a:=dM x (l.getD i.toNat (zk ze.sl))
  let c:=(x,z.1.2)
  br (L (i<d))
  (Qd (zT i (M l)) (br (a !=0) (re (I a) []) (Qa (Dl.h6 l d (Γ Δ (i+1)) z))))
  (Qd (qx c z.1.1.q.1)
   (br (wq c z.1.1.q.1) (re (I 7) []) (Qa (Dl.h15 z.1.1.r.1 (M z.1.1.r.1:Int) 0 z))))
 | .h15 b e h z=>
  let x:=((z.1.1.1,z.1.1.2.1,z.1.1.q.1,z.1.1.r.1,z.1.1.t.1,zP z.1.1.u),z.1.2)
  let a:=b.getD h.toNat (zk zi)
  br (L (h<e))
  (Qd (zT h (M b))
   (Qd (qx x a) (br (wq x a) (re (I 7) []) (Qa (Dl.h15 b e (Γ Δ (h+1)) z)))))
  (Qa (Dl.h21 1 z))
 | .h21 g z=>
  let x:=(M z.1.2:Int)
  let a:=Γ Δ (g-1)
  let c:=W z.1.2 a.toNat (zk ze.sl)
  let j:=W z.1.2 g.toNat (zk ze.sl)
  let k:=aV (W c (T z.1.1.q.1) (zk Q)) (W j (T z.1.1.q.1) (zk Q))
  br (L (g<x))
  (Qd (zT a (M z.1.2))
   (Qd (zT z.1.1.q.1 (M c)) (Qd (zT g (M z.1.2)) (Qd (zT z.1.1.q.1 (M j)) (br (L (k>=0)) (re (I 15) []) (Qa (Dl.h21 (Γ Δ (g+1)) z)))))))
  (re (I 0) [])
def nP(x:zX):=aA [zi] g6 100000000 (Sk x)
def HB(x:zX):=(nP x).isSome
def Nw(x:zX):=o1 (nP x)
def zkP:=FT [zl] [zi] λx=>nP x.1
theorem zfU:FK 106 zkP:=vD.T1 (f:=f106) (keep:=zoU) (e:=zr8)
abbrev zoW:=fZ [(2,[0,11,12,13]),(5,[0,4,11,12,13,19,20,21]),(11,[0,4,6,7,11,12,13,19,20,21,32,33,34])]
inductive Dm where
 |h2 (l0:zH) (l11:zH) (i12:Int) (i13:Int)
 |h5 (l0:zH) (l11:zH) (i12:Int) (i13:Int) (l19:LF) (i20:Int) (i21:Int) (z0:zn [CP.d zl])
 |h11 (l0:zH) (i7:zy) (l11:zH) (i12:Int) (i13:Int) (l19:LF) (i20:Int) (i21:Int) (l32:List (N ze.sl)) (i33:Int) (i34:Int) (z0:zn [CP.d zl]) (z1:zn [CP.d zW])
abbrev zsa:Dm->Nat×St
 |.h2 c l i h=>(2,⟨tm 64 [(0,O zl c),(11,O zl l),(12,I i),(13,I h)],[]⟩)
 |.h5 c l i h b x a z=>(5,⟨tm 64 [(0,O zl c),(4,ptr 0 0),(11,O zl l),(12,I i),(13,I h),(19,O zW b),(20,I x),(21,I a)],[AO.box (fD [] [CP.d zl] z)]⟩)
 |.h11 c k l i h b x a j e g z m=>(11,⟨tm 64 [(0,O zl c),(4,ptr 0 0),(6,ptr 1 0),(7,I k),(11,O zl l),(12,I i),(13,I h),(19,O zW b),(20,I x),(21,I a),(32,O ze.sl j),(33,I e),(34,I g)],[AO.box (fD [] [CP.d zl] z),AO.box (fD [] [CP.d zW] m)]⟩)
def znP(x:N zl.sl):K (Dm⊕ac):=Qa (Dm.h2 x x (M x:Int) 0)
def g7:Dm->K (Dm⊕ac)
 | .h2 c l h i=>
  let d:=l.getD i.toNat (zk zl)
  br (L (i<h))
  (Qd (zT i (M l)) (Qa (Dm.h5 c l h i d.1.t.1 (M d.1.t.1:Int) 0 (d,()))))
  (re (kb Z) [])
 | .h5 c l h i a b x z=>
  let d:=a.getD x.toNat (zk zW)
  let k:=ab c d.2
  br (L (x<b))
  (Qd (zT x (M a))
   (br (L (k<0)) (re (kb J) []) (Qa (Dm.h11 c k l h i a b x z.1.2 (M z.1.2:Int) 0 z (d,())))))
  (Qa (Dm.h2 c l h (Γ Δ (i+1))))
 | .h11 c n l h i a b x j m e z o=>
  let d:=j.getD e.toNat (zk ze.sl)
  let k:=W d (T o.1.1) (zk Q)
  let p:=k.1!=0
  let g:=c.getD (T n) (zk zl)
  br (L (e<m))
  (Qd (zT e (M j))
   (Qd (zT o.1.1 (M d)) (Qd (cond p (zT n (M c)&&zT n (M c)) Z) (br (cond p (!mK ((g.1.1,g.1.2.1,g.1.q.1,g.1.r.1,g.1.t.1,zP g.1.u),g.2) g.1.q.1 k) J) (re (kb J) []) (Qa (Dm.h11 c n l h i a b x j m (Γ Δ (e+1)) z o))))))
  (Qa (Dm.h5 c l h i a b (Γ Δ (x+1)) z))
def yp(x:N zl.sl):=aA [Q8] g7 100000000 (znP x)
def F6(x:N zl.sl):=(yp x).isSome
def LZ(x:N zl.sl):=o1 (yp x)
def zkR:=FT [zl.sl] [Q8] λx=>yp x.1
theorem zfW:FK 107 zkR:=vD.T1 (f:=f107) (keep:=zoW) (e:=zsa)
def zcL:=zcK.addL [(106,zkP),(107,zkR)]
theorem Eu:zm zcL:=vD.addL<|fc zfU<|fc zfW ip
abbrev zol:=fZ [(4,[0,3]),(9,[0,30,31,32])]
inductive Iz where
 |h4 (l0:zH) (i3:Int)
 |h9 (l0:zH) (l30:zH) (i31:Int) (i32:Int)
abbrev zrQ:Iz->Nat×St
 |.h4 l a=>(4,⟨tm 45 [(0,O zl l),(3,I a)],[]⟩)
 |.h9 l x i h=>(9,⟨tm 45 [(0,O zl l),(30,O zl x),(31,I i),(32,I h)],[]⟩)
def zas(x:N zl.sl):K (Iz⊕ac):=br (L ((M x:Int)>12)) (re (I 13) []) (Qa (Iz.h4 x 1))
def nT:Iz->K (Iz⊕ac)
 | .h4 l x=>
  let a:=Γ Δ (x-1)
  let c:=l.getD a.toNat (zk zl)
  let d:=l.getD x.toNat (zk zl)
  br (L (x<(M l:Int)))
  (Qd (zT a (M l))
   (Qd (zT x (M l)) (br (!Op.bytesLess c.1.1 d.1.1) (re (I 15) []) (Qa (Iz.h4 l (Γ Δ (x+1)))))))
  (Qa (Iz.h9 l l (M l:Int) 0))
 | .h9 l h b i=>
  let a:=h.getD i.toNat (zk zl)
  let c:=((a.1.1,a.1.2.1,a.1.q.1,a.1.r.1,a.1.t.1,zP a.1.u),a.2)
  let d:=Nw c
  br (L (i<b))
  (Qd (zT i (M h))
   (Qd (HB c) (br (d !=0) (re (I d) []) (Qa (Iz.h9 l h b (Γ Δ (i+1)))))))
  (Qd (F6 l) (br (!LZ l) (re (I 10) []) (re (I 0) [])))
def sG(x:N zl.sl):=aA [zi] nT 100000000 (zas x)
def jS(x:N zl.sl):=(sG x).isSome
def fI(x:N zl.sl):=o1 (sG x)
def zka:=FT [zl.sl] [zi] λx=>sG x.1
theorem zfc:FK 71 zka:=Eu.T1 (f:=f71) (keep:=zol) (e:=zrQ)
def cX:=zcL.add 71 zka
theorem bl:zm cX:=Eu.add zfc
abbrev ao:Sh:=.pr .str (.pr .str (.pr .str (.pr zN (.pr (.sl zi) zi))))
abbrev an:=N ao
abbrev bF:List CP:=[.d (.sl zl),.d bQ,.d zN,.d zN,.d .str,.d .str,.d .str,.d .str,.nil,.d zi,.nil,.nil,.d .expr,.nil,.d zi]
abbrev al:List CP:=[.d (.sl zl),.d bQ,.d zN,.d zN,.d .str,.d .str,.d .str,.d .str,.vec zu,.d zi,.nil,.nil,.d .expr,.d (.sl zi),.d zi]
abbrev zdM:Nat->aR:=λj=>if j=2 then{slots:=[0,1,7,8]}else{ }
abbrev CI(l:LI)(i:zy)(h x:Int):St:={tmps:=(tm 19 [(0,O zi l),(1,I i),(7,I h),(8,I x)]),heap:=[]}
theorem PF:zJ (cX).P 221 f221 2:=bG kw
theorem zno(x:N zi.sl)(h:zy):rn cX 0 zdM f221 [zI zi.sl x,zI zi h] []=Tr.ok (zM.head 2 (zZ f221 2) (CI x h (M x:Int) 0)):=kw
theorem PO(l:LI)(h:zy)(x i:Int):rh cX 0 zdM f221 2 (CI l h x i)=br (L (i<x)) (Qd (zT i (M l)) (br (h==l.getD i.toNat (zk zi)) (Tr.ok (zM.ret (I i) [])) (Tr.ok (zM.head 2 (zZ f221 2) (CI l h x (Γ Δ (i+1))))))) (Tr.ok (zM.ret (I (-1)) [])):=kw
def eX(h:zy):da->Int->zy
 |[],_=>(-1)
 |x::r,i=>(ite ((h==x)=Z) i (eX h r (i+1)))
variable {C:eS}
theorem Zu(g:∀id,C.ρ0 id=Q2)(d:zy)(l:LI)(n:M l<=af):∀(m i:Nat),M l-i=m->i<=M l->
  Reach (cX) C 221 (zZ f221 2) (CI l d (M l:Int) (i:Int)) (λr h=>bc h [zi] r=some (eX d (l.drop i) i,())):=by
 intro m
 induction m with
 | zero=>
  intro i k j;obtain rfl:i=M l:=by omega
  rw[oO];refine zB bl (PF) (λid _=>g id) (PO _ _ _ _) ?_;generalize b:eX d [] _=y;rw[eX]at b;simp only[aw,Tr.val_brF];exact SY b
 | succ m e=>
  intro i k j;have x:i<M l:=by omega
  have e:=e (i+1);have a:((i:Int)+1)=((i+1:Nat):Int):=by omega
  have c:=zz i S;rw[mj x];refine zB bl (PF) (λid _=>g id) (PO _ _ _ _) ?_;generalize b:eX d (l[i]::l.drop (i+1)) (i:Int)=y;rw[eX]at b;simp only[z6 x,zx x,bt l _ x,c,Tr.val_brT,Tr.val_chkT];clear c
  try simp only[zx x]at b
  simp only[a]at b;exact SZ b e
theorem T4(x:∀id,C.ρ0 id=Q2)(i:zy)(l:LI):
  Reach (cX) C 221 (zZ f221 2) (CI l i (M l:Int) 0) (λr h=>bc h [zi] r=some (eX i l 0,())):=
 Reach.len 0 (Sh.int IntKind.i64) l rfl λa=>Zu x i l a _ 0 rfl (zU _)
def jM(x:N zi.sl)(h:zy):zy:=(eX h x 0)
def zkK:zV:=ay [zi.sl,zi] [zi] λx=>(jM x.1 x.2.1,())
theorem zfQ:FK 221 zkK:=by
 refine z7 (PF) λx C h=>?_
 refine zB bl (PF) (λid _=>h id) (zno x.1 x.2.1) ?_;generalize a:jM x.1 x.2.1=y;unfold jM at a;exact SZ a (T4 h)
abbrev zdN:Nat->aR:=λj=>if j=2 then{slots:=[0,1,7,8]}else{ }
abbrev CJ(l:LS)(s:TS)(i h:Int):St:={tmps:=(tm 19 [(0,O Q7 l),(1,X s),(7,I i),(8,I h)]),heap:=[]}
theorem PG:zJ (cX).P 286 f286 2:=bG kw
theorem znq(x:N Sh.str.sl)(h:TS):rn cX 0 zdN f286 [zI Sh.str.sl x,zI Q7 h] []=Tr.ok (zM.head 2 (zZ f286 2) (CJ x h (M x:Int) 0)):=kw
theorem PP(l:LS)(s:TS)(h i:Int):rh cX 0 zdN f286 2 (CJ l s h i)=br (L (i<h)) (Qd (zT i (M l)) (br (s==l.getD i.toNat (zk Q7)) (Tr.ok (zM.ret (I i) [])) (Tr.ok (zM.head 2 (zZ f286 2) (CJ l s h (Γ Δ (i+1))))))) (Tr.ok (zM.ret (I (-1)) [])):=kw
def iu(s:TS):List (N Q7)->Int->zy
 |[],_=>(-1)
 |x::r,i=>(ite ((s==x)=Z) i (iu s r (i+1)))
theorem Zv(e:∀id,C.ρ0 id=Q2)(s:TS)(l:LS)(k:M l<=af):∀(m i:Nat),M l-i=m->i<=M l->
  Reach (cX) C 286 (zZ f286 2) (CJ l s (M l:Int) (i:Int)) (λr h=>bc h [zi] r=some (iu s (l.drop i) i,())):=by
 intro m
 induction m with
 | zero=>
  intro i j g;obtain rfl:i=M l:=by omega
  rw[oO];refine zB bl (PG) (λid _=>e id) (PP _ _ _ _) ?_;generalize b:iu s [] _=y;rw[iu]at b;simp only[aw,Tr.val_brF];exact SY b
 | succ m d=>
  intro i j g;have x:i<M l:=by omega
  have d:=d (i+1);have a:((i:Int)+1)=((i+1:Nat):Int):=by omega
  have c:=zz i S;rw[mj x];refine zB bl (PG) (λid _=>e id) (PP _ _ _ _) ?_;generalize b:iu s (l[i]::l.drop (i+1)) (i:Int)=y;rw[iu]at b;simp only[z6 x,zx x,bt l _ x,c,Tr.val_brT,Tr.val_chkT];clear c
  try simp only[zx x]at b
  simp only[a]at b;exact SZ b d
theorem T6(x:∀id,C.ρ0 id=Q2)(s:TS)(l:LS):
  Reach (cX) C 286 (zZ f286 2) (CJ l s (M l:Int) 0) (λr h=>bc h [zi] r=some (iu s l 0,())):=
 Reach.len 0 (Q7) l rfl λa=>Zv x s l a _ 0 rfl (zU _)
def Ke(x:N Sh.str.sl)(h:TS):zy:=(iu h x 0)
def zk1:zV:=ay [Sh.str.sl,Q7] [zi] λx=>(Ke x.1 x.2.1,())
theorem zf6:FK 286 zk1:=by
 refine z7 (PG) λx C h=>?_
 refine zB bl (PG) (λid _=>h id) (znq x.1 x.2.1) ?_;generalize a:Ke x.1 x.2.1=y;unfold Ke at a;exact SZ a (T6 h)
abbrev Wh:Nat->aR:=λj=>if j=2 then{slots:=[0,3,7,8]}else{ }
abbrev uf(l:LF)(i x:Int)(j:zy)(h:TS):St:={tmps:=(tm 19 [(0,O zW l),(3,ptr 0 0),(7,I i),(8,I x)]),heap:=[AO.box [I j,X h]]}
theorem G4:zJ (cX).P 283 f283 2:=bG kw
theorem zgX(x:N zW.sl)(h:bV):rn cX 0 Wh f283 [zI zW.sl x,zI zW h] []=Tr.ok (zM.head 2 (zZ f283 2) (uf x (M x:Int) 0 h.1 h.2)):=kw
theorem KB(l:LF)(x i:Int)(j:zy)(h:TS):rh cX 0 Wh f283 2 (uf l x i j h)=br (L (i<x)) (Qd (zT i (M l)) (br (j==(l.getD i.toNat (zk zW)).1&&(h==(l.getD i.toNat (zk zW)).2&&Z)) (Tr.ok (zM.ret (I i) [])) (Tr.ok (zM.head 2 (zZ f283 2) (uf l x (Γ Δ (i+1)) j h))))) (Tr.ok (zM.ret (I (-1)) [])):=kw
def iq(j:zy)(h:TS):eu->Int->zy
 |[],_=>(-1)
 |x::r,i=>(ite ((j==x.1&&(h==x.2&&Z))=Z) i (iq j h r (i+1)))
theorem T0(g:∀id,C.ρ0 id=Q2)(j:zy)(a:TS)(l:LF)(o:M l<=af):∀(m i:Nat),M l-i=m->i<=M l->
  Reach (cX) C 283 (zZ f283 2) (uf l (M l:Int) (i:Int) j a) (λr h=>bc h [zi] r=some (iq j a (l.drop i) i,())):=by
 intro m
 induction m with
 | zero=>
  intro i n k;obtain rfl:i=M l:=by omega
  rw[oO];refine zB bl (G4) (λid _=>g id) (KB _ _ _ _ _) ?_;generalize c:iq j a [] _=y;rw[iq]at c;simp only[aw,Tr.val_brF];exact SY c
 | succ m e=>
  intro i n k;have x:i<M l:=by omega
  have e:=e (i+1);have b:((i:Int)+1)=((i+1:Nat):Int):=by omega
  have d:=zz i S;rw[mj x];refine zB bl (G4) (λid _=>g id) (KB _ _ _ _ _) ?_;generalize c:iq j a (l[i]::l.drop (i+1)) (i:Int)=y;rw[iq]at c;simp only[z6 x,zx x,bt l _ x,d,Tr.val_brT,Tr.val_chkT];clear d
  try simp only[zx x]at c
  simp only[b]at c;exact SZ c e
theorem Re(a:∀id,C.ρ0 id=Q2)(j:zy)(x:TS)(l:LF):
  Reach (cX) C 283 (zZ f283 2) (uf l (M l:Int) 0 j x) (λr h=>bc h [zi] r=some (iq j x l 0,())):=
 Reach.len 0 (zi.pr Q7) l rfl λb=>T0 a j x l b _ 0 rfl (zU _)
def Kd(h:N zW.sl)(x:bV):zy:=(iq x.1 x.2 h 0)
def zbM:zV:=ay [zW.sl,zW] [zi] λx=>(Kd x.1 x.2.1,())
theorem YK:FK 283 zbM:=by
 refine z7 (G4) λx C h=>?_
 refine zB bl (G4) (λid _=>h id) (zgX x.1 x.2.1) ?_;generalize a:Kd x.1 x.2.1=y;unfold Kd at a;exact SZ a (Re h)
abbrev zn0:Nat->aR:=λ_=>{ }
theorem zdT:zJ (cX).P 113 f113 1:=bG kw
theorem znf(x:an):rn cX 0 zn0 f113 [zI ao x] []=br (x.2.2.1==[]) (Tr.ok (zM.ret (O Q7 [x.2.1]) [])) (Tr.ok (zM.ret (O Q7 [x.2.1,x.2.2.1]) [])):=kw
def kT(x:an):N Sh.str.sl:=(ite ((x.2.2.1==[])=Z) [x.2.1] [x.2.1,x.2.2.1])
def zjK:zV:=ay [ao] [Sh.str.sl] λx=>(kT x.1,())
theorem zeH:FK 113 zjK:=by
 refine z7 (zdT) λx C a=>?_
 refine zB bl (zdT) (λid _=>a id) (znf x.1) ?_;generalize h:kT x.1=y;unfold kT at h;exact SY h
def zbJ:zV:=au (List.replicate 2 Q2) (eJ cX f281 (List.replicate 2 Q2))
theorem YH:FK 281 zbJ:=bM _ bl (bG kw)
def xm:=cX.addL [(221,zkK),(286,zk1),(283,zbM),(113,zjK),(281,zbJ)]
theorem p6:zm xm:=bl.addL<|fc zfQ<|fc zf6<|fc YK<|fc zeH<|fc YH ip
end
end Cad
