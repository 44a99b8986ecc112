/- Statements. -/
import Derived.Test.YtjdjldbhjmgmkaaGreatDoorN11
namespace Cad
open Go Go.Proofs Tryz
open List renaming length->Io,map->Qi,drop->Qh,take->Qg,length->N
open IntKind renaming wrap->Γ,i64->Δ
open AV renaming ptr->Qf
open Tr renaming «to»->Q9,chk->I
open AO renaming box->Qa
open Sh renaming bool->Q7,str->Q6,expr->Q5
open Bool renaming true->Z,false->M
open Option renaming none->Q2,some->Y
open Decidable renaming decide->K,decide->Q0
open Int renaming toNat->W
open List (getD)
open List renaming getD->T
open Tr (chk br re)
open AV (nils agg tup ptr kb)
open AV renaming str->X,sl->O
open Cad renaming ai->J,Sem->L,zj->Q,ze->R,ow->S
noncomputable section
set_option maxHeartbeats 4000000
abbrev yA(l:LS)(i:Int):St:={tmps:=[.sl Q6 l,.clo (.func 323) [] [.ptr 0 0],.any,.any,.any,.any,.any,J (N l),J i,.any,.any,.any,.any,.any,.any,.any,.any,.any,.any],heap:=[.box [.clo (.func 282) [] []]]}
theorem Wv(l:LS):run rK 1 CF f345.results.toList 300 (bv f345) (bl f345.ntmps [.sl Q6 l,.clo (.func 323) [] [.ptr 0 0]] [.box [.clo (.func 282) [] []]])=.ok (.head 2 (aq f345 2) (yA l 0)):=kw
theorem W7(l:LS)(i:Int):run rK 1 CF f345.results.toList 300 (aq f345 2) (yA l i)=pY (K:=aq f345 2) (e:=Q6) l (λx=>!dH x) (yA l) [.box [.clo (.func 282) [] []]] i:=kw
theorem zaQ:aa rK.P 345 f345 2:=cM kw
def zsA:fA [Y (.sl Q6),Q2]:=λx h=>match x,h with
 |(l,.clo (.func 323) [] [.ptr 0 0],_),[.box [.clo (.func 282) [] []]]=>.ok (J (al (λx=>!dH x) l 0),[.box [.clo (.func 282) [] []]])
 |_,_=>.err
def zpL:ak:=bj [Y (.sl Q6),Q2] zsA
theorem zkq:FK 345 zpL:=by
 refine dA zaQ λx d c h C a=>?_
 unfold zsA at h;split at h
 .rename_i l u;simp only[Tr.val_ok,bH]at h;subst h;refine Reach.len 0 Q6 l rfl λb=>?_
  refine zL (n0:=1) lR zaQ a (Wv l) ?_;exact lZ l (λx=>!dH x) (yA l) lR zaQ a (W7 l) b _ 0 rfl (aK _)
 .simp at h
abbrev zuj:Nat->aY:=λ_=>{ }
theorem zjJ:aa (rK).P 335 f335 1:=cM kw
theorem ztm(x:L Q5):rn rK 0 zuj f335 [zX Q5 x] []=br (!dW (zw x)) (Tr.ok (zU.ret (tup [X [],J 1]) [])) (I (iG 16 (zw x)) (Tr.ok (zU.ret (tup [X (bn 16 (zw x)),J 0]) []))):=kw
def pQ(x:L Q5):L Q6×zy:=(ite ((!dW x)=Z) ([],1) (bn 16 x,0))
def tk(x:L Q5):Bool:=(ite ((!dW x)=Z) Z (ite (iG 16 x=Z) Z M))
def zpI:ak:=af [Q5] [Q6,zk] (λx=>tk x.1) λx=>((pQ x.1).1,(pQ x.1).2,())
theorem zkn:FK 335 zpI:=by
 refine bb (zjJ) λx h C b=>?_
 unfold tk at h;refine zL lR (zjJ) (λid _=>b id) (ztm x.1) ?_;generalize a:pQ x.1=y;unfold pQ at a
 try simp only[zg.eta]
 exact M8 a h
abbrev zu4:Nat->aY:=λj=>if j=3 then{slots:=[0,4,5],prom:=[(4,Q2,ly)]}else{ }
abbrev PZ(s:TS)(i:Int)(l:LF):St:={tmps:=(tm 47 [(0,X s),(4,AV.vec 0),(5,J i)]),heap:=[AO.vec zI l]}
theorem zoq:aa (rK).P 256 f256 1:=cM kw
theorem zyW(x:TS):rn rK 0 zu4 f256 [zX Q6 x] []=Tr.ok (zU.head 3 (aq f256 3) (PZ x 0 [])):=kw
theorem zoy(s:TS)(i:Int)(l:LF):rh rK 0 zu4 f256 3 (PZ s i l)=let h:=(N s:Int);let a:=Qg (h.toNat-i.toNat) (Qh i.toNat s);let x:=(↑(T s i.toNat 0).toNat:Int);br (K (i<h)) (I (zK i (N s)&&bif x==32 then Z else zK i (N s)) (br (cond (x==32) Z (x==10)) (Tr.ok (zU.head 3 (aq f256 3) (PZ s (Γ Δ (i+1)) l))) (I (K (0<=i)&&K (i<=h)&&K (h<=h)) (I (mb a) (I (uu (cj a).1) (br (cond (!dJ (cj a).1) Z ((N l:Int)==400)) (Tr.ok (zU.ret (tup [nils,J 2]) [])) (I (K (N l+[(cj a).1].length<=1073741824)) (Tr.ok (zU.head 3 (aq f256 3) (PZ s (Γ Δ (i+(cj a).2)) (l++[(cj a).1]))))))))))) (Tr.ok (zU.ret (tup [AV.vec 0,J 0]) [AO.vec zI l])):=kw
def w7:Nat->(Sem Sh.str)->Int->dK->Sem ly.sl×zy
 |0,_,_,_=>default
 |n+1,s,i,l=>(if K (i<(N s:Int))=Z then
 if(cond ((↑(T s i.toNat 0).toNat:Int)==32) Z ((↑(T s i.toNat 0).toNat:Int)==10))=Z then
  w7 n s (Γ Δ (i+1)) l
 else
  if
    (bif !dJ (cj (Qg ((N s:Int).toNat-i.toNat) (Qh i.toNat s))).1 then Z
     else(N l:Int)==400)=
     Z then
   ([],2)
  else
   w7 n s (Γ Δ (i+(cj (Qg ((N s:Int).toNat-i.toNat) (Qh i.toNat s))).2))
    (l++[(cj (Qg ((N s:Int).toNat-i.toNat) (Qh i.toNat s))).1])
else(l,0))
def vJ:Nat->(Sem Sh.str)->Int->dK->Bool
 |0,_,_,_=>M
 |n+1,s,i,l=>(if K (i<(N s:Int))=Z then
 if (zK i (Io s)&&bif (↑(getD s i.toNat 0).toNat:Int)==32 then true else zK i (Io s))=true then
  if(cond ((↑(T s i.toNat 0).toNat:Int)==32) Z ((↑(T s i.toNat 0).toNat:Int)==10))=Z then
   vJ n s (Γ Δ (i+1)) l
  else
   if (decide (0≤i)&&decide (i≤(Io s:Int))&&decide ((Io s:Int)≤(Io s:Int)))=true then
    if mb (List.take ((Io s:Int).toNat-i.toNat) (List.drop i.toNat s))=true then
     if uu (cj (List.take ((Io s:Int).toNat-i.toNat) (List.drop i.toNat s))).1=true then
      if
        (bif !dJ (cj (Qg ((N s:Int).toNat-i.toNat) (Qh i.toNat s))).1 then Z
         else(N l:Int)==400)=
         Z then
       Z
      else
       if
         K (N l+[(cj (Qg ((N s:Int).toNat-i.toNat) (Qh i.toNat s))).1].length<=1073741824)=
          Z then
        vJ n s (Γ Δ (i+(cj (Qg ((N s:Int).toNat-i.toNat) (Qh i.toNat s))).2))
         (l++[(cj (Qg ((N s:Int).toNat-i.toNat) (Qh i.toNat s))).1])
       else M
     else M
    else M
   else M
 else M
else Z)
theorem Yh{C:eU}(b:∀id,C.ρ0 id=Q2):∀(n:Nat)(s:TS)(i:Int)(l:LF),vJ n s i l=Z->
  Reach (rK) C 256 (aq f256 3) (PZ s i l) (λr h=>aX h [ly.sl,zk] r=Y ((w7 n s i l).1,(w7 n s i l).2,()))
 |0,s,i,l,x=>by cases x
 | n+1,s,i,l,x=>by
  refine zL lR (zoq) (λid _=>b id) (zoy _ _ _) ?_;rw[vJ]at x;generalize a:w7 (n+1) s i l=y;rw[w7]at a
  skip
  repeat' (first|with_reducible refine obr a x (λ_ a x=>?_) (λ_ a x=>?_)|with_reducible refine FU a (λ_ a=>?_) (λ_ a=>?_)|with_reducible refine Lr x (λx=>?_)|with_reducible refine eo ?_)
  all_goals first|(cases x;done)|(subst a;first|(change Reach _ _ _ _ _ _;refine Yh b n _ _ _ ?_<;>exact x)|rfl)
def cut(x:TS):L ly.sl×zy:=(w7 (N x+1) x 0 [])
def YE(x:TS):Bool:=(vJ (N x+1) x 0 [])
def F69:ak:=af [Q6] [ly.sl,zk] (λx=>YE x.1) λx=>((cut x.1).1,(cut x.1).2,())
theorem zr6:FK 256 F69:=by
 refine bb (zoq) λx h C b=>?_
 unfold YE at h;refine zL lR (zoq) (λid _=>b id) (zyW x.1) ?_;generalize a:cut x.1=y;unfold cut at a
 try simp only[zg.eta,zn]
 repeat' (first|with_reducible refine obr a h (λ_ a h=>?_) (λ_ a h=>?_)|with_reducible refine FU a (λ_ a=>?_) (λ_ a=>?_)|with_reducible refine Lr h (λh=>?_)|with_reducible refine eo ?_)
 all_goals first|(cases h;done)|(subst a;first|(change Reach _ _ _ _ _ _;refine Yh b _ _ _ _ ?_<;>exact h)|rfl)
def NZ:=rK.addL [(345,zpL),(335,zpI),(256,F69)]
theorem Au:zx NZ:=lR.addL<|fc zkq<|fc zkn<|fc zr6 iP
def zpA:ak:=bj (List.replicate 2 Q2) (ff NZ f322 (List.replicate 2 Q2))
theorem zkf:FK 322 zpA:=cr _ Au (cM kw)
abbrev zzx:Nat->aY:=λ_=>{ }
theorem zwf:aa (NZ).P 296 f296 1:=cM kw
theorem zy6(x:L Q5):rn NZ 0 zzx f296 [zX Q5 x] []=I (tk (zw x)) (Tr.ok (zU.ret (X (pQ (zw x)).1) [])):=kw
def jF(x:L Q5):L Q6:=((pQ x).1)
def sW(x:L Q5):Bool:=(ite (tk x=Z) Z M)
def F94:ak:=af [Q5] [Q6] (λx=>sW x.1) λx=>(jF x.1,())
theorem zst:FK 296 F94:=by
 refine bb (zwf) λx h C b=>?_
 unfold sW at h;refine zL Au (zwf) (λid _=>b id) (zy6 x.1) ?_;generalize a:jF x.1=y;unfold jF at a
 try simp only[zg.eta]
 exact M8 a h
def N0:=NZ.addL [(322,zpA),(296,F94)]
theorem Av:zx N0:=Au.addL<|fc zkf<|fc zst iP
def F86:ak:=bj (List.replicate 4 Q2) (ff N0 f288 (List.replicate 4 Q2))
theorem zsl:FK 288 F86:=cr _ Av (cM kw)
abbrev zzy:Nat->aY:=λ_=>{ }
theorem zwg:aa (N0).P 300 f300 2:=cM kw
theorem zy8(x:TS)(h:L Q5):rn N0 0 zzy f300 [zX Q6 x,zX Q5 h] []=let a:=zw h;br (iX a) (Tr.ok (zU.ret (X []) [])) (I (K (N x+N NE<=1099511627776)) (I (sW a) (I (K (N (x++NE)+N (jF a)<=1099511627776)) (I (K (N (x++NE++jF a)+N jm<=1099511627776)) (Tr.ok (zU.ret (X (x++NE++jF a++jm)) [])))))):=kw
def ml(h:TS)(x:L Q5):L Q6:=(ite (iX x=Z) [] (h++NE++jF x++jm))
def wV(h:TS)(x:L Q5):Bool:=(ite (iX x=Z) Z (ite (K (N h+N NE<=1099511627776)=Z) (ite (sW x=Z) (ite (K (N (h++NE)+N (jF x)<=1099511627776)=Z) (ite (K (N (h++NE++jF x)+N jm<=1099511627776)=Z) Z M) M) M) M))
def F98:ak:=af [Q6,Q5] [Q6] (λx=>wV x.1 x.2.1) λx=>(ml x.1 x.2.1,())
theorem zsv:FK 300 F98:=by
 refine bb (zwg) λx h C b=>?_
 unfold wV at h;refine zL Av (zwg) (λid _=>b id) (zy8 x.1 x.2.1) ?_;generalize a:ml x.1 x.2.1=y;unfold ml at a
 try simp only[zg.eta]
 exact M8 a h
def zio:=N0.addL [(288,F86),(300,F98)]
theorem Wl:zx zio:=Av.addL<|fc zsl<|fc zsv iP
def zw0(h:zS):L Q7:=(cond (cond (K ((N h.2.2.2.2.1:Int)<1)) Z (K ((N h.2.2.2.2.1:Int)>8))) M (bif !Q0 (al (λx=>!zsR x) h.2.2.2.2.1 0>=0)then bif dH h.2.2.2.2.2.1 then bif bif K ((N h.2.2.2.2.2.2.1:Int)<0)then Z else K ((N h.2.2.2.2.2.2.1:Int)>8)then M else bif !Q0 (al (λx=>!dH x) h.2.2.2.2.2.2.1 0>=0)then bif bif K ((N h.2.2.2.2.2.2.2.1:Int)<0)then Z else K ((N h.2.2.2.2.2.2.2.1:Int)>8)then M else bif !Q0 (al (λx=>!zwx x) h.2.2.2.2.2.2.2.1 0>=0)then da h.2.2.2.2.2.2.2.2.1 else M else M else M else M))
def ziq:=zio
theorem Aw:zx ziq:=Wl
def xu(h:zS):Tr (Empty⊕ay):=
 let A:=zw h.x.1
 let D:=zw h.s.1
 let F:=(h.y.1,h.z.1,D,h.p)
 let G:=(h.1,[],h.q.1,h.r.1,h.t.1,h.u.1,h.v.1,h.w.1,A,F)
 let B:=bif dH h.2.1 then da D else M
 let C:=(h.1,[],h.q.1,h.r.1,h.t.1,h.u.1,h.v.1,h.w.1,A,h.y.1,h.z.1,zg.mk [] (0,0,[]) [] [],h.p)
 let H:=dH h.p
 let b:=bif dH h.2.1 then H else M
 let P:=(h.y.1,h.z.1,D,[])
 let c:=(h.1,[],h.q.1,h.r.1,h.t.1,h.u.1,h.v.1,h.w.1,A,P)
 let d:=dH h.q.1
 let a:=(N h.r.1:Int)
 let E:=al (λx=>!dH x) h.r.1 0
 let e:=da A
 let g:=bif !Q0 (E>=0)then e else M
 let i:=bif dH h.2.1 then bif d then bif bif K (a<1)then Z else K (a>8)then M else g else M else M
 let j:=(h.1,[],[],[],h.t.1,h.u.1,h.v.1,h.w.1,zg.mk [] (0,0,[]) [] [],F)
 let k:=gw j
 let l:=iU j
 let m:=bif dH h.2.1 then bif d then bif dH h.u.1 then bif H then e else M else M else M else M
 let n:=(h.1,[],[],h.r.1,h.t.1,[],h.v.1,h.w.1,zg.mk [] (0,0,[]) [] [],P)
 let o:=bif dH h.2.1 then bif d then bif bif K (a<2)then Z else K (a>2)then M else g else M else M
 br (h.1==QW) (br (dH h.2.1) Tr.err (re (kb M) []))
 (br (h.1==bl1)
  (I (cond (dH h.2.1) (gw G) Z) (re (AV.bool (cond (dH h.2.1) (iU G) M)) []))
  (br (h.1==bl3) (br (dH h.2.1) Tr.err (re (kb M) [])) (br (h.1==ND) (br (dH h.2.1) Tr.err (re (kb M) [])) (br (h.1==bl0) (I (cond B (gw C) Z) (re (AV.bool (cond B (iU C) M)) []))
  (br (h.1==KJ) (I (cond B (gw C) Z) (re (AV.bool (cond B (iU C) M)) [])) (br (h.1==bl9) (I (cond b (gw c) Z) (re (AV.bool (cond b (iU c) M)) []))
  (br (h.1==QS) (I (cond b (gw c) Z) (re (AV.bool (cond b (iU c) M)) [])) (br (h.1==QQ) (I (cond b (gw c) Z) (re (AV.bool (cond b (iU c) M)) [])) (br (h.1==QR)
  (I (cond b (gw c) Z) (re (AV.bool (cond b (iU c) M)) [])) (br (h.1==dp) (I (cond i k Z) (re (AV.bool (cond i l M)) [])) (br (h.1==fD) (I (cond m (gw n) Z) (re (AV.bool (cond m (iU n) M)) []))
  (br (h.1==na) (I (cond o k Z) (re (AV.bool (cond o l M)) [])) (re (kb M) [])))))))))))))
def DE(x:zS):=am [Q7] t0 100000000 (xu x)
def yB(x:zS):=(DE x).isSome
def iu(x:zS):=o1 (DE x)
def zg7:=FT [aB] [Q7] λx=>DE x.1
theorem zc5:FK 254 zg7:=Aw.T1 (f:=f254) (keep:=k0) (e:=e0)
def B4(h:zS):Tr (Empty⊕ay):=
 let H:=K (N h.1<=140737488355328)&&List.all h.1 λb=>K (b.toNat<128)
 let a1:=Ys++Lib.toUpperA h.1
 let a2:=a1++[32]
 let a3:=a2++h.2.1
 let a4:=a3++mj
 let P:=zmC++Lib.toUpperA h.1
 let U:=P++Cz
 let a7:=U++h.2.1
 let G:=a7++QV
 let F:=Qg ((N h.1:Int).toNat-W 2) (Qh (W 2) h.1)
 let e:=Lib.toUpperA F
 let g:=zmG++e
 let i:=g++Cz
 let j:=i++h.2.1
 let d:=j++mj
 let a:=a4++h.q.1
 let l:=a++Cy
 let m:=iD h.r.1
 let n:=l++m
 let o:=zw h.x.1
 let k:=wV [32] o
 let s:=n++jm
 let c:=ml [32] o
 let t:=a++fO
 let v:=t++h.p
 let w:=v++Cz
 let y:=w++h.u.1
 let z:=a++VP
 let A:=T h.r.1 (W 0) (Q Q6)
 let B:=z++A
 let C:=B++VQ
 let D:=T h.r.1 (W 1) (Q Q6)
 let E:=C++D
 I H
 (I (K (N Ys+(Lib.toUpperA h.1).length<=1099511627776))
  (I (K (N a1+[32].length<=1099511627776)) (I (K (N a2+N h.2.1<=1099511627776)) (I (K (N a3+N mj<=1099511627776)) (I (K (N a4+N h.q.1<=1099511627776)) (br (h.1==QW) Tr.err (br (h.1==bl1)
  (I (K (N zeu+N h.2.1<=1099511627776)) (re (X (zeu++h.2.1)) [])) (br (h.1==bl3) (I (K (N Yq+N h.2.1<=1099511627776)) (I (decide
  (N (Yq++h.2.1)+N zeo<=1099511627776)) Tr.err)) (br (h.1==ND) (I (K (N Yt+N h.2.1<=1099511627776))
  (I (K (N (Yt++h.2.1)+N zen<=1099511627776)) Tr.err)) (br (h.1==bl0) (I (K (N zes+N h.2.1<=1099511627776)) Tr.err) (br (h.1==KJ)
  (I (K (N zeB+N h.2.1<=1099511627776)) Tr.err) (br (h.1==bl9) (I H (I (K (N zmC+(Lib.toUpperA h.1).length<=1099511627776)) (I (K (N P+N Cz<=1099511627776))
  (I (K (N U+N h.2.1<=1099511627776)) (I (K (N a7+N QV<=1099511627776)) (I (K (N G+N h.p<=1099511627776)) (re (X (G++h.p)) []))))))) (br (h.1==QS) (I H
  (I (K (N zmC+(Lib.toUpperA h.1).length<=1099511627776)) (I (K (N P+N Cz<=1099511627776)) (I (K (N U+N h.2.1<=1099511627776)) (I (K (N a7+N QV<=1099511627776))
  (I (K (N G+N h.p<=1099511627776)) (re (X (G++h.p)) []))))))) (br (h.1==QQ) (I (K (0<=2)&&K (2<=(N h.1:Int))&&K ((N h.1:Int)<=(N h.1:Int)))
  (I (K (N F<=140737488355328)&&F.all λb=>K (b.toNat<128)) (I (K (N zmG+N e<=1099511627776)) (I (K (N g+N Cz<=1099511627776)) (I (K (N i+N h.2.1<=1099511627776))
  (I (K (N j+N mj<=1099511627776)) (I (K (N d+N h.p<=1099511627776)) (re (X (d++h.p)) [])))))))) (br (h.1==QR) (I (K (0<=2)&&K (2<=(N h.1:Int))&&
  K ((N h.1:Int)<=(N h.1:Int))) (I (K (N F<=140737488355328)&&F.all λb=>K (b.toNat<128)) (I (K (N zmG+N e<=1099511627776)) (I (K (N g+N Cz<=1099511627776)) (I (K (N i+N h.2.1<=1099511627776))
  (I (K (N j+N mj<=1099511627776)) (I (K (N d+N h.p<=1099511627776)) (re (X (d++h.p)) [])))))))) (br (h.1==dp) (I (K (N a+N Cy<=1099511627776)) (I (pt h.r.1)
  (I (K (N l+N m<=1099511627776)) (I (K (N n+N jm<=1099511627776)) (I k (I (K (N s+N c<=1099511627776)) (re (X (s++c)) []))))))) (br (h.1==fD) (I (K (N a+N fO<=1099511627776))
  (I (K (N t+N h.p<=1099511627776)) (I (K (N v+N Cz<=1099511627776)) (I (K (N w+N h.u.1<=1099511627776)) (I k (I (K (N y+N c<=1099511627776)) (re (X (y++c)) [])))))))
  (I (K (N a+N VP<=1099511627776)) (I (zK 0 (N h.r.1)) (I (K (N z+N A<=1099511627776)) (I (K (N B+N VQ<=1099511627776)) (I (zK 1 (N h.r.1)) (I (K (N C+N D<=1099511627776)) (I k
  (I (K (N E+N c<=1099511627776)) (re (X (E++c)) []))))))))))))))))))))))))))
def MA(x:zS):=am [Q6] t0 100000000 (B4 x)
def G4(x:zS):=(MA x).isSome
def nM(x:zS):=o1 (MA x)
def zg8:=FT [aB] [Q6] λx=>MA x.1
theorem zc6:FK 255 zg8:=Aw.T1 (f:=f255) (keep:=k0) (e:=e0)
def TB:=ziq.addL [(254,zg7),(255,zg8)]
theorem IN:zx TB:=Aw.addL<|fc zc5<|fc zc6<|iP
abbrev zzp:Nat->aY:=λ_=>{ }
theorem zvX:aa (TB).P 202 f202 1:=cM kw
theorem zyM(x:zS):rn TB 0 zzp f202 [zX aB x] []=let a:=(zeZ x);let h:=Tr.ok (zU.ret (tup [X [],J 1]) []);I (yB a) (br (!iu a) h (I (G4 a) (I (YE (nM a)) (br ((cut (nM a)).2!=0) h (Tr.ok (zU.ret (tup [X (nM a),J 0]) [])))))):=kw
def sH(x:zS):L Q6×zy:=(ite ((!iu x)=Z) ([],1) (ite (((cut (nM x)).2!=0)=Z) ([],1) (nM x,0)))
def yF(x:zS):Bool:=(ite (yB x=Z) (ite ((!iu x)=Z) Z (ite (G4 x=Z) (ite (YE (nM x)=Z) Z M) M)) M)
def F52:ak:=af [aB] [Q6,zk] (λx=>yF x.1) λx=>((sH x.1).1,(sH x.1).2,())
theorem zrT:FK 202 F52:=by
 refine bb (zvX) λx h C b=>?_
 unfold yF at h;refine zL IN (zvX) (λid _=>b id) (zyM x.1) ?_;generalize a:sH x.1=y;unfold sH at a
 try simp only[TK]
 exact M8 a h
def TC:=TB.add 202 F52
theorem IP:zx TC:=IN.add zrT
abbrev zzo:Nat->aY:=λ_=>{ }
theorem zvJ:aa (TC).P 144 f144 1:=cM kw
theorem zyu(x:zS):rn TC 0 zzo f144 [zX aB x] []=let a:=(zeZ x);I (yF a) (Tr.ok (zU.ret (AV.bool ((sH a).2==0)) [])):=kw
def fx(x:zS):L Q7:=((sH x).2==0)
def qB(x:zS):Bool:=(ite (yF x=Z) Z M)
def F31:ak:=af [aB] [Q7] (λx=>qB x.1) λx=>(fx x.1,())
theorem zrA:FK 144 F31:=by
 refine bb (zvJ) λx h C b=>?_
 unfold qB at h;refine zL IP (zvJ) (λid _=>b id) (zyu x.1) ?_;generalize a:fx x.1=y;unfold fx at a
 try simp only[TK]
 exact M8 a h
def qN:=TC.add 144 F31
theorem jX:zx qN:=IP.add zrA
def zri:ak:=bj (List.replicate 2 Q2) (ff qN f259 (List.replicate 2 Q2))
theorem zl4:FK 259 zri:=cr _ jX (cM kw)
abbrev zus:Nat->aY:=λ_=>{ }
theorem zjL:aa (qN).P 54 f54 1:=cM kw
theorem ztq(x:TS):rn qN 0 zus f54 [zX Q6 x] []=br (K ((N x:Int)>20)) (I (K (0<=0)&&K (0<=20)&&K (20<=(N x:Int))) (Tr.ok (zU.ret (X (Qg (W 20-W 0) (Qh (W 0) x))) []))) (Tr.ok (zU.ret (X x) [])):=kw
def dQ(x:TS):L Q6:=(ite (K ((N x:Int)>20)=Z) (Qg (W 20-W 0) (Qh (W 0) x)) x)
def gp(x:TS):Bool:=(ite (K ((N x:Int)>20)=Z) (ite ((K (0<=0)&&K (0<=20)&&K (20<=(N x:Int)))=Z) Z M) Z)
def zp4:ak:=af [Q6] [Q6] (λx=>gp x.1) λx=>(dQ x.1,())
theorem zkK:FK 54 zp4:=by
 refine bb (zjL) λx h C b=>?_
 unfold gp at h;refine zL jX (zjL) (λid _=>b id) (ztq x.1) ?_;generalize a:dQ x.1=y;unfold dQ at a;exact M8 a h
abbrev zn3:Nat->aY:=λ_=>{ }
theorem zaR:aa (qN).P 119 f119 3:=cM kw
theorem zmZ(h:L ze.sl)(x:zy)(a:zo):rn qN 0 zn3 f119 [zX ze.sl h,zX zk x,zX R a] []=let b:=T h (W x) (Q R);I (cond (K (x>=0)) (cond (K (x<(N h:Int))) (zK x (N h)) Z) Z) (Tr.ok (zU.ret (AV.bool (cond (K (x>=0)) (cond (K (x<(N h:Int))) (b.1==a.1&&(b.2.1==a.2.1&&(b.2.2==a.2.2&&Z))) M) M)) [])):=kw
def bG(h:L ze.sl)(x:zy)(a:zo):L Q7:=(cond (K (x>=0)) (cond (K (x<(N h:Int))) ((T h (W x) (Q R)).1==a.1&&((T h (W x) (Q R)).2.1==a.2.1&&((T h (W x) (Q R)).2.2==a.2.2&&Z))) M) M)
def Dy(h:L ze.sl)(x:zy)(_:zo):Bool:=(ite ((cond (K (x>=0)) (cond (K (x<(N h:Int))) (zK x (N h)) Z) Z)=Z) Z M)
def zhF:ak:=af [ze.sl,zk,R] [Q7] (λx=>Dy x.1 x.2.1 x.q.1) λx=>(bG x.1 x.2.1 x.q.1,())
theorem S6:FK 119 zhF:=by
 refine bb (zaR) λx h C b=>?_
 unfold Dy at h;refine zL jX (zaR) (λid _=>b id) (zmZ x.1 x.2.1 x.q.1) ?_;generalize a:bG x.1 x.2.1 x.q.1=y;unfold bG at a;exact M8 a h
abbrev zjx:Nat->aY:=λj=>if j=2 then{slots:=[0,1,5]}else{ }
abbrev GW(l:zT)(s:TS)(i:Int):St:={tmps:=(tm 21 [(0,O zl l),(1,X s),(5,J i)]),heap:=[]}
theorem Ud:aa (qN).P 61 f61 2:=cM kw
theorem zto(x:L zl.sl)(h:TS):rn qN 0 zjx f61 [zX zl.sl x,zX Q6 h] []=Tr.ok (zU.head 2 (aq f61 2) (GW x h 0)):=kw
theorem Um(l:zT)(s:TS)(i:Int):rh qN 0 zjx f61 2 (GW l s i)=br (K (i<(N l:Int))) (I (zK i (N l)) (br ((l.getD i.toNat (Q zl)).1.1==s) (Tr.ok (zU.ret (J i) [])) (Tr.ok (zU.head 2 (aq f61 2) (GW l s (Γ Δ (i+1))))))) (Tr.ok (zU.ret (J (-1)) [])):=kw
def iC(s:TS):List
 ag->Int->zy
 |[],_=>(-1)
 |x::r,i=>(ite ((x.1.1==s)=Z) i (iC s r (i+1)))
variable {C:eU}
theorem zd7(e:∀id,C.ρ0 id=Q2)(s:TS)(l:List
 ag) (k:N l<=aF):∀(m i:Nat),N l-i=m->i<=N l->
  Reach (qN) C 61 (aq f61 2) (GW l s (i:Int)) (λr h=>aX h [zk] r=Y (iC s (l.drop i) i,())):=by
 intro m
 induction m with
 | zero=>
  intro i j g;obtain rfl:i=N l:=by omega
  rw[kE];refine zL jX (Ud) (λid _=>e id) (Um _ _ _) ?_;generalize b:iC s [] _=y;rw[iC]at b;simp only[zJ,Tr.val_brF];exact UW b
 | succ m d=>
  intro i j g;have x:i<N l:=by omega
  have d:=d (i+1);have a:((i:Int)+1)=((i+1:Nat):Int):=by omega
  have c:=zt i S;rw[gF x];refine zL jX (Ud) (λid _=>e id) (Um _ _ _) ?_;generalize b:iC s (l[i]::l.drop (i+1)) (i:Int)=y;rw[iC]at b;simp only[zM x,zu x,dq l _ x,c,Tr.val_brT,Tr.val_chkT];clear c
  try simp only[zu x]at b
  simp only[a]at b;exact PW b d
theorem Yd(x:∀id,C.ρ0 id=Q2)(s:TS)(l:List
 ag):
  Reach (qN) C 61 (aq f61 2) (GW l s 0) (λr h=>aX h [zk] r=Y (iC s l 0,())):=
 Reach.len 0 zl l rfl λa=>zd7 x s l a _ 0 rfl (aK _)
def mO(x:L zl.sl)(h:TS):zy:=(iC h x 0)
def zpM:ak:=ba [zl.sl,Q6] [zk] λx=>(mO x.1 x.2.1,())
theorem zkr:FK 61 zpM:=by
 refine az (Ud) λx C h=>?_
 refine zL jX (Ud) (λid _=>h id) (zto x.1 x.2.1) ?_;generalize a:mO x.1 x.2.1=y;unfold mO at a;exact PW a (Yd h)
def uT:=qN.addL [(259,zri),(54,zp4),(119,zhF),(61,zpM)]
theorem lS:zx uT:=jX.addL<|fc zl4<|fc zkK<|fc S6<|fc zkr iP
theorem Mn(x:fy)(c:Int)(v:zo):Dy x c v=Z:=by
 unfold Dy;by_cases h:(c:Int)>=0
 .by_cases a:c<(N x:Int)
  .have b:zK c (N x)=Z:=by simp[zK];exact⟨h,a⟩
   simp[zC h,zC a,b]
  .simp[zC h,aC a]
 .simp[aC h]
def zhG:ak:=ba [Sh.sl R,zk,R] [Q7] λx=>(bG x.1 x.2.1 x.q.1,())
theorem zdD:FK 119 zhG:=pC S6 λx=>Mn x.1 x.2.1 x.q.1
abbrev zjz:Nat->aY:=λj=>if j=3 then{slots:=[0,3,4],prom:=[(3,Q2,.str)]}else{ }
abbrev GX(h:LS)(i:Int)(l:LS):St:={tmps:=(tm 24 [(0,O Q6 h),(3,AV.vec 0),(4,J i)]),heap:=[AO.vec Q6 l]}
theorem Ue:aa (uT).P 55 f55 1:=cM kw
theorem ztr(x:L Sh.str.sl):rn uT 0 zjz f55 [zX Sh.str.sl x] []=Tr.ok (zU.head 3 (aq f55 3) (GX x 0 [])):=kw
theorem Un(h:LS)(i:Int)(l:LS):rh uT 0 zjz f55 3 (GX h i l)=br (cond (K (i<(N h:Int))) (K (i<10)) M) (I (zK i (N h)) (I (gp (h.getD i.toNat (Q Q6))) (I (K (N l+[dQ (h.getD i.toNat (Q Q6))].length<=1073741824)) (Tr.ok (zU.head 3 (aq f55 3) (GX h (Γ Δ (i+1)) (l++[dQ (h.getD i.toNat (Q Q6))]))))))) (Tr.ok (zU.ret (AV.vec 0) [AO.vec Q6 l])):=kw
def fm:List (L Q6)->Int->List (L Q6)->L Sh.str.sl
 |[],_,l=>(l)
 |x::r,i,l=>(ite (K (i<10)=Z) (fm r (i+1) (l++[dQ x])) l)
def gM:List (L Q6)->Int->List (L Q6)->Bool
 |[],_,_=>(Z)
 |x::r,i,l=>(if K (i<10)=Z then
 if gp x=Z then if K (N l+[dQ x].length<=1073741824)=Z then gM r (i+1) (l++[dQ x])else M else M
else Z)
theorem zd8(j:∀id,C.ρ0 id=Q2)(b:LS)(o:N b<=aF):∀(m i:Nat)(l:LS),N b-i=m->i<=N b->gM (b.drop i) i l=Z->
  Reach (uT) C 55 (aq f55 3) (GX b (i:Int) l) (λr h=>aX h [Sh.str.sl] r=Y (fm (b.drop i) i l,())):=by
 intro m
 induction m with
 | zero=>
  intro i l n k c;obtain rfl:i=N b:=by omega
  rw[kE]at c|-;refine zL lS (Ue) (λid _=>j id) (Un _ _ _) ?_;rw[gM]at c;generalize d:fm [] _ l=y;rw[fm]at d;simp only[zJ,aJ,Tr.val_brF];exact M8 d c
 | succ m g=>
  intro i l n k c;have x:i<N b:=by omega
  have g:=g (i+1);have a:((i:Int)+1)=((i+1:Nat):Int):=by omega
  have e:=zt i S;rw[gF x]at c|-;refine zL lS (Ue) (λid _=>j id) (Un _ _ _) ?_;rw[gM]at c;generalize d:fm (b[i]::b.drop (i+1)) (i:Int) l=y;rw[fm]at d;simp only[zM x,zu x,dq b _ x,e,aG];clear e
  try simp only[zu x]at d
  simp only[a]at d
  try simp only[zu x]at c
  try simp only[a]at c
  exact zgd d c g
theorem Ye(a:∀id,C.ρ0 id=Q2)(x l:LS)(b:gM x 0 l=Z):
  Reach (uT) C 55 (aq f55 3) (GX x 0 l) (λr h=>aX h [Sh.str.sl] r=Y (fm x 0 l,())):=
 Reach.len 0 (Q6) x rfl λc=>zd8 a x c _ 0 l rfl (aK _) b
def lG(x:L Sh.str.sl):L Sh.str.sl:=(fm x 0 [])
def rZ(x:L Sh.str.sl):Bool:=(gM x 0 [])
def zp7:ak:=af [Sh.str.sl] [Sh.str.sl] (λx=>rZ x.1) λx=>(lG x.1,())
theorem zkN:FK 55 zp7:=by
 refine bb (Ue) λx a C h=>?_
 unfold rZ at a;refine zL lS (Ue) (λid _=>h id) (ztr x.1) ?_;generalize b:lG x.1=y;unfold lG at b;exact zgd b a (Ye h)
abbrev DC(s:zN)(l:zT)(i:Int):St:={tmps:=[.sl zl l,.clo (.func 259) [] [.ptr 0 0],.any,.any,.any,.any,.any,J (N l),J i,.any,.any,.any,.any,.any,.any,.any,.any,.any,.any],heap:=[.box [.str s]]}
theorem ZI(s:zN)(l:zT):run uT 1 CF f258.results.toList 300 (bv f258) (bl f258.ntmps [.sl zl l,.clo (.func 259) [] [.ptr 0 0]] [.box [.str s]])=.ok (.head 2 (aq f258 2) (DC s l 0)):=kw
theorem za5(s:zN)(l:zT)(i:Int):run uT 1 CF f258.results.toList 300 (aq f258 2) (DC s l i)=pY (K:=aq f258 2) (e:=zl) l (λx=>x.1.1==s) (DC s l) [.box [.str s]] i:=kw
theorem zaY:aa uT.P 258 f258 2:=cM kw
def zsC:fA [Y (.sl zl),Q2]:=λx h=>match x,h with
 |(l,.clo (.func 259) [] [.ptr 0 0],_),[.box [.str s]]=>.ok (J (al (λx=>x.1.1==s) l 0),[.box [.str s]])
 |_,_=>.err
def zrh:ak:=bj [Y (.sl zl),Q2] zsC
theorem zl2:FK 258 zrh:=by
 refine dA zaY λx d c h C a=>?_
 unfold zsC at h;split at h
 .rename_i l u s;simp only[Tr.val_ok,bH]at h;subst h;refine Reach.len 0 zl l rfl λb=>?_
  refine zL (n0:=1) lS zaY a (ZI s l) ?_;exact lZ l (λx=>x.1.1==s) (DC s l) lS zaY a (za5 s l) b _ 0 rfl (aK _)
 .simp at h
def N1:=uT.addL [(119,zhG),(55,zp7),(258,zrh)]
theorem Ax:zx N1:=lS.addL<|fc zdD<|fc zkN<|fc zl2 iP
def zhE:ak:=bj (List.replicate 3 Q2) (ff N1 f303 (List.replicate 3 Q2))
theorem zdC:FK 303 zhE:=cr _ Ax (cM kw)
abbrev zuT:Nat->aY:=λ_=>{ }
theorem zjO:aa (N1).P 205 f205 2:=cM kw
theorem ztu(h:L zl.sl)(a:TS):rn N1 0 zuT f205 [zX zl.sl h,zX Q6 a] []=Tr.ok (zU.ret (J (al (λx=>x.1.1==a) h 0)) []):=kw
def ao(h:L zl.sl)(a:TS):zy:=(al (λx=>x.1.1==a) h 0)
def zqF:ak:=ba [zl.sl,Q6] [zk] λx=>(ao x.1 x.2.1,())
theorem zln:FK 205 zqF:=by
 refine az (zjO) λx C a=>?_
 refine zL Ax (zjO) (λid _=>a id) (ztu x.1 x.2.1) ?_;generalize h:ao x.1 x.2.1=y;unfold ao at h;exact UW h
def N2:=N1.addL [(303,zhE),(205,zqF)]
theorem Ay:zx N2:=Ax.addL<|fc zdC<|fc zln iP
abbrev un(c a b:Int)(s:zN)(l:List fy)(i:Int):St:={tmps:=[.sl (Sh.sl R) l,.clo (.func 303) [] [.ptr 0 0,.ptr 1 0],.any,.any,.any,.any,.any,J (N l),J i,.any,.any,.any,.any,.any,.any,.any,.any,.any,.any],heap:=[.box [J c],.box [J a,J b,.str s]]}
theorem RJ(c a b:Int)(s:zN)(l:List fy):run N2 2 CF f117.results.toList 300 (bv f117) (bl f117.ntmps [.sl (Sh.sl R) l,.clo (.func 303) [] [.ptr 0 0,.ptr 1 0]] [.box [J c],.box [J a,J b,.str s]])=.ok (.head 2 (aq f117 2) (un c a b s l 0)):=kw
theorem R4(c a b:Int)(s:zN)(l:List fy)(i:Int):run N2 2 CF f117.results.toList 300 (aq f117 2) (un c a b s l i)=pY (K:=aq f117 2) (e:=(Sh.sl R)) l (λx=>bG x c (a,b,s)) (un c a b s l) [.box [J c],.box [J a,J b,.str s]] i:=kw
theorem R2:aa N2.P 117 f117 2:=cM kw
def zh5:fA [Y (.sl (Sh.sl R)),Q2]:=λx h=>match x,h with
 |(l,.clo (.func 303) [] [.ptr 0 0,.ptr 1 0],_),[.box [J c],.box [J a,J b,.str s]]=>.ok (J (al (λx=>bG x c (a,b,s)) l 0),[.box [J c],.box [J a,J b,.str s]])
 |_,_=>.err
def zhO:ak:=bj [Y (.sl (Sh.sl R)),Q2] zh5
theorem zdK:FK 117 zhO:=by
 refine dA R2 λx i g h C d=>?_
 unfold zh5 at h;split at h
 .rename_i l u c a b s;simp only[Tr.val_ok,bH]at h;subst h;refine Reach.len 0 (Sh.sl R) l rfl λe=>?_
  refine zL (n0:=2) Ay R2 d (RJ c a b s l) ?_;exact lZ l (λx=>bG x c (a,b,s)) (un c a b s l) Ay R2 d (R4 c a b s l) e _ 0 rfl (aK _)
 .simp at h
def Zb:=N2.add 117 zhO
theorem IQ:zx Zb:=Ay.add zdK
def zhD:ak:=bj (List.replicate 2 Q2) (ff Zb f302 (List.replicate 2 Q2))
theorem zdB:FK 302 zhD:=cr _ IQ (cM kw)
def TD:=Zb.add 302 zhD
theorem Az:zx TD:=IQ.add zdB
abbrev znP:Nat->aY:=λ_=>{ }
theorem zaO:aa (TD).P 257 f257 3:=cM kw
theorem zmW(h:ag)(a:zy)(b:zo):rn TD 0 znP f257 [zX zl h,zX zk a,zX R b] []=Tr.ok (zU.ret (AV.bool (K (al (λx=>bG x a b) h.2 0>=0))) []):=kw
def g7(h:ag)(a:zy)(b:zo):L Q7:=(K (al (λx=>bG x a b) h.2 0>=0))
def zha:ak:=ba [zl,zk,R] [Q7] λx=>(g7 x.1 x.2.1 x.q.1,())
theorem zc8:FK 257 zha:=by
 refine az (zaO) λx C a=>?_
 refine zL Az (zaO) (λid _=>a id) (zmW x.1 x.2.1 x.q.1) ?_;generalize h:g7 x.1 x.2.1 x.q.1=y;unfold g7 at h;exact UW h
abbrev znO:=kr [(3,[1,5,11,12,13])]
inductive H9 where
 |h3 (i1:zy) (l11:List (L ze.sl)) (i12:Int) (i13:Int) (mh_0:List ((Int×Int×zN)×Int))
abbrev zs0:H9->Nat×St
 |.h3 x l i h m=>(3,⟨tm 37 [(1,J x),(5,AV.mp 0),(11,O ze.sl l),(12,J i),(13,J h)],[AO.vmap M m]⟩)
def zjd(x:ag)(h:zy):Tr (H9⊕ay):=Q9 (H9.h3 h x.2 (N x.2:Int) 0 [])
def Co:H9->Tr (H9⊕ay)
 | .h3 x l h i m=>
  let b:=l.getD i.toNat (Q ze.sl)
  let a:=T b (W x) (Q R)
  let c:=(↑(mX m a):Int)
  let d:=kV m a
  let e:=lp d c.toNat (Γ Δ (iw m a+1))
  let g:=iw e a
  br (K (i<h))
  (I (zK i (N l))
   (I (zK x (N b)) (I (K (N m<=1073741824)) (I (zK c (N d)) (br (cond (a.1!=0) (K (g>1)) M) (re (kb Z) []) (Q9 (H9.h3 x l h (Γ Δ (i+1)) e)))))))
  (re (kb M) [])
def Dz(x:ag)(h:zy):=am [Q7] Co 100000000 (zjd x h)
def ui(x:ag)(h:zy):=(Dz x h).isSome
def Bj(x:ag)(h:zy):=o1 (Dz x h)
def zg9:=FT [zl,zk] [Q7] λx=>Dz x.1 x.2.1
theorem zc7:FK 49 zg9:=Az.T1 (f:=f49) (keep:=znO) (e:=zs0)
def zir:=TD.addL [(257,zha),(49,zg9)]
theorem AA:zx zir:=Az.addL<|fc zc8<|fc zc7 iP
abbrev zu7:=kr [(6,[1,18,19,20]),(15,[1,39,40,41]),(21,[1,8])]
inductive HE where
 |h6 (l18:List (L ze.sl)) (i19:Int) (i20:Int) (z0:zq [CP.d zl])
 |h15 (l39:LI) (i40:Int) (i41:Int) (z0:zq [CP.d zl])
 |h21 (i8:Int) (z0:zq [CP.d zl])
abbrev zx0:HE->Nat×St
 |.h6 l i h z=>(6,⟨tm 79 [(1,Qf 0 0),(18,O ze.sl l),(19,J i),(20,J h)],[Qa (bm [] [CP.d zl] z)]⟩)
 |.h15 b x a z=>(15,⟨tm 79 [(1,Qf 0 0),(39,O zk b),(40,J x),(41,J a)],[Qa (bm [] [CP.d zl] z)]⟩)
 |.h21 c z=>(21,⟨tm 79 [(1,Qf 0 0),(8,J c)],[Qa (bm [] [CP.d zl] z)]⟩)
def WD(x:ag):Tr (HE⊕ay):=br (!dI (x.1.1,x.1.2.1,x.1.q.1,x.1.r.1,x.1.t.1,zw x.1.u)) (re (J 1) []) (br (K ((N x.2:Int)>200)) (re (J 13) []) (Q9 (HE.h6 x.2 (N x.2:Int) 0 (x,()))))
def jh:HE->Tr (HE⊕ay)
 | .h6 l d i z=>
  let x:=(z.1.1.1,z.1.1.2.1,z.1.1.q.1,z.1.1.r.1,z.1.1.t.1,zw z.1.1.u)
  let a:=cm x (l.getD i.toNat (Q ze.sl))
  let c:=(x,z.1.2)
  br (K (i<d))
  (I (zK i (N l)) (br (a !=0) (re (J a) []) (Q9 (HE.h6 l d (Γ Δ (i+1)) z))))
  (I (ui c z.1.1.q.1)
   (br (Bj c z.1.1.q.1) (re (J 7) []) (Q9 (HE.h15 z.1.1.r.1 (N z.1.1.r.1:Int) 0 z))))
 | .h15 b e h z=>
  let x:=((z.1.1.1,z.1.1.2.1,z.1.1.q.1,z.1.1.r.1,z.1.1.t.1,zw z.1.1.u),z.1.2)
  let a:=b.getD h.toNat (Q zk)
  br (K (h<e))
  (I (zK h (N b))
   (I (ui x a) (br (Bj x a) (re (J 7) []) (Q9 (HE.h15 b e (Γ Δ (h+1)) z)))))
  (Q9 (HE.h21 1 z))
 | .h21 g z=>
  let x:=(N z.1.2:Int)
  let a:=Γ Δ (g-1)
  let c:=T z.1.2 a.toNat (Q ze.sl)
  let j:=T z.1.2 g.toNat (Q ze.sl)
  let k:=an (T c (W z.1.1.q.1) (Q R)) (T j (W z.1.1.q.1) (Q R))
  br (K (g<x))
  (I (zK a (N z.1.2))
   (I (zK z.1.1.q.1 (N c)) (I (zK g (N z.1.2)) (I (zK z.1.1.q.1 (N j)) (br (K (k>=0)) (re (J 15) []) (Q9 (HE.h21 (Γ Δ (g+1)) z)))))))
  (re (J 0) [])
def qy(x:ag):=am [zk] jh 100000000 (WD x)
def Mk(x:ag):=(qy x).isSome
def Sx(x:ag):=o1 (qy x)
def zqZ:=FT [zl] [zk] λx=>qy x.1
theorem zlK:FK 23 zqZ:=AA.T1 (f:=f23) (keep:=zu7) (e:=zx0)
abbrev zu9:=kr [(2,[0,11,12,13]),(5,[0,4,11,12,13,19,20,21]),(11,[0,4,6,7,11,12,13,19,20,21,32,33,34])]
inductive HF where
 |h2 (l0:zT) (l11:zT) (i12:Int) (i13:Int)
 |h5 (l0:zT) (l11:zT) (i12:Int) (i13:Int) (l19:LF) (i20:Int) (i21:Int) (z0:zq [CP.d zl])
 |h11 (l0:zT) (i7:zy) (l11:zT) (i12:Int) (i13:Int) (l19:LF) (i20:Int) (i21:Int) (l32:List (L ze.sl)) (i33:Int) (i34:Int) (z0:zq [CP.d zl]) (z1:zq [CP.d zI])
abbrev zx2:HF->Nat×St
 |.h2 c l i h=>(2,⟨tm 64 [(0,O zl c),(11,O zl l),(12,J i),(13,J h)],[]⟩)
 |.h5 c l i h b x a z=>(5,⟨tm 64 [(0,O zl c),(4,Qf 0 0),(11,O zl l),(12,J i),(13,J h),(19,O zI b),(20,J x),(21,J a)],[Qa (bm [] [CP.d zl] z)]⟩)
 |.h11 c k l i h b x a j e g z m=>(11,⟨tm 64 [(0,O zl c),(4,Qf 0 0),(6,Qf 1 0),(7,J k),(11,O zl l),(12,J i),(13,J h),(19,O zI b),(20,J x),(21,J a),(32,O ze.sl j),(33,J e),(34,J g)],[Qa (bm [] [CP.d zl] z),Qa (bm [] [CP.d zI] m)]⟩)
def zua(x:L zl.sl):Tr (HF⊕ay):=Q9 (HF.h2 x x (N x:Int) 0)
def ji:HF->Tr (HF⊕ay)
 | .h2 c l h i=>
  let d:=l.getD i.toNat (Q zl)
  br (K (i<h))
  (I (zK i (N l)) (Q9 (HF.h5 c l h i d.1.t.1 (N d.1.t.1:Int) 0 (d,()))))
  (re (kb Z) [])
 | .h5 c l h i a b x z=>
  let d:=a.getD x.toNat (Q zI)
  let k:=ao c d.2
  br (K (x<b))
  (I (zK x (N a))
   (br (K (k<0)) (re (kb M) []) (Q9 (HF.h11 c k l h i a b x z.1.2 (N z.1.2:Int) 0 z (d,())))))
  (Q9 (HF.h2 c l h (Γ Δ (i+1))))
 | .h11 c n l h i a b x j m e z o=>
  let d:=j.getD e.toNat (Q ze.sl)
  let k:=T d (W o.1.1) (Q R)
  let p:=k.1!=0
  let g:=c.getD (W n) (Q zl)
  br (K (e<m))
  (I (zK e (N j))
   (I (zK o.1.1 (N d)) (I (cond p (zK n (N c)&&zK n (N c)) Z) (br (cond p (!g7 ((g.1.1,g.1.2.1,g.1.q.1,g.1.r.1,g.1.t.1,zw g.1.u),g.2) g.1.q.1 k) M) (re (kb M) []) (Q9 (HF.h11 c n l h i a b x j m (Γ Δ (e+1)) z o))))))
  (Q9 (HF.h5 c l h i a b (Γ Δ (x+1)) z))
def CS(x:L zl.sl):=am [Q7] ji 100000000 (zua x)
def KC(x:L zl.sl):=(CS x).isSome
def QL(x:L zl.sl):=o1 (CS x)
def zq0:=FT [zl.sl] [Q7] λx=>CS x.1
theorem zlL:FK 203 zq0:=AA.T1 (f:=f203) (keep:=zu9) (e:=zx2)
def zis:=zir.addL [(23,zqZ),(203,zq0)]
theorem IR:zx zis:=AA.addL<|fc zlK<|fc zlL iP
abbrev zuD:=kr [(4,[0,3]),(9,[0,30,31,32])]
inductive Nh where
 |h4 (l0:zT) (i3:Int)
 |h9 (l0:zT) (l30:zT) (i31:Int) (i32:Int)
abbrev zxE:Nh->Nat×St
 |.h4 l a=>(4,⟨tm 45 [(0,O zl l),(3,J a)],[]⟩)
 |.h9 l x i h=>(9,⟨tm 45 [(0,O zl l),(30,O zl x),(31,J i),(32,J h)],[]⟩)
def zfl(x:L zl.sl):Tr (Nh⊕ay):=br (K ((N x:Int)>12)) (re (J 13) []) (Q9 (Nh.h4 x 1))
def qC:Nh->Tr (Nh⊕ay)
 | .h4 l x=>
  let a:=Γ Δ (x-1)
  let c:=l.getD a.toNat (Q zl)
  let d:=l.getD x.toNat (Q zl)
  br (K (x<(N l:Int)))
  (I (zK a (N l))
   (I (zK x (N l)) (br (!Op.bytesLess c.1.1 d.1.1) (re (J 15) []) (Q9 (Nh.h4 l (Γ Δ (x+1)))))))
  (Q9 (Nh.h9 l l (N l:Int) 0))
 | .h9 l h b i=>
  let a:=h.getD i.toNat (Q zl)
  let c:=((a.1.1,a.1.2.1,a.1.q.1,a.1.r.1,a.1.t.1,zw a.1.u),a.2)
  let d:=Sx c
  br (K (i<b))
  (I (zK i (N h))
   (I (Mk c) (br (d !=0) (re (J d) []) (Q9 (Nh.h9 l h b (Γ Δ (i+1)))))))
  (I (KC l) (br (!QL l) (re (J 10) []) (re (J 0) [])))
def wN(x:L zl.sl):=am [zk] qC 100000000 (zfl x)
def pF(x:L zl.sl):=(wN x).isSome
def mi(x:L zl.sl):=o1 (wN x)
def zqn:=FT [zl.sl] [zk] λx=>wN x.1
theorem zk5:FK 145 zqn:=IR.T1 (f:=f145) (keep:=zuD) (e:=zxE)
def dG:=zis.add 145 zqn
theorem bM:zx dG:=IR.add zk5
abbrev zZ:Sh:=.pr .str (.pr .str (.pr .str (.pr ae (.pr (.sl zk) zk))))
abbrev zY:=L zZ
abbrev cd:List CP:=[.d (.sl zl),.d aB,.d ae,.d ae,.d .str,.d .str,.d .str,.d .str,.nil,.d zk,.nil,.nil,.d .expr,.nil,.d zk]
abbrev aH:List CP:=[.d (.sl zl),.d aB,.d ae,.d ae,.d .str,.d .str,.d .str,.d .str,.vec zp,.d zk,.nil,.nil,.d .expr,.d (.sl zk),.d zk]
abbrev zjC:Nat->aY:=λj=>if j=2 then{slots:=[0,1,7,8]}else{ }
abbrev GZ(l:LI)(i:zy)(h x:Int):St:={tmps:=(tm 19 [(0,O zk l),(1,J i),(7,J h),(8,J x)]),heap:=[]}
theorem Uf:aa (dG).P 200 f200 2:=cM kw
theorem ztz(x:L zk.sl)(h:zy):rn dG 0 zjC f200 [zX zk.sl x,zX zk h] []=Tr.ok (zU.head 2 (aq f200 2) (GZ x h (N x:Int) 0)):=kw
theorem Ur(l:LI)(h:zy)(x i:Int):rh dG 0 zjC f200 2 (GZ l h x i)=br (K (i<x)) (I (zK i (N l)) (br (h==l.getD i.toNat (Q zk)) (Tr.ok (zU.ret (J i) [])) (Tr.ok (zU.head 2 (aq f200 2) (GZ l h x (Γ Δ (i+1))))))) (Tr.ok (zU.ret (J (-1)) [])):=kw
def fF(h:zy):ea->Int->zy
 |[],_=>(-1)
 |x::r,i=>(ite ((h==x)=Z) i (fF h r (i+1)))
theorem zea(g:∀id,C.ρ0 id=Q2)(d:zy)(l:LI)(n:N l<=aF):∀(m i:Nat),N l-i=m->i<=N l->
  Reach (dG) C 200 (aq f200 2) (GZ l d (N l:Int) (i:Int)) (λr h=>aX h [zk] r=Y (fF d (l.drop i) i,())):=by
 intro m
 induction m with
 | zero=>
  intro i k j;obtain rfl:i=N l:=by omega
  rw[kE];refine zL bM (Uf) (λid _=>g id) (Ur _ _ _ _) ?_;generalize b:fF d [] _=y;rw[fF]at b;simp only[zJ,Tr.val_brF];exact UW b
 | succ m e=>
  intro i k j;have x:i<N l:=by omega
  have e:=e (i+1);have a:((i:Int)+1)=((i+1:Nat):Int):=by omega
  have c:=zt i S;rw[gF x];refine zL bM (Uf) (λid _=>g id) (Ur _ _ _ _) ?_;generalize b:fF d (l[i]::l.drop (i+1)) (i:Int)=y;rw[fF]at b;simp only[zM x,zu x,dq l _ x,c,Tr.val_brT,Tr.val_chkT];clear c
  try simp only[zu x]at b
  simp only[a]at b;exact PW b e
theorem Yg(x:∀id,C.ρ0 id=Q2)(i:zy)(l:LI):
  Reach (dG) C 200 (aq f200 2) (GZ l i (N l:Int) 0) (λr h=>aX h [zk] r=Y (fF i l 0,())):=
 Reach.len 0 (Sh.int IntKind.i64) l rfl λa=>zea x i l a _ 0 rfl (aK _)
def iA(x:L zk.sl)(h:zy):zy:=(fF h x 0)
def zqU:ak:=ba [zk.sl,zk] [zk] λx=>(iA x.1 x.2.1,())
theorem zlG:FK 200 zqU:=by
 refine az (Uf) λx C h=>?_
 refine zL bM (Uf) (λid _=>h id) (ztz x.1 x.2.1) ?_;generalize a:iA x.1 x.2.1=y;unfold iA at a;exact PW a (Yg h)
abbrev zjD:Nat->aY:=λj=>if j=2 then{slots:=[0,1,7,8]}else{ }
abbrev G0(l:LS)(s:TS)(i h:Int):St:={tmps:=(tm 19 [(0,O Q6 l),(1,X s),(7,J i),(8,J h)]),heap:=[]}
theorem Ug:aa (dG).P 260 f260 2:=cM kw
theorem ztB(x:L Sh.str.sl)(h:TS):rn dG 0 zjD f260 [zX Sh.str.sl x,zX Q6 h] []=Tr.ok (zU.head 2 (aq f260 2) (G0 x h (N x:Int) 0)):=kw
theorem Us(l:LS)(s:TS)(h i:Int):rh dG 0 zjD f260 2 (G0 l s h i)=br (K (i<h)) (I (zK i (N l)) (br (s==l.getD i.toNat (Q Q6)) (Tr.ok (zU.ret (J i) [])) (Tr.ok (zU.head 2 (aq f260 2) (G0 l s h (Γ Δ (i+1))))))) (Tr.ok (zU.ret (J (-1)) [])):=kw
def jq(s:TS):List (L Q6)->Int->zy
 |[],_=>(-1)
 |x::r,i=>(ite ((s==x)=Z) i (jq s r (i+1)))
theorem zeb(e:∀id,C.ρ0 id=Q2)(s:TS)(l:LS)(k:N l<=aF):∀(m i:Nat),N l-i=m->i<=N l->
  Reach (dG) C 260 (aq f260 2) (G0 l s (N l:Int) (i:Int)) (λr h=>aX h [zk] r=Y (jq s (l.drop i) i,())):=by
 intro m
 induction m with
 | zero=>
  intro i j g;obtain rfl:i=N l:=by omega
  rw[kE];refine zL bM (Ug) (λid _=>e id) (Us _ _ _ _) ?_;generalize b:jq s [] _=y;rw[jq]at b;simp only[zJ,Tr.val_brF];exact UW b
 | succ m d=>
  intro i j g;have x:i<N l:=by omega
  have d:=d (i+1);have a:((i:Int)+1)=((i+1:Nat):Int):=by omega
  have c:=zt i S;rw[gF x];refine zL bM (Ug) (λid _=>e id) (Us _ _ _ _) ?_;generalize b:jq s (l[i]::l.drop (i+1)) (i:Int)=y;rw[jq]at b;simp only[zM x,zu x,dq l _ x,c,Tr.val_brT,Tr.val_chkT];clear c
  try simp only[zu x]at b
  simp only[a]at b;exact PW b d
theorem Yi(x:∀id,C.ρ0 id=Q2)(s:TS)(l:LS):
  Reach (dG) C 260 (aq f260 2) (G0 l s (N l:Int) 0) (λr h=>aX h [zk] r=Y (jq s l 0,())):=
 Reach.len 0 (Q6) l rfl λa=>zeb x s l a _ 0 rfl (aK _)
def OI(x:L Sh.str.sl)(h:TS):zy:=(jq h x 0)
def zrf:ak:=ba [Sh.str.sl,Q6] [zk] λx=>(OI x.1 x.2.1,())
theorem zl0:FK 260 zrf:=by
 refine az (Ug) λx C h=>?_
 refine zL bM (Ug) (λid _=>h id) (ztB x.1 x.2.1) ?_;generalize a:OI x.1 x.2.1=y;unfold OI at a;exact PW a (Yi h)
abbrev zaf:Nat->aY:=λj=>if j=2 then{slots:=[0,3,7,8]}else{ }
abbrev yz(l:LF)(i x:Int)(j:zy)(h:TS):St:={tmps:=(tm 19 [(0,O zI l),(3,Qf 0 0),(7,J i),(8,J x)]),heap:=[Qa [J j,X h]]}
theorem Ls:aa (dG).P 253 f253 2:=cM kw
theorem zmV(x:L zI.sl)(h:cC):rn dG 0 zaf f253 [zX zI.sl x,zX zI h] []=Tr.ok (zU.head 2 (aq f253 2) (yz x (N x:Int) 0 h.1 h.2)):=kw
theorem O5(l:LF)(x i:Int)(j:zy)(h:TS):rh dG 0 zaf f253 2 (yz l x i j h)=br (K (i<x)) (I (zK i (N l)) (br (j==(l.getD i.toNat (Q zI)).1&&(h==(l.getD i.toNat (Q zI)).2&&Z)) (Tr.ok (zU.ret (J i) [])) (Tr.ok (zU.head 2 (aq f253 2) (yz l x (Γ Δ (i+1)) j h))))) (Tr.ok (zU.ret (J (-1)) [])):=kw
def jp(j:zy)(h:TS):dK->Int->zy
 |[],_=>(-1)
 |x::r,i=>(ite ((j==x.1&&(h==x.2&&Z))=Z) i (jp j h r (i+1)))
theorem Yc(g:∀id,C.ρ0 id=Q2)(j:zy)(a:TS)(l:LF)(o:N l<=aF):∀(m i:Nat),N l-i=m->i<=N l->
  Reach (dG) C 253 (aq f253 2) (yz l (N l:Int) (i:Int) j a) (λr h=>aX h [zk] r=Y (jp j a (l.drop i) i,())):=by
 intro m
 induction m with
 | zero=>
  intro i n k;obtain rfl:i=N l:=by omega
  rw[kE];refine zL bM (Ls) (λid _=>g id) (O5 _ _ _ _ _) ?_;generalize c:jp j a [] _=y;rw[jp]at c;simp only[zJ,Tr.val_brF];exact UW c
 | succ m e=>
  intro i n k;have x:i<N l:=by omega
  have e:=e (i+1);have b:((i:Int)+1)=((i+1:Nat):Int):=by omega
  have d:=zt i S;rw[gF x];refine zL bM (Ls) (λid _=>g id) (O5 _ _ _ _ _) ?_;generalize c:jp j a (l[i]::l.drop (i+1)) (i:Int)=y;rw[jp]at c;simp only[zM x,zu x,dq l _ x,d,Tr.val_brT,Tr.val_chkT];clear d
  try simp only[zu x]at c
  simp only[b]at c;exact PW c e
theorem VN(a:∀id,C.ρ0 id=Q2)(j:zy)(x:TS)(l:LF):
  Reach (dG) C 253 (aq f253 2) (yz l (N l:Int) 0 j x) (λr h=>aX h [zk] r=Y (jp j x l 0,())):=
 Reach.len 0 (zk.pr Q6) l rfl λb=>Yc a j x l b _ 0 rfl (aK _)
def OG(h:L zI.sl)(x:cC):zy:=(jp x.1 x.2 h 0)
def zg6:ak:=ba [zI.sl,zI] [zk] λx=>(OG x.1 x.2.1,())
theorem zc4:FK 253 zg6:=by
 refine az (Ls) λx C h=>?_
 refine zL bM (Ls) (λid _=>h id) (zmV x.1 x.2.1) ?_;generalize a:OG x.1 x.2.1=y;unfold OG at a;exact PW a (VN h)
abbrev zun:Nat->aY:=λ_=>{ }
theorem zjK:aa (dG).P 79 f79 1:=cM kw
theorem ztp(x:zY):rn dG 0 zun f79 [zX zZ x] []=br (x.2.2.1==[]) (Tr.ok (zU.ret (O Q6 [x.2.1]) [])) (Tr.ok (zU.ret (O Q6 [x.2.1,x.2.2.1]) [])):=kw
def mE(x:zY):L Sh.str.sl:=(ite ((x.2.2.1==[])=Z) [x.2.1] [x.2.1,x.2.2.1])
def zpX:ak:=ba [zZ] [Sh.str.sl] λx=>(mE x.1,())
theorem zkA:FK 79 zpX:=by
 refine az (zjK) λx C a=>?_
 refine zL bM (zjK) (λid _=>a id) (ztp x.1) ?_;generalize h:mE x.1=y;unfold mE at h;exact UW h
def zg4:ak:=bj (List.replicate 2 Q2) (ff dG f251 (List.replicate 2 Q2))
theorem zc2:FK 251 zg4:=cr _ bM (cM kw)
def BU:=dG.addL [(200,zqU),(260,zrf),(253,zg6),(79,zpX),(251,zg4)]
theorem tf:zx BU:=bM.addL<|fc zlG<|fc zl0<|fc zc4<|fc zkA<|fc zc2 iP
abbrev znN:Nat->aY:=λ_=>{ }
theorem zaN:aa (BU).P 252 f252 2:=cM kw
theorem zmU(x:L zk.sl)(h:zy):rn BU 0 znN f252 [zX zk.sl x,zX zk h] []=Tr.ok (zU.ret (AV.bool (K (iA x h>=0))) []):=kw
def wc(x:L zk.sl)(h:zy):L Q7:=(K (iA x h>=0))
def zg5:ak:=ba [zk.sl,zk] [Q7] λx=>(wc x.1 x.2.1,())
theorem zc3:FK 252 zg5:=by
 refine az (zaN) λx C a=>?_
 refine zL tf (zaN) (λid _=>a id) (zmU x.1 x.2.1) ?_;generalize h:wc x.1 x.2.1=y;unfold wc at h;exact UW h
abbrev zuR:Nat->aY:=λ_=>{ }
theorem zjN:aa (BU).P 207 f207 2:=cM kw
theorem ztt(x:L Sh.str.sl)(h:TS):rn BU 0 zuR f207 [zX Sh.str.sl x,zX Q6 h] []=Tr.ok (zU.ret (AV.bool (K (OI x h>=0))) []):=kw
def aP(x:L Sh.str.sl)(h:TS):L Q7:=(K (OI x h>=0))
def zqD:ak:=ba [Sh.str.sl,Q6] [Q7] λx=>(aP x.1 x.2.1,())
theorem zll:FK 207 zqD:=by
 refine az (zjN) λx C a=>?_
 refine zL tf (zjN) (λid _=>a id) (ztt x.1 x.2.1) ?_;generalize h:aP x.1 x.2.1=y;unfold aP at h;exact UW h
abbrev zu3:Nat->aY:=λ_=>{ }
theorem zjP:aa (BU).P 201 f201 2:=cM kw
theorem ztA(x:L zI.sl)(h:cC):rn BU 0 zu3 f201 [zX zI.sl x,zX zI h] []=Tr.ok (zU.ret (AV.bool (K (OG x h>=0))) []):=kw
def kc(x:L zI.sl)(h:cC):L Q7:=(K (OG x h>=0))
def zqX:ak:=ba [zI.sl,zI] [Q7] λx=>(kc x.1 x.2.1,())
theorem zlJ:FK 201 zqX:=by
 refine az (zjP) λx C a=>?_
 refine zL tf (zjP) (λid _=>a id) (ztA x.1 x.2.1) ?_;generalize h:kc x.1 x.2.1=y;unfold kc at h;exact UW h
def zit:=BU.addL [(252,zg5),(207,zqD),(201,zqX)]
theorem IS:zx zit:=tf.addL<|fc zc3<|fc zll<|fc zlJ iP
abbrev zuI:Nat->aY:=λj=>if j=2 then{slots:=[0,12,13,14]}else{ }
inductive Ni where
 |h2 (i13:Int) (i14:Int) (z0:zq aH)
abbrev zxI:Ni->Nat×St
 |.h2 i h z=>(2,⟨tm 65 [(0,Qf 0 0),(12,AV.vec 1),(13,J i),(14,J h)],[Qa (bm [1] aH z),AO.vec zp z.x.1]⟩)
def zno(y:zq aH):Tr (Ni⊕ay):=Q9 (Ni.h2 (N y.x.1:Int) 0 y)
def MR(a i:Int)(h:zq aH)(c:zg)(d:cK)(b:zy×zy):Tr (Ni⊕ay):=br (K (i<a)) (I (zK i (N h.x.1)) (I (K (i.toNat<N h.x.1)) (br (ab (h.w.1,h.x.1,h.y.1,[],[],c) d.1!=i) (re (J 7) (bd aH h)) (Q9 (Ni.h2 a (Γ Δ (i+1)) h))))) (br (zg.op h.z.1==[]) (re (J 0) (bd aH h)) (br (cond (b.2==0) (cond (b.1!=3) (b.1!=0) M) M) (re (J 5) (bd aH h)) (re (J b.2) (bd aH h))))
def SR(a i:Int)(h:zq aH):Tr (Ni⊕ay):=
 let b:=zw h.z.1
 let c:=h.x.1.getD i.toNat (Q zp)
 let d:=cz b h.x.1
 MR a i h b c d
def SQ:Ni->Tr (Ni⊕ay)
 |.h2 i h z=>SR i h z
def xA(y:zq aH):Option (zH (Qi Y [zk])×zq aH):=kM [zk] aH SQ 100000000 (zno y)
def iB(y:zq aH):Bool:=(xA y).isSome
def gq(y:zq aH):zy×zq aH:=(λr:zH (Qi Y [zk])×zq aH=>(r.1.1,r.2)) ((xA y).getD (ct [zk],gn aH))
def zqs:ak:=rC aH [] [zk] aH (λy _=>iB y) λy _=>(((gq y).1,()),(gq y).2)
theorem zla:FK 148 zqs:=IS.B1 (f:=f148) (keep:=zuI) (n:=100000000) (e:=zxI) (t:=SQ) (i:=λy x=>zno y)
def Zc:=zit.add 148 zqs
theorem IT:zx Zc:=IS.add zla
def zq1:ak:=bj (List.replicate 2 Q2) (ff Zc f206 (List.replicate 2 Q2))
theorem zlM:FK 206 zq1:=cr _ IT (cM kw)
def N3:=Zc.add 206 zq1
theorem AB:zx N3:=IT.add zlM
abbrev DD(s:List zN)(l:LF)(i:Int):St:={tmps:=[.sl zI l,.clo (.func 206) [] [.ptr 0 0],.any,.any,.any,.any,.any,J (N l),J i,.any,.any,.any,.any,.any,.any,.any,.any,.any,.any],heap:=[.box [.sl .str s]]}
theorem ZJ(s:List zN)(l:LF):run N3 1 CF f261.results.toList 300 (bv f261) (bl f261.ntmps [.sl zI l,.clo (.func 206) [] [.ptr 0 0]] [.box [.sl .str s]])=.ok (.head 2 (aq f261 2) (DD s l 0)):=kw
theorem za7(s:List zN)(l:LF)(i:Int):run N3 1 CF f261.results.toList 300 (aq f261 2) (DD s l i)=pY (K:=aq f261 2) (e:=zI) l (λx=>aP s x.2) (DD s l) [.box [.sl .str s]] i:=kw
theorem zaZ:aa N3.P 261 f261 2:=cM kw
def zsH:fA [Y (.sl zI),Q2]:=λx h=>match x,h with
 |(l,.clo (.func 206) [] [.ptr 0 0],_),[.box [.sl .str s]]=>.ok (J (al (λx=>aP s x.2) l 0),[.box [.sl .str s]])
 |_,_=>.err
def zro:ak:=bj [Y (.sl zI),Q2] zsH
theorem zma:FK 261 zro:=by
 refine dA zaZ λx d c h C a=>?_
 unfold zsH at h;split at h
 .rename_i l u s;simp only[Tr.val_ok,bH]at h;subst h;refine Reach.len 0 zI l rfl λb=>?_
  refine zL (n0:=1) AB zaZ a (ZJ s l) ?_;exact lZ l (λx=>aP s x.2) (DD s l) AB zaZ a (za7 s l) b _ 0 rfl (aK _)
 .simp at h
def Zd:=N3.add 261 zro
theorem IU:zx Zd:=AB.add zma
def zq2:ak:=bj (List.replicate 2 Q2) (ff Zd f208 (List.replicate 2 Q2))
theorem zlN:FK 208 zq2:=cr _ IU (cM kw)
def ziu:=Zd.add 208 zq2
theorem AC:zx ziu:=IU.add zlN
abbrev cpR:List CP:=[.d zl]
abbrev zmN:List CP:=[.d .str,.nil,.d zk,.nil,.nil,.d .str,.d zk,.d zk,.d .str,.d .str,.nil,.nil]
abbrev zsT:List CP:=[.d ae,.vec (.sl R)]
abbrev rl:List CP:=[.d aB]
abbrev jR:List CP:=[.d .str,.d .str,.d .str,.nil,.nil,.d .str,.nil,.nil,.d .str,.d zk,.d zk,.d .str,.d .str,.nil,.nil,.nil,.d .str,.d zk,.d zk,.d .str,.d .str,.nil,.d .str]
abbrev YB:List CP:=[.d .str,.d .str,.d .str,.d (.sl .str),.d (.sl zp),.d .str,.d (.sl .str),.vec jM,.d .expr,.d (.sl R),.nil,.d .expr,.d .str]
abbrev YC:List CP:=[.d .str,.d .str,.d .str,.d (.sl .str),.d (.sl zp),.d .str,.d (.sl .str),.vec jM,.d .expr,.d (.sl R),.vec jb,.d .expr,.d .str]
abbrev zur:Nat->aY:=λj=>if j=6 then{slots:=[1,2,3,4,5],prom:=[(3,Y 11,.sl R)]}else{ }
inductive QA where
 |h6 (i4:Int) (i5:Int) (z0:zq cpR) (z1:zq zmN) (z2:zq zsT)
abbrev zxw:QA->Nat×St
 |.h6 i h x a z=>(6,⟨tm 38 [(1,Qf 0 0),(2,Qf 1 0),(3,Qf 2 0),(4,J i),(5,J h)],[Qa (bm [] cpR x),Qa (bm [] zmN a),Qa (bm [3] zsT z),AO.vec ze.sl z.2.1]⟩)
def zng(x:ag):Tr (QA⊕ay):=
 let a:=(Hn (x.1.1,x.1.2.1,x.1.q.1,x.1.r.1,x.1.t.1,zw x.1.u),[],())
 br (K ((N x.2:Int)>200)) (Q9 (QA.h6 201 0 (x,()) ([],0,[],0,0,[],[],()) a))
 (Q9 (QA.h6 40 0 (x,()) ([],0,[],0,0,[],[],()) a))
def zch:QA->Tr (QA⊕ay)
 | .h6 x i h c z=>
  let b:=(N h.1.2:Int)
  let a:=[eH (T h.1.2 i.toNat (Q ze.sl))]
  br (cond (K (i<b)) (K (i<x)) M)
  (I (zK i (N h.1.2))
   (I (K (N z.2.1+N a<=1073741824)) (Q9 (QA.h6 x (Γ Δ (i+1)) h c (z.1,z.2.1++a,())))))
  (re
   (agg ([X z.1.1,O zp z.1.2.1,J z.1.q.1,O zk z.1.r.1,O zI z.1.t.1]++xE z.1.u++[AV.vec 0]))
   [AO.vec ze.sl z.2.1])
def Fy(x:ag):=am [zl] zch 100000000 (zng x)
def RW(x:ag):=(Fy x).isSome
def Fx(x:ag):=o1 (Fy x)
def zp3:=FT [zl] [zl] λx=>Fy x.1
theorem zkI:FK 53 zp3:=AC.T1 (f:=f53) (keep:=zur) (e:=zxw)
abbrev zzv:Nat->aY:=λj=>if j=3 then{slots:=[1,2,3,4],prom:=[(3,Y 7,jM)]}else if j=7 then{slots:=[1,2,3,5],prom:=[(3,Y 15,jb)]}else{ }
inductive H8p where
 |h3 (i4:Int) (z0:zq rl) (z1:zq jR) (z2:zq YB)
 |h7 (i5:Int) (z0:zq rl) (z1:zq jR) (z2:zq YC)
abbrev e8p:H8p->Nat×St
 |.h3 i x a h=>(3,⟨tm 103 [(1,Qf 0 0),(2,Qf 1 0),(3,Qf 2 0),(4,J i)],[Qa (bm [] rl x),Qa (bm [] jR a),Qa (bm [3] YB h),AO.vec (Sh.str.pr Q6) h.w.1]⟩)
 |.h7 b x a h=>(7,⟨tm 103 [(1,Qf 0 0),(2,Qf 1 0),(3,Qf 2 0),(5,J b)],[Qa (bm [] rl x),Qa (bm [] jR a),Qa (bm [3,4] YC h),AO.vec (Sh.str.pr Q6) h.w.1,AO.vec (Sh.str.pr Q5) h.z.1]⟩)
def i8p(h:zS):Tr (H8p⊕ay):=
 I (gp h.1)
 (I (gp h.2.1)
  (I (gp h.q.1) (I (gp h.u.1) (I (gp h.p) (I (rZ h.r.1) (I (rZ h.v.1) (Q9 (H8p.h3 0 (h,()) ([],[],[],[],[],0,0,[],[],[],0,0,[],[],[],()) (dQ h.1,dQ h.2.1,dQ h.q.1,lG h.r.1,kL h.t.1,
  dQ h.u.1,lG h.v.1,[],iN (zw h.x.1),eH h.y.1,iN (zw h.s.1),dQ h.p,())))))))))
def t8p:H8p->Tr (H8p⊕ay)
 | .h3 i a g h=>
  let j:=(N a.1.w.1:Int)
  let c:=zK i (N a.1.w.1)
  let b:=T a.1.w.1 i.toNat (Q jM)
  let d:=[(dQ b.1,dQ b.2)]
  br (cond (K (i<j)) (K (i<10)) M)
  (I c
   (I (gp b.1) (I c (I (gp b.2) (I (K (N h.w.1+N d<=1073741824)) (Q9 (H8p.h3 (Γ Δ (i+1)) a g (h.1,h.2.1,h.q.1,h.r.1,h.t.1,h.u.1,h.v.1,h.w.1++d,h.x))))))))
  (Q9
   (H8p.h7 0 a g (h.1,h.2.1,h.q.1,h.r.1,h.t.1,h.u.1,h.v.1,h.w.1,h.x.1,h.y.1,[],h.z)))
 | .h7 e a g h=>
  let j:=(N a.1.z.1:Int)
  let c:=zK e (N a.1.z.1)
  let b:=T a.1.z.1 e.toNat (Q jb)
  let d:=[(dQ b.1,zw (iN (zw b.2)))]
  br (cond (K (e<j)) (K (e<10)) M)
  (I c
   (I (gp b.1) (I c (I (K (N h.z.1+N d<=1073741824)) (Q9 (H8p.h7 (Γ Δ (e+1)) a g (h.1,h.2.1,h.q.1,h.r.1,h.t.1,h.u.1,h.v.1,h.w.1,h.x.1,h.y.1,h.z.1++d,h.s)))))))
  (re
   (aS h.1 h.2.1 h.q.1 (O Q6 h.r.1) (O zp h.t.1) h.u.1 (O Q6 h.v.1) (AV.vec 0) (xE h.x.1) (O R h.y.1) (AV.vec 1) (xE h.s.1) h.p.1)
   [AO.vec (Sh.str.pr Q6) h.w.1,AO.vec (Sh.str.pr Q5) h.z.1])
def AW(x:zS):=am [aB] t8p 100000000 (i8p x)
def Lf(x:zS):=(AW x).isSome
def T2(x:zS):=o1 (AW x)
def F8p:=FT [aB] [aB] λx=>AW x.1
theorem zsp:FK 26 F8p:=AC.T1 (f:=f26) (keep:=zzv) (e:=e8p)
def ziA:=ziu.addL [(53,zp3),(26,F8p)]
theorem IY:zx ziA:=AC.addL<|fc zkI<|fc zsp iP
abbrev zzq:Nat->aY:=λj=>if j=3 then{slots:=[0,3,4],prom:=[(3,Q2,zl)]}else{ }
inductive H7p where
 |h3 (l0:zT) (i4:Int) (lh_0:zT)
abbrev e7p:H7p->Nat×St
 |.h3 h i l=>(3,⟨tm 24 [(0,O zl h),(3,AV.vec 0),(4,J i)],[AO.vec zl l]⟩)
def i7p(x:L zl.sl):Tr (H7p⊕ay):=
 Q9 (H7p.h3 x 0 [])
def t7p:H7p->Tr (H7p⊕ay)
 | .h3 x i l=>
  let a:=x.getD i.toNat (Q zl)
  let b:=((a.1.1,a.1.2.1,a.1.q.1,a.1.r.1,a.1.t.1,zw a.1.u),a.2)
  let h:=Fx b
  let c:=[((h.1.1,h.1.2.1,h.1.q.1,h.1.r.1,h.1.t.1,zw h.1.u),h.2)]
  br (cond (K (i<(N x:Int))) (K (i<13)) M)
  (I (zK i (N x))
   (I (RW b) (I (K (N l+N c<=1073741824)) (Q9 (H7p.h3 x (Γ Δ (i+1)) (l++c))))))
  (re (AV.vec 0)
   [AO.vec zl l])
def FA(x:L zl.sl):=am [zl.sl] t7p 100000000 (i7p x)
def Lg(x:L zl.sl):=(FA x).isSome
def Fz(x:L zl.sl):=o1 (FA x)
def F7p:=FT [zl.sl] [zl.sl] λx=>FA x.1
theorem zsg:FK 25 F7p:=IY.T1 (f:=f25) (keep:=zzq) (e:=e7p)
def ziB:=ziA.add 25 F7p
theorem IZ:zx ziB:=IY.add zsg
abbrev zuF:Nat->aY:=λj=>if j=3 then{slots:=[0,3,14,15,16]}else if j=11 then{slots:=[0,3,55,56,57]}else{ }
inductive Aa where
 |h3 (l14:LS) (i15:Int) (i16:Int) (z0:zq cd) (jb0:LS)
 |h11 (l55:zT) (i56:Int) (i57:Int) (z0:zq cd) (jb0:LS)
abbrev zxG:Aa->Nat×St
 |.h3 l i h z j=>(3,⟨tm 122 [(0,Qf 0 0),(3,Qf 1 0),(14,O Q6 l),(15,J i),(16,J h)],[Qa (bm [] cd z),Qa [O Q6 j]]⟩)
 |.h11 b x a z j=>(11,⟨tm 122 [(0,Qf 0 0),(3,Qf 1 0),(55,O zl b),(56,J x),(57,J a)],[Qa (bm [] cd z),Qa [O Q6 j]]⟩)
def znm(y:zq cd):Tr (Aa⊕ay):=
 let a:=mE (y.t.1,y.u.1,y.v.1,(y.w.1,[],y.x.1,[],[],zw y.y.1),[],y.z.1)
 Q9 (Aa.h3 a (N a:Int) 0 y a)
def MQ(l:LS)(h i:Int)(z:zq cd)(j:LS)(a x:zy):Tr (Aa⊕ay):=br (K (i<h)) (I (zK i (N l)) (br (K (a<0)) (re (J 6) (bd cd z)) (Q9 (Aa.h3 l h (Γ Δ (i+1)) z j)))) (br (cond (K (x>=0)) Z (z.u.1==z.v.1)) (re (J 7) (bd cd z)) (Q9 (Aa.h11 z.1 (N z.1:Int) 0 z j)))
def SP(l:LS)(h i:Int)(z:zq cd)(j:LS):Tr (Aa⊕ay):=
 let a:=ao z.1 (l.getD i.toNat (Q Q6))
 let x:=ao z.1 z.2.1.2.1
 MQ l h i z j a x
def Hj(l:zT)(h i:Int)(z:zq cd)(j:LS)(x:ag)(b:Int)(c d:zy)(a e:ag):Tr (Aa⊕ay):=br (K (i<h)) (I (zK i (N l)) (br (!aP j x.1.1) (br (K (b>=0)) (re (J 10) (bd cd z)) (Q9 (Aa.h11 l h (Γ Δ (i+1)) z j))) (Q9 (Aa.h11 l h (Γ Δ (i+1)) z j)))) (I (zK c (N z.1)) (br (!z.v.1==[]) (I (zK d (N z.1)) (re (J 0) (bd cd (z.1,z.2.1,a.1,e.1,z.t)))) (re (J 0) (bd cd (z.1,z.2.1,a.1,z.r)))))
def MP(l:zT)(h i:Int)(z:zq cd)(j:LS):Tr (Aa⊕ay):=
 let a:=l.getD i.toNat (Q zl)
 let d:=al (λx=>aP j x.2) a.1.t.1 0
 let b:=ao z.1 z.u.1
 let c:=ao z.1 z.v.1
 let e:=T z.1 (W b) (Q zl)
 let g:=T z.1 (W c) (Q zl)
 Hj l h i z j a d b c e g
def HZ:Aa->Tr (Aa⊕ay)
 |.h3 l i h z j=>SP l i h z j
 |.h11 b x a z j=>MP b x a z j
def tA(y:zq cd):Option (zH (Qi Y [zk])×zq cd):=kM [zk] cd HZ 100000000 (znm y)
def oY(y:zq cd):Bool:=(tA y).isSome
def oX(y:zq cd):zy×zq cd:=(λr:zH (Qi Y [zk])×zq cd=>(r.1.1,r.2)) ((tA y).getD (ct [zk],gn cd))
def zqq:ak:=rC cd [] [zk] cd (λy _=>oY y) λy _=>(((oX y).1,()),(oX y).2)
theorem zk8:FK 147 zqq:=IZ.B1 (f:=f147) (keep:=zuF) (n:=100000000) (e:=zxG) (t:=HZ) (i:=λy x=>znm y)
def ziv:=ziB.add 147 zqq
theorem IV:zx ziv:=IZ.add zk8
abbrev eG:List CP:=[.d (.sl zl),.d aB,.d ae,.d ae,.d .str,.d .str,.d .str,.d .str,.vec zp,.d zk,.nil,.nil,.d .expr,.vec zk,.d zk]
abbrev zu1:Nat->aY:=λj=>if j=3 then{slots:=[1,3,14,15,16,0],prom:=[(0,Y 60,.int .i64),(0,Y 50,zp)]}else if j=12 then{slots:=[1,63,64,65,0]}else if j=1000000 then{sett:=[(0,60)]}else{ }
inductive vA where
 |h3 (l14:LS) (i15:Int) (i16:Int) (z0:zq eG)
 |h12 (i64:Int) (i65:Int) (z0:zq eG)
 |h12b (i64:Int) (i65:Int) (z0:zq eG)
abbrev zxX:vA->Nat×St
 |.h3 l a b z=>(3,⟨tm 80 [(0,Qf 0 0),(1,Qf 1 0),(3,AV.clo (Fn.func 251) [] [Qf 1 0]),(14,O Q6 l),(15,J a),(16,J b)],[Qa (bm [2,3] eG z),Qa [Qf 0 0],AO.vec zp z.x.1,AO.vec zk z.s.1]⟩)
 |.h12 i h z=>(12,⟨tm 80 [(0,Qf 0 0),(1,Qf 1 0),(63,AV.vec 2),(64,J i),(65,J h)],[Qa (bm [3,2] eG z),Qa [Qf 0 0],AO.vec zk z.s.1,AO.vec zp z.x.1]⟩)
 |.h12b i h z=>(12,⟨tm 80 [(0,Qf 0 0),(1,Qf 1 0),(63,AV.vec 2),(64,J i),(65,J h)],[Qa (bm [3,2] eG z),Qa [Qf 0 0],AO.frz zk z.s.1,AO.vec zp z.x.1]⟩)
def znv(y:zq cd):Tr (vA⊕ay):=Q9 (vA.h3 y.2.1.r.1 (N y.2.1.r.1:Int) 0 (y.1,y.2.1,y.q.1,y.r.1,y.t.1,y.u.1,y.v.1,y.w.1,[],y.x.1,y.y.1,[],y.z))
def MU(l:LS)(a i:Int)(h:zq eG)(b:zy)(c:LI)(d:LC):Tr (vA⊕ay):=br (K (i<a)) (I (zK i (N l)) (br (K (b<0)) (re (J 4) (bd aH h)) (I (K (N h.s.1+N c<=1073741824)) (I (zK b (N h.q.1.2.1)) (I (K (N h.x.1+N d<=1073741824)) (Q9 (vA.h3 l a (Γ Δ (i+1)) (h.1,h.2.1,h.q.1,h.r.1,h.t.1,h.u.1,h.v.1,h.w.1,h.x.1++d,h.y.1,h.z.1,h.s.1++c,h.p)))))))) (Q9 (vA.h12 (N h.s.1:Int) 0 h))
def ST(l:LS)(h i:Int)(z:zq eG):Tr (vA⊕ay):=
 let a:=ab (z.q.1.1,z.q.1.2.1,z.q.1.q.1,z.q.1.r.1,z.q.1.t.1,zw z.q.1.u) (l.getD i.toNat (Q Q6))
 let x:=[a]
 let b:=[T z.q.1.2.1 (W a) (Q zp)]
 MU l h i z a x b
def Hm(h i:Int)(z:zq eG)(a:Int):Tr (vA⊕ay):=br (K (i<h)) (I (zK i (N z.s.1)) (I (K (i.toNat<N z.s.1)) (I (K (0<=0)&&K (0<=i)&&K (i<=a)) (br (wc (Qg (i.toNat-W 0) (Qh (W 0) z.s.1)) (z.s.1.getD i.toNat (Q zk))) (re (J 7) (bd aH z)) (Q9 (vA.h12b h (Γ Δ (i+1)) z)))))) (re (J 0) (bd aH z))
def MT(i h:Int)(z:zq eG):Tr (vA⊕ay):=
 let a:=(N z.s.1:Int)
 Hm i h z a
def Bq(h i:Int)(z:zq eG)(a:Int):Tr (vA⊕ay):=br (K (i<h)) (I (zK i (N z.s.1)) (I (K (0<=0)&&K (0<=i)&&K (i<=a)) (br (wc (Qg (i.toNat-W 0) (Qh (W 0) z.s.1)) (z.s.1.getD i.toNat (Q zk))) (re (J 7) (bd aH z)) (Q9 (vA.h12b h (Γ Δ (i+1)) z))))) (re (J 0) (bd aH z))
def Hl(i h:Int)(z:zq eG):Tr (vA⊕ay):=
 let a:=(N z.s.1:Int)
 Bq i h z a
def uJ:vA->Tr (vA⊕ay)
 |.h3 l x a z=>ST l x a z
 |.h12 i h z=>MT i h z
 |.h12b i h z=>Hl i h z
def C7(y:zq cd):Option (zH (Qi Y [zk])×zq aH):=kM [zk] aH uJ 100000000 (znv y)
def qa(y:zq cd):Bool:=(C7 y).isSome
def lm(y:zq cd):zy×zq aH:=(λr:zH (Qi Y [zk])×zq aH=>(r.1.1,r.2)) ((C7 y).getD (ct [zk],gn aH))
def zqS:ak:=rC cd [] [zk] aH (λy _=>qa y) λy _=>(((lm y).1,()),(lm y).2)
theorem zlE:FK 199 zqS:=IV.B1 (f:=f199) (ps:=cd) (ks:=[]) (outs:=[zk]) (keep:=zu1) (n:=100000000) (e:=zxX) (t:=uJ) (i:=λy x=>znv y)
def ziw:=ziv.add 199 zqS
theorem AD:zx ziw:=IV.add zlE
abbrev Zv(y:zq cd):zq cd:=(y.1,(y.2.1.1,y.2.1.2.1,y.2.1.q.1,y.2.1.r.1,y.2.1.t.1,y.2.1.u.1,y.2.1.v.1,y.2.1.w.1,zw y.2.1.x.1,y.2.1.y.1,y.2.1.z.1,zw y.2.1.s.1,y.2.1.p),(y.q.1.1,y.q.1.2.1,y.q.1.q.1,y.q.1.r.1,y.q.1.t.1,zw y.q.1.u),(y.r.1.1,y.r.1.2.1,y.r.1.q.1,y.r.1.r.1,y.r.1.t.1,zw y.r.1.u),y.t.1,y.u.1,y.v.1,y.w.1,y.x.1,zw y.y.1,y.z.1,())
abbrev TJ(y:zq aH):zq aH:=(y.1,(y.2.1.1,y.2.1.2.1,y.2.1.q.1,y.2.1.r.1,y.2.1.t.1,y.2.1.u.1,y.2.1.v.1,y.2.1.w.1,zw y.2.1.x.1,y.2.1.y.1,y.2.1.z.1,zw y.2.1.s.1,y.2.1.p),(y.q.1.1,y.q.1.2.1,y.q.1.q.1,y.q.1.r.1,y.q.1.t.1,zw y.q.1.u),(y.r.1.1,y.r.1.2.1,y.r.1.q.1,y.r.1.r.1,y.r.1.t.1,zw y.r.1.u),y.t.1,y.u.1,y.v.1,y.w.1,y.x.1,y.y.1,zw y.z.1,y.s.1,y.p.1,())
abbrev zuz:Nat->aY:=λ_=>{ }
def ZZ(_:zq cd)(b:L zl.sl×zq [CP.d aB,CP.d ae,CP.d ae,CP.d Q6,CP.d Q6,CP.d Q6,CP.d Q6,CP.nil,CP.d zk,CP.nil,CP.nil,CP.d Q5,CP.nil,CP.d zk])(a:zy×zq aH)(h:zy):Tr (Empty⊕ay):=I (qa b) (br (a.1!=0) (re (J a.1) (bd aH a.2)) (br (K (h<0)) (re (J 1) (bd aH (a.2.1,a.q.1,a.r.1,a.t.1,a.u.1,a.v.1,a.w.1,a.x.1,a.y.1,h,a.s))) (re (J 0) (bd aH (a.2.1,a.q.1,a.r.1,a.t.1,a.u.1,a.v.1,a.w.1,a.x.1,a.y.1,h,a.s)))))
def zfi(y:zq cd):Tr (Empty⊕ay):=
 let h:=Zv y
 let a:=lm h
 let x:=iA a.p.1 a.r.1.q.1
 ZZ y h a x
def Ln(y:zq cd):Option (zH (Qi Y [zk])×zq aH):=kM [zk] aH t0 100000000 (zfi y)
def Lm(y:zq cd):Bool:=(Ln y).isSome
def JG(y:zq cd):zy×zq aH:=(λr:zH (Qi Y [zk])×zq aH=>(r.1.1,r.2)) ((Ln y).getD (ct [zk],gn aH))
def zqh:ak:=rC cd [] [zk] aH (λy _=>Lm y) λy _=>(((JG y).1,()),(JG y).2)
theorem zkZ:FK 141 zqh:=AD.B1 (f:=f141) (keep:=zuz) (n:=100000000) (e:=e0) (t:=t0) (i:=λy x=>zfi y)
abbrev zuB:Nat->aY:=λ_=>{ }
def Z0(_:zq cd)(c:L zl.sl×zq [CP.d aB,CP.d ae,CP.d ae,CP.d Q6,CP.d Q6,CP.d Q6,CP.d Q6,CP.nil,CP.d zk,CP.nil,CP.nil,CP.d Q5,CP.nil,CP.d zk])(a:zy×zq aH)(e _:cK)(h:LC)(b:cK):Tr (Empty⊕ay):=I (qa c) (br (a.1!=0) (re (J a.1) (bd aH a.2)) (I (zK 1 (N a.y.1)) (I (K (W 1<N a.y.1)) (br (e.2.1!=1) (re (J 5) (bd aH a.2)) (I (zK 0 (N a.y.1)) (I (K (W 0<N a.y.1)) (I (zK 1 (N h)) (I (K (W 1<N h)) (re (J 0) (bd aH (a.2.1,a.q.1,a.r.1,a.t.1,a.u.1,a.v.1,a.w.1,a.x.1,h.set (W 1) (b.1,b.2.1,M),a.z)))))))))))
def zfj(y:zq cd):Tr (Empty⊕ay):=
 let x:=Zv y
 let a:=lm x
 let c:=a.y.1.getD (W 1) (Q zp)
 let h:=a.y.1.getD (W 0) (Q zp)
 let b:=a.y.1.set (W 0) (h.1,h.2.1,Z)
 let d:=b.getD (W 1) (Q zp)
 Z0 y x a c h b d
def C6(y:zq cd):Option (zH (Qi Y [zk])×zq aH):=kM [zk] aH t0 100000000 (zfj y)
def C5(y:zq cd):Bool:=(C6 y).isSome
def A1(y:zq cd):zy×zq aH:=(λr:zH (Qi Y [zk])×zq aH=>(r.1.1,r.2)) ((C6 y).getD (ct [zk],gn aH))
def zql:ak:=rC cd [] [zk] aH (λy _=>C5 y) λy _=>(((A1 y).1,()),(A1 y).2)
theorem zk3:FK 143 zql:=AD.B1 (f:=f143) (keep:=zuB) (n:=100000000) (e:=e0) (t:=t0) (i:=λy x=>zfj y)
def zix:=ziw.addL [(141,zqh),(143,zql)]
theorem IW:zx zix:=AD.addL<|fc zkZ<|fc zk3 iP
abbrev zuA:Nat->aY:=λj=>if j=11 then{slots:=[0,83,84,85],prom:=[(0,Y 60,.int .i64)]}else if j=1000000 then{prom:=[(0,Y 50,zp),(0,Y 60,.int .i64)],sett:=[(0,60)]}else{ }
inductive HB where
 |h11 (l83:LC) (i84:Int) (i85:Int) (z0:zq eG)
abbrev zxD:HB->Nat×St
 |.h11 l i h z=>(11,⟨tm 124 [(0,Qf 0 0),(83,O zp l),(84,J i),(85,J h)],[Qa (bm [1,2] eG z),AO.vec zp z.x.1,AO.vec zk z.s.1]⟩)
def OD(y:zq cd)(h:zy)(a:L Q5×ea×zy×Unit)(b c:Int):Tr (HB⊕ay):=br (K (h<0)) (re (J 4) (bd aH (y.1,y.2.1,y.q.1,y.r.1,y.t.1,y.u.1,y.v.1,y.w.1,[],y.x.1,a))) (br (!kc y.q.1.t.1 (h,y.v.1)) (re (J 10) (bd aH (y.1,y.2.1,y.q.1,y.r.1,y.t.1,y.u.1,y.v.1,y.w.1,[],y.x.1,a))) (br (K (c>8)) (re (J 13) (bd aH (y.1,y.2.1,y.q.1,y.r.1,y.t.1,y.u.1,y.v.1,y.w.1,[],y.x.1,a))) (I (K (N y.q.1.2.1<=1073741824)) (Q9 (HB.h11 y.r.1.2.1 b 0 (y.1,y.2.1,y.q.1,y.r.1,y.t.1,y.u.1,y.v.1,y.w.1,y.q.1.2.1,y.q.1.q.1,a))))))
def OC(y:zq cd):Tr (HB⊕ay):=
 let a:=ab (y.q.1.1,y.q.1.2.1,y.q.1.q.1,y.q.1.r.1,y.q.1.t.1,zw y.q.1.u) y.2.1.u.1
 let x:=(y.y.1,[],a,())
 let h:=(N y.r.1.2.1:Int)
 let b:=Γ Δ (Γ Δ ((N y.q.1.2.1:Int)+h)-1)
 OD y a x h b
def Hi(l:LC)(a i:Int)(h:zq eG)(b:LC)(c:Int):Tr (HB⊕ay):=br (K (i<a)) (I (zK i (N l)) (br (i !=h.r.1.q.1) (I (K (N h.s.1+[i].length<=1073741824)) (I (K (N h.x.1+N b<=1073741824)) (Q9 (HB.h11 l a c (h.1,h.2.1,h.q.1,h.r.1,h.t.1,h.u.1,h.v.1,h.w.1,h.x.1++b,h.y.1,h.z.1,h.s.1++[i],h.p))))) (Q9 (HB.h11 l a c h)))) (re (J 0) (bd aH h))
def MO(l:LC)(h i:Int)(z:zq eG):Tr (HB⊕ay):=
 let a:=[l.getD i.toNat (Q zp)]
 let x:=Γ Δ (i+1)
 Hi l h i z a x
def SO:HB->Tr (HB⊕ay)
 |.h11 l i h z=>MO l i h z
def FH(y:zq cd):Option (zH (Qi Y [zk])×zq aH):=kM [zk] aH SO 100000000 (OC y)
def Lo(y:zq cd):Bool:=(FH y).isSome
def JH(y:zq cd):zy×zq aH:=(λr:zH (Qi Y [zk])×zq aH=>(r.1.1,r.2)) ((FH y).getD (ct [zk],gn aH))
def zqj:ak:=rC cd [] [zk] aH (λy _=>Lo y) λy _=>(((JH y).1,()),(JH y).2)
theorem zk1:FK 142 zqj:=IW.B1 (f:=f142) (keep:=zuA) (n:=100000000) (e:=zxD) (t:=SO) (i:=λy x=>OC y)
def ziy:=zix.add 142 zqj
theorem IX:zx ziy:=IW.add zk1
abbrev o6:AV:=agg ([X [],X [],X [],X [],nils,J 0,nils,nils]++zE++[nils,J 0])
abbrev A7(z:zq aH):AV:=agg ([X z.t.1,X z.u.1,X z.v.1,X z.w.1,AV.vec 0,J z.y.1,nils,nils]++xE z.z.1++[O zk z.s.1,J z.p.1])
abbrev Lz(z:zq cd):AV:=agg ([X z.t.1,X z.u.1,X z.v.1,X z.w.1,nils,J z.x.1,nils,nils]++xE z.y.1++[nils,J z.z.1])
def Ow(_:L zl.sl)(s:zS)(_:zg)(_:L Q6×L (Sh.str.pr (Sh.str.pr (Sh.str.sl.pr (zp.sl.pr (Sh.str.pr (Sh.str.sl.pr (jM.sl.pr (Sh.expr.pr (ze.sl.pr (jb.sl.pr (Sh.expr.pr Q6))))))))))))(_ n o p:Bool)(_:L zl.sl×zq [CP.d aB,CP.d ae,CP.d ae,CP.d Q6,CP.d Q6,CP.d Q6,CP.d Q6,CP.nil,CP.d zk,CP.nil,CP.nil,CP.d Q5,CP.nil,CP.d zk])(q:Bool)(g:zy×zq cd)(j:Bool)(i:L zl.sl×zq [CP.d aB,CP.d ae,CP.d ae,CP.d Q6,CP.d Q6,CP.d Q6,CP.d Q6,CP.nil,CP.d zk,CP.nil,CP.nil,CP.d Q5,CP.nil,CP.d zk])(a:zy×zq aH)(k:L zl.sl×zq [CP.d aB,CP.d ae,CP.d ae,CP.d Q6,CP.d Q6,CP.d Q6,CP.d Q6,CP.vec zp,CP.d zk,CP.nil,CP.nil,CP.d Q5,CP.d zk.sl,CP.d zk])(b h:zy×zq aH)(l:L zl.sl×zq [CP.d aB,CP.d ae,CP.d ae,CP.d Q6,CP.d Q6,CP.d Q6,CP.d Q6,CP.vec zp,CP.d zk,CP.nil,CP.nil,CP.d Q5,CP.d zk.sl,CP.d zk])(c x:zy×zq aH)(m:L zl.sl×zq [CP.d aB,CP.d ae,CP.d ae,CP.d Q6,CP.d Q6,CP.d Q6,CP.d Q6,CP.vec zp,CP.d zk,CP.nil,CP.nil,CP.d Q5,CP.d zk.sl,CP.d zk])(e:zy×zq aH):Tr (Empty⊕ay):=
 I Z (I Z (I Z (br (s.1==dp) (I n (br o (re (tup [o6,J 1]) []) (I p (I q (br j (I (Lm i) (br (a.1==0) (I (iB k) (br (b.1!=0) (re (tup [o6,J b.1]) []) (re (tup [(A7 b.2),J 0]) [AO.vec zp b.y.1]))) (br (a.1!=0) (re (tup [o6,J a.1]) []) (re (tup [(A7 a.2),J 0]) [AO.vec zp a.y.1])))) (br j Tr.err (br (g.1!=0) (re (tup [o6,J g.1]) []) (re (tup [(Lz g.2),J 0]) [])))))))) (br (s.1==fD) (I n (br o (re (tup [o6,J 1]) []) (I p (I q (br j (I (Lo i) (br (h.1==0) (I (iB l) (br (c.1!=0) (re (tup [o6,J c.1]) []) (re (tup [(A7 c.2),J 0]) [AO.vec zp c.y.1]))) (br (h.1!=0) (re (tup [o6,J h.1]) []) (re (tup [(A7 h.2),J 0]) [AO.vec zp h.y.1])))) (br j Tr.err (br (g.1!=0) (re (tup [o6,J g.1]) []) (re (tup [(Lz g.2),J 0]) [])))))))) (br (s.1==na) (I n (br o (re (tup [o6,J 1]) []) (I p (I q (br j (I (C5 i) (br (x.1==0) (I (iB m) (br (e.1!=0) (re (tup [o6,J e.1]) []) (re (tup [(A7 e.2),J 0]) [AO.vec zp e.y.1]))) (br (x.1!=0) (re (tup [o6,J x.1]) []) (re (tup [(A7 x.2),J 0]) [AO.vec zp x.y.1])))) (br j Tr.err (br (g.1!=0) (re (tup [o6,J g.1]) []) (re (tup [(Lz g.2),J 0]) [])))))))) (re (tup [o6,J 1]) []))))))
def znd(l:L zl.sl)(h:zS):Tr (Empty⊕ay):=
 let j:=zw h.x.1
 let k:=(h.1,h.2.1,h.q.1,h.r.1,h.t.1,h.u.1,h.v.1,h.w.1,j,h.y.1,h.z.1,zw h.s.1,h.p)
 let A:=!fx k
 let D:=qB k&&bif A then Z else pF l
 let E:=bif A then Z else mi l !=0
 let F:=ot 16 j
 let B:=(l,k,([],[],0,[],[],zg.mk [] (0,0,[]) [] []),([],[],0,[],[],zg.mk [] (0,0,[]) [] []),h.1,h.q.1,h.p,h.2.1,0,j,0,())
 let G:=oY B
 let C:=oX B
 let H:=C.1==0
 let a:=Zv C.2
 let b:=JG a
 let c:=TJ b.2
 let m:=gq c
 let d:=JH a
 let e:=TJ d.2
 let n:=gq e
 let g:=A1 a
 let i:=TJ g.2
 let o:=gq i
 Ow l h j k A D E F B G C H a b c m d e n g i o
def Pa(x:L zl.sl)(h:zS):=am [zZ,zk] t0 100000000 (znd x h)
def zoI(x:L zl.sl)(h:zS):=(Pa x h).isSome
def pOf(x:L zl.sl)(h:zS):=o2 (Pa x h)
def zpC:=FT [zl.sl,aB] [zZ,zk] λx=>Pa x.1 x.2.1
theorem zkh:FK 84 zpC:=IX.T1 (f:=f84) (keep:=k0) (e:=e0)
def ziz:=ziy.add 84 zpC
theorem oN:zx ziz:=IX.add zkh
abbrev be:List CP:=[.d (.sl zI),.d zk,.d .bool]
def zjf(x:L (Sh.int IntKind.u8)):Tr (Empty⊕ay):=
 let a:=bif K (97<=x)then K (x<=122)else M
 re (AV.bool (cond (K (65<=x)) (cond (K (x<=90)) Z a) a)) []
def pl(x:L (Sh.int IntKind.u8)):=am [Q7] t0 100000000 (zjf x)
def pk(x:L (Sh.int IntKind.u8)):=(pl x).isSome
def sC(x:L (Sh.int IntKind.u8)):=o1 (pl x)
def zhk:=FT [Sh.int IntKind.u8] [Q7] λx=>pl x.1
theorem zdi:FK 131 zhk:=oN.T1 (f:=f131) (keep:=k0) (e:=e0)
def ztL(x:L (Sh.int IntKind.u8)):Tr (Empty⊕ay):=
 re (AV.bool (cond (K (48<=x)) (K (x<=57)) M)) []
def yh(x:L (Sh.int IntKind.u8)):=am [Q7] t0 100000000 (ztL x)
def kP(x:L (Sh.int IntKind.u8)):=(yh x).isSome
def lK(x:L (Sh.int IntKind.u8)):=o1 (yh x)
def zhn:=FT [Sh.int IntKind.u8] [Q7] λx=>yh x.1
theorem zdl:FK 133 zhn:=oN.T1 (f:=f133) (keep:=k0) (e:=e0)
abbrev zvd:=kr [(2,[0,1,5])]
inductive Vy where
 |h2 (l0:LS) (s1:TS) (i5:Int)
abbrev zx6:Vy->Nat×St
 |.h2 l s i=>(2,⟨tm 18 [(0,O Q6 l),(1,X s),(5,J i)],[]⟩)
def zzi(x:L Sh.str.sl)(h:TS):Tr (Vy⊕ay):=
 Q9 (Vy.h2 x h 0)
def SU:Vy->Tr (Vy⊕ay)
 | .h2 l s i=>
  br (K (i<(N l:Int)))
  (I (zK i (N l)) (br (l.getD i.toNat (Q Q6)==s) (re (kb Z) []) (Q9 (Vy.h2 l s (Γ Δ (i+1))))))
  (re (kb M) [])
def UM(x:L Sh.str.sl)(h:TS):=am [Q7] SU 100000000 (zzi x h)
def Ci(x:L Sh.str.sl)(h:TS):=(UM x h).isSome
def PJ(x:L Sh.str.sl)(h:TS):=o1 (UM x h)
def zq8:=FT [Sh.str.sl,Q6] [Q7] λx=>UM x.1 x.2.1
theorem zlT:FK 128 zq8:=oN.T1 (f:=f128) (keep:=zvd) (e:=zx6)
abbrev znL:Nat->aY:=λ_=>{ }
def zjc(y:zq be)(e:TS):Tr (Empty⊕ay):=
 let x:=K (y.2.1<(N y.1:Int))
 let a:=zK y.2.1 (N y.1)
 let h:=T y.1 (W y.2.1) (Q zI)
 let b:=h.1==1
 let c:=h.1==4
 let d:=h.2==e
 I (cond x (a&&bif b then a else a&&bif c then a else Z) Z)
 (re (AV.bool (cond x (cond b d (cond c d M)) M)) (bd be y))
def zbR(y:zq be)(x:TS):Option (zH (Qi Y [Q7])×zq be):=kM [Q7] be t0 100000000 (zjc y x)
def Mq(y:zq be)(x:TS):Bool:=(zbR y x).isSome
def PP(y:zq be)(x:TS):(L Q7)×zq be:=(λr:zH (Qi Y [Q7])×zq be=>(r.1.1,r.2)) ((zbR y x).getD (ct [Q7],gn be))
def zg2:ak:=rC be [Q6] [Q7] be (λy x=>Mq y x.1) λy x=>(((PP y x.1).1,()),(PP y x.1).2)
theorem zc0:FK 75 zg2:=oN.B1 (f:=f75) (ps:=be) (ks:=[Q6]) (outs:=[Q7]) (keep:=znL) (n:=100000000) (e:=e0) (t:=t0) (i:=λy x=>zjc y x.1)
def I0:=ziz.addL [(131,zhk),(133,zhn),(128,zq8),(75,zg2)]
theorem jY:zx I0:=oN.addL<|fc zdi<|fc zdl<|fc zlT<|fc zc0 iP
abbrev znF:=kr [(2,[1,3])]
inductive DQ where
 |h2 (i3:Int) (z0:zq [CP.d R])
abbrev zsX:DQ->Nat×St
 |.h2 i z=>(2,⟨tm 66 [(1,Qf 0 0),(3,J i)],[Qa (bm [] [CP.d R] z)]⟩)
def zi5(x:zo):Tr (DQ⊕ay):=
 Q9 (DQ.h2 0 (x,()))
def vq:DQ->Tr (DQ⊕ay)
 | .h2 i z=>
  let x:=(N z.1.q:Int)
  let b:=zK i (N z.1.q)
  let c:=(↑(T z.1.q i.toNat 0).toNat:Int)
  let d:=K (c<32)
  let h:=z.1.2.1==0
  let a:=z.1.q==[]
  br (K (i<x))
  (I (b&&bif d then Z else b)
   (br (cond d Z (K (c>126))) (re (kb M) []) (Q9 (DQ.h2 (Γ Δ (i+1)) z))))
  (br (z.1.1==0) (re (AV.bool (cond h a M)) [])
   (br (z.1.1==1) (re (AV.bool a) []) (br (z.1.1==2) (re (AV.bool (cond h (K (x<=40)) M)) []) (br (z.1.1==3) (re (AV.bool (cond h a (cond (z.1.2.1==1) a M))) []) (re (kb M) [])))))
def LM(x:zo):=am [Q7] vq 100000000 (zi5 x)
def nZ(x:zo):=(LM x).isSome
def vn(x:zo):=o1 (LM x)
def zgT:=FT [R] [Q7] λx=>LM x.1
theorem zcQ:FK 104 zgT:=jY.T1 (f:=f104) (keep:=znF) (e:=zsX)
def ztM(x:L Q7):Tr (Empty⊕ay):=
 br x (re (agg [J 3,J 1,X []]) []) (re (agg [J 3,J 0,X []]) [])
def xT(x:L Q7):=am [R] t0 100000000 (ztM x)
def mK(x:L Q7):=(xT x).isSome
def bC(x:L Q7):=o1 (xT x)
def zhr:=FT [Q7] [R] λx=>xT x.1
theorem zdp:FK 166 zhr:=jY.T1 (f:=f166) (keep:=k0) (e:=e0)
abbrev zn6:Nat->aY:=λ_=>{ }
def zjr(x:TS):Tr (Empty⊕ay):=
 re
 (AV.bool
  (bif x==jf then Z
  else bif x==wS then Z else bif x==[61]then Z else bif x==[60]then Z else bif x==[43]then Z else x==[45]))
 []
def Sm(x:TS):Option (zH (Qi Y [Q7])):=am [Q7] t0 100000000 (zjr x)
def LZ(x:TS):Bool:=(Sm x).isSome
def UK(x:TS):L Q7:=(λr:zH (Qi Y [Q7])=>r.1) ((Sm x).getD (ct [Q7]))
def zhJ:ak:=af [Q6] [Q7] (λx=>LZ x.1) λx=>(UK x.1,())
theorem zdG:FK 240 zhJ:=jY.TT (f:=f240) (ks:=[Q6]) (outs:=[Q7]) (keep:=zn6) (n:=100000000) (e:=e0) (t:=t0) (i:=λx=>zjr x.1)
abbrev zuM:Nat->aY:=λj=>if j=2 then{slots:=[0,1,5]}else{ }
inductive Nk where
 |h2 (l0:LC) (s1:TS) (i5:Int)
abbrev zxM:Nk->Nat×St
 |.h2 l s i=>(2,⟨tm 20 [(0,O zp l),(1,X s),(5,J i)],[]⟩)
def znq(x:L zp.sl)(h:TS):Tr (Nk⊕ay):=
 Q9 (Nk.h2 x h 0)
def MS(l:LC)(s:TS)(i:Int)(a:cK):Tr (Nk⊕ay):=
 br (K (i<(N l:Int)))
 (I (zK i (N l)) (br (a.1==s) (re (J i) []) (Q9 (Nk.h2 l s (Γ Δ (i+1))))))
 (re (J (-1)) [])
def SS(l:LC)(s:TS)(i:Int):Tr (Nk⊕ay):=
 let a:=l.getD i.toNat (Q zp)
 MS l s i a
def zci:Nk->Tr (Nk⊕ay)
 |.h2 l s i=>SS l s i
def Gp(x:L zp.sl)(h:TS):Option (zH (Qi Y [zk])):=am [zk] zci 100000000 (znq x h)
def fq(x:L zp.sl)(h:TS):Bool:=(Gp x h).isSome
def gZ(x:L zp.sl)(h:TS):zy:=(λr:zH (Qi Y [zk])=>r.1) ((Gp x h).getD (ct [zk]))
def zqx:ak:=af [zp.sl,Q6] [zk] (λx=>fq x.1 x.2.1) λx=>(gZ x.1 x.2.1,())
theorem zlf:FK 64 zqx:=jY.TT (f:=f64) (ks:=[zp.sl,Q6]) (outs:=[zk]) (keep:=zuM) (n:=100000000) (e:=zxM) (t:=zci) (i:=λx=>znq x.1 x.2.1)
def zig(g:L Q5->L Q5->L Q7)(c:L Q5->L Q5->Bool):cy:=I0.add 95 (af [Q5,Q5] [Q7] (λx=>c x.1 x.2.1) λx=>(g x.1 x.2.1,()))
theorem Wf{g:L Q5->L Q5->L Q7}{c:L Q5->L Q5->Bool}(h:FK 95 (af [Q5,Q5] [Q7] (λx=>c x.1 x.2.1) λx=>(g x.1 x.2.1,()))):zx (zig g c):=jY.add h
abbrev zva:Nat->aY:=λj=>if j=4 then{slots:=[2,3,5]}else{ }
inductive No where
 |h4 (i5:Int) (z0:zq [CP.d Q5]) (z1:zq [CP.d Q5])
abbrev zx3:No->Nat×St
 |.h4 i z h=>(4,⟨tm 53 [(2,Qf 0 0),(3,Qf 1 0),(5,J i)],[Qa (bm [] [CP.d Q5] z),Qa (bm [] [CP.d Q5] h)]⟩)
def HR(_:L Q5->L Q5->L Q7)(_:L Q5->L Q5->Bool)(x h:L Q5):Tr (No⊕ay):=
 br
 (bif !zg.op x==zg.op h then Z
 else
  bif !((zg.v x).1==(zg.v h).1&&((zg.v x).2.1==(zg.v h).2.1&&((zg.v x).q==(zg.v h).q&&Z)))then Z
  else bif !zg.s x==zg.s h then Z else(↑(zg.l x).length:Int)!=(↑(zg.l h).length:Int))
 (re (kb M) []) (Q9 (No.h4 0 (x,()) (h,())))
def DK(g:L Q5->L Q5->L Q7)(c:L Q5->L Q5->Bool)(i:Int)(z x:zq [CP.d Q5])(b:Int)(a h:zg):Tr (No⊕ay):=
 br (K (i<b))
 (I (zK i (zg.l z.1).length)
  (I (zK i (zg.l x.1).length) (I (c a h) (br (!g a h) (re (kb M) []) (Q9 (No.h4 (Γ Δ (i+1)) z x))))))
 (re (kb Z) [])
def MW(g:L Q5->L Q5->L Q7)(c:L Q5->L Q5->Bool)(i:Int)(z h:zq [CP.d Q5]):Tr (No⊕ay):=
 let a:=(↑(zg.l z.1).length:Int)
 let x:=zw ((zg.l z.1).getD i.toNat (Q Q5))
 let b:=zw ((zg.l h.1).getD i.toNat (Q Q5))
 DK g c i z h a x b
def Qm(g:L Q5->L Q5->L Q7)(c:L Q5->L Q5->Bool):No->Tr (No⊕ay)
 |.h4 i z h=>MW g c i z h
def iK(o:Option (zH (Qi Y [Q7]))):L Q7:=(λr:zH (Qi Y [Q7])=>r.1) (o.getD (ct [Q7]))
def LQ(g:L Q5->L Q5->L Q7)(c:L Q5->L Q5->Bool)(x h:L Q5):Option (zH (Qi Y [Q7])):=am [Q7] (Qm g c) 3000000000 (HR g c x h)
def cH:Nat->L Q5->L Q5->Option (zH (Qi Y [Q7]))
 |0=>λ_ _=>Q2
 |n+1=>LQ (λx h=>iK (cH n x h)) λx h=>(cH n x h).isSome
theorem znB:aa I0.P 95 f95 2:=cM kw
theorem Ta:∀n,FK 95 (af [Q5,Q5] [Q7] (λx=>(cH n x.1 x.2.1).isSome) λx=>(iK (cH n x.1 x.2.1),()))
 |0=>e7 ⟨f95,znB.1,znB.2.1,znB.q.1⟩ (λ_=>rfl)
 |n+1=>(Wf (Ta n)).TT (f:=f95) (E:=zig (λh a=>iK (cH n h a)) (λh a=>(cH n h a).isSome)) (ks:=[Q5,Q5]) (outs:=[Q7]) (keep:=zva) (n:=3000000000) (e:=zx3) (t:=Qm (λh a=>iK (cH n h a)) (λh a=>(cH n h a).isSome)) (i:=λx=>HR (λh a=>iK (cH n h a)) (λh a=>(cH n h a).isSome) x.1 x.2.1)
def Dg(x h:L Q5):Option (zH (Qi Y [Q7])):=cH 16 x h
def gW(x h:L Q5):Bool:=(Dg x h).isSome
def fH(x h:L Q5):L Q7:=iK (Dg x h)
def zq3:ak:=af [Q5,Q5] [Q7] (λx=>gW x.1 x.2.1) λx=>(fH x.1 x.2.1,())
theorem zlO:FK 95 zq3:=Ta 16
def YR(g:L Q5->zy)(c:L Q5->Bool):cy:=I0.add 194 (af [Q5] [zk] (λx=>c x.1) λx=>(g x.1,()))
theorem Rk{g:L Q5->zy}{c:L Q5->Bool}(h:FK 194 (af [Q5] [zk] (λx=>c x.1) λx=>(g x.1,()))):zx (YR g c):=jY.add h
abbrev znZ:Nat->aY:=λj=>if j=3 then{slots:=[1,3,4]}else{ }
inductive wF where
 |h3 (i3:Int) (i4:Int) (z0:zq [CP.d Q5])
abbrev zs7:wF->Nat×St
 |.h3 i h z=>(3,⟨tm 21 [(1,Qf 0 0),(3,J i),(4,J h)],[Qa (bm [] [CP.d Q5] z)]⟩)
def ZT(_:L Q5->zy)(_:L Q5->Bool)(x:L Q5):Tr (wF⊕ay):=
 Q9 (wF.h3 1 0 (x,()))
def Hg(g:L Q5->zy)(c:L Q5->Bool)(h i:Int)(z:zq [CP.d Q5])(x:Int)(a:zg):Tr (wF⊕ay):=
 br (K (i<x))
 (I (zK i (zg.l z.1).length) (I (c a) (Q9 (wF.h3 (Γ Δ (h+g a)) (Γ Δ (i+1)) z))))
 (re (J h) [])
def MM(g:L Q5->zy)(c:L Q5->Bool)(x i:Int)(z:zq [CP.d Q5]):Tr (wF⊕ay):=
 let a:=(↑(zg.l z.1).length:Int)
 let h:=zw ((zg.l z.1).getD i.toNat (Q Q5))
 Hg g c x i z a h
def Ki(g:L Q5->zy)(c:L Q5->Bool):wF->Tr (wF⊕ay)
 |.h3 i h z=>MM g c i h z
def jx(o:Option (zH (Qi Y [zk]))):zy:=(λr:zH (Qi Y [zk])=>r.1) (o.getD (ct [zk]))
def Pv(g:L Q5->zy)(c:L Q5->Bool)(x:L Q5):Option (zH (Qi Y [zk])):=am [zk] (Ki g c) 100000000 (ZT g c x)
def di:Nat->L Q5->Option (zH (Qi Y [zk]))
 |0=>λ_=>Q2
 |n+1=>Pv (λx=>jx (di n x)) λx=>(di n x).isSome
theorem zac:aa I0.P 194 f194 1:=cM kw
theorem Nd:∀n,FK 194 (af [Q5] [zk] (λx=>(di n x.1).isSome) λx=>(jx (di n x.1),()))
 |0=>e7 ⟨f194,zac.1,zac.2.1,zac.q.1⟩ (λ_=>rfl)
 |n+1=>(Rk (Nd n)).TT (f:=f194) (E:=YR (λh=>jx (di n h)) (λh=>(di n h).isSome)) (ks:=[Q5]) (outs:=[zk]) (keep:=znZ) (n:=100000000) (e:=zs7) (t:=Ki (λh=>jx (di n h)) (λh=>(di n h).isSome)) (i:=λx=>ZT (λh=>jx (di n h)) (λh=>(di n h).isSome) x.1)
def Gn(x:L Q5):Option (zH (Qi Y [zk])):=di 16 x
def xW(x:L Q5):Bool:=(Gn x).isSome
def Dj(x:L Q5):zy:=jx (Gn x)
def zhq:ak:=af [Q5] [zk] (λx=>xW x.1) λx=>(Dj x.1,())
theorem zdo:FK 194 zhq:=Nd 16
def YV:=I0.addL [(104,zgT),(166,zhr),(240,zhJ),(64,zqx),(95,zq3),(194,zhq)]
theorem mq:zx YV:=jY.addL<|fc zcQ<|fc zdp<|fc zdG<|fc zlf<|fc zlO<|fc zdo iP
end
end Cad
