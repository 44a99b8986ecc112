/- Statements. -/
import Derived.Test.YtjdjldbhjmgmkaaGreatDoorP11
namespace Cad
open Go Go.Proofs
open List renaming length->Io,map->Qi,drop->Qh,take->Qg,length->X
open IntKind renaming wrap->Γ,i64->Δ
open AV renaming ptr->Qf
open Tr renaming «to»->Q9,chk->K
open AO renaming box->Qa
open Sh renaming bool->Q7,str->Q6,expr->Q5
open Bool renaming true->O,false->S
open Option renaming none->Q2,some->M
open Decidable renaming decide->T,decide->Q0
open Int renaming toNat->Z
open List (getD)
open List renaming getD->Y
open Tr (chk br re)
open AV (nils agg tup ptr kb)
open AV renaming str->I,sl->N
open Cad renaming ai->L,Sem->J,zi->Q,ze->R,ow->W
noncomputable section
set_option maxHeartbeats 4000000
abbrev xW(l:LS)(i:Int):St:={tmps:=[.sl Q6 l,.clo (.func 323) [] [.ptr 0 0],.any,.any,.any,.any,.any,L (X l),L i,.any,.any,.any,.any,.any,.any,.any,.any,.any,.any],heap:=[.box [.clo (.func 282) [] []]]}
theorem VW(l:LS):run rz 1 Ci Tryz.f345.results.toList 300 (bq Tryz.f345) (bg Tryz.f345.ntmps [.sl Q6 l,.clo (.func 323) [] [.ptr 0 0]] [.box [.clo (.func 282) [] []]])=.ok (.head 2 (am Tryz.f345 2) (xW l 0)):=kw
theorem Wt(l:LS)(i:Int):run rz 1 Ci Tryz.f345.results.toList 300 (am Tryz.f345 2) (xW l i)=pR (K:=am Tryz.f345 2) (e:=Q6) l (λx=>!dH x) (xW l) [.box [.clo (.func 282) [] []]] i:=kw
theorem zaj:zY rz.P 345 Tryz.f345 2:=cK kw
def zrJ:fD [M (.sl Q6),Q2]:=λx h=>match x,h with
 |(l,.clo (.func 323) [] [.ptr 0 0],_),[.box [.clo (.func 282) [] []]]=>.ok (L (ah (λx=>!dH x) l 0),[.box [.clo (.func 282) [] []]])
 |_,_=>.err
def zo2:ag:=bf [M (.sl Q6),Q2] zrJ
theorem zjK:FK 345 zo2:=by
 refine dz zaj λx d c h C a=>?_
 unfold zrJ at h;split at h
 .rename_i l u;simp only[Tr.val_ok,bG]at h;subst h;refine Reach.len 0 Q6 l rfl λb=>?_
  refine zI (n0:=1) lO zaj a (VW l) ?_;exact lX l (λx=>!dH x) (xW l) lO zaj a (Wt l) b _ 0 rfl (aG _)
 .simp at h
abbrev zto:Nat->aX:=λ_=>{ }
theorem zi4:zY (rz).P 335 Tryz.f335 1:=cK kw
theorem zsv(x:J Q5):rn rz 0 zto Tryz.f335 [zW Q5 x] []=br (!ea (zt x)) (Tr.ok (zR.ret (tup [I [],L 1]) [])) (K (iH 16 (zt x)) (Tr.ok (zR.ret (tup [I (bj 16 (zt x)),L 0]) []))):=kw
def pL(x:J Q5):J Q6×zy:=(ite ((!ea x)=O) ([],1) (bj 16 x,0))
def sT(x:J Q5):Bool:=(ite ((!ea x)=O) O (ite (iH 16 x=O) O S))
def zoZ:ag:=ac [Q5] [Q6,zk] (λx=>sT x.1) λx=>((pL x.1).1,(pL x.1).2,())
theorem zjH:FK 335 zoZ:=by
 refine aV (zi4) λx h C b=>?_
 unfold sT at h;refine zI lO (zi4) (λid _=>b id) (zsv x.1) ?_;generalize a:pL x.1=y;unfold pL at a
 try simp only[zg.eta]
 exact MB a h
abbrev zt4:Nat->aX:=λj=>if j=3 then{slots:=[0,4,5],prom:=[(4,Q2,lx)]}else{ }
abbrev Pt(s:TS)(i:Int)(l:LF):St:={tmps:=(tm 47 [(0,I s),(4,AV.vec 0),(5,L i)]),heap:=[AO.vec zG l]}
theorem znH:zY (rz).P 256 Tryz.f256 1:=cK kw
theorem zxQ(x:TS):rn rz 0 zt4 Tryz.f256 [zW Q6 x] []=Tr.ok (zR.head 3 (am Tryz.f256 3) (Pt x 0 [])):=kw
theorem znP(s:TS)(i:Int)(l:LF):rh rz 0 zt4 Tryz.f256 3 (Pt s i l)=let h:=(X s:Int);let a:=Qg (h.toNat-i.toNat) (Qh i.toNat s);let x:=(↑(Y s i.toNat 0).toNat:Int);br (T (i<h)) (K (zL i (X s)&&bif x==32 then O else zL i (X s)) (br (cond (x==32) O (x==10)) (Tr.ok (zR.head 3 (am Tryz.f256 3) (Pt s (Γ Δ (i+1)) l))) (K (T (0<=i)&&T (i<=h)&&T (h<=h)) (K (lZ a) (K (tZ (ch a).1) (br (cond (!dJ (ch a).1) O ((X l:Int)==400)) (Tr.ok (zR.ret (tup [nils,L 2]) [])) (K (T (X l+[(ch a).1].length<=1073741824)) (Tr.ok (zR.head 3 (am Tryz.f256 3) (Pt s (Γ Δ (i+(ch a).2)) (l++[(ch a).1]))))))))))) (Tr.ok (zR.ret (tup [AV.vec 0,L 0]) [AO.vec zG l])):=kw
def wJ:Nat->(Sem Sh.str)->Int->dK->Sem lx.sl×zy
 |0,_,_,_=>default
 |n+1,s,i,l=>(if T (i<(X s:Int))=O then
 if(cond ((↑(Y s i.toNat 0).toNat:Int)==32) O ((↑(Y s i.toNat 0).toNat:Int)==10))=O then
  wJ n s (Γ Δ (i+1)) l
 else
  if
    (bif !dJ (ch (Qg ((X s:Int).toNat-i.toNat) (Qh i.toNat s))).1 then O
     else(X l:Int)==400)=
     O then
   ([],2)
  else
   wJ n s (Γ Δ (i+(ch (Qg ((X s:Int).toNat-i.toNat) (Qh i.toNat s))).2))
    (l++[(ch (Qg ((X s:Int).toNat-i.toNat) (Qh i.toNat s))).1])
else(l,0))
def vq:Nat->(Sem Sh.str)->Int->dK->Bool
 |0,_,_,_=>S
 |n+1,s,i,l=>(if T (i<(X s:Int))=O then
 if (zL i (Io s)&&bif (↑(getD s i.toNat 0).toNat:Int)==32 then true else zL i (Io s))=true then
  if(cond ((↑(Y s i.toNat 0).toNat:Int)==32) O ((↑(Y s i.toNat 0).toNat:Int)==10))=O then
   vq n s (Γ Δ (i+1)) l
  else
   if (decide (0≤i)&&decide (i≤(Io s:Int))&&decide ((Io s:Int)≤(Io s:Int)))=true then
    if lZ (List.take ((Io s:Int).toNat-i.toNat) (List.drop i.toNat s))=true then
     if tZ (ch (List.take ((Io s:Int).toNat-i.toNat) (List.drop i.toNat s))).1=true then
      if
        (bif !dJ (ch (Qg ((X s:Int).toNat-i.toNat) (Qh i.toNat s))).1 then O
         else(X l:Int)==400)=
         O then
       O
      else
       if
         T (X l+[(ch (Qg ((X s:Int).toNat-i.toNat) (Qh i.toNat s))).1].length<=1073741824)=
          O then
        vq n s (Γ Δ (i+(ch (Qg ((X s:Int).toNat-i.toNat) (Qh i.toNat s))).2))
         (l++[(ch (Qg ((X s:Int).toNat-i.toNat) (Qh i.toNat s))).1])
       else S
     else S
    else S
   else S
 else S
else O)
theorem XM{C:eW}(b:∀id,C.ρ0 id=Q2):∀(n:Nat)(s:TS)(i:Int)(l:LF),vq n s i l=O->
  Reach (rz) C 256 (am Tryz.f256 3) (Pt s i l) (λr h=>aZ h [lx.sl,zk] r=M ((wJ n s i l).1,(wJ n s i l).2,()))
 |0,s,i,l,x=>by cases x
 | n+1,s,i,l,x=>by
  refine zI lO (znH) (λid _=>b id) (znP _ _ _) ?_;rw[vq]at x;generalize a:wJ (n+1) s i l=y;rw[wJ]at a
  skip
  repeat' (first|with_reducible refine obr a x (λ_ a x=>?_) (λ_ a x=>?_)|with_reducible refine Fq a (λ_ a=>?_) (λ_ a=>?_)|with_reducible refine KS x (λx=>?_)|with_reducible refine er ?_)
  all_goals first|(cases x;done)|(subst a;first|(change Reach _ _ _ _ _ _;refine XM b n _ _ _ ?_<;>exact x)|rfl)
def cut(x:TS):J lx.sl×zy:=(wJ (X x+1) x 0 [])
def X9(x:TS):Bool:=(vq (X x+1) x 0 [])
def F69:ag:=ac [Q6] [lx.sl,zk] (λx=>X9 x.1) λx=>((cut x.1).1,(cut x.1).2,())
theorem zrh:FK 256 F69:=by
 refine aV (znH) λx h C b=>?_
 unfold X9 at h;refine zI lO (znH) (λid _=>b id) (zxQ x.1) ?_;generalize a:cut x.1=y;unfold cut at a
 try simp only[zg.eta,zo]
 repeat' (first|with_reducible refine obr a h (λ_ a h=>?_) (λ_ a h=>?_)|with_reducible refine Fq a (λ_ a=>?_) (λ_ a=>?_)|with_reducible refine KS h (λh=>?_)|with_reducible refine er ?_)
 all_goals first|(cases h;done)|(subst a;first|(change Reach _ _ _ _ _ _;refine XM b _ _ _ _ ?_<;>exact h)|rfl)
def Nv:=rz.addL [(345,zo2),(335,zoZ),(256,F69)]
theorem yZ:zw Nv:=lO.addL<|fc zjK<|fc zjH<|fc zrh jg
def zoR:ag:=bf (List.replicate 2 Q2) (fj Nv Tryz.f322 (List.replicate 2 Q2))
theorem zjz:FK 322 zoR:=cm _ yZ (cK kw)
abbrev zys:Nat->aX:=λ_=>{ }
theorem zve:zY (Nv).P 296 Tryz.f296 1:=cK kw
theorem zx0(x:J Q5):rn Nv 0 zys Tryz.f296 [zW Q5 x] []=K (sT (zt x)) (Tr.ok (zR.ret (I (pL (zt x)).1) [])):=kw
def jG(x:J Q5):J Q6:=((pL x).1)
def sI(x:J Q5):Bool:=(ite (sT x=O) O S)
def F94:ag:=ac [Q5] [Q6] (λx=>sI x.1) λx=>(jG x.1,())
theorem zrD:FK 296 F94:=by
 refine aV (zve) λx h C b=>?_
 unfold sI at h;refine zI yZ (zve) (λid _=>b id) (zx0 x.1) ?_;generalize a:jG x.1=y;unfold jG at a
 try simp only[zg.eta]
 exact MB a h
def Nw:=Nv.addL [(322,zoR),(296,F94)]
theorem Aa:zw Nw:=yZ.addL<|fc zjz<|fc zrD jg
def F86:ag:=bf (List.replicate 4 Q2) (fj Nw Tryz.f288 (List.replicate 4 Q2))
theorem zrv:FK 288 F86:=cm _ Aa (cK kw)
abbrev zyt:Nat->aX:=λ_=>{ }
theorem zvf:zY (Nw).P 300 Tryz.f300 2:=cK kw
theorem zx2(x:TS)(h:J Q5):rn Nw 0 zyt Tryz.f300 [zW Q6 x,zW Q5 h] []=let a:=zt h;br (iX a) (Tr.ok (zR.ret (I []) [])) (K (T (X x+X M9<=1099511627776)) (K (sI a) (K (T (X (x++M9)+X (jG a)<=1099511627776)) (K (T (X (x++M9++jG a)+X jm<=1099511627776)) (Tr.ok (zR.ret (I (x++M9++jG a++jm)) [])))))):=kw
def mj(h:TS)(x:J Q5):J Q6:=(ite (iX x=O) [] (h++M9++jG x++jm))
def wC(h:TS)(x:J Q5):Bool:=(ite (iX x=O) O (ite (T (X h+X M9<=1099511627776)=O) (ite (sI x=O) (ite (T (X (h++M9)+X (jG x)<=1099511627776)=O) (ite (T (X (h++M9++jG x)+X jm<=1099511627776)=O) O S) S) S) S))
def F98:ag:=ac [Q6,Q5] [Q6] (λx=>wC x.1 x.2.1) λx=>(mj x.1 x.2.1,())
theorem zrF:FK 300 F98:=by
 refine aV (zvf) λx h C b=>?_
 unfold wC at h;refine zI Aa (zvf) (λid _=>b id) (zx2 x.1 x.2.1) ?_;generalize a:mj x.1 x.2.1=y;unfold mj at a
 try simp only[zg.eta]
 exact MB a h
def zhK:=Nw.addL [(288,F86),(300,F98)]
theorem VK:zw zhK:=Aa.addL<|fc zrv<|fc zrF jg
def zvY(h:zO):J Q7:=(cond (cond (T ((X h.2.2.2.2.1:Int)<1)) O (T ((X h.2.2.2.2.1:Int)>8))) S (bif !Q0 (ah (λx=>!zr0 x) h.2.2.2.2.1 0>=0)then bif dH h.2.2.2.2.2.1 then bif bif T ((X h.2.2.2.2.2.2.1:Int)<0)then O else T ((X h.2.2.2.2.2.2.1:Int)>8)then S else bif !Q0 (ah (λx=>!dH x) h.2.2.2.2.2.2.1 0>=0)then bif bif T ((X h.2.2.2.2.2.2.2.1:Int)<0)then O else T ((X h.2.2.2.2.2.2.2.1:Int)>8)then S else bif !Q0 (ah (λx=>!zvw x) h.2.2.2.2.2.2.2.1 0>=0)then cZ h.2.2.2.2.2.2.2.2.1 else S else S else S else S))
def zhL:=zhK
theorem Ab:zw zhL:=VK
def w6(h:zO):Tr (Empty⊕aw):=
 let A:=zt h.x.1
 let D:=zt h.s.1
 let F:=(h.y.1,h.z.1,D,h.p)
 let G:=(h.1,[],h.q.1,h.r.1,h.t.1,h.u.1,h.v.1,h.w.1,A,F)
 let B:=bif dH h.2.1 then cZ D else S
 let C:=(h.1,[],h.q.1,h.r.1,h.t.1,h.u.1,h.v.1,h.w.1,A,h.y.1,h.z.1,zg.mk [] (0,0,[]) [] [],h.p)
 let H:=dH h.p
 let b:=bif dH h.2.1 then H else S
 let P:=(h.y.1,h.z.1,D,[])
 let c:=(h.1,[],h.q.1,h.r.1,h.t.1,h.u.1,h.v.1,h.w.1,A,P)
 let d:=dH h.q.1
 let a:=(X h.r.1:Int)
 let E:=ah (λx=>!dH x) h.r.1 0
 let e:=cZ A
 let g:=bif !Q0 (E>=0)then e else S
 let i:=bif dH h.2.1 then bif d then bif bif T (a<1)then O else T (a>8)then S else g else S else S
 let j:=(h.1,[],[],[],h.t.1,h.u.1,h.v.1,h.w.1,zg.mk [] (0,0,[]) [] [],F)
 let k:=gu j
 let l:=iU j
 let m:=bif dH h.2.1 then bif d then bif dH h.u.1 then bif H then e else S else S else S else S
 let n:=(h.1,[],[],h.r.1,h.t.1,[],h.v.1,h.w.1,zg.mk [] (0,0,[]) [] [],P)
 let o:=bif dH h.2.1 then bif d then bif bif T (a<2)then O else T (a>2)then S else g else S else S
 br (h.1==Qm) (br (dH h.2.1) Tr.err (re (kb S) []))
 (br (h.1==bl1)
  (K (cond (dH h.2.1) (gu G) O) (re (AV.bool (cond (dH h.2.1) (iU G) S)) []))
  (br (h.1==bl3) (br (dH h.2.1) Tr.err (re (kb S) [])) (br (h.1==M8) (br (dH h.2.1) Tr.err (re (kb S) [])) (br (h.1==bl0) (K (cond B (gu C) O) (re (AV.bool (cond B (iU C) S)) []))
  (br (h.1==Ka) (K (cond B (gu C) O) (re (AV.bool (cond B (iU C) S)) [])) (br (h.1==bl9) (K (cond b (gu c) O) (re (AV.bool (cond b (iU c) S)) []))
  (br (h.1==P9) (K (cond b (gu c) O) (re (AV.bool (cond b (iU c) S)) [])) (br (h.1==P7) (K (cond b (gu c) O) (re (AV.bool (cond b (iU c) S)) [])) (br (h.1==P8)
  (K (cond b (gu c) O) (re (AV.bool (cond b (iU c) S)) [])) (br (h.1==dI) (K (cond i k O) (re (AV.bool (cond i l S)) [])) (br (h.1==ic) (K (cond m (gu n) O) (re (AV.bool (cond m (iU n) S)) []))
  (br (h.1==qD) (K (cond o k O) (re (AV.bool (cond o l S)) [])) (re (kb S) [])))))))))))))
def Dj(x:zO):=ap [Q7] t0 100000000 (w6 x)
def xX(x:zO):=(Dj x).isSome
def iv(x:zO):=o1 (Dj x)
def zgt:=FT [ay] [Q7] λx=>Dj x.1
theorem zcu:FK 254 zgt:=Ab.T1 (f:=Tryz.f254) (keep:=k0) (e:=e0)
def BK(h:zO):Tr (Empty⊕aw):=
 let H:=T (X h.1<=140737488355328)&&List.all h.1 λb=>T (b.toNat<128)
 let a1:=XX++Lib.toUpperA h.1
 let a2:=a1++[32]
 let a3:=a2++h.2.1
 let a4:=a3++mi
 let P:=zlS++Lib.toUpperA h.1
 let U:=P++Cc
 let a7:=U++h.2.1
 let G:=a7++Ql
 let F:=Qg ((X h.1:Int).toNat-Z 2) (Qh (Z 2) h.1)
 let e:=Lib.toUpperA F
 let g:=zlW++e
 let i:=g++Cc
 let j:=i++h.2.1
 let d:=j++mi
 let a:=a4++h.q.1
 let l:=a++Cb
 let m:=iE h.r.1
 let n:=l++m
 let o:=zt h.x.1
 let k:=wC [32] o
 let s:=n++jm
 let c:=mj [32] o
 let t:=a++fP
 let v:=t++h.p
 let w:=v++Cc
 let y:=w++h.u.1
 let z:=a++Vg
 let A:=Y h.r.1 (Z 0) (Q Q6)
 let B:=z++A
 let C:=B++Vh
 let D:=Y h.r.1 (Z 1) (Q Q6)
 let E:=C++D
 K H
 (K (T (X XX+(Lib.toUpperA h.1).length<=1099511627776))
  (K (T (X a1+[32].length<=1099511627776)) (K (T (X a2+X h.2.1<=1099511627776)) (K (T (X a3+X mi<=1099511627776)) (K (T (X a4+X h.q.1<=1099511627776)) (br (h.1==Qm) Tr.err (br (h.1==bl1)
  (K (T (X zdT+X h.2.1<=1099511627776)) (re (I (zdT++h.2.1)) [])) (br (h.1==bl3) (K (T (X XV+X h.2.1<=1099511627776)) (K (decide
  (X (XV++h.2.1)+X zdN<=1099511627776)) Tr.err)) (br (h.1==M8) (K (T (X XY+X h.2.1<=1099511627776))
  (K (T (X (XY++h.2.1)+X zdM<=1099511627776)) Tr.err)) (br (h.1==bl0) (K (T (X zdR+X h.2.1<=1099511627776)) Tr.err) (br (h.1==Ka)
  (K (T (X zd0+X h.2.1<=1099511627776)) Tr.err) (br (h.1==bl9) (K H (K (T (X zlS+(Lib.toUpperA h.1).length<=1099511627776)) (K (T (X P+X Cc<=1099511627776))
  (K (T (X U+X h.2.1<=1099511627776)) (K (T (X a7+X Ql<=1099511627776)) (K (T (X G+X h.p<=1099511627776)) (re (I (G++h.p)) []))))))) (br (h.1==P9) (K H
  (K (T (X zlS+(Lib.toUpperA h.1).length<=1099511627776)) (K (T (X P+X Cc<=1099511627776)) (K (T (X U+X h.2.1<=1099511627776)) (K (T (X a7+X Ql<=1099511627776))
  (K (T (X G+X h.p<=1099511627776)) (re (I (G++h.p)) []))))))) (br (h.1==P7) (K (T (0<=2)&&T (2<=(X h.1:Int))&&T ((X h.1:Int)<=(X h.1:Int)))
  (K (T (X F<=140737488355328)&&F.all λb=>T (b.toNat<128)) (K (T (X zlW+X e<=1099511627776)) (K (T (X g+X Cc<=1099511627776)) (K (T (X i+X h.2.1<=1099511627776))
  (K (T (X j+X mi<=1099511627776)) (K (T (X d+X h.p<=1099511627776)) (re (I (d++h.p)) [])))))))) (br (h.1==P8) (K (T (0<=2)&&T (2<=(X h.1:Int))&&
  T ((X h.1:Int)<=(X h.1:Int))) (K (T (X F<=140737488355328)&&F.all λb=>T (b.toNat<128)) (K (T (X zlW+X e<=1099511627776)) (K (T (X g+X Cc<=1099511627776)) (K (T (X i+X h.2.1<=1099511627776))
  (K (T (X j+X mi<=1099511627776)) (K (T (X d+X h.p<=1099511627776)) (re (I (d++h.p)) [])))))))) (br (h.1==dI) (K (T (X a+X Cb<=1099511627776)) (K (pj h.r.1)
  (K (T (X l+X m<=1099511627776)) (K (T (X n+X jm<=1099511627776)) (K k (K (T (X s+X c<=1099511627776)) (re (I (s++c)) []))))))) (br (h.1==ic) (K (T (X a+X fP<=1099511627776))
  (K (T (X t+X h.p<=1099511627776)) (K (T (X v+X Cc<=1099511627776)) (K (T (X w+X h.u.1<=1099511627776)) (K k (K (T (X y+X c<=1099511627776)) (re (I (y++c)) [])))))))
  (K (T (X a+X Vg<=1099511627776)) (K (zL 0 (X h.r.1)) (K (T (X z+X A<=1099511627776)) (K (T (X B+X Vh<=1099511627776)) (K (zL 1 (X h.r.1)) (K (T (X C+X D<=1099511627776)) (K k
  (K (T (X E+X c<=1099511627776)) (re (I (E++c)) []))))))))))))))))))))))))))
def L2(x:zO):=ap [Q6] t0 100000000 (BK x)
def Gw(x:zO):=(L2 x).isSome
def nH(x:zO):=o1 (L2 x)
def zgu:=FT [ay] [Q6] λx=>L2 x.1
theorem zcv:FK 255 zgu:=Ab.T1 (f:=Tryz.f255) (keep:=k0) (e:=e0)
def S8:=zhL.addL [(254,zgt),(255,zgu)]
theorem Ig:zw S8:=Ab.addL<|fc zcu<|fc zcv<|jg
abbrev zyk:Nat->aX:=λ_=>{ }
theorem zuW:zY (S8).P 202 Tryz.f202 1:=cK kw
theorem zxG(x:zO):rn S8 0 zyk Tryz.f202 [zW ay x] []=let a:=(zeo x);let h:=Tr.ok (zR.ret (tup [I [],L 1]) []);K (xX a) (br (!iv a) h (K (Gw a) (K (X9 (nH a)) (br ((cut (nH a)).2!=0) h (Tr.ok (zR.ret (tup [I (nH a),L 0]) [])))))):=kw
def sq(x:zO):J Q6×zy:=(ite ((!iv x)=O) ([],1) (ite (((cut (nH x)).2!=0)=O) ([],1) (nH x,0)))
def yf(x:zO):Bool:=(ite (xX x=O) (ite ((!iv x)=O) O (ite (Gw x=O) (ite (X9 (nH x)=O) O S) S)) S)
def F52:ag:=ac [ay] [Q6,zk] (λx=>yf x.1) λx=>((sq x.1).1,(sq x.1).2,())
theorem zq4:FK 202 F52:=by
 refine aV (zuW) λx h C b=>?_
 unfold yf at h;refine zI Ig (zuW) (λid _=>b id) (zxG x.1) ?_;generalize a:sq x.1=y;unfold sq at a
 try simp only[Th]
 exact MB a h
def S9:=S8.add 202 F52
theorem Ih:zw S9:=Ig.add zq4
abbrev zyi:Nat->aX:=λ_=>{ }
theorem zuI:zY (S9).P 144 Tryz.f144 1:=cK kw
theorem zxo(x:zO):rn S9 0 zyi Tryz.f144 [zW ay x] []=let a:=(zeo x);K (yf a) (Tr.ok (zR.ret (AV.bool ((sq a).2==0)) [])):=kw
def fA(x:zO):J Q7:=((sq x).2==0)
def qr(x:zO):Bool:=(ite (yf x=O) O S)
def F31:ag:=ac [ay] [Q7] (λx=>qr x.1) λx=>(fA x.1,())
theorem zqK:FK 144 F31:=by
 refine aV (zuI) λx h C b=>?_
 unfold qr at h;refine zI Ih (zuI) (λid _=>b id) (zxo x.1) ?_;generalize a:fA x.1=y;unfold fA at a
 try simp only[Th]
 exact MB a h
def qF:=S9.add 144 F31
theorem jX:zw qF:=Ih.add zqK
def zqs:ag:=bf (List.replicate 2 Q2) (fj qF Tryz.f259 (List.replicate 2 Q2))
theorem zlh:FK 259 zqs:=cm _ jX (cK kw)
abbrev ztv:Nat->aX:=λ_=>{ }
theorem zi6:zY (qF).P 54 Tryz.f54 1:=cK kw
theorem zsz(x:TS):rn qF 0 ztv Tryz.f54 [zW Q6 x] []=br (T ((X x:Int)>20)) (K (T (0<=0)&&T (0<=20)&&T (20<=(X x:Int))) (Tr.ok (zR.ret (I (Qg (Z 20-Z 0) (Qh (Z 0) x))) []))) (Tr.ok (zR.ret (I x) [])):=kw
def dQ(x:TS):J Q6:=(ite (T ((X x:Int)>20)=O) (Qg (Z 20-Z 0) (Qh (Z 0) x)) x)
def gm(x:TS):Bool:=(ite (T ((X x:Int)>20)=O) (ite ((T (0<=0)&&T (0<=20)&&T (20<=(X x:Int)))=O) O S) O)
def zpi:ag:=ac [Q6] [Q6] (λx=>gm x.1) λx=>(dQ x.1,())
theorem zj1:FK 54 zpi:=by
 refine aV (zi6) λx h C b=>?_
 unfold gm at h;refine zI jX (zi6) (λid _=>b id) (zsz x.1) ?_;generalize a:dQ x.1=y;unfold dQ at a;exact MB a h
abbrev znj:Nat->aX:=λ_=>{ }
theorem zak:zY (qF).P 119 Tryz.f119 3:=cK kw
theorem zmg(h:J ze.sl)(x:zy)(a:zq):rn qF 0 znj Tryz.f119 [zW ze.sl h,zW zk x,zW R a] []=let b:=Y h (Z x) (Q R);K (cond (T (x>=0)) (cond (T (x<(X h:Int))) (zL x (X h)) O) O) (Tr.ok (zR.ret (AV.bool (cond (T (x>=0)) (cond (T (x<(X h:Int))) (b.1==a.1&&(b.2.1==a.2.1&&(b.2.2==a.2.2&&O))) S) S)) [])):=kw
def bK(h:J ze.sl)(x:zy)(a:zq):J Q7:=(cond (T (x>=0)) (cond (T (x<(X h:Int))) ((Y h (Z x) (Q R)).1==a.1&&((Y h (Z x) (Q R)).2.1==a.2.1&&((Y h (Z x) (Q R)).2.2==a.2.2&&O))) S) S)
def Dd(h:J ze.sl)(x:zy)(_:zq):Bool:=(ite ((cond (T (x>=0)) (cond (T (x<(X h:Int))) (zL x (X h)) O) O)=O) O S)
def zg1:ag:=ac [ze.sl,zk,R] [Q7] (λx=>Dd x.1 x.2.1 x.q.1) λx=>(bK x.1 x.2.1 x.q.1,())
theorem SC:FK 119 zg1:=by
 refine aV (zak) λx h C b=>?_
 unfold Dd at h;refine zI jX (zak) (λid _=>b id) (zmg x.1 x.2.1 x.q.1) ?_;generalize a:bK x.1 x.2.1 x.q.1=y;unfold bK at a;exact MB a h
abbrev ziS:Nat->aX:=λj=>if j=2 then{slots:=[0,1,5]}else{ }
abbrev Gp(l:zS)(s:TS)(i:Int):St:={tmps:=(tm 21 [(0,N zl l),(1,I s),(5,L i)]),heap:=[]}
theorem TI:zY (qF).P 61 Tryz.f61 2:=cK kw
theorem zsx(x:J zl.sl)(h:TS):rn qF 0 ziS Tryz.f61 [zW zl.sl x,zW Q6 h] []=Tr.ok (zR.head 2 (am Tryz.f61 2) (Gp x h 0)):=kw
theorem TR(l:zS)(s:TS)(i:Int):rh qF 0 ziS Tryz.f61 2 (Gp l s i)=br (T (i<(X l:Int))) (K (zL i (X l)) (br ((l.getD i.toNat (Q zl)).1.1==s) (Tr.ok (zR.ret (L i) [])) (Tr.ok (zR.head 2 (am Tryz.f61 2) (Gp l s (Γ Δ (i+1))))))) (Tr.ok (zR.ret (L (-1)) [])):=kw
def iD(s:TS):List
 ae->Int->zy
 |[],_=>(-1)
 |x::r,i=>(ite ((x.1.1==s)=O) i (iD s r (i+1)))
variable {C:eW}
theorem zdw(e:∀id,C.ρ0 id=Q2)(s:TS)(l:List
 ae) (k:X l<=aD):∀(m i:Nat),X l-i=m->i<=X l->
  Reach (qF) C 61 (am Tryz.f61 2) (Gp l s (i:Int)) (λr h=>aZ h [zk] r=M (iD s (l.drop i) i,())):=by
 intro m
 induction m with
 | zero=>
  intro i j g;obtain rfl:i=X l:=by omega
  rw[kD];refine zI jX (TI) (λid _=>e id) (TR _ _ _) ?_;generalize b:iD s [] _=y;rw[iD]at b;simp only[zK,Tr.val_brF];exact Us b
 | succ m d=>
  intro i j g;have x:i<X l:=by omega
  have d:=d (i+1);have a:((i:Int)+1)=((i+1:Nat):Int):=by omega
  have c:=zu i W;rw[il x];refine zI jX (TI) (λid _=>e id) (TR _ _ _) ?_;generalize b:iD s (l[i]::l.drop (i+1)) (i:Int)=y;rw[iD]at b;simp only[zN x,zx x,dq l _ x,c,Tr.val_brT,Tr.val_chkT];clear c
  try simp only[zx x]at b
  simp only[a]at b;exact Pq b d
theorem XI(x:∀id,C.ρ0 id=Q2)(s:TS)(l:List
 ae):
  Reach (qF) C 61 (am Tryz.f61 2) (Gp l s 0) (λr h=>aZ h [zk] r=M (iD s l 0,())):=
 Reach.len 0 zl l rfl λa=>zdw x s l a _ 0 rfl (aG _)
def mJ(x:J zl.sl)(h:TS):zy:=(iD h x 0)
def zo3:ag:=aU [zl.sl,Q6] [zk] λx=>(mJ x.1 x.2.1,())
theorem zjL:FK 61 zo3:=by
 refine aq (TI) λx C h=>?_
 refine zI jX (TI) (λid _=>h id) (zsx x.1 x.2.1) ?_;generalize a:mJ x.1 x.2.1=y;unfold mJ at a;exact Pq a (XI h)
def uF:=qF.addL [(259,zqs),(54,zpi),(119,zg1),(61,zo3)]
theorem lP:zw uF:=jX.addL<|fc zlh<|fc zj1<|fc SC<|fc zjL jg
theorem LL(x:fB)(c:Int)(v:zq):Dd x c v=O:=by
 unfold Dd;by_cases h:(c:Int)>=0
 .by_cases a:c<(X x:Int)
  .have b:zL c (X x)=O:=by simp[zL];exact⟨h,a⟩
   simp[zB h,zB a,b]
  .simp[zB h,aB a]
 .simp[aB h]
def zg2:ag:=aU [Sh.sl R,zk,R] [Q7] λx=>(bK x.1 x.2.1 x.q.1,())
theorem zc2:FK 119 zg2:=pq SC λx=>LL x.1 x.2.1 x.q.1
abbrev ziU:Nat->aX:=λj=>if j=3 then{slots:=[0,3,4],prom:=[(3,Q2,.str)]}else{ }
abbrev Gq(h:LS)(i:Int)(l:LS):St:={tmps:=(tm 24 [(0,N Q6 h),(3,AV.vec 0),(4,L i)]),heap:=[AO.vec Q6 l]}
theorem TJ:zY (uF).P 55 Tryz.f55 1:=cK kw
theorem zsA(x:J Sh.str.sl):rn uF 0 ziU Tryz.f55 [zW Sh.str.sl x] []=Tr.ok (zR.head 3 (am Tryz.f55 3) (Gq x 0 [])):=kw
theorem TU(h:LS)(i:Int)(l:LS):rh uF 0 ziU Tryz.f55 3 (Gq h i l)=br (cond (T (i<(X h:Int))) (T (i<10)) S) (K (zL i (X h)) (K (gm (h.getD i.toNat (Q Q6))) (K (T (X l+[dQ (h.getD i.toNat (Q Q6))].length<=1073741824)) (Tr.ok (zR.head 3 (am Tryz.f55 3) (Gq h (Γ Δ (i+1)) (l++[dQ (h.getD i.toNat (Q Q6))]))))))) (Tr.ok (zR.ret (AV.vec 0) [AO.vec Q6 l])):=kw
def fu:List (J Q6)->Int->List (J Q6)->J Sh.str.sl
 |[],_,l=>(l)
 |x::r,i,l=>(ite (T (i<10)=O) (fu r (i+1) (l++[dQ x])) l)
def gL:List (J Q6)->Int->List (J Q6)->Bool
 |[],_,_=>(O)
 |x::r,i,l=>(if T (i<10)=O then
 if gm x=O then if T (X l+[dQ x].length<=1073741824)=O then gL r (i+1) (l++[dQ x])else S else S
else O)
theorem zdx(j:∀id,C.ρ0 id=Q2)(b:LS)(o:X b<=aD):∀(m i:Nat)(l:LS),X b-i=m->i<=X b->gL (b.drop i) i l=O->
  Reach (uF) C 55 (am Tryz.f55 3) (Gq b (i:Int) l) (λr h=>aZ h [Sh.str.sl] r=M (fu (b.drop i) i l,())):=by
 intro m
 induction m with
 | zero=>
  intro i l n k c;obtain rfl:i=X b:=by omega
  rw[kD]at c|-;refine zI lP (TJ) (λid _=>j id) (TU _ _ _) ?_;rw[gL]at c;generalize d:fu [] _ l=y;rw[fu]at d;simp only[zK,aJ,Tr.val_brF];exact MB d c
 | succ m g=>
  intro i l n k c;have x:i<X b:=by omega
  have g:=g (i+1);have a:((i:Int)+1)=((i+1:Nat):Int):=by omega
  have e:=zu i W;rw[il x]at c|-;refine zI lP (TJ) (λid _=>j id) (TU _ _ _) ?_;rw[gL]at c;generalize d:fu (b[i]::b.drop (i+1)) (i:Int) l=y;rw[fu]at d;simp only[zN x,zx x,dq b _ x,e,aI];clear e
  try simp only[zx x]at d
  simp only[a]at d
  try simp only[zx x]at c
  try simp only[a]at c
  exact zfC d c g
theorem XJ(a:∀id,C.ρ0 id=Q2)(x l:LS)(b:gL x 0 l=O):
  Reach (uF) C 55 (am Tryz.f55 3) (Gq x 0 l) (λr h=>aZ h [Sh.str.sl] r=M (fu x 0 l,())):=
 Reach.len 0 (Q6) x rfl λc=>zdx a x c _ 0 l rfl (aG _) b
def lF(x:J Sh.str.sl):J Sh.str.sl:=(fu x 0 [])
def rO(x:J Sh.str.sl):Bool:=(gL x 0 [])
def zpk:ag:=ac [Sh.str.sl] [Sh.str.sl] (λx=>rO x.1) λx=>(lF x.1,())
theorem zj3:FK 55 zpk:=by
 refine aV (TJ) λx a C h=>?_
 unfold rO at a;refine zI lP (TJ) (λid _=>h id) (zsA x.1) ?_;generalize b:lF x.1=y;unfold lF at b;exact zfC b a (XJ h)
abbrev Dh(s:zJ)(l:zS)(i:Int):St:={tmps:=[.sl zl l,.clo (.func 259) [] [.ptr 0 0],.any,.any,.any,.any,.any,L (X l),L i,.any,.any,.any,.any,.any,.any,.any,.any,.any,.any],heap:=[.box [.str s]]}
theorem Zb(s:zJ)(l:zS):run uF 1 Ci Tryz.f258.results.toList 300 (bq Tryz.f258) (bg Tryz.f258.ntmps [.sl zl l,.clo (.func 259) [] [.ptr 0 0]] [.box [.str s]])=.ok (.head 2 (am Tryz.f258 2) (Dh s l 0)):=kw
theorem zay(s:zJ)(l:zS)(i:Int):run uF 1 Ci Tryz.f258.results.toList 300 (am Tryz.f258 2) (Dh s l i)=pR (K:=am Tryz.f258 2) (e:=zl) l (λx=>x.1.1==s) (Dh s l) [.box [.str s]] i:=kw
theorem zar:zY uF.P 258 Tryz.f258 2:=cK kw
def zrL:fD [M (.sl zl),Q2]:=λx h=>match x,h with
 |(l,.clo (.func 259) [] [.ptr 0 0],_),[.box [.str s]]=>.ok (L (ah (λx=>x.1.1==s) l 0),[.box [.str s]])
 |_,_=>.err
def zqr:ag:=bf [M (.sl zl),Q2] zrL
theorem zlf:FK 258 zqr:=by
 refine dz zar λx d c h C a=>?_
 unfold zrL at h;split at h
 .rename_i l u s;simp only[Tr.val_ok,bG]at h;subst h;refine Reach.len 0 zl l rfl λb=>?_
  refine zI (n0:=1) lP zar a (Zb s l) ?_;exact lX l (λx=>x.1.1==s) (Dh s l) lP zar a (zay s l) b _ 0 rfl (aG _)
 .simp at h
def Nx:=uF.addL [(119,zg2),(55,zpk),(258,zqr)]
theorem Ac:zw Nx:=lP.addL<|fc zc2<|fc zj3<|fc zlf jg
def zg0:ag:=bf (List.replicate 3 Q2) (fj Nx Tryz.f303 (List.replicate 3 Q2))
theorem zc1:FK 303 zg0:=cm _ Ac (cK kw)
abbrev ztU:Nat->aX:=λ_=>{ }
theorem zi9:zY (Nx).P 205 Tryz.f205 2:=cK kw
theorem zsD(h:J zl.sl)(a:TS):rn Nx 0 ztU Tryz.f205 [zW zl.sl h,zW Q6 a] []=Tr.ok (zR.ret (L (ah (λx=>x.1.1==a) h 0)) []):=kw
def ak(h:J zl.sl)(a:TS):zy:=(ah (λx=>x.1.1==a) h 0)
def zpQ:ag:=aU [zl.sl,Q6] [zk] λx=>(ak x.1 x.2.1,())
theorem zkB:FK 205 zpQ:=by
 refine aq (zi9) λx C a=>?_
 refine zI Ac (zi9) (λid _=>a id) (zsD x.1 x.2.1) ?_;generalize h:ak x.1 x.2.1=y;unfold ak at h;exact Us h
def Ny:=Nx.addL [(303,zg0),(205,zpQ)]
theorem Ad:zw Ny:=Ac.addL<|fc zc1<|fc zkB jg
abbrev tV(c a b:Int)(s:zJ)(l:List fB)(i:Int):St:={tmps:=[.sl (Sh.sl R) l,.clo (.func 303) [] [.ptr 0 0,.ptr 1 0],.any,.any,.any,.any,.any,L (X l),L i,.any,.any,.any,.any,.any,.any,.any,.any,.any,.any],heap:=[.box [L c],.box [L a,L b,.str s]]}
theorem Rc(c a b:Int)(s:zJ)(l:List fB):run Ny 2 Ci Tryz.f117.results.toList 300 (bq Tryz.f117) (bg Tryz.f117.ntmps [.sl (Sh.sl R) l,.clo (.func 303) [] [.ptr 0 0,.ptr 1 0]] [.box [L c],.box [L a,L b,.str s]])=.ok (.head 2 (am Tryz.f117 2) (tV c a b s l 0)):=kw
theorem RB(c a b:Int)(s:zJ)(l:List fB)(i:Int):run Ny 2 Ci Tryz.f117.results.toList 300 (am Tryz.f117 2) (tV c a b s l i)=pR (K:=am Tryz.f117 2) (e:=(Sh.sl R)) l (λx=>bK x c (a,b,s)) (tV c a b s l) [.box [L c],.box [L a,L b,.str s]] i:=kw
theorem Rz:zY Ny.P 117 Tryz.f117 2:=cK kw
def zhr:fD [M (.sl (Sh.sl R)),Q2]:=λx h=>match x,h with
 |(l,.clo (.func 303) [] [.ptr 0 0,.ptr 1 0],_),[.box [L c],.box [L a,L b,.str s]]=>.ok (L (ah (λx=>bK x c (a,b,s)) l 0),[.box [L c],.box [L a,L b,.str s]])
 |_,_=>.err
def zha:ag:=bf [M (.sl (Sh.sl R)),Q2] zhr
theorem zc9:FK 117 zha:=by
 refine dz Rz λx i g h C d=>?_
 unfold zhr at h;split at h
 .rename_i l u c a b s;simp only[Tr.val_ok,bG]at h;subst h;refine Reach.len 0 (Sh.sl R) l rfl λe=>?_
  refine zI (n0:=2) Ad Rz d (Rc c a b s l) ?_;exact lX l (λx=>bK x c (a,b,s)) (tV c a b s l) Ad Rz d (RB c a b s l) e _ 0 rfl (aG _)
 .simp at h
def YG:=Ny.add 117 zha
theorem Ii:zw YG:=Ad.add zc9
def zgZ:ag:=bf (List.replicate 2 Q2) (fj YG Tryz.f302 (List.replicate 2 Q2))
theorem zc0:FK 302 zgZ:=cm _ Ii (cK kw)
def Ta:=YG.add 302 zgZ
theorem Ae:zw Ta:=Ii.add zc0
abbrev zm5:Nat->aX:=λ_=>{ }
theorem zah:zY (Ta).P 257 Tryz.f257 3:=cK kw
theorem zmd(h:ae)(a:zy)(b:zq):rn Ta 0 zm5 Tryz.f257 [zW zl h,zW zk a,zW R b] []=Tr.ok (zR.ret (AV.bool (T (ah (λx=>bK x a b) h.2 0>=0))) []):=kw
def iu(h:ae)(a:zy)(b:zq):J Q7:=(T (ah (λx=>bK x a b) h.2 0>=0))
def zgw:ag:=aU [zl,zk,R] [Q7] λx=>(iu x.1 x.2.1 x.q.1,())
theorem zcx:FK 257 zgw:=by
 refine aq (zah) λx C a=>?_
 refine zI Ae (zah) (λid _=>a id) (zmd x.1 x.2.1 x.q.1) ?_;generalize h:iu x.1 x.2.1 x.q.1=y;unfold iu at h;exact Us h
abbrev zm4:=kS [(3,[1,5,11,12,13])]
inductive HG where
 |h3 (i1:zy) (l11:List (J ze.sl)) (i12:Int) (i13:Int) (mh_0:List ((Int×Int×zJ)×Int))
abbrev zr9:HG->Nat×St
 |.h3 x l i h m=>(3,⟨tm 37 [(1,L x),(5,AV.mp 0),(11,N ze.sl l),(12,L i),(13,L h)],[AO.vmap S m]⟩)
def ziz(x:ae)(h:zy):Tr (HG⊕aw):=Q9 (HG.h3 h x.2 (X x.2:Int) 0 [])
def B4:HG->Tr (HG⊕aw)
 | .h3 x l h i m=>
  let b:=l.getD i.toNat (Q ze.sl)
  let a:=Y b (Z x) (Q R)
  let c:=(↑(mS m a):Int)
  let d:=kR m a
  let e:=ln d c.toNat (Γ Δ (iy m a+1))
  let g:=iy e a
  br (T (i<h))
  (K (zL i (X l))
   (K (zL x (X b)) (K (T (X m<=1073741824)) (K (zL c (X d)) (br (cond (a.1!=0) (T (g>1)) S) (re (kb O) []) (Q9 (HG.h3 x l h (Γ Δ (i+1)) e)))))))
  (re (kb S) [])
def De(x:ae)(h:zy):=ap [Q7] B4 100000000 (ziz x h)
def tR(x:ae)(h:zy):=(De x h).isSome
def AZ(x:ae)(h:zy):=o1 (De x h)
def zgv:=FT [zl,zk] [Q7] λx=>De x.1 x.2.1
theorem zcw:FK 49 zgv:=Ae.T1 (f:=Tryz.f49) (keep:=zm4) (e:=zr9)
def zhM:=Ta.addL [(257,zgw),(49,zgv)]
theorem Af:zw zhM:=Ae.addL<|fc zcx<|fc zcw jg
abbrev zt7:=kS [(6,[1,18,19,20]),(15,[1,39,40,41]),(21,[1,8])]
inductive Ha where
 |h6 (l18:List (J ze.sl)) (i19:Int) (i20:Int) (z0:zp [CP.d zl])
 |h15 (l39:LI) (i40:Int) (i41:Int) (z0:zp [CP.d zl])
 |h21 (i8:Int) (z0:zp [CP.d zl])
abbrev zwU:Ha->Nat×St
 |.h6 l i h z=>(6,⟨tm 79 [(1,Qf 0 0),(18,N ze.sl l),(19,L i),(20,L h)],[Qa (bL [] [CP.d zl] z)]⟩)
 |.h15 b x a z=>(15,⟨tm 79 [(1,Qf 0 0),(39,N zk b),(40,L x),(41,L a)],[Qa (bL [] [CP.d zl] z)]⟩)
 |.h21 c z=>(21,⟨tm 79 [(1,Qf 0 0),(8,L c)],[Qa (bL [] [CP.d zl] z)]⟩)
def V4(x:ae):Tr (Ha⊕aw):=br (!dM (x.1.1,x.1.2.1,x.1.q.1,x.1.r.1,x.1.t.1,zt x.1.u)) (re (L 1) []) (br (T ((X x.2:Int)>200)) (re (L 13) []) (Q9 (Ha.h6 x.2 (X x.2:Int) 0 (x,()))))
def ji:Ha->Tr (Ha⊕aw)
 | .h6 l d i z=>
  let x:=(z.1.1.1,z.1.1.2.1,z.1.1.q.1,z.1.1.r.1,z.1.1.t.1,zt z.1.1.u)
  let a:=dj x (l.getD i.toNat (Q ze.sl))
  let c:=(x,z.1.2)
  br (T (i<d))
  (K (zL i (X l)) (br (a !=0) (re (L a) []) (Q9 (Ha.h6 l d (Γ Δ (i+1)) z))))
  (K (tR c z.1.1.q.1)
   (br (AZ c z.1.1.q.1) (re (L 7) []) (Q9 (Ha.h15 z.1.1.r.1 (X z.1.1.r.1:Int) 0 z))))
 | .h15 b e h z=>
  let x:=((z.1.1.1,z.1.1.2.1,z.1.1.q.1,z.1.1.r.1,z.1.1.t.1,zt z.1.1.u),z.1.2)
  let a:=b.getD h.toNat (Q zk)
  br (T (h<e))
  (K (zL h (X b))
   (K (tR x a) (br (AZ x a) (re (L 7) []) (Q9 (Ha.h15 b e (Γ Δ (h+1)) z)))))
  (Q9 (Ha.h21 1 z))
 | .h21 g z=>
  let x:=(X z.1.2:Int)
  let a:=Γ Δ (g-1)
  let c:=Y z.1.2 a.toNat (Q ze.sl)
  let j:=Y z.1.2 g.toNat (Q ze.sl)
  let k:=aF (Y c (Z z.1.1.q.1) (Q R)) (Y j (Z z.1.1.q.1) (Q R))
  br (T (g<x))
  (K (zL a (X z.1.2))
   (K (zL z.1.1.q.1 (X c)) (K (zL g (X z.1.2)) (K (zL z.1.1.q.1 (X j)) (br (T (k>=0)) (re (L 15) []) (Q9 (Ha.h21 (Γ Δ (g+1)) z)))))))
  (re (L 0) [])
def qo(x:ae):=ap [zk] ji 100000000 (V4 x)
def LH(x:ae):=(qo x).isSome
def R3(x:ae):=o1 (qo x)
def zp9:=FT [zl] [zk] λx=>qo x.1
theorem zkX:FK 23 zp9:=Af.T1 (f:=Tryz.f23) (keep:=zt7) (e:=zwU)
abbrev zt9:=kS [(2,[0,11,12,13]),(5,[0,4,11,12,13,19,20,21]),(11,[0,4,6,7,11,12,13,19,20,21,32,33,34])]
inductive Hb where
 |h2 (l0:zS) (l11:zS) (i12:Int) (i13:Int)
 |h5 (l0:zS) (l11:zS) (i12:Int) (i13:Int) (l19:LF) (i20:Int) (i21:Int) (z0:zp [CP.d zl])
 |h11 (l0:zS) (i7:zy) (l11:zS) (i12:Int) (i13:Int) (l19:LF) (i20:Int) (i21:Int) (l32:List (J ze.sl)) (i33:Int) (i34:Int) (z0:zp [CP.d zl]) (z1:zp [CP.d zG])
abbrev zwW:Hb->Nat×St
 |.h2 c l i h=>(2,⟨tm 64 [(0,N zl c),(11,N zl l),(12,L i),(13,L h)],[]⟩)
 |.h5 c l i h b x a z=>(5,⟨tm 64 [(0,N zl c),(4,Qf 0 0),(11,N zl l),(12,L i),(13,L h),(19,N zG b),(20,L x),(21,L a)],[Qa (bL [] [CP.d zl] z)]⟩)
 |.h11 c k l i h b x a j e g z m=>(11,⟨tm 64 [(0,N zl c),(4,Qf 0 0),(6,Qf 1 0),(7,L k),(11,N zl l),(12,L i),(13,L h),(19,N zG b),(20,L x),(21,L a),(32,N ze.sl j),(33,L e),(34,L g)],[Qa (bL [] [CP.d zl] z),Qa (bL [] [CP.d zG] m)]⟩)
def ztf(x:J zl.sl):Tr (Hb⊕aw):=Q9 (Hb.h2 x x (X x:Int) 0)
def jj:Hb->Tr (Hb⊕aw)
 | .h2 c l h i=>
  let d:=l.getD i.toNat (Q zl)
  br (T (i<h))
  (K (zL i (X l)) (Q9 (Hb.h5 c l h i d.1.t.1 (X d.1.t.1:Int) 0 (d,()))))
  (re (kb O) [])
 | .h5 c l h i a b x z=>
  let d:=a.getD x.toNat (Q zG)
  let k:=ak c d.2
  br (T (x<b))
  (K (zL x (X a))
   (br (T (k<0)) (re (kb S) []) (Q9 (Hb.h11 c k l h i a b x z.1.2 (X z.1.2:Int) 0 z (d,())))))
  (Q9 (Hb.h2 c l h (Γ Δ (i+1))))
 | .h11 c n l h i a b x j m e z o=>
  let d:=j.getD e.toNat (Q ze.sl)
  let k:=Y d (Z o.1.1) (Q R)
  let p:=k.1!=0
  let g:=c.getD (Z n) (Q zl)
  br (T (e<m))
  (K (zL e (X j))
   (K (zL o.1.1 (X d)) (K (cond p (zL n (X c)&&zL n (X c)) O) (br (cond p (!iu ((g.1.1,g.1.2.1,g.1.q.1,g.1.r.1,g.1.t.1,zt g.1.u),g.2) g.1.q.1 k) S) (re (kb S) []) (Q9 (Hb.h11 c n l h i a b x j m (Γ Δ (e+1)) z o))))))
  (Q9 (Hb.h5 c l h i a b (Γ Δ (x+1)) z))
def Cv(x:J zl.sl):=ap [Q7] jj 100000000 (ztf x)
def J4(x:J zl.sl):=(Cv x).isSome
def P3(x:J zl.sl):=o1 (Cv x)
def zqa:=FT [zl.sl] [Q7] λx=>Cv x.1
theorem zkY:FK 203 zqa:=Af.T1 (f:=Tryz.f203) (keep:=zt9) (e:=zwW)
def zhN:=zhM.addL [(23,zp9),(203,zqa)]
theorem Ij:zw zhN:=Af.addL<|fc zkX<|fc zkY jg
abbrev ztF:=kS [(4,[0,3]),(9,[0,30,31,32])]
inductive MJ where
 |h4 (l0:zS) (i3:Int)
 |h9 (l0:zS) (l30:zS) (i31:Int) (i32:Int)
abbrev zwA:MJ->Nat×St
 |.h4 l a=>(4,⟨tm 45 [(0,N zl l),(3,L a)],[]⟩)
 |.h9 l x i h=>(9,⟨tm 45 [(0,N zl l),(30,N zl x),(31,L i),(32,L h)],[]⟩)
def zeJ(x:J zl.sl):Tr (MJ⊕aw):=br (T ((X x:Int)>12)) (re (L 13) []) (Q9 (MJ.h4 x 1))
def qt:MJ->Tr (MJ⊕aw)
 | .h4 l x=>
  let a:=Γ Δ (x-1)
  let c:=l.getD a.toNat (Q zl)
  let d:=l.getD x.toNat (Q zl)
  br (T (x<(X l:Int)))
  (K (zL a (X l))
   (K (zL x (X l)) (br (!Op.bytesLess c.1.1 d.1.1) (re (L 15) []) (Q9 (MJ.h4 l (Γ Δ (x+1)))))))
  (Q9 (MJ.h9 l l (X l:Int) 0))
 | .h9 l h b i=>
  let a:=h.getD i.toNat (Q zl)
  let c:=((a.1.1,a.1.2.1,a.1.q.1,a.1.r.1,a.1.t.1,zt a.1.u),a.2)
  let d:=R3 c
  br (T (i<b))
  (K (zL i (X h))
   (K (LH c) (br (d !=0) (re (L d) []) (Q9 (MJ.h9 l h b (Γ Δ (i+1)))))))
  (K (J4 l) (br (!P3 l) (re (L 10) []) (re (L 0) [])))
def wu(x:J zl.sl):=ap [zk] qt 100000000 (zeJ x)
def px(x:J zl.sl):=(wu x).isSome
def mh(x:J zl.sl):=o1 (wu x)
def zpz:=FT [zl.sl] [zk] λx=>wu x.1
theorem zkk:FK 145 zpz:=Ij.T1 (f:=Tryz.f145) (keep:=ztF) (e:=zwA)
def dG:=zhN.add 145 zpz
theorem bM:zw dG:=Ij.add zkk
abbrev ar:Sh:=.pr .str (.pr .str (.pr .str (.pr ab (.pr (.sl zk) zk))))
abbrev aA:=J ar
abbrev bY:List CP:=[.d (.sl zl),.d ay,.d ab,.d ab,.d .str,.d .str,.d .str,.d .str,.nil,.d zk,.nil,.nil,.d .expr,.nil,.d zk]
abbrev aE:List CP:=[.d (.sl zl),.d ay,.d ab,.d ab,.d .str,.d .str,.d .str,.d .str,.vec zn,.d zk,.nil,.nil,.d .expr,.d (.sl zk),.d zk]
abbrev ziX:Nat->aX:=λj=>if j=2 then{slots:=[0,1,7,8]}else{ }
abbrev Gt(l:LI)(i:zy)(h x:Int):St:={tmps:=(tm 19 [(0,N zk l),(1,L i),(7,L h),(8,L x)]),heap:=[]}
theorem TK:zY (dG).P 200 Tryz.f200 2:=cK kw
theorem zsI(x:J zk.sl)(h:zy):rn dG 0 ziX Tryz.f200 [zW zk.sl x,zW zk h] []=Tr.ok (zR.head 2 (am Tryz.f200 2) (Gt x h (X x:Int) 0)):=kw
theorem TX(l:LI)(h:zy)(x i:Int):rh dG 0 ziX Tryz.f200 2 (Gt l h x i)=br (T (i<x)) (K (zL i (X l)) (br (h==l.getD i.toNat (Q zk)) (Tr.ok (zR.ret (L i) [])) (Tr.ok (zR.head 2 (am Tryz.f200 2) (Gt l h x (Γ Δ (i+1))))))) (Tr.ok (zR.ret (L (-1)) [])):=kw
def fH(h:zy):ee->Int->zy
 |[],_=>(-1)
 |x::r,i=>(ite ((h==x)=O) i (fH h r (i+1)))
theorem zdz(g:∀id,C.ρ0 id=Q2)(d:zy)(l:LI)(n:X l<=aD):∀(m i:Nat),X l-i=m->i<=X l->
  Reach (dG) C 200 (am Tryz.f200 2) (Gt l d (X l:Int) (i:Int)) (λr h=>aZ h [zk] r=M (fH d (l.drop i) i,())):=by
 intro m
 induction m with
 | zero=>
  intro i k j;obtain rfl:i=X l:=by omega
  rw[kD];refine zI bM (TK) (λid _=>g id) (TX _ _ _ _) ?_;generalize b:fH d [] _=y;rw[fH]at b;simp only[zK,Tr.val_brF];exact Us b
 | succ m e=>
  intro i k j;have x:i<X l:=by omega
  have e:=e (i+1);have a:((i:Int)+1)=((i+1:Nat):Int):=by omega
  have c:=zu i W;rw[il x];refine zI bM (TK) (λid _=>g id) (TX _ _ _ _) ?_;generalize b:fH d (l[i]::l.drop (i+1)) (i:Int)=y;rw[fH]at b;simp only[zN x,zx x,dq l _ x,c,Tr.val_brT,Tr.val_chkT];clear c
  try simp only[zx x]at b
  simp only[a]at b;exact Pq b e
theorem XL(x:∀id,C.ρ0 id=Q2)(i:zy)(l:LI):
  Reach (dG) C 200 (am Tryz.f200 2) (Gt l i (X l:Int) 0) (λr h=>aZ h [zk] r=M (fH i l 0,())):=
 Reach.len 0 (Sh.int IntKind.i64) l rfl λa=>zdz x i l a _ 0 rfl (aG _)
def iB(x:J zk.sl)(h:zy):zy:=(fH h x 0)
def zp4:ag:=aU [zk.sl,zk] [zk] λx=>(iB x.1 x.2.1,())
theorem zkT:FK 200 zp4:=by
 refine aq (TK) λx C h=>?_
 refine zI bM (TK) (λid _=>h id) (zsI x.1 x.2.1) ?_;generalize a:iB x.1 x.2.1=y;unfold iB at a;exact Pq a (XL h)
abbrev ziY:Nat->aX:=λj=>if j=2 then{slots:=[0,1,7,8]}else{ }
abbrev Gu(l:LS)(s:TS)(i h:Int):St:={tmps:=(tm 19 [(0,N Q6 l),(1,I s),(7,L i),(8,L h)]),heap:=[]}
theorem TL:zY (dG).P 260 Tryz.f260 2:=cK kw
theorem zsK(x:J Sh.str.sl)(h:TS):rn dG 0 ziY Tryz.f260 [zW Sh.str.sl x,zW Q6 h] []=Tr.ok (zR.head 2 (am Tryz.f260 2) (Gu x h (X x:Int) 0)):=kw
theorem TY(l:LS)(s:TS)(h i:Int):rh dG 0 ziY Tryz.f260 2 (Gu l s h i)=br (T (i<h)) (K (zL i (X l)) (br (s==l.getD i.toNat (Q Q6)) (Tr.ok (zR.ret (L i) [])) (Tr.ok (zR.head 2 (am Tryz.f260 2) (Gu l s h (Γ Δ (i+1))))))) (Tr.ok (zR.ret (L (-1)) [])):=kw
def jr(s:TS):List (J Q6)->Int->zy
 |[],_=>(-1)
 |x::r,i=>(ite ((s==x)=O) i (jr s r (i+1)))
theorem zdA(e:∀id,C.ρ0 id=Q2)(s:TS)(l:LS)(k:X l<=aD):∀(m i:Nat),X l-i=m->i<=X l->
  Reach (dG) C 260 (am Tryz.f260 2) (Gu l s (X l:Int) (i:Int)) (λr h=>aZ h [zk] r=M (jr s (l.drop i) i,())):=by
 intro m
 induction m with
 | zero=>
  intro i j g;obtain rfl:i=X l:=by omega
  rw[kD];refine zI bM (TL) (λid _=>e id) (TY _ _ _ _) ?_;generalize b:jr s [] _=y;rw[jr]at b;simp only[zK,Tr.val_brF];exact Us b
 | succ m d=>
  intro i j g;have x:i<X l:=by omega
  have d:=d (i+1);have a:((i:Int)+1)=((i+1:Nat):Int):=by omega
  have c:=zu i W;rw[il x];refine zI bM (TL) (λid _=>e id) (TY _ _ _ _) ?_;generalize b:jr s (l[i]::l.drop (i+1)) (i:Int)=y;rw[jr]at b;simp only[zN x,zx x,dq l _ x,c,Tr.val_brT,Tr.val_chkT];clear c
  try simp only[zx x]at b
  simp only[a]at b;exact Pq b d
theorem XN(x:∀id,C.ρ0 id=Q2)(s:TS)(l:LS):
  Reach (dG) C 260 (am Tryz.f260 2) (Gu l s (X l:Int) 0) (λr h=>aZ h [zk] r=M (jr s l 0,())):=
 Reach.len 0 (Q6) l rfl λa=>zdA x s l a _ 0 rfl (aG _)
def Ob(x:J Sh.str.sl)(h:TS):zy:=(jr h x 0)
def zqp:ag:=aU [Sh.str.sl,Q6] [zk] λx=>(Ob x.1 x.2.1,())
theorem zld:FK 260 zqp:=by
 refine aq (TL) λx C h=>?_
 refine zI bM (TL) (λid _=>h id) (zsK x.1 x.2.1) ?_;generalize a:Ob x.1 x.2.1=y;unfold Ob at a;exact Pq a (XN h)
abbrev ZJ:Nat->aX:=λj=>if j=2 then{slots:=[0,3,7,8]}else{ }
abbrev xV(l:LF)(i x:Int)(j:zy)(h:TS):St:={tmps:=(tm 19 [(0,N zG l),(3,Qf 0 0),(7,L i),(8,L x)]),heap:=[Qa [L j,I h]]}
theorem KT:zY (dG).P 253 Tryz.f253 2:=cK kw
theorem zmc(x:J zG.sl)(h:cy):rn dG 0 ZJ Tryz.f253 [zW zG.sl x,zW zG h] []=Tr.ok (zR.head 2 (am Tryz.f253 2) (xV x (X x:Int) 0 h.1 h.2)):=kw
theorem OB(l:LF)(x i:Int)(j:zy)(h:TS):rh dG 0 ZJ Tryz.f253 2 (xV l x i j h)=br (T (i<x)) (K (zL i (X l)) (br (j==(l.getD i.toNat (Q zG)).1&&(h==(l.getD i.toNat (Q zG)).2&&O)) (Tr.ok (zR.ret (L i) [])) (Tr.ok (zR.head 2 (am Tryz.f253 2) (xV l x (Γ Δ (i+1)) j h))))) (Tr.ok (zR.ret (L (-1)) [])):=kw
def jq(j:zy)(h:TS):dK->Int->zy
 |[],_=>(-1)
 |x::r,i=>(ite ((j==x.1&&(h==x.2&&O))=O) i (jq j h r (i+1)))
theorem XH(g:∀id,C.ρ0 id=Q2)(j:zy)(a:TS)(l:LF)(o:X l<=aD):∀(m i:Nat),X l-i=m->i<=X l->
  Reach (dG) C 253 (am Tryz.f253 2) (xV l (X l:Int) (i:Int) j a) (λr h=>aZ h [zk] r=M (jq j a (l.drop i) i,())):=by
 intro m
 induction m with
 | zero=>
  intro i n k;obtain rfl:i=X l:=by omega
  rw[kD];refine zI bM (KT) (λid _=>g id) (OB _ _ _ _ _) ?_;generalize c:jq j a [] _=y;rw[jq]at c;simp only[zK,Tr.val_brF];exact Us c
 | succ m e=>
  intro i n k;have x:i<X l:=by omega
  have e:=e (i+1);have b:((i:Int)+1)=((i+1:Nat):Int):=by omega
  have d:=zu i W;rw[il x];refine zI bM (KT) (λid _=>g id) (OB _ _ _ _ _) ?_;generalize c:jq j a (l[i]::l.drop (i+1)) (i:Int)=y;rw[jq]at c;simp only[zN x,zx x,dq l _ x,d,Tr.val_brT,Tr.val_chkT];clear d
  try simp only[zx x]at c
  simp only[b]at c;exact Pq c e
theorem Ve(a:∀id,C.ρ0 id=Q2)(j:zy)(x:TS)(l:LF):
  Reach (dG) C 253 (am Tryz.f253 2) (xV l (X l:Int) 0 j x) (λr h=>aZ h [zk] r=M (jq j x l 0,())):=
 Reach.len 0 (zk.pr Q6) l rfl λb=>XH a j x l b _ 0 rfl (aG _)
def N9(h:J zG.sl)(x:cy):zy:=(jq x.1 x.2 h 0)
def zgs:ag:=aU [zG.sl,zG] [zk] λx=>(N9 x.1 x.2.1,())
theorem zct:FK 253 zgs:=by
 refine aq (KT) λx C h=>?_
 refine zI bM (KT) (λid _=>h id) (zmc x.1 x.2.1) ?_;generalize a:N9 x.1 x.2.1=y;unfold N9 at a;exact Pq a (Ve h)
abbrev zts:Nat->aX:=λ_=>{ }
theorem zi5:zY (dG).P 79 Tryz.f79 1:=cK kw
theorem zsy(x:aA):rn dG 0 zts Tryz.f79 [zW ar x] []=br (x.2.2.1==[]) (Tr.ok (zR.ret (N Q6 [x.2.1]) [])) (Tr.ok (zR.ret (N Q6 [x.2.1,x.2.2.1]) [])):=kw
def mC(x:aA):J Sh.str.sl:=(ite ((x.2.2.1==[])=O) [x.2.1] [x.2.1,x.2.2.1])
def zpe:ag:=aU [ar] [Sh.str.sl] λx=>(mC x.1,())
theorem zjU:FK 79 zpe:=by
 refine aq (zi5) λx C a=>?_
 refine zI bM (zi5) (λid _=>a id) (zsy x.1) ?_;generalize h:mC x.1=y;unfold mC at h;exact Us h
def zgq:ag:=bf (List.replicate 2 Q2) (fj dG Tryz.f251 (List.replicate 2 Q2))
theorem zcr:FK 251 zgq:=cm _ bM (cK kw)
def BC:=dG.addL [(200,zp4),(260,zqp),(253,zgs),(79,zpe),(251,zgq)]
theorem sO:zw BC:=bM.addL<|fc zkT<|fc zld<|fc zct<|fc zjU<|fc zcr jg
abbrev zm3:Nat->aX:=λ_=>{ }
theorem zag:zY (BC).P 252 Tryz.f252 2:=cK kw
theorem zmb(x:J zk.sl)(h:zy):rn BC 0 zm3 Tryz.f252 [zW zk.sl x,zW zk h] []=Tr.ok (zR.ret (AV.bool (T (iB x h>=0))) []):=kw
def vL(x:J zk.sl)(h:zy):J Q7:=(T (iB x h>=0))
def zgr:ag:=aU [zk.sl,zk] [Q7] λx=>(vL x.1 x.2.1,())
theorem zcs:FK 252 zgr:=by
 refine aq (zag) λx C a=>?_
 refine zI sO (zag) (λid _=>a id) (zmb x.1 x.2.1) ?_;generalize h:vL x.1 x.2.1=y;unfold vL at h;exact Us h
abbrev ztS:Nat->aX:=λ_=>{ }
theorem zi8:zY (BC).P 207 Tryz.f207 2:=cK kw
theorem zsC(x:J Sh.str.sl)(h:TS):rn BC 0 ztS Tryz.f207 [zW Sh.str.sl x,zW Q6 h] []=Tr.ok (zR.ret (AV.bool (T (Ob x h>=0))) []):=kw
def aL(x:J Sh.str.sl)(h:TS):J Q7:=(T (Ob x h>=0))
def zpO:ag:=aU [Sh.str.sl,Q6] [Q7] λx=>(aL x.1 x.2.1,())
theorem zkz:FK 207 zpO:=by
 refine aq (zi8) λx C a=>?_
 refine zI sO (zi8) (λid _=>a id) (zsC x.1 x.2.1) ?_;generalize h:aL x.1 x.2.1=y;unfold aL at h;exact Us h
abbrev zt3:Nat->aX:=λ_=>{ }
theorem zja:zY (BC).P 201 Tryz.f201 2:=cK kw
theorem zsJ(x:J zG.sl)(h:cy):rn BC 0 zt3 Tryz.f201 [zW zG.sl x,zW zG h] []=Tr.ok (zR.ret (AV.bool (T (N9 x h>=0))) []):=kw
def ka(x:J zG.sl)(h:cy):J Q7:=(T (N9 x h>=0))
def zp7:ag:=aU [zG.sl,zG] [Q7] λx=>(ka x.1 x.2.1,())
theorem zkW:FK 201 zp7:=by
 refine aq (zja) λx C a=>?_
 refine zI sO (zja) (λid _=>a id) (zsJ x.1 x.2.1) ?_;generalize h:ka x.1 x.2.1=y;unfold ka at h;exact Us h
def zhO:=BC.addL [(252,zgr),(207,zpO),(201,zp7)]
theorem Ik:zw zhO:=sO.addL<|fc zcs<|fc zkz<|fc zkW jg
abbrev ztK:Nat->aX:=λj=>if j=2 then{slots:=[0,12,13,14]}else{ }
inductive MK where
 |h2 (i13:Int) (i14:Int) (z0:zp aE)
abbrev zwE:MK->Nat×St
 |.h2 i h z=>(2,⟨tm 65 [(0,Qf 0 0),(12,AV.vec 1),(13,L i),(14,L h)],[Qa (bL [1] aE z),AO.vec zn z.x.1]⟩)
def zmF(y:zp aE):Tr (MK⊕aw):=Q9 (MK.h2 (X y.x.1:Int) 0 y)
def Mj(a i:Int)(h:zp aE)(c:zg)(d:cH)(b:zy×zy):Tr (MK⊕aw):=br (T (i<a)) (K (zL i (X h.x.1)) (K (T (i.toNat<X h.x.1)) (br (zZ (h.w.1,h.x.1,h.y.1,[],[],c) d.1!=i) (re (L 7) (ba aE h)) (Q9 (MK.h2 a (Γ Δ (i+1)) h))))) (br (zg.op h.z.1==[]) (re (L 0) (ba aE h)) (br (cond (b.2==0) (cond (b.1!=3) (b.1!=0) S) S) (re (L 5) (ba aE h)) (re (L b.2) (ba aE h))))
def So(a i:Int)(h:zp aE):Tr (MK⊕aw):=
 let b:=zt h.z.1
 let c:=h.x.1.getD i.toNat (Q zn)
 let d:=cv b h.x.1
 Mj a i h b c d
def Sn:MK->Tr (MK⊕aw)
 |.h2 i h z=>So i h z
def xg(y:zp aE):Option (zF (Qi M [zk])×zp aE):=kJ [zk] aE Sn 100000000 (zmF y)
def iC(y:zp aE):Bool:=(xg y).isSome
def gn(y:zp aE):zy×zp aE:=(λr:zF (Qi M [zk])×zp aE=>(r.1.1,r.2)) ((xg y).getD (cJ [zk],gj aE))
def zpE:ag:=rq aE [] [zk] aE (λy _=>iC y) λy _=>(((gn y).1,()),(gn y).2)
theorem zkp:FK 148 zpE:=Ik.B1 (f:=Tryz.f148) (keep:=ztK) (n:=100000000) (e:=zwE) (t:=Sn) (i:=λy x=>zmF y)
def YH:=zhO.add 148 zpE
theorem Il:zw YH:=Ik.add zkp
def zqb:ag:=bf (List.replicate 2 Q2) (fj YH Tryz.f206 (List.replicate 2 Q2))
theorem zkZ:FK 206 zqb:=cm _ Il (cK kw)
def Nz:=YH.add 206 zqb
theorem Ag:zw Nz:=Il.add zkZ
abbrev Di(s:List zJ)(l:LF)(i:Int):St:={tmps:=[.sl zG l,.clo (.func 206) [] [.ptr 0 0],.any,.any,.any,.any,.any,L (X l),L i,.any,.any,.any,.any,.any,.any,.any,.any,.any,.any],heap:=[.box [.sl .str s]]}
theorem Zc(s:List zJ)(l:LF):run Nz 1 Ci Tryz.f261.results.toList 300 (bq Tryz.f261) (bg Tryz.f261.ntmps [.sl zG l,.clo (.func 206) [] [.ptr 0 0]] [.box [.sl .str s]])=.ok (.head 2 (am Tryz.f261 2) (Di s l 0)):=kw
theorem zaA(s:List zJ)(l:LF)(i:Int):run Nz 1 Ci Tryz.f261.results.toList 300 (am Tryz.f261 2) (Di s l i)=pR (K:=am Tryz.f261 2) (e:=zG) l (λx=>aL s x.2) (Di s l) [.box [.sl .str s]] i:=kw
theorem zas:zY Nz.P 261 Tryz.f261 2:=cK kw
def zrQ:fD [M (.sl zG),Q2]:=λx h=>match x,h with
 |(l,.clo (.func 206) [] [.ptr 0 0],_),[.box [.sl .str s]]=>.ok (L (ah (λx=>aL s x.2) l 0),[.box [.sl .str s]])
 |_,_=>.err
def zqy:ag:=bf [M (.sl zG),Q2] zrQ
theorem zln:FK 261 zqy:=by
 refine dz zas λx d c h C a=>?_
 unfold zrQ at h;split at h
 .rename_i l u s;simp only[Tr.val_ok,bG]at h;subst h;refine Reach.len 0 zG l rfl λb=>?_
  refine zI (n0:=1) Ag zas a (Zc s l) ?_;exact lX l (λx=>aL s x.2) (Di s l) Ag zas a (zaA s l) b _ 0 rfl (aG _)
 .simp at h
def YI:=Nz.add 261 zqy
theorem Im:zw YI:=Ag.add zln
def zqc:ag:=bf (List.replicate 2 Q2) (fj YI Tryz.f208 (List.replicate 2 Q2))
theorem zk0:FK 208 zqc:=cm _ Im (cK kw)
def zhP:=YI.add 208 zqc
theorem Ah:zw zhP:=Im.add zk0
abbrev cpR:List CP:=[.d zl]
abbrev zl3:List CP:=[.d .str,.nil,.d zk,.nil,.nil,.d .str,.d zk,.d zk,.d .str,.d .str,.nil,.nil]
abbrev zr2:List CP:=[.d ab,.vec (.sl R)]
abbrev qW:List CP:=[.d ay]
abbrev jR:List CP:=[.d .str,.d .str,.d .str,.nil,.nil,.d .str,.nil,.nil,.d .str,.d zk,.d zk,.d .str,.d .str,.nil,.nil,.nil,.d .str,.d zk,.d zk,.d .str,.d .str,.nil,.d .str]
abbrev X6:List CP:=[.d .str,.d .str,.d .str,.d (.sl .str),.d (.sl zn),.d .str,.d (.sl .str),.vec jM,.d .expr,.d (.sl R),.nil,.d .expr,.d .str]
abbrev X7:List CP:=[.d .str,.d .str,.d .str,.d (.sl .str),.d (.sl zn),.d .str,.d (.sl .str),.vec jM,.d .expr,.d (.sl R),.vec jb,.d .expr,.d .str]
abbrev ztu:Nat->aX:=λj=>if j=6 then{slots:=[1,2,3,4,5],prom:=[(3,M 11,.sl R)]}else{ }
inductive PT where
 |h6 (i4:Int) (i5:Int) (z0:zp cpR) (z1:zp zl3) (z2:zp zr2)
abbrev zwt:PT->Nat×St
 |.h6 i h x a z=>(6,⟨tm 38 [(1,Qf 0 0),(2,Qf 1 0),(3,Qf 2 0),(4,L i),(5,L h)],[Qa (bL [] cpR x),Qa (bL [] zl3 a),Qa (bL [3] zr2 z),AO.vec ze.sl z.2.1]⟩)
def zmy(x:ae):Tr (PT⊕aw):=
 let a:=(GQ (x.1.1,x.1.2.1,x.1.q.1,x.1.r.1,x.1.t.1,zt x.1.u),[],())
 br (T ((X x.2:Int)>200)) (Q9 (PT.h6 201 0 (x,()) ([],0,[],0,0,[],[],()) a))
 (Q9 (PT.h6 40 0 (x,()) ([],0,[],0,0,[],[],()) a))
def zbK:PT->Tr (PT⊕aw)
 | .h6 x i h c z=>
  let b:=(X h.1.2:Int)
  let a:=[oO (Y h.1.2 i.toNat (Q ze.sl))]
  br (cond (T (i<b)) (T (i<x)) S)
  (K (zL i (X h.1.2))
   (K (T (X z.2.1+X a<=1073741824)) (Q9 (PT.h6 x (Γ Δ (i+1)) h c (z.1,z.2.1++a,())))))
  (re
   (agg ([I z.1.1,N zn z.1.2.1,L z.1.q.1,N zk z.1.r.1,N zG z.1.t.1]++xE z.1.u++[AV.vec 0]))
   [AO.vec ze.sl z.2.1])
def E6(x:ae):=ap [zl] zbK 100000000 (zmy x)
def Rq(x:ae):=(E6 x).isSome
def E5(x:ae):=o1 (E6 x)
def zph:=FT [zl] [zl] λx=>E6 x.1
theorem zjZ:FK 53 zph:=Ah.T1 (f:=Tryz.f53) (keep:=ztu) (e:=zwt)
abbrev zyq:Nat->aX:=λj=>if j=3 then{slots:=[1,2,3,4],prom:=[(3,M 7,jM)]}else if j=7 then{slots:=[1,2,3,5],prom:=[(3,M 15,jb)]}else{ }
inductive H8p where
 |h3 (i4:Int) (z0:zp qW) (z1:zp jR) (z2:zp X6)
 |h7 (i5:Int) (z0:zp qW) (z1:zp jR) (z2:zp X7)
abbrev e8p:H8p->Nat×St
 |.h3 i x a h=>(3,⟨tm 103 [(1,Qf 0 0),(2,Qf 1 0),(3,Qf 2 0),(4,L i)],[Qa (bL [] qW x),Qa (bL [] jR a),Qa (bL [3] X6 h),AO.vec (Sh.str.pr Q6) h.w.1]⟩)
 |.h7 b x a h=>(7,⟨tm 103 [(1,Qf 0 0),(2,Qf 1 0),(3,Qf 2 0),(5,L b)],[Qa (bL [] qW x),Qa (bL [] jR a),Qa (bL [3,4] X7 h),AO.vec (Sh.str.pr Q6) h.w.1,AO.vec (Sh.str.pr Q5) h.z.1]⟩)
def i8p(h:zO):Tr (H8p⊕aw):=
 K (gm h.1)
 (K (gm h.2.1)
  (K (gm h.q.1) (K (gm h.u.1) (K (gm h.p) (K (rO h.r.1) (K (rO h.v.1) (Q9 (H8p.h3 0 (h,()) ([],[],[],[],[],0,0,[],[],[],0,0,[],[],[],()) (dQ h.1,dQ h.2.1,dQ h.q.1,lF h.r.1,kI h.t.1,
  dQ h.u.1,lF h.v.1,[],iP (zt h.x.1),oO h.y.1,iP (zt h.s.1),dQ h.p,())))))))))
def t8p:H8p->Tr (H8p⊕aw)
 | .h3 i a g h=>
  let j:=(X a.1.w.1:Int)
  let c:=zL i (X a.1.w.1)
  let b:=Y a.1.w.1 i.toNat (Q jM)
  let d:=[(dQ b.1,dQ b.2)]
  br (cond (T (i<j)) (T (i<10)) S)
  (K c
   (K (gm b.1) (K c (K (gm b.2) (K (T (X h.w.1+X d<=1073741824)) (Q9 (H8p.h3 (Γ Δ (i+1)) a g (h.1,h.2.1,h.q.1,h.r.1,h.t.1,h.u.1,h.v.1,h.w.1++d,h.x))))))))
  (Q9
   (H8p.h7 0 a g (h.1,h.2.1,h.q.1,h.r.1,h.t.1,h.u.1,h.v.1,h.w.1,h.x.1,h.y.1,[],h.z)))
 | .h7 e a g h=>
  let j:=(X a.1.z.1:Int)
  let c:=zL e (X a.1.z.1)
  let b:=Y a.1.z.1 e.toNat (Q jb)
  let d:=[(dQ b.1,zt (iP (zt b.2)))]
  br (cond (T (e<j)) (T (e<10)) S)
  (K c
   (K (gm b.1) (K c (K (T (X h.z.1+X d<=1073741824)) (Q9 (H8p.h7 (Γ Δ (e+1)) a g (h.1,h.2.1,h.q.1,h.r.1,h.t.1,h.u.1,h.v.1,h.w.1,h.x.1,h.y.1,h.z.1++d,h.s)))))))
  (re
   (aS h.1 h.2.1 h.q.1 (N Q6 h.r.1) (N zn h.t.1) h.u.1 (N Q6 h.v.1) (AV.vec 0) (xE h.x.1) (N R h.y.1) (AV.vec 1) (xE h.s.1) h.p.1)
   [AO.vec (Sh.str.pr Q6) h.w.1,AO.vec (Sh.str.pr Q5) h.z.1])
def AA(x:zO):=ap [ay] t8p 100000000 (i8p x)
def KH(x:zO):=(AA x).isSome
def Tx(x:zO):=o1 (AA x)
def F8p:=FT [ay] [ay] λx=>AA x.1
theorem zrz:FK 26 F8p:=Ah.T1 (f:=Tryz.f26) (keep:=zyq) (e:=e8p)
def zhV:=zhP.addL [(53,zph),(26,F8p)]
theorem Ir:zw zhV:=Ah.addL<|fc zjZ<|fc zrz jg
abbrev zyl:Nat->aX:=λj=>if j=3 then{slots:=[0,3,4],prom:=[(3,Q2,zl)]}else{ }
inductive H7p where
 |h3 (l0:zS) (i4:Int) (lh_0:zS)
abbrev e7p:H7p->Nat×St
 |.h3 h i l=>(3,⟨tm 24 [(0,N zl h),(3,AV.vec 0),(4,L i)],[AO.vec zl l]⟩)
def i7p(x:J zl.sl):Tr (H7p⊕aw):=
 Q9 (H7p.h3 x 0 [])
def t7p:H7p->Tr (H7p⊕aw)
 | .h3 x i l=>
  let a:=x.getD i.toNat (Q zl)
  let b:=((a.1.1,a.1.2.1,a.1.q.1,a.1.r.1,a.1.t.1,zt a.1.u),a.2)
  let h:=E5 b
  let c:=[((h.1.1,h.1.2.1,h.1.q.1,h.1.r.1,h.1.t.1,zt h.1.u),h.2)]
  br (cond (T (i<(X x:Int))) (T (i<13)) S)
  (K (zL i (X x))
   (K (Rq b) (K (T (X l+X c<=1073741824)) (Q9 (H7p.h3 x (Γ Δ (i+1)) (l++c))))))
  (re (AV.vec 0)
   [AO.vec zl l])
def E8(x:J zl.sl):=ap [zl.sl] t7p 100000000 (i7p x)
def KI(x:J zl.sl):=(E8 x).isSome
def E7(x:J zl.sl):=o1 (E8 x)
def F7p:=FT [zl.sl] [zl.sl] λx=>E8 x.1
theorem zrq:FK 25 F7p:=Ir.T1 (f:=Tryz.f25) (keep:=zyl) (e:=e7p)
def zhW:=zhV.add 25 F7p
theorem Is:zw zhW:=Ir.add zrq
abbrev ztH:Nat->aX:=λj=>if j=3 then{slots:=[0,3,14,15,16]}else if j=11 then{slots:=[0,3,55,56,57]}else{ }
inductive yG where
 |h3 (l14:LS) (i15:Int) (i16:Int) (z0:zp bY) (jb0:LS)
 |h11 (l55:zS) (i56:Int) (i57:Int) (z0:zp bY) (jb0:LS)
abbrev zwC:yG->Nat×St
 |.h3 l i h z j=>(3,⟨tm 122 [(0,Qf 0 0),(3,Qf 1 0),(14,N Q6 l),(15,L i),(16,L h)],[Qa (bL [] bY z),Qa [N Q6 j]]⟩)
 |.h11 b x a z j=>(11,⟨tm 122 [(0,Qf 0 0),(3,Qf 1 0),(55,N zl b),(56,L x),(57,L a)],[Qa (bL [] bY z),Qa [N Q6 j]]⟩)
def zmD(y:zp bY):Tr (yG⊕aw):=
 let a:=mC (y.t.1,y.u.1,y.v.1,(y.w.1,[],y.x.1,[],[],zt y.y.1),[],y.z.1)
 Q9 (yG.h3 a (X a:Int) 0 y a)
def Mi(l:LS)(h i:Int)(z:zp bY)(j:LS)(a x:zy):Tr (yG⊕aw):=br (T (i<h)) (K (zL i (X l)) (br (T (a<0)) (re (L 6) (ba bY z)) (Q9 (yG.h3 l h (Γ Δ (i+1)) z j)))) (br (cond (T (x>=0)) O (z.u.1==z.v.1)) (re (L 7) (ba bY z)) (Q9 (yG.h11 z.1 (X z.1:Int) 0 z j)))
def Sm(l:LS)(h i:Int)(z:zp bY)(j:LS):Tr (yG⊕aw):=
 let a:=ak z.1 (l.getD i.toNat (Q Q6))
 let x:=ak z.1 z.2.1.2.1
 Mi l h i z j a x
def GM(l:zS)(h i:Int)(z:zp bY)(j:LS)(x:ae)(b:Int)(c d:zy)(a e:ae):Tr (yG⊕aw):=br (T (i<h)) (K (zL i (X l)) (br (!aL j x.1.1) (br (T (b>=0)) (re (L 10) (ba bY z)) (Q9 (yG.h11 l h (Γ Δ (i+1)) z j))) (Q9 (yG.h11 l h (Γ Δ (i+1)) z j)))) (K (zL c (X z.1)) (br (!z.v.1==[]) (K (zL d (X z.1)) (re (L 0) (ba bY (z.1,z.2.1,a.1,e.1,z.t)))) (re (L 0) (ba bY (z.1,z.2.1,a.1,z.r)))))
def Mh(l:zS)(h i:Int)(z:zp bY)(j:LS):Tr (yG⊕aw):=
 let a:=l.getD i.toNat (Q zl)
 let d:=ah (λx=>aL j x.2) a.1.t.1 0
 let b:=ak z.1 z.u.1
 let c:=ak z.1 z.v.1
 let e:=Y z.1 (Z b) (Q zl)
 let g:=Y z.1 (Z c) (Q zl)
 GM l h i z j a d b c e g
def Hw:yG->Tr (yG⊕aw)
 |.h3 l i h z j=>Sm l i h z j
 |.h11 b x a z j=>Mh b x a z j
def th(y:zp bY):Option (zF (Qi M [zk])×zp bY):=kJ [zk] bY Hw 100000000 (zmD y)
def oS(y:zp bY):Bool:=(th y).isSome
def oR(y:zp bY):zy×zp bY:=(λr:zF (Qi M [zk])×zp bY=>(r.1.1,r.2)) ((th y).getD (cJ [zk],gj bY))
def zpC:ag:=rq bY [] [zk] bY (λy _=>oS y) λy _=>(((oR y).1,()),(oR y).2)
theorem zkn:FK 147 zpC:=Is.B1 (f:=Tryz.f147) (keep:=ztH) (n:=100000000) (e:=zwC) (t:=Hw) (i:=λy x=>zmD y)
def zhQ:=zhW.add 147 zpC
theorem In:zw zhQ:=Is.add zkn
abbrev eH:List CP:=[.d (.sl zl),.d ay,.d ab,.d ab,.d .str,.d .str,.d .str,.d .str,.vec zn,.d zk,.nil,.nil,.d .expr,.vec zk,.d zk]
abbrev zt1:Nat->aX:=λj=>if j=3 then{slots:=[1,3,14,15,16,0],prom:=[(0,M 60,.int .i64),(0,M 50,zn)]}else if j=12 then{slots:=[1,63,64,65,0]}else if j=1000000 then{sett:=[(0,60)]}else{ }
inductive uZ where
 |h3 (l14:LS) (i15:Int) (i16:Int) (z0:zp eH)
 |h12 (i64:Int) (i65:Int) (z0:zp eH)
 |h12b (i64:Int) (i65:Int) (z0:zp eH)
abbrev zwR:uZ->Nat×St
 |.h3 l a b z=>(3,⟨tm 80 [(0,Qf 0 0),(1,Qf 1 0),(3,AV.clo (Fn.func 251) [] [Qf 1 0]),(14,N Q6 l),(15,L a),(16,L b)],[Qa (bL [2,3] eH z),Qa [Qf 0 0],AO.vec zn z.x.1,AO.vec zk z.s.1]⟩)
 |.h12 i h z=>(12,⟨tm 80 [(0,Qf 0 0),(1,Qf 1 0),(63,AV.vec 2),(64,L i),(65,L h)],[Qa (bL [3,2] eH z),Qa [Qf 0 0],AO.vec zk z.s.1,AO.vec zn z.x.1]⟩)
 |.h12b i h z=>(12,⟨tm 80 [(0,Qf 0 0),(1,Qf 1 0),(63,AV.vec 2),(64,L i),(65,L h)],[Qa (bL [3,2] eH z),Qa [Qf 0 0],AO.frz zk z.s.1,AO.vec zn z.x.1]⟩)
def zmL(y:zp bY):Tr (uZ⊕aw):=Q9 (uZ.h3 y.2.1.r.1 (X y.2.1.r.1:Int) 0 (y.1,y.2.1,y.q.1,y.r.1,y.t.1,y.u.1,y.v.1,y.w.1,[],y.x.1,y.y.1,[],y.z))
def Mm(l:LS)(a i:Int)(h:zp eH)(b:zy)(c:LI)(d:LC):Tr (uZ⊕aw):=br (T (i<a)) (K (zL i (X l)) (br (T (b<0)) (re (L 4) (ba aE h)) (K (T (X h.s.1+X c<=1073741824)) (K (zL b (X h.q.1.2.1)) (K (T (X h.x.1+X d<=1073741824)) (Q9 (uZ.h3 l a (Γ Δ (i+1)) (h.1,h.2.1,h.q.1,h.r.1,h.t.1,h.u.1,h.v.1,h.w.1,h.x.1++d,h.y.1,h.z.1,h.s.1++c,h.p)))))))) (Q9 (uZ.h12 (X h.s.1:Int) 0 h))
def Sq(l:LS)(h i:Int)(z:zp eH):Tr (uZ⊕aw):=
 let a:=zZ (z.q.1.1,z.q.1.2.1,z.q.1.q.1,z.q.1.r.1,z.q.1.t.1,zt z.q.1.u) (l.getD i.toNat (Q Q6))
 let x:=[a]
 let b:=[Y z.q.1.2.1 (Z a) (Q zn)]
 Mm l h i z a x b
def GP(h i:Int)(z:zp eH)(a:Int):Tr (uZ⊕aw):=br (T (i<h)) (K (zL i (X z.s.1)) (K (T (i.toNat<X z.s.1)) (K (T (0<=0)&&T (0<=i)&&T (i<=a)) (br (vL (Qg (i.toNat-Z 0) (Qh (Z 0) z.s.1)) (z.s.1.getD i.toNat (Q zk))) (re (L 7) (ba aE z)) (Q9 (uZ.h12b h (Γ Δ (i+1)) z)))))) (re (L 0) (ba aE z))
def Ml(i h:Int)(z:zp eH):Tr (uZ⊕aw):=
 let a:=(X z.s.1:Int)
 GP i h z a
def A6(h i:Int)(z:zp eH)(a:Int):Tr (uZ⊕aw):=br (T (i<h)) (K (zL i (X z.s.1)) (K (T (0<=0)&&T (0<=i)&&T (i<=a)) (br (vL (Qg (i.toNat-Z 0) (Qh (Z 0) z.s.1)) (z.s.1.getD i.toNat (Q zk))) (re (L 7) (ba aE z)) (Q9 (uZ.h12b h (Γ Δ (i+1)) z))))) (re (L 0) (ba aE z))
def GO(i h:Int)(z:zp eH):Tr (uZ⊕aw):=
 let a:=(X z.s.1:Int)
 A6 i h z a
def uu:uZ->Tr (uZ⊕aw)
 |.h3 l x a z=>Sq l x a z
 |.h12 i h z=>Ml i h z
 |.h12b i h z=>GO i h z
def CK(y:zp bY):Option (zF (Qi M [zk])×zp aE):=kJ [zk] aE uu 100000000 (zmL y)
def pV(y:zp bY):Bool:=(CK y).isSome
def ll(y:zp bY):zy×zp aE:=(λr:zF (Qi M [zk])×zp aE=>(r.1.1,r.2)) ((CK y).getD (cJ [zk],gj aE))
def zp2:ag:=rq bY [] [zk] aE (λy _=>pV y) λy _=>(((ll y).1,()),(ll y).2)
theorem zkR:FK 199 zp2:=In.B1 (f:=Tryz.f199) (ps:=bY) (ks:=[]) (outs:=[zk]) (keep:=zt1) (n:=100000000) (e:=zwR) (t:=uu) (i:=λy x=>zmL y)
def zhR:=zhQ.add 199 zp2
theorem Ai:zw zhR:=In.add zkR
abbrev Y0(y:zp bY):zp bY:=(y.1,(y.2.1.1,y.2.1.2.1,y.2.1.q.1,y.2.1.r.1,y.2.1.t.1,y.2.1.u.1,y.2.1.v.1,y.2.1.w.1,zt y.2.1.x.1,y.2.1.y.1,y.2.1.z.1,zt y.2.1.s.1,y.2.1.p),(y.q.1.1,y.q.1.2.1,y.q.1.q.1,y.q.1.r.1,y.q.1.t.1,zt y.q.1.u),(y.r.1.1,y.r.1.2.1,y.r.1.q.1,y.r.1.r.1,y.r.1.t.1,zt y.r.1.u),y.t.1,y.u.1,y.v.1,y.w.1,y.x.1,zt y.y.1,y.z.1,())
abbrev Tg(y:zp aE):zp aE:=(y.1,(y.2.1.1,y.2.1.2.1,y.2.1.q.1,y.2.1.r.1,y.2.1.t.1,y.2.1.u.1,y.2.1.v.1,y.2.1.w.1,zt y.2.1.x.1,y.2.1.y.1,y.2.1.z.1,zt y.2.1.s.1,y.2.1.p),(y.q.1.1,y.q.1.2.1,y.q.1.q.1,y.q.1.r.1,y.q.1.t.1,zt y.q.1.u),(y.r.1.1,y.r.1.2.1,y.r.1.q.1,y.r.1.r.1,y.r.1.t.1,zt y.r.1.u),y.t.1,y.u.1,y.v.1,y.w.1,y.x.1,y.y.1,zt y.z.1,y.s.1,y.p.1,())
abbrev ztB:Nat->aX:=λ_=>{ }
def Zt(_:zp bY)(b:J zl.sl×zp [CP.d ay,CP.d ab,CP.d ab,CP.d Q6,CP.d Q6,CP.d Q6,CP.d Q6,CP.nil,CP.d zk,CP.nil,CP.nil,CP.d Q5,CP.nil,CP.d zk])(a:zy×zp aE)(h:zy):Tr (Empty⊕aw):=K (pV b) (br (a.1!=0) (re (L a.1) (ba aE a.2)) (br (T (h<0)) (re (L 1) (ba aE (a.2.1,a.q.1,a.r.1,a.t.1,a.u.1,a.v.1,a.w.1,a.x.1,a.y.1,h,a.s))) (re (L 0) (ba aE (a.2.1,a.q.1,a.r.1,a.t.1,a.u.1,a.v.1,a.w.1,a.x.1,a.y.1,h,a.s)))))
def zeF(y:zp bY):Tr (Empty⊕aw):=
 let h:=Y0 y
 let a:=ll h
 let x:=iB a.p.1 a.r.1.q.1
 Zt y h a x
def KO(y:zp bY):Option (zF (Qi M [zk])×zp aE):=kJ [zk] aE t0 100000000 (zeF y)
def KN(y:zp bY):Bool:=(KO y).isSome
def I8(y:zp bY):zy×zp aE:=(λr:zF (Qi M [zk])×zp aE=>(r.1.1,r.2)) ((KO y).getD (cJ [zk],gj aE))
def zpt:ag:=rq bY [] [zk] aE (λy _=>KN y) λy _=>(((I8 y).1,()),(I8 y).2)
theorem zke:FK 141 zpt:=Ai.B1 (f:=Tryz.f141) (keep:=ztB) (n:=100000000) (e:=e0) (t:=t0) (i:=λy x=>zeF y)
abbrev ztD:Nat->aX:=λ_=>{ }
def Zu(_:zp bY)(c:J zl.sl×zp [CP.d ay,CP.d ab,CP.d ab,CP.d Q6,CP.d Q6,CP.d Q6,CP.d Q6,CP.nil,CP.d zk,CP.nil,CP.nil,CP.d Q5,CP.nil,CP.d zk])(a:zy×zp aE)(e _:cH)(h:LC)(b:cH):Tr (Empty⊕aw):=K (pV c) (br (a.1!=0) (re (L a.1) (ba aE a.2)) (K (zL 1 (X a.y.1)) (K (T (Z 1<X a.y.1)) (br (e.2.1!=1) (re (L 5) (ba aE a.2)) (K (zL 0 (X a.y.1)) (K (T (Z 0<X a.y.1)) (K (zL 1 (X h)) (K (T (Z 1<X h)) (re (L 0) (ba aE (a.2.1,a.q.1,a.r.1,a.t.1,a.u.1,a.v.1,a.w.1,a.x.1,h.set (Z 1) (b.1,b.2.1,S),a.z)))))))))))
def zeH(y:zp bY):Tr (Empty⊕aw):=
 let x:=Y0 y
 let a:=ll x
 let c:=a.y.1.getD (Z 1) (Q zn)
 let h:=a.y.1.getD (Z 0) (Q zn)
 let b:=a.y.1.set (Z 0) (h.1,h.2.1,O)
 let d:=b.getD (Z 1) (Q zn)
 Zu y x a c h b d
def CJ(y:zp bY):Option (zF (Qi M [zk])×zp aE):=kJ [zk] aE t0 100000000 (zeH y)
def CI(y:zp bY):Bool:=(CJ y).isSome
def AF(y:zp bY):zy×zp aE:=(λr:zF (Qi M [zk])×zp aE=>(r.1.1,r.2)) ((CJ y).getD (cJ [zk],gj aE))
def zpx:ag:=rq bY [] [zk] aE (λy _=>CI y) λy _=>(((AF y).1,()),(AF y).2)
theorem zki:FK 143 zpx:=Ai.B1 (f:=Tryz.f143) (keep:=ztD) (n:=100000000) (e:=e0) (t:=t0) (i:=λy x=>zeH y)
def zhS:=zhR.addL [(141,zpt),(143,zpx)]
theorem Ip:zw zhS:=Ai.addL<|fc zke<|fc zki jg
abbrev ztC:Nat->aX:=λj=>if j=11 then{slots:=[0,83,84,85],prom:=[(0,M 60,.int .i64)]}else if j=1000000 then{prom:=[(0,M 50,zn),(0,M 60,.int .i64)],sett:=[(0,60)]}else{ }
inductive G7 where
 |h11 (l83:LC) (i84:Int) (i85:Int) (z0:zp eH)
abbrev zwz:G7->Nat×St
 |.h11 l i h z=>(11,⟨tm 124 [(0,Qf 0 0),(83,N zn l),(84,L i),(85,L h)],[Qa (bL [1,2] eH z),AO.vec zn z.x.1,AO.vec zk z.s.1]⟩)
def N6(y:zp bY)(h:zy)(a:J Q5×ee×zy×Unit)(b c:Int):Tr (G7⊕aw):=br (T (h<0)) (re (L 4) (ba aE (y.1,y.2.1,y.q.1,y.r.1,y.t.1,y.u.1,y.v.1,y.w.1,[],y.x.1,a))) (br (!ka y.q.1.t.1 (h,y.v.1)) (re (L 10) (ba aE (y.1,y.2.1,y.q.1,y.r.1,y.t.1,y.u.1,y.v.1,y.w.1,[],y.x.1,a))) (br (T (c>8)) (re (L 13) (ba aE (y.1,y.2.1,y.q.1,y.r.1,y.t.1,y.u.1,y.v.1,y.w.1,[],y.x.1,a))) (K (T (X y.q.1.2.1<=1073741824)) (Q9 (G7.h11 y.r.1.2.1 b 0 (y.1,y.2.1,y.q.1,y.r.1,y.t.1,y.u.1,y.v.1,y.w.1,y.q.1.2.1,y.q.1.q.1,a))))))
def N5(y:zp bY):Tr (G7⊕aw):=
 let a:=zZ (y.q.1.1,y.q.1.2.1,y.q.1.q.1,y.q.1.r.1,y.q.1.t.1,zt y.q.1.u) y.2.1.u.1
 let x:=(y.y.1,[],a,())
 let h:=(X y.r.1.2.1:Int)
 let b:=Γ Δ (Γ Δ ((X y.q.1.2.1:Int)+h)-1)
 N6 y a x h b
def GL(l:LC)(a i:Int)(h:zp eH)(b:LC)(c:Int):Tr (G7⊕aw):=br (T (i<a)) (K (zL i (X l)) (br (i !=h.r.1.q.1) (K (T (X h.s.1+[i].length<=1073741824)) (K (T (X h.x.1+X b<=1073741824)) (Q9 (G7.h11 l a c (h.1,h.2.1,h.q.1,h.r.1,h.t.1,h.u.1,h.v.1,h.w.1,h.x.1++b,h.y.1,h.z.1,h.s.1++[i],h.p))))) (Q9 (G7.h11 l a c h)))) (re (L 0) (ba aE h))
def Mg(l:LC)(h i:Int)(z:zp eH):Tr (G7⊕aw):=
 let a:=[l.getD i.toNat (Q zn)]
 let x:=Γ Δ (i+1)
 GL l h i z a x
def Sl:G7->Tr (G7⊕aw)
 |.h11 l i h z=>Mg l i h z
def Ff(y:zp bY):Option (zF (Qi M [zk])×zp aE):=kJ [zk] aE Sl 100000000 (N5 y)
def KP(y:zp bY):Bool:=(Ff y).isSome
def I9(y:zp bY):zy×zp aE:=(λr:zF (Qi M [zk])×zp aE=>(r.1.1,r.2)) ((Ff y).getD (cJ [zk],gj aE))
def zpv:ag:=rq bY [] [zk] aE (λy _=>KP y) λy _=>(((I9 y).1,()),(I9 y).2)
theorem zkg:FK 142 zpv:=Ip.B1 (f:=Tryz.f142) (keep:=ztC) (n:=100000000) (e:=zwz) (t:=Sl) (i:=λy x=>N5 y)
def zhT:=zhS.add 142 zpv
theorem Iq:zw zhT:=Ip.add zkg
abbrev oU:AV:=agg ([I [],I [],I [],I [],nils,L 0,nils,nils]++zE++[nils,L 0])
abbrev AN(z:zp aE):AV:=agg ([I z.t.1,I z.u.1,I z.v.1,I z.w.1,AV.vec 0,L z.y.1,nils,nils]++xE z.z.1++[N zk z.s.1,L z.p.1])
abbrev KZ(z:zp bY):AV:=agg ([I z.t.1,I z.u.1,I z.v.1,I z.w.1,nils,L z.x.1,nils,nils]++xE z.y.1++[nils,L z.z.1])
def NZ(_:J zl.sl)(s:zO)(_:zg)(_:J Q6×J (Sh.str.pr (Sh.str.pr (Sh.str.sl.pr (zn.sl.pr (Sh.str.pr (Sh.str.sl.pr (jM.sl.pr (Sh.expr.pr (ze.sl.pr (jb.sl.pr (Sh.expr.pr Q6))))))))))))(_ n o p:Bool)(_:J zl.sl×zp [CP.d ay,CP.d ab,CP.d ab,CP.d Q6,CP.d Q6,CP.d Q6,CP.d Q6,CP.nil,CP.d zk,CP.nil,CP.nil,CP.d Q5,CP.nil,CP.d zk])(q:Bool)(g:zy×zp bY)(j:Bool)(i:J zl.sl×zp [CP.d ay,CP.d ab,CP.d ab,CP.d Q6,CP.d Q6,CP.d Q6,CP.d Q6,CP.nil,CP.d zk,CP.nil,CP.nil,CP.d Q5,CP.nil,CP.d zk])(a:zy×zp aE)(k:J zl.sl×zp [CP.d ay,CP.d ab,CP.d ab,CP.d Q6,CP.d Q6,CP.d Q6,CP.d Q6,CP.vec zn,CP.d zk,CP.nil,CP.nil,CP.d Q5,CP.d zk.sl,CP.d zk])(b h:zy×zp aE)(l:J zl.sl×zp [CP.d ay,CP.d ab,CP.d ab,CP.d Q6,CP.d Q6,CP.d Q6,CP.d Q6,CP.vec zn,CP.d zk,CP.nil,CP.nil,CP.d Q5,CP.d zk.sl,CP.d zk])(c x:zy×zp aE)(m:J zl.sl×zp [CP.d ay,CP.d ab,CP.d ab,CP.d Q6,CP.d Q6,CP.d Q6,CP.d Q6,CP.vec zn,CP.d zk,CP.nil,CP.nil,CP.d Q5,CP.d zk.sl,CP.d zk])(e:zy×zp aE):Tr (Empty⊕aw):=
 K O (K O (K O (br (s.1==dI) (K n (br o (re (tup [oU,L 1]) []) (K p (K q (br j (K (KN i) (br (a.1==0) (K (iC k) (br (b.1!=0) (re (tup [oU,L b.1]) []) (re (tup [(AN b.2),L 0]) [AO.vec zn b.y.1]))) (br (a.1!=0) (re (tup [oU,L a.1]) []) (re (tup [(AN a.2),L 0]) [AO.vec zn a.y.1])))) (br j Tr.err (br (g.1!=0) (re (tup [oU,L g.1]) []) (re (tup [(KZ g.2),L 0]) [])))))))) (br (s.1==ic) (K n (br o (re (tup [oU,L 1]) []) (K p (K q (br j (K (KP i) (br (h.1==0) (K (iC l) (br (c.1!=0) (re (tup [oU,L c.1]) []) (re (tup [(AN c.2),L 0]) [AO.vec zn c.y.1]))) (br (h.1!=0) (re (tup [oU,L h.1]) []) (re (tup [(AN h.2),L 0]) [AO.vec zn h.y.1])))) (br j Tr.err (br (g.1!=0) (re (tup [oU,L g.1]) []) (re (tup [(KZ g.2),L 0]) [])))))))) (br (s.1==qD) (K n (br o (re (tup [oU,L 1]) []) (K p (K q (br j (K (CI i) (br (x.1==0) (K (iC m) (br (e.1!=0) (re (tup [oU,L e.1]) []) (re (tup [(AN e.2),L 0]) [AO.vec zn e.y.1]))) (br (x.1!=0) (re (tup [oU,L x.1]) []) (re (tup [(AN x.2),L 0]) [AO.vec zn x.y.1])))) (br j Tr.err (br (g.1!=0) (re (tup [oU,L g.1]) []) (re (tup [(KZ g.2),L 0]) [])))))))) (re (tup [oU,L 1]) []))))))
def zmv(l:J zl.sl)(h:zO):Tr (Empty⊕aw):=
 let j:=zt h.x.1
 let k:=(h.1,h.2.1,h.q.1,h.r.1,h.t.1,h.u.1,h.v.1,h.w.1,j,h.y.1,h.z.1,zt h.s.1,h.p)
 let A:=!fA k
 let D:=qr k&&bif A then O else px l
 let E:=bif A then O else mh l !=0
 let F:=ol 16 j
 let B:=(l,k,([],[],0,[],[],zg.mk [] (0,0,[]) [] []),([],[],0,[],[],zg.mk [] (0,0,[]) [] []),h.1,h.q.1,h.p,h.2.1,0,j,0,())
 let G:=oS B
 let C:=oR B
 let H:=C.1==0
 let a:=Y0 C.2
 let b:=I8 a
 let c:=Tg b.2
 let m:=gn c
 let d:=I9 a
 let e:=Tg d.2
 let n:=gn e
 let g:=AF a
 let i:=Tg g.2
 let o:=gn i
 NZ l h j k A D E F B G C H a b c m d e n g i o
def OF(x:J zl.sl)(h:zO):=ap [ar,zk] t0 100000000 (zmv x h)
def znZ(x:J zl.sl)(h:zO):=(OF x h).isSome
def pOf(x:J zl.sl)(h:zO):=o2 (OF x h)
def zoT:=FT [zl.sl,ay] [ar,zk] λx=>OF x.1 x.2.1
theorem zjB:FK 84 zoT:=Iq.T1 (f:=Tryz.f84) (keep:=k0) (e:=e0)
def zhU:=zhT.add 84 zoT
theorem oH:zw zhU:=Iq.add zjB
abbrev bb:List CP:=[.d (.sl zG),.d zk,.d .bool]
def ziB(x:J (Sh.int IntKind.u8)):Tr (Empty⊕aw):=
 let a:=bif T (97<=x)then T (x<=122)else S
 re (AV.bool (cond (T (65<=x)) (cond (T (x<=90)) O a) a)) []
def pd(x:J (Sh.int IntKind.u8)):=ap [Q7] t0 100000000 (ziB x)
def pb(x:J (Sh.int IntKind.u8)):=(pd x).isSome
def sf(x:J (Sh.int IntKind.u8)):=o1 (pd x)
def zgG:=FT [Sh.int IntKind.u8] [Q7] λx=>pd x.1
theorem zcH:FK 131 zgG:=oH.T1 (f:=Tryz.f131) (keep:=k0) (e:=e0)
def zsT(x:J (Sh.int IntKind.u8)):Tr (Empty⊕aw):=
 re (AV.bool (cond (T (48<=x)) (T (x<=57)) S)) []
def xJ(x:J (Sh.int IntKind.u8)):=ap [Q7] t0 100000000 (zsT x)
def kM(x:J (Sh.int IntKind.u8)):=(xJ x).isSome
def lJ(x:J (Sh.int IntKind.u8)):=o1 (xJ x)
def zgJ:=FT [Sh.int IntKind.u8] [Q7] λx=>xJ x.1
theorem zcK:FK 133 zgJ:=oH.T1 (f:=Tryz.f133) (keep:=k0) (e:=e0)
abbrev zud:=kS [(2,[0,1,5])]
inductive UX where
 |h2 (l0:LS) (s1:TS) (i5:Int)
abbrev zw0:UX->Nat×St
 |.h2 l s i=>(2,⟨tm 18 [(0,N Q6 l),(1,I s),(5,L i)],[]⟩)
def zyc(x:J Sh.str.sl)(h:TS):Tr (UX⊕aw):=
 Q9 (UX.h2 x h 0)
def Sr:UX->Tr (UX⊕aw)
 | .h2 l s i=>
  br (T (i<(X l:Int)))
  (K (zL i (X l)) (br (l.getD i.toNat (Q Q6)==s) (re (kb O) []) (Q9 (UX.h2 l s (Γ Δ (i+1))))))
  (re (kb S) [])
def Ui(x:J Sh.str.sl)(h:TS):=ap [Q7] Sr 100000000 (zyc x h)
def BX(x:J Sh.str.sl)(h:TS):=(Ui x h).isSome
def Pd(x:J Sh.str.sl)(h:TS):=o1 (Ui x h)
def zqi:=FT [Sh.str.sl,Q6] [Q7] λx=>Ui x.1 x.2.1
theorem zk6:FK 128 zqi:=oH.T1 (f:=Tryz.f128) (keep:=zud) (e:=zw0)
abbrev zm1:Nat->aX:=λ_=>{ }
def ziy(y:zp bb)(e:TS):Tr (Empty⊕aw):=
 let x:=T (y.2.1<(X y.1:Int))
 let a:=zL y.2.1 (X y.1)
 let h:=Y y.1 (Z y.2.1) (Q zG)
 let b:=h.1==1
 let c:=h.1==4
 let d:=h.2==e
 K (cond x (a&&bif b then a else a&&bif c then a else O) O)
 (re (AV.bool (cond x (cond b d (cond c d S)) S)) (ba bb y))
def zbl(y:zp bb)(x:TS):Option (zF (Qi M [Q7])×zp bb):=kJ [Q7] bb t0 100000000 (ziy y x)
def LO(y:zp bb)(x:TS):Bool:=(zbl y x).isSome
def Pj(y:zp bb)(x:TS):(J Q7)×zp bb:=(λr:zF (Qi M [Q7])×zp bb=>(r.1.1,r.2)) ((zbl y x).getD (cJ [Q7],gj bb))
def zgo:ag:=rq bb [Q6] [Q7] bb (λy x=>LO y x.1) λy x=>(((Pj y x.1).1,()),(Pj y x.1).2)
theorem zcp:FK 75 zgo:=oH.B1 (f:=Tryz.f75) (ps:=bb) (ks:=[Q6]) (outs:=[Q7]) (keep:=zm1) (n:=100000000) (e:=e0) (t:=t0) (i:=λy x=>ziy y x.1)
def It:=zhU.addL [(131,zgG),(133,zgJ),(128,zqi),(75,zgo)]
theorem jY:zw It:=oH.addL<|fc zcH<|fc zcK<|fc zk6<|fc zcp jg
abbrev zmV:=kS [(2,[1,3])]
inductive Du where
 |h2 (i3:Int) (z0:zp [CP.d R])
abbrev zr6:Du->Nat×St
 |.h2 i z=>(2,⟨tm 66 [(1,Qf 0 0),(3,L i)],[Qa (bL [] [CP.d R] z)]⟩)
def zir(x:zq):Tr (Du⊕aw):=
 Q9 (Du.h2 0 (x,()))
def uV:Du->Tr (Du⊕aw)
 | .h2 i z=>
  let x:=(X z.1.q:Int)
  let b:=zL i (X z.1.q)
  let c:=(↑(Y z.1.q i.toNat 0).toNat:Int)
  let d:=T (c<32)
  let h:=z.1.2.1==0
  let a:=z.1.q==[]
  br (T (i<x))
  (K (b&&bif d then O else b)
   (br (cond d O (T (c>126))) (re (kb S) []) (Q9 (Du.h2 (Γ Δ (i+1)) z))))
  (br (z.1.1==0) (re (AV.bool (cond h a S)) [])
   (br (z.1.1==1) (re (AV.bool a) []) (br (z.1.1==2) (re (AV.bool (cond h (T (x<=40)) S)) []) (br (z.1.1==3) (re (AV.bool (cond h a (cond (z.1.2.1==1) a S))) []) (re (kb S) [])))))
def K7(x:zq):=ap [Q7] uV 100000000 (zir x)
def nV(x:zq):=(K7 x).isSome
def uS(x:zq):=o1 (K7 x)
def zgf:=FT [R] [Q7] λx=>K7 x.1
theorem zcf:FK 104 zgf:=jY.T1 (f:=Tryz.f104) (keep:=zmV) (e:=zr6)
def zsU(x:J Q7):Tr (Empty⊕aw):=
 br x (re (agg [L 3,L 1,I []]) []) (re (agg [L 3,L 0,I []]) [])
def xz(x:J Q7):=ap [R] t0 100000000 (zsU x)
def mF(x:J Q7):=(xz x).isSome
def bx(x:J Q7):=o1 (xz x)
def zgN:=FT [Q7] [R] λx=>xz x.1
theorem zcO:FK 166 zgN:=jY.T1 (f:=Tryz.f166) (keep:=k0) (e:=e0)
abbrev znm:Nat->aX:=λ_=>{ }
def ziN(x:TS):Tr (Empty⊕aw):=
 re
 (AV.bool
  (bif x==jf then O
  else bif x==wA then O else bif x==[61]then O else bif x==[60]then O else bif x==[43]then O else x==[45]))
 []
def RP(x:TS):Option (zF (Qi M [Q7])):=ap [Q7] t0 100000000 (ziN x)
def Lg(x:TS):Bool:=(RP x).isSome
def Ug(x:TS):J Q7:=(λr:zF (Qi M [Q7])=>r.1) ((RP x).getD (cJ [Q7]))
def zg5:ag:=ac [Q6] [Q7] (λx=>Lg x.1) λx=>(Ug x.1,())
theorem zc5:FK 240 zg5:=jY.TT (f:=Tryz.f240) (ks:=[Q6]) (outs:=[Q7]) (keep:=znm) (n:=100000000) (e:=e0) (t:=t0) (i:=λx=>ziN x.1)
abbrev ztO:Nat->aX:=λj=>if j=2 then{slots:=[0,1,5]}else{ }
inductive MM where
 |h2 (l0:LC) (s1:TS) (i5:Int)
abbrev zwI:MM->Nat×St
 |.h2 l s i=>(2,⟨tm 20 [(0,N zn l),(1,I s),(5,L i)],[]⟩)
def zmH(x:J zn.sl)(h:TS):Tr (MM⊕aw):=
 Q9 (MM.h2 x h 0)
def Mk(l:LC)(s:TS)(i:Int)(a:cH):Tr (MM⊕aw):=
 br (T (i<(X l:Int)))
 (K (zL i (X l)) (br (a.1==s) (re (L i) []) (Q9 (MM.h2 l s (Γ Δ (i+1))))))
 (re (L (-1)) [])
def Sp(l:LC)(s:TS)(i:Int):Tr (MM⊕aw):=
 let a:=l.getD i.toNat (Q zn)
 Mk l s i a
def zbL:MM->Tr (MM⊕aw)
 |.h2 l s i=>Sp l s i
def FS(x:J zn.sl)(h:TS):Option (zF (Qi M [zk])):=ap [zk] zbL 100000000 (zmH x h)
def fw(x:J zn.sl)(h:TS):Bool:=(FS x h).isSome
def gY(x:J zn.sl)(h:TS):zy:=(λr:zF (Qi M [zk])=>r.1) ((FS x h).getD (cJ [zk]))
def zpJ:ag:=ac [zn.sl,Q6] [zk] (λx=>fw x.1 x.2.1) λx=>(gY x.1 x.2.1,())
theorem zku:FK 64 zpJ:=jY.TT (f:=Tryz.f64) (ks:=[zn.sl,Q6]) (outs:=[zk]) (keep:=ztO) (n:=100000000) (e:=zwI) (t:=zbL) (i:=λx=>zmH x.1 x.2.1)
def zhC(g:J Q5->J Q5->J Q7)(c:J Q5->J Q5->Bool):cu:=It.add 95 (ac [Q5,Q5] [Q7] (λx=>c x.1 x.2.1) λx=>(g x.1 x.2.1,()))
theorem VE{g:J Q5->J Q5->J Q7}{c:J Q5->J Q5->Bool}(h:FK 95 (ac [Q5,Q5] [Q7] (λx=>c x.1 x.2.1) λx=>(g x.1 x.2.1,()))):zw (zhC g c):=jY.add h
abbrev zua:Nat->aX:=λj=>if j=4 then{slots:=[2,3,5]}else{ }
inductive MQ where
 |h4 (i5:Int) (z0:zp [CP.d Q5]) (z1:zp [CP.d Q5])
abbrev zwX:MQ->Nat×St
 |.h4 i z h=>(4,⟨tm 53 [(2,Qf 0 0),(3,Qf 1 0),(5,L i)],[Qa (bL [] [CP.d Q5] z),Qa (bL [] [CP.d Q5] h)]⟩)
def Hp(_:J Q5->J Q5->J Q7)(_:J Q5->J Q5->Bool)(x h:J Q5):Tr (MQ⊕aw):=
 br
 (bif !zg.op x==zg.op h then O
 else
  bif !((zg.v x).1==(zg.v h).1&&((zg.v x).2.1==(zg.v h).2.1&&((zg.v x).q==(zg.v h).q&&O)))then O
  else bif !zg.s x==zg.s h then O else(↑(zg.l x).length:Int)!=(↑(zg.l h).length:Int))
 (re (kb S) []) (Q9 (MQ.h4 0 (x,()) (h,())))
def Dp(g:J Q5->J Q5->J Q7)(c:J Q5->J Q5->Bool)(i:Int)(z x:zp [CP.d Q5])(b:Int)(a h:zg):Tr (MQ⊕aw):=
 br (T (i<b))
 (K (zL i (zg.l z.1).length)
  (K (zL i (zg.l x.1).length) (K (c a h) (br (!g a h) (re (kb S) []) (Q9 (MQ.h4 (Γ Δ (i+1)) z x))))))
 (re (kb O) [])
def Mo(g:J Q5->J Q5->J Q7)(c:J Q5->J Q5->Bool)(i:Int)(z h:zp [CP.d Q5]):Tr (MQ⊕aw):=
 let a:=(↑(zg.l z.1).length:Int)
 let x:=zt ((zg.l z.1).getD i.toNat (Q Q5))
 let b:=zt ((zg.l h.1).getD i.toNat (Q Q5))
 Dp g c i z h a x b
def PG(g:J Q5->J Q5->J Q7)(c:J Q5->J Q5->Bool):MQ->Tr (MQ⊕aw)
 |.h4 i z h=>Mo g c i z h
def iM(o:Option (zF (Qi M [Q7]))):J Q7:=(λr:zF (Qi M [Q7])=>r.1) (o.getD (cJ [Q7]))
def Lb(g:J Q5->J Q5->J Q7)(c:J Q5->J Q5->Bool)(x h:J Q5):Option (zF (Qi M [Q7])):=ap [Q7] (PG g c) 3000000000 (Hp g c x h)
def cE:Nat->J Q5->J Q5->Option (zF (Qi M [Q7]))
 |0=>λ_ _=>Q2
 |n+1=>Lb (λx h=>iM (cE n x h)) λx h=>(cE n x h).isSome
theorem zmR:zY It.P 95 Tryz.f95 2:=cK kw
theorem SG:∀n,FK 95 (ac [Q5,Q5] [Q7] (λx=>(cE n x.1 x.2.1).isSome) λx=>(iM (cE n x.1 x.2.1),()))
 |0=>ff ⟨Tryz.f95,zmR.1,zmR.2.1,zmR.q.1⟩ (λ_=>rfl)
 |n+1=>(VE (SG n)).TT (f:=Tryz.f95) (E:=zhC (λh a=>iM (cE n h a)) (λh a=>(cE n h a).isSome)) (ks:=[Q5,Q5]) (outs:=[Q7]) (keep:=zua) (n:=3000000000) (e:=zwX) (t:=PG (λh a=>iM (cE n h a)) (λh a=>(cE n h a).isSome)) (i:=λx=>Hp (λh a=>iM (cE n h a)) (λh a=>(cE n h a).isSome) x.1 x.2.1)
def CW(x h:J Q5):Option (zF (Qi M [Q7])):=cE 16 x h
def gV(x h:J Q5):Bool:=(CW x h).isSome
def fJ(x h:J Q5):J Q7:=iM (CW x h)
def zqd:ag:=ac [Q5,Q5] [Q7] (λx=>gV x.1 x.2.1) λx=>(fJ x.1 x.2.1,())
theorem zk1:FK 95 zqd:=SG 16
def Ym(g:J Q5->zy)(c:J Q5->Bool):cu:=It.add 194 (ac [Q5] [zk] (λx=>c x.1) λx=>(g x.1,()))
theorem QB{g:J Q5->zy}{c:J Q5->Bool}(h:FK 194 (ac [Q5] [zk] (λx=>c x.1) λx=>(g x.1,()))):zw (Ym g c):=jY.add h
abbrev znf:Nat->aX:=λj=>if j=3 then{slots:=[1,3,4]}else{ }
inductive wk where
 |h3 (i3:Int) (i4:Int) (z0:zp [CP.d Q5])
abbrev zsg:wk->Nat×St
 |.h3 i h z=>(3,⟨tm 21 [(1,Qf 0 0),(3,L i),(4,L h)],[Qa (bL [] [CP.d Q5] z)]⟩)
def Zn(_:J Q5->zy)(_:J Q5->Bool)(x:J Q5):Tr (wk⊕aw):=
 Q9 (wk.h3 1 0 (x,()))
def GJ(g:J Q5->zy)(c:J Q5->Bool)(h i:Int)(z:zp [CP.d Q5])(x:Int)(a:zg):Tr (wk⊕aw):=
 br (T (i<x))
 (K (zL i (zg.l z.1).length) (K (c a) (Q9 (wk.h3 (Γ Δ (h+g a)) (Γ Δ (i+1)) z))))
 (re (L h) [])
def Me(g:J Q5->zy)(c:J Q5->Bool)(x i:Int)(z:zp [CP.d Q5]):Tr (wk⊕aw):=
 let a:=(↑(zg.l z.1).length:Int)
 let h:=zt ((zg.l z.1).getD i.toNat (Q Q5))
 GJ g c x i z a h
def JJ(g:J Q5->zy)(c:J Q5->Bool):wk->Tr (wk⊕aw)
 |.h3 i h z=>Me g c i h z
def jz(o:Option (zF (Qi M [zk]))):zy:=(λr:zF (Qi M [zk])=>r.1) (o.getD (cJ [zk]))
def OZ(g:J Q5->zy)(c:J Q5->Bool)(x:J Q5):Option (zF (Qi M [zk])):=ap [zk] (JJ g c) 100000000 (Zn g c x)
def di:Nat->J Q5->Option (zF (Qi M [zk]))
 |0=>λ_=>Q2
 |n+1=>OZ (λx=>jz (di n x)) λx=>(di n x).isSome
theorem ZG:zY It.P 194 Tryz.f194 1:=cK kw
theorem MG:∀n,FK 194 (ac [Q5] [zk] (λx=>(di n x.1).isSome) λx=>(jz (di n x.1),()))
 |0=>ff ⟨Tryz.f194,ZG.1,ZG.2.1,ZG.q.1⟩ (λ_=>rfl)
 |n+1=>(QB (MG n)).TT (f:=Tryz.f194) (E:=Ym (λh=>jz (di n h)) (λh=>(di n h).isSome)) (ks:=[Q5]) (outs:=[zk]) (keep:=znf) (n:=100000000) (e:=zsg) (t:=JJ (λh=>jz (di n h)) (λh=>(di n h).isSome)) (i:=λx=>Zn (λh=>jz (di n h)) (λh=>(di n h).isSome) x.1)
def FR(x:J Q5):Option (zF (Qi M [zk])):=di 16 x
def xC(x:J Q5):Bool:=(FR x).isSome
def CZ(x:J Q5):zy:=jz (FR x)
def zgM:ag:=ac [Q5] [zk] (λx=>xC x.1) λx=>(CZ x.1,())
theorem zcN:FK 194 zgM:=MG 16
def Yq:=It.addL [(104,zgf),(166,zgN),(240,zg5),(64,zpJ),(95,zqd),(194,zgM)]
theorem mn:zw Yq:=jY.addL<|fc zcf<|fc zcO<|fc zc5<|fc zku<|fc zk1<|fc zcN jg
end
end Cad
