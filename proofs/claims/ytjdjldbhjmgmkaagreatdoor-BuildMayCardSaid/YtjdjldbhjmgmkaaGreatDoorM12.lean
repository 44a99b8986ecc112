/- Statements. -/
import Derived.Test.YtjdjldbhjmgmkaaGreatDoorM11
namespace Cad
open Go Go.Proofs
open List renaming length->Io,map->Qi,drop->Qh,take->Qg,length->X
open IntKind renaming wrap->Γ,i64->Δ
open AV renaming ptr->Qf
open Tr renaming «to»->Q9,chk->R
open AO renaming box->Qa
open Sh renaming bool->Q7,str->Q6,expr->Q5
open Bool renaming true->O,false->S
open Option renaming none->Q2,some->M
open Decidable renaming decide->N,decide->Q0
open Int renaming toNat->Z
open List (getD)
open List renaming getD->Y
open Tr (chk br re)
open AV (nils agg tup ptr kb)
open AV renaming str->I,sl->T
open Cad renaming ai->L,Sem->J,zi->Q,ze->K,ow->W
noncomputable section
set_option maxHeartbeats 4000000
abbrev xX(l:LS)(i:Int):St:={tmps:=[.sl Q6 l,.clo (.func 323) [] [.ptr 0 0],.any,.any,.any,.any,.any,L (X l),L i,.any,.any,.any,.any,.any,.any,.any,.any,.any,.any],heap:=[.box [.clo (.func 282) [] []]]}
theorem V6(l:LS):run rx 1 Ch Tryz.f345.results.toList 300 (bu Tryz.f345) (bl Tryz.f345.ntmps [.sl Q6 l,.clo (.func 323) [] [.ptr 0 0]] [.box [.clo (.func 282) [] []]])=.ok (.head 2 (ap Tryz.f345 2) (xX l 0)):=kw
theorem WB(l:LS)(i:Int):run rx 1 Ch Tryz.f345.results.toList 300 (ap Tryz.f345 2) (xX l i)=pM (K:=ap Tryz.f345 2) (e:=Q6) l (λx=>!dG x) (xX l) [.box [.clo (.func 282) [] []]] i:=kw
theorem zas:zZ rx.P 345 Tryz.f345 2:=cI kw
def zsb:fz [M (.sl Q6),Q2]:=λx h=>match x,h with
 |(l,.clo (.func 323) [] [.ptr 0 0],_),[.box [.clo (.func 282) [] []]]=>.ok (L (aj (λx=>!dG x) l 0),[.box [.clo (.func 282) [] []]])
 |_,_=>.err
def zpp:ah:=bj [M (.sl Q6),Q2] zsb
theorem zj2:FK 345 zpp:=by
 refine dw zas λx d c h C a=>?_
 unfold zsb at h;split at h
 .rename_i l u;simp only[Tr.val_ok,bG]at h;subst h;refine Reach.len 0 Q6 l rfl λb=>?_
  refine zJ (n0:=1) lK zas a (V6 l) ?_;exact lT l (λx=>!dG x) (xX l) lK zas a (WB l) b _ 0 rfl (aK _)
 .simp at h
abbrev ztT:Nat->aY:=λ_=>{ }
theorem zjm:zZ (rx).P 335 Tryz.f335 1:=cI kw
theorem zsZ(x:J Q5):rn rx 0 ztT Tryz.f335 [zX Q5 x] []=br (!dU (zt x)) (Tr.ok (zT.ret (tup [I [],L 1]) [])) (R (iJ 16 (zt x)) (Tr.ok (zT.ret (tup [I (bn 16 (zt x)),L 0]) []))):=kw
def pE(x:J Q5):J Q6×zy:=(ite ((!dU x)=O) ([],1) (bn 16 x,0))
def sP(x:J Q5):Bool:=(ite ((!dU x)=O) O (ite (iJ 16 x=O) O S))
def zpm:ah:=ac [Q5] [Q6,zk] (λx=>sP x.1) λx=>((pE x.1).1,(pE x.1).2,())
theorem zjZ:FK 335 zpm:=by
 refine aZ (zjm) λx h C b=>?_
 unfold sP at h;refine zJ lK (zjm) (λid _=>b id) (zsZ x.1) ?_;generalize a:pE x.1=y;unfold pE at a
 try simp only[zg.eta]
 exact MC a h
abbrev zuA:Nat->aY:=λj=>if j=3 then{slots:=[0,4,5],prom:=[(4,Q2,lu)]}else{ }
abbrev Ps(s:TS)(i:Int)(l:LF):St:={tmps:=(tm 47 [(0,I s),(4,AV.vec 0),(5,L i)]),heap:=[AO.vec zG l]}
theorem zn2:zZ (rx).P 256 Tryz.f256 1:=cI kw
theorem zyl(x:TS):rn rx 0 zuA Tryz.f256 [zX Q6 x] []=Tr.ok (zT.head 3 (ap Tryz.f256 3) (Ps x 0 [])):=kw
theorem zoa(s:TS)(i:Int)(l:LF):rh rx 0 zuA Tryz.f256 3 (Ps s i l)=let h:=(X s:Int);let a:=Qg (h.toNat-i.toNat) (Qh i.toNat s);let x:=(↑(Y s i.toNat 0).toNat:Int);br (N (i<h)) (R (zL i (X s)&&bif x==32 then O else zL i (X s)) (br (cond (x==32) O (x==10)) (Tr.ok (zT.head 3 (ap Tryz.f256 3) (Ps s (Γ Δ (i+1)) l))) (R (N (0<=i)&&N (i<=h)&&N (h<=h)) (R (lW a) (R (tY (ch a).1) (br (cond (!dI (ch a).1) O ((X l:Int)==400)) (Tr.ok (zT.ret (tup [nils,L 2]) [])) (R (N (X l+[(ch a).1].length<=1073741824)) (Tr.ok (zT.head 3 (ap Tryz.f256 3) (Ps s (Γ Δ (i+(ch a).2)) (l++[(ch a).1]))))))))))) (Tr.ok (zT.ret (tup [AV.vec 0,L 0]) [AO.vec zG l])):=kw
def wG:Nat->(Sem Sh.str)->Int->dJ->Sem lu.sl×zy
 |0,_,_,_=>default
 |n+1,s,i,l=>(if N (i<(X s:Int))=O then
 if(cond ((↑(Y s i.toNat 0).toNat:Int)==32) O ((↑(Y s i.toNat 0).toNat:Int)==10))=O then
  wG n s (Γ Δ (i+1)) l
 else
  if
    (bif !dI (ch (Qg ((X s:Int).toNat-i.toNat) (Qh i.toNat s))).1 then O
     else(X l:Int)==400)=
     O then
   ([],2)
  else
   wG n s (Γ Δ (i+(ch (Qg ((X s:Int).toNat-i.toNat) (Qh i.toNat s))).2))
    (l++[(ch (Qg ((X s:Int).toNat-i.toNat) (Qh i.toNat s))).1])
else(l,0))
def vp:Nat->(Sem Sh.str)->Int->dJ->Bool
 |0,_,_,_=>S
 |n+1,s,i,l=>(if N (i<(X s:Int))=O then
 if (zL i (Io s)&&bif (↑(getD s i.toNat 0).toNat:Int)==32 then true else zL i (Io s))=true then
  if(cond ((↑(Y s i.toNat 0).toNat:Int)==32) O ((↑(Y s i.toNat 0).toNat:Int)==10))=O then
   vp n s (Γ Δ (i+1)) l
  else
   if (decide (0≤i)&&decide (i≤(Io s:Int))&&decide ((Io s:Int)≤(Io s:Int)))=true then
    if lW (List.take ((Io s:Int).toNat-i.toNat) (List.drop i.toNat s))=true then
     if tY (ch (List.take ((Io s:Int).toNat-i.toNat) (List.drop i.toNat s))).1=true then
      if
        (bif !dI (ch (Qg ((X s:Int).toNat-i.toNat) (Qh i.toNat s))).1 then O
         else(X l:Int)==400)=
         O then
       O
      else
       if
         N (X l+[(ch (Qg ((X s:Int).toNat-i.toNat) (Qh i.toNat s))).1].length<=1073741824)=
          O then
        vp n s (Γ Δ (i+(ch (Qg ((X s:Int).toNat-i.toNat) (Qh i.toNat s))).2))
         (l++[(ch (Qg ((X s:Int).toNat-i.toNat) (Qh i.toNat s))).1])
       else S
     else S
    else S
   else S
 else S
else O)
theorem XU{C:eW}(b:∀id,C.ρ0 id=Q2):∀(n:Nat)(s:TS)(i:Int)(l:LF),vp n s i l=O->
  Reach (rx) C 256 (ap Tryz.f256 3) (Ps s i l) (λr h=>bb h [lu.sl,zk] r=M ((wG n s i l).1,(wG n s i l).2,()))
 |0,s,i,l,x=>by cases x
 | n+1,s,i,l,x=>by
  refine zJ lK (zn2) (λid _=>b id) (zoa _ _ _) ?_;rw[vp]at x;generalize a:wG (n+1) s i l=y;rw[wG]at a
  skip
  repeat' (first|with_reducible refine obr a x (λ_ a x=>?_) (λ_ a x=>?_)|with_reducible refine Fp a (λ_ a=>?_) (λ_ a=>?_)|with_reducible refine KU x (λx=>?_)|with_reducible refine eo ?_)
  all_goals first|(cases x;done)|(subst a;first|(change Reach _ _ _ _ _ _;refine XU b n _ _ _ ?_<;>exact x)|rfl)
def cut(x:TS):J lu.sl×zy:=(wG (X x+1) x 0 [])
def Yk(x:TS):Bool:=(vp (X x+1) x 0 [])
def F69:ah:=ac [Q6] [lu.sl,zk] (λx=>Yk x.1) λx=>((cut x.1).1,(cut x.1).2,())
theorem zrI:FK 256 F69:=by
 refine aZ (zn2) λx h C b=>?_
 unfold Yk at h;refine zJ lK (zn2) (λid _=>b id) (zyl x.1) ?_;generalize a:cut x.1=y;unfold cut at a
 try simp only[zg.eta,zo]
 repeat' (first|with_reducible refine obr a h (λ_ a h=>?_) (λ_ a h=>?_)|with_reducible refine Fp a (λ_ a=>?_) (λ_ a=>?_)|with_reducible refine KU h (λh=>?_)|with_reducible refine eo ?_)
 all_goals first|(cases h;done)|(subst a;first|(change Reach _ _ _ _ _ _;refine XU b _ _ _ _ ?_<;>exact h)|rfl)
def Nw:=rx.addL [(345,zpp),(335,zpm),(256,F69)]
theorem yZ:zw Nw:=lK.addL<|fc zj2<|fc zjZ<|fc zrI jb
def zpe:ah:=bj (List.replicate 2 Q2) (fg Nw Tryz.f322 (List.replicate 2 Q2))
theorem zjR:FK 322 zpe:=cj _ yZ (cI kw)
abbrev zyX:Nat->aY:=λ_=>{ }
theorem zvL:zZ (Nw).P 296 Tryz.f296 1:=cI kw
theorem zyv(x:J Q5):rn Nw 0 zyX Tryz.f296 [zX Q5 x] []=R (sP (zt x)) (Tr.ok (zT.ret (I (pE (zt x)).1) [])):=kw
def jG(x:J Q5):J Q6:=((pE x).1)
def sE(x:J Q5):Bool:=(ite (sP x=O) O S)
def F94:ah:=ac [Q5] [Q6] (λx=>sE x.1) λx=>(jG x.1,())
theorem zr5:FK 296 F94:=by
 refine aZ (zvL) λx h C b=>?_
 unfold sE at h;refine zJ yZ (zvL) (λid _=>b id) (zyv x.1) ?_;generalize a:jG x.1=y;unfold jG at a
 try simp only[zg.eta]
 exact MC a h
def Nx:=Nw.addL [(322,zpe),(296,F94)]
theorem Aa:zw Nx:=yZ.addL<|fc zjR<|fc zr5 jb
def F86:ah:=bj (List.replicate 4 Q2) (fg Nx Tryz.f288 (List.replicate 4 Q2))
theorem zrX:FK 288 F86:=cj _ Aa (cI kw)
abbrev zyY:Nat->aY:=λ_=>{ }
theorem zvM:zZ (Nx).P 300 Tryz.f300 2:=cI kw
theorem zyx(x:TS)(h:J Q5):rn Nx 0 zyY Tryz.f300 [zX Q6 x,zX Q5 h] []=let a:=zt h;br (iz a) (Tr.ok (zT.ret (I []) [])) (R (N (X x+X Na<=1099511627776)) (R (sE a) (R (N (X (x++Na)+X (jG a)<=1099511627776)) (R (N (X (x++Na++jG a)+X jq<=1099511627776)) (Tr.ok (zT.ret (I (x++Na++jG a++jq)) [])))))):=kw
def me(h:TS)(x:J Q5):J Q6:=(ite (iz x=O) [] (h++Na++jG x++jq))
def wA(h:TS)(x:J Q5):Bool:=(ite (iz x=O) O (ite (N (X h+X Na<=1099511627776)=O) (ite (sE x=O) (ite (N (X (h++Na)+X (jG x)<=1099511627776)=O) (ite (N (X (h++Na++jG x)+X jq<=1099511627776)=O) O S) S) S) S))
def F98:ah:=ac [Q6,Q5] [Q6] (λx=>wA x.1 x.2.1) λx=>(me x.1 x.2.1,())
theorem zr7:FK 300 F98:=by
 refine aZ (zvM) λx h C b=>?_
 unfold wA at h;refine zJ Aa (zvM) (λid _=>b id) (zyx x.1 x.2.1) ?_;generalize a:me x.1 x.2.1=y;unfold me at a
 try simp only[zg.eta]
 exact MC a h
def zh2:=Nx.addL [(288,F86),(300,F98)]
theorem VT:zw zh2:=Aa.addL<|fc zrX<|fc zr7 jb
def zws(h:zP):J Q7:=(cond (cond (N ((X h.2.2.2.2.1:Int)<1)) O (N ((X h.2.2.2.2.1:Int)>8))) S (bif !Q0 (aj (λx=>!zsu x) h.2.2.2.2.1 0>=0)then bif dG h.2.2.2.2.2.1 then bif bif N ((X h.2.2.2.2.2.2.1:Int)<0)then O else N ((X h.2.2.2.2.2.2.1:Int)>8)then S else bif !Q0 (aj (λx=>!dG x) h.2.2.2.2.2.2.1 0>=0)then bif bif N ((X h.2.2.2.2.2.2.2.1:Int)<0)then O else N ((X h.2.2.2.2.2.2.2.1:Int)>8)then S else bif !Q0 (aj (λx=>!zv3 x) h.2.2.2.2.2.2.2.1 0>=0)then cy h.2.2.2.2.2.2.2.2.1 else S else S else S else S))
def zh3:=zh2
theorem Ab:zw zh3:=VT
def wZ(h:zP):Tr (Empty⊕az):=
 let A:=zt h.x.1
 let D:=zt h.s.1
 let F:=(h.y.1,h.z.1,D,h.p)
 let G:=(h.1,[],h.q.1,h.r.1,h.t.1,h.u.1,h.v.1,h.w.1,A,F)
 let B:=bif dG h.2.1 then cy D else S
 let C:=(h.1,[],h.q.1,h.r.1,h.t.1,h.u.1,h.v.1,h.w.1,A,h.y.1,h.z.1,zg.mk [] (0,0,[]) [] [],h.p)
 let H:=dG h.p
 let b:=bif dG h.2.1 then H else S
 let P:=(h.y.1,h.z.1,D,[])
 let c:=(h.1,[],h.q.1,h.r.1,h.t.1,h.u.1,h.v.1,h.w.1,A,P)
 let d:=dG h.q.1
 let a:=(X h.r.1:Int)
 let E:=aj (λx=>!dG x) h.r.1 0
 let e:=cy A
 let g:=bif !Q0 (E>=0)then e else S
 let i:=bif dG h.2.1 then bif d then bif bif N (a<1)then O else N (a>8)then S else g else S else S
 let j:=(h.1,[],[],[],h.t.1,h.u.1,h.v.1,h.w.1,zg.mk [] (0,0,[]) [] [],F)
 let k:=gu j
 let l:=iV j
 let m:=bif dG h.2.1 then bif d then bif dG h.u.1 then bif H then e else S else S else S else S
 let n:=(h.1,[],[],h.r.1,h.t.1,[],h.v.1,h.w.1,zg.mk [] (0,0,[]) [] [],P)
 let o:=bif dG h.2.1 then bif d then bif bif N (a<2)then O else N (a>2)then S else g else S else S
 br (h.1==Qo) (br (dG h.2.1) Tr.err (re (kb S) []))
 (br (h.1==bl1)
  (R (cond (dG h.2.1) (gu G) O) (re (AV.bool (cond (dG h.2.1) (iV G) S)) []))
  (br (h.1==bl3) (br (dG h.2.1) Tr.err (re (kb S) [])) (br (h.1==M9) (br (dG h.2.1) Tr.err (re (kb S) [])) (br (h.1==bl0) (R (cond B (gu C) O) (re (AV.bool (cond B (iV C) S)) []))
  (br (h.1==Kb) (R (cond B (gu C) O) (re (AV.bool (cond B (iV C) S)) [])) (br (h.1==bl9) (R (cond b (gu c) O) (re (AV.bool (cond b (iV c) S)) []))
  (br (h.1==Qk) (R (cond b (gu c) O) (re (AV.bool (cond b (iV c) S)) [])) (br (h.1==P9) (R (cond b (gu c) O) (re (AV.bool (cond b (iV c) S)) [])) (br (h.1==Qj)
  (R (cond b (gu c) O) (re (AV.bool (cond b (iV c) S)) [])) (br (h.1==dD) (R (cond i k O) (re (AV.bool (cond i l S)) [])) (br (h.1==gO) (R (cond m (gu n) O) (re (AV.bool (cond m (iV n) S)) []))
  (br (h.1==pp) (R (cond o k O) (re (AV.bool (cond o l S)) [])) (re (kb S) [])))))))))))))
def Dh(x:zP):=ar [Q7] t0 100000000 (wZ x)
def xY(x:zP):=(Dh x).isSome
def iu(x:zP):=o1 (Dh x)
def zgK:=FT [aB] [Q7] λx=>Dh x.1
theorem zcH:FK 254 zgK:=Ab.T1 (f:=Tryz.f254) (keep:=k0) (e:=e0)
def BJ(h:zP):Tr (Empty⊕az):=
 let H:=N (X h.1<=140737488355328)&&List.all h.1 λb=>N (b.toNat<128)
 let a1:=X7++Lib.toUpperA h.1
 let a2:=a1++[32]
 let a3:=a2++h.2.1
 let a4:=a3++md
 let P:=zmd++Lib.toUpperA h.1
 let U:=P++Cb
 let a7:=U++h.2.1
 let G:=a7++Qn
 let F:=Qg ((X h.1:Int).toNat-Z 2) (Qh (Z 2) h.1)
 let e:=Lib.toUpperA F
 let g:=zmh++e
 let i:=g++Cb
 let j:=i++h.2.1
 let d:=j++md
 let a:=a4++h.q.1
 let l:=a++Ca
 let m:=iF h.r.1
 let n:=l++m
 let o:=zt h.x.1
 let k:=wA [32] o
 let s:=n++jq
 let c:=me [32] o
 let t:=a++fM
 let v:=t++h.p
 let w:=v++Cb
 let y:=w++h.u.1
 let z:=a++Vo
 let A:=Y h.r.1 (Z 0) (Q Q6)
 let B:=z++A
 let C:=B++Vp
 let D:=Y h.r.1 (Z 1) (Q Q6)
 let E:=C++D
 R H
 (R (N (X X7+(Lib.toUpperA h.1).length<=1099511627776))
  (R (N (X a1+[32].length<=1099511627776)) (R (N (X a2+X h.2.1<=1099511627776)) (R (N (X a3+X md<=1099511627776)) (R (N (X a4+X h.q.1<=1099511627776)) (br (h.1==Qo) Tr.err (br (h.1==bl1)
  (R (N (X zd6+X h.2.1<=1099511627776)) (re (I (zd6++h.2.1)) [])) (br (h.1==bl3) (R (N (X X5+X h.2.1<=1099511627776)) (R (decide
  (X (X5++h.2.1)+X zd0<=1099511627776)) Tr.err)) (br (h.1==M9) (R (N (X X8+X h.2.1<=1099511627776))
  (R (N (X (X8++h.2.1)+X zdZ<=1099511627776)) Tr.err)) (br (h.1==bl0) (R (N (X zd4+X h.2.1<=1099511627776)) Tr.err) (br (h.1==Kb)
  (R (N (X zed+X h.2.1<=1099511627776)) Tr.err) (br (h.1==bl9) (R H (R (N (X zmd+(Lib.toUpperA h.1).length<=1099511627776)) (R (N (X P+X Cb<=1099511627776))
  (R (N (X U+X h.2.1<=1099511627776)) (R (N (X a7+X Qn<=1099511627776)) (R (N (X G+X h.p<=1099511627776)) (re (I (G++h.p)) []))))))) (br (h.1==Qk) (R H
  (R (N (X zmd+(Lib.toUpperA h.1).length<=1099511627776)) (R (N (X P+X Cb<=1099511627776)) (R (N (X U+X h.2.1<=1099511627776)) (R (N (X a7+X Qn<=1099511627776))
  (R (N (X G+X h.p<=1099511627776)) (re (I (G++h.p)) []))))))) (br (h.1==P9) (R (N (0<=2)&&N (2<=(X h.1:Int))&&N ((X h.1:Int)<=(X h.1:Int)))
  (R (N (X F<=140737488355328)&&F.all λb=>N (b.toNat<128)) (R (N (X zmh+X e<=1099511627776)) (R (N (X g+X Cb<=1099511627776)) (R (N (X i+X h.2.1<=1099511627776))
  (R (N (X j+X md<=1099511627776)) (R (N (X d+X h.p<=1099511627776)) (re (I (d++h.p)) [])))))))) (br (h.1==Qj) (R (N (0<=2)&&N (2<=(X h.1:Int))&&
  N ((X h.1:Int)<=(X h.1:Int))) (R (N (X F<=140737488355328)&&F.all λb=>N (b.toNat<128)) (R (N (X zmh+X e<=1099511627776)) (R (N (X g+X Cb<=1099511627776)) (R (N (X i+X h.2.1<=1099511627776))
  (R (N (X j+X md<=1099511627776)) (R (N (X d+X h.p<=1099511627776)) (re (I (d++h.p)) [])))))))) (br (h.1==dD) (R (N (X a+X Ca<=1099511627776)) (R (pe h.r.1)
  (R (N (X l+X m<=1099511627776)) (R (N (X n+X jq<=1099511627776)) (R k (R (N (X s+X c<=1099511627776)) (re (I (s++c)) []))))))) (br (h.1==gO) (R (N (X a+X fM<=1099511627776))
  (R (N (X t+X h.p<=1099511627776)) (R (N (X v+X Cb<=1099511627776)) (R (N (X w+X h.u.1<=1099511627776)) (R k (R (N (X y+X c<=1099511627776)) (re (I (y++c)) [])))))))
  (R (N (X a+X Vo<=1099511627776)) (R (zL 0 (X h.r.1)) (R (N (X z+X A<=1099511627776)) (R (N (X B+X Vp<=1099511627776)) (R (zL 1 (X h.r.1)) (R (N (X C+X D<=1099511627776)) (R k
  (R (N (X E+X c<=1099511627776)) (re (I (E++c)) []))))))))))))))))))))))))))
def L2(x:zP):=ar [Q6] t0 100000000 (BJ x)
def Gv(x:zP):=(L2 x).isSome
def nA(x:zP):=o1 (L2 x)
def zgL:=FT [aB] [Q6] λx=>L2 x.1
theorem zcI:FK 255 zgL:=Ab.T1 (f:=Tryz.f255) (keep:=k0) (e:=e0)
def Ta:=zh3.addL [(254,zgK),(255,zgL)]
theorem Ii:zw Ta:=Ab.addL<|fc zcH<|fc zcI<|jb
abbrev zyO:Nat->aY:=λ_=>{ }
theorem zvt:zZ (Ta).P 202 Tryz.f202 1:=cI kw
theorem zyb(x:zP):rn Ta 0 zyO Tryz.f202 [zX aB x] []=let a:=(zeA x);let h:=Tr.ok (zT.ret (tup [I [],L 1]) []);R (xY a) (br (!iu a) h (R (Gv a) (R (Yk (nA a)) (br ((cut (nA a)).2!=0) h (Tr.ok (zT.ret (tup [I (nA a),L 0]) [])))))):=kw
def sj(x:zP):J Q6×zy:=(ite ((!iu x)=O) ([],1) (ite (((cut (nA x)).2!=0)=O) ([],1) (nA x,0)))
def yg(x:zP):Bool:=(ite (xY x=O) (ite ((!iu x)=O) O (ite (Gv x=O) (ite (Yk (nA x)=O) O S) S)) S)
def F52:ah:=ac [aB] [Q6,zk] (λx=>yg x.1) λx=>((sj x.1).1,(sj x.1).2,())
theorem zrv:FK 202 F52:=by
 refine aZ (zvt) λx h C b=>?_
 unfold yg at h;refine zJ Ii (zvt) (λid _=>b id) (zyb x.1) ?_;generalize a:sj x.1=y;unfold sj at a
 try simp only[Tj]
 exact MC a h
def Tb:=Ta.add 202 F52
theorem Ij:zw Tb:=Ii.add zrv
abbrev zyN:Nat->aY:=λ_=>{ }
theorem zvf:zZ (Tb).P 144 Tryz.f144 1:=cI kw
theorem zxT(x:zP):rn Tb 0 zyN Tryz.f144 [zX aB x] []=let a:=(zeA x);R (yg a) (Tr.ok (zT.ret (AV.bool ((sj a).2==0)) [])):=kw
def eZ(x:zP):J Q7:=((sj x).2==0)
def ql(x:zP):Bool:=(ite (yg x=O) O S)
def F31:ah:=ac [aB] [Q7] (λx=>ql x.1) λx=>(eZ x.1,())
theorem zrc:FK 144 F31:=by
 refine aZ (zvf) λx h C b=>?_
 unfold ql at h;refine zJ Ij (zvf) (λid _=>b id) (zxT x.1) ?_;generalize a:eZ x.1=y;unfold eZ at a
 try simp only[Tj]
 exact MC a h
def qz:=Tb.add 144 F31
theorem jU:zw qz:=Ij.add zrc
def zqU:ah:=bj (List.replicate 2 Q2) (fg qz Tryz.f259 (List.replicate 2 Q2))
theorem zlE:FK 259 zqU:=cj _ jU (cI kw)
abbrev zt0:Nat->aY:=λ_=>{ }
theorem zjo:zZ (qz).P 54 Tryz.f54 1:=cI kw
theorem zs3(x:TS):rn qz 0 zt0 Tryz.f54 [zX Q6 x] []=br (N ((X x:Int)>20)) (R (N (0<=0)&&N (0<=20)&&N (20<=(X x:Int))) (Tr.ok (zT.ret (I (Qg (Z 20-Z 0) (Qh (Z 0) x))) []))) (Tr.ok (zT.ret (I x) [])):=kw
def dP(x:TS):J Q6:=(ite (N ((X x:Int)>20)=O) (Qg (Z 20-Z 0) (Qh (Z 0) x)) x)
def gm(x:TS):Bool:=(ite (N ((X x:Int)>20)=O) (ite ((N (0<=0)&&N (0<=20)&&N (20<=(X x:Int)))=O) O S) O)
def zpH:ah:=ac [Q6] [Q6] (λx=>gm x.1) λx=>(dP x.1,())
theorem zkl:FK 54 zpH:=by
 refine aZ (zjo) λx h C b=>?_
 unfold gm at h;refine zJ jU (zjo) (λid _=>b id) (zs3 x.1) ?_;generalize a:dP x.1=y;unfold dP at a;exact MC a h
abbrev znE:Nat->aY:=λ_=>{ }
theorem zat:zZ (qz).P 119 Tryz.f119 3:=cI kw
theorem zmA(h:J ze.sl)(x:zy)(a:zp):rn qz 0 znE Tryz.f119 [zX ze.sl h,zX zk x,zX K a] []=let b:=Y h (Z x) (Q K);R (cond (N (x>=0)) (cond (N (x<(X h:Int))) (zL x (X h)) O) O) (Tr.ok (zT.ret (AV.bool (cond (N (x>=0)) (cond (N (x<(X h:Int))) (b.1==a.1&&(b.2.1==a.2.1&&(b.2.2==a.2.2&&O))) S) S)) [])):=kw
def bK(h:J ze.sl)(x:zy)(a:zp):J Q7:=(cond (N (x>=0)) (cond (N (x<(X h:Int))) ((Y h (Z x) (Q K)).1==a.1&&((Y h (Z x) (Q K)).2.1==a.2.1&&((Y h (Z x) (Q K)).2.2==a.2.2&&O))) S) S)
def Db(h:J ze.sl)(x:zy)(_:zp):Bool:=(ite ((cond (N (x>=0)) (cond (N (x<(X h:Int))) (zL x (X h)) O) O)=O) O S)
def zhi:ah:=ac [ze.sl,zk,K] [Q7] (λx=>Db x.1 x.2.1 x.q.1) λx=>(bK x.1 x.2.1 x.q.1,())
theorem SE:FK 119 zhi:=by
 refine aZ (zat) λx h C b=>?_
 unfold Db at h;refine zJ jU (zat) (λid _=>b id) (zmA x.1 x.2.1 x.q.1) ?_;generalize a:bK x.1 x.2.1 x.q.1=y;unfold bK at a;exact MC a h
abbrev zja:Nat->aY:=λj=>if j=2 then{slots:=[0,1,5]}else{ }
abbrev Gn(l:zS)(s:TS)(i:Int):St:={tmps:=(tm 21 [(0,T zl l),(1,I s),(5,L i)]),heap:=[]}
theorem TK:zZ (qz).P 61 Tryz.f61 2:=cI kw
theorem zs1(x:J zl.sl)(h:TS):rn qz 0 zja Tryz.f61 [zX zl.sl x,zX Q6 h] []=Tr.ok (zT.head 2 (ap Tryz.f61 2) (Gn x h 0)):=kw
theorem TV(l:zS)(s:TS)(i:Int):rh qz 0 zja Tryz.f61 2 (Gn l s i)=br (N (i<(X l:Int))) (R (zL i (X l)) (br ((l.getD i.toNat (Q zl)).1.1==s) (Tr.ok (zT.ret (L i) [])) (Tr.ok (zT.head 2 (ap Tryz.f61 2) (Gn l s (Γ Δ (i+1))))))) (Tr.ok (zT.ret (L (-1)) [])):=kw
def iE(s:TS):List
 ae->Int->zy
 |[],_=>(-1)
 |x::r,i=>(ite ((x.1.1==s)=O) i (iE s r (i+1)))
variable {C:eW}
theorem zdJ(e:∀id,C.ρ0 id=Q2)(s:TS)(l:List
 ae) (k:X l<=aE):∀(m i:Nat),X l-i=m->i<=X l->
  Reach (qz) C 61 (ap Tryz.f61 2) (Gn l s (i:Int)) (λr h=>bb h [zk] r=M (iE s (l.drop i) i,())):=by
 intro m
 induction m with
 | zero=>
  intro i j g;obtain rfl:i=X l:=by omega
  rw[ky];refine zJ jU (TK) (λid _=>e id) (TV _ _ _) ?_;generalize b:iE s [] _=y;rw[iE]at b;simp only[zM,Tr.val_brF];exact Uv b
 | succ m d=>
  intro i j g;have x:i<X l:=by omega
  have d:=d (i+1);have a:((i:Int)+1)=((i+1:Nat):Int):=by omega
  have c:=zu i W;rw[ij x];refine zJ jU (TK) (λid _=>e id) (TV _ _ _) ?_;generalize b:iE s (l[i]::l.drop (i+1)) (i:Int)=y;rw[iE]at b;simp only[zO x,zx x,dm l _ x,c,Tr.val_brT,Tr.val_chkT];clear c
  try simp only[zx x]at b
  simp only[a]at b;exact Pp b d
theorem XQ(x:∀id,C.ρ0 id=Q2)(s:TS)(l:List
 ae):
  Reach (qz) C 61 (ap Tryz.f61 2) (Gn l s 0) (λr h=>bb h [zk] r=M (iE s l 0,())):=
 Reach.len 0 zl l rfl λa=>zdJ x s l a _ 0 rfl (aK _)
def mE(x:J zl.sl)(h:TS):zy:=(iE h x 0)
def zpq:ah:=aX [zl.sl,Q6] [zk] λx=>(mE x.1 x.2.1,())
theorem zj3:FK 61 zpq:=by
 refine aw (TK) λx C h=>?_
 refine zJ jU (TK) (λid _=>h id) (zs1 x.1 x.2.1) ?_;generalize a:mE x.1 x.2.1=y;unfold mE at a;exact Pp a (XQ h)
def uE:=qz.addL [(259,zqU),(54,zpH),(119,zhi),(61,zpq)]
theorem lL:zw uE:=jU.addL<|fc zlE<|fc zkl<|fc SE<|fc zj3 jb
theorem LL(x:fx)(c:Int)(v:zp):Db x c v=O:=by
 unfold Db;by_cases h:(c:Int)>=0
 .by_cases a:c<(X x:Int)
  .have b:zL c (X x)=O:=by simp[zL];exact⟨h,a⟩
   simp[zB h,zB a,b]
  .simp[zB h,aC a]
 .simp[aC h]
def zhj:ah:=aX [Sh.sl K,zk,K] [Q7] λx=>(bK x.1 x.2.1 x.q.1,())
theorem zdf:FK 119 zhj:=pl SE λx=>LL x.1 x.2.1 x.q.1
abbrev zjc:Nat->aY:=λj=>if j=3 then{slots:=[0,3,4],prom:=[(3,Q2,.str)]}else{ }
abbrev Gp(h:LS)(i:Int)(l:LS):St:={tmps:=(tm 24 [(0,T Q6 h),(3,AV.vec 0),(4,L i)]),heap:=[AO.vec Q6 l]}
theorem TL:zZ (uE).P 55 Tryz.f55 1:=cI kw
theorem zs4(x:J Sh.str.sl):rn uE 0 zjc Tryz.f55 [zX Sh.str.sl x] []=Tr.ok (zT.head 3 (ap Tryz.f55 3) (Gp x 0 [])):=kw
theorem TW(h:LS)(i:Int)(l:LS):rh uE 0 zjc Tryz.f55 3 (Gp h i l)=br (cond (N (i<(X h:Int))) (N (i<10)) S) (R (zL i (X h)) (R (gm (h.getD i.toNat (Q Q6))) (R (N (X l+[dP (h.getD i.toNat (Q Q6))].length<=1073741824)) (Tr.ok (zT.head 3 (ap Tryz.f55 3) (Gp h (Γ Δ (i+1)) (l++[dP (h.getD i.toNat (Q Q6))]))))))) (Tr.ok (zT.ret (AV.vec 0) [AO.vec Q6 l])):=kw
def fm:List (J Q6)->Int->List (J Q6)->J Sh.str.sl
 |[],_,l=>(l)
 |x::r,i,l=>(ite (N (i<10)=O) (fm r (i+1) (l++[dP x])) l)
def gH:List (J Q6)->Int->List (J Q6)->Bool
 |[],_,_=>(O)
 |x::r,i,l=>(if N (i<10)=O then
 if gm x=O then if N (X l+[dP x].length<=1073741824)=O then gH r (i+1) (l++[dP x])else S else S
else O)
theorem zdK(j:∀id,C.ρ0 id=Q2)(b:LS)(o:X b<=aE):∀(m i:Nat)(l:LS),X b-i=m->i<=X b->gH (b.drop i) i l=O->
  Reach (uE) C 55 (ap Tryz.f55 3) (Gp b (i:Int) l) (λr h=>bb h [Sh.str.sl] r=M (fm (b.drop i) i l,())):=by
 intro m
 induction m with
 | zero=>
  intro i l n k c;obtain rfl:i=X b:=by omega
  rw[ky]at c|-;refine zJ lL (TL) (λid _=>j id) (TW _ _ _) ?_;rw[gH]at c;generalize d:fm [] _ l=y;rw[fm]at d;simp only[zM,aL,Tr.val_brF];exact MC d c
 | succ m g=>
  intro i l n k c;have x:i<X b:=by omega
  have g:=g (i+1);have a:((i:Int)+1)=((i+1:Nat):Int):=by omega
  have e:=zu i W;rw[ij x]at c|-;refine zJ lL (TL) (λid _=>j id) (TW _ _ _) ?_;rw[gH]at c;generalize d:fm (b[i]::b.drop (i+1)) (i:Int) l=y;rw[fm]at d;simp only[zO x,zx x,dm b _ x,e,aN];clear e
  try simp only[zx x]at d
  simp only[a]at d
  try simp only[zx x]at c
  try simp only[a]at c
  exact zfR d c g
theorem XR(a:∀id,C.ρ0 id=Q2)(x l:LS)(b:gH x 0 l=O):
  Reach (uE) C 55 (ap Tryz.f55 3) (Gp x 0 l) (λr h=>bb h [Sh.str.sl] r=M (fm x 0 l,())):=
 Reach.len 0 (Q6) x rfl λc=>zdK a x c _ 0 l rfl (aK _) b
def lz(x:J Sh.str.sl):J Sh.str.sl:=(fm x 0 [])
def rK(x:J Sh.str.sl):Bool:=(gH x 0 [])
def zpJ:ah:=ac [Sh.str.sl] [Sh.str.sl] (λx=>rK x.1) λx=>(lz x.1,())
theorem zkn:FK 55 zpJ:=by
 refine aZ (TL) λx a C h=>?_
 unfold rK at a;refine zJ lL (TL) (λid _=>h id) (zs4 x.1) ?_;generalize b:lz x.1=y;unfold lz at b;exact zfR b a (XR h)
abbrev Df(s:zK)(l:zS)(i:Int):St:={tmps:=[.sl zl l,.clo (.func 259) [] [.ptr 0 0],.any,.any,.any,.any,.any,L (X l),L i,.any,.any,.any,.any,.any,.any,.any,.any,.any,.any],heap:=[.box [.str s]]}
theorem Zm(s:zK)(l:zS):run uE 1 Ch Tryz.f258.results.toList 300 (bu Tryz.f258) (bl Tryz.f258.ntmps [.sl zl l,.clo (.func 259) [] [.ptr 0 0]] [.box [.str s]])=.ok (.head 2 (ap Tryz.f258 2) (Df s l 0)):=kw
theorem zaH(s:zK)(l:zS)(i:Int):run uE 1 Ch Tryz.f258.results.toList 300 (ap Tryz.f258 2) (Df s l i)=pM (K:=ap Tryz.f258 2) (e:=zl) l (λx=>x.1.1==s) (Df s l) [.box [.str s]] i:=kw
theorem zaA:zZ uE.P 258 Tryz.f258 2:=cI kw
def zsd:fz [M (.sl zl),Q2]:=λx h=>match x,h with
 |(l,.clo (.func 259) [] [.ptr 0 0],_),[.box [.str s]]=>.ok (L (aj (λx=>x.1.1==s) l 0),[.box [.str s]])
 |_,_=>.err
def zqT:ah:=bj [M (.sl zl),Q2] zsd
theorem zlC:FK 258 zqT:=by
 refine dw zaA λx d c h C a=>?_
 unfold zsd at h;split at h
 .rename_i l u s;simp only[Tr.val_ok,bG]at h;subst h;refine Reach.len 0 zl l rfl λb=>?_
  refine zJ (n0:=1) lL zaA a (Zm s l) ?_;exact lT l (λx=>x.1.1==s) (Df s l) lL zaA a (zaH s l) b _ 0 rfl (aK _)
 .simp at h
def Ny:=uE.addL [(119,zhj),(55,zpJ),(258,zqT)]
theorem Ac:zw Ny:=lL.addL<|fc zdf<|fc zkn<|fc zlC jb
def zhh:ah:=bj (List.replicate 3 Q2) (fg Ny Tryz.f303 (List.replicate 3 Q2))
theorem zde:FK 303 zhh:=cj _ Ac (cI kw)
abbrev zuq:Nat->aY:=λ_=>{ }
theorem zjr:zZ (Ny).P 205 Tryz.f205 2:=cI kw
theorem zs7(h:J zl.sl)(a:TS):rn Ny 0 zuq Tryz.f205 [zX zl.sl h,zX Q6 a] []=Tr.ok (zT.ret (L (aj (λx=>x.1.1==a) h 0)) []):=kw
def al(h:J zl.sl)(a:TS):zy:=(aj (λx=>x.1.1==a) h 0)
def zqh:ah:=aX [zl.sl,Q6] [zk] λx=>(al x.1 x.2.1,())
theorem zkX:FK 205 zqh:=by
 refine aw (zjr) λx C a=>?_
 refine zJ Ac (zjr) (λid _=>a id) (zs7 x.1 x.2.1) ?_;generalize h:al x.1 x.2.1=y;unfold al at h;exact Uv h
def Nz:=Ny.addL [(303,zhh),(205,zqh)]
theorem Ad:zw Nz:=Ac.addL<|fc zde<|fc zkX jb
abbrev tU(c a b:Int)(s:zK)(l:List fx)(i:Int):St:={tmps:=[.sl (Sh.sl K) l,.clo (.func 303) [] [.ptr 0 0,.ptr 1 0],.any,.any,.any,.any,.any,L (X l),L i,.any,.any,.any,.any,.any,.any,.any,.any,.any,.any],heap:=[.box [L c],.box [L a,L b,.str s]]}
theorem Ra(c a b:Int)(s:zK)(l:List fx):run Nz 2 Ch Tryz.f117.results.toList 300 (bu Tryz.f117) (bl Tryz.f117.ntmps [.sl (Sh.sl K) l,.clo (.func 303) [] [.ptr 0 0,.ptr 1 0]] [.box [L c],.box [L a,L b,.str s]])=.ok (.head 2 (ap Tryz.f117 2) (tU c a b s l 0)):=kw
theorem Ry(c a b:Int)(s:zK)(l:List fx)(i:Int):run Nz 2 Ch Tryz.f117.results.toList 300 (ap Tryz.f117 2) (tU c a b s l i)=pM (K:=ap Tryz.f117 2) (e:=(Sh.sl ze)) l (λx=>bK x c (a,b,s)) (tU c a b s l) [.box [L c],.box [L a,L b,.str s]] i:=kw
theorem Rw:zZ Nz.P 117 Tryz.f117 2:=cI kw
def zhI:fz [M (.sl (Sh.sl K)),Q2]:=λx h=>match x,h with
 |(l,.clo (.func 303) [] [.ptr 0 0,.ptr 1 0],_),[.box [L c],.box [L a,L b,.str s]]=>.ok (L (aj (λx=>bK x c (a,b,s)) l 0),[.box [L c],.box [L a,L b,.str s]])
 |_,_=>.err
def zhr:ah:=bj [M (.sl (Sh.sl K)),Q2] zhI
theorem zdm:FK 117 zhr:=by
 refine dw Rw λx i g h C d=>?_
 unfold zhI at h;split at h
 .rename_i l u c a b s;simp only[Tr.val_ok,bG]at h;subst h;refine Reach.len 0 (Sh.sl K) l rfl λe=>?_
  refine zJ (n0:=2) Ad Rw d (Ra c a b s l) ?_;exact lT l (λx=>bK x c (a,b,s)) (tU c a b s l) Ad Rw d (Ry c a b s l) e _ 0 rfl (aK _)
 .simp at h
def YQ:=Nz.add 117 zhr
theorem Ik:zw YQ:=Ad.add zdm
def zhg:ah:=bj (List.replicate 2 Q2) (fg YQ Tryz.f302 (List.replicate 2 Q2))
theorem zdd:FK 302 zhg:=cj _ Ik (cI kw)
def Tc:=YQ.add 302 zhg
theorem Ae:zw Tc:=Ik.add zdd
abbrev znq:Nat->aY:=λ_=>{ }
theorem zaq:zZ (Tc).P 257 Tryz.f257 3:=cI kw
theorem zmx(h:ae)(a:zy)(b:zp):rn Tc 0 znq Tryz.f257 [zX zl h,zX zk a,zX K b] []=Tr.ok (zT.ret (AV.bool (N (aj (λx=>bK x a b) h.2 0>=0))) []):=kw
def ir(h:ae)(a:zy)(b:zp):J Q7:=(N (aj (λx=>bK x a b) h.2 0>=0))
def zgN:ah:=aX [zl,zk,K] [Q7] λx=>(ir x.1 x.2.1 x.q.1,())
theorem zcK:FK 257 zgN:=by
 refine aw (zaq) λx C a=>?_
 refine zJ Ae (zaq) (λid _=>a id) (zmx x.1 x.2.1 x.q.1) ?_;generalize h:ir x.1 x.2.1 x.q.1=y;unfold ir at h;exact Uv h
abbrev znp:=kG [(3,[1,5,11,12,13])]
inductive HG where
 |h3 (i1:zy) (l11:List (J ze.sl)) (i12:Int) (i13:Int) (mh_0:List ((Int×Int×zK)×Int))
abbrev zsD:HG->Nat×St
 |.h3 x l i h m=>(3,⟨tm 37 [(1,L x),(5,AV.mp 0),(11,T ze.sl l),(12,L i),(13,L h)],[AO.vmap S m]⟩)
def ziR(x:ae)(h:zy):Tr (HG⊕az):=Q9 (HG.h3 h x.2 (X x.2:Int) 0 [])
def B4:HG->Tr (HG⊕az)
 | .h3 x l h i m=>
  let b:=l.getD i.toNat (Q ze.sl)
  let a:=Y b (Z x) (Q K)
  let c:=(↑(mN m a):Int)
  let d:=kQ m a
  let e:=ll d c.toNat (Γ Δ (iw m a+1))
  let g:=iw e a
  br (N (i<h))
  (R (zL i (X l))
   (R (zL x (X b)) (R (N (X m<=1073741824)) (R (zL c (X d)) (br (cond (a.1!=0) (N (g>1)) S) (re (kb O) []) (Q9 (HG.h3 x l h (Γ Δ (i+1)) e)))))))
  (re (kb S) [])
def Dc(x:ae)(h:zy):=ar [Q7] B4 100000000 (ziR x h)
def tQ(x:ae)(h:zy):=(Dc x h).isSome
def AZ(x:ae)(h:zy):=o1 (Dc x h)
def zgM:=FT [zl,zk] [Q7] λx=>Dc x.1 x.2.1
theorem zcJ:FK 49 zgM:=Ae.T1 (f:=Tryz.f49) (keep:=znp) (e:=zsD)
def zh4:=Tc.addL [(257,zgN),(49,zgM)]
theorem Af:zw zh4:=Ae.addL<|fc zcK<|fc zcJ jb
abbrev zuE:=kG [(6,[1,18,19,20]),(15,[1,39,40,41]),(21,[1,8])]
inductive Ha where
 |h6 (l18:List (J ze.sl)) (i19:Int) (i20:Int) (z0:zq [CP.d zl])
 |h15 (l39:LI) (i40:Int) (i41:Int) (z0:zq [CP.d zl])
 |h21 (i8:Int) (z0:zq [CP.d zl])
abbrev zxp:Ha->Nat×St
 |.h6 l i h z=>(6,⟨tm 79 [(1,Qf 0 0),(18,T ze.sl l),(19,L i),(20,L h)],[Qa (bF [] [CP.d zl] z)]⟩)
 |.h15 b x a z=>(15,⟨tm 79 [(1,Qf 0 0),(39,T zk b),(40,L x),(41,L a)],[Qa (bF [] [CP.d zl] z)]⟩)
 |.h21 c z=>(21,⟨tm 79 [(1,Qf 0 0),(8,L c)],[Qa (bF [] [CP.d zl] z)]⟩)
def We(x:ae):Tr (Ha⊕az):=br (!dt (x.1.1,x.1.2.1,x.1.q.1,x.1.r.1,x.1.t.1,zt x.1.u)) (re (L 1) []) (br (N ((X x.2:Int)>200)) (re (L 13) []) (Q9 (Ha.h6 x.2 (X x.2:Int) 0 (x,()))))
def jl:Ha->Tr (Ha⊕az)
 | .h6 l d i z=>
  let x:=(z.1.1.1,z.1.1.2.1,z.1.1.q.1,z.1.1.r.1,z.1.1.t.1,zt z.1.1.u)
  let a:=cR x (l.getD i.toNat (Q ze.sl))
  let c:=(x,z.1.2)
  br (N (i<d))
  (R (zL i (X l)) (br (a !=0) (re (L a) []) (Q9 (Ha.h6 l d (Γ Δ (i+1)) z))))
  (R (tQ c z.1.1.q.1)
   (br (AZ c z.1.1.q.1) (re (L 7) []) (Q9 (Ha.h15 z.1.1.r.1 (X z.1.1.r.1:Int) 0 z))))
 | .h15 b e h z=>
  let x:=((z.1.1.1,z.1.1.2.1,z.1.1.q.1,z.1.1.r.1,z.1.1.t.1,zt z.1.1.u),z.1.2)
  let a:=b.getD h.toNat (Q zk)
  br (N (h<e))
  (R (zL h (X b))
   (R (tQ x a) (br (AZ x a) (re (L 7) []) (Q9 (Ha.h15 b e (Γ Δ (h+1)) z)))))
  (Q9 (Ha.h21 1 z))
 | .h21 g z=>
  let x:=(X z.1.2:Int)
  let a:=Γ Δ (g-1)
  let c:=Y z.1.2 a.toNat (Q ze.sl)
  let j:=Y z.1.2 g.toNat (Q ze.sl)
  let k:=aG (Y c (Z z.1.1.q.1) (Q K)) (Y j (Z z.1.1.q.1) (Q K))
  br (N (g<x))
  (R (zL a (X z.1.2))
   (R (zL z.1.1.q.1 (X c)) (R (zL g (X z.1.2)) (R (zL z.1.1.q.1 (X j)) (br (N (k>=0)) (re (L 15) []) (Q9 (Ha.h21 (Γ Δ (g+1)) z)))))))
  (re (L 0) [])
def qj(x:ae):=ar [zk] jl 100000000 (We x)
def tP(x:ae):=(qj x).isSome
def AX(x:ae):=o1 (qj x)
def zqB:=FT [zl] [zk] λx=>qj x.1
theorem zlk:FK 23 zqB:=Af.T1 (f:=Tryz.f23) (keep:=zuE) (e:=zxp)
abbrev zuG:=kG [(2,[0,11,12,13]),(5,[0,4,11,12,13,19,20,21]),(11,[0,4,6,7,11,12,13,19,20,21,32,33,34])]
inductive Hb where
 |h2 (l0:zS) (l11:zS) (i12:Int) (i13:Int)
 |h5 (l0:zS) (l11:zS) (i12:Int) (i13:Int) (l19:LF) (i20:Int) (i21:Int) (z0:zq [CP.d zl])
 |h11 (l0:zS) (i7:zy) (l11:zS) (i12:Int) (i13:Int) (l19:LF) (i20:Int) (i21:Int) (l32:List (J ze.sl)) (i33:Int) (i34:Int) (z0:zq [CP.d zl]) (z1:zq [CP.d zG])
abbrev zxr:Hb->Nat×St
 |.h2 c l i h=>(2,⟨tm 64 [(0,T zl c),(11,T zl l),(12,L i),(13,L h)],[]⟩)
 |.h5 c l i h b x a z=>(5,⟨tm 64 [(0,T zl c),(4,Qf 0 0),(11,T zl l),(12,L i),(13,L h),(19,T zG b),(20,L x),(21,L a)],[Qa (bF [] [CP.d zl] z)]⟩)
 |.h11 c k l i h b x a j e g z m=>(11,⟨tm 64 [(0,T zl c),(4,Qf 0 0),(6,Qf 1 0),(7,L k),(11,T zl l),(12,L i),(13,L h),(19,T zG b),(20,L x),(21,L a),(32,T ze.sl j),(33,L e),(34,L g)],[Qa (bF [] [CP.d zl] z),Qa (bF [] [CP.d zG] m)]⟩)
def ztK(x:J zl.sl):Tr (Hb⊕az):=Q9 (Hb.h2 x x (X x:Int) 0)
def jm:Hb->Tr (Hb⊕az)
 | .h2 c l h i=>
  let d:=l.getD i.toNat (Q zl)
  br (N (i<h))
  (R (zL i (X l)) (Q9 (Hb.h5 c l h i d.1.t.1 (X d.1.t.1:Int) 0 (d,()))))
  (re (kb O) [])
 | .h5 c l h i a b x z=>
  let d:=a.getD x.toNat (Q zG)
  let k:=al c d.2
  br (N (x<b))
  (R (zL x (X a))
   (br (N (k<0)) (re (kb S) []) (Q9 (Hb.h11 c k l h i a b x z.1.2 (X z.1.2:Int) 0 z (d,())))))
  (Q9 (Hb.h2 c l h (Γ Δ (i+1))))
 | .h11 c n l h i a b x j m e z o=>
  let d:=j.getD e.toNat (Q ze.sl)
  let k:=Y d (Z o.1.1) (Q K)
  let p:=k.1!=0
  let g:=c.getD (Z n) (Q zl)
  br (N (e<m))
  (R (zL e (X j))
   (R (zL o.1.1 (X d)) (R (cond p (zL n (X c)&&zL n (X c)) O) (br (cond p (!ir ((g.1.1,g.1.2.1,g.1.q.1,g.1.r.1,g.1.t.1,zt g.1.u),g.2) g.1.q.1 k) S) (re (kb S) []) (Q9 (Hb.h11 c n l h i a b x j m (Γ Δ (e+1)) z o))))))
  (Q9 (Hb.h5 c l h i a b (Γ Δ (x+1)) z))
def Cu(x:J zl.sl):=ar [Q7] jm 100000000 (ztK x)
def J4(x:J zl.sl):=(Cu x).isSome
def P3(x:J zl.sl):=o1 (Cu x)
def zqC:=FT [zl.sl] [Q7] λx=>Cu x.1
theorem zll:FK 203 zqC:=Af.T1 (f:=Tryz.f203) (keep:=zuG) (e:=zxr)
def zh5:=zh4.addL [(23,zqB),(203,zqC)]
theorem Il:zw zh5:=Af.addL<|fc zlk<|fc zll jb
abbrev zua:=kG [(4,[0,3]),(9,[0,30,31,32])]
inductive MK where
 |h4 (l0:zS) (i3:Int)
 |h9 (l0:zS) (l30:zS) (i31:Int) (i32:Int)
abbrev zw3:MK->Nat×St
 |.h4 l a=>(4,⟨tm 45 [(0,T zl l),(3,L a)],[]⟩)
 |.h9 l x i h=>(9,⟨tm 45 [(0,T zl l),(30,T zl x),(31,L i),(32,L h)],[]⟩)
def zeV(x:J zl.sl):Tr (MK⊕az):=br (N ((X x:Int)>12)) (re (L 13) []) (Q9 (MK.h4 x 1))
def qm:MK->Tr (MK⊕az)
 | .h4 l x=>
  let a:=Γ Δ (x-1)
  let c:=l.getD a.toNat (Q zl)
  let d:=l.getD x.toNat (Q zl)
  br (N (x<(X l:Int)))
  (R (zL a (X l))
   (R (zL x (X l)) (br (!Op.bytesLess c.1.1 d.1.1) (re (L 15) []) (Q9 (MK.h4 l (Γ Δ (x+1)))))))
  (Q9 (MK.h9 l l (X l:Int) 0))
 | .h9 l h b i=>
  let a:=h.getD i.toNat (Q zl)
  let c:=((a.1.1,a.1.2.1,a.1.q.1,a.1.r.1,a.1.t.1,zt a.1.u),a.2)
  let d:=AX c
  br (N (i<b))
  (R (zL i (X h))
   (R (tP c) (br (d !=0) (re (L d) []) (Q9 (MK.h9 l h b (Γ Δ (i+1)))))))
  (R (J4 l) (br (!P3 l) (re (L 10) []) (re (L 0) [])))
def wt(x:J zl.sl):=ar [zk] qm 100000000 (zeV x)
def po(x:J zl.sl):=(wt x).isSome
def kV(x:J zl.sl):=o1 (wt x)
def zpY:=FT [zl.sl] [zk] λx=>wt x.1
theorem zkE:FK 145 zpY:=Il.T1 (f:=Tryz.f145) (keep:=zua) (e:=zw3)
def dF:=zh5.add 145 zpY
theorem bL:zw dF:=Il.add zkE
abbrev an:Sh:=.pr .str (.pr .str (.pr .str (.pr ab (.pr (.sl zk) zk))))
abbrev ao:=J an
abbrev bZ:List CP:=[.d (.sl zl),.d aB,.d ab,.d ab,.d .str,.d .str,.d .str,.d .str,.nil,.d zk,.nil,.nil,.d .expr,.nil,.d zk]
abbrev aF:List CP:=[.d (.sl zl),.d aB,.d ab,.d ab,.d .str,.d .str,.d .str,.d .str,.vec zn,.d zk,.nil,.nil,.d .expr,.d (.sl zk),.d zk]
abbrev zjf:Nat->aY:=λj=>if j=2 then{slots:=[0,1,7,8]}else{ }
abbrev Gr(l:LI)(i:zy)(h x:Int):St:={tmps:=(tm 19 [(0,T zk l),(1,L i),(7,L h),(8,L x)]),heap:=[]}
theorem TM:zZ (dF).P 200 Tryz.f200 2:=cI kw
theorem ztc(x:J zk.sl)(h:zy):rn dF 0 zjf Tryz.f200 [zX zk.sl x,zX zk h] []=Tr.ok (zT.head 2 (ap Tryz.f200 2) (Gr x h (X x:Int) 0)):=kw
theorem TZ(l:LI)(h:zy)(x i:Int):rh dF 0 zjf Tryz.f200 2 (Gr l h x i)=br (N (i<x)) (R (zL i (X l)) (br (h==l.getD i.toNat (Q zk)) (Tr.ok (zT.ret (L i) [])) (Tr.ok (zT.head 2 (ap Tryz.f200 2) (Gr l h x (Γ Δ (i+1))))))) (Tr.ok (zT.ret (L (-1)) [])):=kw
def fD(h:zy):ed->Int->zy
 |[],_=>(-1)
 |x::r,i=>(ite ((h==x)=O) i (fD h r (i+1)))
theorem zdM(g:∀id,C.ρ0 id=Q2)(d:zy)(l:LI)(n:X l<=aE):∀(m i:Nat),X l-i=m->i<=X l->
  Reach (dF) C 200 (ap Tryz.f200 2) (Gr l d (X l:Int) (i:Int)) (λr h=>bb h [zk] r=M (fD d (l.drop i) i,())):=by
 intro m
 induction m with
 | zero=>
  intro i k j;obtain rfl:i=X l:=by omega
  rw[ky];refine zJ bL (TM) (λid _=>g id) (TZ _ _ _ _) ?_;generalize b:fD d [] _=y;rw[fD]at b;simp only[zM,Tr.val_brF];exact Uv b
 | succ m e=>
  intro i k j;have x:i<X l:=by omega
  have e:=e (i+1);have a:((i:Int)+1)=((i+1:Nat):Int):=by omega
  have c:=zu i W;rw[ij x];refine zJ bL (TM) (λid _=>g id) (TZ _ _ _ _) ?_;generalize b:fD d (l[i]::l.drop (i+1)) (i:Int)=y;rw[fD]at b;simp only[zO x,zx x,dm l _ x,c,Tr.val_brT,Tr.val_chkT];clear c
  try simp only[zx x]at b
  simp only[a]at b;exact Pp b e
theorem XT(x:∀id,C.ρ0 id=Q2)(i:zy)(l:LI):
  Reach (dF) C 200 (ap Tryz.f200 2) (Gr l i (X l:Int) 0) (λr h=>bb h [zk] r=M (fD i l 0,())):=
 Reach.len 0 (Sh.int IntKind.i64) l rfl λa=>zdM x i l a _ 0 rfl (aK _)
def iC(x:J zk.sl)(h:zy):zy:=(fD h x 0)
def zqv:ah:=aX [zk.sl,zk] [zk] λx=>(iC x.1 x.2.1,())
theorem zlf:FK 200 zqv:=by
 refine aw (TM) λx C h=>?_
 refine zJ bL (TM) (λid _=>h id) (ztc x.1 x.2.1) ?_;generalize a:iC x.1 x.2.1=y;unfold iC at a;exact Pp a (XT h)
abbrev zjg:Nat->aY:=λj=>if j=2 then{slots:=[0,1,7,8]}else{ }
abbrev Gt(l:LS)(s:TS)(i h:Int):St:={tmps:=(tm 19 [(0,T Q6 l),(1,I s),(7,L i),(8,L h)]),heap:=[]}
theorem TN:zZ (dF).P 260 Tryz.f260 2:=cI kw
theorem zte(x:J Sh.str.sl)(h:TS):rn dF 0 zjg Tryz.f260 [zX Sh.str.sl x,zX Q6 h] []=Tr.ok (zT.head 2 (ap Tryz.f260 2) (Gt x h (X x:Int) 0)):=kw
theorem T0(l:LS)(s:TS)(h i:Int):rh dF 0 zjg Tryz.f260 2 (Gt l s h i)=br (N (i<h)) (R (zL i (X l)) (br (s==l.getD i.toNat (Q Q6)) (Tr.ok (zT.ret (L i) [])) (Tr.ok (zT.head 2 (ap Tryz.f260 2) (Gt l s h (Γ Δ (i+1))))))) (Tr.ok (zT.ret (L (-1)) [])):=kw
def jt(s:TS):List (J Q6)->Int->zy
 |[],_=>(-1)
 |x::r,i=>(ite ((s==x)=O) i (jt s r (i+1)))
theorem zdN(e:∀id,C.ρ0 id=Q2)(s:TS)(l:LS)(k:X l<=aE):∀(m i:Nat),X l-i=m->i<=X l->
  Reach (dF) C 260 (ap Tryz.f260 2) (Gt l s (X l:Int) (i:Int)) (λr h=>bb h [zk] r=M (jt s (l.drop i) i,())):=by
 intro m
 induction m with
 | zero=>
  intro i j g;obtain rfl:i=X l:=by omega
  rw[ky];refine zJ bL (TN) (λid _=>e id) (T0 _ _ _ _) ?_;generalize b:jt s [] _=y;rw[jt]at b;simp only[zM,Tr.val_brF];exact Uv b
 | succ m d=>
  intro i j g;have x:i<X l:=by omega
  have d:=d (i+1);have a:((i:Int)+1)=((i+1:Nat):Int):=by omega
  have c:=zu i W;rw[ij x];refine zJ bL (TN) (λid _=>e id) (T0 _ _ _ _) ?_;generalize b:jt s (l[i]::l.drop (i+1)) (i:Int)=y;rw[jt]at b;simp only[zO x,zx x,dm l _ x,c,Tr.val_brT,Tr.val_chkT];clear c
  try simp only[zx x]at b
  simp only[a]at b;exact Pp b d
theorem XV(x:∀id,C.ρ0 id=Q2)(s:TS)(l:LS):
  Reach (dF) C 260 (ap Tryz.f260 2) (Gt l s (X l:Int) 0) (λr h=>bb h [zk] r=M (jt s l 0,())):=
 Reach.len 0 (Q6) l rfl λa=>zdN x s l a _ 0 rfl (aK _)
def Ob(x:J Sh.str.sl)(h:TS):zy:=(jt h x 0)
def zqR:ah:=aX [Sh.str.sl,Q6] [zk] λx=>(Ob x.1 x.2.1,())
theorem zlA:FK 260 zqR:=by
 refine aw (TN) λx C h=>?_
 refine zJ bL (TN) (λid _=>h id) (zte x.1 x.2.1) ?_;generalize a:Ob x.1 x.2.1=y;unfold Ob at a;exact Pp a (XV h)
abbrev ZS:Nat->aY:=λj=>if j=2 then{slots:=[0,3,7,8]}else{ }
abbrev xW(l:LF)(i x:Int)(j:zy)(h:TS):St:={tmps:=(tm 19 [(0,T zG l),(3,Qf 0 0),(7,L i),(8,L x)]),heap:=[Qa [L j,I h]]}
theorem KV:zZ (dF).P 253 Tryz.f253 2:=cI kw
theorem zmw(x:J zG.sl)(h:cw):rn dF 0 ZS Tryz.f253 [zX zG.sl x,zX zG h] []=Tr.ok (zT.head 2 (ap Tryz.f253 2) (xW x (X x:Int) 0 h.1 h.2)):=kw
theorem OB(l:LF)(x i:Int)(j:zy)(h:TS):rh dF 0 ZS Tryz.f253 2 (xW l x i j h)=br (N (i<x)) (R (zL i (X l)) (br (j==(l.getD i.toNat (Q zG)).1&&(h==(l.getD i.toNat (Q zG)).2&&O)) (Tr.ok (zT.ret (L i) [])) (Tr.ok (zT.head 2 (ap Tryz.f253 2) (xW l x (Γ Δ (i+1)) j h))))) (Tr.ok (zT.ret (L (-1)) [])):=kw
def jr(j:zy)(h:TS):dJ->Int->zy
 |[],_=>(-1)
 |x::r,i=>(ite ((j==x.1&&(h==x.2&&O))=O) i (jr j h r (i+1)))
theorem XP(g:∀id,C.ρ0 id=Q2)(j:zy)(a:TS)(l:LF)(o:X l<=aE):∀(m i:Nat),X l-i=m->i<=X l->
  Reach (dF) C 253 (ap Tryz.f253 2) (xW l (X l:Int) (i:Int) j a) (λr h=>bb h [zk] r=M (jr j a (l.drop i) i,())):=by
 intro m
 induction m with
 | zero=>
  intro i n k;obtain rfl:i=X l:=by omega
  rw[ky];refine zJ bL (KV) (λid _=>g id) (OB _ _ _ _ _) ?_;generalize c:jr j a [] _=y;rw[jr]at c;simp only[zM,Tr.val_brF];exact Uv c
 | succ m e=>
  intro i n k;have x:i<X l:=by omega
  have e:=e (i+1);have b:((i:Int)+1)=((i+1:Nat):Int):=by omega
  have d:=zu i W;rw[ij x];refine zJ bL (KV) (λid _=>g id) (OB _ _ _ _ _) ?_;generalize c:jr j a (l[i]::l.drop (i+1)) (i:Int)=y;rw[jr]at c;simp only[zO x,zx x,dm l _ x,d,Tr.val_brT,Tr.val_chkT];clear d
  try simp only[zx x]at c
  simp only[b]at c;exact Pp c e
theorem Vl(a:∀id,C.ρ0 id=Q2)(j:zy)(x:TS)(l:LF):
  Reach (dF) C 253 (ap Tryz.f253 2) (xW l (X l:Int) 0 j x) (λr h=>bb h [zk] r=M (jr j x l 0,())):=
 Reach.len 0 (zk.pr Q6) l rfl λb=>XP a j x l b _ 0 rfl (aK _)
def Oa(h:J zG.sl)(x:cw):zy:=(jr x.1 x.2 h 0)
def zgJ:ah:=aX [zG.sl,zG] [zk] λx=>(Oa x.1 x.2.1,())
theorem zcG:FK 253 zgJ:=by
 refine aw (KV) λx C h=>?_
 refine zJ bL (KV) (λid _=>h id) (zmw x.1 x.2.1) ?_;generalize a:Oa x.1 x.2.1=y;unfold Oa at a;exact Pp a (Vl h)
abbrev ztX:Nat->aY:=λ_=>{ }
theorem zjn:zZ (dF).P 79 Tryz.f79 1:=cI kw
theorem zs2(x:ao):rn dF 0 ztX Tryz.f79 [zX an x] []=br (x.2.2.1==[]) (Tr.ok (zT.ret (T Q6 [x.2.1]) [])) (Tr.ok (zT.ret (T Q6 [x.2.1,x.2.2.1]) [])):=kw
def mw(x:ao):J Sh.str.sl:=(ite ((x.2.2.1==[])=O) [x.2.1] [x.2.1,x.2.2.1])
def zpB:ah:=aX [an] [Sh.str.sl] λx=>(mw x.1,())
theorem zkc:FK 79 zpB:=by
 refine aw (zjn) λx C a=>?_
 refine zJ bL (zjn) (λid _=>a id) (zs2 x.1) ?_;generalize h:mw x.1=y;unfold mw at h;exact Uv h
def zgH:ah:=bj (List.replicate 2 Q2) (fg dF Tryz.f251 (List.replicate 2 Q2))
theorem zcE:FK 251 zgH:=cj _ bL (cI kw)
def BB:=dF.addL [(200,zqv),(260,zqR),(253,zgJ),(79,zpB),(251,zgH)]
theorem sK:zw BB:=bL.addL<|fc zlf<|fc zlA<|fc zcG<|fc zkc<|fc zcE jb
abbrev zno:Nat->aY:=λ_=>{ }
theorem zap:zZ (BB).P 252 Tryz.f252 2:=cI kw
theorem zmv(x:J zk.sl)(h:zy):rn BB 0 zno Tryz.f252 [zX zk.sl x,zX zk h] []=Tr.ok (zT.ret (AV.bool (N (iC x h>=0))) []):=kw
def vI(x:J zk.sl)(h:zy):J Q7:=(N (iC x h>=0))
def zgI:ah:=aX [zk.sl,zk] [Q7] λx=>(vI x.1 x.2.1,())
theorem zcF:FK 252 zgI:=by
 refine aw (zap) λx C a=>?_
 refine zJ sK (zap) (λid _=>a id) (zmv x.1 x.2.1) ?_;generalize h:vI x.1 x.2.1=y;unfold vI at h;exact Uv h
abbrev zuo:Nat->aY:=λ_=>{ }
theorem zjq:zZ (BB).P 207 Tryz.f207 2:=cI kw
theorem zs6(x:J Sh.str.sl)(h:TS):rn BB 0 zuo Tryz.f207 [zX Sh.str.sl x,zX Q6 h] []=Tr.ok (zT.ret (AV.bool (N (Ob x h>=0))) []):=kw
def aQ(x:J Sh.str.sl)(h:TS):J Q7:=(N (Ob x h>=0))
def zqf:ah:=aX [Sh.str.sl,Q6] [Q7] λx=>(aQ x.1 x.2.1,())
theorem zkV:FK 207 zqf:=by
 refine aw (zjq) λx C a=>?_
 refine zJ sK (zjq) (λid _=>a id) (zs6 x.1 x.2.1) ?_;generalize h:aQ x.1 x.2.1=y;unfold aQ at h;exact Uv h
abbrev zuz:Nat->aY:=λ_=>{ }
theorem zjs:zZ (BB).P 201 Tryz.f201 2:=cI kw
theorem ztd(x:J zG.sl)(h:cw):rn BB 0 zuz Tryz.f201 [zX zG.sl x,zX zG h] []=Tr.ok (zT.ret (AV.bool (N (Oa x h>=0))) []):=kw
def jX(x:J zG.sl)(h:cw):J Q7:=(N (Oa x h>=0))
def zqy:ah:=aX [zG.sl,zG] [Q7] λx=>(jX x.1 x.2.1,())
theorem zli:FK 201 zqy:=by
 refine aw (zjs) λx C a=>?_
 refine zJ sK (zjs) (λid _=>a id) (ztd x.1 x.2.1) ?_;generalize h:jX x.1 x.2.1=y;unfold jX at h;exact Uv h
def zh6:=BB.addL [(252,zgI),(207,zqf),(201,zqy)]
theorem Im:zw zh6:=sK.addL<|fc zcF<|fc zkV<|fc zli jb
abbrev zuf:Nat->aY:=λj=>if j=2 then{slots:=[0,12,13,14]}else{ }
inductive ML where
 |h2 (i13:Int) (i14:Int) (z0:zq aF)
abbrev zw7:ML->Nat×St
 |.h2 i h z=>(2,⟨tm 65 [(0,Qf 0 0),(12,AV.vec 1),(13,L i),(14,L h)],[Qa (bF [1] aF z),AO.vec zn z.x.1]⟩)
def zmZ(y:zq aF):Tr (ML⊕az):=Q9 (ML.h2 (X y.x.1:Int) 0 y)
def Mj(a i:Int)(h:zq aF)(c:zg)(d:cF)(b:zy×zy):Tr (ML⊕az):=br (N (i<a)) (R (zL i (X h.x.1)) (R (N (i.toNat<X h.x.1)) (br (zY (h.w.1,h.x.1,h.y.1,[],[],c) d.1!=i) (re (L 7) (bc aF h)) (Q9 (ML.h2 a (Γ Δ (i+1)) h))))) (br (zg.op h.z.1==[]) (re (L 0) (bc aF h)) (br (cond (b.2==0) (cond (b.1!=3) (b.1!=0) S) S) (re (L 5) (bc aF h)) (re (L b.2) (bc aF h))))
def Sm(a i:Int)(h:zq aF):Tr (ML⊕az):=
 let b:=zt h.z.1
 let c:=h.x.1.getD i.toNat (Q zn)
 let d:=cu b h.x.1
 Mj a i h b c d
def Sl:ML->Tr (ML⊕az)
 |.h2 i h z=>Sm i h z
def xe(y:zq aF):Option (zF (Qi M [zk])×zq aF):=kI [zk] aF Sl 100000000 (zmZ y)
def iD(y:zq aF):Bool:=(xe y).isSome
def gn(y:zq aF):zy×zq aF:=(λr:zF (Qi M [zk])×zq aF=>(r.1.1,r.2)) ((xe y).getD (cH [zk],gg aF))
def zp4:ah:=ro aF [] [zk] aF (λy _=>iD y) λy _=>(((gn y).1,()),(gn y).2)
theorem zkK:FK 148 zp4:=Im.B1 (f:=Tryz.f148) (keep:=zuf) (n:=100000000) (e:=zw7) (t:=Sl) (i:=λy x=>zmZ y)
def YR:=zh6.add 148 zp4
theorem In:zw YR:=Im.add zkK
def zqD:ah:=bj (List.replicate 2 Q2) (fg YR Tryz.f206 (List.replicate 2 Q2))
theorem zlm:FK 206 zqD:=cj _ In (cI kw)
def NA:=YR.add 206 zqD
theorem Ag:zw NA:=In.add zlm
abbrev Dg(s:List zK)(l:LF)(i:Int):St:={tmps:=[.sl zG l,.clo (.func 206) [] [.ptr 0 0],.any,.any,.any,.any,.any,L (X l),L i,.any,.any,.any,.any,.any,.any,.any,.any,.any,.any],heap:=[.box [.sl .str s]]}
theorem Zn(s:List zK)(l:LF):run NA 1 Ch Tryz.f261.results.toList 300 (bu Tryz.f261) (bl Tryz.f261.ntmps [.sl zG l,.clo (.func 206) [] [.ptr 0 0]] [.box [.sl .str s]])=.ok (.head 2 (ap Tryz.f261 2) (Dg s l 0)):=kw
theorem zaJ(s:List zK)(l:LF)(i:Int):run NA 1 Ch Tryz.f261.results.toList 300 (ap Tryz.f261 2) (Dg s l i)=pM (K:=ap Tryz.f261 2) (e:=zG) l (λx=>aQ s x.2) (Dg s l) [.box [.sl .str s]] i:=kw
theorem zaB:zZ NA.P 261 Tryz.f261 2:=cI kw
def zsi:fz [M (.sl zG),Q2]:=λx h=>match x,h with
 |(l,.clo (.func 206) [] [.ptr 0 0],_),[.box [.sl .str s]]=>.ok (L (aj (λx=>aQ s x.2) l 0),[.box [.sl .str s]])
 |_,_=>.err
def zq0:ah:=bj [M (.sl zG),Q2] zsi
theorem zlK:FK 261 zq0:=by
 refine dw zaB λx d c h C a=>?_
 unfold zsi at h;split at h
 .rename_i l u s;simp only[Tr.val_ok,bG]at h;subst h;refine Reach.len 0 zG l rfl λb=>?_
  refine zJ (n0:=1) Ag zaB a (Zn s l) ?_;exact lT l (λx=>aQ s x.2) (Dg s l) Ag zaB a (zaJ s l) b _ 0 rfl (aK _)
 .simp at h
def YS:=NA.add 261 zq0
theorem Ip:zw YS:=Ag.add zlK
def zqE:ah:=bj (List.replicate 2 Q2) (fg YS Tryz.f208 (List.replicate 2 Q2))
theorem zln:FK 208 zqE:=cj _ Ip (cI kw)
def zh7:=YS.add 208 zqE
theorem Ah:zw zh7:=Ip.add zln
abbrev cpR:List CP:=[.d zl]
abbrev zmo:List CP:=[.d .str,.nil,.d zk,.nil,.nil,.d .str,.d zk,.d zk,.d .str,.d .str,.nil,.nil]
abbrev zsw:List CP:=[.d ab,.vec (.sl K)]
abbrev qS:List CP:=[.d aB]
abbrev jO:List CP:=[.d .str,.d .str,.d .str,.nil,.nil,.d .str,.nil,.nil,.d .str,.d zk,.d zk,.d .str,.d .str,.nil,.nil,.nil,.d .str,.d zk,.d zk,.d .str,.d .str,.nil,.d .str]
abbrev Yh:List CP:=[.d .str,.d .str,.d .str,.d (.sl .str),.d (.sl zn),.d .str,.d (.sl .str),.vec jL,.d .expr,.d (.sl K),.nil,.d .expr,.d .str]
abbrev Yi:List CP:=[.d .str,.d .str,.d .str,.d (.sl .str),.d (.sl zn),.d .str,.d (.sl .str),.vec jL,.d .expr,.d (.sl K),.vec je,.d .expr,.d .str]
abbrev ztZ:Nat->aY:=λj=>if j=6 then{slots:=[1,2,3,4,5],prom:=[(3,M 11,.sl K)]}else{ }
inductive PR where
 |h6 (i4:Int) (i5:Int) (z0:zq cpR) (z1:zq zmo) (z2:zq zsw)
abbrev zwW:PR->Nat×St
 |.h6 i h x a z=>(6,⟨tm 38 [(1,Qf 0 0),(2,Qf 1 0),(3,Qf 2 0),(4,L i),(5,L h)],[Qa (bF [] cpR x),Qa (bF [] zmo a),Qa (bF [3] zsw z),AO.vec ze.sl z.2.1]⟩)
def zmS(x:ae):Tr (PR⊕az):=
 let a:=(GQ (x.1.1,x.1.2.1,x.1.q.1,x.1.r.1,x.1.t.1,zt x.1.u),[],())
 br (N ((X x.2:Int)>200)) (Q9 (PR.h6 201 0 (x,()) ([],0,[],0,0,[],[],()) a))
 (Q9 (PR.h6 40 0 (x,()) ([],0,[],0,0,[],[],()) a))
def zbV:PR->Tr (PR⊕az)
 | .h6 x i h c z=>
  let b:=(X h.1.2:Int)
  let a:=[oK (Y h.1.2 i.toNat (Q ze.sl))]
  br (cond (N (i<b)) (N (i<x)) S)
  (R (zL i (X h.1.2))
   (R (N (X z.2.1+X a<=1073741824)) (Q9 (PR.h6 x (Γ Δ (i+1)) h c (z.1,z.2.1++a,())))))
  (re
   (agg ([I z.1.1,T zn z.1.2.1,L z.1.q.1,T zk z.1.r.1,T zG z.1.t.1]++xE z.1.u++[AV.vec 0]))
   [AO.vec ze.sl z.2.1])
def E5(x:ae):=ar [zl] zbV 100000000 (zmS x)
def Ro(x:ae):=(E5 x).isSome
def E4(x:ae):=o1 (E5 x)
def zpG:=FT [zl] [zl] λx=>E5 x.1
theorem zkj:FK 53 zpG:=Ah.T1 (f:=Tryz.f53) (keep:=ztZ) (e:=zwW)
abbrev zyV:Nat->aY:=λj=>if j=3 then{slots:=[1,2,3,4],prom:=[(3,M 7,jL)]}else if j=7 then{slots:=[1,2,3,5],prom:=[(3,M 15,je)]}else{ }
inductive H8p where
 |h3 (i4:Int) (z0:zq qS) (z1:zq jO) (z2:zq Yh)
 |h7 (i5:Int) (z0:zq qS) (z1:zq jO) (z2:zq Yi)
abbrev e8p:H8p->Nat×St
 |.h3 i x a h=>(3,⟨tm 103 [(1,Qf 0 0),(2,Qf 1 0),(3,Qf 2 0),(4,L i)],[Qa (bF [] qS x),Qa (bF [] jO a),Qa (bF [3] Yh h),AO.vec (Sh.str.pr Q6) h.w.1]⟩)
 |.h7 b x a h=>(7,⟨tm 103 [(1,Qf 0 0),(2,Qf 1 0),(3,Qf 2 0),(5,L b)],[Qa (bF [] qS x),Qa (bF [] jO a),Qa (bF [3,4] Yi h),AO.vec (Sh.str.pr Q6) h.w.1,AO.vec (Sh.str.pr Q5) h.z.1]⟩)
def i8p(h:zP):Tr (H8p⊕az):=
 R (gm h.1)
 (R (gm h.2.1)
  (R (gm h.q.1) (R (gm h.u.1) (R (gm h.p) (R (rK h.r.1) (R (rK h.v.1) (Q9 (H8p.h3 0 (h,()) ([],[],[],[],[],0,0,[],[],[],0,0,[],[],[],()) (dP h.1,dP h.2.1,dP h.q.1,lz h.r.1,kH h.t.1,
  dP h.u.1,lz h.v.1,[],iP (zt h.x.1),oK h.y.1,iP (zt h.s.1),dP h.p,())))))))))
def t8p:H8p->Tr (H8p⊕az)
 | .h3 i a g h=>
  let j:=(X a.1.w.1:Int)
  let c:=zL i (X a.1.w.1)
  let b:=Y a.1.w.1 i.toNat (Q jL)
  let d:=[(dP b.1,dP b.2)]
  br (cond (N (i<j)) (N (i<10)) S)
  (R c
   (R (gm b.1) (R c (R (gm b.2) (R (N (X h.w.1+X d<=1073741824)) (Q9 (H8p.h3 (Γ Δ (i+1)) a g (h.1,h.2.1,h.q.1,h.r.1,h.t.1,h.u.1,h.v.1,h.w.1++d,h.x))))))))
  (Q9
   (H8p.h7 0 a g (h.1,h.2.1,h.q.1,h.r.1,h.t.1,h.u.1,h.v.1,h.w.1,h.x.1,h.y.1,[],h.z)))
 | .h7 e a g h=>
  let j:=(X a.1.z.1:Int)
  let c:=zL e (X a.1.z.1)
  let b:=Y a.1.z.1 e.toNat (Q je)
  let d:=[(dP b.1,zt (iP (zt b.2)))]
  br (cond (N (e<j)) (N (e<10)) S)
  (R c
   (R (gm b.1) (R c (R (N (X h.z.1+X d<=1073741824)) (Q9 (H8p.h7 (Γ Δ (e+1)) a g (h.1,h.2.1,h.q.1,h.r.1,h.t.1,h.u.1,h.v.1,h.w.1,h.x.1,h.y.1,h.z.1++d,h.s)))))))
  (re
   (aS h.1 h.2.1 h.q.1 (T Q6 h.r.1) (T zn h.t.1) h.u.1 (T Q6 h.v.1) (AV.vec 0) (xE h.x.1) (T K h.y.1) (AV.vec 1) (xE h.s.1) h.p.1)
   [AO.vec (Sh.str.pr Q6) h.w.1,AO.vec (Sh.str.pr Q5) h.z.1])
def Az(x:zP):=ar [aB] t8p 100000000 (i8p x)
def KH(x:zP):=(Az x).isSome
def Tz(x:zP):=o1 (Az x)
def F8p:=FT [aB] [aB] λx=>Az x.1
theorem zr1:FK 26 F8p:=Ah.T1 (f:=Tryz.f26) (keep:=zyV) (e:=e8p)
def zid:=zh7.addL [(53,zpG),(26,F8p)]
theorem It:zw zid:=Ah.addL<|fc zkj<|fc zr1 jb
abbrev zyP:Nat->aY:=λj=>if j=3 then{slots:=[0,3,4],prom:=[(3,Q2,zl)]}else{ }
inductive H7p where
 |h3 (l0:zS) (i4:Int) (lh_0:zS)
abbrev e7p:H7p->Nat×St
 |.h3 h i l=>(3,⟨tm 24 [(0,T zl h),(3,AV.vec 0),(4,L i)],[AO.vec zl l]⟩)
def i7p(x:J zl.sl):Tr (H7p⊕az):=
 Q9 (H7p.h3 x 0 [])
def t7p:H7p->Tr (H7p⊕az)
 | .h3 x i l=>
  let a:=x.getD i.toNat (Q zl)
  let b:=((a.1.1,a.1.2.1,a.1.q.1,a.1.r.1,a.1.t.1,zt a.1.u),a.2)
  let h:=E4 b
  let c:=[((h.1.1,h.1.2.1,h.1.q.1,h.1.r.1,h.1.t.1,zt h.1.u),h.2)]
  br (cond (N (i<(X x:Int))) (N (i<13)) S)
  (R (zL i (X x))
   (R (Ro b) (R (N (X l+X c<=1073741824)) (Q9 (H7p.h3 x (Γ Δ (i+1)) (l++c))))))
  (re (AV.vec 0)
   [AO.vec zl l])
def E7(x:J zl.sl):=ar [zl.sl] t7p 100000000 (i7p x)
def KI(x:J zl.sl):=(E7 x).isSome
def E6(x:J zl.sl):=o1 (E7 x)
def F7p:=FT [zl.sl] [zl.sl] λx=>E7 x.1
theorem zrR:FK 25 F7p:=It.T1 (f:=Tryz.f25) (keep:=zyP) (e:=e7p)
def zie:=zid.add 25 F7p
theorem Iu:zw zie:=It.add zrR
abbrev zuc:Nat->aY:=λj=>if j=3 then{slots:=[0,3,14,15,16]}else if j=11 then{slots:=[0,3,55,56,57]}else{ }
inductive yF where
 |h3 (l14:LS) (i15:Int) (i16:Int) (z0:zq bZ) (jb0:LS)
 |h11 (l55:zS) (i56:Int) (i57:Int) (z0:zq bZ) (jb0:LS)
abbrev zw5:yF->Nat×St
 |.h3 l i h z j=>(3,⟨tm 122 [(0,Qf 0 0),(3,Qf 1 0),(14,T Q6 l),(15,L i),(16,L h)],[Qa (bF [] bZ z),Qa [T Q6 j]]⟩)
 |.h11 b x a z j=>(11,⟨tm 122 [(0,Qf 0 0),(3,Qf 1 0),(55,T zl b),(56,L x),(57,L a)],[Qa (bF [] bZ z),Qa [T Q6 j]]⟩)
def zmX(y:zq bZ):Tr (yF⊕az):=
 let a:=mw (y.t.1,y.u.1,y.v.1,(y.w.1,[],y.x.1,[],[],zt y.y.1),[],y.z.1)
 Q9 (yF.h3 a (X a:Int) 0 y a)
def Mi(l:LS)(h i:Int)(z:zq bZ)(j:LS)(a x:zy):Tr (yF⊕az):=br (N (i<h)) (R (zL i (X l)) (br (N (a<0)) (re (L 6) (bc bZ z)) (Q9 (yF.h3 l h (Γ Δ (i+1)) z j)))) (br (cond (N (x>=0)) O (z.u.1==z.v.1)) (re (L 7) (bc bZ z)) (Q9 (yF.h11 z.1 (X z.1:Int) 0 z j)))
def Sk(l:LS)(h i:Int)(z:zq bZ)(j:LS):Tr (yF⊕az):=
 let a:=al z.1 (l.getD i.toNat (Q Q6))
 let x:=al z.1 z.2.1.2.1
 Mi l h i z j a x
def GM(l:zS)(h i:Int)(z:zq bZ)(j:LS)(x:ae)(b:Int)(c d:zy)(a e:ae):Tr (yF⊕az):=br (N (i<h)) (R (zL i (X l)) (br (!aQ j x.1.1) (br (N (b>=0)) (re (L 10) (bc bZ z)) (Q9 (yF.h11 l h (Γ Δ (i+1)) z j))) (Q9 (yF.h11 l h (Γ Δ (i+1)) z j)))) (R (zL c (X z.1)) (br (!z.v.1==[]) (R (zL d (X z.1)) (re (L 0) (bc bZ (z.1,z.2.1,a.1,e.1,z.t)))) (re (L 0) (bc bZ (z.1,z.2.1,a.1,z.r)))))
def Mh(l:zS)(h i:Int)(z:zq bZ)(j:LS):Tr (yF⊕az):=
 let a:=l.getD i.toNat (Q zl)
 let d:=aj (λx=>aQ j x.2) a.1.t.1 0
 let b:=al z.1 z.u.1
 let c:=al z.1 z.v.1
 let e:=Y z.1 (Z b) (Q zl)
 let g:=Y z.1 (Z c) (Q zl)
 GM l h i z j a d b c e g
def Hw:yF->Tr (yF⊕az)
 |.h3 l i h z j=>Sk l i h z j
 |.h11 b x a z j=>Mh b x a z j
def te(y:zq bZ):Option (zF (Qi M [zk])×zq bZ):=kI [zk] bZ Hw 100000000 (zmX y)
def oN(y:zq bZ):Bool:=(te y).isSome
def oM(y:zq bZ):zy×zq bZ:=(λr:zF (Qi M [zk])×zq bZ=>(r.1.1,r.2)) ((te y).getD (cH [zk],gg bZ))
def zp1:ah:=ro bZ [] [zk] bZ (λy _=>oN y) λy _=>(((oM y).1,()),(oM y).2)
theorem zkH:FK 147 zp1:=Iu.B1 (f:=Tryz.f147) (keep:=zuc) (n:=100000000) (e:=zw5) (t:=Hw) (i:=λy x=>zmX y)
def zh8:=zie.add 147 zp1
theorem Iq:zw zh8:=Iu.add zkH
abbrev eG:List CP:=[.d (.sl zl),.d aB,.d ab,.d ab,.d .str,.d .str,.d .str,.d .str,.vec zn,.d zk,.nil,.nil,.d .expr,.vec zk,.d zk]
abbrev zux:Nat->aY:=λj=>if j=3 then{slots:=[1,3,14,15,16,0],prom:=[(0,M 60,.int .i64),(0,M 50,zn)]}else if j=12 then{slots:=[1,63,64,65,0]}else if j=1000000 then{sett:=[(0,60)]}else{ }
inductive uZ where
 |h3 (l14:LS) (i15:Int) (i16:Int) (z0:zq eG)
 |h12 (i64:Int) (i65:Int) (z0:zq eG)
 |h12b (i64:Int) (i65:Int) (z0:zq eG)
abbrev zxl:uZ->Nat×St
 |.h3 l a b z=>(3,⟨tm 80 [(0,Qf 0 0),(1,Qf 1 0),(3,AV.clo (Fn.func 251) [] [Qf 1 0]),(14,T Q6 l),(15,L a),(16,L b)],[Qa (bF [2,3] eG z),Qa [Qf 0 0],AO.vec zn z.x.1,AO.vec zk z.s.1]⟩)
 |.h12 i h z=>(12,⟨tm 80 [(0,Qf 0 0),(1,Qf 1 0),(63,AV.vec 2),(64,L i),(65,L h)],[Qa (bF [3,2] eG z),Qa [Qf 0 0],AO.vec zk z.s.1,AO.vec zn z.x.1]⟩)
 |.h12b i h z=>(12,⟨tm 80 [(0,Qf 0 0),(1,Qf 1 0),(63,AV.vec 2),(64,L i),(65,L h)],[Qa (bF [3,2] eG z),Qa [Qf 0 0],AO.frz zk z.s.1,AO.vec zn z.x.1]⟩)
def zm6(y:zq bZ):Tr (uZ⊕az):=Q9 (uZ.h3 y.2.1.r.1 (X y.2.1.r.1:Int) 0 (y.1,y.2.1,y.q.1,y.r.1,y.t.1,y.u.1,y.v.1,y.w.1,[],y.x.1,y.y.1,[],y.z))
def Mm(l:LS)(a i:Int)(h:zq eG)(b:zy)(c:LI)(d:LC):Tr (uZ⊕az):=br (N (i<a)) (R (zL i (X l)) (br (N (b<0)) (re (L 4) (bc aF h)) (R (N (X h.s.1+X c<=1073741824)) (R (zL b (X h.q.1.2.1)) (R (N (X h.x.1+X d<=1073741824)) (Q9 (uZ.h3 l a (Γ Δ (i+1)) (h.1,h.2.1,h.q.1,h.r.1,h.t.1,h.u.1,h.v.1,h.w.1,h.x.1++d,h.y.1,h.z.1,h.s.1++c,h.p)))))))) (Q9 (uZ.h12 (X h.s.1:Int) 0 h))
def So(l:LS)(h i:Int)(z:zq eG):Tr (uZ⊕az):=
 let a:=zY (z.q.1.1,z.q.1.2.1,z.q.1.q.1,z.q.1.r.1,z.q.1.t.1,zt z.q.1.u) (l.getD i.toNat (Q Q6))
 let x:=[a]
 let b:=[Y z.q.1.2.1 (Z a) (Q zn)]
 Mm l h i z a x b
def GP(h i:Int)(z:zq eG)(a:Int):Tr (uZ⊕az):=br (N (i<h)) (R (zL i (X z.s.1)) (R (N (i.toNat<X z.s.1)) (R (N (0<=0)&&N (0<=i)&&N (i<=a)) (br (vI (Qg (i.toNat-Z 0) (Qh (Z 0) z.s.1)) (z.s.1.getD i.toNat (Q zk))) (re (L 7) (bc aF z)) (Q9 (uZ.h12b h (Γ Δ (i+1)) z)))))) (re (L 0) (bc aF z))
def Ml(i h:Int)(z:zq eG):Tr (uZ⊕az):=
 let a:=(X z.s.1:Int)
 GP i h z a
def A6(h i:Int)(z:zq eG)(a:Int):Tr (uZ⊕az):=br (N (i<h)) (R (zL i (X z.s.1)) (R (N (0<=0)&&N (0<=i)&&N (i<=a)) (br (vI (Qg (i.toNat-Z 0) (Qh (Z 0) z.s.1)) (z.s.1.getD i.toNat (Q zk))) (re (L 7) (bc aF z)) (Q9 (uZ.h12b h (Γ Δ (i+1)) z))))) (re (L 0) (bc aF z))
def GO(i h:Int)(z:zq eG):Tr (uZ⊕az):=
 let a:=(X z.s.1:Int)
 A6 i h z a
def uu:uZ->Tr (uZ⊕az)
 |.h3 l x a z=>So l x a z
 |.h12 i h z=>Ml i h z
 |.h12b i h z=>GO i h z
def CJ(y:zq bZ):Option (zF (Qi M [zk])×zq aF):=kI [zk] aF uu 100000000 (zm6 y)
def pP(y:zq bZ):Bool:=(CJ y).isSome
def lh(y:zq bZ):zy×zq aF:=(λr:zF (Qi M [zk])×zq aF=>(r.1.1,r.2)) ((CJ y).getD (cH [zk],gg aF))
def zqt:ah:=ro bZ [] [zk] aF (λy _=>pP y) λy _=>(((lh y).1,()),(lh y).2)
theorem zld:FK 199 zqt:=Iq.B1 (f:=Tryz.f199) (ps:=bZ) (ks:=[]) (outs:=[zk]) (keep:=zux) (n:=100000000) (e:=zxl) (t:=uu) (i:=λy x=>zm6 y)
def zh9:=zh8.add 199 zqt
theorem Ai:zw zh9:=Iq.add zld
abbrev Za(y:zq bZ):zq bZ:=(y.1,(y.2.1.1,y.2.1.2.1,y.2.1.q.1,y.2.1.r.1,y.2.1.t.1,y.2.1.u.1,y.2.1.v.1,y.2.1.w.1,zt y.2.1.x.1,y.2.1.y.1,y.2.1.z.1,zt y.2.1.s.1,y.2.1.p),(y.q.1.1,y.q.1.2.1,y.q.1.q.1,y.q.1.r.1,y.q.1.t.1,zt y.q.1.u),(y.r.1.1,y.r.1.2.1,y.r.1.q.1,y.r.1.r.1,y.r.1.t.1,zt y.r.1.u),y.t.1,y.u.1,y.v.1,y.w.1,y.x.1,zt y.y.1,y.z.1,())
abbrev Ti(y:zq aF):zq aF:=(y.1,(y.2.1.1,y.2.1.2.1,y.2.1.q.1,y.2.1.r.1,y.2.1.t.1,y.2.1.u.1,y.2.1.v.1,y.2.1.w.1,zt y.2.1.x.1,y.2.1.y.1,y.2.1.z.1,zt y.2.1.s.1,y.2.1.p),(y.q.1.1,y.q.1.2.1,y.q.1.q.1,y.q.1.r.1,y.q.1.t.1,zt y.q.1.u),(y.r.1.1,y.r.1.2.1,y.r.1.q.1,y.r.1.r.1,y.r.1.t.1,zt y.r.1.u),y.t.1,y.u.1,y.v.1,y.w.1,y.x.1,y.y.1,zt y.z.1,y.s.1,y.p.1,())
abbrev zt6:Nat->aY:=λ_=>{ }
def ZD(_:zq bZ)(b:J zl.sl×zq [CP.d aB,CP.d ab,CP.d ab,CP.d Q6,CP.d Q6,CP.d Q6,CP.d Q6,CP.nil,CP.d zk,CP.nil,CP.nil,CP.d Q5,CP.nil,CP.d zk])(a:zy×zq aF)(h:zy):Tr (Empty⊕az):=R (pP b) (br (a.1!=0) (re (L a.1) (bc aF a.2)) (br (N (h<0)) (re (L 1) (bc aF (a.2.1,a.q.1,a.r.1,a.t.1,a.u.1,a.v.1,a.w.1,a.x.1,a.y.1,h,a.s))) (re (L 0) (bc aF (a.2.1,a.q.1,a.r.1,a.t.1,a.u.1,a.v.1,a.w.1,a.x.1,a.y.1,h,a.s)))))
def zeR(y:zq bZ):Tr (Empty⊕az):=
 let h:=Za y
 let a:=lh h
 let x:=iC a.p.1 a.r.1.q.1
 ZD y h a x
def KP(y:zq bZ):Option (zF (Qi M [zk])×zq aF):=kI [zk] aF t0 100000000 (zeR y)
def KO(y:zq bZ):Bool:=(KP y).isSome
def I9(y:zq bZ):zy×zq aF:=(λr:zF (Qi M [zk])×zq aF=>(r.1.1,r.2)) ((KP y).getD (cH [zk],gg aF))
def zpS:ah:=ro bZ [] [zk] aF (λy _=>KO y) λy _=>(((I9 y).1,()),(I9 y).2)
theorem zky:FK 141 zpS:=Ai.B1 (f:=Tryz.f141) (keep:=zt6) (n:=100000000) (e:=e0) (t:=t0) (i:=λy x=>zeR y)
abbrev zt8:Nat->aY:=λ_=>{ }
def ZE(_:zq bZ)(c:J zl.sl×zq [CP.d aB,CP.d ab,CP.d ab,CP.d Q6,CP.d Q6,CP.d Q6,CP.d Q6,CP.nil,CP.d zk,CP.nil,CP.nil,CP.d Q5,CP.nil,CP.d zk])(a:zy×zq aF)(e _:cF)(h:LC)(b:cF):Tr (Empty⊕az):=R (pP c) (br (a.1!=0) (re (L a.1) (bc aF a.2)) (R (zL 1 (X a.y.1)) (R (N (Z 1<X a.y.1)) (br (e.2.1!=1) (re (L 5) (bc aF a.2)) (R (zL 0 (X a.y.1)) (R (N (Z 0<X a.y.1)) (R (zL 1 (X h)) (R (N (Z 1<X h)) (re (L 0) (bc aF (a.2.1,a.q.1,a.r.1,a.t.1,a.u.1,a.v.1,a.w.1,a.x.1,h.set (Z 1) (b.1,b.2.1,S),a.z)))))))))))
def zeT(y:zq bZ):Tr (Empty⊕az):=
 let x:=Za y
 let a:=lh x
 let c:=a.y.1.getD (Z 1) (Q zn)
 let h:=a.y.1.getD (Z 0) (Q zn)
 let b:=a.y.1.set (Z 0) (h.1,h.2.1,O)
 let d:=b.getD (Z 1) (Q zn)
 ZE y x a c h b d
def CI(y:zq bZ):Option (zF (Qi M [zk])×zq aF):=kI [zk] aF t0 100000000 (zeT y)
def CH(y:zq bZ):Bool:=(CI y).isSome
def AE(y:zq bZ):zy×zq aF:=(λr:zF (Qi M [zk])×zq aF=>(r.1.1,r.2)) ((CI y).getD (cH [zk],gg aF))
def zpW:ah:=ro bZ [] [zk] aF (λy _=>CH y) λy _=>(((AE y).1,()),(AE y).2)
theorem zkC:FK 143 zpW:=Ai.B1 (f:=Tryz.f143) (keep:=zt8) (n:=100000000) (e:=e0) (t:=t0) (i:=λy x=>zeT y)
def zia:=zh9.addL [(141,zpS),(143,zpW)]
theorem Ir:zw zia:=Ai.addL<|fc zky<|fc zkC jb
abbrev zt7:Nat->aY:=λj=>if j=11 then{slots:=[0,83,84,85],prom:=[(0,M 60,.int .i64)]}else if j=1000000 then{prom:=[(0,M 50,zn),(0,M 60,.int .i64)],sett:=[(0,60)]}else{ }
inductive G7 where
 |h11 (l83:LC) (i84:Int) (i85:Int) (z0:zq eG)
abbrev zw2:G7->Nat×St
 |.h11 l i h z=>(11,⟨tm 124 [(0,Qf 0 0),(83,T zn l),(84,L i),(85,L h)],[Qa (bF [1,2] eG z),AO.vec zn z.x.1,AO.vec zk z.s.1]⟩)
def N7(y:zq bZ)(h:zy)(a:J Q5×ed×zy×Unit)(b c:Int):Tr (G7⊕az):=br (N (h<0)) (re (L 4) (bc aF (y.1,y.2.1,y.q.1,y.r.1,y.t.1,y.u.1,y.v.1,y.w.1,[],y.x.1,a))) (br (!jX y.q.1.t.1 (h,y.v.1)) (re (L 10) (bc aF (y.1,y.2.1,y.q.1,y.r.1,y.t.1,y.u.1,y.v.1,y.w.1,[],y.x.1,a))) (br (N (c>8)) (re (L 13) (bc aF (y.1,y.2.1,y.q.1,y.r.1,y.t.1,y.u.1,y.v.1,y.w.1,[],y.x.1,a))) (R (N (X y.q.1.2.1<=1073741824)) (Q9 (G7.h11 y.r.1.2.1 b 0 (y.1,y.2.1,y.q.1,y.r.1,y.t.1,y.u.1,y.v.1,y.w.1,y.q.1.2.1,y.q.1.q.1,a))))))
def N6(y:zq bZ):Tr (G7⊕az):=
 let a:=zY (y.q.1.1,y.q.1.2.1,y.q.1.q.1,y.q.1.r.1,y.q.1.t.1,zt y.q.1.u) y.2.1.u.1
 let x:=(y.y.1,[],a,())
 let h:=(X y.r.1.2.1:Int)
 let b:=Γ Δ (Γ Δ ((X y.q.1.2.1:Int)+h)-1)
 N7 y a x h b
def GL(l:LC)(a i:Int)(h:zq eG)(b:LC)(c:Int):Tr (G7⊕az):=br (N (i<a)) (R (zL i (X l)) (br (i !=h.r.1.q.1) (R (N (X h.s.1+[i].length<=1073741824)) (R (N (X h.x.1+X b<=1073741824)) (Q9 (G7.h11 l a c (h.1,h.2.1,h.q.1,h.r.1,h.t.1,h.u.1,h.v.1,h.w.1,h.x.1++b,h.y.1,h.z.1,h.s.1++[i],h.p))))) (Q9 (G7.h11 l a c h)))) (re (L 0) (bc aF h))
def Mg(l:LC)(h i:Int)(z:zq eG):Tr (G7⊕az):=
 let a:=[l.getD i.toNat (Q zn)]
 let x:=Γ Δ (i+1)
 GL l h i z a x
def Sj:G7->Tr (G7⊕az)
 |.h11 l i h z=>Mg l i h z
def Fe(y:zq bZ):Option (zF (Qi M [zk])×zq aF):=kI [zk] aF Sj 100000000 (N6 y)
def KQ(y:zq bZ):Bool:=(Fe y).isSome
def Ja(y:zq bZ):zy×zq aF:=(λr:zF (Qi M [zk])×zq aF=>(r.1.1,r.2)) ((Fe y).getD (cH [zk],gg aF))
def zpU:ah:=ro bZ [] [zk] aF (λy _=>KQ y) λy _=>(((Ja y).1,()),(Ja y).2)
theorem zkA:FK 142 zpU:=Ir.B1 (f:=Tryz.f142) (keep:=zt7) (n:=100000000) (e:=zw2) (t:=Sj) (i:=λy x=>N6 y)
def zib:=zia.add 142 zpU
theorem Is:zw zib:=Ir.add zkA
abbrev oP:AV:=agg ([I [],I [],I [],I [],nils,L 0,nils,nils]++zE++[nils,L 0])
abbrev AM(z:zq aF):AV:=agg ([I z.t.1,I z.u.1,I z.v.1,I z.w.1,AV.vec 0,L z.y.1,nils,nils]++xE z.z.1++[T zk z.s.1,L z.p.1])
abbrev K1(z:zq bZ):AV:=agg ([I z.t.1,I z.u.1,I z.v.1,I z.w.1,nils,L z.x.1,nils,nils]++xE z.y.1++[nils,L z.z.1])
def N0(_:J zl.sl)(s:zP)(_:zg)(_:J Q6×J (Sh.str.pr (Sh.str.pr (Sh.str.sl.pr (zn.sl.pr (Sh.str.pr (Sh.str.sl.pr (jL.sl.pr (Sh.expr.pr (ze.sl.pr (je.sl.pr (Sh.expr.pr Q6))))))))))))(_ n o p:Bool)(_:J zl.sl×zq [CP.d aB,CP.d ab,CP.d ab,CP.d Q6,CP.d Q6,CP.d Q6,CP.d Q6,CP.nil,CP.d zk,CP.nil,CP.nil,CP.d Q5,CP.nil,CP.d zk])(q:Bool)(g:zy×zq bZ)(j:Bool)(i:J zl.sl×zq [CP.d aB,CP.d ab,CP.d ab,CP.d Q6,CP.d Q6,CP.d Q6,CP.d Q6,CP.nil,CP.d zk,CP.nil,CP.nil,CP.d Q5,CP.nil,CP.d zk])(a:zy×zq aF)(k:J zl.sl×zq [CP.d aB,CP.d ab,CP.d ab,CP.d Q6,CP.d Q6,CP.d Q6,CP.d Q6,CP.vec zn,CP.d zk,CP.nil,CP.nil,CP.d Q5,CP.d zk.sl,CP.d zk])(b h:zy×zq aF)(l:J zl.sl×zq [CP.d aB,CP.d ab,CP.d ab,CP.d Q6,CP.d Q6,CP.d Q6,CP.d Q6,CP.vec zn,CP.d zk,CP.nil,CP.nil,CP.d Q5,CP.d zk.sl,CP.d zk])(c x:zy×zq aF)(m:J zl.sl×zq [CP.d aB,CP.d ab,CP.d ab,CP.d Q6,CP.d Q6,CP.d Q6,CP.d Q6,CP.vec zn,CP.d zk,CP.nil,CP.nil,CP.d Q5,CP.d zk.sl,CP.d zk])(e:zy×zq aF):Tr (Empty⊕az):=
 R O (R O (R O (br (s.1==dD) (R n (br o (re (tup [oP,L 1]) []) (R p (R q (br j (R (KO i) (br (a.1==0) (R (iD k) (br (b.1!=0) (re (tup [oP,L b.1]) []) (re (tup [(AM b.2),L 0]) [AO.vec zn b.y.1]))) (br (a.1!=0) (re (tup [oP,L a.1]) []) (re (tup [(AM a.2),L 0]) [AO.vec zn a.y.1])))) (br j Tr.err (br (g.1!=0) (re (tup [oP,L g.1]) []) (re (tup [(K1 g.2),L 0]) [])))))))) (br (s.1==gO) (R n (br o (re (tup [oP,L 1]) []) (R p (R q (br j (R (KQ i) (br (h.1==0) (R (iD l) (br (c.1!=0) (re (tup [oP,L c.1]) []) (re (tup [(AM c.2),L 0]) [AO.vec zn c.y.1]))) (br (h.1!=0) (re (tup [oP,L h.1]) []) (re (tup [(AM h.2),L 0]) [AO.vec zn h.y.1])))) (br j Tr.err (br (g.1!=0) (re (tup [oP,L g.1]) []) (re (tup [(K1 g.2),L 0]) [])))))))) (br (s.1==pp) (R n (br o (re (tup [oP,L 1]) []) (R p (R q (br j (R (CH i) (br (x.1==0) (R (iD m) (br (e.1!=0) (re (tup [oP,L e.1]) []) (re (tup [(AM e.2),L 0]) [AO.vec zn e.y.1]))) (br (x.1!=0) (re (tup [oP,L x.1]) []) (re (tup [(AM x.2),L 0]) [AO.vec zn x.y.1])))) (br j Tr.err (br (g.1!=0) (re (tup [oP,L g.1]) []) (re (tup [(K1 g.2),L 0]) [])))))))) (re (tup [oP,L 1]) []))))))
def zmP(l:J zl.sl)(h:zP):Tr (Empty⊕az):=
 let j:=zt h.x.1
 let k:=(h.1,h.2.1,h.q.1,h.r.1,h.t.1,h.u.1,h.v.1,h.w.1,j,h.y.1,h.z.1,zt h.s.1,h.p)
 let A:=!eZ k
 let D:=ql k&&bif A then O else po l
 let E:=bif A then O else kV l !=0
 let F:=mR 16 j
 let B:=(l,k,([],[],0,[],[],zg.mk [] (0,0,[]) [] []),([],[],0,[],[],zg.mk [] (0,0,[]) [] []),h.1,h.q.1,h.p,h.2.1,0,j,0,())
 let G:=oN B
 let C:=oM B
 let H:=C.1==0
 let a:=Za C.2
 let b:=I9 a
 let c:=Ti b.2
 let m:=gn c
 let d:=Ja a
 let e:=Ti d.2
 let n:=gn e
 let g:=AE a
 let i:=Ti g.2
 let o:=gn i
 N0 l h j k A D E F B G C H a b c m d e n g i o
def OF(x:J zl.sl)(h:zP):=ar [an,zk] t0 100000000 (zmP x h)
def zok(x:J zl.sl)(h:zP):=(OF x h).isSome
def pOf(x:J zl.sl)(h:zP):=o2 (OF x h)
def zpg:=FT [zl.sl,aB] [an,zk] λx=>OF x.1 x.2.1
theorem zjT:FK 84 zpg:=Is.T1 (f:=Tryz.f84) (keep:=k0) (e:=e0)
def zic:=zib.add 84 zpg
theorem oB:zw zic:=Is.add zjT
abbrev bd:List CP:=[.d (.sl zG),.d zk,.d .bool]
def ziT(x:J (Sh.int IntKind.u8)):Tr (Empty⊕az):=
 let a:=bif N (97<=x)then N (x<=122)else S
 re (AV.bool (cond (N (65<=x)) (cond (N (x<=90)) O a) a)) []
def o6(x:J (Sh.int IntKind.u8)):=ar [Q7] t0 100000000 (ziT x)
def oZ(x:J (Sh.int IntKind.u8)):=(o6 x).isSome
def sa(x:J (Sh.int IntKind.u8)):=o1 (o6 x)
def zgX:=FT [Sh.int IntKind.u8] [Q7] λx=>o6 x.1
theorem zcU:FK 131 zgX:=oB.T1 (f:=Tryz.f131) (keep:=k0) (e:=e0)
def ztn(x:J (Sh.int IntKind.u8)):Tr (Empty⊕az):=
 re (AV.bool (cond (N (48<=x)) (N (x<=57)) S)) []
def xK(x:J (Sh.int IntKind.u8)):=ar [Q7] t0 100000000 (ztn x)
def kL(x:J (Sh.int IntKind.u8)):=(xK x).isSome
def lD(x:J (Sh.int IntKind.u8)):=o1 (xK x)
def zg0:=FT [Sh.int IntKind.u8] [Q7] λx=>xK x.1
theorem zcX:FK 133 zg0:=oB.T1 (f:=Tryz.f133) (keep:=k0) (e:=e0)
abbrev zuK:=kG [(2,[0,1,5])]
inductive U9 where
 |h2 (l0:LS) (s1:TS) (i5:Int)
abbrev zxv:U9->Nat×St
 |.h2 l s i=>(2,⟨tm 18 [(0,T Q6 l),(1,I s),(5,L i)],[]⟩)
def zyH(x:J Sh.str.sl)(h:TS):Tr (U9⊕az):=
 Q9 (U9.h2 x h 0)
def Sp:U9->Tr (U9⊕az)
 | .h2 l s i=>
  br (N (i<(X l:Int)))
  (R (zL i (X l)) (br (l.getD i.toNat (Q Q6)==s) (re (kb O) []) (Q9 (U9.h2 l s (Γ Δ (i+1))))))
  (re (kb S) [])
def Uk(x:J Sh.str.sl)(h:TS):=ar [Q7] Sp 100000000 (zyH x h)
def BW(x:J Sh.str.sl)(h:TS):=(Uk x h).isSome
def Pd(x:J Sh.str.sl)(h:TS):=o1 (Uk x h)
def zqK:=FT [Sh.str.sl,Q6] [Q7] λx=>Uk x.1 x.2.1
theorem zlt:FK 128 zqK:=oB.T1 (f:=Tryz.f128) (keep:=zuK) (e:=zxv)
abbrev znm:Nat->aY:=λ_=>{ }
def ziQ(y:zq bd)(e:TS):Tr (Empty⊕az):=
 let x:=N (y.2.1<(X y.1:Int))
 let a:=zL y.2.1 (X y.1)
 let h:=Y y.1 (Z y.2.1) (Q zG)
 let b:=h.1==1
 let c:=h.1==4
 let d:=h.2==e
 R (cond x (a&&bif b then a else a&&bif c then a else O) O)
 (re (AV.bool (cond x (cond b d (cond c d S)) S)) (bc bd y))
def zbw(y:zq bd)(x:TS):Option (zF (Qi M [Q7])×zq bd):=kI [Q7] bd t0 100000000 (ziQ y x)
def LO(y:zq bd)(x:TS):Bool:=(zbw y x).isSome
def Pi(y:zq bd)(x:TS):(J Q7)×zq bd:=(λr:zF (Qi M [Q7])×zq bd=>(r.1.1,r.2)) ((zbw y x).getD (cH [Q7],gg bd))
def zgF:ah:=ro bd [Q6] [Q7] bd (λy x=>LO y x.1) λy x=>(((Pi y x.1).1,()),(Pi y x.1).2)
theorem zcC:FK 75 zgF:=oB.B1 (f:=Tryz.f75) (ps:=bd) (ks:=[Q6]) (outs:=[Q7]) (keep:=znm) (n:=100000000) (e:=e0) (t:=t0) (i:=λy x=>ziQ y x.1)
def Iv:=zic.addL [(131,zgX),(133,zg0),(128,zqK),(75,zgF)]
theorem jV:zw Iv:=oB.addL<|fc zcU<|fc zcX<|fc zlt<|fc zcC jb
abbrev zng:=kG [(2,[1,3])]
inductive Ds where
 |h2 (i3:Int) (z0:zq [CP.d K])
abbrev zsA:Ds->Nat×St
 |.h2 i z=>(2,⟨tm 66 [(1,Qf 0 0),(3,L i)],[Qa (bF [] [CP.d K] z)]⟩)
def ziJ(x:zp):Tr (Ds⊕az):=
 Q9 (Ds.h2 0 (x,()))
def uU:Ds->Tr (Ds⊕az)
 | .h2 i z=>
  let x:=(X z.1.q:Int)
  let b:=zL i (X z.1.q)
  let c:=(↑(Y z.1.q i.toNat 0).toNat:Int)
  let d:=N (c<32)
  let h:=z.1.2.1==0
  let a:=z.1.q==[]
  br (N (i<x))
  (R (b&&bif d then O else b)
   (br (cond d O (N (c>126))) (re (kb S) []) (Q9 (Ds.h2 (Γ Δ (i+1)) z))))
  (br (z.1.1==0) (re (AV.bool (cond h a S)) [])
   (br (z.1.1==1) (re (AV.bool a) []) (br (z.1.1==2) (re (AV.bool (cond h (N (x<=40)) S)) []) (br (z.1.1==3) (re (AV.bool (cond h a (cond (z.1.2.1==1) a S))) []) (re (kb S) [])))))
def K8(x:zp):=ar [Q7] uU 100000000 (ziJ x)
def nP(x:zp):=(K8 x).isSome
def uR(x:zp):=o1 (K8 x)
def zgw:=FT [K] [Q7] λx=>K8 x.1
theorem zcs:FK 104 zgw:=jV.T1 (f:=Tryz.f104) (keep:=zng) (e:=zsA)
def zto(x:J Q7):Tr (Empty⊕az):=
 br x (re (agg [L 3,L 1,I []]) []) (re (agg [L 3,L 0,I []]) [])
def xA(x:J Q7):=ar [K] t0 100000000 (zto x)
def mA(x:J Q7):=(xA x).isSome
def bB(x:J Q7):=o1 (xA x)
def zg4:=FT [Q7] [K] λx=>xA x.1
theorem zc1:FK 166 zg4:=jV.T1 (f:=Tryz.f166) (keep:=k0) (e:=e0)
abbrev znH:Nat->aY:=λ_=>{ }
def zi5(x:TS):Tr (Empty⊕az):=
 re
 (AV.bool
  (bif x==ji then O
  else bif x==wy then O else bif x==[61]then O else bif x==[60]then O else bif x==[43]then O else x==[45]))
 []
def RO(x:TS):Option (zF (Qi M [Q7])):=ar [Q7] t0 100000000 (zi5 x)
def Lh(x:TS):Bool:=(RO x).isSome
def Ui(x:TS):J Q7:=(λr:zF (Qi M [Q7])=>r.1) ((RO x).getD (cH [Q7]))
def zhm:ah:=ac [Q6] [Q7] (λx=>Lh x.1) λx=>(Ui x.1,())
theorem zdi:FK 240 zhm:=jV.TT (f:=Tryz.f240) (ks:=[Q6]) (outs:=[Q7]) (keep:=znH) (n:=100000000) (e:=e0) (t:=t0) (i:=λx=>zi5 x.1)
abbrev zuj:Nat->aY:=λj=>if j=2 then{slots:=[0,1,5]}else{ }
inductive MN where
 |h2 (l0:LC) (s1:TS) (i5:Int)
abbrev zxb:MN->Nat×St
 |.h2 l s i=>(2,⟨tm 20 [(0,T zn l),(1,I s),(5,L i)],[]⟩)
def zm1(x:J zn.sl)(h:TS):Tr (MN⊕az):=
 Q9 (MN.h2 x h 0)
def Mk(l:LC)(s:TS)(i:Int)(a:cF):Tr (MN⊕az):=
 br (N (i<(X l:Int)))
 (R (zL i (X l)) (br (a.1==s) (re (L i) []) (Q9 (MN.h2 l s (Γ Δ (i+1))))))
 (re (L (-1)) [])
def Sn(l:LC)(s:TS)(i:Int):Tr (MN⊕az):=
 let a:=l.getD i.toNat (Q zn)
 Mk l s i a
def zbW:MN->Tr (MN⊕az)
 |.h2 l s i=>Sn l s i
def FR(x:J zn.sl)(h:TS):Option (zF (Qi M [zk])):=ar [zk] zbW 100000000 (zm1 x h)
def fq(x:J zn.sl)(h:TS):Bool:=(FR x h).isSome
def gX(x:J zn.sl)(h:TS):zy:=(λr:zF (Qi M [zk])=>r.1) ((FR x h).getD (cH [zk]))
def zp9:ah:=ac [zn.sl,Q6] [zk] (λx=>fq x.1 x.2.1) λx=>(gX x.1 x.2.1,())
theorem zkP:FK 64 zp9:=jV.TT (f:=Tryz.f64) (ks:=[zn.sl,Q6]) (outs:=[zk]) (keep:=zuj) (n:=100000000) (e:=zxb) (t:=zbW) (i:=λx=>zm1 x.1 x.2.1)
def zhU(g:J Q5->J Q5->J Q7)(c:J Q5->J Q5->Bool):ct:=Iv.add 95 (ac [Q5,Q5] [Q7] (λx=>c x.1 x.2.1) λx=>(g x.1 x.2.1,()))
theorem VN{g:J Q5->J Q5->J Q7}{c:J Q5->J Q5->Bool}(h:FK 95 (ac [Q5,Q5] [Q7] (λx=>c x.1 x.2.1) λx=>(g x.1 x.2.1,()))):zw (zhU g c):=jV.add h
abbrev zuH:Nat->aY:=λj=>if j=4 then{slots:=[2,3,5]}else{ }
inductive MR where
 |h4 (i5:Int) (z0:zq [CP.d Q5]) (z1:zq [CP.d Q5])
abbrev zxs:MR->Nat×St
 |.h4 i z h=>(4,⟨tm 53 [(2,Qf 0 0),(3,Qf 1 0),(5,L i)],[Qa (bF [] [CP.d Q5] z),Qa (bF [] [CP.d Q5] h)]⟩)
def Ho(_:J Q5->J Q5->J Q7)(_:J Q5->J Q5->Bool)(x h:J Q5):Tr (MR⊕az):=
 br
 (bif !zg.op x==zg.op h then O
 else
  bif !((zg.v x).1==(zg.v h).1&&((zg.v x).2.1==(zg.v h).2.1&&((zg.v x).q==(zg.v h).q&&O)))then O
  else bif !zg.s x==zg.s h then O else(↑(zg.l x).length:Int)!=(↑(zg.l h).length:Int))
 (re (kb S) []) (Q9 (MR.h4 0 (x,()) (h,())))
def Dn(g:J Q5->J Q5->J Q7)(c:J Q5->J Q5->Bool)(i:Int)(z x:zq [CP.d Q5])(b:Int)(a h:zg):Tr (MR⊕az):=
 br (N (i<b))
 (R (zL i (zg.l z.1).length)
  (R (zL i (zg.l x.1).length) (R (c a h) (br (!g a h) (re (kb S) []) (Q9 (MR.h4 (Γ Δ (i+1)) z x))))))
 (re (kb O) [])
def Mo(g:J Q5->J Q5->J Q7)(c:J Q5->J Q5->Bool)(i:Int)(z h:zq [CP.d Q5]):Tr (MR⊕az):=
 let a:=(↑(zg.l z.1).length:Int)
 let x:=zt ((zg.l z.1).getD i.toNat (Q Q5))
 let b:=zt ((zg.l h.1).getD i.toNat (Q Q5))
 Dn g c i z h a x b
def PE(g:J Q5->J Q5->J Q7)(c:J Q5->J Q5->Bool):MR->Tr (MR⊕az)
 |.h4 i z h=>Mo g c i z h
def iN(o:Option (zF (Qi M [Q7]))):J Q7:=(λr:zF (Qi M [Q7])=>r.1) (o.getD (cH [Q7]))
def Lc(g:J Q5->J Q5->J Q7)(c:J Q5->J Q5->Bool)(x h:J Q5):Option (zF (Qi M [Q7])):=ar [Q7] (PE g c) 3000000000 (Ho g c x h)
def cC:Nat->J Q5->J Q5->Option (zF (Qi M [Q7]))
 |0=>λ_ _=>Q2
 |n+1=>Lc (λx h=>iN (cC n x h)) λx h=>(cC n x h).isSome
theorem znc:zZ Iv.P 95 Tryz.f95 2:=cI kw
theorem SI:∀n,FK 95 (ac [Q5,Q5] [Q7] (λx=>(cC n x.1 x.2.1).isSome) λx=>(iN (cC n x.1 x.2.1),()))
 |0=>fb ⟨Tryz.f95,znc.1,znc.2.1,znc.q.1⟩ (λ_=>rfl)
 |n+1=>(VN (SI n)).TT (f:=Tryz.f95) (E:=zhU (λh a=>iN (cC n h a)) (λh a=>(cC n h a).isSome)) (ks:=[Q5,Q5]) (outs:=[Q7]) (keep:=zuH) (n:=3000000000) (e:=zxs) (t:=PE (λh a=>iN (cC n h a)) (λh a=>(cC n h a).isSome)) (i:=λx=>Ho (λh a=>iN (cC n h a)) (λh a=>(cC n h a).isSome) x.1 x.2.1)
def CU(x h:J Q5):Option (zF (Qi M [Q7])):=cC 16 x h
def gT(x h:J Q5):Bool:=(CU x h).isSome
def fF(x h:J Q5):J Q7:=iN (CU x h)
def zqF:ah:=ac [Q5,Q5] [Q7] (λx=>gT x.1 x.2.1) λx=>(fF x.1 x.2.1,())
theorem zlo:FK 95 zqF:=SI 16
def Yw(g:J Q5->zy)(c:J Q5->Bool):ct:=Iv.add 194 (ac [Q5] [zk] (λx=>c x.1) λx=>(g x.1,()))
theorem QC{g:J Q5->zy}{c:J Q5->Bool}(h:FK 194 (ac [Q5] [zk] (λx=>c x.1) λx=>(g x.1,()))):zw (Yw g c):=jV.add h
abbrev znA:Nat->aY:=λj=>if j=3 then{slots:=[1,3,4]}else{ }
inductive wh where
 |h3 (i3:Int) (i4:Int) (z0:zq [CP.d Q5])
abbrev zsK:wh->Nat×St
 |.h3 i h z=>(3,⟨tm 21 [(1,Qf 0 0),(3,L i),(4,L h)],[Qa (bF [] [CP.d Q5] z)]⟩)
def Zx(_:J Q5->zy)(_:J Q5->Bool)(x:J Q5):Tr (wh⊕az):=
 Q9 (wh.h3 1 0 (x,()))
def GJ(g:J Q5->zy)(c:J Q5->Bool)(h i:Int)(z:zq [CP.d Q5])(x:Int)(a:zg):Tr (wh⊕az):=
 br (N (i<x))
 (R (zL i (zg.l z.1).length) (R (c a) (Q9 (wh.h3 (Γ Δ (h+g a)) (Γ Δ (i+1)) z))))
 (re (L h) [])
def Me(g:J Q5->zy)(c:J Q5->Bool)(x i:Int)(z:zq [CP.d Q5]):Tr (wh⊕az):=
 let a:=(↑(zg.l z.1).length:Int)
 let h:=zt ((zg.l z.1).getD i.toNat (Q Q5))
 GJ g c x i z a h
def JI(g:J Q5->zy)(c:J Q5->Bool):wh->Tr (wh⊕az)
 |.h3 i h z=>Me g c i h z
def jA(o:Option (zF (Qi M [zk]))):zy:=(λr:zF (Qi M [zk])=>r.1) (o.getD (cH [zk]))
def OZ(g:J Q5->zy)(c:J Q5->Bool)(x:J Q5):Option (zF (Qi M [zk])):=ar [zk] (JI g c) 100000000 (Zx g c x)
def de:Nat->J Q5->Option (zF (Qi M [zk]))
 |0=>λ_=>Q2
 |n+1=>OZ (λx=>jA (de n x)) λx=>(de n x).isSome
theorem ZQ:zZ Iv.P 194 Tryz.f194 1:=cI kw
theorem MH:∀n,FK 194 (ac [Q5] [zk] (λx=>(de n x.1).isSome) λx=>(jA (de n x.1),()))
 |0=>fb ⟨Tryz.f194,ZQ.1,ZQ.2.1,ZQ.q.1⟩ (λ_=>rfl)
 |n+1=>(QC (MH n)).TT (f:=Tryz.f194) (E:=Yw (λh=>jA (de n h)) (λh=>(de n h).isSome)) (ks:=[Q5]) (outs:=[zk]) (keep:=znA) (n:=100000000) (e:=zsK) (t:=JI (λh=>jA (de n h)) (λh=>(de n h).isSome)) (i:=λx=>Zx (λh=>jA (de n h)) (λh=>(de n h).isSome) x.1)
def FQ(x:J Q5):Option (zF (Qi M [zk])):=de 16 x
def xD(x:J Q5):Bool:=(FQ x).isSome
def CX(x:J Q5):zy:=jA (FQ x)
def zg3:ah:=ac [Q5] [zk] (λx=>xD x.1) λx=>(CX x.1,())
theorem zc0:FK 194 zg3:=MH 16
def YA:=Iv.addL [(104,zgw),(166,zg4),(240,zhm),(64,zp9),(95,zqF),(194,zg3)]
theorem mh:zw YA:=jV.addL<|fc zcs<|fc zc1<|fc zdi<|fc zkP<|fc zlo<|fc zc0 jb
end
end Cad
