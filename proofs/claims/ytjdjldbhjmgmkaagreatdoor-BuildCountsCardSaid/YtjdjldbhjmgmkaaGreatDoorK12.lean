/- Statements. -/
import Derived.Test.YtjdjldbhjmgmkaaGreatDoorK11
namespace Cad
open Go Go.Proofs
open List renaming length→Io,map→Qi,drop→Qh,take→Qg
open IntKind renaming wrap→Γ,i64→Δ
open AV renaming ptr→Qf
open Tr renaming chk→Qc,«to»→Q9
open AO renaming box→Qa
open Sh renaming bool→Q7,str→Q6,expr→Q5
open Bool renaming false→Q4,true→Q3
open Option renaming none→Q2,some→Q1
open Decidable renaming decide→Q0
open Int (toNat)
open List (getD)
open Tr (chk br re)
open AV (nils agg tup ptr kb str sl)
set_option maxHeartbeats 4000000
noncomputable section
def zmx:z8:=aW (List.replicate 2 Q2) (eJ QW Tryz.f323 (List.replicate 2 Q2))
theorem zhg:FK 323 zmx:=bT _ xh (bL kw)
def Wk(g:Sem Q5->Sem Q6)(c:Sem Q5->Bool):cd:=QW.add 355 (zY [Q5] [Q6] (λx=>c x.1) λx=>(g x.1,()))
theorem Tx{g:Sem Q5->Sem Q6}{c:Sem Q5->Bool}(h:FK 355 (zY [Q5] [Q6] (λx=>c x.1) λx=>(g x.1,()))):zu (Wk g c):=xh.add h
abbrev zkQ:Nat->aT:=λ_=>{ }
theorem DJ(g:Sem Q5->Sem Q6)(c:Sem Q5->Bool):zM (Wk g c).P 355 Tryz.f355 1:=bL kw
theorem zj1(g:Sem Q5->Sem Q6)(c:Sem Q5->Bool)(x:Sem Q5):rn (Wk g c) 0 zkQ Tryz.f355 [zI Q5 x] []=let i:=(za.l x).getD (toNat 0) (zi Q5);let a:=zr i;let j:=(za.l x).getD (toNat 1) (zi Q5);let h:=zr j;let e:=Q0 ([40].length+Io (g a)<=1099511627776);let d:=zK 0 (za.l x).length;
 br (za.op x==ot) (Qc (yA (za.v x)) (Tr.ok (zQ.ret (str (ip (za.v x))) []))) (br (za.op x==eK) (Tr.ok (zQ.ret (str (za.s x)) [])) (br (za.op x==ng) (Qc d (Qc (c a) (Qc (Q0 (Io uE+Io (g a)<=1099511627776)) (Qc (Q0 (Io (uE++g a)+[41].length<=1099511627776)) (Tr.ok (zQ.ret (str (uE++g a++[41])) [])))))) (br (za.op x==pk) (Qc d (Qc (c a) (Qc e (Qc (Q0 (Io ([40]++g a)+Io Ca<=1099511627776)) (Tr.ok (zQ.ret (str ([40]++g a++Ca)) [])))))) (Qc d (Qc (c a) (Qc e (Qc (Q0 (Io ([40]++g a)+[32].length<=1099511627776)) (Qc (Q0 (Io (za.op x)<=140737488355328)&&List.all (za.op x) λb=>Q0 (b.toNat<128)) (Qc (Q0 (Io ([40]++g a++[32])+(Lib.toUpperA (za.op x)).length<=1099511627776)) (Qc (Q0 (Io ([40]++g a++[32]++Lib.toUpperA (za.op x))+[32].length<=1099511627776)) (Qc (zK 1 (za.l x).length) (Qc (c h) (Qc (Q0 (Io ([40]++g a++[32]++Lib.toUpperA (za.op x)++[32])+Io (g h)<=1099511627776)) (Qc (Q0 (Io ([40]++g a++[32]++Lib.toUpperA (za.op x)++[32]++g h)+[41].length<=1099511627776)) (Tr.ok (zQ.ret (str ([40]++g a++[32]++Lib.toUpperA (za.op x)++[32]++g h++[41])) [])))))))))))))))):=kw
def tF(g:Sem Q5->Sem Q6)(_:Sem Q5->Bool)(x:Sem Q5):Sem Q6:=(ite ((za.op x==ot)=Q3) (ip (za.v x)) (ite ((za.op x==eK)=Q3) (za.s x) (ite ((za.op x==ng)=Q3) (uE++g ((za.l x).getD (toNat 0) (zi Q5))++[41]) (ite ((za.op x==pk)=Q3) ([40]++g ((za.l x).getD (toNat 0) (zi Q5))++Ca) ([40]++g ((za.l x).getD (toNat 0) (zi Q5))++[32]++Lib.toUpperA (za.op x)++[32]++g ((za.l x).getD (toNat 1) (zi Q5))++[41])))))
def A2(g:Sem Q5->Sem Q6)(c:Sem Q5->Bool)(x:Sem Q5):Bool:=(if(za.op x==ot)=Q3 then if yA (za.v x)=Q3 then Q3 else Q4 else if(za.op x==eK)=Q3 then Q3 else if(za.op x==ng)=Q3 then if zK 0 (za.l x).length=Q3 then if c ((za.l x).getD (toNat 0) (zi Q5))=Q3 then if Q0 (Io uE+Io (g ((za.l x).getD (toNat 0) (zi Q5)))<=1099511627776)=Q3 then if Q0 (Io (uE++g ((za.l x).getD (toNat 0) (zi Q5)))+[41].length<=1099511627776)=Q3 then Q3 else Q4 else Q4 else Q4 else Q4 else if(za.op x==pk)=Q3 then if zK 0 (za.l x).length=Q3 then if c ((za.l x).getD (toNat 0) (zi Q5))=Q3 then if Q0 ([40].length+Io (g ((za.l x).getD (toNat 0) (zi Q5)))<=1099511627776)=Q3 then if Q0 (Io ([40]++g ((za.l x).getD (toNat 0) (zi Q5)))+Io Ca<=1099511627776)=Q3 then Q3 else Q4 else Q4 else Q4 else Q4 else if zK 0 (za.l x).length=Q3 then if c ((za.l x).getD (toNat 0) (zi Q5))=Q3 then if Q0 ([40].length+Io (g ((za.l x).getD (toNat 0) (zi Q5)))<=1099511627776)=Q3 then if Q0 (Io ([40]++g ((za.l x).getD (toNat 0) (zi Q5)))+[32].length<=1099511627776)=Q3 then
 if(Q0 (Io (za.op x)<=140737488355328)&&List.all (za.op x) λb=>Q0 (b.toNat<128))=Q3 then if Q0 (Io ([40]++g ((za.l x).getD (toNat 0) (zi Q5))++[32])+(Lib.toUpperA (za.op x)).length<=1099511627776)=Q3 then if Q0 (Io ([40]++g ((za.l x).getD (toNat 0) (zi Q5))++[32]++Lib.toUpperA (za.op x))+[32].length<=1099511627776)=Q3 then if zK 1 (za.l x).length=Q3 then if c ((za.l x).getD (toNat 1) (zi Q5))=Q3 then if Q0 (Io ([40]++g ((za.l x).getD (toNat 0) (zi Q5))++[32]++Lib.toUpperA (za.op x)++[32])+Io (g ((za.l x).getD (toNat 1) (zi Q5)))<=1099511627776)=Q3 then if Q0 (Io ([40]++g ((za.l x).getD (toNat 0) (zi Q5))++[32]++Lib.toUpperA (za.op x)++[32]++g ((za.l x).getD (toNat 1) (zi Q5)))+[41].length<=1099511627776)=Q3 then Q3 else Q4 else Q4 else Q4 else Q4 else Q4 else Q4 else Q4 else Q4 else Q4 else Q4 else Q4)
def zmM(g:Sem Q5->Sem Q6)(c:Sem Q5->Bool):z8:=zY [Q5] [Q6] (λx=>A2 g c x.1) λx=>(tF g c x.1,())
theorem zbd(g:Sem Q5->Sem Q6)(c:Sem Q5->Bool)(d:FK 355 (zY [Q5] [Q6] (λx=>c x.1) λx=>(g x.1,()))):FK 355 (zmM g c):=by
 refine aO (DJ g c) λx a C b=>?_
 unfold A2 at a;refine zF (Tx d) (DJ g c) (λid _=>b id) (zj1 g c x.1) ?_;generalize h:tF g c x.1=y;unfold tF at h
 try simp only[za.eta]
 repeat' (first|with_reducible refine vA h a (λ_ h a=>?_) (λ_ h a=>?_)|with_reducible refine dH h (λ_ h=>?_) (λ_ h=>?_)|with_reducible refine iL a (λa=>?_)|with_reducible refine zT ?_)
 all_goals first|(cases a;done)|(subst h;first|rfl)
mutual
def bb:Nat->Sem Q5->Sem Q6
 |0=>λ_=>default
 |n+1=>tF (bb n) (g6 n)
def g6:Nat->Sem Q5->Bool
 |0=>λ_=>Q4
 |n+1=>A2 (bb n) (g6 n)
end
theorem Qq:∀n,FK 355 (zY [Q5] [Q6] (λx=>g6 n x.1) λx=>(bb n x.1,()))
 |0=>eH ⟨Tryz.f355,(DJ default default).1,(DJ default default).2.1,(DJ default default).2.2.1⟩ (λ_=>rfl)
 |n+1=>zbd (bb n) (g6 n) (Qq n)
def zmL:z8:=zY [Q5] [Q6] (λx=>g6 16 x.1) λx=>(bb 16 x.1,())
theorem zhu:FK 355 zmL:=Qq 16
def p7:=QW.addL [(323,zmx),(355,zmL)]
theorem kS:zu p7:=xh.addL<|fc zhg<|fc zhu iw
abbrev wj(l:LS)(i:Int):St:={tmps:=[.sl Q6 l,.clo (.func 323) [] [.ptr 0 0],.any,.any,.any,.any,.any,.int .i64 (Io l),.int .i64 i,.any,.any,.any,.any,.any,.any,.any,.any,.any,.any],heap:=[.box [.clo (.func 282) [] []]]}
theorem TY(l:LS):run p7 1 AM Tryz.f345.results.toList 300 (bq Tryz.f345) (aY Tryz.f345.ntmps [.sl Q6 l,.clo (.func 323) [] [.ptr 0 0]] [.box [.clo (.func 282) [] []]])=.ok (.head 2 (aa Tryz.f345 2) (wj l 0)):=kw
theorem Uq(l:LS)(i:Int):run p7 1 AM Tryz.f345.results.toList 300 (aa Tryz.f345 2) (wj l i)=oI (K:=aa Tryz.f345 2) (e:=Q6) l (λx=>!cu x) (wj l) [.box [.clo (.func 282) [] []]] i:=kw
theorem YH:zM p7.P 345 Tryz.f345 2:=bL kw
def zpk:eW [Q1 (.sl Q6),Q2]:=λx h=>match x,h with
 |(l,.clo (.func 323) [] [.ptr 0 0],_),[.box [.clo (.func 282) [] []]]=>.ok (.int .i64 (ab (λx=>!cu x) l 0),[.box [.clo (.func 282) [] []]])
 |_,_=>.err
def zmH:z8:=aW [Q1 (.sl Q6),Q2] zpk
theorem zhq:FK 345 zmH:=by
 refine dc YH λx d c h C a=>?_
 unfold zpk at h;split at h
 .rename_i l u;simp only[Tr.val_ok,bj]at h;subst h;refine Reach.len 0 Q6 l rfl λb=>?_
  refine zF (n0:=1) kS YH a (TY l) ?_;exact kZ l (λx=>!cu x) (wj l) kS YH a (Uq l) b _ 0 rfl (aL _)
 .simp at h
abbrev zq3:Nat->aT:=λ_=>{ }
theorem zgK:zM (p7).P 335 Tryz.f335 1:=bL kw
theorem zp2(x:Sem Q5):rn p7 0 zq3 Tryz.f335 [zI Q5 x] []=br (!dD (zr x)) (Tr.ok (zQ.ret (tup [str [],ai 1]) [])) (Qc (g6 16 (zr x)) (Tr.ok (zQ.ret (tup [str (bb 16 (zr x)),ai 0]) []))):=kw
def oB(x:Sem Q5):Sem Q6×zq:=(ite ((!dD x)=Q3) ([],1) (bb 16 x,0))
def rp(x:Sem Q5):Bool:=(ite ((!dD x)=Q3) Q3 (ite (g6 16 x=Q3) Q3 Q4))
def zmE:z8:=zY [Q5] [Q6,zj] (λx=>rp x.1) λx=>((oB x.1).1,(oB x.1).2,())
theorem zhn:FK 335 zmE:=by
 refine aO (zgK) λx a C b=>?_
 unfold rp at a;refine zF kS (zgK) (λid _=>b id) (zp2 x.1) ?_;generalize h:oB x.1=y;unfold oB at h
 try simp only[za.eta]
 repeat' (first|with_reducible refine vA h a (λ_ h a=>?_) (λ_ h a=>?_)|with_reducible refine dH h (λ_ h=>?_) (λ_ h=>?_)|with_reducible refine iL a (λa=>?_)|with_reducible refine zT ?_)
 all_goals first|(cases a;done)|(subst h;first|rfl)
abbrev zrz:Nat->aT:=λj=>if j=3 then{slots:=[0,4,5],prom:=[(4,Q2,ky)]}else{ }
abbrev Nu(s:TS)(i:Int)(l:LF):St:={tmps:=(tm 47 [(0,str s),(4,AV.vec 0),(5,ai i)]),heap:=[AO.vec zA l]}
theorem zlp:zM (p7).P 256 Tryz.f256 1:=bL kw
theorem zvg(x:TS):rn p7 0 zrz Tryz.f256 [zI Q6 x] []=Tr.ok (zQ.head 3 (aa Tryz.f256 3) (Nu x 0 [])):=kw
theorem zlA(s:TS)(i:Int)(l:LF):rh p7 0 zrz Tryz.f256 3 (Nu s i l)=let h:=(↑(Io s):Int);let a:=Qg (h.toNat-i.toNat) (Qh i.toNat s);let x:=(↑(getD s i.toNat 0).toNat:Int);br (Q0 (i<h)) (Qc (zK i (Io s)&&bif x==32 then Q3 else zK i (Io s)) (br (cond (x==32) Q3 (x==10)) (Tr.ok (zQ.head 3 (aa Tryz.f256 3) (Nu s (Γ Δ (i+1)) l))) (Qc (Q0 (0<=i)&&Q0 (i<=h)&&Q0 (h<=h)) (Qc (lc a) (Qc (sq (bQ a).1) (br (cond (!cV (bQ a).1) Q3 ((↑l.length:Int)==400)) (Tr.ok (zQ.ret (tup [nils,ai 2]) [])) (Qc (Q0 (Io l+[(bQ a).1].length<=1073741824)) (Tr.ok (zQ.head 3 (aa Tryz.f256 3) (Nu s (Γ Δ (i+(bQ a).2)) (l++[(bQ a).1]))))))))))) (Tr.ok (zQ.ret (tup [AV.vec 0,ai 0]) [AO.vec zA l])):=kw
def uP:Nat->(Sem Sh.str)->Int->dp->Sem ky.sl×zq
 |0,_,_,_=>default
 |n+1,s,i,l=>(if Q0 (i<(↑(Io s):Int))=Q3 then
 if(cond ((↑(getD s i.toNat 0).toNat:Int)==32) Q3 ((↑(getD s i.toNat 0).toNat:Int)==10))=Q3 then
  uP n s (Γ Δ (i+1)) l
 else
  if
    (bif !cV (bQ (Qg ((↑(Io s):Int).toNat-i.toNat) (Qh i.toNat s))).1 then Q3
     else(↑l.length:Int)==400)=
     Q3 then
   ([],2)
  else
   uP n s (Γ Δ (i+(bQ (Qg ((↑(Io s):Int).toNat-i.toNat) (Qh i.toNat s))).2))
    (l++[(bQ (Qg ((↑(Io s):Int).toNat-i.toNat) (Qh i.toNat s))).1])
else(l,0))
def tB:Nat->(Sem Sh.str)->Int->dp->Bool
 |0,_,_,_=>Q4
 |n+1,s,i,l=>(if Q0 (i<(↑(Io s):Int))=Q3 then
 if (zK i (Io s)&&bif (↑(getD s i.toNat 0).toNat:Int)==32 then true else zK i (Io s))=true then
  if(cond ((↑(getD s i.toNat 0).toNat:Int)==32) Q3 ((↑(getD s i.toNat 0).toNat:Int)==10))=Q3 then
   tB n s (Γ Δ (i+1)) l
  else
   if (decide (0≤i)&&decide (i≤(↑(Io s):Int))&&decide ((↑(Io s):Int)≤(↑(Io s):Int)))=true then
    if lc (List.take ((↑(Io s):Int).toNat-i.toNat) (List.drop i.toNat s))=true then
     if sq (bQ (List.take ((↑(Io s):Int).toNat-i.toNat) (List.drop i.toNat s))).1=true then
      if
        (bif !cV (bQ (Qg ((↑(Io s):Int).toNat-i.toNat) (Qh i.toNat s))).1 then Q3
         else(↑l.length:Int)==400)=
         Q3 then
       Q3
      else
       if
         Q0 (Io l+[(bQ (Qg ((↑(Io s):Int).toNat-i.toNat) (Qh i.toNat s))).1].length<=1073741824)=
          Q3 then
        tB n s (Γ Δ (i+(bQ (Qg ((↑(Io s):Int).toNat-i.toNat) (Qh i.toNat s))).2))
         (l++[(bQ (Qg ((↑(Io s):Int).toNat-i.toNat) (Qh i.toNat s))).1])
       else Q4
     else Q4
    else Q4
   else Q4
 else Q4
else Q3)
theorem VF{C:ew}(b:∀id,C.ρ0 id=Q2):∀(n:Nat)(s:TS)(i:Int)(l:LF),tB n s i l=Q3->
  Reach (p7) C 256 (aa Tryz.f256 3) (Nu s i l) (λr h=>aS h [ky.sl,zj] r=Q1 ((uP n s i l).1,(uP n s i l).2,()))
 |0,s,i,l,x=>by cases x
 | n+1,s,i,l,x=>by
  refine zF kS (zlp) (λid _=>b id) (zlA _ _ _) ?_;rw[tB]at x;generalize a:uP (n+1) s i l=y;rw[uP]at a
  skip
  repeat' (first|with_reducible refine vA a x (λ_ a x=>?_) (λ_ a x=>?_)|with_reducible refine dH a (λ_ a=>?_) (λ_ a=>?_)|with_reducible refine iL x (λx=>?_)|with_reducible refine zT ?_)
  all_goals first|(cases x;done)|(subst a;first|(change Reach _ _ _ _ _ _;refine VF b n _ _ _ ?_<;>exact x)|rfl)
def cut(x:TS):Sem ky.sl×zq:=(uP (Io x+1) x 0 [])
def V2(x:TS):Bool:=(tB (Io x+1) x 0 [])
def F69:z8:=zY [Q6] [ky.sl,zj] (λx=>V2 x.1) λx=>((cut x.1).1,(cut x.1).2,())
theorem zoS:FK 256 F69:=by
 refine aO (zlp) λx h C b=>?_
 unfold V2 at h;refine zF kS (zlp) (λid _=>b id) (zvg x.1) ?_;generalize a:cut x.1=y;unfold cut at a
 try simp only[za.eta,zm]
 repeat' (first|with_reducible refine vA a h (λ_ a h=>?_) (λ_ a h=>?_)|with_reducible refine dH a (λ_ a=>?_) (λ_ a=>?_)|with_reducible refine iL h (λh=>?_)|with_reducible refine zT ?_)
 all_goals first|(cases h;done)|(subst a;first|(change Reach _ _ _ _ _ _;refine VF b _ _ _ _ ?_<;>exact h)|rfl)
def Lz:=p7.addL [(345,zmH),(335,zmE),(256,F69)]
theorem xi:zu Lz:=kS.addL<|fc zhq<|fc zhn<|fc zoS iw
def zmw:z8:=aW (List.replicate 2 Q2) (eJ Lz Tryz.f322 (List.replicate 2 Q2))
theorem zhf:FK 322 zmw:=bT _ xi (bL kw)
abbrev zvS:Nat->aT:=λ_=>{ }
theorem zsO:zM (Lz).P 296 Tryz.f296 1:=bL kw
theorem zvq(x:Sem Q5):rn Lz 0 zvS Tryz.f296 [zI Q5 x] []=Qc (rp (zr x)) (Tr.ok (zQ.ret (str (oB (zr x)).1) [])):=kw
def iU(x:Sem Q5):Sem Q6:=((oB x).1)
def qV(x:Sem Q5):Bool:=(ite (rp x=Q3) Q3 Q4)
def F94:z8:=zY [Q5] [Q6] (λx=>qV x.1) λx=>(iU x.1,())
theorem zpe:FK 296 F94:=by
 refine aO (zsO) λx a C b=>?_
 unfold qV at a;refine zF xi (zsO) (λid _=>b id) (zvq x.1) ?_;generalize h:iU x.1=y;unfold iU at h
 try simp only[za.eta]
 repeat' (first|with_reducible refine vA h a (λ_ h a=>?_) (λ_ h a=>?_)|with_reducible refine dH h (λ_ h=>?_) (λ_ h=>?_)|with_reducible refine iL a (λa=>?_)|with_reducible refine zT ?_)
 all_goals first|(cases a;done)|(subst h;first|rfl)
def LA:=Lz.addL [(322,zmw),(296,F94)]
theorem xj:zu LA:=xi.addL<|fc zhf<|fc zpe iw
def F86:z8:=aW (List.replicate 4 Q2) (eJ LA Tryz.f288 (List.replicate 4 Q2))
theorem zo6:FK 288 F86:=bT _ xj (bL kw)
abbrev zvT:Nat->aT:=λ_=>{ }
theorem zsQ:zM (LA).P 300 Tryz.f300 2:=bL kw
theorem zvs(x:TS)(h:Sem Q5):rn LA 0 zvT Tryz.f300 [zI Q6 x,zI Q5 h] []=let a:=zr h;br (ij a) (Tr.ok (zQ.ret (str []) [])) (Qc (Q0 (Io x+Io K9<=1099511627776)) (Qc (qV a) (Qc (Q0 (Io (x++K9)+Io (iU a)<=1099511627776)) (Qc (Q0 (Io (x++K9++iU a)+Io iB<=1099511627776)) (Tr.ok (zQ.ret (str (x++K9++iU a++iB)) [])))))):=kw
def lp(h:TS)(x:Sem Q5):Sem Q6:=(ite (ij x=Q3) [] (h++K9++iU x++iB))
def uI(h:TS)(x:Sem Q5):Bool:=(ite (ij x=Q3) Q3 (ite (Q0 (Io h+Io K9<=1099511627776)=Q3) (ite (qV x=Q3) (ite (Q0 (Io (h++K9)+Io (iU x)<=1099511627776)=Q3) (ite (Q0 (Io (h++K9++iU x)+Io iB<=1099511627776)=Q3) Q3 Q4) Q4) Q4) Q4))
def F98:z8:=zY [Q6,Q5] [Q6] (λx=>uI x.1 x.2.1) λx=>(lp x.1 x.2.1,())
theorem zpg:FK 300 F98:=by
 refine aO (zsQ) λx a C b=>?_
 unfold uI at a;refine zF xj (zsQ) (λid _=>b id) (zvs x.1 x.2.1) ?_;generalize h:lp x.1 x.2.1=y;unfold lp at h
 try simp only[za.eta]
 repeat' (first|with_reducible refine vA h a (λ_ h a=>?_) (λ_ h a=>?_)|with_reducible refine dH h (λ_ h=>?_) (λ_ h=>?_)|with_reducible refine iL a (λa=>?_)|with_reducible refine zT ?_)
 all_goals first|(cases a;done)|(subst h;first|rfl)
def zfG:=LA.addL [(288,F86),(300,F98)]
theorem TK:zu zfG:=xj.addL<|fc zo6<|fc zpg iw
def ztC(h:zJ):Sem Q7:=(cond (cond (Q0 ((↑(Io h.2.2.2.2.1):Int)<1)) Q3 (Q0 ((↑(Io h.2.2.2.2.1):Int)>8))) Q4 (bif !Q0 (ab (λx=>!zpB x) h.2.2.2.2.1 0>=0)then bif cu h.2.2.2.2.2.1 then bif bif Q0 ((↑(Io h.2.2.2.2.2.2.1):Int)<0)then Q3 else Q0 ((↑(Io h.2.2.2.2.2.2.1):Int)>8)then Q4 else bif !Q0 (ab (λx=>!cu x) h.2.2.2.2.2.2.1 0>=0)then bif bif Q0 ((↑(Io h.2.2.2.2.2.2.2.1):Int)<0)then Q3 else Q0 ((↑(Io h.2.2.2.2.2.2.2.1):Int)>8)then Q4 else bif !Q0 (ab (λx=>!ztd x) h.2.2.2.2.2.2.2.1 0>=0)then cg h.2.2.2.2.2.2.2.2.1 else Q4 else Q4 else Q4 else Q4))
def zfH:=zfG
theorem xk:zu zfH:=TK
def vn(h:zJ):Tr (Empty⊕aw):=
 let p:=zr h.t.t.1
 let v:=zr h.t.t.q.2.1
 let y:=(h.t.t.2.1,h.t.t.q.1,v,h.t.t.t)
 let z:=(h.1,[],h.2.2.1,h.2.2.2.1,h.t.1,h.t.2.1,h.t.q.1,h.t.q.2.1,p,y)
 let s:=bif cu h.2.1 then cg v else Q4
 let u:=(h.1,[],h.2.2.1,h.2.2.2.1,h.t.1,h.t.2.1,h.t.q.1,h.t.q.2.1,p,h.t.t.2.1,h.t.t.q.1,za.mk [] (0,0,[]) [] [],h.t.t.t)
 let A:=cu h.t.t.t
 let b:=bif cu h.2.1 then A else Q4
 let B:=(h.t.t.2.1,h.t.t.q.1,v,[])
 let c:=(h.1,[],h.2.2.1,h.2.2.2.1,h.t.1,h.t.2.1,h.t.q.1,h.t.q.2.1,p,B)
 let d:=cu h.2.2.1
 let a:=(↑(Io h.2.2.2.1):Int)
 let w:=ab (λx=>!cu x) h.2.2.2.1 0
 let e:=cg p
 let g:=bif !Q0 (w>=0)then e else Q4
 let i:=bif cu h.2.1 then bif d then bif bif Q0 (a<1)then Q3 else Q0 (a>8)then Q4 else g else Q4 else Q4
 let j:=(h.1,[],[],[],h.t.1,h.t.2.1,h.t.q.1,h.t.q.2.1,za.mk [] (0,0,[]) [] [],y)
 let k:=eG j
 let l:=eR j
 let m:=bif cu h.2.1 then bif d then bif cu h.t.2.1 then bif A then e else Q4 else Q4 else Q4 else Q4
 let n:=(h.1,[],[],h.2.2.2.1,h.t.1,[],h.t.q.1,h.t.q.2.1,za.mk [] (0,0,[]) [] [],B)
 let o:=bif cu h.2.1 then bif d then bif bif Q0 (a<2)then Q3 else Q0 (a>2)then Q4 else g else Q4 else Q4
 br (h.1==Oi) (br (cu h.2.1) Tr.err (re (kb Q4) []))
 (br (h.1==bl1)
  (Qc (cond (cu h.2.1) (eG z) Q3) (re (AV.bool (cond (cu h.2.1) (eR z) Q4)) []))
  (br (h.1==bl3) (br (cu h.2.1) Tr.err (re (kb Q4) [])) (br (h.1==K8) (br (cu h.2.1) Tr.err (re (kb Q4) [])) (br (h.1==bl0) (Qc (cond s (eG u) Q3) (re (AV.bool (cond s (eR u) Q4)) []))
  (br (h.1==Ii) (Qc (cond s (eG u) Q3) (re (AV.bool (cond s (eR u) Q4)) [])) (br (h.1==bl9) (Qc (cond b (eG c) Q3) (re (AV.bool (cond b (eR c) Q4)) []))
  (br (h.1==Oe) (Qc (cond b (eG c) Q3) (re (AV.bool (cond b (eR c) Q4)) [])) (br (h.1==Oc) (Qc (cond b (eG c) Q3) (re (AV.bool (cond b (eR c) Q4)) [])) (br (h.1==Od)
  (Qc (cond b (eG c) Q3) (re (AV.bool (cond b (eR c) Q4)) [])) (br (h.1==dj) (Qc (cond i k Q3) (re (AV.bool (cond i l Q4)) [])) (br (h.1==gj) (Qc (cond m (eG n) Q3) (re (AV.bool (cond m (eR n) Q4)) []))
  (br (h.1==lm) (Qc (cond o k Q3) (re (AV.bool (cond o l Q4)) [])) (re (kb Q4) [])))))))))))))
def BE(x:zJ):=ao [Q7] t0 100000000 (vn x)
def wk(x:zJ):=(BE x).isSome
def fC(x:zJ):=o1 (BE x)
def zes:=FT [ar] [Q7] λx=>BE x.1
theorem zaK:FK 254 zes:=xk.T1 (f:=Tryz.f254) (keep:=k0) (e:=e0)
def Ag(x:zJ):Tr (Empty⊕aw):=
 let E:=Q0 (Io x.1<=140737488355328)&&List.all x.1 λb=>Q0 (b.toNat<128)
 let I:=VQ++Lib.toUpperA x.1
 let J:=I++[32]
 let L:=J++x.2.1
 let M:=L++ln
 let F:=zjv++Lib.toUpperA x.1
 let G:=F++AH
 let H:=G++x.2.1
 let D:=H++Oh
 let C:=Qg ((↑(Io x.1):Int).toNat-toNat 2) (Qh (toNat 2) x.1)
 let d:=Lib.toUpperA C
 let e:=zjz++d
 let g:=e++AH
 let i:=g++x.2.1
 let c:=i++ln
 let a:=M++x.2.2.1
 let k:=a++AG
 let l:=gY x.2.2.2.1
 let m:=k++l
 let n:=zr x.t.t.1
 let j:=uI [32] n
 let o:=m++iB
 let h:=lp [32] n
 let p:=a++fh
 let q:=p++x.t.t.t
 let s:=q++AH
 let u:=s++x.t.2.1
 let v:=a++Td
 let w:=getD x.2.2.2.1 (toNat 0) (zi Q6)
 let y:=v++w
 let z:=y++Te
 let A:=getD x.2.2.2.1 (toNat 1) (zi Q6)
 let B:=z++A
 Qc E
 (Qc (Q0 (Io VQ+(Lib.toUpperA x.1).length<=1099511627776))
  (Qc (Q0 (Io I+[32].length<=1099511627776)) (Qc (Q0 (Io J+Io x.2.1<=1099511627776)) (Qc (Q0 (Io L+Io ln<=1099511627776)) (Qc (Q0 (Io M+Io x.2.2.1<=1099511627776)) (br (x.1==Oi) Tr.err (br (x.1==bl1)
  (Qc (Q0 (Io zca+Io x.2.1<=1099511627776)) (re (str (zca++x.2.1)) [])) (br (x.1==bl3) (Qc (Q0 (Io VO+Io x.2.1<=1099511627776)) (Qc (decide
  (Io (VO++x.2.1)+Io zb4<=1099511627776)) Tr.err)) (br (x.1==K8) (Qc (Q0 (Io VR+Io x.2.1<=1099511627776))
  (Qc (Q0 (Io (VR++x.2.1)+Io zb3<=1099511627776)) Tr.err)) (br (x.1==bl0) (Qc (Q0 (Io zb8+Io x.2.1<=1099511627776)) Tr.err) (br (x.1==Ii)
  (Qc (Q0 (Io zch+Io x.2.1<=1099511627776)) Tr.err) (br (x.1==bl9) (Qc E (Qc (Q0 (Io zjv+(Lib.toUpperA x.1).length<=1099511627776)) (Qc (Q0 (Io F+Io AH<=1099511627776))
  (Qc (Q0 (Io G+Io x.2.1<=1099511627776)) (Qc (Q0 (Io H+Io Oh<=1099511627776)) (Qc (Q0 (Io D+Io x.t.t.t<=1099511627776)) (re (str (D++x.t.t.t)) []))))))) (br (x.1==Oe) (Qc E
  (Qc (Q0 (Io zjv+(Lib.toUpperA x.1).length<=1099511627776)) (Qc (Q0 (Io F+Io AH<=1099511627776)) (Qc (Q0 (Io G+Io x.2.1<=1099511627776)) (Qc (Q0 (Io H+Io Oh<=1099511627776))
  (Qc (Q0 (Io D+Io x.t.t.t<=1099511627776)) (re (str (D++x.t.t.t)) []))))))) (br (x.1==Oc) (Qc (Q0 (0<=2)&&Q0 (2<=(↑(Io x.1):Int))&&Q0 ((↑(Io x.1):Int)<=(↑(Io x.1):Int)))
  (Qc (Q0 (Io C<=140737488355328)&&C.all λb=>Q0 (b.toNat<128)) (Qc (Q0 (Io zjz+Io d<=1099511627776)) (Qc (Q0 (Io e+Io AH<=1099511627776)) (Qc (Q0 (Io g+Io x.2.1<=1099511627776))
  (Qc (Q0 (Io i+Io ln<=1099511627776)) (Qc (Q0 (Io c+Io x.t.t.t<=1099511627776)) (re (str (c++x.t.t.t)) [])))))))) (br (x.1==Od) (Qc (Q0 (0<=2)&&Q0 (2<=(↑(Io x.1):Int))&&
  Q0 ((↑(Io x.1):Int)<=(↑(Io x.1):Int))) (Qc (Q0 (Io C<=140737488355328)&&C.all λb=>Q0 (b.toNat<128)) (Qc (Q0 (Io zjz+Io d<=1099511627776)) (Qc (Q0 (Io e+Io AH<=1099511627776)) (Qc (Q0 (Io g+Io x.2.1<=1099511627776))
  (Qc (Q0 (Io i+Io ln<=1099511627776)) (Qc (Q0 (Io c+Io x.t.t.t<=1099511627776)) (re (str (c++x.t.t.t)) [])))))))) (br (x.1==dj) (Qc (Q0 (Io a+Io AG<=1099511627776)) (Qc (nU x.2.2.2.1)
  (Qc (Q0 (Io k+Io l<=1099511627776)) (Qc (Q0 (Io m+Io iB<=1099511627776)) (Qc j (Qc (Q0 (Io o+Io h<=1099511627776)) (re (str (o++h)) []))))))) (br (x.1==gj) (Qc (Q0 (Io a+Io fh<=1099511627776))
  (Qc (Q0 (Io p+Io x.t.t.t<=1099511627776)) (Qc (Q0 (Io q+Io AH<=1099511627776)) (Qc (Q0 (Io s+Io x.t.2.1<=1099511627776)) (Qc j (Qc (Q0 (Io u+Io h<=1099511627776)) (re (str (u++h)) [])))))))
  (Qc (Q0 (Io a+Io Td<=1099511627776)) (Qc (zK 0 (Io x.2.2.2.1)) (Qc (Q0 (Io v+Io w<=1099511627776)) (Qc (Q0 (Io y+Io Te<=1099511627776)) (Qc (zK 1 (Io x.2.2.2.1)) (Qc (Q0 (Io z+Io A<=1099511627776)) (Qc j
  (Qc (Q0 (Io B+Io h<=1099511627776)) (re (str (B++h)) []))))))))))))))))))))))))))
def J2(x:zJ):=ao [Q6] t0 100000000 (Ag x)
def EL(x:zJ):=(J2 x).isSome
def iS(x:zJ):=o1 (J2 x)
def zet:=FT [ar] [Q6] λx=>J2 x.1
theorem zaL:FK 255 zet:=xk.T1 (f:=Tryz.f255) (keep:=k0) (e:=e0)
def QX:=zfH.addL [(254,zes),(255,zet)]
theorem Gt:zu QX:=xk.addL<|fc zaK<|fc zaL<|iw
abbrev zvJ:Nat->aT:=λ_=>{ }
theorem zss:zM (QX).P 202 Tryz.f202 1:=bL kw
theorem zu6(x:zJ):rn QX 0 zvJ Tryz.f202 [zI ar x] []=let a:=(zcC x);let h:=Tr.ok (zQ.ret (tup [str [],ai 1]) []);Qc (wk a) (br (!fC a) h (Qc (EL a) (Qc (V2 (iS a)) (br ((cut (iS a)).2!=0) h (Tr.ok (zQ.ret (tup [str (iS a),ai 0]) [])))))):=kw
def qI(x:zJ):Sem Q6×zq:=(ite ((!fC x)=Q3) ([],1) (ite (((cut (iS x)).2!=0)=Q3) ([],1) (iS x,0)))
def wo(x:zJ):Bool:=(ite (wk x=Q3) (ite ((!fC x)=Q3) Q3 (ite (EL x=Q3) (ite (V2 (iS x)=Q3) Q3 Q4) Q4)) Q4)
def F52:z8:=zY [ar] [Q6,zj] (λx=>wo x.1) λx=>((qI x.1).1,(qI x.1).2,())
theorem zoE:FK 202 F52:=by
 refine aO (zss) λx a C b=>?_
 unfold wo at a;refine zF Gt (zss) (λid _=>b id) (zu6 x.1) ?_;generalize h:qI x.1=y;unfold qI at h
 try simp only[Ri]
 repeat' (first|with_reducible refine vA h a (λ_ h a=>?_) (λ_ h a=>?_)|with_reducible refine dH h (λ_ h=>?_) (λ_ h=>?_)|with_reducible refine iL a (λa=>?_)|with_reducible refine zT ?_)
 all_goals first|(cases a;done)|(subst h;first|rfl)
def QY:=QX.add 202 F52
theorem Gu:zu QY:=Gt.add zoE
abbrev zvI:Nat->aT:=λ_=>{ }
theorem zr9:zM (QY).P 144 Tryz.f144 1:=bL kw
theorem zuO(x:zJ):rn QY 0 zvI Tryz.f144 [zI ar x] []=let a:=(zcC x);Qc (wo a) (Tr.ok (zQ.ret (AV.bool ((qI a).2==0)) [])):=kw
def eF(x:zJ):Sem Q7:=((qI x).2==0)
def pd(x:zJ):Bool:=(ite (wo x=Q3) Q3 Q4)
def F31:z8:=zY [ar] [Q7] (λx=>pd x.1) λx=>(eF x.1,())
theorem zol:FK 144 F31:=by
 refine aO (zr9) λx a C b=>?_
 unfold pd at a;refine zF Gu (zr9) (λid _=>b id) (zuO x.1) ?_;generalize h:eF x.1=y;unfold eF at h
 try simp only[Ri]
 repeat' (first|with_reducible refine vA h a (λ_ h a=>?_) (λ_ h a=>?_)|with_reducible refine dH h (λ_ h=>?_) (λ_ h=>?_)|with_reducible refine iL a (λa=>?_)|with_reducible refine zT ?_)
 all_goals first|(cases a;done)|(subst h;first|rfl)
def pl:=QY.add 144 F31
theorem jm:zu pl:=Gu.add zol
def zn3:z8:=aW (List.replicate 2 Q2) (eJ pl Tryz.f259 (List.replicate 2 Q2))
theorem ziU:FK 259 zn3:=bT _ jm (bL kw)
abbrev zq9:Nat->aT:=λ_=>{ }
theorem zgM:zM (pl).P 54 Tryz.f54 1:=bL kw
theorem zp6(x:TS):rn pl 0 zq9 Tryz.f54 [zI Q6 x] []=br (Q0 ((↑(Io x):Int)>20)) (Qc (Q0 (0<=0)&&Q0 (0<=20)&&Q0 (20<=(↑(Io x):Int))) (Tr.ok (zQ.ret (str (Qg (toNat 20-toNat 0) (Qh (toNat 0) x))) []))) (Tr.ok (zQ.ret (str x) [])):=kw
def dz(x:TS):Sem Q6:=(ite (Q0 ((↑(Io x):Int)>20)=Q3) (Qg (toNat 20-toNat 0) (Qh (toNat 0) x)) x)
def fF(x:TS):Bool:=(ite (Q0 ((↑(Io x):Int)>20)=Q3) (ite ((Q0 (0<=0)&&Q0 (0<=20)&&Q0 (20<=(↑(Io x):Int)))=Q3) Q3 Q4) Q3)
def zmV:z8:=zY [Q6] [Q6] (λx=>fF x.1) λx=>(dz x.1,())
theorem zhF:FK 54 zmV:=by
 refine aO (zgM) λx a C b=>?_
 unfold fF at a;refine zF jm (zgM) (λid _=>b id) (zp6 x.1) ?_;generalize h:dz x.1=y;unfold dz at h
 try simp only[za.eta]
 repeat' (first|with_reducible refine vA h a (λ_ h a=>?_) (λ_ h a=>?_)|with_reducible refine dH h (λ_ h=>?_) (λ_ h=>?_)|with_reducible refine iL a (λa=>?_)|with_reducible refine zT ?_)
 all_goals first|(cases a;done)|(subst h;first|rfl)
abbrev zkT:Nat->aT:=λ_=>{ }
theorem YI:zM (pl).P 119 Tryz.f119 3:=bL kw
theorem zj2(h:Sem zf.sl)(x:zq)(a:zo):rn pl 0 zkT Tryz.f119 [zI zf.sl h,zI zj x,zI zf a] []=let b:=getD h (toNat x) (zi zf);Qc (cond (Q0 (x>=0)) (cond (Q0 (x<(↑(Io h):Int))) (zK x (Io h)) Q3) Q3) (Tr.ok (zQ.ret (AV.bool (cond (Q0 (x>=0)) (cond (Q0 (x<(↑(Io h):Int))) (b.1==a.1&&(b.2.1==a.2.1&&(b.2.2==a.2.2&&Q3))) Q4) Q4)) [])):=kw
def bC(h:Sem zf.sl)(x:zq)(a:zo):Sem Q7:=(cond (Q0 (x>=0)) (cond (Q0 (x<(↑(Io h):Int))) ((getD h (toNat x) (zi zf)).1==a.1&&((getD h (toNat x) (zi zf)).2.1==a.2.1&&((getD h (toNat x) (zi zf)).2.2==a.2.2&&Q3))) Q4) Q4)
def By(h:Sem zf.sl)(x:zq)(_:zo):Bool:=(ite ((cond (Q0 (x>=0)) (cond (Q0 (x<(↑(Io h):Int))) (zK x (Io h)) Q3) Q3)=Q3) Q3 Q4)
def ze0:z8:=zY [zf.sl,zj,zf] [Q7] (λx=>By x.1 x.2.1 x.2.2.1) λx=>(bC x.1 x.2.1 x.2.2.1,())
theorem Qs:FK 119 ze0:=by
 refine aO (YI) λx a C b=>?_
 unfold By at a;refine zF jm (YI) (λid _=>b id) (zj2 x.1 x.2.1 x.2.2.1) ?_;generalize h:bC x.1 x.2.1 x.2.2.1=y;unfold bC at h
 skip
 repeat' (first|with_reducible refine vA h a (λ_ h a=>?_) (λ_ h a=>?_)|with_reducible refine dH h (λ_ h=>?_) (λ_ h=>?_)|with_reducible refine iL a (λa=>?_)|with_reducible refine zT ?_)
 all_goals first|(cases a;done)|(subst h;first|rfl)
abbrev zgw:Nat->aT:=λj=>if j=2 then{slots:=[0,1,5]}else{ }
abbrev EF(l:zP)(s:TS)(i:Int):St:={tmps:=(tm 21 [(0,sl zk l),(1,str s),(5,ai i)]),heap:=[]}
theorem RN:zM (pl).P 61 Tryz.f61 2:=bL kw
theorem zp4(x:Sem zk.sl)(h:TS):rn pl 0 zgw Tryz.f61 [zI zk.sl x,zI Q6 h] []=Tr.ok (zQ.head 2 (aa Tryz.f61 2) (EF x h 0)):=kw
theorem RX(l:zP)(s:TS)(i:Int):rh pl 0 zgw Tryz.f61 2 (EF l s i)=br (Q0 (i<(↑l.length:Int))) (Qc (zK i (Io l)) (br ((l.getD i.toNat (zi zk)).1.1==s) (Tr.ok (zQ.ret (ai i) [])) (Tr.ok (zQ.head 2 (aa Tryz.f61 2) (EF l s (Γ Δ (i+1))))))) (Tr.ok (zQ.ret (ai (-1)) [])):=kw
def gX(s:TS):List
 ah->Int->zq
 |[],_=>(-1)
 |x::r,i=>(ite ((x.1.1==s)=Q3) i (gX s r (i+1)))
variable {C:ew}
theorem zbM(d:∀id,C.ρ0 id=Q2)(s:TS)(l:List
 ah) (j:Io l<=aJ):∀(m i:Nat),Io l-i=m->i<=Io l->
  Reach (pl) C 61 (aa Tryz.f61 2) (EF l s (i:Int)) (λr h=>aS h [zj] r=Q1 (gX s (l.drop i) i,())):=by
 intro m
 induction m with
 | zero=>
  intro i g e;obtain rfl:i=Io l:=by omega
  rw[jM];refine zF jm (RN) (λid _=>d id) (RX _ _ _) ?_;generalize x:gX s [] _=y;rw[gX]at x;simp only[zG,Tr.val_brF];repeat' (first|with_reducible refine dH x (λ_ x=>?_) (λ_ x=>?_)|with_reducible refine zT ?_)
  all_goals first|(cases hc;done)|(subst x;first|rfl)
 | succ m I=>
  intro i g e;have a:i<Io l:=by omega
  have I:=I (i+1);have b:((i:Int)+1)=((i+1:Nat):Int):=by omega
  have c:=zt i ow;rw[fO a];refine zF jm (RN) (λid _=>d id) (RX _ _ _) ?_;generalize x:gX s (l[i]::l.drop (i+1)) (i:Int)=y;rw[gX]at x;simp only[zL a,zz a,cP l _ a,c,Tr.val_brT,Tr.val_chkT];clear c
  try simp only[zz a]at x
  simp only[b]at x;repeat' (first|with_reducible refine dH x (λ_ x=>?_) (λ_ x=>?_)|with_reducible refine zT ?_)
  all_goals first|(cases hc;done)|(subst x;first|(change Reach _ _ _ _ _ _;apply I<;>first|omega|assumption)|rfl)
theorem VB(x:∀id,C.ρ0 id=Q2)(s:TS)(l:List
 ah):
  Reach (pl) C 61 (aa Tryz.f61 2) (EF l s 0) (λr h=>aS h [zj] r=Q1 (gX s l 0,())):=
 Reach.len 0 zk l rfl λa=>zbM x s l a _ 0 rfl (aL _)
def lM(x:Sem zk.sl)(h:TS):zq:=(gX h x 0)
def zmI:z8:=aN [zk.sl,Q6] [zj] λx=>(lM x.1 x.2.1,())
theorem zhr:FK 61 zmI:=by
 refine al (RN) λx C a=>?_
 refine zF jm (RN) (λid _=>a id) (zp4 x.1 x.2.1) ?_;generalize h:lM x.1 x.2.1=y;unfold lM at h
 try simp only[za.eta]
 repeat' (first|with_reducible refine dH h (λ_ h=>?_) (λ_ h=>?_)|with_reducible refine zT ?_)
 all_goals first|(cases hc;done)|(subst h;first|(change Reach _ _ _ _ _ _;apply VB a<;>first|assumption|exact hc)|rfl)
def sQ:=pl.addL [(259,zn3),(54,zmV),(119,ze0),(61,zmI)]
theorem kT:zu sQ:=jm.addL<|fc ziU<|fc zhF<|fc Qs<|fc zhr iw
theorem JP(x:eU)(c:Int)(v:zo):By x c v=Q3:=by
 unfold By;by_cases h:(c:Int)>=0
 .by_cases a:c<(Io x:Int)
  .have b:zK c (Io x)=Q3:=by simp[zK];exact⟨h,a⟩
   simp[zy h,zy a,b]
  .simp[zy h,ae a]
 .simp[ae h]
def ze1:z8:=aN [Sh.sl zf,zj,zf] [Q7] λx=>(bC x.1 x.2.1 x.2.2.1,())
theorem zbi:FK 119 ze1:=ol Qs λx=>JP x.1 x.2.1 x.2.2.1
abbrev zgy:Nat->aT:=λj=>if j=3 then{slots:=[0,3,4],prom:=[(3,Q2,.str)]}else{ }
abbrev EG(h:LS)(i:Int)(l:LS):St:={tmps:=(tm 24 [(0,sl Q6 h),(3,AV.vec 0),(4,ai i)]),heap:=[AO.vec Q6 l]}
theorem RO:zM (sQ).P 55 Tryz.f55 1:=bL kw
theorem zp7(x:Sem Sh.str.sl):rn sQ 0 zgy Tryz.f55 [zI Sh.str.sl x] []=Tr.ok (zQ.head 3 (aa Tryz.f55 3) (EG x 0 [])):=kw
theorem RY(h:LS)(i:Int)(l:LS):rh sQ 0 zgy Tryz.f55 3 (EG h i l)=br (cond (Q0 (i<(↑h.length:Int))) (Q0 (i<10)) Q4) (Qc (zK i (Io h)) (Qc (fF (h.getD i.toNat (zi Q6))) (Qc (Q0 (Io l+[dz (h.getD i.toNat (zi Q6))].length<=1073741824)) (Tr.ok (zQ.head 3 (aa Tryz.f55 3) (EG h (Γ Δ (i+1)) (l++[dz (h.getD i.toNat (zi Q6))]))))))) (Tr.ok (zQ.ret (AV.vec 0) [AO.vec Q6 l])):=kw
def eO:List (Sem Q6)->Int->List (Sem Q6)->Sem Sh.str.sl
 |[],_,l=>(l)
 |x::r,i,l=>(ite (Q0 (i<10)=Q3) (eO r (i+1) (l++[dz x])) l)
def fW:List (Sem Q6)->Int->List (Sem Q6)->Bool
 |[],_,_=>(Q3)
 |x::r,i,l=>(if Q0 (i<10)=Q3 then
 if fF x=Q3 then if Q0 (Io l+[dz x].length<=1073741824)=Q3 then fW r (i+1) (l++[dz x])else Q4 else Q4
else Q3)
theorem zbN(g:∀id,C.ρ0 id=Q2)(d:LS)(n:Io d<=aJ):∀(m i:Nat)(l:LS),Io d-i=m->i<=Io d->fW (d.drop i) i l=Q3->
  Reach (sQ) C 55 (aa Tryz.f55 3) (EG d (i:Int) l) (λr h=>aS h [Sh.str.sl] r=Q1 (eO (d.drop i) i l,())):=by
 intro m
 induction m with
 | zero=>
  intro i l k j x;obtain rfl:i=Io d:=by omega
  rw[jM]at x|-;refine zF kT (RO) (λid _=>g id) (RY _ _ _) ?_;rw[fW]at x;generalize a:eO [] _ l=y;rw[eO]at a;simp only[zG,aA,Tr.val_brF];repeat' (first|with_reducible refine vA a x (λ_ a x=>?_) (λ_ a x=>?_)|with_reducible refine dH a (λ_ a=>?_) (λ_ a=>?_)|with_reducible refine iL x (λx=>?_)|with_reducible refine zT ?_)
  all_goals first|(cases x;done)|(subst a;first|rfl)
 | succ m I=>
  intro i l k j x;have b:i<Io d:=by omega
  have I:=I (i+1);have c:((i:Int)+1)=((i+1:Nat):Int):=by omega
  have e:=zt i ow;rw[fO b]at x|-;refine zF kT (RO) (λid _=>g id) (RY _ _ _) ?_;rw[fW]at x;generalize a:eO (d[i]::d.drop (i+1)) (i:Int) l=y;rw[eO]at a;simp only[zL b,zz b,cP d _ b,e,ax];clear e
  try simp only[zz b]at a
  simp only[c]at a
  try simp only[zz b]at x
  try simp only[c]at x
  repeat' (first|with_reducible refine vA a x (λ_ a x=>?_) (λ_ a x=>?_)|with_reducible refine dH a (λ_ a=>?_) (λ_ a=>?_)|with_reducible refine iL x (λx=>?_)|with_reducible refine zT ?_)
  all_goals first|(cases x;done)|(subst a;first|(change Reach _ _ _ _ _ _;apply I<;>first|omega|assumption)|rfl)
theorem VC(a:∀id,C.ρ0 id=Q2)(x l:LS)(b:fW x 0 l=Q3):
  Reach (sQ) C 55 (aa Tryz.f55 3) (EG x 0 l) (λr h=>aS h [Sh.str.sl] r=Q1 (eO x 0 l,())):=
 Reach.len 0 (Q6) x rfl λc=>zbN a x c _ 0 l rfl (aL _) b
def kF(x:Sem Sh.str.sl):Sem Sh.str.sl:=(eO x 0 [])
def ql(x:Sem Sh.str.sl):Bool:=(fW x 0 [])
def zmX:z8:=zY [Sh.str.sl] [Sh.str.sl] (λx=>ql x.1) λx=>(kF x.1,())
theorem zhH:FK 55 zmX:=by
 refine aO (RO) λx h C b=>?_
 unfold ql at h;refine zF kT (RO) (λid _=>b id) (zp7 x.1) ?_;generalize a:kF x.1=y;unfold kF at a
 try simp only[za.eta]
 repeat' (first|with_reducible refine vA a h (λ_ a h=>?_) (λ_ a h=>?_)|with_reducible refine dH a (λ_ a=>?_) (λ_ a=>?_)|with_reducible refine iL h (λh=>?_)|with_reducible refine zT ?_)
 all_goals first|(cases h;done)|(subst a;first|(change Reach _ _ _ _ _ _;apply VC b<;>first|assumption|exact h)|rfl)
abbrev BC(s:zH)(l:zP)(i:Int):St:={tmps:=[.sl zk l,.clo (.func 259) [] [.ptr 0 0],.any,.any,.any,.any,.any,.int .i64 (Io l),.int .i64 i,.any,.any,.any,.any,.any,.any,.any,.any,.any,.any],heap:=[.box [.str s]]}
theorem W8(s:zH)(l:zP):run sQ 1 AM Tryz.f258.results.toList 300 (bq Tryz.f258) (aY Tryz.f258.ntmps [.sl zk l,.clo (.func 259) [] [.ptr 0 0]] [.box [.str s]])=.ok (.head 2 (aa Tryz.f258 2) (BC s l 0)):=kw
theorem YW(s:zH)(l:zP)(i:Int):run sQ 1 AM Tryz.f258.results.toList 300 (aa Tryz.f258 2) (BC s l i)=oI (K:=aa Tryz.f258 2) (e:=zk) l (λx=>x.1.1==s) (BC s l) [.box [.str s]] i:=kw
theorem YP:zM sQ.P 258 Tryz.f258 2:=bL kw
def zpm:eW [Q1 (.sl zk),Q2]:=λx h=>match x,h with
 |(l,.clo (.func 259) [] [.ptr 0 0],_),[.box [.str s]]=>.ok (.int .i64 (ab (λx=>x.1.1==s) l 0),[.box [.str s]])
 |_,_=>.err
def zn2:z8:=aW [Q1 (.sl zk),Q2] zpm
theorem ziS:FK 258 zn2:=by
 refine dc YP λx d c h C a=>?_
 unfold zpm at h;split at h
 .rename_i l u s;simp only[Tr.val_ok,bj]at h;subst h;refine Reach.len 0 zk l rfl λb=>?_
  refine zF (n0:=1) kT YP a (W8 s l) ?_;exact kZ l (λx=>x.1.1==s) (BC s l) kT YP a (YW s l) b _ 0 rfl (aL _)
 .simp at h
def LB:=sQ.addL [(119,ze1),(55,zmX),(258,zn2)]
theorem xm:zu LB:=kT.addL<|fc zbi<|fc zhH<|fc ziS iw
def zeZ:z8:=aW (List.replicate 3 Q2) (eJ LB Tryz.f303 (List.replicate 3 Q2))
theorem zbh:FK 303 zeZ:=bT _ xm (bL kw)
abbrev zrq:Nat->aT:=λ_=>{ }
theorem zgP:zM (LB).P 205 Tryz.f205 2:=bL kw
theorem zqg(h:Sem zk.sl)(a:TS):rn LB 0 zrq Tryz.f205 [zI zk.sl h,zI Q6 a] []=Tr.ok (zQ.ret (ai (ab (λx=>x.1.1==a) h 0)) []):=kw
def ac(h:Sem zk.sl)(a:TS):zq:=(ab (λx=>x.1.1==a) h 0)
def znr:z8:=aN [zk.sl,Q6] [zj] λx=>(ac x.1 x.2.1,())
theorem zid:FK 205 znr:=by
 refine al (zgP) λx C a=>?_
 refine zF xm (zgP) (λid _=>a id) (zqg x.1 x.2.1) ?_;generalize h:ac x.1 x.2.1=y;unfold ac at h
 try simp only[za.eta]
 repeat' (first|with_reducible refine dH h (λ_ h=>?_) (λ_ h=>?_)|with_reducible refine zT ?_)
 all_goals first|(cases hc;done)|(subst h;first|rfl)
def LD:=LB.addL [(303,zeZ),(205,znr)]
theorem xn:zu LD:=xm.addL<|fc zbh<|fc zid iw
abbrev sf(c a b:Int)(s:zH)(l:List eU)(i:Int):St:={tmps:=[.sl (Sh.sl zf) l,.clo (.func 303) [] [.ptr 0 0,.ptr 1 0],.any,.any,.any,.any,.any,.int .i64 (Io l),.int .i64 i,.any,.any,.any,.any,.any,.any,.any,.any,.any,.any],heap:=[.box [.int .i64 c],.box [.int .i64 a,.int .i64 b,.str s]]}
theorem O2(c a b:Int)(s:zH)(l:List eU):run LD 2 AM Tryz.f117.results.toList 300 (bq Tryz.f117) (aY Tryz.f117.ntmps [.sl (Sh.sl zf) l,.clo (.func 303) [] [.ptr 0 0,.ptr 1 0]] [.box [.int .i64 c],.box [.int .i64 a,.int .i64 b,.str s]])=.ok (.head 2 (aa Tryz.f117 2) (sf c a b s l 0)):=kw
theorem Pq(c a b:Int)(s:zH)(l:List eU)(i:Int):run LD 2 AM Tryz.f117.results.toList 300 (aa Tryz.f117 2) (sf c a b s l i)=oI (K:=aa Tryz.f117 2) (e:=(Sh.sl zf)) l (λx=>bC x c (a,b,s)) (sf c a b s l) [.box [.int .i64 c],.box [.int .i64 a,.int .i64 b,.str s]] i:=kw
theorem Po:zM LD.P 117 Tryz.f117 2:=bL kw
def zfq:eW [Q1 (.sl (Sh.sl zf)),Q2]:=λx h=>match x,h with
 |(l,.clo (.func 303) [] [.ptr 0 0,.ptr 1 0],_),[.box [.int .i64 c],.box [.int .i64 a,.int .i64 b,.str s]]=>.ok (.int .i64 (ab (λx=>bC x c (a,b,s)) l 0),[.box [.int .i64 c],.box [.int .i64 a,.int .i64 b,.str s]])
 |_,_=>.err
def ze9:z8:=aW [Q1 (.sl (Sh.sl zf)),Q2] zfq
theorem zbp:FK 117 ze9:=by
 refine dc Po λx i g h C d=>?_
 unfold zfq at h;split at h
 .rename_i l u c a b s;simp only[Tr.val_ok,bj]at h;subst h;refine Reach.len 0 (Sh.sl zf) l rfl λe=>?_
  refine zF (n0:=2) xn Po d (O2 c a b s l) ?_;exact kZ l (λx=>bC x c (a,b,s)) (sf c a b s l) xn Po d (Pq c a b s l) e _ 0 rfl (aL _)
 .simp at h
def WB:=LD.add 117 ze9
theorem Gv:zu WB:=xn.add zbp
def zeY:z8:=aW (List.replicate 2 Q2) (eJ WB Tryz.f302 (List.replicate 2 Q2))
theorem zbg:FK 302 zeY:=bT _ Gv (bL kw)
def QZ:=WB.add 302 zeY
theorem xp:zu QZ:=Gv.add zbg
abbrev zkI:Nat->aT:=λ_=>{ }
theorem YF:zM (QZ).P 257 Tryz.f257 3:=bL kw
theorem zjW(h:ah)(a:zq)(b:zo):rn QZ 0 zkI Tryz.f257 [zI zk h,zI zj a,zI zf b] []=Tr.ok (zQ.ret (AV.bool (Q0 (ab (λx=>bC x a b) h.2 0>=0))) []):=kw
def fY(h:ah)(a:zq)(b:zo):Sem Q7:=(Q0 (ab (λx=>bC x a b) h.2 0>=0))
def zev:z8:=aN [zk,zj,zf] [Q7] λx=>(fY x.1 x.2.1 x.2.2.1,())
theorem zaN:FK 257 zev:=by
 refine al (YF) λx C a=>?_
 refine zF xp (YF) (λid _=>a id) (zjW x.1 x.2.1 x.2.2.1) ?_;generalize h:fY x.1 x.2.1 x.2.2.1=y;unfold fY at h
 try simp only[za.eta]
 repeat' (first|with_reducible refine dH h (λ_ h=>?_) (λ_ h=>?_)|with_reducible refine zT ?_)
 all_goals first|(cases hc;done)|(subst h;first|rfl)
abbrev zkH:=kl [(3,[1,5,11,12,13])]
inductive FS where
 |h3 (i1:zq) (l11:List (Sem zf.sl)) (i12:Int) (i13:Int) (mh_0:List ((Int×Int×zH)×Int))
abbrev zpJ:FS->Nat×St
 |.h3 x l i h m=>(3,⟨tm 37 [(1,ai x),(5,AV.mp 0),(11,sl zf.sl l),(12,ai i),(13,ai h)],[AO.vmap Q4 m]⟩)
def zgf(x:ah)(h:zq):Tr (FS⊕aw):=Q9 (FS.h3 h x.2 (↑(Io x.2):Int) 0 [])
def AA:FS->Tr (FS⊕aw)
 | .h3 x l h i m=>
  let b:=l.getD i.toNat (zi zf.sl)
  let a:=getD b (toNat x) (zi zf)
  let c:=(↑(lW m a):Int)
  let d:=jZ m a
  let e:=kq d c.toNat (Γ Δ (gQ m a+1))
  let g:=gQ e a
  br (Q0 (i<h))
  (Qc (zK i (Io l))
   (Qc (zK x (Io b)) (Qc (Q0 (Io m<=1073741824)) (Qc (zK c (Io d)) (br (cond (a.1!=0) (Q0 (g>1)) Q4) (re (kb Q3) []) (Q9 (FS.h3 x l h (Γ Δ (i+1)) e)))))))
  (re (kb Q4) [])
def Bz(x:ah)(h:zq):=ao [Q7] AA 100000000 (zgf x h)
def sb(x:ah)(h:zq):=(Bz x h).isSome
def yg(x:ah)(h:zq):=o1 (Bz x h)
def zeu:=FT [zk,zj] [Q7] λx=>Bz x.1 x.2.1
theorem zaM:FK 49 zeu:=xp.T1 (f:=Tryz.f49) (keep:=zkH) (e:=zpJ)
def zfI:=QZ.addL [(257,zev),(49,zeu)]
theorem xq:zu zfI:=xp.addL<|fc zaN<|fc zaM iw
abbrev zrC:=kl [(6,[1,18,19,20]),(15,[1,39,40,41]),(21,[1,8])]
inductive Fp where
 |h6 (l18:List (Sem zf.sl)) (i19:Int) (i20:Int) (z0:zn [CP.d zk])
 |h15 (l39:LI) (i40:Int) (i41:Int) (z0:zn [CP.d zk])
 |h21 (i8:Int) (z0:zn [CP.d zk])
abbrev zun:Fp->Nat×St
 |.h6 l i h z=>(6,⟨tm 79 [(1,Qf 0 0),(18,sl zf.sl l),(19,ai i),(20,ai h)],[Qa (bI [] [CP.d zk] z)]⟩)
 |.h15 b x a z=>(15,⟨tm 79 [(1,Qf 0 0),(39,sl zj b),(40,ai x),(41,ai a)],[Qa (bI [] [CP.d zk] z)]⟩)
 |.h21 c z=>(21,⟨tm 79 [(1,Qf 0 0),(8,ai c)],[Qa (bI [] [CP.d zk] z)]⟩)
def T5(x:ah):Tr (Fp⊕aw):=br (!dX (x.1.1,x.1.2.1,x.1.2.2.1,x.1.2.2.2.1,x.1.t.1,zr x.1.t.2)) (re (ai 1) []) (br (Q0 ((↑(Io x.2):Int)>200)) (re (ai 13) []) (Q9 (Fp.h6 x.2 (↑(Io x.2):Int) 0 (x,()))))
def iv:Fp->Tr (Fp⊕aw)
 | .h6 l d i z=>
  let x:=(z.1.1.1,z.1.1.2.1,z.1.1.2.2.1,z.1.1.2.2.2.1,z.1.1.t.1,zr z.1.1.t.2)
  let a:=cy x (l.getD i.toNat (zi zf.sl))
  let c:=(x,z.1.2)
  br (Q0 (i<d))
  (Qc (zK i (Io l)) (br (a !=0) (re (ai a) []) (Q9 (Fp.h6 l d (Γ Δ (i+1)) z))))
  (Qc (sb c z.1.1.2.2.1)
   (br (yg c z.1.1.2.2.1) (re (ai 7) []) (Q9 (Fp.h15 z.1.1.2.2.2.1 (↑(Io z.1.1.2.2.2.1):Int) 0 z))))
 | .h15 b e h z=>
  let x:=((z.1.1.1,z.1.1.2.1,z.1.1.2.2.1,z.1.1.2.2.2.1,z.1.1.t.1,zr z.1.1.t.2),z.1.2)
  let a:=b.getD h.toNat (zi zj)
  br (Q0 (h<e))
  (Qc (zK h (Io b))
   (Qc (sb x a) (br (yg x a) (re (ai 7) []) (Q9 (Fp.h15 b e (Γ Δ (h+1)) z)))))
  (Q9 (Fp.h21 1 z))
 | .h21 g z=>
  let x:=(↑(Io z.1.2):Int)
  let a:=Γ Δ (g-1)
  let c:=getD z.1.2 a.toNat (zi zf.sl)
  let j:=getD z.1.2 g.toNat (zi zf.sl)
  let k:=aV (getD c (toNat z.1.1.2.2.1) (zi zf)) (getD j (toNat z.1.1.2.2.1) (zi zf))
  br (Q0 (g<x))
  (Qc (zK a (Io z.1.2))
   (Qc (zK z.1.1.2.2.1 (Io c)) (Qc (zK g (Io z.1.2)) (Qc (zK z.1.1.2.2.1 (Io j)) (br (Q0 (k>=0)) (re (ai 15) []) (Q9 (Fp.h21 (Γ Δ (g+1)) z)))))))
  (re (ai 0) [])
def o8(x:ah):=ao [zj] iv 100000000 (T5 x)
def JM(x:ah):=(o8 x).isSome
def PP(x:ah):=o1 (o8 x)
def znK:=FT [zk] [zj] λx=>o8 x.1
theorem ziA:FK 23 znK:=xq.T1 (f:=Tryz.f23) (keep:=zrC) (e:=zun)
abbrev zrD:=kl [(2,[0,11,12,13]),(5,[0,4,11,12,13,19,20,21]),(11,[0,4,6,7,11,12,13,19,20,21,32,33,34])]
inductive Fq where
 |h2 (l0:zP) (l11:zP) (i12:Int) (i13:Int)
 |h5 (l0:zP) (l11:zP) (i12:Int) (i13:Int) (l19:LF) (i20:Int) (i21:Int) (z0:zn [CP.d zk])
 |h11 (l0:zP) (i7:zq) (l11:zP) (i12:Int) (i13:Int) (l19:LF) (i20:Int) (i21:Int) (l32:List (Sem zf.sl)) (i33:Int) (i34:Int) (z0:zn [CP.d zk]) (z1:zn [CP.d zA])
abbrev zuo:Fq->Nat×St
 |.h2 c l i h=>(2,⟨tm 64 [(0,sl zk c),(11,sl zk l),(12,ai i),(13,ai h)],[]⟩)
 |.h5 c l i h b x a z=>(5,⟨tm 64 [(0,sl zk c),(4,Qf 0 0),(11,sl zk l),(12,ai i),(13,ai h),(19,sl zA b),(20,ai x),(21,ai a)],[Qa (bI [] [CP.d zk] z)]⟩)
 |.h11 c k l i h b x a j e g z m=>(11,⟨tm 64 [(0,sl zk c),(4,Qf 0 0),(6,Qf 1 0),(7,ai k),(11,sl zk l),(12,ai i),(13,ai h),(19,sl zA b),(20,ai x),(21,ai a),(32,sl zf.sl j),(33,ai e),(34,ai g)],[Qa (bI [] [CP.d zk] z),Qa (bI [] [CP.d zA] m)]⟩)
def zqV(x:Sem zk.sl):Tr (Fq⊕aw):=Q9 (Fq.h2 x x (↑(Io x):Int) 0)
def gZ:Fq->Tr (Fq⊕aw)
 | .h2 c l h i=>
  let d:=l.getD i.toNat (zi zk)
  br (Q0 (i<h))
  (Qc (zK i (Io l)) (Q9 (Fq.h5 c l h i d.1.t.1 (↑(Io d.1.t.1):Int) 0 (d,()))))
  (re (kb Q3) [])
 | .h5 c l h i a b x z=>
  let d:=a.getD x.toNat (zi zA)
  let k:=ac c d.2
  br (Q0 (x<b))
  (Qc (zK x (Io a))
   (br (Q0 (k<0)) (re (kb Q4) []) (Q9 (Fq.h11 c k l h i a b x z.1.2 (↑(Io z.1.2):Int) 0 z (d,())))))
  (Q9 (Fq.h2 c l h (Γ Δ (i+1))))
 | .h11 c n l h i a b x j m e z o=>
  let d:=j.getD e.toNat (zi zf.sl)
  let k:=getD d (toNat o.1.1) (zi zf)
  let p:=k.1!=0
  let g:=c.getD (toNat n) (zi zk)
  br (Q0 (e<m))
  (Qc (zK e (Io j))
   (Qc (zK o.1.1 (Io d)) (Qc (cond p (zK n (Io c)&&zK n (Io c)) Q3) (br (cond p (!fY ((g.1.1,g.1.2.1,g.1.2.2.1,g.1.2.2.2.1,g.1.t.1,zr g.1.t.2),g.2) g.1.2.2.1 k) Q4) (re (kb Q4) []) (Q9 (Fq.h11 c n l h i a b x j m (Γ Δ (e+1)) z o))))))
  (Q9 (Fq.h5 c l h i a b (Γ Δ (x+1)) z))
def AX(x:Sem zk.sl):=ao [Q7] gZ 100000000 (zqV x)
def Ic(x:Sem zk.sl):=(AX x).isSome
def N7(x:Sem zk.sl):=o1 (AX x)
def znL:=FT [zk.sl] [Q7] λx=>AX x.1
theorem ziB:FK 203 znL:=xq.T1 (f:=Tryz.f203) (keep:=zrD) (e:=zuo)
def zfJ:=zfI.addL [(23,znK),(203,znL)]
theorem Gw:zu zfJ:=xq.addL<|fc ziA<|fc ziB iw
abbrev zrf:=kl [(4,[0,3]),(9,[0,30,31,32])]
inductive KJ where
 |h4 (l0:zP) (i3:Int)
 |h9 (l0:zP) (l30:zP) (i31:Int) (i32:Int)
abbrev zt8:KJ->Nat×St
 |.h4 l a=>(4,⟨tm 45 [(0,sl zk l),(3,ai a)],[]⟩)
 |.h9 l x i h=>(9,⟨tm 45 [(0,sl zk l),(30,sl zk x),(31,ai i),(32,ai h)],[]⟩)
def zcV(x:Sem zk.sl):Tr (KJ⊕aw):=br (Q0 ((↑(Io x):Int)>12)) (re (ai 13) []) (Q9 (KJ.h4 x 1))
def pe:KJ->Tr (KJ⊕aw)
 | .h4 l x=>
  let a:=Γ Δ (x-1)
  let c:=l.getD a.toNat (zi zk)
  let d:=l.getD x.toNat (zi zk)
  br (Q0 (x<(↑l.length:Int)))
  (Qc (zK a (Io l))
   (Qc (zK x (Io l)) (br (!Op.bytesLess c.1.1 d.1.1) (re (ai 15) []) (Q9 (KJ.h4 l (Γ Δ (x+1)))))))
  (Q9 (KJ.h9 l l (↑l.length:Int) 0))
 | .h9 l h b i=>
  let a:=h.getD i.toNat (zi zk)
  let c:=((a.1.1,a.1.2.1,a.1.2.2.1,a.1.2.2.2.1,a.1.t.1,zr a.1.t.2),a.2)
  let d:=PP c
  br (Q0 (i<b))
  (Qc (zK i (Io h))
   (Qc (JM c) (br (d !=0) (re (ai d) []) (Q9 (KJ.h9 l h b (Γ Δ (i+1)))))))
  (Qc (Ic l) (br (!N7 l) (re (ai 10) []) (re (ai 0) [])))
def uC(x:Sem zk.sl):=ao [zj] pe 100000000 (zcV x)
def oo(x:Sem zk.sl):=(uC x).isSome
def ll(x:Sem zk.sl):=o1 (uC x)
def znb:=FT [zk.sl] [zj] λx=>uC x.1
theorem zhX:FK 145 znb:=Gw.T1 (f:=Tryz.f145) (keep:=zrf) (e:=zt8)
def di:=zfJ.add 145 znb
theorem bz:zu di:=Gw.add zhX
abbrev am:Sh:=.pr .str (.pr .str (.pr .str (.pr ak (.pr (.sl zj) zj))))
abbrev ap:=Sem am
abbrev bB:List CP:=[.d (.sl zk),.d ar,.d ak,.d ak,.d .str,.d .str,.d .str,.d .str,.nil,.d zj,.nil,.nil,.d .expr,.nil,.d zj]
abbrev az:List CP:=[.d (.sl zk),.d ar,.d ak,.d ak,.d .str,.d .str,.d .str,.d .str,.vec zl,.d zj,.nil,.nil,.d .expr,.d (.sl zj),.d zj]
abbrev zgD:Nat->aT:=λj=>if j=2 then{slots:=[0,1,7,8]}else{ }
abbrev EI(l:LI)(i:zq)(h x:Int):St:={tmps:=(tm 19 [(0,sl zj l),(1,ai i),(7,ai h),(8,ai x)]),heap:=[]}
theorem RP:zM (di).P 200 Tryz.f200 2:=bL kw
theorem zqm(x:Sem zj.sl)(h:zq):rn di 0 zgD Tryz.f200 [zI zj.sl x,zI zj h] []=Tr.ok (zQ.head 2 (aa Tryz.f200 2) (EI x h (↑(Io x):Int) 0)):=kw
theorem R1(l:LI)(h:zq)(x i:Int):rh di 0 zgD Tryz.f200 2 (EI l h x i)=br (Q0 (i<x)) (Qc (zK i (Io l)) (br (h==l.getD i.toNat (zi zj)) (Tr.ok (zQ.ret (ai i) [])) (Tr.ok (zQ.head 2 (aa Tryz.f200 2) (EI l h x (Γ Δ (i+1))))))) (Tr.ok (zQ.ret (ai (-1)) [])):=kw
def e7(h:zq):dI->Int->zq
 |[],_=>(-1)
 |x::r,i=>(ite ((h==x)=Q3) i (e7 h r (i+1)))
theorem zbP(e:∀id,C.ρ0 id=Q2)(d:zq)(l:LI)(k:Io l<=aJ):∀(m i:Nat),Io l-i=m->i<=Io l->
  Reach (di) C 200 (aa Tryz.f200 2) (EI l d (Io l:Int) (i:Int)) (λr h=>aS h [zj] r=Q1 (e7 d (l.drop i) i,())):=by
 intro m
 induction m with
 | zero=>
  intro i j g;obtain rfl:i=Io l:=by omega
  rw[jM];refine zF bz (RP) (λid _=>e id) (R1 _ _ _ _) ?_;generalize x:e7 d [] _=y;rw[e7]at x;simp only[zG,Tr.val_brF];repeat' (first|with_reducible refine dH x (λ_ x=>?_) (λ_ x=>?_)|with_reducible refine zT ?_)
  all_goals first|(cases hc;done)|(subst x;first|rfl)
 | succ m I=>
  intro i j g;have a:i<Io l:=by omega
  have I:=I (i+1);have b:((i:Int)+1)=((i+1:Nat):Int):=by omega
  have c:=zt i ow;rw[fO a];refine zF bz (RP) (λid _=>e id) (R1 _ _ _ _) ?_;generalize x:e7 d (l[i]::l.drop (i+1)) (i:Int)=y;rw[e7]at x;simp only[zL a,zz a,cP l _ a,c,Tr.val_brT,Tr.val_chkT];clear c
  try simp only[zz a]at x
  simp only[b]at x;repeat' (first|with_reducible refine dH x (λ_ x=>?_) (λ_ x=>?_)|with_reducible refine zT ?_)
  all_goals first|(cases hc;done)|(subst x;first|(change Reach _ _ _ _ _ _;apply I<;>first|omega|assumption)|rfl)
theorem VE(x:∀id,C.ρ0 id=Q2)(i:zq)(l:LI):
  Reach (di) C 200 (aa Tryz.f200 2) (EI l i (Io l:Int) 0) (λr h=>aS h [zj] r=Q1 (e7 i l 0,())):=
 Reach.len 0 (Sh.int IntKind.i64) l rfl λa=>zbP x i l a _ 0 rfl (aL _)
def gV(x:Sem zj.sl)(h:zq):zq:=(e7 h x 0)
def znF:z8:=aN [zj.sl,zj] [zj] λx=>(gV x.1 x.2.1,())
theorem ziw:FK 200 znF:=by
 refine al (RP) λx C a=>?_
 refine zF bz (RP) (λid _=>a id) (zqm x.1 x.2.1) ?_;generalize h:gV x.1 x.2.1=y;unfold gV at h
 try simp only[za.eta]
 repeat' (first|with_reducible refine dH h (λ_ h=>?_) (λ_ h=>?_)|with_reducible refine zT ?_)
 all_goals first|(cases hc;done)|(subst h;first|(change Reach _ _ _ _ _ _;apply VE a<;>first|assumption|exact hc)|rfl)
abbrev zgE:Nat->aT:=λj=>if j=2 then{slots:=[0,1,7,8]}else{ }
abbrev EJ(l:LS)(s:TS)(i h:Int):St:={tmps:=(tm 19 [(0,sl Q6 l),(1,str s),(7,ai i),(8,ai h)]),heap:=[]}
theorem RQ:zM (di).P 260 Tryz.f260 2:=bL kw
theorem zqr(x:Sem Sh.str.sl)(h:TS):rn di 0 zgE Tryz.f260 [zI Sh.str.sl x,zI Q6 h] []=Tr.ok (zQ.head 2 (aa Tryz.f260 2) (EJ x h (↑(Io x):Int) 0)):=kw
theorem R2(l:LS)(s:TS)(h i:Int):rh di 0 zgE Tryz.f260 2 (EJ l s h i)=br (Q0 (i<h)) (Qc (zK i (Io l)) (br (s==l.getD i.toNat (zi Q6)) (Tr.ok (zQ.ret (ai i) [])) (Tr.ok (zQ.head 2 (aa Tryz.f260 2) (EJ l s h (Γ Δ (i+1))))))) (Tr.ok (zQ.ret (ai (-1)) [])):=kw
def iH(s:TS):List (Sem Q6)->Int->zq
 |[],_=>(-1)
 |x::r,i=>(ite ((s==x)=Q3) i (iH s r (i+1)))
theorem zbQ(d:∀id,C.ρ0 id=Q2)(s:TS)(l:LS)(j:Io l<=aJ):∀(m i:Nat),Io l-i=m->i<=Io l->
  Reach (di) C 260 (aa Tryz.f260 2) (EJ l s (Io l:Int) (i:Int)) (λr h=>aS h [zj] r=Q1 (iH s (l.drop i) i,())):=by
 intro m
 induction m with
 | zero=>
  intro i g e;obtain rfl:i=Io l:=by omega
  rw[jM];refine zF bz (RQ) (λid _=>d id) (R2 _ _ _ _) ?_;generalize x:iH s [] _=y;rw[iH]at x;simp only[zG,Tr.val_brF];repeat' (first|with_reducible refine dH x (λ_ x=>?_) (λ_ x=>?_)|with_reducible refine zT ?_)
  all_goals first|(cases hc;done)|(subst x;first|rfl)
 | succ m I=>
  intro i g e;have a:i<Io l:=by omega
  have I:=I (i+1);have b:((i:Int)+1)=((i+1:Nat):Int):=by omega
  have c:=zt i ow;rw[fO a];refine zF bz (RQ) (λid _=>d id) (R2 _ _ _ _) ?_;generalize x:iH s (l[i]::l.drop (i+1)) (i:Int)=y;rw[iH]at x;simp only[zL a,zz a,cP l _ a,c,Tr.val_brT,Tr.val_chkT];clear c
  try simp only[zz a]at x
  simp only[b]at x;repeat' (first|with_reducible refine dH x (λ_ x=>?_) (λ_ x=>?_)|with_reducible refine zT ?_)
  all_goals first|(cases hc;done)|(subst x;first|(change Reach _ _ _ _ _ _;apply I<;>first|omega|assumption)|rfl)
theorem VG(x:∀id,C.ρ0 id=Q2)(s:TS)(l:LS):
  Reach (di) C 260 (aa Tryz.f260 2) (EJ l s (Io l:Int) 0) (λr h=>aS h [zj] r=Q1 (iH s l 0,())):=
 Reach.len 0 (Q6) l rfl λa=>zbQ x s l a _ 0 rfl (aL _)
def Ml(x:Sem Sh.str.sl)(h:TS):zq:=(iH h x 0)
def zn0:z8:=aN [Sh.str.sl,Q6] [zj] λx=>(Ml x.1 x.2.1,())
theorem ziQ:FK 260 zn0:=by
 refine al (RQ) λx C a=>?_
 refine zF bz (RQ) (λid _=>a id) (zqr x.1 x.2.1) ?_;generalize h:Ml x.1 x.2.1=y;unfold Ml at h
 try simp only[za.eta]
 repeat' (first|with_reducible refine dH h (λ_ h=>?_) (λ_ h=>?_)|with_reducible refine zT ?_)
 all_goals first|(cases hc;done)|(subst h;first|(change Reach _ _ _ _ _ _;apply VG a<;>first|assumption|exact hc)|rfl)
abbrev XT:Nat->aT:=λj=>if j=2 then{slots:=[0,3,7,8]}else{ }
abbrev wi(l:LF)(i x:Int)(j:zq)(h:TS):St:={tmps:=(tm 19 [(0,sl zA l),(3,Qf 0 0),(7,ai i),(8,ai x)]),heap:=[Qa [ai j,str h]]}
theorem I4:zM (di).P 253 Tryz.f253 2:=bL kw
theorem zjV(x:Sem zA.sl)(h:bV):rn di 0 XT Tryz.f253 [zI zA.sl x,zI zA h] []=Tr.ok (zQ.head 2 (aa Tryz.f253 2) (wi x (↑(Io x):Int) 0 h.1 h.2)):=kw
theorem MH(l:LF)(x i:Int)(j:zq)(h:TS):rh di 0 XT Tryz.f253 2 (wi l x i j h)=br (Q0 (i<x)) (Qc (zK i (Io l)) (br (j==(l.getD i.toNat (zi zA)).1&&(h==(l.getD i.toNat (zi zA)).2&&Q3)) (Tr.ok (zQ.ret (ai i) [])) (Tr.ok (zQ.head 2 (aa Tryz.f253 2) (wi l x (Γ Δ (i+1)) j h))))) (Tr.ok (zQ.ret (ai (-1)) [])):=kw
def iG(j:zq)(h:TS):dp->Int->zq
 |[],_=>(-1)
 |x::r,i=>(ite ((j==x.1&&(h==x.2&&Q3))=Q3) i (iG j h r (i+1)))
theorem VA(e:∀id,C.ρ0 id=Q2)(j:zq)(b:TS)(l:LF)(n:Io l<=aJ):∀(m i:Nat),Io l-i=m->i<=Io l->
  Reach (di) C 253 (aa Tryz.f253 2) (wi l (Io l:Int) (i:Int) j b) (λr h=>aS h [zj] r=Q1 (iG j b (l.drop i) i,())):=by
 intro m
 induction m with
 | zero=>
  intro i k g;obtain rfl:i=Io l:=by omega
  rw[jM];refine zF bz (I4) (λid _=>e id) (MH _ _ _ _ _) ?_;generalize x:iG j b [] _=y;rw[iG]at x;simp only[zG,Tr.val_brF];repeat' (first|with_reducible refine dH x (λ_ x=>?_) (λ_ x=>?_)|with_reducible refine zT ?_)
  all_goals first|(cases hc;done)|(subst x;first|rfl)
 | succ m I=>
  intro i k g;have a:i<Io l:=by omega
  have I:=I (i+1);have c:((i:Int)+1)=((i+1:Nat):Int):=by omega
  have d:=zt i ow;rw[fO a];refine zF bz (I4) (λid _=>e id) (MH _ _ _ _ _) ?_;generalize x:iG j b (l[i]::l.drop (i+1)) (i:Int)=y;rw[iG]at x;simp only[zL a,zz a,cP l _ a,d,Tr.val_brT,Tr.val_chkT];clear d
  try simp only[zz a]at x
  simp only[c]at x;repeat' (first|with_reducible refine dH x (λ_ x=>?_) (λ_ x=>?_)|with_reducible refine zT ?_)
  all_goals first|(cases hc;done)|(subst x;first|(change Reach _ _ _ _ _ _;apply I<;>first|omega|assumption)|rfl)
theorem Tc(a:∀id,C.ρ0 id=Q2)(j:zq)(x:TS)(l:LF):
  Reach (di) C 253 (aa Tryz.f253 2) (wi l (Io l:Int) 0 j x) (λr h=>aS h [zj] r=Q1 (iG j x l 0,())):=
 Reach.len 0 (zj.pr Q6) l rfl λb=>VA a j x l b _ 0 rfl (aL _)
def Mj(h:Sem zA.sl)(x:bV):zq:=(iG x.1 x.2 h 0)
def zer:z8:=aN [zA.sl,zA] [zj] λx=>(Mj x.1 x.2.1,())
theorem zaJ:FK 253 zer:=by
 refine al (I4) λx C a=>?_
 refine zF bz (I4) (λid _=>a id) (zjV x.1 x.2.1) ?_;generalize h:Mj x.1 x.2.1=y;unfold Mj at h
 try simp only[za.eta]
 repeat' (first|with_reducible refine dH h (λ_ h=>?_) (λ_ h=>?_)|with_reducible refine zT ?_)
 all_goals first|(cases hc;done)|(subst h;first|(change Reach _ _ _ _ _ _;apply Tc a<;>first|assumption|exact hc)|rfl)
abbrev zq6:Nat->aT:=λ_=>{ }
theorem zgL:zM (di).P 79 Tryz.f79 1:=bL kw
theorem zp5(x:ap):rn di 0 zq6 Tryz.f79 [zI am x] []=br (x.2.2.1==[]) (Tr.ok (zQ.ret (sl Q6 [x.2.1]) [])) (Tr.ok (zQ.ret (sl Q6 [x.2.1,x.2.2.1]) [])):=kw
def lF(x:ap):Sem Sh.str.sl:=(ite ((x.2.2.1==[])=Q3) [x.2.1] [x.2.1,x.2.2.1])
def zmR:z8:=aN [am] [Sh.str.sl] λx=>(lF x.1,())
theorem zhy:FK 79 zmR:=by
 refine al (zgL) λx C a=>?_
 refine zF bz (zgL) (λid _=>a id) (zp5 x.1) ?_;generalize h:lF x.1=y;unfold lF at h
 try simp only[za.eta]
 repeat' (first|with_reducible refine dH h (λ_ h=>?_) (λ_ h=>?_)|with_reducible refine zT ?_)
 all_goals first|(cases hc;done)|(subst h;first|rfl)
def zep:z8:=aW (List.replicate 2 Q2) (eJ di Tryz.f251 (List.replicate 2 Q2))
theorem zaH:FK 251 zep:=bT _ bz (bL kw)
def yX:=di.addL [(200,znF),(260,zn0),(253,zer),(79,zmR),(251,zep)]
theorem rg:zu yX:=bz.addL<|fc ziw<|fc ziQ<|fc zaJ<|fc zhy<|fc zaH iw
abbrev zkG:Nat->aT:=λ_=>{ }
theorem YE:zM (yX).P 252 Tryz.f252 2:=bL kw
theorem zjU(x:Sem zj.sl)(h:zq):rn yX 0 zkG Tryz.f252 [zI zj.sl x,zI zj h] []=Tr.ok (zQ.ret (AV.bool (Q0 (gV x h>=0))) []):=kw
def tU(x:Sem zj.sl)(h:zq):Sem Q7:=(Q0 (gV x h>=0))
def zeq:z8:=aN [zj.sl,zj] [Q7] λx=>(tU x.1 x.2.1,())
theorem zaI:FK 252 zeq:=by
 refine al (YE) λx C a=>?_
 refine zF rg (YE) (λid _=>a id) (zjU x.1 x.2.1) ?_;generalize h:tU x.1 x.2.1=y;unfold tU at h
 try simp only[za.eta]
 repeat' (first|with_reducible refine dH h (λ_ h=>?_) (λ_ h=>?_)|with_reducible refine zT ?_)
 all_goals first|(cases hc;done)|(subst h;first|rfl)
abbrev zro:Nat->aT:=λ_=>{ }
theorem zgO:zM (yX).P 207 Tryz.f207 2:=bL kw
theorem zqf(x:Sem Sh.str.sl)(h:TS):rn yX 0 zro Tryz.f207 [zI Sh.str.sl x,zI Q6 h] []=Tr.ok (zQ.ret (AV.bool (Q0 (Ml x h>=0))) []):=kw
def aH(x:Sem Sh.str.sl)(h:TS):Sem Q7:=(Q0 (Ml x h>=0))
def znp:z8:=aN [Sh.str.sl,Q6] [Q7] λx=>(aH x.1 x.2.1,())
theorem zib:FK 207 znp:=by
 refine al (zgO) λx C a=>?_
 refine zF rg (zgO) (λid _=>a id) (zqf x.1 x.2.1) ?_;generalize h:aH x.1 x.2.1=y;unfold aH at h
 try simp only[za.eta]
 repeat' (first|with_reducible refine dH h (λ_ h=>?_) (λ_ h=>?_)|with_reducible refine zT ?_)
 all_goals first|(cases hc;done)|(subst h;first|rfl)
abbrev zry:Nat->aT:=λ_=>{ }
theorem zgQ:zM (yX).P 201 Tryz.f201 2:=bL kw
theorem zqn(x:Sem zA.sl)(h:bV):rn yX 0 zry Tryz.f201 [zI zA.sl x,zI zA h] []=Tr.ok (zQ.ret (AV.bool (Q0 (Mj x h>=0))) []):=kw
def jp(x:Sem zA.sl)(h:bV):Sem Q7:=(Q0 (Mj x h>=0))
def znI:z8:=aN [zA.sl,zA] [Q7] λx=>(jp x.1 x.2.1,())
theorem ziz:FK 201 znI:=by
 refine al (zgQ) λx C a=>?_
 refine zF rg (zgQ) (λid _=>a id) (zqn x.1 x.2.1) ?_;generalize h:jp x.1 x.2.1=y;unfold jp at h
 try simp only[za.eta]
 repeat' (first|with_reducible refine dH h (λ_ h=>?_) (λ_ h=>?_)|with_reducible refine zT ?_)
 all_goals first|(cases hc;done)|(subst h;first|rfl)
def LG:=yX.addL [(252,zeq),(207,znp),(201,znI)]
theorem Gx:zu LG:=rg.addL<|fc zaI<|fc zib<|fc ziz iw
abbrev X4:Nat->aT:=λj=>if j=2 then{slots:=[0,12,13,14]}else{ }
inductive KK where
 |h2 (i13:Int) (i14:Int) (z0:zn az)
abbrev Wa:KK->Nat×St
 |.h2 i h z=>(2,⟨tm 65 [(0,Qf 0 0),(12,AV.vec 1),(13,ai i),(14,ai h)],[Qa (bI [1] az z),AO.vec zl z.t.t.1]⟩)
theorem zse:zM LG.P 148 Tryz.f148 1:=bL kw
def zcX(y:zn az):Tr (KK⊕aw):=Q9 (KK.h2 (↑y.t.t.1.length:Int) 0 y)
def Kj(h i:Int)(z:zn az)(x:za)(b:bX)(a:zq×zq):Tr (KK⊕aw):=br (Q0 (i<h)) (Qc (zK i (Io z.t.t.1)) (Qc (Q0 (i.toNat<Io z.t.t.1)) (br (zV (z.t.q.2.1,z.t.t.1,z.t.t.2.1,[],[],x) b.1!=i) (re (ai 7) (aB az z)) (Q9 (KK.h2 h (Γ Δ (i+1)) z))))) (br (za.op z.t.t.q.1==[]) (re (ai 0) (aB az z)) (br (cond (a.2==0) (cond (a.1!=3) (a.1!=0) Q4) Q4) (re (ai 5) (aB az z)) (re (ai a.2) (aB az z))))
def P6(h i:Int)(z:zn az):Tr (KK⊕aw):=
 let a:=zr z.t.t.q.1
 let x:=z.t.t.1.getD i.toNat (zi zl)
 let b:=b8 a z.t.t.1
 Kj h i z a x b
theorem zqc(y:zn az):rn LG 2 X4 Tryz.f148 [Qf 0 0] (aB az y)=(zcX y).map (lf Tryz.f148 Wa):=kw
def NK:KK->Tr (KK⊕aw)
 |.h2 i h z=>P6 i h z
theorem zsW:∀s,run LG 2 X4 (Func.results Tryz.f148).toList 400 (aa Tryz.f148 (Wa s).1) (Wa s).2=(NK s).map (lf Tryz.f148 Wa)|.h2 i h z=>by kernel_rfl
def vt(y:zn az):Option (zD (Qi Q1 [zj])×zn az):=kJ [zj] az NK 100000000 (zcX y)
def gW(y:zn az):Bool:=(vt y).isSome
def fG(y:zn az):zq×zn az:=(λr:zD (Qi Q1 [zj])×zn az=>(r.1.1,r.2)) ((vt y).getD (cA [zj],fR az))
def znf:z8:=sC az [] [zj] az (λy _=>gW y) λy _=>(((fG y).1,()),(fG y).2)
theorem zh1:FK 148 znf:=ka (keep:=X4) (gas:=400) (n:=100000000) (e:=Wa) (t:=NK) (i:=λy x=>zcX y) Gx zse (λy x=>zqc y) zsW (λ_ _=>by kernel_rfl) (λ_ _=>by kernel_rfl)
def WC:=LG.add 148 znf
theorem Gy:zu WC:=Gx.add zh1
def znM:z8:=aW (List.replicate 2 Q2) (eJ WC Tryz.f206 (List.replicate 2 Q2))
theorem ziC:FK 206 znM:=bT _ Gy (bL kw)
def LH:=WC.add 206 znM
theorem xr:zu LH:=Gy.add ziC
abbrev BD(s:List zH)(l:LF)(i:Int):St:={tmps:=[.sl zA l,.clo (.func 206) [] [.ptr 0 0],.any,.any,.any,.any,.any,.int .i64 (Io l),.int .i64 i,.any,.any,.any,.any,.any,.any,.any,.any,.any,.any],heap:=[.box [.sl .str s]]}
theorem W9(s:List zH)(l:LF):run LH 1 AM Tryz.f261.results.toList 300 (bq Tryz.f261) (aY Tryz.f261.ntmps [.sl zA l,.clo (.func 206) [] [.ptr 0 0]] [.box [.sl .str s]])=.ok (.head 2 (aa Tryz.f261 2) (BD s l 0)):=kw
theorem YY(s:List zH)(l:LF)(i:Int):run LH 1 AM Tryz.f261.results.toList 300 (aa Tryz.f261 2) (BD s l i)=oI (K:=aa Tryz.f261 2) (e:=zA) l (λx=>aH s x.2) (BD s l) [.box [.sl .str s]] i:=kw
theorem YQ:zM LH.P 261 Tryz.f261 2:=bL kw
def zpr:eW [Q1 (.sl zA),Q2]:=λx h=>match x,h with
 |(l,.clo (.func 206) [] [.ptr 0 0],_),[.box [.sl .str s]]=>.ok (.int .i64 (ab (λx=>aH s x.2) l 0),[.box [.sl .str s]])
 |_,_=>.err
def zn9:z8:=aW [Q1 (.sl zA),Q2] zpr
theorem zi0:FK 261 zn9:=by
 refine dc YQ λx d c h C a=>?_
 unfold zpr at h;split at h
 .rename_i l u s;simp only[Tr.val_ok,bj]at h;subst h;refine Reach.len 0 zA l rfl λb=>?_
  refine zF (n0:=1) xr YQ a (W9 s l) ?_;exact kZ l (λx=>aH s x.2) (BD s l) xr YQ a (YY s l) b _ 0 rfl (aL _)
 .simp at h
def WD:=LH.add 261 zn9
theorem Gz:zu WD:=xr.add zi0
def znN:z8:=aW (List.replicate 2 Q2) (eJ WD Tryz.f208 (List.replicate 2 Q2))
theorem ziD:FK 208 znN:=bT _ Gz (bL kw)
def zfK:=WD.add 208 znN
theorem xt:zu zfK:=Gz.add ziD
abbrev cpR:List CP:=[.d zk]
abbrev zjG:List CP:=[.d .str,.nil,.d zj,.nil,.nil,.d .str,.d zj,.d zj,.d .str,.d .str,.nil,.nil]
abbrev zpD:List CP:=[.d ak,.vec (.sl zf)]
abbrev pG:List CP:=[.d ar]
abbrev jg:List CP:=[.d .str,.d .str,.d .str,.nil,.nil,.d .str,.nil,.nil,.d .str,.d zj,.d zj,.d .str,.d .str,.nil,.nil,.nil,.d .str,.d zj,.d zj,.d .str,.d .str,.nil,.d .str]
abbrev V0:List CP:=[.d .str,.d .str,.d .str,.d (.sl .str),.d (.sl zl),.d .str,.d (.sl .str),.vec ja,.d .expr,.d (.sl zf),.nil,.d .expr,.d .str]
abbrev V1:List CP:=[.d .str,.d .str,.d .str,.d (.sl .str),.d (.sl zl),.d .str,.d (.sl .str),.vec ja,.d .expr,.d (.sl zf),.vec io,.d .expr,.d .str]
abbrev zq8:Nat->aT:=λj=>if j=6 then{slots:=[1,2,3,4,5],prom:=[(3,Q1 11,.sl zf)]}else{ }
inductive NZ where
 |h6 (i4:Int) (i5:Int) (z0:zn cpR) (z1:zn zjG) (z2:zn zpD)
abbrev zt3:NZ->Nat×St
 |.h6 i h x a z=>(6,⟨tm 38 [(1,Qf 0 0),(2,Qf 1 0),(3,Qf 2 0),(4,ai i),(5,ai h)],[Qa (bI [] cpR x),Qa (bI [] zjG a),Qa (bI [3] zpD z),AO.vec zf.sl z.2.1]⟩)
def zkl(x:ah):Tr (NZ⊕aw):=
 let a:=(E6 (x.1.1,x.1.2.1,x.1.2.2.1,x.1.2.2.2.1,x.1.t.1,zr x.1.t.2),[],())
 br (Q0 ((↑(Io x.2):Int)>200)) (Q9 (NZ.h6 201 0 (x,()) ([],0,[],0,0,[],[],()) a))
 (Q9 (NZ.h6 40 0 (x,()) ([],0,[],0,0,[],[],()) a))
def UO:NZ->Tr (NZ⊕aw)
 | .h6 x i h c z=>
  let b:=(↑(Io h.1.2):Int)
  let a:=[mq (getD h.1.2 i.toNat (zi zf.sl))]
  br (cond (Q0 (i<b)) (Q0 (i<x)) Q4)
  (Qc (zK i (Io h.1.2))
   (Qc (Q0 (Io z.2.1+Io a<=1073741824)) (Q9 (NZ.h6 x (Γ Δ (i+1)) h c (z.1,z.2.1++a,())))))
  (re
   (agg [str z.1.1,sl zl z.1.2.1,ai z.1.2.2.1,sl zj z.1.2.2.2.1,sl zA z.1.t.1,str (za.op z.1.t.2),ai (za.v z.1.t.2).1,ai (za.v z.1.t.2).2.1,str (za.v z.1.t.2).2.2,str (za.s z.1.t.2),sl Q5 (za.l z.1.t.2),AV.vec 0])
   [AO.vec zf.sl z.2.1])
def Dr(x:ah):=ao [zk] UO 100000000 (zkl x)
def Ph(x:ah):=(Dr x).isSome
def Ap(x:ah):=o1 (Dr x)
def zmU:=FT [zk] [zk] λx=>Dr x.1
theorem zhD:FK 53 zmU:=xt.T1 (f:=Tryz.f53) (keep:=zq8) (e:=zt3)
abbrev zvQ:Nat->aT:=λj=>if j=3 then{slots:=[1,2,3,4],prom:=[(3,Q1 7,ja)]}else if j=7 then{slots:=[1,2,3,5],prom:=[(3,Q1 15,io)]}else{ }
inductive H8p where
 |h3 (i4:Int) (z0:zn pG) (z1:zn jg) (z2:zn V0)
 |h7 (i5:Int) (z0:zn pG) (z1:zn jg) (z2:zn V1)
abbrev e8p:H8p->Nat×St
 |.h3 i h x z=>(3,⟨tm 103 [(1,Qf 0 0),(2,Qf 1 0),(3,Qf 2 0),(4,ai i)],[Qa (bI [] pG h),Qa (bI [] jg x),Qa (bI [3] V0 z),AO.vec (Sh.str.pr Q6) z.t.q.2.1]⟩)
 |.h7 a h x z=>(7,⟨tm 103 [(1,Qf 0 0),(2,Qf 1 0),(3,Qf 2 0),(5,ai a)],[Qa (bI [] pG h),Qa (bI [] jg x),Qa (bI [3,4] V1 z),AO.vec (Sh.str.pr Q6) z.t.q.2.1,AO.vec (Sh.str.pr Q5) z.t.t.q.1]⟩)
def i8p(x:zJ):Tr (H8p⊕aw):=
 Qc (fF x.1)
 (Qc (fF x.2.1)
  (Qc (fF x.2.2.1) (Qc (fF x.t.2.1) (Qc (fF x.t.t.t) (Qc (ql x.2.2.2.1) (Qc (ql x.t.q.1) (Q9 (H8p.h3 0 (x,()) ([],[],[],[],[],0,0,[],[],[],0,0,[],[],[],()) (dz x.1,dz x.2.1,dz x.2.2.1,kF x.2.2.2.1,jR x.t.1,
  dz x.t.2.1,kF x.t.q.1,[],ia (zr x.t.t.1),mq x.t.t.2.1,ia (zr x.t.t.q.2.1),dz x.t.t.t,())))))))))
def t8p:H8p->Tr (H8p⊕aw)
 | .h3 i h d z=>
  let e:=(↑(Io h.1.t.q.2.1):Int)
  let x:=zK i (Io h.1.t.q.2.1)
  let a:=getD h.1.t.q.2.1 i.toNat (zi ja)
  let b:=[(dz a.1,dz a.2)]
  br (cond (Q0 (i<e)) (Q0 (i<10)) Q4)
  (Qc x
   (Qc (fF a.1) (Qc x (Qc (fF a.2) (Qc (Q0 (Io z.t.q.2.1+Io b<=1073741824)) (Q9 (H8p.h3 (Γ Δ (i+1)) h d (z.1,z.2.1,z.2.2.1,z.2.2.2.1,z.t.1,z.t.2.1,z.t.q.1,z.t.q.2.1++b,z.t.t))))))))
  (Q9
   (H8p.h7 0 h d (z.1,z.2.1,z.2.2.1,z.2.2.2.1,z.t.1,z.t.2.1,z.t.q.1,z.t.q.2.1,z.t.t.1,z.t.t.2.1,[],z.t.t.q)))
 | .h7 c h d z=>
  let e:=(↑(Io h.1.t.t.q.1):Int)
  let x:=zK c (Io h.1.t.t.q.1)
  let a:=getD h.1.t.t.q.1 c.toNat (zi io)
  let b:=[(dz a.1,zr (ia (zr a.2)))]
  br (cond (Q0 (c<e)) (Q0 (c<10)) Q4)
  (Qc x
   (Qc (fF a.1) (Qc x (Qc (Q0 (Io z.t.t.q.1+Io b<=1073741824)) (Q9 (H8p.h7 (Γ Δ (c+1)) h d (z.1,z.2.1,z.2.2.1,z.2.2.2.1,z.t.1,z.t.2.1,z.t.q.1,z.t.q.2.1,z.t.t.1,z.t.t.2.1,z.t.t.q.1++b,z.t.t.q.2)))))))
  (re
   (agg [str z.1,str z.2.1,str z.2.2.1,sl Q6 z.2.2.2.1,sl zl z.t.1,str z.t.2.1,sl Q6 z.t.q.1,AV.vec 0,str (za.op z.t.t.1),ai (za.v z.t.t.1).1,ai (za.v z.t.t.1).2.1,str (za.v z.t.t.1).2.2,str (za.s z.t.t.1),
   sl Q5 (za.l z.t.t.1),sl zf z.t.t.2.1,AV.vec 1,str (za.op z.t.t.q.2.1),ai (za.v z.t.t.q.2.1).1,ai (za.v z.t.t.q.2.1).2.1,str (za.v z.t.t.q.2.1).2.2,str (za.s z.t.t.q.2.1),
   sl Q5 (za.l z.t.t.q.2.1),str z.t.t.t.1])
   [AO.vec (Sh.str.pr Q6) z.t.q.2.1,AO.vec (Sh.str.pr Q5) z.t.t.q.1])
def xM(x:zJ):=ao [ar] t8p 100000000 (i8p x)
def IT(x:zJ):=(xM x).isSome
def RC(x:zJ):=o1 (xM x)
def F8p:=FT [ar] [ar] λx=>xM x.1
theorem zpa:FK 26 F8p:=xt.T1 (f:=Tryz.f26) (keep:=zvQ) (e:=e8p)
def zfM:=zfK.addL [(53,zmU),(26,F8p)]
theorem GF:zu zfM:=xt.addL<|fc zhD<|fc zpa iw
abbrev zvL:Nat->aT:=λj=>if j=3 then{slots:=[0,3,4],prom:=[(3,Q2,zk)]}else{ }
inductive H7p where
 |h3 (l0:zP) (i4:Int) (lh_0:zP)
abbrev e7p:H7p->Nat×St
 |.h3 h i l=>(3,⟨tm 24 [(0,sl zk h),(3,AV.vec 0),(4,ai i)],[AO.vec zk l]⟩)
def i7p(x:Sem zk.sl):Tr (H7p⊕aw):=
 Q9 (H7p.h3 x 0 [])
def t7p:H7p->Tr (H7p⊕aw)
 | .h3 x i l=>
  let a:=x.getD i.toNat (zi zk)
  let b:=((a.1.1,a.1.2.1,a.1.2.2.1,a.1.2.2.2.1,a.1.t.1,zr a.1.t.2),a.2)
  let h:=Ap b
  let c:=[((h.1.1,h.1.2.1,h.1.2.2.1,h.1.2.2.2.1,h.1.t.1,zr h.1.t.2),h.2)]
  br (cond (Q0 (i<(↑x.length:Int))) (Q0 (i<13)) Q4)
  (Qc (zK i (Io x))
   (Qc (Ph b) (Qc (Q0 (Io l+Io c<=1073741824)) (Q9 (H7p.h3 x (Γ Δ (i+1)) (l++c))))))
  (re (AV.vec 0)
   [AO.vec zk l])
def Dt(x:Sem zk.sl):=ao [zk.sl] t7p 100000000 (i7p x)
def IU(x:Sem zk.sl):=(Dt x).isSome
def Ds(x:Sem zk.sl):=o1 (Dt x)
def F7p:=FT [zk.sl] [zk.sl] λx=>Dt x.1
theorem zo1:FK 25 F7p:=GF.T1 (f:=Tryz.f25) (keep:=zvL) (e:=e7p)
def LM:=zfM.add 25 F7p
theorem GG:zu LM:=GF.add zo1
abbrev X3:Nat->aT:=λj=>if j=3 then{slots:=[0,3,14,15,16]}else if j=11 then{slots:=[0,3,55,56,57]}else{ }
inductive wN where
 |h3 (l14:LS) (i15:Int) (i16:Int) (z0:zn bB) (jb0:LS)
 |h11 (l55:zP) (i56:Int) (i57:Int) (z0:zn bB) (jb0:LS)
abbrev V9:wN->Nat×St
 |.h3 l i h z j=>(3,⟨tm 122 [(0,Qf 0 0),(3,Qf 1 0),(14,sl Q6 l),(15,ai i),(16,ai h)],[Qa (bI [] bB z),Qa [sl Q6 j]]⟩)
 |.h11 b x a z j=>(11,⟨tm 122 [(0,Qf 0 0),(3,Qf 1 0),(55,sl zk b),(56,ai x),(57,ai a)],[Qa (bI [] bB z),Qa [sl Q6 j]]⟩)
theorem zsd:zM LM.P 147 Tryz.f147 1:=bL kw
def zcW(y:zn bB):Tr (wN⊕aw):=
 let a:=lF (y.t.1,y.t.2.1,y.t.q.1,(y.t.q.2.1,[],y.t.t.1,[],[],zr y.t.t.2.1),[],y.t.t.q.1)
 Q9 (wN.h3 a (↑(Io a):Int) 0 y a)
def Ki(l:LS)(h i:Int)(z:zn bB)(j:LS)(a x:zq):Tr (wN⊕aw):=br (Q0 (i<h)) (Qc (zK i (Io l)) (br (Q0 (a<0)) (re (ai 6) (aB bB z)) (Q9 (wN.h3 l h (Γ Δ (i+1)) z j)))) (br (cond (Q0 (x>=0)) Q3 (z.t.2.1==z.t.q.1)) (re (ai 7) (aB bB z)) (Q9 (wN.h11 z.1 (↑(Io z.1):Int) 0 z j)))
def P5(l:LS)(h i:Int)(z:zn bB)(j:LS):Tr (wN⊕aw):=
 let a:=ac z.1 (l.getD i.toNat (zi Q6))
 let x:=ac z.1 z.2.1.2.1
 Ki l h i z j a x
def E2(l:zP)(h i:Int)(z:zn bB)(j:LS)(x:ah)(b:Int)(c d:zq)(a e:ah):Tr (wN⊕aw):=br (Q0 (i<h)) (Qc (zK i (Io l)) (br (!aH j x.1.1) (br (Q0 (b>=0)) (re (ai 10) (aB bB z)) (Q9 (wN.h11 l h (Γ Δ (i+1)) z j))) (Q9 (wN.h11 l h (Γ Δ (i+1)) z j)))) (Qc (zK c (Io z.1)) (br (!z.t.q.1==[]) (Qc (zK d (Io z.1)) (re (ai 0) (aB bB (z.1,z.2.1,a.1,e.1,z.t)))) (re (ai 0) (aB bB (z.1,z.2.1,a.1,z.2.2.2)))))
def Kh(l:zP)(h i:Int)(z:zn bB)(j:LS):Tr (wN⊕aw):=
 let a:=l.getD i.toNat (zi zk)
 let d:=ab (λx=>aH j x.2) a.1.t.1 0
 let b:=ac z.1 z.t.2.1
 let c:=ac z.1 z.t.q.1
 let e:=getD z.1 (toNat b) (zi zk)
 let g:=getD z.1 (toNat c) (zi zk)
 E2 l h i z j a d b c e g
theorem zqb(y:zn bB):rn LM 1 X3 Tryz.f147 [Qf 0 0] (aB bB y)=(zcW y).map (lf Tryz.f147 V9):=kw
def E1:wN->Tr (wN⊕aw)
 |.h3 l i h z j=>P5 l i h z j
 |.h11 b x a z j=>Kh b x a z j
theorem zsV:∀s,run LM 1 X3 (Func.results Tryz.f147).toList 400 (aa Tryz.f147 (V9 s).1) (V9 s).2=(E1 s).map (lf Tryz.f147 V9)|.h3 l i h z j=>by kernel_rfl|.h11 b x a z j=>by kernel_rfl
def rB(y:zn bB):Option (zD (Qi Q1 [zj])×zn bB):=kJ [zj] bB E1 100000000 (zcW y)
def nB(y:zn bB):Bool:=(rB y).isSome
def nA(y:zn bB):zq×zn bB:=(λr:zD (Qi Q1 [zj])×zn bB=>(r.1.1,r.2)) ((rB y).getD (cA [zj],fR bB))
def zne:z8:=sC bB [] [zj] bB (λy _=>nB y) λy _=>(((nA y).1,()),(nA y).2)
theorem zh0:FK 147 zne:=ka (keep:=X3) (gas:=400) (n:=100000000) (e:=V9) (t:=E1) (i:=λy x=>zcW y) GG zsd (λy x=>zqb y) zsV (λ_ _=>by kernel_rfl) (λ_ _=>by kernel_rfl)
def LJ:=LM.add 147 zne
theorem GA:zu LJ:=GG.add zh0
abbrev ec:List CP:=[.d (.sl zk),.d ar,.d ak,.d ak,.d .str,.d .str,.d .str,.d .str,.vec zl,.d zj,.nil,.nil,.d .expr,.vec zj,.d zj]
abbrev X7:Nat->aT:=λj=>if j=3 then{slots:=[1,3,14,15,16,0],prom:=[(0,Q1 60,.int .i64),(0,Q1 50,zl)]}else if j=12 then{slots:=[1,63,64,65,0]}else if j=1000000 then{sett:=[(0,60)]}else{ }
inductive tk where
 |h3 (l14:LS) (i15:Int) (i16:Int) (z0:zn ec)
 |h12 (i64:Int) (i65:Int) (z0:zn ec)
 |h12b (i64:Int) (i65:Int) (z0:zn ec)
abbrev We:tk->Nat×St
 |.h3 l x a z=>(3,⟨tm 80 [(0,Qf 0 0),(1,Qf 1 0),(3,AV.clo (Fn.func 251) [] [Qf 1 0]),(14,sl Q6 l),(15,ai x),(16,ai a)],[Qa (bI [2,3] ec z),Qa [Qf 0 0],AO.vec zl z.t.t.1,AO.vec zj z.t.t.q.2.1]⟩)
 |.h12 i h z=>(12,⟨tm 80 [(0,Qf 0 0),(1,Qf 1 0),(63,AV.vec 2),(64,ai i),(65,ai h)],[Qa (bI [3,2] ec z),Qa [Qf 0 0],AO.vec zj z.t.t.q.2.1,AO.vec zl z.t.t.1]⟩)
 |.h12b i h z=>(12,⟨tm 80 [(0,Qf 0 0),(1,Qf 1 0),(63,AV.vec 2),(64,ai i),(65,ai h)],[Qa (bI [3,2] ec z),Qa [Qf 0 0],AO.frz zj z.t.t.q.2.1,AO.vec zl z.t.t.1]⟩)
theorem zsC:zM LJ.P 199 Tryz.f199 1:=bL kw
def zc3(y:zn bB):Tr (tk⊕aw):=Q9 (tk.h3 y.2.1.2.2.2.1 (↑(Io y.2.1.2.2.2.1):Int) 0 (y.1,y.2.1,y.2.2.1,y.2.2.2.1,y.t.1,y.t.2.1,y.t.q.1,y.t.q.2.1,[],y.t.t.1,y.t.t.2.1,[],y.t.t.q))
def Km(l:LS)(h i:Int)(z:zn ec)(a:zq)(x:LI)(b:LC):Tr (tk⊕aw):=br (Q0 (i<h)) (Qc (zK i (Io l)) (br (Q0 (a<0)) (re (ai 4) (aB az z)) (Qc (Q0 (Io z.t.t.q.2.1+Io x<=1073741824)) (Qc (zK a (Io z.2.2.1.2.1)) (Qc (Q0 (Io z.t.t.1+Io b<=1073741824)) (Q9 (tk.h3 l h (Γ Δ (i+1)) (z.1,z.2.1,z.2.2.1,z.2.2.2.1,z.t.1,z.t.2.1,z.t.q.1,z.t.q.2.1,z.t.t.1++b,z.t.t.2.1,z.t.t.q.1,z.t.t.q.2.1++x,z.t.t.t)))))))) (Q9 (tk.h12 (↑z.t.t.q.2.1.length:Int) 0 z))
def P9(l:LS)(h i:Int)(z:zn ec):Tr (tk⊕aw):=
 let a:=zV (z.2.2.1.1,z.2.2.1.2.1,z.2.2.1.2.2.1,z.2.2.1.2.2.2.1,z.2.2.1.t.1,zr z.2.2.1.t.2) (l.getD i.toNat (zi Q6))
 let x:=[a]
 let b:=[getD z.2.2.1.2.1 (toNat a) (zi zl)]
 Km l h i z a x b
def E5(h i:Int)(z:zn ec)(a:Int):Tr (tk⊕aw):=br (Q0 (i<h)) (Qc (zK i (Io z.t.t.q.2.1)) (Qc (Q0 (i.toNat<Io z.t.t.q.2.1)) (Qc (Q0 (0<=0)&&Q0 (0<=i)&&Q0 (i<=a)) (br (tU (Qg (i.toNat-toNat 0) (Qh (toNat 0) z.t.t.q.2.1)) (z.t.t.q.2.1.getD i.toNat (zi zj))) (re (ai 7) (aB az z)) (Q9 (tk.h12b h (Γ Δ (i+1)) z)))))) (re (ai 0) (aB az z))
def Kl(i h:Int)(z:zn ec):Tr (tk⊕aw):=
 let a:=(↑z.t.t.q.2.1.length:Int)
 E5 i h z a
def yo(h i:Int)(z:zn ec)(a:Int):Tr (tk⊕aw):=br (Q0 (i<h)) (Qc (zK i (Io z.t.t.q.2.1)) (Qc (Q0 (0<=0)&&Q0 (0<=i)&&Q0 (i<=a)) (br (tU (Qg (i.toNat-toNat 0) (Qh (toNat 0) z.t.t.q.2.1)) (z.t.t.q.2.1.getD i.toNat (zi zj))) (re (ai 7) (aB az z)) (Q9 (tk.h12b h (Γ Δ (i+1)) z))))) (re (ai 0) (aB az z))
def E4(i h:Int)(z:zn ec):Tr (tk⊕aw):=
 let a:=(↑z.t.t.q.2.1.length:Int)
 yo i h z a
theorem zql(y:zn bB):rn LJ 1 X7 Tryz.f199 [Qf 0 0] (aB bB y)=(zc3 y).map (lf Tryz.f199 We):=kw
def qN:tk->Tr (tk⊕aw)
 |.h3 l x a z=>P9 l x a z
 |.h12 i h z=>Kl i h z
 |.h12b i h z=>E4 i h z
theorem zs3:∀s,run LJ 1 X7 (Func.results Tryz.f199).toList 400 (aa Tryz.f199 (We s).1) (We s).2=(qN s).map (lf Tryz.f199 We)|.h3 l x a z=>by kernel_rfl|.h12 i h z=>by kernel_rfl|.h12b i h z=>by kernel_rfl
def Bb(y:zn bB):Option (zD (Qi Q1 [zj])×zn az):=kJ [zj] az qN 100000000 (zc3 y)
def oK(y:zn bB):Bool:=(Bb y).isSome
def km(y:zn bB):zq×zn az:=(λr:zD (Qi Q1 [zj])×zn az=>(r.1.1,r.2)) ((Bb y).getD (cA [zj],fR az))
def znD:z8:=sC bB [] [zj] az (λy _=>oK y) λy _=>(((km y).1,()),(km y).2)
theorem ziu:FK 199 znD:=ka (ps:=bB) (ks:=[]) (outs:=[zj]) (keep:=X7) (gas:=400) (n:=100000000) (e:=We) (t:=qN) (i:=λy x=>zc3 y) GA zsC (λy x=>zql y) zs3 (λ_ _=>by kernel_rfl) (λ_ _=>by kernel_rfl)
def GB:=LJ.add 199 znD
theorem xu:zu GB:=GA.add ziu
abbrev TU(y:zn bB):zn bB:=(y.1,(y.2.1.1,y.2.1.2.1,y.2.1.2.2.1,y.2.1.2.2.2.1,y.2.1.t.1,y.2.1.t.2.1,y.2.1.t.q.1,y.2.1.t.q.2.1,zr y.2.1.t.t.1,y.2.1.t.t.2.1,y.2.1.t.t.q.1,zr y.2.1.t.t.q.2.1,y.2.1.t.t.t),(y.2.2.1.1,y.2.2.1.2.1,y.2.2.1.2.2.1,y.2.2.1.2.2.2.1,y.2.2.1.t.1,zr y.2.2.1.t.2),(y.2.2.2.1.1,y.2.2.2.1.2.1,y.2.2.2.1.2.2.1,y.2.2.2.1.2.2.2.1,y.2.2.2.1.t.1,zr y.2.2.2.1.t.2),y.t.1,y.t.2.1,y.t.q.1,y.t.q.2.1,y.t.t.1,zr y.t.t.2.1,y.t.t.q.1,())
abbrev Rh(y:zn az):zn az:=(y.1,(y.2.1.1,y.2.1.2.1,y.2.1.2.2.1,y.2.1.2.2.2.1,y.2.1.t.1,y.2.1.t.2.1,y.2.1.t.q.1,y.2.1.t.q.2.1,zr y.2.1.t.t.1,y.2.1.t.t.2.1,y.2.1.t.t.q.1,zr y.2.1.t.t.q.2.1,y.2.1.t.t.t),(y.2.2.1.1,y.2.2.1.2.1,y.2.2.1.2.2.1,y.2.2.1.2.2.2.1,y.2.2.1.t.1,zr y.2.2.1.t.2),(y.2.2.2.1.1,y.2.2.2.1.2.1,y.2.2.2.1.2.2.1,y.2.2.2.1.2.2.2.1,y.2.2.2.1.t.1,zr y.2.2.2.1.t.2),y.t.1,y.t.2.1,y.t.q.1,y.t.q.2.1,y.t.t.1,y.t.t.2.1,zr y.t.t.q.1,y.t.t.q.2.1,y.t.t.t.1,())
abbrev zgz:Nat->aT:=λ_=>{ }
theorem zr8:zM GB.P 141 Tryz.f141 1:=bL kw
def Xx(_:zn bB)(x:Sem zk.sl×zn [CP.d ar,CP.d ak,CP.d ak,CP.d Q6,CP.d Q6,CP.d Q6,CP.d Q6,CP.nil,CP.d zj,CP.nil,CP.nil,CP.d Q5,CP.nil,CP.d zj])(a:zq×zn az)(h:zq):Tr (Empty⊕aw):=Qc (oK x) (br (a.1!=0) (re (ai a.1) (aB az a.2)) (br (Q0 (h<0)) (re (ai 1) (aB az (a.2.1,a.2.2.1,a.2.2.2.1,a.t.1,a.t.2.1,a.t.q.1,a.t.q.2.1,a.t.t.1,a.t.t.2.1,h,a.t.t.q.2))) (re (ai 0) (aB az (a.2.1,a.2.2.1,a.2.2.2.1,a.t.1,a.t.2.1,a.t.q.1,a.t.q.2.1,a.t.t.1,a.t.t.2.1,h,a.t.t.q.2)))))
def Xw(y:zn bB):Tr (Empty⊕aw):=
 let h:=TU y
 let a:=km h
 let x:=gV a.t.t.t.1 a.2.2.2.1.2.2.1
 Xx y h a x
theorem zp8(y:zn bB):rn GB 1 zgz Tryz.f141 [Qf 0 0] (aB bB y)=(Xw y).map (lf Tryz.f141 e0):=kw
def I0(y:zn bB):Option (zD (Qi Q1 [zj])×zn az):=kJ [zj] az t0 100000000 (Xw y)
def IZ(y:zn bB):Bool:=(I0 y).isSome
def Hj(y:zn bB):zq×zn az:=(λr:zD (Qi Q1 [zj])×zn az=>(r.1.1,r.2)) ((I0 y).getD (cA [zj],fR az))
def zm5:z8:=sC bB [] [zj] az (λy _=>IZ y) λy _=>(((Hj y).1,()),(Hj y).2)
theorem zhR:FK 141 zm5:=ka (keep:=zgz) (gas:=400) (n:=100000000) (e:=e0) (t:=t0) (i:=λy x=>Xw y) xu zr8 (λy x=>zp8 y) (U6 _ _ _ _ _) (λ_ _=>by kernel_rfl) (λ_ _=>by kernel_rfl)
abbrev zgB:Nat->aT:=λ_=>{ }
theorem zsb:zM GB.P 143 Tryz.f143 1:=bL kw
def Xz(_:zn bB)(b:Sem zk.sl×zn [CP.d ar,CP.d ak,CP.d ak,CP.d Q6,CP.d Q6,CP.d Q6,CP.d Q6,CP.nil,CP.d zj,CP.nil,CP.nil,CP.d Q5,CP.nil,CP.d zj])(a:zq×zn az)(c _:bX)(h:LC)(x:bX):Tr (Empty⊕aw):=Qc (oK b) (br (a.1!=0) (re (ai a.1) (aB az a.2)) (Qc (zK 1 (Io a.t.t.2.1)) (Qc (Q0 (toNat 1<Io a.t.t.2.1)) (br (c.2.1!=1) (re (ai 5) (aB az a.2)) (Qc (zK 0 (Io a.t.t.2.1)) (Qc (Q0 (toNat 0<Io a.t.t.2.1)) (Qc (zK 1 (Io h)) (Qc (Q0 (toNat 1<Io h)) (re (ai 0) (aB az (a.2.1,a.2.2.1,a.2.2.2.1,a.t.1,a.t.2.1,a.t.q.1,a.t.q.2.1,a.t.t.1,h.set (toNat 1) (x.1,x.2.1,Q4),a.t.t.q)))))))))))
def Xy(y:zn bB):Tr (Empty⊕aw):=
 let x:=TU y
 let a:=km x
 let c:=a.t.t.2.1.getD (toNat 1) (zi zl)
 let h:=a.t.t.2.1.getD (toNat 0) (zi zl)
 let b:=a.t.t.2.1.set (toNat 0) (h.1,h.2.1,Q3)
 let d:=b.getD (toNat 1) (zi zl)
 Xz y x a c h b d
theorem zqa(y:zn bB):rn GB 1 zgB Tryz.f143 [Qf 0 0] (aB bB y)=(Xy y).map (lf Tryz.f143 e0):=kw
def Ba(y:zn bB):Option (zD (Qi Q1 [zj])×zn az):=kJ [zj] az t0 100000000 (Xy y)
def A9(y:zn bB):Bool:=(Ba y).isSome
def xO(y:zn bB):zq×zn az:=(λr:zD (Qi Q1 [zj])×zn az=>(r.1.1,r.2)) ((Ba y).getD (cA [zj],fR az))
def zm9:z8:=sC bB [] [zj] az (λy _=>A9 y) λy _=>(((xO y).1,()),(xO y).2)
theorem zhV:FK 143 zm9:=ka (keep:=zgB) (gas:=400) (n:=100000000) (e:=e0) (t:=t0) (i:=λy x=>Xy y) xu zsb (λy x=>zqa y) (U6 _ _ _ _ _) (λ_ _=>by kernel_rfl) (λ_ _=>by kernel_rfl)
def LL:=GB.addL [(141,zm5),(143,zm9)]
theorem GC:zu LL:=xu.addL<|fc zhR<|fc zhV iw
abbrev X2:Nat->aT:=λj=>if j=11 then{slots:=[0,83,84,85],prom:=[(0,Q1 60,.int .i64)]}else if j=1000000 then{prom:=[(0,Q1 50,zl),(0,Q1 60,.int .i64)],sett:=[(0,60)]}else{ }
inductive Fm where
 |h11 (l83:LC) (i84:Int) (i85:Int) (z0:zn ec)
abbrev V8:Fm->Nat×St
 |.h11 l i h z=>(11,⟨tm 124 [(0,Qf 0 0),(83,sl zl l),(84,ai i),(85,ai h)],[Qa (bI [1,2] ec z),AO.vec zl z.t.t.1,AO.vec zj z.t.t.q.2.1]⟩)
theorem zsa:zM LL.P 142 Tryz.f142 1:=bL kw
def Mg(y:zn bB)(h:zq)(a:Sem Q5×dI×zq×Unit)(x b:Int):Tr (Fm⊕aw):=br (Q0 (h<0)) (re (ai 4) (aB az (y.1,y.2.1,y.2.2.1,y.2.2.2.1,y.t.1,y.t.2.1,y.t.q.1,y.t.q.2.1,[],y.t.t.1,a))) (br (!jp y.2.2.1.t.1 (h,y.t.q.1)) (re (ai 10) (aB az (y.1,y.2.1,y.2.2.1,y.2.2.2.1,y.t.1,y.t.2.1,y.t.q.1,y.t.q.2.1,[],y.t.t.1,a))) (br (Q0 (b>8)) (re (ai 13) (aB az (y.1,y.2.1,y.2.2.1,y.2.2.2.1,y.t.1,y.t.2.1,y.t.q.1,y.t.q.2.1,[],y.t.t.1,a))) (Qc (Q0 (Io y.2.2.1.2.1<=1073741824)) (Q9 (Fm.h11 y.2.2.2.1.2.1 x 0 (y.1,y.2.1,y.2.2.1,y.2.2.2.1,y.t.1,y.t.2.1,y.t.q.1,y.t.q.2.1,y.2.2.1.2.1,y.2.2.1.2.2.1,a))))))
def IP(y:zn bB):Tr (Fm⊕aw):=
 let a:=zV (y.2.2.1.1,y.2.2.1.2.1,y.2.2.1.2.2.1,y.2.2.1.2.2.2.1,y.2.2.1.t.1,zr y.2.2.1.t.2) y.2.1.t.2.1
 let x:=(y.t.t.2.1,[],a,())
 let h:=(↑(Io y.2.2.2.1.2.1):Int)
 let b:=Γ Δ (Γ Δ ((↑(Io y.2.2.1.2.1):Int)+h)-1)
 Mg y a x h b
def EZ(l:LC)(h i:Int)(z:zn ec)(a:LC)(x:Int):Tr (Fm⊕aw):=br (Q0 (i<h)) (Qc (zK i (Io l)) (br (i !=z.2.2.2.1.2.2.1) (Qc (Q0 (Io z.t.t.q.2.1+[i].length<=1073741824)) (Qc (Q0 (Io z.t.t.1+Io a<=1073741824)) (Q9 (Fm.h11 l h x (z.1,z.2.1,z.2.2.1,z.2.2.2.1,z.t.1,z.t.2.1,z.t.q.1,z.t.q.2.1,z.t.t.1++a,z.t.t.2.1,z.t.t.q.1,z.t.t.q.2.1++[i],z.t.t.t))))) (Q9 (Fm.h11 l h x z)))) (re (ai 0) (aB az z))
def Kg(l:LC)(h i:Int)(z:zn ec):Tr (Fm⊕aw):=
 let a:=[l.getD i.toNat (zi zl)]
 let x:=Γ Δ (i+1)
 EZ l h i z a x
theorem zp9(y:zn bB):rn LL 1 X2 Tryz.f142 [Qf 0 0] (aB bB y)=(IP y).map (lf Tryz.f142 V8):=kw
def NJ:Fm->Tr (Fm⊕aw)
 |.h11 l i h z=>Kg l i h z
theorem zsS:∀s,run LL 1 X2 (Func.results Tryz.f142).toList 400 (aa Tryz.f142 (V8 s).1) (V8 s).2=(NJ s).map (lf Tryz.f142 V8)|.h11 l i h z=>by kernel_rfl
def Dx(y:zn bB):Option (zD (Qi Q1 [zj])×zn az):=kJ [zj] az NJ 100000000 (IP y)
def I1(y:zn bB):Bool:=(Dx y).isSome
def Hk(y:zn bB):zq×zn az:=(λr:zD (Qi Q1 [zj])×zn az=>(r.1.1,r.2)) ((Dx y).getD (cA [zj],fR az))
def zm7:z8:=sC bB [] [zj] az (λy _=>I1 y) λy _=>(((Hk y).1,()),(Hk y).2)
theorem zhT:FK 142 zm7:=ka (keep:=X2) (gas:=400) (n:=100000000) (e:=V8) (t:=NJ) (i:=λy x=>IP y) GC zsa (λy x=>zp9 y) zsS (λ_ _=>by kernel_rfl) (λ_ _=>by kernel_rfl)
def zfL:=LL.add 142 zm7
theorem GD:zu zfL:=GC.add zhT
end
end Cad
