/- Statements. -/
import Derived.Test.YtjdjldbhjmgmkaaGreatDoorS11
namespace Cad
open Go Go.Proofs
open List renaming length→Io,map→Qi,drop→Qh,take→Qg
open IntKind renaming wrap→Γ,i64→Δ
open AV renaming ptr→Qf
open Tr renaming chk→Qc,«to»→Q9
open AO renaming box→Qa
open Sh renaming bool→Q7,str→Q6,expr→Q5
open Bool renaming false→Q4,true→Q3
open Option renaming none→Q2,some→Q1
open Decidable renaming decide→Q0
open Int (toNat)
open List (getD)
open Tr (chk br re)
open AV (nils agg tup ptr kb str sl)
set_option maxHeartbeats 4000000
noncomputable section
def zmL:z8:=aS (List.replicate 2 Q2) (eK Ra Tryz.f323 (List.replicate 2 Q2))
theorem zhw:FK 323 zmL:=bS _ xh (bL kw)
def Wk(g:Sem Q5->Sem Q6)(c:Sem Q5->Bool):cg:=Ra.add 355 (zZ [Q5] [Q6] (λx=>c x.1) λx=>(g x.1,()))
theorem Tz{g:Sem Q5->Sem Q6}{c:Sem Q5->Bool}(h:FK 355 (zZ [Q5] [Q6] (λx=>c x.1) λx=>(g x.1,()))):zw (Wk g c):=xh.add h
abbrev zk3:Nat->aP:=λ_=>{ }
theorem DH(g:Sem Q5->Sem Q6)(c:Sem Q5->Bool):zM (Wk g c).P 355 Tryz.f355 1:=bL kw
theorem zkf(g:Sem Q5->Sem Q6)(c:Sem Q5->Bool)(x:Sem Q5):rn (Wk g c) 0 zk3 Tryz.f355 [zL Q5 x] []=let i:=(za.l x).getD (toNat 0) (zi Q5);let a:=zr i;let j:=(za.l x).getD (toNat 1) (zi Q5);let h:=zr j;let e:=Q0 ([40].length+Io (g a)<=1099511627776);let d:=zK 0 (za.l x).length;
 br (za.op x==ou) (Qc (yB (za.v x)) (Tr.ok (zO.ret (str (iu (za.v x))) []))) (br (za.op x==eL) (Tr.ok (zO.ret (str (za.s x)) [])) (br (za.op x==ni) (Qc d (Qc (c a) (Qc (Q0 (Io uB+Io (g a)<=1099511627776)) (Qc (Q0 (Io (uB++g a)+[41].length<=1099511627776)) (Tr.ok (zO.ret (str (uB++g a++[41])) [])))))) (br (za.op x==po) (Qc d (Qc (c a) (Qc e (Qc (Q0 (Io ([40]++g a)+Io Cc<=1099511627776)) (Tr.ok (zO.ret (str ([40]++g a++Cc)) [])))))) (Qc d (Qc (c a) (Qc e (Qc (Q0 (Io ([40]++g a)+[32].length<=1099511627776)) (Qc (Q0 (Io (za.op x)<=140737488355328)&&List.all (za.op x) λb=>Q0 (b.toNat<128)) (Qc (Q0 (Io ([40]++g a++[32])+(Lib.toUpperA (za.op x)).length<=1099511627776)) (Qc (Q0 (Io ([40]++g a++[32]++Lib.toUpperA (za.op x))+[32].length<=1099511627776)) (Qc (zK 1 (za.l x).length) (Qc (c h) (Qc (Q0 (Io ([40]++g a++[32]++Lib.toUpperA (za.op x)++[32])+Io (g h)<=1099511627776)) (Qc (Q0 (Io ([40]++g a++[32]++Lib.toUpperA (za.op x)++[32]++g h)+[41].length<=1099511627776)) (Tr.ok (zO.ret (str ([40]++g a++[32]++Lib.toUpperA (za.op x)++[32]++g h++[41])) [])))))))))))))))):=kw
def tv(g:Sem Q5->Sem Q6)(_:Sem Q5->Bool)(x:Sem Q5):Sem Q6:=(ite ((za.op x==ou)=Q3) (iu (za.v x)) (ite ((za.op x==eL)=Q3) (za.s x) (ite ((za.op x==ni)=Q3) (uB++g ((za.l x).getD (toNat 0) (zi Q5))++[41]) (ite ((za.op x==po)=Q3) ([40]++g ((za.l x).getD (toNat 0) (zi Q5))++Cc) ([40]++g ((za.l x).getD (toNat 0) (zi Q5))++[32]++Lib.toUpperA (za.op x)++[32]++g ((za.l x).getD (toNat 1) (zi Q5))++[41])))))
def A2(g:Sem Q5->Sem Q6)(c:Sem Q5->Bool)(x:Sem Q5):Bool:=(if(za.op x==ou)=Q3 then if yB (za.v x)=Q3 then Q3 else Q4 else if(za.op x==eL)=Q3 then Q3 else if(za.op x==ni)=Q3 then if zK 0 (za.l x).length=Q3 then if c ((za.l x).getD (toNat 0) (zi Q5))=Q3 then if Q0 (Io uB+Io (g ((za.l x).getD (toNat 0) (zi Q5)))<=1099511627776)=Q3 then if Q0 (Io (uB++g ((za.l x).getD (toNat 0) (zi Q5)))+[41].length<=1099511627776)=Q3 then Q3 else Q4 else Q4 else Q4 else Q4 else if(za.op x==po)=Q3 then if zK 0 (za.l x).length=Q3 then if c ((za.l x).getD (toNat 0) (zi Q5))=Q3 then if Q0 ([40].length+Io (g ((za.l x).getD (toNat 0) (zi Q5)))<=1099511627776)=Q3 then if Q0 (Io ([40]++g ((za.l x).getD (toNat 0) (zi Q5)))+Io Cc<=1099511627776)=Q3 then Q3 else Q4 else Q4 else Q4 else Q4 else if zK 0 (za.l x).length=Q3 then if c ((za.l x).getD (toNat 0) (zi Q5))=Q3 then if Q0 ([40].length+Io (g ((za.l x).getD (toNat 0) (zi Q5)))<=1099511627776)=Q3 then if Q0 (Io ([40]++g ((za.l x).getD (toNat 0) (zi Q5)))+[32].length<=1099511627776)=Q3 then
 if(Q0 (Io (za.op x)<=140737488355328)&&List.all (za.op x) λb=>Q0 (b.toNat<128))=Q3 then if Q0 (Io ([40]++g ((za.l x).getD (toNat 0) (zi Q5))++[32])+(Lib.toUpperA (za.op x)).length<=1099511627776)=Q3 then if Q0 (Io ([40]++g ((za.l x).getD (toNat 0) (zi Q5))++[32]++Lib.toUpperA (za.op x))+[32].length<=1099511627776)=Q3 then if zK 1 (za.l x).length=Q3 then if c ((za.l x).getD (toNat 1) (zi Q5))=Q3 then if Q0 (Io ([40]++g ((za.l x).getD (toNat 0) (zi Q5))++[32]++Lib.toUpperA (za.op x)++[32])+Io (g ((za.l x).getD (toNat 1) (zi Q5)))<=1099511627776)=Q3 then if Q0 (Io ([40]++g ((za.l x).getD (toNat 0) (zi Q5))++[32]++Lib.toUpperA (za.op x)++[32]++g ((za.l x).getD (toNat 1) (zi Q5)))+[41].length<=1099511627776)=Q3 then Q3 else Q4 else Q4 else Q4 else Q4 else Q4 else Q4 else Q4 else Q4 else Q4 else Q4 else Q4)
def zm0(g:Sem Q5->Sem Q6)(c:Sem Q5->Bool):z8:=zZ [Q5] [Q6] (λx=>A2 g c x.1) λx=>(tv g c x.1,())
theorem zbl(g:Sem Q5->Sem Q6)(c:Sem Q5->Bool)(d:FK 355 (zZ [Q5] [Q6] (λx=>c x.1) λx=>(g x.1,()))):FK 355 (zm0 g c):=by
 refine aL (DH g c) λx a C b=>?_
 unfold A2 at a;refine zF (Tz d) (DH g c) (λid _=>b id) (zkf g c x.1) ?_;generalize h:tv g c x.1=y;unfold tv at h
 try simp only[za.eta]
 repeat' (first|with_reducible refine vz h a (λ_ h a=>?_) (λ_ h a=>?_)|with_reducible refine dG h (λ_ h=>?_) (λ_ h=>?_)|with_reducible refine iO a (λa=>?_)|with_reducible refine zT ?_)
 all_goals first|(cases a;done)|(subst h;first|rfl)
mutual
def aZ:Nat->Sem Q5->Sem Q6
 |0=>λ_=>default
 |n+1=>tv (aZ n) (g6 n)
def g6:Nat->Sem Q5->Bool
 |0=>λ_=>Q4
 |n+1=>A2 (aZ n) (g6 n)
end
theorem Qu:∀n,FK 355 (zZ [Q5] [Q6] (λx=>g6 n x.1) λx=>(aZ n x.1,()))
 |0=>eI ⟨Tryz.f355,(DH default default).1,(DH default default).2.1,(DH default default).2.2.1⟩ (λ_=>rfl)
 |n+1=>zbl (aZ n) (g6 n) (Qu n)
def zmZ:z8:=zZ [Q5] [Q6] (λx=>g6 16 x.1) λx=>(aZ 16 x.1,())
theorem zhK:FK 355 zmZ:=Qu 16
def p9:=Ra.addL [(323,zmL),(355,zmZ)]
theorem kV:zw p9:=xh.addL<|fc zhw<|fc zhK iH
abbrev wi(l:LS)(i:Int):St:={tmps:=[.sl Q6 l,.clo (.func 323) [] [.ptr 0 0],.any,.any,.any,.any,.any,.int .i64 (Io l),.int .i64 i,.any,.any,.any,.any,.any,.any,.any,.any,.any,.any],heap:=[.box [.clo (.func 282) [] []]]}
theorem T0(l:LS):run p9 1 AP Tryz.f345.results.toList 300 (bq Tryz.f345) (aW Tryz.f345.ntmps [.sl Q6 l,.clo (.func 323) [] [.ptr 0 0]] [.box [.clo (.func 282) [] []]])=.ok (.head 2 (ab Tryz.f345 2) (wi l 0)):=kw
theorem Ur(l:LS)(i:Int):run p9 1 AP Tryz.f345.results.toList 300 (ab Tryz.f345 2) (wi l i)=oL (K:=ab Tryz.f345 2) (e:=Q6) l (λx=>!cv x) (wi l) [.box [.clo (.func 282) [] []]] i:=kw
theorem YI:zM p9.P 345 Tryz.f345 2:=bL kw
def zpx:eX [Q1 (.sl Q6),Q2]:=λx h=>match x,h with
 |(l,.clo (.func 323) [] [.ptr 0 0],_),[.box [.clo (.func 282) [] []]]=>.ok (.int .i64 (ac (λx=>!cv x) l 0),[.box [.clo (.func 282) [] []]])
 |_,_=>.err
def zmV:z8:=aS [Q1 (.sl Q6),Q2] zpx
theorem zhG:FK 345 zmV:=by
 refine da YI λx d c h C a=>?_
 unfold zpx at h;split at h
 .rename_i l u;simp only[Tr.val_ok,bg]at h;subst h;refine Reach.len 0 Q6 l rfl λb=>?_
  refine zF (n0:=1) kV YI a (T0 l) ?_;exact lg l (λx=>!cv x) (wi l) kV YI a (Ur l) b _ 0 rfl (aM _)
 .simp at h
abbrev zrj:Nat->aP:=λ_=>{ }
theorem zg0:zM (p9).P 335 Tryz.f335 1:=bL kw
theorem zqj(x:Sem Q5):rn p9 0 zrj Tryz.f335 [zL Q5 x] []=br (!dD (zr x)) (Tr.ok (zO.ret (tup [str [],ai 1]) [])) (Qc (g6 16 (zr x)) (Tr.ok (zO.ret (tup [str (aZ 16 (zr x)),ai 0]) []))):=kw
def oE(x:Sem Q5):Sem Q6×zq:=(ite ((!dD x)=Q3) ([],1) (aZ 16 x,0))
def rp(x:Sem Q5):Bool:=(ite ((!dD x)=Q3) Q3 (ite (g6 16 x=Q3) Q3 Q4))
def zmS:z8:=zZ [Q5] [Q6,zj] (λx=>rp x.1) λx=>((oE x.1).1,(oE x.1).2,())
theorem zhD:FK 335 zmS:=by
 refine aL (zg0) λx a C b=>?_
 unfold rp at a;refine zF kV (zg0) (λid _=>b id) (zqj x.1) ?_;generalize h:oE x.1=y;unfold oE at h
 try simp only[za.eta]
 repeat' (first|with_reducible refine vz h a (λ_ h a=>?_) (λ_ h a=>?_)|with_reducible refine dG h (λ_ h=>?_) (λ_ h=>?_)|with_reducible refine iO a (λa=>?_)|with_reducible refine zT ?_)
 all_goals first|(cases a;done)|(subst h;first|rfl)
abbrev zrO:Nat->aP:=λj=>if j=3 then{slots:=[0,4,5],prom:=[(4,Q2,kD)]}else{ }
abbrev No(s:TS)(i:Int)(l:LF):St:={tmps:=(tm 47 [(0,str s),(4,AV.vec 0),(5,ai i)]),heap:=[AO.vec zB l]}
theorem zlD:zM (p9).P 256 Tryz.f256 1:=bL kw
theorem zvq(x:TS):rn p9 0 zrO Tryz.f256 [zL Q6 x] []=Tr.ok (zO.head 3 (ab Tryz.f256 3) (No x 0 [])):=kw
theorem zlO(s:TS)(i:Int)(l:LF):rh p9 0 zrO Tryz.f256 3 (No s i l)=let h:=(↑(Io s):Int);let a:=Qg (h.toNat-i.toNat) (Qh i.toNat s);let x:=(↑(getD s i.toNat 0).toNat:Int);br (Q0 (i<h)) (Qc (zK i (Io s)&&bif x==32 then Q3 else zK i (Io s)) (br (cond (x==32) Q3 (x==10)) (Tr.ok (zO.head 3 (ab Tryz.f256 3) (No s (Γ Δ (i+1)) l))) (Qc (Q0 (0<=i)&&Q0 (i<=h)&&Q0 (h<=h)) (Qc (lh a) (Qc (sk (bP a).1) (br (cond (!cU (bP a).1) Q3 ((↑l.length:Int)==400)) (Tr.ok (zO.ret (tup [nils,ai 2]) [])) (Qc (Q0 (Io l+[(bP a).1].length<=1073741824)) (Tr.ok (zO.head 3 (ab Tryz.f256 3) (No s (Γ Δ (i+(bP a).2)) (l++[(bP a).1]))))))))))) (Tr.ok (zO.ret (tup [AV.vec 0,ai 0]) [AO.vec zB l])):=kw
def uM:Nat->(Sem Sh.str)->Int->dr->Sem kD.sl×zq
 |0,_,_,_=>default
 |n+1,s,i,l=>(if Q0 (i<(↑(Io s):Int))=Q3 then
 if(cond ((↑(getD s i.toNat 0).toNat:Int)==32) Q3 ((↑(getD s i.toNat 0).toNat:Int)==10))=Q3 then
  uM n s (Γ Δ (i+1)) l
 else
  if
    (bif !cU (bP (Qg ((↑(Io s):Int).toNat-i.toNat) (Qh i.toNat s))).1 then Q3
     else(↑l.length:Int)==400)=
     Q3 then
   ([],2)
  else
   uM n s (Γ Δ (i+(bP (Qg ((↑(Io s):Int).toNat-i.toNat) (Qh i.toNat s))).2))
    (l++[(bP (Qg ((↑(Io s):Int).toNat-i.toNat) (Qh i.toNat s))).1])
else(l,0))
def tr:Nat->(Sem Sh.str)->Int->dr->Bool
 |0,_,_,_=>Q4
 |n+1,s,i,l=>(if Q0 (i<(↑(Io s):Int))=Q3 then
 if (zK i (Io s)&&bif (↑(getD s i.toNat 0).toNat:Int)==32 then true else zK i (Io s))=true then
  if(cond ((↑(getD s i.toNat 0).toNat:Int)==32) Q3 ((↑(getD s i.toNat 0).toNat:Int)==10))=Q3 then
   tr n s (Γ Δ (i+1)) l
  else
   if (decide (0≤i)&&decide (i≤(↑(Io s):Int))&&decide ((↑(Io s):Int)≤(↑(Io s):Int)))=true then
    if lh (List.take ((↑(Io s):Int).toNat-i.toNat) (List.drop i.toNat s))=true then
     if sk (bP (List.take ((↑(Io s):Int).toNat-i.toNat) (List.drop i.toNat s))).1=true then
      if
        (bif !cU (bP (Qg ((↑(Io s):Int).toNat-i.toNat) (Qh i.toNat s))).1 then Q3
         else(↑l.length:Int)==400)=
         Q3 then
       Q3
      else
       if
         Q0 (Io l+[(bP (Qg ((↑(Io s):Int).toNat-i.toNat) (Qh i.toNat s))).1].length<=1073741824)=
          Q3 then
        tr n s (Γ Δ (i+(bP (Qg ((↑(Io s):Int).toNat-i.toNat) (Qh i.toNat s))).2))
         (l++[(bP (Qg ((↑(Io s):Int).toNat-i.toNat) (Qh i.toNat s))).1])
       else Q4
     else Q4
    else Q4
   else Q4
 else Q4
else Q3)
theorem VH{C:eA}(b:∀id,C.ρ0 id=Q2):∀(n:Nat)(s:TS)(i:Int)(l:LF),tr n s i l=Q3->
  Reach (p9) C 256 (ab Tryz.f256 3) (No s i l) (λr h=>aU h [kD.sl,zj] r=Q1 ((uM n s i l).1,(uM n s i l).2,()))
 |0,s,i,l,x=>by cases x
 | n+1,s,i,l,x=>by
  refine zF kV (zlD) (λid _=>b id) (zlO _ _ _) ?_;rw[tr]at x;generalize a:uM (n+1) s i l=y;rw[uM]at a
  skip
  repeat' (first|with_reducible refine vz a x (λ_ a x=>?_) (λ_ a x=>?_)|with_reducible refine dG a (λ_ a=>?_) (λ_ a=>?_)|with_reducible refine iO x (λx=>?_)|with_reducible refine zT ?_)
  all_goals first|(cases x;done)|(subst a;first|(change Reach _ _ _ _ _ _;refine VH b n _ _ _ ?_<;>exact x)|rfl)
def cut(x:TS):Sem kD.sl×zq:=(uM (Io x+1) x 0 [])
def V2(x:TS):Bool:=(tr (Io x+1) x 0 [])
def F69:z8:=zZ [Q6] [kD.sl,zj] (λx=>V2 x.1) λx=>((cut x.1).1,(cut x.1).2,())
theorem zo5:FK 256 F69:=by
 refine aL (zlD) λx h C b=>?_
 unfold V2 at h;refine zF kV (zlD) (λid _=>b id) (zvq x.1) ?_;generalize a:cut x.1=y;unfold cut at a
 try simp only[za.eta,zn]
 repeat' (first|with_reducible refine vz a h (λ_ a h=>?_) (λ_ a h=>?_)|with_reducible refine dG a (λ_ a=>?_) (λ_ a=>?_)|with_reducible refine iO h (λh=>?_)|with_reducible refine zT ?_)
 all_goals first|(cases h;done)|(subst a;first|(change Reach _ _ _ _ _ _;refine VH b _ _ _ _ ?_<;>exact h)|rfl)
def Lt:=p9.addL [(345,zmV),(335,zmS),(256,F69)]
theorem xi:zw Lt:=kV.addL<|fc zhG<|fc zhD<|fc zo5 iH
def zmK:z8:=aS (List.replicate 2 Q2) (eK Lt Tryz.f322 (List.replicate 2 Q2))
theorem zhv:FK 322 zmK:=bS _ xi (bL kw)
abbrev zv3:Nat->aP:=λ_=>{ }
theorem zs3:zM (Lt).P 296 Tryz.f296 1:=bL kw
theorem zvA(x:Sem Q5):rn Lt 0 zv3 Tryz.f296 [zL Q5 x] []=Qc (rp (zr x)) (Tr.ok (zO.ret (str (oE (zr x)).1) [])):=kw
def iX(x:Sem Q5):Sem Q6:=((oE x).1)
def qW(x:Sem Q5):Bool:=(ite (rp x=Q3) Q3 Q4)
def F94:z8:=zZ [Q5] [Q6] (λx=>qW x.1) λx=>(iX x.1,())
theorem zpr:FK 296 F94:=by
 refine aL (zs3) λx a C b=>?_
 unfold qW at a;refine zF xi (zs3) (λid _=>b id) (zvA x.1) ?_;generalize h:iX x.1=y;unfold iX at h
 try simp only[za.eta]
 repeat' (first|with_reducible refine vz h a (λ_ h a=>?_) (λ_ h a=>?_)|with_reducible refine dG h (λ_ h=>?_) (λ_ h=>?_)|with_reducible refine iO a (λa=>?_)|with_reducible refine zT ?_)
 all_goals first|(cases a;done)|(subst h;first|rfl)
def Lu:=Lt.addL [(322,zmK),(296,F94)]
theorem xj:zw Lu:=xi.addL<|fc zhv<|fc zpr iH
def F86:z8:=aS (List.replicate 4 Q2) (eK Lu Tryz.f288 (List.replicate 4 Q2))
theorem zpj:FK 288 F86:=bS _ xj (bL kw)
abbrev zv4:Nat->aP:=λ_=>{ }
theorem zs5:zM (Lu).P 300 Tryz.f300 2:=bL kw
theorem zvC(x:TS)(h:Sem Q5):rn Lu 0 zv4 Tryz.f300 [zL Q6 x,zL Q5 h] []=let a:=zr h;br (im a) (Tr.ok (zO.ret (str []) [])) (Qc (Q0 (Io x+Io K4<=1099511627776)) (Qc (qW a) (Qc (Q0 (Io (x++K4)+Io (iX a)<=1099511627776)) (Qc (Q0 (Io (x++K4++iX a)+Io iE<=1099511627776)) (Tr.ok (zO.ret (str (x++K4++iX a++iE)) [])))))):=kw
def lr(h:TS)(x:Sem Q5):Sem Q6:=(ite (im x=Q3) [] (h++K4++iX x++iE))
def uF(h:TS)(x:Sem Q5):Bool:=(ite (im x=Q3) Q3 (ite (Q0 (Io h+Io K4<=1099511627776)=Q3) (ite (qW x=Q3) (ite (Q0 (Io (h++K4)+Io (iX x)<=1099511627776)=Q3) (ite (Q0 (Io (h++K4++iX x)+Io iE<=1099511627776)=Q3) Q3 Q4) Q4) Q4) Q4))
def F98:z8:=zZ [Q6,Q5] [Q6] (λx=>uF x.1 x.2.1) λx=>(lr x.1 x.2.1,())
theorem zpt:FK 300 F98:=by
 refine aL (zs5) λx a C b=>?_
 unfold uF at a;refine zF xj (zs5) (λid _=>b id) (zvC x.1 x.2.1) ?_;generalize h:lr x.1 x.2.1=y;unfold lr at h
 try simp only[za.eta]
 repeat' (first|with_reducible refine vz h a (λ_ h a=>?_) (λ_ h a=>?_)|with_reducible refine dG h (λ_ h=>?_) (λ_ h=>?_)|with_reducible refine iO a (λa=>?_)|with_reducible refine zT ?_)
 all_goals first|(cases a;done)|(subst h;first|rfl)
def zfW:=Lu.addL [(288,F86),(300,F98)]
theorem TM:zw zfW:=xj.addL<|fc zpj<|fc zpt iH
def ztO(h:zN):Sem Q7:=(cond (cond (Q0 ((↑(Io h.2.2.2.2.1):Int)<1)) Q3 (Q0 ((↑(Io h.2.2.2.2.1):Int)>8))) Q4 (bif !Q0 (ac (λx=>!zpO x) h.2.2.2.2.1 0>=0)then bif cv h.2.2.2.2.2.1 then bif bif Q0 ((↑(Io h.2.2.2.2.2.2.1):Int)<0)then Q3 else Q0 ((↑(Io h.2.2.2.2.2.2.1):Int)>8)then Q4 else bif !Q0 (ac (λx=>!cv x) h.2.2.2.2.2.2.1 0>=0)then bif bif Q0 ((↑(Io h.2.2.2.2.2.2.2.1):Int)<0)then Q3 else Q0 ((↑(Io h.2.2.2.2.2.2.2.1):Int)>8)then Q4 else bif !Q0 (ac (λx=>!zts x) h.2.2.2.2.2.2.2.1 0>=0)then ci h.2.2.2.2.2.2.2.2.1 else Q4 else Q4 else Q4 else Q4))
def zfX:=zfW
theorem xk:zw zfX:=TM
def vi(h:zN):Tr (Empty⊕au):=
 let p:=zr h.t.t.1
 let v:=zr h.t.t.q.2.1
 let y:=(h.t.t.2.1,h.t.t.q.1,v,h.t.t.t)
 let z:=(h.1,[],h.2.2.1,h.2.2.2.1,h.t.1,h.t.2.1,h.t.q.1,h.t.q.2.1,p,y)
 let s:=bif cv h.2.1 then ci v else Q4
 let u:=(h.1,[],h.2.2.1,h.2.2.2.1,h.t.1,h.t.2.1,h.t.q.1,h.t.q.2.1,p,h.t.t.2.1,h.t.t.q.1,za.mk [] (0,0,[]) [] [],h.t.t.t)
 let A:=cv h.t.t.t
 let b:=bif cv h.2.1 then A else Q4
 let B:=(h.t.t.2.1,h.t.t.q.1,v,[])
 let c:=(h.1,[],h.2.2.1,h.2.2.2.1,h.t.1,h.t.2.1,h.t.q.1,h.t.q.2.1,p,B)
 let d:=cv h.2.2.1
 let a:=(↑(Io h.2.2.2.1):Int)
 let w:=ac (λx=>!cv x) h.2.2.2.1 0
 let e:=ci p
 let g:=bif !Q0 (w>=0)then e else Q4
 let i:=bif cv h.2.1 then bif d then bif bif Q0 (a<1)then Q3 else Q0 (a>8)then Q4 else g else Q4 else Q4
 let j:=(h.1,[],[],[],h.t.1,h.t.2.1,h.t.q.1,h.t.q.2.1,za.mk [] (0,0,[]) [] [],y)
 let k:=eH j
 let l:=eS j
 let m:=bif cv h.2.1 then bif d then bif cv h.t.2.1 then bif A then e else Q4 else Q4 else Q4 else Q4
 let n:=(h.1,[],[],h.2.2.2.1,h.t.1,[],h.t.q.1,h.t.q.2.1,za.mk [] (0,0,[]) [] [],B)
 let o:=bif cv h.2.1 then bif d then bif bif Q0 (a<2)then Q3 else Q0 (a>2)then Q4 else g else Q4 else Q4
 br (h.1==Oe) (br (cv h.2.1) Tr.err (re (kb Q4) []))
 (br (h.1==bl1)
  (Qc (cond (cv h.2.1) (eH z) Q3) (re (AV.bool (cond (cv h.2.1) (eS z) Q4)) []))
  (br (h.1==bl3) (br (cv h.2.1) Tr.err (re (kb Q4) [])) (br (h.1==K2) (br (cv h.2.1) Tr.err (re (kb Q4) [])) (br (h.1==bl0) (Qc (cond s (eH u) Q3) (re (AV.bool (cond s (eS u) Q4)) []))
  (br (h.1==Ig) (Qc (cond s (eH u) Q3) (re (AV.bool (cond s (eS u) Q4)) [])) (br (h.1==bl9) (Qc (cond b (eH c) Q3) (re (AV.bool (cond b (eS c) Q4)) []))
  (br (h.1==Oa) (Qc (cond b (eH c) Q3) (re (AV.bool (cond b (eS c) Q4)) [])) (br (h.1==N8) (Qc (cond b (eH c) Q3) (re (AV.bool (cond b (eS c) Q4)) [])) (br (h.1==N9)
  (Qc (cond b (eH c) Q3) (re (AV.bool (cond b (eS c) Q4)) [])) (br (h.1==dm) (Qc (cond i k Q3) (re (AV.bool (cond i l Q4)) [])) (br (h.1==gm) (Qc (cond m (eH n) Q3) (re (AV.bool (cond m (eS n) Q4)) []))
  (br (h.1==mU) (Qc (cond o k Q3) (re (AV.bool (cond o l Q4)) [])) (re (kb Q4) [])))))))))))))
def BF(x:zN):=an [Q7] t0 100000000 (vi x)
def wj(x:zN):=(BF x).isSome
def fE(x:zN):=o1 (BF x)
def zeI:=FT [aC] [Q7] λx=>BF x.1
theorem zaS:FK 254 zeI:=xk.T1 (f:=Tryz.f254) (keep:=k0) (e:=e0)
def Ah(x:zN):Tr (Empty⊕au):=
 let E:=Q0 (Io x.1<=140737488355328)&&List.all x.1 λb=>Q0 (b.toNat<128)
 let I:=VS++Lib.toUpperA x.1
 let J:=I++[32]
 let L:=J++x.2.1
 let M:=L++lq
 let F:=zjK++Lib.toUpperA x.1
 let G:=F++AI
 let H:=G++x.2.1
 let D:=H++Od
 let C:=Qg ((↑(Io x.1):Int).toNat-toNat 2) (Qh (toNat 2) x.1)
 let d:=Lib.toUpperA C
 let e:=zjO++d
 let g:=e++AI
 let i:=g++x.2.1
 let c:=i++lq
 let a:=M++x.2.2.1
 let k:=a++AH
 let l:=gY x.2.2.2.1
 let m:=k++l
 let n:=zr x.t.t.1
 let j:=uF [32] n
 let o:=m++iE
 let h:=lr [32] n
 let p:=a++fi
 let q:=p++x.t.t.t
 let s:=q++AI
 let u:=s++x.t.2.1
 let v:=a++Th
 let w:=getD x.2.2.2.1 (toNat 0) (zi Q6)
 let y:=v++w
 let z:=y++Ti
 let A:=getD x.2.2.2.1 (toNat 1) (zi Q6)
 let B:=z++A
 Qc E
 (Qc (Q0 (Io VS+(Lib.toUpperA x.1).length<=1099511627776))
  (Qc (Q0 (Io I+[32].length<=1099511627776)) (Qc (Q0 (Io J+Io x.2.1<=1099511627776)) (Qc (Q0 (Io L+Io lq<=1099511627776)) (Qc (Q0 (Io M+Io x.2.2.1<=1099511627776)) (br (x.1==Oe) Tr.err (br (x.1==bl1)
  (Qc (Q0 (Io zcj+Io x.2.1<=1099511627776)) (re (str (zcj++x.2.1)) [])) (br (x.1==bl3) (Qc (Q0 (Io VQ+Io x.2.1<=1099511627776)) (Qc (decide
  (Io (VQ++x.2.1)+Io zcd<=1099511627776)) Tr.err)) (br (x.1==K2) (Qc (Q0 (Io VT+Io x.2.1<=1099511627776))
  (Qc (Q0 (Io (VT++x.2.1)+Io zcc<=1099511627776)) Tr.err)) (br (x.1==bl0) (Qc (Q0 (Io zch+Io x.2.1<=1099511627776)) Tr.err) (br (x.1==Ig)
  (Qc (Q0 (Io zcq+Io x.2.1<=1099511627776)) Tr.err) (br (x.1==bl9) (Qc E (Qc (Q0 (Io zjK+(Lib.toUpperA x.1).length<=1099511627776)) (Qc (Q0 (Io F+Io AI<=1099511627776))
  (Qc (Q0 (Io G+Io x.2.1<=1099511627776)) (Qc (Q0 (Io H+Io Od<=1099511627776)) (Qc (Q0 (Io D+Io x.t.t.t<=1099511627776)) (re (str (D++x.t.t.t)) []))))))) (br (x.1==Oa) (Qc E
  (Qc (Q0 (Io zjK+(Lib.toUpperA x.1).length<=1099511627776)) (Qc (Q0 (Io F+Io AI<=1099511627776)) (Qc (Q0 (Io G+Io x.2.1<=1099511627776)) (Qc (Q0 (Io H+Io Od<=1099511627776))
  (Qc (Q0 (Io D+Io x.t.t.t<=1099511627776)) (re (str (D++x.t.t.t)) []))))))) (br (x.1==N8) (Qc (Q0 (0<=2)&&Q0 (2<=(↑(Io x.1):Int))&&Q0 ((↑(Io x.1):Int)<=(↑(Io x.1):Int)))
  (Qc (Q0 (Io C<=140737488355328)&&C.all λb=>Q0 (b.toNat<128)) (Qc (Q0 (Io zjO+Io d<=1099511627776)) (Qc (Q0 (Io e+Io AI<=1099511627776)) (Qc (Q0 (Io g+Io x.2.1<=1099511627776))
  (Qc (Q0 (Io i+Io lq<=1099511627776)) (Qc (Q0 (Io c+Io x.t.t.t<=1099511627776)) (re (str (c++x.t.t.t)) [])))))))) (br (x.1==N9) (Qc (Q0 (0<=2)&&Q0 (2<=(↑(Io x.1):Int))&&
  Q0 ((↑(Io x.1):Int)<=(↑(Io x.1):Int))) (Qc (Q0 (Io C<=140737488355328)&&C.all λb=>Q0 (b.toNat<128)) (Qc (Q0 (Io zjO+Io d<=1099511627776)) (Qc (Q0 (Io e+Io AI<=1099511627776)) (Qc (Q0 (Io g+Io x.2.1<=1099511627776))
  (Qc (Q0 (Io i+Io lq<=1099511627776)) (Qc (Q0 (Io c+Io x.t.t.t<=1099511627776)) (re (str (c++x.t.t.t)) [])))))))) (br (x.1==dm) (Qc (Q0 (Io a+Io AH<=1099511627776)) (Qc (nW x.2.2.2.1)
  (Qc (Q0 (Io k+Io l<=1099511627776)) (Qc (Q0 (Io m+Io iE<=1099511627776)) (Qc j (Qc (Q0 (Io o+Io h<=1099511627776)) (re (str (o++h)) []))))))) (br (x.1==gm) (Qc (Q0 (Io a+Io fi<=1099511627776))
  (Qc (Q0 (Io p+Io x.t.t.t<=1099511627776)) (Qc (Q0 (Io q+Io AI<=1099511627776)) (Qc (Q0 (Io s+Io x.t.2.1<=1099511627776)) (Qc j (Qc (Q0 (Io u+Io h<=1099511627776)) (re (str (u++h)) [])))))))
  (Qc (Q0 (Io a+Io Th<=1099511627776)) (Qc (zK 0 (Io x.2.2.2.1)) (Qc (Q0 (Io v+Io w<=1099511627776)) (Qc (Q0 (Io y+Io Ti<=1099511627776)) (Qc (zK 1 (Io x.2.2.2.1)) (Qc (Q0 (Io z+Io A<=1099511627776)) (Qc j
  (Qc (Q0 (Io B+Io h<=1099511627776)) (re (str (B++h)) []))))))))))))))))))))))))))
def JW(x:zN):=an [Q6] t0 100000000 (Ah x)
def EI(x:zN):=(JW x).isSome
def iV(x:zN):=o1 (JW x)
def zeJ:=FT [aC] [Q6] λx=>JW x.1
theorem zaT:FK 255 zeJ:=xk.T1 (f:=Tryz.f255) (keep:=k0) (e:=e0)
def Rb:=zfX.addL [(254,zeI),(255,zeJ)]
theorem Gm:zw Rb:=xk.addL<|fc zaS<|fc zaT<|iH
abbrev zvV:Nat->aP:=λ_=>{ }
theorem zsH:zM (Rb).P 202 Tryz.f202 1:=bL kw
theorem zvg(x:zN):rn Rb 0 zvV Tryz.f202 [zL aC x] []=let a:=(zcL x);let h:=Tr.ok (zO.ret (tup [str [],ai 1]) []);Qc (wj a) (br (!fE a) h (Qc (EI a) (Qc (V2 (iV a)) (br ((cut (iV a)).2!=0) h (Tr.ok (zO.ret (tup [str (iV a),ai 0]) [])))))):=kw
def qJ(x:zN):Sem Q6×zq:=(ite ((!fE x)=Q3) ([],1) (ite (((cut (iV x)).2!=0)=Q3) ([],1) (iV x,0)))
def wn(x:zN):Bool:=(ite (wj x=Q3) (ite ((!fE x)=Q3) Q3 (ite (EI x=Q3) (ite (V2 (iV x)=Q3) Q3 Q4) Q4)) Q4)
def F52:z8:=zZ [aC] [Q6,zj] (λx=>wn x.1) λx=>((qJ x.1).1,(qJ x.1).2,())
theorem zoS:FK 202 F52:=by
 refine aL (zsH) λx a C b=>?_
 unfold wn at a;refine zF Gm (zsH) (λid _=>b id) (zvg x.1) ?_;generalize h:qJ x.1=y;unfold qJ at h
 try simp only[Rm]
 repeat' (first|with_reducible refine vz h a (λ_ h a=>?_) (λ_ h a=>?_)|with_reducible refine dG h (λ_ h=>?_) (λ_ h=>?_)|with_reducible refine iO a (λa=>?_)|with_reducible refine zT ?_)
 all_goals first|(cases a;done)|(subst h;first|rfl)
def Rc:=Rb.add 202 F52
theorem Gn:zw Rc:=Gm.add zoS
abbrev zvT:Nat->aP:=λ_=>{ }
theorem zso:zM (Rc).P 144 Tryz.f144 1:=bL kw
theorem zuY(x:zN):rn Rc 0 zvT Tryz.f144 [zL aC x] []=let a:=(zcL x);Qc (wn a) (Tr.ok (zO.ret (AV.bool ((qJ a).2==0)) [])):=kw
def eG(x:zN):Sem Q7:=((qJ x).2==0)
def pg(x:zN):Bool:=(ite (wn x=Q3) Q3 Q4)
def F31:z8:=zZ [aC] [Q7] (λx=>pg x.1) λx=>(eG x.1,())
theorem zoy:FK 144 F31:=by
 refine aL (zso) λx a C b=>?_
 unfold pg at a;refine zF Gn (zso) (λid _=>b id) (zuY x.1) ?_;generalize h:eG x.1=y;unfold eG at h
 try simp only[Rm]
 repeat' (first|with_reducible refine vz h a (λ_ h a=>?_) (λ_ h a=>?_)|with_reducible refine dG h (λ_ h=>?_) (λ_ h=>?_)|with_reducible refine iO a (λa=>?_)|with_reducible refine zT ?_)
 all_goals first|(cases a;done)|(subst h;first|rfl)
def pp:=Rc.add 144 F31
theorem jn:zw pp:=Gn.add zoy
def zog:z8:=aS (List.replicate 2 Q2) (eK pp Tryz.f259 (List.replicate 2 Q2))
theorem zi9:FK 259 zog:=bS _ jn (bL kw)
abbrev zro:Nat->aP:=λ_=>{ }
theorem zg2:zM (pp).P 54 Tryz.f54 1:=bL kw
theorem zqn(x:TS):rn pp 0 zro Tryz.f54 [zL Q6 x] []=br (Q0 ((↑(Io x):Int)>20)) (Qc (Q0 (0<=0)&&Q0 (0<=20)&&Q0 (20<=(↑(Io x):Int))) (Tr.ok (zO.ret (str (Qg (toNat 20-toNat 0) (Qh (toNat 0) x))) []))) (Tr.ok (zO.ret (str x) [])):=kw
def gO(x:TS):Sem Q6:=(ite (Q0 ((↑(Io x):Int)>20)=Q3) (Qg (toNat 20-toNat 0) (Qh (toNat 0) x)) x)
def g7(x:TS):Bool:=(ite (Q0 ((↑(Io x):Int)>20)=Q3) (ite ((Q0 (0<=0)&&Q0 (0<=20)&&Q0 (20<=(↑(Io x):Int)))=Q3) Q3 Q4) Q3)
def zm8:z8:=zZ [Q6] [Q6] (λx=>g7 x.1) λx=>(gO x.1,())
theorem zhU:FK 54 zm8:=by
 refine aL (zg2) λx a C b=>?_
 unfold g7 at a;refine zF jn (zg2) (λid _=>b id) (zqn x.1) ?_;generalize h:gO x.1=y;unfold gO at h
 try simp only[za.eta]
 repeat' (first|with_reducible refine vz h a (λ_ h a=>?_) (λ_ h a=>?_)|with_reducible refine dG h (λ_ h=>?_) (λ_ h=>?_)|with_reducible refine iO a (λa=>?_)|with_reducible refine zT ?_)
 all_goals first|(cases a;done)|(subst h;first|rfl)
abbrev zk6:Nat->aP:=λ_=>{ }
theorem YJ:zM (pp).P 119 Tryz.f119 3:=bL kw
theorem zkg(h:Sem zf.sl)(x:zq)(a:zp):rn pp 0 zk6 Tryz.f119 [zL zf.sl h,zL zj x,zL zf a] []=let b:=getD h (toNat x) (zi zf);Qc (cond (Q0 (x>=0)) (cond (Q0 (x<(↑(Io h):Int))) (zK x (Io h)) Q3) Q3) (Tr.ok (zO.ret (AV.bool (cond (Q0 (x>=0)) (cond (Q0 (x<(↑(Io h):Int))) (b.1==a.1&&(b.2.1==a.2.1&&(b.2.2==a.2.2&&Q3))) Q4) Q4)) [])):=kw
def bC(h:Sem zf.sl)(x:zq)(a:zp):Sem Q7:=(cond (Q0 (x>=0)) (cond (Q0 (x<(↑(Io h):Int))) ((getD h (toNat x) (zi zf)).1==a.1&&((getD h (toNat x) (zi zf)).2.1==a.2.1&&((getD h (toNat x) (zi zf)).2.2==a.2.2&&Q3))) Q4) Q4)
def Bz(h:Sem zf.sl)(x:zq)(_:zp):Bool:=(ite ((cond (Q0 (x>=0)) (cond (Q0 (x<(↑(Io h):Int))) (zK x (Io h)) Q3) Q3)=Q3) Q3 Q4)
def zfg:z8:=zZ [zf.sl,zj,zf] [Q7] (λx=>Bz x.1 x.2.1 x.2.2.1) λx=>(bC x.1 x.2.1 x.2.2.1,())
theorem Qw:FK 119 zfg:=by
 refine aL (YJ) λx a C b=>?_
 unfold Bz at a;refine zF jn (YJ) (λid _=>b id) (zkg x.1 x.2.1 x.2.2.1) ?_;generalize h:bC x.1 x.2.1 x.2.2.1=y;unfold bC at h
 skip
 repeat' (first|with_reducible refine vz h a (λ_ h a=>?_) (λ_ h a=>?_)|with_reducible refine dG h (λ_ h=>?_) (λ_ h=>?_)|with_reducible refine iO a (λa=>?_)|with_reducible refine zT ?_)
 all_goals first|(cases a;done)|(subst h;first|rfl)
abbrev zgM:Nat->aP:=λj=>if j=2 then{slots:=[0,1,5]}else{ }
abbrev ED(l:zR)(s:TS)(i:Int):St:={tmps:=(tm 21 [(0,sl zk l),(1,str s),(5,ai i)]),heap:=[]}
theorem RQ:zM (pp).P 61 Tryz.f61 2:=bL kw
theorem zql(x:Sem zk.sl)(h:TS):rn pp 0 zgM Tryz.f61 [zL zk.sl x,zL Q6 h] []=Tr.ok (zO.head 2 (ab Tryz.f61 2) (ED x h 0)):=kw
theorem R0(l:zR)(s:TS)(i:Int):rh pp 0 zgM Tryz.f61 2 (ED l s i)=br (Q0 (i<(↑l.length:Int))) (Qc (zK i (Io l)) (br ((l.getD i.toNat (zi zk)).1.1==s) (Tr.ok (zO.ret (ai i) [])) (Tr.ok (zO.head 2 (ab Tryz.f61 2) (ED l s (Γ Δ (i+1))))))) (Tr.ok (zO.ret (ai (-1)) [])):=kw
def gX(s:TS):List
 am->Int->zq
 |[],_=>(-1)
 |x::r,i=>(ite ((x.1.1==s)=Q3) i (gX s r (i+1)))
variable {C:eA}
theorem zbV(d:∀id,C.ρ0 id=Q2)(s:TS)(l:List
 am) (j:Io l<=aI):∀(m i:Nat),Io l-i=m->i<=Io l->
  Reach (pp) C 61 (ab Tryz.f61 2) (ED l s (i:Int)) (λr h=>aU h [zj] r=Q1 (gX s (l.drop i) i,())):=by
 intro m
 induction m with
 | zero=>
  intro i g e;obtain rfl:i=Io l:=by omega
  rw[jO];refine zF jn (RQ) (λid _=>d id) (R0 _ _ _) ?_;generalize x:gX s [] _=y;rw[gX]at x;simp only[zG,Tr.val_brF];repeat' (first|with_reducible refine dG x (λ_ x=>?_) (λ_ x=>?_)|with_reducible refine zT ?_)
  all_goals first|(cases hc;done)|(subst x;first|rfl)
 | succ m I=>
  intro i g e;have a:i<Io l:=by omega
  have I:=I (i+1);have b:((i:Int)+1)=((i+1:Nat):Int):=by omega
  have c:=zu i ow;rw[fR a];refine zF jn (RQ) (λid _=>d id) (R0 _ _ _) ?_;generalize x:gX s (l[i]::l.drop (i+1)) (i:Int)=y;rw[gX]at x;simp only[zI a,zx a,cO l _ a,c,Tr.val_brT,Tr.val_chkT];clear c
  try simp only[zx a]at x
  simp only[b]at x;repeat' (first|with_reducible refine dG x (λ_ x=>?_) (λ_ x=>?_)|with_reducible refine zT ?_)
  all_goals first|(cases hc;done)|(subst x;first|(change Reach _ _ _ _ _ _;apply I<;>first|omega|assumption)|rfl)
theorem VD(x:∀id,C.ρ0 id=Q2)(s:TS)(l:List
 am):
  Reach (pp) C 61 (ab Tryz.f61 2) (ED l s 0) (λr h=>aU h [zj] r=Q1 (gX s l 0,())):=
 Reach.len 0 zk l rfl λa=>zbV x s l a _ 0 rfl (aM _)
def lN(x:Sem zk.sl)(h:TS):zq:=(gX h x 0)
def zmW:z8:=aK [zk.sl,Q6] [zj] λx=>(lN x.1 x.2.1,())
theorem zhH:FK 61 zmW:=by
 refine ak (RQ) λx C a=>?_
 refine zF jn (RQ) (λid _=>a id) (zql x.1 x.2.1) ?_;generalize h:lN x.1 x.2.1=y;unfold lN at h
 try simp only[za.eta]
 repeat' (first|with_reducible refine dG h (λ_ h=>?_) (λ_ h=>?_)|with_reducible refine zT ?_)
 all_goals first|(cases hc;done)|(subst h;first|(change Reach _ _ _ _ _ _;apply VD a<;>first|assumption|exact hc)|rfl)
def sN:=pp.addL [(259,zog),(54,zm8),(119,zfg),(61,zmW)]
theorem kW:zw sN:=jn.addL<|fc zi9<|fc zhU<|fc Qw<|fc zhH iH
theorem JK(x:ii)(c:Int)(v:zp):Bz x c v=Q3:=by
 unfold Bz;by_cases h:(c:Int)>=0
 .by_cases a:c<(Io x:Int)
  .have b:zK c (Io x)=Q3:=by simp[zK];exact⟨h,a⟩
   simp[zy h,zy a,b]
  .simp[zy h,z7 a]
 .simp[z7 h]
def zfh:z8:=aK [Sh.sl zf,zj,zf] [Q7] λx=>(bC x.1 x.2.1 x.2.2.1,())
theorem zbq:FK 119 zfh:=om Qw λx=>JK x.1 x.2.1 x.2.2.1
abbrev zgO:Nat->aP:=λj=>if j=3 then{slots:=[0,3,4],prom:=[(3,Q2,.str)]}else{ }
abbrev EE(h:LS)(i:Int)(l:LS):St:={tmps:=(tm 24 [(0,sl Q6 h),(3,AV.vec 0),(4,ai i)]),heap:=[AO.vec Q6 l]}
theorem RR:zM (sN).P 55 Tryz.f55 1:=bL kw
theorem zqo(x:Sem Sh.str.sl):rn sN 0 zgO Tryz.f55 [zL Sh.str.sl x] []=Tr.ok (zO.head 3 (ab Tryz.f55 3) (EE x 0 [])):=kw
theorem R1(h:LS)(i:Int)(l:LS):rh sN 0 zgO Tryz.f55 3 (EE h i l)=br (cond (Q0 (i<(↑h.length:Int))) (Q0 (i<10)) Q4) (Qc (zK i (Io h)) (Qc (g7 (h.getD i.toNat (zi Q6))) (Qc (Q0 (Io l+[gO (h.getD i.toNat (zi Q6))].length<=1073741824)) (Tr.ok (zO.head 3 (ab Tryz.f55 3) (EE h (Γ Δ (i+1)) (l++[gO (h.getD i.toNat (zi Q6))]))))))) (Tr.ok (zO.ret (AV.vec 0) [AO.vec Q6 l])):=kw
def ip:List (Sem Q6)->Int->List (Sem Q6)->Sem Sh.str.sl
 |[],_,l=>(l)
 |x::r,i,l=>(ite (Q0 (i<10)=Q3) (ip r (i+1) (l++[gO x])) l)
def jt:List (Sem Q6)->Int->List (Sem Q6)->Bool
 |[],_,_=>(Q3)
 |x::r,i,l=>(if Q0 (i<10)=Q3 then
 if g7 x=Q3 then if Q0 (Io l+[gO x].length<=1073741824)=Q3 then jt r (i+1) (l++[gO x])else Q4 else Q4
else Q3)
theorem zbW(g:∀id,C.ρ0 id=Q2)(d:LS)(n:Io d<=aI):∀(m i:Nat)(l:LS),Io d-i=m->i<=Io d->jt (d.drop i) i l=Q3->
  Reach (sN) C 55 (ab Tryz.f55 3) (EE d (i:Int) l) (λr h=>aU h [Sh.str.sl] r=Q1 (ip (d.drop i) i l,())):=by
 intro m
 induction m with
 | zero=>
  intro i l k j x;obtain rfl:i=Io d:=by omega
  rw[jO]at x|-;refine zF kW (RR) (λid _=>g id) (R1 _ _ _) ?_;rw[jt]at x;generalize a:ip [] _ l=y;rw[ip]at a;simp only[zG,ax,Tr.val_brF];repeat' (first|with_reducible refine vz a x (λ_ a x=>?_) (λ_ a x=>?_)|with_reducible refine dG a (λ_ a=>?_) (λ_ a=>?_)|with_reducible refine iO x (λx=>?_)|with_reducible refine zT ?_)
  all_goals first|(cases x;done)|(subst a;first|rfl)
 | succ m I=>
  intro i l k j x;have b:i<Io d:=by omega
  have I:=I (i+1);have c:((i:Int)+1)=((i+1:Nat):Int):=by omega
  have e:=zu i ow;rw[fR b]at x|-;refine zF kW (RR) (λid _=>g id) (R1 _ _ _) ?_;rw[jt]at x;generalize a:ip (d[i]::d.drop (i+1)) (i:Int) l=y;rw[ip]at a;simp only[zI b,zx b,cO d _ b,e,aw];clear e
  try simp only[zx b]at a
  simp only[c]at a
  try simp only[zx b]at x
  try simp only[c]at x
  repeat' (first|with_reducible refine vz a x (λ_ a x=>?_) (λ_ a x=>?_)|with_reducible refine dG a (λ_ a=>?_) (λ_ a=>?_)|with_reducible refine iO x (λx=>?_)|with_reducible refine zT ?_)
  all_goals first|(cases x;done)|(subst a;first|(change Reach _ _ _ _ _ _;apply I<;>first|omega|assumption)|rfl)
theorem VE(a:∀id,C.ρ0 id=Q2)(x l:LS)(b:jt x 0 l=Q3):
  Reach (sN) C 55 (ab Tryz.f55 3) (EE x 0 l) (λr h=>aU h [Sh.str.sl] r=Q1 (ip x 0 l,())):=
 Reach.len 0 (Q6) x rfl λc=>zbW a x c _ 0 l rfl (aM _) b
def vp(x:Sem Sh.str.sl):Sem Sh.str.sl:=(ip x 0 [])
def vq(x:Sem Sh.str.sl):Bool:=(jt x 0 [])
def zna:z8:=zZ [Sh.str.sl] [Sh.str.sl] (λx=>vq x.1) λx=>(vp x.1,())
theorem zhW:FK 55 zna:=by
 refine aL (RR) λx h C b=>?_
 unfold vq at h;refine zF kW (RR) (λid _=>b id) (zqo x.1) ?_;generalize a:vp x.1=y;unfold vp at a
 try simp only[za.eta]
 repeat' (first|with_reducible refine vz a h (λ_ a h=>?_) (λ_ a h=>?_)|with_reducible refine dG a (λ_ a=>?_) (λ_ a=>?_)|with_reducible refine iO h (λh=>?_)|with_reducible refine zT ?_)
 all_goals first|(cases h;done)|(subst a;first|(change Reach _ _ _ _ _ _;apply VE b<;>first|assumption|exact h)|rfl)
abbrev BD(s:zH)(l:zR)(i:Int):St:={tmps:=[.sl zk l,.clo (.func 259) [] [.ptr 0 0],.any,.any,.any,.any,.any,.int .i64 (Io l),.int .i64 i,.any,.any,.any,.any,.any,.any,.any,.any,.any,.any],heap:=[.box [.str s]]}
theorem Xa(s:zH)(l:zR):run sN 1 AP Tryz.f258.results.toList 300 (bq Tryz.f258) (aW Tryz.f258.ntmps [.sl zk l,.clo (.func 259) [] [.ptr 0 0]] [.box [.str s]])=.ok (.head 2 (ab Tryz.f258 2) (BD s l 0)):=kw
theorem YX(s:zH)(l:zR)(i:Int):run sN 1 AP Tryz.f258.results.toList 300 (ab Tryz.f258 2) (BD s l i)=oL (K:=ab Tryz.f258 2) (e:=zk) l (λx=>x.1.1==s) (BD s l) [.box [.str s]] i:=kw
theorem YQ:zM sN.P 258 Tryz.f258 2:=bL kw
def zpz:eX [Q1 (.sl zk),Q2]:=λx h=>match x,h with
 |(l,.clo (.func 259) [] [.ptr 0 0],_),[.box [.str s]]=>.ok (.int .i64 (ac (λx=>x.1.1==s) l 0),[.box [.str s]])
 |_,_=>.err
def zof:z8:=aS [Q1 (.sl zk),Q2] zpz
theorem zi7:FK 258 zof:=by
 refine da YQ λx d c h C a=>?_
 unfold zpz at h;split at h
 .rename_i l u s;simp only[Tr.val_ok,bg]at h;subst h;refine Reach.len 0 zk l rfl λb=>?_
  refine zF (n0:=1) kW YQ a (Xa s l) ?_;exact lg l (λx=>x.1.1==s) (BD s l) kW YQ a (YX s l) b _ 0 rfl (aM _)
 .simp at h
def Lv:=sN.addL [(119,zfh),(55,zna),(258,zof)]
theorem xm:zw Lv:=kW.addL<|fc zbq<|fc zhW<|fc zi7 iH
def zff:z8:=aS (List.replicate 3 Q2) (eK Lv Tryz.f303 (List.replicate 3 Q2))
theorem zbp:FK 303 zff:=bS _ xm (bL kw)
abbrev zrF:Nat->aP:=λ_=>{ }
theorem zg5:zM (Lv).P 205 Tryz.f205 2:=bL kw
theorem zqx(h:Sem zk.sl)(a:TS):rn Lv 0 zrF Tryz.f205 [zL zk.sl h,zL Q6 a] []=Tr.ok (zO.ret (ai (ac (λx=>x.1.1==a) h 0)) []):=kw
def ae(h:Sem zk.sl)(a:TS):zq:=(ac (λx=>x.1.1==a) h 0)
def znE:z8:=aK [zk.sl,Q6] [zj] λx=>(ae x.1 x.2.1,())
theorem zit:FK 205 znE:=by
 refine ak (zg5) λx C a=>?_
 refine zF xm (zg5) (λid _=>a id) (zqx x.1 x.2.1) ?_;generalize h:ae x.1 x.2.1=y;unfold ae at h
 try simp only[za.eta]
 repeat' (first|with_reducible refine dG h (λ_ h=>?_) (λ_ h=>?_)|with_reducible refine zT ?_)
 all_goals first|(cases hc;done)|(subst h;first|rfl)
def Lw:=Lv.addL [(303,zff),(205,znE)]
theorem xn:zw Lw:=xm.addL<|fc zbp<|fc zit iH
abbrev se(c a b:Int)(s:zH)(l:List ii)(i:Int):St:={tmps:=[.sl (Sh.sl zf) l,.clo (.func 303) [] [.ptr 0 0,.ptr 1 0],.any,.any,.any,.any,.any,.int .i64 (Io l),.int .i64 i,.any,.any,.any,.any,.any,.any,.any,.any,.any,.any],heap:=[.box [.int .i64 c],.box [.int .i64 a,.int .i64 b,.str s]]}
theorem OY(c a b:Int)(s:zH)(l:List ii):run Lw 2 AP Tryz.f117.results.toList 300 (bq Tryz.f117) (aW Tryz.f117.ntmps [.sl (Sh.sl zf) l,.clo (.func 303) [] [.ptr 0 0,.ptr 1 0]] [.box [.int .i64 c],.box [.int .i64 a,.int .i64 b,.str s]])=.ok (.head 2 (ab Tryz.f117 2) (se c a b s l 0)):=kw
theorem Pq(c a b:Int)(s:zH)(l:List ii)(i:Int):run Lw 2 AP Tryz.f117.results.toList 300 (ab Tryz.f117 2) (se c a b s l i)=oL (K:=ab Tryz.f117 2) (e:=(Sh.sl zf)) l (λx=>bC x c (a,b,s)) (se c a b s l) [.box [.int .i64 c],.box [.int .i64 a,.int .i64 b,.str s]] i:=kw
theorem Po:zM Lw.P 117 Tryz.f117 2:=bL kw
def zfF:eX [Q1 (.sl (Sh.sl zf)),Q2]:=λx h=>match x,h with
 |(l,.clo (.func 303) [] [.ptr 0 0,.ptr 1 0],_),[.box [.int .i64 c],.box [.int .i64 a,.int .i64 b,.str s]]=>.ok (.int .i64 (ac (λx=>bC x c (a,b,s)) l 0),[.box [.int .i64 c],.box [.int .i64 a,.int .i64 b,.str s]])
 |_,_=>.err
def zfp:z8:=aS [Q1 (.sl (Sh.sl zf)),Q2] zfF
theorem zbx:FK 117 zfp:=by
 refine da Po λx i g h C d=>?_
 unfold zfF at h;split at h
 .rename_i l u c a b s;simp only[Tr.val_ok,bg]at h;subst h;refine Reach.len 0 (Sh.sl zf) l rfl λe=>?_
  refine zF (n0:=2) xn Po d (OY c a b s l) ?_;exact lg l (λx=>bC x c (a,b,s)) (se c a b s l) xn Po d (Pq c a b s l) e _ 0 rfl (aM _)
 .simp at h
def WB:=Lw.add 117 zfp
theorem Gp:zw WB:=xn.add zbx
def zfe:z8:=aS (List.replicate 2 Q2) (eK WB Tryz.f302 (List.replicate 2 Q2))
theorem zbo:FK 302 zfe:=bS _ Gp (bL kw)
def Rd:=WB.add 302 zfe
theorem xp:zw Rd:=Gp.add zbo
abbrev zkV:Nat->aP:=λ_=>{ }
theorem YG:zM (Rd).P 257 Tryz.f257 3:=bL kw
theorem zka(h:am)(a:zq)(b:zp):rn Rd 0 zkV Tryz.f257 [zL zk h,zL zj a,zL zf b] []=Tr.ok (zO.ret (AV.bool (Q0 (ac (λx=>bC x a b) h.2 0>=0))) []):=kw
def f5(h:am)(a:zq)(b:zp):Sem Q7:=(Q0 (ac (λx=>bC x a b) h.2 0>=0))
def zeL:z8:=aK [zk,zj,zf] [Q7] λx=>(f5 x.1 x.2.1 x.2.2.1,())
theorem zaV:FK 257 zeL:=by
 refine ak (YG) λx C a=>?_
 refine zF xp (YG) (λid _=>a id) (zka x.1 x.2.1 x.2.2.1) ?_;generalize h:f5 x.1 x.2.1 x.2.2.1=y;unfold f5 at h
 try simp only[za.eta]
 repeat' (first|with_reducible refine dG h (λ_ h=>?_) (λ_ h=>?_)|with_reducible refine zT ?_)
 all_goals first|(cases hc;done)|(subst h;first|rfl)
abbrev zkU:=kJ [(3,[1,5,11,12,13])]
inductive FP where
 |h3 (i1:zq) (l11:List (Sem zf.sl)) (i12:Int) (i13:Int) (mh_0:List ((Int×Int×zH)×Int))
abbrev zp0:FP->Nat×St
 |.h3 x l i h m=>(3,⟨tm 37 [(1,ai x),(5,AV.mp 0),(11,sl zf.sl l),(12,ai i),(13,ai h)],[AO.vmap Q4 m]⟩)
def zgv(x:am)(h:zq):Tr (FP⊕au):=Q9 (FP.h3 h x.2 (↑(Io x.2):Int) 0 [])
def AA:FP->Tr (FP⊕au)
 | .h3 x l h i m=>
  let b:=l.getD i.toNat (zi zf.sl)
  let a:=getD b (toNat x) (zi zf)
  let c:=(↑(lY m a):Int)
  let d:=kc m a
  let e:=kv d c.toNat (Γ Δ (gR m a+1))
  let g:=gR e a
  br (Q0 (i<h))
  (Qc (zK i (Io l))
   (Qc (zK x (Io b)) (Qc (Q0 (Io m<=1073741824)) (Qc (zK c (Io d)) (br (cond (a.1!=0) (Q0 (g>1)) Q4) (re (kb Q3) []) (Q9 (FP.h3 x l h (Γ Δ (i+1)) e)))))))
  (re (kb Q4) [])
def BA(x:am)(h:zq):=an [Q7] AA 100000000 (zgv x h)
def sa(x:am)(h:zq):=(BA x h).isSome
def yf(x:am)(h:zq):=o1 (BA x h)
def zeK:=FT [zk,zj] [Q7] λx=>BA x.1 x.2.1
theorem zaU:FK 49 zeK:=xp.T1 (f:=Tryz.f49) (keep:=zkU) (e:=zp0)
def zfY:=Rd.addL [(257,zeL),(49,zeK)]
theorem xq:zw zfY:=xp.addL<|fc zaV<|fc zaU iH
abbrev zrR:=kJ [(6,[1,18,19,20]),(15,[1,39,40,41]),(21,[1,8])]
inductive Fp where
 |h6 (l18:List (Sem zf.sl)) (i19:Int) (i20:Int) (z0:zo [CP.d zk])
 |h15 (l39:LI) (i40:Int) (i41:Int) (z0:zo [CP.d zk])
 |h21 (i8:Int) (z0:zo [CP.d zk])
abbrev zuy:Fp->Nat×St
 |.h6 l i h z=>(6,⟨tm 79 [(1,Qf 0 0),(18,sl zf.sl l),(19,ai i),(20,ai h)],[Qa (bI [] [CP.d zk] z)]⟩)
 |.h15 b x a z=>(15,⟨tm 79 [(1,Qf 0 0),(39,sl zj b),(40,ai x),(41,ai a)],[Qa (bI [] [CP.d zk] z)]⟩)
 |.h21 c z=>(21,⟨tm 79 [(1,Qf 0 0),(8,ai c)],[Qa (bI [] [CP.d zk] z)]⟩)
def T7(x:am):Tr (Fp⊕au):=br (!dM (x.1.1,x.1.2.1,x.1.2.2.1,x.1.2.2.2.1,x.1.t.1,zr x.1.t.2)) (re (ai 1) []) (br (Q0 ((↑(Io x.2):Int)>200)) (re (ai 13) []) (Q9 (Fp.h6 x.2 (↑(Io x.2):Int) 0 (x,()))))
def iz:Fp->Tr (Fp⊕au)
 | .h6 l d i z=>
  let x:=(z.1.1.1,z.1.1.2.1,z.1.1.2.2.1,z.1.1.2.2.2.1,z.1.1.t.1,zr z.1.1.t.2)
  let a:=cf x (l.getD i.toNat (zi zf.sl))
  let c:=(x,z.1.2)
  br (Q0 (i<d))
  (Qc (zK i (Io l)) (br (a !=0) (re (ai a) []) (Q9 (Fp.h6 l d (Γ Δ (i+1)) z))))
  (Qc (sa c z.1.1.2.2.1)
   (br (yf c z.1.1.2.2.1) (re (ai 7) []) (Q9 (Fp.h15 z.1.1.2.2.2.1 (↑(Io z.1.1.2.2.2.1):Int) 0 z))))
 | .h15 b e h z=>
  let x:=((z.1.1.1,z.1.1.2.1,z.1.1.2.2.1,z.1.1.2.2.2.1,z.1.1.t.1,zr z.1.1.t.2),z.1.2)
  let a:=b.getD h.toNat (zi zj)
  br (Q0 (h<e))
  (Qc (zK h (Io b))
   (Qc (sa x a) (br (yf x a) (re (ai 7) []) (Q9 (Fp.h15 b e (Γ Δ (h+1)) z)))))
  (Q9 (Fp.h21 1 z))
 | .h21 g z=>
  let x:=(↑(Io z.1.2):Int)
  let a:=Γ Δ (g-1)
  let c:=getD z.1.2 a.toNat (zi zf.sl)
  let j:=getD z.1.2 g.toNat (zi zf.sl)
  let k:=aO (getD c (toNat z.1.1.2.2.1) (zi zf)) (getD j (toNat z.1.1.2.2.1) (zi zf))
  br (Q0 (g<x))
  (Qc (zK a (Io z.1.2))
   (Qc (zK z.1.1.2.2.1 (Io c)) (Qc (zK g (Io z.1.2)) (Qc (zK z.1.1.2.2.1 (Io j)) (br (Q0 (k>=0)) (re (ai 15) []) (Q9 (Fp.h21 (Γ Δ (g+1)) z)))))))
  (re (ai 0) [])
def pd(x:am):=an [zj] iz 100000000 (T7 x)
def JH(x:am):=(pd x).isSome
def PQ(x:am):=o1 (pd x)
def znX:=FT [zk] [zj] λx=>pd x.1
theorem ziP:FK 23 znX:=xq.T1 (f:=Tryz.f23) (keep:=zrR) (e:=zuy)
abbrev zrS:=kJ [(2,[0,11,12,13]),(5,[0,4,11,12,13,19,20,21]),(11,[0,4,6,7,11,12,13,19,20,21,32,33,34])]
inductive Fq where
 |h2 (l0:zR) (l11:zR) (i12:Int) (i13:Int)
 |h5 (l0:zR) (l11:zR) (i12:Int) (i13:Int) (l19:LF) (i20:Int) (i21:Int) (z0:zo [CP.d zk])
 |h11 (l0:zR) (i7:zq) (l11:zR) (i12:Int) (i13:Int) (l19:LF) (i20:Int) (i21:Int) (l32:List (Sem zf.sl)) (i33:Int) (i34:Int) (z0:zo [CP.d zk]) (z1:zo [CP.d zB])
abbrev zuz:Fq->Nat×St
 |.h2 c l i h=>(2,⟨tm 64 [(0,sl zk c),(11,sl zk l),(12,ai i),(13,ai h)],[]⟩)
 |.h5 c l i h b x a z=>(5,⟨tm 64 [(0,sl zk c),(4,Qf 0 0),(11,sl zk l),(12,ai i),(13,ai h),(19,sl zB b),(20,ai x),(21,ai a)],[Qa (bI [] [CP.d zk] z)]⟩)
 |.h11 c k l i h b x a j e g z m=>(11,⟨tm 64 [(0,sl zk c),(4,Qf 0 0),(6,Qf 1 0),(7,ai k),(11,sl zk l),(12,ai i),(13,ai h),(19,sl zB b),(20,ai x),(21,ai a),(32,sl zf.sl j),(33,ai e),(34,ai g)],[Qa (bI [] [CP.d zk] z),Qa (bI [] [CP.d zB] m)]⟩)
def zrc(x:Sem zk.sl):Tr (Fq⊕au):=Q9 (Fq.h2 x x (↑(Io x):Int) 0)
def gZ:Fq->Tr (Fq⊕au)
 | .h2 c l h i=>
  let d:=l.getD i.toNat (zi zk)
  br (Q0 (i<h))
  (Qc (zK i (Io l)) (Q9 (Fq.h5 c l h i d.1.t.1 (↑(Io d.1.t.1):Int) 0 (d,()))))
  (re (kb Q3) [])
 | .h5 c l h i a b x z=>
  let d:=a.getD x.toNat (zi zB)
  let k:=ae c d.2
  br (Q0 (x<b))
  (Qc (zK x (Io a))
   (br (Q0 (k<0)) (re (kb Q4) []) (Q9 (Fq.h11 c k l h i a b x z.1.2 (↑(Io z.1.2):Int) 0 z (d,())))))
  (Q9 (Fq.h2 c l h (Γ Δ (i+1))))
 | .h11 c n l h i a b x j m e z o=>
  let d:=j.getD e.toNat (zi zf.sl)
  let k:=getD d (toNat o.1.1) (zi zf)
  let p:=k.1!=0
  let g:=c.getD (toNat n) (zi zk)
  br (Q0 (e<m))
  (Qc (zK e (Io j))
   (Qc (zK o.1.1 (Io d)) (Qc (cond p (zK n (Io c)&&zK n (Io c)) Q3) (br (cond p (!f5 ((g.1.1,g.1.2.1,g.1.2.2.1,g.1.2.2.2.1,g.1.t.1,zr g.1.t.2),g.2) g.1.2.2.1 k) Q4) (re (kb Q4) []) (Q9 (Fq.h11 c n l h i a b x j m (Γ Δ (e+1)) z o))))))
  (Q9 (Fq.h5 c l h i a b (Γ Δ (x+1)) z))
def AY(x:Sem zk.sl):=an [Q7] gZ 100000000 (zrc x)
def Ia(x:Sem zk.sl):=(AY x).isSome
def N3(x:Sem zk.sl):=o1 (AY x)
def znY:=FT [zk.sl] [Q7] λx=>AY x.1
theorem ziQ:FK 203 znY:=xq.T1 (f:=Tryz.f203) (keep:=zrS) (e:=zuz)
def zfZ:=zfY.addL [(23,znX),(203,znY)]
theorem Gq:zw zfZ:=xq.addL<|fc ziP<|fc ziQ iH
abbrev zru:=kJ [(4,[0,3]),(9,[0,30,31,32])]
inductive KD where
 |h4 (l0:zR) (i3:Int)
 |h9 (l0:zR) (l30:zR) (i31:Int) (i32:Int)
abbrev zuj:KD->Nat×St
 |.h4 l a=>(4,⟨tm 45 [(0,sl zk l),(3,ai a)],[]⟩)
 |.h9 l x i h=>(9,⟨tm 45 [(0,sl zk l),(30,sl zk x),(31,ai i),(32,ai h)],[]⟩)
def zc5(x:Sem zk.sl):Tr (KD⊕au):=br (Q0 ((↑(Io x):Int)>12)) (re (ai 13) []) (Q9 (KD.h4 x 1))
def ph:KD->Tr (KD⊕au)
 | .h4 l x=>
  let a:=Γ Δ (x-1)
  let c:=l.getD a.toNat (zi zk)
  let d:=l.getD x.toNat (zi zk)
  br (Q0 (x<(↑l.length:Int)))
  (Qc (zK a (Io l))
   (Qc (zK x (Io l)) (br (!Op.bytesLess c.1.1 d.1.1) (re (ai 15) []) (Q9 (KD.h4 l (Γ Δ (x+1)))))))
  (Q9 (KD.h9 l l (↑l.length:Int) 0))
 | .h9 l h b i=>
  let a:=h.getD i.toNat (zi zk)
  let c:=((a.1.1,a.1.2.1,a.1.2.2.1,a.1.2.2.2.1,a.1.t.1,zr a.1.t.2),a.2)
  let d:=PQ c
  br (Q0 (i<b))
  (Qc (zK i (Io h))
   (Qc (JH c) (br (d !=0) (re (ai d) []) (Q9 (KD.h9 l h b (Γ Δ (i+1)))))))
  (Qc (Ia l) (br (!N3 l) (re (ai 10) []) (re (ai 0) [])))
def uz(x:Sem zk.sl):=an [zj] ph 100000000 (zc5 x)
def oq(x:Sem zk.sl):=(uz x).isSome
def kh(x:Sem zk.sl):=o1 (uz x)
def zno:=FT [zk.sl] [zj] λx=>uz x.1
theorem zic:FK 145 zno:=Gq.T1 (f:=Tryz.f145) (keep:=zru) (e:=zuj)
def dj:=zfZ.add 145 zno
theorem bz:zw dj:=Gq.add zic
abbrev aq:Sh:=.pr .str (.pr .str (.pr .str (.pr aj (.pr (.sl zj) zj))))
abbrev ar:=Sem aq
abbrev bB:List CP:=[.d (.sl zk),.d aC,.d aj,.d aj,.d .str,.d .str,.d .str,.d .str,.nil,.d zj,.nil,.nil,.d .expr,.nil,.d zj]
abbrev az:List CP:=[.d (.sl zk),.d aC,.d aj,.d aj,.d .str,.d .str,.d .str,.d .str,.vec zl,.d zj,.nil,.nil,.d .expr,.d (.sl zj),.d zj]
abbrev zgT:Nat->aP:=λj=>if j=2 then{slots:=[0,1,7,8]}else{ }
abbrev EG(l:LI)(i:zq)(h x:Int):St:={tmps:=(tm 19 [(0,sl zj l),(1,ai i),(7,ai h),(8,ai x)]),heap:=[]}
theorem RT:zM (dj).P 200 Tryz.f200 2:=bL kw
theorem zqD(x:Sem zj.sl)(h:zq):rn dj 0 zgT Tryz.f200 [zL zj.sl x,zL zj h] []=Tr.ok (zO.head 2 (ab Tryz.f200 2) (EG x h (↑(Io x):Int) 0)):=kw
theorem R4(l:LI)(h:zq)(x i:Int):rh dj 0 zgT Tryz.f200 2 (EG l h x i)=br (Q0 (i<x)) (Qc (zK i (Io l)) (br (h==l.getD i.toNat (zi zj)) (Tr.ok (zO.ret (ai i) [])) (Tr.ok (zO.head 2 (ab Tryz.f200 2) (EG l h x (Γ Δ (i+1))))))) (Tr.ok (zO.ret (ai (-1)) [])):=kw
def fa(h:zq):dA->Int->zq
 |[],_=>(-1)
 |x::r,i=>(ite ((h==x)=Q3) i (fa h r (i+1)))
theorem zbY(e:∀id,C.ρ0 id=Q2)(d:zq)(l:LI)(k:Io l<=aI):∀(m i:Nat),Io l-i=m->i<=Io l->
  Reach (dj) C 200 (ab Tryz.f200 2) (EG l d (Io l:Int) (i:Int)) (λr h=>aU h [zj] r=Q1 (fa d (l.drop i) i,())):=by
 intro m
 induction m with
 | zero=>
  intro i j g;obtain rfl:i=Io l:=by omega
  rw[jO];refine zF bz (RT) (λid _=>e id) (R4 _ _ _ _) ?_;generalize x:fa d [] _=y;rw[fa]at x;simp only[zG,Tr.val_brF];repeat' (first|with_reducible refine dG x (λ_ x=>?_) (λ_ x=>?_)|with_reducible refine zT ?_)
  all_goals first|(cases hc;done)|(subst x;first|rfl)
 | succ m I=>
  intro i j g;have a:i<Io l:=by omega
  have I:=I (i+1);have b:((i:Int)+1)=((i+1:Nat):Int):=by omega
  have c:=zu i ow;rw[fR a];refine zF bz (RT) (λid _=>e id) (R4 _ _ _ _) ?_;generalize x:fa d (l[i]::l.drop (i+1)) (i:Int)=y;rw[fa]at x;simp only[zI a,zx a,cO l _ a,c,Tr.val_brT,Tr.val_chkT];clear c
  try simp only[zx a]at x
  simp only[b]at x;repeat' (first|with_reducible refine dG x (λ_ x=>?_) (λ_ x=>?_)|with_reducible refine zT ?_)
  all_goals first|(cases hc;done)|(subst x;first|(change Reach _ _ _ _ _ _;apply I<;>first|omega|assumption)|rfl)
theorem VG(x:∀id,C.ρ0 id=Q2)(i:zq)(l:LI):
  Reach (dj) C 200 (ab Tryz.f200 2) (EG l i (Io l:Int) 0) (λr h=>aU h [zj] r=Q1 (fa i l 0,())):=
 Reach.len 0 (Sh.int IntKind.i64) l rfl λa=>zbY x i l a _ 0 rfl (aM _)
def gV(x:Sem zj.sl)(h:zq):zq:=(fa h x 0)
def znS:z8:=aK [zj.sl,zj] [zj] λx=>(gV x.1 x.2.1,())
theorem ziL:FK 200 znS:=by
 refine ak (RT) λx C a=>?_
 refine zF bz (RT) (λid _=>a id) (zqD x.1 x.2.1) ?_;generalize h:gV x.1 x.2.1=y;unfold gV at h
 try simp only[za.eta]
 repeat' (first|with_reducible refine dG h (λ_ h=>?_) (λ_ h=>?_)|with_reducible refine zT ?_)
 all_goals first|(cases hc;done)|(subst h;first|(change Reach _ _ _ _ _ _;apply VG a<;>first|assumption|exact hc)|rfl)
abbrev zgU:Nat->aP:=λj=>if j=2 then{slots:=[0,1,7,8]}else{ }
abbrev EH(l:LS)(s:TS)(i h:Int):St:={tmps:=(tm 19 [(0,sl Q6 l),(1,str s),(7,ai i),(8,ai h)]),heap:=[]}
theorem RU:zM (dj).P 260 Tryz.f260 2:=bL kw
theorem zqI(x:Sem Sh.str.sl)(h:TS):rn dj 0 zgU Tryz.f260 [zL Sh.str.sl x,zL Q6 h] []=Tr.ok (zO.head 2 (ab Tryz.f260 2) (EH x h (↑(Io x):Int) 0)):=kw
theorem R5(l:LS)(s:TS)(h i:Int):rh dj 0 zgU Tryz.f260 2 (EH l s h i)=br (Q0 (i<h)) (Qc (zK i (Io l)) (br (s==l.getD i.toNat (zi Q6)) (Tr.ok (zO.ret (ai i) [])) (Tr.ok (zO.head 2 (ab Tryz.f260 2) (EH l s h (Γ Δ (i+1))))))) (Tr.ok (zO.ret (ai (-1)) [])):=kw
def iK(s:TS):List (Sem Q6)->Int->zq
 |[],_=>(-1)
 |x::r,i=>(ite ((s==x)=Q3) i (iK s r (i+1)))
theorem zbZ(d:∀id,C.ρ0 id=Q2)(s:TS)(l:LS)(j:Io l<=aI):∀(m i:Nat),Io l-i=m->i<=Io l->
  Reach (dj) C 260 (ab Tryz.f260 2) (EH l s (Io l:Int) (i:Int)) (λr h=>aU h [zj] r=Q1 (iK s (l.drop i) i,())):=by
 intro m
 induction m with
 | zero=>
  intro i g e;obtain rfl:i=Io l:=by omega
  rw[jO];refine zF bz (RU) (λid _=>d id) (R5 _ _ _ _) ?_;generalize x:iK s [] _=y;rw[iK]at x;simp only[zG,Tr.val_brF];repeat' (first|with_reducible refine dG x (λ_ x=>?_) (λ_ x=>?_)|with_reducible refine zT ?_)
  all_goals first|(cases hc;done)|(subst x;first|rfl)
 | succ m I=>
  intro i g e;have a:i<Io l:=by omega
  have I:=I (i+1);have b:((i:Int)+1)=((i+1:Nat):Int):=by omega
  have c:=zu i ow;rw[fR a];refine zF bz (RU) (λid _=>d id) (R5 _ _ _ _) ?_;generalize x:iK s (l[i]::l.drop (i+1)) (i:Int)=y;rw[iK]at x;simp only[zI a,zx a,cO l _ a,c,Tr.val_brT,Tr.val_chkT];clear c
  try simp only[zx a]at x
  simp only[b]at x;repeat' (first|with_reducible refine dG x (λ_ x=>?_) (λ_ x=>?_)|with_reducible refine zT ?_)
  all_goals first|(cases hc;done)|(subst x;first|(change Reach _ _ _ _ _ _;apply I<;>first|omega|assumption)|rfl)
theorem VI(x:∀id,C.ρ0 id=Q2)(s:TS)(l:LS):
  Reach (dj) C 260 (ab Tryz.f260 2) (EH l s (Io l:Int) 0) (λr h=>aU h [zj] r=Q1 (iK s l 0,())):=
 Reach.len 0 (Q6) l rfl λa=>zbZ x s l a _ 0 rfl (aM _)
def Mg(x:Sem Sh.str.sl)(h:TS):zq:=(iK h x 0)
def zod:z8:=aK [Sh.str.sl,Q6] [zj] λx=>(Mg x.1 x.2.1,())
theorem zi5:FK 260 zod:=by
 refine ak (RU) λx C a=>?_
 refine zF bz (RU) (λid _=>a id) (zqI x.1 x.2.1) ?_;generalize h:Mg x.1 x.2.1=y;unfold Mg at h
 try simp only[za.eta]
 repeat' (first|with_reducible refine dG h (λ_ h=>?_) (λ_ h=>?_)|with_reducible refine zT ?_)
 all_goals first|(cases hc;done)|(subst h;first|(change Reach _ _ _ _ _ _;apply VI a<;>first|assumption|exact hc)|rfl)
abbrev XW:Nat->aP:=λj=>if j=2 then{slots:=[0,3,7,8]}else{ }
abbrev wh(l:LF)(i x:Int)(j:zq)(h:TS):St:={tmps:=(tm 19 [(0,sl zB l),(3,Qf 0 0),(7,ai i),(8,ai x)]),heap:=[Qa [ai j,str h]]}
theorem I1:zM (dj).P 253 Tryz.f253 2:=bL kw
theorem zj9(x:Sem zB.sl)(h:bW):rn dj 0 XW Tryz.f253 [zL zB.sl x,zL zB h] []=Tr.ok (zO.head 2 (ab Tryz.f253 2) (wh x (↑(Io x):Int) 0 h.1 h.2)):=kw
theorem Mz(l:LF)(x i:Int)(j:zq)(h:TS):rh dj 0 XW Tryz.f253 2 (wh l x i j h)=br (Q0 (i<x)) (Qc (zK i (Io l)) (br (j==(l.getD i.toNat (zi zB)).1&&(h==(l.getD i.toNat (zi zB)).2&&Q3)) (Tr.ok (zO.ret (ai i) [])) (Tr.ok (zO.head 2 (ab Tryz.f253 2) (wh l x (Γ Δ (i+1)) j h))))) (Tr.ok (zO.ret (ai (-1)) [])):=kw
def iJ(j:zq)(h:TS):dr->Int->zq
 |[],_=>(-1)
 |x::r,i=>(ite ((j==x.1&&(h==x.2&&Q3))=Q3) i (iJ j h r (i+1)))
theorem VC(e:∀id,C.ρ0 id=Q2)(j:zq)(b:TS)(l:LF)(n:Io l<=aI):∀(m i:Nat),Io l-i=m->i<=Io l->
  Reach (dj) C 253 (ab Tryz.f253 2) (wh l (Io l:Int) (i:Int) j b) (λr h=>aU h [zj] r=Q1 (iJ j b (l.drop i) i,())):=by
 intro m
 induction m with
 | zero=>
  intro i k g;obtain rfl:i=Io l:=by omega
  rw[jO];refine zF bz (I1) (λid _=>e id) (Mz _ _ _ _ _) ?_;generalize x:iJ j b [] _=y;rw[iJ]at x;simp only[zG,Tr.val_brF];repeat' (first|with_reducible refine dG x (λ_ x=>?_) (λ_ x=>?_)|with_reducible refine zT ?_)
  all_goals first|(cases hc;done)|(subst x;first|rfl)
 | succ m I=>
  intro i k g;have a:i<Io l:=by omega
  have I:=I (i+1);have c:((i:Int)+1)=((i+1:Nat):Int):=by omega
  have d:=zu i ow;rw[fR a];refine zF bz (I1) (λid _=>e id) (Mz _ _ _ _ _) ?_;generalize x:iJ j b (l[i]::l.drop (i+1)) (i:Int)=y;rw[iJ]at x;simp only[zI a,zx a,cO l _ a,d,Tr.val_brT,Tr.val_chkT];clear d
  try simp only[zx a]at x
  simp only[c]at x;repeat' (first|with_reducible refine dG x (λ_ x=>?_) (λ_ x=>?_)|with_reducible refine zT ?_)
  all_goals first|(cases hc;done)|(subst x;first|(change Reach _ _ _ _ _ _;apply I<;>first|omega|assumption)|rfl)
theorem Tg(a:∀id,C.ρ0 id=Q2)(j:zq)(x:TS)(l:LF):
  Reach (dj) C 253 (ab Tryz.f253 2) (wh l (Io l:Int) 0 j x) (λr h=>aU h [zj] r=Q1 (iJ j x l 0,())):=
 Reach.len 0 (zj.pr Q6) l rfl λb=>VC a j x l b _ 0 rfl (aM _)
def Me(h:Sem zB.sl)(x:bW):zq:=(iJ x.1 x.2 h 0)
def zeH:z8:=aK [zB.sl,zB] [zj] λx=>(Me x.1 x.2.1,())
theorem zaR:FK 253 zeH:=by
 refine ak (I1) λx C a=>?_
 refine zF bz (I1) (λid _=>a id) (zj9 x.1 x.2.1) ?_;generalize h:Me x.1 x.2.1=y;unfold Me at h
 try simp only[za.eta]
 repeat' (first|with_reducible refine dG h (λ_ h=>?_) (λ_ h=>?_)|with_reducible refine zT ?_)
 all_goals first|(cases hc;done)|(subst h;first|(change Reach _ _ _ _ _ _;apply Tg a<;>first|assumption|exact hc)|rfl)
abbrev zrm:Nat->aP:=λ_=>{ }
theorem zg1:zM (dj).P 79 Tryz.f79 1:=bL kw
theorem zqm(x:ar):rn dj 0 zrm Tryz.f79 [zL aq x] []=br (x.2.2.1==[]) (Tr.ok (zO.ret (sl Q6 [x.2.1]) [])) (Tr.ok (zO.ret (sl Q6 [x.2.1,x.2.2.1]) [])):=kw
def lG(x:ar):Sem Sh.str.sl:=(ite ((x.2.2.1==[])=Q3) [x.2.1] [x.2.1,x.2.2.1])
def zm5:z8:=aK [aq] [Sh.str.sl] λx=>(lG x.1,())
theorem zhO:FK 79 zm5:=by
 refine ak (zg1) λx C a=>?_
 refine zF bz (zg1) (λid _=>a id) (zqm x.1) ?_;generalize h:lG x.1=y;unfold lG at h
 try simp only[za.eta]
 repeat' (first|with_reducible refine dG h (λ_ h=>?_) (λ_ h=>?_)|with_reducible refine zT ?_)
 all_goals first|(cases hc;done)|(subst h;first|rfl)
def zeF:z8:=aS (List.replicate 2 Q2) (eK dj Tryz.f251 (List.replicate 2 Q2))
theorem zaP:FK 251 zeF:=bS _ bz (bL kw)
def yY:=dj.addL [(200,znS),(260,zod),(253,zeH),(79,zm5),(251,zeF)]
theorem rg:zw yY:=bz.addL<|fc ziL<|fc zi5<|fc zaR<|fc zhO<|fc zaP iH
abbrev zkT:Nat->aP:=λ_=>{ }
theorem YF:zM (yY).P 252 Tryz.f252 2:=bL kw
theorem zj8(x:Sem zj.sl)(h:zq):rn yY 0 zkT Tryz.f252 [zL zj.sl x,zL zj h] []=Tr.ok (zO.ret (AV.bool (Q0 (gV x h>=0))) []):=kw
def tN(x:Sem zj.sl)(h:zq):Sem Q7:=(Q0 (gV x h>=0))
def zeG:z8:=aK [zj.sl,zj] [Q7] λx=>(tN x.1 x.2.1,())
theorem zaQ:FK 252 zeG:=by
 refine ak (YF) λx C a=>?_
 refine zF rg (YF) (λid _=>a id) (zj8 x.1 x.2.1) ?_;generalize h:tN x.1 x.2.1=y;unfold tN at h
 try simp only[za.eta]
 repeat' (first|with_reducible refine dG h (λ_ h=>?_) (λ_ h=>?_)|with_reducible refine zT ?_)
 all_goals first|(cases hc;done)|(subst h;first|rfl)
abbrev zrD:Nat->aP:=λ_=>{ }
theorem zg4:zM (yY).P 207 Tryz.f207 2:=bL kw
theorem zqw(x:Sem Sh.str.sl)(h:TS):rn yY 0 zrD Tryz.f207 [zL Sh.str.sl x,zL Q6 h] []=Tr.ok (zO.ret (AV.bool (Q0 (Mg x h>=0))) []):=kw
def aG(x:Sem Sh.str.sl)(h:TS):Sem Q7:=(Q0 (Mg x h>=0))
def znC:z8:=aK [Sh.str.sl,Q6] [Q7] λx=>(aG x.1 x.2.1,())
theorem zir:FK 207 znC:=by
 refine ak (zg4) λx C a=>?_
 refine zF rg (zg4) (λid _=>a id) (zqw x.1 x.2.1) ?_;generalize h:aG x.1 x.2.1=y;unfold aG at h
 try simp only[za.eta]
 repeat' (first|with_reducible refine dG h (λ_ h=>?_) (λ_ h=>?_)|with_reducible refine zT ?_)
 all_goals first|(cases hc;done)|(subst h;first|rfl)
abbrev zrN:Nat->aP:=λ_=>{ }
theorem zg6:zM (yY).P 201 Tryz.f201 2:=bL kw
theorem zqE(x:Sem zB.sl)(h:bW):rn yY 0 zrN Tryz.f201 [zL zB.sl x,zL zB h] []=Tr.ok (zO.ret (AV.bool (Q0 (Me x h>=0))) []):=kw
def jq(x:Sem zB.sl)(h:bW):Sem Q7:=(Q0 (Me x h>=0))
def znV:z8:=aK [zB.sl,zB] [Q7] λx=>(jq x.1 x.2.1,())
theorem ziO:FK 201 znV:=by
 refine ak (zg6) λx C a=>?_
 refine zF rg (zg6) (λid _=>a id) (zqE x.1 x.2.1) ?_;generalize h:jq x.1 x.2.1=y;unfold jq at h
 try simp only[za.eta]
 repeat' (first|with_reducible refine dG h (λ_ h=>?_) (λ_ h=>?_)|with_reducible refine zT ?_)
 all_goals first|(cases hc;done)|(subst h;first|rfl)
def Ly:=yY.addL [(252,zeG),(207,znC),(201,znV)]
theorem Gr:zw Ly:=rg.addL<|fc zaQ<|fc zir<|fc ziO iH
abbrev X7:Nat->aP:=λj=>if j=2 then{slots:=[0,12,13,14]}else{ }
inductive KE where
 |h2 (i13:Int) (i14:Int) (z0:zo az)
abbrev Wa:KE->Nat×St
 |.h2 i h z=>(2,⟨tm 65 [(0,Qf 0 0),(12,AV.vec 1),(13,ai i),(14,ai h)],[Qa (bI [1] az z),AO.vec zl z.t.t.1]⟩)
theorem zst:zM Ly.P 148 Tryz.f148 1:=bL kw
def zc7(y:zo az):Tr (KE⊕au):=Q9 (KE.h2 (↑y.t.t.1.length:Int) 0 y)
def Ke(h i:Int)(z:zo az)(x:za)(b:bR)(a:zq×zq):Tr (KE⊕au):=br (Q0 (i<h)) (Qc (zK i (Io z.t.t.1)) (Qc (Q0 (i.toNat<Io z.t.t.1)) (br (zV (z.t.q.2.1,z.t.t.1,z.t.t.2.1,[],[],x) b.1!=i) (re (ai 7) (aB az z)) (Q9 (KE.h2 h (Γ Δ (i+1)) z))))) (br (za.op z.t.t.q.1==[]) (re (ai 0) (aB az z)) (br (cond (a.2==0) (cond (a.1!=3) (a.1!=0) Q4) Q4) (re (ai 5) (aB az z)) (re (ai a.2) (aB az z))))
def P9(h i:Int)(z:zo az):Tr (KE⊕au):=
 let a:=zr z.t.t.q.1
 let x:=z.t.t.1.getD i.toNat (zi zl)
 let b:=ce a z.t.t.1
 Ke h i z a x b
theorem zqt(y:zo az):rn Ly 2 X7 Tryz.f148 [Qf 0 0] (aB az y)=(zc7 y).map (lf Tryz.f148 Wa):=kw
def NH:KE->Tr (KE⊕au)
 |.h2 i h z=>P9 i h z
theorem ztb:∀s,run Ly 2 X7 (Func.results Tryz.f148).toList 400 (ab Tryz.f148 (Wa s).1) (Wa s).2=(NH s).map (lf Tryz.f148 Wa)|.h2 i h z=>by kernel_rfl
def vr(y:zo az):Option (zD (Qi Q1 [zj])×zo az):=kM [zj] az NH 100000000 (zc7 y)
def gW(y:zo az):Bool:=(vr y).isSome
def fH(y:zo az):zq×zo az:=(λr:zD (Qi Q1 [zj])×zo az=>(r.1.1,r.2)) ((vr y).getD (cA [zj],fU az))
def zns:z8:=sA az [] [zj] az (λy _=>gW y) λy _=>(((fH y).1,()),(fH y).2)
theorem zig:FK 148 zns:=kd (keep:=X7) (gas:=400) (n:=100000000) (e:=Wa) (t:=NH) (i:=λy x=>zc7 y) Gr zst (λy x=>zqt y) ztb (λ_ _=>by kernel_rfl) (λ_ _=>by kernel_rfl)
def WC:=Ly.add 148 zns
theorem Gt:zw WC:=Gr.add zig
def znZ:z8:=aS (List.replicate 2 Q2) (eK WC Tryz.f206 (List.replicate 2 Q2))
theorem ziR:FK 206 znZ:=bS _ Gt (bL kw)
def Lz:=WC.add 206 znZ
theorem xr:zw Lz:=Gt.add ziR
abbrev BE(s:List zH)(l:LF)(i:Int):St:={tmps:=[.sl zB l,.clo (.func 206) [] [.ptr 0 0],.any,.any,.any,.any,.any,.int .i64 (Io l),.int .i64 i,.any,.any,.any,.any,.any,.any,.any,.any,.any,.any],heap:=[.box [.sl .str s]]}
theorem Xb(s:List zH)(l:LF):run Lz 1 AP Tryz.f261.results.toList 300 (bq Tryz.f261) (aW Tryz.f261.ntmps [.sl zB l,.clo (.func 206) [] [.ptr 0 0]] [.box [.sl .str s]])=.ok (.head 2 (ab Tryz.f261 2) (BE s l 0)):=kw
theorem YZ(s:List zH)(l:LF)(i:Int):run Lz 1 AP Tryz.f261.results.toList 300 (ab Tryz.f261 2) (BE s l i)=oL (K:=ab Tryz.f261 2) (e:=zB) l (λx=>aG s x.2) (BE s l) [.box [.sl .str s]] i:=kw
theorem YR:zM Lz.P 261 Tryz.f261 2:=bL kw
def zpE:eX [Q1 (.sl zB),Q2]:=λx h=>match x,h with
 |(l,.clo (.func 206) [] [.ptr 0 0],_),[.box [.sl .str s]]=>.ok (.int .i64 (ac (λx=>aG s x.2) l 0),[.box [.sl .str s]])
 |_,_=>.err
def zom:z8:=aS [Q1 (.sl zB),Q2] zpE
theorem zjf:FK 261 zom:=by
 refine da YR λx d c h C a=>?_
 unfold zpE at h;split at h
 .rename_i l u s;simp only[Tr.val_ok,bg]at h;subst h;refine Reach.len 0 zB l rfl λb=>?_
  refine zF (n0:=1) xr YR a (Xb s l) ?_;exact lg l (λx=>aG s x.2) (BE s l) xr YR a (YZ s l) b _ 0 rfl (aM _)
 .simp at h
def WD:=Lz.add 261 zom
theorem Gu:zw WD:=xr.add zjf
def zn0:z8:=aS (List.replicate 2 Q2) (eK WD Tryz.f208 (List.replicate 2 Q2))
theorem ziS:FK 208 zn0:=bS _ Gu (bL kw)
def zf0:=WD.add 208 zn0
theorem xt:zw zf0:=Gu.add ziS
abbrev cpR:List CP:=[.d zk]
abbrev zpR:List CP:=[.d .str,.nil,.d zj,.nil,.nil,.d .str,.d zj,.d zj,.d .str,.d .str,.nil,.nil]
abbrev zpQ:List CP:=[.d aj,.vec (.sl zf)]
abbrev sK:List CP:=[.d aC]
abbrev kl:List CP:=[.d .str,.d .str,.d .str,.nil,.nil,.d .str,.nil,.nil,.d .str,.d zj,.d zj,.d .str,.d .str,.nil,.nil,.nil,.d .str,.d zj,.d zj,.d .str,.d .str,.nil,.d .str]
abbrev zpS:List CP:=[.d .str,.d .str,.d .str,.d (.sl .str),.d (.sl zl),.d .str,.d (.sl .str),.vec kC,.d .expr,.d (.sl zf),.nil,.d .expr,.d .str]
abbrev zpT:List CP:=[.d .str,.d .str,.d .str,.d (.sl .str),.d (.sl zl),.d .str,.d (.sl .str),.vec kC,.d .expr,.d (.sl zf),.vec jY,.d .expr,.d .str]
abbrev zrn:Nat->aP:=λj=>if j=6 then{slots:=[1,2,3,4,5],prom:=[(3,Q1 11,.sl zf)]}else{ }
inductive NV where
 |h6 (i4:Int) (i5:Int) (z0:zo cpR) (z1:zo zpR) (z2:zo zpQ)
abbrev zue:NV->Nat×St
 |.h6 i h x a z=>(6,⟨tm 38 [(1,Qf 0 0),(2,Qf 1 0),(3,Qf 2 0),(4,ai i),(5,ai h)],[Qa (bI [] cpR x),Qa (bI [] zpR a),Qa (bI [3] zpQ z),AO.vec zf.sl z.2.1]⟩)
def zky(x:am):Tr (NV⊕au):=
 let a:=(zaa (x.1.1,x.1.2.1,x.1.2.2.1,x.1.2.2.2.1,x.1.t.1,zr x.1.t.2),[],())
 br (Q0 ((↑(Io x.2):Int)>200)) (Q9 (NV.h6 201 0 (x,()) ([],0,[],0,0,[],[],()) a))
 (Q9 (NV.h6 40 0 (x,()) ([],0,[],0,0,[],[],()) a))
def zeb:NV->Tr (NV⊕au)
 | .h6 x i h c z=>
  let b:=(↑(Io h.1.2):Int)
  let a:=[Dr (getD h.1.2 i.toNat (zi zf.sl))]
  br (cond (Q0 (i<b)) (Q0 (i<x)) Q4)
  (Qc (zK i (Io h.1.2))
   (Qc (Q0 (Io z.2.1+Io a<=1073741824)) (Q9 (NV.h6 x (Γ Δ (i+1)) h c (z.1,z.2.1++a,())))))
  (re
   (agg [str z.1.1,sl zl z.1.2.1,ai z.1.2.2.1,sl zj z.1.2.2.2.1,sl zB z.1.t.1,str (za.op z.1.t.2),ai (za.v z.1.t.2).1,ai (za.v z.1.t.2).2.1,str (za.v z.1.t.2).2.2,str (za.s z.1.t.2),sl Q5 (za.l z.1.t.2),AV.vec 0])
   [AO.vec zf.sl z.2.1])
def IQ(x:am):=an [zk] zeb 100000000 (zky x)
def Pe(x:am):=(IQ x).isSome
def Yf(x:am):=o1 (IQ x)
def zm7:=FT [zk] [zk] λx=>IQ x.1
theorem zhS:FK 53 zm7:=xt.T1 (f:=Tryz.f53) (keep:=zrn) (e:=zue)
abbrev zv1:Nat->aP:=λj=>if j=3 then{slots:=[1,2,3,4],prom:=[(3,Q1 7,kC)]}else if j=7 then{slots:=[1,2,3,5],prom:=[(3,Q1 15,jY)]}else{ }
inductive H8p where
 |h3 (i4:Int) (z0:zo sK) (z1:zo kl) (z2:zo zpS)
 |h7 (i5:Int) (z0:zo sK) (z1:zo kl) (z2:zo zpT)
abbrev e8p:H8p->Nat×St
 |.h3 i h x z=>(3,⟨tm 103 [(1,Qf 0 0),(2,Qf 1 0),(3,Qf 2 0),(4,ai i)],[Qa (bI [] sK h),Qa (bI [] kl x),Qa (bI [3] zpS z),AO.vec (Sh.str.pr Q6) z.t.q.2.1]⟩)
 |.h7 a h x z=>(7,⟨tm 103 [(1,Qf 0 0),(2,Qf 1 0),(3,Qf 2 0),(5,ai a)],[Qa (bI [] sK h),Qa (bI [] kl x),Qa (bI [3,4] zpT z),AO.vec (Sh.str.pr Q6) z.t.q.2.1,AO.vec (Sh.str.pr Q5) z.t.t.q.1]⟩)
def i8p(x:zN):Tr (H8p⊕au):=
 Qc (g7 x.1)
 (Qc (g7 x.2.1)
  (Qc (g7 x.2.2.1) (Qc (g7 x.t.2.1) (Qc (g7 x.t.t.t) (Qc (vq x.2.2.2.1) (Qc (vq x.t.q.1) (Q9 (H8p.h3 0 (x,()) ([],[],[],[],[],0,0,[],[],[],0,0,[],[],[],()) (gO x.1,gO x.2.1,gO x.2.2.1,vp x.2.2.2.1,pu x.t.1,
  gO x.t.2.1,vp x.t.q.1,[],oz (zr x.t.t.1),Dr x.t.t.2.1,oz (zr x.t.t.q.2.1),gO x.t.t.t,())))))))))
def t8p:H8p->Tr (H8p⊕au)
 | .h3 i h d z=>
  let e:=(↑(Io h.1.t.q.2.1):Int)
  let x:=zK i (Io h.1.t.q.2.1)
  let a:=getD h.1.t.q.2.1 i.toNat (zi kC)
  let b:=[(gO a.1,gO a.2)]
  br (cond (Q0 (i<e)) (Q0 (i<10)) Q4)
  (Qc x
   (Qc (g7 a.1) (Qc x (Qc (g7 a.2) (Qc (Q0 (Io z.t.q.2.1+Io b<=1073741824)) (Q9 (H8p.h3 (Γ Δ (i+1)) h d (z.1,z.2.1,z.2.2.1,z.2.2.2.1,z.t.1,z.t.2.1,z.t.q.1,z.t.q.2.1++b,z.t.t))))))))
  (Q9
   (H8p.h7 0 h d (z.1,z.2.1,z.2.2.1,z.2.2.2.1,z.t.1,z.t.2.1,z.t.q.1,z.t.q.2.1,z.t.t.1,z.t.t.2.1,[],z.t.t.q)))
 | .h7 c h d z=>
  let e:=(↑(Io h.1.t.t.q.1):Int)
  let x:=zK c (Io h.1.t.t.q.1)
  let a:=getD h.1.t.t.q.1 c.toNat (zi jY)
  let b:=[(gO a.1,zr (oz (zr a.2)))]
  br (cond (Q0 (c<e)) (Q0 (c<10)) Q4)
  (Qc x
   (Qc (g7 a.1) (Qc x (Qc (Q0 (Io z.t.t.q.1+Io b<=1073741824)) (Q9 (H8p.h7 (Γ Δ (c+1)) h d (z.1,z.2.1,z.2.2.1,z.2.2.2.1,z.t.1,z.t.2.1,z.t.q.1,z.t.q.2.1,z.t.t.1,z.t.t.2.1,z.t.t.q.1++b,z.t.t.q.2)))))))
  (re
   (agg [str z.1,str z.2.1,str z.2.2.1,sl Q6 z.2.2.2.1,sl zl z.t.1,str z.t.2.1,sl Q6 z.t.q.1,AV.vec 0,str (za.op z.t.t.1),ai (za.v z.t.t.1).1,ai (za.v z.t.t.1).2.1,str (za.v z.t.t.1).2.2,str (za.s z.t.t.1),
   sl Q5 (za.l z.t.t.1),sl zf z.t.t.2.1,AV.vec 1,str (za.op z.t.t.q.2.1),ai (za.v z.t.t.q.2.1).1,ai (za.v z.t.t.q.2.1).2.1,str (za.v z.t.t.q.2.1).2.2,str (za.s z.t.t.q.2.1),
   sl Q5 (za.l z.t.t.q.2.1),str z.t.t.t.1])
   [AO.vec (Sh.str.pr Q6) z.t.q.2.1,AO.vec (Sh.str.pr Q5) z.t.t.q.1])
def IP(x:zN):=an [aC] t8p 100000000 (i8p x)
def Pd(x:zN):=(IP x).isSome
def Ye(x:zN):=o1 (IP x)
def F8p:=FT [aC] [aC] λx=>IP x.1
theorem zpn:FK 26 F8p:=xt.T1 (f:=Tryz.f26) (keep:=zv1) (e:=e8p)
def zf2:=zf0.addL [(53,zm7),(26,F8p)]
theorem Gz:zw zf2:=xt.addL<|fc zhS<|fc zpn iH
abbrev zvW:Nat->aP:=λj=>if j=3 then{slots:=[0,3,4],prom:=[(3,Q2,zk)]}else{ }
inductive H7p where
 |h3 (l0:zR) (i4:Int) (lh_0:zR)
abbrev e7p:H7p->Nat×St
 |.h3 h i l=>(3,⟨tm 24 [(0,sl zk h),(3,AV.vec 0),(4,ai i)],[AO.vec zk l]⟩)
def i7p(x:Sem zk.sl):Tr (H7p⊕au):=
 Q9 (H7p.h3 x 0 [])
def t7p:H7p->Tr (H7p⊕au)
 | .h3 x i l=>
  let a:=x.getD i.toNat (zi zk)
  let b:=((a.1.1,a.1.2.1,a.1.2.2.1,a.1.2.2.2.1,a.1.t.1,zr a.1.t.2),a.2)
  let h:=Yf b
  let c:=[((h.1.1,h.1.2.1,h.1.2.2.1,h.1.2.2.2.1,h.1.t.1,zr h.1.t.2),h.2)]
  br (cond (Q0 (i<(↑x.length:Int))) (Q0 (i<13)) Q4)
  (Qc (zK i (Io x))
   (Qc (Pe b) (Qc (Q0 (Io l+Io c<=1073741824)) (Q9 (H7p.h3 x (Γ Δ (i+1)) (l++c))))))
  (re (AV.vec 0)
   [AO.vec zk l])
def IR(x:Sem zk.sl):=an [zk.sl] t7p 100000000 (i7p x)
def Pf(x:Sem zk.sl):=(IR x).isSome
def Hd(x:Sem zk.sl):=o1 (IR x)
def F7p:=FT [zk.sl] [zk.sl] λx=>IR x.1
theorem zpe:FK 25 F7p:=Gz.T1 (f:=Tryz.f25) (keep:=zvW) (e:=e7p)
def LG:=zf2.add 25 F7p
theorem GA:zw LG:=Gz.add zpe
abbrev X6:Nat->aP:=λj=>if j=3 then{slots:=[0,3,14,15,16]}else if j=11 then{slots:=[0,3,55,56,57]}else{ }
inductive wL where
 |h3 (l14:LS) (i15:Int) (i16:Int) (z0:zo bB) (jb0:LS)
 |h11 (l55:zR) (i56:Int) (i57:Int) (z0:zo bB) (jb0:LS)
abbrev V9:wL->Nat×St
 |.h3 l i h z j=>(3,⟨tm 122 [(0,Qf 0 0),(3,Qf 1 0),(14,sl Q6 l),(15,ai i),(16,ai h)],[Qa (bI [] bB z),Qa [sl Q6 j]]⟩)
 |.h11 b x a z j=>(11,⟨tm 122 [(0,Qf 0 0),(3,Qf 1 0),(55,sl zk b),(56,ai x),(57,ai a)],[Qa (bI [] bB z),Qa [sl Q6 j]]⟩)
theorem zss:zM LG.P 147 Tryz.f147 1:=bL kw
def zc6(y:zo bB):Tr (wL⊕au):=
 let a:=lG (y.t.1,y.t.2.1,y.t.q.1,(y.t.q.2.1,[],y.t.t.1,[],[],zr y.t.t.2.1),[],y.t.t.q.1)
 Q9 (wL.h3 a (↑(Io a):Int) 0 y a)
def Kd(l:LS)(h i:Int)(z:zo bB)(j:LS)(a x:zq):Tr (wL⊕au):=br (Q0 (i<h)) (Qc (zK i (Io l)) (br (Q0 (a<0)) (re (ai 6) (aB bB z)) (Q9 (wL.h3 l h (Γ Δ (i+1)) z j)))) (br (cond (Q0 (x>=0)) Q3 (z.t.2.1==z.t.q.1)) (re (ai 7) (aB bB z)) (Q9 (wL.h11 z.1 (↑(Io z.1):Int) 0 z j)))
def P8(l:LS)(h i:Int)(z:zo bB)(j:LS):Tr (wL⊕au):=
 let a:=ae z.1 (l.getD i.toNat (zi Q6))
 let x:=ae z.1 z.2.1.2.1
 Kd l h i z j a x
def E3(l:zR)(h i:Int)(z:zo bB)(j:LS)(x:am)(b:Int)(c d:zq)(a e:am):Tr (wL⊕au):=br (Q0 (i<h)) (Qc (zK i (Io l)) (br (!aG j x.1.1) (br (Q0 (b>=0)) (re (ai 10) (aB bB z)) (Q9 (wL.h11 l h (Γ Δ (i+1)) z j))) (Q9 (wL.h11 l h (Γ Δ (i+1)) z j)))) (Qc (zK c (Io z.1)) (br (!z.t.q.1==[]) (Qc (zK d (Io z.1)) (re (ai 0) (aB bB (z.1,z.2.1,a.1,e.1,z.t)))) (re (ai 0) (aB bB (z.1,z.2.1,a.1,z.2.2.2)))))
def Kc(l:zR)(h i:Int)(z:zo bB)(j:LS):Tr (wL⊕au):=
 let a:=l.getD i.toNat (zi zk)
 let d:=ac (λx=>aG j x.2) a.1.t.1 0
 let b:=ae z.1 z.t.2.1
 let c:=ae z.1 z.t.q.1
 let e:=getD z.1 (toNat b) (zi zk)
 let g:=getD z.1 (toNat c) (zi zk)
 E3 l h i z j a d b c e g
theorem zqs(y:zo bB):rn LG 1 X6 Tryz.f147 [Qf 0 0] (aB bB y)=(zc6 y).map (lf Tryz.f147 V9):=kw
def E2:wL->Tr (wL⊕au)
 |.h3 l i h z j=>P8 l i h z j
 |.h11 b x a z j=>Kc b x a z j
theorem zta:∀s,run LG 1 X6 (Func.results Tryz.f147).toList 400 (ab Tryz.f147 (V9 s).1) (V9 s).2=(E2 s).map (lf Tryz.f147 V9)|.h3 l i h z j=>by kernel_rfl|.h11 b x a z j=>by kernel_rfl
def rB(y:zo bB):Option (zD (Qi Q1 [zj])×zo bB):=kM [zj] bB E2 100000000 (zc6 y)
def nD(y:zo bB):Bool:=(rB y).isSome
def nC(y:zo bB):zq×zo bB:=(λr:zD (Qi Q1 [zj])×zo bB=>(r.1.1,r.2)) ((rB y).getD (cA [zj],fU bB))
def znr:z8:=sA bB [] [zj] bB (λy _=>nD y) λy _=>(((nC y).1,()),(nC y).2)
theorem zif:FK 147 znr:=kd (keep:=X6) (gas:=400) (n:=100000000) (e:=V9) (t:=E2) (i:=λy x=>zc6 y) GA zss (λy x=>zqs y) zta (λ_ _=>by kernel_rfl) (λ_ _=>by kernel_rfl)
def LA:=LG.add 147 znr
theorem Gv:zw LA:=GA.add zif
abbrev ef:List CP:=[.d (.sl zk),.d aC,.d aj,.d aj,.d .str,.d .str,.d .str,.d .str,.vec zl,.d zj,.nil,.nil,.d .expr,.vec zj,.d zj]
abbrev Ya:Nat->aP:=λj=>if j=3 then{slots:=[1,3,14,15,16,0],prom:=[(0,Q1 60,.int .i64),(0,Q1 50,zl)]}else if j=12 then{slots:=[1,63,64,65,0]}else if j=1000000 then{sett:=[(0,60)]}else{ }
inductive tf where
 |h3 (l14:LS) (i15:Int) (i16:Int) (z0:zo ef)
 |h12 (i64:Int) (i65:Int) (z0:zo ef)
 |h12b (i64:Int) (i65:Int) (z0:zo ef)
abbrev We:tf->Nat×St
 |.h3 l x a z=>(3,⟨tm 80 [(0,Qf 0 0),(1,Qf 1 0),(3,AV.clo (Fn.func 251) [] [Qf 1 0]),(14,sl Q6 l),(15,ai x),(16,ai a)],[Qa (bI [2,3] ef z),Qa [Qf 0 0],AO.vec zl z.t.t.1,AO.vec zj z.t.t.q.2.1]⟩)
 |.h12 i h z=>(12,⟨tm 80 [(0,Qf 0 0),(1,Qf 1 0),(63,AV.vec 2),(64,ai i),(65,ai h)],[Qa (bI [3,2] ef z),Qa [Qf 0 0],AO.vec zj z.t.t.q.2.1,AO.vec zl z.t.t.1]⟩)
 |.h12b i h z=>(12,⟨tm 80 [(0,Qf 0 0),(1,Qf 1 0),(63,AV.vec 2),(64,ai i),(65,ai h)],[Qa (bI [3,2] ef z),Qa [Qf 0 0],AO.frz zj z.t.t.q.2.1,AO.vec zl z.t.t.1]⟩)
theorem zsR:zM LA.P 199 Tryz.f199 1:=bL kw
def zdd(y:zo bB):Tr (tf⊕au):=Q9 (tf.h3 y.2.1.2.2.2.1 (↑(Io y.2.1.2.2.2.1):Int) 0 (y.1,y.2.1,y.2.2.1,y.2.2.2.1,y.t.1,y.t.2.1,y.t.q.1,y.t.q.2.1,[],y.t.t.1,y.t.t.2.1,[],y.t.t.q))
def Kh(l:LS)(h i:Int)(z:zo ef)(a:zq)(x:LI)(b:LC):Tr (tf⊕au):=br (Q0 (i<h)) (Qc (zK i (Io l)) (br (Q0 (a<0)) (re (ai 4) (aB az z)) (Qc (Q0 (Io z.t.t.q.2.1+Io x<=1073741824)) (Qc (zK a (Io z.2.2.1.2.1)) (Qc (Q0 (Io z.t.t.1+Io b<=1073741824)) (Q9 (tf.h3 l h (Γ Δ (i+1)) (z.1,z.2.1,z.2.2.1,z.2.2.2.1,z.t.1,z.t.2.1,z.t.q.1,z.t.q.2.1,z.t.t.1++b,z.t.t.2.1,z.t.t.q.1,z.t.t.q.2.1++x,z.t.t.t)))))))) (Q9 (tf.h12 (↑z.t.t.q.2.1.length:Int) 0 z))
def Ql(l:LS)(h i:Int)(z:zo ef):Tr (tf⊕au):=
 let a:=zV (z.2.2.1.1,z.2.2.1.2.1,z.2.2.1.2.2.1,z.2.2.1.2.2.2.1,z.2.2.1.t.1,zr z.2.2.1.t.2) (l.getD i.toNat (zi Q6))
 let x:=[a]
 let b:=[getD z.2.2.1.2.1 (toNat a) (zi zl)]
 Kh l h i z a x b
def E6(h i:Int)(z:zo ef)(a:Int):Tr (tf⊕au):=br (Q0 (i<h)) (Qc (zK i (Io z.t.t.q.2.1)) (Qc (Q0 (i.toNat<Io z.t.t.q.2.1)) (Qc (Q0 (0<=0)&&Q0 (0<=i)&&Q0 (i<=a)) (br (tN (Qg (i.toNat-toNat 0) (Qh (toNat 0) z.t.t.q.2.1)) (z.t.t.q.2.1.getD i.toNat (zi zj))) (re (ai 7) (aB az z)) (Q9 (tf.h12b h (Γ Δ (i+1)) z)))))) (re (ai 0) (aB az z))
def Kg(i h:Int)(z:zo ef):Tr (tf⊕au):=
 let a:=(↑z.t.t.q.2.1.length:Int)
 E6 i h z a
def yq(h i:Int)(z:zo ef)(a:Int):Tr (tf⊕au):=br (Q0 (i<h)) (Qc (zK i (Io z.t.t.q.2.1)) (Qc (Q0 (0<=0)&&Q0 (0<=i)&&Q0 (i<=a)) (br (tN (Qg (i.toNat-toNat 0) (Qh (toNat 0) z.t.t.q.2.1)) (z.t.t.q.2.1.getD i.toNat (zi zj))) (re (ai 7) (aB az z)) (Q9 (tf.h12b h (Γ Δ (i+1)) z))))) (re (ai 0) (aB az z))
def E5(i h:Int)(z:zo ef):Tr (tf⊕au):=
 let a:=(↑z.t.t.q.2.1.length:Int)
 yq i h z a
theorem zqC(y:zo bB):rn LA 1 Ya Tryz.f199 [Qf 0 0] (aB bB y)=(zdd y).map (lf Tryz.f199 We):=kw
def qO:tf->Tr (tf⊕au)
 |.h3 l x a z=>Ql l x a z
 |.h12 i h z=>Kg i h z
 |.h12b i h z=>E5 i h z
theorem zti:∀s,run LA 1 Ya (Func.results Tryz.f199).toList 400 (ab Tryz.f199 (We s).1) (We s).2=(qO s).map (lf Tryz.f199 We)|.h3 l x a z=>by kernel_rfl|.h12 i h z=>by kernel_rfl|.h12b i h z=>by kernel_rfl
def Bc(y:zo bB):Option (zD (Qi Q1 [zj])×zo az):=kM [zj] az qO 100000000 (zdd y)
def oN(y:zo bB):Bool:=(Bc y).isSome
def ku(y:zo bB):zq×zo az:=(λr:zD (Qi Q1 [zj])×zo az=>(r.1.1,r.2)) ((Bc y).getD (cA [zj],fU az))
def znQ:z8:=sA bB [] [zj] az (λy _=>oN y) λy _=>(((ku y).1,()),(ku y).2)
theorem ziJ:FK 199 znQ:=kd (ps:=bB) (ks:=[]) (outs:=[zj]) (keep:=Ya) (gas:=400) (n:=100000000) (e:=We) (t:=qO) (i:=λy x=>zdd y) Gv zsR (λy x=>zqC y) zti (λ_ _=>by kernel_rfl) (λ_ _=>by kernel_rfl)
def Gw:=LA.add 199 znQ
theorem xu:zw Gw:=Gv.add ziJ
abbrev TW(y:zo bB):zo bB:=(y.1,(y.2.1.1,y.2.1.2.1,y.2.1.2.2.1,y.2.1.2.2.2.1,y.2.1.t.1,y.2.1.t.2.1,y.2.1.t.q.1,y.2.1.t.q.2.1,zr y.2.1.t.t.1,y.2.1.t.t.2.1,y.2.1.t.t.q.1,zr y.2.1.t.t.q.2.1,y.2.1.t.t.t),(y.2.2.1.1,y.2.2.1.2.1,y.2.2.1.2.2.1,y.2.2.1.2.2.2.1,y.2.2.1.t.1,zr y.2.2.1.t.2),(y.2.2.2.1.1,y.2.2.2.1.2.1,y.2.2.2.1.2.2.1,y.2.2.2.1.2.2.2.1,y.2.2.2.1.t.1,zr y.2.2.2.1.t.2),y.t.1,y.t.2.1,y.t.q.1,y.t.q.2.1,y.t.t.1,zr y.t.t.2.1,y.t.t.q.1,())
abbrev Rl(y:zo az):zo az:=(y.1,(y.2.1.1,y.2.1.2.1,y.2.1.2.2.1,y.2.1.2.2.2.1,y.2.1.t.1,y.2.1.t.2.1,y.2.1.t.q.1,y.2.1.t.q.2.1,zr y.2.1.t.t.1,y.2.1.t.t.2.1,y.2.1.t.t.q.1,zr y.2.1.t.t.q.2.1,y.2.1.t.t.t),(y.2.2.1.1,y.2.2.1.2.1,y.2.2.1.2.2.1,y.2.2.1.2.2.2.1,y.2.2.1.t.1,zr y.2.2.1.t.2),(y.2.2.2.1.1,y.2.2.2.1.2.1,y.2.2.2.1.2.2.1,y.2.2.2.1.2.2.2.1,y.2.2.2.1.t.1,zr y.2.2.2.1.t.2),y.t.1,y.t.2.1,y.t.q.1,y.t.q.2.1,y.t.t.1,y.t.t.2.1,zr y.t.t.q.1,y.t.t.q.2.1,y.t.t.t.1,())
abbrev zgP:Nat->aP:=λ_=>{ }
theorem zsn:zM Gw.P 141 Tryz.f141 1:=bL kw
def Xy(_:zo bB)(x:Sem zk.sl×zo [CP.d aC,CP.d aj,CP.d aj,CP.d Q6,CP.d Q6,CP.d Q6,CP.d Q6,CP.nil,CP.d zj,CP.nil,CP.nil,CP.d Q5,CP.nil,CP.d zj])(a:zq×zo az)(h:zq):Tr (Empty⊕au):=Qc (oN x) (br (a.1!=0) (re (ai a.1) (aB az a.2)) (br (Q0 (h<0)) (re (ai 1) (aB az (a.2.1,a.2.2.1,a.2.2.2.1,a.t.1,a.t.2.1,a.t.q.1,a.t.q.2.1,a.t.t.1,a.t.t.2.1,h,a.t.t.q.2))) (re (ai 0) (aB az (a.2.1,a.2.2.1,a.2.2.2.1,a.t.1,a.t.2.1,a.t.q.1,a.t.q.2.1,a.t.t.1,a.t.t.2.1,h,a.t.t.q.2)))))
def Xx(y:zo bB):Tr (Empty⊕au):=
 let h:=TW y
 let a:=ku h
 let x:=gV a.t.t.t.1 a.2.2.2.1.2.2.1
 Xy y h a x
theorem zqp(y:zo bB):rn Gw 1 zgP Tryz.f141 [Qf 0 0] (aB bB y)=(Xx y).map (lf Tryz.f141 e0):=kw
def IX(y:zo bB):Option (zD (Qi Q1 [zj])×zo az):=kM [zj] az t0 100000000 (Xx y)
def IW(y:zo bB):Bool:=(IX y).isSome
def Hg(y:zo bB):zq×zo az:=(λr:zD (Qi Q1 [zj])×zo az=>(r.1.1,r.2)) ((IX y).getD (cA [zj],fU az))
def zni:z8:=sA bB [] [zj] az (λy _=>IW y) λy _=>(((Hg y).1,()),(Hg y).2)
theorem zh6:FK 141 zni:=kd (keep:=zgP) (gas:=400) (n:=100000000) (e:=e0) (t:=t0) (i:=λy x=>Xx y) xu zsn (λy x=>zqp y) (U7 _ _ _ _ _) (λ_ _=>by kernel_rfl) (λ_ _=>by kernel_rfl)
abbrev zgR:Nat->aP:=λ_=>{ }
theorem zsq:zM Gw.P 143 Tryz.f143 1:=bL kw
def XA(_:zo bB)(b:Sem zk.sl×zo [CP.d aC,CP.d aj,CP.d aj,CP.d Q6,CP.d Q6,CP.d Q6,CP.d Q6,CP.nil,CP.d zj,CP.nil,CP.nil,CP.d Q5,CP.nil,CP.d zj])(a:zq×zo az)(c _:bR)(h:LC)(x:bR):Tr (Empty⊕au):=Qc (oN b) (br (a.1!=0) (re (ai a.1) (aB az a.2)) (Qc (zK 1 (Io a.t.t.2.1)) (Qc (Q0 (toNat 1<Io a.t.t.2.1)) (br (c.2.1!=1) (re (ai 5) (aB az a.2)) (Qc (zK 0 (Io a.t.t.2.1)) (Qc (Q0 (toNat 0<Io a.t.t.2.1)) (Qc (zK 1 (Io h)) (Qc (Q0 (toNat 1<Io h)) (re (ai 0) (aB az (a.2.1,a.2.2.1,a.2.2.2.1,a.t.1,a.t.2.1,a.t.q.1,a.t.q.2.1,a.t.t.1,h.set (toNat 1) (x.1,x.2.1,Q4),a.t.t.q)))))))))))
def Xz(y:zo bB):Tr (Empty⊕au):=
 let x:=TW y
 let a:=ku x
 let c:=a.t.t.2.1.getD (toNat 1) (zi zl)
 let h:=a.t.t.2.1.getD (toNat 0) (zi zl)
 let b:=a.t.t.2.1.set (toNat 0) (h.1,h.2.1,Q3)
 let d:=b.getD (toNat 1) (zi zl)
 XA y x a c h b d
theorem zqr(y:zo bB):rn Gw 1 zgR Tryz.f143 [Qf 0 0] (aB bB y)=(Xz y).map (lf Tryz.f143 e0):=kw
def Bb(y:zo bB):Option (zD (Qi Q1 [zj])×zo az):=kM [zj] az t0 100000000 (Xz y)
def Ba(y:zo bB):Bool:=(Bb y).isSome
def xN(y:zo bB):zq×zo az:=(λr:zD (Qi Q1 [zj])×zo az=>(r.1.1,r.2)) ((Bb y).getD (cA [zj],fU az))
def znm:z8:=sA bB [] [zj] az (λy _=>Ba y) λy _=>(((xN y).1,()),(xN y).2)
theorem zia:FK 143 znm:=kd (keep:=zgR) (gas:=400) (n:=100000000) (e:=e0) (t:=t0) (i:=λy x=>Xz y) xu zsq (λy x=>zqr y) (U7 _ _ _ _ _) (λ_ _=>by kernel_rfl) (λ_ _=>by kernel_rfl)
def LD:=Gw.addL [(141,zni),(143,znm)]
theorem Gx:zw LD:=xu.addL<|fc zh6<|fc zia iH
abbrev X5:Nat->aP:=λj=>if j=11 then{slots:=[0,83,84,85],prom:=[(0,Q1 60,.int .i64)]}else if j=1000000 then{prom:=[(0,Q1 50,zl),(0,Q1 60,.int .i64)],sett:=[(0,60)]}else{ }
inductive Fm where
 |h11 (l83:LC) (i84:Int) (i85:Int) (z0:zo ef)
abbrev V8:Fm->Nat×St
 |.h11 l i h z=>(11,⟨tm 124 [(0,Qf 0 0),(83,sl zl l),(84,ai i),(85,ai h)],[Qa (bI [1,2] ef z),AO.vec zl z.t.t.1,AO.vec zj z.t.t.q.2.1]⟩)
theorem zsp:zM LD.P 142 Tryz.f142 1:=bL kw
def Mc(y:zo bB)(h:zq)(a:Sem Q5×dA×zq×Unit)(x b:Int):Tr (Fm⊕au):=br (Q0 (h<0)) (re (ai 4) (aB az (y.1,y.2.1,y.2.2.1,y.2.2.2.1,y.t.1,y.t.2.1,y.t.q.1,y.t.q.2.1,[],y.t.t.1,a))) (br (!jq y.2.2.1.t.1 (h,y.t.q.1)) (re (ai 10) (aB az (y.1,y.2.1,y.2.2.1,y.2.2.2.1,y.t.1,y.t.2.1,y.t.q.1,y.t.q.2.1,[],y.t.t.1,a))) (br (Q0 (b>8)) (re (ai 13) (aB az (y.1,y.2.1,y.2.2.1,y.2.2.2.1,y.t.1,y.t.2.1,y.t.q.1,y.t.q.2.1,[],y.t.t.1,a))) (Qc (Q0 (Io y.2.2.1.2.1<=1073741824)) (Q9 (Fm.h11 y.2.2.2.1.2.1 x 0 (y.1,y.2.1,y.2.2.1,y.2.2.2.1,y.t.1,y.t.2.1,y.t.q.1,y.t.q.2.1,y.2.2.1.2.1,y.2.2.1.2.2.1,a))))))
def IK(y:zo bB):Tr (Fm⊕au):=
 let a:=zV (y.2.2.1.1,y.2.2.1.2.1,y.2.2.1.2.2.1,y.2.2.1.2.2.2.1,y.2.2.1.t.1,zr y.2.2.1.t.2) y.2.1.t.2.1
 let x:=(y.t.t.2.1,[],a,())
 let h:=(↑(Io y.2.2.2.1.2.1):Int)
 let b:=Γ Δ (Γ Δ ((↑(Io y.2.2.1.2.1):Int)+h)-1)
 Mc y a x h b
def E1(l:LC)(h i:Int)(z:zo ef)(a:LC)(x:Int):Tr (Fm⊕au):=br (Q0 (i<h)) (Qc (zK i (Io l)) (br (i !=z.2.2.2.1.2.2.1) (Qc (Q0 (Io z.t.t.q.2.1+[i].length<=1073741824)) (Qc (Q0 (Io z.t.t.1+Io a<=1073741824)) (Q9 (Fm.h11 l h x (z.1,z.2.1,z.2.2.1,z.2.2.2.1,z.t.1,z.t.2.1,z.t.q.1,z.t.q.2.1,z.t.t.1++a,z.t.t.2.1,z.t.t.q.1,z.t.t.q.2.1++[i],z.t.t.t))))) (Q9 (Fm.h11 l h x z)))) (re (ai 0) (aB az z))
def Kb(l:LC)(h i:Int)(z:zo ef):Tr (Fm⊕au):=
 let a:=[l.getD i.toNat (zi zl)]
 let x:=Γ Δ (i+1)
 E1 l h i z a x
theorem zqq(y:zo bB):rn LD 1 X5 Tryz.f142 [Qf 0 0] (aB bB y)=(IK y).map (lf Tryz.f142 V8):=kw
def NG:Fm->Tr (Fm⊕au)
 |.h11 l i h z=>Kb l i h z
theorem zs7:∀s,run LD 1 X5 (Func.results Tryz.f142).toList 400 (ab Tryz.f142 (V8 s).1) (V8 s).2=(NG s).map (lf Tryz.f142 V8)|.h11 l i h z=>by kernel_rfl
def Dv(y:zo bB):Option (zD (Qi Q1 [zj])×zo az):=kM [zj] az NG 100000000 (IK y)
def IY(y:zo bB):Bool:=(Dv y).isSome
def Hh(y:zo bB):zq×zo az:=(λr:zD (Qi Q1 [zj])×zo az=>(r.1.1,r.2)) ((Dv y).getD (cA [zj],fU az))
def znk:z8:=sA bB [] [zj] az (λy _=>IY y) λy _=>(((Hh y).1,()),(Hh y).2)
theorem zh8:FK 142 znk:=kd (keep:=X5) (gas:=400) (n:=100000000) (e:=V8) (t:=NG) (i:=λy x=>IK y) Gx zsp (λy x=>zqq y) zs7 (λ_ _=>by kernel_rfl) (λ_ _=>by kernel_rfl)
def zf1:=LD.add 142 znk
theorem Gy:zw zf1:=Gx.add zh8
end
end Cad
