/- Words, names, runs of octets. Names. -/
import Derived.Test.YtkmcdhahdadkpaaGreatDoorP05
namespace Cad
open Go Go.Proofs
open Bool renaming false→Q4,true→Q3
open Option renaming some→Q1
open Decidable renaming decide→Q0
open List (length)
open Tr (chk br)
open AV (nils agg tup ptr kb str sl)
noncomputable section
def swT{β:Type}(leaf:β->zC)(s:zB):List (zB×β)->β->Tr zC
 |[],d=>.ok (leaf d)
 |(w,b)::r,d=>.br (s==w) (.ok (leaf b)) (swT leaf s r d)
def No{β:Type}(s:zB):List (zB×β)->β->β
 |[],d=>d
 |(w,b)::r,d=>if s==w then b else No s r d
theorem G0{β:Type}{leaf:β->zC}{s:zB}{d:β}{Φ:zC->Prop}:∀(l:List (zB×β)),Φ (leaf (No s l d))->(swT leaf s l d).Sat Φ
 |[],h=>h
 | (w,b)::r,h=>by
  refine⟨λhc=>?_,λhc=>G0 r ?_⟩
  ·simp only[No]at h;rw[if_pos hc]at h;exact h
  ·simp only[No]at h;rw[if_neg (by rw[hc];simp)]at h;exact h
def CR:List (zB×Bool):=[([65,78,68],Q3),([79,82],Q3),([78,79,84],Q3),([73,83],Q3),([78,85,76,76],Q3),([84,82,85,69],Q3),([70,65,76,83,69],Q3),([67,82,69,65,84,69],Q3),([84,65,66,76,69],Q3),([73,78,84],Q3),([84,69,88,84],Q3),([66,79,79,76],Q3),([75,69,89],Q3),([85,78,73,81,85,69],Q3),([82,69,70,69,82,69,78,67,69,83],Q3),([67,72,69,67,75],Q3),([68,82,79,80],Q3),([73,78,83,69,82,84],Q3),([73,78,84,79],Q3),([86,65,76,85,69,83],Q3),([85,80,68,65,84,69],Q3),([83,69,84],Q3),([87,72,69,82,69],Q3),([68,69,76,69,84,69],Q3),([70,82,79,77],Q3),([83,69,76,69,67,84],Q3),([71,82,65,78,84],Q3),([82,69,65,68],Q3),([87,82,73,84,69],Q3),([79,78],Q3),([84,79],Q3),([82,69,86,79,75,69],Q3),([77,73,71,82,65,84,69],Q3),([67,79,80,89],Q3),([74,79,73,78],Q3),([71,82,79,85,80],Q3),([66,89],Q3),([83,85,77],Q3)]
def xn:List (zB×Int):=[([108,105,116],0),([99,111,108],0),([110,111,116],1),([110,117,108,108],1),([97,110,100],2),([111,114],2),([61],2),([60],2),([43],2),([45],2)]
def iR(s:zB):Bool:=No s CR Q4
def cK(s:zB):Int:=No s xn (-1)
def zU(c:Int):Bool:=bif Q0 (c>=48)then Q0 (c<=57)else Q4
def aH(c:Int):Bool:=bif Q0 (c>=97)then
  bif Q0 (c<=122)then Q3 else bif Q0 (c>=65)then Q0 (c<=90)else Q4
 else bif Q0 (c>=65)then Q0 (c<=90)else Q4
def bt(c:Int):Bool:=bif aH c then Q3 else bif zU c then Q3 else c==95
def rX:bX:=(((zf1.aut 307 Tryz.f307 1).aut 308 Tryz.f308 1).aut 306 Tryz.f306 1).aut 279 Tryz.f279 0
theorem ma:zw rX:=by
 refine g6 (g6 (g6 (g6 QI ?_) ?_) ?_) ?_<;>(refine⟨?_,?_,?_,?_⟩<;>kernel_rfl)
theorem zkg(s:zB):run rX 0 (λ_=>{}) Tryz.f209.results.toList 400 (bw Tryz.f209) (be Tryz.f209.ntmps [.str s] [])=swT (λb=>.ret (.kb b) []) s CR Q4:=kw
theorem zhP:zI rX.P 209 Tryz.f209 1:=bU kw
theorem zeA:FK 209 (sy [.str] [.bool] λx=>Q1 (iR x.1,())):=by
 refine uT zhP λx y hx C hC=>?_
 cases hx;refine dn (n0:=0) ma zhP (λid _=>hC id) (λ_=>{}) 400 ?_;have e:iW ([Sh.str].map Q1) x=[.str x.1]:=rfl;rw[e,zkg];exact G0 CR rfl
theorem zkD(s:zB):run rX 0 (λ_=>{}) Tryz.f285.results.toList 400 (bw Tryz.f285) (be Tryz.f285.ntmps [.str s] [])=swT (λb=>.ret (.int .i64 b) []) s xn (-1):=kw
theorem zic:zI rX.P 285 Tryz.f285 1:=bU kw
theorem zeZ:FK 285 (sy [.str] [zg] λx=>Q1 (cK x.1,())):=by
 refine uT zic λx y hx C hC=>?_
 cases hx;refine dn (n0:=0) ma zic (λid _=>hC id) (λ_=>{}) 400 ?_;have e:iW ([Sh.str].map Q1) x=[.str x.1]:=rfl;rw[e,zkD];exact G0 xn rfl
def cG(p:Int->Bool):zB->Nat
 |[]=>0
 |c::r=>if p c.toNat then cG p r+1 else 0
def aK(f m:Int->Bool):zB->Nat
 |[]=>0
 |c::r=>if f c.toNat then cG m r+1 else 0
theorem Reach.strLen{E:bX}{C:eP}{fn:FuncId}{todo:List Item}{st:St}{Q:AV->List AO->Prop}(j:Nat)(s:zB)(hj:st.tmps[j]?=Q1 (.str s))(h:s.length<=aE->Reach E C fn todo st Q):Reach E C fn todo st Q:=by
 intro b cs a w U ρ h1 h2 hc hW;refine h ?_ b cs a w U ρ h1 h2 hc hW;have hlt:j<a.tmps.toList.length:=by rw[<-hc.tm.len];exact(cW.1 hj).1
 have:=hc.tm.rv j _ _ hj (zR hlt);generalize a.tmps.toList[j]=v at this;cases this with
 |str _ h=>exact h
abbrev ID:Nat->aM:=λ_=>{slots:=[1,2,5]}
abbrev Ly(a b c d:AV)(s:zB)(n:Int):St:={
 tmps:=(tm 31 [(1,str s),(2,ptr 0 0),(5,ai n)]),
 heap:=[AO.box [a,b,c,d]]}
abbrev zcI(a b c d:AV)(p:Int->Bool)(s:zB)(n:Int):Tr zC:=
 chk (bif Q0 (n<↑(length s))then zM n (length s)else Q3)
  (br (bif Q0 (n<↑(length s))then p ↑(List.getD s n.toNat 0).toNat else Q4)
   (Tr.ok (zC.head 4 (ac Tryz.f280 4) (Ly a b c d s (IntKind.i64.wrap (n+1)))))
   (Tr.ok (zC.ret (ai n) [])))
theorem V7:zI rX.P 280 Tryz.f280 2:=bU kw
theorem zaW{C:eP}(hC:∀id,0<=id->C.ρ0 id=none)(a b c d:AV)(p:Int->Bool)(s:zB)
  (hon:∀n,run rX 0 ID Tryz.f280.results.toList 300 (ac Tryz.f280 4) (Ly a b c d s n)=zcI a b c d p s n) (hl:s.length<=aE):∀(k i:Nat),s.length-i=k->i<=s.length->
  Reach rX C 280 (ac Tryz.f280 4) (Ly a b c d s i) (λr h=>(r,h)=(.int .i64 ((i+cG p (s.drop i):Nat):Int),[]))
 | k,i,hk,hi=>by
  subst hk;refine dn ma V7 hC ID 300 ?_;rw[hon];refine⟨?_,λh=>?_,λh=>?_⟩
  ·by_cases hlt:i<s.length
   ·have:Q0 ((i:Int)<s.length)=Q3:=by simpa using hlt
    simp[zM,hlt]
   ·have:Q0 ((i:Int)<s.length)=Q4:=by simpa using hlt
    simp[hlt]
  ·have hlt:i<s.length:=by
    by_cases hlt:i<s.length
    ·exact hlt
    ·have:Q0 ((i:Int)<s.length)=Q4:=by simpa using hlt
     rw[this]at h;cases h
   have hd:Q0 ((i:Int)<s.length)=Q3:=by simpa using hlt
   rw[hd,cA s _ hlt,ay]at h;rw[fk hlt];simp only[cG];rw[if_pos h,zp i ow,show i+(cG p (List.drop (i+1) s)+1)=(i+1)+cG p (List.drop (i+1) s) by omega];exact zaW hC a b c d p s hon hl (s.length-(i+1)) (i+1) rfl ow
  ·have:cG p (s.drop i)=0:=by
    by_cases hlt:i<s.length
    ·have hd:Q0 ((i:Int)<s.length)=Q3:=by simpa using hlt
     rw[hd,cA s _ hlt]at h;rw[fk hlt];simp only[cG];rw[if_neg (by intro h';rw[ay]at h;rw[h']at h;cases h)]
    ·rw[Aa ow];rfl
   rw[this];rfl
 termination_by k=>k
theorem ziI(s:zB)(n:Int):run rX 0 ID Tryz.f280.results.toList 300 (ac Tryz.f280 4) (Ly (ai 1) (ai 16) (AV.clo (Fn.func 307) [] []) (AV.clo (Fn.func 306) [] []) s n)=zcI (ai 1) (ai 16) (AV.clo (Fn.func 307) [] []) (AV.clo (Fn.func 306) [] []) bt s n:=kw
theorem zgm(s:zB):run rX 0 ID Tryz.f280.results.toList 300 (bw Tryz.f280) (be Tryz.f280.ntmps [.agg [(ai 1),(ai 16),(AV.clo (Fn.func 307) [] []),(AV.clo (Fn.func 306) [] [])],.str s] [])=
 chk (bif s==[]then Q3 else zM 0 (length s))
  (br (bif s==[]then Q3 else !aH ↑(List.getD s (Int.toNat 0) 0).toNat) (Tr.ok (zC.ret (ai 0) []))
   (Tr.ok (zC.head 4 (ac Tryz.f280 4) (Ly (ai 1) (ai 16) (AV.clo (Fn.func 307) [] []) (AV.clo (Fn.func 306) [] []) s 1)))):=kw
theorem zaU{C:eP}(hC:∀id,0<=id->C.ρ0 id=none)(s:zB)(hl:s.length<=aE):Reach rX C 280 (bw Tryz.f280) (be Tryz.f280.ntmps [.agg [(ai 1),(ai 16),(AV.clo (Fn.func 307) [] []),(AV.clo (Fn.func 306) [] [])],.str s] []) (λr h=>(r,h)=(.int .i64 (aK aH bt s:Nat),[])):=by
 refine dn (n0:=0) ma V7 hC ID 300 ?_;rw[zgm];cases s with
 |nil=>exact⟨rfl,λ_=>rfl,λh=>by cases h⟩
 | cons c r=>
  refine⟨by simp[zM],λh=>?_,λh=>?_⟩
  ·have h':aH ↑c.toNat=Q4:=by simpa using h
   simp only[aK,h'];rfl
  ·have h':aH ↑c.toNat=Q3:=by simpa using h
   have:=zaW hC (ai 1) (ai 16) (AV.clo (Fn.func 307) [] []) (AV.clo (Fn.func 306) [] []) bt (c::r) (ziI (c::r)) hl _ 1 rfl sw;simp only[aK,h',if_true];rw[show 1+cG bt ((c::r).drop 1)=cG bt r+1 by simp[nL]]at this;exact this
theorem ziJ(s:zB)(n:Int):run rX 0 ID Tryz.f280.results.toList 300 (ac Tryz.f280 4) (Ly (ai 2) (ai 19) (AV.clo (Fn.func 308) [] []) (AV.clo (Fn.func 308) [] []) s n)=zcI (ai 2) (ai 19) (AV.clo (Fn.func 308) [] []) (AV.clo (Fn.func 308) [] []) zU s n:=kw
theorem zgn(s:zB):run rX 0 ID Tryz.f280.results.toList 300 (bw Tryz.f280) (be Tryz.f280.ntmps [.agg [(ai 2),(ai 19),(AV.clo (Fn.func 308) [] []),(AV.clo (Fn.func 308) [] [])],.str s] [])=
 chk (bif s==[]then Q3 else zM 0 (length s))
  (br (bif s==[]then Q3 else !zU ↑(List.getD s (Int.toNat 0) 0).toNat) (Tr.ok (zC.ret (ai 0) []))
   (Tr.ok (zC.head 4 (ac Tryz.f280 4) (Ly (ai 2) (ai 19) (AV.clo (Fn.func 308) [] []) (AV.clo (Fn.func 308) [] []) s 1)))):=kw
theorem zaV{C:eP}(hC:∀id,0<=id->C.ρ0 id=none)(s:zB)(hl:s.length<=aE):Reach rX C 280 (bw Tryz.f280) (be Tryz.f280.ntmps [.agg [(ai 2),(ai 19),(AV.clo (Fn.func 308) [] []),(AV.clo (Fn.func 308) [] [])],.str s] []) (λr h=>(r,h)=(.int .i64 (aK zU zU s:Nat),[])):=by
 refine dn (n0:=0) ma V7 hC ID 300 ?_;rw[zgn];cases s with
 |nil=>exact⟨rfl,λ_=>rfl,λh=>by cases h⟩
 | cons c r=>
  refine⟨by simp[zM],λh=>?_,λh=>?_⟩
  ·have h':zU ↑c.toNat=Q4:=by simpa using h
   simp only[aK,h'];rfl
  ·have h':zU ↑c.toNat=Q3:=by simpa using h
   have:=zaW hC (ai 2) (ai 19) (AV.clo (Fn.func 308) [] []) (AV.clo (Fn.func 308) [] []) zU (c::r) (ziJ (c::r)) hl _ 1 rfl sw;simp only[aK,h',if_true];rw[show 1+cG zU ((c::r).drop 1)=cG zU r+1 by simp[nL]]at this;exact this
def G65:iw [none,Q1 .str]:=λx h=>match x,h with
 |(.agg [.int .i64 1,.int .i64 16,.clo (.func 307) [] [],.clo (.func 306) [] []],s,_),[]=>.ok (.int .i64 (aK aH bt s:Nat),[])
 |(.agg [.int .i64 2,.int .i64 19,.clo (.func 308) [] [],.clo (.func 308) [] []],s,_),[]=>.ok (.int .i64 (aK zU zU s:Nat),[])
 |_,_=>.err
theorem ze8:FK 280 (bm [none,Q1 .str] G65):=by
 refine dH V7 λx h0 res hx C hC=>?_
 unfold G65 at hx;split at hx
 ·simp only[Tr.val_ok,bB]at hx;subst hx;rename_i _ _ s u;have e:iW [none,Q1 Sh.str] (agg [(ai 1),(ai 16),(AV.clo (Fn.func 307) [] []),(AV.clo (Fn.func 306) [] [])],s,u)=[agg [(ai 1),(ai 16),(AV.clo (Fn.func 307) [] []),(AV.clo (Fn.func 306) [] [])],.str s]:=rfl;rw[e];exact Reach.strLen 1 s rfl λhl=>zaU hC s hl
 ·simp only[Tr.val_ok,bB]at hx;subst hx;rename_i _ _ s u;have e:iW [none,Q1 Sh.str] (agg [(ai 2),(ai 19),(AV.clo (Fn.func 308) [] []),(AV.clo (Fn.func 308) [] [])],s,u)=[agg [(ai 2),(ai 19),(AV.clo (Fn.func 308) [] []),(AV.clo (Fn.func 308) [] [])],.str s]:=rfl;rw[e];exact Reach.strLen 1 s rfl λhl=>zaV hC s hl
 ·simp at hx
abbrev bW:Sh:=.pr (.int .i64) .str
def Vt:bX:=((rX.add 209 (sy [.str] [.bool] λx=>Q1 (iR x.1,()))).add 285 (sy [.str] [zg] λx=>Q1 (cK x.1,()))).add 280 (bm [none,Q1 .str] G65)
theorem H9:zw Vt:=((ma.add zeA).add zeZ).add ze8
def pB(s:zB):Bool:=bif Q0 ((↑(length s):Int)>=1)then
  bif Q0 ((↑(length s):Int)<=16)then(↑(aK aH bt s):Int)==↑(length s)else Q4
 else Q4
def g49(x:zy ([bW].map Q1)):Option (zy ([Sh.bool].map Q1)):=if x.1.1=1 then Q1 (pB x.1.2,())else none
theorem zkz(s:zB):(run Vt 0 unr Tryz.f243.results.toList 400 (bw Tryz.f243) (be Tryz.f243.ntmps [.agg [.int .i64 1,.str s]] [])).val=Q1 (.ret (.bool (pB s)) []):=kw
theorem zia:zI Vt.P 243 Tryz.f243 1:=bU kw
theorem zeT:FK 243 (sy [bW] [.bool] g49):=by
 refine uT zia λx y hx C hC=>?_
 obtain⟨⟨k,s⟩,u⟩:=x;unfold g49 at hx;split at hx
 ·rename_i hk;have hk':k=1:=hk;subst hk';cases hx;have e:iW ([bW].map Q1) (((1,s),u):zy ([bW].map Q1))=[.agg [.int .i64 1,.str s]]:=rfl;rw[e];exact mB (n0:=0) H9 zia (λid _=>hC id) (zkz s) rfl
 ·cases hx
def zf2:bX:=Vt.add 243 (sy [bW] [.bool] g49)
theorem QM:zw zf2:=H9.add zeT
def zf3:bX:=zf2.aut 208 Tryz.f208 1
theorem QN:zw zf3:=g6 QM (bU kw)
def Of:bX:=zf3.aut 168 Tryz.f168 1
theorem Id:zw Of:=g6 QN (bU kw)
end
end Cad
