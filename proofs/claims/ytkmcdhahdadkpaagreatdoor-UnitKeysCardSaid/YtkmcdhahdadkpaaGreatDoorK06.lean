/- Words, names, runs of octets. Names. -/
import Derived.Test.YtkmcdhahdadkpaaGreatDoorK05
namespace Cad
open Go Go.Proofs
open Bool renaming false→Q4,true→Q3
open Option renaming some→Q1
open Decidable renaming decide→Q0
open List (length)
open Tr (chk br)
open AV (nils agg tup ptr kb str sl)
noncomputable section
def swT{β:Type}(leaf:β->zC)(s:zB):List (zB×β)->β->Tr zC
 |[],d=>.ok (leaf d)
 |(w,b)::r,d=>.br (s==w) (.ok (leaf b)) (swT leaf s r d)
def ND{β:Type}(s:zB):List (zB×β)->β->β
 |[],d=>d
 |(w,b)::r,d=>if s==w then b else ND s r d
theorem Ha{β:Type}{leaf:β->zC}{s:zB}{d:β}{Φ:zC->Prop}:∀(l:List (zB×β)),Φ (leaf (ND s l d))->(swT leaf s l d).Sat Φ
 |[],h=>h
 | (w,b)::r,h=>by
  refine⟨λhc=>?_,λhc=>Ha r ?_⟩
  ·simp only[ND]at h;rw[if_pos hc]at h;exact h
  ·simp only[ND]at h;rw[if_neg (by rw[hc];simp)]at h;exact h
def CZ:List (zB×Bool):=[([65,78,68],Q3),([79,82],Q3),([78,79,84],Q3),([73,83],Q3),([78,85,76,76],Q3),([84,82,85,69],Q3),([70,65,76,83,69],Q3),([67,82,69,65,84,69],Q3),([84,65,66,76,69],Q3),([73,78,84],Q3),([84,69,88,84],Q3),([66,79,79,76],Q3),([75,69,89],Q3),([85,78,73,81,85,69],Q3),([82,69,70,69,82,69,78,67,69,83],Q3),([67,72,69,67,75],Q3),([68,82,79,80],Q3),([73,78,83,69,82,84],Q3),([73,78,84,79],Q3),([86,65,76,85,69,83],Q3),([85,80,68,65,84,69],Q3),([83,69,84],Q3),([87,72,69,82,69],Q3),([68,69,76,69,84,69],Q3),([70,82,79,77],Q3),([83,69,76,69,67,84],Q3),([71,82,65,78,84],Q3),([82,69,65,68],Q3),([87,82,73,84,69],Q3),([79,78],Q3),([84,79],Q3),([82,69,86,79,75,69],Q3),([77,73,71,82,65,84,69],Q3),([67,79,80,89],Q3),([74,79,73,78],Q3),([71,82,79,85,80],Q3),([66,89],Q3),([83,85,77],Q3)]
def xu:List (zB×Int):=[([108,105,116],0),([99,111,108],0),([110,111,116],1),([110,117,108,108],1),([97,110,100],2),([111,114],2),([61],2),([60],2),([43],2),([45],2)]
def iZ(s:zB):Bool:=ND s CZ Q4
def cK(s:zB):Int:=ND s xu (-1)
def zW(c:Int):Bool:=bif Q0 (c>=48)then Q0 (c<=57)else Q4
def aI(c:Int):Bool:=bif Q0 (c>=97)then
  bif Q0 (c<=122)then Q3 else bif Q0 (c>=65)then Q0 (c<=90)else Q4
 else bif Q0 (c>=65)then Q0 (c<=90)else Q4
def bq(c:Int):Bool:=bif aI c then Q3 else bif zW c then Q3 else c==95
def r7:bX:=(((zgR.aut 307 Tryz.f307 1).aut 308 Tryz.f308 1).aut 306 Tryz.f306 1).aut 279 Tryz.f279 0
theorem mb:zx r7:=by
 refine ii (ii (ii (ii Rh ?_) ?_) ?_) ?_<;>(refine⟨?_,?_,?_,?_⟩<;>kernel_rfl)
theorem zla(s:zB):run r7 0 (λ_=>{}) Tryz.f209.results.toList 400 (bt Tryz.f209) (bc Tryz.f209.ntmps [.str s] [])=swT (λb=>.ret (.kb b) []) s CZ Q4:=kw
theorem ziK:zJ r7.P 209 Tryz.f209 1:=bQ kw
theorem zfp:FK 209 (sC [.str] [.bool] λx=>Q1 (iZ x.1,())):=by
 refine uX ziK λx y hx C hC=>?_
 cases hx;refine dq (n0:=0) mb ziK (λid _=>hC id) (λ_=>{}) 400 ?_;have e:je ([Sh.str].map Q1) x=[.str x.1]:=rfl;rw[e,zla];exact Ha CZ rfl
theorem zlx(s:zB):run r7 0 (λ_=>{}) Tryz.f285.results.toList 400 (bt Tryz.f285) (bc Tryz.f285.ntmps [.str s] [])=swT (λb=>.ret (.int .i64 b) []) s xu (-1):=kw
theorem zi7:zJ r7.P 285 Tryz.f285 1:=bQ kw
theorem zfN:FK 285 (sC [.str] [zg] λx=>Q1 (cK x.1,())):=by
 refine uX zi7 λx y hx C hC=>?_
 cases hx;refine dq (n0:=0) mb zi7 (λid _=>hC id) (λ_=>{}) 400 ?_;have e:je ([Sh.str].map Q1) x=[.str x.1]:=rfl;rw[e,zlx];exact Ha xu rfl
def cF(p:Int->Bool):zB->Nat
 |[]=>0
 |c::r=>if p c.toNat then cF p r+1 else 0
def aL(f m:Int->Bool):zB->Nat
 |[]=>0
 |c::r=>if f c.toNat then cF m r+1 else 0
theorem Reach.strLen{E:bX}{C:eS}{fn:FuncId}{todo:List Item}{st:St}{Q:AV->List AO->Prop}(j:Nat)(s:zB)(hj:st.tmps[j]?=Q1 (.str s))(h:s.length<=aF->Reach E C fn todo st Q):Reach E C fn todo st Q:=by
 intro b cs a w U ρ h1 h2 hc hW;refine h ?_ b cs a w U ρ h1 h2 hc hW;have hlt:j<a.tmps.toList.length:=by rw[<-hc.tm.len];exact(cZ.1 hj).1
 have:=hc.tm.rv j _ _ hj (zS hlt);generalize a.tmps.toList[j]=v at this;cases this with
 |str _ h=>exact h
abbrev IQ:Nat->aN:=λ_=>{slots:=[1,2,5]}
abbrev LU(a b c d:AV)(s:zB)(n:Int):St:={
 tmps:=(tm 31 [(1,str s),(2,ptr 0 0),(5,ai n)]),
 heap:=[AO.box [a,b,c,d]]}
abbrev zdl(a b c d:AV)(p:Int->Bool)(s:zB)(n:Int):Tr zC:=
 chk (bif Q0 (n<↑(length s))then zN n (length s)else Q3)
  (br (bif Q0 (n<↑(length s))then p ↑(List.getD s n.toNat 0).toNat else Q4)
   (Tr.ok (zC.head 4 (ae Tryz.f280 4) (LU a b c d s (IntKind.i64.wrap (n+1)))))
   (Tr.ok (zC.ret (ai n) [])))
theorem WE:zJ r7.P 280 Tryz.f280 2:=bQ kw
theorem zby{C:eS}(hC:∀id,0<=id->C.ρ0 id=none)(a b c d:AV)(p:Int->Bool)(s:zB)
  (hon:∀n,run r7 0 IQ Tryz.f280.results.toList 300 (ae Tryz.f280 4) (LU a b c d s n)=zdl a b c d p s n) (hl:s.length<=aF):∀(k i:Nat),s.length-i=k->i<=s.length->
  Reach r7 C 280 (ae Tryz.f280 4) (LU a b c d s i) (λr h=>(r,h)=(.int .i64 ((i+cF p (s.drop i):Nat):Int),[]))
 | k,i,hk,hi=>by
  subst hk;refine dq mb WE hC IQ 300 ?_;rw[hon];refine⟨?_,λh=>?_,λh=>?_⟩
  ·by_cases hlt:i<s.length
   ·have:Q0 ((i:Int)<s.length)=Q3:=by simpa using hlt
    simp[zN,hlt]
   ·have:Q0 ((i:Int)<s.length)=Q4:=by simpa using hlt
    simp[hlt]
  ·have hlt:i<s.length:=by
    by_cases hlt:i<s.length
    ·exact hlt
    ·have:Q0 ((i:Int)<s.length)=Q4:=by simpa using hlt
     rw[this]at h;cases h
   have hd:Q0 ((i:Int)<s.length)=Q3:=by simpa using hlt
   rw[hd,cA s _ hlt,ah]at h;rw[fu hlt];simp only[cF];rw[if_pos h,zp i ow,show i+(cF p (List.drop (i+1) s)+1)=(i+1)+cF p (List.drop (i+1) s) by omega];exact zby hC a b c d p s hon hl (s.length-(i+1)) (i+1) rfl ow
  ·have:cF p (s.drop i)=0:=by
    by_cases hlt:i<s.length
    ·have hd:Q0 ((i:Int)<s.length)=Q3:=by simpa using hlt
     rw[hd,cA s _ hlt]at h;rw[fu hlt];simp only[cF];rw[if_neg (by intro h';rw[ah]at h;rw[h']at h;cases h)]
    ·rw[Aj ow];rfl
   rw[this];rfl
 termination_by k=>k
theorem zjC(s:zB)(n:Int):run r7 0 IQ Tryz.f280.results.toList 300 (ae Tryz.f280 4) (LU (ai 1) (ai 16) (AV.clo (Fn.func 307) [] []) (AV.clo (Fn.func 306) [] []) s n)=zdl (ai 1) (ai 16) (AV.clo (Fn.func 307) [] []) (AV.clo (Fn.func 306) [] []) bq s n:=kw
theorem zhc(s:zB):run r7 0 IQ Tryz.f280.results.toList 300 (bt Tryz.f280) (bc Tryz.f280.ntmps [.agg [(ai 1),(ai 16),(AV.clo (Fn.func 307) [] []),(AV.clo (Fn.func 306) [] [])],.str s] [])=
 chk (bif s==[]then Q3 else zN 0 (length s))
  (br (bif s==[]then Q3 else !aI ↑(List.getD s (Int.toNat 0) 0).toNat) (Tr.ok (zC.ret (ai 0) []))
   (Tr.ok (zC.head 4 (ae Tryz.f280 4) (LU (ai 1) (ai 16) (AV.clo (Fn.func 307) [] []) (AV.clo (Fn.func 306) [] []) s 1)))):=kw
theorem zbw{C:eS}(hC:∀id,0<=id->C.ρ0 id=none)(s:zB)(hl:s.length<=aF):Reach r7 C 280 (bt Tryz.f280) (bc Tryz.f280.ntmps [.agg [(ai 1),(ai 16),(AV.clo (Fn.func 307) [] []),(AV.clo (Fn.func 306) [] [])],.str s] []) (λr h=>(r,h)=(.int .i64 (aL aI bq s:Nat),[])):=by
 refine dq (n0:=0) mb WE hC IQ 300 ?_;rw[zhc];cases s with
 |nil=>exact⟨rfl,λ_=>rfl,λh=>by cases h⟩
 | cons c r=>
  refine⟨by simp[zN],λh=>?_,λh=>?_⟩
  ·have h':aI ↑c.toNat=Q4:=by simpa using h
   simp only[aL,h'];rfl
  ·have h':aI ↑c.toNat=Q3:=by simpa using h
   have:=zby hC (ai 1) (ai 16) (AV.clo (Fn.func 307) [] []) (AV.clo (Fn.func 306) [] []) bq (c::r) (zjC (c::r)) hl _ 1 rfl sw;simp only[aL,h',if_true];rw[show 1+cF bq ((c::r).drop 1)=cF bq r+1 by simp[nN]]at this;exact this
theorem zjD(s:zB)(n:Int):run r7 0 IQ Tryz.f280.results.toList 300 (ae Tryz.f280 4) (LU (ai 2) (ai 19) (AV.clo (Fn.func 308) [] []) (AV.clo (Fn.func 308) [] []) s n)=zdl (ai 2) (ai 19) (AV.clo (Fn.func 308) [] []) (AV.clo (Fn.func 308) [] []) zW s n:=kw
theorem zhd(s:zB):run r7 0 IQ Tryz.f280.results.toList 300 (bt Tryz.f280) (bc Tryz.f280.ntmps [.agg [(ai 2),(ai 19),(AV.clo (Fn.func 308) [] []),(AV.clo (Fn.func 308) [] [])],.str s] [])=
 chk (bif s==[]then Q3 else zN 0 (length s))
  (br (bif s==[]then Q3 else !zW ↑(List.getD s (Int.toNat 0) 0).toNat) (Tr.ok (zC.ret (ai 0) []))
   (Tr.ok (zC.head 4 (ae Tryz.f280 4) (LU (ai 2) (ai 19) (AV.clo (Fn.func 308) [] []) (AV.clo (Fn.func 308) [] []) s 1)))):=kw
theorem zbx{C:eS}(hC:∀id,0<=id->C.ρ0 id=none)(s:zB)(hl:s.length<=aF):Reach r7 C 280 (bt Tryz.f280) (bc Tryz.f280.ntmps [.agg [(ai 2),(ai 19),(AV.clo (Fn.func 308) [] []),(AV.clo (Fn.func 308) [] [])],.str s] []) (λr h=>(r,h)=(.int .i64 (aL zW zW s:Nat),[])):=by
 refine dq (n0:=0) mb WE hC IQ 300 ?_;rw[zhd];cases s with
 |nil=>exact⟨rfl,λ_=>rfl,λh=>by cases h⟩
 | cons c r=>
  refine⟨by simp[zN],λh=>?_,λh=>?_⟩
  ·have h':zW ↑c.toNat=Q4:=by simpa using h
   simp only[aL,h'];rfl
  ·have h':zW ↑c.toNat=Q3:=by simpa using h
   have:=zby hC (ai 2) (ai 19) (AV.clo (Fn.func 308) [] []) (AV.clo (Fn.func 308) [] []) zW (c::r) (zjD (c::r)) hl _ 1 rfl sw;simp only[aL,h',if_true];rw[show 1+cF zW ((c::r).drop 1)=cF zW r+1 by simp[nN]]at this;exact this
def G65:ic [none,Q1 .str]:=λx h=>match x,h with
 |(.agg [.int .i64 1,.int .i64 16,.clo (.func 307) [] [],.clo (.func 306) [] []],s,_),[]=>.ok (.int .i64 (aL aI bq s:Nat),[])
 |(.agg [.int .i64 2,.int .i64 19,.clo (.func 308) [] [],.clo (.func 308) [] []],s,_),[]=>.ok (.int .i64 (aL zW zW s:Nat),[])
 |_,_=>.err
theorem zfW:FK 280 (bg [none,Q1 .str] G65):=by
 refine dt WE λx h0 res hx C hC=>?_
 unfold G65 at hx;split at hx
 ·simp only[Tr.val_ok,bz]at hx;subst hx;rename_i _ _ s u;have e:je [none,Q1 Sh.str] (agg [(ai 1),(ai 16),(AV.clo (Fn.func 307) [] []),(AV.clo (Fn.func 306) [] [])],s,u)=[agg [(ai 1),(ai 16),(AV.clo (Fn.func 307) [] []),(AV.clo (Fn.func 306) [] [])],.str s]:=rfl;rw[e];exact Reach.strLen 1 s rfl λhl=>zbw hC s hl
 ·simp only[Tr.val_ok,bz]at hx;subst hx;rename_i _ _ s u;have e:je [none,Q1 Sh.str] (agg [(ai 2),(ai 19),(AV.clo (Fn.func 308) [] []),(AV.clo (Fn.func 308) [] [])],s,u)=[agg [(ai 2),(ai 19),(AV.clo (Fn.func 308) [] []),(AV.clo (Fn.func 308) [] [])],.str s]:=rfl;rw[e];exact Reach.strLen 1 s rfl λhl=>zbx hC s hl
 ·simp at hx
abbrev bW:Sh:=.pr (.int .i64) .str
def VZ:bX:=((r7.add 209 (sC [.str] [.bool] λx=>Q1 (iZ x.1,()))).add 285 (sC [.str] [zg] λx=>Q1 (cK x.1,()))).add 280 (bg [none,Q1 .str] G65)
theorem Il:zx VZ:=((mb.add zfp).add zfN).add zfW
def pD(s:zB):Bool:=bif Q0 ((↑(length s):Int)>=1)then
  bif Q0 ((↑(length s):Int)<=16)then(↑(aL aI bq s):Int)==↑(length s)else Q4
 else Q4
def g49(x:zy ([bW].map Q1)):Option (zy ([Sh.bool].map Q1)):=if x.1.1=1 then Q1 (pD x.1.2,())else none
theorem zlt(s:zB):(run VZ 0 unr Tryz.f243.results.toList 400 (bt Tryz.f243) (bc Tryz.f243.ntmps [.agg [.int .i64 1,.str s]] [])).val=Q1 (.ret (.bool (pD s)) []):=kw
theorem zi5:zJ VZ.P 243 Tryz.f243 1:=bQ kw
theorem zfI:FK 243 (sC [bW] [.bool] g49):=by
 refine uX zi5 λx y hx C hC=>?_
 obtain⟨⟨k,s⟩,u⟩:=x;unfold g49 at hx;split at hx
 ·rename_i hk;have hk':k=1:=hk;subst hk';cases hx;have e:je ([bW].map Q1) (((1,s),u):zy ([bW].map Q1))=[.agg [.int .i64 1,.str s]]:=rfl;rw[e];exact mB (n0:=0) Il zi5 (λid _=>hC id) (zlt s) rfl
 ·cases hx
def zgS:bX:=VZ.add 243 (sC [bW] [.bool] g49)
theorem Rl:zx zgS:=Il.add zfI
def zgT:bX:=zgS.aut 208 Tryz.f208 1
theorem Rm:zx zgT:=ii Rl (bQ kw)
def OC:bX:=zgT.aut 168 Tryz.f168 1
theorem Iq:zx OC:=ii Rm (bQ kw)
end
end Cad
