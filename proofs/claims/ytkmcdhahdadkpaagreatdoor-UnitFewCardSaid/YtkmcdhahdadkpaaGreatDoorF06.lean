/- Words, names, runs of octets. Names. -/
import Derived.Test.YtkmcdhahdadkpaaGreatDoorF05
namespace Cad
open Go Go.Proofs
open Bool renaming false→Q4,true→Q3
open Option renaming some→Q1
open Decidable renaming decide→Q0
open List (length)
open Tr (chk br)
open AV (nils agg tup ptr kb str sl)
noncomputable section
def swT{β:Type}(leaf:β->zB)(s:zA):List (zA×β)->β->Tr zB
 |[],d=>.ok (leaf d)
 |(w,b)::r,d=>.br (s==w) (.ok (leaf b)) (swT leaf s r d)
def Nk{β:Type}(s:zA):List (zA×β)->β->β
 |[],d=>d
 |(w,b)::r,d=>if s==w then b else Nk s r d
theorem GU{β:Type}{leaf:β->zB}{s:zA}{d:β}{Φ:zB->Prop}:∀(l:List (zA×β)),Φ (leaf (Nk s l d))->(swT leaf s l d).Sat Φ
 |[],h=>h
 | (w,b)::r,h=>by
  refine⟨λhc=>?_,λhc=>GU r ?_⟩
  ·simp only[Nk]at h;rw[if_pos hc]at h;exact h
  ·simp only[Nk]at h;rw[if_neg (by rw[hc];simp)]at h;exact h
def CN:List (zA×Bool):=[([65,78,68],Q3),([79,82],Q3),([78,79,84],Q3),([73,83],Q3),([78,85,76,76],Q3),([84,82,85,69],Q3),([70,65,76,83,69],Q3),([67,82,69,65,84,69],Q3),([84,65,66,76,69],Q3),([73,78,84],Q3),([84,69,88,84],Q3),([66,79,79,76],Q3),([75,69,89],Q3),([85,78,73,81,85,69],Q3),([82,69,70,69,82,69,78,67,69,83],Q3),([67,72,69,67,75],Q3),([68,82,79,80],Q3),([73,78,83,69,82,84],Q3),([73,78,84,79],Q3),([86,65,76,85,69,83],Q3),([85,80,68,65,84,69],Q3),([83,69,84],Q3),([87,72,69,82,69],Q3),([68,69,76,69,84,69],Q3),([70,82,79,77],Q3),([83,69,76,69,67,84],Q3),([71,82,65,78,84],Q3),([82,69,65,68],Q3),([87,82,73,84,69],Q3),([79,78],Q3),([84,79],Q3),([82,69,86,79,75,69],Q3),([77,73,71,82,65,84,69],Q3),([67,79,80,89],Q3),([74,79,73,78],Q3),([71,82,79,85,80],Q3),([66,89],Q3),([83,85,77],Q3)]
def xp:List (zA×Int):=[([108,105,116],0),([99,111,108],0),([110,111,116],1),([110,117,108,108],1),([97,110,100],2),([111,114],2),([61],2),([60],2),([43],2),([45],2)]
def iR(s:zA):Bool:=Nk s CN Q4
def cG(s:zA):Int:=Nk s xp (-1)
def zT(c:Int):Bool:=bif Q0 (c>=48)then Q0 (c<=57)else Q4
def aH(c:Int):Bool:=bif Q0 (c>=97)then
  bif Q0 (c<=122)then Q3 else bif Q0 (c>=65)then Q0 (c<=90)else Q4
 else bif Q0 (c>=65)then Q0 (c<=90)else Q4
def bn(c:Int):Bool:=bif aH c then Q3 else bif zT c then Q3 else c==95
def rU:bT:=(((zfL.aut 307 Tryz.f307 1).aut 308 Tryz.f308 1).aut 306 Tryz.f306 1).aut 279 Tryz.f279 0
theorem lV:zw rU:=by
 refine gZ (gZ (gZ (gZ QB ?_) ?_) ?_) ?_<;>(refine⟨?_,?_,?_,?_⟩<;>kernel_rfl)
theorem zjX(s:zA):run rU 0 (λ_=>{}) Tryz.f209.results.toList 400 (bq Tryz.f209) (bc Tryz.f209.ntmps [.str s] [])=swT (λb=>.ret (.kb b) []) s CN Q4:=kw
theorem zhz:zI rU.P 209 Tryz.f209 1:=bQ kw
theorem zek:FK 209 (sr [.str] [.bool] λx=>Q1 (iR x.1,())):=by
 refine uT zhz λx y hx C hC=>?_
 cases hx;refine dl (n0:=0) lV zhz (λid _=>hC id) (λ_=>{}) 400 ?_;have e:iX ([Sh.str].map Q1) x=[.str x.1]:=rfl;rw[e,zjX];exact GU CN rfl
theorem zkk(s:zA):run rU 0 (λ_=>{}) Tryz.f285.results.toList 400 (bq Tryz.f285) (bc Tryz.f285.ntmps [.str s] [])=swT (λb=>.ret (.int .i64 b) []) s xp (-1):=kw
theorem zhW:zI rU.P 285 Tryz.f285 1:=bQ kw
theorem zeJ:FK 285 (sr [.str] [zg] λx=>Q1 (cG x.1,())):=by
 refine uT zhW λx y hx C hC=>?_
 cases hx;refine dl (n0:=0) lV zhW (λid _=>hC id) (λ_=>{}) 400 ?_;have e:iX ([Sh.str].map Q1) x=[.str x.1]:=rfl;rw[e,zkk];exact GU xp rfl
def cC(p:Int->Bool):zA->Nat
 |[]=>0
 |c::r=>if p c.toNat then cC p r+1 else 0
def aK(f m:Int->Bool):zA->Nat
 |[]=>0
 |c::r=>if f c.toNat then cC m r+1 else 0
theorem Reach.strLen{E:bT}{C:eP}{fn:FuncId}{todo:List Item}{st:St}{Q:AV->List AO->Prop}(j:Nat)(s:zA)(hj:st.tmps[j]?=Q1 (.str s))(h:s.length<=aE->Reach E C fn todo st Q):Reach E C fn todo st Q:=by
 intro b cs a w U ρ h1 h2 hc hW;refine h ?_ b cs a w U ρ h1 h2 hc hW;have hlt:j<a.tmps.toList.length:=by rw[<-hc.tm.len];exact(cV.1 hj).1
 have:=hc.tm.rv j _ _ hj (zQ hlt);generalize a.tmps.toList[j]=v at this;cases this with
 |str _ h=>exact h
abbrev Iw:Nat->aM:=λ_=>{slots:=[1,2,5]}
abbrev Lq(a b c d:AV)(s:zA)(n:Int):St:={
 tmps:=(tm 31 [(1,str s),(2,ptr 0 0),(5,ai n)]),
 heap:=[AO.box [a,b,c,d]]}
abbrev zcu(a b c d:AV)(p:Int->Bool)(s:zA)(n:Int):Tr zB:=
 chk (bif Q0 (n<↑(length s))then zP n (length s)else Q3)
  (br (bif Q0 (n<↑(length s))then p ↑(List.getD s n.toNat 0).toNat else Q4)
   (Tr.ok (zB.head 4 (zZ Tryz.f280 4) (Lq a b c d s (IntKind.i64.wrap (n+1)))))
   (Tr.ok (zB.ret (ai n) [])))
theorem VX:zI rU.P 280 Tryz.f280 2:=bQ kw
theorem zaI{C:eP}(hC:∀id,0<=id->C.ρ0 id=none)(a b c d:AV)(p:Int->Bool)(s:zA)
  (hon:∀n,run rU 0 Iw Tryz.f280.results.toList 300 (zZ Tryz.f280 4) (Lq a b c d s n)=zcu a b c d p s n) (hl:s.length<=aE):∀(k i:Nat),s.length-i=k->i<=s.length->
  Reach rU C 280 (zZ Tryz.f280 4) (Lq a b c d s i) (λr h=>(r,h)=(.int .i64 ((i+cC p (s.drop i):Nat):Int),[]))
 | k,i,hk,hi=>by
  subst hk;refine dl lV VX hC Iw 300 ?_;rw[hon];refine⟨?_,λh=>?_,λh=>?_⟩
  ·by_cases hlt:i<s.length
   ·have:Q0 ((i:Int)<s.length)=Q3:=by simpa using hlt
    simp[zP,hlt]
   ·have:Q0 ((i:Int)<s.length)=Q4:=by simpa using hlt
    simp[hlt]
  ·have hlt:i<s.length:=by
    by_cases hlt:i<s.length
    ·exact hlt
    ·have:Q0 ((i:Int)<s.length)=Q4:=by simpa using hlt
     rw[this]at h;cases h
   have hd:Q0 ((i:Int)<s.length)=Q3:=by simpa using hlt
   rw[hd,cw s _ hlt,ag]at h;rw[fj hlt];simp only[cC];rw[if_pos h,zq i ow,show i+(cC p (List.drop (i+1) s)+1)=(i+1)+cC p (List.drop (i+1) s) by omega];exact zaI hC a b c d p s hon hl (s.length-(i+1)) (i+1) rfl ow
  ·have:cC p (s.drop i)=0:=by
    by_cases hlt:i<s.length
    ·have hd:Q0 ((i:Int)<s.length)=Q3:=by simpa using hlt
     rw[hd,cw s _ hlt]at h;rw[fj hlt];simp only[cC];rw[if_neg (by intro h';rw[ag]at h;rw[h']at h;cases h)]
    ·rw[Aa ow];rfl
   rw[this];rfl
 termination_by k=>k
theorem zis(s:zA)(n:Int):run rU 0 Iw Tryz.f280.results.toList 300 (zZ Tryz.f280 4) (Lq (ai 1) (ai 16) (AV.clo (Fn.func 307) [] []) (AV.clo (Fn.func 306) [] []) s n)=zcu (ai 1) (ai 16) (AV.clo (Fn.func 307) [] []) (AV.clo (Fn.func 306) [] []) bn s n:=kw
theorem zf7(s:zA):run rU 0 Iw Tryz.f280.results.toList 300 (bq Tryz.f280) (bc Tryz.f280.ntmps [.agg [(ai 1),(ai 16),(AV.clo (Fn.func 307) [] []),(AV.clo (Fn.func 306) [] [])],.str s] [])=
 chk (bif s==[]then Q3 else zP 0 (length s))
  (br (bif s==[]then Q3 else !aH ↑(List.getD s (Int.toNat 0) 0).toNat) (Tr.ok (zB.ret (ai 0) []))
   (Tr.ok (zB.head 4 (zZ Tryz.f280 4) (Lq (ai 1) (ai 16) (AV.clo (Fn.func 307) [] []) (AV.clo (Fn.func 306) [] []) s 1)))):=kw
theorem zaG{C:eP}(hC:∀id,0<=id->C.ρ0 id=none)(s:zA)(hl:s.length<=aE):Reach rU C 280 (bq Tryz.f280) (bc Tryz.f280.ntmps [.agg [(ai 1),(ai 16),(AV.clo (Fn.func 307) [] []),(AV.clo (Fn.func 306) [] [])],.str s] []) (λr h=>(r,h)=(.int .i64 (aK aH bn s:Nat),[])):=by
 refine dl (n0:=0) lV VX hC Iw 300 ?_;rw[zf7];cases s with
 |nil=>exact⟨rfl,λ_=>rfl,λh=>by cases h⟩
 | cons c r=>
  refine⟨by simp[zP],λh=>?_,λh=>?_⟩
  ·have h':aH ↑c.toNat=Q4:=by simpa using h
   simp only[aK,h'];rfl
  ·have h':aH ↑c.toNat=Q3:=by simpa using h
   have:=zaI hC (ai 1) (ai 16) (AV.clo (Fn.func 307) [] []) (AV.clo (Fn.func 306) [] []) bn (c::r) (zis (c::r)) hl _ 1 rfl sw;simp only[aK,h',if_true];rw[show 1+cC bn ((c::r).drop 1)=cC bn r+1 by simp[nD]]at this;exact this
theorem zit(s:zA)(n:Int):run rU 0 Iw Tryz.f280.results.toList 300 (zZ Tryz.f280 4) (Lq (ai 2) (ai 19) (AV.clo (Fn.func 308) [] []) (AV.clo (Fn.func 308) [] []) s n)=zcu (ai 2) (ai 19) (AV.clo (Fn.func 308) [] []) (AV.clo (Fn.func 308) [] []) zT s n:=kw
theorem zf8(s:zA):run rU 0 Iw Tryz.f280.results.toList 300 (bq Tryz.f280) (bc Tryz.f280.ntmps [.agg [(ai 2),(ai 19),(AV.clo (Fn.func 308) [] []),(AV.clo (Fn.func 308) [] [])],.str s] [])=
 chk (bif s==[]then Q3 else zP 0 (length s))
  (br (bif s==[]then Q3 else !zT ↑(List.getD s (Int.toNat 0) 0).toNat) (Tr.ok (zB.ret (ai 0) []))
   (Tr.ok (zB.head 4 (zZ Tryz.f280 4) (Lq (ai 2) (ai 19) (AV.clo (Fn.func 308) [] []) (AV.clo (Fn.func 308) [] []) s 1)))):=kw
theorem zaH{C:eP}(hC:∀id,0<=id->C.ρ0 id=none)(s:zA)(hl:s.length<=aE):Reach rU C 280 (bq Tryz.f280) (bc Tryz.f280.ntmps [.agg [(ai 2),(ai 19),(AV.clo (Fn.func 308) [] []),(AV.clo (Fn.func 308) [] [])],.str s] []) (λr h=>(r,h)=(.int .i64 (aK zT zT s:Nat),[])):=by
 refine dl (n0:=0) lV VX hC Iw 300 ?_;rw[zf8];cases s with
 |nil=>exact⟨rfl,λ_=>rfl,λh=>by cases h⟩
 | cons c r=>
  refine⟨by simp[zP],λh=>?_,λh=>?_⟩
  ·have h':zT ↑c.toNat=Q4:=by simpa using h
   simp only[aK,h'];rfl
  ·have h':zT ↑c.toNat=Q3:=by simpa using h
   have:=zaI hC (ai 2) (ai 19) (AV.clo (Fn.func 308) [] []) (AV.clo (Fn.func 308) [] []) zT (c::r) (zit (c::r)) hl _ 1 rfl sw;simp only[aK,h',if_true];rw[show 1+cC zT ((c::r).drop 1)=cC zT r+1 by simp[nD]]at this;exact this
def G65:iv [none,Q1 .str]:=λx h=>match x,h with
 |(.agg [.int .i64 1,.int .i64 16,.clo (.func 307) [] [],.clo (.func 306) [] []],s,_),[]=>.ok (.int .i64 (aK aH bn s:Nat),[])
 |(.agg [.int .i64 2,.int .i64 19,.clo (.func 308) [] [],.clo (.func 308) [] []],s,_),[]=>.ok (.int .i64 (aK zT zT s:Nat),[])
 |_,_=>.err
theorem zeS:FK 280 (bh [none,Q1 .str] G65):=by
 refine dI VX λx h0 res hx C hC=>?_
 unfold G65 at hx;split at hx
 ·simp only[Tr.val_ok,bw]at hx;subst hx;rename_i _ _ s u;have e:iX [none,Q1 Sh.str] (agg [(ai 1),(ai 16),(AV.clo (Fn.func 307) [] []),(AV.clo (Fn.func 306) [] [])],s,u)=[agg [(ai 1),(ai 16),(AV.clo (Fn.func 307) [] []),(AV.clo (Fn.func 306) [] [])],.str s]:=rfl;rw[e];exact Reach.strLen 1 s rfl λhl=>zaG hC s hl
 ·simp only[Tr.val_ok,bw]at hx;subst hx;rename_i _ _ s u;have e:iX [none,Q1 Sh.str] (agg [(ai 2),(ai 19),(AV.clo (Fn.func 308) [] []),(AV.clo (Fn.func 308) [] [])],s,u)=[agg [(ai 2),(ai 19),(AV.clo (Fn.func 308) [] []),(AV.clo (Fn.func 308) [] [])],.str s]:=rfl;rw[e];exact Reach.strLen 1 s rfl λhl=>zaH hC s hl
 ·simp at hx
abbrev bS:Sh:=.pr (.int .i64) .str
def Vk:bT:=((rU.add 209 (sr [.str] [.bool] λx=>Q1 (iR x.1,()))).add 285 (sr [.str] [zg] λx=>Q1 (cG x.1,()))).add 280 (bh [none,Q1 .str] G65)
theorem H3:zw Vk:=((lV.add zek).add zeJ).add zeS
def pu(s:zA):Bool:=bif Q0 ((↑(length s):Int)>=1)then
  bif Q0 ((↑(length s):Int)<=16)then(↑(aK aH bn s):Int)==↑(length s)else Q4
 else Q4
def g49(x:zy ([bS].map Q1)):Option (zy ([Sh.bool].map Q1)):=if x.1.1=1 then Q1 (pu x.1.2,())else none
theorem zkg(s:zA):(run Vk 0 unr Tryz.f243.results.toList 400 (bq Tryz.f243) (bc Tryz.f243.ntmps [.agg [.int .i64 1,.str s]] [])).val=Q1 (.ret (.bool (pu s)) []):=kw
theorem zhU:zI Vk.P 243 Tryz.f243 1:=bQ kw
theorem zeE:FK 243 (sr [bS] [.bool] g49):=by
 refine uT zhU λx y hx C hC=>?_
 obtain⟨⟨k,s⟩,u⟩:=x;unfold g49 at hx;split at hx
 ·rename_i hk;have hk':k=1:=hk;subst hk';cases hx;have e:iX ([bS].map Q1) (((1,s),u):zy ([bS].map Q1))=[.agg [.int .i64 1,.str s]]:=rfl;rw[e];exact ms (n0:=0) H3 zhU (λid _=>hC id) (zkg s) rfl
 ·cases hx
def zfM:bT:=Vk.add 243 (sr [bS] [.bool] g49)
theorem QF:zw zfM:=H3.add zeE
def zfN:bT:=zfM.aut 208 Tryz.f208 1
theorem QG:zw zfN:=gZ QF (bQ kw)
def Oa:bT:=zfN.aut 168 Tryz.f168 1
theorem H7:zw Oa:=gZ QG (bQ kw)
end
end Cad
