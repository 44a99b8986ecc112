/- Words, names, runs of octets. Names. -/
import Derived.Test.YtkmcdhahdadkpaaGreatDoorA05
namespace Cad
open Go Go.Proofs
open Bool renaming false→Q4,true→Q3
open Option renaming some→Q1
open Decidable renaming decide→Q0
open List (length)
open Tr (chk br)
open AV (nils agg tup ptr kb str sl)
noncomputable section
def swT{β:Type}(leaf:β->zE)(s:zD):List (zD×β)->β->Tr zE
 |[],d=>.ok (leaf d)
 |(w,b)::r,d=>.br (s==w) (.ok (leaf b)) (swT leaf s r d)
def Ob{β:Type}(s:zD):List (zD×β)->β->β
 |[],d=>d
 |(w,b)::r,d=>if s==w then b else Ob s r d
theorem HI{β:Type}{leaf:β->zE}{s:zD}{d:β}{Φ:zE->Prop}:∀(l:List (zD×β)),Φ (leaf (Ob s l d))->(swT leaf s l d).Sat Φ
 |[],h=>h
 | (w,b)::r,h=>by
  refine⟨λhc=>?_,λhc=>HI r ?_⟩
  ·simp only[Ob]at h;rw[if_pos hc]at h;exact h
  ·simp only[Ob]at h;rw[if_neg (by rw[hc];simp)]at h;exact h
def Du:List (zD×Bool):=[([65,78,68],Q3),([79,82],Q3),([78,79,84],Q3),([73,83],Q3),([78,85,76,76],Q3),([84,82,85,69],Q3),([70,65,76,83,69],Q3),([67,82,69,65,84,69],Q3),([84,65,66,76,69],Q3),([73,78,84],Q3),([84,69,88,84],Q3),([66,79,79,76],Q3),([75,69,89],Q3),([85,78,73,81,85,69],Q3),([82,69,70,69,82,69,78,67,69,83],Q3),([67,72,69,67,75],Q3),([68,82,79,80],Q3),([73,78,83,69,82,84],Q3),([73,78,84,79],Q3),([86,65,76,85,69,83],Q3),([85,80,68,65,84,69],Q3),([83,69,84],Q3),([87,72,69,82,69],Q3),([68,69,76,69,84,69],Q3),([70,82,79,77],Q3),([83,69,76,69,67,84],Q3),([71,82,65,78,84],Q3),([82,69,65,68],Q3),([87,82,73,84,69],Q3),([79,78],Q3),([84,79],Q3),([82,69,86,79,75,69],Q3),([77,73,71,82,65,84,69],Q3),([67,79,80,89],Q3),([74,79,73,78],Q3),([71,82,79,85,80],Q3),([66,89],Q3),([83,85,77],Q3)]
def xR:List (zD×Int):=[([108,105,116],0),([99,111,108],0),([110,111,116],1),([110,117,108,108],1),([97,110,100],2),([111,114],2),([61],2),([60],2),([43],2),([45],2)]
def jg(s:zD):Bool:=Ob s Du Q4
def cO(s:zD):Int:=Ob s xR (-1)
def zY(c:Int):Bool:=bif Q0 (c>=48)then Q0 (c<=57)else Q4
def aK(c:Int):Bool:=bif Q0 (c>=97)then
  bif Q0 (c<=122)then Q3 else bif Q0 (c>=65)then Q0 (c<=90)else Q4
 else bif Q0 (c>=65)then Q0 (c<=90)else Q4
def bw(c:Int):Bool:=bif aK c then Q3 else bif zY c then Q3 else c==95
def sB:cd:=(((zhH.aut 307 Tryz.f307 1).aut 308 Tryz.f308 1).aut 306 Tryz.f306 1).aut 279 Tryz.f279 0
theorem mw:zy sB:=by
 refine ir (ir (ir (ir RP ?_) ?_) ?_) ?_<;>(refine⟨?_,?_,?_,?_⟩<;>kernel_rfl)
theorem zmd(s:zD):run sB 0 (λ_=>{}) Tryz.f209.results.toList 400 (bx Tryz.f209) (bg Tryz.f209.ntmps [.str s] [])=swT (λb=>.ret (.kb b) []) s Du Q4:=kw
theorem zjI:zL sB.P 209 Tryz.f209 1:=bS kw
theorem zgf:FK 209 (sU [.str] [.bool] λx=>Q1 (jg x.1,())):=by
 refine vF zjI λx y hx C hC=>?_
 cases hx;refine dt (n0:=0) mw zjI (λid _=>hC id) (λ_=>{}) 400 ?_;have e:jl ([Sh.str].map Q1) x=[.str x.1]:=rfl;rw[e,zmd];exact HI Du rfl
theorem zmA(s:zD):run sB 0 (λ_=>{}) Tryz.f285.results.toList 400 (bx Tryz.f285) (bg Tryz.f285.ntmps [.str s] [])=swT (λb=>.ret (.int .i64 b) []) s xR (-1):=kw
theorem zj5:zL sB.P 285 Tryz.f285 1:=bS kw
theorem zgD:FK 285 (sU [.str] [zg] λx=>Q1 (cO x.1,())):=by
 refine vF zj5 λx y hx C hC=>?_
 cases hx;refine dt (n0:=0) mw zj5 (λid _=>hC id) (λ_=>{}) 400 ?_;have e:jl ([Sh.str].map Q1) x=[.str x.1]:=rfl;rw[e,zmA];exact HI xR rfl
def cK(p:Int->Bool):zD->Nat
 |[]=>0
 |c::r=>if p c.toNat then cK p r+1 else 0
def aN(f m:Int->Bool):zD->Nat
 |[]=>0
 |c::r=>if f c.toNat then cK m r+1 else 0
theorem Reach.strLen{E:cd}{C:eV}{fn:FuncId}{todo:List Item}{st:St}{Q:AV->List AO->Prop}(j:Nat)(s:zD)(hj:st.tmps[j]?=Q1 (.str s))(h:s.length<=aH->Reach E C fn todo st Q):Reach E C fn todo st Q:=by
 intro b cs a w U ρ h1 h2 hc hW;refine h ?_ b cs a w U ρ h1 h2 hc hW;have hlt:j<a.tmps.toList.length:=by rw[<-hc.tm.len];exact(cW.1 hj).1
 have:=hc.tm.rv j _ _ hj (zS hlt);generalize a.tmps.toList[j]=v at this;cases this with
 |str _ h=>exact h
abbrev Jn:Nat->aO:=λ_=>{slots:=[1,2,5]}
abbrev Mt(a b c d:AV)(s:zD)(n:Int):St:={
 tmps:=(tm 31 [(1,str s),(2,ptr 0 0),(5,ai n)]),
 heap:=[AO.box [a,b,c,d]]}
abbrev zd6(a b c d:AV)(p:Int->Bool)(s:zD)(n:Int):Tr zE:=
 chk (bif Q0 (n<↑(length s))then zK n (length s)else Q3)
  (br (bif Q0 (n<↑(length s))then p ↑(List.getD s n.toNat 0).toNat else Q4)
   (Tr.ok (zE.head 4 (ag Tryz.f280 4) (Mt a b c d s (IntKind.i64.wrap (n+1)))))
   (Tr.ok (zE.ret (ai n) [])))
theorem Xh:zL sB.P 280 Tryz.f280 2:=bS kw
theorem zcg{C:eV}(hC:∀id,0<=id->C.ρ0 id=none)(a b c d:AV)(p:Int->Bool)(s:zD)
  (hon:∀n,run sB 0 Jn Tryz.f280.results.toList 300 (ag Tryz.f280 4) (Mt a b c d s n)=zd6 a b c d p s n) (hl:s.length<=aH):∀(k i:Nat),s.length-i=k->i<=s.length->
  Reach sB C 280 (ag Tryz.f280 4) (Mt a b c d s i) (λr h=>(r,h)=(.int .i64 ((i+cK p (s.drop i):Nat):Int),[]))
 | k,i,hk,hi=>by
  subst hk;refine dt mw Xh hC Jn 300 ?_;rw[hon];refine⟨?_,λh=>?_,λh=>?_⟩
  ·by_cases hlt:i<s.length
   ·have:Q0 ((i:Int)<s.length)=Q3:=by simpa using hlt
    simp[zK,hlt]
   ·have:Q0 ((i:Int)<s.length)=Q4:=by simpa using hlt
    simp[hlt]
  ·have hlt:i<s.length:=by
    by_cases hlt:i<s.length
    ·exact hlt
    ·have:Q0 ((i:Int)<s.length)=Q4:=by simpa using hlt
     rw[this]at h;cases h
   have hd:Q0 ((i:Int)<s.length)=Q3:=by simpa using hlt
   rw[hd,cF s _ hlt,ae]at h;rw[eY hlt];simp only[cK];rw[if_pos h,zp i ow,show i+(cK p (List.drop (i+1) s)+1)=(i+1)+cK p (List.drop (i+1) s) by omega];exact zcg hC a b c d p s hon hl (s.length-(i+1)) (i+1) rfl ow
  ·have:cK p (s.drop i)=0:=by
    by_cases hlt:i<s.length
    ·have hd:Q0 ((i:Int)<s.length)=Q3:=by simpa using hlt
     rw[hd,cF s _ hlt]at h;rw[eY hlt];simp only[cK];rw[if_neg (by intro h';rw[ae]at h;rw[h']at h;cases h)]
    ·rw[AL ow];rfl
   rw[this];rfl
 termination_by k=>k
theorem zkA(s:zD)(n:Int):run sB 0 Jn Tryz.f280.results.toList 300 (ag Tryz.f280 4) (Mt (ai 1) (ai 16) (AV.clo (Fn.func 307) [] []) (AV.clo (Fn.func 306) [] []) s n)=zd6 (ai 1) (ai 16) (AV.clo (Fn.func 307) [] []) (AV.clo (Fn.func 306) [] []) bw s n:=kw
theorem zh2(s:zD):run sB 0 Jn Tryz.f280.results.toList 300 (bx Tryz.f280) (bg Tryz.f280.ntmps [.agg [(ai 1),(ai 16),(AV.clo (Fn.func 307) [] []),(AV.clo (Fn.func 306) [] [])],.str s] [])=
 chk (bif s==[]then Q3 else zK 0 (length s))
  (br (bif s==[]then Q3 else !aK ↑(List.getD s (Int.toNat 0) 0).toNat) (Tr.ok (zE.ret (ai 0) []))
   (Tr.ok (zE.head 4 (ag Tryz.f280 4) (Mt (ai 1) (ai 16) (AV.clo (Fn.func 307) [] []) (AV.clo (Fn.func 306) [] []) s 1)))):=kw
theorem zce{C:eV}(hC:∀id,0<=id->C.ρ0 id=none)(s:zD)(hl:s.length<=aH):Reach sB C 280 (bx Tryz.f280) (bg Tryz.f280.ntmps [.agg [(ai 1),(ai 16),(AV.clo (Fn.func 307) [] []),(AV.clo (Fn.func 306) [] [])],.str s] []) (λr h=>(r,h)=(.int .i64 (aN aK bw s:Nat),[])):=by
 refine dt (n0:=0) mw Xh hC Jn 300 ?_;rw[zh2];cases s with
 |nil=>exact⟨rfl,λ_=>rfl,λh=>by cases h⟩
 | cons c r=>
  refine⟨by simp[zK],λh=>?_,λh=>?_⟩
  ·have h':aK ↑c.toNat=Q4:=by simpa using h
   simp only[aN,h'];rfl
  ·have h':aK ↑c.toNat=Q3:=by simpa using h
   have:=zcg hC (ai 1) (ai 16) (AV.clo (Fn.func 307) [] []) (AV.clo (Fn.func 306) [] []) bw (c::r) (zkA (c::r)) hl _ 1 rfl sw;simp only[aN,h',if_true];rw[show 1+cK bw ((c::r).drop 1)=cK bw r+1 by simp[oo]]at this;exact this
theorem zkB(s:zD)(n:Int):run sB 0 Jn Tryz.f280.results.toList 300 (ag Tryz.f280 4) (Mt (ai 2) (ai 19) (AV.clo (Fn.func 308) [] []) (AV.clo (Fn.func 308) [] []) s n)=zd6 (ai 2) (ai 19) (AV.clo (Fn.func 308) [] []) (AV.clo (Fn.func 308) [] []) zY s n:=kw
theorem zh3(s:zD):run sB 0 Jn Tryz.f280.results.toList 300 (bx Tryz.f280) (bg Tryz.f280.ntmps [.agg [(ai 2),(ai 19),(AV.clo (Fn.func 308) [] []),(AV.clo (Fn.func 308) [] [])],.str s] [])=
 chk (bif s==[]then Q3 else zK 0 (length s))
  (br (bif s==[]then Q3 else !zY ↑(List.getD s (Int.toNat 0) 0).toNat) (Tr.ok (zE.ret (ai 0) []))
   (Tr.ok (zE.head 4 (ag Tryz.f280 4) (Mt (ai 2) (ai 19) (AV.clo (Fn.func 308) [] []) (AV.clo (Fn.func 308) [] []) s 1)))):=kw
theorem zcf{C:eV}(hC:∀id,0<=id->C.ρ0 id=none)(s:zD)(hl:s.length<=aH):Reach sB C 280 (bx Tryz.f280) (bg Tryz.f280.ntmps [.agg [(ai 2),(ai 19),(AV.clo (Fn.func 308) [] []),(AV.clo (Fn.func 308) [] [])],.str s] []) (λr h=>(r,h)=(.int .i64 (aN zY zY s:Nat),[])):=by
 refine dt (n0:=0) mw Xh hC Jn 300 ?_;rw[zh3];cases s with
 |nil=>exact⟨rfl,λ_=>rfl,λh=>by cases h⟩
 | cons c r=>
  refine⟨by simp[zK],λh=>?_,λh=>?_⟩
  ·have h':zY ↑c.toNat=Q4:=by simpa using h
   simp only[aN,h'];rfl
  ·have h':zY ↑c.toNat=Q3:=by simpa using h
   have:=zcg hC (ai 2) (ai 19) (AV.clo (Fn.func 308) [] []) (AV.clo (Fn.func 308) [] []) zY (c::r) (zkB (c::r)) hl _ 1 rfl sw;simp only[aN,h',if_true];rw[show 1+cK zY ((c::r).drop 1)=cK zY r+1 by simp[oo]]at this;exact this
def G65:il [none,Q1 .str]:=λx h=>match x,h with
 |(.agg [.int .i64 1,.int .i64 16,.clo (.func 307) [] [],.clo (.func 306) [] []],s,_),[]=>.ok (.int .i64 (aN aK bw s:Nat),[])
 |(.agg [.int .i64 2,.int .i64 19,.clo (.func 308) [] [],.clo (.func 308) [] []],s,_),[]=>.ok (.int .i64 (aN zY zY s:Nat),[])
 |_,_=>.err
theorem zgN:FK 280 (bm [none,Q1 .str] G65):=by
 refine dv Xh λx h0 res hx C hC=>?_
 unfold G65 at hx;split at hx
 ·simp only[Tr.val_ok,bD]at hx;subst hx;rename_i _ _ s u;have e:jl [none,Q1 Sh.str] (agg [(ai 1),(ai 16),(AV.clo (Fn.func 307) [] []),(AV.clo (Fn.func 306) [] [])],s,u)=[agg [(ai 1),(ai 16),(AV.clo (Fn.func 307) [] []),(AV.clo (Fn.func 306) [] [])],.str s]:=rfl;rw[e];exact Reach.strLen 1 s rfl λhl=>zce hC s hl
 ·simp only[Tr.val_ok,bD]at hx;subst hx;rename_i _ _ s u;have e:jl [none,Q1 Sh.str] (agg [(ai 2),(ai 19),(AV.clo (Fn.func 308) [] []),(AV.clo (Fn.func 308) [] [])],s,u)=[agg [(ai 2),(ai 19),(AV.clo (Fn.func 308) [] []),(AV.clo (Fn.func 308) [] [])],.str s]:=rfl;rw[e];exact Reach.strLen 1 s rfl λhl=>zcf hC s hl
 ·simp at hx
abbrev bZ:Sh:=.pr (.int .i64) .str
def WB:cd:=((sB.add 209 (sU [.str] [.bool] λx=>Q1 (jg x.1,()))).add 285 (sU [.str] [zg] λx=>Q1 (cO x.1,()))).add 280 (bm [none,Q1 .str] G65)
theorem IV:zy WB:=((mw.add zgf).add zgD).add zgN
def pS(s:zD):Bool:=bif Q0 ((↑(length s):Int)>=1)then
  bif Q0 ((↑(length s):Int)<=16)then(↑(aN aK bw s):Int)==↑(length s)else Q4
 else Q4
def g49(x:zz ([bZ].map Q1)):Option (zz ([Sh.bool].map Q1)):=if x.1.1=1 then Q1 (pS x.1.2,())else none
theorem zmw(s:zD):(run WB 0 unr Tryz.f243.results.toList 400 (bx Tryz.f243) (bg Tryz.f243.ntmps [.agg [.int .i64 1,.str s]] [])).val=Q1 (.ret (.bool (pS s)) []):=kw
theorem zj3:zL WB.P 243 Tryz.f243 1:=bS kw
theorem zgy:FK 243 (sU [bZ] [.bool] g49):=by
 refine vF zj3 λx y hx C hC=>?_
 obtain⟨⟨k,s⟩,u⟩:=x;unfold g49 at hx;split at hx
 ·rename_i hk;have hk':k=1:=hk;subst hk';cases hx;have e:jl ([bZ].map Q1) (((1,s),u):zz ([bZ].map Q1))=[.agg [.int .i64 1,.str s]]:=rfl;rw[e];exact mT (n0:=0) IV zj3 (λid _=>hC id) (zmw s) rfl
 ·cases hx
def zhI:cd:=WB.add 243 (sU [bZ] [.bool] g49)
theorem RU:zy zhI:=IV.add zgy
def zhJ:cd:=zhI.aut 208 Tryz.f208 1
theorem RV:zy zhJ:=ir RU (bS kw)
def Pb:cd:=zhJ.aut 168 Tryz.f168 1
theorem IZ:zy Pb:=ir RV (bS kw)
end
end Cad
