/- Words, names, runs of octets. Names. -/
import Derived.Test.YtjfdpfapcmcncaaGreatDoorL05
namespace Cad
open Go Go.Proofs
open Bool renaming false→Q4,true→Q3
open Option renaming some→Q1
open Decidable renaming decide→Q0
open List (length)
open Tr (chk br)
open AV (nils agg tup ptr kb str sl)
noncomputable section
def swT{β:Type}(leaf:β->zD)(s:zB):List (zB×β)->β->Tr zD
 |[],d=>.ok (leaf d)
 |(w,b)::r,d=>.br (s==w) (.ok (leaf b)) (swT leaf s r d)
def PI{β:Type}(s:zB):List (zB×β)->β->β
 |[],d=>d
 |(w,b)::r,d=>if s==w then b else PI s r d
theorem IV{β:Type}{leaf:β->zD}{s:zB}{d:β}{Φ:zD->Prop}:∀(l:List (zB×β)),Φ (leaf (PI s l d))->(swT leaf s l d).Sat Φ
 |[],h=>h
 | (w,b)::r,h=>by
  refine⟨λhc=>?_,λhc=>IV r ?_⟩
  ·simp only[PI]at h;rw[if_pos hc]at h;exact h
  ·simp only[PI]at h;rw[if_neg (by rw[hc];simp)]at h;exact h
def Eo:List (zB×Bool):=[(SU,Q3),([79,82],Q3),([78,79,84],Q3),([73,83],Q3),(ED,Q3),(G9,Q3),(G8,Q3),(YH,Q3),(YT,Q3),(BQ,Q3),(BR,Q3),(BP,Q3),([75,69,89],Q3),([85,78,73,81,85,69],Q3),(zj5,Q3),(iv,Q3),(YL,Q3),(YN,Q3),(YO,Q3),(YV,Q3),(YU,Q3),([83,69,84],Q3),(gD,Q3),(YJ,Q3),(uv,Q3),(YS,Q3),(YM,Q3),(Qx,Q3),([87,82,73,84,69],Q3),(EE,Q3),([84,79],Q3),(YQ,Q3),(YP,Q3),(Qu,Q3),(Qw,Q3),(Qv,Q3),(EC,Q3),(EF,Q3)]
def yT:List (zB×Int):=[(mH,0),(ee,0),(mI,1),(oP,1),(cY,2),(uw,2),([61],2),([60],2),([43],2),([45],2)]
def jr(s:zB):Bool:=PI s Eo Q4
def cR(s:zB):Int:=PI s yT (-1)
def zU(c:Int):Bool:=bif Q0 (c>=48)then Q0 (c<=57)else Q4
def aI(c:Int):Bool:=bif Q0 (c>=97)then
  bif Q0 (c<=122)then Q3 else bif Q0 (c>=65)then Q0 (c<=90)else Q4
 else bif Q0 (c>=65)then Q0 (c<=90)else Q4
def bt(c:Int):Bool:=bif aI c then Q3 else bif zU c then Q3 else c==95
def tz:bW:=(((zku.aut 263 Tryz.f263 1).aut 264 Tryz.f264 1).aut 262 Tryz.f262 1).aut 224 Tryz.f224 0
theorem mM:zt tz:=by
 refine iB (iB (iB (iB TG ?_) ?_) ?_) ?_<;>(refine⟨?_,?_,?_,?_⟩<;>kernel_rfl)
theorem zoU(s:zB):run tz 0 (λ_=>{}) Tryz.f131.results.toList 400 (bw Tryz.f131) (bd Tryz.f131.ntmps [.str s] [])=swT (λb=>.ret (.kb b) []) s Eo Q4:=kw
theorem zms:zI tz.P 131 Tryz.f131 1:=bR kw
theorem ziV:FK 131 (tU [.str] [.bool] λx=>Q1 (jr x.1,())):=by
 refine wF zms λx y hx C hC=>?_
 cases hx;refine dC (n0:=0) mM zms (λid _=>hC id) (λ_=>{}) 400 ?_;have e:jx ([Sh.str].map Q1) x=[.str x.1]:=rfl;rw[e,zoU];exact IV Eo rfl
theorem zph(s:zB):run tz 0 (λ_=>{}) Tryz.f128.results.toList 400 (bw Tryz.f128) (bd Tryz.f128.ntmps [.str s] [])=swT (λb=>.ret (.int .i64 b) []) s yT (-1):=kw
theorem zmP:zI tz.P 128 Tryz.f128 1:=bR kw
theorem zjk:FK 128 (tU [.str] [zg] λx=>Q1 (cR x.1,())):=by
 refine wF zmP λx y hx C hC=>?_
 cases hx;refine dC (n0:=0) mM zmP (λid _=>hC id) (λ_=>{}) 400 ?_;have e:jx ([Sh.str].map Q1) x=[.str x.1]:=rfl;rw[e,zph];exact IV yT rfl
def cN(p:Int->Bool):zB->Nat
 |[]=>0
 |c::r=>if p c.toNat then cN p r+1 else 0
def aL(f m:Int->Bool):zB->Nat
 |[]=>0
 |c::r=>if f c.toNat then cN m r+1 else 0
theorem Reach.strLen{E:bW}{C:fh}{fn:FuncId}{todo:List Item}{st:St}{Q:AV->List AO->Prop}(j:Nat)(s:zB)(hj:st.tmps[j]?=Q1 (.str s))(h:s.length<=aF->Reach E C fn todo st Q):Reach E C fn todo st Q:=by
 intro b cs a w U ρ h1 h2 hc hW;refine h ?_ b cs a w U ρ h1 h2 hc hW;have hlt:j<a.tmps.toList.length:=by rw[<-hc.tm.len];exact(dh.1 hj).1
 have:=hc.tm.rv j _ _ hj (zQ hlt);generalize a.tmps.toList[j]=v at this;cases this with
 |str _ h=>exact h
abbrev KC:Nat->aN:=λ_=>{slots:=[1,2,5]}
abbrev NR(a b c d:AV)(s:zB)(n:Int):St:={
 tmps:=(tm 31 [(1,str s),(2,ptr 0 0),(5,ai n)]),
 heap:=[AO.box [a,b,c,d]]}
abbrev zgS(a b c d:AV)(p:Int->Bool)(s:zB)(n:Int):Tr zD:=
 chk (bif Q0 (n<↑(length s))then zO n (length s)else Q3)
  (br (bif Q0 (n<↑(length s))then p ↑(List.getD s n.toNat 0).toNat else Q4)
   (Tr.ok (zD.head 4 (ac Tryz.f225 4) (NR a b c d s (IntKind.i64.wrap (n+1)))))
   (Tr.ok (zD.ret (ai n) [])))
theorem ZL:zI tz.P 225 Tryz.f225 2:=bR kw
theorem zeQ{C:fh}(hC:∀id,0<=id->C.ρ0 id=none)(a b c d:AV)(p:Int->Bool)(s:zB)
  (hon:∀n,run tz 0 KC Tryz.f225.results.toList 300 (ac Tryz.f225 4) (NR a b c d s n)=zgS a b c d p s n) (hl:s.length<=aF):∀(k i:Nat),s.length-i=k->i<=s.length->
  Reach tz C 225 (ac Tryz.f225 4) (NR a b c d s i) (λr h=>(r,h)=(.int .i64 ((i+cN p (s.drop i):Nat):Int),[]))
 | k,i,hk,hi=>by
  subst hk;refine dC mM ZL hC KC 300 ?_;rw[hon];refine⟨?_,λh=>?_,λh=>?_⟩
  ·by_cases hlt:i<s.length
   ·have:Q0 ((i:Int)<s.length)=Q3:=by simpa using hlt
    simp[zO,hlt]
   ·have:Q0 ((i:Int)<s.length)=Q4:=by simpa using hlt
    simp[hlt]
  ·have hlt:i<s.length:=by
    by_cases hlt:i<s.length
    ·exact hlt
    ·have:Q0 ((i:Int)<s.length)=Q4:=by simpa using hlt
     rw[this]at h;cases h
   have hd:Q0 ((i:Int)<s.length)=Q3:=by simpa using hlt
   rw[hd,cI s _ hlt,zZ]at h;rw[fH hlt];simp only[cN];rw[if_pos h,zr i ow,show i+(cN p (List.drop (i+1) s)+1)=(i+1)+cN p (List.drop (i+1) s) by omega];exact zeQ hC a b c d p s hon hl (s.length-(i+1)) (i+1) rfl ow
  ·have:cN p (s.drop i)=0:=by
    by_cases hlt:i<s.length
    ·have hd:Q0 ((i:Int)<s.length)=Q3:=by simpa using hlt
     rw[hd,cI s _ hlt]at h;rw[fH hlt];simp only[cN];rw[if_neg (by intro h';rw[zZ]at h;rw[h']at h;cases h)]
    ·rw[BC ow];rfl
   rw[this];rfl
 termination_by k=>k
theorem znl(s:zB)(n:Int):run tz 0 KC Tryz.f225.results.toList 300 (ac Tryz.f225 4) (NR (ai 1) (ai 16) (AV.clo (Fn.func 263) [] []) (AV.clo (Fn.func 262) [] []) s n)=zgS (ai 1) (ai 16) (AV.clo (Fn.func 263) [] []) (AV.clo (Fn.func 262) [] []) bt s n:=kw
theorem zkP(s:zB):run tz 0 KC Tryz.f225.results.toList 300 (bw Tryz.f225) (bd Tryz.f225.ntmps [.agg [(ai 1),(ai 16),(AV.clo (Fn.func 263) [] []),(AV.clo (Fn.func 262) [] [])],.str s] [])=
 chk (bif s==[]then Q3 else zO 0 (length s))
  (br (bif s==[]then Q3 else !aI ↑(List.getD s (Int.toNat 0) 0).toNat) (Tr.ok (zD.ret (ai 0) []))
   (Tr.ok (zD.head 4 (ac Tryz.f225 4) (NR (ai 1) (ai 16) (AV.clo (Fn.func 263) [] []) (AV.clo (Fn.func 262) [] []) s 1)))):=kw
theorem zeO{C:fh}(hC:∀id,0<=id->C.ρ0 id=none)(s:zB)(hl:s.length<=aF):Reach tz C 225 (bw Tryz.f225) (bd Tryz.f225.ntmps [.agg [(ai 1),(ai 16),(AV.clo (Fn.func 263) [] []),(AV.clo (Fn.func 262) [] [])],.str s] []) (λr h=>(r,h)=(.int .i64 (aL aI bt s:Nat),[])):=by
 refine dC (n0:=0) mM ZL hC KC 300 ?_;rw[zkP];cases s with
 |nil=>exact⟨rfl,λ_=>rfl,λh=>by cases h⟩
 | cons c r=>
  refine⟨by simp[zO],λh=>?_,λh=>?_⟩
  ·have h':aI ↑c.toNat=Q4:=by simpa using h
   simp only[aL,h'];rfl
  ·have h':aI ↑c.toNat=Q3:=by simpa using h
   have:=zeQ hC (ai 1) (ai 16) (AV.clo (Fn.func 263) [] []) (AV.clo (Fn.func 262) [] []) bt (c::r) (znl (c::r)) hl _ 1 rfl sw;simp only[aL,h',if_true];rw[show 1+cN bt ((c::r).drop 1)=cN bt r+1 by simp[oO]]at this;exact this
theorem znm(s:zB)(n:Int):run tz 0 KC Tryz.f225.results.toList 300 (ac Tryz.f225 4) (NR (ai 2) (ai 19) (AV.clo (Fn.func 264) [] []) (AV.clo (Fn.func 264) [] []) s n)=zgS (ai 2) (ai 19) (AV.clo (Fn.func 264) [] []) (AV.clo (Fn.func 264) [] []) zU s n:=kw
theorem zkQ(s:zB):run tz 0 KC Tryz.f225.results.toList 300 (bw Tryz.f225) (bd Tryz.f225.ntmps [.agg [(ai 2),(ai 19),(AV.clo (Fn.func 264) [] []),(AV.clo (Fn.func 264) [] [])],.str s] [])=
 chk (bif s==[]then Q3 else zO 0 (length s))
  (br (bif s==[]then Q3 else !zU ↑(List.getD s (Int.toNat 0) 0).toNat) (Tr.ok (zD.ret (ai 0) []))
   (Tr.ok (zD.head 4 (ac Tryz.f225 4) (NR (ai 2) (ai 19) (AV.clo (Fn.func 264) [] []) (AV.clo (Fn.func 264) [] []) s 1)))):=kw
theorem zeP{C:fh}(hC:∀id,0<=id->C.ρ0 id=none)(s:zB)(hl:s.length<=aF):Reach tz C 225 (bw Tryz.f225) (bd Tryz.f225.ntmps [.agg [(ai 2),(ai 19),(AV.clo (Fn.func 264) [] []),(AV.clo (Fn.func 264) [] [])],.str s] []) (λr h=>(r,h)=(.int .i64 (aL zU zU s:Nat),[])):=by
 refine dC (n0:=0) mM ZL hC KC 300 ?_;rw[zkQ];cases s with
 |nil=>exact⟨rfl,λ_=>rfl,λh=>by cases h⟩
 | cons c r=>
  refine⟨by simp[zO],λh=>?_,λh=>?_⟩
  ·have h':zU ↑c.toNat=Q4:=by simpa using h
   simp only[aL,h'];rfl
  ·have h':zU ↑c.toNat=Q3:=by simpa using h
   have:=zeQ hC (ai 2) (ai 19) (AV.clo (Fn.func 264) [] []) (AV.clo (Fn.func 264) [] []) zU (c::r) (znm (c::r)) hl _ 1 rfl sw;simp only[aL,h',if_true];rw[show 1+cN zU ((c::r).drop 1)=cN zU r+1 by simp[oO]]at this;exact this
def G65:iV [none,Q1 .str]:=λx h=>match x,h with
 |(.agg [.int .i64 1,.int .i64 16,.clo (.func 263) [] [],.clo (.func 262) [] []],s,_),[]=>.ok (.int .i64 (aL aI bt s:Nat),[])
 |(.agg [.int .i64 2,.int .i64 19,.clo (.func 264) [] [],.clo (.func 264) [] []],s,_),[]=>.ok (.int .i64 (aL zU zU s:Nat),[])
 |_,_=>.err
theorem zjt:FK 225 (bh [none,Q1 .str] G65):=by
 refine dR ZL λx h0 res hx C hC=>?_
 unfold G65 at hx;split at hx
 ·simp only[Tr.val_ok,bB]at hx;subst hx;rename_i _ _ s u;have e:jx [none,Q1 Sh.str] (agg [(ai 1),(ai 16),(AV.clo (Fn.func 263) [] []),(AV.clo (Fn.func 262) [] [])],s,u)=[agg [(ai 1),(ai 16),(AV.clo (Fn.func 263) [] []),(AV.clo (Fn.func 262) [] [])],.str s]:=rfl;rw[e];exact Reach.strLen 1 s rfl λhl=>zeO hC s hl
 ·simp only[Tr.val_ok,bB]at hx;subst hx;rename_i _ _ s u;have e:jx [none,Q1 Sh.str] (agg [(ai 2),(ai 19),(AV.clo (Fn.func 264) [] []),(AV.clo (Fn.func 264) [] [])],s,u)=[agg [(ai 2),(ai 19),(AV.clo (Fn.func 264) [] []),(AV.clo (Fn.func 264) [] [])],.str s]:=rfl;rw[e];exact Reach.strLen 1 s rfl λhl=>zeP hC s hl
 ·simp at hx
abbrev bZ:Sh:=.pr (.int .i64) .str
def Y5:bW:=((tz.add 131 (tU [.str] [.bool] λx=>Q1 (jr x.1,()))).add 128 (tU [.str] [zg] λx=>Q1 (cR x.1,()))).add 225 (bh [none,Q1 .str] G65)
theorem Ka:zt Y5:=((mM.add ziV).add zjk).add zjt
def qC(s:zB):Bool:=bif Q0 ((↑(length s):Int)>=1)then
  bif Q0 ((↑(length s):Int)<=16)then(↑(aL aI bt s):Int)==↑(length s)else Q4
 else Q4
def g49(x:zx ([bZ].map Q1)):Option (zx ([Sh.bool].map Q1)):=if x.1.1=1 then Q1 (qC x.1.2,())else none
theorem zpd(s:zB):(run Y5 0 unr Tryz.f178.results.toList 400 (bw Tryz.f178) (bd Tryz.f178.ntmps [.agg [.int .i64 1,.str s]] [])).val=Q1 (.ret (.bool (qC s)) []):=kw
theorem zmN:zI Y5.P 178 Tryz.f178 1:=bR kw
theorem zje:FK 178 (tU [bZ] [.bool] g49):=by
 refine wF zmN λx y hx C hC=>?_
 obtain⟨⟨k,s⟩,u⟩:=x;unfold g49 at hx;split at hx
 ·rename_i hk;have hk':k=1:=hk;subst hk';cases hx;have e:jx ([bZ].map Q1) (((1,s),u):zx ([bZ].map Q1))=[.agg [.int .i64 1,.str s]]:=rfl;rw[e];exact ng (n0:=0) Ka zmN (λid _=>hC id) (zpd s) rfl
 ·cases hx
def zkv:bW:=Y5.add 178 (tU [bZ] [.bool] g49)
theorem TK:zt zkv:=Ka.add zje
def zkw:bW:=zkv.aut 130 Tryz.f130 1
theorem TL:zt zkw:=iB TK (bR kw)
def QY:bW:=zkw.aut 219 Tryz.f219 1
theorem Ke:zt QY:=iB TL (bR kw)
end
end Cad
