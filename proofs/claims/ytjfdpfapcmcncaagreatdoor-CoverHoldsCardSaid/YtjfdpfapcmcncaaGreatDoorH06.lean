/- Words, names, runs of octets. -/
import Derived.Test.YtjfdpfapcmcncaaGreatDoorH05
namespace Cad
open Go Go.Proofs
open List renaming length→Io
open IntKind renaming wrap→Γ,i64→Δ
open Bool renaming false→Q4,true→Q3
open Option renaming some→Q1
open Decidable renaming decide→Q0
open Tr (chk br)
open AV (nils agg tup ptr kb str sl)
noncomputable section
def swT{β:Type}(h:β->zF)(s:zD):List (zD×β)->β->Tr zF
 |[],d=>.ok (h d)
 |(w,b)::r,d=>.br (s==w) (.ok (h b)) (swT h s r d)
def Ri{β:Type}(s:zD):List (zD×β)->β->β
 |[],d=>d
 |(w,b)::r,d=>if s==w then b else Ri s r d
theorem J2{β:Type}{o:β->zF}{s:zD}{d:β}{Φ:zF->Prop}:∀(l:List (zD×β)),Φ (o (Ri s l d))->(swT o s l d).Sat Φ
 |[],h=>h
 | (w,b)::r,h=>by
  refine⟨λu=>?_,λu=>J2 r ?_⟩
  ·simp only[Ri]at h;rw[if_pos u]at h;exact h
  ·simp only[Ri]at h;rw[if_neg (by rw[u];simp)]at h;exact h
def Fd:List (zD×Bool):=[(Ul,Q3),([79,82],Q3),([78,79,84],Q3),([73,83],Q3),(Ft,Q3),(H9,Q3),(H8,Q3),(Z9,Q3),(zal,Q3),(CB,Q3),(CC,Q3),(CA,Q3),([75,69,89],Q3),([85,78,73,81,85,69],Q3),(zl9,Q3),(im,Q3),(zad,Q3),(zaf,Q3),(zag,Q3),(zan,Q3),(zam,Q3),([83,69,84],Q3),(gE,Q3),(zab,Q3),(uL,Q3),(zak,Q3),(zae,Q3),(R5,Q3),([87,82,73,84,69],Q3),(Fu,Q3),([84,79],Q3),(zai,Q3),(zah,Q3),(R2,Q3),(R4,Q3),(R3,Q3),(Fs,Q3),(Fv,Q3)]
def AD:List (zD×Int):=[(kF,0),(cW,0),(mU,1),(pf,1),(ej,2),(uM,2),([61],2),([60],2),([43],2),([45],2)]
def jy(s:zD):Bool:=Ri s Fd Q4
def cY(s:zD):Int:=Ri s AD (-1)
def zZ(c:Int):Bool:=bif Q0 (c>=48)then Q0 (c<=57)else Q4
def aK(c:Int):Bool:=bif Q0 (c>=97)then
  bif Q0 (c<=122)then Q3 else bif Q0 (c>=65)then Q0 (c<=90)else Q4
 else bif Q0 (c>=65)then Q0 (c<=90)else Q4
def bz(c:Int):Bool:=bif aK c then Q3 else bif zZ c then Q3 else c==95
def tS:bY:=(((zmy.aut 263 Tryz.f263 1).aut 264 Tryz.f264 1).aut 262 Tryz.f262 1).aut 224 Tryz.f224 0
theorem mZ:zw tS:=by
 refine iv (iv (iv (iv U9 ?_) ?_) ?_) ?_<;>(refine⟨?_,?_,?_,?_⟩<;>kernel_rfl)
theorem zrh(s:zD):run tS 0 (λ_=>{}) Tryz.f131.results.toList 400 (bC Tryz.f131) (bj Tryz.f131.ntmps [.str s] [])=swT (λb=>.ret (.kb b) []) s Fd Q4:=kw
theorem zoG:zO tS.P 131 Tryz.f131 1:=bU kw
theorem zkY:FK 131 (ul [.str] [.bool] λx=>Q1 (jy x.1,())):=by
 refine xg zoG λx y o C h=>?_
 cases o;refine dF (n0:=0) mZ zoG (λid _=>h id) (λ_=>{}) 400 ?_;have e:jD ([Sh.str].map Q1) x=[.str x.1]:=rfl;rw[e,zrh];exact J2 Fd rfl
theorem zrE(s:zD):run tS 0 (λ_=>{}) Tryz.f128.results.toList 400 (bC Tryz.f128) (bj Tryz.f128.ntmps [.str s] [])=swT (λb=>.ret (.int .i64 b) []) s AD (-1):=kw
theorem zo3:zO tS.P 128 Tryz.f128 1:=bU kw
theorem zln:FK 128 (ul [.str] [zg] λx=>Q1 (cY x.1,())):=by
 refine xg zo3 λx y o C h=>?_
 cases o;refine dF (n0:=0) mZ zo3 (λid _=>h id) (λ_=>{}) 400 ?_;have e:jD ([Sh.str].map Q1) x=[.str x.1]:=rfl;rw[e,zrE];exact J2 AD rfl
def cQ(p:Int->Bool):zD->Nat
 |[]=>0
 |c::r=>if p c.toNat then cQ p r+1 else 0
def aO(f m:Int->Bool):zD->Nat
 |[]=>0
 |c::r=>if f c.toNat then cQ m r+1 else 0
theorem Reach.strLen{E:bY}{C:fg}{B:FuncId}{o:List Item}{st:St}{Q:AV->List AO->Prop}(j:Nat)(s:zD)(D:st.tmps[j]?=Q1 (.str s))(h:Io s<=aF->Reach E C B o st Q):Reach E C B o st Q:=by
 intro b cs a w U ρ F G u H;refine h ?_ b cs a w U ρ F G u H;have z:j<a.tmps.toList.length:=by rw[<-u.tm.len];exact(dp.1 D).1
 have:=u.tm.rv j _ _ D (zU z);generalize a.tmps.toList[j]=v at this;cases this with
 |str _ h=>exact h
abbrev LU:Nat->aM:=λ_=>{slots:=[1,2,5]}
abbrev Pc(a b c d:AV)(s:zD)(n:Int):St:={
 tmps:=(tm 31 [(1,str s),(2,ptr 0 0),(5,ai n)]),
 heap:=[AO.box [a,b,c,d]]}
abbrev ziN(a b c d:AV)(p:Int->Bool)(s:zD)(n:Int):Tr zF:=
 chk (cond (Q0 (n<↑(Io s))) (zJ n (Io s)) Q3)
  (br (cond (Q0 (n<↑(Io s))) (p ↑(List.getD s n.toNat 0).toNat) Q4)
   (Tr.ok (zF.head 4 (aj Tryz.f225 4) (Pc a b c d s (Γ Δ (n+1)))))
   (Tr.ok (zF.ret (ai n) [])))
theorem zbc:zO tS.P 225 Tryz.f225 2:=bU kw
theorem zgE{C:fg}(B:∀id,0<=id->C.ρ0 id=none)(a b c d:AV)(p:Int->Bool)(s:zD)
  (u:∀n,run tS 0 LU Tryz.f225.results.toList 300 (aj Tryz.f225 4) (Pc a b c d s n)=ziN a b c d p s n) (F:Io s<=aF):∀(k i:Nat),Io s-i=k->i<=Io s->
  Reach tS C 225 (aj Tryz.f225 4) (Pc a b c d s i) (λr h=>(r,h)=(.int .i64 ((i+cQ p (s.drop i):Nat):Int),[]))
 | k,i,E,G=>by
  subst E;refine dF mZ zbc B LU 300 ?_;rw[u];refine⟨?_,λh=>?_,λh=>?_⟩
  ·by_cases o:i<Io s
   ·have:Q0 ((i:Int)<Io s)=Q3:=by simpa using o
    simp[zJ,o]
   ·have:Q0 ((i:Int)<Io s)=Q4:=by simpa using o
    simp[o]
  ·have o:i<Io s:=by
    by_cases o:i<Io s
    ·exact o
    ·have:Q0 ((i:Int)<Io s)=Q4:=by simpa using o
     rw[this]at h;cases h
   have z:Q0 ((i:Int)<Io s)=Q3:=by simpa using o
   rw[z,cL s _ o,zY]at h;rw[fk o];simp only[cQ];rw[if_pos h,zr i ow,show i+(cQ p (List.drop (i+1) s)+1)=(i+1)+cQ p (List.drop (i+1) s) by omega];exact zgE B a b c d p s u F (Io s-(i+1)) (i+1) rfl ow
  ·have:cQ p (s.drop i)=0:=by
    by_cases o:i<Io s
    ·have z:Q0 ((i:Int)<Io s)=Q3:=by simpa using o
     rw[z,cL s _ o]at h;rw[fk o];simp only[cQ];rw[if_neg (by intro D;rw[zY]at h;rw[D]at h;cases h)]
    ·rw[Ci ow];rfl
   rw[this];rfl
 termination_by k=>k
theorem zpz(s:zD)(n:Int):run tS 0 LU Tryz.f225.results.toList 300 (aj Tryz.f225 4) (Pc (ai 1) (ai 16) (AV.clo (Fn.func 263) [] []) (AV.clo (Fn.func 262) [] []) s n)=ziN (ai 1) (ai 16) (AV.clo (Fn.func 263) [] []) (AV.clo (Fn.func 262) [] []) bz s n:=kw
theorem zmT(s:zD):run tS 0 LU Tryz.f225.results.toList 300 (bC Tryz.f225) (bj Tryz.f225.ntmps [.agg [(ai 1),(ai 16),(AV.clo (Fn.func 263) [] []),(AV.clo (Fn.func 262) [] [])],.str s] [])=
 chk (cond (s==[]) Q3 (zJ 0 (Io s)))
  (br (cond (s==[]) Q3 (!aK ↑(List.getD s (Int.toNat 0) 0).toNat)) (Tr.ok (zF.ret (ai 0) []))
   (Tr.ok (zF.head 4 (aj Tryz.f225 4) (Pc (ai 1) (ai 16) (AV.clo (Fn.func 263) [] []) (AV.clo (Fn.func 262) [] []) s 1)))):=kw
theorem zgC{C:fg}(u:∀id,0<=id->C.ρ0 id=none)(s:zD)(z:Io s<=aF):Reach tS C 225 (bC Tryz.f225) (bj Tryz.f225.ntmps [.agg [(ai 1),(ai 16),(AV.clo (Fn.func 263) [] []),(AV.clo (Fn.func 262) [] [])],.str s] []) (λr h=>(r,h)=(.int .i64 (aO aK bz s:Nat),[])):=by
 refine dF (n0:=0) mZ zbc u LU 300 ?_;rw[zmT];cases s with
 |nil=>exact⟨rfl,λ_=>rfl,λh=>by cases h⟩
 | cons c r=>
  refine⟨by simp[zJ],λh=>?_,λh=>?_⟩
  ·have o:aK ↑c.toNat=Q4:=by simpa using h
   simp only[aO,o];rfl
  ·have o:aK ↑c.toNat=Q3:=by simpa using h
   have:=zgE u (ai 1) (ai 16) (AV.clo (Fn.func 263) [] []) (AV.clo (Fn.func 262) [] []) bz (c::r) (zpz (c::r)) z _ 1 rfl sw;simp only[aO,o,if_true];rw[show 1+cQ bz ((c::r).drop 1)=cQ bz r+1 by simp[pd]]at this;exact this
theorem zpA(s:zD)(n:Int):run tS 0 LU Tryz.f225.results.toList 300 (aj Tryz.f225 4) (Pc (ai 2) (ai 19) (AV.clo (Fn.func 264) [] []) (AV.clo (Fn.func 264) [] []) s n)=ziN (ai 2) (ai 19) (AV.clo (Fn.func 264) [] []) (AV.clo (Fn.func 264) [] []) zZ s n:=kw
theorem zmU(s:zD):run tS 0 LU Tryz.f225.results.toList 300 (bC Tryz.f225) (bj Tryz.f225.ntmps [.agg [(ai 2),(ai 19),(AV.clo (Fn.func 264) [] []),(AV.clo (Fn.func 264) [] [])],.str s] [])=
 chk (cond (s==[]) Q3 (zJ 0 (Io s)))
  (br (cond (s==[]) Q3 (!zZ ↑(List.getD s (Int.toNat 0) 0).toNat)) (Tr.ok (zF.ret (ai 0) []))
   (Tr.ok (zF.head 4 (aj Tryz.f225 4) (Pc (ai 2) (ai 19) (AV.clo (Fn.func 264) [] []) (AV.clo (Fn.func 264) [] []) s 1)))):=kw
theorem zgD{C:fg}(u:∀id,0<=id->C.ρ0 id=none)(s:zD)(z:Io s<=aF):Reach tS C 225 (bC Tryz.f225) (bj Tryz.f225.ntmps [.agg [(ai 2),(ai 19),(AV.clo (Fn.func 264) [] []),(AV.clo (Fn.func 264) [] [])],.str s] []) (λr h=>(r,h)=(.int .i64 (aO zZ zZ s:Nat),[])):=by
 refine dF (n0:=0) mZ zbc u LU 300 ?_;rw[zmU];cases s with
 |nil=>exact⟨rfl,λ_=>rfl,λh=>by cases h⟩
 | cons c r=>
  refine⟨by simp[zJ],λh=>?_,λh=>?_⟩
  ·have o:zZ ↑c.toNat=Q4:=by simpa using h
   simp only[aO,o];rfl
  ·have o:zZ ↑c.toNat=Q3:=by simpa using h
   have:=zgE u (ai 2) (ai 19) (AV.clo (Fn.func 264) [] []) (AV.clo (Fn.func 264) [] []) zZ (c::r) (zpA (c::r)) z _ 1 rfl sw;simp only[aO,o,if_true];rw[show 1+cQ zZ ((c::r).drop 1)=cQ zZ r+1 by simp[pd]]at this;exact this
def G65:iV [none,Q1 .str]:=λx h=>match x,h with
 |(.agg [.int .i64 1,.int .i64 16,.clo (.func 263) [] [],.clo (.func 262) [] []],s,_),[]=>.ok (.int .i64 (aO aK bz s:Nat),[])
 |(.agg [.int .i64 2,.int .i64 19,.clo (.func 264) [] [],.clo (.func 264) [] []],s,_),[]=>.ok (.int .i64 (aO zZ zZ s:Nat),[])
 |_,_=>.err
theorem zlw:FK 225 (bp [none,Q1 .str] G65):=by
 refine dV zbc λx D B h C z=>?_
 unfold G65 at h;split at h
 ·simp only[Tr.val_ok,bH]at h;subst h;rename_i _ _ s u;have e:jD [none,Q1 Sh.str] (agg [(ai 1),(ai 16),(AV.clo (Fn.func 263) [] []),(AV.clo (Fn.func 262) [] [])],s,u)=[agg [(ai 1),(ai 16),(AV.clo (Fn.func 263) [] []),(AV.clo (Fn.func 262) [] [])],.str s]:=rfl;rw[e];exact Reach.strLen 1 s rfl λo=>zgC z s o
 ·simp only[Tr.val_ok,bH]at h;subst h;rename_i _ _ s u;have e:jD [none,Q1 Sh.str] (agg [(ai 2),(ai 19),(AV.clo (Fn.func 264) [] []),(AV.clo (Fn.func 264) [] [])],s,u)=[agg [(ai 2),(ai 19),(AV.clo (Fn.func 264) [] []),(AV.clo (Fn.func 264) [] [])],.str s]:=rfl;rw[e];exact Reach.strLen 1 s rfl λo=>zgD z s o
 ·simp at h
abbrev ce:Sh:=.pr (.int .i64) .str
def zay:bY:=((tS.add 131 (ul [.str] [.bool] λx=>Q1 (jy x.1,()))).add 128 (ul [.str] [zg] λx=>Q1 (cY x.1,()))).add 225 (bp [none,Q1 .str] G65)
theorem Lg:zw zay:=((mZ.add zkY).add zln).add zlw
def qT(s:zD):Bool:=bif Q0 ((↑(Io s):Int)>=1)then
  bif Q0 ((↑(Io s):Int)<=16)then(↑(aO aK bz s):Int)==↑(Io s)else Q4
 else Q4
def g49(x:zz ([ce].map Q1)):Option (zz ([Sh.bool].map Q1)):=if x.1.1=1 then Q1 (qT x.1.2,())else none
theorem zrA(s:zD):(run zay 0 unr Tryz.f178.results.toList 400 (bC Tryz.f178) (bj Tryz.f178.ntmps [.agg [.int .i64 1,.str s]] [])).val=Q1 (.ret (.bool (qT s)) []):=kw
theorem zo1:zO zay.P 178 Tryz.f178 1:=bU kw
theorem zli:FK 178 (ul [ce] [.bool] g49):=by
 refine xg zo1 λx y h C z=>?_
 obtain⟨⟨k,s⟩,u⟩:=x;unfold g49 at h;split at h
 ·rename_i B;have o:k=1:=B;subst o;cases h;have e:jD ([ce].map Q1) (((1,s),u):zz ([ce].map Q1))=[.agg [.int .i64 1,.str s]]:=rfl;rw[e];exact nH (n0:=0) Lg zo1 (λid _=>z id) (zrA s) rfl
 ·cases h
def zmz:bY:=zay.add 178 (ul [ce] [.bool] g49)
theorem Vd:zw zmz:=Lg.add zli
def zmA:bY:=zmz.aut 130 Tryz.f130 1
theorem Ve:zw zmA:=iv Vd (bU kw)
def Sz:bY:=zmA.aut 219 Tryz.f219 1
theorem Lk:zw Sz:=iv Ve (bU kw)
end
end Cad
