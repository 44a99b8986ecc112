/- Words, names, runs of octets. -/
import Derived.Test.YtjfdpfapcmcncaaGreatDoorR05
namespace Cad
open Go Go.Proofs
open List renaming length→Io
open IntKind renaming wrap→Γ,i64→Δ
open Bool renaming false→Q4,true→Q3
open Option renaming some→Q1
open Decidable renaming decide→Q0
open Tr (chk br)
open AV (nils agg tup ptr kb str sl)
noncomputable section
def swT{β:Type}(h:β->zG)(s:zD):List (zD×β)->β->Tr zG
 |[],d=>.ok (h d)
 |(w,b)::r,d=>.br (s==w) (.ok (h b)) (swT h s r d)
def Rb{β:Type}(s:zD):List (zD×β)->β->β
 |[],d=>d
 |(w,b)::r,d=>if s==w then b else Rb s r d
theorem JW{β:Type}{o:β->zG}{s:zD}{d:β}{Φ:zG->Prop}:∀(l:List (zD×β)),Φ (o (Rb s l d))->(swT o s l d).Sat Φ
 |[],h=>h
 | (w,b)::r,h=>by
  refine⟨λu=>?_,λu=>JW r ?_⟩
  ·simp only[Rb]at h;rw[if_pos u]at h;exact h
  ·simp only[Rb]at h;rw[if_neg (by rw[u];simp)]at h;exact h
def Ff:List (zD×Bool):=[(Uh,Q3),([79,82],Q3),([78,79,84],Q3),([73,83],Q3),(Fv,Q3),(H8,Q3),(H7,Q3),(Z7,Q3),(zaj,Q3),(Cy,Q3),(Cz,Q3),(Cx,Q3),([75,69,89],Q3),([85,78,73,81,85,69],Q3),(zl5,Q3),(ij,Q3),(zab,Q3),(zad,Q3),(zae,Q3),(zal,Q3),(zak,Q3),([83,69,84],Q3),(gE,Q3),(Z9,Q3),(uP,Q3),(zai,Q3),(zac,Q3),(RY,Q3),([87,82,73,84,69],Q3),(Fw,Q3),([84,79],Q3),(zag,Q3),(zaf,Q3),(RV,Q3),(RX,Q3),(RW,Q3),(Fu,Q3),(Fx,Q3)]
def Ay:List (zD×Int):=[(kH,0),(cX,0),(mS,1),(pb,1),(em,2),(uQ,2),([61],2),([60],2),([43],2),([45],2)]
def jw(s:zD):Bool:=Rb s Ff Q4
def cY(s:zD):Int:=Rb s Ay (-1)
def zY(c:Int):Bool:=bif Q0 (c>=48)then Q0 (c<=57)else Q4
def aL(c:Int):Bool:=bif Q0 (c>=97)then
  bif Q0 (c<=122)then Q3 else bif Q0 (c>=65)then Q0 (c<=90)else Q4
 else bif Q0 (c>=65)then Q0 (c<=90)else Q4
def bz(c:Int):Bool:=bif aL c then Q3 else bif zY c then Q3 else c==95
def tS:bZ:=(((zmu.aut 263 Tryz.f263 1).aut 264 Tryz.f264 1).aut 262 Tryz.f262 1).aut 224 Tryz.f224 0
theorem mX:zw tS:=by
 refine iu (iu (iu (iu U6 ?_) ?_) ?_) ?_<;>(refine⟨?_,?_,?_,?_⟩<;>kernel_rfl)
theorem zrg(s:zD):run tS 0 (λ_=>{}) Tryz.f131.results.toList 400 (bC Tryz.f131) (bl Tryz.f131.ntmps [.str s] [])=swT (λb=>.ret (.kb b) []) s Ff Q4:=kw
theorem zoC:zO tS.P 131 Tryz.f131 1:=bU kw
theorem zkU:FK 131 (ul [.str] [.bool] λx=>Q1 (jw x.1,())):=by
 refine xg zoC λx y o C h=>?_
 cases o;refine dF (n0:=0) mX zoC (λid _=>h id) (λ_=>{}) 400 ?_;have e:jB ([Sh.str].map Q1) x=[.str x.1]:=rfl;rw[e,zrg];exact JW Ff rfl
theorem zrD(s:zD):run tS 0 (λ_=>{}) Tryz.f128.results.toList 400 (bC Tryz.f128) (bl Tryz.f128.ntmps [.str s] [])=swT (λb=>.ret (.int .i64 b) []) s Ay (-1):=kw
theorem zoZ:zO tS.P 128 Tryz.f128 1:=bU kw
theorem zli:FK 128 (ul [.str] [zg] λx=>Q1 (cY x.1,())):=by
 refine xg zoZ λx y o C h=>?_
 cases o;refine dF (n0:=0) mX zoZ (λid _=>h id) (λ_=>{}) 400 ?_;have e:jB ([Sh.str].map Q1) x=[.str x.1]:=rfl;rw[e,zrD];exact JW Ay rfl
def cR(p:Int->Bool):zD->Nat
 |[]=>0
 |c::r=>if p c.toNat then cR p r+1 else 0
def aP(f m:Int->Bool):zD->Nat
 |[]=>0
 |c::r=>if f c.toNat then cR m r+1 else 0
theorem Reach.strLen{E:bZ}{C:ff}{B:FuncId}{o:List Item}{st:St}{Q:AV->List AO->Prop}(j:Nat)(s:zD)(D:st.tmps[j]?=Q1 (.str s))(h:Io s<=aG->Reach E C B o st Q):Reach E C B o st Q:=by
 intro b cs a w U ρ F G u H;refine h ?_ b cs a w U ρ F G u H;have z:j<a.tmps.toList.length:=by rw[<-u.tm.len];exact(dn.1 D).1
 have:=u.tm.rv j _ _ D (zU z);generalize a.tmps.toList[j]=v at this;cases this with
 |str _ h=>exact h
abbrev LL:Nat->aN:=λ_=>{slots:=[1,2,5]}
abbrev O3(a b c d:AV)(s:zD)(n:Int):St:={
 tmps:=(tm 31 [(1,str s),(2,ptr 0 0),(5,ai n)]),
 heap:=[AO.box [a,b,c,d]]}
abbrev ziI(a b c d:AV)(p:Int->Bool)(s:zD)(n:Int):Tr zG:=
 chk (cond (Q0 (n<↑(Io s))) (zJ n (Io s)) Q3)
  (br (cond (Q0 (n<↑(Io s))) (p ↑(List.getD s n.toNat 0).toNat) Q4)
   (Tr.ok (zG.head 4 (aj Tryz.f225 4) (O3 a b c d s (Γ Δ (n+1)))))
   (Tr.ok (zG.ret (ai n) [])))
theorem za9:zO tS.P 225 Tryz.f225 2:=bU kw
theorem zgB{C:ff}(B:∀id,0<=id->C.ρ0 id=none)(a b c d:AV)(p:Int->Bool)(s:zD)
  (u:∀n,run tS 0 LL Tryz.f225.results.toList 300 (aj Tryz.f225 4) (O3 a b c d s n)=ziI a b c d p s n) (F:Io s<=aG):∀(k i:Nat),Io s-i=k->i<=Io s->
  Reach tS C 225 (aj Tryz.f225 4) (O3 a b c d s i) (λr h=>(r,h)=(.int .i64 ((i+cR p (s.drop i):Nat):Int),[]))
 | k,i,E,G=>by
  subst E;refine dF mX za9 B LL 300 ?_;rw[u];refine⟨?_,λh=>?_,λh=>?_⟩
  ·by_cases o:i<Io s
   ·have:Q0 ((i:Int)<Io s)=Q3:=by simpa using o
    simp[zJ,o]
   ·have:Q0 ((i:Int)<Io s)=Q4:=by simpa using o
    simp[o]
  ·have o:i<Io s:=by
    by_cases o:i<Io s
    ·exact o
    ·have:Q0 ((i:Int)<Io s)=Q4:=by simpa using o
     rw[this]at h;cases h
   have z:Q0 ((i:Int)<Io s)=Q3:=by simpa using o
   rw[z,cM s _ o,af]at h;rw[fj o];simp only[cR];rw[if_pos h,zr i ow,show i+(cR p (List.drop (i+1) s)+1)=(i+1)+cR p (List.drop (i+1) s) by omega];exact zgB B a b c d p s u F (Io s-(i+1)) (i+1) rfl ow
  ·have:cR p (s.drop i)=0:=by
    by_cases o:i<Io s
    ·have z:Q0 ((i:Int)<Io s)=Q3:=by simpa using o
     rw[z,cM s _ o]at h;rw[fj o];simp only[cR];rw[if_neg (by intro D;rw[af]at h;rw[D]at h;cases h)]
    ·rw[Cg ow];rfl
   rw[this];rfl
 termination_by k=>k
theorem zpv(s:zD)(n:Int):run tS 0 LL Tryz.f225.results.toList 300 (aj Tryz.f225 4) (O3 (ai 1) (ai 16) (AV.clo (Fn.func 263) [] []) (AV.clo (Fn.func 262) [] []) s n)=ziI (ai 1) (ai 16) (AV.clo (Fn.func 263) [] []) (AV.clo (Fn.func 262) [] []) bz s n:=kw
theorem zmP(s:zD):run tS 0 LL Tryz.f225.results.toList 300 (bC Tryz.f225) (bl Tryz.f225.ntmps [.agg [(ai 1),(ai 16),(AV.clo (Fn.func 263) [] []),(AV.clo (Fn.func 262) [] [])],.str s] [])=
 chk (cond (s==[]) Q3 (zJ 0 (Io s)))
  (br (cond (s==[]) Q3 (!aL ↑(List.getD s (Int.toNat 0) 0).toNat)) (Tr.ok (zG.ret (ai 0) []))
   (Tr.ok (zG.head 4 (aj Tryz.f225 4) (O3 (ai 1) (ai 16) (AV.clo (Fn.func 263) [] []) (AV.clo (Fn.func 262) [] []) s 1)))):=kw
theorem zgz{C:ff}(u:∀id,0<=id->C.ρ0 id=none)(s:zD)(z:Io s<=aG):Reach tS C 225 (bC Tryz.f225) (bl Tryz.f225.ntmps [.agg [(ai 1),(ai 16),(AV.clo (Fn.func 263) [] []),(AV.clo (Fn.func 262) [] [])],.str s] []) (λr h=>(r,h)=(.int .i64 (aP aL bz s:Nat),[])):=by
 refine dF (n0:=0) mX za9 u LL 300 ?_;rw[zmP];cases s with
 |nil=>exact⟨rfl,λ_=>rfl,λh=>by cases h⟩
 | cons c r=>
  refine⟨by simp[zJ],λh=>?_,λh=>?_⟩
  ·have o:aL ↑c.toNat=Q4:=by simpa using h
   simp only[aP,o];rfl
  ·have o:aL ↑c.toNat=Q3:=by simpa using h
   have:=zgB u (ai 1) (ai 16) (AV.clo (Fn.func 263) [] []) (AV.clo (Fn.func 262) [] []) bz (c::r) (zpv (c::r)) z _ 1 rfl sw;simp only[aP,o,if_true];rw[show 1+cR bz ((c::r).drop 1)=cR bz r+1 by simp[o9]]at this;exact this
theorem zpw(s:zD)(n:Int):run tS 0 LL Tryz.f225.results.toList 300 (aj Tryz.f225 4) (O3 (ai 2) (ai 19) (AV.clo (Fn.func 264) [] []) (AV.clo (Fn.func 264) [] []) s n)=ziI (ai 2) (ai 19) (AV.clo (Fn.func 264) [] []) (AV.clo (Fn.func 264) [] []) zY s n:=kw
theorem zmQ(s:zD):run tS 0 LL Tryz.f225.results.toList 300 (bC Tryz.f225) (bl Tryz.f225.ntmps [.agg [(ai 2),(ai 19),(AV.clo (Fn.func 264) [] []),(AV.clo (Fn.func 264) [] [])],.str s] [])=
 chk (cond (s==[]) Q3 (zJ 0 (Io s)))
  (br (cond (s==[]) Q3 (!zY ↑(List.getD s (Int.toNat 0) 0).toNat)) (Tr.ok (zG.ret (ai 0) []))
   (Tr.ok (zG.head 4 (aj Tryz.f225 4) (O3 (ai 2) (ai 19) (AV.clo (Fn.func 264) [] []) (AV.clo (Fn.func 264) [] []) s 1)))):=kw
theorem zgA{C:ff}(u:∀id,0<=id->C.ρ0 id=none)(s:zD)(z:Io s<=aG):Reach tS C 225 (bC Tryz.f225) (bl Tryz.f225.ntmps [.agg [(ai 2),(ai 19),(AV.clo (Fn.func 264) [] []),(AV.clo (Fn.func 264) [] [])],.str s] []) (λr h=>(r,h)=(.int .i64 (aP zY zY s:Nat),[])):=by
 refine dF (n0:=0) mX za9 u LL 300 ?_;rw[zmQ];cases s with
 |nil=>exact⟨rfl,λ_=>rfl,λh=>by cases h⟩
 | cons c r=>
  refine⟨by simp[zJ],λh=>?_,λh=>?_⟩
  ·have o:zY ↑c.toNat=Q4:=by simpa using h
   simp only[aP,o];rfl
  ·have o:zY ↑c.toNat=Q3:=by simpa using h
   have:=zgB u (ai 2) (ai 19) (AV.clo (Fn.func 264) [] []) (AV.clo (Fn.func 264) [] []) zY (c::r) (zpw (c::r)) z _ 1 rfl sw;simp only[aP,o,if_true];rw[show 1+cR zY ((c::r).drop 1)=cR zY r+1 by simp[o9]]at this;exact this
def G65:iU [none,Q1 .str]:=λx h=>match x,h with
 |(.agg [.int .i64 1,.int .i64 16,.clo (.func 263) [] [],.clo (.func 262) [] []],s,_),[]=>.ok (.int .i64 (aP aL bz s:Nat),[])
 |(.agg [.int .i64 2,.int .i64 19,.clo (.func 264) [] [],.clo (.func 264) [] []],s,_),[]=>.ok (.int .i64 (aP zY zY s:Nat),[])
 |_,_=>.err
theorem zls:FK 225 (bp [none,Q1 .str] G65):=by
 refine dX za9 λx D B h C z=>?_
 unfold G65 at h;split at h
 ·simp only[Tr.val_ok,bH]at h;subst h;rename_i _ _ s u;have e:jB [none,Q1 Sh.str] (agg [(ai 1),(ai 16),(AV.clo (Fn.func 263) [] []),(AV.clo (Fn.func 262) [] [])],s,u)=[agg [(ai 1),(ai 16),(AV.clo (Fn.func 263) [] []),(AV.clo (Fn.func 262) [] [])],.str s]:=rfl;rw[e];exact Reach.strLen 1 s rfl λo=>zgz z s o
 ·simp only[Tr.val_ok,bH]at h;subst h;rename_i _ _ s u;have e:jB [none,Q1 Sh.str] (agg [(ai 2),(ai 19),(AV.clo (Fn.func 264) [] []),(AV.clo (Fn.func 264) [] [])],s,u)=[agg [(ai 2),(ai 19),(AV.clo (Fn.func 264) [] []),(AV.clo (Fn.func 264) [] [])],.str s]:=rfl;rw[e];exact Reach.strLen 1 s rfl λo=>zgA z s o
 ·simp at h
abbrev cg:Sh:=.pr (.int .i64) .str
def zav:bZ:=((tS.add 131 (ul [.str] [.bool] λx=>Q1 (jw x.1,()))).add 128 (ul [.str] [zg] λx=>Q1 (cY x.1,()))).add 225 (bp [none,Q1 .str] G65)
theorem La:zw zav:=((mX.add zkU).add zli).add zls
def qU(s:zD):Bool:=bif Q0 ((↑(Io s):Int)>=1)then
  bif Q0 ((↑(Io s):Int)<=16)then(↑(aP aL bz s):Int)==↑(Io s)else Q4
 else Q4
def g49(x:zz ([cg].map Q1)):Option (zz ([Sh.bool].map Q1)):=if x.1.1=1 then Q1 (qU x.1.2,())else none
theorem zrz(s:zD):(run zav 0 unr Tryz.f178.results.toList 400 (bC Tryz.f178) (bl Tryz.f178.ntmps [.agg [.int .i64 1,.str s]] [])).val=Q1 (.ret (.bool (qU s)) []):=kw
theorem zoX:zO zav.P 178 Tryz.f178 1:=bU kw
theorem zld:FK 178 (ul [cg] [.bool] g49):=by
 refine xg zoX λx y h C z=>?_
 obtain⟨⟨k,s⟩,u⟩:=x;unfold g49 at h;split at h
 ·rename_i B;have o:k=1:=B;subst o;cases h;have e:jB ([cg].map Q1) (((1,s),u):zz ([cg].map Q1))=[.agg [.int .i64 1,.str s]]:=rfl;rw[e];exact nF (n0:=0) La zoX (λid _=>z id) (zrz s) rfl
 ·cases h
def zmv:bZ:=zav.add 178 (ul [cg] [.bool] g49)
theorem Va:zw zmv:=La.add zld
def zmw:bZ:=zmv.aut 130 Tryz.f130 1
theorem Vb:zw zmw:=iu Va (bU kw)
def Ss:bZ:=zmw.aut 219 Tryz.f219 1
theorem Le:zw Ss:=iu Vb (bU kw)
end
end Cad
