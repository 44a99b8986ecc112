/- Sorting an own row of values, by its cells. Sorting what the range over a map has collected. What the sorted keys are. The keys of a map without NULL, sorted. -/
import Derived.Test.YtkmcdhahdadkpaaGreatDoorF22
import Derived.Test.YtkmcdhahdadkpaaGreatDoorF17
import Derived.Test.YtkmcdhahdadkpaaGreatDoorF13
import Derived.Test.YtkmcdhahdadkpaaGreatDoorF15
import Derived.Test.YtkmcdhahdadkpaaGreatDoorF08
import Derived.Carry
import Derived.ChangeSame
import Derived.RowKit3
import Derived.WideKeyArgs
import Derived.Test.YtkmcdhahdadkpaaGreatDoorF05
import Derived.Test.YtkmcdhahdadkpaaGreatDoorRows
import Derived.OpenShut
import Derived.ProofKit
import Derived.Test.YtkmcdhahdadkpaaGreatDoorF10
namespace Cad
open Go Go.Proofs Go.Sort
open Tr renaming chk→Qc,val→Q8
open AV renaming nils→Qb
open Sh renaming bool→Q7
open Bool renaming false→Q4,true→Q3
open Option renaming none→Q2,some→Q1
open Decidable renaming decide→Q0
open Int (toNat)
open List (getD length)
open Tr (chk br re)
open AV (nils agg tup ptr kb str sl)
set_option maxHeartbeats 4000000
theorem tn[Inhabited V3]:∀(l:List V3)(t:Nat),t<l.length*3->(l.flatMap jx)[t]?=Q1 (jx (l[t/3]!))[t%3]!
 |[],t,h=>by simp at h
 | a::l,t,h=>by
  rw[List.flatMap_cons];by_cases h3:t<3
  ·have e0:t/3=0:=by omega
   have e1:t%3=t:=by omega
   rw[mI (by simpa[jx]using h3),e0,e1];rw[List.getElem!_cons_zero,zQ (by simpa[jx]using h3),getElem!_pos]
  ·obtain⟨s,rfl⟩:∃s,t=s+3:=⟨t-3,ow⟩;have e0:(s+3)/3=s/3+1:=by omega
   have e1:(s+3)%3=s%3:=by omega
   rw[nQ (by simp[jx]),e0,e1,List.getElem!_cons_succ];have:=tn l s (by simp at h;omega);simpa[jx]using this
theorem AZ:∀l:List V3,(l.flatMap jx).length=l.length*3
 |[]=>rfl
 | a::l=>by
  rw[List.flatMap_cons,jD,AZ l,fi];simp[jx];omega
theorem SI[Inhabited V3]{w:World}{base:Nat}{v:Value}{l:List V3}(hown:w.ownsRow base 27 3 v l.length (l.flatMap jx))(hbig:l.length<4611686018427387904)(hne:l≠[]):
  Calls Tryz.prog 61 #[v,.func (.func 62) #[] #[]] w λe w'=>e=.returned (.tuple #[])/\w'.ownsRow base 27 3 v l.length ((l.mergeSort λx y=>!(ltOf HF) y x).flatMap jx)/\w.grownBy w' v.ownBlock:=by
 rcases hown.2 with⟨_,h0⟩|⟨g,cap,cur,rfl,hbg,hgb,hnc,hcm,hcs,htk⟩
 ·exact absurd (List.length_eq_zero_iff.1 h0) hne
 have hH:HoldsK jx 3 w g 0 l.toArray:=by
  intro t ht;rw[size_flatK]at ht;have ht':t<l.length*3:=by simpa using ht
  have hc:cur.toList[t]?=Q1 (jx (l[t/3]!))[t%3]!:=by
   rw[<-tn l t ht',<-htk,List.getElem?_take_of_lt ht']
  refine⟨?_,by simp[World.frozen?,hgb]⟩;rw[get_flatK _ _ _ _ ht];simp[World.cell?,hgb];simpa using hc
 have hs:=zcs l.toArray g cap w hH (nP.1 hgb).1 (by simpa using hbig);have hsz:l.toArray.size=l.length:=by simp
 rw[hsz]at hs;refine hs.mono ?_;rintro e w' ⟨rfl,m,os,rfl⟩;have hl':(l.mergeSort λx y=>!(ltOf HF) y x).length=l.length:=List.length_mergeSort _;simp only[];generalize(l.mergeSort λx y=>!(ltOf HF) y x)=l' at hl';have hB':=tt (enc:=jx) (k:=3) (n:=m) (os:=os) l'.toArray hgb;have hoth:∀b,b<w.heap.size->b≠g->(sortWorldK jx 3 w g 0 m l'.toArray os).heap[b]?=w.heap[b]?:=λb hb hn=>gE l'.toArray hb hn
 refine⟨by first|trivial|rfl,⟨by rw[AZ,hl'],.inr ⟨g,cap,_,rfl,hbg,hB',hnc,hcm,by simp[putCells,hcs],?_⟩⟩,⟨rfl,rfl,rfl,?_,λk hk hn=>hoth k hk λe=>hn (by rw[e];rfl)⟩⟩
 ·apply Du;intro t;by_cases ht:t<l.length*3
  ·rw[List.getElem?_take_of_lt ht,tn l' t (by rw[hl'];exact ht),qU];have hcl:t<cur.size:=by rw[hcs];exact iz ht (gI 3 hnc)
   have hfk:=get_flatK jx 3 l'.toArray t (by simpa[hl']using ht);have hfs:(flatK jx 3 l'.toArray).size=l.length*3:=by simp[hl']
   unfold putCells;rw[Array.getElem?_mapIdx,sL hcl];simp only[Dy,ba,kd,hfs,ht,and_self,if_true,Nat.sub_zero,hfk,id_eq];simp
  ·rw[eX sg,eX (by rw[AZ,hl'];omega)]
 ·unfold sortWorldK grow putRowK;simp[Sort.ahead]
theorem OA(p:Option Addr)(c:Nat)(fv:Value)(w:World):Calls Tryz.prog 61 #[.slice p 0 c,fv] w λe w'=>e=.returned (.tuple #[])/\w'=w:=
 AnyF.slices_SortFunc_none {Tryz.sortVal with} p c fv w
theorem YD:∀E:List ((Int×Int×zA)×MapEntry),(∀p∈E,bd p.1=Q3)->∃l:List V3,l.map (·.1)=E.map (·.1)/\l.flatMap jx=Ig E
 |[],_=>⟨[],rfl,rfl⟩
 | p::E,h=>by
  obtain⟨l,h1,h2⟩:=YD E λq hq=>h q (sI _ hq)
  refine⟨⟨p.1,h p sJ⟩::l,by simp[h1],?_⟩;rw[List.flatMap_cons,h2];rfl
def UP(w1:World)(ents':Array MapEntry)(v:Value)(w':World):Prop:=
 ∃(E:List ((Int×Int×zA)×MapEntry))(l:List V3),(∀p∈E,p.2∈ents'.toList/\p.2.key=dD p.1)/\(∀x∈ents'.toList,x.born∈E.map λp=>p.2.born)/\(E.map λp=>p.2.born).Nodup/\l.map (·.1)=E.map (·.1)/\
  w'.ownsRow w1.heap.size 27 3 v l.length ((l.mergeSort λx y=>!(ltOf HF) y x).flatMap jx)/\RowKit.Below w1.heap.size w1 w'
theorem NQ[Inhabited V3]{w1 wr:World}{r clock:Nat}{ents':Array MapEntry}{v:Value}{seen:Array Nat}{E:List ((Int×Int×zA)×MapEntry)}(hC:YV w1 r clock ents' v wr seen E)(h0:(leftOf ents' seen).size=0)(hm:∀p∈E,bd p.1=Q3)(hsz:ents'.size<=1000):
  Calls Tryz.prog 61 #[v,.func (.func 62) #[] #[]] wr λe w'=>e=.returned (.tuple #[])/\UP w1 ents' v w':=by
 obtain⟨l,hl,hf⟩:=YD E hm;have hlen:l.length=E.length:=by simpa using congrArg length hl
 have hall:∀x∈ents'.toList,x.born∈E.map λp=>p.2.born:=λx hx=>by
  have:=all_seen ents' seen h0 x hx;rw[<-hC.sn];simpa using this
 have hrow:=hC.row;rw[<-hf,<-hlen]at hrow;obtain⟨c0,hit,_⟩:=hC.it;have hsw:w1.heap.size<=wr.heap.size:=hC.bel.size;by_cases hne:l=[]
 ·subst hne;have hv:∃p c,v=.slice p 0 c:=by
   rcases hrow.2 with⟨rfl,_⟩|⟨g,cap,cur,rfl,_⟩
   ·exact⟨_,_,rfl⟩
   ·exact⟨_,_,rfl⟩
  obtain⟨p,c,rfl⟩:=hv;refine(OA p c _ wr).mono ?_;rintro e w' ⟨rfl,rfl⟩;exact⟨rfl,E,[],hC.sub,hall,hC.nd,hl,by simpa using hrow,hC.bel⟩
 ·refine(SI hrow (by have:=hC.cnt;omega) hne).mono ?_;rintro e w' ⟨rfl,h1,h2⟩;refine⟨rfl,E,l,hC.sub,hall,hC.nd,hl,h1,hC.bel.grown h2 hsw λk hk=>?_⟩;rcases hrow.2 with⟨rfl,_⟩|⟨g,cap,cur,rfl,hbg,_⟩
  ·simp[Value.ownBlock]at hk
  ·have:g=k:=by simpa[Value.ownBlock]using hk
   exact this▸hbg
theorem Ow(x y z:V3)(h:ltOf HF x y=Q4)(g:ltOf HF y z=Q4):ltOf HF x z=Q4:=by
 simp only[ltOf,decide_eq_false_iff_not]at h g⊢;intro hxz;rcases mB x.2 y.2 h with e|e
 ·unfold HF at hxz;rw[e]at hxz;exact g hxz
 ·exact g (gT (a:=y.1) (b:=x.1) (c:=z.1) e hxz)
theorem Ov(x y:V3):(!(ltOf HF y x)||!(ltOf HF x y))=Q3:=by
 by_cases h:xL y.1 x.1
 ·have:ltOf HF x y=Q4:=by
   simp only[ltOf,decide_eq_false_iff_not];exact λg=>iV (a:=y.1) (gT (a:=y.1) (b:=x.1) (c:=y.1) h g)
  simp[this]
 ·have:ltOf HF y x=Q4:=by
   simp only[ltOf,decide_eq_false_iff_not];exact h
  simp[this]
theorem Lp(l:List V3)(hn:(l.map (·.1)).Nodup) (h0:∀x∈l,x.1.1≠0):(l.mergeSort λx y=>!(ltOf HF) y x).map (·.1)=nR (l.map (·.1)):=by
 by_cases hne:l=[]
 ·subst hne;simp[nR]
 ·refine To ?_ ((List.mergeSort_perm l _).map _) ?_
  ·have hne':l.map (·.1)≠[]:=by simpa using hne
   simp only[pD,aD,dU,aN,bne_iff_ne,ne_eq];refine⟨⟨λx hx=>?_,hn⟩,by simpa using hne⟩;obtain⟨y,hy,rfl⟩:=bm.1 hx;exact⟨y.2,h0 y hy⟩
  ·rw[List.pairwise_map];refine(List.pairwise_mergeSort (λa b c h g=>?_) (λa b=>Ov a b) l).imp λ{x y} h=>?_
   ·simp only[wK]at h g⊢;exact Ow c b a g h
   ·simp only[ltOf,wK,decide_eq_false_iff_not]at h;exact h
theorem HL(es:List ((Int×Int×zA)×Int))(k:Int×Int×zA):List.Sublist (ve es k) es:=by
 unfold ve;split
 ·exact List.eraseIdx_sublist _ _
 ·exact List.Sublist.refl _
theorem wF(k:Int×Int×zA):∀(es:List ((Int×Int×zA)×Int))(i:Nat),(cd es k i).map (·.1)=(cd es k 0).map (λq=>q.1+i)
 |[],_=>rfl
 | p::r,i=>by
  unfold cd;cases k==p.1 with
  |true=>simp
  | false=>
   simp only[ay];have h1:=wF k r (i+1);have h2:=wF k r 1;rw[h1];cases h:cd r k 0 with
   |none=>rw[h]at h2;cases h3:cd r k (0+1)<;>simp_all
   | some q=>
    rw[h]at h2;cases h3:cd r k (0+1)with
    |none=>simp_all
    |some q'=>simp_all;omega
theorem NT(p:(Int×Int×zA)×Int)(r:List ((Int×Int×zA)×Int))(k:Int×Int×zA):ve (p::r) k=if k=p.1 then r else p::ve r k:=by
 unfold ve;by_cases h:k=p.1
 ·simp[cd,h]
 ·have hb:(k==p.1)=Q4:=by simpa using h
  rw[if_neg h];simp only[cd,hb,ay];have:=wF k r 1;cases h1:cd r k (0+1)with
  | none=>
   rw[h1]at this;cases h2:cd r k 0 with
   |none=>rfl
   |some q=>rw[h2]at this;simp at this
  | some q=>
   rw[h1]at this;cases h2:cd r k 0 with
   |none=>rw[h2]at this;simp at this
   | some q'=>
    rw[h2]at this;have e:q.1=q'.1+1:=by simpa using this
    simp[e]
theorem As(k:Int×Int×zA):∀{es:List ((Int×Int×zA)×Int)},(es.map (·.1)).Nodup->∀x,x∈(ve es k).map (·.1)↔x∈es.map (·.1)/\x≠k
 |[],_,x=>by simp[ve,cd]
 | p::r,hn,x=>by
  rw[jF,List.nodup_cons]at hn;rw[NT];split
  ·rename_i h;subst h;rw[jF,ce];refine⟨λhx=>⟨.inr hx,λe=>hn.1 (e▸hx)⟩,λ⟨h,hne⟩=>h.resolve_left hne⟩
  ·rename_i h;rw[jF,ce,jF,ce,As k hn.2 x];refine⟨λhx=>?_,λ⟨hx,hne⟩=>hx.imp id λhx=>⟨hx,hne⟩⟩;rcases hx with rfl|hx
   ·exact⟨.inl rfl,λe=>h e.symm⟩
   ·exact⟨.inr hx.1,hx.2⟩
theorem wa{α β:Type}{f:α->β}:∀{l:List α},(l.map f).Nodup->∀{a b:α},a∈l->b∈l->f a=f b->a=b
 |[],_,_,_,ha,_,_=>by cases ha
 | x::r,hn,a,b,ha,hb,e=>by
  rw[jF,List.nodup_cons]at hn;rcases ce.1 ha with ha1|ha1
  ·rcases ce.1 hb with hb1|hb1
   ·rw[ha1,hb1]
   ·exact absurd (show f x∈r.map f from bm.2 ⟨b,hb1,by rw[<-e,ha1]⟩) hn.1
  ·rcases ce.1 hb with hb1|hb1
   ·exact absurd (show f x∈r.map f from bm.2 ⟨a,ha1,by rw[e,hb1]⟩) hn.1
   ·exact wa hn.2 ha1 hb1 e
theorem IL:∀{l m:List Nat},l.Nodup->(∀x∈l,x∈m)->l.length<=m.length
 |[],m,_,_=>by simp
 | a::r,m,hn,h=>by
  rw[List.nodup_cons]at hn;have ha:=h a sJ;have h1:=IL (l:=r) (m:=m.erase a) hn.2 λx hx=>(List.mem_erase_of_ne (λe:x=a=>hn.1 (e▸hx))).2 (h x (sI _ hx))
  have h2:=List.length_erase_of_mem ha;have h3:=List.length_pos_of_mem ha;rw[fi];omega
theorem R8{v:Sem zf}(h:bd v=Q3)(h0:v.1=0):v=(0,0,[]):=by
 obtain⟨k,n,s⟩:=v;subst h0;unfold bd at h;simp at h;simp[h]
theorem oB{a b:Int×Int×zA}(h:dD a=dD b):a=b:=by
 obtain⟨a1,a2,a3⟩:=a;obtain⟨b1,b2,b3⟩:=b;simpa[dD]using h
theorem IR{ents':Array MapEntry}{es':List ((Int×Int×zA)×Int)}(he:(ents'.toList.map λe=>(e.key,e.val))=AD Q3 es'):ents'.toList.map (·.key)=(es'.map (·.1)).map dD:=by
 have:=congrArg (List.map Prod.fst) he;simpa[AD,ov,sK]using this
theorem rG{l m:List (Sem zf)}(hl:∀x∈l,bd x=Q3)(hm:∀x∈m,bd x=Q3)(h:∀x,x.1≠0->(x∈l↔x∈m)):nR l=nR m:=by
 obtain⟨l1,l2⟩:=sP hl;obtain⟨m1,m2⟩:=sP hm;refine GG l1 m1 λx=>?_
 rw[l2,m2];exact⟨λhx=>⟨(h x hx.2).1 hx.1,hx.2⟩,λhx=>⟨(h x hx.2).2 hx.1,hx.2⟩⟩
theorem Ol{ents':Array MapEntry}{es':List ((Int×Int×zA)×Int)}(he:(ents'.toList.map λe=>(e.key,e.val))=AD Q3 es')(hn:(es'.map (·.1)).Nodup) (hm:∀p∈es',bd p.1=Q3) (h0:∀p∈es',p.1.1≠0)
  {E:List ((Int×Int×zA)×MapEntry)} (sub:∀p∈E,p.2∈ents'.toList/\p.2.key=dD p.1) (all:∀x∈ents'.toList,x.born∈E.map λp=>p.2.born) (nd:(E.map λp=>p.2.born).Nodup) (hbn:(ents'.toList.map (·.born)).Nodup) {l:List V3} (hl:l.map (·.1)=E.map (·.1)):
  (l.mergeSort λx y=>!(ltOf HF) y x).map (·.1)=nR (es'.map (·.1)):=by
 have hk:=IR he;have hkn:(ents'.toList.map (·.key)).Nodup:=by
  rw[hk];exact List.Pairwise.map _ (λa b h e=>h (oB e)) hn
 have mem:∀p∈E,p.1∈es'.map (·.1):=λp hp=>by
  obtain⟨h1,h2⟩:=sub p hp;have:p.2.key∈ents'.toList.map (·.key):=bm.2 ⟨_,h1,rfl⟩;rw[hk,h2]at this;obtain⟨k,hk1,hk2⟩:=bm.1 this;exact oB hk2▸hk1
 have hnd:(E.map (·.1)).Nodup:=by
  unfold List.Nodup at nd⊢;rw[List.pairwise_map]at nd⊢;refine nd.imp_of_mem λ{p q} hp hq h e=>h ?_
  obtain⟨p1,p2⟩:=sub p hp;obtain⟨q1,q2⟩:=sub q hq;have:p.2.key=q.2.key:=by rw[p2,q2,e]
  rw[wa hkn p1 q1 this]
 rw[Lp l (by rw[hl];exact hnd) (λx hx=>by
  have:x.1∈E.map (·.1):=by rw[<-hl];exact bm.2 ⟨x,hx,rfl⟩
  obtain⟨p,hp,e⟩:=bm.1 this;obtain⟨q,hq,e'⟩:=bm.1 (mem p hp);rw[<-e,<-e'];exact h0 q hq),hl]
 refine rG (λx hx=>?_) (λx hx=>?_) λx _=>⟨λhx=>?_,λhx=>?_⟩
 ·obtain⟨p,hp,rfl⟩:=bm.1 hx;obtain⟨q,hq,e'⟩:=bm.1 (mem p hp);exact e'▸hm q hq
 ·obtain⟨p,hp,rfl⟩:=bm.1 hx;exact hm p hp
 ·obtain⟨p,hp,rfl⟩:=bm.1 hx;exact mem p hp
 ·have:dD x∈ents'.toList.map (·.key):=by rw[hk];exact bm.2 ⟨x,hx,rfl⟩
  obtain⟨e,he1,he2⟩:=bm.1 this;obtain⟨p,hp,hb⟩:=bm.1 (all e he1);obtain⟨p1,p2⟩:=sub p hp;have:p.2=e:=wa hbn p1 he1 hb;rw[this,he2]at p2;exact bm.2 ⟨p,hp,(oB p2).symm⟩
set_option maxRecDepth 100000
theorem R1:∀l:List Value,l.length=46->∃v0 v1 v2 v3 v4 v5 v6 v7 v8 v9 v10 v11 v12 v13 v14 v15 v16 v17 v18 v19 v20 v21 v22 v23 v24 v25 v26 v27 v28 v29 v30 v31 v32 v33 v34 v35 v36 v37 v38 v39 v40 v41 v42 v43 v44 v45,l=[v0,v1,v2,v3,v4,v5,v6,v7,v8,v9,v10,v11,v12,v13,v14,v15,v16,v17,v18,v19,v20,v21,v22,v23,v24,v25,v26,v27,v28,v29,v30,v31,v32,v33,v34,v35,v36,v37,v38,v39,v40,v41,v42,v43,v44,v45]:=by
 intro l h
 match l,h with
 |v0::v1::v2::v3::v4::v5::v6::v7::v8::v9::v10::v11::v12::v13::v14::v15::v16::v17::v18::v19::v20::v21::v22::v23::v24::v25::v26::v27::v28::v29::v30::v31::v32::v33::v34::v35::v36::v37::v38::v39::v40::v41::v42::v43::v44::v45::[],_=>exact⟨v0,v1,v2,v3,v4,v5,v6,v7,v8,v9,v10,v11,v12,v13,v14,v15,v16,v17,v18,v19,v20,v21,v22,v23,v24,v25,v26,v27,v28,v29,v30,v31,v32,v33,v34,v35,v36,v37,v38,v39,v40,v41,v42,v43,v44,v45,rfl⟩
theorem Ou(n:Int)(w:World)(v0 v1 v2 v3 v4 v5 v6 v7 v8 v9 v10 v11 v12 v13 v14 v15 v16 v17 v18 v21 v22 v23 v24 v25 v26 v27 v28 v29 v30 v31 v32 v33 v34 v35 v36 v37 v38 v39 v40 v41 v42 v43 v44 v45:Value):
  Bc.wp Tryz.prog (λe a w'=>e=.exit 0/\w'=w/\∃ts:List Value,a=⟨ts.toArray,[]⟩/\ts.length=46/\ts[6]?=Q1 v6) {tmps:=#[v0,v1,v2,v3,v4,v5,v6,v7,v8,v9,v10,v11,v12,v13,v14,v15,v16,v17,v18,(Value.int .i64 n),(Value.int .i64 n),v21,v22,v23,v24,v25,v26,v27,v28,v29,v30,v31,v32,v33,v34,v35,v36,v37,v38,v39,v40,v41,v42,v43,v44,v45],defers:=[]} w:=by
 simp only[Bc,Tryz.f30]
 go_wp2
theorem ziF:Tryz.f30.results=#[.tmp 4]:=kw
theorem OT{tmps:Array Value}{w:World}{v:Value}(h:tmps[4]?=Q1 v):(results Tryz.f30 tmps).run Tryz.prog w=.ok v w:=by
 have hg:tmps.getD 4 undef=v:=by rw[qK,h];rfl
 rw[Cb,ziF];simp[B9,hg]
theorem Si:dD (0,0,[])=.agg #[.int .i64 0,.int .i64 0,.string ⟨#[]⟩]:=rfl
theorem VL{w':World}{U:Nat->Prop}{v:Value}{base:Nat}(hU:∀b,U b->b<base){l:List V3}[Inhabited V3](hok:∀x∈l,kT x.1)(hlen:l.length<=1000){m:List V3}(hp:List.Perm m l)(hrow:w'.ownsRow base 27 3 v l.length (m.flatMap jx)):
  Rv w' U (λ_=>Q2) (.sl zf (m.map (·.1))) v:=by
 have hml:m.length=l.length:=hp.length_eq;rcases hrow.2 with⟨rfl,h0⟩|⟨g,cap,cur,rfl,hbg,hgb,hnc,hcm,hcs,htk⟩
 ·have:m=[]:=List.length_eq_zero_iff.1 ow;rw[this];exact .sl0 zf _ _
 ·have hL:(m.map (·.1)).length=l.length:=by simp[hml]
  rw[<-hL];refine .sl zf _ g 0 cap (λi j=>(cur[i*3+j]?).getD undef) ow um (nP.1 hgb).1 (λh=>by have:=hU g h;omega) (λi j hi hj=>?_) (λi hi j c hc=>?_)
  ·have hj:j<3:=hj;have hlt:i*3+j<cur.size:=by rw[hcs];omega
   simp[World.cell?,hgb,sL hlt,show zf.size=3 from rfl]
  ·have him:i<m.length:=by simpa using hi
   have hj:j<3:=by
    have:=(cV.1 hc).1
    rwa [zU]at this
   have hf:=tn m (i*3+j) ow;rw[show(i*3+j)/3=i by omega,show(i*3+j)%3=j by omega,<-htk,List.getElem?_take_of_lt ow,qU,getElem!_pos m i him]at hf;rw[hf];simp only[dn];have hko:=hok m[i] (hp.mem_iff.1 (bC him));simp only[List.getElem_map]at hc;generalize m[i]=x at hc hko;obtain⟨⟨k,n,s⟩,hx⟩:=x
   match j,hj,hc with
   |0,_,hc=>cases hc;exact .int _ _ hko.1
   |1,_,hc=>cases hc;exact .int _ _ hko.2.1
   |2,_,hc=>cases hc;exact .str _ hko.2.2
theorem Wh{E:bT}(qp:E.P=Tryz.prog){C:eP}(hC:∀id,C.ρ0 id=Q2)(es:List ((Int×Int×zA)×Int))(hlen:es.length<=1000)(hn:(es.map (·.1)).Nodup) (hm:∀p∈es,bd p.1=Q3) (x5:Sem zg) (l18:List (Sem zf.sl)) (n:Int):
  Reach E C 30 (zZ Tryz.f30 4) (J8 (.h4 x5 l18 n n es)).2 (λr h=>aL h [zf.sl] r=Q1 (nR (es.map (·.1)),())):=by
 intro b cs a w U ρ hb1 hb2 hc hW;rw[qp];rw[zbi];have hlen46:a.tmps.toList.length=46:=by rw[<-hc.tm.len];rfl
 obtain⟨⟨ts⟩,df⟩:=a;have hdf:df=[]:=hc.df;subst hdf;obtain⟨v0,v1,v2,v3,v4,v5,v6,v7,v8,v9,v10,v11,v12,v13,v14,v15,v16,v17,v18,v19,v20,v21,v22,v23,v24,v25,v26,v27,v28,v29,v30,v31,v32,v33,v34,v35,v36,v37,v38,v39,v40,v41,v42,v43,v44,v45,rfl⟩:=R1 ts hlen46;have r6:=hc.tm.rv 6 (.mp 0) v6 rfl rfl;have r19:=hc.tm.rv 19 (.int .i64 n) v19 rfl rfl;have r20:=hc.tm.rv 20 (.int .i64 n) v20 rfl rfl;have ho:bt w U ρ 0 (.vmap Q3 es):=hc.hp.ob 0;have hbk:=hc.hp.blk 0;clear hlen46;cases r19 with|int _ _ _=>
 cases r20 with|int _ _ _=>
 obtain⟨r,ents,clock,q1,q2,q3,q4,q5,q6⟩:=ho;cases r6 with|mp _ _ q7 _=>
 rw[q1]at q7;cases q7;have hrB:C.B0 r\/C.w0.heap.size<=r:=hbk r ⟨rfl,_,q1,rfl⟩;obtain⟨ents',hdel,he',hborn,hbn⟩:=Vg (P:=Tryz.prog) (mt:=121) (kt:=27) (et:=122) Tryz.underlying121 kw (k:=(0,0,[])) ⟨by unfold cF;decide,by unfold cF;decide,sw⟩ q3 q4 q5 q6;rw[Si]at hdel;have hrw:r<w.heap.size:=(nP.1 q3).1;obtain⟨w1,hw1⟩:∃w1:World,({w with heap:=w.heap.setIfInBounds r (.map ents' clock)}:World)=w1:=⟨_,rfl⟩;rw[hw1]at hdel;have hs1:w1.heap.size=w.heap.size:=by rw[<-hw1];simp
 have hm1:w1.heap[r]?=Q1 (.map ents' clock):=by rw[<-hw1];simp[hrw]
 have ho1:∀j,j≠r->w1.heap[j]?=w.heap[j]?:=λj hj=>by rw[<-hw1];simp[Array.getElem?_setIfInBounds_ne (Ne.symm hj)]
 have hpm:=IR he';have hdn:((ve es (0,0,[])).map (·.1)).Nodup:=hn.sublist ((HL _ _).map _);have hds:=HL es (0,0,[]);have hk:∀x∈ents'.toList,∃k,x.key=dD k/\k∈(ve es (0,0,[])).map (·.1):=λx hx=>by
  have:x.key∈ents'.toList.map (·.key):=bm.2 ⟨x,hx,rfl⟩;rw[hpm]at this;obtain⟨k,k1,k2⟩:=bm.1 this;exact⟨k,k2.symm,k1⟩
 have hsz:ents'.size<=1000:=by
  have:=congrArg length hpm;simp only[cN,Array.length_toList]at this;rw[this];exact cL hds.length_le hlen
 have hinh:Inhabited V3:=⟨⟨(0,0,[]),kw⟩⟩;have hmem:∀x:Sem zf,x∈(ve es (0,0,[])).map (·.1)->bd x=Q3/\kT x/\x.1≠0:=λx hx=>by
  obtain⟨hx1,hx2⟩:=(As (0,0,[]) hn x).1 hx;obtain⟨p,hp,rfl⟩:=bm.1 hx1;exact⟨hm p hp,(q5 p hp).2,λh0=>hx2 (R8 (hm p hp) h0)⟩
 obtain⟨e1,a1,wx,⟨rfl,rfl,ts,rfl,htl,ht6⟩,harr⟩:=Ou n w v0 v1 v2 v3 v4 v5 (.map (Q1 r)) v7 v8 v9 v10 v11 v12 v13 v14 v15 v16 v17 v18 v21 v22 v23 v24 v25 v26 v27 v28 v29 v30 v31 v32 v33 v34 v35 v36 v37 v38 v39 v40 v41 v42 v43 v44 v45 b [.inLoop Bc,.inBlock 0,.code Ca] cs;have st1:=harr [.code Ca] rfl;obtain⟨u0,u1,u2,u3,u4,u5,u6,u7,u8,u9,u10,u11,u12,u13,u14,u15,u16,u17,u18,u19,u20,u21,u22,u23,u24,u25,u26,u27,u28,u29,u30,u31,u32,u33,u34,u35,u36,u37,u38,u39,u40,u41,u42,u43,u44,u45,rfl⟩:=R1 ts htl;have hu6:u6=.map (Q1 r):=by simpa using ht6
 subst hu6
 obtain⟨e2,a2,w',⟨rfl,v,hv4,hdf,hK⟩,harr2⟩:=Wk (λe a w'=>e=.ret/\∃v,a.tmps[4]?=Q1 v/\a.defers=[]/\UP w1 ents' v w') (UP w1 ents') r ents' clock wx w1 hdel hm1 hborn hbn (λx hx=>(hk x hx).imp λ_ h=>h.1) hsz
  (λv wr seen E hC h0=>NQ hC h0 (λp hp=>by
   obtain⟨s1,s2⟩:=hC.sub p hp;obtain⟨k,k1,k2⟩:=hk _ s1;rw[s2]at k1;exact oB k1▸(hmem k k2).1) hsz) (λv w' a hS h4 hd=>⟨rfl,v,h4,hd,hS⟩) u0 u1 u2 u3 u4 u5 u7 u8 u9 u10 u11 u12 u13 u14 u15 u16 u17 u18 u19 u20 u21 u22 u23 u24 u25 u26 u27 u28 u29 u30 u31 u32 u33 u34 u35 u36 u37 u38 u39 u40 u41 u42 u43 u44 u45 b [] cs
 obtain⟨todo,hst⟩:=harr2;obtain⟨E,l,sub,all,nd,hl,hrow,hbel⟩:=hK;have hkeys:=Ol he' hdn (λp hp=>(hmem _ (bm.2 ⟨p,hp,rfl⟩)).1) (λp hp=>(hmem _ (bm.2 ⟨p,hp,rfl⟩)).2.2) sub all nd hbn hl;have hall:nR ((ve es (0,0,[])).map (·.1))=nR (es.map (·.1)):=rG (λx hx=>(hmem x hx).1) (λx hx=>by obtain⟨p,hp,rfl⟩:=bm.1 hx;exact hm p hp) λx hx=>by
  rw[As (0,0,[]) hn x];exact⟨λh=>h.1,λh=>⟨h,λe=>hx (by rw[e])⟩⟩
 have hlE:∀x∈l,kT x.1:=λx hx=>by
  have:x.1∈E.map (·.1):=by rw[<-hl];exact bm.2 ⟨x,hx,rfl⟩
  obtain⟨p,hp,e⟩:=bm.1 this;obtain⟨s1,s2⟩:=sub p hp;obtain⟨k,k1,k2⟩:=hk _ s1;rw[s2]at k1;rw[<-e];exact oB k1▸(hmem k k2).2.1
 have hle:l.length<=1000:=by
  have h1:l.length=E.length:=by simpa using congrArg length hl
  have h2:(E.map λp=>p.2.born).length<=(ents'.toList.map (·.born)).length:=IL nd λx hx=>by
   obtain⟨p,hp,rfl⟩:=bm.1 hx;exact bm.2 ⟨p.2,(sub p hp).1,rfl⟩
  simp only[cN,Array.length_toList]at h2;omega
 have hold:∀j,j<wx.heap.size->j≠r->w'.heap[j]?=wx.heap[j]?:=λj hj hjr=>by rw[hbel.block j ow,ho1 j hjr]
 have hsz':wx.heap.size<=w'.heap.size:=by have:=hbel.size;omega
 have hrv:=VL (U:=U) (base:=w1.heap.size) (λb hb=>by have:=hW.ub b hb;omega) hlE hle (List.mergeSort_perm l _) hrow;rw[hkeys,hall]at hrv;refine⟨.returned v,w',{b.at a2 todo with mode:=.returning},⟨v,.sl zf (nR (es.map (·.1))),[],U,λ_=>Q2,rfl,?_,hrv,⟨λid=>by simp[bt],λ_ _ _ h=>by simp[af]at h,λ_ _ h=>by simp[af]at h⟩,λ_ _=>rfl,λid v h=>(by rw[hC id]at h;cases h),?_⟩,lS st1 hst,hb1,rfl,hdf,hb2,Tryz.f30,?_,OT hv4⟩
 ·rfl
 ·refine⟨hW.ext.trans ⟨hsz',?_,?_,?_,λx hx=>?_⟩,λj hj hB=>?_,λj hj=>iz (hW.ub j hj) hsz',hW.u1,hW.u2,λg=>(hW.gl g).mono hsz' (λj hj hu=>hold j hj λe=>hu (e▸q2)) (λ_ _ h=>h) (λ_ _ h=>h)⟩
  ·rw[hbel.os,<-hw1]
  ·rw[hbel.output,<-hw1]
  ·rw[hbel.tape,<-hw1]
  ·by_cases hxr:x.block=r
   ·have h1:w'.heap[x.block]?=Q1 (.map ents' clock):=by rw[hxr,hbel.block r ow,hm1]
    have h2:wx.heap[x.block]?=Q1 (.map ents clock):=by rw[hxr,q3]
    simp[World.frozen?,h1,h2]
   ·exact Ab (hold _ hx hxr)
  ·rw[hold j (iz hj hW.ext.sz) λe=>hrB.elim (λh=>hB (e▸h)) (λh=>by omega)];exact hW.same j hj hB
 ·show Tryz.prog.funcs[b.fn]?=Q1 Tryz.f30;rw[hb1];kernel_rfl
theorem Jm{σ:Type}{E:bT}{C:eP}{k:FuncId}{f:Func}{Q:AV->List AO->Prop}{m n0:Nat}(hE:zw E)(hf:zI E.P k f m)(hC:∀id,n0<=id->C.ρ0 id=Q2){keep:Nat->aM}{gas:Nat}{e:σ->Nat×St}{K:List Item}{st:St}{i:Tr (σ⊕aw)}
  (hgo:run E n0 keep f.results.toList gas K st=i.map (lf f e)) {s:σ} (hv:i.val=Q1 (.inl s)) (h:Reach E C k (zZ f (e s).1) (e s).2 Q):Reach E C k K st Q:=
 ms hE hf hC (l:=lf f e (.inl s)) (by rw[hgo,Tr.val_map,hv];rfl) h
noncomputable def CI(x0:Sem zE)(x1:List (Sem zh)):List (Sem zf):=(getD x1 0 (zi zh)).2.map λrow:List (Sem zf)=>getD row (toNat (dz x0 x1)) (zi zf)
noncomputable def JH(x0:Sem zE)(x1:List (Sem zh)):Bool:=ly x0 x1&&(zP 0 (length x1)&&(Q0 (length (getD x1 0 (zi zh)).2<=1000)&&List.all (getD x1 0 (zi zh)).2 λrow:List (Sem zf)=>zP (dz x0 x1) (length row)&&bd (getD row (toNat (dz x0 x1)) (zi zf))))
noncomputable def mz(x0:Sem zE)(x1:List (Sem zh)):List (Sem zf):=nR (CI x0 x1)
noncomputable def zdl:=zO [zE,zh.sl] [zf.sl] (λx=>JH x.1 x.2.1) λx=>(mz x.1 x.2.1,())
theorem E5{k:Int×Int×zA}{n:Int}:∀{es:List ((Int×Int×zA)×Int)},(jP es k n).map (·.1)=if k∈es.map (·.1)then es.map (·.1)else es.map (·.1)++[k]
 |[]=>rfl
 | p::r=>by
  show(bif k==p.1 then(k,n)::r else p::jP r k n).map (·.1)=_;by_cases h:k=p.1
  ·simp[h]
  ·have hb:(k==p.1)=Q4:=by simpa using h
   rw[hb,ay,jF,E5 (es:=r),jF];by_cases hr:k∈r.map (·.1)
   ·rw[if_pos hr,if_pos (by simp only[ce];exact .inr hr)]
   ·rw[if_neg hr,if_neg (by simp only[ce];exact λe=>e.elim h hr)];rfl
theorem Vw{x0:Sem zE}{x1:List (Sem zh)}(h1:ly x0 x1=Q3)(h2:zP 0 (length x1)=Q3):(zbr x0 x1).val=Q1 (.inl (.h4 (dz x0 x1) (getD x1 0 (zi zh)).2 (length (getD x1 0 (zi zh)).2:Int) 0 [])):=by
 unfold zbr;simp only[zl];show(Qc (ly x0 x1) (Qc (zP 0 (length x1)) _)).val=_;rw[h1,h2];rfl
theorem ZD:FK 30 zdl:=by
 refine aI (E:=wX) (f:=Tryz.f30) (bQ kw) λx hx C hC=>?_
 obtain⟨x0,x1,u⟩:=x;have hf:zI wX.P 30 Tryz.f30 2:=bQ kw;have hgo:∀x,run wX 0 Yx Tryz.f30.results.toList 400 (bq Tryz.f30) (bc Tryz.f30.ntmps (iX [Q1 zE,Q1 zh.sl] x) [])=(zbr x.1 x.2.1).map (lf Tryz.f30 J8):=by intro x;kernel_rfl
 have hon:∀s,run wX 0 Yx Tryz.f30.results.toList 400 (zZ Tryz.f30 (J8 s).1) (J8 s).2=(ziK s).map (lf Tryz.f30 J8):=by intro s;cases s<;>kernel_rfl
 simp only[JH,aD,aN,dU]at hx;obtain⟨h1,h2,h3,h4⟩:=hx;generalize hrows:(getD x1 0 (zi zh)).2=rows at h3 h4;refine Jm vM hf (λid _=>hC id) (hgo (x0,x1,u)) (Vw h1 h2) ?_;rw[hrows]
 have key:∀(m i:Nat)(es:List ((Int×Int×zA)×Int)),rows.length-i=m->i<=rows.length->(es.map (·.1)).Nodup->es.length<=i->(∀x,x∈es.map (·.1)↔x∈(rows.take i).map λrow:List (Sem zf)=>getD row (toNat (dz x0 x1)) (zi zf))->
   Reach wX C 30 (zZ Tryz.f30 (J8 (.h4 (dz x0 x1) rows rows.length i es)).1) (J8 (.h4 (dz x0 x1) rows rows.length i es)).2 λr h=>aL h [zf.sl] r=Q1 (mz x0 x1,()):=by
  intro m
  induction m with
  | zero=>
   intro i es hm hi hn hl hmem;obtain rfl:i=rows.length:=by omega
   rw[jE]at hmem;have hmay:∀x,x∈(rows.map λrow:List (Sem zf)=>getD row (toNat (dz x0 x1)) (zi zf))->bd x=Q3:=λx hx=>by
    obtain⟨row,hr,rfl⟩:=bm.1 hx;exact(h4 row hr).2
   have:=Wh (E:=wX) rfl hC es ow hn (λp hp=>hmay _ ((hmem _).1 (bm.2 ⟨p,hp,rfl⟩))) (dz x0 x1) rows rows.length;have e:mz x0 x1=nR (es.map (·.1)):=by
    unfold mz CI;rw[hrows];exact rG hmay (λx hx=>hmay x ((hmem x).1 hx)) λx _=>(hmem x).symm
   rw[e];exact this
  | succ m ih=>
   intro i es hm hi hn hl hmem;have hlt:i<rows.length:=by omega
   have hat:=h4 rows[i] (bC hlt);have hk:=E5 (k:=getD rows[i] (toNat (dz x0 x1)) (zi zf)) (n:=0) (es:=es);refine Jm vM hf (λid _=>hC id) (hon (.h4 (dz x0 x1) rows rows.length i es)) (s:=.h4 (dz x0 x1) rows rows.length ((i+1:Nat):Int) (jP es (getD rows[i] (toNat (dz x0 x1)) (zi zf)) 0)) ?_ (ih (i+1) _ ow ow ?_ ?_ ?_)
   ·have e1:Q0 ((i:Int)<(rows.length:Int))=Q3:=by simpa using hlt
    have e2:zP (i:Int) rows.length=Q3:=by simp[zP];omega
    have e3:IntKind.i64.wrap ((i:Int)+1)=((i+1:Nat):Int):=by
     exact zq i um
    have e4:getD rows (toNat (i:Int)) (zi zf.sl)=rows[i]:=ac rows _ hlt;simp only[ziK,e1,e2,e3,e4,hat.1,Q8,if_true]
   ·rw[hk];split
    ·exact hn
    ·rename_i hin;exact List.nodup_append.2 ⟨hn,sw,λa ha b hb e=>hin (by rw[fX]at hb;rw[<-hb,<-e];exact ha)⟩
   ·have:=congrArg length hk;simp only[cN]at this;rw[this];split
    ·simp;omega
    ·simp;omega
   ·intro x;rw[hk,List.take_succ_eq_append_getElem hlt,iB,cK,<-hmem x];simp only[jF,List.map_nil,fX];split
    ·rename_i hin;exact⟨.inl,λh=>h.elim id λe=>e▸hin⟩
    ·rw[cK,fX]
 exact key rows.length 0 [] ow ow sw sw sw
noncomputable def X4:=wX.add 30 zdl
theorem pI:zw X4:=vM.add ZD
open Go Go.Proofs
section
variable {db:List (Sem zh)} {p:Sem zE}
theorem de.pc(h:de db p):ly p (bK db p)=Q3/\dz p (bK db p)=nX p (bK db p):=
 ⟨by unfold ly;rw[h.plc];rfl,by unfold dz;rw[h.plc];rfl⟩
theorem de.at_mem(h:de db p){row:List (Sem zf)}(hr:row∈(xe db p).2):getD row (toNat (nX p (bK db p))) (zi zf)∈row:=by
 have hi:=(h.inn row hr).1;simp only[zP,aD,aN]at hi;exact tq _ _ ow
theorem de.may(h:de db p){x:Sem zf}(hx:x∈CI p (bK db p)):bd x=Q3:=by
 obtain⟨row,hr,rfl⟩:=bm.1 hx;rw[h.pc.2];exact(gD (h.rel.fits row hr)).2.1 _ (h.at_mem hr)
theorem de.all(h:de db p):JH p (bK db p)=Q3:=by
 unfold JH;simp only[aD,aN,dU];refine⟨h.pc.1,zu (i:=0) (uK h.go.two).1,cL h.rel.few ow,λrow hr=>⟨?_,h.may (bm.2 ⟨row,hr,rfl⟩)⟩⟩;rw[h.pc.2];exact(h.inn row hr).1
theorem de.len(h:de db p){row:List (Sem zf)}(hr:row∈(xe db p).2):row.length<=8:=by
 rw[(h.inn row hr).2];exact(gP h.rel.may).2.2.2.1
theorem de.rows(h:de db p)(v:Sem zf):CJ p (bK db p) v=Q1 ((xe db p).2.filter (KC (nX p (bK db p)) v),0,()):=by
 have:=TD v h.go h.pc.1 (cL h.rel.few ow) (λrow hr=>⟨by rw[h.pc.2];exact(h.inn row hr).1,cL (h.len hr) ow⟩)
 rwa [h.pc.2]at this
theorem de.few(_:de db p):(mz p (bK db p)).length<=(xe db p).2.length:=by
 have:=HB (CI p (bK db p));have e:(CI p (bK db p)).length=(xe db p).2.length:=cN _;rw[e]at this;exact this
theorem de.keys(h:de db p)(hc:p.1=[99,111,112,121]):(CI p (bK db p)).Nodup/\∀x∈CI p (bK db p),x.1≠0:=by
 have hp:dz p (bK db p)=(xe db p).1.2.2.1:=by
  rw[h.pc.2];unfold nX;rw[if_pos hc];rfl
 have e:CI p (bK db p)=(xe db p).2.map (ao (xe db p).1.2.2.1):=by
  unfold CI;rw[hp];rfl
 rw[e];refine⟨VK h.rel.pw,λx hx=>?_⟩;obtain⟨row,hr,rfl⟩:=bm.1 hx;have ht:=(kM _).1 h.rel.may;have hk:=h.rel.keys row hr;simp only[zP,aD,aN]at hk;exact(gD (h.rel.fits row hr)).2.2 _ ow ht.nn
theorem de.full(h:de db p)(hc:p.1=[99,111,112,121]):(mz p (bK db p)).length=(xe db p).2.length:=by
 obtain⟨k1,k2⟩:=h.keys hc;have:=NJ (l:=CI p (bK db p)) (λx hx=>h.may hx) k1 k2;have e:(CI p (bK db p)).length=(xe db p).2.length:=cN _;rw[e]at this;exact this
theorem de.is(h:de db p)(v:Sem zf):v∈mz p (bK db p)↔(xe db p).2.filter (KC (nX p (bK db p)) v)≠[]:=by
 unfold mz;rw[(sP λx hx=>h.may hx).2];show _↔¬(xe db p).2.filter (KC (nX p (bK db p)) v)=[];rw[List.filter_eq_nil_iff];constructor
 ·rintro⟨hx,h0⟩ hn;obtain⟨row,hr,e⟩:=bm.1 hx;rw[h.pc.2]at e;exact hn row hr (Mq.2 ⟨e,h0⟩)
 ·intro hn;have:∃row∈(xe db p).2,KC (nX p (bK db p)) v row=Q3:=by
   refine rF λhno=>hn λrow hr hi=>hno ⟨row,hr,hi⟩
  obtain⟨row,hr,hi⟩:=this;obtain⟨e,h0⟩:=Mq.1 hi;refine⟨bm.2 ⟨row,hr,?_⟩,h0⟩;show getD row (toNat (dz p (bK db p))) (zi zf)=v;rw[h.pc.2];exact e
end
noncomputable section
def zgg(x0:Sem zE)(x1:Sem zh.sl):Tr (Empty⊕aw):=
 let a0:=(x0.1,x0.2.1,x0.2.2.1,(x0.2.2.2.1.1,x0.2.2.2.1.2.1,x0.2.2.2.1.2.2.1,x0.2.2.2.1.2.2.2.1,x0.2.2.2.1.t.1,zm x0.2.2.2.1.t.2),x0.t)
 Qc (MP a0 x1)
 (br (V7 a0 x1 !=0) (re (tup [Qb,ai 1]) [])
  (Qc (JH a0 x1) (re (tup [sl zf (mz a0 x1),ai 0]) [])))
def Hb(x0:Sem zE)(x1:Sem zh.sl):=al [zf.sl,zg] t0 100000000 (zgg x0 x1)
def LB(x0:Sem zE)(x1:Sem zh.sl):=(Hb x0 x1).isSome
def TB(x0:Sem zE)(x1:Sem zh.sl):=o2 (Hb x0 x1)
def zcN:=FT [zE,zh.sl] [zf.sl,zg] λx=>Hb x.1 x.2.1
theorem Y3:FK 10 zcN:=pI.T1 (f:=Tryz.f10) (keep:=k0) (e:=e0)
def zbp(x0:Sem zE)(x1:Sem zh.sl):Tr (Empty⊕aw):=
 let a0:=(x0.1,x0.2.1,x0.2.2.1,(x0.2.2.2.1.1,x0.2.2.2.1.2.1,x0.2.2.2.1.2.2.1,x0.2.2.2.1.2.2.2.1,x0.2.2.2.1.t.1,zm x0.2.2.2.1.t.2),x0.t)
 let a1:=SY a0 x1
 Qc (K1 a0 x1)
 (re
  (tup [agg [str x0.1,str x0.2.1,str x0.2.2.1,str x0.2.2.2.1.1,sl zj x0.2.2.2.1.2.1,ai x0.2.2.2.1.2.2.1,sl zg x0.2.2.2.1.2.2.2.1,sl zr x0.2.2.2.1.t.1,str (ze.op x0.2.2.2.1.t.2),ai (ze.v x0.2.2.2.1.t.2).1,ai (ze.v x0.2.2.2.1.t.2).2.1,str (ze.v x0.2.2.2.1.t.2).2.2,
  str (ze.s x0.2.2.2.1.t.2),sl Sh.expr (ze.l x0.2.2.2.1.t.2),sl zg x0.t.1,ai x0.t.2],sl zh a1.1,AV.bool a1.2])
  [])
def xZ(x0:Sem zE)(x1:Sem zh.sl):=al [zE,zh.sl,Q7] t0 100000000 (zbp x0 x1)
def FM(x0:Sem zE)(x1:Sem zh.sl):=(xZ x0 x1).isSome
def KL(x0:Sem zE)(x1:Sem zh.sl):=o3 (xZ x0 x1)
def zdf:=FT [zE,zh.sl] [zE,zh.sl,Q7] λx=>xZ x.1 x.2.1
theorem Zw:FK 26 zdf:=pI.T1 (f:=Tryz.f26) (keep:=k0) (e:=e0)
abbrev zgJ:=mV [(3,[0,3,4])]
inductive JV where
 |h3 (l0:List (Sem zg)) (i4:Int) (ja0:List UInt8) (ja1:List (Sem zj)) (ja2:Int) (ja5:List UInt8) (ja6:Int) (ja7:Int) (ja8:List UInt8) (ja9:List UInt8)
 |h3b (l0:List (Sem zg)) (i4:Int) (ja0:List UInt8) (ja1:List (Sem zj)) (ja2:Int) (ja5:List UInt8) (ja6:Int) (ja7:Int) (ja8:List UInt8) (ja9:List UInt8) (lh_1:List (Sem zf.sl))
abbrev zjl:JV->Nat×St
 |.h3 l0 i4 ja0 ja1 ja2 ja5 ja6 ja7 ja8 ja9=>(3,⟨tm 31 [(0,sl zg l0),(3,ptr 0 0),(4,ai i4)],[AO.box [str ja0,sl zj ja1,ai ja2,Qb,Qb,str ja5,ai ja6,ai ja7,str ja8,str ja9,Qb,Qb]]⟩)
 |.h3b l0 i4 ja0 ja1 ja2 ja5 ja6 ja7 ja8 ja9 lh_1=>(3,⟨tm 31 [(0,sl zg l0),(3,ptr 0 0),(4,ai i4)],[AO.box [str ja0,sl zj ja1,ai ja2,Qb,Qb,str ja5,ai ja6,ai ja7,str ja8,str ja9,Qb,AV.vec 1],AO.vec zf.sl lh_1]⟩)
def zkH(x0:Sem zg.sl):Tr (JV⊕aw):=
 Tr.to (JV.h3 x0 0 [118] [([110],1,Q3),([114],1,Q4)] 0 [] 0 0 [] [])
def zlj:JV->Tr (JV⊕aw)
 | .h3 l0 i4 ja0 ja1 ja2 ja5 ja6 ja7 ja8 ja9=>
  let a0:=[[(1,i4,[]),(1,l0.getD i4.toNat (zi zg),[])]]
  br (Q0 (i4<(↑l0.length:Int)))
  (Qc (zP i4 l0.length) (Qc (Q0 (a0.length<=1073741824)) (Tr.to (JV.h3b l0 (IntKind.i64.wrap (i4+1)) ja0 ja1 ja2 ja5 ja6 ja7 ja8 ja9 a0))))
  (re (sl zh [((ja0,ja1,ja2,[],[],ze.mk ja5 (ja6,ja7,ja8) ja9 []),[])]) [])
 | .h3b l0 i4 ja0 ja1 ja2 ja5 ja6 ja7 ja8 ja9 lh_1=>
  let a0:=[[(1,i4,[]),(1,l0.getD i4.toNat (zi zg),[])]]
  br (Q0 (i4<(↑l0.length:Int)))
  (Qc (zP i4 l0.length) (Qc (Q0 (lh_1.length+a0.length<=1073741824)) (Tr.to (JV.h3b l0 (IntKind.i64.wrap (i4+1)) ja0 ja1 ja2 ja5 ja6 ja7 ja8 ja9 (lh_1++a0)))))
  (re (sl zh [((ja0,ja1,ja2,[],[],ze.mk ja5 (ja6,ja7,ja8) ja9 []),lh_1)]) [])
def zbS(x0:Sem zg.sl):=al [zh.sl] zlj 100000000 (zkH x0)
def zdh:=FT [zg.sl] [zh.sl] λx=>zbS x.1
theorem Zy:FK 27 zdh:=pI.T1 (f:=Tryz.f27) (keep:=zgJ) (e:=zjl)
def X7:=X4.addL [(10,zcN),(26,zdf),(27,zdh)]
theorem Ea:zw X7:=pI.addL<|fc Y3<|fc Zw<|fc Zy<|jj
end
noncomputable def i7u(x0:Sem zh.sl)(x1:Sem zk):Tr (Empty⊕aw):=
 let a0:=(x1.1,x1.2.1,x1.2.2.1,x1.2.2.2.1,x1.t.1,x1.t.2.1,x1.t.q.1,x1.t.q.2.1,zm x1.t.t.1,x1.t.t.2.1,x1.t.t.q.1,zm x1.t.t.q.2.1,x1.t.t.t)
 let a1:=RT a0
 let a2:=(a1.1,a1.2.1,a1.2.2.1,a1.2.2.2.1,a1.t.1,a1.t.2.1,a1.t.q.1,a1.t.q.2.1,zm a1.t.t.1,a1.t.t.2.1,a1.t.t.q.1,zm a1.t.t.q.2.1,a1.t.t.t)
 let a3:=SW (Ep x0) a2
 let a4:=(a3.1.1,a3.1.2.1,a3.1.2.2.1,(a3.1.2.2.2.1.1,a3.1.2.2.2.1.2.1,a3.1.2.2.2.1.2.2.1,a3.1.2.2.2.1.2.2.2.1,a3.1.2.2.2.1.t.1,zm a3.1.2.2.2.1.t.2),a3.1.t)
 let a5:=KL a4 (Ep x0)
 Qc (KK x0)
 (Qc (KH a0)
  (Qc (K0 (Ep x0) a2) (br (a3.2!=0) (re (tup [agg [str [],str [],str [],str [],Qb,ai 0,Qb,Qb,str [],ai 0,ai 0,str [],str [],Qb,Qb,ai 0],Qb,kb Q4]) []) (Qc (FM a4 (Ep x0)) (re (tup [agg
  [str a5.1.1,str a5.1.2.1,str a5.1.2.2.1,str a5.1.2.2.2.1.1,sl zj a5.1.2.2.2.1.2.1,ai a5.1.2.2.2.1.2.2.1,sl zg a5.1.2.2.2.1.2.2.2.1,sl zr a5.1.2.2.2.1.t.1,str (ze.op a5.1.2.2.2.1.t.2),ai (ze.v a5.1.2.2.2.1.t.2).1,ai (ze.v a5.1.2.2.2.1.t.2).2.1,
  str (ze.v a5.1.2.2.2.1.t.2).2.2,str (ze.s a5.1.2.2.2.1.t.2),sl Sh.expr (ze.l a5.1.2.2.2.1.t.2),sl zg a5.1.t.1,ai a5.1.t.2],sl zh a5.2.1,AV.bool a5.2.2]) [])))))
noncomputable def pQ(x0:Sem zh.sl)(x1:Sem zk):=al [zE,zh.sl,Q7] t0 100000000 (i7u x0 x1)
noncomputable def vV(x0:Sem zh.sl)(x1:Sem zk):=(pQ x0 x1).isSome
noncomputable def Bb(x0:Sem zh.sl)(x1:Sem zk):=o3 (pQ x0 x1)
noncomputable def F7u:=FT [zh.sl,zk] [zE,zh.sl,Q7] λx=>pQ x.1 x.2.1
theorem ze5:FK 7 F7u:=Ea.T1 (f:=Tryz.f7) (keep:=k0) (e:=e0)
noncomputable def Mg:=X7.add 7 F7u
theorem vN:zw Mg:=Ea.add ze5
noncomputable def QK:bT:={Mg with sh:=λt=>if t=2 then Q1 (.int .i64)else Mg.sh t}
theorem AM:zw QK where
 sh:=λt e h=>by
  have h':(if t=2 then Q1 (.int .i64)else Mg.sh t)=Q1 e:=h;split at h'
  ·rename_i ht;subst ht;cases h';exact Jz kw
  ·exact vN.sh t e h'
 fs:=vN.fs
 mix:=vN.mix
noncomputable def i9u:Tr (Empty⊕aw):=
 Qc Q3
 (Qc Q3
  (Qc Q3 (Qc Q3 (Qc Q3 (br Q4 (re (kb Q4) []) (Qc Q3 (Qc Q3 (Qc Q3 (Qc Q3 (re (AV.bool Q3) []))))))))))
noncomputable def yS:=al [Q7] t0 100000000 (i9u)
noncomputable def yR:=(yS).isSome
noncomputable def CH:=o1 (yS)
noncomputable def F9u:=FT [] [Q7] λ_=>yS
theorem zfl:FK 9 F9u:=AM.T1 (f:=Tryz.f9) (keep:=k0) (e:=e0)
noncomputable def zfO:=QK.add 9 F9u
theorem Ob:zw zfO:=AM.add zfl
noncomputable section
abbrev zkV:=mV [(9,[5,7,8,10,11,12,13,14,15])]
inductive XF where
 |h9 (l8:List (Sem zh)) (l10:List (Sem zf)) (i11:Sem zg) (l12:List (Sem zf.sl)) (i13:Sem zg) (i15:Int) (z0:zn [CP.d zf]) (z1:zn [CP.d zE])
 |h9b (l8:List (Sem zh)) (l10:List (Sem zf)) (i11:Sem zg) (l12:List (Sem zf.sl)) (i13:Sem zg) (b14:Bool) (i15:Int) (z0:zn [CP.d zf]) (z1:zn [CP.d zE])
abbrev e3u:XF->Nat×St
 |.h9 l8 l10 i11 l12 i13 i15 z0 z1=>(9,⟨tm 95 [(5,ptr 0 0),(7,ptr 1 0),(8,sl zh l8),(10,sl zf l10),(11,ai i11),(12,sl zf.sl l12),(13,ai i13),(14,kb Q4),(15,ai i15)],[AO.box (bx [] [CP.d zf] z0),AO.box (bx [] [CP.d zE] z1)]⟩)
 |.h9b l8 l10 i11 l12 i13 b14 i15 z0 z1=>(9,⟨tm 95 [(5,ptr 0 0),(7,ptr 1 0),(8,sl zh l8),(10,sl zf l10),(11,ai i11),(12,sl zf.sl l12),(13,ai i13),(14,AV.bool b14),(15,ai i15)],[AO.box (bx [] [CP.d zf] z0),AO.box (bx [] [CP.d zE] z1)]⟩)
def i3u(x0:Sem zh.sl)(x1:Sem zk)(x2:Sem zf):Tr (XF⊕aw):=
 let a0:=(x1.1,x1.2.1,x1.2.2.1,x1.2.2.2.1,x1.t.1,x1.t.2.1,x1.t.q.1,x1.t.q.2.1,zm x1.t.t.1,x1.t.t.2.1,x1.t.t.q.1,zm x1.t.t.q.2.1,x1.t.t.t)
 let a1:=Bb x0 a0
 let a2:=(a1.1.1,a1.1.2.1,a1.1.2.2.1,(a1.1.2.2.2.1.1,a1.1.2.2.2.1.2.1,a1.1.2.2.2.1.2.2.1,a1.1.2.2.2.1.2.2.2.1,a1.1.2.2.2.1.t.1,zm a1.1.2.2.2.1.t.2),a1.1.t)
 let a3:=TB a2 a1.2.1
 let a4:=TC a2 a1.2.1 (nz x2)
 Qc (vV x0 a0)
 (br (!a1.2.2) (Qc Q3 (re (AV.bool CH) []))
  (Qc (LB a2 a1.2.1) (Qc (LD a2 a1.2.1 (nz x2)) (Tr.to (XF.h9 a1.2.1 a3.1 a3.2 a4.1 a4.2 0 (nz x2,()) (a1.1,()))))))
def Pg:XF->Tr (XF⊕aw)
 | .h9 l8 l10 i11 l12 i13 i15 z0 z1=>
  let a0:=l10.getD i15.toNat (zi zf)
  let a1:=zP 0 l8.length
  let a2:=l8.getD (toNat 0) (zi zh)
  let a3:=(↑(length a2.2):Int)
  let a4:=Q0 ((↑l10.length:Int)>a3)
  let a5:=z1.1.1==[99,111,112,121]
  let a6:=Q0 ((↑l12.length:Int)>0)==Q4
  br (Q0 (i15<(↑l10.length:Int)))
  (Qc (zP i15 l10.length) (Tr.to (XF.h9b l8 l10 i11 l12 i13 (a0.1==z0.1.1&&(a0.2.1==z0.1.2.1&&(a0.2.2==z0.1.2.2&&Q3))) (IntKind.i64.wrap (i15+1)) z0 z1)))
  (Qc (bif i11 !=0 then Q3 else bif i13 !=0 then Q3 else a1&&bif a4 then Q3 else bif a5 then a1 else Q3) (br (bif i11 !=0 then Q3 else bif i13 !=0 then Q3 else bif a4 then Q3 else bif a5 then(↑l10.length:Int)!=a3 else Q4) (re (kb Q4) []) (Qc (bif a6 then yR else Q3) (re (AV.bool (bif a6 then CH else Q4)) []))))
 | .h9b l8 l10 i11 l12 i13 b14 i15 z0 z1=>
  let a0:=l10.getD i15.toNat (zi zf)
  let a1:=zP 0 l8.length
  let a2:=l8.getD (toNat 0) (zi zh)
  let a3:=(↑(length a2.2):Int)
  let a4:=Q0 ((↑l10.length:Int)>a3)
  let a5:=z1.1.1==[99,111,112,121]
  let a6:=Q0 ((↑l12.length:Int)>0)==b14
  br (Q0 (i15<(↑l10.length:Int)))
  (Qc (bif b14 then Q3 else zP i15 l10.length) (Tr.to (XF.h9b l8 l10 i11 l12 i13 (bif b14 then Q3 else a0.1==z0.1.1&&(a0.2.1==z0.1.2.1&&(a0.2.2==z0.1.2.2&&Q3))) (IntKind.i64.wrap (i15+1)) z0 z1)))
  (Qc (bif i11 !=0 then Q3 else bif i13 !=0 then Q3 else a1&&bif a4 then Q3 else bif a5 then a1 else Q3) (br (bif i11 !=0 then Q3 else bif i13 !=0 then Q3 else bif a4 then Q3 else bif a5 then(↑l10.length:Int)!=a3 else Q4) (re (kb Q4) []) (Qc (bif a6 then yR else Q3) (re (AV.bool (bif a6 then CH else Q4)) []))))
def FL(x0:Sem zh.sl)(x1:Sem zk)(x2:Sem zf):=al [Q7] Pg 100000000 (i3u x0 x1 x2)
def F3u:=FT [zh.sl,zk,zf] [Q7] λx=>FL x.1 x.2.1 x.2.2.1
theorem zeu:FK 3 F3u:=Ob.T1 (f:=Tryz.f3) (keep:=zkV) (e:=e3u)
end
def RgV(v:Sem zf):Prop:=LE.le (α:=Int) (-9223372036854775808) v.2.1/\LE.le (α:=Int) v.2.1 9223372036854775807
mutual
def Pf:ze->Prop
 |.mk _ v _ l=>RgV v/\Fa l
def Fa:List ze->Prop
 |[]=>True
 |e::r=>Pf e/\Fa r
end
theorem Fa.mem:∀{l:List ze},Fa l->∀e∈l,Pf e
 |[],_,e,h=>by simp at h
 | x::r,h,e,he=>by
  rw[Fa]at h;rcases ce.1 he with rfl|he
  ·exact h.1
  ·exact Fa.mem h.2 e he
theorem jI.app:∀{a b:List ze},jI a->jI b->jI (a++b)
 |[],_,_,h=>h
 | x::r,b,h,hb=>by
  rw[jI]at h;rw[List.cons_append,jI];exact⟨h.1,h.2.app hb⟩
theorem JG(k:Nat)(s:zA)(h:k<=1000):(List.take (toNat (k:Int)-toNat 0) (List.drop (toNat 0) s)).length<=1000000:=by
 simp;omega
theorem Sg{n k:Nat}(h:¬Q0 ((n:Int)>(k:Int))=Q3)(hk:k<=1000):n<=1000000:=by
 have:¬(n:Int)>(k:Int):=by simpa using h
 omega
theorem jI.of:∀{l:List ze},(∀x∈l,rD x)->jI l
 |[],_=>by rw[jI];trivial
 |x::r,h=>by rw[jI];exact⟨h x sw,jI.of λy hy=>h y (by simp[hy])⟩
theorem xU{e:ze}(h:Pf e):rD (gB e):=by
 obtain⟨r,m,h1,h2⟩:=FE (P:=λ_ e r=>Pf e->rD r) (λN e o t s l hl _ ht hs hr=>by
  obtain⟨op,v,s',l'⟩:=e;rw[Pf]at hr;rw[rD];exact⟨⟨hr.1.1,hr.1.2,by show t.length<=_;omega⟩,ow,jI.of λy hy=>by
   obtain⟨x,hx,hxy⟩:=hl y hy;exact hxy (hr.2.mem x hx)⟩) 16 e 14 80 ow ow ow
 unfold gB;rw[ze.eta,show qN 16 e 14 80=(r,m) by unfold qN;rw[h1];rfl];exact h2 h
theorem Cj(s:zA):(iT s).length<=1000000:=by
 unfold iT;split
 ·exact JG 20 s ow
 ·exact Sg (k:=20) (by assumption) ow
theorem RX(l:List (Sem zj)):(jl l).length<=9/\∀c∈jl l,length c.1<=1000000:=by
 refine⟨by show((List.take 9 l).map _).length<=9;rw[cN,ot];omega,λc hc=>?_⟩;obtain⟨x,_,rfl⟩:=bm.1 hc;exact Cj x.1
theorem Wx{t:Sem zo}(h:Pf t.t.2):JO (CD t):=by
 have hc:=RX t.2.1;refine⟨Cj _,hc.2,cL hc.1 ow,?_,?_,λf hf=>?_,xU h⟩
 ·show(List.take 10 _).length<=_;rw[ot];omega
 ·show((List.take 10 _).map _).length<=_;rw[cN,ot];omega
 ·obtain⟨g,_,rfl⟩:=bm.1 hf;exact Cj _
theorem WA{v:Sem zf}(h:RgV v):lD (nz v):=by
 unfold nz;split
 ·exact⟨h.1,h.2,JG 60 v.2.2 ow⟩
 ·exact⟨h.1,h.2,Sg (k:=60) (by assumption) ow⟩
theorem Iz{l:List (Sem zf)}(h:∀v∈l,RgV v):∀v∈ln l,lD v:=λv hv=>by
 obtain⟨x,hx,rfl⟩:=bm.1 hv;exact WA (h x (List.mem_of_mem_take hx))
structure RgR (x:Sem zh):Prop where
 chk:Pf x.1.t.2
 vals:∀r∈x.2,∀v∈(r:List (Sem zf)),RgV v
theorem RV{x:Sem zh}(h:RgR x):TO (xn x):=by
 obtain⟨rows,h1,h2⟩:=Iy x;have h3:xn x=(CD x.1,rows):=by unfold xn;rw[h2];rfl
 rw[h3];refine⟨Wx h.chk,by show rows.length<=1000;have:=h1.1;omega,λr hr v hv=>?_⟩;obtain⟨r0,hr0,rfl⟩:=h1.2 r hr;exact Iz (h.vals r0 hr0) v hv
structure RgS (s:Sem zk):Prop where
 chk:Pf s.t.t.1
 whr:Pf s.t.t.q.2.1
 row:∀v∈s.t.t.2.1,RgV v
 sets:∀x∈s.t.t.q.1,Pf (x:Sem gS).2
theorem RU{s:Sem zk}(h:RgS s):∃s':Sem zk,vU s=Q1 (s',())/\JT s'/\nY s':=by
 obtain⟨s',h1,h2,h3⟩:=KI s;refine⟨s',h1,h2,h2.sh,?_,?_,h2.cp,?_,?_,?_⟩
 ·rw[h3.chk];exact xU h.chk
 ·rw[h3.whr];exact xU h.whr
 ·rw[h3.whr];exact Fk _
 ·rw[h3.row];exact Iz h.row
 ·intro x hx;obtain⟨y,hy,he⟩:=h3.sets x hx;rw[he];exact⟨xU (h.sets y hy),Fk _⟩
open Go
abbrev U0:Nat->Prop:=λ_=>False
abbrev iw:Nat->Option Value:=λ_=>Q2
def Ph(P:Program)(T:TypeId->Sh->Bool):List Field->Nat->Sh->Bool
 |[],_,_=>Q4
 |[f],off,s=>f.offset==off&&(T f.type s&&P.cellsOf f.type==s.size)
 |f::fs,off,.pr a b=>f.offset==off&&(T f.type a&&(P.cellsOf f.type==a.size&&Ph P T fs (off+a.size) b))
 |_,_,_=>Q4
def pP(P:Program)(t:TypeId):Bool:=match P.underlying t with
 |some .string=>P.cellsOf t==1
 |_=>Q4
def Mp(P:Program)(t e:TypeId):Bool:=match P.underlying t with
 |some (.slice u)=>u==e&&P.cellsOf t==1
 |_=>Q4
def LA(P:Program):Nat->TypeId->Sh->Bool
 |0,_,_=>Q4
 | n+1,t,s=>match P.underlying t,s with
  |some .bool,.bool=>Q3
  |some (.int k),.int k'=>k==k'
  |some .string,.str=>Q3
  |some (.slice e),.sl s=>P.cellsOf e==s.size&&(Q0 (0<s.size)&&LA P n e s)
  | some (.struct fs),.expr=>match fs.toList with
   |[a,b,c,d]=>P.cellsOf t==6&&(a.offset==0&&(b.offset==1&&(c.offset==4&&(d.offset==5&&(pP P a.type&&(pP P c.type&&(Mp P d.type t&&(P.cellsOf b.type==3&&LA P n b.type (.pr (.int .i64) (.pr (.int .i64) .str))))))))))
   |_=>Q4
  |some (.struct fs),.pr a b=>P.cellsOf t==(Sh.pr a b).size&&Ph P (LA P n) fs.toList 0 (.pr a b)
  |_,_=>Q4
section
variable {H:Type} {enc:TypeId×Value->H} {P:Program} {w:World} {sp:Nat->Bool} {held:Bool}
def Got(w:World)(s:Sh)(cs:List Value):Prop:=∃x:Sem s,di w U0 iw (zp s x) cs/\∀v∈cs,v.oneCell'=Q3
theorem cR{α β:Type}{f:α->Option β}{a:α}{l:List α}{r:List β}(h:(a::l).mapM f=Q1 r):∃y ys,f a=Q1 y/\l.mapM f=Q1 ys/\r=y::ys:=by
 rw[List.mapM_cons]at h;cases hy:f a with
 |none=>rw[hy]at h;simp at h
 | some y=>
  cases hys:l.mapM f with
  |none=>rw[hy,hys]at h;simp at h
  | some ys=>
   rw[hy,hys]at h;simp at h;exact⟨y,ys,rfl,rfl,h.symm⟩
theorem IG{α β:Type}{f:α->Option β}:∀{l:List α}{r:List β},l.mapM f=Q1 r->∀x∈l,∃y,f x=Q1 y
 |[],_,_,_,hx=>by simp at hx
 | a::l,r,h,x,hx=>by
  obtain⟨y,ys,h1,h2,_⟩:=cR h;rcases ce.1 hx with rfl|hx
  ·exact⟨y,h1⟩
  ·exact IG h2 x hx
theorem Be{α β:Type}{f:α->Option β}:∀{l:List α}{r:List β},l.mapM f=Q1 r->r.length=l.length/\∀(i:Nat) a,l[i]?=Q1 a->f a=r[i]?
 |[],r,h=>by simp at h;subst h;simp
 | a::l,r,h=>by
  obtain⟨y,ys,h1,h2,rfl⟩:=cR h;obtain⟨h3,h4⟩:=Be h2;refine⟨by simp[h3],λi b hi=>?_⟩;cases i with
  |zero=>simp at hi;subst hi;simpa using h1
  |succ i=>simpa using h4 i b (by simpa using hi)
theorem Hx(a:Addr)(h:a.spot=Q2)(n:Nat):a.add n=⟨a.block,a.off+n,Q2⟩:=by
 obtain⟨b,o,s⟩:=a;simp only at h;subst h;unfold Addr.add;split
 ·rename_i h;subst h;rfl
 ·rfl
theorem di.take{cs:List AV}{vs:List Value}(h:di w U0 iw cs vs)(n:Nat):di w U0 iw (cs.take n) (vs.take n):=by
 refine⟨by simp[h.len],λj c v hc hv=>?_⟩;rw[List.getElem?_take]at hc hv;split at hc
 ·rename_i hj;rw[if_pos hj]at hv;exact h.rv j c v hc hv
 ·cases hc
theorem di.appS{a b:List AV}{x y:List Value}(h:di w U0 iw a x)(h':di w U0 iw b y):di w U0 iw (a++b) (x++y):=by
 refine⟨by simp[h.len,h'.len],λj c v hc hv=>?_⟩;by_cases hj:j<a.length
 ·rw[mI hj]at hc;rw[mI (by rw[<-h.len];exact hj)]at hv;exact h.rv j c v hc hv
 ·rw[nQ ow]at hc;rw[nQ (by rw[<-h.len];omega),<-h.len]at hv;exact h'.rv _ c v hc hv
theorem di.one{c:AV}{v:Value}(h:Rv w U0 iw c v):di w U0 iw [c] [v]:=by
 refine⟨rfl,λj d u hd hu=>?_⟩;cases j with
 |zero=>simp at hd hu;subst hd;subst hu;exact h
 |succ j=>simp at hd
theorem AR{fuel:Nat}{T:TypeId->Sh->Bool}(hT:∀t s cs d ps,T t s=Q3->DataW.trod enc P w 0 sp held fuel t cs=Q1 (d,ps)->Got w s cs){cs:List Value}:
  ∀(fl:List Field)(off:Nat)(s:Sh) xs,Ph P T fl off s=Q3->(fl.mapM λf=>DataW.trod enc P w 0 sp held fuel f.type ((cs.drop f.offset).take (P.cellsOf f.type)))=Q1 xs->Got w s ((cs.drop off).take s.size)
 |[],_,_,_,h,_=>by simp[Ph]at h
 | [f],off,s,xs,h,hm=>by
  simp only[Ph,aD,aX]at h;obtain⟨h1,h2,h3⟩:=h;obtain⟨y,ys,hy,_,_⟩:=cR hm;rw[h1,h3]at hy;exact hT _ _ _ _ _ h2 hy
 | f::g::fs,off,.pr a b,xs,h,hm=>by
  simp only[Ph,aD,aX]at h;obtain⟨h1,h2,h3,h4⟩:=h;obtain⟨y,ys,hy,hys,_⟩:=cR hm;rw[h1,h3]at hy;obtain⟨x1,r1,o1⟩:=hT _ _ _ _ _ h2 hy;obtain⟨x2,r2,o2⟩:=AR hT (g::fs) (off+a.size) b ys h4 hys;have hl1:((cs.drop off).take a.size).length=a.size:=by rw[<-r1.len,zU]
  have hsplit:(cs.drop off).take (a.size+b.size)=(cs.drop off).take a.size++(cs.drop (off+a.size)).take b.size:=by
   rw[List.take_add,Dz]
  refine⟨(x1,x2),?_,?_⟩
  ·show di w U0 iw (zp a x1++zp b x2) ((cs.drop off).take (a.size+b.size));rw[hsplit];exact r1.appS r2
  ·intro v hv;have hv:v∈(cs.drop off).take (a.size+b.size):=hv;rw[hsplit,cK]at hv;exact hv.elim (o1 v) (o2 v)
 |_::_::_,_,.unit,_,h,_=>by simp[Ph]at h
 |_::_::_,_,.bool,_,h,_=>by simp[Ph]at h
 |_::_::_,_,.int _,_,h,_=>by simp[Ph]at h
 |_::_::_,_,.str,_,h,_=>by simp[Ph]at h
 |_::_::_,_,.sl _,_,h,_=>by simp[Ph]at h
 |_::_::_,_,.expr,_,h,_=>by simp[Ph]at h
theorem E1{fuel:Nat}{t e:TypeId}{s:Sh}(ht:P.underlying t=Q1 (.slice e))(hc:P.cellsOf e=s.size)(hpos:0<s.size)
  (hT:∀cs d ps,DataW.trod enc P w 0 sp held fuel e cs=Q1 (d,ps)->Got w s cs) {cs:List Value} {d:DataW H} {ps:List MemPlace} (h:DataW.trod enc P w 0 sp held (fuel+1) t cs=Q1 (d,ps)):Got w (.sl s) cs:=by
 unfold DataW.trod at h;rw[ht]at h;split at h
 all_goals first
  |(rename_i hu;cases hu;done)
  |(rename_i hu _;cases hu;done)
  |(simp at h;done)
  |skip
 ·rename_i hu;cases hu;exact⟨[],di.one (.sl0 s Q2 0),by simp[Value.oneCell']⟩
 ·rename_i a len cap hu;cases hu;simp only[ba,true_and]at h;split at h
  ·rename_i hcond;rw[fJ]at h;obtain⟨elems,he,_⟩:=h;have hall:∀i,∃x:Sem s,i<len->∃ci,w.cells? 0 (a.add (i*s.size)) s.size=Q1 ci/\di w U0 iw (zp s x) ci:=by
    intro i;by_cases hi:i<len
    ·obtain⟨y,hy⟩:=IG he i (by simpa using hi);rw[fJ]at hy;obtain⟨ci,h1,h2⟩:=hy;obtain⟨x,hx,_⟩:=hT ci y.1 y.2 h2;rw[hc]at h1;exact⟨x,λ_=>⟨ci,h1,hx⟩⟩
    ·exact⟨zi s,λh=>(hi h).elim⟩
   obtain⟨X,hX⟩:=Classical.axiomOfChoice hall;have hmax:maxLen=aE:=rfl;cases len with
   |zero=>exact⟨[],di.one (.sl0 s (Q1 a) cap),by simp[Value.oneCell']⟩
   | succ len=>
    have hcell:∀i,i<len+1->∃ci,ci.length=s.size/\(∀j,j<s.size->w.cell? ((a.add (i*s.size)).add j)=ci[j]?)/\di w U0 iw (zp s (X i)) ci:=by
     intro i hi;obtain⟨ci,h1,h2⟩:=hX i hi;unfold World.cells? at h1;rw[if_pos (ba _)]at h1;obtain⟨h3,h4⟩:=Be h1;refine⟨ci,by simpa using h3,λj hj=>?_,h2⟩;exact h4 j j (by simp[hj])
    have hspot:a.spot=Q2:=by
     obtain⟨ci,h1,h2,_⟩:=hcell 0 ow;have:=h2 0 hpos;simp only[Nat.zero_mul,Addr.add,if_true]at this;rw[zQ ow]at this;unfold World.cell? at this;split at this
     ·split at this
      ·cases this
      ·rename_i hs;cases hsp:a.spot with
       |none=>rfl
       |some q=>rw[hsp]at hs;simp at hs
     ·cases this
    have hblk:a.block<w.heap.size:=by
     obtain⟨ci,h1,h2,_⟩:=hcell 0 ow;have:=h2 0 hpos;simp only[Nat.zero_mul,Addr.add,if_true]at this;rw[zQ ow]at this;have ha:a=⟨a.block,a.off,Q2⟩:=by rw[<-hspot]
     rw[ha]at this;exact sT this
    have hci:∀i,∃ci:List Value,i<len+1->ci.length=s.size/\(∀j,j<s.size->w.cell? ⟨a.block,a.off+i*s.size+j,Q2⟩=ci[j]?)/\di w U0 iw (zp s (X i)) ci:=by
     intro i;by_cases hi:i<len+1
     ·obtain⟨ci,h1,h2,h3⟩:=hcell i hi;refine⟨ci,λ_=>⟨h1,λj hj=>?_,h3⟩⟩;rw[<-h2 j hj,Hx a hspot,Hx _ rfl]
     ·exact⟨[],λh=>(hi h).elim⟩
    obtain⟨Cs,hCs⟩:=Classical.axiomOfChoice hci;let l:List (Sem s):=(List.range (len+1)).map X
    have hl:l.length=len+1:=by simp[l]
    have hget:∀i(hi:i<l.length),l[i]=X i:=by intro i hi;simp[l]
    refine⟨l,di.one ?_,by simp[Value.oneCell']⟩;have ha:a=⟨a.block,a.off,Q2⟩:=by rw[<-hspot]
    rw[ha,<-hl];refine .sl s l a.block a.off cap (λi j=>((Cs i)[j]?).getD undef) ow ow hblk (λh=>h) ?_ ?_
    ·intro i j hi hj;obtain⟨h1,h2,_⟩:=hCs i ow;rw[h2 j hj,zQ ow];rfl
    ·intro i hi j c hc';obtain⟨h1,_,h3⟩:=hCs i ow;rw[hget i hi]at hc';have hj:j<(Cs i).length:=by
      have:=(cV.1 hc').1;rw[h3.len]at this;exact this
     have:=h3.rv j c _ hc' (zQ hj);rw[zQ hj];exact this
  ·cases h
theorem GS{fuel:Nat}{t:TypeId}(ht:P.underlying t=Q1 .string){cs:List Value}{d:DataW H}{ps:List MemPlace}(h:DataW.trod enc P w 0 sp held fuel t cs=Q1 (d,ps)):Got w .str cs:=by
 cases fuel with
 |zero=>simp[DataW.trod]at h
 | succ fuel=>
  unfold DataW.trod at h;rw[ht]at h;split at h
  all_goals first
   |(rename_i hu;cases hu;done)
   |(rename_i hu _;cases hu;done)
   |(simp at h;done)
   |skip
  rename_i s hu;split at h
  ·rename_i hs;refine⟨s.data.toList,di.one ?_,by simp[Value.oneCell']⟩;have h9:maxLen=aE:=rfl;have h8:s.size=s.data.toList.length:=rfl;exact .str s.data.toList ow
  ·cases h
theorem A7{t:TypeId}(h:pP P t=Q3):P.underlying t=Q1 .string/\P.cellsOf t=1:=by
 unfold pP at h;split at h
 ·rename_i hu;exact⟨hu,by simpa using h⟩
 ·cases h
theorem Rt{t e:TypeId}(h:Mp P t e=Q3):P.underlying t=Q1 (.slice e)/\P.cellsOf t=1:=by
 unfold Mp at h;split at h
 ·rename_i u hu;simp only[aD,aX]at h;rw[<-h.1];exact⟨hu,h.2⟩
 ·cases h
theorem pm:∀(fuel n:Nat)(t:TypeId)(s:Sh)(cs:List Value)(d:DataW H)(ps:List MemPlace),LA P n t s=Q3->DataW.trod enc P w 0 sp held fuel t cs=Q1 (d,ps)->Got w s cs
 |0,_,_,_,_,_,_,_,h=>by simp[DataW.trod]at h
 |fuel+1,0,_,_,_,_,_,hty,_=>by simp[LA]at hty
 | fuel+1,n+1,t,s,cs,d,ps,hty,h=>by
  have h0:=h;unfold LA at hty;split at hty
  ·rename_i hu;unfold DataW.trod at h;rw[hu]at h;split at h
   all_goals first
    |(rename_i hu';cases hu';done)
    |(rename_i hu' _;cases hu';done)
    |(simp at h;done)
    |skip
   exact⟨_,di.one (.bool _),by simp[Value.oneCell']⟩
  ·rename_i k k' hu;have hk:k=k':=by simpa using hty
   subst hk;unfold DataW.trod at h;rw[hu]at h;split at h
   all_goals first
    |(rename_i hu';cases hu';done)
    |(rename_i hu' _;cases hu';done)
    |(simp at h;done)
    |skip
   rename_i k1 k2 m hu';cases hu';split at h
   ·rename_i hw;obtain⟨rfl,hw⟩:=hw;simp only[Lit.wf,aD,aN]at hw;exact⟨m,di.one (.int _ _ ⟨hw.1,hw.2⟩),by simp[Value.oneCell']⟩
   ·cases h
  ·rename_i hu;exact GS hu h
  ·rename_i e s hu;simp only[aD,aX,aN]at hty;exact E1 hu hty.1 hty.2.1 (λcs d ps h=>pm fuel n e s cs d ps hty.2.2 h) h
  ·rename_i fs hu;split at hty
   ·rename_i a b c d' hfs;simp only[aD,aX]at hty;obtain⟨hsz,ha,hb,hc,hd,sa,sc,sd,zb,tb⟩:=hty;obtain⟨sa,za⟩:=A7 sa;obtain⟨sc,zc⟩:=A7 sc;obtain⟨sd,zd⟩:=Rt sd;unfold DataW.trod at h;rw[hu]at h;simp only at h;split at h
    ·rename_i hlen;rw[ea]at h;obtain⟨xs,hm,_⟩:=h;rw[hfs]at hm;obtain⟨ya,r1,ya1,hm,_⟩:=cR hm;obtain⟨yb,r2,yb1,hm,_⟩:=cR hm;obtain⟨yc,r3,yc1,hm,_⟩:=cR hm;obtain⟨yd,r4,yd1,hm,_⟩:=cR hm;rw[ha,za]at ya1;rw[hb,zb]at yb1;rw[hc,zc]at yc1;rw[hd,zd]at yd1;obtain⟨xa,ga,oa⟩:=GS sa ya1;obtain⟨xb,gb,ob⟩:=pm fuel n b.type _ _ _ _ tb yb1;obtain⟨xc,gc,oc⟩:=GS sc yc1;have hgd:Got w (.sl .expr) ((cs.drop 5).take 1):=by
      cases fuel with
      |zero=>simp[DataW.trod]at yd1
      | succ fuel=>
       refine E1 sd (by rw[hsz];rfl) (by decide) (λcs d ps h=>pm fuel (n+1) t .expr cs d ps ?_ h) yd1;unfold LA;rw[hu];simp only[hfs,aD,aX];refine⟨hsz,ha,hb,hc,hd,?_,?_,?_,zb,tb⟩
       ·simp[pP,sa,za]
       ·simp[pP,sc,zc]
       ·simp[Mp,sd,zd]
     obtain⟨xd,gd,od⟩:=hgd;have hl6:cs.length=6:=by rw[hlen,hsz]
     have hcs:cs=(cs.drop 0).take 1++((cs.drop 1).take 3++((cs.drop 4).take 1++(cs.drop 5).take 1)):=by
      match cs,hl6 with
      |[v0,v1,v2,v3,v4,v5],_=>rfl
     refine⟨ze.mk xa xb xc xd,?_,?_⟩
     ·have hr:=ga.appS (gb.appS (gc.appS gd));rw[<-hcs]at hr;exact hr
     ·intro v hv;rw[hcs]at hv;simp only[cK]at hv;rcases hv with hv|hv|hv|hv
      ·exact oa v hv
      ·exact ob v hv
      ·exact oc v hv
      ·exact od v hv
    ·cases h
   ·cases hty
  ·rename_i fs a b hu;simp only[aD,aX]at hty;unfold DataW.trod at h;rw[hu]at h;simp only at h;split at h
   ·rename_i hlen;rw[ea]at h;obtain⟨xs,hm,_⟩:=h;have:=AR (λt s cs d ps h1 h2=>pm fuel n t s cs d ps h1 h2) fs.toList 0 (.pr a b) xs hty.2 hm;rw[List.drop_zero,LY (by rw[hlen,hty.1];exact aB _)]at this;exact this
   ·cases h
  ·cases hty
termination_by fuel=>fuel
theorem xP{n:Nat}{t:TypeId}{s:Sh}{v:Value}{d:DataW H}{ps:List MemPlace}(hty:LA P n t s=Q3)(h:DataW.Trod enc P w 0 sp held t v d ps)(hagg:(∃cs,v=.agg cs)↔s.isAgg=Q3)(hsc:s.isAgg=Q4->v.cells=#[v]):∃x:Sem s,Rv w U0 iw (zC s x) v:=by
 obtain⟨fuel,h⟩:=h;obtain⟨x,hr,ho⟩:=pm fuel n t s _ d ps hty h;refine⟨x,?_⟩;unfold zC;cases hs:s.isAgg with
 | true=>
  obtain⟨cs,rfl⟩:=hagg.2 hs;simp only;have:=Rv.agg (w:=w) (U:=U0) (ρ:=iw) (zp s x) cs.toList hr.len ho hr.rv;simpa using this
 | false=>
  simp only;rw[hsc hs]at hr;have hlen:=hr.len
  match he:zp s x,hlen with
  | [c],_=>
   rw[he]at hr;exact hr.rv 0 c v rfl rfl
end
open Go Go.RowKit Go.ChangeShapes
theorem FJ{W W':World}(hos:W'.os=W.os)(hout:W'.output=W.output)(h:∀b,b<W.heap.size->W'.heap[b]?=W.heap[b]?)(may:MemPlace->Prop):W.keptBut W' may:=by
 refine⟨hos,hout,λi hi=>?_⟩;rw[h i hi];cases W.heap[i]? with
 |none=>rfl
 | some o=>
  cases o with
  |cells c t fr=>exact⟨rfl,rfl,rfl,λ_ _=>rfl⟩
  |map es clock=>exact .inr ⟨rfl,rfl⟩
  |_=>rfl
section
variable {H:Type} {enc:TypeId×Value->H} {P:Program}
theorem IS{f:Func}{s:ChangeSpec}{fresh handsOn again:Bool}{W W':World}{args:Array Value}{v:Value}{ds gs:List (DataW H)}{before pa pv:List MemPlace}
  (hW:DataW.Whole enc P f.params.toList s.vars Q4 W args.toList ds gs before)
  (hres:∀(b:Nat)(sp:Nat->Bool)(hd:Bool),DataW.TrodAll enc P W' b sp hd f.resultTypes.toList (v.resultList f.resultTypes.size) (s.fn H (ds++gs)).results [])
  (hargs:∀sp:Nat->Bool,(∀p∈before,sp p.block=Q3)->DataW.TrodAll enc P W' 0 sp Q3 f.params.toList args.toList (s.fn H (ds++gs)).args pa)
  (hvars:∀sp:Nat->Bool,(∀p∈before,sp p.block=Q3)->DataW.TrodVars enc P W' sp s.vars (s.fn H (ds++gs)).vars pv)
  (hps:before=pa++pv) (hk:W.keptBut W' (·∈before)) (hfz:∀a:Addr,a.block<W.heap.size->W'.frozen? a=W.frozen? a)
  (hok:∀(j:Nat)(t:TypeId)(r:Value),f.resultTypes[j]?=Q1 t->(v.resultList f.resultTypes.size)[j]?=Q1 r->Value.okWide P W' .any 0 t r):
  s.post enc P f Q4 fresh handsOn again W args v W':=by
 have hold:∀p∈before,(λb=>Q0 (b<W.heap.size)) p.block=Q3:=λp hp=>by simpa using hW.lt p hp
 have hlt:=hW.lt;refine⟨ds,gs,before,[],pa,pv,hW,hres _ _ _,hargs _ hold,hvars _ hold,World.keptBut_mono (λp hp=>⟨hp,?_⟩) hk,λ_=>?_⟩
 ·rw[hps,cK]at hp;exact Or.inr hp
 ·obtain⟨_,_,_,_,_,hz,hn⟩:=hW;refine⟨hok,_,_,([]++pa)++pv,⟨[]++pa,pv,trodAll_append (hargs _ (λ_ _=>rfl)) (hres _ _ _),hvars _ (λ_ _=>rfl),rfl,?_,?_⟩,?_⟩
  ·intro b off hp;have hp':MemPlace.cell b off∈before:=by rw[hps];simpa using hp
   rw[hfz ⟨b,off,Q2⟩ (hlt _ hp')];exact hz b off hp'
  ·intro ha;cases ha
  ·intro p hp _;rw[hps];simpa using hp
theorem OE{W:World}{r:Go.Reach}{b:Nat}{t:TypeId}{fs:Array Field}{v:Value}(ht:P.underlying t=Q1 (.struct fs))(h:Value.okWide P W r b t v):∃cs,v=.agg cs:=by
 unfold Value.okWide at h;rw[ht]at h;obtain⟨cs,rfl,_⟩:=h;exact⟨cs,rfl⟩
theorem Sy{W:World}{r:Go.Reach}{b:Nat}{t e:TypeId}{v:Value}(ht:P.underlying t=Q1 (.slice e))(h:Value.okWide P W r b t v):∃a n c,v=.slice a n c:=by
 unfold Value.okWide at h;rw[ht]at h;simp only at h;unfold Cell.okWide at h;rw[ht]at h;unfold Cell.ok at h;rw[ht]at h;cases v<;>simp at h
 exact⟨_,_,_,rfl⟩
theorem zca{W:World}{r:Go.Reach}{b:Nat}{t:TypeId}{k:IntKind}{v:Value}(ht:P.underlying t=Q1 (.int k))(h:Value.okWide P W r b t v):∃n,v=.int k n:=by
 unfold Value.okWide at h;rw[ht]at h;simp only at h;unfold Cell.okWide at h;rw[ht]at h;unfold Cell.ok at h;rw[ht]at h;cases v<;>simp at h
 exact⟨_,by rw[h.1]⟩
theorem Kw{W:World}{r:Go.Reach}{b n:Nat}{t:TypeId}{fs:Array Field}{s:Sh}{v:Value}{d:DataW H}{ps:List MemPlace}(hty:LA P n t s=Q3)(hs:s.isAgg=Q3)(ht:P.underlying t=Q1 (.struct fs))(hok:Value.okWide P W r b t v)
  (h:DataW.Trod enc P W 0 (λ_=>Q3) Q3 t v d ps):∃x:Sem s,Rv W U0 iw (zC s x) v:=by
 refine xP hty h ⟨λ_=>hs,λ_=>OE ht hok⟩ (λh'=>?_);rw[hs]at h';cases h'
theorem Og{W:World}{r:Go.Reach}{b n:Nat}{t e:TypeId}{s:Sh}{v:Value}{d:DataW H}{ps:List MemPlace}(hty:LA P n t (.sl s)=Q3)(ht:P.underlying t=Q1 (.slice e))(hok:Value.okWide P W r b t v)
  (h:DataW.Trod enc P W 0 (λ_=>Q3) Q3 t v d ps):∃x:List (Sem s),Rv W U0 iw (.sl s x) v:=by
 obtain⟨a,m,c,rfl⟩:=Sy ht hok;exact xP (s:=.sl s) hty h ⟨(λ⟨_,hh⟩=>(by cases hh)),(λhh=>(by cases hh))⟩ (λ_=>rfl)
theorem Vt{W:World}{r:Go.Reach}{b n:Nat}{t:TypeId}{k:IntKind}{v:Value}{d:DataW H}{ps:List MemPlace}(hty:LA P n t (.int k)=Q3)(ht:P.underlying t=Q1 (.int k))(hok:Value.okWide P W r b t v)
  (h:DataW.Trod enc P W 0 (λ_=>Q3) Q3 t v d ps):∃x:Int,Rv W U0 iw (.int k x) v:=by
 obtain⟨m,rfl⟩:=zca ht hok;exact xP (s:=.int k) hty h ⟨(λ⟨_,hh⟩=>(by cases hh)),(λhh=>(by cases hh))⟩ (λ_=>rfl)
theorem J4{gl:Nat->AV}{k:FuncId}{F:zX}(hF:nO P gl k F){W:World}{iX:List AV}{args:Array Value}(hgl:CT gl W U0)(hr:di W U0 iw iX args.toList)(hv:(F iX (λ_=>.dead) 0).val=Q1 {val:=.bool Q3})(hid:AV.idsL iX=[]):
  Calls P k args W λe W'=>e=.returned (.bool Q3)/\lz W W'/\∀b,b<W.heap.size->W'.heap[b]?=W.heap[b]?:=by
 have:=(hF.calls W U0 iw (λ_=>.dead) 0 iX args.toList _ [] hv hr (λ_ h=>h.elim) hgl ⟨sw,sw⟩ (by rw[hid];simp) sw sw).1;rw[show args.toList.toArray=args by simp]at this;refine this.mono ?_;rintro e w' ⟨v,U',ρ',rfl,hef⟩;have hv':=hef.val;cases hv';exact⟨rfl,hef.ext,λb hb=>hef.same b hb sw⟩
end
open Go Go.Proofs Go.RowKit Go.ChangeShapes Go.WideShapes Go.ChangeAt Go.Proofs.YtkmcdhahdadkpaaGreatDoor
theorem IA{P:Program}{w:World}:∀{l:List (String×DataW Unit)}{ps:List MemPlace},DataW.LaidVars P w l ps->∀n d,(n,d)∈l->
  ∃g t cs fuel p,P.globalNamed n=Q1 g/\(P.globals[g]?).map (·.type)=Q1 t/\w.var? P n=Q1 cs/\DataW.trod (λ_=>()) P w 0 (λ_=>Q3) Q4 fuel t cs.toList=Q1 (d,p)
 |[],_,_,_,_,h=>by simp at h
 | (n0,d0)::r,ps,h,n,d,hm=>by
  obtain⟨g,t,cs,fuel,p,q,h1,h2,h3,h4,h5,_⟩:=h;rcases ce.1 hm with e|hm
  ·cases e;exact⟨g,t,cs,fuel,p,h1,h2,h3,h4⟩
  ·exact IA h5 n d hm
theorem FN{P:Program}{l:List (String×DataW Unit)}{w:World}(hf:(l.filter λx=>x.2.handleName?.isSome).isEmpty=Q3)(h:laidMetH P l w):laidMet P l w:=by
 unfold laidMetH at h;split at h
 ·exact h
 ·rename_i a b hab;rw[hab]at hf;simp at hf
theorem pn{H:Type}{enc:TypeId×Value->H}{P:Program}{w:World}{base:Nat}{sp:Nat->Bool}{held:Bool}{fuel:Nat}{t:TypeId}(ht:P.underlying t=Q1 .string){cs:List Value}{b:List UInt8}{p:List MemPlace}
  (h:DataW.trod enc P w base sp held fuel t cs=Q1 (.lit (.string b),p)):cs=[.string ⟨b.toArray⟩]:=by
 cases fuel with
 |zero=>simp[DataW.trod]at h
 | succ fuel=>
  unfold DataW.trod at h;rw[ht]at h;split at h
  all_goals first
   |(rename_i hu;cases hu;done)
   |(rename_i hu _;cases hu;done)
   |(simp at h;done)
   |skip
  rename_i s hu;split at h
  ·simp only[bw,cm,DataW.lit.injEq,Lit.string.injEq]at h;rw[<-h.1]
  ·cases h
theorem Tz{H:Type}{enc:TypeId×Value->H}{P:Program}{w:World}{base:Nat}{sp:Nat->Bool}{held:Bool}{fuel:Nat}{t:TypeId}(ht:P.underlying t=Q1 (.int .u64)){cs:List Value}{z:Int}{p:List MemPlace}
  (h:DataW.trod enc P w base sp held fuel t cs=Q1 (.lit (.int .u64 z),p)):cs=[.int .u64 z]:=by
 cases fuel with
 |zero=>simp[DataW.trod]at h
 | succ fuel=>
  unfold DataW.trod at h;rw[ht]at h;split at h
  all_goals first
   |(rename_i hu;cases hu;done)
   |(rename_i hu _;cases hu;done)
   |(simp at h;done)
   |skip
  all_goals(try split at h)
  all_goals first
   |(cases h;done)
   |(simp at h;done)
   |skip
  all_goals simp_all
theorem DB{W:World}{l:List (String×DataW Unit)}(h:laidMet Tryz.prog l W){name:String}{g:Nat}{t e:TypeId}{len:Nat}{ds:List (DataW Unit)}(hm:(name,DataW.agg ds)∈l)
  (hg:Tryz.prog.globalNamed name=Q1 g) (ht:(Tryz.prog.globals[g]?).map (·.type)=Q1 t) (hu:Tryz.prog.underlying t=Q1 (.array len e)) (hc:Tryz.prog.cellsOf e=1):
  ∃cs T fr,W.heap[g]?=Q1 (.cells cs T fr)/\∀(j:Nat) d,ds[j]?=Q1 d->∃fuel p,DataW.trod (λ_=>()) Tryz.prog W 0 (λ_=>Q3) Q4 fuel e ((cs.toList.drop j).take 1)=Q1 (d,p):=by
 obtain⟨ps,hL,_,_⟩:=h;obtain⟨g',t',cs,fuel,p,h1,h2,h3,h4⟩:=IA hL name _ hm;rw[hg]at h1;cases h1;rw[ht]at h2;cases h2;have hvar:∃T fr,W.heap[g]?=Q1 (.cells cs T fr):=by
  unfold World.var? at h3;rw[hg]at h3;simp only[Option.bind_some]at h3;split at h3
  ·rename_i c T fr hh;cases h3;exact⟨T,fr,hh⟩
  ·cases h3
 obtain⟨T,fr,hblk⟩:=hvar;refine⟨cs,T,fr,hblk,?_⟩;cases fuel with
 |zero=>simp[DataW.trod]at h4
 | succ fuel=>
  unfold DataW.trod at h4;rw[hu]at h4;simp only at h4;split at h4
  ·rw[ea]at h4;obtain⟨xs,hm',hx⟩:=h4;simp only[cm,DataW.agg.injEq]at hx;obtain⟨hl,hg'⟩:=Be hm';intro j d hj;rw[<-hx.1,eY,ea]at hj;obtain⟨⟨d',p'⟩,hj,rfl⟩:=hj;have hjl:j<xs.length:=(cV.1 hj).1;have hr:(List.range len)[j]?=Q1 j:=by
    rw[wJ];rw[hl,List.length_range]at hjl;exact hjl
   have:=hg' j j hr;rw[hj,hc,Nat.mul_one]at this;exact⟨fuel,p',this⟩
  ·cases h4
theorem Nn{cs:Array Value}{j:Nat}{v:Value}(h:(cs.toList.drop j).take 1=[v]):cs[j]?=Q1 v:=by
 have:=congrArg (·[0]?) h;simp only[List.getElem?_take,Ds]at this;simpa using this
theorem gl0{W:World}{l:List (String×DataW Unit)}(h:laidMet Tryz.prog l W)(hm:("caddis/stmt.types",Rows.laid_caddis_stmt_types)∈l):Rv W U0 iw (.eptr [.str [73,78,84],.str [84,69,88,84],.str [66,79,79,76]] 0) (.pointer (Q1 ⟨1,0,Q2⟩)):=by
 obtain⟨cs,T,fr,hb,hd⟩:=DB h (g:=1) (t:=305) (e:=9) (len:=3) hm kw kw kw kw;have hs9:Tryz.prog.underlying 9=Q1 .string:=by kernel_rfl
 have hcell:∀j,W.cell? ⟨1,j,Q2⟩=cs[j]?:=by
  intro j;unfold World.cell?;rw[hb];rfl
 obtain⟨_,_,g0⟩:=hd 0 _ rfl;obtain⟨_,_,g1⟩:=hd 1 _ rfl;obtain⟨_,_,g2⟩:=hd 2 _ rfl;have w0:=Nn (pn hs9 g0);have w1:=Nn (pn hs9 g1);have w2:=Nn (pn hs9 g2);refine .eptr [.str [73,78,84],.str [84,69,88,84],.str [66,79,79,76]] 0 1 0 (λj=>match j with
  |0=>.string ⟨#[73,78,84]⟩
  |1=>.string ⟨#[84,69,88,84]⟩
  |_=>.string ⟨#[66,79,79,76]⟩) (sT (by rw[hcell];exact w0)) (λh=>h) ?_ ?_ ?_
 ·intro j hj
  match j,hj with
  |0,_=>rw[hcell];exact w0
  |1,_=>rw[hcell];exact w1
  |2,_=>rw[hcell];exact w2
 ·intro j hj
  match j,hj with
  |0,_=>rfl
  |1,_=>rfl
  |2,_=>rfl
 ·intro j c hc
  match j,hc with
  |0,hc=>simp at hc;subst hc;exact .str [73,78,84] (by simp[aE])
  |1,hc=>simp at hc;subst hc;exact .str [84,69,88,84] (by simp[aE])
  |2,hc=>simp at hc;subst hc;exact .str [66,79,79,76] (by simp[aE])
  |j+3,hc=>simp at hc
set_option maxRecDepth 100000 in
theorem gl2{W:World}(h:W.ShapedOpen Tryz.prog):Rv W U0 iw .gint (.pointer (Q1 ⟨0,0,Q2⟩)):=by
 have h0:((begin Tryz.prog (λ_ _=>0) default).world.heap[0]?).bind Obj.row?=Q1 (#[.int .i64 0],3):=by kernel_rfl
 obtain⟨cs,hh,hs,hr⟩:=h.1 0 _ _ (kW kw) h0;obtain⟨ts,hts,_,hall⟩:=hr kw;have hc:Tryz.prog.cellTypes Tryz.prog.depth 3=Q1 [3]:=by kernel_rfl
 rw[hc]at hts;cases hts;have h1:cs.size=1:=hs;obtain⟨u,hu,hok⟩:=hall 0 cs[0] sw;have:u=3:=by simpa using hu.symm
 subst this;have hi:Tryz.prog.underlying 3=Q1 (.int .i64):=by kernel_rfl
 unfold Cell.ok at hok;rw[hi]at hok;have hcs:cs=#[cs[0]]:=by
  apply Array.ext
  ·simp[h1]
  ·intro i h2 h3;have:i=0:=by omega
   subst this;rfl
 cases hv:cs[0]<;>rw[hv]at hok<;>simp at hok
 rename_i k n;obtain⟨rfl,hn⟩:=hok;refine .gint n 0 3 (0,0) hn ?_ (λh=>h);rw[hh,hcs,hv]
theorem gl5{W:World}{l:List (String×DataW Unit)}(h:laidMet Tryz.prog l W)(hs:W.ShapedOpen Tryz.prog)(hm:("internal/strconv.uint64pow10",Rows.laid_internal_strconv_uint64pow10)∈l):Rv W U0 iw (.tab .u64 lG) (.pointer (Q1 ⟨5,0,Q2⟩)):=by
 obtain⟨cs,T,fr,hb,hd⟩:=DB h (g:=5) (t:=361) (e:=224) (len:=20) hm kw kw kw kw;have hu:Tryz.prog.underlying 224=Q1 (.int .u64):=by kernel_rfl
 have h0:((begin Tryz.prog (λ_ _=>0) default).world.heap[5]?).bind Obj.row?=Q1 (Array.replicate 20 (.int .u64 0),361):=by kernel_rfl
 obtain⟨cs',hh,hsz,_⟩:=hs.1 5 _ _ (kW kw) h0;rw[hb]at hh;have hcs:cs=cs':=by simp only[bw,Obj.cells.injEq]at hh;exact hh.1
 have hlen:cs.size=20:=by rw[hcs,hsz];simp
 have key:cs=(lG.map λz=>Value.int .u64 z).toArray:=by
  apply Array.ext
  ·rw[hlen];rfl
  ·intro i h1 h2;have hd':∀(j:Nat) z,lG[j]?=Q1 z->cs[j]?=Q1 (.int .u64 z):=by
    intro j z hz;obtain⟨_,_,g⟩:=hd j (.lit (.int .u64 z)) (by
     have:(match(Rows.laid_internal_strconv_uint64pow10:DataW Unit)with|.agg l=>l|_=>[])=lG.map λz=>DataW.lit (.int .u64 z):=by kernel_rfl
     have e2:(match(Rows.laid_internal_strconv_uint64pow10:DataW Unit)with|.agg l=>l|_=>[])[j]?=Q1 (.lit (.int .u64 z)):=by
      rw[this,eY,hz];rfl
     exact e2)
    exact Nn (Tz hu g)
   have hi:i<lG.length:=by simpa using h2
   have:=hd' i lG[i] (zQ hi);rw[sL h1,bw]at this;rw[this,List.getElem_toArray,List.getElem_map]
 exact .tab .u64 lG 5 T fr (by rw[hb,key]) (λh=>h)
theorem RY:laidOutB Tryz.prog=Q3:=kw
def vS(P:Program)(t:TypeId):Bool:=match P.underlying t with
 |some (.struct _)=>Q3
 |_=>Q4
theorem FI{P:Program}{t:TypeId}(h:vS P t=Q3):∃fs,P.underlying t=Q1 (.struct fs):=by
 unfold vS at h;split at h
 ·exact⟨_,‹_›⟩
 ·cases h
theorem un4:Tryz.prog.underlying 4=Q1 .bool:=kw
theorem ziJ{H:Type}{enc:TypeId×Value->H}{W W':World}(hsame:∀b,b<W.heap.size->W'.heap[b]?=W.heap[b]?){t:TypeId}{v:Value}{d:DataW H}{ps:List MemPlace}(hr:Tryz.prog.readableRec t=Q3)(hrow:t<Tryz.prog.types.size)
  (h:DataW.Trod enc Tryz.prog W 0 (λ_=>Q3) Q3 t v d ps) (hlt:∀p∈ps,p.block<W.heap.size) {sp:Nat->Bool} (hs:∀p∈ps,sp p.block=Q3):DataW.Trod enc Tryz.prog W' 0 sp Q3 t v d ps:=
 WideElems.Trod_stays RY hr hrow h (λp hp=>by
  have h1:=hsame p.block (hlt p hp);cases p with
  |cell b off=>exact World.cell?_of_block h1
  |map b=>exact h1) hs
theorem Vq{W:World}{l:List (String×DataW Unit)}(hL:laidMet Tryz.prog l W)(hs:W.ShapedOpen Tryz.prog)(h0:("caddis/stmt.types",Rows.laid_caddis_stmt_types)∈l)(h5:("internal/strconv.uint64pow10",Rows.laid_internal_strconv_uint64pow10)∈l):CT Oe W U0:=by
 intro g
 match g with
 |0=>exact gl2 hs
 |1=>exact gl0 hL h0
 |2=>exact .any _
 |3=>exact .any _
 |4=>exact .any _
 |5=>exact gl5 hL hs h5
 |g+6=>exact .any _
theorem OD{P:Program}{W:World}{r:Go.Reach}{b:Nat}{t:TypeId}{v:Value}(ht:P.underlying t=Q1 .string)(h:Value.okWide P W r b t v):∃n,v=.string n:=by
 unfold Value.okWide at h;rw[ht]at h;simp only at h;unfold Cell.okWide at h;rw[ht]at h;unfold Cell.ok at h;rw[ht]at h;cases v<;>simp at h
 exact⟨_,rfl⟩
structure xD (t:TypeId) (s:Sh):Prop where
 got:∀{H:Type}{enc:TypeId×Value->H}{W:World}{r:Go.Reach}{b:Nat}{v:Value}{d:DataW H}{ps:List MemPlace},Value.okWide Tryz.prog W r b t v->DataW.Trod enc Tryz.prog W 0 (λ_=>Q3) Q3 t v d ps->∃x:Sem s,Rv W U0 iw (zC s x) v
 rd:Tryz.prog.readableRec t=Q3
 row:t<Tryz.prog.types.size
set_option maxRecDepth 100000 in
theorem xD.struct{t:TypeId}{s:Sh}{n:Nat}(hty:LA Tryz.prog n t s=Q3)(hs:s.isAgg=Q3)(ht:vS Tryz.prog t=Q3)(rd:Tryz.prog.readableRec t=Q3)(row:t<Tryz.prog.types.size):xD t s where
 got:=λhok h=>by
  obtain⟨fs,hu⟩:=FI ht;exact Kw hty hs hu hok h
 rd:=rd
 row:=row
set_option maxRecDepth 100000 in
theorem xD.slice{t e:TypeId}{s:Sh}{n:Nat}(hty:LA Tryz.prog n t (.sl s)=Q3)(ht:Tryz.prog.underlying t=Q1 (.slice e))(rd:Tryz.prog.readableRec t=Q3)(row:t<Tryz.prog.types.size):xD t (.sl s) where
 got:=λhok h=>Og hty ht hok h
 rd:=rd
 row:=row
set_option maxRecDepth 100000 in
theorem xD.int{t:TypeId}{k:IntKind}{n:Nat}(hty:LA Tryz.prog n t (.int k)=Q3)(ht:Tryz.prog.underlying t=Q1 (.int k))(rd:Tryz.prog.readableRec t=Q3)(row:t<Tryz.prog.types.size):xD t (.int k) where
 got:=λhok h=>Vt hty ht hok h
 rd:=rd
 row:=row
set_option maxRecDepth 100000 in
theorem xD.str{t:TypeId}{n:Nat}(hty:LA Tryz.prog n t .str=Q3)(ht:Tryz.prog.underlying t=Q1 .string)(rd:Tryz.prog.readableRec t=Q3)(row:t<Tryz.prog.types.size):xD t .str where
 got:=λhok h=>by
  obtain⟨m,rfl⟩:=OD ht hok;exact xP (s:=.str) hty h ⟨(λ⟨_,hh⟩=>(by cases hh)),(λhh=>(by cases hh))⟩ (λ_=>rfl)
 rd:=rd
 row:=row
inductive JZ:List TypeId->List Sh->Prop
 |nil:JZ [] []
 |cons {t:TypeId} {s:Sh} {ts:List TypeId} {ss:List Sh} (h:xD t s) (r:JZ ts ss):JZ (t::ts) (s::ss)
set_option maxRecDepth 100000 in
theorem JZ.got{ts:List TypeId}{ss:List Sh}(h:JZ ts ss):∀{H:Type}{enc:TypeId×Value->H}{W:World}{base:Nat}{vs:List Value}{ds:List (DataW H)}{ps:List MemPlace},
  (∀(j:Nat) t v,ts[j]?=Q1 t->vs[j]?=Q1 v->Value.okWide Tryz.prog W .any base t v)->DataW.TrodAll enc Tryz.prog W 0 (λ_=>Q3) Q3 ts vs ds ps->
  ds.length=ts.length/\(∃x:zy (ss.map Q1),di W U0 iw (iX (ss.map Q1) x) vs)/\
  ∀W',(∀b,b<W.heap.size->W'.heap[b]?=W.heap[b]?)->(∀p∈ps,p.block<W.heap.size)->∀sp:Nat->Bool,(∀p∈ps,sp p.block=Q3)->DataW.TrodAll enc Tryz.prog W' 0 sp Q3 ts vs ds ps:=by
 induction h with
 | nil=>
  intro H enc W base vs ds ps _ hT;obtain⟨rfl,rfl,rfl⟩:=trodAll_nil hT;exact⟨rfl,⟨(),rfl,λj c v hc=>by
   have h0:([]:List AV)[j]?=Q1 c:=hc;simp at h0⟩,λ_ _ _ _ _=>trodAll_mk0⟩
 | @cons t s ts ss h r IH=>
  intro H enc W base vs ds ps hok hT;obtain⟨v,vs,d,ds,p,q,rfl,rfl,rfl,hd,hrest⟩:=trodAll_cons hT;obtain⟨x,hx⟩:=h.got (hok 0 t v rfl rfl) hd;obtain⟨hl,⟨y,hy⟩,hk⟩:=IH (λj t v ht hv=>hok (j+1) t v ht hv) hrest;refine⟨by simp[hl],⟨(x,y),by show(zC s x::iX (ss.map Q1) y).length=_;simp[hy.len],λj c v' hc hv=>?_⟩,λW' hsame hlt sp hsp=>?_⟩
  ·have hc:(zC s x::iX (ss.map Q1) y)[j]?=Q1 c:=hc;cases j with
   | zero=>
    simp only[List.getElem?_cons_zero,bw]at hc hv;subst hc;subst hv;exact hx
   |succ j=>exact hy.rv j c v' hc hv
  ·exact trodAll_cons_mk (ziJ hsame h.rd h.row hd (λp hp=>hlt p (by simp[hp])) (λp hp=>hsp p (by simp[hp]))) (hk W' hsame (λp hp=>hlt p (by simp[hp])) sp (λp hp=>hsp p (by simp[hp])))
theorem L5:∀(ss:List Sh)(x:zy (ss.map Q1)),AV.idsL (iX (ss.map Q1) x)=[]
 |[],_=>rfl
 | s::ss,x=>by
  show(zC s x.1).ids++AV.idsL (iX (ss.map Q1) x.2)=[];rw[L5 ss x.2,wN];unfold zC;have hL:∀l:List AV,(∀c∈l,c.ids=[])->AV.idsL l=[]:=by
   intro l
   induction l with
   |nil=>intro _;rfl
   |cons c l ih=>intro h;simp only[AV.idsL,h c sw,ih λc hc=>h c (by simp[hc]),wN]
  have hE:∀c∈zp s x.1,c.ids=[]:=λc hc=>by
   obtain⟨j,hj,rfl⟩:=gY hc;exact ld s x.1 j _ (zQ hj)
  cases s.isAgg with
  |true=>exact hL _ hE
  | false=>
   cases hh:zp s x.1 with
   |nil=>rfl
   |cons c l=>exact hE c (by rw[hh];simp)
set_option maxRecDepth 100000 in
theorem NR{k:FuncId}{f:Func}{s:ChangeSpec}{F:zX}{ts:List TypeId}{ss:List Sh}(hF:nO Tryz.prog Oe k F)(hpar:f.params=ts.toArray)(hp:JZ ts ss)(hrt:f.resultTypes=#[4])(hvars:s.vars=[])
  (hfn:∀(H:Type)(ds:List (DataW H)),ds.length=ts.length->s.fn H ds={results:=[.lit (.bool Q3)],args:=ds})
  {H:Type} {enc:TypeId×Value->H} {W:World} {base:Nat} {args:Array Value} {ds gs:List (DataW H)} {before:List MemPlace}
  (hv:∀x:zy (ss.map Q1),di W U0 iw (iX (ss.map Q1) x) args.toList->(F (iX (ss.map Q1) x) (λ_=>.dead) 0).val=Q1 {val:=.bool Q3})
  (hval:∀(j:Nat) t v,f.params[j]?=Q1 t->args[j]?=Q1 v->Value.okWide Tryz.prog W .any base t v)
  (hW:DataW.Whole enc Tryz.prog f.params.toList s.vars Q4 W args.toList ds gs before) (hgl:CT Oe W U0):
  Calls Tryz.prog k args W λe W'=>∃v,e=.returned v/\s.post enc Tryz.prog f Q4 Q3 Q4 Q4 W args v W':=by
 have hW':=hW;obtain⟨p,q,hA0,hV,rfl,hfz,hnd⟩:=hW;have hA:DataW.TrodAll enc Tryz.prog W 0 (λ_=>Q3) Q3 f.params.toList args.toList ds p:=hA0;rw[hpar]at hA;rw[hvars]at hV;obtain⟨rfl,rfl⟩:=trodVars_none hV;have hlt:=hW'.lt;obtain⟨hl,⟨x,hx⟩,hk⟩:=hp.got (base:=base) (λj t v ht hv=>hval j t v (by rw[hpar];simpa using ht) (by simpa using hv)) hA;have hc:=J4 hF (args:=args) hgl hx (hv x hx) (L5 ss x);refine hc.mono λe' W' ⟨he,hext,hsame⟩=>?_
 subst he;have hf2:s.fn H (ds++[])={results:=[.lit (.bool Q3)],args:=ds}:=by rw[wN];exact hfn H ds hl
 refine⟨_,rfl,IS (pa:=p) (pv:=[]) hW' (λ_ _ _=>?_) (λsp hsp=>?_) (λ_ _=>?_) sw (FJ hext.os hext.out hsame _) hext.fr (ok_one hrt rfl (okWide_bool_mk un4 _))⟩
 ·rw[hf2,hrt];exact trodAll_cons_mk (shut_bool un4 _) trodAll_mk0
 ·rw[hf2,hpar];exact hk W' hsame (λp hp=>hlt p (by simpa using hp)) sp (λp hp=>hsp p (by simpa using hp))
 ·rw[hf2,hvars];rfl
open Go Go.Proofs Go.RowKit Go.ChangeShapes Go.WideShapes Go.ChangeAt
section
variable {w:World} {U:Nat->Prop} {ρ:Nat->Option Value}
def JX(w:World)(U:Nat->Prop)(ρ:Nat->Option Value)(l:List AV):Prop:=∀(j:Nat)(c:AV),l[j]?=Q1 c->∃v,Rv w U ρ c v
theorem Ir{n:Int}{v:Value}(h:Rv w U ρ (.int .i64 n) v):-9223372036854775808<=n/\n<=9223372036854775807:=by
 cases h with
 |int _ _ h=>simpa[cF,IntKind.min,IntKind.max,IntKind.signed,IntKind.bits]using h
theorem qD{e:Sh}{l:List (Sem e)}{v:Value}(h:Rv w U ρ (.sl e l) v):∀x∈l,JX w U ρ (zp e x):=by
 intro x hx;cases h with
 |sl0=>simp at hx
 | sl _ _ _ _ _ vals hc hm hb hU hcell hr=>
  obtain⟨i,hi,rfl⟩:=gY hx;exact λj c h=>⟨_,hr i hi j c h⟩
theorem QZ{v:Sem zf}(h:JX w U ρ (zp zf v)):RgV v:=by
 obtain⟨_,h⟩:=h 1 _ rfl;exact Ir h
mutual
theorem A3:∀(e:ze),JX w U ρ (zp .expr e)->Pf e
 | .mk op v s l,h=>by
  rw[Pf];obtain⟨_,h2⟩:=h 2 _ rfl;obtain⟨_,h5⟩:=h 5 _ rfl;exact⟨Ir h2,Mm l λx hx=>qD h5 x hx⟩
theorem Mm:∀(l:List ze),(∀x∈l,JX w U ρ (zp .expr x))->Fa l
 |[],_=>by rw[Fa];trivial
 |x::r,h=>by rw[Fa];exact⟨A3 x (h x sw),Mm r λy hy=>h y (by simp[hy])⟩
end
theorem zbj{x:Sem zh}(h:JX w U ρ (zp zh x)):RgR x where
 chk:=A3 _ λj c hc=>match j,hc with
  |0,hc=>h 5 c hc
  |1,hc=>h 6 c hc
  |2,hc=>h 7 c hc
  |3,hc=>h 8 c hc
  |4,hc=>h 9 c hc
  |5,hc=>h 10 c hc
  |j+6,hc=>by simp[zp]at hc
 vals:=by
  obtain⟨_,h⟩:=h 11 _ rfl;intro r hr v hv;obtain⟨_,h⟩:=qD h r hr 0 _ rfl;exact QZ (qD h v hv)
end
theorem PG{w:World}{U:Nat->Prop}{ρ:Nat->Option Value}{cs:List AV}{v:Value}(h:Rv w U ρ (.agg cs) v):JX w U ρ cs:=by
 intro j c hc;cases h with
 | agg _ vs hl h1 hr=>
  have hj:j<vs.length:=by have:=(cV.1 hc).1;omega
  exact⟨vs[j],hr j c _ hc (zQ hj)⟩
theorem zbk{w:World}{U:Nat->Prop}{ρ:Nat->Option Value}{s:Sem zk}(h:JX w U ρ (zp zk s)):RgS s where
 chk:=A3 _ λj c hc=>match j,hc with
  |0,hc=>h 8 c hc
  |1,hc=>h 9 c hc
  |2,hc=>h 10 c hc
  |3,hc=>h 11 c hc
  |4,hc=>h 12 c hc
  |5,hc=>h 13 c hc
  |j+6,hc=>by simp[zp]at hc
 whr:=A3 _ λj c hc=>match j,hc with
  |0,hc=>h 16 c hc
  |1,hc=>h 17 c hc
  |2,hc=>h 18 c hc
  |3,hc=>h 19 c hc
  |4,hc=>h 20 c hc
  |5,hc=>h 21 c hc
  |j+6,hc=>by simp[zp]at hc
 row:=by
  obtain⟨_,h⟩:=h 14 _ rfl;exact λv hv=>QZ (qD h v hv)
 sets:=by
  obtain⟨_,h⟩:=h 15 _ rfl;intro x hx;have h:=qD h x hx;exact A3 _ λj c hc=>match j,hc with
   |0,hc=>h 1 c hc
   |1,hc=>h 2 c hc
   |2,hc=>h 3 c hc
   |3,hc=>h 4 c hc
   |4,hc=>h 5 c hc
   |5,hc=>h 6 c hc
   |j+6,hc=>by simp[zp]at hc
theorem Ty{p:Sem zE}{db src:List (Sem zh)}{ok:Bool}(h:Bz p db=Q1 (src,ok,())):xZ p db=Q1 (p,src,ok,()):=by
 have c1:K1 p db=Q3:=by unfold K1;rw[h];rfl
 have c2:SY p db=(src,ok):=by unfold SY;rw[h];rfl
 have e:p=(p.1,p.2.1,p.2.2.1,(p.2.2.2.1.1,p.2.2.2.1.2.1,p.2.2.2.1.2.2.1,p.2.2.2.1.2.2.2.1,p.2.2.2.1.t.1,zm p.2.2.2.1.t.2),p.t):=by rw[zl]
 refine(zM (i:=zbp p db) (t:=t0) (n:=100000000) (outs:=[zE,zh.sl,Q7]) (by
  simp only[zbp,zl,Prod.eta,Q8,c1,c2,if_true];rfl) (y:=((p.1,p.2.1,p.2.2.1,(p.2.2.2.1.1,p.2.2.2.1.2.1,p.2.2.2.1.2.2.1,p.2.2.2.1.2.2.2.1,p.2.2.2.1.t.1,zm p.2.2.2.1.t.2),p.t),src,ok,())) rfl).trans ?_
 rw[<-e]
theorem KY{x0:List (Sem zh)}{x1:Sem zk}(hx:∀x∈x0,RgR x)(h1:RgS x1):
  ∃(p:Sem zE)(src:List (Sem zh))(ok:Bool),pQ x0 x1=Q1 (p,src,ok,())/\(ok=Q3->∃db,de db p/\src=bK db p/\∀x∈db,TO x):=by
 obtain⟨db,d1,d2,d3⟩:=RW x0;obtain⟨s,s1,s2,s3⟩:=RU h1;have hdb:Ep x0=db:=by unfold Ep;rw[d1];rfl
 have hdc:KK x0=Q3:=by unfold KK;rw[d1];rfl
 have hs:RT x1=s:=by unfold RT;rw[s1];rfl
 have hsc:KH x1=Q3:=by unfold KH;rw[s1];rfl
 have hwf:∀x∈db,TO x:=by
  intro x hxm;obtain⟨y,hy,rfl⟩:=d3 x hxm;exact RV (hx y hy)
 have hsh:∀x∈db,gz x:=λx hxm=>(hwf x hxm).short
 have q1:=SX hwf s3;have hqc:K0 db s=Q3:=by unfold K0;rw[q1];rfl
 have hq:SW db s=((aS db s).2,(aS db s).1):=by unfold SW;rw[q1];rfl
 by_cases h0:(aS db s).1=0
 ·have hP:=SQ hsh h0 s2;have ht:=Ty (SZ hsh hP.fnd);generalize(aS db s).2=p at hq hP ht;rw[h0]at hq;have t1:FM p db=Q3:=by unfold FM;rw[ht];rfl
  have t2:KL p db=(p,bK db p,Q3):=by unfold KL;rw[ht];rfl
  refine⟨p,bK db p,Q3,?_,λ_=>⟨db,hP,rfl,hwf⟩⟩;have e:p=(p.1,p.2.1,p.2.2.1,(p.2.2.2.1.1,p.2.2.2.1.2.1,p.2.2.2.1.2.2.1,p.2.2.2.1.2.2.2.1,p.2.2.2.1.t.1,zm p.2.2.2.1.t.2),p.t):=by rw[zl]
  refine(zM (i:=i7u x0 x1) (t:=t0) (n:=100000000) (outs:=[zE,zh.sl,Q7]) (by
   simp only[i7u,zl,Prod.eta,Q8,hdb,hdc,hs,hsc,hq,hqc,t1,t2,oq,zG,if_true,if_false];rfl) (y:=((p.1,p.2.1,p.2.2.1,(p.2.2.2.1.1,p.2.2.2.1.2.1,p.2.2.2.1.2.2.1,p.2.2.2.1.2.2.2.1,p.2.2.2.1.t.1,zm p.2.2.2.1.t.2),p.t),bK db p,Q3,())) rfl).trans ?_
  rw[<-e]
 ·have hb:((aS db s).1!=0)=Q3:=by simpa using h0
  refine⟨jn,[],Q4,?_,λh=>by cases h⟩;refine zM (i:=i7u x0 x1) (t:=t0) (n:=100000000) (outs:=[zE,zh.sl,Q7]) (r:=(tup [agg [str [],str [],str [],str [],Qb,ai 0,Qb,Qb,str [],ai 0,ai 0,str [],str [],Qb,Qb,ai 0],Qb,kb Q4],[])) ?_ rfl;simp only[i7u,zl,Prod.eta,Q8,hdb,hdc,hs,hsc,hq,hqc,hb,if_true]
theorem JI:yS=Q1 (Q3,()):=zM (i:=i9u) (r:=(.bool Q3,[])) rfl rfl
theorem pq:yR=Q3/\CH=Q3:=⟨by unfold yR;rw[JI];rfl,by unfold CH;rw[JI];rfl⟩
theorem de.uall{db:List (Sem zh)}{p:Sem zE}(h:de db p):Hb p (bK db p)=Q1 (mz p (bK db p),0,()):=by
 obtain⟨c1,c2⟩:=MR h.go;refine zM (r:=(tup [sl zf (mz p (bK db p)),ai 0],[])) ?_ rfl;simp only[zgg,zl,Prod.eta,Q8,c1,c2,h.all,oq,zG,if_true,if_false]
def sF(l8:List (Sem zh))(l10:List (Sem zf))(l12:List (List (Sem zf)))(v:Sem zf)(p:Sem zE)(b:Bool):Nat->XF
 |0=>.h9 l8 l10 0 l12 0 ((0:Nat):Int) (v,()) (p,())
 |i+1=>.h9b l8 l10 0 l12 0 b ((i+1:Nat):Int) (v,()) (p,())
theorem Vo{x0:List (Sem zh)}{x1:Sem zk}{x2:Sem zf}(hx:∀x∈x0,RgR x)(h1:RgS x1):FL x0 x1 x2=Q1 (Q3,()):=by
 obtain⟨p,src,ok,h,hok⟩:=KY hx h1;have hc:vV x0 x1=Q3:=by unfold vV;rw[h];rfl
 have hp:Bb x0 x1=(p,src,ok):=by unfold Bb;rw[h];rfl
 cases ok with
 | false=>
  refine zM (r:=(.bool Q3,[])) ?_ rfl;simp only[i3u,zl,Prod.eta,Q8,hc,hp,pq.2,dp,if_true]
 | true=>
  obtain⟨db,hP,rfl,_⟩:=hok rfl;have ha:=hP.uall;have a1:LB p (bK db p)=Q3:=by unfold LB;rw[ha];rfl
  have a2:TB p (bK db p)=(mz p (bK db p),0):=by unfold TB;rw[ha];rfl
  have hr:=hP.rows (nz x2);have r1:LD p (bK db p) (nz x2)=Q3:=by unfold LD;rw[hr];rfl
  have r2:TC p (bK db p) (nz x2)=((xe db p).2.filter (KC (nX p (bK db p)) (nz x2)),0):=by unfold TC;rw[hr];rfl
  have hi:=hP.is (nz x2);have hfew:=hP.few;have hfull:=hP.full;have hrl:=hP.rel.few;have hlen:zP 0 (bK db p).length=Q3:=zu (i:=0) (uK hP.go.two).1;generalize hv:nz x2=v at r1 r2 hi;generalize hL:mz p (bK db p)=L at a2 hi hfew hfull;generalize hR:(xe db p).2.filter (KC (nX p (bK db p)) v)=R at r2 hi;have hs:(i3u x0 x1 x2).val=Q1 (.inl (sF (bK db p) L R v p ((L.take 0).any (O2 · v)) 0)):=by
   simp only[i3u,zl,Prod.eta,Q8,hc,hp,hv,a1,a2,r1,r2,cu,zG,if_true,if_false];rfl
  have hLl:L.length<=200:=by omega
  have hg:=zR.all (t:=Pg) 1 (λi=>sF (bK db p) L R v p ((L.take i).any (O2 · v)) i) L.length λi hi=>zR.of (by
   have hx:(L.take (i+1)).any (O2 · v)=((L.take i).any (O2 · v)||O2 L[i] v):=by
    rw[bZ hi,List.any_append];simp
   rw[hx];cases i with
   | zero=>
    show(Pg (.h9 _ _ _ _ _ _ _ _)).val=_;simp only[Pg,Q8,zH hi,zu hi,if_true,ac _ _ hi];rw[zq 0 um];rfl
   | succ i=>
    show(Pg (.h9b _ _ _ _ _ _ _ _ _)).val=_;simp only[Pg,Q8,zH hi,zu hi,if_true,ac _ _ hi];rw[zq (i+1) um];cases(L.take (i+1)).any (O2 · v)<;>rfl)
  have hg:zR Pg (L.length*1) (sF (bK db p) L R v p ((L.take 0).any (O2 · v)) 0) (sF (bK db p) L R v p ((L.take L.length).any (O2 · v)) L.length):=hg;rw[jE]at hg;have hb:(L.any (O2 · v))=Q0 (0<R.length):=by
   rw[iA,List.any_eq_true,aN];constructor
   ·rintro⟨x,hx,e⟩;rw[Hc.1 e]at hx;exact List.length_pos_iff.2 (hi.1 hx)
   ·intro hn;exact⟨v,hi.2 (List.length_pos_iff.1 hn),Hc.2 rfl⟩
  have c4:Q0 ((L.length:Int)>(length (getD (bK db p) (toNat 0) (zi zh)).2:Int))=Q4:=by
   have:L.length<=length (getD (bK db p) 0 (zi zh)).2:=hfew;simpa using this
  have c5:(bif p.1==[99,111,112,121]then(L.length:Int)!=(length (getD (bK db p) (toNat 0) (zi zh)).2:Int)else Q4)=Q4:=by
   by_cases h:p.1=[99,111,112,121]
   ·have e:L.length=length (getD (bK db p) 0 (zi zh)).2:=hfull h;simp[h,e]
   ·have e:(p.1==[99,111,112,121])=Q4:=by simpa using h
    rw[e,ay]
  have c6:(Q3&&bif p.1==[99,111,112,121]then Q3 else Q3)=Q3:=by cases p.1==[99,111,112,121]<;>rfl
  have hd:Q0 ((R.length:Int)>0)=Q0 (0<R.length):=by simp
  have hend:(Pg (sF (bK db p) L R v p (Q0 (0<R.length)) L.length)).val=Q1 (.inr (.bool Q3,[])):=by
   cases hLn:L.length with
   | zero=>
    have hf:Q0 (0<R.length)=Q4:=by
     rw[<-hb,List.length_eq_zero_iff.1 hLn];rfl
    show(Pg (.h9 _ _ _ _ _ _ _ _)).val=_;rw[hLn]at c4 c5;simp only[Pg,Q8,hLn,zz,c4,c5,c6,hlen,hd,hf,pq.1,pq.2,oq,ay,ag,zG,if_true,if_false,BEq.rfl]
   | succ n=>
    show(Pg (.h9b _ _ _ _ _ _ _ _ _)).val=_;rw[hLn]at c4 c5;simp only[Pg,Q8,hLn,zz,c4,c5,c6,hlen,hd,pq.1,pq.2,oq,ay,ag,zG,if_true,if_false,BEq.rfl]
  rw[hb]at hg;exact zx hs (hg.ends (zV.of hend)) ow rfl
theorem Vp(x:zy ([.sl zh,zk,zf].map Q1)){W:World}{vs:List Value}(hr:di W U0 iw (iX ([.sl zh,zk,zf].map Q1) x) vs):(F3u (iX ([.sl zh,zk,zf].map Q1) x) (λ_=>.dead) 0).val=Q1 {val:=.bool Q3}:=by
 obtain⟨db,s,v,u⟩:=x;have hr:di W U0 iw [.sl zh db,zC zk s,zC zf v] vs:=hr;have hl:=hr.len;have at':∀j c,([.sl zh db,zC zk s,zC zf v]:List AV)[j]?=Q1 c->∃v,Rv W U0 iw c v:=λj c hj=>by
  have hlt:j<vs.length:=by rw[<-hl];exact(cV.1 hj).1
  exact⟨vs[j],hr.rv j c _ hj (zQ hlt)⟩
 obtain⟨v0,h0⟩:=at' 0 _ rfl;obtain⟨v1,h1⟩:=at' 1 _ rfl;have e:s=(s.1,s.2.1,s.2.2.1,s.2.2.2.1,s.t.1,s.t.2.1,s.t.q.1,s.t.q.2.1,zm s.t.t.1,s.t.t.2.1,s.t.t.q.1,zm s.t.t.q.2.1,s.t.t.t):=by rw[zl,zl]
 have h:(F3u [.sl zh db,zC zk s,zC zf v] (λ_=>.dead) 0).val=(Qc (FL db (s.1,s.2.1,s.2.2.1,s.2.2.2.1,s.t.1,s.t.2.1,s.t.q.1,s.t.q.2.1,zm s.t.t.1,s.t.t.2.1,s.t.t.q.1,zm s.t.t.q.2.1,s.t.t.t) v).isSome (Tr.ok ({val:=.bool ((FL db (s.1,s.2.1,s.2.2.1,s.2.2.2.1,s.t.1,s.t.2.1,s.t.q.1,s.t.q.2.1,zm s.t.t.1,s.t.t.2.1,s.t.t.q.1,zm s.t.t.q.2.1,s.t.t.t) v).getD (cn [.bool])).1}:fI))).val:=by kernel_rfl
 show(F3u [.sl zh db,zC zk s,zC zf v] (λ_=>.dead) 0).val=_;rw[h,<-e,Vo (qD h0 · · |>zbj) (zbk (PG h1))];rfl
end Cad
