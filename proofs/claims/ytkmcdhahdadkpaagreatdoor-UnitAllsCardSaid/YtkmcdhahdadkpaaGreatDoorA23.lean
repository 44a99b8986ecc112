/- Sorting what the range over a map has collected. What the sorted keys are. The keys of a map without NULL, sorted. Units: all: the hand part. Units: all: the contract. -/
import Derived.Test.YtkmcdhahdadkpaaGreatDoorA22
import Derived.Test.YtkmcdhahdadkpaaGreatDoorA17
import Derived.Test.YtkmcdhahdadkpaaGreatDoorA13
import Derived.Test.YtkmcdhahdadkpaaGreatDoorA15
import Derived.Test.YtkmcdhahdadkpaaGreatDoorA08
import Derived.Carry
import Derived.ChangeSame
import Derived.RowKit3
import Derived.WideKeyArgs
import Derived.Test.YtkmcdhahdadkpaaGreatDoorA05
import Derived.Test.YtkmcdhahdadkpaaGreatDoorRows
import Derived.OpenShut
import Derived.ProofKit
import Derived.Test.YtkmcdhahdadkpaaGreatDoorA10
namespace Cad
open Go Go.Proofs Go.Sort
open Tr renaming chk→Qc,val→Q8
open AV renaming nils→Qb
open Sh renaming bool→Q7
open Bool renaming false→Q4,true→Q3
open Option renaming none→Q2,some→Q1
open Decidable renaming decide→Q0
open Int (toNat)
open List (getD length)
open Tr (chk br re)
open AV (nils agg tup ptr kb str sl)
set_option maxHeartbeats 4000000
theorem PA(p:Option Addr)(c:Nat)(fv:Value)(w:World):Calls Tryz.prog 61 #[.slice p 0 c,fv] w λe w'=>e=.returned (.tuple #[])/\w'=w:=
 AnyF.slices_SortFunc_none {Tryz.sortVal with} p c fv w
theorem ZW:∀E:List ((Int×Int×zD)×MapEntry),(∀p∈E,aR p.1=Q3)->∃l:List V3,l.map (·.1)=E.map (·.1)/\l.flatMap jQ=I8 E
 |[],_=>⟨[],rfl,rfl⟩
 | p::E,h=>by
  obtain⟨l,h1,h2⟩:=ZW E λq hq=>h q (tk _ hq)
  refine⟨⟨p.1,h p xn⟩::l,by simp[h1],?_⟩;rw[List.flatMap_cons,h2];rfl
def V7(w1:World)(ents':Array MapEntry)(v:Value)(w':World):Prop:=
 ∃(E:List ((Int×Int×zD)×MapEntry))(l:List V3),(∀p∈E,p.2∈ents'.toList/\p.2.key=dJ p.1)/\(∀x∈ents'.toList,x.born∈E.map λp=>p.2.born)/\(E.map λp=>p.2.born).Nodup/\l.map (·.1)=E.map (·.1)/\
  w'.ownsRow w1.heap.size 27 3 v l.length ((l.mergeSort λx y=>!(ltOf Iv) y x).flatMap jQ)/\RowKit.Below w1.heap.size w1 w'
theorem OR[Inhabited V3]{w1 wr:World}{r clock:Nat}{ents':Array MapEntry}{v:Value}{seen:Array Nat}{E:List ((Int×Int×zD)×MapEntry)}(hC:zae w1 r clock ents' v wr seen E)(h0:(leftOf ents' seen).size=0)(hm:∀p∈E,aR p.1=Q3)(hsz:ents'.size<=1000):
  Calls Tryz.prog 61 #[v,.func (.func 62) #[] #[]] wr λe w'=>e=.returned (.tuple #[])/\V7 w1 ents' v w':=by
 obtain⟨l,hl,hf⟩:=ZW E hm;have hlen:l.length=E.length:=by simpa using congrArg length hl
 have hall:∀x∈ents'.toList,x.born∈E.map λp=>p.2.born:=λx hx=>by
  have:=all_seen ents' seen h0 x hx;rw[<-hC.sn];simpa using this
 have hrow:=hC.row;rw[<-hf,<-hlen]at hrow;obtain⟨c0,hit,_⟩:=hC.it;have hsw:w1.heap.size<=wr.heap.size:=hC.bel.size;by_cases hne:l=[]
 ·subst hne;have hv:∃p c,v=.slice p 0 c:=by
   rcases hrow.2 with⟨rfl,_⟩|⟨g,cap,cur,rfl,_⟩
   ·exact⟨_,_,rfl⟩
   ·exact⟨_,_,rfl⟩
  obtain⟨p,c,rfl⟩:=hv;refine(PA p c _ wr).mono ?_;rintro e w' ⟨rfl,rfl⟩;exact⟨rfl,E,[],hC.sub,hall,hC.nd,hl,by simpa using hrow,hC.bel⟩
 ·refine(TT hrow (by have:=hC.cnt;omega) hne).mono ?_;rintro e w' ⟨rfl,h1,h2⟩;refine⟨rfl,E,l,hC.sub,hall,hC.nd,hl,h1,hC.bel.grown h2 hsw λk hk=>?_⟩;rcases hrow.2 with⟨rfl,_⟩|⟨g,cap,cur,rfl,hbg,_⟩
  ·simp[Value.ownBlock]at hk
  ·have:g=k:=by simpa[Value.ownBlock]using hk
   exact this▸hbg
theorem Pw(x y z:V3)(h:ltOf Iv x y=Q4)(g:ltOf Iv y z=Q4):ltOf Iv x z=Q4:=by
 simp only[ltOf,decide_eq_false_iff_not]at h g⊢;intro hxz;rcases mZ x.2 y.2 h with e|e
 ·unfold Iv at hxz;rw[e]at hxz;exact g hxz
 ·exact g (ie (a:=y.1) (b:=x.1) (c:=z.1) e hxz)
theorem Pv(x y:V3):(!(ltOf Iv y x)||!(ltOf Iv x y))=Q3:=by
 by_cases h:yg y.1 x.1
 ·have:ltOf Iv x y=Q4:=by
   simp only[ltOf,decide_eq_false_iff_not];exact λg=>gU (a:=y.1) (ie (a:=y.1) (b:=x.1) (c:=y.1) h g)
  simp[this]
 ·have:ltOf Iv y x=Q4:=by
   simp only[ltOf,decide_eq_false_iff_not];exact h
  simp[this]
theorem Ms(l:List V3)(hn:(l.map (·.1)).Nodup) (h0:∀x∈l,x.1.1≠0):(l.mergeSort λx y=>!(ltOf Iv) y x).map (·.1)=iq (l.map (·.1)):=by
 by_cases hne:l=[]
 ·subst hne;simp[iq]
 ·refine UD ?_ ((List.mergeSort_perm l _).map _) ?_
  ·have hne':l.map (·.1)≠[]:=by simpa using hne
   simp only[pY,aC,dX,aP,bne_iff_ne,ne_eq];refine⟨⟨λx hx=>?_,hn⟩,by simpa using hne⟩;obtain⟨y,hy,rfl⟩:=bq.1 hx;exact⟨y.2,h0 y hy⟩
  ·rw[List.pairwise_map];refine(List.pairwise_mergeSort (λa b c h g=>?_) (λa b=>Pv a b) l).imp λ{x y} h=>?_
   ·simp only[xp]at h g⊢;exact Pw c b a g h
   ·simp only[ltOf,xp,decide_eq_false_iff_not]at h;exact h
theorem IB(es:List ((Int×Int×zD)×Int))(k:Int×Int×zD):List.Sublist (vN es k) es:=by
 unfold vN;split
 ·exact List.eraseIdx_sublist _ _
 ·exact List.Sublist.refl _
theorem xh(k:Int×Int×zD):∀(es:List ((Int×Int×zD)×Int))(i:Nat),(cr es k i).map (·.1)=(cr es k 0).map (λq=>q.1+i)
 |[],_=>rfl
 | p::r,i=>by
  unfold cr;cases k==p.1 with
  |true=>simp
  | false=>
   simp only[ar];have h1:=xh k r (i+1);have h2:=xh k r 1;rw[h1];cases h:cr r k 0 with
   |none=>rw[h]at h2;cases h3:cr r k (0+1)<;>simp_all
   | some q=>
    rw[h]at h2;cases h3:cr r k (0+1)with
    |none=>simp_all
    |some q'=>simp_all;omega
theorem OU(p:(Int×Int×zD)×Int)(r:List ((Int×Int×zD)×Int))(k:Int×Int×zD):vN (p::r) k=if k=p.1 then r else p::vN r k:=by
 unfold vN;by_cases h:k=p.1
 ·simp[cr,h]
 ·have hb:(k==p.1)=Q4:=by simpa using h
  rw[if_neg h];simp only[cr,hb,ar];have:=xh k r 1;cases h1:cr r k (0+1)with
  | none=>
   rw[h1]at this;cases h2:cr r k 0 with
   |none=>rfl
   |some q=>rw[h2]at this;simp at this
  | some q=>
   rw[h1]at this;cases h2:cr r k 0 with
   |none=>rw[h2]at this;simp at this
   | some q'=>
    rw[h2]at this;have e:q.1=q'.1+1:=by simpa using this
    simp[e]
theorem A5(k:Int×Int×zD):∀{es:List ((Int×Int×zD)×Int)},(es.map (·.1)).Nodup->∀x,x∈(vN es k).map (·.1)↔x∈es.map (·.1)/\x≠k
 |[],_,x=>by simp[vN,cr]
 | p::r,hn,x=>by
  rw[jy,List.nodup_cons]at hn;rw[OU];split
  ·rename_i h;subst h;rw[jy,cu];refine⟨λhx=>⟨.inr hx,λe=>hn.1 (e▸hx)⟩,λ⟨h,hne⟩=>h.resolve_left hne⟩
  ·rename_i h;rw[jy,cu,jy,cu,A5 k hn.2 x];refine⟨λhx=>?_,λ⟨hx,hne⟩=>hx.imp id λhx=>⟨hx,hne⟩⟩;rcases hx with rfl|hx
   ·exact⟨.inl rfl,λe=>h e.symm⟩
   ·exact⟨.inr hx.1,hx.2⟩
theorem wE{α β:Type}{f:α->β}:∀{l:List α},(l.map f).Nodup->∀{a b:α},a∈l->b∈l->f a=f b->a=b
 |[],_,_,_,ha,_,_=>by cases ha
 | x::r,hn,a,b,ha,hb,e=>by
  rw[jy,List.nodup_cons]at hn;rcases cu.1 ha with ha1|ha1
  ·rcases cu.1 hb with hb1|hb1
   ·rw[ha1,hb1]
   ·exact absurd (show f x∈r.map f from bq.2 ⟨b,hb1,by rw[<-e,ha1]⟩) hn.1
  ·rcases cu.1 hb with hb1|hb1
   ·exact absurd (show f x∈r.map f from bq.2 ⟨a,ha1,by rw[e,hb1]⟩) hn.1
   ·exact wE hn.2 ha1 hb1 e
theorem JB:∀{l m:List Nat},l.Nodup->(∀x∈l,x∈m)->l.length<=m.length
 |[],m,_,_=>by simp
 | a::r,m,hn,h=>by
  rw[List.nodup_cons]at hn;have ha:=h a xn;have h1:=JB (l:=r) (m:=m.erase a) hn.2 λx hx=>(List.mem_erase_of_ne (λe:x=a=>hn.1 (e▸hx))).2 (h x (tk _ hx))
  have h2:=List.length_erase_of_mem ha;have h3:=List.length_pos_of_mem ha;rw[fj];omega
theorem Th{v:Sem ze}(h:aR v=Q3)(h0:v.1=0):v=(0,0,[]):=by
 obtain⟨k,n,s⟩:=v;subst h0;unfold aR at h;simp at h;simp[h]
theorem oX{a b:Int×Int×zD}(h:dJ a=dJ b):a=b:=by
 obtain⟨a1,a2,a3⟩:=a;obtain⟨b1,b2,b3⟩:=b;simpa[dJ]using h
theorem JG{ents':Array MapEntry}{es':List ((Int×Int×zD)×Int)}(he:(ents'.toList.map λe=>(e.key,e.val))=Bg Q3 es'):ents'.toList.map (·.key)=(es'.map (·.1)).map dJ:=by
 have:=congrArg (List.map Prod.fst) he;simpa[Bg,oS,tn]using this
theorem se{l m:List (Sem ze)}(hl:∀x∈l,aR x=Q3)(hm:∀x∈m,aR x=Q3)(h:∀x,x.1≠0->(x∈l↔x∈m)):iq l=iq m:=by
 obtain⟨l1,l2⟩:=lE hl;obtain⟨m1,m2⟩:=lE hm;refine Hv l1 m1 λx=>?_
 rw[l2,m2];exact⟨λhx=>⟨(h x hx.2).1 hx.1,hx.2⟩,λhx=>⟨(h x hx.2).2 hx.1,hx.2⟩⟩
theorem Pp{ents':Array MapEntry}{es':List ((Int×Int×zD)×Int)}(he:(ents'.toList.map λe=>(e.key,e.val))=Bg Q3 es')(hn:(es'.map (·.1)).Nodup) (hm:∀p∈es',aR p.1=Q3) (h0:∀p∈es',p.1.1≠0)
  {E:List ((Int×Int×zD)×MapEntry)} (sub:∀p∈E,p.2∈ents'.toList/\p.2.key=dJ p.1) (all:∀x∈ents'.toList,x.born∈E.map λp=>p.2.born) (nd:(E.map λp=>p.2.born).Nodup) (hbn:(ents'.toList.map (·.born)).Nodup) {l:List V3} (hl:l.map (·.1)=E.map (·.1)):
  (l.mergeSort λx y=>!(ltOf Iv) y x).map (·.1)=iq (es'.map (·.1)):=by
 have hk:=JG he;have hkn:(ents'.toList.map (·.key)).Nodup:=by
  rw[hk];exact List.Pairwise.map _ (λa b h e=>h (oX e)) hn
 have mem:∀p∈E,p.1∈es'.map (·.1):=λp hp=>by
  obtain⟨h1,h2⟩:=sub p hp;have:p.2.key∈ents'.toList.map (·.key):=bq.2 ⟨_,h1,rfl⟩;rw[hk,h2]at this;obtain⟨k,hk1,hk2⟩:=bq.1 this;exact oX hk2▸hk1
 have hnd:(E.map (·.1)).Nodup:=by
  unfold List.Nodup at nd⊢;rw[List.pairwise_map]at nd⊢;refine nd.imp_of_mem λ{p q} hp hq h e=>h ?_
  obtain⟨p1,p2⟩:=sub p hp;obtain⟨q1,q2⟩:=sub q hq;have:p.2.key=q.2.key:=by rw[p2,q2,e]
  rw[wE hkn p1 q1 this]
 rw[Ms l (by rw[hl];exact hnd) (λx hx=>by
  have:x.1∈E.map (·.1):=by rw[<-hl];exact bq.2 ⟨x,hx,rfl⟩
  obtain⟨p,hp,e⟩:=bq.1 this;obtain⟨q,hq,e'⟩:=bq.1 (mem p hp);rw[<-e,<-e'];exact h0 q hq),hl]
 refine se (λx hx=>?_) (λx hx=>?_) λx _=>⟨λhx=>?_,λhx=>?_⟩
 ·obtain⟨p,hp,rfl⟩:=bq.1 hx;obtain⟨q,hq,e'⟩:=bq.1 (mem p hp);exact e'▸hm q hq
 ·obtain⟨p,hp,rfl⟩:=bq.1 hx;exact hm p hp
 ·obtain⟨p,hp,rfl⟩:=bq.1 hx;exact mem p hp
 ·have:dJ x∈ents'.toList.map (·.key):=by rw[hk];exact bq.2 ⟨x,hx,rfl⟩
  obtain⟨e,he1,he2⟩:=bq.1 this;obtain⟨p,hp,hb⟩:=bq.1 (all e he1);obtain⟨p1,p2⟩:=sub p hp;have:p.2=e:=wE hbn p1 he1 hb;rw[this,he2]at p2;exact bq.2 ⟨p,hp,(oX p2).symm⟩
set_option maxRecDepth 100000
theorem Ta:∀l:List Value,l.length=46->∃v0 v1 v2 v3 v4 v5 v6 v7 v8 v9 v10 v11 v12 v13 v14 v15 v16 v17 v18 v19 v20 v21 v22 v23 v24 v25 v26 v27 v28 v29 v30 v31 v32 v33 v34 v35 v36 v37 v38 v39 v40 v41 v42 v43 v44 v45,l=[v0,v1,v2,v3,v4,v5,v6,v7,v8,v9,v10,v11,v12,v13,v14,v15,v16,v17,v18,v19,v20,v21,v22,v23,v24,v25,v26,v27,v28,v29,v30,v31,v32,v33,v34,v35,v36,v37,v38,v39,v40,v41,v42,v43,v44,v45]:=by
 intro l h
 match l,h with
 |v0::v1::v2::v3::v4::v5::v6::v7::v8::v9::v10::v11::v12::v13::v14::v15::v16::v17::v18::v19::v20::v21::v22::v23::v24::v25::v26::v27::v28::v29::v30::v31::v32::v33::v34::v35::v36::v37::v38::v39::v40::v41::v42::v43::v44::v45::[],_=>exact⟨v0,v1,v2,v3,v4,v5,v6,v7,v8,v9,v10,v11,v12,v13,v14,v15,v16,v17,v18,v19,v20,v21,v22,v23,v24,v25,v26,v27,v28,v29,v30,v31,v32,v33,v34,v35,v36,v37,v38,v39,v40,v41,v42,v43,v44,v45,rfl⟩
theorem Pu(n:Int)(w:World)(v0 v1 v2 v3 v4 v5 v6 v7 v8 v9 v10 v11 v12 v13 v14 v15 v16 v17 v18 v21 v22 v23 v24 v25 v26 v27 v28 v29 v30 v31 v32 v33 v34 v35 v36 v37 v38 v39 v40 v41 v42 v43 v44 v45:Value):
  BT.wp Tryz.prog (λe a w'=>e=.exit 0/\w'=w/\∃ts:List Value,a=⟨ts.toArray,[]⟩/\ts.length=46/\ts[6]?=Q1 v6) {tmps:=#[v0,v1,v2,v3,v4,v5,v6,v7,v8,v9,v10,v11,v12,v13,v14,v15,v16,v17,v18,(Value.int .i64 n),(Value.int .i64 n),v21,v22,v23,v24,v25,v26,v27,v28,v29,v30,v31,v32,v33,v34,v35,v36,v37,v38,v39,v40,v41,v42,v43,v44,v45],defers:=[]} w:=by
 simp only[BT,Tryz.f30]
 go_wp2
theorem zkN:Tryz.f30.results=#[.tmp 4]:=kw
theorem PT{tmps:Array Value}{w:World}{v:Value}(h:tmps[4]?=Q1 v):(results Tryz.f30 tmps).run Tryz.prog w=.ok v w:=by
 have hg:tmps.getD 4 undef=v:=by rw[rp,h];rfl
 rw[CV,zkN];simp[CT,hg]
theorem Tq:dJ (0,0,[])=.agg #[.int .i64 0,.int .i64 0,.string ⟨#[]⟩]:=rfl
theorem W1{w':World}{U:Nat->Prop}{v:Value}{base:Nat}(hU:∀b,U b->b<base){l:List V3}[Inhabited V3](hok:∀x∈l,lz x.1)(hlen:l.length<=1000){m:List V3}(hp:List.Perm m l)(hrow:w'.ownsRow base 27 3 v l.length (m.flatMap jQ)):
  Rv w' U (λ_=>Q2) (.sl ze (m.map (·.1))) v:=by
 have hml:m.length=l.length:=hp.length_eq;rcases hrow.2 with⟨rfl,h0⟩|⟨g,cap,cur,rfl,hbg,hgb,hnc,hcm,hcs,htk⟩
 ·have:m=[]:=List.length_eq_zero_iff.1 ow;rw[this];exact .sl0 ze _ _
 ·have hL:(m.map (·.1)).length=l.length:=by simp[hml]
  rw[<-hL];refine .sl ze _ g 0 cap (λi j=>(cur[i*3+j]?).getD undef) ow um (oD.1 hgb).1 (λh=>by have:=hU g h;omega) (λi j hi hj=>?_) (λi hi j c hc=>?_)
  ·have hj:j<3:=hj;have hlt:i*3+j<cur.size:=by rw[hcs];omega
   simp[World.cell?,hgb,tp hlt,show ze.size=3 from rfl]
  ·have him:i<m.length:=by simpa using hi
   have hj:j<3:=by
    have:=(cW.1 hc).1
    rwa [zZ]at this
   have hf:=tQ m (i*3+j) ow;rw[show(i*3+j)/3=i by omega,show(i*3+j)%3=j by omega,<-htk,List.getElem?_take_of_lt ow,rD,getElem!_pos m i him]at hf;rw[hf];simp only[dw];have hko:=hok m[i] (hp.mem_iff.1 (bd him));simp only[List.getElem_map]at hc;generalize m[i]=x at hc hko;obtain⟨⟨k,n,s⟩,hx⟩:=x
   match j,hj,hc with
   |0,_,hc=>cases hc;exact .int _ _ hko.1
   |1,_,hc=>cases hc;exact .int _ _ hko.2.1
   |2,_,hc=>cases hc;exact .str _ hko.2.2
theorem Xy{E:cd}(qp:E.P=Tryz.prog){C:eV}(hC:∀id,C.ρ0 id=Q2)(es:List ((Int×Int×zD)×Int))(hlen:es.length<=1000)(hn:(es.map (·.1)).Nodup) (hm:∀p∈es,aR p.1=Q3) (x5:Sem zg) (l18:List (Sem ze.sl)) (n:Int):
  Reach E C 30 (ag Tryz.f30 4) (KY (.h4 x5 l18 n n es)).2 (λr h=>aL h [ze.sl] r=Q1 (iq (es.map (·.1)),())):=by
 intro b cs a w U ρ hb1 hb2 hc hW;rw[qp];rw[zcR];have hlen46:a.tmps.toList.length=46:=by rw[<-hc.tm.len];rfl
 obtain⟨⟨ts⟩,df⟩:=a;have hdf:df=[]:=hc.df;subst hdf;obtain⟨v0,v1,v2,v3,v4,v5,v6,v7,v8,v9,v10,v11,v12,v13,v14,v15,v16,v17,v18,v19,v20,v21,v22,v23,v24,v25,v26,v27,v28,v29,v30,v31,v32,v33,v34,v35,v36,v37,v38,v39,v40,v41,v42,v43,v44,v45,rfl⟩:=Ta ts hlen46;have r6:=hc.tm.rv 6 (.mp 0) v6 rfl rfl;have r19:=hc.tm.rv 19 (.int .i64 n) v19 rfl rfl;have r20:=hc.tm.rv 20 (.int .i64 n) v20 rfl rfl;have ho:bB w U ρ 0 (.vmap Q3 es):=hc.hp.ob 0;have hbk:=hc.hp.blk 0;clear hlen46;cases r19 with|int _ _ _=>
 cases r20 with|int _ _ _=>
 obtain⟨r,ents,clock,q1,q2,q3,q4,q5,q6⟩:=ho;cases r6 with|mp _ _ q7 _=>
 rw[q1]at q7;cases q7;have hrB:C.B0 r\/C.w0.heap.size<=r:=hbk r ⟨rfl,_,q1,rfl⟩;obtain⟨ents',hdel,he',hborn,hbn⟩:=Wx (P:=Tryz.prog) (mt:=121) (kt:=27) (et:=122) Tryz.underlying121 kw (k:=(0,0,[])) ⟨by unfold cN;decide,by unfold cN;decide,sw⟩ q3 q4 q5 q6;rw[Tq]at hdel;have hrw:r<w.heap.size:=(oD.1 q3).1;obtain⟨w1,hw1⟩:∃w1:World,({w with heap:=w.heap.setIfInBounds r (.map ents' clock)}:World)=w1:=⟨_,rfl⟩;rw[hw1]at hdel;have hs1:w1.heap.size=w.heap.size:=by rw[<-hw1];simp
 have hm1:w1.heap[r]?=Q1 (.map ents' clock):=by rw[<-hw1];simp[hrw]
 have ho1:∀j,j≠r->w1.heap[j]?=w.heap[j]?:=λj hj=>by rw[<-hw1];simp[Array.getElem?_setIfInBounds_ne (Ne.symm hj)]
 have hpm:=JG he';have hdn:((vN es (0,0,[])).map (·.1)).Nodup:=hn.sublist ((IB _ _).map _);have hds:=IB es (0,0,[]);have hk:∀x∈ents'.toList,∃k,x.key=dJ k/\k∈(vN es (0,0,[])).map (·.1):=λx hx=>by
  have:x.key∈ents'.toList.map (·.key):=bq.2 ⟨x,hx,rfl⟩;rw[hpm]at this;obtain⟨k,k1,k2⟩:=bq.1 this;exact⟨k,k2.symm,k1⟩
 have hsz:ents'.size<=1000:=by
  have:=congrArg length hpm;simp only[cV,Array.length_toList]at this;rw[this];exact cD hds.length_le hlen
 have hinh:Inhabited V3:=⟨⟨(0,0,[]),kw⟩⟩;have hmem:∀x:Sem ze,x∈(vN es (0,0,[])).map (·.1)->aR x=Q3/\lz x/\x.1≠0:=λx hx=>by
  obtain⟨hx1,hx2⟩:=(A5 (0,0,[]) hn x).1 hx;obtain⟨p,hp,rfl⟩:=bq.1 hx1;exact⟨hm p hp,(q5 p hp).2,λh0=>hx2 (Th (hm p hp) h0)⟩
 obtain⟨e1,a1,wx,⟨rfl,rfl,ts,rfl,htl,ht6⟩,harr⟩:=Pu n w v0 v1 v2 v3 v4 v5 (.map (Q1 r)) v7 v8 v9 v10 v11 v12 v13 v14 v15 v16 v17 v18 v21 v22 v23 v24 v25 v26 v27 v28 v29 v30 v31 v32 v33 v34 v35 v36 v37 v38 v39 v40 v41 v42 v43 v44 v45 b [.inLoop BT,.inBlock 0,.code CU] cs;have st1:=harr [.code CU] rfl;obtain⟨u0,u1,u2,u3,u4,u5,u6,u7,u8,u9,u10,u11,u12,u13,u14,u15,u16,u17,u18,u19,u20,u21,u22,u23,u24,u25,u26,u27,u28,u29,u30,u31,u32,u33,u34,u35,u36,u37,u38,u39,u40,u41,u42,u43,u44,u45,rfl⟩:=Ta ts htl;have hu6:u6=.map (Q1 r):=by simpa using ht6
 subst hu6
 obtain⟨e2,a2,w',⟨rfl,v,hv4,hdf,hK⟩,harr2⟩:=XB (λe a w'=>e=.ret/\∃v,a.tmps[4]?=Q1 v/\a.defers=[]/\V7 w1 ents' v w') (V7 w1 ents') r ents' clock wx w1 hdel hm1 hborn hbn (λx hx=>(hk x hx).imp λ_ h=>h.1) hsz
  (λv wr seen E hC h0=>OR hC h0 (λp hp=>by
   obtain⟨s1,s2⟩:=hC.sub p hp;obtain⟨k,k1,k2⟩:=hk _ s1;rw[s2]at k1;exact oX k1▸(hmem k k2).1) hsz) (λv w' a hS h4 hd=>⟨rfl,v,h4,hd,hS⟩) u0 u1 u2 u3 u4 u5 u7 u8 u9 u10 u11 u12 u13 u14 u15 u16 u17 u18 u19 u20 u21 u22 u23 u24 u25 u26 u27 u28 u29 u30 u31 u32 u33 u34 u35 u36 u37 u38 u39 u40 u41 u42 u43 u44 u45 b [] cs
 obtain⟨todo,hst⟩:=harr2;obtain⟨E,l,sub,all,nd,hl,hrow,hbel⟩:=hK;have hkeys:=Pp he' hdn (λp hp=>(hmem _ (bq.2 ⟨p,hp,rfl⟩)).1) (λp hp=>(hmem _ (bq.2 ⟨p,hp,rfl⟩)).2.2) sub all nd hbn hl;have hall:iq ((vN es (0,0,[])).map (·.1))=iq (es.map (·.1)):=se (λx hx=>(hmem x hx).1) (λx hx=>by obtain⟨p,hp,rfl⟩:=bq.1 hx;exact hm p hp) λx hx=>by
  rw[A5 (0,0,[]) hn x];exact⟨λh=>h.1,λh=>⟨h,λe=>hx (by rw[e])⟩⟩
 have hlE:∀x∈l,lz x.1:=λx hx=>by
  have:x.1∈E.map (·.1):=by rw[<-hl];exact bq.2 ⟨x,hx,rfl⟩
  obtain⟨p,hp,e⟩:=bq.1 this;obtain⟨s1,s2⟩:=sub p hp;obtain⟨k,k1,k2⟩:=hk _ s1;rw[s2]at k1;rw[<-e];exact oX k1▸(hmem k k2).2.1
 have hle:l.length<=1000:=by
  have h1:l.length=E.length:=by simpa using congrArg length hl
  have h2:(E.map λp=>p.2.born).length<=(ents'.toList.map (·.born)).length:=JB nd λx hx=>by
   obtain⟨p,hp,rfl⟩:=bq.1 hx;exact bq.2 ⟨p.2,(sub p hp).1,rfl⟩
  simp only[cV,Array.length_toList]at h2;omega
 have hold:∀j,j<wx.heap.size->j≠r->w'.heap[j]?=wx.heap[j]?:=λj hj hjr=>by rw[hbel.block j ow,ho1 j hjr]
 have hsz':wx.heap.size<=w'.heap.size:=by have:=hbel.size;omega
 have hrv:=W1 (U:=U) (base:=w1.heap.size) (λb hb=>by have:=hW.ub b hb;omega) hlE hle (List.mergeSort_perm l _) hrow;rw[hkeys,hall]at hrv;refine⟨.returned v,w',{b.at a2 todo with mode:=.returning},⟨v,.sl ze (iq (es.map (·.1))),[],U,λ_=>Q2,rfl,?_,hrv,⟨λid=>by simp[bB],λ_ _ _ h=>by simp[ap]at h,λ_ _ h=>by simp[ap]at h⟩,λ_ _=>rfl,λid v h=>(by rw[hC id]at h;cases h),?_⟩,mr st1 hst,hb1,rfl,hdf,hb2,Tryz.f30,?_,PT hv4⟩
 ·rfl
 ·refine⟨hW.ext.trans ⟨hsz',?_,?_,?_,λx hx=>?_⟩,λj hj hB=>?_,λj hj=>iO (hW.ub j hj) hsz',hW.u1,hW.u2,λg=>(hW.gl g).mono hsz' (λj hj hu=>hold j hj λe=>hu (e▸q2)) (λ_ _ h=>h) (λ_ _ h=>h)⟩
  ·rw[hbel.os,<-hw1]
  ·rw[hbel.output,<-hw1]
  ·rw[hbel.tape,<-hw1]
  ·by_cases hxr:x.block=r
   ·have h1:w'.heap[x.block]?=Q1 (.map ents' clock):=by rw[hxr,hbel.block r ow,hm1]
    have h2:wx.heap[x.block]?=Q1 (.map ents clock):=by rw[hxr,q3]
    simp[World.frozen?,h1,h2]
   ·exact AM (hold _ hx hxr)
  ·rw[hold j (iO hj hW.ext.sz) λe=>hrB.elim (λh=>hB (e▸h)) (λh=>by omega)];exact hW.same j hj hB
 ·show Tryz.prog.funcs[b.fn]?=Q1 Tryz.f30;rw[hb1];kernel_rfl
theorem Kd{σ:Type}{E:cd}{C:eV}{k:FuncId}{f:Func}{Q:AV->List AO->Prop}{m n0:Nat}(hE:zy E)(hf:zL E.P k f m)(hC:∀id,n0<=id->C.ρ0 id=Q2){keep:Nat->aO}{gas:Nat}{e:σ->Nat×St}{K:List Item}{st:St}{i:Tr (σ⊕aw)}
  (hgo:run E n0 keep f.results.toList gas K st=i.map (lf f e)) {s:σ} (hv:i.val=Q1 (.inl s)) (h:Reach E C k (ag f (e s).1) (e s).2 Q):Reach E C k K st Q:=
 mT hE hf hC (l:=lf f e (.inl s)) (by rw[hgo,Tr.val_map,hv];rfl) h
noncomputable def lp(x0:Sem zr)(x1:List (Sem zh)):List (Sem ze):=(getD x1 0 (zi zh)).2.map λrow:List (Sem ze)=>getD row (toNat (bW x0 x1)) (zi ze)
noncomputable def FM(x0:Sem zr)(x1:List (Sem zh)):Bool:=jt x0 x1&&(zK 0 (length x1)&&(Q0 (length (getD x1 0 (zi zh)).2<=1000)&&List.all (getD x1 0 (zi zh)).2 λrow:List (Sem ze)=>zK (bW x0 x1) (length row)&&aR (getD row (toNat (bW x0 x1)) (zi ze))))
noncomputable def dd(x0:Sem zr)(x1:List (Sem zh)):List (Sem ze):=iq (lp x0 x1)
noncomputable def zfa:=zV [zr,zh.sl] [ze.sl] (λx=>FM x.1 x.2.1) λx=>(dd x.1 x.2.1,())
theorem FQ{k:Int×Int×zD}{n:Int}:∀{es:List ((Int×Int×zD)×Int)},(kc es k n).map (·.1)=if k∈es.map (·.1)then es.map (·.1)else es.map (·.1)++[k]
 |[]=>rfl
 | p::r=>by
  show(bif k==p.1 then(k,n)::r else p::kc r k n).map (·.1)=_;by_cases h:k=p.1
  ·simp[h]
  ·have hb:(k==p.1)=Q4:=by simpa using h
   rw[hb,ar,jy,FQ (es:=r),jy];by_cases hr:k∈r.map (·.1)
   ·rw[if_pos hr,if_pos (by simp only[cu];exact .inr hr)]
   ·rw[if_neg hr,if_neg (by simp only[cu];exact λe=>e.elim h hr)];rfl
theorem WO{x0:Sem zr}{x1:List (Sem zh)}(h1:jt x0 x1=Q3)(h2:zK 0 (length x1)=Q3):(zc1 x0 x1).val=Q1 (.inl (.h4 (bW x0 x1) (getD x1 0 (zi zh)).2 (length (getD x1 0 (zi zh)).2:Int) 0 [])):=by
 unfold zc1;simp only[zk];show(Qc (jt x0 x1) (Qc (zK 0 (length x1)) _)).val=_;rw[h1,h2];rfl
theorem za4:FK 30 zfa:=by
 refine aM (E:=xD) (f:=Tryz.f30) (bS kw) λx hx C hC=>?_
 obtain⟨x0,x1,u⟩:=x;have hf:zL xD.P 30 Tryz.f30 2:=bS kw;have hgo:∀x,run xD 0 ZQ Tryz.f30.results.toList 400 (bx Tryz.f30) (bg Tryz.f30.ntmps (jl [Q1 zr,Q1 zh.sl] x) [])=(zc1 x.1 x.2.1).map (lf Tryz.f30 KY):=by intro x;kernel_rfl
 have hon:∀s,run xD 0 ZQ Tryz.f30.results.toList 400 (ag Tryz.f30 (KY s).1) (KY s).2=(zkT s).map (lf Tryz.f30 KY):=by intro s;cases s<;>kernel_rfl
 simp only[FM,aC,aP,dX]at hx;obtain⟨h1,h2,h3,h4⟩:=hx;generalize hrows:(getD x1 0 (zi zh)).2=rows at h3 h4;refine Kd wl hf (λid _=>hC id) (hgo (x0,x1,u)) (WO h1 h2) ?_;rw[hrows]
 have key:∀(m i:Nat)(es:List ((Int×Int×zD)×Int)),rows.length-i=m->i<=rows.length->(es.map (·.1)).Nodup->es.length<=i->(∀x,x∈es.map (·.1)↔x∈(rows.take i).map λrow:List (Sem ze)=>getD row (toNat (bW x0 x1)) (zi ze))->
   Reach xD C 30 (ag Tryz.f30 (KY (.h4 (bW x0 x1) rows rows.length i es)).1) (KY (.h4 (bW x0 x1) rows rows.length i es)).2 λr h=>aL h [ze.sl] r=Q1 (dd x0 x1,()):=by
  intro m
  induction m with
  | zero=>
   intro i es hm hi hn hl hmem;obtain rfl:i=rows.length:=by omega
   rw[jx]at hmem;have hmay:∀x,x∈(rows.map λrow:List (Sem ze)=>getD row (toNat (bW x0 x1)) (zi ze))->aR x=Q3:=λx hx=>by
    obtain⟨row,hr,rfl⟩:=bq.1 hx;exact(h4 row hr).2
   have:=Xy (E:=xD) rfl hC es ow hn (λp hp=>hmay _ ((hmem _).1 (bq.2 ⟨p,hp,rfl⟩))) (bW x0 x1) rows rows.length;have e:dd x0 x1=iq (es.map (·.1)):=by
    unfold dd lp;rw[hrows];exact se hmay (λx hx=>hmay x ((hmem x).1 hx)) λx _=>(hmem x).symm
   rw[e];exact this
  | succ m ih=>
   intro i es hm hi hn hl hmem;have hlt:i<rows.length:=by omega
   have hat:=h4 rows[i] (bd hlt);have hk:=FQ (k:=getD rows[i] (toNat (bW x0 x1)) (zi ze)) (n:=0) (es:=es);refine Kd wl hf (λid _=>hC id) (hon (.h4 (bW x0 x1) rows rows.length i es)) (s:=.h4 (bW x0 x1) rows rows.length ((i+1:Nat):Int) (kc es (getD rows[i] (toNat (bW x0 x1)) (zi ze)) 0)) ?_ (ih (i+1) _ ow ow ?_ ?_ ?_)
   ·have e1:Q0 ((i:Int)<(rows.length:Int))=Q3:=by simpa using hlt
    have e2:zK (i:Int) rows.length=Q3:=by simp[zK];omega
    have e3:IntKind.i64.wrap ((i:Int)+1)=((i+1:Nat):Int):=by
     exact zp i um
    have e4:getD rows (toNat (i:Int)) (zi ze.sl)=rows[i]:=zM rows _ hlt;simp only[zkT,e1,e2,e3,e4,hat.1,Q8,if_true]
   ·rw[hk];split
    ·exact hn
    ·rename_i hin;exact List.nodup_append.2 ⟨hn,sw,λa ha b hb e=>hin (by rw[gw]at hb;rw[<-hb,<-e];exact ha)⟩
   ·have:=congrArg length hk;simp only[cV]at this;rw[this];split
    ·simp;omega
    ·simp;omega
   ·intro x;rw[hk,List.take_succ_eq_append_getElem hlt,iP,cR,<-hmem x];simp only[jy,List.map_nil,gw];split
    ·rename_i hin;exact⟨.inl,λh=>h.elim id λe=>e▸hin⟩
    ·rw[cR,gw]
 exact key rows.length 0 [] ow ow sw sw sw
noncomputable def Zl:=xD.add 30 zfa
theorem qd:zy Zl:=wl.add za4
open Go Go.Proofs
section
variable {db:List (Sem zh)} {p:Sem zr}
theorem aE.pc(h:aE db p):jt p (zG db p)=Q3/\bW p (zG db p)=aT p (zG db p):=
 ⟨by unfold jt;rw[h.plc];rfl,by unfold bW;rw[h.plc];rfl⟩
theorem aE.at_mem(h:aE db p){row:List (Sem ze)}(hr:row∈(ch db p).2):getD row (toNat (aT p (zG db p))) (zi ze)∈row:=by
 have hi:=(h.inn row hr).1;simp only[zK,aC,aP]at hi;exact tS _ _ ow
theorem aE.may(h:aE db p){x:Sem ze}(hx:x∈lp p (zG db p)):aR x=Q3:=by
 obtain⟨row,hr,rfl⟩:=bq.1 hx;rw[h.pc.2];exact(fD (h.rel.fits row hr)).2.1 _ (h.at_mem hr)
theorem aE.all(h:aE db p):FM p (zG db p)=Q3:=by
 unfold FM;simp only[aC,aP,dX];refine⟨h.pc.1,zt (i:=0) (oe h.go.two).1,cD h.rel.few ow,λrow hr=>⟨?_,h.may (bq.2 ⟨row,hr,rfl⟩)⟩⟩;rw[h.pc.2];exact(h.inn row hr).1
theorem aE.len(h:aE db p){row:List (Sem ze)}(hr:row∈(ch db p).2):row.length<=8:=by
 rw[(h.inn row hr).2];exact(g8 h.rel.may).2.2.2.1
theorem aE.rows(h:aE db p)(v:Sem ze):Dp p (zG db p) v=Q1 ((ch db p).2.filter (ph (aT p (zG db p)) v),0,()):=by
 have:=UT v h.go h.pc.1 (cD h.rel.few ow) (λrow hr=>⟨by rw[h.pc.2];exact(h.inn row hr).1,cD (h.len hr) ow⟩)
 rwa [h.pc.2]at this
theorem aE.few(_:aE db p):(dd p (zG db p)).length<=(ch db p).2.length:=by
 have:=Ir (lp p (zG db p));have e:(lp p (zG db p)).length=(ch db p).2.length:=cV _;rw[e]at this;exact this
theorem aE.keys(h:aE db p)(hc:p.1=[99,111,112,121]):(lp p (zG db p)).Nodup/\∀x∈lp p (zG db p),x.1≠0:=by
 have hp:bW p (zG db p)=(ch db p).1.2.2.1:=by
  rw[h.pc.2];unfold aT;rw[if_pos hc];rfl
 have e:lp p (zG db p)=(ch db p).2.map (zR (ch db p).1.2.2.1):=by
  unfold lp;rw[hp];rfl
 rw[e];refine⟨Nl h.rel.pw,λx hx=>?_⟩;obtain⟨row,hr,rfl⟩:=bq.1 hx;have ht:=(lm _).1 h.rel.may;have hk:=h.rel.keys row hr;simp only[zK,aC,aP]at hk;exact(fD (h.rel.fits row hr)).2.2 _ ow ht.nn
theorem aE.is(h:aE db p)(v:Sem ze):v∈dd p (zG db p)↔(ch db p).2.filter (ph (aT p (zG db p)) v)≠[]:=by
 unfold dd;rw[(lE λx hx=>h.may hx).2];show _↔¬(ch db p).2.filter (ph (aT p (zG db p)) v)=[];rw[List.filter_eq_nil_iff];constructor
 ·rintro⟨hx,h0⟩ hn;obtain⟨row,hr,e⟩:=bq.1 hx;rw[h.pc.2]at e;exact hn row hr (lN.2 ⟨e,h0⟩)
 ·intro hn;have:∃row∈(ch db p).2,ph (aT p (zG db p)) v row=Q3:=by
   refine mq λhno=>hn λrow hr hi=>hno ⟨row,hr,hi⟩
  obtain⟨row,hr,hi⟩:=this;obtain⟨e,h0⟩:=lN.1 hi;refine⟨bq.2 ⟨row,hr,?_⟩,h0⟩;show getD row (toNat (bW p (zG db p))) (zi ze)=v;rw[h.pc.2];exact e
end
noncomputable section
def zib(x0:Sem zr)(x1:Sem zh.sl):Tr (Empty⊕aw):=
 let a0:=(x0.1,x0.2.1,x0.2.2.1,(x0.2.2.2.1.1,x0.2.2.2.1.2.1,x0.2.2.2.1.2.2.1,x0.2.2.2.1.2.2.2.1,x0.2.2.2.1.t.1,zn x0.2.2.2.1.t.2),x0.t)
 Qc (Fi a0 x1)
 (br (PG a0 x1 !=0) (re (tup [Qb,ai 1]) [])
  (Qc (FM a0 x1) (re (tup [sl ze (dd a0 x1),ai 0]) [])))
def HZ(x0:Sem zr)(x1:Sem zh.sl):=al [ze.sl,zg] t0 100000000 (zib x0 x1)
def MD(x0:Sem zr)(x1:Sem zh.sl):=(HZ x0 x1).isSome
def UP(x0:Sem zr)(x1:Sem zh.sl):=o2 (HZ x0 x1)
def zeu:=FT [zr,zh.sl] [ze.sl,zg] λx=>HZ x.1 x.2.1
theorem zam:FK 10 zeu:=qd.T1 (f:=Tryz.f10) (keep:=k0) (e:=e0)
def zcZ(x0:Sem zr)(x1:Sem zh.sl):Tr (Empty⊕aw):=
 let a0:=(x0.1,x0.2.1,x0.2.2.1,(x0.2.2.2.1.1,x0.2.2.2.1.2.1,x0.2.2.2.1.2.2.1,x0.2.2.2.1.2.2.2.1,x0.2.2.2.1.t.1,zn x0.2.2.2.1.t.2),x0.t)
 let a1:=Ub a0 x1
 Qc (L2 a0 x1)
 (re
  (tup [agg [str x0.1,str x0.2.1,str x0.2.2.1,str x0.2.2.2.1.1,sl zj x0.2.2.2.1.2.1,ai x0.2.2.2.1.2.2.1,sl zg x0.2.2.2.1.2.2.2.1,sl zu x0.2.2.2.1.t.1,str (zf.op x0.2.2.2.1.t.2),ai (zf.v x0.2.2.2.1.t.2).1,ai (zf.v x0.2.2.2.1.t.2).2.1,str (zf.v x0.2.2.2.1.t.2).2.2,
  str (zf.s x0.2.2.2.1.t.2),sl Sh.expr (zf.l x0.2.2.2.1.t.2),sl zg x0.t.1,ai x0.t.2],sl zh a1.1,AV.bool a1.2])
  [])
def yK(x0:Sem zr)(x1:Sem zh.sl):=al [zr,zh.sl,Q7] t0 100000000 (zcZ x0 x1)
def GA(x0:Sem zr)(x1:Sem zh.sl):=(yK x0 x1).isSome
def LH(x0:Sem zr)(x1:Sem zh.sl):=o3 (yK x0 x1)
def ze4:=FT [zr,zh.sl] [zr,zh.sl,Q7] λx=>yK x.1 x.2.1
theorem zaX:FK 26 ze4:=qd.T1 (f:=Tryz.f26) (keep:=k0) (e:=e0)
abbrev ziR:=lx [(3,[0,3,4])]
inductive KM where
 |h3 (l0:List (Sem zg)) (i4:Int) (ja0:List UInt8) (ja1:List (Sem zj)) (ja2:Int) (ja5:List UInt8) (ja6:Int) (ja7:Int) (ja8:List UInt8) (ja9:List UInt8)
 |h3b (l0:List (Sem zg)) (i4:Int) (ja0:List UInt8) (ja1:List (Sem zj)) (ja2:Int) (ja5:List UInt8) (ja6:Int) (ja7:Int) (ja8:List UInt8) (ja9:List UInt8) (lh_1:List (Sem ze.sl))
abbrev zlA:KM->Nat×St
 |.h3 l0 i4 ja0 ja1 ja2 ja5 ja6 ja7 ja8 ja9=>(3,⟨tm 31 [(0,sl zg l0),(3,ptr 0 0),(4,ai i4)],[AO.box [str ja0,sl zj ja1,ai ja2,Qb,Qb,str ja5,ai ja6,ai ja7,str ja8,str ja9,Qb,Qb]]⟩)
 |.h3b l0 i4 ja0 ja1 ja2 ja5 ja6 ja7 ja8 ja9 lh_1=>(3,⟨tm 31 [(0,sl zg l0),(3,ptr 0 0),(4,ai i4)],[AO.box [str ja0,sl zj ja1,ai ja2,Qb,Qb,str ja5,ai ja6,ai ja7,str ja8,str ja9,Qb,AV.vec 1],AO.vec ze.sl lh_1]⟩)
def zmX(x0:Sem zg.sl):Tr (KM⊕aw):=
 Tr.to (KM.h3 x0 0 [118] [([110],1,Q3),([114],1,Q4)] 0 [] 0 0 [] [])
def znz:KM->Tr (KM⊕aw)
 | .h3 l0 i4 ja0 ja1 ja2 ja5 ja6 ja7 ja8 ja9=>
  let a0:=[[(1,i4,[]),(1,l0.getD i4.toNat (zi zg),[])]]
  br (Q0 (i4<(↑l0.length:Int)))
  (Qc (zK i4 l0.length) (Qc (Q0 (a0.length<=1073741824)) (Tr.to (KM.h3b l0 (IntKind.i64.wrap (i4+1)) ja0 ja1 ja2 ja5 ja6 ja7 ja8 ja9 a0))))
  (re (sl zh [((ja0,ja1,ja2,[],[],zf.mk ja5 (ja6,ja7,ja8) ja9 []),[])]) [])
 | .h3b l0 i4 ja0 ja1 ja2 ja5 ja6 ja7 ja8 ja9 lh_1=>
  let a0:=[[(1,i4,[]),(1,l0.getD i4.toNat (zi zg),[])]]
  br (Q0 (i4<(↑l0.length:Int)))
  (Qc (zK i4 l0.length) (Qc (Q0 (lh_1.length+a0.length<=1073741824)) (Tr.to (KM.h3b l0 (IntKind.i64.wrap (i4+1)) ja0 ja1 ja2 ja5 ja6 ja7 ja8 ja9 (lh_1++a0)))))
  (re (sl zh [((ja0,ja1,ja2,[],[],zf.mk ja5 (ja6,ja7,ja8) ja9 []),lh_1)]) [])
def zdt(x0:Sem zg.sl):=al [zh.sl] znz 100000000 (zmX x0)
def ze6:=FT [zg.sl] [zh.sl] λx=>zdt x.1
theorem zaZ:FK 27 ze6:=qd.T1 (f:=Tryz.f27) (keep:=ziR) (e:=zlA)
def Zo:=Zl.addL [(10,zeu),(26,ze4),(27,ze6)]
theorem ES:zy Zo:=qd.addL<|fc zam<|fc zaX<|fc zaZ<|iM
end
noncomputable def i7u(x0:Sem zh.sl)(x1:Sem zl):Tr (Empty⊕aw):=
 let a0:=(x1.1,x1.2.1,x1.2.2.1,x1.2.2.2.1,x1.t.1,x1.t.2.1,x1.t.q.1,x1.t.q.2.1,zn x1.t.t.1,x1.t.t.2.1,x1.t.t.q.1,zn x1.t.t.q.2.1,x1.t.t.t)
 let a1:=S3 a0
 let a2:=(a1.1,a1.2.1,a1.2.2.1,a1.2.2.2.1,a1.t.1,a1.t.2.1,a1.t.q.1,a1.t.q.2.1,zn a1.t.t.1,a1.t.t.2.1,a1.t.t.q.1,zn a1.t.t.q.2.1,a1.t.t.t)
 let a3:=T9 (E6 x0) a2
 let a4:=(a3.1.1,a3.1.2.1,a3.1.2.2.1,(a3.1.2.2.2.1.1,a3.1.2.2.2.1.2.1,a3.1.2.2.2.1.2.2.1,a3.1.2.2.2.1.2.2.2.1,a3.1.2.2.2.1.t.1,zn a3.1.2.2.2.1.t.2),a3.1.t)
 let a5:=LH a4 (E6 x0)
 Qc (LG x0)
 (Qc (LA a0)
  (Qc (L1 (E6 x0) a2) (br (a3.2!=0) (re (tup [agg [str [],str [],str [],str [],Qb,ai 0,Qb,Qb,str [],ai 0,ai 0,str [],str [],Qb,Qb,ai 0],Qb,kb Q4]) []) (Qc (GA a4 (E6 x0)) (re (tup [agg
  [str a5.1.1,str a5.1.2.1,str a5.1.2.2.1,str a5.1.2.2.2.1.1,sl zj a5.1.2.2.2.1.2.1,ai a5.1.2.2.2.1.2.2.1,sl zg a5.1.2.2.2.1.2.2.2.1,sl zu a5.1.2.2.2.1.t.1,str (zf.op a5.1.2.2.2.1.t.2),ai (zf.v a5.1.2.2.2.1.t.2).1,ai (zf.v a5.1.2.2.2.1.t.2).2.1,
  str (zf.v a5.1.2.2.2.1.t.2).2.2,str (zf.s a5.1.2.2.2.1.t.2),sl Sh.expr (zf.l a5.1.2.2.2.1.t.2),sl zg a5.1.t.1,ai a5.1.t.2],sl zh a5.2.1,AV.bool a5.2.2]) [])))))
noncomputable def qn(x0:Sem zh.sl)(x1:Sem zl):=al [zr,zh.sl,Q7] t0 100000000 (i7u x0 x1)
noncomputable def wz(x0:Sem zh.sl)(x1:Sem zl):=(qn x0 x1).isSome
noncomputable def BS(x0:Sem zh.sl)(x1:Sem zl):=o3 (qn x0 x1)
noncomputable def F7u:=FT [zh.sl,zl] [zr,zh.sl,Q7] λx=>qn x.1 x.2.1
theorem zg0:FK 7 F7u:=ES.T1 (f:=Tryz.f7) (keep:=k0) (e:=e0)
noncomputable def M9:=Zo.add 7 F7u
theorem wm:zy M9:=ES.add zg0
noncomputable def RZ:cd:={M9 with sh:=λt=>if t=2 then Q1 (.int .i64)else M9.sh t}
theorem Bp:zy RZ where
 sh:=λt e h=>by
  have h':(if t=2 then Q1 (.int .i64)else M9.sh t)=Q1 e:=h;split at h'
  ·rename_i ht;subst ht;cases h';exact Kp kw
  ·exact wm.sh t e h'
 fs:=wm.fs
 mix:=wm.mix
noncomputable def i9u:Tr (Empty⊕aw):=
 Qc Q3
 (Qc Q3
  (Qc Q3 (Qc Q3 (Qc Q3 (br Q4 (re (kb Q4) []) (Qc Q3 (Qc Q3 (Qc Q3 (Qc Q3 (re (AV.bool Q3) []))))))))))
noncomputable def AD:=al [Q7] t0 100000000 (i9u)
noncomputable def vu:=(AD).isSome
noncomputable def xe:=o1 (AD)
noncomputable def F9u:=FT [] [Q7] λ_=>AD
theorem zhg:FK 9 F9u:=Bp.T1 (f:=Tryz.f9) (keep:=k0) (e:=e0)
noncomputable def Zp:=RZ.add 9 F9u
theorem Pc:zy Zp:=Bp.add zhg
noncomputable section
inductive H3u where
 |h9 (l8:List (Sem zh)) (l10:List (Sem ze)) (i11:Sem zg) (l12:List (Sem ze.sl)) (i13:Sem zg) (i15:Int) (z0:zm [CP.d ze]) (z1:zm [CP.d zr])
 |h9b (l8:List (Sem zh)) (l10:List (Sem ze)) (i11:Sem zg) (l12:List (Sem ze.sl)) (i13:Sem zg) (b14:Bool) (i15:Int) (z0:zm [CP.d ze]) (z1:zm [CP.d zr])
end
def RgV(v:Sem ze):Prop:=LE.le (α:=Int) (-9223372036854775808) v.2.1/\LE.le (α:=Int) v.2.1 9223372036854775807
mutual
def Qr:zf->Prop
 |.mk _ v _ l=>RgV v/\FW l
def FW:List zf->Prop
 |[]=>True
 |e::r=>Qr e/\FW r
end
theorem FW.mem:∀{l:List zf},FW l->∀e∈l,Qr e
 |[],_,e,h=>by simp at h
 | x::r,h,e,he=>by
  rw[FW]at h;rcases cu.1 he with rfl|he
  ·exact h.1
  ·exact FW.mem h.2 e he
theorem j0.app:∀{a b:List zf},j0 a->j0 b->j0 (a++b)
 |[],_,_,h=>h
 | x::r,b,h,hb=>by
  rw[j0]at h;rw[List.cons_append,j0];exact⟨h.1,h.2.app hb⟩
theorem Kw(k:Nat)(s:zD)(h:k<=1000):(List.take (toNat (k:Int)-toNat 0) (List.drop (toNat 0) s)).length<=1000000:=by
 simp;omega
theorem Tp{n k:Nat}(h:¬Q0 ((n:Int)>(k:Int))=Q3)(hk:k<=1000):n<=1000000:=by
 have:¬(n:Int)>(k:Int):=by simpa using h
 omega
theorem j0.of:∀{l:List zf},(∀x∈l,sb x)->j0 l
 |[],_=>by rw[j0];trivial
 |x::r,h=>by rw[j0];exact⟨h x sw,j0.of λy hy=>h y (by simp[hy])⟩
theorem yE{e:zf}(h:Qr e):sb (gP e):=by
 obtain⟨r,m,h1,h2⟩:=Gr (P:=λ_ e r=>Qr e->sb r) (λN e o t s l hl _ ht hs hr=>by
  obtain⟨op,v,s',l'⟩:=e;rw[Qr]at hr;rw[sb];exact⟨⟨hr.1.1,hr.1.2,by show t.length<=_;omega⟩,ow,j0.of λy hy=>by
   obtain⟨x,hx,hxy⟩:=hl y hy;exact hxy (hr.2.mem x hx)⟩) 16 e 14 80 ow ow ow
 unfold gP;rw[zf.eta,show ru 16 e 14 80=(r,m) by unfold ru;rw[h1];rfl];exact h2 h
theorem C3(s:zD):(ji s).length<=1000000:=by
 unfold ji;split
 ·exact Kw 20 s ow
 ·exact Tp (k:=20) (by assumption) ow
theorem S7(l:List (Sem zj)):(jD l).length<=9/\∀c∈jD l,length c.1<=1000000:=by
 refine⟨by show((List.take 9 l).map _).length<=9;rw[cV,ol];omega,λc hc=>?_⟩;obtain⟨x,_,rfl⟩:=bq.1 hc;exact C3 x.1
theorem XQ{t:Sem zo}(h:Qr t.t.2):KE (Dl t):=by
 have hc:=S7 t.2.1;refine⟨C3 _,hc.2,cD hc.1 ow,?_,?_,λf hf=>?_,yE h⟩
 ·show(List.take 10 _).length<=_;rw[ol];omega
 ·show((List.take 10 _).map _).length<=_;rw[cV,ol];omega
 ·obtain⟨g,_,rfl⟩:=bq.1 hf;exact C3 _
theorem XT{v:Sem ze}(h:RgV v):l7 (gF v):=by
 unfold gF;split
 ·exact⟨h.1,h.2,Kw 60 v.2.2 ow⟩
 ·exact⟨h.1,h.2,Tp (k:=60) (by assumption) ow⟩
theorem BR{l:List (Sem ze)}(h:∀v∈l,RgV v):∀v∈iR l,l7 v:=λv hv=>by
 obtain⟨x,hx,rfl⟩:=bq.1 hv;exact XT (h x (List.mem_of_mem_take hx))
structure RgR (x:Sem zh):Prop where
 chk:Qr x.1.t.2
 vals:∀r∈x.2,∀v∈(r:List (Sem ze)),RgV v
theorem S5{x:Sem zh}(h:RgR x):Qs (xQ x):=by
 obtain⟨rows,h1,h2⟩:=Jp x;have h3:xQ x=(Dl x.1,rows):=by unfold xQ;rw[h2];rfl
 rw[h3];refine⟨XQ h.chk,by show rows.length<=1000;have:=h1.1;omega,λr hr v hv=>?_⟩;obtain⟨r0,hr0,rfl⟩:=h1.2 r hr;exact BR (h.vals r0 hr0) v hv
structure RgS (s:Sem zl):Prop where
 chk:Qr s.t.t.1
 whr:Qr s.t.t.q.2.1
 row:∀v∈s.t.t.2.1,RgV v
 sets:∀x∈s.t.t.q.1,Qr (x:Sem ic).2
theorem S4{s:Sem zl}(h:RgS s):∃s':Sem zl,wy s=Q1 (s',())/\KJ s'/\oI s':=by
 obtain⟨s',h1,h2,h3⟩:=LB s;refine⟨s',h1,h2,h2.sh,?_,?_,h2.cp,?_,?_,?_⟩
 ·rw[h3.chk];exact yE h.chk
 ·rw[h3.whr];exact yE h.whr
 ·rw[h3.whr];exact F6 _
 ·rw[h3.row];exact BR h.row
 ·intro x hx;obtain⟨y,hy,he⟩:=h3.sets x hx;rw[he];exact⟨yE (h.sets y hy),F6 _⟩
open Go
abbrev U0:Nat->Prop:=λ_=>False
abbrev iH:Nat->Option Value:=λ_=>Q2
def Qt(P:Program)(T:TypeId->Sh->Bool):List Field->Nat->Sh->Bool
 |[],_,_=>Q4
 |[f],off,s=>f.offset==off&&(T f.type s&&P.cellsOf f.type==s.size)
 |f::fs,off,.pr a b=>f.offset==off&&(T f.type a&&(P.cellsOf f.type==a.size&&Qt P T fs (off+a.size) b))
 |_,_,_=>Q4
def qm(P:Program)(t:TypeId):Bool:=match P.underlying t with
 |some .string=>P.cellsOf t==1
 |_=>Q4
def Nj(P:Program)(t e:TypeId):Bool:=match P.underlying t with
 |some (.slice u)=>u==e&&P.cellsOf t==1
 |_=>Q4
def MC(P:Program):Nat->TypeId->Sh->Bool
 |0,_,_=>Q4
 | n+1,t,s=>match P.underlying t,s with
  |some .bool,.bool=>Q3
  |some (.int k),.int k'=>k==k'
  |some .string,.str=>Q3
  |some (.slice e),.sl s=>P.cellsOf e==s.size&&(Q0 (0<s.size)&&MC P n e s)
  | some (.struct fs),.expr=>match fs.toList with
   |[a,b,c,d]=>P.cellsOf t==6&&(a.offset==0&&(b.offset==1&&(c.offset==4&&(d.offset==5&&(qm P a.type&&(qm P c.type&&(Nj P d.type t&&(P.cellsOf b.type==3&&MC P n b.type (.pr (.int .i64) (.pr (.int .i64) .str))))))))))
   |_=>Q4
  |some (.struct fs),.pr a b=>P.cellsOf t==(Sh.pr a b).size&&Qt P (MC P n) fs.toList 0 (.pr a b)
  |_,_=>Q4
section
variable {H:Type} {enc:TypeId×Value->H} {P:Program} {w:World} {sp:Nat->Bool} {held:Bool}
def Got(w:World)(s:Sh)(cs:List Value):Prop:=∃x:Sem s,dq w U0 iH (zq s x) cs/\∀v∈cs,v.oneCell'=Q3
theorem da{α β:Type}{f:α->Option β}{a:α}{l:List α}{r:List β}(h:(a::l).mapM f=Q1 r):∃y ys,f a=Q1 y/\l.mapM f=Q1 ys/\r=y::ys:=by
 rw[List.mapM_cons]at h;cases hy:f a with
 |none=>rw[hy]at h;simp at h
 | some y=>
  cases hys:l.mapM f with
  |none=>rw[hy,hys]at h;simp at h
  | some ys=>
   rw[hy,hys]at h;simp at h;exact⟨y,ys,rfl,rfl,h.symm⟩
theorem Jw{α β:Type}{f:α->Option β}:∀{l:List α}{r:List β},l.mapM f=Q1 r->∀x∈l,∃y,f x=Q1 y
 |[],_,_,_,hx=>by simp at hx
 | a::l,r,h,x,hx=>by
  obtain⟨y,ys,h1,h2,_⟩:=da h;rcases cu.1 hx with rfl|hx
  ·exact⟨y,h1⟩
  ·exact Jw h2 x hx
theorem BV{α β:Type}{f:α->Option β}:∀{l:List α}{r:List β},l.mapM f=Q1 r->r.length=l.length/\∀(i:Nat) a,l[i]?=Q1 a->f a=r[i]?
 |[],r,h=>by simp at h;subst h;simp
 | a::l,r,h=>by
  obtain⟨y,ys,h1,h2,rfl⟩:=da h;obtain⟨h3,h4⟩:=BV h2;refine⟨by simp[h3],λi b hi=>?_⟩;cases i with
  |zero=>simp at hi;subst hi;simpa using h1
  |succ i=>simpa using h4 i b (by simpa using hi)
theorem Il(a:Addr)(h:a.spot=Q2)(n:Nat):a.add n=⟨a.block,a.off+n,Q2⟩:=by
 obtain⟨b,o,s⟩:=a;simp only at h;subst h;unfold Addr.add;split
 ·rename_i h;subst h;rfl
 ·rfl
theorem dq.take{cs:List AV}{vs:List Value}(h:dq w U0 iH cs vs)(n:Nat):dq w U0 iH (cs.take n) (vs.take n):=by
 refine⟨by simp[h.len],λj c v hc hv=>?_⟩;rw[List.getElem?_take]at hc hv;split at hc
 ·rename_i hj;rw[if_pos hj]at hv;exact h.rv j c v hc hv
 ·cases hc
theorem dq.appS{a b:List AV}{x y:List Value}(h:dq w U0 iH a x)(h':dq w U0 iH b y):dq w U0 iH (a++b) (x++y):=by
 refine⟨by simp[h.len,h'.len],λj c v hc hv=>?_⟩;by_cases hj:j<a.length
 ·rw[ms hj]at hc;rw[ms (by rw[<-h.len];exact hj)]at hv;exact h.rv j c v hc hv
 ·rw[ng ow]at hc;rw[ng (by rw[<-h.len];omega),<-h.len]at hv;exact h'.rv _ c v hc hv
theorem dq.one{c:AV}{v:Value}(h:Rv w U0 iH c v):dq w U0 iH [c] [v]:=by
 refine⟨rfl,λj d u hd hu=>?_⟩;cases j with
 |zero=>simp at hd hu;subst hd;subst hu;exact h
 |succ j=>simp at hd
theorem By{fuel:Nat}{T:TypeId->Sh->Bool}(hT:∀t s cs d ps,T t s=Q3->DataW.trod enc P w 0 sp held fuel t cs=Q1 (d,ps)->Got w s cs){cs:List Value}:
  ∀(fl:List Field)(off:Nat)(s:Sh) xs,Qt P T fl off s=Q3->(fl.mapM λf=>DataW.trod enc P w 0 sp held fuel f.type ((cs.drop f.offset).take (P.cellsOf f.type)))=Q1 xs->Got w s ((cs.drop off).take s.size)
 |[],_,_,_,h,_=>by simp[Qt]at h
 | [f],off,s,xs,h,hm=>by
  simp only[Qt,aC,bf]at h;obtain⟨h1,h2,h3⟩:=h;obtain⟨y,ys,hy,_,_⟩:=da hm;rw[h1,h3]at hy;exact hT _ _ _ _ _ h2 hy
 | f::g::fs,off,.pr a b,xs,h,hm=>by
  simp only[Qt,aC,bf]at h;obtain⟨h1,h2,h3,h4⟩:=h;obtain⟨y,ys,hy,hys,_⟩:=da hm;rw[h1,h3]at hy;obtain⟨x1,r1,o1⟩:=hT _ _ _ _ _ h2 hy;obtain⟨x2,r2,o2⟩:=By hT (g::fs) (off+a.size) b ys h4 hys;have hl1:((cs.drop off).take a.size).length=a.size:=by rw[<-r1.len,zZ]
  have hsplit:(cs.drop off).take (a.size+b.size)=(cs.drop off).take a.size++(cs.drop (off+a.size)).take b.size:=by
   rw[List.take_add,Eg]
  refine⟨(x1,x2),?_,?_⟩
  ·show dq w U0 iH (zq a x1++zq b x2) ((cs.drop off).take (a.size+b.size));rw[hsplit];exact r1.appS r2
  ·intro v hv;have hv:v∈(cs.drop off).take (a.size+b.size):=hv;rw[hsplit,cR]at hv;exact hv.elim (o1 v) (o2 v)
 |_::_::_,_,.unit,_,h,_=>by simp[Qt]at h
 |_::_::_,_,.bool,_,h,_=>by simp[Qt]at h
 |_::_::_,_,.int _,_,h,_=>by simp[Qt]at h
 |_::_::_,_,.str,_,h,_=>by simp[Qt]at h
 |_::_::_,_,.sl _,_,h,_=>by simp[Qt]at h
 |_::_::_,_,.expr,_,h,_=>by simp[Qt]at h
theorem FL{fuel:Nat}{t e:TypeId}{s:Sh}(ht:P.underlying t=Q1 (.slice e))(hc:P.cellsOf e=s.size)(hpos:0<s.size)
  (hT:∀cs d ps,DataW.trod enc P w 0 sp held fuel e cs=Q1 (d,ps)->Got w s cs) {cs:List Value} {d:DataW H} {ps:List MemPlace} (h:DataW.trod enc P w 0 sp held (fuel+1) t cs=Q1 (d,ps)):Got w (.sl s) cs:=by
 unfold DataW.trod at h;rw[ht]at h;split at h
 all_goals first
  |(rename_i hu;cases hu;done)
  |(rename_i hu _;cases hu;done)
  |(simp at h;done)
  |skip
 ·rename_i hu;cases hu;exact⟨[],dq.one (.sl0 s Q2 0),by simp[Value.oneCell']⟩
 ·rename_i a len cap hu;cases hu;simp only[be,true_and]at h;split at h
  ·rename_i hcond;rw[fV]at h;obtain⟨elems,he,_⟩:=h;have hall:∀i,∃x:Sem s,i<len->∃ci,w.cells? 0 (a.add (i*s.size)) s.size=Q1 ci/\dq w U0 iH (zq s x) ci:=by
    intro i;by_cases hi:i<len
    ·obtain⟨y,hy⟩:=Jw he i (by simpa using hi);rw[fV]at hy;obtain⟨ci,h1,h2⟩:=hy;obtain⟨x,hx,_⟩:=hT ci y.1 y.2 h2;rw[hc]at h1;exact⟨x,λ_=>⟨ci,h1,hx⟩⟩
    ·exact⟨zi s,λh=>(hi h).elim⟩
   obtain⟨X,hX⟩:=Classical.axiomOfChoice hall;have hmax:maxLen=aH:=rfl;cases len with
   |zero=>exact⟨[],dq.one (.sl0 s (Q1 a) cap),by simp[Value.oneCell']⟩
   | succ len=>
    have hcell:∀i,i<len+1->∃ci,ci.length=s.size/\(∀j,j<s.size->w.cell? ((a.add (i*s.size)).add j)=ci[j]?)/\dq w U0 iH (zq s (X i)) ci:=by
     intro i hi;obtain⟨ci,h1,h2⟩:=hX i hi;unfold World.cells? at h1;rw[if_pos (be _)]at h1;obtain⟨h3,h4⟩:=BV h1;refine⟨ci,by simpa using h3,λj hj=>?_,h2⟩;exact h4 j j (by simp[hj])
    have hspot:a.spot=Q2:=by
     obtain⟨ci,h1,h2,_⟩:=hcell 0 ow;have:=h2 0 hpos;simp only[Nat.zero_mul,Addr.add,if_true]at this;rw[zS ow]at this;unfold World.cell? at this;split at this
     ·split at this
      ·cases this
      ·rename_i hs;cases hsp:a.spot with
       |none=>rfl
       |some q=>rw[hsp]at hs;simp at hs
     ·cases this
    have hblk:a.block<w.heap.size:=by
     obtain⟨ci,h1,h2,_⟩:=hcell 0 ow;have:=h2 0 hpos;simp only[Nat.zero_mul,Addr.add,if_true]at this;rw[zS ow]at this;have ha:a=⟨a.block,a.off,Q2⟩:=by rw[<-hspot]
     rw[ha]at this;exact tv this
    have hci:∀i,∃ci:List Value,i<len+1->ci.length=s.size/\(∀j,j<s.size->w.cell? ⟨a.block,a.off+i*s.size+j,Q2⟩=ci[j]?)/\dq w U0 iH (zq s (X i)) ci:=by
     intro i;by_cases hi:i<len+1
     ·obtain⟨ci,h1,h2,h3⟩:=hcell i hi;refine⟨ci,λ_=>⟨h1,λj hj=>?_,h3⟩⟩;rw[<-h2 j hj,Il a hspot,Il _ rfl]
     ·exact⟨[],λh=>(hi h).elim⟩
    obtain⟨Cs,hCs⟩:=Classical.axiomOfChoice hci;let l:List (Sem s):=(List.range (len+1)).map X
    have hl:l.length=len+1:=by simp[l]
    have hget:∀i(hi:i<l.length),l[i]=X i:=by intro i hi;simp[l]
    refine⟨l,dq.one ?_,by simp[Value.oneCell']⟩;have ha:a=⟨a.block,a.off,Q2⟩:=by rw[<-hspot]
    rw[ha,<-hl];refine .sl s l a.block a.off cap (λi j=>((Cs i)[j]?).getD undef) ow ow hblk (λh=>h) ?_ ?_
    ·intro i j hi hj;obtain⟨h1,h2,_⟩:=hCs i ow;rw[h2 j hj,zS ow];rfl
    ·intro i hi j c hc';obtain⟨h1,_,h3⟩:=hCs i ow;rw[hget i hi]at hc';have hj:j<(Cs i).length:=by
      have:=(cW.1 hc').1;rw[h3.len]at this;exact this
     have:=h3.rv j c _ hc' (zS hj);rw[zS hj];exact this
  ·cases h
theorem HH{fuel:Nat}{t:TypeId}(ht:P.underlying t=Q1 .string){cs:List Value}{d:DataW H}{ps:List MemPlace}(h:DataW.trod enc P w 0 sp held fuel t cs=Q1 (d,ps)):Got w .str cs:=by
 cases fuel with
 |zero=>simp[DataW.trod]at h
 | succ fuel=>
  unfold DataW.trod at h;rw[ht]at h;split at h
  all_goals first
   |(rename_i hu;cases hu;done)
   |(rename_i hu _;cases hu;done)
   |(simp at h;done)
   |skip
  rename_i s hu;split at h
  ·rename_i hs;refine⟨s.data.toList,dq.one ?_,by simp[Value.oneCell']⟩;have h9:maxLen=aH:=rfl;have h8:s.size=s.data.toList.length:=rfl;exact .str s.data.toList ow
  ·cases h
theorem BN{t:TypeId}(h:qm P t=Q3):P.underlying t=Q1 .string/\P.cellsOf t=1:=by
 unfold qm at h;split at h
 ·rename_i hu;exact⟨hu,by simpa using h⟩
 ·cases h
theorem SF{t e:TypeId}(h:Nj P t e=Q3):P.underlying t=Q1 (.slice e)/\P.cellsOf t=1:=by
 unfold Nj at h;split at h
 ·rename_i u hu;simp only[aC,bf]at h;rw[<-h.1];exact⟨hu,h.2⟩
 ·cases h
theorem pN:∀(fuel n:Nat)(t:TypeId)(s:Sh)(cs:List Value)(d:DataW H)(ps:List MemPlace),MC P n t s=Q3->DataW.trod enc P w 0 sp held fuel t cs=Q1 (d,ps)->Got w s cs
 |0,_,_,_,_,_,_,_,h=>by simp[DataW.trod]at h
 |fuel+1,0,_,_,_,_,_,hty,_=>by simp[MC]at hty
 | fuel+1,n+1,t,s,cs,d,ps,hty,h=>by
  have h0:=h;unfold MC at hty;split at hty
  ·rename_i hu;unfold DataW.trod at h;rw[hu]at h;split at h
   all_goals first
    |(rename_i hu';cases hu';done)
    |(rename_i hu' _;cases hu';done)
    |(simp at h;done)
    |skip
   exact⟨_,dq.one (.bool _),by simp[Value.oneCell']⟩
  ·rename_i k k' hu;have hk:k=k':=by simpa using hty
   subst hk;unfold DataW.trod at h;rw[hu]at h;split at h
   all_goals first
    |(rename_i hu';cases hu';done)
    |(rename_i hu' _;cases hu';done)
    |(simp at h;done)
    |skip
   rename_i k1 k2 m hu';cases hu';split at h
   ·rename_i hw;obtain⟨rfl,hw⟩:=hw;simp only[Lit.wf,aC,aP]at hw;exact⟨m,dq.one (.int _ _ ⟨hw.1,hw.2⟩),by simp[Value.oneCell']⟩
   ·cases h
  ·rename_i hu;exact HH hu h
  ·rename_i e s hu;simp only[aC,bf,aP]at hty;exact FL hu hty.1 hty.2.1 (λcs d ps h=>pN fuel n e s cs d ps hty.2.2 h) h
  ·rename_i fs hu;split at hty
   ·rename_i a b c d' hfs;simp only[aC,bf]at hty;obtain⟨hsz,ha,hb,hc,hd,sa,sc,sd,zb,tb⟩:=hty;obtain⟨sa,za⟩:=BN sa;obtain⟨sc,zc⟩:=BN sc;obtain⟨sd,zd⟩:=SF sd;unfold DataW.trod at h;rw[hu]at h;simp only at h;split at h
    ·rename_i hlen;rw[ei]at h;obtain⟨xs,hm,_⟩:=h;rw[hfs]at hm;obtain⟨ya,r1,ya1,hm,_⟩:=da hm;obtain⟨yb,r2,yb1,hm,_⟩:=da hm;obtain⟨yc,r3,yc1,hm,_⟩:=da hm;obtain⟨yd,r4,yd1,hm,_⟩:=da hm;rw[ha,za]at ya1;rw[hb,zb]at yb1;rw[hc,zc]at yc1;rw[hd,zd]at yd1;obtain⟨xa,ga,oa⟩:=HH sa ya1;obtain⟨xb,gb,ob⟩:=pN fuel n b.type _ _ _ _ tb yb1;obtain⟨xc,gc,oc⟩:=HH sc yc1;have hgd:Got w (.sl .expr) ((cs.drop 5).take 1):=by
      cases fuel with
      |zero=>simp[DataW.trod]at yd1
      | succ fuel=>
       refine FL sd (by rw[hsz];rfl) (by decide) (λcs d ps h=>pN fuel (n+1) t .expr cs d ps ?_ h) yd1;unfold MC;rw[hu];simp only[hfs,aC,bf];refine⟨hsz,ha,hb,hc,hd,?_,?_,?_,zb,tb⟩
       ·simp[qm,sa,za]
       ·simp[qm,sc,zc]
       ·simp[Nj,sd,zd]
     obtain⟨xd,gd,od⟩:=hgd;have hl6:cs.length=6:=by rw[hlen,hsz]
     have hcs:cs=(cs.drop 0).take 1++((cs.drop 1).take 3++((cs.drop 4).take 1++(cs.drop 5).take 1)):=by
      match cs,hl6 with
      |[v0,v1,v2,v3,v4,v5],_=>rfl
     refine⟨zf.mk xa xb xc xd,?_,?_⟩
     ·have hr:=ga.appS (gb.appS (gc.appS gd));rw[<-hcs]at hr;exact hr
     ·intro v hv;rw[hcs]at hv;simp only[cR]at hv;rcases hv with hv|hv|hv|hv
      ·exact oa v hv
      ·exact ob v hv
      ·exact oc v hv
      ·exact od v hv
    ·cases h
   ·cases hty
  ·rename_i fs a b hu;simp only[aC,bf]at hty;unfold DataW.trod at h;rw[hu]at h;simp only at h;split at h
   ·rename_i hlen;rw[ei]at h;obtain⟨xs,hm,_⟩:=h;have:=By (λt s cs d ps h1 h2=>pN fuel n t s cs d ps h1 h2) fs.toList 0 (.pr a b) xs hty.2 hm;rw[List.drop_zero,MR (by rw[hlen,hty.1];exact aA _)]at this;exact this
   ·cases h
  ·cases hty
termination_by fuel=>fuel
theorem yz{n:Nat}{t:TypeId}{s:Sh}{v:Value}{d:DataW H}{ps:List MemPlace}(hty:MC P n t s=Q3)(h:DataW.Trod enc P w 0 sp held t v d ps)(hagg:(∃cs,v=.agg cs)↔s.isAgg=Q3)(hsc:s.isAgg=Q4->v.cells=#[v]):∃x:Sem s,Rv w U0 iH (zH s x) v:=by
 obtain⟨fuel,h⟩:=h;obtain⟨x,hr,ho⟩:=pN fuel n t s _ d ps hty h;refine⟨x,?_⟩;unfold zH;cases hs:s.isAgg with
 | true=>
  obtain⟨cs,rfl⟩:=hagg.2 hs;simp only;have:=Rv.agg (w:=w) (U:=U0) (ρ:=iH) (zq s x) cs.toList hr.len ho hr.rv;simpa using this
 | false=>
  simp only;rw[hsc hs]at hr;have hlen:=hr.len
  match he:zq s x,hlen with
  | [c],_=>
   rw[he]at hr;exact hr.rv 0 c v rfl rfl
end
open Go Go.RowKit Go.ChangeShapes
theorem Gy{W W':World}(hos:W'.os=W.os)(hout:W'.output=W.output)(h:∀b,b<W.heap.size->W'.heap[b]?=W.heap[b]?)(may:MemPlace->Prop):W.keptBut W' may:=by
 refine⟨hos,hout,λi hi=>?_⟩;rw[h i hi];cases W.heap[i]? with
 |none=>rfl
 | some o=>
  cases o with
  |cells c t fr=>exact⟨rfl,rfl,rfl,λ_ _=>rfl⟩
  |map es clock=>exact .inr ⟨rfl,rfl⟩
  |_=>rfl
section
variable {H:Type} {enc:TypeId×Value->H} {P:Program}
theorem JI{f:Func}{s:ChangeSpec}{fresh handsOn again:Bool}{W W':World}{args:Array Value}{v:Value}{ds gs:List (DataW H)}{before pa pv:List MemPlace}
  (hW:DataW.Whole enc P f.params.toList s.vars Q4 W args.toList ds gs before)
  (hres:∀(b:Nat)(sp:Nat->Bool)(hd:Bool),DataW.TrodAll enc P W' b sp hd f.resultTypes.toList (v.resultList f.resultTypes.size) (s.fn H (ds++gs)).results [])
  (hargs:∀sp:Nat->Bool,(∀p∈before,sp p.block=Q3)->DataW.TrodAll enc P W' 0 sp Q3 f.params.toList args.toList (s.fn H (ds++gs)).args pa)
  (hvars:∀sp:Nat->Bool,(∀p∈before,sp p.block=Q3)->DataW.TrodVars enc P W' sp s.vars (s.fn H (ds++gs)).vars pv)
  (hps:before=pa++pv) (hk:W.keptBut W' (·∈before)) (hfz:∀a:Addr,a.block<W.heap.size->W'.frozen? a=W.frozen? a)
  (hok:∀(j:Nat)(t:TypeId)(r:Value),f.resultTypes[j]?=Q1 t->(v.resultList f.resultTypes.size)[j]?=Q1 r->Value.okWide P W' .any 0 t r):
  s.post enc P f Q4 fresh handsOn again W args v W':=by
 have hold:∀p∈before,(λb=>Q0 (b<W.heap.size)) p.block=Q3:=λp hp=>by simpa using hW.lt p hp
 have hlt:=hW.lt;refine⟨ds,gs,before,[],pa,pv,hW,hres _ _ _,hargs _ hold,hvars _ hold,World.keptBut_mono (λp hp=>⟨hp,?_⟩) hk,λ_=>?_⟩
 ·rw[hps,cR]at hp;exact Or.inr hp
 ·obtain⟨_,_,_,_,_,hz,hn⟩:=hW;refine⟨hok,_,_,([]++pa)++pv,⟨[]++pa,pv,trodAll_append (hargs _ (λ_ _=>rfl)) (hres _ _ _),hvars _ (λ_ _=>rfl),rfl,?_,?_⟩,?_⟩
  ·intro b off hp;have hp':MemPlace.cell b off∈before:=by rw[hps];simpa using hp
   rw[hfz ⟨b,off,Q2⟩ (hlt _ hp')];exact hz b off hp'
  ·intro ha;cases ha
  ·intro p hp _;rw[hps];simpa using hp
theorem PE{W:World}{r:Go.Reach}{b:Nat}{t:TypeId}{fs:Array Field}{v:Value}(ht:P.underlying t=Q1 (.struct fs))(h:Value.okWide P W r b t v):∃cs,v=.agg cs:=by
 unfold Value.okWide at h;rw[ht]at h;obtain⟨cs,rfl,_⟩:=h;exact⟨cs,rfl⟩
theorem TH{W:World}{r:Go.Reach}{b:Nat}{t e:TypeId}{v:Value}(ht:P.underlying t=Q1 (.slice e))(h:Value.okWide P W r b t v):∃a n c,v=.slice a n c:=by
 unfold Value.okWide at h;rw[ht]at h;simp only at h;unfold Cell.okWide at h;rw[ht]at h;unfold Cell.ok at h;rw[ht]at h;cases v<;>simp at h
 exact⟨_,_,_,rfl⟩
theorem zdL{W:World}{r:Go.Reach}{b:Nat}{t:TypeId}{k:IntKind}{v:Value}(ht:P.underlying t=Q1 (.int k))(h:Value.okWide P W r b t v):∃n,v=.int k n:=by
 unfold Value.okWide at h;rw[ht]at h;simp only at h;unfold Cell.okWide at h;rw[ht]at h;unfold Cell.ok at h;rw[ht]at h;cases v<;>simp at h
 exact⟨_,by rw[h.1]⟩
theorem Ln{W:World}{r:Go.Reach}{b n:Nat}{t:TypeId}{fs:Array Field}{s:Sh}{v:Value}{d:DataW H}{ps:List MemPlace}(hty:MC P n t s=Q3)(hs:s.isAgg=Q3)(ht:P.underlying t=Q1 (.struct fs))(hok:Value.okWide P W r b t v)
  (h:DataW.Trod enc P W 0 (λ_=>Q3) Q3 t v d ps):∃x:Sem s,Rv W U0 iH (zH s x) v:=by
 refine yz hty h ⟨λ_=>hs,λ_=>PE ht hok⟩ (λh'=>?_);rw[hs]at h';cases h'
theorem Ph{W:World}{r:Go.Reach}{b n:Nat}{t e:TypeId}{s:Sh}{v:Value}{d:DataW H}{ps:List MemPlace}(hty:MC P n t (.sl s)=Q3)(ht:P.underlying t=Q1 (.slice e))(hok:Value.okWide P W r b t v)
  (h:DataW.Trod enc P W 0 (λ_=>Q3) Q3 t v d ps):∃x:List (Sem s),Rv W U0 iH (.sl s x) v:=by
 obtain⟨a,m,c,rfl⟩:=TH ht hok;exact yz (s:=.sl s) hty h ⟨(λ⟨_,hh⟩=>(by cases hh)),(λhh=>(by cases hh))⟩ (λ_=>rfl)
theorem WI{W:World}{r:Go.Reach}{b n:Nat}{t:TypeId}{k:IntKind}{v:Value}{d:DataW H}{ps:List MemPlace}(hty:MC P n t (.int k)=Q3)(ht:P.underlying t=Q1 (.int k))(hok:Value.okWide P W r b t v)
  (h:DataW.Trod enc P W 0 (λ_=>Q3) Q3 t v d ps):∃x:Int,Rv W U0 iH (.int k x) v:=by
 obtain⟨m,rfl⟩:=zdL ht hok;exact yz (s:=.int k) hty h ⟨(λ⟨_,hh⟩=>(by cases hh)),(λhh=>(by cases hh))⟩ (λ_=>rfl)
theorem KU{gl:Nat->AV}{k:FuncId}{F:ac}(hF:oC P gl k F){W:World}{jl:List AV}{args:Array Value}(hgl:Dz gl W U0)(hr:dq W U0 iH jl args.toList)(hv:(F jl (λ_=>.dead) 0).val=Q1 {val:=.bool Q3})(hid:AV.idsL jl=[]):
  Calls P k args W λe W'=>e=.returned (.bool Q3)/\lX W W'/\∀b,b<W.heap.size->W'.heap[b]?=W.heap[b]?:=by
 have:=(hF.calls W U0 iH (λ_=>.dead) 0 jl args.toList _ [] hv hr (λ_ h=>h.elim) hgl ⟨sw,sw⟩ (by rw[hid];simp) sw sw).1;rw[show args.toList.toArray=args by simp]at this;refine this.mono ?_;rintro e w' ⟨v,U',ρ',rfl,hef⟩;have hv':=hef.val;cases hv';exact⟨rfl,hef.ext,λb hb=>hef.same b hb sw⟩
end
open Go Go.Proofs Go.RowKit Go.ChangeShapes Go.WideShapes Go.ChangeAt Go.Proofs.YtkmcdhahdadkpaaGreatDoor
theorem Jq{P:Program}{w:World}:∀{l:List (String×DataW Unit)}{ps:List MemPlace},DataW.LaidVars P w l ps->∀n d,(n,d)∈l->
  ∃g t cs fuel p,P.globalNamed n=Q1 g/\(P.globals[g]?).map (·.type)=Q1 t/\w.var? P n=Q1 cs/\DataW.trod (λ_=>()) P w 0 (λ_=>Q3) Q4 fuel t cs.toList=Q1 (d,p)
 |[],_,_,_,_,h=>by simp at h
 | (n0,d0)::r,ps,h,n,d,hm=>by
  obtain⟨g,t,cs,fuel,p,q,h1,h2,h3,h4,h5,_⟩:=h;rcases cu.1 hm with e|hm
  ·cases e;exact⟨g,t,cs,fuel,p,h1,h2,h3,h4⟩
  ·exact Jq h5 n d hm
theorem GB{P:Program}{l:List (String×DataW Unit)}{w:World}(hf:(l.filter λx=>x.2.handleName?.isSome).isEmpty=Q3)(h:laidMetH P l w):laidMet P l w:=by
 unfold laidMetH at h;split at h
 ·exact h
 ·rename_i a b hab;rw[hab]at hf;simp at hf
theorem pO{H:Type}{enc:TypeId×Value->H}{P:Program}{w:World}{base:Nat}{sp:Nat->Bool}{held:Bool}{fuel:Nat}{t:TypeId}(ht:P.underlying t=Q1 .string){cs:List Value}{b:List UInt8}{p:List MemPlace}
  (h:DataW.trod enc P w base sp held fuel t cs=Q1 (.lit (.string b),p)):cs=[.string ⟨b.toArray⟩]:=by
 cases fuel with
 |zero=>simp[DataW.trod]at h
 | succ fuel=>
  unfold DataW.trod at h;rw[ht]at h;split at h
  all_goals first
   |(rename_i hu;cases hu;done)
   |(rename_i hu _;cases hu;done)
   |(simp at h;done)
   |skip
  rename_i s hu;split at h
  ·simp only[bD,cA,DataW.lit.injEq,Lit.string.injEq]at h;rw[<-h.1]
  ·cases h
theorem UN{H:Type}{enc:TypeId×Value->H}{P:Program}{w:World}{base:Nat}{sp:Nat->Bool}{held:Bool}{fuel:Nat}{t:TypeId}(ht:P.underlying t=Q1 (.int .u64)){cs:List Value}{z:Int}{p:List MemPlace}
  (h:DataW.trod enc P w base sp held fuel t cs=Q1 (.lit (.int .u64 z),p)):cs=[.int .u64 z]:=by
 cases fuel with
 |zero=>simp[DataW.trod]at h
 | succ fuel=>
  unfold DataW.trod at h;rw[ht]at h;split at h
  all_goals first
   |(rename_i hu;cases hu;done)
   |(rename_i hu _;cases hu;done)
   |(simp at h;done)
   |skip
  all_goals(try split at h)
  all_goals first
   |(cases h;done)
   |(simp at h;done)
   |skip
  all_goals simp_all
theorem Ei{W:World}{l:List (String×DataW Unit)}(h:laidMet Tryz.prog l W){name:String}{g:Nat}{t e:TypeId}{len:Nat}{ds:List (DataW Unit)}(hm:(name,DataW.agg ds)∈l)
  (hg:Tryz.prog.globalNamed name=Q1 g) (ht:(Tryz.prog.globals[g]?).map (·.type)=Q1 t) (hu:Tryz.prog.underlying t=Q1 (.array len e)) (hc:Tryz.prog.cellsOf e=1):
  ∃cs T fr,W.heap[g]?=Q1 (.cells cs T fr)/\∀(j:Nat) d,ds[j]?=Q1 d->∃fuel p,DataW.trod (λ_=>()) Tryz.prog W 0 (λ_=>Q3) Q4 fuel e ((cs.toList.drop j).take 1)=Q1 (d,p):=by
 obtain⟨ps,hL,_,_⟩:=h;obtain⟨g',t',cs,fuel,p,h1,h2,h3,h4⟩:=Jq hL name _ hm;rw[hg]at h1;cases h1;rw[ht]at h2;cases h2;have hvar:∃T fr,W.heap[g]?=Q1 (.cells cs T fr):=by
  unfold World.var? at h3;rw[hg]at h3;simp only[Option.bind_some]at h3;split at h3
  ·rename_i c T fr hh;cases h3;exact⟨T,fr,hh⟩
  ·cases h3
 obtain⟨T,fr,hblk⟩:=hvar;refine⟨cs,T,fr,hblk,?_⟩;cases fuel with
 |zero=>simp[DataW.trod]at h4
 | succ fuel=>
  unfold DataW.trod at h4;rw[hu]at h4;simp only at h4;split at h4
  ·rw[ei]at h4;obtain⟨xs,hm',hx⟩:=h4;simp only[cA,DataW.agg.injEq]at hx;obtain⟨hl,hg'⟩:=BV hm';intro j d hj;rw[<-hx.1,fi,ei]at hj;obtain⟨⟨d',p'⟩,hj,rfl⟩:=hj;have hjl:j<xs.length:=(cW.1 hj).1;have hr:(List.range len)[j]?=Q1 j:=by
    rw[xm];rw[hl,List.length_range]at hjl;exact hjl
   have:=hg' j j hr;rw[hj,hc,Nat.mul_one]at this;exact⟨fuel,p',this⟩
  ·cases h4
theorem Oe{cs:Array Value}{j:Nat}{v:Value}(h:(cs.toList.drop j).take 1=[v]):cs[j]?=Q1 v:=by
 have:=congrArg (·[0]?) h;simp only[List.getElem?_take,D9]at this;simpa using this
theorem gl0{W:World}{l:List (String×DataW Unit)}(h:laidMet Tryz.prog l W)(hm:("caddis/stmt.types",Rows.laid_caddis_stmt_types)∈l):Rv W U0 iH (.eptr [.str [73,78,84],.str [84,69,88,84],.str [66,79,79,76]] 0) (.pointer (Q1 ⟨1,0,Q2⟩)):=by
 obtain⟨cs,T,fr,hb,hd⟩:=Ei h (g:=1) (t:=305) (e:=9) (len:=3) hm kw kw kw kw;have hs9:Tryz.prog.underlying 9=Q1 .string:=by kernel_rfl
 have hcell:∀j,W.cell? ⟨1,j,Q2⟩=cs[j]?:=by
  intro j;unfold World.cell?;rw[hb];rfl
 obtain⟨_,_,g0⟩:=hd 0 _ rfl;obtain⟨_,_,g1⟩:=hd 1 _ rfl;obtain⟨_,_,g2⟩:=hd 2 _ rfl;have w0:=Oe (pO hs9 g0);have w1:=Oe (pO hs9 g1);have w2:=Oe (pO hs9 g2);refine .eptr [.str [73,78,84],.str [84,69,88,84],.str [66,79,79,76]] 0 1 0 (λj=>match j with
  |0=>.string ⟨#[73,78,84]⟩
  |1=>.string ⟨#[84,69,88,84]⟩
  |_=>.string ⟨#[66,79,79,76]⟩) (tv (by rw[hcell];exact w0)) (λh=>h) ?_ ?_ ?_
 ·intro j hj
  match j,hj with
  |0,_=>rw[hcell];exact w0
  |1,_=>rw[hcell];exact w1
  |2,_=>rw[hcell];exact w2
 ·intro j hj
  match j,hj with
  |0,_=>rfl
  |1,_=>rfl
  |2,_=>rfl
 ·intro j c hc
  match j,hc with
  |0,hc=>simp at hc;subst hc;exact .str [73,78,84] (by simp[aH])
  |1,hc=>simp at hc;subst hc;exact .str [84,69,88,84] (by simp[aH])
  |2,hc=>simp at hc;subst hc;exact .str [66,79,79,76] (by simp[aH])
  |j+3,hc=>simp at hc
set_option maxRecDepth 100000 in
theorem gl2{W:World}(h:W.ShapedOpen Tryz.prog):Rv W U0 iH .gint (.pointer (Q1 ⟨0,0,Q2⟩)):=by
 have h0:((begin Tryz.prog (λ_ _=>0) default).world.heap[0]?).bind Obj.row?=Q1 (#[.int .i64 0],3):=by kernel_rfl
 obtain⟨cs,hh,hs,hr⟩:=h.1 0 _ _ (lC kw) h0;obtain⟨ts,hts,_,hall⟩:=hr kw;have hc:Tryz.prog.cellTypes Tryz.prog.depth 3=Q1 [3]:=by kernel_rfl
 rw[hc]at hts;cases hts;have h1:cs.size=1:=hs;obtain⟨u,hu,hok⟩:=hall 0 cs[0] sw;have:u=3:=by simpa using hu.symm
 subst this;have hi:Tryz.prog.underlying 3=Q1 (.int .i64):=by kernel_rfl
 unfold Cell.ok at hok;rw[hi]at hok;have hcs:cs=#[cs[0]]:=by
  apply Array.ext
  ·simp[h1]
  ·intro i h2 h3;have:i=0:=by omega
   subst this;rfl
 cases hv:cs[0]<;>rw[hv]at hok<;>simp at hok
 rename_i k n;obtain⟨rfl,hn⟩:=hok;refine .gint n 0 3 (0,0) hn ?_ (λh=>h);rw[hh,hcs,hv]
theorem gl5{W:World}{l:List (String×DataW Unit)}(h:laidMet Tryz.prog l W)(hs:W.ShapedOpen Tryz.prog)(hm:("internal/strconv.uint64pow10",Rows.laid_internal_strconv_uint64pow10)∈l):Rv W U0 iH (.tab .u64 mc) (.pointer (Q1 ⟨5,0,Q2⟩)):=by
 obtain⟨cs,T,fr,hb,hd⟩:=Ei h (g:=5) (t:=361) (e:=224) (len:=20) hm kw kw kw kw;have hu:Tryz.prog.underlying 224=Q1 (.int .u64):=by kernel_rfl
 have h0:((begin Tryz.prog (λ_ _=>0) default).world.heap[5]?).bind Obj.row?=Q1 (Array.replicate 20 (.int .u64 0),361):=by kernel_rfl
 obtain⟨cs',hh,hsz,_⟩:=hs.1 5 _ _ (lC kw) h0;rw[hb]at hh;have hcs:cs=cs':=by simp only[bD,Obj.cells.injEq]at hh;exact hh.1
 have hlen:cs.size=20:=by rw[hcs,hsz];simp
 have key:cs=(mc.map λz=>Value.int .u64 z).toArray:=by
  apply Array.ext
  ·rw[hlen];rfl
  ·intro i h1 h2;have hd':∀(j:Nat) z,mc[j]?=Q1 z->cs[j]?=Q1 (.int .u64 z):=by
    intro j z hz;obtain⟨_,_,g⟩:=hd j (.lit (.int .u64 z)) (by
     have:(match(Rows.laid_internal_strconv_uint64pow10:DataW Unit)with|.agg l=>l|_=>[])=mc.map λz=>DataW.lit (.int .u64 z):=by kernel_rfl
     have e2:(match(Rows.laid_internal_strconv_uint64pow10:DataW Unit)with|.agg l=>l|_=>[])[j]?=Q1 (.lit (.int .u64 z)):=by
      rw[this,fi,hz];rfl
     exact e2)
    exact Oe (UN hu g)
   have hi:i<mc.length:=by simpa using h2
   have:=hd' i mc[i] (zS hi);rw[tp h1,bD]at this;rw[this,List.getElem_toArray,List.getElem_map]
 exact .tab .u64 mc 5 T fr (by rw[hb,key]) (λh=>h)
theorem S8:laidOutB Tryz.prog=Q3:=kw
def wu(P:Program)(t:TypeId):Bool:=match P.underlying t with
 |some (.struct _)=>Q3
 |_=>Q4
theorem Gx{P:Program}{t:TypeId}(h:wu P t=Q3):∃fs,P.underlying t=Q1 (.struct fs):=by
 unfold wu at h;split at h
 ·exact⟨_,‹_›⟩
 ·cases h
theorem un4:Tryz.prog.underlying 4=Q1 .bool:=kw
theorem zkS{H:Type}{enc:TypeId×Value->H}{W W':World}(hsame:∀b,b<W.heap.size->W'.heap[b]?=W.heap[b]?){t:TypeId}{v:Value}{d:DataW H}{ps:List MemPlace}(hr:Tryz.prog.readableRec t=Q3)(hrow:t<Tryz.prog.types.size)
  (h:DataW.Trod enc Tryz.prog W 0 (λ_=>Q3) Q3 t v d ps) (hlt:∀p∈ps,p.block<W.heap.size) {sp:Nat->Bool} (hs:∀p∈ps,sp p.block=Q3):DataW.Trod enc Tryz.prog W' 0 sp Q3 t v d ps:=
 WideElems.Trod_stays S8 hr hrow h (λp hp=>by
  have h1:=hsame p.block (hlt p hp);cases p with
  |cell b off=>exact World.cell?_of_block h1
  |map b=>exact h1) hs
theorem WF{W:World}{l:List (String×DataW Unit)}(hL:laidMet Tryz.prog l W)(hs:W.ShapedOpen Tryz.prog)(h0:("caddis/stmt.types",Rows.laid_caddis_stmt_types)∈l)(h5:("internal/strconv.uint64pow10",Rows.laid_internal_strconv_uint64pow10)∈l):Dz Pf W U0:=by
 intro g
 match g with
 |0=>exact gl2 hs
 |1=>exact gl0 hL h0
 |2=>exact .any _
 |3=>exact .any _
 |4=>exact .any _
 |5=>exact gl5 hL hs h5
 |g+6=>exact .any _
theorem PD{P:Program}{W:World}{r:Go.Reach}{b:Nat}{t:TypeId}{v:Value}(ht:P.underlying t=Q1 .string)(h:Value.okWide P W r b t v):∃n,v=.string n:=by
 unfold Value.okWide at h;rw[ht]at h;simp only at h;unfold Cell.okWide at h;rw[ht]at h;unfold Cell.ok at h;rw[ht]at h;cases v<;>simp at h
 exact⟨_,rfl⟩
structure DI (t:TypeId) (s:Sh):Prop where
 got:∀{H:Type}{enc:TypeId×Value->H}{W:World}{r:Go.Reach}{b:Nat}{v:Value}{d:DataW H}{ps:List MemPlace},Value.okWide Tryz.prog W r b t v->DataW.Trod enc Tryz.prog W 0 (λ_=>Q3) Q3 t v d ps->∃x:Sem s,Rv W U0 iH (zH s x) v
 rd:Tryz.prog.readableRec t=Q3
 row:t<Tryz.prog.types.size
set_option maxRecDepth 100000 in
theorem DI.struct{t:TypeId}{s:Sh}{n:Nat}(hty:MC Tryz.prog n t s=Q3)(hs:s.isAgg=Q3)(ht:wu Tryz.prog t=Q3)(rd:Tryz.prog.readableRec t=Q3)(row:t<Tryz.prog.types.size):DI t s where
 got:=λhok h=>by
  obtain⟨fs,hu⟩:=Gx ht;exact Ln hty hs hu hok h
 rd:=rd
 row:=row
set_option maxRecDepth 100000 in
theorem DI.slice{t e:TypeId}{s:Sh}{n:Nat}(hty:MC Tryz.prog n t (.sl s)=Q3)(ht:Tryz.prog.underlying t=Q1 (.slice e))(rd:Tryz.prog.readableRec t=Q3)(row:t<Tryz.prog.types.size):DI t (.sl s) where
 got:=λhok h=>Ph hty ht hok h
 rd:=rd
 row:=row
set_option maxRecDepth 100000 in
theorem DI.int{t:TypeId}{k:IntKind}{n:Nat}(hty:MC Tryz.prog n t (.int k)=Q3)(ht:Tryz.prog.underlying t=Q1 (.int k))(rd:Tryz.prog.readableRec t=Q3)(row:t<Tryz.prog.types.size):DI t (.int k) where
 got:=λhok h=>WI hty ht hok h
 rd:=rd
 row:=row
set_option maxRecDepth 100000 in
theorem DI.str{t:TypeId}{n:Nat}(hty:MC Tryz.prog n t .str=Q3)(ht:Tryz.prog.underlying t=Q1 .string)(rd:Tryz.prog.readableRec t=Q3)(row:t<Tryz.prog.types.size):DI t .str where
 got:=λhok h=>by
  obtain⟨m,rfl⟩:=PD ht hok;exact yz (s:=.str) hty h ⟨(λ⟨_,hh⟩=>(by cases hh)),(λhh=>(by cases hh))⟩ (λ_=>rfl)
 rd:=rd
 row:=row
inductive KP:List TypeId->List Sh->Prop
 |nil:KP [] []
 |cons {t:TypeId} {s:Sh} {ts:List TypeId} {ss:List Sh} (h:DI t s) (r:KP ts ss):KP (t::ts) (s::ss)
set_option maxRecDepth 100000 in
theorem KP.got{ts:List TypeId}{ss:List Sh}(h:KP ts ss):∀{H:Type}{enc:TypeId×Value->H}{W:World}{base:Nat}{vs:List Value}{ds:List (DataW H)}{ps:List MemPlace},
  (∀(j:Nat) t v,ts[j]?=Q1 t->vs[j]?=Q1 v->Value.okWide Tryz.prog W .any base t v)->DataW.TrodAll enc Tryz.prog W 0 (λ_=>Q3) Q3 ts vs ds ps->
  ds.length=ts.length/\(∃x:zz (ss.map Q1),dq W U0 iH (jl (ss.map Q1) x) vs)/\
  ∀W',(∀b,b<W.heap.size->W'.heap[b]?=W.heap[b]?)->(∀p∈ps,p.block<W.heap.size)->∀sp:Nat->Bool,(∀p∈ps,sp p.block=Q3)->DataW.TrodAll enc Tryz.prog W' 0 sp Q3 ts vs ds ps:=by
 induction h with
 | nil=>
  intro H enc W base vs ds ps _ hT;obtain⟨rfl,rfl,rfl⟩:=trodAll_nil hT;exact⟨rfl,⟨(),rfl,λj c v hc=>by
   have h0:([]:List AV)[j]?=Q1 c:=hc;simp at h0⟩,λ_ _ _ _ _=>trodAll_mk0⟩
 | @cons t s ts ss h r IH=>
  intro H enc W base vs ds ps hok hT;obtain⟨v,vs,d,ds,p,q,rfl,rfl,rfl,hd,hrest⟩:=trodAll_cons hT;obtain⟨x,hx⟩:=h.got (hok 0 t v rfl rfl) hd;obtain⟨hl,⟨y,hy⟩,hk⟩:=IH (λj t v ht hv=>hok (j+1) t v ht hv) hrest;refine⟨by simp[hl],⟨(x,y),by show(zH s x::jl (ss.map Q1) y).length=_;simp[hy.len],λj c v' hc hv=>?_⟩,λW' hsame hlt sp hsp=>?_⟩
  ·have hc:(zH s x::jl (ss.map Q1) y)[j]?=Q1 c:=hc;cases j with
   | zero=>
    simp only[List.getElem?_cons_zero,bD]at hc hv;subst hc;subst hv;exact hx
   |succ j=>exact hy.rv j c v' hc hv
  ·exact trodAll_cons_mk (zkS hsame h.rd h.row hd (λp hp=>hlt p (by simp[hp])) (λp hp=>hsp p (by simp[hp]))) (hk W' hsame (λp hp=>hlt p (by simp[hp])) sp (λp hp=>hsp p (by simp[hp])))
theorem MY:∀(ss:List Sh)(x:zz (ss.map Q1)),AV.idsL (jl (ss.map Q1) x)=[]
 |[],_=>rfl
 | s::ss,x=>by
  show(zH s x.1).ids++AV.idsL (jl (ss.map Q1) x.2)=[];rw[MY ss x.2,rF];unfold zH;have hL:∀l:List AV,(∀c∈l,c.ids=[])->AV.idsL l=[]:=by
   intro l
   induction l with
   |nil=>intro _;rfl
   |cons c l ih=>intro h;simp only[AV.idsL,h c sw,ih λc hc=>h c (by simp[hc]),rF]
  have hE:∀c∈zq s x.1,c.ids=[]:=λc hc=>by
   obtain⟨j,hj,rfl⟩:=fW hc;exact lJ s x.1 j _ (zS hj)
  cases s.isAgg with
  |true=>exact hL _ hE
  | false=>
   cases hh:zq s x.1 with
   |nil=>rfl
   |cons c l=>exact hE c (by rw[hh];simp)
set_option maxRecDepth 100000 in
theorem OS{k:FuncId}{f:Func}{s:ChangeSpec}{F:ac}{ts:List TypeId}{ss:List Sh}(hF:oC Tryz.prog Pf k F)(hpar:f.params=ts.toArray)(hp:KP ts ss)(hrt:f.resultTypes=#[4])(hvars:s.vars=[])
  (hfn:∀(H:Type)(ds:List (DataW H)),ds.length=ts.length->s.fn H ds={results:=[.lit (.bool Q3)],args:=ds})
  {H:Type} {enc:TypeId×Value->H} {W:World} {base:Nat} {args:Array Value} {ds gs:List (DataW H)} {before:List MemPlace}
  (hv:∀x:zz (ss.map Q1),dq W U0 iH (jl (ss.map Q1) x) args.toList->(F (jl (ss.map Q1) x) (λ_=>.dead) 0).val=Q1 {val:=.bool Q3})
  (hval:∀(j:Nat) t v,f.params[j]?=Q1 t->args[j]?=Q1 v->Value.okWide Tryz.prog W .any base t v)
  (hW:DataW.Whole enc Tryz.prog f.params.toList s.vars Q4 W args.toList ds gs before) (hgl:Dz Pf W U0):
  Calls Tryz.prog k args W λe W'=>∃v,e=.returned v/\s.post enc Tryz.prog f Q4 Q3 Q4 Q4 W args v W':=by
 have hW':=hW;obtain⟨p,q,hA0,hV,rfl,hfz,hnd⟩:=hW;have hA:DataW.TrodAll enc Tryz.prog W 0 (λ_=>Q3) Q3 f.params.toList args.toList ds p:=hA0;rw[hpar]at hA;rw[hvars]at hV;obtain⟨rfl,rfl⟩:=trodVars_none hV;have hlt:=hW'.lt;obtain⟨hl,⟨x,hx⟩,hk⟩:=hp.got (base:=base) (λj t v ht hv=>hval j t v (by rw[hpar];simpa using ht) (by simpa using hv)) hA;have hc:=KU hF (args:=args) hgl hx (hv x hx) (MY ss x);refine hc.mono λe' W' ⟨he,hext,hsame⟩=>?_
 subst he;have hf2:s.fn H (ds++[])={results:=[.lit (.bool Q3)],args:=ds}:=by rw[rF];exact hfn H ds hl
 refine⟨_,rfl,JI (pa:=p) (pv:=[]) hW' (λ_ _ _=>?_) (λsp hsp=>?_) (λ_ _=>?_) sw (Gy hext.os hext.out hsame _) hext.fr (ok_one hrt rfl (okWide_bool_mk un4 _))⟩
 ·rw[hf2,hrt];exact trodAll_cons_mk (shut_bool un4 _) trodAll_mk0
 ·rw[hf2,hpar];exact hk W' hsame (λp hp=>hlt p (by simpa using hp)) sp (λp hp=>hsp p (by simpa using hp))
 ·rw[hf2,hvars];rfl
open Go Go.Proofs Go.RowKit Go.ChangeShapes Go.WideShapes Go.ChangeAt
section
variable {w:World} {U:Nat->Prop} {ρ:Nat->Option Value}
def yj(w:World)(U:Nat->Prop)(ρ:Nat->Option Value)(l:List AV):Prop:=∀(j:Nat)(c:AV),l[j]?=Q1 c->∃v,Rv w U ρ c v
theorem Ji{n:Int}{v:Value}(h:Rv w U ρ (.int .i64 n) v):-9223372036854775808<=n/\n<=9223372036854775807:=by
 cases h with
 |int _ _ h=>simpa[cN,IntKind.min,IntKind.max,IntKind.signed,IntKind.bits]using h
theorem nW{e:Sh}{l:List (Sem e)}{v:Value}(h:Rv w U ρ (.sl e l) v):∀x∈l,yj w U ρ (zq e x):=by
 intro x hx;cases h with
 |sl0=>simp at hx
 | sl _ _ _ _ _ vals hc hm hb hU hcell hr=>
  obtain⟨i,hi,rfl⟩:=fW hx;exact λj c h=>⟨_,hr i hi j c h⟩
theorem Lq{v:Sem ze}(h:yj w U ρ (zq ze v)):RgV v:=by
 obtain⟨_,h⟩:=h 1 _ rfl;exact Ji h
mutual
theorem BJ:∀(e:zf),yj w U ρ (zq .expr e)->Qr e
 | .mk op v s l,h=>by
  rw[Qr];obtain⟨_,h2⟩:=h 2 _ rfl;obtain⟨_,h5⟩:=h 5 _ rfl;exact⟨Ji h2,Ng l λx hx=>nW h5 x hx⟩
theorem Ng:∀(l:List zf),(∀x∈l,yj w U ρ (zq .expr x))->FW l
 |[],_=>by rw[FW];trivial
 |x::r,h=>by rw[FW];exact⟨BJ x (h x sw),Ng r λy hy=>h y (by simp[hy])⟩
end
theorem zcS{x:Sem zh}(h:yj w U ρ (zq zh x)):RgR x where
 chk:=BJ _ λj c hc=>match j,hc with
  |0,hc=>h 5 c hc
  |1,hc=>h 6 c hc
  |2,hc=>h 7 c hc
  |3,hc=>h 8 c hc
  |4,hc=>h 9 c hc
  |5,hc=>h 10 c hc
  |j+6,hc=>by simp[zq]at hc
 vals:=by
  obtain⟨_,h⟩:=h 11 _ rfl;intro r hr v hv;obtain⟨_,h⟩:=nW h r hr 0 _ rfl;exact Lq (nW h v hv)
end
theorem QR{w:World}{U:Nat->Prop}{ρ:Nat->Option Value}{cs:List AV}{v:Value}(h:Rv w U ρ (.agg cs) v):yj w U ρ cs:=by
 intro j c hc;cases h with
 | agg _ vs hl h1 hr=>
  have hj:j<vs.length:=by have:=(cW.1 hc).1;omega
  exact⟨vs[j],hr j c _ hc (zS hj)⟩
theorem zcT{w:World}{U:Nat->Prop}{ρ:Nat->Option Value}{s:Sem zl}(h:yj w U ρ (zq zl s)):RgS s where
 chk:=BJ _ λj c hc=>match j,hc with
  |0,hc=>h 8 c hc
  |1,hc=>h 9 c hc
  |2,hc=>h 10 c hc
  |3,hc=>h 11 c hc
  |4,hc=>h 12 c hc
  |5,hc=>h 13 c hc
  |j+6,hc=>by simp[zq]at hc
 whr:=BJ _ λj c hc=>match j,hc with
  |0,hc=>h 16 c hc
  |1,hc=>h 17 c hc
  |2,hc=>h 18 c hc
  |3,hc=>h 19 c hc
  |4,hc=>h 20 c hc
  |5,hc=>h 21 c hc
  |j+6,hc=>by simp[zq]at hc
 row:=by
  obtain⟨_,h⟩:=h 14 _ rfl;exact λv hv=>Lq (nW h v hv)
 sets:=by
  obtain⟨_,h⟩:=h 15 _ rfl;intro x hx;have h:=nW h x hx;exact BJ _ λj c hc=>match j,hc with
   |0,hc=>h 1 c hc
   |1,hc=>h 2 c hc
   |2,hc=>h 3 c hc
   |3,hc=>h 4 c hc
   |4,hc=>h 5 c hc
   |5,hc=>h 6 c hc
   |j+6,hc=>by simp[zq]at hc
theorem UM{p:Sem zr}{db src:List (Sem zh)}{ok:Bool}(h:Ch p db=Q1 (src,ok,())):yK p db=Q1 (p,src,ok,()):=by
 have c1:L2 p db=Q3:=by unfold L2;rw[h];rfl
 have c2:Ub p db=(src,ok):=by unfold Ub;rw[h];rfl
 have e:p=(p.1,p.2.1,p.2.2.1,(p.2.2.2.1.1,p.2.2.2.1.2.1,p.2.2.2.1.2.2.1,p.2.2.2.1.2.2.2.1,p.2.2.2.1.t.1,zn p.2.2.2.1.t.2),p.t):=by rw[zk]
 refine(zJ (i:=zcZ p db) (t:=t0) (n:=100000000) (outs:=[zr,zh.sl,Q7]) (by
  simp only[zcZ,zk,Prod.eta,Q8,c1,c2,if_true];rfl) (y:=((p.1,p.2.1,p.2.2.1,(p.2.2.2.1.1,p.2.2.2.1.2.1,p.2.2.2.1.2.2.1,p.2.2.2.1.2.2.2.1,p.2.2.2.1.t.1,zn p.2.2.2.1.t.2),p.t),src,ok,())) rfl).trans ?_
 rw[<-e]
theorem LZ{x0:List (Sem zh)}{x1:Sem zl}(hx:∀x∈x0,RgR x)(h1:RgS x1):
  ∃(p:Sem zr)(src:List (Sem zh))(ok:Bool),qn x0 x1=Q1 (p,src,ok,())/\(ok=Q3->∃db,aE db p/\src=zG db p/\∀x∈db,Qs x):=by
 obtain⟨db,d1,d2,d3⟩:=S6 x0;obtain⟨s,s1,s2,s3⟩:=S4 h1;have hdb:E6 x0=db:=by unfold E6;rw[d1];rfl
 have hdc:LG x0=Q3:=by unfold LG;rw[d1];rfl
 have hs:S3 x1=s:=by unfold S3;rw[s1];rfl
 have hsc:LA x1=Q3:=by unfold LA;rw[s1];rfl
 have hwf:∀x∈db,Qs x:=by
  intro x hxm;obtain⟨y,hy,rfl⟩:=d3 x hxm;exact S5 (hx y hy)
 have hsh:∀x∈db,gN x:=λx hxm=>(hwf x hxm).short
 have q1:=Ua hwf s3;have hqc:L1 db s=Q3:=by unfold L1;rw[q1];rfl
 have hq:T9 db s=((aW db s).2,(aW db s).1):=by unfold T9;rw[q1];rfl
 by_cases h0:(aW db s).1=0
 ·have hP:=T3 hsh h0 s2;have ht:=UM (Uc hsh hP.fnd);generalize(aW db s).2=p at hq hP ht;rw[h0]at hq;have t1:GA p db=Q3:=by unfold GA;rw[ht];rfl
  have t2:LH p db=(p,zG db p,Q3):=by unfold LH;rw[ht];rfl
  refine⟨p,zG db p,Q3,?_,λ_=>⟨db,hP,rfl,hwf⟩⟩;have e:p=(p.1,p.2.1,p.2.2.1,(p.2.2.2.1.1,p.2.2.2.1.2.1,p.2.2.2.1.2.2.1,p.2.2.2.1.2.2.2.1,p.2.2.2.1.t.1,zn p.2.2.2.1.t.2),p.t):=by rw[zk]
  refine(zJ (i:=i7u x0 x1) (t:=t0) (n:=100000000) (outs:=[zr,zh.sl,Q7]) (by
   simp only[i7u,zk,Prod.eta,Q8,hdb,hdc,hs,hsc,hq,hqc,t1,t2,io,zB,if_true,if_false];rfl) (y:=((p.1,p.2.1,p.2.2.1,(p.2.2.2.1.1,p.2.2.2.1.2.1,p.2.2.2.1.2.2.1,p.2.2.2.1.2.2.2.1,p.2.2.2.1.t.1,zn p.2.2.2.1.t.2),p.t),zG db p,Q3,())) rfl).trans ?_
  rw[<-e]
 ·have hb:((aW db s).1!=0)=Q3:=by simpa using h0
  refine⟨jF,[],Q4,?_,λh=>by cases h⟩;refine zJ (i:=i7u x0 x1) (t:=t0) (n:=100000000) (outs:=[zr,zh.sl,Q7]) (r:=(tup [agg [str [],str [],str [],str [],Qb,ai 0,Qb,Qb,str [],ai 0,ai 0,str [],str [],Qb,Qb,ai 0],Qb,kb Q4],[])) ?_ rfl;simp only[i7u,zk,Prod.eta,Q8,hdb,hdc,hs,hsc,hq,hqc,hb,if_true]
theorem Kx:AD=Q1 (Q3,()):=zJ (i:=i9u) (r:=(.bool Q3,[])) rfl rfl
theorem ln:vu=Q3/\xe=Q3:=⟨by unfold vu;rw[Kx];rfl,by unfold xe;rw[Kx];rfl⟩
theorem aE.uall{db:List (Sem zh)}{p:Sem zr}(h:aE db p):HZ p (zG db p)=Q1 (dd p (zG db p),0,()):=by
 obtain⟨c1,c2⟩:=yP h.go;refine zJ (r:=(tup [sl ze (dd p (zG db p)),ai 0],[])) ?_ rfl;simp only[zib,zk,Prod.eta,Q8,c1,c2,h.all,io,zB,if_true,if_false]
abbrev ziF:=lx [(4,[1,2,3,6,27,28,29])]
inductive Ot where
 |h4 (l1:List (Sem zh)) (l2:List (Sem ze)) (l27:List (Sem ze)) (i28:Int) (i29:Int) (z0:zm [CP.d zr]) (z1:zm [CP.d ze])
abbrev zlq:Ot->Nat×St
 |.h4 l1 l2 l27 i28 i29 z0 z1=>(4,⟨tm 49 [(1,sl zh l1),(2,sl ze l2),(3,ptr 0 0),(6,ptr 1 0),(27,sl ze l27),(28,ai i28),(29,ai i29)],[AO.box (bv [] [CP.d zr] z0),AO.box (bv [] [CP.d ze] z1)]⟩)
noncomputable def WL(x0:Sem zr)(x1:Sem zh.sl)(x2:Sem ze.sl):Tr (Ot⊕aw):=
 let a0:=(x0.1,x0.2.1,x0.2.2.1,(x0.2.2.2.1.1,x0.2.2.2.1.2.1,x0.2.2.2.1.2.2.1,x0.2.2.2.1.2.2.2.1,x0.2.2.2.1.t.1,zn x0.2.2.2.1.t.2),x0.t)
 let a1:=PG a0 x1 !=0
 let a2:=getD x1 (toNat 0) (zi zh)
 Qc (Fi a0 x1&&bif a1 then Q3 else zK 0 (length x1))
 (br (bif a1 then Q3 else(↑(length x2):Int)!=(↑(length a2.1.2.1):Int))
  (re (tup [agg [ai 0,ai 0,str []],ai 1]) [])
  (Tr.to (Ot.h4 x1 x2 x2 (↑(length x2):Int) 0 (x0,()) ((0,0,[]),()))))
noncomputable def PY:Ot->Tr (Ot⊕aw)
 | .h4 l1 l2 l27 i28 i29 z0 z1=>
  let a0:=(z0.1.1,z0.1.2.1,z0.1.2.2.1,(z0.1.2.2.2.1.1,z0.1.2.2.2.1.2.1,z0.1.2.2.2.1.2.2.1,z0.1.2.2.2.1.2.2.2.1,z0.1.2.2.2.1.t.1,zn z0.1.2.2.2.1.t.2),z0.1.t)
  let a1:=bW a0 l1
  let a2:=l2.getD (toNat a1) (zi ze)
  br (Q0 (i29<i28))
  (Qc (zK i29 l27.length) (br (!aR (l27.getD i29.toNat (zi ze))) (re (tup [agg [ai 0,ai 0,str []],ai 1]) []) (Tr.to (Ot.h4 l1 l2 l27 i28 (IntKind.i64.wrap (i29+1)) z0 z1))))
  (Qc (jt a0 l1) (Qc (zK a1 l2.length) (br (a2.1==0) (re (tup [agg [ai 0,ai 0,str []],ai 6]) []) (re (tup [agg [ai a2.1,ai a2.2.1,str a2.2.2],ai 0]) []))))
noncomputable def UR(x0:Sem zr)(x1:Sem zh.sl)(x2:Sem ze.sl):=al [ze,zg] PY 100000000 (WL x0 x1 x2)
noncomputable def zd8(x0:Sem zr)(x1:Sem zh.sl)(x2:Sem ze.sl):=(UR x0 x1 x2).isSome
noncomputable def uOf(x0:Sem zr)(x1:Sem zh.sl)(x2:Sem ze.sl):=o2 (UR x0 x1 x2)
noncomputable def zeK:=FT [zr,zh.sl,ze.sl] [ze,zg] λx=>UR x.1 x.2.1 x.2.2.1
theorem zaC:FK 13 zeK:=qe.T1 (f:=Tryz.f13) (keep:=ziF) (e:=zlq)
def Xd(_:Sem zr)(src:List (Sem zh))(at':Int)(row:List (Sem ze)):Sem ze×Int:=
 if row.length≠length (getD src 0 (zi zh)).1.2.1\/¬∀v∈row,aR v=Q3 then((0,0,[]),1)else if(getD row at'.toNat (zi ze)).1=0 then((0,0,[]),6)else(getD row at'.toNat (zi ze),0)
theorem zd9{p:Sem zr}{src:List (Sem zh)}{row:List (Sem ze)}(h:H8 p src)(hc:jt p src=Q3)(hl:row.length<=1000)(hin:row.length=length (getD src 0 (zi zh)).1.2.1->zK (bW p src) row.length=Q3):
  UR p src row=Q1 ((Xd p src (bW p src) row).1,(Xd p src (bW p src) row).2,()):=by
 obtain⟨c1,c2⟩:=yP h;have l0:=(oe h.two).1;have hi0:zK 0 src.length=Q3:=zt (i:=0) l0;unfold Xd;by_cases hlen:row.length=length (getD src 0 (zi zh)).1.2.1
 ·have hn:=hin hlen;have e:((row.length:Int)!=((length (getD src 0 (zi zh)).1.2.1:Nat):Int))=Q4:=by rw[hlen];simp
  have hi:(WL p src row).val=Q1 (.inl (.h4 src row row (row.length:Int) ((0:Nat):Int) (p,()) ((0,0,[]),()))):=by
   simp only[WL,zk,Prod.eta,Q8,c1,c2,hi0,io,ar,lD,if_true];rw[if_neg (by rw[gy];exact e)];rfl
  have hv:∀i(hi:i<row.length),(PY (.h4 src row row (row.length:Int) (i:Int) (p,()) ((0,0,[]),()))).val=if aR row[i]=Q3 then Q1 (.inl (.h4 src row row (row.length:Int) ((i+1:Nat):Int) (p,()) ((0,0,[]),())))else Q1 (.inr (.tup [.agg [.int .i64 0,.int .i64 0,.str []],.int .i64 1],[])):=λi hi=>by
   simp only[PY,Q8,zC hi,zt hi,if_true,zM _ _ hi];rw[zp i um];cases aR row[i]<;>simp
  rcases ly (t:=PY) (Φ:=λr=>r=(.tup [.agg [.int .i64 0,.int .i64 0,.str []],.int .i64 1],[])) 1 (λi=>.h4 src row row (row.length:Int) (i:Int) (p,()) ((0,0,[]),())) (λi=>∀h:i<row.length,aR row[i]=Q3) row.length (λi hi _=>by
   by_cases hm:aR row[i]=Q3
   ·exact .inl ⟨λ_=>hm,zQ.of (by rw[hv i hi,if_pos hm])⟩
   ·exact .inr ⟨λq=>hm (q hi),_,zU.of (by rw[hv i hi,if_neg hm]),rfl⟩)with⟨h1,h2⟩|⟨h1,r,h2,rfl⟩
  ·have hall:∀v∈row,aR v=Q3:=λv hv=>by
    obtain⟨i,hi,rfl⟩:=fW hv;exact h1 i hi hi
   rw[if_neg (by rintro(q|q);exact q hlen;exact q hall)];by_cases h0:(getD row (toNat (bW p src)) (zi ze)).1=0
   ·rw[if_pos h0];have e0:((getD row (toNat (bW p src)) (zi ze)).1==0)=Q3:=by simpa using h0
    refine zw hi (h2.ends (zU.of (r:=(.tup [.agg [.int .i64 0,.int .i64 0,.str []],.int .i64 6],[])) ?_)) ow rfl;simp only[PY,Q8,zA,zk,Prod.eta,hc,hn,e0,zB,if_true,if_false]
   ·rw[if_neg h0];have e0:((getD row (toNat (bW p src)) (zi ze)).1==0)=Q4:=by simpa using h0
    refine zw hi (h2.ends (zU.of (r:=(.tup [.agg [.int .i64 (getD row (toNat (bW p src)) (zi ze)).1,.int .i64 (getD row (toNat (bW p src)) (zi ze)).2.1,.str (getD row (toNat (bW p src)) (zi ze)).2.2],.int .i64 0],[])) ?_)) ow rfl;simp only[PY,Q8,zA,zk,Prod.eta,hc,hn,e0,zB,if_true,if_false]
  ·rw[if_pos (.inr λq=>h1 λi hi _=>q _ (bd hi))];exact zw hi h2 ow rfl
 ·rw[if_pos (.inl hlen)];have e:((row.length:Int)!=((length (getD src 0 (zi zh)).1.2.1:Nat):Int))=Q3:=by
   rw[bne_iff_ne];exact λq=>hlen (by exact_mod_cast q)
  refine zJ (r:=(.tup [.agg [.int .i64 0,.int .i64 0,.str []],.int .i64 1],[])) ?_ rfl;simp only[WL,zk,Prod.eta,Q8,c1,c2,hi0,io,ar,lD,if_true];exact if_pos e
theorem JH(at':Int)(rows:List (List (Sem ze))):∀L:List (Sem ze),L.Nodup->(∀u∈L,u.1≠0)->
  (L.map λu=>(rows.filter (ph at' u)).length).sum+(rows.filter λrow:List (Sem ze)=>!L.any λu:Sem ze=>ph at' u row).length=rows.length
 |[],_,_=>by simp
 | u :: L,hn,h0=>by
  rw[List.nodup_cons]at hn;have ih:=JH at' rows L hn.2 λx hx=>h0 x (tk _ hx)
  rw[jy,List.sum_cons];have hs:(rows.filter (ph at' u)).length+(rows.filter λrow:List (Sem ze)=>!(u::L).any λu:Sem ze=>ph at' u row).length=(rows.filter λrow:List (Sem ze)=>!L.any λu:Sem ze=>ph at' u row).length:=by
   clear ih
   induction rows with
   |nil=>rfl
   | cons row r ih=>
    simp only[List.filter_cons,List.any_cons];cases h1:ph at' u row with
    | true=>
     have h2:(L.any λu:Sem ze=>ph at' u row)=Q4:=by
      rw[List.any_eq_false];intro v hv hi;have e1:=(lN.1 h1).1;have e2:=(lN.1 hi).1;exact hn.1 (by rw[<-e1,e2];exact hv)
     simp only[h2,Bool.or_false,bG,cC,if_true,zB,if_false,fj]at ih⊢;simp only[List.any_cons]at ih;omega
    | false=>
     simp only[Bool.false_or,zB,if_false];simp only[List.any_cons]at ih;cases(L.any λu:Sem ze=>ph at' u row)with
     |true=>simpa using ih
     | false=>
      simp only[cC,if_true,fj];omega
  omega
section
variable {db:List (Sem zh)} {p:Sem zr}
theorem aE.ne0(h:aE db p){u:Sem ze}(hu:u∈dd p (zG db p)):u.1≠0:=((lE λ_ hx=>h.may hx).2 u).1 hu |>.2
theorem aE.rise(h:aE db p):(dd p (zG db p)).Pairwise yg:=(lE λ_ hx=>h.may hx).1
theorem aE.nodup(h:aE db p):(dd p (zG db p)).Nodup:=by
 unfold List.Nodup;exact h.rise.imp λ{a b} hab(e:a=b)=>gU (a:=b) (by rw[e]at hab;exact hab)
theorem aE.of(h:aE db p){row:List (Sem ze)}(hl:row.length<=1000):UR p (zG db p) row=Q1 ((Xd p (zG db p) (aT p (zG db p)) row).1,(Xd p (zG db p) (aT p (zG db p)) row).2,()):=by
 have:=zd9 (row:=row) h.go h.pc.1 hl (λe=>by
  rw[h.pc.2];unfold zK;rw[aC];have h1:=h.col.1;have h2:=h.col.2;have e':length row=length (ch db p).1.2.1:=e;exact⟨zx h1,zx ow⟩)
 rwa [h.pc.2]at this
theorem aE.row(h:aE db p){row:List (Sem ze)}(hr:row∈(ch db p).2):Xd p (zG db p) (aT p (zG db p)) row=if(getD row (toNat (aT p (zG db p))) (zi ze)).1=0 then((0,0,[]),6)else(getD row (toNat (aT p (zG db p))) (zi ze),0):=by
 unfold Xd;rw[if_neg];rintro(q|q)
 ·exact q (h.inn row hr).2
 ·exact q (fD (h.rel.fits row hr)).2.1
theorem aE.any(h:aE db p){row:List (Sem ze)}(hr:row∈(ch db p).2):((dd p (zG db p)).any λu:Sem ze=>ph (aT p (zG db p)) u row)=!((getD row (toNat (aT p (zG db p))) (zi ze)).1==0):=by
 have hm:getD row (toNat (aT p (zG db p))) (zi ze)∈lp p (zG db p):=bq.2 ⟨row,hr,by rw[h.pc.2]⟩;rw[ip,List.any_eq_true];constructor
 ·rintro⟨u,hu,hi⟩;obtain⟨e,h0⟩:=lN.1 hi;rw[e];simpa using h0
 ·intro h0;have h0:(getD row (toNat (aT p (zG db p))) (zi ze)).1≠0:=by simpa using h0
  exact⟨_,((lE λx hx=>h.may hx).2 _).2 ⟨hm,h0⟩,lN.2 ⟨rfl,h0⟩⟩
theorem aE.parts(h:aE db p):((dd p (zG db p)).map λu=>((ch db p).2.filter (ph (aT p (zG db p)) u)).length).sum+((ch db p).2.filter λrow:List (Sem ze)=>(getD row (toNat (aT p (zG db p))) (zi ze)).1==0).length=(ch db p).2.length:=by
 rw[<-JH (aT p (zG db p)) (ch db p).2 (dd p (zG db p)) h.nodup (λu hu=>h.ne0 hu)];congr 2;refine List.filter_congr λrow hr=>?_
 rw[h.any hr,Bool.not_not]
end
noncomputable def yG:=Zp.add 13 zeK
theorem jA:zy yG:=Pc.add zaC
noncomputable section
def zfH:ac:=bm (List.replicate 1 Q2) (fk yG Tryz.f65 (List.replicate 1 Q2))
theorem zbF:FK 65 zfH:=ce _ jA (bS kw)
def zfL:ac:=bm (List.replicate 3 Q2) (fk yG Tryz.f67 (List.replicate 3 Q2))
theorem zbJ:FK 67 zfL:=ce _ jA (bS kw)
abbrev zje:=lx [(2,[0,3,7,8])]
inductive OC where
 |h2 (l0:List (Sem ze)) (i7:Int) (i8:Int) (z0:zm [CP.d ze])
abbrev zlP:OC->Nat×St
 |.h2 l0 i7 i8 z0=>(2,⟨tm 19 [(0,sl ze l0),(3,ptr 0 0),(7,ai i7),(8,ai i8)],[AO.box (bv [] [CP.d ze] z0)]⟩)
def ziv(x0:Sem ze.sl)(x1:Sem ze):Tr (OC⊕aw):=
 Tr.to (OC.h2 x0 (↑(length x0):Int) 0 (x1,()))
def P2:OC->Tr (OC⊕aw)
 | .h2 l0 i7 i8 z0=>
  let a0:=l0.getD i8.toNat (zi ze)
  br (Q0 (i8<i7))
  (Qc (zK i8 l0.length) (br (z0.1.1==a0.1&&(z0.1.2.1==a0.2.1&&(z0.1.2.2==a0.2.2&&Q3))) (re (ai i8) []) (Tr.to (OC.h2 l0 i7 (IntKind.i64.wrap (i8+1)) z0))))
  (re (ai (-1)) [])
def Oj(x0:Sem ze.sl)(x1:Sem ze):=al [zg] P2 100000000 (ziv x0 x1)
def UU(x0:Sem ze.sl)(x1:Sem ze):=(Oj x0 x1).isSome
def zea(x0:Sem ze.sl)(x1:Sem ze):=o1 (Oj x0 x1)
def zfN:=FT [ze.sl,ze] [zg] λx=>Oj x.1 x.2.1
theorem zbL:FK 69 zfN:=jA.T1 (f:=Tryz.f69) (keep:=zje) (e:=zlP)
abbrev ziI:=lx [(4,[0,1,5])]
inductive Ov where
 |h4 (l0:List (Sem ze)) (l1:List (Sem ze)) (i5:Int)
abbrev zlt:Ov->Nat×St
 |.h4 l0 l1 i5=>(4,⟨tm 26 [(0,sl ze l0),(1,sl ze l1),(5,ai i5)],[]⟩)
def WM(x0:Sem ze.sl)(x1:Sem ze.sl):Tr (Ov⊕aw):=
 br ((↑(length x0):Int)!=(↑(length x1):Int)) (re (kb Q4) []) (Tr.to (Ov.h4 x0 x1 0))
def PZ:Ov->Tr (Ov⊕aw)
 | .h4 l0 l1 i5=>
  let a0:=l0.getD i5.toNat (zi ze)
  let a1:=l1.getD i5.toNat (zi ze)
  br (Q0 (i5<(↑l0.length:Int)))
  (Qc (zK i5 l0.length) (Qc (zK i5 l1.length) (br (!(a0.1==a1.1&&(a0.2.1==a1.2.1&&(a0.2.2==a1.2.2&&Q3)))) (re (kb Q4) []) (Tr.to (Ov.h4 l0 l1 (IntKind.i64.wrap (i5+1)))))))
  (re (kb Q3) [])
def yZ(x0:Sem ze.sl)(x1:Sem ze.sl):=al [Q7] PZ 100000000 (WM x0 x1)
def yY(x0:Sem ze.sl)(x1:Sem ze.sl):=(yZ x0 x1).isSome
def G0(x0:Sem ze.sl)(x1:Sem ze.sl):=o1 (yZ x0 x1)
def zeR:=FT [ze.sl,ze.sl] [Q7] λx=>yZ x.1 x.2.1
theorem zaH:FK 15 zeR:=jA.T1 (f:=Tryz.f15) (keep:=ziI) (e:=zlt)
def Bq:=yG.addL [(65,zfH),(67,zfL),(69,zfN),(15,zeR)]
theorem nt:zy Bq:=jA.addL<|fc zbF<|fc zbJ<|fc zbL<|fc zaH<|iM
end
abbrev As(c a b:Int)(s:zD)(l:List (Sem (Sh.sl ze)))(i:Int):St:={tmps:=[.sl (Sh.sl ze) l,.clo (.func 67) [] [.ptr 0 0,.ptr 1 0],.any,.any,.any,.any,.any,.int .i64 l.length,.int .i64 i,.any,.any,.any,.any,.any,.any,.any,.any,.any,.any],heap:=[.box [.int .i64 c],.box [.int .i64 a,.int .i64 b,.str s]]}
theorem Se(c a b:Int)(s:zD)(l:List (Sem (Sh.sl ze))):run Bq 2 yo Tryz.f66.results.toList 300 (bx Tryz.f66) (bg Tryz.f66.ntmps [.sl (Sh.sl ze) l,.clo (.func 67) [] [.ptr 0 0,.ptr 1 0]] [.box [.int .i64 c],.box [.int .i64 a,.int .i64 b,.str s]])=.ok (.head 2 (ag Tryz.f66 2) (As c a b s l 0)):=kw
theorem TL(c a b:Int)(s:zD)(l:List (Sem (Sh.sl ze)))(i:Int):run Bq 2 yo Tryz.f66.results.toList 300 (ag Tryz.f66 2) (As c a b s l i)=nF (K:=ag Tryz.f66 2) (e:=(Sh.sl ze)) l (λx=>bz x c (a,b,s)) (As c a b s l) [.box [.int .i64 c],.box [.int .i64 a,.int .i64 b,.str s]] i:=kw
theorem TD:zL Bq.P 66 Tryz.f66 2:=by refine⟨?_,?_,?_,?_⟩<;>kernel_rfl
def zhk:il [Q1 (.sl (Sh.sl ze)),Q2]:=λx h=>match x,h with
 |(l,.clo (.func 67) [] [.ptr 0 0,.ptr 1 0],_),[.box [.int .i64 c],.box [.int .i64 a,.int .i64 b,.str s]]=>.ok (.int .i64 (zW (λx=>bz x c (a,b,s)) l 0),[.box [.int .i64 c],.box [.int .i64 a,.int .i64 b,.str s]])
 |_,_=>.err
def zfJ:ac:=bm [Q1 (.sl (Sh.sl ze)),Q2] zhk
theorem zbH:FK 66 zfJ:=by
 refine dv TD λx h0 res hx C hC=>?_
 unfold zhk at hx;split at hx
 ·rename_i l u c a b s;simp only[Tr.val_ok,bD]at hx;subst hx;refine Reach.len 0 (Sh.sl ze) l rfl λhl=>?_
  refine zF (n0:=2) nt TD hC (Se c a b s l) ?_;exact kv l (λx=>bz x c (a,b,s)) (As c a b s l) nt TD hC (TL c a b s l) hl _ 0 rfl (be _)
 ·simp at hx
noncomputable def zin(x0:Sem ze.sl)(x1:Sem ze):Tr (Empty⊕aw):=
 Qc (UU x0 x1) (re (AV.bool (Q0 (zea x0 x1>=0))) [])
noncomputable def Oi(x0:Sem ze.sl)(x1:Sem ze):=al [Q7] t0 100000000 (zin x0 x1)
noncomputable def Kz(x0:Sem ze.sl)(x1:Sem ze):=(Oi x0 x1).isSome
noncomputable def Dr(x0:Sem ze.sl)(x1:Sem ze):=o1 (Oi x0 x1)
noncomputable def zfk:=FT [ze.sl,ze] [Q7] λx=>Oi x.1 x.2.1
theorem zbe:FK 36 zfk:=nt.T1 (f:=Tryz.f36) (keep:=k0) (e:=e0)
noncomputable def R0:=Bq.addL [(66,zfJ),(36,zfk)]
theorem Br:zy R0:=nt.addL<|fc zbH<|fc zbe<|iM
noncomputable def zim(x0:Sem zh)(x1:Sem ze):Tr (Empty⊕aw):=
 br (!eD (x0.1.1,x0.1.2.1,x0.1.2.2.1,x0.1.2.2.2.1,x0.1.t.1,zn x0.1.t.2))
 (re (ai (zW (λx=>bz x (-1) x1) x0.2 0)) [])
 (re (ai (zW (λx=>bz x x0.1.2.2.1 x1) x0.2 0)) [])
noncomputable def Hr(x0:Sem zh)(x1:Sem ze):=al [zg] t0 100000000 (zim x0 x1)
noncomputable def Mk(x0:Sem zh)(x1:Sem ze):=(Hr x0 x1).isSome
noncomputable def Un(x0:Sem zh)(x1:Sem ze):=o1 (Hr x0 x1)
noncomputable def zfi:=FT [zh,ze] [zg] λx=>Hr x.1 x.2.1
theorem zbc:FK 35 zfi:=Br.T1 (f:=Tryz.f35) (keep:=k0) (e:=e0)
noncomputable def R1:=R0.add 35 zfi
theorem Bt:zy R1:=Br.add zbc
noncomputable def Pj(x0:Sem zr)(x1:Sem zh.sl)(x2:Sem ze):Tr (Empty⊕aw):=
 let a0:=(x0.1,x0.2.1,x0.2.2.1,(x0.2.2.2.1.1,x0.2.2.2.1.2.1,x0.2.2.2.1.2.2.1,x0.2.2.2.1.2.2.2.1,x0.2.2.2.1.t.1,zn x0.2.2.2.1.t.2),x0.t)
 let a1:=zK 0 (length x1)
 let a2:=getD x1 (toNat 0) (zi zh)
 let a3:=((a2.1.1,a2.1.2.1,a2.1.2.2.1,a2.1.2.2.2.1,a2.1.t.1,zn a2.1.t.2),a2.2)
 let a4:=Un a3 x2
 let a5:=getD a2.2 (toNat a4) (zi ze.sl)
 let a6:=FM a0 x1
 let a7:=dd a0 x1
 let a8:=getD a5 (toNat x0.t.2) (zi ze)
 Qc (Fi a0 x1)
 (br (PG a0 x1 !=0) (re (tup [agg [ai 0,ai 0,str []],ai 1]) [])
  (br (x0.1==[106,111,105,110]) (Qc a1 (Qc (Mk a3 x2) (br (Q0 (a4<0)) (re (tup [agg [ai 0,ai 0,str []],ai 6]) []) (Qc a1 (Qc (zK a4 (length a2.2)) (Qc (zK x0.t.2 (length a5)) (Qc a6 (Qc (Kz a7 a8)
  (br (!Dr a7 a8) (re (tup [agg [ai 0,ai 0,str []],ai 6]) []) (re (tup [agg [ai a8.1,ai a8.2.1,str a8.2.2],ai 0]) [])))))))))) (Qc a6 (Qc (Kz a7 x2) (br (!Dr a7 x2) (re (tup [agg [ai 0,ai 0,str []],ai 6]) [])
  (re (tup [agg [ai x2.1,ai x2.2.1,str x2.2.2],ai 0]) []))))))
noncomputable def Oh(x0:Sem zr)(x1:Sem zh.sl)(x2:Sem ze):=al [ze,zg] t0 100000000 (Pj x0 x1 x2)
noncomputable def UQ(x0:Sem zr)(x1:Sem zh.sl)(x2:Sem ze):=(Oh x0 x1 x2).isSome
noncomputable def zd7(x0:Sem zr)(x1:Sem zh.sl)(x2:Sem ze):=o2 (Oh x0 x1 x2)
noncomputable def zeX:=FT [zr,zh.sl,ze] [ze,zg] λx=>Oh x.1 x.2.1 x.2.2.1
theorem zaP:FK 19 zeX:=Bt.T1 (f:=Tryz.f19) (keep:=k0) (e:=e0)
noncomputable def R2:=R1.add 19 zeX
theorem sD:zy R2:=Bt.add zaP
end Cad
