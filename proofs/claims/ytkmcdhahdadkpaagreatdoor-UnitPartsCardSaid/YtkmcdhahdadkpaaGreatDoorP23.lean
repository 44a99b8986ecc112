/- Sorting what the range over a map has collected. What the sorted keys are. The keys of a map without NULL, sorted. Units: all: the hand part. Units: all: the contract. -/
import Derived.Test.YtkmcdhahdadkpaaGreatDoorP22
import Derived.Test.YtkmcdhahdadkpaaGreatDoorP17
import Derived.Test.YtkmcdhahdadkpaaGreatDoorP13
import Derived.Test.YtkmcdhahdadkpaaGreatDoorP15
import Derived.Test.YtkmcdhahdadkpaaGreatDoorP08
import Derived.Carry
import Derived.ChangeSame
import Derived.RowKit3
import Derived.WideKeyArgs
import Derived.Test.YtkmcdhahdadkpaaGreatDoorP05
import Derived.Test.YtkmcdhahdadkpaaGreatDoorRows
import Derived.OpenShut
import Derived.ProofKit
import Derived.Test.YtkmcdhahdadkpaaGreatDoorP10
namespace Cad
open Go Go.Proofs Go.Sort
open Tr renaming chk→Qc,«to»→Q9,val→Q8
open AV renaming nils→Qb
open Sh renaming bool→Q7
open Bool renaming false→Q4,true→Q3
open Option renaming none→Q2,some→Q1
open Decidable renaming decide→Q0
open Int (toNat)
open List (getD length)
open Tr (chk br re)
open AV (nils agg tup ptr kb str sl)
set_option maxHeartbeats 4000000
theorem OF(p:Option Addr)(c:Nat)(fv:Value)(w:World):Calls Tryz.prog 61 #[.slice p 0 c,fv] w λe w'=>e=.returned (.tuple #[])/\w'=w:=
 AnyF.slices_SortFunc_none {Tryz.sortVal with} p c fv w
theorem YP:∀E:List ((Int×Int×zB)×MapEntry),(∀p∈E,aW p.1=Q3)->∃l:List V3,l.map (·.1)=E.map (·.1)/\l.flatMap jC=In E
 |[],_=>⟨[],rfl,rfl⟩
 | p::E,h=>by
  obtain⟨l,h1,h2⟩:=YP E λq hq=>h q (sL _ hq)
  refine⟨⟨p.1,h p wJ⟩::l,by simp[h1],?_⟩;rw[List.flatMap_cons,h2];rfl
def UY(w1:World)(ents':Array MapEntry)(v:Value)(w':World):Prop:=
 ∃(E:List ((Int×Int×zB)×MapEntry))(l:List V3),(∀p∈E,p.2∈ents'.toList/\p.2.key=dD p.1)/\(∀x∈ents'.toList,x.born∈E.map λp=>p.2.born)/\(E.map λp=>p.2.born).Nodup/\l.map (·.1)=E.map (·.1)/\
  w'.ownsRow w1.heap.size 27 3 v l.length ((l.mergeSort λx y=>!(ltOf HL) y x).flatMap jC)/\RowKit.Below w1.heap.size w1 w'
theorem NV[Inhabited V3]{w1 wr:World}{r clock:Nat}{ents':Array MapEntry}{v:Value}{seen:Array Nat}{E:List ((Int×Int×zB)×MapEntry)}(hC:Y8 w1 r clock ents' v wr seen E)(h0:(leftOf ents' seen).size=0)(hm:∀p∈E,aW p.1=Q3)(hsz:ents'.size<=1000):
  Calls Tryz.prog 61 #[v,.func (.func 62) #[] #[]] wr λe w'=>e=.returned (.tuple #[])/\UY w1 ents' v w':=by
 obtain⟨l,hl,hf⟩:=YP E hm;have hlen:l.length=E.length:=by simpa using congrArg length hl
 have hall:∀x∈ents'.toList,x.born∈E.map λp=>p.2.born:=λx hx=>by
  have:=all_seen ents' seen h0 x hx;rw[<-hC.sn];simpa using this
 have hrow:=hC.row;rw[<-hf,<-hlen]at hrow;obtain⟨c0,hit,_⟩:=hC.it;have hsw:w1.heap.size<=wr.heap.size:=hC.bel.size;by_cases hne:l=[]
 ·subst hne;have hv:∃p c,v=.slice p 0 c:=by
   rcases hrow.2 with⟨rfl,_⟩|⟨g,cap,cur,rfl,_⟩
   ·exact⟨_,_,rfl⟩
   ·exact⟨_,_,rfl⟩
  obtain⟨p,c,rfl⟩:=hv;refine(OF p c _ wr).mono ?_;rintro e w' ⟨rfl,rfl⟩;exact⟨rfl,E,[],hC.sub,hall,hC.nd,hl,by simpa using hrow,hC.bel⟩
 ·refine(SQ hrow (by have:=hC.cnt;omega) hne).mono ?_;rintro e w' ⟨rfl,h1,h2⟩;refine⟨rfl,E,l,hC.sub,hall,hC.nd,hl,h1,hC.bel.grown h2 hsw λk hk=>?_⟩;rcases hrow.2 with⟨rfl,_⟩|⟨g,cap,cur,rfl,hbg,_⟩
  ·simp[Value.ownBlock]at hk
  ·have:g=k:=by simpa[Value.ownBlock]using hk
   exact this▸hbg
theorem OB(x y z:V3)(h:ltOf HL x y=Q4)(g:ltOf HL y z=Q4):ltOf HL x z=Q4:=by
 simp only[ltOf,decide_eq_false_iff_not]at h g⊢;intro hxz;rcases mH x.2 y.2 h with e|e
 ·unfold HL at hxz;rw[e]at hxz;exact g hxz
 ·exact g (gV (a:=y.1) (b:=x.1) (c:=z.1) e hxz)
theorem OA(x y:V3):(!(ltOf HL y x)||!(ltOf HL x y))=Q3:=by
 by_cases h:xA y.1 x.1
 ·have:ltOf HL x y=Q4:=by
   simp only[ltOf,decide_eq_false_iff_not];exact λg=>gI (a:=y.1) (gV (a:=y.1) (b:=x.1) (c:=y.1) h g)
  simp[this]
 ·have:ltOf HL y x=Q4:=by
   simp only[ltOf,decide_eq_false_iff_not];exact h
  simp[this]
theorem Lw(l:List V3)(hn:(l.map (·.1)).Nodup) (h0:∀x∈l,x.1.1≠0):(l.mergeSort λx y=>!(ltOf HL) y x).map (·.1)=oA (l.map (·.1)):=by
 by_cases hne:l=[]
 ·subst hne;simp[oA]
 ·refine Tz ?_ ((List.mergeSort_perm l _).map _) ?_
  ·have hne':l.map (·.1)≠[]:=by simpa using hne
   simp only[pG,aD,dT,aP,bne_iff_ne,ne_eq];refine⟨⟨λx hx=>?_,hn⟩,by simpa using hne⟩;obtain⟨y,hy,rfl⟩:=bl.1 hx;exact⟨y.2,h0 y hy⟩
  ·rw[List.pairwise_map];refine(List.pairwise_mergeSort (λa b c h g=>?_) (λa b=>OA a b) l).imp λ{x y} h=>?_
   ·simp only[wK]at h g⊢;exact OB c b a g h
   ·simp only[ltOf,wK,decide_eq_false_iff_not]at h;exact h
theorem HR(es:List ((Int×Int×zB)×Int))(k:Int×Int×zB):List.Sublist (ve es k) es:=by
 unfold ve;split
 ·exact List.eraseIdx_sublist _ _
 ·exact List.Sublist.refl _
theorem wF(k:Int×Int×zB):∀(es:List ((Int×Int×zB)×Int))(i:Nat),(ch es k i).map (·.1)=(ch es k 0).map (λq=>q.1+i)
 |[],_=>rfl
 | p::r,i=>by
  unfold ch;cases k==p.1 with
  |true=>simp
  | false=>
   simp only[aN];have h1:=wF k r (i+1);have h2:=wF k r 1;rw[h1];cases h:ch r k 0 with
   |none=>rw[h]at h2;cases h3:ch r k (0+1)<;>simp_all
   | some q=>
    rw[h]at h2;cases h3:ch r k (0+1)with
    |none=>simp_all
    |some q'=>simp_all;omega
theorem NY(p:(Int×Int×zB)×Int)(r:List ((Int×Int×zB)×Int))(k:Int×Int×zB):ve (p::r) k=if k=p.1 then r else p::ve r k:=by
 unfold ve;by_cases h:k=p.1
 ·simp[ch,h]
 ·have hb:(k==p.1)=Q4:=by simpa using h
  rw[if_neg h];simp only[ch,hb,aN];have:=wF k r 1;cases h1:ch r k (0+1)with
  | none=>
   rw[h1]at this;cases h2:ch r k 0 with
   |none=>rfl
   |some q=>rw[h2]at this;simp at this
  | some q=>
   rw[h1]at this;cases h2:ch r k 0 with
   |none=>rw[h2]at this;simp at this
   | some q'=>
    rw[h2]at this;have e:q.1=q'.1+1:=by simpa using this
    simp[e]
theorem At(k:Int×Int×zB):∀{es:List ((Int×Int×zB)×Int)},(es.map (·.1)).Nodup->∀x,x∈(ve es k).map (·.1)↔x∈es.map (·.1)/\x≠k
 |[],_,x=>by simp[ve,ch]
 | p::r,hn,x=>by
  rw[jj,List.nodup_cons]at hn;rw[NY];split
  ·rename_i h;subst h;rw[jj,cj];refine⟨λhx=>⟨.inr hx,λe=>hn.1 (e▸hx)⟩,λ⟨h,hne⟩=>h.resolve_left hne⟩
  ·rename_i h;rw[jj,cj,jj,cj,At k hn.2 x];refine⟨λhx=>?_,λ⟨hx,hne⟩=>hx.imp id λhx=>⟨hx,hne⟩⟩;rcases hx with rfl|hx
   ·exact⟨.inl rfl,λe=>h e.symm⟩
   ·exact⟨.inr hx.1,hx.2⟩
theorem vZ{α β:Type}{f:α->β}:∀{l:List α},(l.map f).Nodup->∀{a b:α},a∈l->b∈l->f a=f b->a=b
 |[],_,_,_,ha,_,_=>by cases ha
 | x::r,hn,a,b,ha,hb,e=>by
  rw[jj,List.nodup_cons]at hn;rcases cj.1 ha with ha1|ha1
  ·rcases cj.1 hb with hb1|hb1
   ·rw[ha1,hb1]
   ·exact absurd (show f x∈r.map f from bl.2 ⟨b,hb1,by rw[<-e,ha1]⟩) hn.1
  ·rcases cj.1 hb with hb1|hb1
   ·exact absurd (show f x∈r.map f from bl.2 ⟨a,ha1,by rw[e,hb1]⟩) hn.1
   ·exact vZ hn.2 ha1 hb1 e
theorem IT:∀{l m:List Nat},l.Nodup->(∀x∈l,x∈m)->l.length<=m.length
 |[],m,_,_=>by simp
 | a::r,m,hn,h=>by
  rw[List.nodup_cons]at hn;have ha:=h a wJ;have h1:=IT (l:=r) (m:=m.erase a) hn.2 λx hx=>(List.mem_erase_of_ne (λe:x=a=>hn.1 (e▸hx))).2 (h x (sL _ hx))
  have h2:=List.length_erase_of_mem ha;have h3:=List.length_pos_of_mem ha;rw[eZ];omega
theorem Sg{v:Sem zf}(h:aW v=Q3)(h0:v.1=0):v=(0,0,[]):=by
 obtain⟨k,n,s⟩:=v;subst h0;unfold aW at h;simp at h;simp[h]
theorem oF{a b:Int×Int×zB}(h:dD a=dD b):a=b:=by
 obtain⟨a1,a2,a3⟩:=a;obtain⟨b1,b2,b3⟩:=b;simpa[dD]using h
theorem IZ{ents':Array MapEntry}{es':List ((Int×Int×zB)×Int)}(he:(ents'.toList.map λe=>(e.key,e.val))=AE Q3 es'):ents'.toList.map (·.key)=(es'.map (·.1)).map dD:=by
 have:=congrArg (List.map Prod.fst) he;simpa[AE,oz,sM]using this
theorem rJ{l m:List (Sem zf)}(hl:∀x∈l,aW x=Q3)(hm:∀x∈m,aW x=Q3)(h:∀x,x.1≠0->(x∈l↔x∈m)):oA l=oA m:=by
 obtain⟨l1,l2⟩:=lh hl;obtain⟨m1,m2⟩:=lh hm;refine GL l1 m1 λx=>?_
 rw[l2,m2];exact⟨λhx=>⟨(h x hx.2).1 hx.1,hx.2⟩,λhx=>⟨(h x hx.2).2 hx.1,hx.2⟩⟩
theorem Ot{ents':Array MapEntry}{es':List ((Int×Int×zB)×Int)}(he:(ents'.toList.map λe=>(e.key,e.val))=AE Q3 es')(hn:(es'.map (·.1)).Nodup) (hm:∀p∈es',aW p.1=Q3) (h0:∀p∈es',p.1.1≠0)
  {E:List ((Int×Int×zB)×MapEntry)} (sub:∀p∈E,p.2∈ents'.toList/\p.2.key=dD p.1) (all:∀x∈ents'.toList,x.born∈E.map λp=>p.2.born) (nd:(E.map λp=>p.2.born).Nodup) (hbn:(ents'.toList.map (·.born)).Nodup) {l:List V3} (hl:l.map (·.1)=E.map (·.1)):
  (l.mergeSort λx y=>!(ltOf HL) y x).map (·.1)=oA (es'.map (·.1)):=by
 have hk:=IZ he;have hkn:(ents'.toList.map (·.key)).Nodup:=by
  rw[hk];exact List.Pairwise.map _ (λa b h e=>h (oF e)) hn
 have mem:∀p∈E,p.1∈es'.map (·.1):=λp hp=>by
  obtain⟨h1,h2⟩:=sub p hp;have:p.2.key∈ents'.toList.map (·.key):=bl.2 ⟨_,h1,rfl⟩;rw[hk,h2]at this;obtain⟨k,hk1,hk2⟩:=bl.1 this;exact oF hk2▸hk1
 have hnd:(E.map (·.1)).Nodup:=by
  unfold List.Nodup at nd⊢;rw[List.pairwise_map]at nd⊢;refine nd.imp_of_mem λ{p q} hp hq h e=>h ?_
  obtain⟨p1,p2⟩:=sub p hp;obtain⟨q1,q2⟩:=sub q hq;have:p.2.key=q.2.key:=by rw[p2,q2,e]
  rw[vZ hkn p1 q1 this]
 rw[Lw l (by rw[hl];exact hnd) (λx hx=>by
  have:x.1∈E.map (·.1):=by rw[<-hl];exact bl.2 ⟨x,hx,rfl⟩
  obtain⟨p,hp,e⟩:=bl.1 this;obtain⟨q,hq,e'⟩:=bl.1 (mem p hp);rw[<-e,<-e'];exact h0 q hq),hl]
 refine rJ (λx hx=>?_) (λx hx=>?_) λx _=>⟨λhx=>?_,λhx=>?_⟩
 ·obtain⟨p,hp,rfl⟩:=bl.1 hx;obtain⟨q,hq,e'⟩:=bl.1 (mem p hp);exact e'▸hm q hq
 ·obtain⟨p,hp,rfl⟩:=bl.1 hx;exact hm p hp
 ·obtain⟨p,hp,rfl⟩:=bl.1 hx;exact mem p hp
 ·have:dD x∈ents'.toList.map (·.key):=by rw[hk];exact bl.2 ⟨x,hx,rfl⟩
  obtain⟨e,he1,he2⟩:=bl.1 this;obtain⟨p,hp,hb⟩:=bl.1 (all e he1);obtain⟨p1,p2⟩:=sub p hp;have:p.2=e:=vZ hbn p1 he1 hb;rw[this,he2]at p2;exact bl.2 ⟨p,hp,(oF p2).symm⟩
set_option maxRecDepth 100000
theorem R9:∀l:List Value,l.length=46->∃v0 v1 v2 v3 v4 v5 v6 v7 v8 v9 v10 v11 v12 v13 v14 v15 v16 v17 v18 v19 v20 v21 v22 v23 v24 v25 v26 v27 v28 v29 v30 v31 v32 v33 v34 v35 v36 v37 v38 v39 v40 v41 v42 v43 v44 v45,l=[v0,v1,v2,v3,v4,v5,v6,v7,v8,v9,v10,v11,v12,v13,v14,v15,v16,v17,v18,v19,v20,v21,v22,v23,v24,v25,v26,v27,v28,v29,v30,v31,v32,v33,v34,v35,v36,v37,v38,v39,v40,v41,v42,v43,v44,v45]:=by
 intro l h
 match l,h with
 |v0::v1::v2::v3::v4::v5::v6::v7::v8::v9::v10::v11::v12::v13::v14::v15::v16::v17::v18::v19::v20::v21::v22::v23::v24::v25::v26::v27::v28::v29::v30::v31::v32::v33::v34::v35::v36::v37::v38::v39::v40::v41::v42::v43::v44::v45::[],_=>exact⟨v0,v1,v2,v3,v4,v5,v6,v7,v8,v9,v10,v11,v12,v13,v14,v15,v16,v17,v18,v19,v20,v21,v22,v23,v24,v25,v26,v27,v28,v29,v30,v31,v32,v33,v34,v35,v36,v37,v38,v39,v40,v41,v42,v43,v44,v45,rfl⟩
theorem Oz(n:Int)(w:World)(v0 v1 v2 v3 v4 v5 v6 v7 v8 v9 v10 v11 v12 v13 v14 v15 v16 v17 v18 v21 v22 v23 v24 v25 v26 v27 v28 v29 v30 v31 v32 v33 v34 v35 v36 v37 v38 v39 v40 v41 v42 v43 v44 v45:Value):
  Bd.wp Tryz.prog (λe a w'=>e=.exit 0/\w'=w/\∃ts:List Value,a=⟨ts.toArray,[]⟩/\ts.length=46/\ts[6]?=Q1 v6) {tmps:=#[v0,v1,v2,v3,v4,v5,v6,v7,v8,v9,v10,v11,v12,v13,v14,v15,v16,v17,v18,(Value.int .i64 n),(Value.int .i64 n),v21,v22,v23,v24,v25,v26,v27,v28,v29,v30,v31,v32,v33,v34,v35,v36,v37,v38,v39,v40,v41,v42,v43,v44,v45],defers:=[]} w:=by
 simp only[Bd,Tryz.f30]
 go_wp2
theorem ziV:Tryz.f30.results=#[.tmp 4]:=kw
theorem OY{tmps:Array Value}{w:World}{v:Value}(h:tmps[4]?=Q1 v):(results Tryz.f30 tmps).run Tryz.prog w=.ok v w:=by
 have hg:tmps.getD 4 undef=v:=by rw[qP,h];rfl
 rw[Cc,ziV];simp[Ca,hg]
theorem Sq:dD (0,0,[])=.agg #[.int .i64 0,.int .i64 0,.string ⟨#[]⟩]:=rfl
theorem VU{w':World}{U:Nat->Prop}{v:Value}{base:Nat}(hU:∀b,U b->b<base){l:List V3}[Inhabited V3](hok:∀x∈l,kY x.1)(hlen:l.length<=1000){m:List V3}(hp:List.Perm m l)(hrow:w'.ownsRow base 27 3 v l.length (m.flatMap jC)):
  Rv w' U (λ_=>Q2) (.sl zf (m.map (·.1))) v:=by
 have hml:m.length=l.length:=hp.length_eq;rcases hrow.2 with⟨rfl,h0⟩|⟨g,cap,cur,rfl,hbg,hgb,hnc,hcm,hcs,htk⟩
 ·have:m=[]:=List.length_eq_zero_iff.1 ow;rw[this];exact .sl0 zf _ _
 ·have hL:(m.map (·.1)).length=l.length:=by simp[hml]
  rw[<-hL];refine .sl zf _ g 0 cap (λi j=>(cur[i*3+j]?).getD undef) ow um (nW.1 hgb).1 (λh=>by have:=hU g h;omega) (λi j hi hj=>?_) (λi hi j c hc=>?_)
  ·have hj:j<3:=hj;have hlt:i*3+j<cur.size:=by rw[hcs];omega
   simp[World.cell?,hgb,sO hlt,show zf.size=3 from rfl]
  ·have him:i<m.length:=by simpa using hi
   have hj:j<3:=by
    have:=(cW.1 hc).1
    rwa [zV]at this
   have hf:=tp m (i*3+j) ow;rw[show(i*3+j)/3=i by omega,show(i*3+j)%3=j by omega,<-htk,List.getElem?_take_of_lt ow,qZ,getElem!_pos m i him]at hf;rw[hf];simp only[dq];have hko:=hok m[i] (hp.mem_iff.1 (bq him));simp only[List.getElem_map]at hc;generalize m[i]=x at hc hko;obtain⟨⟨k,n,s⟩,hx⟩:=x
   match j,hj,hc with
   |0,_,hc=>cases hc;exact .int _ _ hko.1
   |1,_,hc=>cases hc;exact .int _ _ hko.2.1
   |2,_,hc=>cases hc;exact .str _ hko.2.2
theorem Wp{E:bX}(qp:E.P=Tryz.prog){C:eP}(hC:∀id,C.ρ0 id=Q2)(es:List ((Int×Int×zB)×Int))(hlen:es.length<=1000)(hn:(es.map (·.1)).Nodup) (hm:∀p∈es,aW p.1=Q3) (x5:Sem zg) (l18:List (Sem zf.sl)) (n:Int):
  Reach E C 30 (ac Tryz.f30 4) (Kh (.h4 x5 l18 n n es)).2 (λr h=>aL h [zf.sl] r=Q1 (oA (es.map (·.1)),())):=by
 intro b cs a w U ρ hb1 hb2 hc hW;rw[qp];rw[zbw];have hlen46:a.tmps.toList.length=46:=by rw[<-hc.tm.len];rfl
 obtain⟨⟨ts⟩,df⟩:=a;have hdf:df=[]:=hc.df;subst hdf;obtain⟨v0,v1,v2,v3,v4,v5,v6,v7,v8,v9,v10,v11,v12,v13,v14,v15,v16,v17,v18,v19,v20,v21,v22,v23,v24,v25,v26,v27,v28,v29,v30,v31,v32,v33,v34,v35,v36,v37,v38,v39,v40,v41,v42,v43,v44,v45,rfl⟩:=R9 ts hlen46;have r6:=hc.tm.rv 6 (.mp 0) v6 rfl rfl;have r19:=hc.tm.rv 19 (.int .i64 n) v19 rfl rfl;have r20:=hc.tm.rv 20 (.int .i64 n) v20 rfl rfl;have ho:bx w U ρ 0 (.vmap Q3 es):=hc.hp.ob 0;have hbk:=hc.hp.blk 0;clear hlen46;cases r19 with|int _ _ _=>
 cases r20 with|int _ _ _=>
 obtain⟨r,ents,clock,q1,q2,q3,q4,q5,q6⟩:=ho;cases r6 with|mp _ _ q7 _=>
 rw[q1]at q7;cases q7;have hrB:C.B0 r\/C.w0.heap.size<=r:=hbk r ⟨rfl,_,q1,rfl⟩;obtain⟨ents',hdel,he',hborn,hbn⟩:=Vp (P:=Tryz.prog) (mt:=121) (kt:=27) (et:=122) Tryz.underlying121 kw (k:=(0,0,[])) ⟨by unfold cJ;decide,by unfold cJ;decide,sw⟩ q3 q4 q5 q6;rw[Sq]at hdel;have hrw:r<w.heap.size:=(nW.1 q3).1;obtain⟨w1,hw1⟩:∃w1:World,({w with heap:=w.heap.setIfInBounds r (.map ents' clock)}:World)=w1:=⟨_,rfl⟩;rw[hw1]at hdel;have hs1:w1.heap.size=w.heap.size:=by rw[<-hw1];simp
 have hm1:w1.heap[r]?=Q1 (.map ents' clock):=by rw[<-hw1];simp[hrw]
 have ho1:∀j,j≠r->w1.heap[j]?=w.heap[j]?:=λj hj=>by rw[<-hw1];simp[Array.getElem?_setIfInBounds_ne (Ne.symm hj)]
 have hpm:=IZ he';have hdn:((ve es (0,0,[])).map (·.1)).Nodup:=hn.sublist ((HR _ _).map _);have hds:=HR es (0,0,[]);have hk:∀x∈ents'.toList,∃k,x.key=dD k/\k∈(ve es (0,0,[])).map (·.1):=λx hx=>by
  have:x.key∈ents'.toList.map (·.key):=bl.2 ⟨x,hx,rfl⟩;rw[hpm]at this;obtain⟨k,k1,k2⟩:=bl.1 this;exact⟨k,k2.symm,k1⟩
 have hsz:ents'.size<=1000:=by
  have:=congrArg length hpm;simp only[cX,Array.length_toList]at this;rw[this];exact cy hds.length_le hlen
 have hinh:Inhabited V3:=⟨⟨(0,0,[]),kw⟩⟩;have hmem:∀x:Sem zf,x∈(ve es (0,0,[])).map (·.1)->aW x=Q3/\kY x/\x.1≠0:=λx hx=>by
  obtain⟨hx1,hx2⟩:=(At (0,0,[]) hn x).1 hx;obtain⟨p,hp,rfl⟩:=bl.1 hx1;exact⟨hm p hp,(q5 p hp).2,λh0=>hx2 (Sg (hm p hp) h0)⟩
 obtain⟨e1,a1,wx,⟨rfl,rfl,ts,rfl,htl,ht6⟩,harr⟩:=Oz n w v0 v1 v2 v3 v4 v5 (.map (Q1 r)) v7 v8 v9 v10 v11 v12 v13 v14 v15 v16 v17 v18 v21 v22 v23 v24 v25 v26 v27 v28 v29 v30 v31 v32 v33 v34 v35 v36 v37 v38 v39 v40 v41 v42 v43 v44 v45 b [.inLoop Bd,.inBlock 0,.code Cb] cs;have st1:=harr [.code Cb] rfl;obtain⟨u0,u1,u2,u3,u4,u5,u6,u7,u8,u9,u10,u11,u12,u13,u14,u15,u16,u17,u18,u19,u20,u21,u22,u23,u24,u25,u26,u27,u28,u29,u30,u31,u32,u33,u34,u35,u36,u37,u38,u39,u40,u41,u42,u43,u44,u45,rfl⟩:=R9 ts htl;have hu6:u6=.map (Q1 r):=by simpa using ht6
 subst hu6
 obtain⟨e2,a2,w',⟨rfl,v,hv4,hdf,hK⟩,harr2⟩:=Ws (λe a w'=>e=.ret/\∃v,a.tmps[4]?=Q1 v/\a.defers=[]/\UY w1 ents' v w') (UY w1 ents') r ents' clock wx w1 hdel hm1 hborn hbn (λx hx=>(hk x hx).imp λ_ h=>h.1) hsz
  (λv wr seen E hC h0=>NV hC h0 (λp hp=>by
   obtain⟨s1,s2⟩:=hC.sub p hp;obtain⟨k,k1,k2⟩:=hk _ s1;rw[s2]at k1;exact oF k1▸(hmem k k2).1) hsz) (λv w' a hS h4 hd=>⟨rfl,v,h4,hd,hS⟩) u0 u1 u2 u3 u4 u5 u7 u8 u9 u10 u11 u12 u13 u14 u15 u16 u17 u18 u19 u20 u21 u22 u23 u24 u25 u26 u27 u28 u29 u30 u31 u32 u33 u34 u35 u36 u37 u38 u39 u40 u41 u42 u43 u44 u45 b [] cs
 obtain⟨todo,hst⟩:=harr2;obtain⟨E,l,sub,all,nd,hl,hrow,hbel⟩:=hK;have hkeys:=Ot he' hdn (λp hp=>(hmem _ (bl.2 ⟨p,hp,rfl⟩)).1) (λp hp=>(hmem _ (bl.2 ⟨p,hp,rfl⟩)).2.2) sub all nd hbn hl;have hall:oA ((ve es (0,0,[])).map (·.1))=oA (es.map (·.1)):=rJ (λx hx=>(hmem x hx).1) (λx hx=>by obtain⟨p,hp,rfl⟩:=bl.1 hx;exact hm p hp) λx hx=>by
  rw[At (0,0,[]) hn x];exact⟨λh=>h.1,λh=>⟨h,λe=>hx (by rw[e])⟩⟩
 have hlE:∀x∈l,kY x.1:=λx hx=>by
  have:x.1∈E.map (·.1):=by rw[<-hl];exact bl.2 ⟨x,hx,rfl⟩
  obtain⟨p,hp,e⟩:=bl.1 this;obtain⟨s1,s2⟩:=sub p hp;obtain⟨k,k1,k2⟩:=hk _ s1;rw[s2]at k1;rw[<-e];exact oF k1▸(hmem k k2).2.1
 have hle:l.length<=1000:=by
  have h1:l.length=E.length:=by simpa using congrArg length hl
  have h2:(E.map λp=>p.2.born).length<=(ents'.toList.map (·.born)).length:=IT nd λx hx=>by
   obtain⟨p,hp,rfl⟩:=bl.1 hx;exact bl.2 ⟨p.2,(sub p hp).1,rfl⟩
  simp only[cX,Array.length_toList]at h2;omega
 have hold:∀j,j<wx.heap.size->j≠r->w'.heap[j]?=wx.heap[j]?:=λj hj hjr=>by rw[hbel.block j ow,ho1 j hjr]
 have hsz':wx.heap.size<=w'.heap.size:=by have:=hbel.size;omega
 have hrv:=VU (U:=U) (base:=w1.heap.size) (λb hb=>by have:=hW.ub b hb;omega) hlE hle (List.mergeSort_perm l _) hrow;rw[hkeys,hall]at hrv;refine⟨.returned v,w',{b.at a2 todo with mode:=.returning},⟨v,.sl zf (oA (es.map (·.1))),[],U,λ_=>Q2,rfl,?_,hrv,⟨λid=>by simp[bx],λ_ _ _ h=>by simp[ag]at h,λ_ _ h=>by simp[ag]at h⟩,λ_ _=>rfl,λid v h=>(by rw[hC id]at h;cases h),?_⟩,lZ st1 hst,hb1,rfl,hdf,hb2,Tryz.f30,?_,OY hv4⟩
 ·rfl
 ·refine⟨hW.ext.trans ⟨hsz',?_,?_,?_,λx hx=>?_⟩,λj hj hB=>?_,λj hj=>iA (hW.ub j hj) hsz',hW.u1,hW.u2,λg=>(hW.gl g).mono hsz' (λj hj hu=>hold j hj λe=>hu (e▸q2)) (λ_ _ h=>h) (λ_ _ h=>h)⟩
  ·rw[hbel.os,<-hw1]
  ·rw[hbel.output,<-hw1]
  ·rw[hbel.tape,<-hw1]
  ·by_cases hxr:x.block=r
   ·have h1:w'.heap[x.block]?=Q1 (.map ents' clock):=by rw[hxr,hbel.block r ow,hm1]
    have h2:wx.heap[x.block]?=Q1 (.map ents clock):=by rw[hxr,q3]
    simp[World.frozen?,h1,h2]
   ·exact Ab (hold _ hx hxr)
  ·rw[hold j (iA hj hW.ext.sz) λe=>hrB.elim (λh=>hB (e▸h)) (λh=>by omega)];exact hW.same j hj hB
 ·show Tryz.prog.funcs[b.fn]?=Q1 Tryz.f30;rw[hb1];kernel_rfl
theorem Jv{σ:Type}{E:bX}{C:eP}{k:FuncId}{f:Func}{Q:AV->List AO->Prop}{m n0:Nat}(hE:zw E)(hf:zI E.P k f m)(hC:∀id,n0<=id->C.ρ0 id=Q2){keep:Nat->aM}{gas:Nat}{e:σ->Nat×St}{K:List Item}{st:St}{i:Tr (σ⊕aw)}
  (hgo:run E n0 keep f.results.toList gas K st=i.map (lf f e)) {s:σ} (hv:i.val=Q1 (.inl s)) (h:Reach E C k (ac f (e s).1) (e s).2 Q):Reach E C k K st Q:=
 mB hE hf hC (l:=lf f e (.inl s)) (by rw[hgo,Tr.val_map,hv];rfl) h
noncomputable def Dj(x0:Sem zz)(x1:List (Sem zh)):List (Sem zf):=(getD x1 0 (zi zh)).2.map λrow:List (Sem zf)=>getD row (toNat (bT x0 x1)) (zi zf)
noncomputable def JQ(x0:Sem zz)(x1:List (Sem zh)):Bool:=jd x0 x1&&(zM 0 (length x1)&&(Q0 (length (getD x1 0 (zi zh)).2<=1000)&&List.all (getD x1 0 (zi zh)).2 λrow:List (Sem zf)=>zM (bT x0 x1) (length row)&&aW (getD row (toNat (bT x0 x1)) (zi zf))))
noncomputable def bj(x0:Sem zz)(x1:List (Sem zh)):List (Sem zf):=oA (Dj x0 x1)
noncomputable def zdB:=zP [zz,zh.sl] [zf.sl] (λx=>JQ x.1 x.2.1) λx=>(bj x.1 x.2.1,())
theorem Fb{k:Int×Int×zB}{n:Int}:∀{es:List ((Int×Int×zB)×Int)},(jT es k n).map (·.1)=if k∈es.map (·.1)then es.map (·.1)else es.map (·.1)++[k]
 |[]=>rfl
 | p::r=>by
  show(bif k==p.1 then(k,n)::r else p::jT r k n).map (·.1)=_;by_cases h:k=p.1
  ·simp[h]
  ·have hb:(k==p.1)=Q4:=by simpa using h
   rw[hb,aN,jj,Fb (es:=r),jj];by_cases hr:k∈r.map (·.1)
   ·rw[if_pos hr,if_pos (by simp only[cj];exact .inr hr)]
   ·rw[if_neg hr,if_neg (by simp only[cj];exact λe=>e.elim h hr)];rfl
theorem VF{x0:Sem zz}{x1:List (Sem zh)}(h1:jd x0 x1=Q3)(h2:zM 0 (length x1)=Q3):(zbF x0 x1).val=Q1 (.inl (.h4 (bT x0 x1) (getD x1 0 (zi zh)).2 (length (getD x1 0 (zi zh)).2:Int) 0 [])):=by
 unfold zbF;simp only[zl];show(Qc (jd x0 x1) (Qc (zM 0 (length x1)) _)).val=_;rw[h1,h2];rfl
theorem ZR:FK 30 zdB:=by
 refine aI (E:=wX) (f:=Tryz.f30) (bU kw) λx hx C hC=>?_
 obtain⟨x0,x1,u⟩:=x;have hf:zI wX.P 30 Tryz.f30 2:=bU kw;have hgo:∀x,run wX 0 YJ Tryz.f30.results.toList 400 (bw Tryz.f30) (be Tryz.f30.ntmps (iW [Q1 zz,Q1 zh.sl] x) [])=(zbF x.1 x.2.1).map (lf Tryz.f30 Kh):=by intro x;kernel_rfl
 have hon:∀s,run wX 0 YJ Tryz.f30.results.toList 400 (ac Tryz.f30 (Kh s).1) (Kh s).2=(zi0 s).map (lf Tryz.f30 Kh):=by intro s;cases s<;>kernel_rfl
 simp only[JQ,aD,aP,dT]at hx;obtain⟨h1,h2,h3,h4⟩:=hx;generalize hrows:(getD x1 0 (zi zh)).2=rows at h3 h4;refine Jv vL hf (λid _=>hC id) (hgo (x0,x1,u)) (VF h1 h2) ?_;rw[hrows]
 have key:∀(m i:Nat)(es:List ((Int×Int×zB)×Int)),rows.length-i=m->i<=rows.length->(es.map (·.1)).Nodup->es.length<=i->(∀x,x∈es.map (·.1)↔x∈(rows.take i).map λrow:List (Sem zf)=>getD row (toNat (bT x0 x1)) (zi zf))->
   Reach wX C 30 (ac Tryz.f30 (Kh (.h4 (bT x0 x1) rows rows.length i es)).1) (Kh (.h4 (bT x0 x1) rows rows.length i es)).2 λr h=>aL h [zf.sl] r=Q1 (bj x0 x1,()):=by
  intro m
  induction m with
  | zero=>
   intro i es hm hi hn hl hmem;obtain rfl:i=rows.length:=by omega
   rw[ji]at hmem;have hmay:∀x,x∈(rows.map λrow:List (Sem zf)=>getD row (toNat (bT x0 x1)) (zi zf))->aW x=Q3:=λx hx=>by
    obtain⟨row,hr,rfl⟩:=bl.1 hx;exact(h4 row hr).2
   have:=Wp (E:=wX) rfl hC es ow hn (λp hp=>hmay _ ((hmem _).1 (bl.2 ⟨p,hp,rfl⟩))) (bT x0 x1) rows rows.length;have e:bj x0 x1=oA (es.map (·.1)):=by
    unfold bj Dj;rw[hrows];exact rJ hmay (λx hx=>hmay x ((hmem x).1 hx)) λx _=>(hmem x).symm
   rw[e];exact this
  | succ m ih=>
   intro i es hm hi hn hl hmem;have hlt:i<rows.length:=by omega
   have hat:=h4 rows[i] (bq hlt);have hk:=Fb (k:=getD rows[i] (toNat (bT x0 x1)) (zi zf)) (n:=0) (es:=es);refine Jv vL hf (λid _=>hC id) (hon (.h4 (bT x0 x1) rows rows.length i es)) (s:=.h4 (bT x0 x1) rows rows.length ((i+1:Nat):Int) (jT es (getD rows[i] (toNat (bT x0 x1)) (zi zf)) 0)) ?_ (ih (i+1) _ ow ow ?_ ?_ ?_)
   ·have e1:Q0 ((i:Int)<(rows.length:Int))=Q3:=by simpa using hlt
    have e2:zM (i:Int) rows.length=Q3:=by simp[zM];omega
    have e3:IntKind.i64.wrap ((i:Int)+1)=((i+1:Nat):Int):=by
     exact zp i um
    have e4:getD rows (toNat (i:Int)) (zi zf.sl)=rows[i]:=zY rows _ hlt;simp only[zi0,e1,e2,e3,e4,hat.1,Q8,if_true]
   ·rw[hk];split
    ·exact hn
    ·rename_i hin;exact List.nodup_append.2 ⟨hn,sw,λa ha b hb e=>hin (by rw[fZ]at hb;rw[<-hb,<-e];exact ha)⟩
   ·have:=congrArg length hk;simp only[cX]at this;rw[this];split
    ·simp;omega
    ·simp;omega
   ·intro x;rw[hk,List.take_succ_eq_append_getElem hlt,gZ,cN,<-hmem x];simp only[jj,List.map_nil,fZ];split
    ·rename_i hin;exact⟨.inl,λh=>h.elim id λe=>e▸hin⟩
    ·rw[cN,fZ]
 exact key rows.length 0 [] ow ow sw sw sw
noncomputable def Yf:=wX.add 30 zdB
theorem pL:zw Yf:=vL.add ZR
open Go Go.Proofs
section
variable {db:List (Sem zh)} {p:Sem zz}
theorem bu.pc(h:bu db p):jd p (aj db p)=Q3/\bT p (aj db p)=eK p (aj db p):=
 ⟨by unfold jd;rw[h.plc];rfl,by unfold bT;rw[h.plc];rfl⟩
theorem bu.at_mem(h:bu db p){row:List (Sem zf)}(hr:row∈(jy db p).2):getD row (toNat (eK p (aj db p))) (zi zf)∈row:=by
 have hi:=(h.inn row hr).1;simp only[zM,aD,aP]at hi;exact tr _ _ ow
theorem bu.may(h:bu db p){x:Sem zf}(hx:x∈Dj p (aj db p)):aW x=Q3:=by
 obtain⟨row,hr,rfl⟩:=bl.1 hx;rw[h.pc.2];exact(ft (h.rel.fits row hr)).2.1 _ (h.at_mem hr)
theorem bu.all(h:bu db p):JQ p (aj db p)=Q3:=by
 unfold JQ;simp only[aD,aP,dT];refine⟨h.pc.1,zu (i:=0) (qK h.go.two).1,cy h.rel.few ow,λrow hr=>⟨?_,h.may (bl.2 ⟨row,hr,rfl⟩)⟩⟩;rw[h.pc.2];exact(h.inn row hr).1
theorem bu.len(h:bu db p){row:List (Sem zf)}(hr:row∈(jy db p).2):row.length<=8:=by
 rw[(h.inn row hr).2];exact(gR h.rel.may).2.2.2.1
theorem bu.rows(h:bu db p)(v:Sem zf):CM p (aj db p) v=Q1 ((jy db p).2.filter (uS (eK p (aj db p)) v),0,()):=by
 have:=TO v h.go h.pc.1 (cy h.rel.few ow) (λrow hr=>⟨by rw[h.pc.2];exact(h.inn row hr).1,cy (h.len hr) ow⟩)
 rwa [h.pc.2]at this
theorem bu.few(_:bu db p):(bj p (aj db p)).length<=(jy db p).2.length:=by
 have:=PO (Dj p (aj db p));have e:(Dj p (aj db p)).length=(jy db p).2.length:=cX _;rw[e]at this;exact this
theorem bu.keys(h:bu db p)(hc:p.1=[99,111,112,121]):(Dj p (aj db p)).Nodup/\∀x∈Dj p (aj db p),x.1≠0:=by
 have hp:bT p (aj db p)=(jy db p).1.2.2.1:=by
  rw[h.pc.2];unfold eK;rw[if_pos hc];rfl
 have e:Dj p (aj db p)=(jy db p).2.map (ao (jy db p).1.2.2.1):=by
  unfold Dj;rw[hp];rfl
 rw[e];refine⟨VT h.rel.pw,λx hx=>?_⟩;obtain⟨row,hr,rfl⟩:=bl.1 hx;have ht:=(kR _).1 h.rel.may;have hk:=h.rel.keys row hr;simp only[zM,aD,aP]at hk;exact(ft (h.rel.fits row hr)).2.2 _ ow ht.nn
theorem bu.is(h:bu db p)(v:Sem zf):v∈bj p (aj db p)↔(jy db p).2.filter (uS (eK p (aj db p)) v)≠[]:=by
 unfold bj;rw[(lh λx hx=>h.may hx).2];show _↔¬(jy db p).2.filter (uS (eK p (aj db p)) v)=[];rw[List.filter_eq_nil_iff];constructor
 ·rintro⟨hx,h0⟩ hn;obtain⟨row,hr,e⟩:=bl.1 hx;rw[h.pc.2]at e;exact hn row hr (m7.2 ⟨e,h0⟩)
 ·intro hn;have:∃row∈(jy db p).2,uS (eK p (aj db p)) v row=Q3:=by
   refine rI λhno=>hn λrow hr hi=>hno ⟨row,hr,hi⟩
  obtain⟨row,hr,hi⟩:=this;obtain⟨e,h0⟩:=m7.1 hi;refine⟨bl.2 ⟨row,hr,?_⟩,h0⟩;show getD row (toNat (bT p (aj db p))) (zi zf)=v;rw[h.pc.2];exact e
end
noncomputable section
def zgv(x0:Sem zz)(x1:Sem zh.sl):Tr (Empty⊕aw):=
 let a0:=(x0.1,x0.2.1,x0.2.2.1,(x0.2.2.2.1.1,x0.2.2.2.1.2.1,x0.2.2.2.1.2.2.1,x0.2.2.2.1.2.2.2.1,x0.2.2.2.1.t.1,zm x0.2.2.2.1.t.2),x0.t)
 Qc (IW a0 x1)
 (br (SR a0 x1 !=0) (re (tup [Qb,ai 1]) [])
  (Qc (JQ a0 x1) (re (tup [sl zf (bj a0 x1),ai 0]) [])))
def Hh(x0:Sem zz)(x1:Sem zh.sl):=al [zf.sl,zg] t0 100000000 (zgv x0 x1)
def LM(x0:Sem zz)(x1:Sem zh.sl):=(Hh x0 x1).isSome
def TL(x0:Sem zz)(x1:Sem zh.sl):=o2 (Hh x0 x1)
def zc2:=FT [zz,zh.sl] [zf.sl,zg] λx=>Hh x.1 x.2.1
theorem Zg:FK 10 zc2:=pL.T1 (f:=Tryz.f10) (keep:=k0) (e:=e0)
def zbD(x0:Sem zz)(x1:Sem zh.sl):Tr (Empty⊕aw):=
 let a0:=(x0.1,x0.2.1,x0.2.2.1,(x0.2.2.2.1.1,x0.2.2.2.1.2.1,x0.2.2.2.1.2.2.1,x0.2.2.2.1.2.2.2.1,x0.2.2.2.1.t.1,zm x0.2.2.2.1.t.2),x0.t)
 let a1:=S8 a0 x1
 Qc (K9 a0 x1)
 (re
  (tup [agg [str x0.1,str x0.2.1,str x0.2.2.1,str x0.2.2.2.1.1,sl zj x0.2.2.2.1.2.1,ai x0.2.2.2.1.2.2.1,sl zg x0.2.2.2.1.2.2.2.1,sl zr x0.2.2.2.1.t.1,str (ze.op x0.2.2.2.1.t.2),ai (ze.v x0.2.2.2.1.t.2).1,ai (ze.v x0.2.2.2.1.t.2).2.1,str (ze.v x0.2.2.2.1.t.2).2.2,
  str (ze.s x0.2.2.2.1.t.2),sl Sh.expr (ze.l x0.2.2.2.1.t.2),sl zg x0.t.1,ai x0.t.2],sl zh a1.1,AV.bool a1.2])
  [])
def xZ(x0:Sem zz)(x1:Sem zh.sl):=al [zz,zh.sl,Q7] t0 100000000 (zbD x0 x1)
def FR(x0:Sem zz)(x1:Sem zh.sl):=(xZ x0 x1).isSome
def KT(x0:Sem zz)(x1:Sem zh.sl):=o3 (xZ x0 x1)
def zdv:=FT [zz,zh.sl] [zz,zh.sl,Q7] λx=>xZ x.1 x.2.1
theorem ZK:FK 26 zdv:=pL.T1 (f:=Tryz.f26) (keep:=k0) (e:=e0)
abbrev zgZ:=mM [(3,[0,3,4])]
inductive J4 where
 |h3 (l0:List (Sem zg)) (i4:Int) (ja0:List UInt8) (ja1:List (Sem zj)) (ja2:Int) (ja5:List UInt8) (ja6:Int) (ja7:Int) (ja8:List UInt8) (ja9:List UInt8)
 |h3b (l0:List (Sem zg)) (i4:Int) (ja0:List UInt8) (ja1:List (Sem zj)) (ja2:Int) (ja5:List UInt8) (ja6:Int) (ja7:Int) (ja8:List UInt8) (ja9:List UInt8) (lh_1:List (Sem zf.sl))
abbrev zjE:J4->Nat×St
 |.h3 l0 i4 ja0 ja1 ja2 ja5 ja6 ja7 ja8 ja9=>(3,⟨tm 31 [(0,sl zg l0),(3,ptr 0 0),(4,ai i4)],[AO.box [str ja0,sl zj ja1,ai ja2,Qb,Qb,str ja5,ai ja6,ai ja7,str ja8,str ja9,Qb,Qb]]⟩)
 |.h3b l0 i4 ja0 ja1 ja2 ja5 ja6 ja7 ja8 ja9 lh_1=>(3,⟨tm 31 [(0,sl zg l0),(3,ptr 0 0),(4,ai i4)],[AO.box [str ja0,sl zj ja1,ai ja2,Qb,Qb,str ja5,ai ja6,ai ja7,str ja8,str ja9,Qb,AV.vec 1],AO.vec zf.sl lh_1]⟩)
def zk0(x0:Sem zg.sl):Tr (J4⊕aw):=
 Q9 (J4.h3 x0 0 [118] [([110],1,Q3),([114],1,Q4)] 0 [] 0 0 [] [])
def zlC:J4->Tr (J4⊕aw)
 | .h3 l0 i4 ja0 ja1 ja2 ja5 ja6 ja7 ja8 ja9=>
  let a0:=[[(1,i4,[]),(1,l0.getD i4.toNat (zi zg),[])]]
  br (Q0 (i4<(↑l0.length:Int)))
  (Qc (zM i4 l0.length) (Qc (Q0 (a0.length<=1073741824)) (Q9 (J4.h3b l0 (IntKind.i64.wrap (i4+1)) ja0 ja1 ja2 ja5 ja6 ja7 ja8 ja9 a0))))
  (re (sl zh [((ja0,ja1,ja2,[],[],ze.mk ja5 (ja6,ja7,ja8) ja9 []),[])]) [])
 | .h3b l0 i4 ja0 ja1 ja2 ja5 ja6 ja7 ja8 ja9 lh_1=>
  let a0:=[[(1,i4,[]),(1,l0.getD i4.toNat (zi zg),[])]]
  br (Q0 (i4<(↑l0.length:Int)))
  (Qc (zM i4 l0.length) (Qc (Q0 (lh_1.length+a0.length<=1073741824)) (Q9 (J4.h3b l0 (IntKind.i64.wrap (i4+1)) ja0 ja1 ja2 ja5 ja6 ja7 ja8 ja9 (lh_1++a0)))))
  (re (sl zh [((ja0,ja1,ja2,[],[],ze.mk ja5 (ja6,ja7,ja8) ja9 []),lh_1)]) [])
def zb6(x0:Sem zg.sl):=al [zh.sl] zlC 100000000 (zk0 x0)
def zdx:=FT [zg.sl] [zh.sl] λx=>zb6 x.1
theorem ZM:FK 27 zdx:=pL.T1 (f:=Tryz.f27) (keep:=zgZ) (e:=zjE)
def Yi:=Yf.addL [(10,zc2),(26,zdv),(27,zdx)]
theorem Eh:zw Yi:=pL.addL<|fc Zg<|fc ZK<|fc ZM<|jm
end
noncomputable def i7u(x0:Sem zh.sl)(x1:Sem zk):Tr (Empty⊕aw):=
 let a0:=(x1.1,x1.2.1,x1.2.2.1,x1.2.2.2.1,x1.t.1,x1.t.2.1,x1.t.q.1,x1.t.q.2.1,zm x1.t.t.1,x1.t.t.2.1,x1.t.t.q.1,zm x1.t.t.q.2.1,x1.t.t.t)
 let a1:=R1 a0
 let a2:=(a1.1,a1.2.1,a1.2.2.1,a1.2.2.2.1,a1.t.1,a1.t.2.1,a1.t.q.1,a1.t.q.2.1,zm a1.t.t.1,a1.t.t.2.1,a1.t.t.q.1,zm a1.t.t.q.2.1,a1.t.t.t)
 let a3:=S6 (Ew x0) a2
 let a4:=(a3.1.1,a3.1.2.1,a3.1.2.2.1,(a3.1.2.2.2.1.1,a3.1.2.2.2.1.2.1,a3.1.2.2.2.1.2.2.1,a3.1.2.2.2.1.2.2.2.1,a3.1.2.2.2.1.t.1,zm a3.1.2.2.2.1.t.2),a3.1.t)
 let a5:=KT a4 (Ew x0)
 Qc (KS x0)
 (Qc (KP a0)
  (Qc (K8 (Ew x0) a2) (br (a3.2!=0) (re (tup [agg [str [],str [],str [],str [],Qb,ai 0,Qb,Qb,str [],ai 0,ai 0,str [],str [],Qb,Qb,ai 0],Qb,kb Q4]) []) (Qc (FR a4 (Ew x0)) (re (tup [agg
  [str a5.1.1,str a5.1.2.1,str a5.1.2.2.1,str a5.1.2.2.2.1.1,sl zj a5.1.2.2.2.1.2.1,ai a5.1.2.2.2.1.2.2.1,sl zg a5.1.2.2.2.1.2.2.2.1,sl zr a5.1.2.2.2.1.t.1,str (ze.op a5.1.2.2.2.1.t.2),ai (ze.v a5.1.2.2.2.1.t.2).1,ai (ze.v a5.1.2.2.2.1.t.2).2.1,
  str (ze.v a5.1.2.2.2.1.t.2).2.2,str (ze.s a5.1.2.2.2.1.t.2),sl Sh.expr (ze.l a5.1.2.2.2.1.t.2),sl zg a5.1.t.1,ai a5.1.t.2],sl zh a5.2.1,AV.bool a5.2.2]) [])))))
noncomputable def pU(x0:Sem zh.sl)(x1:Sem zk):=al [zz,zh.sl,Q7] t0 100000000 (i7u x0 x1)
noncomputable def vU(x0:Sem zh.sl)(x1:Sem zk):=(pU x0 x1).isSome
noncomputable def Bc(x0:Sem zh.sl)(x1:Sem zk):=o3 (pU x0 x1)
noncomputable def F7u:=FT [zh.sl,zk] [zz,zh.sl,Q7] λx=>pU x.1 x.2.1
theorem zfl:FK 7 F7u:=Eh.T1 (f:=Tryz.f7) (keep:=k0) (e:=e0)
noncomputable def Mm:=Yi.add 7 F7u
theorem vM:zw Mm:=Eh.add zfl
noncomputable def QR:bX:={Mm with sh:=λt=>if t=2 then Q1 (.int .i64)else Mm.sh t}
theorem AN:zw QR where
 sh:=λt e h=>by
  have h':(if t=2 then Q1 (.int .i64)else Mm.sh t)=Q1 e:=h;split at h'
  ·rename_i ht;subst ht;cases h';exact JI kw
  ·exact vM.sh t e h'
 fs:=vM.fs
 mix:=vM.mix
noncomputable def i9u:Tr (Empty⊕aw):=
 Qc Q3
 (Qc Q3
  (Qc Q3 (Qc Q3 (Qc Q3 (br Q4 (re (kb Q4) []) (Qc Q3 (Qc Q3 (Qc Q3 (Qc Q3 (re (AV.bool Q3) []))))))))))
noncomputable def yR:=al [Q7] t0 100000000 (i9u)
noncomputable def Hj:=(yR).isSome
noncomputable def Hi:=o1 (yR)
noncomputable def F9u:=FT [] [Q7] λ_=>yR
theorem zfB:FK 9 F9u:=AN.T1 (f:=Tryz.f9) (keep:=k0) (e:=e0)
noncomputable def Yj:=QR.add 9 F9u
theorem Og:zw Yj:=AN.add zfB
noncomputable section
inductive H3u where
 |h9 (l8:List (Sem zh)) (l10:List (Sem zf)) (i11:Sem zg) (l12:List (Sem zf.sl)) (i13:Sem zg) (i15:Int) (z0:zn [CP.d zf]) (z1:zn [CP.d zz])
 |h9b (l8:List (Sem zh)) (l10:List (Sem zf)) (i11:Sem zg) (l12:List (Sem zf.sl)) (i13:Sem zg) (b14:Bool) (i15:Int) (z0:zn [CP.d zf]) (z1:zn [CP.d zz])
end
def RgV(v:Sem zf):Prop:=LE.le (α:=Int) (-9223372036854775808) v.2.1/\LE.le (α:=Int) v.2.1 9223372036854775807
mutual
def Pk:ze->Prop
 |.mk _ v _ l=>RgV v/\Fg l
def Fg:List ze->Prop
 |[]=>True
 |e::r=>Pk e/\Fg r
end
theorem Fg.mem:∀{l:List ze},Fg l->∀e∈l,Pk e
 |[],_,e,h=>by simp at h
 | x::r,h,e,he=>by
  rw[Fg]at h;rcases cj.1 he with rfl|he
  ·exact h.1
  ·exact Fg.mem h.2 e he
theorem jL.app:∀{a b:List ze},jL a->jL b->jL (a++b)
 |[],_,_,h=>h
 | x::r,b,h,hb=>by
  rw[jL]at h;rw[List.cons_append,jL];exact⟨h.1,h.2.app hb⟩
theorem JP(k:Nat)(s:zB)(h:k<=1000):(List.take (toNat (k:Int)-toNat 0) (List.drop (toNat 0) s)).length<=1000000:=by
 simp;omega
theorem Sp{n k:Nat}(h:¬Q0 ((n:Int)>(k:Int))=Q3)(hk:k<=1000):n<=1000000:=by
 have:¬(n:Int)>(k:Int):=by simpa using h
 omega
theorem jL.of:∀{l:List ze},(∀x∈l,rH x)->jL l
 |[],_=>by rw[jL];trivial
 |x::r,h=>by rw[jL];exact⟨h x sw,jL.of λy hy=>h y (by simp[hy])⟩
theorem xT{e:ze}(h:Pk e):rH (gD e):=by
 obtain⟨r,m,h1,h2⟩:=FL (P:=λ_ e r=>Pk e->rH r) (λN e o t s l hl _ ht hs hr=>by
  obtain⟨op,v,s',l'⟩:=e;rw[Pk]at hr;rw[rH];exact⟨⟨hr.1.1,hr.1.2,by show t.length<=_;omega⟩,ow,jL.of λy hy=>by
   obtain⟨x,hx,hxy⟩:=hl y hy;exact hxy (hr.2.mem x hx)⟩) 16 e 14 80 ow ow ow
 unfold gD;rw[ze.eta,show qS 16 e 14 80=(r,m) by unfold qS;rw[h1];rfl];exact h2 h
theorem Ck(s:zB):(iT s).length<=1000000:=by
 unfold iT;split
 ·exact JP 20 s ow
 ·exact Sp (k:=20) (by assumption) ow
theorem R5(l:List (Sem zj)):(jo l).length<=9/\∀c∈jo l,length c.1<=1000000:=by
 refine⟨by show((List.take 9 l).map _).length<=9;rw[cX,nI];omega,λc hc=>?_⟩;obtain⟨x,_,rfl⟩:=bl.1 hc;exact Ck x.1
theorem WH{t:Sem zo}(h:Pk t.t.2):JX (CH t):=by
 have hc:=R5 t.2.1;refine⟨Ck _,hc.2,cy hc.1 ow,?_,?_,λf hf=>?_,xT h⟩
 ·show(List.take 10 _).length<=_;rw[nI];omega
 ·show((List.take 10 _).map _).length<=_;rw[cX,nI];omega
 ·obtain⟨g,_,rfl⟩:=bl.1 hf;exact Ck _
theorem WM{v:Sem zf}(h:RgV v):lK (Dl v):=by
 unfold Dl;split
 ·exact⟨h.1,h.2,JP 60 v.2.2 ow⟩
 ·exact⟨h.1,h.2,Sp (k:=60) (by assumption) ow⟩
theorem IG{l:List (Sem zf)}(h:∀v∈l,RgV v):∀v∈lw l,lK v:=λv hv=>by
 obtain⟨x,hx,rfl⟩:=bl.1 hv;exact WM (h x (List.mem_of_mem_take hx))
structure RgR (x:Sem zh):Prop where
 chk:Pk x.1.t.2
 vals:∀r∈x.2,∀v∈(r:List (Sem zf)),RgV v
theorem R3{x:Sem zh}(h:RgR x):PK (xm x):=by
 obtain⟨rows,h1,h2⟩:=IF x;have h3:xm x=(CH x.1,rows):=by unfold xm;rw[h2];rfl
 rw[h3];refine⟨WH h.chk,by show rows.length<=1000;have:=h1.1;omega,λr hr v hv=>?_⟩;obtain⟨r0,hr0,rfl⟩:=h1.2 r hr;exact IG (h.vals r0 hr0) v hv
structure RgS (s:Sem zk):Prop where
 chk:Pk s.t.t.1
 whr:Pk s.t.t.q.2.1
 row:∀v∈s.t.t.2.1,RgV v
 sets:∀x∈s.t.t.q.1,Pk (x:Sem gU).2
theorem R2{s:Sem zk}(h:RgS s):∃s':Sem zk,vT s=Q1 (s',())/\J2 s'/\ol s':=by
 obtain⟨s',h1,h2,h3⟩:=KQ s;refine⟨s',h1,h2,h2.sh,?_,?_,h2.cp,?_,?_,?_⟩
 ·rw[h3.chk];exact xT h.chk
 ·rw[h3.whr];exact xT h.whr
 ·rw[h3.whr];exact Fr _
 ·rw[h3.row];exact IG h.row
 ·intro x hx;obtain⟨y,hy,he⟩:=h3.sets x hx;rw[he];exact⟨xT (h.sets y hy),Fr _⟩
open Go
abbrev U0:Nat->Prop:=λ_=>False
abbrev iy:Nat->Option Value:=λ_=>Q2
def Pm(P:Program)(T:TypeId->Sh->Bool):List Field->Nat->Sh->Bool
 |[],_,_=>Q4
 |[f],off,s=>f.offset==off&&(T f.type s&&P.cellsOf f.type==s.size)
 |f::fs,off,.pr a b=>f.offset==off&&(T f.type a&&(P.cellsOf f.type==a.size&&Pm P T fs (off+a.size) b))
 |_,_,_=>Q4
def pT(P:Program)(t:TypeId):Bool:=match P.underlying t with
 |some .string=>P.cellsOf t==1
 |_=>Q4
def Mv(P:Program)(t e:TypeId):Bool:=match P.underlying t with
 |some (.slice u)=>u==e&&P.cellsOf t==1
 |_=>Q4
def LL(P:Program):Nat->TypeId->Sh->Bool
 |0,_,_=>Q4
 | n+1,t,s=>match P.underlying t,s with
  |some .bool,.bool=>Q3
  |some (.int k),.int k'=>k==k'
  |some .string,.str=>Q3
  |some (.slice e),.sl s=>P.cellsOf e==s.size&&(Q0 (0<s.size)&&LL P n e s)
  | some (.struct fs),.expr=>match fs.toList with
   |[a,b,c,d]=>P.cellsOf t==6&&(a.offset==0&&(b.offset==1&&(c.offset==4&&(d.offset==5&&(pT P a.type&&(pT P c.type&&(Mv P d.type t&&(P.cellsOf b.type==3&&LL P n b.type (.pr (.int .i64) (.pr (.int .i64) .str))))))))))
   |_=>Q4
  |some (.struct fs),.pr a b=>P.cellsOf t==(Sh.pr a b).size&&Pm P (LL P n) fs.toList 0 (.pr a b)
  |_,_=>Q4
section
variable {H:Type} {enc:TypeId×Value->H} {P:Program} {w:World} {sp:Nat->Bool} {held:Bool}
def Got(w:World)(s:Sh)(cs:List Value):Prop:=∃x:Sem s,dj w U0 iy (zq s x) cs/\∀v∈cs,v.oneCell'=Q3
theorem cT{α β:Type}{f:α->Option β}{a:α}{l:List α}{r:List β}(h:(a::l).mapM f=Q1 r):∃y ys,f a=Q1 y/\l.mapM f=Q1 ys/\r=y::ys:=by
 rw[List.mapM_cons]at h;cases hy:f a with
 |none=>rw[hy]at h;simp at h
 | some y=>
  cases hys:l.mapM f with
  |none=>rw[hy,hys]at h;simp at h
  | some ys=>
   rw[hy,hys]at h;simp at h;exact⟨y,ys,rfl,rfl,h.symm⟩
theorem IP{α β:Type}{f:α->Option β}:∀{l:List α}{r:List β},l.mapM f=Q1 r->∀x∈l,∃y,f x=Q1 y
 |[],_,_,_,hx=>by simp at hx
 | a::l,r,h,x,hx=>by
  obtain⟨y,ys,h1,h2,_⟩:=cT h;rcases cj.1 hx with rfl|hx
  ·exact⟨y,h1⟩
  ·exact IP h2 x hx
theorem Bf{α β:Type}{f:α->Option β}:∀{l:List α}{r:List β},l.mapM f=Q1 r->r.length=l.length/\∀(i:Nat) a,l[i]?=Q1 a->f a=r[i]?
 |[],r,h=>by simp at h;subst h;simp
 | a::l,r,h=>by
  obtain⟨y,ys,h1,h2,rfl⟩:=cT h;obtain⟨h3,h4⟩:=Bf h2;refine⟨by simp[h3],λi b hi=>?_⟩;cases i with
  |zero=>simp at hi;subst hi;simpa using h1
  |succ i=>simpa using h4 i b (by simpa using hi)
theorem HE(a:Addr)(h:a.spot=Q2)(n:Nat):a.add n=⟨a.block,a.off+n,Q2⟩:=by
 obtain⟨b,o,s⟩:=a;simp only at h;subst h;unfold Addr.add;split
 ·rename_i h;subst h;rfl
 ·rfl
theorem dj.take{cs:List AV}{vs:List Value}(h:dj w U0 iy cs vs)(n:Nat):dj w U0 iy (cs.take n) (vs.take n):=by
 refine⟨by simp[h.len],λj c v hc hv=>?_⟩;rw[List.getElem?_take]at hc hv;split at hc
 ·rename_i hj;rw[if_pos hj]at hv;exact h.rv j c v hc hv
 ·cases hc
theorem dj.appS{a b:List AV}{x y:List Value}(h:dj w U0 iy a x)(h':dj w U0 iy b y):dj w U0 iy (a++b) (x++y):=by
 refine⟨by simp[h.len,h'.len],λj c v hc hv=>?_⟩;by_cases hj:j<a.length
 ·rw[mQ hj]at hc;rw[mQ (by rw[<-h.len];exact hj)]at hv;exact h.rv j c v hc hv
 ·rw[nX ow]at hc;rw[nX (by rw[<-h.len];omega),<-h.len]at hv;exact h'.rv _ c v hc hv
theorem dj.one{c:AV}{v:Value}(h:Rv w U0 iy c v):dj w U0 iy [c] [v]:=by
 refine⟨rfl,λj d u hd hu=>?_⟩;cases j with
 |zero=>simp at hd hu;subst hd;subst hu;exact h
 |succ j=>simp at hd
theorem AS{fuel:Nat}{T:TypeId->Sh->Bool}(hT:∀t s cs d ps,T t s=Q3->DataW.trod enc P w 0 sp held fuel t cs=Q1 (d,ps)->Got w s cs){cs:List Value}:
  ∀(fl:List Field)(off:Nat)(s:Sh) xs,Pm P T fl off s=Q3->(fl.mapM λf=>DataW.trod enc P w 0 sp held fuel f.type ((cs.drop f.offset).take (P.cellsOf f.type)))=Q1 xs->Got w s ((cs.drop off).take s.size)
 |[],_,_,_,h,_=>by simp[Pm]at h
 | [f],off,s,xs,h,hm=>by
  simp only[Pm,aD,aZ]at h;obtain⟨h1,h2,h3⟩:=h;obtain⟨y,ys,hy,_,_⟩:=cT hm;rw[h1,h3]at hy;exact hT _ _ _ _ _ h2 hy
 | f::g::fs,off,.pr a b,xs,h,hm=>by
  simp only[Pm,aD,aZ]at h;obtain⟨h1,h2,h3,h4⟩:=h;obtain⟨y,ys,hy,hys,_⟩:=cT hm;rw[h1,h3]at hy;obtain⟨x1,r1,o1⟩:=hT _ _ _ _ _ h2 hy;obtain⟨x2,r2,o2⟩:=AS hT (g::fs) (off+a.size) b ys h4 hys;have hl1:((cs.drop off).take a.size).length=a.size:=by rw[<-r1.len,zV]
  have hsplit:(cs.drop off).take (a.size+b.size)=(cs.drop off).take a.size++(cs.drop (off+a.size)).take b.size:=by
   rw[List.take_add,DF]
  refine⟨(x1,x2),?_,?_⟩
  ·show dj w U0 iy (zq a x1++zq b x2) ((cs.drop off).take (a.size+b.size));rw[hsplit];exact r1.appS r2
  ·intro v hv;have hv:v∈(cs.drop off).take (a.size+b.size):=hv;rw[hsplit,cN]at hv;exact hv.elim (o1 v) (o2 v)
 |_::_::_,_,.unit,_,h,_=>by simp[Pm]at h
 |_::_::_,_,.bool,_,h,_=>by simp[Pm]at h
 |_::_::_,_,.int _,_,h,_=>by simp[Pm]at h
 |_::_::_,_,.str,_,h,_=>by simp[Pm]at h
 |_::_::_,_,.sl _,_,h,_=>by simp[Pm]at h
 |_::_::_,_,.expr,_,h,_=>by simp[Pm]at h
theorem E7{fuel:Nat}{t e:TypeId}{s:Sh}(ht:P.underlying t=Q1 (.slice e))(hc:P.cellsOf e=s.size)(hpos:0<s.size)
  (hT:∀cs d ps,DataW.trod enc P w 0 sp held fuel e cs=Q1 (d,ps)->Got w s cs) {cs:List Value} {d:DataW H} {ps:List MemPlace} (h:DataW.trod enc P w 0 sp held (fuel+1) t cs=Q1 (d,ps)):Got w (.sl s) cs:=by
 unfold DataW.trod at h;rw[ht]at h;split at h
 all_goals first
  |(rename_i hu;cases hu;done)
  |(rename_i hu _;cases hu;done)
  |(simp at h;done)
  |skip
 ·rename_i hu;cases hu;exact⟨[],dj.one (.sl0 s Q2 0),by simp[Value.oneCell']⟩
 ·rename_i a len cap hu;cases hu;simp only[bd,true_and]at h;split at h
  ·rename_i hcond;rw[fL]at h;obtain⟨elems,he,_⟩:=h;have hall:∀i,∃x:Sem s,i<len->∃ci,w.cells? 0 (a.add (i*s.size)) s.size=Q1 ci/\dj w U0 iy (zq s x) ci:=by
    intro i;by_cases hi:i<len
    ·obtain⟨y,hy⟩:=IP he i (by simpa using hi);rw[fL]at hy;obtain⟨ci,h1,h2⟩:=hy;obtain⟨x,hx,_⟩:=hT ci y.1 y.2 h2;rw[hc]at h1;exact⟨x,λ_=>⟨ci,h1,hx⟩⟩
    ·exact⟨zi s,λh=>(hi h).elim⟩
   obtain⟨X,hX⟩:=Classical.axiomOfChoice hall;have hmax:maxLen=aE:=rfl;cases len with
   |zero=>exact⟨[],dj.one (.sl0 s (Q1 a) cap),by simp[Value.oneCell']⟩
   | succ len=>
    have hcell:∀i,i<len+1->∃ci,ci.length=s.size/\(∀j,j<s.size->w.cell? ((a.add (i*s.size)).add j)=ci[j]?)/\dj w U0 iy (zq s (X i)) ci:=by
     intro i hi;obtain⟨ci,h1,h2⟩:=hX i hi;unfold World.cells? at h1;rw[if_pos (bd _)]at h1;obtain⟨h3,h4⟩:=Bf h1;refine⟨ci,by simpa using h3,λj hj=>?_,h2⟩;exact h4 j j (by simp[hj])
    have hspot:a.spot=Q2:=by
     obtain⟨ci,h1,h2,_⟩:=hcell 0 ow;have:=h2 0 hpos;simp only[Nat.zero_mul,Addr.add,if_true]at this;rw[zR ow]at this;unfold World.cell? at this;split at this
     ·split at this
      ·cases this
      ·rename_i hs;cases hsp:a.spot with
       |none=>rfl
       |some q=>rw[hsp]at hs;simp at hs
     ·cases this
    have hblk:a.block<w.heap.size:=by
     obtain⟨ci,h1,h2,_⟩:=hcell 0 ow;have:=h2 0 hpos;simp only[Nat.zero_mul,Addr.add,if_true]at this;rw[zR ow]at this;have ha:a=⟨a.block,a.off,Q2⟩:=by rw[<-hspot]
     rw[ha]at this;exact sU this
    have hci:∀i,∃ci:List Value,i<len+1->ci.length=s.size/\(∀j,j<s.size->w.cell? ⟨a.block,a.off+i*s.size+j,Q2⟩=ci[j]?)/\dj w U0 iy (zq s (X i)) ci:=by
     intro i;by_cases hi:i<len+1
     ·obtain⟨ci,h1,h2,h3⟩:=hcell i hi;refine⟨ci,λ_=>⟨h1,λj hj=>?_,h3⟩⟩;rw[<-h2 j hj,HE a hspot,HE _ rfl]
     ·exact⟨[],λh=>(hi h).elim⟩
    obtain⟨Cs,hCs⟩:=Classical.axiomOfChoice hci;let l:List (Sem s):=(List.range (len+1)).map X
    have hl:l.length=len+1:=by simp[l]
    have hget:∀i(hi:i<l.length),l[i]=X i:=by intro i hi;simp[l]
    refine⟨l,dj.one ?_,by simp[Value.oneCell']⟩;have ha:a=⟨a.block,a.off,Q2⟩:=by rw[<-hspot]
    rw[ha,<-hl];refine .sl s l a.block a.off cap (λi j=>((Cs i)[j]?).getD undef) ow ow hblk (λh=>h) ?_ ?_
    ·intro i j hi hj;obtain⟨h1,h2,_⟩:=hCs i ow;rw[h2 j hj,zR ow];rfl
    ·intro i hi j c hc';obtain⟨h1,_,h3⟩:=hCs i ow;rw[hget i hi]at hc';have hj:j<(Cs i).length:=by
      have:=(cW.1 hc').1;rw[h3.len]at this;exact this
     have:=h3.rv j c _ hc' (zR hj);rw[zR hj];exact this
  ·cases h
theorem GZ{fuel:Nat}{t:TypeId}(ht:P.underlying t=Q1 .string){cs:List Value}{d:DataW H}{ps:List MemPlace}(h:DataW.trod enc P w 0 sp held fuel t cs=Q1 (d,ps)):Got w .str cs:=by
 cases fuel with
 |zero=>simp[DataW.trod]at h
 | succ fuel=>
  unfold DataW.trod at h;rw[ht]at h;split at h
  all_goals first
   |(rename_i hu;cases hu;done)
   |(rename_i hu _;cases hu;done)
   |(simp at h;done)
   |skip
  rename_i s hu;split at h
  ·rename_i hs;refine⟨s.data.toList,dj.one ?_,by simp[Value.oneCell']⟩;have h9:maxLen=aE:=rfl;have h8:s.size=s.data.toList.length:=rfl;exact .str s.data.toList ow
  ·cases h
theorem A8{t:TypeId}(h:pT P t=Q3):P.underlying t=Q1 .string/\P.cellsOf t=1:=by
 unfold pT at h;split at h
 ·rename_i hu;exact⟨hu,by simpa using h⟩
 ·cases h
theorem RC{t e:TypeId}(h:Mv P t e=Q3):P.underlying t=Q1 (.slice e)/\P.cellsOf t=1:=by
 unfold Mv at h;split at h
 ·rename_i u hu;simp only[aD,aZ]at h;rw[<-h.1];exact⟨hu,h.2⟩
 ·cases h
theorem pt:∀(fuel n:Nat)(t:TypeId)(s:Sh)(cs:List Value)(d:DataW H)(ps:List MemPlace),LL P n t s=Q3->DataW.trod enc P w 0 sp held fuel t cs=Q1 (d,ps)->Got w s cs
 |0,_,_,_,_,_,_,_,h=>by simp[DataW.trod]at h
 |fuel+1,0,_,_,_,_,_,hty,_=>by simp[LL]at hty
 | fuel+1,n+1,t,s,cs,d,ps,hty,h=>by
  have h0:=h;unfold LL at hty;split at hty
  ·rename_i hu;unfold DataW.trod at h;rw[hu]at h;split at h
   all_goals first
    |(rename_i hu';cases hu';done)
    |(rename_i hu' _;cases hu';done)
    |(simp at h;done)
    |skip
   exact⟨_,dj.one (.bool _),by simp[Value.oneCell']⟩
  ·rename_i k k' hu;have hk:k=k':=by simpa using hty
   subst hk;unfold DataW.trod at h;rw[hu]at h;split at h
   all_goals first
    |(rename_i hu';cases hu';done)
    |(rename_i hu' _;cases hu';done)
    |(simp at h;done)
    |skip
   rename_i k1 k2 m hu';cases hu';split at h
   ·rename_i hw;obtain⟨rfl,hw⟩:=hw;simp only[Lit.wf,aD,aP]at hw;exact⟨m,dj.one (.int _ _ ⟨hw.1,hw.2⟩),by simp[Value.oneCell']⟩
   ·cases h
  ·rename_i hu;exact GZ hu h
  ·rename_i e s hu;simp only[aD,aZ,aP]at hty;exact E7 hu hty.1 hty.2.1 (λcs d ps h=>pt fuel n e s cs d ps hty.2.2 h) h
  ·rename_i fs hu;split at hty
   ·rename_i a b c d' hfs;simp only[aD,aZ]at hty;obtain⟨hsz,ha,hb,hc,hd,sa,sc,sd,zb,tb⟩:=hty;obtain⟨sa,za⟩:=A8 sa;obtain⟨sc,zc⟩:=A8 sc;obtain⟨sd,zd⟩:=RC sd;unfold DataW.trod at h;rw[hu]at h;simp only at h;split at h
    ·rename_i hlen;rw[dZ]at h;obtain⟨xs,hm,_⟩:=h;rw[hfs]at hm;obtain⟨ya,r1,ya1,hm,_⟩:=cT hm;obtain⟨yb,r2,yb1,hm,_⟩:=cT hm;obtain⟨yc,r3,yc1,hm,_⟩:=cT hm;obtain⟨yd,r4,yd1,hm,_⟩:=cT hm;rw[ha,za]at ya1;rw[hb,zb]at yb1;rw[hc,zc]at yc1;rw[hd,zd]at yd1;obtain⟨xa,ga,oa⟩:=GZ sa ya1;obtain⟨xb,gb,ob⟩:=pt fuel n b.type _ _ _ _ tb yb1;obtain⟨xc,gc,oc⟩:=GZ sc yc1;have hgd:Got w (.sl .expr) ((cs.drop 5).take 1):=by
      cases fuel with
      |zero=>simp[DataW.trod]at yd1
      | succ fuel=>
       refine E7 sd (by rw[hsz];rfl) (by decide) (λcs d ps h=>pt fuel (n+1) t .expr cs d ps ?_ h) yd1;unfold LL;rw[hu];simp only[hfs,aD,aZ];refine⟨hsz,ha,hb,hc,hd,?_,?_,?_,zb,tb⟩
       ·simp[pT,sa,za]
       ·simp[pT,sc,zc]
       ·simp[Mv,sd,zd]
     obtain⟨xd,gd,od⟩:=hgd;have hl6:cs.length=6:=by rw[hlen,hsz]
     have hcs:cs=(cs.drop 0).take 1++((cs.drop 1).take 3++((cs.drop 4).take 1++(cs.drop 5).take 1)):=by
      match cs,hl6 with
      |[v0,v1,v2,v3,v4,v5],_=>rfl
     refine⟨ze.mk xa xb xc xd,?_,?_⟩
     ·have hr:=ga.appS (gb.appS (gc.appS gd));rw[<-hcs]at hr;exact hr
     ·intro v hv;rw[hcs]at hv;simp only[cN]at hv;rcases hv with hv|hv|hv|hv
      ·exact oa v hv
      ·exact ob v hv
      ·exact oc v hv
      ·exact od v hv
    ·cases h
   ·cases hty
  ·rename_i fs a b hu;simp only[aD,aZ]at hty;unfold DataW.trod at h;rw[hu]at h;simp only at h;split at h
   ·rename_i hlen;rw[dZ]at h;obtain⟨xs,hm,_⟩:=h;have:=AS (λt s cs d ps h1 h2=>pt fuel n t s cs d ps h1 h2) fs.toList 0 (.pr a b) xs hty.2 hm;rw[List.drop_zero,L4 (by rw[hlen,hty.1];exact aB _)]at this;exact this
   ·cases h
  ·cases hty
termination_by fuel=>fuel
theorem xO{n:Nat}{t:TypeId}{s:Sh}{v:Value}{d:DataW H}{ps:List MemPlace}(hty:LL P n t s=Q3)(h:DataW.Trod enc P w 0 sp held t v d ps)(hagg:(∃cs,v=.agg cs)↔s.isAgg=Q3)(hsc:s.isAgg=Q4->v.cells=#[v]):∃x:Sem s,Rv w U0 iy (zE s x) v:=by
 obtain⟨fuel,h⟩:=h;obtain⟨x,hr,ho⟩:=pt fuel n t s _ d ps hty h;refine⟨x,?_⟩;unfold zE;cases hs:s.isAgg with
 | true=>
  obtain⟨cs,rfl⟩:=hagg.2 hs;simp only;have:=Rv.agg (w:=w) (U:=U0) (ρ:=iy) (zq s x) cs.toList hr.len ho hr.rv;simpa using this
 | false=>
  simp only;rw[hsc hs]at hr;have hlen:=hr.len
  match he:zq s x,hlen with
  | [c],_=>
   rw[he]at hr;exact hr.rv 0 c v rfl rfl
end
open Go Go.RowKit Go.ChangeShapes
theorem FQ{W W':World}(hos:W'.os=W.os)(hout:W'.output=W.output)(h:∀b,b<W.heap.size->W'.heap[b]?=W.heap[b]?)(may:MemPlace->Prop):W.keptBut W' may:=by
 refine⟨hos,hout,λi hi=>?_⟩;rw[h i hi];cases W.heap[i]? with
 |none=>rfl
 | some o=>
  cases o with
  |cells c t fr=>exact⟨rfl,rfl,rfl,λ_ _=>rfl⟩
  |map es clock=>exact .inr ⟨rfl,rfl⟩
  |_=>rfl
section
variable {H:Type} {enc:TypeId×Value->H} {P:Program}
theorem I1{f:Func}{s:ChangeSpec}{fresh handsOn again:Bool}{W W':World}{args:Array Value}{v:Value}{ds gs:List (DataW H)}{before pa pv:List MemPlace}
  (hW:DataW.Whole enc P f.params.toList s.vars Q4 W args.toList ds gs before)
  (hres:∀(b:Nat)(sp:Nat->Bool)(hd:Bool),DataW.TrodAll enc P W' b sp hd f.resultTypes.toList (v.resultList f.resultTypes.size) (s.fn H (ds++gs)).results [])
  (hargs:∀sp:Nat->Bool,(∀p∈before,sp p.block=Q3)->DataW.TrodAll enc P W' 0 sp Q3 f.params.toList args.toList (s.fn H (ds++gs)).args pa)
  (hvars:∀sp:Nat->Bool,(∀p∈before,sp p.block=Q3)->DataW.TrodVars enc P W' sp s.vars (s.fn H (ds++gs)).vars pv)
  (hps:before=pa++pv) (hk:W.keptBut W' (·∈before)) (hfz:∀a:Addr,a.block<W.heap.size->W'.frozen? a=W.frozen? a)
  (hok:∀(j:Nat)(t:TypeId)(r:Value),f.resultTypes[j]?=Q1 t->(v.resultList f.resultTypes.size)[j]?=Q1 r->Value.okWide P W' .any 0 t r):
  s.post enc P f Q4 fresh handsOn again W args v W':=by
 have hold:∀p∈before,(λb=>Q0 (b<W.heap.size)) p.block=Q3:=λp hp=>by simpa using hW.lt p hp
 have hlt:=hW.lt;refine⟨ds,gs,before,[],pa,pv,hW,hres _ _ _,hargs _ hold,hvars _ hold,World.keptBut_mono (λp hp=>⟨hp,?_⟩) hk,λ_=>?_⟩
 ·rw[hps,cN]at hp;exact Or.inr hp
 ·obtain⟨_,_,_,_,_,hz,hn⟩:=hW;refine⟨hok,_,_,([]++pa)++pv,⟨[]++pa,pv,trodAll_append (hargs _ (λ_ _=>rfl)) (hres _ _ _),hvars _ (λ_ _=>rfl),rfl,?_,?_⟩,?_⟩
  ·intro b off hp;have hp':MemPlace.cell b off∈before:=by rw[hps];simpa using hp
   rw[hfz ⟨b,off,Q2⟩ (hlt _ hp')];exact hz b off hp'
  ·intro ha;cases ha
  ·intro p hp _;rw[hps];simpa using hp
theorem OJ{W:World}{r:Go.Reach}{b:Nat}{t:TypeId}{fs:Array Field}{v:Value}(ht:P.underlying t=Q1 (.struct fs))(h:Value.okWide P W r b t v):∃cs,v=.agg cs:=by
 unfold Value.okWide at h;rw[ht]at h;obtain⟨cs,rfl,_⟩:=h;exact⟨cs,rfl⟩
theorem SG{W:World}{r:Go.Reach}{b:Nat}{t e:TypeId}{v:Value}(ht:P.underlying t=Q1 (.slice e))(h:Value.okWide P W r b t v):∃a n c,v=.slice a n c:=by
 unfold Value.okWide at h;rw[ht]at h;simp only at h;unfold Cell.okWide at h;rw[ht]at h;unfold Cell.ok at h;rw[ht]at h;cases v<;>simp at h
 exact⟨_,_,_,rfl⟩
theorem zco{W:World}{r:Go.Reach}{b:Nat}{t:TypeId}{k:IntKind}{v:Value}(ht:P.underlying t=Q1 (.int k))(h:Value.okWide P W r b t v):∃n,v=.int k n:=by
 unfold Value.okWide at h;rw[ht]at h;simp only at h;unfold Cell.okWide at h;rw[ht]at h;unfold Cell.ok at h;rw[ht]at h;cases v<;>simp at h
 exact⟨_,by rw[h.1]⟩
theorem KF{W:World}{r:Go.Reach}{b n:Nat}{t:TypeId}{fs:Array Field}{s:Sh}{v:Value}{d:DataW H}{ps:List MemPlace}(hty:LL P n t s=Q3)(hs:s.isAgg=Q3)(ht:P.underlying t=Q1 (.struct fs))(hok:Value.okWide P W r b t v)
  (h:DataW.Trod enc P W 0 (λ_=>Q3) Q3 t v d ps):∃x:Sem s,Rv W U0 iy (zE s x) v:=by
 refine xO hty h ⟨λ_=>hs,λ_=>OJ ht hok⟩ (λh'=>?_);rw[hs]at h';cases h'
theorem Ol{W:World}{r:Go.Reach}{b n:Nat}{t e:TypeId}{s:Sh}{v:Value}{d:DataW H}{ps:List MemPlace}(hty:LL P n t (.sl s)=Q3)(ht:P.underlying t=Q1 (.slice e))(hok:Value.okWide P W r b t v)
  (h:DataW.Trod enc P W 0 (λ_=>Q3) Q3 t v d ps):∃x:List (Sem s),Rv W U0 iy (.sl s x) v:=by
 obtain⟨a,m,c,rfl⟩:=SG ht hok;exact xO (s:=.sl s) hty h ⟨(λ⟨_,hh⟩=>(by cases hh)),(λhh=>(by cases hh))⟩ (λ_=>rfl)
theorem VB{W:World}{r:Go.Reach}{b n:Nat}{t:TypeId}{k:IntKind}{v:Value}{d:DataW H}{ps:List MemPlace}(hty:LL P n t (.int k)=Q3)(ht:P.underlying t=Q1 (.int k))(hok:Value.okWide P W r b t v)
  (h:DataW.Trod enc P W 0 (λ_=>Q3) Q3 t v d ps):∃x:Int,Rv W U0 iy (.int k x) v:=by
 obtain⟨m,rfl⟩:=zco ht hok;exact xO (s:=.int k) hty h ⟨(λ⟨_,hh⟩=>(by cases hh)),(λhh=>(by cases hh))⟩ (λ_=>rfl)
theorem Kd{gl:Nat->AV}{k:FuncId}{F:zX}(hF:nV P gl k F){W:World}{iW:List AV}{args:Array Value}(hgl:CX gl W U0)(hr:dj W U0 iy iW args.toList)(hv:(F iW (λ_=>.dead) 0).val=Q1 {val:=.bool Q3})(hid:AV.idsL iW=[]):
  Calls P k args W λe W'=>e=.returned (.bool Q3)/\lF W W'/\∀b,b<W.heap.size->W'.heap[b]?=W.heap[b]?:=by
 have:=(hF.calls W U0 iy (λ_=>.dead) 0 iW args.toList _ [] hv hr (λ_ h=>h.elim) hgl ⟨sw,sw⟩ (by rw[hid];simp) sw sw).1;rw[show args.toList.toArray=args by simp]at this;refine this.mono ?_;rintro e w' ⟨v,U',ρ',rfl,hef⟩;have hv':=hef.val;cases hv';exact⟨rfl,hef.ext,λb hb=>hef.same b hb sw⟩
end
open Go Go.Proofs Go.RowKit Go.ChangeShapes Go.WideShapes Go.ChangeAt Go.Proofs.YtkmcdhahdadkpaaGreatDoor
theorem II{P:Program}{w:World}:∀{l:List (String×DataW Unit)}{ps:List MemPlace},DataW.LaidVars P w l ps->∀n d,(n,d)∈l->
  ∃g t cs fuel p,P.globalNamed n=Q1 g/\(P.globals[g]?).map (·.type)=Q1 t/\w.var? P n=Q1 cs/\DataW.trod (λ_=>()) P w 0 (λ_=>Q3) Q4 fuel t cs.toList=Q1 (d,p)
 |[],_,_,_,_,h=>by simp at h
 | (n0,d0)::r,ps,h,n,d,hm=>by
  obtain⟨g,t,cs,fuel,p,q,h1,h2,h3,h4,h5,_⟩:=h;rcases cj.1 hm with e|hm
  ·cases e;exact⟨g,t,cs,fuel,p,h1,h2,h3,h4⟩
  ·exact II h5 n d hm
theorem FS{P:Program}{l:List (String×DataW Unit)}{w:World}(hf:(l.filter λx=>x.2.handleName?.isSome).isEmpty=Q3)(h:laidMetH P l w):laidMet P l w:=by
 unfold laidMetH at h;split at h
 ·exact h
 ·rename_i a b hab;rw[hab]at hf;simp at hf
theorem pu{H:Type}{enc:TypeId×Value->H}{P:Program}{w:World}{base:Nat}{sp:Nat->Bool}{held:Bool}{fuel:Nat}{t:TypeId}(ht:P.underlying t=Q1 .string){cs:List Value}{b:List UInt8}{p:List MemPlace}
  (h:DataW.trod enc P w base sp held fuel t cs=Q1 (.lit (.string b),p)):cs=[.string ⟨b.toArray⟩]:=by
 cases fuel with
 |zero=>simp[DataW.trod]at h
 | succ fuel=>
  unfold DataW.trod at h;rw[ht]at h;split at h
  all_goals first
   |(rename_i hu;cases hu;done)
   |(rename_i hu _;cases hu;done)
   |(simp at h;done)
   |skip
  rename_i s hu;split at h
  ·simp only[bB,cr,DataW.lit.injEq,Lit.string.injEq]at h;rw[<-h.1]
  ·cases h
theorem TJ{H:Type}{enc:TypeId×Value->H}{P:Program}{w:World}{base:Nat}{sp:Nat->Bool}{held:Bool}{fuel:Nat}{t:TypeId}(ht:P.underlying t=Q1 (.int .u64)){cs:List Value}{z:Int}{p:List MemPlace}
  (h:DataW.trod enc P w base sp held fuel t cs=Q1 (.lit (.int .u64 z),p)):cs=[.int .u64 z]:=by
 cases fuel with
 |zero=>simp[DataW.trod]at h
 | succ fuel=>
  unfold DataW.trod at h;rw[ht]at h;split at h
  all_goals first
   |(rename_i hu;cases hu;done)
   |(rename_i hu _;cases hu;done)
   |(simp at h;done)
   |skip
  all_goals(try split at h)
  all_goals first
   |(cases h;done)
   |(simp at h;done)
   |skip
  all_goals simp_all
theorem DH{W:World}{l:List (String×DataW Unit)}(h:laidMet Tryz.prog l W){name:String}{g:Nat}{t e:TypeId}{len:Nat}{ds:List (DataW Unit)}(hm:(name,DataW.agg ds)∈l)
  (hg:Tryz.prog.globalNamed name=Q1 g) (ht:(Tryz.prog.globals[g]?).map (·.type)=Q1 t) (hu:Tryz.prog.underlying t=Q1 (.array len e)) (hc:Tryz.prog.cellsOf e=1):
  ∃cs T fr,W.heap[g]?=Q1 (.cells cs T fr)/\∀(j:Nat) d,ds[j]?=Q1 d->∃fuel p,DataW.trod (λ_=>()) Tryz.prog W 0 (λ_=>Q3) Q4 fuel e ((cs.toList.drop j).take 1)=Q1 (d,p):=by
 obtain⟨ps,hL,_,_⟩:=h;obtain⟨g',t',cs,fuel,p,h1,h2,h3,h4⟩:=II hL name _ hm;rw[hg]at h1;cases h1;rw[ht]at h2;cases h2;have hvar:∃T fr,W.heap[g]?=Q1 (.cells cs T fr):=by
  unfold World.var? at h3;rw[hg]at h3;simp only[Option.bind_some]at h3;split at h3
  ·rename_i c T fr hh;cases h3;exact⟨T,fr,hh⟩
  ·cases h3
 obtain⟨T,fr,hblk⟩:=hvar;refine⟨cs,T,fr,hblk,?_⟩;cases fuel with
 |zero=>simp[DataW.trod]at h4
 | succ fuel=>
  unfold DataW.trod at h4;rw[hu]at h4;simp only at h4;split at h4
  ·rw[dZ]at h4;obtain⟨xs,hm',hx⟩:=h4;simp only[cr,DataW.agg.injEq]at hx;obtain⟨hl,hg'⟩:=Bf hm';intro j d hj;rw[<-hx.1,eY,dZ]at hj;obtain⟨⟨d',p'⟩,hj,rfl⟩:=hj;have hjl:j<xs.length:=(cW.1 hj).1;have hr:(List.range len)[j]?=Q1 j:=by
    rw[Ad];rw[hl,List.length_range]at hjl;exact hjl
   have:=hg' j j hr;rw[hj,hc,Nat.mul_one]at this;exact⟨fuel,p',this⟩
  ·cases h4
theorem Ns{cs:Array Value}{j:Nat}{v:Value}(h:(cs.toList.drop j).take 1=[v]):cs[j]?=Q1 v:=by
 have:=congrArg (·[0]?) h;simp only[List.getElem?_take,Dy]at this;simpa using this
theorem gl0{W:World}{l:List (String×DataW Unit)}(h:laidMet Tryz.prog l W)(hm:("caddis/stmt.types",Rows.laid_caddis_stmt_types)∈l):Rv W U0 iy (.eptr [.str [73,78,84],.str [84,69,88,84],.str [66,79,79,76]] 0) (.pointer (Q1 ⟨1,0,Q2⟩)):=by
 obtain⟨cs,T,fr,hb,hd⟩:=DH h (g:=1) (t:=305) (e:=9) (len:=3) hm kw kw kw kw;have hs9:Tryz.prog.underlying 9=Q1 .string:=by kernel_rfl
 have hcell:∀j,W.cell? ⟨1,j,Q2⟩=cs[j]?:=by
  intro j;unfold World.cell?;rw[hb];rfl
 obtain⟨_,_,g0⟩:=hd 0 _ rfl;obtain⟨_,_,g1⟩:=hd 1 _ rfl;obtain⟨_,_,g2⟩:=hd 2 _ rfl;have w0:=Ns (pu hs9 g0);have w1:=Ns (pu hs9 g1);have w2:=Ns (pu hs9 g2);refine .eptr [.str [73,78,84],.str [84,69,88,84],.str [66,79,79,76]] 0 1 0 (λj=>match j with
  |0=>.string ⟨#[73,78,84]⟩
  |1=>.string ⟨#[84,69,88,84]⟩
  |_=>.string ⟨#[66,79,79,76]⟩) (sU (by rw[hcell];exact w0)) (λh=>h) ?_ ?_ ?_
 ·intro j hj
  match j,hj with
  |0,_=>rw[hcell];exact w0
  |1,_=>rw[hcell];exact w1
  |2,_=>rw[hcell];exact w2
 ·intro j hj
  match j,hj with
  |0,_=>rfl
  |1,_=>rfl
  |2,_=>rfl
 ·intro j c hc
  match j,hc with
  |0,hc=>simp at hc;subst hc;exact .str [73,78,84] (by simp[aE])
  |1,hc=>simp at hc;subst hc;exact .str [84,69,88,84] (by simp[aE])
  |2,hc=>simp at hc;subst hc;exact .str [66,79,79,76] (by simp[aE])
  |j+3,hc=>simp at hc
set_option maxRecDepth 100000 in
theorem gl2{W:World}(h:W.ShapedOpen Tryz.prog):Rv W U0 iy .gint (.pointer (Q1 ⟨0,0,Q2⟩)):=by
 have h0:((begin Tryz.prog (λ_ _=>0) default).world.heap[0]?).bind Obj.row?=Q1 (#[.int .i64 0],3):=by kernel_rfl
 obtain⟨cs,hh,hs,hr⟩:=h.1 0 _ _ (lg kw) h0;obtain⟨ts,hts,_,hall⟩:=hr kw;have hc:Tryz.prog.cellTypes Tryz.prog.depth 3=Q1 [3]:=by kernel_rfl
 rw[hc]at hts;cases hts;have h1:cs.size=1:=hs;obtain⟨u,hu,hok⟩:=hall 0 cs[0] sw;have:u=3:=by simpa using hu.symm
 subst this;have hi:Tryz.prog.underlying 3=Q1 (.int .i64):=by kernel_rfl
 unfold Cell.ok at hok;rw[hi]at hok;have hcs:cs=#[cs[0]]:=by
  apply Array.ext
  ·simp[h1]
  ·intro i h2 h3;have:i=0:=by omega
   subst this;rfl
 cases hv:cs[0]<;>rw[hv]at hok<;>simp at hok
 rename_i k n;obtain⟨rfl,hn⟩:=hok;refine .gint n 0 3 (0,0) hn ?_ (λh=>h);rw[hh,hcs,hv]
theorem gl5{W:World}{l:List (String×DataW Unit)}(h:laidMet Tryz.prog l W)(hs:W.ShapedOpen Tryz.prog)(hm:("internal/strconv.uint64pow10",Rows.laid_internal_strconv_uint64pow10)∈l):Rv W U0 iy (.tab .u64 lN) (.pointer (Q1 ⟨5,0,Q2⟩)):=by
 obtain⟨cs,T,fr,hb,hd⟩:=DH h (g:=5) (t:=361) (e:=224) (len:=20) hm kw kw kw kw;have hu:Tryz.prog.underlying 224=Q1 (.int .u64):=by kernel_rfl
 have h0:((begin Tryz.prog (λ_ _=>0) default).world.heap[5]?).bind Obj.row?=Q1 (Array.replicate 20 (.int .u64 0),361):=by kernel_rfl
 obtain⟨cs',hh,hsz,_⟩:=hs.1 5 _ _ (lg kw) h0;rw[hb]at hh;have hcs:cs=cs':=by simp only[bB,Obj.cells.injEq]at hh;exact hh.1
 have hlen:cs.size=20:=by rw[hcs,hsz];simp
 have key:cs=(lN.map λz=>Value.int .u64 z).toArray:=by
  apply Array.ext
  ·rw[hlen];rfl
  ·intro i h1 h2;have hd':∀(j:Nat) z,lN[j]?=Q1 z->cs[j]?=Q1 (.int .u64 z):=by
    intro j z hz;obtain⟨_,_,g⟩:=hd j (.lit (.int .u64 z)) (by
     have:(match(Rows.laid_internal_strconv_uint64pow10:DataW Unit)with|.agg l=>l|_=>[])=lN.map λz=>DataW.lit (.int .u64 z):=by kernel_rfl
     have e2:(match(Rows.laid_internal_strconv_uint64pow10:DataW Unit)with|.agg l=>l|_=>[])[j]?=Q1 (.lit (.int .u64 z)):=by
      rw[this,eY,hz];rfl
     exact e2)
    exact Ns (TJ hu g)
   have hi:i<lN.length:=by simpa using h2
   have:=hd' i lN[i] (zR hi);rw[sO h1,bB]at this;rw[this,List.getElem_toArray,List.getElem_map]
 exact .tab .u64 lN 5 T fr (by rw[hb,key]) (λh=>h)
theorem R6:laidOutB Tryz.prog=Q3:=kw
def vR(P:Program)(t:TypeId):Bool:=match P.underlying t with
 |some (.struct _)=>Q3
 |_=>Q4
theorem FP{P:Program}{t:TypeId}(h:vR P t=Q3):∃fs,P.underlying t=Q1 (.struct fs):=by
 unfold vR at h;split at h
 ·exact⟨_,‹_›⟩
 ·cases h
theorem un4:Tryz.prog.underlying 4=Q1 .bool:=kw
theorem ziZ{H:Type}{enc:TypeId×Value->H}{W W':World}(hsame:∀b,b<W.heap.size->W'.heap[b]?=W.heap[b]?){t:TypeId}{v:Value}{d:DataW H}{ps:List MemPlace}(hr:Tryz.prog.readableRec t=Q3)(hrow:t<Tryz.prog.types.size)
  (h:DataW.Trod enc Tryz.prog W 0 (λ_=>Q3) Q3 t v d ps) (hlt:∀p∈ps,p.block<W.heap.size) {sp:Nat->Bool} (hs:∀p∈ps,sp p.block=Q3):DataW.Trod enc Tryz.prog W' 0 sp Q3 t v d ps:=
 WideElems.Trod_stays R6 hr hrow h (λp hp=>by
  have h1:=hsame p.block (hlt p hp);cases p with
  |cell b off=>exact World.cell?_of_block h1
  |map b=>exact h1) hs
theorem Vy{W:World}{l:List (String×DataW Unit)}(hL:laidMet Tryz.prog l W)(hs:W.ShapedOpen Tryz.prog)(h0:("caddis/stmt.types",Rows.laid_caddis_stmt_types)∈l)(h5:("internal/strconv.uint64pow10",Rows.laid_internal_strconv_uint64pow10)∈l):CX Oj W U0:=by
 intro g
 match g with
 |0=>exact gl2 hs
 |1=>exact gl0 hL h0
 |2=>exact .any _
 |3=>exact .any _
 |4=>exact .any _
 |5=>exact gl5 hL hs h5
 |g+6=>exact .any _
theorem OI{P:Program}{W:World}{r:Go.Reach}{b:Nat}{t:TypeId}{v:Value}(ht:P.underlying t=Q1 .string)(h:Value.okWide P W r b t v):∃n,v=.string n:=by
 unfold Value.okWide at h;rw[ht]at h;simp only at h;unfold Cell.okWide at h;rw[ht]at h;unfold Cell.ok at h;rw[ht]at h;cases v<;>simp at h
 exact⟨_,rfl⟩
structure yY (t:TypeId) (s:Sh):Prop where
 got:∀{H:Type}{enc:TypeId×Value->H}{W:World}{r:Go.Reach}{b:Nat}{v:Value}{d:DataW H}{ps:List MemPlace},Value.okWide Tryz.prog W r b t v->DataW.Trod enc Tryz.prog W 0 (λ_=>Q3) Q3 t v d ps->∃x:Sem s,Rv W U0 iy (zE s x) v
 rd:Tryz.prog.readableRec t=Q3
 row:t<Tryz.prog.types.size
set_option maxRecDepth 100000 in
theorem yY.struct{t:TypeId}{s:Sh}{n:Nat}(hty:LL Tryz.prog n t s=Q3)(hs:s.isAgg=Q3)(ht:vR Tryz.prog t=Q3)(rd:Tryz.prog.readableRec t=Q3)(row:t<Tryz.prog.types.size):yY t s where
 got:=λhok h=>by
  obtain⟨fs,hu⟩:=FP ht;exact KF hty hs hu hok h
 rd:=rd
 row:=row
set_option maxRecDepth 100000 in
theorem yY.slice{t e:TypeId}{s:Sh}{n:Nat}(hty:LL Tryz.prog n t (.sl s)=Q3)(ht:Tryz.prog.underlying t=Q1 (.slice e))(rd:Tryz.prog.readableRec t=Q3)(row:t<Tryz.prog.types.size):yY t (.sl s) where
 got:=λhok h=>Ol hty ht hok h
 rd:=rd
 row:=row
set_option maxRecDepth 100000 in
theorem yY.int{t:TypeId}{k:IntKind}{n:Nat}(hty:LL Tryz.prog n t (.int k)=Q3)(ht:Tryz.prog.underlying t=Q1 (.int k))(rd:Tryz.prog.readableRec t=Q3)(row:t<Tryz.prog.types.size):yY t (.int k) where
 got:=λhok h=>VB hty ht hok h
 rd:=rd
 row:=row
set_option maxRecDepth 100000 in
theorem yY.str{t:TypeId}{n:Nat}(hty:LL Tryz.prog n t .str=Q3)(ht:Tryz.prog.underlying t=Q1 .string)(rd:Tryz.prog.readableRec t=Q3)(row:t<Tryz.prog.types.size):yY t .str where
 got:=λhok h=>by
  obtain⟨m,rfl⟩:=OI ht hok;exact xO (s:=.str) hty h ⟨(λ⟨_,hh⟩=>(by cases hh)),(λhh=>(by cases hh))⟩ (λ_=>rfl)
 rd:=rd
 row:=row
inductive J8:List TypeId->List Sh->Prop
 |nil:J8 [] []
 |cons {t:TypeId} {s:Sh} {ts:List TypeId} {ss:List Sh} (h:yY t s) (r:J8 ts ss):J8 (t::ts) (s::ss)
set_option maxRecDepth 100000 in
theorem J8.got{ts:List TypeId}{ss:List Sh}(h:J8 ts ss):∀{H:Type}{enc:TypeId×Value->H}{W:World}{base:Nat}{vs:List Value}{ds:List (DataW H)}{ps:List MemPlace},
  (∀(j:Nat) t v,ts[j]?=Q1 t->vs[j]?=Q1 v->Value.okWide Tryz.prog W .any base t v)->DataW.TrodAll enc Tryz.prog W 0 (λ_=>Q3) Q3 ts vs ds ps->
  ds.length=ts.length/\(∃x:zy (ss.map Q1),dj W U0 iy (iW (ss.map Q1) x) vs)/\
  ∀W',(∀b,b<W.heap.size->W'.heap[b]?=W.heap[b]?)->(∀p∈ps,p.block<W.heap.size)->∀sp:Nat->Bool,(∀p∈ps,sp p.block=Q3)->DataW.TrodAll enc Tryz.prog W' 0 sp Q3 ts vs ds ps:=by
 induction h with
 | nil=>
  intro H enc W base vs ds ps _ hT;obtain⟨rfl,rfl,rfl⟩:=trodAll_nil hT;exact⟨rfl,⟨(),rfl,λj c v hc=>by
   have h0:([]:List AV)[j]?=Q1 c:=hc;simp at h0⟩,λ_ _ _ _ _=>trodAll_mk0⟩
 | @cons t s ts ss h r IH=>
  intro H enc W base vs ds ps hok hT;obtain⟨v,vs,d,ds,p,q,rfl,rfl,rfl,hd,hrest⟩:=trodAll_cons hT;obtain⟨x,hx⟩:=h.got (hok 0 t v rfl rfl) hd;obtain⟨hl,⟨y,hy⟩,hk⟩:=IH (λj t v ht hv=>hok (j+1) t v ht hv) hrest;refine⟨by simp[hl],⟨(x,y),by show(zE s x::iW (ss.map Q1) y).length=_;simp[hy.len],λj c v' hc hv=>?_⟩,λW' hsame hlt sp hsp=>?_⟩
  ·have hc:(zE s x::iW (ss.map Q1) y)[j]?=Q1 c:=hc;cases j with
   | zero=>
    simp only[List.getElem?_cons_zero,bB]at hc hv;subst hc;subst hv;exact hx
   |succ j=>exact hy.rv j c v' hc hv
  ·exact trodAll_cons_mk (ziZ hsame h.rd h.row hd (λp hp=>hlt p (by simp[hp])) (λp hp=>hsp p (by simp[hp]))) (hk W' hsame (λp hp=>hlt p (by simp[hp])) sp (λp hp=>hsp p (by simp[hp])))
theorem Mb:∀(ss:List Sh)(x:zy (ss.map Q1)),AV.idsL (iW (ss.map Q1) x)=[]
 |[],_=>rfl
 | s::ss,x=>by
  show(zE s x.1).ids++AV.idsL (iW (ss.map Q1) x.2)=[];rw[Mb ss x.2,wN];unfold zE;have hL:∀l:List AV,(∀c∈l,c.ids=[])->AV.idsL l=[]:=by
   intro l
   induction l with
   |nil=>intro _;rfl
   |cons c l ih=>intro h;simp only[AV.idsL,h c sw,ih λc hc=>h c (by simp[hc]),wN]
  have hE:∀c∈zq s x.1,c.ids=[]:=λc hc=>by
   obtain⟨j,hj,rfl⟩:=gL hc;exact lq s x.1 j _ (zR hj)
  cases s.isAgg with
  |true=>exact hL _ hE
  | false=>
   cases hh:zq s x.1 with
   |nil=>rfl
   |cons c l=>exact hE c (by rw[hh];simp)
set_option maxRecDepth 100000 in
theorem NW{k:FuncId}{f:Func}{s:ChangeSpec}{F:zX}{ts:List TypeId}{ss:List Sh}(hF:nV Tryz.prog Oj k F)(hpar:f.params=ts.toArray)(hp:J8 ts ss)(hrt:f.resultTypes=#[4])(hvars:s.vars=[])
  (hfn:∀(H:Type)(ds:List (DataW H)),ds.length=ts.length->s.fn H ds={results:=[.lit (.bool Q3)],args:=ds})
  {H:Type} {enc:TypeId×Value->H} {W:World} {base:Nat} {args:Array Value} {ds gs:List (DataW H)} {before:List MemPlace}
  (hv:∀x:zy (ss.map Q1),dj W U0 iy (iW (ss.map Q1) x) args.toList->(F (iW (ss.map Q1) x) (λ_=>.dead) 0).val=Q1 {val:=.bool Q3})
  (hval:∀(j:Nat) t v,f.params[j]?=Q1 t->args[j]?=Q1 v->Value.okWide Tryz.prog W .any base t v)
  (hW:DataW.Whole enc Tryz.prog f.params.toList s.vars Q4 W args.toList ds gs before) (hgl:CX Oj W U0):
  Calls Tryz.prog k args W λe W'=>∃v,e=.returned v/\s.post enc Tryz.prog f Q4 Q3 Q4 Q4 W args v W':=by
 have hW':=hW;obtain⟨p,q,hA0,hV,rfl,hfz,hnd⟩:=hW;have hA:DataW.TrodAll enc Tryz.prog W 0 (λ_=>Q3) Q3 f.params.toList args.toList ds p:=hA0;rw[hpar]at hA;rw[hvars]at hV;obtain⟨rfl,rfl⟩:=trodVars_none hV;have hlt:=hW'.lt;obtain⟨hl,⟨x,hx⟩,hk⟩:=hp.got (base:=base) (λj t v ht hv=>hval j t v (by rw[hpar];simpa using ht) (by simpa using hv)) hA;have hc:=Kd hF (args:=args) hgl hx (hv x hx) (Mb ss x);refine hc.mono λe' W' ⟨he,hext,hsame⟩=>?_
 subst he;have hf2:s.fn H (ds++[])={results:=[.lit (.bool Q3)],args:=ds}:=by rw[wN];exact hfn H ds hl
 refine⟨_,rfl,I1 (pa:=p) (pv:=[]) hW' (λ_ _ _=>?_) (λsp hsp=>?_) (λ_ _=>?_) sw (FQ hext.os hext.out hsame _) hext.fr (ok_one hrt rfl (okWide_bool_mk un4 _))⟩
 ·rw[hf2,hrt];exact trodAll_cons_mk (shut_bool un4 _) trodAll_mk0
 ·rw[hf2,hpar];exact hk W' hsame (λp hp=>hlt p (by simpa using hp)) sp (λp hp=>hsp p (by simpa using hp))
 ·rw[hf2,hvars];rfl
open Go Go.Proofs Go.RowKit Go.ChangeShapes Go.WideShapes Go.ChangeAt
section
variable {w:World} {U:Nat->Prop} {ρ:Nat->Option Value}
def J6(w:World)(U:Nat->Prop)(ρ:Nat->Option Value)(l:List AV):Prop:=∀(j:Nat)(c:AV),l[j]?=Q1 c->∃v,Rv w U ρ c v
theorem Iy{n:Int}{v:Value}(h:Rv w U ρ (.int .i64 n) v):-9223372036854775808<=n/\n<=9223372036854775807:=by
 cases h with
 |int _ _ h=>simpa[cJ,IntKind.min,IntKind.max,IntKind.signed,IntKind.bits]using h
theorem qH{e:Sh}{l:List (Sem e)}{v:Value}(h:Rv w U ρ (.sl e l) v):∀x∈l,J6 w U ρ (zq e x):=by
 intro x hx;cases h with
 |sl0=>simp at hx
 | sl _ _ _ _ _ vals hc hm hb hU hcell hr=>
  obtain⟨i,hi,rfl⟩:=gL hx;exact λj c h=>⟨_,hr i hi j c h⟩
theorem Rh{v:Sem zf}(h:J6 w U ρ (zq zf v)):RgV v:=by
 obtain⟨_,h⟩:=h 1 _ rfl;exact Iy h
mutual
theorem A4:∀(e:ze),J6 w U ρ (zq .expr e)->Pk e
 | .mk op v s l,h=>by
  rw[Pk];obtain⟨_,h2⟩:=h 2 _ rfl;obtain⟨_,h5⟩:=h 5 _ rfl;exact⟨Iy h2,Ms l λx hx=>qH h5 x hx⟩
theorem Ms:∀(l:List ze),(∀x∈l,J6 w U ρ (zq .expr x))->Fg l
 |[],_=>by rw[Fg];trivial
 |x::r,h=>by rw[Fg];exact⟨A4 x (h x sw),Ms r λy hy=>h y (by simp[hy])⟩
end
theorem zbx{x:Sem zh}(h:J6 w U ρ (zq zh x)):RgR x where
 chk:=A4 _ λj c hc=>match j,hc with
  |0,hc=>h 5 c hc
  |1,hc=>h 6 c hc
  |2,hc=>h 7 c hc
  |3,hc=>h 8 c hc
  |4,hc=>h 9 c hc
  |5,hc=>h 10 c hc
  |j+6,hc=>by simp[zq]at hc
 vals:=by
  obtain⟨_,h⟩:=h 11 _ rfl;intro r hr v hv;obtain⟨_,h⟩:=qH h r hr 0 _ rfl;exact Rh (qH h v hv)
end
theorem PM{w:World}{U:Nat->Prop}{ρ:Nat->Option Value}{cs:List AV}{v:Value}(h:Rv w U ρ (.agg cs) v):J6 w U ρ cs:=by
 intro j c hc;cases h with
 | agg _ vs hl h1 hr=>
  have hj:j<vs.length:=by have:=(cW.1 hc).1;omega
  exact⟨vs[j],hr j c _ hc (zR hj)⟩
theorem zby{w:World}{U:Nat->Prop}{ρ:Nat->Option Value}{s:Sem zk}(h:J6 w U ρ (zq zk s)):RgS s where
 chk:=A4 _ λj c hc=>match j,hc with
  |0,hc=>h 8 c hc
  |1,hc=>h 9 c hc
  |2,hc=>h 10 c hc
  |3,hc=>h 11 c hc
  |4,hc=>h 12 c hc
  |5,hc=>h 13 c hc
  |j+6,hc=>by simp[zq]at hc
 whr:=A4 _ λj c hc=>match j,hc with
  |0,hc=>h 16 c hc
  |1,hc=>h 17 c hc
  |2,hc=>h 18 c hc
  |3,hc=>h 19 c hc
  |4,hc=>h 20 c hc
  |5,hc=>h 21 c hc
  |j+6,hc=>by simp[zq]at hc
 row:=by
  obtain⟨_,h⟩:=h 14 _ rfl;exact λv hv=>Rh (qH h v hv)
 sets:=by
  obtain⟨_,h⟩:=h 15 _ rfl;intro x hx;have h:=qH h x hx;exact A4 _ λj c hc=>match j,hc with
   |0,hc=>h 1 c hc
   |1,hc=>h 2 c hc
   |2,hc=>h 3 c hc
   |3,hc=>h 4 c hc
   |4,hc=>h 5 c hc
   |5,hc=>h 6 c hc
   |j+6,hc=>by simp[zq]at hc
theorem TI{p:Sem zz}{db src:List (Sem zh)}{ok:Bool}(h:BA p db=Q1 (src,ok,())):xZ p db=Q1 (p,src,ok,()):=by
 have c1:K9 p db=Q3:=by unfold K9;rw[h];rfl
 have c2:S8 p db=(src,ok):=by unfold S8;rw[h];rfl
 have e:p=(p.1,p.2.1,p.2.2.1,(p.2.2.2.1.1,p.2.2.2.1.2.1,p.2.2.2.1.2.2.1,p.2.2.2.1.2.2.2.1,p.2.2.2.1.t.1,zm p.2.2.2.1.t.2),p.t):=by rw[zl]
 refine(zN (i:=zbD p db) (t:=t0) (n:=100000000) (outs:=[zz,zh.sl,Q7]) (by
  simp only[zbD,zl,Prod.eta,Q8,c1,c2,if_true];rfl) (y:=((p.1,p.2.1,p.2.2.1,(p.2.2.2.1.1,p.2.2.2.1.2.1,p.2.2.2.1.2.2.1,p.2.2.2.1.2.2.2.1,p.2.2.2.1.t.1,zm p.2.2.2.1.t.2),p.t),src,ok,())) rfl).trans ?_
 rw[<-e]
theorem K6{x0:List (Sem zh)}{x1:Sem zk}(hx:∀x∈x0,RgR x)(h1:RgS x1):
  ∃(p:Sem zz)(src:List (Sem zh))(ok:Bool),pU x0 x1=Q1 (p,src,ok,())/\(ok=Q3->∃db,bu db p/\src=aj db p/\∀x∈db,PK x):=by
 obtain⟨db,d1,d2,d3⟩:=R4 x0;obtain⟨s,s1,s2,s3⟩:=R2 h1;have hdb:Ew x0=db:=by unfold Ew;rw[d1];rfl
 have hdc:KS x0=Q3:=by unfold KS;rw[d1];rfl
 have hs:R1 x1=s:=by unfold R1;rw[s1];rfl
 have hsc:KP x1=Q3:=by unfold KP;rw[s1];rfl
 have hwf:∀x∈db,PK x:=by
  intro x hxm;obtain⟨y,hy,rfl⟩:=d3 x hxm;exact R3 (hx y hy)
 have hsh:∀x∈db,gB x:=λx hxm=>(hwf x hxm).short
 have q1:=S7 hwf s3;have hqc:K8 db s=Q3:=by unfold K8;rw[q1];rfl
 have hq:S6 db s=((aT db s).2,(aT db s).1):=by unfold S6;rw[q1];rfl
 by_cases h0:(aT db s).1=0
 ·have hP:=S0 hsh h0 s2;have ht:=TI (S9 hsh hP.fnd);generalize(aT db s).2=p at hq hP ht;rw[h0]at hq;have t1:FR p db=Q3:=by unfold FR;rw[ht];rfl
  have t2:KT p db=(p,aj db p,Q3):=by unfold KT;rw[ht];rfl
  refine⟨p,aj db p,Q3,?_,λ_=>⟨db,hP,rfl,hwf⟩⟩;have e:p=(p.1,p.2.1,p.2.2.1,(p.2.2.2.1.1,p.2.2.2.1.2.1,p.2.2.2.1.2.2.1,p.2.2.2.1.2.2.2.1,p.2.2.2.1.t.1,zm p.2.2.2.1.t.2),p.t):=by rw[zl]
  refine(zN (i:=i7u x0 x1) (t:=t0) (n:=100000000) (outs:=[zz,zh.sl,Q7]) (by
   simp only[i7u,zl,Prod.eta,Q8,hdb,hdc,hs,hsc,hq,hqc,t1,t2,ld,zG,if_true,if_false];rfl) (y:=((p.1,p.2.1,p.2.2.1,(p.2.2.2.1.1,p.2.2.2.1.2.1,p.2.2.2.1.2.2.1,p.2.2.2.1.2.2.2.1,p.2.2.2.1.t.1,zm p.2.2.2.1.t.2),p.t),aj db p,Q3,())) rfl).trans ?_
  rw[<-e]
 ·have hb:((aT db s).1!=0)=Q3:=by simpa using h0
  refine⟨jq,[],Q4,?_,λh=>by cases h⟩;refine zN (i:=i7u x0 x1) (t:=t0) (n:=100000000) (outs:=[zz,zh.sl,Q7]) (r:=(tup [agg [str [],str [],str [],str [],Qb,ai 0,Qb,Qb,str [],ai 0,ai 0,str [],str [],Qb,Qb,ai 0],Qb,kb Q4],[])) ?_ rfl;simp only[i7u,zl,Prod.eta,Q8,hdb,hdc,hs,hsc,hq,hqc,hb,if_true]
theorem JR:yR=Q1 (Q3,()):=zN (i:=i9u) (r:=(.bool Q3,[])) rfl rfl
theorem CL:Hj=Q3/\Hi=Q3:=⟨by unfold Hj;rw[JR];rfl,by unfold Hi;rw[JR];rfl⟩
theorem bu.uall{db:List (Sem zh)}{p:Sem zz}(h:bu db p):Hh p (aj db p)=Q1 (bj p (aj db p),0,()):=by
 obtain⟨c1,c2⟩:=F3 h.go;refine zN (r:=(tup [sl zf (bj p (aj db p)),ai 0],[])) ?_ rfl;simp only[zgv,zl,Prod.eta,Q8,c1,c2,h.all,ld,zG,if_true,if_false]
abbrev zgS:=mM [(4,[1,2,3,6,27,28,29])]
inductive NB where
 |h4 (l1:List (Sem zh)) (l2:List (Sem zf)) (l27:List (Sem zf)) (i28:Int) (i29:Int) (z0:zn [CP.d zz]) (z1:zn [CP.d zf])
abbrev zjz:NB->Nat×St
 |.h4 l1 l2 l27 i28 i29 z0 z1=>(4,⟨tm 49 [(1,sl zh l1),(2,sl zf l2),(3,ptr 0 0),(6,ptr 1 0),(27,sl zf l27),(28,ai i28),(29,ai i29)],[AO.box (bC [] [CP.d zz] z0),AO.box (bC [] [CP.d zf] z1)]⟩)
noncomputable def VE(x0:Sem zz)(x1:Sem zh.sl)(x2:Sem zf.sl):Tr (NB⊕aw):=
 let a0:=(x0.1,x0.2.1,x0.2.2.1,(x0.2.2.2.1.1,x0.2.2.2.1.2.1,x0.2.2.2.1.2.2.1,x0.2.2.2.1.2.2.2.1,x0.2.2.2.1.t.1,zm x0.2.2.2.1.t.2),x0.t)
 let a1:=SR a0 x1 !=0
 let a2:=getD x1 (toNat 0) (zi zh)
 Qc (IW a0 x1&&bif a1 then Q3 else zM 0 (length x1))
 (br (bif a1 then Q3 else(↑(length x2):Int)!=(↑(length a2.1.2.1):Int))
  (re (tup [agg [ai 0,ai 0,str []],ai 1]) [])
  (Q9 (NB.h4 x1 x2 x2 (↑(length x2):Int) 0 (x0,()) ((0,0,[]),()))))
noncomputable def O3:NB->Tr (NB⊕aw)
 | .h4 l1 l2 l27 i28 i29 z0 z1=>
  let a0:=(z0.1.1,z0.1.2.1,z0.1.2.2.1,(z0.1.2.2.2.1.1,z0.1.2.2.2.1.2.1,z0.1.2.2.2.1.2.2.1,z0.1.2.2.2.1.2.2.2.1,z0.1.2.2.2.1.t.1,zm z0.1.2.2.2.1.t.2),z0.1.t)
  let a1:=bT a0 l1
  let a2:=l2.getD (toNat a1) (zi zf)
  br (Q0 (i29<i28))
  (Qc (zM i29 l27.length) (br (!aW (l27.getD i29.toNat (zi zf))) (re (tup [agg [ai 0,ai 0,str []],ai 1]) []) (Q9 (NB.h4 l1 l2 l27 i28 (IntKind.i64.wrap (i29+1)) z0 z1))))
  (Qc (jd a0 l1) (Qc (zM a1 l2.length) (br (a2.1==0) (re (tup [agg [ai 0,ai 0,str []],ai 6]) []) (re (tup [agg [ai a2.1,ai a2.2.1,str a2.2.2],ai 0]) []))))
noncomputable def TM(x0:Sem zz)(x1:Sem zh.sl)(x2:Sem zf.sl):=al [zf,zg] O3 100000000 (VE x0 x1 x2)
noncomputable def WL(x0:Sem zz)(x1:Sem zh.sl)(x2:Sem zf.sl):=(TM x0 x1 x2).isSome
noncomputable def uOf(x0:Sem zz)(x1:Sem zh.sl)(x2:Sem zf.sl):=o2 (TM x0 x1 x2)
noncomputable def zdi:=FT [zz,zh.sl,zf.sl] [zf,zg] λx=>TM x.1 x.2.1 x.2.2.1
theorem Zw:FK 13 zdi:=pM.T1 (f:=Tryz.f13) (keep:=zgS) (e:=zjz)
def YQ(_:Sem zz)(src:List (Sem zh))(at':Int)(row:List (Sem zf)):Sem zf×Int:=
 if row.length≠length (getD src 0 (zi zh)).1.2.1\/¬∀v∈row,aW v=Q3 then((0,0,[]),1)else if(getD row at'.toNat (zi zf)).1=0 then((0,0,[]),6)else(getD row at'.toNat (zi zf),0)
theorem zcJ{p:Sem zz}{src:List (Sem zh)}{row:List (Sem zf)}(h:Hr p src)(hc:jd p src=Q3)(hl:row.length<=1000)(hin:row.length=length (getD src 0 (zi zh)).1.2.1->zM (bT p src) row.length=Q3):
  TM p src row=Q1 ((YQ p src (bT p src) row).1,(YQ p src (bT p src) row).2,()):=by
 obtain⟨c1,c2⟩:=F3 h;have l0:=(qK h.two).1;have hi0:zM 0 src.length=Q3:=zu (i:=0) l0;unfold YQ;by_cases hlen:row.length=length (getD src 0 (zi zh)).1.2.1
 ·have hn:=hin hlen;have e:((row.length:Int)!=((length (getD src 0 (zi zh)).1.2.1:Nat):Int))=Q4:=by rw[hlen];simp
  have hi:(VE p src row).val=Q1 (.inl (.h4 src row row (row.length:Int) ((0:Nat):Int) (p,()) ((0,0,[]),()))):=by
   simp only[VE,zl,Prod.eta,Q8,c1,c2,hi0,ld,aN,nK,if_true];rw[if_neg (by rw[gg];exact e)];rfl
  have hv:∀i(hi:i<row.length),(O3 (.h4 src row row (row.length:Int) (i:Int) (p,()) ((0,0,[]),()))).val=if aW row[i]=Q3 then Q1 (.inl (.h4 src row row (row.length:Int) ((i+1:Nat):Int) (p,()) ((0,0,[]),())))else Q1 (.inr (.tup [.agg [.int .i64 0,.int .i64 0,.str []],.int .i64 1],[])):=λi hi=>by
   simp only[O3,Q8,zH hi,zu hi,if_true,zY _ _ hi];rw[zp i um];cases aW row[i]<;>simp
  rcases lH (t:=O3) (Φ:=λr=>r=(.tup [.agg [.int .i64 0,.int .i64 0,.str []],.int .i64 1],[])) 1 (λi=>.h4 src row row (row.length:Int) (i:Int) (p,()) ((0,0,[]),())) (λi=>∀h:i<row.length,aW row[i]=Q3) row.length (λi hi _=>by
   by_cases hm:aW row[i]=Q3
   ·exact .inl ⟨λ_=>hm,zQ.of (by rw[hv i hi,if_pos hm])⟩
   ·exact .inr ⟨λq=>hm (q hi),_,zT.of (by rw[hv i hi,if_neg hm]),rfl⟩)with⟨h1,h2⟩|⟨h1,r,h2,rfl⟩
  ·have hall:∀v∈row,aW v=Q3:=λv hv=>by
    obtain⟨i,hi,rfl⟩:=gL hv;exact h1 i hi hi
   rw[if_neg (by rintro(q|q);exact q hlen;exact q hall)];by_cases h0:(getD row (toNat (bT p src)) (zi zf)).1=0
   ·rw[if_pos h0];have e0:((getD row (toNat (bT p src)) (zi zf)).1==0)=Q3:=by simpa using h0
    refine zx hi (h2.ends (zT.of (r:=(.tup [.agg [.int .i64 0,.int .i64 0,.str []],.int .i64 6],[])) ?_)) ow rfl;simp only[O3,Q8,zA,zl,Prod.eta,hc,hn,e0,zG,if_true,if_false]
   ·rw[if_neg h0];have e0:((getD row (toNat (bT p src)) (zi zf)).1==0)=Q4:=by simpa using h0
    refine zx hi (h2.ends (zT.of (r:=(.tup [.agg [.int .i64 (getD row (toNat (bT p src)) (zi zf)).1,.int .i64 (getD row (toNat (bT p src)) (zi zf)).2.1,.str (getD row (toNat (bT p src)) (zi zf)).2.2],.int .i64 0],[])) ?_)) ow rfl;simp only[O3,Q8,zA,zl,Prod.eta,hc,hn,e0,zG,if_true,if_false]
  ·rw[if_pos (.inr λq=>h1 λi hi _=>q _ (bq hi))];exact zx hi h2 ow rfl
 ·rw[if_pos (.inl hlen)];have e:((row.length:Int)!=((length (getD src 0 (zi zh)).1.2.1:Nat):Int))=Q3:=by
   rw[bne_iff_ne];exact λq=>hlen (by exact_mod_cast q)
  refine zN (r:=(.tup [.agg [.int .i64 0,.int .i64 0,.str []],.int .i64 1],[])) ?_ rfl;simp only[VE,zl,Prod.eta,Q8,c1,c2,hi0,ld,aN,nK,if_true];exact if_pos e
theorem I0(at':Int)(rows:List (List (Sem zf))):∀L:List (Sem zf),L.Nodup->(∀u∈L,u.1≠0)->
  (L.map λu=>(rows.filter (uS at' u)).length).sum+(rows.filter λrow:List (Sem zf)=>!L.any λu:Sem zf=>uS at' u row).length=rows.length
 |[],_,_=>by simp
 | u :: L,hn,h0=>by
  rw[List.nodup_cons]at hn;have ih:=I0 at' rows L hn.2 λx hx=>h0 x (sL _ hx)
  rw[jj,List.sum_cons];have hs:(rows.filter (uS at' u)).length+(rows.filter λrow:List (Sem zf)=>!(u::L).any λu:Sem zf=>uS at' u row).length=(rows.filter λrow:List (Sem zf)=>!L.any λu:Sem zf=>uS at' u row).length:=by
   clear ih
   induction rows with
   |nil=>rfl
   | cons row r ih=>
    simp only[List.filter_cons,List.any_cons];cases h1:uS at' u row with
    | true=>
     have h2:(L.any λu:Sem zf=>uS at' u row)=Q4:=by
      rw[List.any_eq_false];intro v hv hi;have e1:=(m7.1 h1).1;have e2:=(m7.1 hi).1;exact hn.1 (by rw[<-e1,e2];exact hv)
     simp only[h2,Bool.or_false,fa,jI,if_true,zG,if_false,eZ]at ih⊢;simp only[List.any_cons]at ih;omega
    | false=>
     simp only[Bool.false_or,zG,if_false];simp only[List.any_cons]at ih;cases(L.any λu:Sem zf=>uS at' u row)with
     |true=>simpa using ih
     | false=>
      simp only[jI,if_true,eZ];omega
  omega
section
variable {db:List (Sem zh)} {p:Sem zz}
theorem bu.ne0(h:bu db p){u:Sem zf}(hu:u∈bj p (aj db p)):u.1≠0:=((lh λ_ hx=>h.may hx).2 u).1 hu |>.2
theorem bu.rise(h:bu db p):(bj p (aj db p)).Pairwise xA:=(lh λ_ hx=>h.may hx).1
theorem bu.nodup(h:bu db p):(bj p (aj db p)).Nodup:=by
 unfold List.Nodup;exact h.rise.imp λ{a b} hab(e:a=b)=>gI (a:=b) (by rw[e]at hab;exact hab)
theorem bu.of(h:bu db p){row:List (Sem zf)}(hl:row.length<=1000):TM p (aj db p) row=Q1 ((YQ p (aj db p) (eK p (aj db p)) row).1,(YQ p (aj db p) (eK p (aj db p)) row).2,()):=by
 have:=zcJ (row:=row) h.go h.pc.1 hl (λe=>by
  rw[h.pc.2];unfold zM;rw[aD];have h1:=h.col.1;have h2:=h.col.2;have e':length row=length (jy db p).1.2.1:=e;exact⟨zt h1,zt ow⟩)
 rwa [h.pc.2]at this
theorem bu.row(h:bu db p){row:List (Sem zf)}(hr:row∈(jy db p).2):YQ p (aj db p) (eK p (aj db p)) row=if(getD row (toNat (eK p (aj db p))) (zi zf)).1=0 then((0,0,[]),6)else(getD row (toNat (eK p (aj db p))) (zi zf),0):=by
 unfold YQ;rw[if_neg];rintro(q|q)
 ·exact q (h.inn row hr).2
 ·exact q (ft (h.rel.fits row hr)).2.1
theorem bu.any(h:bu db p){row:List (Sem zf)}(hr:row∈(jy db p).2):((bj p (aj db p)).any λu:Sem zf=>uS (eK p (aj db p)) u row)=!((getD row (toNat (eK p (aj db p))) (zi zf)).1==0):=by
 have hm:getD row (toNat (eK p (aj db p))) (zi zf)∈Dj p (aj db p):=bl.2 ⟨row,hr,by rw[h.pc.2]⟩;rw[iB,List.any_eq_true];constructor
 ·rintro⟨u,hu,hi⟩;obtain⟨e,h0⟩:=m7.1 hi;rw[e];simpa using h0
 ·intro h0;have h0:(getD row (toNat (eK p (aj db p))) (zi zf)).1≠0:=by simpa using h0
  exact⟨_,((lh λx hx=>h.may hx).2 _).2 ⟨hm,h0⟩,m7.2 ⟨rfl,h0⟩⟩
theorem bu.parts(h:bu db p):((bj p (aj db p)).map λu=>((jy db p).2.filter (uS (eK p (aj db p)) u)).length).sum+((jy db p).2.filter λrow:List (Sem zf)=>(getD row (toNat (eK p (aj db p))) (zi zf)).1==0).length=(jy db p).2.length:=by
 rw[<-I0 (eK p (aj db p)) (jy db p).2 (bj p (aj db p)) h.nodup (λu hu=>h.ne0 hu)];congr 2;refine List.filter_congr λrow hr=>?_
 rw[h.any hr,Bool.not_not]
end
noncomputable def Vu:=Yj.add 13 zdi
theorem If:zw Vu:=Og.add Zw
noncomputable section
abbrev zle:=mM [(9,[5,6,8,10,11]),(16,[5,6,8,10,11,12,14]),(22,[5,6,10,17])]
inductive PC where
 |h9 (l6:List (Sem zh)) (l8:List (Sem zf)) (i10:Int) (i11:Int) (z0:zn [CP.d zz])
 |h16 (l6:List (Sem zh)) (l8:List (Sem zf)) (i10:Int) (i11:Int) (l12:List (Sem zf.sl)) (i14:Int) (z0:zn [CP.d zz])
 |h22 (l6:List (Sem zh)) (i10:Int) (i17:Int) (z0:zn [CP.d zz])
abbrev e4u:PC->Nat×St
 |.h9 l6 l8 i10 i11 z0=>(9,⟨tm 152 [(5,ptr 0 0),(6,sl zh l6),(8,sl zf l8),(10,ai i10),(11,ai i11)],[AO.box (bC [] [CP.d zz] z0)]⟩)
 |.h16 l6 l8 i10 i11 l12 i14 z0=>(16,⟨tm 152 [(5,ptr 0 0),(6,sl zh l6),(8,sl zf l8),(10,ai i10),(11,ai i11),(12,sl zf.sl l12),(14,ai i14)],[AO.box (bC [] [CP.d zz] z0)]⟩)
 |.h22 l6 i10 i17 z0=>(22,⟨tm 152 [(5,ptr 0 0),(6,sl zh l6),(10,ai i10),(17,ai i17)],[AO.box (bC [] [CP.d zz] z0)]⟩)
def i4u(x0:Sem zh.sl)(x1:Sem zk):Tr (PC⊕aw):=
 let a0:=(x1.1,x1.2.1,x1.2.2.1,x1.2.2.2.1,x1.t.1,x1.t.2.1,x1.t.q.1,x1.t.q.2.1,zm x1.t.t.1,x1.t.t.2.1,x1.t.t.q.1,zm x1.t.t.q.2.1,x1.t.t.t)
 let a1:=Bc x0 a0
 let a2:=(a1.1.1,a1.1.2.1,a1.1.2.2.1,(a1.1.2.2.2.1.1,a1.1.2.2.2.1.2.1,a1.1.2.2.2.1.2.2.1,a1.1.2.2.2.1.2.2.2.1,a1.1.2.2.2.1.t.1,zm a1.1.2.2.2.1.t.2),a1.1.t)
 let a3:=TL a2 a1.2.1
 Qc (vU x0 a0)
 (br (!a1.2.2) (Qc Q3 (re (AV.bool Hi) []))
  (Qc (LM a2 a1.2.1) (br (a3.2!=0) (re (kb Q4) []) (Q9 (PC.h9 a1.2.1 a3.1 0 0 (a1.1,()))))))
def Nq:PC->Tr (PC⊕aw)
 | .h9 l6 l8 i10 i11 z0=>
  let a0:=(z0.1.1,z0.1.2.1,z0.1.2.2.1,(z0.1.2.2.2.1.1,z0.1.2.2.2.1.2.1,z0.1.2.2.2.1.2.2.1,z0.1.2.2.2.1.2.2.2.1,z0.1.2.2.2.1.t.1,zm z0.1.2.2.2.1.t.2),z0.1.t)
  let a1:=l8.getD i11.toNat (zi zf)
  let a2:=TN a0 l6 a1
  let a3:=a2.2!=0
  let a4:=(↑(length a2.1):Int)
  let a5:=a4==0
  let a6:=a1.1==0
  let a7:=Q0 (i11>0)
  let a8:=IntKind.i64.wrap (i11-1)
  let a9:=l8.getD a8.toNat (zi zf)
  let a10:=tU a9 a1
  br (Q0 (i11<(↑l8.length:Int)))
  (Qc (zM i11 l8.length) (Qc (LN a0 l6 a1) (Qc (bif a3 then Q3 else bif a5 then Q3 else zM i11 l8.length&&bif a6 then Q3 else bif a7 then zM a8 l8.length&&(zM i11 l8.length&&pd a9 a1)else Q3) (br (bif a3 then Q3 else bif a5 then Q3 else bif a6 then Q3 else bif a7 then Q0 (a10>=0)else Q4) (re (kb Q4) [])
  (Q9 (PC.h16 l6 l8 (IntKind.i64.wrap (i10+a4)) i11 a2.1 0 z0))))))
  (Q9 (PC.h22 l6 i10 0 z0))
 | .h16 l6 l8 i10 i11 l12 i14 z0=>
  let a0:=(z0.1.1,z0.1.2.1,z0.1.2.2.1,(z0.1.2.2.2.1.1,z0.1.2.2.2.1.2.1,z0.1.2.2.2.1.2.2.1,z0.1.2.2.2.1.2.2.2.1,z0.1.2.2.2.1.t.1,zm z0.1.2.2.2.1.t.2),z0.1.t)
  let a1:=l12.getD i14.toNat (zi zf.sl)
  let a2:=uOf a0 l6 a1
  let a3:=l8.getD i11.toNat (zi zf)
  br (Q0 (i14<(↑l12.length:Int)))
  (Qc (zM i14 l12.length) (Qc (WL a0 l6 a1) (Qc (zM i11 l8.length) (br (bif !(a2.1.1==a3.1&&(a2.1.2.1==a3.2.1&&(a2.1.2.2==a3.2.2&&Q3)))then Q3 else a2.2!=0) (re (kb Q4) []) (Q9 (PC.h16 l6 l8 i10 i11 l12 (IntKind.i64.wrap (i14+1)) z0))))))
  (Q9 (PC.h9 l6 l8 i10 (IntKind.i64.wrap (i11+1)) z0))
 | .h22 l6 i10 i17 z0=>
  let a0:=zM 0 l6.length
  let a1:=l6.getD (toNat 0) (zi zh)
  let a2:=(↑(length a1.2):Int)
  let a3:=(z0.1.1,z0.1.2.1,z0.1.2.2.1,(z0.1.2.2.2.1.1,z0.1.2.2.2.1.2.1,z0.1.2.2.2.1.2.2.1,z0.1.2.2.2.1.2.2.2.1,z0.1.2.2.2.1.t.1,zm z0.1.2.2.2.1.t.2),z0.1.t)
  let a4:=getD a1.2 i17.toNat (zi zf.sl)
  let a5:=uOf a3 l6 a4
  let a6:=IntKind.i64.wrap (i17+1)
  let a7:=i10==a2
  Qc a0
  (br (Q0 (i17<a2)) (Qc a0 (Qc (zM i17 (length a1.2)) (Qc (WL a3 l6 a4) (br (a5.2==6) (Q9 (PC.h22 l6 (IntKind.i64.wrap (i10+1)) a6 z0)) (Q9 (PC.h22 l6 i10 a6 z0)))))) (Qc (a0&&bif a7 then Hj else Q3) (re (AV.bool (bif a7 then Hi else Q4)) [])))
def xY(x0:Sem zh.sl)(x1:Sem zk):=al [Q7] Nq 100000000 (i4u x0 x1)
def F4u:=FT [zh.sl,zk] [Q7] λx=>xY x.1 x.2.1
theorem zeU:FK 4 F4u:=If.T1 (f:=Tryz.f4) (keep:=zle) (e:=e4u)
end
end Cad
