/- Units: all: the hand part. Units: all: the contract. Units: all, plans. Units: a statement's plan, and its sources. Numbers of one more type. -/
import Derived.Test.YtjfdpfapcmcncaaGreatDoorL17
import Derived.Test.YtjfdpfapcmcncaaGreatDoorL09
import Derived.Test.YtjfdpfapcmcncaaGreatDoorL16
import Derived.Test.YtjfdpfapcmcncaaGreatDoorL14
namespace Cad
open Go Go.Proofs Go.Sort
open Tr renaming chk→Qc,val→Q8
open AV renaming nils→Qb
open Sh renaming bool→Q7,str→Q6,expr→Q5
open Bool renaming false→Q4,true→Q3
open Option renaming none→Q2,some→Q1
open Decidable renaming decide→Q0
open Int (toNat)
open List (getD length)
open Tr (chk br re)
open AV (nils agg tup ptr kb str sl)
set_option maxHeartbeats 4000000
set_option maxRecDepth 100000
theorem U9:∀l:List Value,l.length=46->∃v0 v1 v2 v3 v4 v5 v6 v7 v8 v9 v10 v11 v12 v13 v14 v15 v16 v17 v18 v19 v20 v21 v22 v23 v24 v25 v26 v27 v28 v29 v30 v31 v32 v33 v34 v35 v36 v37 v38 v39 v40 v41 v42 v43 v44 v45,l=[v0,v1,v2,v3,v4,v5,v6,v7,v8,v9,v10,v11,v12,v13,v14,v15,v16,v17,v18,v19,v20,v21,v22,v23,v24,v25,v26,v27,v28,v29,v30,v31,v32,v33,v34,v35,v36,v37,v38,v39,v40,v41,v42,v43,v44,v45]:=by
 intro l h
 match l,h with
 |v0::v1::v2::v3::v4::v5::v6::v7::v8::v9::v10::v11::v12::v13::v14::v15::v16::v17::v18::v19::v20::v21::v22::v23::v24::v25::v26::v27::v28::v29::v30::v31::v32::v33::v34::v35::v36::v37::v38::v39::v40::v41::v42::v43::v44::v45::[],_=>exact⟨v0,v1,v2,v3,v4,v5,v6,v7,v8,v9,v10,v11,v12,v13,v14,v15,v16,v17,v18,v19,v20,v21,v22,v23,v24,v25,v26,v27,v28,v29,v30,v31,v32,v33,v34,v35,v36,v37,v38,v39,v40,v41,v42,v43,v44,v45,rfl⟩
theorem Rq(n:Int)(w:World)(v0 v1 v2 v3 v4 v5 v6 v7 v8 v9 v10 v11 v12 v13 v14 v15 v16 v17 v18 v21 v22 v23 v24 v25 v26 v27 v28 v29 v30 v31 v32 v33 v34 v35 v36 v37 v38 v39 v40 v41 v42 v43 v44 v45:Value):
  CS.wp Tryz.prog (λe a w'=>e=.exit 0/\w'=w/\∃ts:List Value,a=⟨ts.toArray,[]⟩/\ts.length=46/\ts[6]?=Q1 v6) {tmps:=#[v0,v1,v2,v3,v4,v5,v6,v7,v8,v9,v10,v11,v12,v13,v14,v15,v16,v17,v18,(Value.int .i64 n),(Value.int .i64 n),v21,v22,v23,v24,v25,v26,v27,v28,v29,v30,v31,v32,v33,v34,v35,v36,v37,v38,v39,v40,v41,v42,v43,v44,v45],defers:=[]} w:=by
 simp only[CS,Tryz.f77]
 go_wp2
theorem zny:Tryz.f77.results=#[.tmp 4]:=kw
theorem RR{tmps:Array Value}{w:World}{v:Value}(h:tmps[4]?=Q1 v):(results Tryz.f77 tmps).run Tryz.prog w=.ok v w:=by
 have hg:tmps.getD 4 undef=v:=by rw[o5,h];rfl
 rw[uc,zny];simp[xW,hg]
theorem Vp:dN (0,0,[])=.agg #[.int .i64 0,.int .i64 0,.string ⟨#[]⟩]:=rfl
theorem Zx{w':World}{U:Nat->Prop}{v:Value}{base:Nat}(hU:∀b,U b->b<base){l:List V3}[Inhabited V3](hok:∀x∈l,iX x.1)(hlen:l.length<=1000){m:List V3}(hp:List.Perm m l)(hrow:w'.ownsRow base 27 3 v l.length (m.flatMap j0)):
  Rv w' U (λ_=>Q2) (.sl zf (m.map (·.1))) v:=by
 have hml:m.length=l.length:=hp.length_eq;rcases hrow.2 with⟨rfl,h0⟩|⟨g,cap,cur,rfl,hbg,hgb,hnc,hcm,hcs,htk⟩
 ·have:m=[]:=List.length_eq_zero_iff.1 ow;rw[this];exact .sl0 zf _ _
 ·have hL:(m.map (·.1)).length=l.length:=by simp[hml]
  rw[<-hL];refine .sl zf _ g 0 cap (λi j=>(cur[i*3+j]?).getD undef) ow um (dU.1 hgb).1 (λh=>by have:=hU g h;omega) (λi j hi hj=>?_) (λi hi j c hc=>?_)
  ·have hj:j<3:=hj;have hlt:i*3+j<cur.size:=by rw[hcs];omega
   simp[World.cell?,hgb,td hlt,show zf.size=3 from rfl]
  ·have him:i<m.length:=by simpa using hi
   have hj:j<3:=by
    have:=(dh.1 hc).1
    rwa [zW]at this
   have hf:=uM m (i*3+j) ow;rw[show(i*3+j)/3=i by omega,show(i*3+j)%3=j by omega,<-htk,List.getElem?_take_of_lt ow,sA,getElem!_pos m i him]at hf;rw[hf];simp only[dp];have hko:=hok m[i] (hp.mem_iff.1 (bG him));simp only[List.getElem_map]at hc;generalize m[i]=x at hc hko;obtain⟨⟨k,n,s⟩,hx⟩:=x
   match j,hj,hc with
   |0,_,hc=>cases hc;exact .int _ _ hko.1
   |1,_,hc=>cases hc;exact .int _ _ hko.2.1
   |2,_,hc=>cases hc;exact .str _ hko.2.2
theorem Z5{E:bW}(qp:E.P=Tryz.prog){C:fh}(hC:∀id,C.ρ0 id=Q2)(es:List ((Int×Int×zB)×Int))(hlen:es.length<=1000)(hn:(es.map (·.1)).Nodup) (hm:∀p∈es,bg p.1=Q3) (x5:Sem zg) (l18:List (Sem zf.sl)) (n:Int):
  Reach E C 77 (ac Tryz.f77 4) (Ms (.h4 x5 l18 n n es)).2 (λr h=>aM h [zf.sl] r=Q1 (pt (es.map (·.1)),())):=by
 intro b cs a w U ρ hb1 hb2 hc hW;rw[qp];rw[zfC];have hlen46:a.tmps.toList.length=46:=by rw[<-hc.tm.len];rfl
 obtain⟨⟨ts⟩,df⟩:=a;have hdf:df=[]:=hc.df;subst hdf;obtain⟨v0,v1,v2,v3,v4,v5,v6,v7,v8,v9,v10,v11,v12,v13,v14,v15,v16,v17,v18,v19,v20,v21,v22,v23,v24,v25,v26,v27,v28,v29,v30,v31,v32,v33,v34,v35,v36,v37,v38,v39,v40,v41,v42,v43,v44,v45,rfl⟩:=U9 ts hlen46;have r6:=hc.tm.rv 6 (.mp 0) v6 rfl rfl;have r19:=hc.tm.rv 19 (.int .i64 n) v19 rfl rfl;have r20:=hc.tm.rv 20 (.int .i64 n) v20 rfl rfl;have ho:bA w U ρ 0 (.vmap Q3 es):=hc.hp.ob 0;have hbk:=hc.hp.blk 0;clear hlen46;cases r19 with|int _ _ _=>
 cases r20 with|int _ _ _=>
 obtain⟨r,ents,clock,q1,q2,q3,q4,q5,q6⟩:=ho;cases r6 with|mp _ _ q7 _=>
 rw[q1]at q7;cases q7;have hrB:C.B0 r\/C.w0.heap.size<=r:=hbk r ⟨rfl,_,q1,rfl⟩;obtain⟨ents',hdel,he',hborn,hbn⟩:=Y1 (P:=Tryz.prog) (mt:=181) (kt:=27) (et:=182) Tryz.underlying181 kw (k:=(0,0,[])) ⟨by unfold cq;decide,by unfold cq;decide,sw⟩ q3 q4 q5 q6;rw[Vp]at hdel;have hrw:r<w.heap.size:=(dU.1 q3).1;obtain⟨w1,hw1⟩:∃w1:World,({w with heap:=w.heap.setIfInBounds r (.map ents' clock)}:World)=w1:=⟨_,rfl⟩;rw[hw1]at hdel;have hs1:w1.heap.size=w.heap.size:=by rw[<-hw1];simp
 have hm1:w1.heap[r]?=Q1 (.map ents' clock):=by rw[<-hw1];simp[hrw]
 have ho1:∀j,j≠r->w1.heap[j]?=w.heap[j]?:=λj hj=>by rw[<-hw1];simp[Array.getElem?_setIfInBounds_ne (Ne.symm hj)]
 have hpm:=KW he';have hdn:((wO es (0,0,[])).map (·.1)).Nodup:=hn.sublist ((JR _ _).map _);have hds:=JR es (0,0,[]);have hk:∀x∈ents'.toList,∃k,x.key=dN k/\k∈(wO es (0,0,[])).map (·.1):=λx hx=>by
  have:x.key∈ents'.toList.map (·.key):=bn.2 ⟨x,hx,rfl⟩;rw[hpm]at this;obtain⟨k,k1,k2⟩:=bn.1 this;exact⟨k,k2.symm,k1⟩
 have hsz:ents'.size<=1000:=by
  have:=congrArg length hpm;simp only[di,Array.length_toList]at this;rw[this];exact cC hds.length_le hlen
 have hinh:Inhabited V3:=⟨⟨(0,0,[]),kw⟩⟩;have hmem:∀x:Sem zf,x∈(wO es (0,0,[])).map (·.1)->bg x=Q3/\iX x/\x.1≠0:=λx hx=>by
  obtain⟨hx1,hx2⟩:=(B2 (0,0,[]) hn x).1 hx;obtain⟨p,hp,rfl⟩:=bn.1 hx1;exact⟨hm p hp,(q5 p hp).2,λh0=>hx2 (Vg (hm p hp) h0)⟩
 obtain⟨e1,a1,wx,⟨rfl,rfl,ts,rfl,htl,ht6⟩,harr⟩:=Rq n w v0 v1 v2 v3 v4 v5 (.map (Q1 r)) v7 v8 v9 v10 v11 v12 v13 v14 v15 v16 v17 v18 v21 v22 v23 v24 v25 v26 v27 v28 v29 v30 v31 v32 v33 v34 v35 v36 v37 v38 v39 v40 v41 v42 v43 v44 v45 b [.inLoop CS,.inBlock 0,.code DQ] cs;have st1:=harr [.code DQ] rfl;obtain⟨u0,u1,u2,u3,u4,u5,u6,u7,u8,u9,u10,u11,u12,u13,u14,u15,u16,u17,u18,u19,u20,u21,u22,u23,u24,u25,u26,u27,u28,u29,u30,u31,u32,u33,u34,u35,u36,u37,u38,u39,u40,u41,u42,u43,u44,u45,rfl⟩:=U9 ts htl;have hu6:u6=.map (Q1 r):=by simpa using ht6
 subst hu6
 obtain⟨e2,a2,w',⟨rfl,v,hv4,hdf,hK⟩,harr2⟩:=Z8 (λe a w'=>e=.ret/\∃v,a.tmps[4]?=Q1 v/\a.defers=[]/\Yi w1 ents' v w') (Yi w1 ents') r ents' clock wx w1 hdel hm1 hborn hbn (λx hx=>(hk x hx).imp λ_ h=>h.1) hsz
  (λv wr seen E hC h0=>QE hC h0 (λp hp=>by
   obtain⟨s1,s2⟩:=hC.sub p hp;obtain⟨k,k1,k2⟩:=hk _ s1;rw[s2]at k1;exact pD k1▸(hmem k k2).1) hsz) (λv w' a hS h4 hd=>⟨rfl,v,h4,hd,hS⟩) u0 u1 u2 u3 u4 u5 u7 u8 u9 u10 u11 u12 u13 u14 u15 u16 u17 u18 u19 u20 u21 u22 u23 u24 u25 u26 u27 u28 u29 u30 u31 u32 u33 u34 u35 u36 u37 u38 u39 u40 u41 u42 u43 u44 u45 b [] cs
 obtain⟨todo,hst⟩:=harr2;obtain⟨E,l,sub,all,nd,hl,hrow,hbel⟩:=hK;have hkeys:=Rk he' hdn (λp hp=>(hmem _ (bn.2 ⟨p,hp,rfl⟩)).1) (λp hp=>(hmem _ (bn.2 ⟨p,hp,rfl⟩)).2.2) sub all nd hbn hl;have hall:pt ((wO es (0,0,[])).map (·.1))=pt (es.map (·.1)):=tf (λx hx=>(hmem x hx).1) (λx hx=>by obtain⟨p,hp,rfl⟩:=bn.1 hx;exact hm p hp) λx hx=>by
  rw[B2 (0,0,[]) hn x];exact⟨λh=>h.1,λh=>⟨h,λe=>hx (by rw[e])⟩⟩
 have hlE:∀x∈l,iX x.1:=λx hx=>by
  have:x.1∈E.map (·.1):=by rw[<-hl];exact bn.2 ⟨x,hx,rfl⟩
  obtain⟨p,hp,e⟩:=bn.1 this;obtain⟨s1,s2⟩:=sub p hp;obtain⟨k,k1,k2⟩:=hk _ s1;rw[s2]at k1;rw[<-e];exact pD k1▸(hmem k k2).2.1
 have hle:l.length<=1000:=by
  have h1:l.length=E.length:=by simpa using congrArg length hl
  have h2:(E.map λp=>p.2.born).length<=(ents'.toList.map (·.born)).length:=KQ nd λx hx=>by
   obtain⟨p,hp,rfl⟩:=bn.1 hx;exact bn.2 ⟨p.2,(sub p hp).1,rfl⟩
  simp only[di,Array.length_toList]at h2;omega
 have hold:∀j,j<wx.heap.size->j≠r->w'.heap[j]?=wx.heap[j]?:=λj hj hjr=>by rw[hbel.block j ow,ho1 j hjr]
 have hsz':wx.heap.size<=w'.heap.size:=by have:=hbel.size;omega
 have hrv:=Zx (U:=U) (base:=w1.heap.size) (λb hb=>by have:=hW.ub b hb;omega) hlE hle (List.mergeSort_perm l _) hrow;rw[hkeys,hall]at hrv;refine⟨.returned v,w',{b.at a2 todo with mode:=.returning},⟨v,.sl zf (pt (es.map (·.1))),[],U,λ_=>Q2,rfl,?_,hrv,⟨λid=>by simp[bA],λ_ _ _ h=>by simp[aj]at h,λ_ _ h=>by simp[aj]at h⟩,λ_ _=>rfl,λid v h=>(by rw[hC id]at h;cases h),?_⟩,mF st1 hst,hb1,rfl,hdf,hb2,Tryz.f77,?_,RR hv4⟩
 ·rfl
 ·refine⟨hW.ext.trans ⟨hsz',?_,?_,?_,λx hx=>?_⟩,λj hj hB=>?_,λj hj=>ia (hW.ub j hj) hsz',hW.u1,hW.u2,λg=>(hW.gl g).mono hsz' (λj hj hu=>hold j hj λe=>hu (e▸q2)) (λ_ _ h=>h) (λ_ _ h=>h)⟩
  ·rw[hbel.os,<-hw1]
  ·rw[hbel.output,<-hw1]
  ·rw[hbel.tape,<-hw1]
  ·by_cases hxr:x.block=r
   ·have h1:w'.heap[x.block]?=Q1 (.map ents' clock):=by rw[hxr,hbel.block r ow,hm1]
    have h2:wx.heap[x.block]?=Q1 (.map ents clock):=by rw[hxr,q3]
    simp[World.frozen?,h1,h2]
   ·exact BD (hold _ hx hxr)
  ·rw[hold j (ia hj hW.ext.sz) λe=>hrB.elim (λh=>hB (e▸h)) (λh=>by omega)];exact hW.same j hj hB
 ·show Tryz.prog.funcs[b.fn]?=Q1 Tryz.f77;rw[hb1];kernel_rfl
theorem Lu{σ:Type}{E:bW}{C:fh}{k:FuncId}{f:Func}{Q:AV->List AO->Prop}{m n0:Nat}(hE:zt E)(hf:zI E.P k f m)(hC:∀id,n0<=id->C.ρ0 id=Q2){keep:Nat->aN}{gas:Nat}{e:σ->Nat×St}{K:List Item}{st:St}{i:Tr (σ⊕az)}
  (hgo:run E n0 keep f.results.toList gas K st=i.map (lf f e)) {s:σ} (hv:i.val=Q1 (.inl s)) (h:Reach E C k (ac f (e s).1) (e s).2 Q):Reach E C k K st Q:=
 ng hE hf hC (l:=lf f e (.inl s)) (by rw[hgo,Tr.val_map,hv];rfl) h
noncomputable def Jd(x0:Sem zA)(x1:List (Sem zh)):List (Sem zf):=(getD x1 0 (zj zh)).2.map λrow:List (Sem zf)=>getD row (toNat (fx x0 x1)) (zj zf)
noncomputable def GR(x0:Sem zA)(x1:List (Sem zh)):Bool:=rZ x0 x1&&(zO 0 (length x1)&&(Q0 (length (getD x1 0 (zj zh)).2<=1000)&&List.all (getD x1 0 (zj zh)).2 λrow:List (Sem zf)=>zO (fx x0 x1) (length row)&&bg (getD row (toNat (fx x0 x1)) (zj zf))))
noncomputable def ez(x0:Sem zA)(x1:List (Sem zh)):List (Sem zf):=pt (Jd x0 x1)
noncomputable def zhP:=zN [zA,zh.sl] [zf.sl] (λx=>GR x.1 x.2.1) λx=>(ez x.1 x.2.1,())
theorem GW{k:Int×Int×zB}{n:Int}:∀{es:List ((Int×Int×zB)×Int)},(kr es k n).map (·.1)=if k∈es.map (·.1)then es.map (·.1)else es.map (·.1)++[k]
 |[]=>rfl
 | p::r=>by
  show(bif k==p.1 then(k,n)::r else p::kr r k n).map (·.1)=_;by_cases h:k=p.1
  ·simp[h]
  ·have hb:(k==p.1)=Q4:=by simpa using h
   rw[hb,aq,kc,GW (es:=r),kc];by_cases hr:k∈r.map (·.1)
   ·rw[if_pos hr,if_pos (by simp only[cr];exact .inr hr)]
   ·rw[if_neg hr,if_neg (by simp only[cr];exact λe=>e.elim h hr)];rfl
theorem Zh{x0:Sem zA}{x1:List (Sem zh)}(h1:rZ x0 x1=Q3)(h2:zO 0 (length x1)=Q3):(zfK x0 x1).val=Q1 (.inl (.h4 (fx x0 x1) (getD x1 0 (zj zh)).2 (length (getD x1 0 (zj zh)).2:Int) 0 [])):=by
 unfold zfK;simp only[zk];show(Qc (rZ x0 x1) (Qc (zO 0 (length x1)) _)).val=_;rw[h1,h2];rfl
theorem zdF:FK 77 zhP:=by
 refine aJ (E:=yF) (f:=Tryz.f77) (bR kw) λx hx C hC=>?_
 obtain⟨x0,x1,u⟩:=x;have hf:zI yF.P 77 Tryz.f77 2:=bR kw;have hgo:∀x,run yF 0 zcu Tryz.f77.results.toList 400 (bw Tryz.f77) (bd Tryz.f77.ntmps (jx [Q1 zA,Q1 zh.sl] x) [])=(zfK x.1 x.2.1).map (lf Tryz.f77 Ms):=by intro x;kernel_rfl
 have hon:∀s,run yF 0 zcu Tryz.f77.results.toList 400 (ac Tryz.f77 (Ms s).1) (Ms s).2=(znF s).map (lf Tryz.f77 Ms):=by intro s;cases s<;>kernel_rfl
 simp only[GR,aE,aO,ei]at hx;obtain⟨h1,h2,h3,h4⟩:=hx;generalize hrows:(getD x1 0 (zj zh)).2=rows at h3 h4;refine Lu xm hf (λid _=>hC id) (hgo (x0,x1,u)) (Zh h1 h2) ?_;rw[hrows]
 have key:∀(m i:Nat)(es:List ((Int×Int×zB)×Int)),rows.length-i=m->i<=rows.length->(es.map (·.1)).Nodup->es.length<=i->(∀x,x∈es.map (·.1)↔x∈(rows.take i).map λrow:List (Sem zf)=>getD row (toNat (fx x0 x1)) (zj zf))->
   Reach yF C 77 (ac Tryz.f77 (Ms (.h4 (fx x0 x1) rows rows.length i es)).1) (Ms (.h4 (fx x0 x1) rows rows.length i es)).2 λr h=>aM h [zf.sl] r=Q1 (ez x0 x1,()):=by
  intro m
  induction m with
  | zero=>
   intro i es hm hi hn hl hmem;obtain rfl:i=rows.length:=by omega
   rw[lN]at hmem;have hmay:∀x,x∈(rows.map λrow:List (Sem zf)=>getD row (toNat (fx x0 x1)) (zj zf))->bg x=Q3:=λx hx=>by
    obtain⟨row,hr,rfl⟩:=bn.1 hx;exact(h4 row hr).2
   have:=Z5 (E:=yF) rfl hC es ow hn (λp hp=>hmay _ ((hmem _).1 (bn.2 ⟨p,hp,rfl⟩))) (fx x0 x1) rows rows.length;have e:ez x0 x1=pt (es.map (·.1)):=by
    unfold ez Jd;rw[hrows];exact tf hmay (λx hx=>hmay x ((hmem x).1 hx)) λx _=>(hmem x).symm
   rw[e];exact this
  | succ m ih=>
   intro i es hm hi hn hl hmem;have hlt:i<rows.length:=by omega
   have hat:=h4 rows[i] (bG hlt);have hk:=GW (k:=getD rows[i] (toNat (fx x0 x1)) (zj zf)) (n:=0) (es:=es);refine Lu xm hf (λid _=>hC id) (hon (.h4 (fx x0 x1) rows rows.length i es)) (s:=.h4 (fx x0 x1) rows rows.length ((i+1:Nat):Int) (kr es (getD rows[i] (toNat (fx x0 x1)) (zj zf)) 0)) ?_ (ih (i+1) _ ow ow ?_ ?_ ?_)
   ·have e1:Q0 ((i:Int)<(rows.length:Int))=Q3:=by simpa using hlt
    have e2:zO (i:Int) rows.length=Q3:=by simp[zO];omega
    have e3:IntKind.i64.wrap ((i:Int)+1)=((i+1:Nat):Int):=by
     exact zr i um
    have e4:getD rows (toNat (i:Int)) (zj zf.sl)=rows[i]:=af rows _ hlt;simp only[znF,e1,e2,e3,e4,hat.1,Q8,if_true]
   ·rw[hk];split
    ·exact hn
    ·rename_i hin;exact List.nodup_append.2 ⟨hn,sw,λa ha b hb e=>hin (by rw[gn]at hb;rw[<-hb,<-e];exact ha)⟩
   ·have:=congrArg length hk;simp only[di]at this;rw[this];split
    ·simp;omega
    ·simp;omega
   ·intro x;rw[hk,List.take_succ_eq_append_getElem hlt,iA,cQ,<-hmem x];simp only[kc,List.map_nil,gn];split
    ·rename_i hin;exact⟨.inl,λh=>h.elim id λe=>e▸hin⟩
    ·rw[cQ,gn]
 exact key rows.length 0 [] ow ow sw sw sw
noncomputable def zbY:=yF.add 77 zhP
theorem qP:zt zbY:=xm.add zdF
open Go Go.Proofs
noncomputable section
def zkZ(x0:Sem zA)(x1:Sem zh.sl):Tr (Empty⊕az):=
 let a0:=(x0.1,x0.2.1,x0.2.2.1,(x0.2.2.2.1.1,x0.2.2.2.1.2.1,x0.2.2.2.1.2.2.1,x0.2.2.2.1.2.2.2.1,x0.2.2.2.1.t.1,zm x0.2.2.2.1.t.2),x0.t)
 Qc (KT a0 x1)
 (br (VS a0 x1 !=0) (re (tup [Qb,ai 1]) [])
  (Qc (GR a0 x1) (re (tup [sl zf (ez a0 x1),ai 0]) [])))
def Jc(x0:Sem zA)(x1:Sem zh.sl):=ah [zf.sl,zg] t0 100000000 (zkZ x0 x1)
def N1(x0:Sem zA)(x1:Sem zh.sl):=(Jc x0 x1).isSome
def WV(x0:Sem zA)(x1:Sem zh.sl):=o2 (Jc x0 x1)
def zhf:=FT [zA,zh.sl] [zf.sl,zg] λx=>Jc x.1 x.2.1
theorem zc2:FK 33 zhf:=qP.T1 (f:=Tryz.f33) (keep:=k0) (e:=e0)
def zfI(x0:Sem zA)(x1:Sem zh.sl):Tr (Empty⊕az):=
 let a0:=(x0.1,x0.2.1,x0.2.2.1,(x0.2.2.2.1.1,x0.2.2.2.1.2.1,x0.2.2.2.1.2.2.1,x0.2.2.2.1.2.2.2.1,x0.2.2.2.1.t.1,zm x0.2.2.2.1.t.2),x0.t)
 let a1:=V9 a0 x1
 Qc (Nq a0 x1)
 (re
  (tup [agg [str x0.1,str x0.2.1,str x0.2.2.1,str x0.2.2.2.1.1,sl zi x0.2.2.2.1.2.1,ai x0.2.2.2.1.2.2.1,sl zg x0.2.2.2.1.2.2.2.1,sl zo x0.2.2.2.1.t.1,str (ze.op x0.2.2.2.1.t.2),ai (ze.v x0.2.2.2.1.t.2).1,ai (ze.v x0.2.2.2.1.t.2).2.1,str (ze.v x0.2.2.2.1.t.2).2.2,
  str (ze.s x0.2.2.2.1.t.2),sl Q5 (ze.l x0.2.2.2.1.t.2),sl zg x0.t.1,ai x0.t.2],sl zh a1.1,AV.bool a1.2])
  [])
def AN(x0:Sem zA)(x1:Sem zh.sl):=ah [zA,zh.sl,Q7] t0 100000000 (zfI x0 x1)
def HH(x0:Sem zA)(x1:Sem zh.sl):=(AN x0 x1).isSome
def M9(x0:Sem zA)(x1:Sem zh.sl):=o3 (AN x0 x1)
def zhJ:=FT [zA,zh.sl] [zA,zh.sl,Q7] λx=>AN x.1 x.2.1
theorem zdy:FK 20 zhJ:=qP.T1 (f:=Tryz.f20) (keep:=k0) (e:=e0)
abbrev zlB:=lW [(3,[0,3,4])]
inductive Md where
 |h3 (l0:List (Sem zg)) (i4:Int) (ja0:List UInt8) (ja1:List (Sem zi)) (ja2:Int) (ja5:List UInt8) (ja6:Int) (ja7:Int) (ja8:List UInt8) (ja9:List UInt8)
 |h3b (l0:List (Sem zg)) (i4:Int) (ja0:List UInt8) (ja1:List (Sem zi)) (ja2:Int) (ja5:List UInt8) (ja6:Int) (ja7:Int) (ja8:List UInt8) (ja9:List UInt8) (lh_1:List (Sem zf.sl))
abbrev zoh:Md->Nat×St
 |.h3 l0 i4 ja0 ja1 ja2 ja5 ja6 ja7 ja8 ja9=>(3,⟨tm 31 [(0,sl zg l0),(3,ptr 0 0),(4,ai i4)],[AO.box [str ja0,sl zi ja1,ai ja2,Qb,Qb,str ja5,ai ja6,ai ja7,str ja8,str ja9,Qb,Qb]]⟩)
 |.h3b l0 i4 ja0 ja1 ja2 ja5 ja6 ja7 ja8 ja9 lh_1=>(3,⟨tm 31 [(0,sl zg l0),(3,ptr 0 0),(4,ai i4)],[AO.box [str ja0,sl zi ja1,ai ja2,Qb,Qb,str ja5,ai ja6,ai ja7,str ja8,str ja9,Qb,AV.vec 1],AO.vec zf.sl lh_1]⟩)
def zpG(x0:Sem zg.sl):Tr (Md⊕az):=
 Tr.to (Md.h3 x0 0 [118] [([110],1,Q3),([114],1,Q4)] 0 [] 0 0 [] [])
def zqj:Md->Tr (Md⊕az)
 | .h3 l0 i4 ja0 ja1 ja2 ja5 ja6 ja7 ja8 ja9=>
  let a0:=[[(1,i4,[]),(1,l0.getD i4.toNat (zj zg),[])]]
  br (Q0 (i4<(↑l0.length:Int)))
  (Qc (zO i4 l0.length) (Qc (Q0 (a0.length<=1073741824)) (Tr.to (Md.h3b l0 (IntKind.i64.wrap (i4+1)) ja0 ja1 ja2 ja5 ja6 ja7 ja8 ja9 a0))))
  (re (sl zh [((ja0,ja1,ja2,[],[],ze.mk ja5 (ja6,ja7,ja8) ja9 []),[])]) [])
 | .h3b l0 i4 ja0 ja1 ja2 ja5 ja6 ja7 ja8 ja9 lh_1=>
  let a0:=[[(1,i4,[]),(1,l0.getD i4.toNat (zj zg),[])]]
  br (Q0 (i4<(↑l0.length:Int)))
  (Qc (zO i4 l0.length) (Qc (Q0 (lh_1.length+a0.length<=1073741824)) (Tr.to (Md.h3b l0 (IntKind.i64.wrap (i4+1)) ja0 ja1 ja2 ja5 ja6 ja7 ja8 ja9 (lh_1++a0)))))
  (re (sl zh [((ja0,ja1,ja2,[],[],ze.mk ja5 (ja6,ja7,ja8) ja9 []),lh_1)]) [])
def zge(x0:Sem zg.sl):=ah [zh.sl] zqj 100000000 (zpG x0)
def zhL:=FT [zg.sl] [zh.sl] λx=>zge x.1
theorem zdA:FK 22 zhL:=qP.T1 (f:=Tryz.f22) (keep:=zlB) (e:=zoh)
def zb1:=zbY.addL [(33,zhf),(20,zhJ),(22,zhL)]
theorem FU:zt zb1:=qP.addL<|fc zc2<|fc zdy<|fc zdA<|ja
end
noncomputable def i7u(x0:Sem zh.sl)(x1:Sem zl):Tr (Empty⊕az):=
 let a0:=(x1.1,x1.2.1,x1.2.2.1,x1.2.2.2.1,x1.t.1,x1.t.2.1,x1.t.q.1,x1.t.q.2.1,zm x1.t.t.1,x1.t.t.2.1,x1.t.t.q.1,zm x1.t.t.q.2.1,x1.t.t.t)
 let a1:=UW a0
 let a2:=(a1.1,a1.2.1,a1.2.2.1,a1.2.2.2.1,a1.t.1,a1.t.2.1,a1.t.q.1,a1.t.q.2.1,zm a1.t.t.1,a1.t.t.2.1,a1.t.t.q.1,zm a1.t.t.q.2.1,a1.t.t.t)
 let a3:=V7 (Ge x0) a2
 let a4:=(a3.1.1,a3.1.2.1,a3.1.2.2.1,(a3.1.2.2.2.1.1,a3.1.2.2.2.1.2.1,a3.1.2.2.2.1.2.2.1,a3.1.2.2.2.1.2.2.2.1,a3.1.2.2.2.1.t.1,zm a3.1.2.2.2.1.t.2),a3.1.t)
 let a5:=M9 a4 (Ge x0)
 Qc (M8 x0)
 (Qc (M5 a0)
  (Qc (Np (Ge x0) a2) (br (a3.2!=0) (re (tup [agg [str [],str [],str [],str [],Qb,ai 0,Qb,Qb,str [],ai 0,ai 0,str [],str [],Qb,Qb,ai 0],Qb,kb Q4]) []) (Qc (HH a4 (Ge x0)) (re (tup [agg
  [str a5.1.1,str a5.1.2.1,str a5.1.2.2.1,str a5.1.2.2.2.1.1,sl zi a5.1.2.2.2.1.2.1,ai a5.1.2.2.2.1.2.2.1,sl zg a5.1.2.2.2.1.2.2.2.1,sl zo a5.1.2.2.2.1.t.1,str (ze.op a5.1.2.2.2.1.t.2),ai (ze.v a5.1.2.2.2.1.t.2).1,ai (ze.v a5.1.2.2.2.1.t.2).2.1,
  str (ze.v a5.1.2.2.2.1.t.2).2.2,str (ze.s a5.1.2.2.2.1.t.2),sl Q5 (ze.l a5.1.2.2.2.1.t.2),sl zg a5.1.t.1,ai a5.1.t.2],sl zh a5.2.1,AV.bool a5.2.2]) [])))))
noncomputable def qX(x0:Sem zh.sl)(x1:Sem zl):=ah [zA,zh.sl,Q7] t0 100000000 (i7u x0 x1)
noncomputable def xz(x0:Sem zh.sl)(x1:Sem zl):=(qX x0 x1).isSome
noncomputable def CR(x0:Sem zh.sl)(x1:Sem zl):=o3 (qX x0 x1)
noncomputable def F7u:=FT [zh.sl,zl] [zA,zh.sl,Q7] λx=>qX x.1 x.2.1
theorem zjG:FK 6 F7u:=FU.T1 (f:=Tryz.f6) (keep:=k0) (e:=e0)
noncomputable def OD:=zb1.add 6 F7u
theorem xn:zt OD:=FU.add zjG
noncomputable def Hr:bW:={OD with sh:=λt=>if t=2 then Q1 (.int .i64)else OD.sh t}
theorem kX:zt Hr where
 sh:=λt e h=>by
  have h':(if t=2 then Q1 (.int .i64)else OD.sh t)=Q1 e:=h;split at h'
  ·rename_i ht;subst ht;cases h';exact LL kw
  ·exact xn.sh t e h'
 fs:=xn.fs
 mix:=xn.mix
noncomputable section
def zil:zV:=bh (List.replicate 1 Q2) (fB Hr Tryz.f123 (List.replicate 1 Q2))
theorem zef:FK 123 zil:=cd _ kX (bR kw)
def ziq:zV:=bh (List.replicate 3 Q2) (fB Hr Tryz.f125 (List.replicate 3 Q2))
theorem zej:FK 125 ziq:=cd _ kX (bR kw)
abbrev zlY:=lW [(2,[0,3,7,8])]
inductive P5 where
 |h2 (l0:List (Sem zf)) (i7:Int) (i8:Int) (z0:zn [CP.d zf])
abbrev zow:P5->Nat×St
 |.h2 l0 i7 i8 z0=>(2,⟨tm 19 [(0,sl zf l0),(3,ptr 0 0),(7,ai i7),(8,ai i8)],[AO.box (bF [] [CP.d zf] z0)]⟩)
def zlk(x0:Sem zf.sl)(x1:Sem zf):Tr (P5⊕az):=
 Tr.to (P5.h2 x0 (↑(length x0):Int) 0 (x1,()))
def RY:P5->Tr (P5⊕az)
 | .h2 l0 i7 i8 z0=>
  let a0:=l0.getD i8.toNat (zj zf)
  br (Q0 (i8<i7))
  (Qc (zO i8 l0.length) (br (z0.1.1==a0.1&&(z0.1.2.1==a0.2.1&&(z0.1.2.2==a0.2.2&&Q3))) (re (ai i8) []) (Tr.to (P5.h2 l0 i7 (IntKind.i64.wrap (i8+1)) z0))))
  (re (ai (-1)) [])
def PR(x0:Sem zf.sl)(x1:Sem zf):=ah [zg] RY 100000000 (zlk x0 x1)
def WY(x0:Sem zf.sl)(x1:Sem zf):=(PR x0 x1).isSome
def zgU(x0:Sem zf.sl)(x1:Sem zf):=o1 (PR x0 x1)
def zis:=FT [zf.sl,zf] [zg] λx=>PR x.1 x.2.1
theorem zel:FK 127 zis:=kX.T1 (f:=Tryz.f127) (keep:=zlY) (e:=zow)
abbrev zlw:=lW [(4,[0,1,5])]
inductive PZ where
 |h4 (l0:List (Sem zf)) (l1:List (Sem zf)) (i5:Int)
abbrev zoe:PZ->Nat×St
 |.h4 l0 l1 i5=>(4,⟨tm 26 [(0,sl zf l0),(1,sl zf l1),(5,ai i5)],[]⟩)
def zpE(x0:Sem zf.sl)(x1:Sem zf.sl):Tr (PZ⊕az):=
 br ((↑(length x0):Int)!=(↑(length x1):Int)) (re (kb Q4) []) (Tr.to (PZ.h4 x0 x1 0))
def zqi:PZ->Tr (PZ⊕az)
 | .h4 l0 l1 i5=>
  let a0:=l0.getD i5.toNat (zj zf)
  let a1:=l1.getD i5.toNat (zj zf)
  br (Q0 (i5<(↑l0.length:Int)))
  (Qc (zO i5 l0.length) (Qc (zO i5 l1.length) (br (!(a0.1==a1.1&&(a0.2.1==a1.2.1&&(a0.2.2==a1.2.2&&Q3)))) (re (kb Q4) []) (Tr.to (PZ.h4 l0 l1 (IntKind.i64.wrap (i5+1)))))))
  (re (kb Q3) [])
def Z0(x0:Sem zf.sl)(x1:Sem zf.sl):=ah [Q7] zqi 100000000 (zpE x0 x1)
def zhB:=FT [zf.sl,zf.sl] [Q7] λx=>Z0 x.1 x.2.1
theorem zdn:FK 16 zhB:=kX.T1 (f:=Tryz.f16) (keep:=zlw) (e:=zoe)
def Co:=Hr.addL [(123,zil),(125,ziq),(127,zis),(16,zhB)]
theorem nO:zt Co:=kX.addL<|fc zef<|fc zej<|fc zel<|fc zdn<|ja
end
abbrev Bg(c a b:Int)(s:zB)(l:List (Sem (Sh.sl zf)))(i:Int):St:={tmps:=[.sl (Sh.sl zf) l,.clo (.func 125) [] [.ptr 0 0,.ptr 1 0],.any,.any,.any,.any,.any,.int .i64 l.length,.int .i64 i,.any,.any,.any,.any,.any,.any,.any,.any,.any,.any],heap:=[.box [.int .i64 c],.box [.int .i64 a,.int .i64 b,.str s]]}
theorem T4(c a b:Int)(s:zB)(l:List (Sem (Sh.sl zf))):run Co 2 Ap Tryz.f124.results.toList 300 (bw Tryz.f124) (bd Tryz.f124.ntmps [.sl (Sh.sl zf) l,.clo (.func 125) [] [.ptr 0 0,.ptr 1 0]] [.box [.int .i64 c],.box [.int .i64 a,.int .i64 b,.str s]])=.ok (.head 2 (ac Tryz.f124 2) (Bg c a b s l 0)):=kw
theorem VK(c a b:Int)(s:zB)(l:List (Sem (Sh.sl zf)))(i:Int):run Co 2 Ap Tryz.f124.results.toList 300 (ac Tryz.f124 2) (Bg c a b s l i)=nX (K:=ac Tryz.f124 2) (e:=(Sh.sl zf)) l (λx=>bx x c (a,b,s)) (Bg c a b s l) [.box [.int .i64 c],.box [.int .i64 a,.int .i64 b,.str s]] i:=kw
theorem VB:zI Co.P 124 Tryz.f124 2:=by refine⟨?_,?_,?_,?_⟩<;>kernel_rfl
def zjZ:iV [Q1 (.sl (Sh.sl zf)),Q2]:=λx h=>match x,h with
 |(l,.clo (.func 125) [] [.ptr 0 0,.ptr 1 0],_),[.box [.int .i64 c],.box [.int .i64 a,.int .i64 b,.str s]]=>.ok (.int .i64 (zR (λx=>bx x c (a,b,s)) l 0),[.box [.int .i64 c],.box [.int .i64 a,.int .i64 b,.str s]])
 |_,_=>.err
def zin:zV:=bh [Q1 (.sl (Sh.sl zf)),Q2] zjZ
theorem zeh:FK 124 zin:=by
 refine dR VB λx h0 res hx C hC=>?_
 unfold zjZ at hx;split at hx
 ·rename_i l u c a b s;simp only[Tr.val_ok,bB]at hx;subst hx;refine Reach.len 0 (Sh.sl zf) l rfl λhl=>?_
  refine zE (n0:=2) nO VB hC (T4 c a b s l) ?_;exact kI l (λx=>bx x c (a,b,s)) (Bg c a b s l) nO VB hC (VK c a b s l) hl _ 0 rfl (aY _)
 ·simp at hx
noncomputable def zld(x0:Sem zf.sl)(x1:Sem zf):Tr (Empty⊕az):=
 Qc (WY x0 x1) (re (AV.bool (Q0 (zgU x0 x1>=0))) [])
noncomputable def PQ(x0:Sem zf.sl)(x1:Sem zf):=ah [Q7] t0 100000000 (zld x0 x1)
noncomputable def L0(x0:Sem zf.sl)(x1:Sem zf):=(PQ x0 x1).isSome
noncomputable def Je(x0:Sem zf.sl)(x1:Sem zf):=o1 (PQ x0 x1)
noncomputable def zhY:=FT [zf.sl,zf] [Q7] λx=>PQ x.1 x.2.1
theorem zdO:FK 79 zhY:=nO.T1 (f:=Tryz.f79) (keep:=k0) (e:=e0)
noncomputable def TO:=Co.addL [(124,zin),(79,zhY)]
theorem Cp:zt TO:=nO.addL<|fc zeh<|fc zdO<|ja
noncomputable def zlc(x0:Sem zh)(x1:Sem zf):Tr (Empty⊕az):=
 br (!eM (x0.1.1,x0.1.2.1,x0.1.2.2.1,x0.1.2.2.2.1,x0.1.t.1,zm x0.1.t.2))
 (re (ai (zR (λx=>bx x (-1) x1) x0.2 0)) [])
 (re (ai (zR (λx=>bx x x0.1.2.2.1 x1) x0.2 0)) [])
noncomputable def IA(x0:Sem zh)(x1:Sem zf):=ah [zg] t0 100000000 (zlc x0 x1)
noncomputable def NI(x0:Sem zh)(x1:Sem zf):=(IA x0 x1).isSome
noncomputable def Wr(x0:Sem zh)(x1:Sem zf):=o1 (IA x0 x1)
noncomputable def zhW:=FT [zh,zf] [zg] λx=>IA x.1 x.2.1
theorem zdM:FK 78 zhW:=Cp.T1 (f:=Tryz.f78) (keep:=k0) (e:=e0)
noncomputable def TP:=TO.add 78 zhW
theorem Cq:zt TP:=Cp.add zdM
noncomputable def Rg(x0:Sem zA)(x1:Sem zh.sl)(x2:Sem zf):Tr (Empty⊕az):=
 let a0:=(x0.1,x0.2.1,x0.2.2.1,(x0.2.2.2.1.1,x0.2.2.2.1.2.1,x0.2.2.2.1.2.2.1,x0.2.2.2.1.2.2.2.1,x0.2.2.2.1.t.1,zm x0.2.2.2.1.t.2),x0.t)
 let a1:=zO 0 (length x1)
 let a2:=getD x1 (toNat 0) (zj zh)
 let a3:=((a2.1.1,a2.1.2.1,a2.1.2.2.1,a2.1.2.2.2.1,a2.1.t.1,zm a2.1.t.2),a2.2)
 let a4:=Wr a3 x2
 let a5:=getD a2.2 (toNat a4) (zj zf.sl)
 let a6:=GR a0 x1
 let a7:=ez a0 x1
 let a8:=getD a5 (toNat x0.t.2) (zj zf)
 Qc (KT a0 x1)
 (br (VS a0 x1 !=0) (re (tup [agg [ai 0,ai 0,str []],ai 1]) [])
  (br (x0.1==gK) (Qc a1 (Qc (NI a3 x2) (br (Q0 (a4<0)) (re (tup [agg [ai 0,ai 0,str []],ai 6]) []) (Qc a1 (Qc (zO a4 (length a2.2)) (Qc (zO x0.t.2 (length a5)) (Qc a6 (Qc (L0 a7 a8)
  (br (!Je a7 a8) (re (tup [agg [ai 0,ai 0,str []],ai 6]) []) (re (tup [agg [ai a8.1,ai a8.2.1,str a8.2.2],ai 0]) [])))))))))) (Qc a6 (Qc (L0 a7 x2) (br (!Je a7 x2) (re (tup [agg [ai 0,ai 0,str []],ai 6]) [])
  (re (tup [agg [ai x2.1,ai x2.2.1,str x2.2.2],ai 0]) []))))))
noncomputable def PO(x0:Sem zA)(x1:Sem zh.sl)(x2:Sem zf):=ah [zf,zg] t0 100000000 (Rg x0 x1 x2)
noncomputable def WW(x0:Sem zA)(x1:Sem zh.sl)(x2:Sem zf):=(PO x0 x1 x2).isSome
noncomputable def zgT(x0:Sem zA)(x1:Sem zh.sl)(x2:Sem zf):=o2 (PO x0 x1 x2)
noncomputable def zhE:=FT [zA,zh.sl,zf] [zf,zg] λx=>PO x.1 x.2.1 x.2.2.1
theorem zds:FK 34 zhE:=Cq.T1 (f:=Tryz.f34) (keep:=k0) (e:=e0)
noncomputable def TQ:=TP.add 34 zhE
theorem tA:zt TQ:=Cq.add zds
noncomputable section
def Zm(x0:Sem Q5)(x1:Sem Q6):Tr (Empty⊕az):=
 let a0:=(ze.l x0).getD (toNat 0) (zj Q5)
 let a1:=!ze.op a0==ee
 let a2:=(ze.l x0).getD (toNat 1) (zj Q5)
 br (bif !ze.op x0==[61]then Q3 else(↑(ze.l x0).length:Int)!=2)
 (re (tup [agg [ai 0,ai 0,str []],kb Q4]) [])
 (Qc (zO 0 (ze.l x0).length)
  (Qc (zO 1 (ze.l x0).length) (br a1 (br (bif !ze.op a2==ee then Q3 else bif !ze.s a2==x1 then Q3 else bif !ze.op a0==mH then Q3 else(ze.v a0).1==0) (re (tup [agg [ai 0,ai 0,str []],kb Q4]) [])
  (re (tup [agg [ai (ze.v a0).1,ai (ze.v a0).2.1,str (ze.v a0).2.2],kb Q3]) [])) (br (bif a1 then Q3 else bif !ze.s a0==x1 then Q3 else bif !ze.op a2==mH then Q3 else(ze.v a2).1==0) (re (tup [agg [ai 0,ai 0,str []],kb Q4]) [])
  (re (tup [agg [ai (ze.v a2).1,ai (ze.v a2).2.1,str (ze.v a2).2.2],kb Q3]) [])))))
def Hb(x0:Sem Q5)(x1:Sem Q6):=ah [zf,Q7] t0 100000000 (Zm x0 x1)
def Ha(x0:Sem Q5)(x1:Sem Q6):=(Hb x0 x1).isSome
def dA(x0:Sem Q5)(x1:Sem Q6):=o2 (Hb x0 x1)
def Xj:=FT [Q5,Q6] [zf,Q7] λx=>Hb x.1 x.2.1
theorem Ss:FK 37 Xj:=tA.T1 (f:=Tryz.f37) (keep:=k0) (e:=e0)
def zpF(x0:Sem Q6):Tr (Empty⊕az):=
 let a0:=zj8++x0
 let a1:=zp7 a0
 Qc (Q0 (zj8.length+length x0<=1099511627776))
 (Qc (zma a0)
  (re (agg [str (ze.op a1.t.t.q.2.1),ai (ze.v a1.t.t.q.2.1).1,ai (ze.v a1.t.t.q.2.1).2.1,str (ze.v a1.t.t.q.2.1).2.2,str (ze.s a1.t.t.q.2.1),sl Q5 (ze.l a1.t.t.q.2.1)]) []))
def Zy(x0:Sem Q6):=ah [Q5] t0 100000000 (zpF x0)
def zhI:=FT [Q6] [Q5] λx=>Zy x.1
theorem zdx:FK 24 zhI:=tA.T1 (f:=Tryz.f24) (keep:=k0) (e:=e0)
def OC:=TQ.addL [(37,Xj),(24,zhI)]
theorem QZ:zt OC:=tA.addL<|fc Ss<|fc zdx<|ja
end
open Go Go.Proofs Go.RowKit
attribute [local go_sem] Oper.semAt_some
variable {w:World} {U:Nat->Prop} {ρ:Nat->Option Value} (n:Nat) (p0 p1 p2 p3 p6 p7 p8 p9 p10 p11 p12 p13 p14 p15:Value) {cl cc:Nat} {e:ze} {a:Option Addr} {c:Nat}
theorem Uc{e:ze}{name:zB}(h:Ha e name=Q3):(Xj [zz .expr e,.str name] (λ_=>.dead) 0).val=Q1 {val:=.tup [zz zf (dA e name).1,.bool (dA e name).2]}:=by
 have h1:(Xj [zz .expr e,.str name] (λ_=>.dead) 0).val=(Qc (Ha (zm e) name) (Tr.ok ({val:=.tup [zz zf (dA (zm e) name).1,.bool (dA (zm e) name).2]}:fT))).val:=by kernel_rfl
 rw[h1,zk,h];rfl
theorem S1(e:ze)(name:zB):Ha e name=Q3:=by
 unfold Ha Hb;have key:∃r,(Zm e name).val=Q1 (.inr r)/\(aM [] [zf,Q7] r.1).isSome=Q3/\r.2=[]:=by
  by_cases h:(bif !ze.op e==[61]then Q3 else((ze.l e).length:Int)!=2)=Q3
  ·exact⟨(tup [agg [ai 0,ai 0,str []],kb Q4],[]),by simp only[Zm,Q8,h,if_true],rfl,rfl⟩
  ·have hl:(ze.l e).length=2:=by
    cases ho:(!ze.op e==[61])
    ·rw[ho]at h;simp at h;omega
    ·rw[ho]at h;simp at h
   have i0:zO 0 (ze.l e).length=Q3:=by rw[hl];rfl
   have i1:zO 1 (ze.l e).length=Q3:=by rw[hl];rfl
   simp only[Zm,Q8,h,i0,i1,if_true,if_false,zF];split<;>split<;>exact⟨_,rfl,rfl,rfl⟩
 obtain⟨⟨v,hh⟩,h1,h2,rfl⟩:=key;obtain⟨y,hy⟩:=Option.isSome_iff_exists.1 h2;rw[zH h1 hy];rfl
theorem MV(hub:∀b,U b->b<w.heap.size)(hgl:sX CH w U)(hx:nC w U ρ e a c){name:zB}(hnl:name.length<=aF){W:World}(hb:Below w.heap.size w W):
  CallsIn Fence.wide n Tryz.prog 37 #[.agg (bp e a c).toArray,.string ⟨name.toArray⟩] W λe' W'=>e'=.returned (.tuple #[.agg (su (dA e name).1).toArray,.bool (dA e name).2])/\Below W.heap.size W W'/\iX (dA e name).1:=by
 refine(callsIn_wide.2 (yU Ss (args:=[zz .expr e,.str name]) (vals:=[.agg (bp e a c).toArray,.string ⟨name.toArray⟩]) (U:=U) (ρ:=ρ) (Uc (S1 e name)) ⟨rfl,λj cc v hc hv=>?_⟩ (λb h=>ia (hub b h) hb.size) (λg=>(hgl g).mono hb.size (λb hb' _=>hb.block b hb') (λ_ _ h=>h) (λ_ _ h=>h)) rfl)).mono ?_
 ·match j,hc,hv with
  |0,hc,hv=>cases hc;cases hv;exact(hx.mono hb).agg
  |1,hc,hv=>cases hc;cases hv;exact .str _ hnl
 ·rintro e' W' ⟨v,rfl,hb,U',ρ',hv⟩;cases hv with
  |tup _ vs hl hr=>
  match vs,hl,hr with
  |[v1,v2],_,hr=>
  have h1:=hr 0 _ v1 rfl rfl;have h2:=hr 1 _ v2 rfl rfl;cases h2;cases h1 with
  |agg _ us hul _ hur=>
  match us,hul,hur with
  |[u0,u1,u2],_,hur=>
  have k0:=hur 0 _ u0 rfl rfl;have k1:=hur 1 _ u1 rfl rfl;have k2:=hur 2 _ u2 rfl rfl;cases k0 with
  |int _ _ i0=>
  cases k1 with
  |int _ _ i1=>
  cases k2 with
  |str _ i2=>
  exact⟨rfl,hb,i0,i1,i2⟩
def Od(name:zB)(pre:List (Se w U ρ)):Prop:=∀x∈pre,(dA x.1.1 name).2=Q4
def zn0(name:zB)(pre:List (Se w U ρ))(W:World):Prop:=∃q x,pre=q++[x]/\Od name q/\(dA x.1.1 name).2=Q3/\iX (dA x.1.1 name).1/\Below w.heap.size w W/\W.heap[w.heap.size+1+1]?=Q1 (.cells (su (dA x.1.1 name).1).toArray 27 (0,0))/\W.heap[w.heap.size+1+1+1]?=Q1 (.cells #[.bool Q3] 4 (0,0))
theorem pK{name:zB}:∀{xs:List (Se w U ρ)}{l:List ze},Od name xs->xs.map (·.1.1)=l->fM dA name l=((0,0,[]),Q4)
 |[],_,_,rfl=>rfl
 | x::r,_,h,rfl=>by
  show(bif (dA x.1.1 name).2 then((dA x.1.1 name).1,Q3)else fM dA name (r.map (·.1.1)))=_;rw[h x sw,aq];exact pK (λy hy=>h y (sB _ hy)) rfl
theorem tH{name:zB}{x:Se w U ρ}(hx:(dA x.1.1 name).2=Q3):∀{q:List (Se w U ρ)}{l:List ze},Od name q->(q++[x]).map (·.1.1)<+:l->fM dA name l=((dA x.1.1 name).1,Q3)
 | [],_,_,⟨r,rfl⟩=>by
  show(bif (dA x.1.1 name).2 then((dA x.1.1 name).1,Q3)else _)=_;rw[hx,zZ]
 | y::q,_,h,⟨r,rfl⟩=>by
  show(bif (dA y.1.1 name).2 then((dA y.1.1 name).1,Q3)else fM dA name ((q++[x]).map (·.1.1)++r))=_;rw[h y sw,aq];exact tH hx (λz hz=>h z (sB _ hz)) ⟨r,rfl⟩
theorem Qp(hub:∀b,U b->b<w.heap.size)(hgl:sX CH w U)(hx:nC w U ρ e a c){k b0 o0:Nat}(hkl:k<cl){name:zB}(hb:b0<w.heap.size)(hname:w.cell? ⟨b0,o0+k*3,Q2⟩=Q1 (.string ⟨name.toArray⟩))(hnl:name.length<=aF)
  (hm:cA e=Q3) {l:List ze} (hl:BA e l):
  CallsIn Fence.wide n Tryz.prog 14 #[.agg (Db p0 p1 p2 p3 p6 p7 p8 p9 p10 p11 p12 p13 p14 p15 (Q1 ⟨b0,o0,Q2⟩) cl cc (k:Int)).toArray,.agg (bp e a c).toArray] w
   λe' w'=>e'=.returned (.tuple #[.agg (su (fM dA name l).1).toArray,.bool (fM dA name l).2])/\Below w.heap.size w w'/\iX (fM dA name l).1:=by
 obtain⟨x0,x1,x2,x3⟩:=Oo w (Db p0 p1 p2 p3 p6 p7 p8 p9 p10 p11 p12 p13 p14 p15 (Q1 ⟨b0,o0,Q2⟩) cl cc (k:Int)) (bp e a c);have hb0:=BU w (Db p0 p1 p2 p3 p6 p7 p8 p9 p10 p11 p12 p13 p14 p15 (Q1 ⟨b0,o0,Q2⟩) cl cc (k:Int)) (bp e a c);have hs0:=Qz w (Db p0 p1 p2 p3 p6 p7 p8 p9 p10 p11 p12 p13 p14 p15 (Q1 ⟨b0,o0,Q2⟩) cl cc (k:Int)) (bp e a c);refine callsIn_of_wp_marks Tryz.func14 rfl trivial ?_ rfl;simp only[Tryz.ntmps14,List.size_toArray,eE,jI,Nat.reduceAdd,Nat.reduceSub,Array.replicate_succ,Array.replicate_zero,List.push_toArray,List.append_toArray,po,List.cons_append];have g1:Q0 ((k:Int)<0)=Q4:=by simp
 have g2:Q0 ((cl:Int)<=(k:Int))=Q4:=by simp;omega
 gi_wp2
 refine⟨trivial,λh=>(by cases h),(Gl _ hub hgl hx hb0).mono ?_⟩;rintro e' w' ⟨rfl,hbm⟩;rw[hm];have c0:=(hbm.block _ (dU.1 x0).1).trans x0;have c1:=(hbm.block _ (dU.1 x1).1).trans x1;have c2:=(hbm.block _ (dU.1 x2).1).trans x2;have c3:=(hbm.block _ (dU.1 x3).1).trans x3;have hbw:Below w.heap.size w w':=hb0.trans (hbm.mono hb0.size);have hsz:w.heap.size+4<=w'.heap.size:=by rw[<-hs0];exact hbm.size
 have c1':(w'.alloc (.cells #[.string ⟨name.toArray⟩] 9)).heap[w.heap.size+1]?=Q1 (.cells (bp e a c).toArray 30 (0,0)):=(Below.heap_alloc w' _ _ ow).trans c1;obtain⟨d0,d1,d2,d3,d4,d5⟩:=pA c1';have q4:w'.cell? ⟨w.heap.size,4,Q2⟩=Q1 (.slice (Q1 ⟨b0,o0,Q2⟩) cl cc):=by simp[World.cell?,c0]
 have q5:w'.cell? ⟨w.heap.size,5,Q2⟩=Q1 (.int .i64 k):=by simp[World.cell?,c0]
 have qn:=(hbw.cell (p:=⟨b0,o0+k*3,Q2⟩) hb).trans hname
 gi_wp2
 refine⟨trivial,λh=>(by cases h),(HX (F:=Fence.wide) trivial rfl (n-1) e a c _).mono ?_⟩;rintro e' w'' ⟨rfl,rfl⟩
 gi_wp2
 have hWr:Below w.heap.size w ((w'.alloc (.cells #[.string ⟨name.toArray⟩] 9)).alloc (.cells (bp e a c).toArray 30)):=hbw.trans (((Below.refl _ w').alloc hbw.size _).alloc sg _);have hBr:((w'.alloc (.cells #[.string ⟨name.toArray⟩] 9)).alloc (.cells (bp e a c).toArray 30)).heap[w'.heap.size+1]?=Q1 (.cells (bp e a c).toArray 30 (0,0)):=by
  have:=World.alloc_heap_new (w'.alloc (.cells #[.string ⟨name.toArray⟩] 9)) (.cells (bp e a c).toArray 30)
  rwa [World.size_alloc]at this
 have hNr:((w'.alloc (.cells #[.string ⟨name.toArray⟩] 9)).alloc (.cells (bp e a c).toArray 30)).heap[w'.heap.size]?=Q1 (.cells #[.string ⟨name.toArray⟩] 9 (0,0)):=
  (Below.heap_alloc _ _ _ sw).trans (World.alloc_heap_new w' _)
 have b2:=λb h=>(Below.heap_alloc (w'.alloc (.cells #[.string ⟨name.toArray⟩] 9)) (.cells (bp e a c).toArray 30) b (by simp;omega:b<(w'.alloc (.cells #[.string ⟨name.toArray⟩] 9)).heap.size)).trans (Below.heap_alloc w' (.cells #[.string ⟨name.toArray⟩] 9) b h)
 have r2:=(b2 (w.heap.size+1+1) ow).trans c2;have r3:=(b2 (w.heap.size+1+1+1) ow).trans c3;have hsr:((w'.alloc (.cells #[.string ⟨name.toArray⟩] 9)).alloc (.cells (bp e a c).toArray 30)).heap.size=w'.heap.size+2:=by simp
 refine wpIn_rangeB (F:=Fence.wide) rfl rfl (gf:=81) (lb:=#[.pointer (Q1 ⟨w'.heap.size+1,0,Q2⟩)]) rfl trivial (enters_of Tryz.func81 kw rfl)
  (RD (F:=Fence.wide) (w0:=w) (U:=U) (ρ:=ρ) rfl trivial trivial rfl hl a c hx _ _ hWr hBr) (Below.refl _ _) hWr.size (λ_=>rfl)
  (λpre W=>Od name pre/\Below w.heap.size w W/\KeepsAll w.heap.size ((w'.alloc (.cells #[.string ⟨name.toArray⟩] 9)).alloc (.cells (bp e a c).toArray 30)) W)
  (λpre W=>zn0 name pre W)
  (OwnFrom.and (ownFrom_pure _ _) (OwnFrom.and (ownFrom_below (ae _) hWr.size) (ownFrom_keepsAll (ae _))))
  (by
   rintro s X Y row ⟨q,x,h1,h2,h3,hq,h4,h5,h6⟩ hg hr;exact⟨q,x,h1,h2,h3,hq,ownFrom_below (ae _) hWr.size () X Y row h4 hg hr,cells_own _ _ 27 () X Y row h5 hg (λr e=>(hr r e).2),cells_own _ _ 4 () X Y row h6 hg (λr e=>(hr r e).2)⟩)
  ⟨λ_ h=>(by cases h),hWr,KeepsAll.refl _ _⟩ 7 (λx=>(bp x.1.1 x.1.2.1 x.1.2.2).toArray) 30 ?assign ?body ?done ?stop
 case assign=>
  rintro l m ys ⟨⟨e1,a1,c1⟩,hx1⟩ W1 K hlt ⟨h1,h2,h3⟩ hK
  gi_wp2
  have hK:=hK W1.heap.size _ (KeepsAll.alloc _ _ _) ((Below.refl _ W1).alloc h2.size _) ⟨h1,h2.alloc h2.size _,h3.trans (KeepsAll.alloc _ _ _)⟩ (World.alloc_heap_new W1 _);simpa using hK
 case body=>
  rintro l m ys ⟨⟨e1,a1,c1⟩,hx1⟩ Bx W1 hlt ⟨h1,h2,h3⟩ hB;obtain⟨s0,s1,s2,s3,s4,s5⟩:=pA hB;have sn:W1.cell? ⟨w'.heap.size,0,Q2⟩=Q1 (.string ⟨name.toArray⟩):=by simp[World.cell?,h3.same _ _ ow hNr]
  gi_wp2
  refine⟨trivial,λh=>(by cases h),(CallsIn.inRound l (MV (m-1) hub hgl hx1 hnl h2)).mono ?_⟩;rintro e' W2 ⟨rfl,hb2,hq⟩;have t2:=(hb2.block _ (dU.1 (h3.same _ _ ow r2)).1).trans (h3.same _ _ ow r2);have t3:=(hb2.block _ (dU.1 (h3.same _ _ ow r3)).1).trans (h3.same _ _ ow r3);have hk2:∀B,KeepsAll B W1 W2:=λB=>⟨hb2.size,λk o _ h=>(hb2.block _ (dU.1 h).1).trans h⟩
  by_cases hh:(dA e1 name).2=Q3
  ·rw[hh];have z2:=(Below.heap_alloc W2 (.cells (su (dA e1 name).1).toArray 27) _ (dU.1 t2).1).trans t2;have z3:=(Below.heap_alloc W2 (.cells (su (dA e1 name).1).toArray 27) _ (dU.1 t3).1).trans t3;obtain⟨d0,d1,d2,d3,d4,d5⟩:=zgV z2;obtain⟨d6,d7⟩:=zgD z3
   gi_wp2
   have hba:=h2.trans (((hb2.mono h2.size).trans ((Below.refl _ W2).alloc (cC h2.size hb2.size) (.cells (su (dA e1 name).1).toArray 27))));refine⟨((hk2 _).trans (KeepsAll.alloc _ _ _)).trans ((((KeepsAll.setCell _ _ 0 _ ow).trans (KeepsAll.setCell _ _ 1 _ ow)).trans (KeepsAll.setCell _ _ 2 _ ow)).trans (KeepsAll.setCell _ _ 0 _ ow)),ys,⟨(e1,a1,c1),hx1⟩,rfl,h1,hh,hq,?_,?_,?_⟩
   ·exact(hba.trans (tV _ ow)).setCell (p:=⟨w.heap.size+1+1+1,0,Q2⟩) sg _
   ·exact jm (HZ z2 _) 0 _ ow
   ·exact heap_set (vt z3 _ ow) 0 _
  ·rw[Bool.eq_false_iff.2 hh]
   gi_wp2
   have hbn:=(hb2.mono h2.size).trans ((Below.refl _ W2).alloc (cC h2.size hb2.size) (.cells (su (dA e1 name).1).toArray 27));refine⟨(hk2 _).trans (KeepsAll.alloc _ _ _),hbn,λx hx=>?_,h2.trans hbn,h3.trans ((hk2 _).trans (KeepsAll.alloc _ _ _))⟩;rcases cQ.1 hx with hx|hx
   ·exact h1 x hx
   ·rw[gn.1 hx];exact Bool.eq_false_iff.2 hh
 case done=>
  rintro D xs W1 rfl hS ⟨h1,h2,h3⟩ hb1 hD;rw[hsr]at hD;have t2:=h3.same _ _ ow r2;have t3:=h3.same _ _ ow r3;obtain⟨d0,d1,d2,d3,d4,d5⟩:=zgV t2;obtain⟨d6,d7⟩:=zgD t3
  gi_wp2
  have hD':=jm (vt hD (0,0,[]) (by omega:w'.heap.size+2≠w.heap.size+1+1)) 0 (.bool Q4) (by omega:w'.heap.size+2≠w.heap.size+1+1+1);refine⟨sw,.inl ⟨_,_,rfl,run_takeDeferred hD',?_⟩⟩;refine⟨_,nh rfl rfl ((World.putObj_heap_other ow).trans (jm (HZ t2 (0,0,[])) 0 _ ow)) ((World.putObj_heap_other ow).trans (heap_set (vt t3 (0,0,[]) ow) 0 _)),by rw[pK h1 hS],?_,by rw[pK h1 hS];exact⟨by unfold cq;decide,by unfold cq;decide,sw⟩⟩;exact((h2.trans (tV (0,0,[]) ow)).setCell (p:=⟨w.heap.size+1+1+1,0,Q2⟩) sg _).trans (belowK_b (w:=w) (ae _) _ _ _ _ ow hD' rfl rfl)
 case stop=>
  rintro D xs W1 rfl hS ⟨q,x,rfl,h2,h3,hq,h4,h5,h6⟩ hD;rw[hsr]at hD
  gi_wp2
  rw[hsr];refine⟨sw,.inl ⟨_,_,rfl,run_takeDeferred hD,?_⟩⟩;exact⟨_,nh rfl rfl ((World.putObj_heap_other ow).trans h5) ((World.putObj_heap_other ow).trans h6),by rw[tH h3 h2 hS],h4.trans (belowK_b (w:=w) (ae _) _ _ _ _ ow hD rfl rfl),by rw[tH h3 h2 hS];exact hq⟩
def lZ:Nat->ze->Bool
 |0,e=>!(e.op==cY)
 |n+1,e=>if e.op=cY then(match e.l with|[a,b]=>lZ n a&&lZ n b|_=>Q4)else Q3
def jn:Nat->ze->List ze
 |0,e=>[e]
 |n+1,e=>if e.op=cY then(match e.l with|[a,b]=>jn n a++jn n b|_=>[e])else[e]
theorem C9:∀(n:Nat)(e:ze),lZ n e=Q3->BA e (jn n e)
 |0,e,h=>.leaf (by simpa[lZ]using h)
 | n+1,e,h=>by
  unfold lZ at h;unfold jn;split at h
  ·rename_i hop;rw[if_pos hop];split at h
   ·rename_i a b hl;simp only[aE]at h;exact .both hop hl (C9 n a h.1) (C9 n b h.2)
   ·cases h
  ·rename_i hop;rw[if_neg hop];exact .leaf hop
def up(p:Sem zA)(e:ze):Bool:=bif Q0 (p.2.2.2.1.2.2.1<0)then Q3 else bif Q0 (p.2.2.2.1.2.2.1>=(p.2.2.2.1.2.1.length:Int))then Q3 else !cA e
def uo(p:Sem zA)(e:ze):Bool:=bif up p e then Q3 else lZ 20 e
noncomputable def dj(p:Sem zA)(e:ze):Sem zf×Bool:=bif up p e then((0,0,[]),Q4)else fM dA (getD p.2.2.2.1.2.1 p.2.2.2.1.2.2.1.toNat (zj zi)).1 (jn 20 e)
theorem qI{p:Sem zA}{e:ze}:up p e=Q3↔(LT.lt (α:=Int) p.2.2.2.1.2.2.1 0\/(p.2.2.2.1.2.1.length:Int)<=p.2.2.2.1.2.2.1\/cA e=Q4):=by
 unfold up;cases h1:Q0 (LT.lt (α:=Int) p.2.2.2.1.2.2.1 0)<;>cases h2:Q0 (GE.ge (α:=Int) p.2.2.2.1.2.2.1 (p.2.2.2.1.2.1.length:Int))<;>cases h3:cA e<;>simp_all
theorem Y9{w:World}{U:Nat->Prop}{ρ:Nat->Option Value}{e:ze}{v:Value}(h:Rv w U ρ (zz .expr e) v):∃a c,v=.agg (bp e a c).toArray/\nC w U ρ e a c:=by
 cases h with
 |agg _ us hul _ hur=>
 match us,hul,hur with
 |[u0,u1,u2,u3,u4,u5],_,hur=>
 have k0:=hur 0 _ u0 rfl rfl;have k1:=hur 1 _ u1 rfl rfl;have k2:=hur 2 _ u2 rfl rfl;have k3:=hur 3 _ u3 rfl rfl;have k4:=hur 4 _ u4 rfl rfl;have k5:=hur 5 (.sl .expr e.l) u5 rfl rfl;obtain⟨a,c,rfl,_⟩:=oG k5;cases k0;cases k1;cases k2;cases k3;cases k4;exact⟨a,c,rfl,rfl,hur⟩
theorem zdl:FK 14 (zN [zA,.expr] [zf,.bool] (λx=>uo x.1 x.2.1) λx=>((dj x.1 x.2.1).1,(dj x.1 x.2.1).2,())):=by
 refine fi (E:=OC) ⟨Tryz.f14,kw,kw,kw⟩ λx h0 res hx=>?_
 unfold eR at hx;split at hx
 ·simp only[Q8]at hx;split at hx
  ·rename_i hc;simp only[bB]at hx;subst hx;obtain⟨p,e,u⟩:=x;intro C w U ρ vals _ hr hH hnew hr0 hW;have hl:=hr.len
   match vals,hl,hr with
   |[vp,ve],_,hr=>
   have h1:=hr.rv 0 (zz zA p) vp rfl rfl;have h2:=hr.rv 1 (zz .expr e) ve rfl rfl;obtain⟨a,c,rfl,hx⟩:=Y9 h2;cases h1 with
   |agg _ qs hql _ hqr=>
   match qs,hql,hqr with
   |[q0,q1,q2,q3,q4,q5,q6,q7,q8,q9,q10,q11,q12,q13,q14,q15],_,hqr=>
   have r4:=hqr 4 (.sl zi p.2.2.2.1.2.1) q4 rfl rfl;have r5:=hqr 5 (.int .i64 p.2.2.2.1.2.2.1) q5 rfl rfl;obtain⟨ca,cc,rfl,hcap,hm,hsl⟩:=oG r4;cases r5;have fin:∀(v:Sem zf×Bool),iX v.1->∀w',Below w.heap.size w w'->v=dj p e->Qj OC C (λr' h=>(r',h)=(vX [zf,Q7] ((dj p e).1,(dj p e).2,()),[])) (.returned (.tuple #[.agg (su v.1).toArray,.bool v.2])) w':=λv hk w' hb he=>by
    subst he;refine ef hH hnew hr0 hW hb ?_;refine .tup _ [.agg (su (dj p e).1).toArray,.bool (dj p e).2] rfl λj cc v hc hv=>?_
    match j,hc,hv with
    | 0,hc,hv=>
     cases hc;cases hv;refine .agg _ _ rfl (by simp[Value.oneCell']) λj cc v hc hv=>?_
     match j,hc,hv with
     |0,hc,hv=>cases hc;cases hv;exact .int _ _ hk.1
     |1,hc,hv=>cases hc;cases hv;exact .int _ _ hk.2.1
     |2,hc,hv=>cases hc;cases hv;exact .str _ hk.2.2
    |1,hc,hv=>cases hc;cases hv;exact .bool _
   by_cases hn:up p e=Q3
   ·refine(callsIn_wide.1 (Qq 4 q0 q1 q2 q3 q6 q7 q8 q9 q10 q11 q12 q13 q14 q15 ca p.2.2.2.1.2.1.length cc p.2.2.2.1.2.2.1 hW.ub hW.gl hx (qI.1 hn))).mono ?_;rintro e' w' ⟨rfl,hb⟩;exact fin ((0,0,[]),Q4) ⟨by unfold cq;decide,by unfold cq;decide,sw⟩ w' hb (by unfold dj;rw[hn];rfl)
   ·have hn':=Bool.eq_false_iff.2 hn;rw[qI]at hn;simp only[not_or,Bool.not_eq_false]at hn;obtain⟨n1,n2,n3⟩:=hn;have hc2:lZ 20 e=Q3:=by
     have hc:uo p e=Q3:=hc;unfold uo at hc
     rwa [hn',aq]at hc
    obtain⟨k,hk⟩:∃k:Nat,p.2.2.2.1.2.2.1=(k:Int):=⟨_,(Int.toNat_of_nonneg ow).symm⟩;rw[hk]at n2⊢;have hkl:k<p.2.2.2.1.2.1.length:=by omega
    rcases hsl with h0|⟨b0,o0,rfl,hrr⟩
    ·rw[h0]at hkl;cases hkl
    obtain⟨x0,c0,k0⟩:=hrr k hkl 0 (.str (p.2.2.2.1.2.1[k]).1) rfl;cases k0 with
    |str _ hnl=>
    refine(callsIn_wide.1 (Qp 4 q0 q1 q2 q3 q6 q7 q8 q9 q10 q11 q12 q13 q14 q15 hW.ub hW.gl hx hkl (nJ c0) c0 hnl n3 (C9 20 e hc2))).mono ?_;rintro e' w' ⟨rfl,hb,hq⟩;refine fin _ hq w' hb ?_;unfold dj;rw[hn',aq,hk,af _ _ hkl]
  ·simp at hx
 ·simp at hx
noncomputable def znT:zV:=zN [zA,.expr] [zf,.bool] (λx=>uo x.1 x.2.1) λx=>((dj x.1 x.2.1).1,(dj x.1 x.2.1).2,())
noncomputable def zbV:=OC.add 14 znT
theorem FP:zt zbV:=QZ.add zdl
noncomputable def Zg(x0:Sem zA)(x1:Sem zh.sl)(x2:Sem Q5):Tr (Empty⊕az):=
 let a0:=(x0.1,x0.2.1,x0.2.2.1,(x0.2.2.2.1.1,x0.2.2.2.1.2.1,x0.2.2.2.1.2.2.1,x0.2.2.2.1.2.2.2.1,x0.2.2.2.1.t.1,zm x0.2.2.2.1.t.2),x0.t)
 let a1:=dj a0 (zm x2)
 let a2:=WV a0 x1
 let a3:=zgT a0 x1 a1.1
 Qc (KT a0 x1)
 (br (VS a0 x1 !=0) (re (tup [Qb,ai 1]) [])
  (Qc (uo a0 (zm x2)) (br (!a1.2) (Qc (N1 a0 x1) (re (tup [sl zf a2.1,ai a2.2]) [])) (Qc (WW a0 x1 a1.1) (br (a3.2!=0) (re (tup [Qb,ai 0]) []) (re (tup [sl zf [a3.1],ai 0]) []))))))
noncomputable def AG(x0:Sem zA)(x1:Sem zh.sl)(x2:Sem Q5):=ah [zf.sl,zg] t0 100000000 (Zg x0 x1 x2)
noncomputable def AF(x0:Sem zA)(x1:Sem zh.sl)(x2:Sem Q5):=(AG x0 x1 x2).isSome
noncomputable def Hd(x0:Sem zA)(x1:Sem zh.sl)(x2:Sem Q5):=o2 (AG x0 x1 x2)
noncomputable def zhr:=FT [zA,zh.sl,Q5] [zf.sl,zg] λx=>AG x.1 x.2.1 x.2.2.1
theorem zde:FK 12 zhr:=FP.T1 (f:=Tryz.f12) (keep:=k0) (e:=e0)
noncomputable def zbW:=zbV.add 12 zhr
theorem FQ:zt zbW:=FP.add zde
noncomputable def i8v:Tr (Empty⊕az):=
 Qc Q3
 (Qc Q3
  (Qc Q3 (br Q4 (re (kb Q4) []) (Qc Q3 (Qc Q3 (Qc Q3 (Qc Q3 (Qc Q3 (Qc Q3 (Qc Q3 (re (AV.bool Q3) [])))))))))))
noncomputable def AE:=ah [Q7] t0 100000000 (i8v)
noncomputable def AD:=(AE).isSome
noncomputable def BV:=o1 (AE)
noncomputable def F8v:=FT [] [Q7] λ_=>AE
theorem zjP:FK 8 F8v:=FQ.T1 (f:=Tryz.f8) (keep:=k0) (e:=e0)
noncomputable def zkx:=zbW.add 8 F8v
theorem Ra:zt zkx:=FQ.add zjP
noncomputable def i4v(x0:Sem (zh.sl.pr (zl.pr (Sh.expr.pr Q5)))):Tr (Empty⊕az):=
 let a0:=(x0.2.1.1,x0.2.1.2.1,x0.2.1.2.2.1,x0.2.1.2.2.2.1,x0.2.1.t.1,x0.2.1.t.2.1,x0.2.1.t.q.1,x0.2.1.t.q.2.1,zm x0.2.1.t.t.1,x0.2.1.t.t.2.1,x0.2.1.t.t.q.1,zm x0.2.1.t.t.q.2.1,x0.2.1.t.t.t)
 let a1:=CR x0.1 a0
 let a2:=fK (zm x0.2.2.1)
 let a3:=fK (zm x0.2.2.2)
 let a4:=(a1.1.1,a1.1.2.1,a1.1.2.2.1,(a1.1.2.2.2.1.1,a1.1.2.2.2.1.2.1,a1.1.2.2.2.1.2.2.1,a1.1.2.2.2.1.2.2.2.1,a1.1.2.2.2.1.t.1,zm a1.1.2.2.2.1.t.2),a1.1.t)
 let a5:=zm a2
 let a6:=ze.mk cY (0,0,[]) [] [a5,zm a3]
 let a7:=Hd a4 a1.2.1 a5
 let a8:=Hd a4 a1.2.1 a6
 let a9:=dj a4 a5
 let a10:=(↑(length a7.1):Int)
 let a11:=dj a4 a6
 let a12:=(↑(length a8.1):Int)
 let a13:=Q0 (a12>=a10)
 let a14:=Q0 (a12<=a10)
 Qc (xz x0.1 a0)
 (br (bif !a1.2.2 then Q3 else bif ze.op a2==[]then Q3 else ze.op a3==[]) (Qc Q3 (re (AV.bool BV) []))
  (Qc (AF a4 a1.2.1 a5) (Qc (AF a4 a1.2.1 a6) (Qc (uo a4 a5) (Qc (uo a4 a6) (br (bif a7.2!=0 then Q3 else bif a8.2!=0 then Q3 else bif a9.2 then Q0 (a10>1)else Q4) (re (kb Q4) []) (br (bif a9.2 then !a11.2 else Q4) (Qc (bif a13 then AD else Q3) (re (AV.bool (bif a13 then BV else Q4)) []))
  (Qc (bif a14 then AD else Q3) (re (AV.bool (bif a14 then BV else Q4)) [])))))))))
noncomputable def HG(x0:Sem (zh.sl.pr (zl.pr (Sh.expr.pr Q5)))):=ah [Q7] t0 100000000 (i4v x0)
noncomputable def F4v:=FT [zh.sl.pr (zl.pr (Sh.expr.pr Q5))] [Q7] λx=>HG x.1
theorem zjf:FK 4 F4v:=Ra.T1 (f:=Tryz.f4) (keep:=k0) (e:=e0)
theorem Nt{a b:Sem zf}(ha:a.2.2.length<=1000000)(hb:b.2.2.length<=1000000):Dk a b=Q3:=by unfold Dk;rw[Dl ha hb];rfl
theorem RJ{a b:Sem zf}(ha:a.2.2.length<=1000000)(hb:b.2.2.length<=1000000):H6 a b=cW a b:=by unfold H6;rw[Dl ha hb];rfl
theorem Wc(a b:Sem zf):H2 a b=Q3:=by unfold H2;rw[K2];rfl
theorem ZX(a b:Sem zf):Gr a b=ET a b:=by unfold Gr;rw[K2];rfl
theorem ZZ(a b:Sem zf):Pm a b=Q3:=by unfold Pm;rw[Pn];rfl
theorem zgK(a b:Sem zf):RI a b=Xf a b:=by unfold RI;rw[Pn];rfl
theorem Wf(a:Sem zf):H5 a=Q3:=by unfold H5;rw[K5];rfl
theorem ZY(a:Sem zf):Gu a=At a:=by unfold Gu;rw[K5];rfl
theorem Do{a b:Sem zf}(ha:a.2.2.length<=1000000)(hb:b.2.2.length<=1000000):qf a b=Q1 (!eX a b,()):=by
 unfold qf ah de;simp only[zcm,Q8,ru ha,ru hb,vG ha,vG hb,if_true,eX];generalize au a=x;generalize au b=y;obtain⟨k,n,s⟩:=x;obtain⟨k',n',s'⟩:=y;simp only;by_cases h:k=0
 ·subst h;rfl
 ·have e:(k==0)=Q4:=by simpa using h
  have e2:(k !=0)=Q3:=by simpa using h
  rw[e,e2];by_cases h':k'=0
  ·subst h';have e3:(k==0)=Q4:=e;simp[e3];rfl
  ·have e3:(k'==0)=Q4:=by simpa using h'
   rw[e3];rfl
theorem ou{a b:Sem zf}(ha:a.2.2.length<=1000000)(hb:b.2.2.length<=1000000):mY a b=Q3:=by unfold mY;rw[Do ha hb];rfl
theorem rq{a b:Sem zf}(ha:a.2.2.length<=1000000)(hb:b.2.2.length<=1000000):rp a b=!eX a b:=by unfold rp;rw[Do ha hb];rfl
theorem jw(b:Bool):dt b=ye b:=by
 unfold dt ye;rw[lE,lF]
theorem Dh{a b:Sem zf}(ha:a.2.2.length<=1000000)(hb:b.2.2.length<=1000000):qb a b=Q1 (mv a b,()):=by
 unfold qb ah de;simp only[zci,Q8,ou ha hb,rq ha hb,ot,io,if_true,mv,jw];cases eX a b<;>rfl
theorem Nr{a b:Sem zf}(ha:a.2.2.length<=1000000)(hb:b.2.2.length<=1000000):vw a b=Q3:=by unfold vw;rw[Dh ha hb];rfl
theorem RF{a b:Sem zf}(ha:a.2.2.length<=1000000)(hb:b.2.2.length<=1000000):rm a b=mv a b:=by unfold rm;rw[Dh ha hb];rfl
theorem JF{a b:Sem zf}(h:eX a b=Q3):bg a=Q3/\bg b=Q3/\a.1=b.1/\a.1≠0/\au a=a/\au b=b:=by
 unfold eX au at h;unfold au;cases ha:bg a with
 |false=>simp[ha]at h
 | true=>
  cases hb:bg b with
  | false=>
   simp[ha,hb]at h
  | true=>
   simp[ha,hb]at h;exact⟨rfl,rfl,h.2,h.1,sw,sw⟩
theorem Gm{v:Sem zf}(h:bg v=Q3)(h0:v.1≠0):(v.1=1/\v.2.2=[])\/(v.1=2/\v.2.1=0)\/(v.1=3/\v.2.2=[]):=by
 obtain⟨k,n,s⟩:=v;unfold bg at h;simp only at h h0⊢;have e0:(k==0)=Q4:=by simpa using h0
 rw[e0]at h;by_cases h1:k=1
 ·subst h1;exact .inl ⟨rfl,by simpa using h⟩
 ·have e1:(k==1)=Q4:=by simpa using h1
  rw[e1]at h;by_cases h2:k=2
  ·subst h2;refine .inr (.inl ⟨rfl,?_⟩);simp at h;exact h.1
  ·have e2:(k==2)=Q4:=by simpa using h2
   rw[e2]at h;by_cases h3:k=3
   ·subst h3;refine .inr (.inr ⟨rfl,?_⟩);cases hn:(n==0)with
    |true=>simp[hn]at h;exact h
    |false=>simp[hn]at h;exact h.2
   ·have e3:(k==3)=Q4:=by simpa using h3
    rw[e3]at h;cases h
theorem ZA(k n n':Int)(s s':zB)(hd:(s=[]/\s'=[])\/(n=0/\n'=0)):Q0 (HQ [tn k k,kR n n',o7 s s']<0)=(bif Q0 (n<n')then Q3 else Op.bytesLess s s'):=by
 simp only[HQ,tn,kR,o7];rcases hd with⟨rfl,rfl⟩|⟨rfl,rfl⟩
 ·rcases BF n n' with h|h|h
  ·simp[h]
  ·subst h;simp[bN]
  ·have c1:¬n<n':=by omega
   simp[h,c1,bN]
 ·by_cases hl:Op.bytesLess s s'=Q3
  ·simp[hl]
  ·by_cases he:s=s'
   ·subst he;simp[bN]
   ·have c1:(s==s')=Q4:=bX.2 he;simp[hl,c1]
theorem Gt{a b:Sem zf}(ha:a.2.2.length<=1000000)(hb:b.2.2.length<=1000000):vA a b=Q1 (sV a b,()):=by
 unfold vA ah de;simp only[zcj,Q8,ou ha hb,rq ha hb,ot,io,if_true,sV,jw];cases hal:eX a b with
 |false=>rfl
 | true=>
  obtain⟨h1,h2,h3,h4,h5,h6⟩:=JF hal;have k1:=Gm h1 h4;have k2:=Gm h2 (by rw[<-h3];exact h4);obtain⟨k,n,s⟩:=a;obtain⟨k',n',s'⟩:=b;simp only at h3 h4 k1 k2;subst h3;have hd:(s=[]/\s'=[])\/(n=0/\n'=0):=by
   rcases k1 with⟨e1,e2⟩|⟨e1,e2⟩|⟨e1,e2⟩<;>rcases k2 with⟨f1,f2⟩|⟨f1,f2⟩|⟨f1,f2⟩<;>first|exact .inl ⟨e2,f2⟩|exact .inr ⟨e2,f2⟩|exact absurd (e1.symm.trans f1) (by decide)
  have ho:Q0 (LT.lt (α:=Int) (cW (k,n,s) (k,n',s')) 0)=(bif Q0 (n<n')then Q3 else Op.bytesLess s s'):=by
   unfold cW;rw[h5,h6];exact ZA k n n' s s' hd
  rw[ho];by_cases h:n<n'
  ·have e:Q0 (n<n')=Q3:=zu h;simp only[e];rfl
  ·have e:Q0 (n<n')=Q4:=ao h;simp only[e];rfl
theorem RG{a b:Sem zf}(ha:a.2.2.length<=1000000)(hb:b.2.2.length<=1000000):AW a b=Q3:=by unfold AW;rw[Gt ha hb];rfl
theorem We{a b:Sem zf}(ha:a.2.2.length<=1000000)(hb:b.2.2.length<=1000000):xK a b=sV a b:=by unfold xK;rw[Gt ha hb];rfl
theorem RE{a b:Int}(a1:-9223372036854775808<=a)(a2:a<=9223372036854775807)(b1:-9223372036854775808<=b)(b2:b<=9223372036854775807):
  (bif Q0 (b>0)then bif Q0 (a>IntKind.i64.wrap (9223372036854775807-b))then Q3 else bif Q0 (b<0)then Q0 (a<IntKind.i64.wrap (-9223372036854775808-b))else Q4 else bif Q0 (b<0)then Q0 (a<IntKind.i64.wrap (-9223372036854775808-b))else Q4)=
  (bif Q0 (b>0)then bif Q0 (IntKind.i64.wrap (a+b)<a)then Q3 else bif Q0 (b<0)then Q0 (IntKind.i64.wrap (a+b)>a)else Q4 else bif Q0 (b<0)then Q0 (IntKind.i64.wrap (a+b)>a)else Q4):=by
 rcases BF b 0 with h|h|h
 ·have e1:Q0 (b>0)=Q4:=ao ow;have e2:Q0 (b<0)=Q3:=zu h;simp only[e1,e2,aq,zZ];rw[gp,gp];apply iY.2;rw[aO,aO];omega
 ·subst h;rfl
 ·have e1:Q0 (b>0)=Q3:=zu h;have e2:Q0 (b<0)=Q4:=ao ow;simp only[e1,e2,aq,zZ];have:Q0 (a>IntKind.i64.wrap (9223372036854775807-b))=Q0 (IntKind.i64.wrap (a+b)<a):=by
   rw[gp,gp];apply iY.2;rw[aO,aO];omega
  rw[this]
theorem Nb{a b:Int}(a1:-9223372036854775808<=a)(a2:a<=9223372036854775807)(b1:-9223372036854775808<=b)(b2:b<=9223372036854775807):
  (bif Q0 (b>0)then bif Q0 (a<IntKind.i64.wrap (-9223372036854775808+b))then Q3 else bif Q0 (b<0)then Q0 (a>IntKind.i64.wrap (9223372036854775807+b))else Q4 else bif Q0 (b<0)then Q0 (a>IntKind.i64.wrap (9223372036854775807+b))else Q4)=
  (bif Q0 (b>0)then bif Q0 (IntKind.i64.wrap (a-b)>a)then Q3 else bif Q0 (b<0)then Q0 (IntKind.i64.wrap (a-b)<a)else Q4 else bif Q0 (b<0)then Q0 (IntKind.i64.wrap (a-b)<a)else Q4):=by
 rcases BF b 0 with h|h|h
 ·have e1:Q0 (b>0)=Q4:=ao ow;have e2:Q0 (b<0)=Q3:=zu h;simp only[e1,e2,aq,zZ];rw[gp,gp];apply iY.2;rw[aO,aO];omega
 ·subst h;rfl
 ·have e1:Q0 (b>0)=Q3:=zu h;have e2:Q0 (b<0)=Q4:=ao ow;simp only[e1,e2,aq,zZ];have:Q0 (a<IntKind.i64.wrap (-9223372036854775808+b))=Q0 (IntKind.i64.wrap (a-b)>a):=by
   rw[gp,gp];apply iY.2;rw[aO,aO];omega
  rw[this]
theorem Gv{a b:Sem zf}(ha:mj a)(hb:mj b):vD a b=Q1 (sW a b,()):=by
 unfold vD ah de;simp only[zck,Q8,ou ha.2.2 hb.2.2,rq ha.2.2 hb.2.2,if_true,sW];rw[RE ha.1 ha.2.1 hb.1 hb.2.1];cases(bif !eX a b then Q3 else a.1!=1)
 ·cases(bif Q0 (b.2.1>0)then bif Q0 (IntKind.i64.wrap (a.2.1+b.2.1)<a.2.1)then Q3 else bif Q0 (b.2.1<0)then Q0 (IntKind.i64.wrap (a.2.1+b.2.1)>a.2.1)else Q4 else bif Q0 (b.2.1<0)then Q0 (IntKind.i64.wrap (a.2.1+b.2.1)>a.2.1)else Q4)<;>rfl
 ·rfl
theorem RK{a b:Sem zf}(ha:mj a)(hb:mj b):AX a b=Q3:=by unfold AX;rw[Gv ha hb];rfl
theorem Wg{a b:Sem zf}(ha:mj a)(hb:mj b):xL a b=sW a b:=by unfold xL;rw[Gv ha hb];rfl
theorem Di{a b:Sem zf}(ha:mj a)(hb:mj b):qd a b=Q1 (mw a b,()):=by
 unfold qd ah de;simp only[zcl,Q8,ou ha.2.2 hb.2.2,rq ha.2.2 hb.2.2,if_true,mw];rw[Nb ha.1 ha.2.1 hb.1 hb.2.1];cases(bif !eX a b then Q3 else a.1!=1)
 ·cases(bif Q0 (b.2.1>0)then bif Q0 (IntKind.i64.wrap (a.2.1-b.2.1)>a.2.1)then Q3 else bif Q0 (b.2.1<0)then Q0 (IntKind.i64.wrap (a.2.1-b.2.1)<a.2.1)else Q4 else bif Q0 (b.2.1<0)then Q0 (IntKind.i64.wrap (a.2.1-b.2.1)<a.2.1)else Q4)<;>rfl
 ·rfl
theorem Ns{a b:Sem zf}(ha:mj a)(hb:mj b):vB a b=Q3:=by unfold vB;rw[Di ha hb];rfl
theorem RH{a b:Sem zf}(ha:mj a)(hb:mj b):ro a b=mw a b:=by unfold ro;rw[Di ha hb];rfl
theorem yX(c:Int):nf c=Q1 (aI c,()):=by
 unfold nf ah de;simp only[zcd,Q8,aI];by_cases h1:97<=c
 ·have e1:Q0 (97<=c)=Q3:=zu h1;have e2:Q0 (c<=90)=Q4:=ao ow;have e3:Q0 (65<=c)=Q3:=zu ow;simp[e1,e2,e3];rfl
 ·have e1:Q0 (97<=c)=Q4:=ao h1;simp[e1];rfl
theorem mb(c:Int):kH c=Q3:=by unfold kH;rw[yX];rfl
theorem oA(c:Int):nc c=aI c:=by unfold nc;rw[yX];rfl
theorem DE(c:Int):vN c=Q1 (zU c,()):=rfl
theorem eT(c:Int):fP c=Q3:=by unfold fP;rw[DE];rfl
theorem fY(c:Int):gR c=zU c:=by unfold gR;rw[DE];rfl
theorem GF(c:Int):vO c=Q1 (bt c,()):=by
 unfold vO ah de;simp only[zce,Q8,eT,fY,mb,oA,bt];cases zU c<;>cases aI c<;>rfl
theorem rL(c:Int):rK c=Q3:=by unfold rK;rw[GF];rfl
theorem vP(c:Int):xP c=bt c:=by unfold xP;rw[GF];rfl
theorem KJ(p:Int->Bool):∀s:zB,cN p s=s.length↔∀c∈s,p c.toNat=Q3
 |[]=>by simp[cN]
 | c::r=>by
  have ih:=KJ p r;rw[cN];by_cases h:p c.toNat=Q3
  ·rw[if_pos h];simp only[eE,cr,forall_eq_or_imp];constructor
   ·intro h2;exact⟨h,ih.1 ow⟩
   ·intro h2;rw[ih.2 h2.2]
  ·rw[if_neg h];simp only[eE,cr,forall_eq_or_imp];exact⟨λh2=>absurd h2 ow,λh2=>absurd h2.1 h⟩
theorem KK{c:Int}(h:aI c=Q3):bt c=Q3:=by
 unfold bt;rw[h];rfl
theorem R6(s:zB):qC s=Q3↔(1<=s.length/\s.length<=16/\aI (getD s 0 0).toNat=Q3/\∀c∈s,bt c.toNat=Q3):=by
 unfold qC;cases s with
 |nil=>simp
 | cons c r=>
  have e1:Q0 (((c::r).length:Int)>=1)=Q3:=zu sg;rw[e1];by_cases h:(c::r).length<=16
  ·have e2:Q0 (((c::r).length:Int)<=16)=Q3:=zu ow;rw[e2];simp only[zZ];have ha:=KJ bt r;by_cases hl:aI c.toNat=Q3
   ·have er:aL aI bt (c::r)=cN bt r+1:=by rw[aL,if_pos hl]
    rw[er];constructor
    ·intro h2;have:cN bt r=r.length:=by simp at h2;omega
     refine⟨sw,h,hl,?_⟩;intro x hx;rcases cr.1 hx with rfl|hx
     ·exact KK hl
     ·exact ha.1 this x hx
    ·rintro⟨_,_,_,h3⟩;have:=ha.2 (λx hx=>h3 x (sB _ hx));simp[this]
   ·have er:aL aI bt (c::r)=0:=by rw[aL,if_neg hl]
    rw[er];constructor
    ·intro h2;simp at h2;omega
    ·rintro⟨_,_,h2,_⟩;exact absurd h2 hl
  ·have e2:Q0 (((c::r).length:Int)<=16)=Q4:=ao ow;rw[e2];simp only[zZ,aq];exact⟨λh=>(by cases h),λh2=>absurd h2.2.1 h⟩
theorem GD{s:zB}(hl:s.length<=1000000):A9 s=Q1 (eb s,()):=by
 have hf:=my (t:=wm) (Φ:=λr=>r=(.kb Q4,[])) 1 (λi=>.h2 s (i:Int)) (λi=>bt (getD s i 0).toNat=Q3) s.length (by
  intro i hi _;have hv:(wm (.h2 s (i:Int))).val=if(!bt (getD s i 0).toNat)=Q3 then Q1 (.inr (.kb Q4,[]))else Q1 (.inl (.h2 s ((i+1:Nat):Int))):=by
   show(wm (.h2 _ _)).val=_;unfold wm;simp only[Q8,zJ hi,zw hi,aK,rL,vP,if_true];rw[zr i um]
  by_cases h:bt (getD s i 0).toNat=Q3
  ·exact .inl ⟨h,zT.of (by rw[hv,if_neg (by rw[h];simp)])⟩
  ·exact .inr ⟨h,_,zX.of (by rw[hv,if_pos (by simpa using h)]),rfl⟩)
 have hi:(zcc s).val=Q1 (.inl (.h2 s ((0:Nat):Int))):=rfl;have hq:=aw (l:=s) (d:=0) (Q:=λc=>bt c.toNat=Q3);have hw:=R6 s;rcases hf with⟨h1,h2⟩|⟨h1,r,h2,rfl⟩
 ·refine zy hi (h2.ends (zX.of (r:=(.bool (eb s),[])) ?_)) ow rfl;show(wm (.h2 _ _)).val=_;unfold wm;simp only[Q8,zC,mb,oA];have e:eb s=(bif Q0 (1<=(s.length:Int))then bif Q0 ((s.length:Int)<=16)then aI (getD s (toNat 0) 0).toNat else Q4 else Q4):=by
   apply iY.2;unfold eb;rw[hw];by_cases k1:1<=s.length
   ·have e1:Q0 (1<=(s.length:Int))=Q3:=zu ow;rw[e1];by_cases k2:s.length<=16
    ·have e2:Q0 ((s.length:Int)<=16)=Q3:=zu ow;rw[e2];exact⟨λh=>h.2.2.1,λh=>⟨k1,k2,h,hq.1 h1⟩⟩
    ·have e2:Q0 ((s.length:Int)<=16)=Q4:=ao ow;rw[e2];exact⟨λh=>absurd h.2.1 k2,λh=>(by cases h)⟩
   ·have e1:Q0 (1<=(s.length:Int))=Q4:=ao ow;rw[e1];exact⟨λh=>absurd h.1 k1,λh=>(by cases h)⟩
  rw[e];by_cases k1:1<=s.length
  ·have e0:zO 0 s.length=Q3:=zw (i:=0) ow;rw[e0];cases Q0 (1<=(s.length:Int))<;>cases Q0 ((s.length:Int)<=16)<;>rfl
  ·have e1:Q0 (1<=(s.length:Int))=Q4:=ao ow;rw[e1];rfl
 ·have e:eb s=Q4:=by
   cases hh:eb s with
   |false=>rfl
   |true=>exact absurd (hq.2 (hw.1 hh).2.2.2) h1
  rw[e];exact zy hi h2 ow rfl
theorem xO{s:zB}(hl:s.length<=1000000):vM s=Q3:=by unfold vM;rw[GD hl];rfl
theorem DD{s:zB}(hl:s.length<=1000000):tZ s=eb s:=by unfold tZ;rw[GD hl];rfl
noncomputable def xV:List zB:=match(Uk []).val with
 |some (.inl (.h3 _ l _))=>l
 |_=>[]
theorem Wz:xV.length=38:=kw
theorem WA:(xV.all λw=>(Eo.map (·.1)).contains w)=Q3:=kw
theorem WB:(Eo.all λw=>xV.contains w.1)=Q3:=kw
theorem N2:(Eo.all λw=>w.2)=Q3:=kw
theorem PJ(s:zB):∀l:List (zB×Bool),(l.all λw=>w.2)=Q3->(PI s l Q4=Q3↔s∈l.map (·.1))
 |[],_=>by simp[PI]
 | (w,b)::r,h=>by
  simp only[List.all_cons,aE]at h;obtain⟨rfl,h⟩:=h;rw[PI];by_cases e:(s==w)=Q3
  ·have:s=w:=bI e;rw[if_pos e];simp[this]
  ·rw[if_neg e,PJ s r h];have:s≠w:=λh=>e (by rw[h];simp)
   simp[this]
theorem PC(s:zB):jr s=Q3↔s∈xV:=by
 unfold jr;rw[PJ s Eo N2];constructor
 ·intro h;obtain⟨w,hw,rfl⟩:=bn.1 h;have:=ei.1 WB w hw;simpa using this
 ·intro h;have:=ei.1 WA s h;simpa using this
theorem Ln(s:zB):It s=Q1 (jr s,()):=by
 have hn:=Wz;have hf:=my (t:=D6) (Φ:=λr=>r=(.kb Q3,[])) 1 (λi=>.h3 s xV (i:Int)) (λi=>getD xV i (zj Q6)≠s) xV.length (by
  intro i hi _;have hv:(D6 (.h3 s xV (i:Int))).val=if(getD xV i (zj Q6)==s)=Q3 then Q1 (.inr (.kb Q3,[]))else Q1 (.inl (.h3 s xV ((i+1:Nat):Int))):=by
   show(D6 (.h3 _ _ _)).val=_;unfold D6;simp only[Q8,zJ hi,zw hi,aK,if_true];rw[zr i um]
  by_cases h:getD xV i (zj Q6)=s
  ·exact .inr ⟨λh2=>h2 h,_,zX.of (by rw[hv,if_pos (by rw[h];simp)]),rfl⟩
  ·exact .inl ⟨h,zT.of (by rw[hv,if_neg (λh2=>h (bI h2))])⟩)
 have hi:(Uk s).val=Q1 (.inl (.h3 s xV ((0:Nat):Int))):=rfl;have hq:=aw (l:=xV) (d:=zj Q6) (Q:=λw=>w≠s);rcases hf with⟨h1,h2⟩|⟨h1,r,h2,rfl⟩
 ·have e:jr s=Q4:=by
   cases hh:jr s with
   |false=>rfl
   |true=>exact absurd rfl (hq.1 h1 s ((PC s).1 hh))
  rw[e];refine zy hi (h2.ends (zX.of (r:=(.kb Q4,[])) ?_)) ow rfl;show(D6 (.h3 _ _ _)).val=_;unfold D6;simp only[Q8,zC];rfl
 ·have e:jr s=Q3:=by
   cases hh:jr s with
   |true=>rfl
   |false=>exact absurd (hq.2 λw hw hws=>by rw[hws]at hw;rw[(PC s).2 hw]at hh;cases hh) h1
  rw[e];exact zy hi h2 ow rfl
theorem Lm(s:zB):DG s=Q3:=by unfold DG;rw[Ln];rfl
theorem Pu(s:zB):Ll s=jr s:=by unfold Ll;rw[Ln];rfl
theorem GG{s:zB}(hl:s.length<=1000000):vR s=Q1 (zL s,()):=by
 unfold vR ah de;simp only[zlm,Q8,xO hl,DD hl,Lm,Pu,zL];cases eb s<;>rfl
theorem bu{s:zB}(hl:s.length<=1000000):dL s=Q3:=by unfold dL;rw[GG hl];rfl
theorem ff{s:zB}(hl:s.length<=1000000):bm s=zL s:=by unfold bm;rw[GG hl];rfl
mutual
def tc:ze->Prop
 |.mk _ v s l=>mj v/\s.length<=1000000/\kg l
def kg:List ze->Prop
 |[]=>True
 |e::r=>tc e/\kg r
end
theorem kg.mem:∀{l:List ze},kg l->∀e∈l,tc e
 |[],_,e,h=>by simp at h
 | x::r,h,e,he=>by
  rw[kg]at h;rcases cr.1 he with rfl|he
  ·exact h.1
  ·exact kg.mem h.2 e he
def ES(op:zB):Bool:=bif op==cY then Q3 else bif op==uw then Q3 else bif op==[61]then Q3 else bif op==[60]then Q3 else bif op==[43]then Q3 else op==[45]
theorem Ld(s:zB):Nx s=Q1 (ES s,()):=rfl
theorem Wi(s:zB):Id s=Q3:=by unfold Id;rw[Ld];rfl
theorem Z1(s:zB):Pr s=ES s:=by unfold Pr;rw[Ld];rfl
def bq:Nat->ze->Bool
 |0,_=>Q4
 | d+1,.mk op v s l=>
  if(op==mH)=Q3 then(bif bg v then bif s==[]then(l.length:Int)==0 else Q4 else Q4)else
  if(op==ee)=Q3 then(bif aQ v then bif eb s then bif !jr s then(l.length:Int)==0 else Q4 else Q4 else Q4)else
  if(bif op==mI then Q3 else op==oP)=Q3 then(bif aQ v then bif s==[]then(match l with|[a]=>bq d a|_=>Q4)else Q4 else Q4)else
  if ES op=Q3 then(bif aQ v then bif s==[]then(match l with|[a,b]=>bif bq d a then bq d b else Q4|_=>Q4)else Q4 else Q4)else Q4
def nE:Nat->ze->Nat
 |0,_=>0
 |d+1,.mk _ _ _ l=>1+(l.map (nE d)).sum
theorem Sd(d:Nat)(h:d<=1000):IntKind.i64.wrap (((d+1:Nat):Int)-1)=(d:Int):=qE d um
theorem Gz:∀(N d:Nat)(e:ze),d<=12->d<N->tc e->fX N e (d:Int)=Q1 (bq d e,())
 |0,_,_,_,h,_=>absurd h ow
 | N+1,0,e,_,_,_=>by
  rw[fX];unfold Ic ah de;rfl
 | N+1,d+1,.mk op v s l,h1,h2,hw=>by
  rw[tc]at hw;obtain⟨hv,hs,hl⟩:=hw;have hN:∀a∈l,fX N a (d:Int)=Q1 (bq d a,()):=λa ha=>Gz N d a ow ow (hl.mem a ha)
  rw[fX];unfold Ic ah de;have hx:(((d+1:Nat):Int)==0)=Q4:=bX.2 ow;simp only[OM,Q8,zk,ze.op,ze.v,ze.s,ze.l,lq hv.2.2,oo hv.2.2,xO hs,DD hs,Lm,Pu,Wi,Z1,Sd d ow,if_true,hx]
  match l,hN with
  | [],_=>
   simp only[bq,aQ];rcases zG (op==mH)with c1|c1
   ·rcases zG (bg v)with c5|c5<;>rcases zG (s==[])with c6|c6<;>(simp only[c1,c5,c6,zZ,aq,if_true,if_false,zF,dO];rfl)
   rcases zG (op==ee)with c2|c2
   ·rcases zG (aQ v)with c5|c5<;>rcases zG (eb s)with c6|c6<;>rcases zG (jr s)with c7|c7<;>(simp only[aQ]at c5;simp only[c1,c2,c5,c6,c7,zZ,aq,if_true,if_false,zF,dO,bS,cX];rfl)
   rcases zG (bif op==mI then Q3 else op==oP)with c3|c3
   ·rcases zG (aQ v)with c5|c5<;>rcases zG (s==[])with c6|c6<;>(simp only[aQ]at c5;simp only[c1,c2,c3,c5,c6,zZ,aq,if_true,if_false,zF,dO];rfl)
   rcases zG (ES op)with c4|c4
   ·rcases zG (aQ v)with c5|c5<;>rcases zG (s==[])with c6|c6<;>(simp only[aQ]at c5;simp only[c1,c2,c3,c4,c5,c6,zZ,aq,if_true,if_false,zF,dO];rfl)
   ·simp only[c1,c2,c3,c4,if_false,zF,dO];rfl
  | [a],hN=>
   have ha:=hN a sw;simp only[bq,aQ,show getD [a] (toNat 0) (zj Q5)=a from rfl,ha,show zO 0 [a].length=Q3 from rfl,Fa,show∀x,ox (Q1 (x,()))=x from λ_=>rfl];rcases zG (op==mH)with c1|c1
   ·rcases zG (bg v)with c5|c5<;>rcases zG (s==[])with c6|c6<;>(simp only[c1,c5,c6,zZ,aq,if_true,if_false,zF,dO];rfl)
   rcases zG (op==ee)with c2|c2
   ·rcases zG (aQ v)with c5|c5<;>rcases zG (eb s)with c6|c6<;>rcases zG (jr s)with c7|c7<;>(simp only[aQ]at c5;simp only[c1,c2,c5,c6,c7,zZ,aq,if_true,if_false,zF,dO,bS,cX];rfl)
   rcases zG (bif op==mI then Q3 else op==oP)with c3|c3
   ·rcases zG (aQ v)with c5|c5<;>rcases zG (s==[])with c6|c6<;>rcases zG (bq d a)with c7|c7<;>(simp only[aQ]at c5;simp only[c1,c2,c3,c5,c6,c7,zZ,aq,if_true,if_false,zF,dO];rfl)
   rcases zG (ES op)with c4|c4
   ·rcases zG (aQ v)with c5|c5<;>rcases zG (s==[])with c6|c6<;>rcases zG (bq d a)with c7|c7<;>(simp only[aQ]at c5;simp only[c1,c2,c3,c4,c5,c6,c7,zZ,aq,if_true,if_false,zF,dO];rfl)
   ·simp only[c1,c2,c3,c4,if_false,zF,dO];rfl
  | [a,b],hN=>
   have ha:=hN a sw;have hb:=hN b sw;simp only[bq,aQ,show getD [a,b] (toNat 0) (zj Q5)=a from rfl,show getD [a,b] (toNat 1) (zj Q5)=b from rfl,ha,hb,show zO 0 [a,b].length=Q3 from rfl,show zO 1 [a,b].length=Q3 from rfl,Fa,show∀x,ox (Q1 (x,()))=x from λ_=>rfl];rcases zG (op==mH)with c1|c1
   ·rcases zG (bg v)with c5|c5<;>rcases zG (s==[])with c6|c6<;>(simp only[c1,c5,c6,zZ,aq,if_true,if_false,zF,dO];rfl)
   rcases zG (op==ee)with c2|c2
   ·rcases zG (aQ v)with c5|c5<;>rcases zG (eb s)with c6|c6<;>rcases zG (jr s)with c7|c7<;>(simp only[aQ]at c5;simp only[c1,c2,c5,c6,c7,zZ,aq,if_true,if_false,zF,dO,bS,cX];rfl)
   rcases zG (bif op==mI then Q3 else op==oP)with c3|c3
   ·rcases zG (aQ v)with c5|c5<;>rcases zG (s==[])with c6|c6<;>rcases zG (bq d a)with c7|c7<;>rcases zG (bq d b)with c8|c8<;>(simp only[aQ]at c5;simp only[c1,c2,c3,c5,c6,c7,c8,zZ,aq,if_true,if_false,zF,dO];rfl)
   rcases zG (ES op)with c4|c4
   ·rcases zG (aQ v)with c5|c5<;>rcases zG (s==[])with c6|c6<;>rcases zG (bq d a)with c7|c7<;>rcases zG (bq d b)with c8|c8<;>(simp only[aQ]at c5;simp only[c1,c2,c3,c4,c5,c6,c7,c8,zZ,aq,if_true,if_false,zF,dO];rfl)
   ·simp only[c1,c2,c3,c4,if_false,zF,dO];rfl
  | a::b::c::r,_=>
   have e0:((((a::b::c::r).length:Nat):Int)==0)=Q4:=bX.2 sg;have e1:((((a::b::c::r).length:Nat):Int)==1)=Q4:=bX.2 sg;have e2:((((a::b::c::r).length:Nat):Int)==2)=Q4:=bX.2 sg;simp only[bq,aQ,e0,e1,e2];rcases zG (op==mH)with c1|c1
   ·rcases zG (bg v)with c5|c5<;>rcases zG (s==[])with c6|c6<;>(simp only[c1,c5,c6,zZ,aq,if_true,if_false,zF,dO];rfl)
   rcases zG (op==ee)with c2|c2
   ·rcases zG (aQ v)with c5|c5<;>rcases zG (eb s)with c6|c6<;>rcases zG (jr s)with c7|c7<;>(simp only[aQ]at c5;simp only[c1,c2,c5,c6,c7,zZ,aq,if_true,if_false,zF,dO,bS,cX];rfl)
   rcases zG (bif op==mI then Q3 else op==oP)with c3|c3
   ·rcases zG (aQ v)with c5|c5<;>rcases zG (s==[])with c6|c6<;>(simp only[aQ]at c5;simp only[c1,c2,c3,c5,c6,zZ,aq,if_true,if_false,zF,dO];rfl)
   rcases zG (ES op)with c4|c4
   ·rcases zG (aQ v)with c5|c5<;>rcases zG (s==[])with c6|c6<;>(simp only[aQ]at c5;simp only[c1,c2,c3,c4,c5,c6,zZ,aq,if_true,if_false,zF,dO];rfl)
   ·simp only[c1,c2,c3,c4,aq,if_false,zF,dO];rfl
theorem R1{op:zB}(h:ES op=Q3):op=cY\/op=uw\/op=[61]\/op=[60]\/op=[43]\/op=[45]:=by
 unfold ES at h;rcases zG (op==cY)with c|c
 ·exact .inl (bI c)
 rcases zG (op==uw)with c2|c2
 ·exact .inr (.inl (bI c2))
 rcases zG (op==[61])with c3|c3
 ·exact .inr (.inr (.inl (bI c3)))
 rcases zG (op==[60])with c4|c4
 ·exact .inr (.inr (.inr (.inl (bI c4))))
 rcases zG (op==[43])with c5|c5
 ·exact .inr (.inr (.inr (.inr (.inl (bI c5)))))
 rcases zG (op==[45])with c6|c6
 ·exact .inr (.inr (.inr (.inr (.inr (bI c6)))))
 rw[c,c2,c3,c4,c5,c6]at h;cases h
inductive SB (d:Nat):ze->Prop
 |lit (v:Int×Int×zB) (h:bg v=Q3):SB d (.mk mH v [] [])
 |col (s:zB) (h:eb s=Q3) (h2:jr s=Q4):SB d (.mk ee (0,0,[]) s [])
 |one (op:zB) (a:ze) (h:op=mI\/op=oP) (ha:bq d a=Q3):SB d (.mk op (0,0,[]) [] [a])
 |two (op:zB) (a b:ze) (h:op=cY\/op=uw\/op=[61]\/op=[60]\/op=[43]\/op=[45]) (ha:bq d a=Q3) (hb:bq d b=Q3):SB d (.mk op (0,0,[]) [] [a,b])
theorem CL{v:Int×Int×zB}(h:aQ v=Q3):v=(0,0,[]):=by
 obtain⟨a,b,c⟩:=v;unfold aQ at h;simp at h;obtain⟨rfl,rfl,rfl⟩:=h;rfl
theorem cu{a b:Bool}(h:(bif a then b else Q4)=Q3):a=Q3/\b=Q3:=by
 cases a<;>cases b<;>simp_all
theorem Ry{op:zB}(h:(bif op==mI then Q3 else op==oP)=Q3):op=mI\/op=oP:=by
 rcases zG (op==mI)with k|k
 ·exact .inl (bI k)
 ·rw[k]at h;exact .inr (bI h)
theorem fN{d:Nat}:∀{e:ze},bq (d+1) e=Q3->SB d e
 | .mk op v s [],h=>by
  simp only[bq]at h;split at h
  ·rename_i c;obtain⟨h1,h2⟩:=cu h;obtain⟨h3,h4⟩:=cu h2;rw[bI c,bI h3];exact .lit v h1
  split at h
  ·rename_i c;obtain⟨h1,h2⟩:=cu h;obtain⟨h3,h4⟩:=cu h2;obtain⟨h5,h6⟩:=cu h4;rw[bI c,CL h1];exact .col s h3 (by simpa using h5)
  split at h
  ·cases hh:aQ v<;>cases hs:(s==[])<;>simp[hh,hs]at h
  split at h
  ·cases hh:aQ v<;>cases hs:(s==[])<;>simp[hh,hs]at h
  ·cases h
 | .mk op v s [a],h=>by
  simp only[bq]at h;split at h
  ·cases hh:bg v<;>cases hs:(s==[])<;>simp[hh,hs]at h
  split at h
  ·cases hh:aQ v<;>cases hs:eb s<;>cases hr:jr s<;>simp[hh,hs,hr]at h
  split at h
  ·rename_i c;obtain⟨h1,h2⟩:=cu h;obtain⟨h3,h4⟩:=cu h2;rw[bI h3,CL h1];exact .one op a (Ry c) h4
  split at h
  ·cases hh:aQ v<;>cases hs:(s==[])<;>simp[hh,hs]at h
  ·cases h
 | .mk op v s [a,b],h=>by
  simp only[bq]at h;split at h
  ·cases hh:bg v<;>cases hs:(s==[])<;>simp[hh,hs]at h
  split at h
  ·cases hh:aQ v<;>cases hs:eb s<;>cases hr:jr s<;>simp[hh,hs,hr]at h
  split at h
  ·cases hh:aQ v<;>cases hs:(s==[])<;>simp[hh,hs]at h
  split at h
  ·rename_i c;obtain⟨h1,h2⟩:=cu h;obtain⟨h3,h4⟩:=cu h2;obtain⟨ha,hb⟩:=cu h4;rw[bI h3,CL h1];exact .two op a b (R1 c) ha hb
  ·cases h
 | .mk op v s (a::b::c::r),h=>by
  have e0:((((a::b::c::r).length:Nat):Int)==0)=Q4:=bX.2 sg;simp only[bq,e0]at h;split at h
  ·cases hh:bg v<;>cases hs:(s==[])<;>simp[hh,hs]at h
  split at h
  ·cases hh:aQ v<;>cases hs:eb s<;>cases hr:jr s<;>simp[hh,hs,hr]at h
  split at h
  ·cases hh:aQ v<;>cases hs:(s==[])<;>simp[hh,hs]at h
  split at h
  ·cases hh:aQ v<;>cases hs:(s==[])<;>simp[hh,hs]at h
  ·cases h
theorem sL:∀(d:Nat)(e:ze),bq d e=Q3->nE d e+1<=2^d
 |0,_,h=>by cases h
 | d+1,e,h=>by
  have h2:0<2^d:=Nat.two_pow_pos d;cases fN h with
  |lit v h=>simp[nE,BI];omega
  |col s h h2=>simp[nE,BI];omega
  |one op a h ha=>have:=sL d a ha;simp[nE,BI];omega
  |two op a b h ha hb=>have:=sL d a ha;have:=sL d b hb;simp[nE,BI];omega
theorem zgh{d:Nat}{e:ze}(h:bq d e=Q3):1<=nE d e:=by
 cases d with
 |zero=>cases h
 | succ d=>
  obtain⟨op,v,s,l⟩:=e;rw[nE];omega
theorem W8{n:Nat}(h:n<=1000000):IntKind.i64.wrap (n:Int)=(n:Int):=by
 rw[gp];omega
theorem oy:∀(N d:Nat)(e:ze),d<=12->d<=N->bq d e=Q3->cw N e=Q1 ((nE d e:Int),())
 |_,0,_,_,_,h=>by cases h
 |0,d+1,_,_,h,_=>absurd h ow
 | N+1,d+1,e,h1,h2,h=>by
  have hp:2^(d+1)<=2^12:=E8 ow ow;have hle:=sL (d+1) e h
  have hstep:∀(e:ze)(i:Nat)(n k:Nat)(hi:i<(ze.l e).length),cw N (ze.l e)[i]=Q1 ((k:Int),())->n+k<=1000000->i<=1000->
    (D7 (λx0=>iN (cw N x0)) (λx0=>(cw N x0).isSome) (.h3 (n:Int) (i:Int) (e,()))).val=Q1 (.inl (.h3 ((n+k:Nat):Int) ((i+1:Nat):Int) (e,()))):=by
   intro e i n k hi k1 k2 k3;have g0:getD (ze.l e) (i:Int).toNat (zj Q5)=(ze.l e)[i]:=af _ _ hi;simp only[D7,IW,D8,Q8,g0,zk,k1,zJ hi,zw hi,Fa,if_true];show Q1 (Sum.inl (ui.h3 (IntKind.i64.wrap ((n:Int)+(k:Int))) _ _))=_;rw[zr i um,<-ul,W8 k2]
  have hend:∀(e:ze)(n:Nat),(D7 (λx0=>iN (cw N x0)) (λx0=>(cw N x0).isSome) (.h3 (n:Int) ((ze.l e).length:Int) (e,()))).val=Q1 (.inr (.int .i64 n,[])):=by
   intro e n;simp only[D7,IW,D8,Q8,zC];rfl
  have hgo:∀e,(ON (λx0=>iN (cw N x0)) (λx0=>(cw N x0).isSome) e).val=Q1 (.inl (.h3 ((1:Nat):Int) ((0:Nat):Int) (e,()))):=λ_=>rfl
  rw[cw];unfold Lc;cases fN h with
  |lit v h=>exact zy (hgo _) (zX.of (hend _ 1)) ow rfl
  |col s h h2=>exact zy (hgo _) (zX.of (hend _ 1)) ow rfl
  | one op a h ha=>
   have ka:=oy N d a ow ow ha;have l1:=sL d a ha;have p1:2^d<=2^12:=E8 ow ow;refine zy (hgo _) ((zT.of (hstep (.mk op (0,0,[]) [] [a]) 0 1 (nE d a) (by simp[ze.l]) ka ow ow)).ends (zX.of (hend (.mk op (0,0,[]) [] [a]) _))) ow ?_;simp[nE];rfl
  | two op a b h ha hb=>
   have ka:=oy N d a ow ow ha;have kb:=oy N d b ow ow hb;have l1:=sL d a ha;have l2:=sL d b hb;have p1:2^d<=2^12:=E8 ow ow;refine zy (hgo _) ((zT.of (hstep (.mk op (0,0,[]) [] [a,b]) 0 1 (nE d a) (by simp[ze.l]) ka ow ow)).ends ((zT.of (hstep (.mk op (0,0,[]) [] [a,b]) 1 (1+nE d a) (nE d b) (by simp[ze.l]) kb ow ow)).ends (zX.of (hend (.mk op (0,0,[]) [] [a,b]) _)))) ow ?_;simp[nE,Nat.add_assoc];rfl
theorem ra:∀(N k:Nat)(e:ze)(n:Nat),k<=12->k<=N->bq k e=Q3->n+nE k e<=60->iw N e ((13:Int)-k) n=(Q3,((n+nE k e:Nat):Int))
 |_,0,_,_,_,_,h,_=>by cases h
 |0,k+1,_,_,_,h,_,_=>absurd h ow
 | N+1,k+1,e,n,h1,h2,h,h3=>by
  rw[iw];unfold Aq;have w1:IntKind.i64.wrap ((n:Int)+1)=((n+1:Nat):Int):=zr n um;have w2:IntKind.i64.wrap ((13:Int)-((k+1:Nat):Int)+1)=(13:Int)-(k:Int):=by rw[gp];omega
  have d1:Q0 ((13:Int)-((k+1:Nat):Int)>12)=Q4:=ao ow;have hpos:=zgh h;have d2:Q0 (((n+1:Nat):Int)>60)=Q4:=ao ow;rw[w1,d1,d2];cases fN h with
  |lit v hv=>simp[ze.op,ze.l,ze.s,ze.v,cR,yT,PI,hv,nE]
  |col s hw h2=>simp[ze.op,ze.l,ze.s,ze.v,cR,yT,PI,hw,h2,nE,aQ]
  | one op a ho ha=>
   have hn:n+1+nE k a<=60:=by simp[nE]at h3;omega
   have ka:=ra N k a (n+1) ow ow ha hn;have hs:((n+nE (k+1) (.mk op (0,0,[]) [] [a]):Nat):Int)=((n+1+nE k a:Nat):Int):=by simp[nE];omega
   rw[hs]
   push_cast at*
   rcases ho with rfl|rfl<;>simp[ze.op,ze.l,ze.s,ze.v,cR,yT,PI,aQ,pd,w2,ka]
  | two op a b ho ha hb=>
   have hn:n+1+nE k a+nE k b<=60:=by simp[nE]at h3;omega
   have ka:=ra N k a (n+1) ow ow ha ow;have kb:=ra N k b (n+1+nE k a) ow ow hb hn;have hs:((n+nE (k+1) (.mk op (0,0,[]) [] [a,b]):Nat):Int)=((n+1+nE k a+nE k b:Nat):Int):=by simp[nE];omega
   rw[hs]
   push_cast at*
   rcases ho with rfl|rfl|rfl|rfl|rfl|rfl<;>simp[ze.op,ze.l,ze.s,ze.v,cR,yT,PI,aQ,pd,w2,ka,kb]
end Cad
