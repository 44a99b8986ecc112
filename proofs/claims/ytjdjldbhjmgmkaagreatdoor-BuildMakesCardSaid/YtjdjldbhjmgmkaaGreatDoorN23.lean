/- Build. -/
import Derived.Test.YtjdjldbhjmgmkaaGreatDoorN22
namespace Cad
open Go Go.Proofs Tryz
open List renaming length->N
open IntKind renaming wrap->Γ,i64->Δ
open AO renaming box->Qa
open Sh renaming expr->Q5
open Bool renaming true->Z,false->M
open Option renaming none->Q2,some->Y
open Decidable renaming decide->K,decide->Q0
open List renaming getD->T
open Tr (chk br re)
open AV (nils agg tup ptr kb)
open AV renaming sl->O,str->X
open Cad renaming Sem->L,ze->R,ow->S,ai->J
set_option maxHeartbeats 4000000
set_option maxRecDepth 100000
noncomputable section
section
variable {p:L zZ} {src:List (L zl)} {u:L R} {rows:List (List (L R))}
theorem ZK{a b:Int}(h:p.t.1=[a,b])(A:∀row∈rows,zK b (N row)=Z)(D:N rows<=1000):CT (p,src) u rows=Y (ite (rows=[]) [] [[u,rows.foldl (wJ p) (1,0,[])]],()):=by
 by_cases d:rows=[]
 .subst d;exact zQ (r:=(nils,[])) rfl rfl
 rw[zh d];have j:((N rows:Int)==0)=M:=by
  have:=List.length_pos_iff.2 d;rw[dM];omega
 have z:(znx (p,src) u rows).val=Y (.inl (.h5 rows (N rows:Int) ((0:Nat):Int) ((p,src),()) (u,()) ((1,0,[]),()))):=by
  simp only[znx,Tr.val,j,zA,zm];rfl
 have s:zK 1 (N p.t.1)=Z:=by rw[h];rfl
 have n:T p.t.1 (Int.toNat 1) (zj zk)=b:=by rw[h];rfl
 have g:=zG.all (t:=zgE) 1 (λi=>.h5 rows (N rows:Int) (i:Int) ((p,src),()) (u,()) ((rows.take i).foldl (wJ p) (1,0,[]),())) (N rows) λi B=>zG.of (by
  grind[zgE,Tr.val,zu,zP,aQ,zt,aF,wJ])
 simp only[eF,List.take_zero,List.foldl_nil]at g;refine zz z (g.ends (zV.of (r:=(O ze.sl [[u,rows.foldl (wJ p) (1,0,[])]],[])) ?_)) S rfl;grind[zgE,Tr.val]
end
section
variable {db:List (L zl)} {p:L zZ}
theorem UV(h:aw db p){row:zr}(b:row∈(cN db p).2):N row<=1000:=aV (h.len b) S
theorem zfw(h:aw db p)(m:jG db p)(hj:p.1=fD)(u:zo){rows:List zr}(hR:∀row∈rows,row∈sQ db p u)(H:N rows<=200):KG (p,zD db p) u rows=Y (rows.map (lw p (zD db p) u),()):=by
 have⟨_,y,D,yo,yw,yc,yr⟩:=m.join hj;have g:∀row∈rows,N row<=1000/\g7 y y.1.q.1 u=Z:=λrow hr=>by
  grind[wB,bI,UV]
 have j:∀row,lw p (zD db p) u row=row++gO p (T y.2 (al (λr=>bG r y.1.q.1 u) y.2 0).toNat (zj ze.sl)):=λrow=>by
  unfold lw;rw[zf hj,D];rfl
 have⟨f1,f2⟩:=PN u yo.may;have e0:zK 1 (N (zD db p))=Z:=by rw[D];rfl
 have G:T (zD db p) (Int.toNat 1) (zj zl)=y:=by rw[D];rfl
 generalize zD db p=src at j e0 G|-;rcases ei (λr=>bG r y.1.q.1 u) y.2 0 with⟨A,_⟩|⟨k,B,A,_,_⟩
 .have hn:rows=[]:=List.eq_nil_iff_forall_not_mem.2 λrow hr=>by
   grind[g7]
  subst hn;refine zQ (r:=(nils,[])) ?_ rfl;grind[zfv,Tr.val,zn]
 .rw[eI]at A;have s:K (LT.lt (α:=Int) (k:Int) 0)=M:=aC S;have d:∀c∈p.t.1,zK c (N y.2[k])=Z:=λc hc=>by
   grind[cq,eb.fits]
  have hp:=Uw (src:=src) d m.few;have c1:Ac (p,src) y.2[k]=Z:=by unfold Ac;rw[hp];rfl
  have F:Ix (p,src) y.2[k]=gO p y.2[k]:=by unfold Ix;rw[hp];rfl
  have z:(gO p y.2[k]).length<=1000:=by unfold gO;rw[cY];exact m.few
  have n:rows.map (lw p src u)=rows.map (λrow=>row++gO p y.2[k]):=List.map_congr_left λrow _=>by rw[j,A,zP _ _ B]
  rw[n];generalize gO p y.2[k]=b at F z|-;have hs:(zfv (p,src) u rows).val=Y (.inl (.h7 b rows (N rows:Int) ((0:Nat):Int) [])):=by
   simp only[zfv,Tr.val,zn,aN,e0,G,f1,f2,A,s,zu B,zP _ _ B,c1,F,zA,zi,zm];rfl
  have hg:=zG.all (t:=zgC) 1 (λi=>.h7 b rows (N rows:Int) (i:Int) ((rows.take i).map λrow=>row++b)) (N rows) λi hi=>zG.of (by
   have hq:=zeJ (g _ (bh hi)).1 z;have d1:Yz [rows[i],b]=Z:=by unfold Yz;rw[hq];rfl
   have d2:zmL [rows[i],b]=rows[i]++b:=by unfold zmL;rw[hq];rfl
   have d3:K (((rows.take i).map λrow=>row++b).length+[rows[i]++b].length<=1073741824)=Z:=by simp;omega
   grind[zgC,Tr.val,zu,zP,zt,aF,aQ])
  simp only[eF,List.take_zero,oG]at hg;refine zz hs (hg.ends (zV.of (r:=(AV.vec 0,[AO.vec ze.sl (rows.map λrow=>row++b)])) ?_)) S rfl;grind[zgC,Tr.val]
theorem TN(h:aw db p)(m:jG db p)(u:zo){R:List zr}(B:∀row∈R,row∈sQ db p u)(g:N R<=200):
  Ea (p,zD db p) u R=Y ((qb p (zD db p) u R).filter (λr=>cm p.r.1 r==(0:Int)),(((qb p (zD db p) u R).length-((qb p (zD db p) u R).filter λr=>cm p.r.1 r==(0:Int)).length:Nat):Int),()):=by
 have s:(qb p (zD db p) u R).length<=200:=by
  unfold qb;split
  .split<;>simp
  .rw[cY];exact g
 have H:(Z1 (p,zD db p) u R).val=Y (.inl (.h5 0 (qb p (zD db p) u R) ((qb p (zD db p) u R).length:Int) ((0:Nat):Int) ((p,zD db p),()) [])):=by
  rcases h.mig with e|e|e
  .have d:=zeK (src:=zD db p) (u:=u) (rows:=R) (λrow F c d=>by
    have⟨G,_⟩:=wB (B row F);rw[(h.inn _ G).2];exact(m.copy e).1 c d) m.few S
   have z:QM (p,zD db p) u R=Z:=by unfold QM;rw[d];rfl
   have A:Yl (p,zD db p) u R=qb p (zD db p) u R:=by
    unfold Yl qb;rw[d,zh (by rw[e];decide)];refine List.map_congr_left λrow _=>?_
    unfold lw;rw[zh (by rw[e];decide)]
   grind[Z1,Tr.val,zn]
  .have d:=zfw h m e u B g;have z:QO (p,zD db p) u R=Z:=by unfold QO;rw[d];rfl
   have A:Ym (p,zD db p) u R=qb p (zD db p) u R:=by
    unfold Ym qb;rw[d,zh (by rw[e];decide)];rfl
   grind[Z1,Tr.val,zn]
  .have⟨_,a,b,j,ha,hb⟩:=m.group e;have d:=ZK (src:=zD db p) (u:=u) (rows:=R) j (λrow F=>by
    have⟨G,_⟩:=wB (B row F);rw[(h.inn _ G).2];exact hb) S
   have z:KF (p,zD db p) u R=Z:=by unfold KF;rw[d];rfl
   have A:QN (p,zD db p) u R=qb p (zD db p) u R:=by
    unfold QN qb;rw[d,zf e];rfl
   have b1:(p.1==dp)=M:=by rw[e];rfl
   have b2:(p.1==fD)=M:=by rw[e];rfl
   have b3:(p.1==na)=Z:=by rw[e];rfl
   simp only[Z1,Tr.val,zn,aN,b1,b2,b3,z,A,zA,zi,zm];rfl
 generalize qb p (zD db p) u R=rows at s H|-;have n:=zG.all (t:=zgy) 1 (λi=>.h5 ((i-((rows.take i).filter λr=>cm p.r.1 r==(0:Int)).length:Nat):Int) rows (N rows:Int) (i:Int) ((p,zD db p),()) ((rows.take i).filter λr=>cm p.r.1 r==(0:Int))) (N rows) λi hi=>zG.of (by
  have D:((rows.take i).filter λr=>cm p.r.1 r==(0:Int)).length<=i:=aV (List.length_filter_le _ _) sg;rw[aQ hi,List.filter_append];generalize((rows.take i).filter λr=>cm p.r.1 r==(0:Int))=h0 at D|-;grind[zgy,Tr.val,zn,zu,zt,aF])
 simp only[eF,List.take_zero,List.filter_nil]at n;refine zz H (n.ends (zV.of (r:=(tup [AV.vec 0,J ((N rows-(rows.filter λr=>cm p.r.1 r==(0:Int)).length:Nat):Int)],[AO.vec ze.sl (rows.filter λr=>cm p.r.1 r==(0:Int))])) ?_)) S rfl;grind[zgy,Tr.val]
theorem ZA(h:aw db p)(m:jG db p)(u:zo):Ea (p,zD db p) u (sQ db p u)=Y (cA db p u,((lC db p u:Nat):Int),()):=TN h m u (λ_ h=>h) (aV (List.length_filter_le _ _) h.rel.few)
theorem ze1(h:aw db p)(m:jG db p)(u:zo):Ea (p,zD db p) u []=Y ([],0,()):=by grind[qb,TN]
theorem zcv(h:aw db p)(u:zo):M3 p (zD db p) u=Y (sQ db p u,0,()):=by
 have⟨F,G⟩:=xH h.go;have l0:=(lL h.go.two).1;have A:(znr p (zD db p) u).val=Y (.inl (.h6 (bI p (zD db p)) (cN db p).2 ((cN db p).2.length:Int) ((0:Nat):Int) (u,()) [])):=by
  simp only[znr,zn,aN,Tr.val,F,G,h.pc.1,h.pc.2,show zK 0 (zD db p).length=Z from zu (i:=0) l0,gj,zA,zi,zm];rfl
 have d:∀row∈(cN db p).2,zK (bI p (zD db p)) (N row)=Z/\N row<=1000:=λrow D=>⟨(h.inn row D).1,UV h D⟩
 have g:=h.rel.few;unfold sQ;generalize(cN db p).2=l at A d g|-;generalize bI p (zD db p)=b at A d|-;have B:=zG.all (t:=zgA) 1 (λi=>.h6 b l (N l:Int) (i:Int) (u,()) ((l.take i).filter (rW b u))) (N l) λi j=>zG.of (by
  have⟨x1,x2⟩:=d l[i] (bh j);have s:((l.take i).filter (rW b u)).length<=200:=aV (List.length_filter_le _ _) sg;rw[aQ j,List.filter_append];generalize(l.take i).filter (rW b u)=n at s|-;have H:K (N n+[l[i]].length<=1073741824)=Z:=by simp;omega
  have z:K (N l[i]<=1073741824)=Z:=by simp;omega
  simp only[zgA,Tr.val,zM j,zu j,zP _ _ j,x1,H,z,zi];rw[zt i um];show(ite (rW b u l[i]=Z) _ _)=_;cases hh:rW b u l[i]<;>simp[hh])
 simp only[eF,List.take_zero,List.filter_nil]at B;refine zz A (B.ends (zV.of (r:=(tup [AV.vec 0,J 0],[AO.vec ze.sl (l.filter (rW b u))])) ?_)) S rfl;grind[zgA,Tr.val]
theorem Yo(h:aw db p)(m:jG db p)(u:zo):KI p (zD db p) u=Y (cA db p u,((lC db p u:Nat):Int),0,()):=by
 have h1:=zcv h u;have h2:=ZA h m u;have b:SZ p (zD db p) u=Z:=by unfold SZ;rw[h1];rfl
 have d:zcu p (zD db p) u=(sQ db p u,0):=by unfold zcu;rw[h1];rfl
 have g:Iw (p,zD db p) u (sQ db p u)=Z:=by unfold Iw;rw[h2];rfl
 have i:VO (p,zD db p) u (sQ db p u)=(cA db p u,((lC db p u:Nat):Int)):=by unfold VO;rw[h2];rfl
 refine zQ (r:=(tup [O ze.sl (cA db p u),J ((lC db p u:Nat):Int),J 0],[])) ?_ rfl;grind[ztT,Tr.val,zn]
end
def zhj:ak:=bj (List.replicate 1 Q2) (ff N7 f93 (List.replicate 1 Q2))
theorem zdh:FK 93 zhj:=cr _ lV (cM kw)
def zhN:ak:=bj (List.replicate 2 Q2) (ff N7 f162 (List.replicate 2 Q2))
theorem zdJ:FK 162 zhN:=cr _ lV (cM kw)
def Rr:=N7.addL [(93,zhj),(162,zhN)]
theorem EM:zx Rr:=lV.addL<|fc zdh<|fc zdJ<|iP
def zhl:ak:=bj (List.replicate 3 Q2) (ff Rr f94 (List.replicate 3 Q2))
theorem zdj:FK 94 zhl:=cr _ EM (cM kw)
def EN:=Rr.add 94 zhl
theorem EO:zx EN:=EM.add zdj
abbrev zah:=kr [(1,[0,1,2,3,8]),(4,[0,1,2,3,8,9])]
inductive BE where
 |h1 (i1:Int) (i2:Int) (i3f_0_0:Int) (i8:Int) (lh_0:List (L ze.sl))
 |h4 (i1:Int) (i2:Int) (i3f_0_0:Int) (i8:Int) (i9:Int) (lh_0:List (L ze.sl))
abbrev NQ:BE->Nat×St
 |.h1 b d i g h=>(1,⟨tm 53 [(0,AV.vec 0),(1,J b),(2,J d),(3,AV.clo (Fn.func 94) [agg [J i]] []),(8,J g)],[AO.vec ze.sl h]⟩)
 |.h4 b d i g j h=>(4,⟨tm 53 [(0,AV.vec 0),(1,J b),(2,J d),(3,AV.clo (Fn.func 94) [agg [J i]] []),(8,J g),(9,J j)],[AO.vec ze.sl h]⟩)
theorem zon:aa EN.P 223 f223 4:=cM kw
def OA(l:List zr)(a b k:Int):Tr (BE⊕ay):=
 Tr.to (BE.h1 a b k (Γ Δ (a+1)) l)
theorem zm1(l:List zr)(a b k:Int):rn EN 1 zah f223 [AV.vec 0,J a,J b,AV.clo (Fn.func 94) [agg [J k]] []] [AO.vec (Sh.sl R) l]=(OA l a b k).map (lf f223 NQ):=kw
def kS:BE->Tr (BE⊕ay)
 | .h1 n D i s h=>
  br (K (s<D)) (Tr.to (BE.h4 n D i s s h))
  (re (tup []) [AO.vec ze.sl h])
 | .h4 n D i s b h=>
  let H:=K (b.toNat<N h)
  let d:=Γ Δ (b-1)
  let a2:=zK d (N h)
  let a3:=K (d.toNat<N h)
  let a4:=K (i<0)
  let F:=h.getD b.toNat (zj ze.sl)
  let a6:=(N F:Int)
  let a7:=bif a4 then Z else K (i>=a6)
  let G:=h.getD d.toNat (zj ze.sl)
  let a9:=(N G:Int)
  let g:=bif a4 then Z else K (i>=a9)
  let z:=bif g then Z else zK i (N G)
  let A:=T G i.toNat (zj R)
  let B:=T F i.toNat (zj R)
  let h0:=bif a7 then bif g then an (0,0,[]) (0,0,[])else an (0,0,[]) A else bif g then an B (0,0,[])else an B A
  let j:=h.set b.toNat G
  chk (cond (K (b>n)) (zK b (N h)&&(H&&(a2&&(a3&&bif a7 then z else zK i (N F)&&z)))) Z)
  (br (cond (K (b>n)) (K (h0<0)) M) (chk a2 (chk a3 (chk (zK b (N h)) (chk H (chk (zK b (N h)) (chk H (chk (zK d (N j)) (chk (K (d.toNat<N j)) (Tr.to (BE.h4 n D i s d (j.set d.toNat F))))))))))) (Tr.to (BE.h1 n D i (Γ Δ (s+1)) h)))
theorem zou:∀s,run EN 1 zah (Func.results f223).toList 400 (aq f223 (NQ s).1) (NQ s).2=(kS s).map (lf f223 NQ):=by intro s;cases s<;>kernel_rfl
def Fu(l:List zr)(a b k:Int):=bT kS 100000000 (OA l a b k)
def M5(r:Option ay):Option (List zr):=match r with
 |some (.tup [],[.vec (.sl Pc) l])=>Y l
 |_=>Q2
theorem uw{r:Option ay}(h:(M5 r).isSome=Z):r=Y (.tup [],[.vec (.sl R) ((M5 r).getD [])]):=by
 unfold M5 at h|-;split at h
 .rfl
 .cases h
def rX(l:List zr)(a b k:Int):=M5 (Fu l a b k)
def zh6:fA [Q2,Q2,Q2,Q2]:=λx h=>match x,h with
 |(.vec 0,J a,J b,.clo (.func 94) [.agg [J k]] [],_),[.vec (.sl Pc) l]=>.chk ((rX l a b k).isSome) (.ok (.tup [],[.vec (.sl R) ((rX l a b k).getD [])]))
 |_,_=>.err
def zhR:ak:=bj [Q2,Q2,Q2,Q2] zh6
theorem zdN:FK 223 zhR:=by
 refine sX (ι:=List zr×Int×Int×Int) (args:=λy=>[AV.vec 0,J y.2.1,J y.q.1,AV.clo (Fn.func 94) [agg [J y.r]] []]) (heap:=λy=>[AO.vec ze.sl y.1]) (i:=λy=>OA y.1 y.2.1 y.q.1 y.r) (t:=kS) (e:=NQ) (n:=100000000) (n0:=1) EO zon (λ_=>rfl) (λy=>zm1 _ _ _ _) zou (λx h g d=>?_);unfold zh6 at d;split at d
 .rename_i a b k u l;simp only[Tr.val]at d;split at d
  next h1=>simp only[bH]at d;subst d;exact⟨(l,a,b,k),rfl,rfl,uw h1⟩
  .cases d
 .simp at d
def EP:=EN.add 223 zhR
theorem EQ:zx EP:=EO.add zdN
abbrev zak:=kr [(1,[0,1,2,3,10])]
inductive Ig where
 |h1 (i1:Int) (i2:Int) (i3:Int) (i10:Int) (lh_0:List (L ze.sl))
abbrev NT:Ig->Nat×St
 |.h1 b d g i h=>(1,⟨tm 38 [(0,AV.vec 0),(1,J b),(2,J d),(3,J g),(10,J i)],[AO.vec ze.sl h]⟩)
theorem zop:aa EP.P 305 f305 5:=cM kw
def ZY(l:List zr)(a b n _:Int):Tr (Ig⊕ay):=
 Tr.to (Ig.h1 a b n 0 l)
theorem zm7(l:List zr)(a b n k:Int):rn EP 1 zak f305 [AV.vec 0,J a,J b,J n,AV.clo (Fn.func 94) [agg [J k]] []] [AO.vec (Sh.sl R) l]=(ZY l a b n k).map (lf f305 NT):=kw
def yL:Ig->Tr (Ig⊕ay)
 | .h1 s z A i h=>
  let b:=Γ Δ (z+i)
  let d:=Γ Δ (s+i)
  let j:=zK d (N h)
  let n:=K (d.toNat<N h)
  let g:=h.set d.toNat (h.getD b.toNat (zj ze.sl))
  br (K (i<A))
  (chk (zK b (N h)) (chk (K (b.toNat<N h)) (chk j (chk n (chk j (chk n (chk (zK b (N g)) (chk (K (b.toNat<N g)) (Tr.to (Ig.h1 s z A (Γ Δ (i+1)) (g.set b.toNat (h.getD d.toNat (zj ze.sl)))))))))))))
  (re (tup []) [AO.vec ze.sl h])
theorem zox:∀s,run EP 1 zak (Func.results f305).toList 400 (aq f305 (NT s).1) (NT s).2=(yL s).map (lf f305 NT):=by intro s;cases s<;>kernel_rfl
def zo6(l:List zr)(a b n k:Int):=bT yL 100000000 (ZY l a b n k)
def ML(l:List zr)(a b n k:Int):=M5 (zo6 l a b n k)
def zh8:fA [Q2,Q2,Q2,Q2,Q2]:=λx h=>match x,h with
 |(.vec 0,J a,J b,J n,.clo (.func 94) [.agg [J k]] [],_),[.vec (.sl Pc) l]=>.chk ((ML l a b n k).isSome) (.ok (.tup [],[.vec (.sl R) ((ML l a b n k).getD [])]))
 |_,_=>.err
def zhW:ak:=bj [Q2,Q2,Q2,Q2,Q2] zh8
theorem zdS:FK 305 zhW:=by
 refine sX (ι:=List zr×Int×Int×Int×Int) (args:=λy=>[AV.vec 0,J y.2.1,J y.q.1,J y.r.1,AV.clo (Fn.func 94) [agg [J y.t]] []]) (heap:=λy=>[AO.vec ze.sl y.1]) (i:=λy=>ZY y.1 y.2.1 y.q.1 y.r.1 y.t) (t:=yL) (e:=NT) (n:=100000000) (n0:=1) EQ zop (λ_=>rfl) (λy=>zm7 _ _ _ _ _) zox (λx h g d=>?_);unfold zh8 at d;split at d
 .rename_i a b n k u l;simp only[Tr.val]at d;split at d
  next h1=>simp only[bH]at d;subst d;exact⟨(l,a,b,n,k),rfl,rfl,uw h1⟩
  .cases d
 .simp at d
def ER:=EP.add 305 zhW
theorem ES:zx ER:=EQ.add zdS
abbrev zaj:=kr [(2,[0,2,4,10,11])]
inductive DT where
 |h2 (i2:Int) (i4f_0_0:Int) (i10:Int) (i11:Int) (lh_0:List (L ze.sl))
abbrev NS:DT->Nat×St
 |.h2 g i b d h=>(2,⟨tm 58 [(0,AV.vec 0),(2,J g),(4,AV.clo (Fn.func 94) [agg [J i]] []),(10,J b),(11,J d)],[AO.vec ze.sl h]⟩)
theorem zoo:aa ER.P 267 f267 5:=cM kw
def OB(l:List zr)(a m b k:Int):Tr (DT⊕ay):=
 Tr.to (DT.h2 m k (Γ Δ (m-a)) (Γ Δ (b-m)) l)
theorem zm6(l:List zr)(a m b k:Int):rn ER 1 zaj f267 [AV.vec 0,J a,J m,J b,AV.clo (Fn.func 94) [agg [J k]] []] [AO.vec (Sh.sl R) l]=(OB l a m b k).map (lf f267 NS):=kw
def sK:DT->Tr (DT⊕ay)
 | .h2 g i h b d=>
  let j:=Γ Δ (g-h)
  let n:=ML d j g b i
  let s:=ML d j (Γ Δ (Γ Δ (g+b)-h)) h i
  let z:=ML d j g h i
  br (h !=b)
  (br (K (h>b)) (chk n.isSome (Tr.to (DT.h2 g i (Γ Δ (h-b)) b (n.getD [])))) (chk s.isSome (Tr.to (DT.h2 g i h (Γ Δ (b-h)) (s.getD [])))))
  (chk z.isSome (re (tup []) [AO.vec ze.sl (z.getD [])]))
theorem zow:∀s,run ER 1 zaj (Func.results f267).toList 400 (aq f267 (NS s).1) (NS s).2=(sK s).map (lf f267 NS):=by intro s;cases s<;>kernel_rfl
def zbW(l:List zr)(a m b k:Int):=bT sK 100000000 (OB l a m b k)
def Mu(l:List zr)(a m b k:Int):=M5 (zbW l a m b k)
def zh7:fA [Q2,Q2,Q2,Q2,Q2]:=λx h=>match x,h with
 |(.vec 0,J a,J m,J b,.clo (.func 94) [.agg [J k]] [],_),[.vec (.sl Pc) l]=>.chk ((Mu l a m b k).isSome) (.ok (.tup [],[.vec (.sl R) ((Mu l a m b k).getD [])]))
 |_,_=>.err
def zhV:ak:=bj [Q2,Q2,Q2,Q2,Q2] zh7
theorem zdR:FK 267 zhV:=by
 refine sX (ι:=List zr×Int×Int×Int×Int) (args:=λy=>[AV.vec 0,J y.2.1,J y.q.1,J y.r.1,AV.clo (Fn.func 94) [agg [J y.t]] []]) (heap:=λy=>[AO.vec ze.sl y.1]) (i:=λy=>OB y.1 y.2.1 y.q.1 y.r.1 y.t) (t:=sK) (e:=NS) (n:=100000000) (n0:=1) ES zoo (λ_=>rfl) (λy=>zm6 _ _ _ _ _) zow (λx h g d=>?_);unfold zh7 at d;split at d
 .rename_i a m b k u l;simp only[Tr.val]at d;split at d
  next h1=>simp only[bH]at d;subst d;exact⟨(l,a,m,b,k),rfl,rfl,uw h1⟩
  .cases d
 .simp at d
def KX:=ER.add 267 zhV
theorem ET:zx KX:=ES.add zdR
abbrev SM:=List zr->Int->Int->Int->Int->Option (List zr)
def GSm(o:SM):fA [Q2,Q2,Q2,Q2,Q2]:=λx h=>match x,h with
 |(.vec 0,J a,J m,J b,.clo (.func 94) [.agg [J k]] [],_),[.vec (.sl Pc) l]=>.chk ((o l a m b k).isSome) (.ok (.tup [],[.vec (.sl R) ((o l a m b k).getD [])]))
 |_,_=>.err
def FSm(o:SM):ak:=bj [Q2,Q2,Q2,Q2,Q2] (GSm o)
def Ev(o:SM):cy:=KX.add 224 (FSm o)
theorem Rm{o:SM}(h:FK 224 (FSm o)):zx (Ev o):=ET.add h
abbrev zai:=kr [(3,[0,1,4,10,11]),(9,[0,10,13]),(15,[0,2,4,14,15]),(21,[0,14,17]),(33,[0,1,2,3,4,18,19,20,21,22])]
inductive jJ where
 |h3 (i1:Int) (i4f_0_0:Int) (i10:Int) (i11:Int) (lh_0:List (L ze.sl))
 |h15 (i2:Int) (i4f_0_0:Int) (i14:Int) (i15:Int) (lh_0:List (L ze.sl))
 |h33 (i1:Int) (i2:Int) (i3:Int) (i4f_0_0:Int) (i18:Int) (i19:Int) (i20:Int) (i21:Int) (i22:Int) (lh_0:List (L ze.sl))
 |h9 (i10:Int) (i13:Int) (lh_0:List (L ze.sl))
 |h21 (i14:Int) (i17:Int) (lh_0:List (L ze.sl))
abbrev NR:jJ->Nat×St
 |.h3 g i b j h=>(3,⟨tm 220 [(0,AV.vec 0),(1,J g),(4,AV.clo (Fn.func 94) [agg [J i]] []),(10,J b),(11,J j)],[AO.vec ze.sl h]⟩)
 |.h15 D i d s h=>(15,⟨tm 220 [(0,AV.vec 0),(2,J D),(4,AV.clo (Fn.func 94) [agg [J i]] []),(14,J d),(15,J s)],[AO.vec ze.sl h]⟩)
 |.h33 g D i3 i A B F G H h=>(33,⟨tm 220 [(0,AV.vec 0),(1,J g),(2,J D),(3,J i3),(4,AV.clo (Fn.func 94) [agg [J i]] []),(18,J A),(19,J B),(20,J F),(21,J G),(22,J H)],[AO.vec ze.sl h]⟩)
 |.h9 b n h=>(9,⟨tm 220 [(0,AV.vec 0),(10,J b),(13,J n)],[AO.vec ze.sl h]⟩)
 |.h21 d z h=>(21,⟨tm 220 [(0,AV.vec 0),(14,J d),(17,J z)],[AO.vec ze.sl h]⟩)
theorem Lt(o:SM):aa (Ev o).P 224 f224 5:=cM kw
def qP(_:SM)(l:List zr)(a m b k:Int):Tr (jJ⊕ay):=
 let h:=Γ Δ (IntKind.u64.wrap (Γ Δ (a+b))/2)
 let d:=Γ Δ (h+m)
 let g:=Γ Δ (d-1)
 br (Γ Δ (m-a)==1) (Tr.to (jJ.h3 a k m b l))
 (br (Γ Δ (b-m)==1) (Tr.to (jJ.h15 m k a m l))
  (chk Z (br (K (m>h)) (Tr.to (jJ.h33 a m b k h d (Γ Δ (d-b)) h g l)) (Tr.to (jJ.h33 a m b k h d a m g l)))))
theorem zm2(o:SM)(l:List zr)(a m b k:Int):rn (Ev o) 1 zai f224 [AV.vec 0,J a,J m,J b,AV.clo (Fn.func 94) [agg [J k]] []] [AO.vec (Sh.sl R) l]=(qP o l a m b k).map (lf f224 NR):=kw
def cv(o:SM):jJ->Tr (jJ⊕ay)
 | .h3 H i A h5 h=>
  let b:=Γ Δ (IntKind.u64.wrap (Γ Δ (A+h5))/2)
  let j:=K (i<0)
  let z:=h.getD b.toNat (zj ze.sl)
  let a3:=(N z:Int)
  let a4:=bif j then Z else K (i>=a3)
  let a5:=h.getD H.toNat (zj ze.sl)
  let a6:=(N a5:Int)
  let a7:=bif j then Z else K (i>=a6)
  let a8:=bif a7 then Z else zK i (N a5)
  let a9:=T a5 i.toNat (zj R)
  let n:=T z i.toNat (zj R)
  let G:=bif a4 then bif a7 then an (0,0,[]) (0,0,[])else an (0,0,[]) a9 else bif a7 then an n (0,0,[])else an n a9
  br (K (A<h5))
  (chk Z (chk (zK b (N h)) (chk (K (b.toNat<N h)) (chk (zK H (N h)) (chk (K (H.toNat<N h)) (chk (cond a4 a8 (zK i (N z)&&a8)) (br (K (G<0)) (Tr.to (jJ.h3 H i (Γ Δ (b+1)) h5 h)) (Tr.to (jJ.h3 H i A b h)))))))))
  (Tr.to (jJ.h9 A H h))
 | .h15 i2 i D h6 h=>
  let b:=Γ Δ (IntKind.u64.wrap (Γ Δ (D+h6))/2)
  let j:=K (i<0)
  let z:=h.getD i2.toNat (zj ze.sl)
  let a3:=(N z:Int)
  let a4:=bif j then Z else K (i>=a3)
  let a5:=h.getD b.toNat (zj ze.sl)
  let a6:=(N a5:Int)
  let a7:=bif j then Z else K (i>=a6)
  let a8:=bif a7 then Z else zK i (N a5)
  let a9:=T a5 i.toNat (zj R)
  let n:=T z i.toNat (zj R)
  let G:=bif a4 then bif a7 then an (0,0,[]) (0,0,[])else an (0,0,[]) a9 else bif a7 then an n (0,0,[])else an n a9
  br (K (D<h6))
  (chk Z (chk (zK i2 (N h)) (chk (K (i2.toNat<N h)) (chk (zK b (N h)) (chk (K (b.toNat<N h)) (chk (cond a4 a8 (zK i (N z)&&a8)) (br (!Q0 (G<0)) (Tr.to (jJ.h15 i2 i (Γ Δ (b+1)) h6 h)) (Tr.to (jJ.h15 i2 i D b h)))))))))
  (Tr.to (jJ.h21 D i2 h))
 | .h33 H i2 i3 i d h7 g h8 x0 h=>
  let b:=Γ Δ (IntKind.u64.wrap (Γ Δ (g+h8))/2)
  let j:=Γ Δ (x0-b)
  let z:=K (i<0)
  let a3:=h.getD j.toNat (zj ze.sl)
  let a4:=(N a3:Int)
  let a5:=bif z then Z else K (i>=a4)
  let a6:=h.getD b.toNat (zj ze.sl)
  let a7:=(N a6:Int)
  let a8:=bif z then Z else K (i>=a7)
  let a9:=bif a8 then Z else zK i (N a6)
  let n:=T a6 i.toNat (zj R)
  let G:=T a3 i.toNat (zj R)
  let i4:=bif a5 then bif a8 then an (0,0,[]) (0,0,[])else an (0,0,[]) n else bif a8 then an G (0,0,[])else an G n
  let s:=Γ Δ (h7-g)
  let x1:=Mu h g i2 s i
  let x2:=bif K (H<g)then K (g<d)else M
  let h4:=x1.getD []
  let x3:=o h4 H g d i
  let h0:=bif K (d<s)then K (s<i3)else M
  let x4:=x3.getD []
  let x5:=o x4 d s i3 i
  let x6:=o h4 d s i3 i
  let x7:=o h H g d i
  let x8:=x7.getD []
  let x9:=o x8 d s i3 i
  let i0:=o h d s i3 i
  br (K (g<h8))
  (chk Z (chk (zK j (N h)) (chk (K (j.toNat<N h)) (chk (zK b (N h)) (chk (K (b.toNat<N h)) (chk (cond a5 a9 (zK i (N a3)&&a9)) (br (!Q0 (i4<0)) (Tr.to (jJ.h33 H i2 i3 i d h7 (Γ Δ (b+1)) h8 x0 h))
  (Tr.to (jJ.h33 H i2 i3 i d h7 g b x0 h)))))))))
  (br (cond (K (g<i2)) (K (i2<s)) M) (chk x1.isSome (br x2 (chk x3.isSome (br h0 (chk x5.isSome (re (tup []) [AO.vec ze.sl (x5.getD [])])) (re (tup []) [AO.vec ze.sl x4]))) (br h0 (chk x6.isSome (re (tup []) [AO.vec ze.sl (x6.getD [])])) (re (tup []) [AO.vec ze.sl h4])))) (br x2
  (chk x7.isSome (br h0 (chk x9.isSome (re (tup []) [AO.vec ze.sl (x9.getD [])])) (re (tup []) [AO.vec ze.sl x8]))) (br h0 (chk i0.isSome (re (tup []) [AO.vec ze.sl (i0.getD [])])) (re (tup []) [AO.vec ze.sl h]))))
 | .h9 A B h=>
  let b:=Γ Δ (A-1)
  let j:=Γ Δ (B+1)
  let z:=K (B.toNat<N h)
  let a3:=h.set B.toNat (h.getD j.toNat (zj ze.sl))
  br (K (B<b))
  (chk (zK j (N h)) (chk (K (j.toNat<N h)) (chk (zK B (N h)) (chk z (chk (zK B (N h)) (chk z (chk (zK j (N a3)) (chk (K (j.toNat<N a3)) (Tr.to (jJ.h9 A j (a3.set j.toNat (h.getD B.toNat (zj ze.sl)))))))))))))
  (re (tup []) [AO.vec ze.sl h])
 | .h21 D F h=>
  let b:=Γ Δ (F-1)
  let j:=K (F.toNat<N h)
  let z:=h.set F.toNat (h.getD b.toNat (zj ze.sl))
  br (K (F>D))
  (chk (zK b (N h)) (chk (K (b.toNat<N h)) (chk (zK F (N h)) (chk j (chk (zK F (N h)) (chk j (chk (zK b (N z)) (chk (K (b.toNat<N z)) (Tr.to (jJ.h21 D b (z.set b.toNat (h.getD F.toNat (zj ze.sl)))))))))))))
  (re (tup []) [AO.vec ze.sl h])
theorem zov(o:SM):∀s,run (Ev o) 1 zai (Func.results f224).toList 400 (aq f224 (NR s).1) (NR s).2=(cv o s).map (lf f224 NR):=by intro s;cases s<;>kernel_rfl
def smS(o:SM):SM:=λl a m b k=>M5 (bT (cv o) 100000000 (qP o l a m b k))
def vp:Nat->SM
 |0=>λ_ _ _ _ _=>Q2
 |n+1=>smS (vp n)
theorem S8:∀n,FK 224 (FSm (vp n))
 | 0=>fU (E:=KX) ⟨f224,(Lt (vp 0)).1,(Lt (vp 0)).2.1,(Lt (vp 0)).q.1⟩ fun x j g h=>by
  exfalso;unfold GSm at h;split at h
  .simp[vp,Tr.val]at h
  .simp at h
 | n+1=>by
  refine sX (E:=Ev (vp n)) (ι:=List zr×Int×Int×Int×Int) (args:=λy=>[AV.vec 0,J y.2.1,J y.q.1,J y.r.1,AV.clo (Fn.func 94) [agg [J y.t]] []]) (heap:=λy=>[AO.vec ze.sl y.1]) (i:=λy=>qP (vp n) y.1 y.2.1 y.q.1 y.r.1 y.t) (t:=cv (vp n)) (e:=NR) (n:=100000000) (n0:=1) (Rm (S8 n)) (Lt (vp n)) (λ_=>rfl) (λy=>zm2 _ _ _ _ _ _) (zov (vp n)) (λx h g d=>?_);unfold GSm at d;split at d
  .rename_i a m b k u l;simp only[Tr.val]at d;split at d
   next h1=>simp only[bH]at d;subst d;exact⟨(l,a,m,b,k),rfl,rfl,uw h1⟩
   .cases d
  .simp at d
def zhS:ak:=FSm (vp 16)
theorem zdO:FK 224 zhS:=S8 16
def EU:=KX.add 224 zhS
theorem EV:zx EU:=ET.add zdO
abbrev zag:=kr [(2,[0,1,2,6,7,8]),(7,[0,1,2,6]),(9,[0,1,2,6,7,8])]
inductive ro where
 |h2 (i1:Int) (i2f_0_0:Int) (i6:Int) (i7:Int) (i8:Int) (lh_0:List (L ze.sl))
 |h7 (i1:Int) (i2f_0_0:Int) (i6:Int) (lh_0:List (L ze.sl))
 |h9 (i1:Int) (i2f_0_0:Int) (i6:Int) (i7:Int) (i8:Int) (lh_0:List (L ze.sl))
abbrev NP:ro->Nat×St
 |.h2 b i d g j h=>(2,⟨tm 63 [(0,AV.vec 0),(1,J b),(2,AV.clo (Fn.func 94) [agg [J i]] []),(6,J d),(7,J g),(8,J j)],[AO.vec ze.sl h]⟩)
 |.h7 b i d h=>(7,⟨tm 63 [(0,AV.vec 0),(1,J b),(2,AV.clo (Fn.func 94) [agg [J i]] []),(6,J d)],[AO.vec ze.sl h]⟩)
 |.h9 b i d g j h=>(9,⟨tm 63 [(0,AV.vec 0),(1,J b),(2,AV.clo (Fn.func 94) [agg [J i]] []),(6,J d),(7,J g),(8,J j)],[AO.vec ze.sl h]⟩)
theorem zom:aa EU.P 161 f161 3:=cM kw
def ZW(l:List zr)(n k:Int):Tr (ro⊕ay):=
 Tr.to (ro.h2 n k 20 0 20 l)
theorem zm0(l:List zr)(n k:Int):rn EU 1 zag f161 [AV.vec 0,J n,AV.clo (Fn.func 94) [agg [J k]] []] [AO.vec (Sh.sl R) l]=(ZW l n k).map (lf f161 NP):=kw
def eQ:ro->Tr (ro⊕ay)
 | .h2 b i d n g h=>
  let j:=rX h n g i
  let s:=rX h n b i
  br (K (g<=b)) (chk j.isSome (Tr.to (ro.h2 b i d g (Γ Δ (g+d)) (j.getD []))))
  (chk s.isSome (Tr.to (ro.h7 b i d (s.getD []))))
 | .h7 b i d h=>
  br (K (d<b)) (Tr.to (ro.h9 b i d 0 (Γ Δ (2*d)) h))
  (re (tup []) [AO.vec ze.sl h])
 | .h9 b i d n g h=>
  let j:=Γ Δ (n+d)
  let s:=vp 16 h n j g i
  let z:=vp 16 h n j b i
  let A:=Γ Δ (d*2)
  br (K (g<=b)) (chk s.isSome (Tr.to (ro.h9 b i d g (Γ Δ (g+Γ Δ (2*d))) (s.getD []))))
  (br (K (j<b)) (chk z.isSome (Tr.to (ro.h7 b i A (z.getD [])))) (Tr.to (ro.h7 b i A h)))
theorem zot:∀s,run EU 1 zag (Func.results f161).toList 400 (aq f161 (NP s).1) (NP s).2=(eQ s).map (lf f161 NP):=by intro s;cases s<;>kernel_rfl
def zce(l:List zr)(n k:Int):=bT eQ 100000000 (ZW l n k)
def Ha(l:List zr)(n k:Int):=M5 (zce l n k)
def zh4:fA [Q2,Q2,Q2]:=λx h=>match x,h with
 |(.vec 0,J n,.clo (.func 94) [.agg [J k]] [],_),[.vec (.sl Pc) l]=>.chk ((Ha l n k).isSome) (.ok (.tup [],[.vec (.sl R) ((Ha l n k).getD [])]))
 |_,_=>.err
def zhM:ak:=bj [Q2,Q2,Q2] zh4
theorem zdI:FK 161 zhM:=by
 refine sX (ι:=List zr×Int×Int) (args:=λy=>[AV.vec 0,J y.2.1,AV.clo (Fn.func 94) [agg [J y.q]] []]) (heap:=λy=>[AO.vec ze.sl y.1]) (i:=λy=>ZW y.1 y.2.1 y.q) (t:=eQ) (e:=NP) (n:=100000000) (n0:=1) EV zom (λ_=>rfl) (λy=>zm0 _ _ _) zot (λx h d b=>?_);unfold zh4 at b;split at b
 .rename_i n k u l;simp only[Tr.val]at b;split at b
  next h1=>simp only[bH]at b;subst b;exact⟨(l,n,k),rfl,rfl,uw h1⟩
  .cases b
 .simp at b
def KY:=EU.add 161 zhM
theorem EW:zx KY:=EV.add zdI
abbrev znV:=kr []
theorem zol:aa KY.P 92 f92 2:=cM kw
def Oy(l:List zr)(k:Int):Tr (Empty⊕ay):=
 let h:=Ha l (N l:Int) k
 chk h.isSome (re (tup []) [AO.vec ze.sl (h.getD [])])
theorem zmX(l:List zr)(k:Int):rn KY 1 znV f92 [AV.vec 0,AV.clo (Fn.func 94) [agg [J k]] []] [AO.vec (Sh.sl R) l]=(Oy l k).map (lf f92 e0):=kw
def G9(l:List zr)(k:Int):=bT t0 100000000 (Oy l k)
def sG(l:List zr)(k:Int):=M5 (G9 l k)
def zh3:fA [Q2,Q2]:=λx h=>match x,h with
 |(.vec 0,.clo (.func 94) [.agg [J k]] [],_),[.vec (.sl Pc) l]=>.chk ((sG l k).isSome) (.ok (.tup [],[.vec (.sl R) ((sG l k).getD [])]))
 |_,_=>.err
def zhh:ak:=bj [Q2,Q2] zh3
theorem zdf:FK 92 zhh:=by
 refine sX (ι:=List zr×Int) (args:=λy=>[AV.vec 0,AV.clo (Fn.func 94) [agg [J y.2]] []]) (heap:=λy=>[AO.vec ze.sl y.1]) (i:=λy=>Oy y.1 y.2) (t:=t0) (e:=e0) (n:=100000000) (n0:=1) EW zol (λ_=>rfl) (λy=>zmX _ _) (on0 _ _ _ _ _) (λx h d b=>?_);unfold zh3 at b;split at b
 .rename_i k u l;simp only[Tr.val]at b;split at b
  next h1=>simp only[bH]at b;subst b;exact⟨(l,k),rfl,rfl,uw h1⟩
  .cases b
 .simp at b
def Zl:=KY.add 92 zhh
theorem Rs:zx Zl:=EW.add zdf
abbrev zal:Nat->aY:=λj=>if j=7 then{slots:=[1,2,34,35]}else{ }
inductive Vv where
 |h7 (i34:Int) (i35:Int) (ja0:L Sh.str) (ja2:zy) (ja5:zN) (ja6:Int) (ja7:Int) (ja8:zN) (ja9:zN) (ja10:List (L Q5)) (jb0:List UInt8) (jb2:Int) (jb5:List UInt8) (jb6:Int) (jb7:Int) (jb8:List UInt8) (jb9:List UInt8) (lh_2:aZ) (lh_3:ea) (lh_4:dK) (lh_5:List (L ze.sl))
abbrev YL:Vv->Nat×St
 |.h7 i n s z A B D F G j H h0 h3 h4 h5 h6 h8 h b d g=>(7,⟨tm 50 [(1,ptr 0 0),(2,ptr 1 0),(34,J i),(35,J n)],[Qa [X s,AV.vec 2,J z,AV.vec 3,AV.vec 4,X A,J B,J D,X F,X G,O Q5 j,AV.vec 5],Qa [X H,nils,J h0,nils,nils,X h3,J h4,J h5,X h6,X h8,nils,nils],AO.vec zp h,AO.vec zk b,AO.vec zI d,AO.vec ze.sl g]⟩)
theorem zvY:aa TG.P 91 f91 1:=cM kw
def zfo(h:ag):Tr (Vv⊕ay):=
 chk (K (N h.1.2.1<=1073741824))
 (chk (K (N h.1.r.1<=1073741824))
  (chk (K (N h.1.t.1<=1073741824)) (chk (ot 16 (zw h.1.u)) (chk (K (N h.2<=1073741824)) (Tr.to (Vv.h7 (N h.2:Int) 0 h.1.1 h.1.q.1 (zg.op h.1.u) (zg.v h.1.u).1 (zg.v h.1.u).2.1 (zg.v h.1.u).q
  (zg.s h.1.u) (zg.l h.1.u) [] 0 [] 0 0 [] [] h.1.2.1 h.1.r.1 h.1.t.1 h.2))))))
theorem ztw(h:ag):rn TG 0 zal f91 [zX zl h] []=(zfo h).map (lf f91 YL):=kw
def Xt:Vv->Tr (Vv⊕ay)
 | .h7 n i s z A B D F G j H h0 h3 h4 h5 h6 h8 b d g h=>
  let a0:=K (i.toNat<N h)
  let a1:=h.getD i.toNat (zj ze.sl)
  br (K (i<n))
  (chk (zK i (N h))
   (chk a0 (chk (K (N a1<=1073741824)) (chk (zK i (N h)) (chk a0 (Tr.to (Vv.h7 n (Γ Δ (i+1)) s z A B D F G j H h0 h3 h4 h5 h6 h8 b d g (h.set i.toNat a1))))))))
  (re
   (agg [X s,AV.vec 0,J z,AV.vec 1,AV.vec 2,X A,J B,J D,X F,X G,O Q5 j,AV.vec 3])
   [AO.vec zp b,AO.vec zk d,AO.vec zI g,AO.vec ze.sl h])
theorem zwk:∀s,run TG 0 zal (Func.results f91).toList 400 (aq f91 (YL s).1) (YL s).2=(Xt s).map (lf f91 YL)
 |.h7 i n z A B D F G H j h0 h3 h4 h5 h6 h8 h9 h b d g=>by kernel_rfl
def zoO(ks:List Sh)(c:zH (ks.map Y)->Bool)(g:zH (ks.map Y)->ay):fA (ks.map Y):=λx h=>match h with
 |[]=>.chk (c x) (.ok (g x))
 |_=>.err
theorem zmd{P:Program}{gl:Nat->AV}{b:Type}{E:cy}{k:FuncId}{f:Func}{ks:List Sh}{keep:Nat->aY}{gas n:Nat}{e:b->Nat×St}{t:b->Tr (b⊕ay)}{i:zH (ks.map Y)->Tr (b⊕ay)}{c:zH (ks.map Y)->Bool}{g:zH (ks.map Y)->ay}
  (B:zx E) (z:aa E.P k f (N ks)) (d:∀x,run E 0 keep f.results.toList gas (bv f) (bl f.ntmps (jj (ks.map Y) x) [])=(i x).map (lf f e))
  (j:∀s,run E 0 keep f.results.toList gas (aq f (e s).1) (e s).2=(t s).map (lf f e))
  (F:∀x,c x=Z->bT t n (i x)=Y (g x)) (H:E.P=P:=by rfl) (G:E.gl=gl:=by rfl):ou P gl k (bj (ks.map Y) (zoO ks c g)):=by
 subst H G;refine dA (by simpa using z) λx h0 h3 h C A=>?_
 unfold zoO at h;split at h
 .simp only[Tr.val]at h;split at h
  next D=>simp only[bH]at h;subst h;exact mB (n0:=0) B (by simpa using z) (λid _=>A id (aK _)) (n+1) _ _ _ (by rw[kd j (d x)];exact F x D) rfl
  .cases h
 .simp at h
def Rd(x:ag):ay:=(agg [X x.1.1,AV.vec 0,J x.1.q.1,AV.vec 1,AV.vec 2,X (zg.op x.1.u),J (zg.v x.1.u).1,J (zg.v x.1.u).2.1,X (zg.v x.1.u).q,X (zg.s x.1.u),O Q5 (zg.l x.1.u),AV.vec 3],
 [AO.vec zp x.1.2.1,AO.vec zk x.1.r.1,AO.vec zI x.1.t.1,AO.vec ze.sl x.2])
def NL(x:ag):Bool:=K (N x.1.2.1<=1000000)&&K (N x.1.r.1<=1000000)&&K (N x.1.t.1<=1000000)&&ot 16 x.1.u&&K (N x.2<=1000000)&&List.all x.2 (λr=>K (N r<=1000000))
variable {α:Type}
theorem zb1(l:List α)(d:α)(i:Nat)(h:i<N l):l.set i (l.getD i d)=l:=by rw[bD,aj h,bK];exact List.set_getElem_self h
theorem zeN(x:ag)(d:NL x=Z):bT Xt 100000000 (zfo x)=Y (Rd x):=by
 unfold NL at d;simp only[aO,bc,ep]at d;have⟨⟨⟨⟨⟨h1,h2⟩,h3⟩,D⟩,h5⟩,F⟩:=d
 have G:=dP (t:=Xt) (β:=Unit) (N x.2) (λ_ i=>.h7 (N x.2:Int) (i:Int) x.1.1 x.1.q.1 (zg.op x.1.u) (zg.v x.1.u).1 (zg.v x.1.u).2.1 (zg.v x.1.u).q
   (zg.s x.1.u) (zg.l x.1.u) [] 0 [] 0 0 [] [] x.1.2.1 x.1.r.1 x.1.t.1 x.2) (λ_ _=>True) (λr=>r=Rd x) 1 (by
   intro b i h _;have g:N (T x.2 i (zj ze.sl))<=1000000:=F _ (by rw[bD,aj h,bK];exact bh h);simp only[Xt,Tr.val,zM h,zu h,zi,aI,zC h,zb1 _ _ _ h];rw[zt i um,zf (zC S)];exact Or.inl ⟨(),trivial,rfl⟩) (by
   intro b n _ hn;obtain⟨n,rfl⟩:∃k,n=k+1:=⟨n-1,S⟩;rw[dg];simp only[Xt,Tr.val,zJ];exact⟨_,rfl,rfl⟩) (N x.2) 0 () 100000000 rfl (aK _) trivial S
 obtain⟨r,H,rfl⟩:=G;unfold bT;have j:K (N x.1.2.1<=1073741824)=Z:=zC S;have z:K (N x.1.r.1<=1073741824)=Z:=zC S;have A:K (N x.1.t.1<=1073741824)=Z:=zC S;have B:K (N x.2<=1073741824)=Z:=zC S;simp only[zfo,Tr.val,j,z,A,B,zn,D,zi];exact H
def zqG:ak:=bj ([zl].map Y) (zoO [zl] (λx=>NL x.1) (λx=>Rd x.1))
theorem zlq:FK 91 zqG:=zmd (ks:=[zl]) (keep:=zal) (gas:=400) (n:=100000000) (e:=YL) (t:=Xt) (i:=λx=>zfo x.1) Wq zvY (λx=>ztw x.1) zwk (λx h=>zeN x.1 h)
def zeW:=Zl.add 91 zqG
theorem Oa:zx zeW:=Rs.add zlq
def zfs(h:ag):Tr (Empty⊕ay):=
 let b:=(h.1.1,h.1.2.1,h.1.q.1,h.1.r.1,h.1.t.1,zw h.1.u)
 let d:=sG h.2 (-1)
 let g:=sG h.2 h.1.q.1
 chk (NL (b,h.2))
 (br (!dI b)
  (chk d.isSome (re (agg [X h.1.1,AV.vec 0,J h.1.q.1,AV.vec 1,AV.vec 2,X (zg.op h.1.u),J (zg.v h.1.u).1,J (zg.v h.1.u).2.1,X (zg.v h.1.u).q,X (zg.s h.1.u),O Q5 (zg.l h.1.u),AV.vec 3]) [AO.vec zp h.1.2.1,AO.vec zk h.1.r.1,
  AO.vec zI h.1.t.1,AO.vec ze.sl (d.getD [])]))
  (chk g.isSome (re (agg [X h.1.1,AV.vec 0,J h.1.q.1,AV.vec 1,AV.vec 2,X (zg.op h.1.u),J (zg.v h.1.u).1,J (zg.v h.1.u).2.1,X (zg.v h.1.u).q,X (zg.s h.1.u),O Q5 (zg.l h.1.u),AV.vec 3]) [AO.vec zp h.1.2.1,AO.vec zk h.1.r.1,
  AO.vec zI h.1.t.1,AO.vec ze.sl (g.getD [])])))
def Bi(h:ag):=am [zl] t0 100000000 (zfs h)
def Sy(h:ag):=(Bi h).isSome
def zbN(h:ag):=o1 (Bi h)
def zq7:=FT [zl] [zl] λx=>Bi x.1
theorem zlS:FK 35 zq7:=Oa.T1 (f:=f35) (keep:=k0) (e:=e0)
def fY:=Zi.add 35 zq7
theorem gI:zx fY:=I8.add zlS
abbrev zjy:Nat->aY:=λj=>if j=7 then{slots:=[2,3,6,9,10,11,34,35,36]}else if j=15 then{slots:=[6,9,11,14,15,57,58,59],prom:=[(14,Y 11,.sl R)]}else{ }
inductive Ku where
 |h7 (l2:zr) (i10:zy) (l34:List (L ze.sl)) (i35:Int) (i36:Int) (z0:zq [CP.d zZ]) (z1:zq nV) (z2:zq wZ) (mh_3:List ((Int×Int×zN)×List (L ze.sl)))
 |h15 (i15:Int) (l57:zr) (i58:Int) (i59:Int) (z0:zq nV) (z1:zq wZ) (z3:zq Ad) (mh_2:List ((Int×Int×zN)×List (L ze.sl)))
abbrev V5:Ku->Nat×St
 |.h7 H i A j n D F z2 b=>(7,⟨tm 86 [(2,O R H),(3,ptr 0 0),(6,ptr 1 0),(9,ptr 2 0),(10,J i),(11,AV.mp 3),(34,O ze.sl A),(35,J j),(36,J n)],[Qa (bm [] [CP.d zZ] D),Qa (bm [] nV F),Qa (bm [] wZ z2),AO.gmap ze.sl b]⟩)
 |.h15 g B s z D F G h=>(15,⟨tm 86 [(6,ptr 0 0),(9,ptr 1 0),(11,AV.mp 2),(14,ptr 3 0),(15,J g),(57,O R B),(58,J s),(59,J z)],[Qa (bm [] nV D),Qa (bm [] wZ F),AO.gmap ze.sl h,Qa (bm [4] Ad G),AO.vec ze.sl G.2.1]⟩)
def Wz(h:zY)(b:L zl.sl)(j:L ze.sl):Tr (Ku⊕ay):=
 let d:=(h.1,h.2.1,h.q.1,(h.r.1.1,h.r.1.2.1,h.r.1.q.1,h.r.1.r.1,h.r.1.t.1,zw h.r.1.u),h.t)
 let g:=(d,b)
 let i:=T b (Int.toNat 0) (zj zl)
 chk (F2 d b)
 (br (R7 d b !=0)
  (re (tup [agg ([X [],nils,J 0,nils,nils]++zE++[nils]),J 0,J 1]) [])
  (chk (Yk g) (chk (zK 0 (N b)) (Tr.to (Ku.h7 j (zmr g) i.2 (N i.2:Int) 0 (h,()) ([],0,[],0,0,[],[],()) ((h,b),()) [])))))
def MN:Ku->Tr (Ku⊕ay)
 | .h7 l2 G A H g z0 z z2 B=>
  br (K (g<H))
  (chk (zK g (N A)) (chk (zK G (N (A.getD g.toNat (zj ze.sl)))) Tr.err))
  (Tr.to (Ku.h15 0 l2 (N l2:Int) 0 z z2 (z0.1.r.1,[],()) (nf B (0,0,[]))))
 | .h15 n j s i z0 z h b=>
  let a0:=((z.1.1.1,z.1.1.2.1,z.1.1.q.1,(z.1.1.r.1.1,z.1.1.r.1.2.1,z.1.1.r.1.q.1,z.1.1.r.1.r.1,z.1.1.r.1.t.1,zw z.1.1.r.1.u),z.1.1.t),z.1.2)
  let D:=j.getD i.toNat (zj R)
  let a2:=lE b D
  let F:=VO a0 D a2
  let a4:=((h.1.1,h.1.2.1,h.1.q.1,h.1.r.1,h.1.t.1,zw h.1.u),h.2.1)
  let d:=zbN a4
  br (K (i<s))
  (chk (zK i (N j)) (chk (Iw a0 D a2) (chk (K (N h.2.1+N F.1<=1073741824)) (Tr.to (Ku.h15 (Γ Δ (n+F.2)) j s (Γ Δ (i+1)) z0 z (h.1,h.2.1++F.1,()) (nf b D))))))
  (chk (Sy a4) (re (tup [agg ([X d.1.1,O zp d.1.2.1,J d.1.q.1,O zk d.1.r.1,O zI d.1.t.1]++xE d.1.u++[O ze.sl d.2]),J n,J 0]) []))
open Go
def Tr.asks:Tr α->List Bool
 |.chk c t=>c::t.asks
 |_=>[]
def Tr.leaf:Tr α->Option α
 |.chk _ t=>t.leaf
 |.ok a=>Y a
 |_=>Q2
theorem Tr.val_leaf{a:α}:∀{t:Tr α},t.leaf=Y a->t.asks.all id=Z->t.val=Y a
 |.err,h,_=>by cases h
 |.br ..,h,_=>by cases h
 |.ok _,h,_=>h
 | .chk c t,h,b=>by
  simp only[Tr.asks,List.all_cons,id,aO]at b;rw[Tr.val,zf b.1];exact Tr.val_leaf h b.2
structure wG (w:World) (U:Nat->Prop) (ρ:Nat->Option Value) (hp:Nat->AO) (w':World) (U':Nat->Prop) (ρ':Nat->Option Value) (hp':Nat->AO):Prop where
 ext:lz w w'
 same:∀b,b<w.heap.size->(∀id,¬ar ρ id (hp id) b)->w'.heap[b]?=w.heap[b]?
 u1:∀b,b<w.heap.size->U' b->U b
 u2:∀b,b<w.heap.size->U b->(∀id,¬ar ρ id (hp id) b)->U' b
 rho:∀id v,ρ id=Y v->ρ' id=Y v
 own:∀id b,ar ρ' id (hp' id) b->(∃id,ar ρ id (hp id) b)\/w.heap.size<=b
section
variable {E:cy} {gl:Nat->AV} {C:eU} {a:Act} {w w':World} {U U':Nat->Prop} {ρ ρ':Nat->Option Value} {hp hp':Nat->AO}
def Em(w:World)(U:Nat->Prop)(ρ:Nat->Option Value)(hp:Nat->AO):eU:={w0:=w,U0:=U,B0:=λb=>∃id,ar ρ id (hp id) b,ρ0:=ρ}
theorem TW(b:Wd gl C w U):Wd gl (Em w U ρ hp) w U:=⟨lz.refl w,λ_ _ _=>rfl,b.ub,λ_ _ h=>h,λ_ _ h _=>h,b.gl⟩
theorem TV(h:fC C w U ρ hp):fC (Em w U ρ hp) w U ρ hp:=⟨h.ob,h.inj,λid _ b=>.inl ⟨id,b⟩⟩
theorem Eb(j:fC (Em w U ρ hp) w' U' ρ' hp')(d:Wd gl (Em w U ρ hp) w' U')(n:∀id v,ρ id=Y v->ρ' id=Y v):wG w U ρ hp w' U' ρ' hp':=
 ⟨d.ext,λb g i=>d.same b g λ⟨id,h⟩=>i id h,d.u1,λb g s i=>d.u2 b g s λ⟨id,h⟩=>i id h,n,j.blk⟩
theorem Tq(h:fC C w U ρ hp)(i:Wd gl C w U)(j:wG w U ρ hp w' U' ρ' hp')(s:∀b,U' b->b<w'.heap.size)(B:DP gl w' U'):Wd gl C w' U':=by
 have A:∀b,b<C.w0.heap.size->¬C.B0 b->∀id,¬ar ρ id (hp id) b:=λb d g id D=>(h.blk id b D).elim g (λq=>by omega)
 have z:∀b,b<C.w0.heap.size->b<w.heap.size:=λb d=>ie d i.ext.sz
 exact⟨i.ext.trans j.ext,λb d g=>(j.same b (z b d) (A b d g)).trans (i.same b d g),s,λb d n=>i.u1 b d (j.u1 b (z b d) n),λb d n g=>j.u2 b (z b d) (i.u2 b d n g) (A b d g),B⟩
theorem Tp(h:fC C w U ρ hp)(g:Wd gl C w U)(d:fC (Em w U ρ hp) w' U' ρ' hp'):fC C w' U' ρ' hp':=
 ⟨d.ob,d.inj,λid b n=>(d.blk id b n).elim (λ⟨i,j⟩=>h.blk i b j) λq=>.inr (aV g.ext.sz q)⟩
theorem PT(z:zx E){id:Nat}{ops:Array Oper}{draw:Bool}{st s:St}(h:(jZ E ops.toList draw st).val=Y s)(g:Cn C st a w U ρ)(i:Wd E.gl C w U):
  (Code.region id ops draw).wp E.P (λe j w'=>e=.normal/\∃U' ρ',Cn C s j w' U' ρ'/\Wd E.gl C w' U'/\wG w U ρ st.hp w' U' ρ' s.hp) a w:=by refine wp_mono (uW (C:=Em w U ρ st.hp) z h ⟨g.tm,TV g.hp,g.new,g.df,λ_ _ h=>h⟩ (TW i)) ?_;rintro e j w' ⟨rfl,U',ρ',b,d⟩;have n:=Eb b.hp d b.r0;exact⟨rfl,U',ρ',⟨b.tm,Tp g.hp i b.hp,b.new,b.df,λid v q=>b.r0 id v (g.r0 id v q)⟩,Tq g.hp i n d.ub d.gl,n⟩
theorem O8(D:zx E){ops:List Oper}{Q:Exit->Act->World->Prop}{st':RS}{m:Nat}(F:∀g w' U' ρ',BB C st' g w' U' ρ'->Wd E.gl C w' U'->∀k,k+m=N ops->wpOps E.P ops.toArray Q (List.range' k m) g w'):
  ∀(r:List Oper)(k:Nat)(st:RS)(a:Act)(w:World)(U:Nat->Prop)(ρ:Nat->Option Value)(s:List Oper),N s=m->r++s=ops.drop k->k+N r+m=N ops->(cu E ops r st).val=Y st'->BB C st a w U ρ->Wd E.gl C w U->
   wpOps E.P ops.toArray Q (List.range' k (N r+m)) a w
 | [],k,st,a,w,U,ρ,_,_,_,A,h,n,i=>by
  simp[cu]at h;subst h;have:=F a w U ρ n i k (by simpa using A);simpa using this
 | o::r,k,st,a,w,U,ρ,s,hs,hr,A,h,n,i=>by
  simp only[cu,Tr.val_bind,gE]at h;have⟨B,h1,h2⟩:=h;have d:ops.toArray[k]?=Y o:=by
   have:ops[k]?=Y o:=by
    have:=congrArg (·[0]?) hr;simpa[D2]using this.symm
   simpa using this
  have b:r++s=ops.drop (k+1):=by
   have:=congrArg List.tail hr;simpa using this
  have e:(o::r).length+m=(N r+m)+1:=by rw[fB];omega
  rw[e,List.range'_succ];simp only[wpOps,d];exact Kh D h1 n i _ _ (λg w' U' ρ' z j=>O8 D F r (k+1) B g w' U' ρ' s hs b (by rw[fB]at A;omega) h2 z j)
theorem zfT(B:zx E){b s:List Oper}{Q:Exit->Act->World->Prop}{st st':RS}(h:(cu E (b++s) b st).val=Y st')(g:BB C st a w U ρ)(z:Wd E.gl C w U)
  (D:∀n w' U' ρ',BB C st' n w' U' ρ'->Wd E.gl C w' U'->wG w U ρ st.hp w' U' ρ' st'.hp->wpOps E.P (b++s).toArray Q (List.range' (N b) (N s)) n w'):
  wpOps E.P (b++s).toArray Q (List.range (b++s).toArray.size) a w:=by
 have:=O8 (C:=Em w U ρ st.hp) B (ops:=b++s) (Q:=Q) (st':=st') (m:=N s) (λn w' U' ρ' d i k A=>by
  have A:k=N b:=by rw[jK]at A;omega
  subst A;have j:=Eb d.hp i d.r0;exact D n w' U' ρ' ⟨d.tm,Tp g.hp z d.hp,d.new,d.kn,d.df,λid v q=>d.r0 id v (g.r0 id v q)⟩ (Tq g.hp z j i.ub i.gl) j)
  b 0 st a w U ρ s rfl rfl sw h ⟨g.tm,TV g.hp,g.new,g.kn,g.df,λ_ _ h=>h⟩ (TW z)
 rw[List.range_eq_range'];simpa using this
theorem wG.trans{n:World}{j:Nat->Prop}{s:Nat->Option Value}{d:Nat->AO}(h1:wG w U ρ hp w' U' ρ' hp')(h2:wG w' U' ρ' hp' n j s d):wG w U ρ hp n j s d:=by
 have D:∀b,b<w.heap.size->(∀id,¬ar ρ id (hp id) b)->∀id,¬ar ρ' id (hp' id) b:=λb h g id q=>(h1.own id b q).elim (λ⟨i,z⟩=>g i z) λq=>by omega
 have B:∀b,b<w.heap.size->b<w'.heap.size:=λb h=>ie h h1.ext.sz
 exact⟨h1.ext.trans h2.ext,λb h g=>(h2.same b (B b h) (D b h g)).trans (h1.same b h g),λb h A=>h1.u1 b h (h2.u1 b (B b h) A),λb h A g=>h2.u2 b (B b h) (h1.u2 b h A g) (D b h g),
  λid v q=>h2.rho id v (h1.rho id v q),λid b q=>(h2.own id b q).elim (λ⟨i,z⟩=>h1.own i b z) λq=>.inr (aV h1.ext.sz q)⟩
end
def mf(c0:Nat)(ents:Array MapEntry)(clock:Nat):Prop:=clock=c0+ents.size/\∀(i:Nat)(e:MapEntry),ents[i]?=Y e->e.born=c0+i
variable {ents:Array MapEntry}{clock:Nat}
theorem mf.push{c0:Nat}(h:mf c0 ents clock)(k v:Value):mf c0 (ents.push {key:=k,val:=v,born:=clock}) (clock+1):=by
 refine⟨by have:=h.1;simp;omega,λi e b=>?_⟩;rw[Array.getElem?_push]at b;split at b
 next d=>cases b;rw[d];exact h.1
 .exact h.2 i e b
theorem mf.modify{c0:Nat}(h:mf c0 ents clock)(j:Nat)(f:MapEntry->MapEntry)(g:∀e,(f e).born=e.born):mf c0 (ents.modify j f) clock:=by
 refine⟨by have:=h.1;simp;omega,λi e b=>?_⟩;rw[uN]at b;split at b
 .cases d:ents[i]? with
  |none=>rw[d]at b;simp at b
  | some e0=>
   rw[d]at b;simp at b;subst b;rw[g];exact h.2 i e0 d
 .exact h.2 i e b
def HP(es:List (K3×Value))(k:K3):List (K3×Value):=match fP es k 0 with
 |some _=>es
 |none=>es++[(k,.slice Q2 0 0)]
section
variable {P:Program} {w:World} {kt:TypeId} {k:K3}
variable {mt et:TypeId} {r:Nat} {ents:Array MapEntry} {clock c0:Nat} {es:List (K3×Value)}
theorem PX(hm:P.underlying mt=Y (.map kt et))(B:ij P kt=Z){i:TypeInfo}(hi:P.info? et=Y i)(hz:i.zero=Y (.slice Q2 0 0))(hk:eV k)
  (G:w.heap[r]?=Y (.map ents clock)) (H:(ents.toList.map λe=>(e.key,e.val))=w8 es) (ho:∀p∈es,eV p.1) (hs:mf c0 ents clock):
  ∃(h:Array MapEntry)(b n:Nat),(Instr.mapEntry mt (.map (Y r)) (cR k)).run P w=.ok (.tuple #[Fl es k,.int .i64 (c0+n:Nat)]) {w with heap:=w.heap.setIfInBounds r (.map h b)}/\
   (h.toList.map λe=>(e.key,e.val))=w8 (HP es k)/\mf c0 h b/\(HP es k)[n]?=Y (k,Fl es k):=by
 have g:=og (w:=w) B hk es ents.toList H ho;have h4:ents.size=N es:=by have:=congrArg N H;simpa using this
 unfold HP Fl;cases z:fP es k 0 with
 | none=>
  rw[z]at g;refine⟨ents.push {key:=cR k,val:=.slice Q2 0 0,born:=clock},clock+1,ents.size,?_,?_,hs.push _ _,?_⟩
  .simp[Instr.mapEntry,bN hm,ic G,bP B,g,oA _ G,Result.andThen,zeroValue,typeInfo,hi,hz,hs.1];rfl
  .simp_all
  .simp only[];rw[h4,pE (zR _),Nat.sub_self];rfl
 | some q=>
  obtain⟨j,m⟩:=q;rw[z]at g;obtain⟨_,A,_⟩:=wb z;rw[Nat.sub_zero]at A;have F:∃e,ents.toList[j]?=Y e/\e.key=cR k:=by
   have:(ents.toList.map λe=>(e.key,e.val))[j]?=Y (cR k,m):=by
    rw[H];simp[A]
   rw[dN,dV]at this;obtain⟨e,s,d⟩:=this;simp only[cQ]at d;exact⟨e,s,d.1⟩
  obtain⟨e,s,d⟩:=F;have D:ents[j]?=Y e:=by rw[<-ru];exact s
  have h0:=hs.2 j e D;refine⟨ents.modify j λe=>{e with key:=cR k},clock,j,?_,?_,hs.modify _ _ (λ_=>rfl),A⟩
  .have h3:(Instr.keyThatStays (cR k) (cR k)).run P w=.ok (cR k) w:=by
    simp[Instr.keyThatStays,oh]
   simp[Instr.mapEntry,bN hm,ic G,bP B,g,D,d,h3,oA _ G,Result.andThen,h0];rfl
  .apply oB;intro q;have h5:(ents.toList.map λe=>(e.key,e.val))[q]?=(w8 es)[q]?:=by rw[H]
   grind
theorem PY{n:Nat}{v v':Value}(z:w.heap[r]?=Y (.map ents clock))(A:(ents.toList.map λe=>(e.key,e.val))=w8 es)(s:mf c0 ents clock)(B:es[n]?=Y (k,v)):
  ∃(h:Array MapEntry),(Instr.entryStore mt (.map (Y r)) (.int .i64 (c0+n:Nat)) v').run P w=.ok () {w with heap:=w.heap.setIfInBounds r (.map h clock)}/\
   (h.toList.map λe=>(e.key,e.val))=w8 (es.set n (k,v'))/\mf c0 h clock:=by
 have F:ents.size=N es:=by have:=congrArg N A;simpa using this
 have d:n<ents.size:=by have:=(dF.1 B).1;omega
 have g:ents.findIdx? (λe=>(e.born:Int)==((c0+n:Nat):Int))=Y n:=by
  rw[Array.findIdx?_eq_some_iff_getElem];refine⟨d,?_,λj G=>?_⟩
  .have:=s.2 n ents[n] (uD d);simp[this]
  .have:=s.2 j (ents[j]'ow) (uD S);simp[this];omega
 refine⟨ents.modify n λe=>{e with val:=v'},?_,?_,s.modify _ _ (λ_=>rfl)⟩
 .rw[wK]at g;simp[Instr.entryStore,ic z,asInt,asIntOf,g,oA _ z,Result.andThen]
 .apply oB;intro q;have b:(ents.toList.map λe=>(e.key,e.val))[q]?=(w8 es)[q]?:=by rw[A]
  simp only[dN,ru,uN,nr]at b|-;by_cases D:n=q
  .subst D;have i:n<N es:=by omega
   rw[uD d,B]at b;simp only[Ir,bH,cQ]at b;simp[uD d,i,b.1]
  .simp_all
end
section
variable {e:Sh} {w w':World} {U U':Nat->Prop} {ρ:Nat->Option Value} {v:Value} {l:List (L e)}
def gD(e:Sh)(w:World)(U:Nat->Prop)(v:Value)(l:List (L e)):Prop:=bz w U (λ_=>Y v) 0 (.vec e l)
variable {id:Nat}
theorem Vj{ρ':Nat->Option Value}{id':Nat}(j:ρ id=Y v)(h:bz w U ρ id (.vec e l))(b:ρ' id'=Y v):bz w U ρ' id' (.vec e l):=by have:=h.ren' (ρ':=ρ') (f:=λi=>i) (id':=id') (λx d=>by rw[j]at d;cases d;exact b) (λi g=>by simp[AO.ids]at g);simpa[AO.ren]using this
theorem zpe(b:ρ id=Y v)(h:bz w U ρ id (.vec e l)):gD e w U v l:=Vj b h rfl
theorem gD.to(h:gD e w U v l)(b:ρ id=Y v):bz w U ρ id (.vec e l):=Vj rfl h b
theorem gD.one(h:gD e w U v l):v.oneCell'=Z:=by have⟨a,c,h1,_⟩:=h;cases h1;rfl
theorem gD.blk(h:gD e w U v l){n:Nat}(b:cf v=Y n):U n/\n<w.heap.size:=bz.inU h ⟨rfl,v,rfl,b⟩
theorem gD.mono(h:gD e w U v l)(j:w.heap.size<=w'.heap.size)(g:∀b,b<w.heap.size->¬U b->w'.heap[b]?=w.heap[b]?)(n:∀b,b<w.heap.size->U' b->U b)(i:∀b,cf v=Y b->w'.heap[b]?=w.heap[b]?/\U' b):gD e w' U' v l:=
 bz.mono j g n (λ_ _ h=>h) h λb ⟨_,x,s,d⟩=>by cases s;exact i b d
theorem gD.rv(h:gD e w U v l)(n:∀b,U' b->U b)(j:∀b,cf v=Y b->¬U' b):Rv w U' ρ (.sl e l) v:=by
 have h1:Rv w U' (λ_=>Y v) (.sl e l) v:=wM (U:=U) (hp:=λ_=>.vec e l) (c:=.vec 0) (by simp[vE]) (.vec 0 v rfl h.one) n (λid d=>by simp[du]at d;subst d;exact h) λid _ b ⟨_,x,s,g⟩=>by
  cases s;exact j b g
 have:=h1.ren (ρ':=ρ) (f:=λi=>i) (by simp[AV.ids]);simpa[AV.ren]using this
theorem gD.nil:gD e w U (.slice Q2 0 0) []:=⟨Q2,0,rfl,by simp[aF],.inl ⟨rfl,rfl⟩⟩
structure uA (e:Sh) (w:World) (U:Nat->Prop) (r c0:Nat) (gs:List (K3×Value)) (es:List (K3×List (L e))):Prop where
 mp:∃(ents:Array MapEntry)(clock:Nat),w.heap[r]?=Y (.map ents clock)/\(ents.toList.map λe=>(e.key,e.val))=w8 gs/\mf c0 ents clock
 keys:gs.map (·.1)=es.map (·.1)
 nd:(gs.map (·.1)).Nodup
 ok:∀p∈gs,eV p.1
 own:∀(j:Nat)(p:K3×Value)(q:K3×List (L e)),gs[j]?=Y p->es[j]?=Y q->gD e w U p.2 q.2
 apart:∀(i j:Nat)(p q:K3×Value)(b:Nat),gs[i]?=Y p->gs[j]?=Y q->cf p.2=Y b->cf q.2=Y b->i=j
 far:∀p∈gs,cf p.2≠Y r
 ur:U r
def Np(r:Nat)(gs:List (K3×Value))(b:Nat):Prop:=b=r\/∃p∈gs,cf p.2=Y b
def vN(es:List (K3×List (L e)))(k:K3):List (K3×List (L e)):=if k∈es.map (·.1)then es else es++[(k,[])]
variable {r c0:Nat} {gs:List (K3×Value)} {es:List (K3×List (L e))} {k:K3}
theorem Ws:(∃q,fP gs k 0=Y q)↔k∈gs.map (·.1):=by
 cases h:fP gs k 0 with
 | none=>
  refine⟨λ⟨_,q⟩=>(by cases q),λb=>?_⟩;obtain⟨p,hp,rfl⟩:=bt.1 b;exact zB rfl (Fk h p hp)
 | some q=>
  have⟨_,h2,_⟩:=wb h;exact⟨λ_=>bt.2 ⟨_,gh h2,rfl⟩,λ_=>⟨q,rfl⟩⟩
theorem NX(b:gs.map (·.1)=es.map (·.1)):(k∈es.map (·.1)/\HP gs k=gs/\vN es k=es)\/(k∉es.map (·.1)/\HP gs k=gs++[(k,.slice Q2 0 0)]/\vN es k=es++[(k,[])]):=by
 have d:=Ws (gs:=gs) (k:=k);unfold HP vN;cases h:fP gs k 0 with
 | none=>
  have g:k∉es.map (·.1):=λq=>by
   rw[<-b]at q;have⟨x,i⟩:=d.2 q;rw[h]at i;cases i
  exact .inr ⟨g,rfl,zh g⟩
 | some q=>
  have j:k∈es.map (·.1):=by rw[<-b];exact d.1 ⟨q,h⟩
  exact .inl ⟨j,rfl,zf j⟩
theorem Np.ent{n:Nat}(b:gs.map (·.1)=es.map (·.1)):Np r (HP gs k) n↔Np r gs n:=by
 unfold Np;rcases NX (k:=k) b with⟨_,h,_⟩|⟨_,h,_⟩
 .rw[h]
 .rw[h];simp[cf]
theorem uA.entry{P:Program}{mt kt et:TypeId}(G:uA e w U r c0 gs es)(hk:eV k)(hm:P.underlying mt=Y (.map kt et))(H:ij P kt=Z){i:TypeInfo}(hi:P.info? et=Y i)(hz:i.zero=Y (.slice Q2 0 0)):
  ∃(g:Array MapEntry)(d n:Nat),(Instr.mapEntry mt (.map (Y r)) (cR k)).run P w=.ok (.tuple #[Fl gs k,.int .i64 (c0+n:Nat)]) {w with heap:=w.heap.setIfInBounds r (.map g d)}/\
   uA e {w with heap:=w.heap.setIfInBounds r (.map g d)} U r c0 (HP gs k) (vN es k)/\(HP gs k)[n]?=Y (k,Fl gs k):=by
 obtain⟨ents,clock,hb,he,hs⟩:=G.mp;obtain⟨g,d,n,h1,h2,h3,h4⟩:=PX (w:=w) hm H hi hz hk hb he G.ok hs;have z:=oD (o':=Obj.map g d) hb
 have keep:∀{v:Value}{l:List (L e)},gD e w U v l->cf v≠Y r->gD e {w with heap:=w.heap.setIfInBounds r (.map g d)} U v l:=λh hr=>
  h.mono sw (λb _ hu=>z.2 b λq=>hu (q▸G.ur)) (λ_ _ h=>h) λb s=>⟨z.2 b λq=>hr (q▸s),(h.blk s).1⟩
 refine⟨g,d,n,h1,⟨⟨g,d,z.1,h2,h3⟩,?_,?_,?_,?_,?_,?_,G.ur⟩,h4⟩
 all_goals rcases NX (k:=k) G.keys with⟨B,e1,e2⟩|⟨B,e1,e2⟩
 all_goals rw[e1]
 all_goals try rw[e2]
 .exact G.keys
 .rw[gm,gm,G.keys];rfl
 .exact G.nd
 .rw[gm];refine List.nodup_append.2 ⟨G.nd,sw,λa ha b s q=>B ?_⟩;have:b=k:=by simpa using s
  rw[<-this,<-q,<-G.keys];exact ha
 .exact G.ok
 .intro p hp;rcases dl.1 hp with h|h
  .exact G.ok p h
  .obtain rfl:=fb.1 h;exact hk
 .exact λj p q hp A=>keep (G.own j p q hp A) (G.far p (gh hp))
 .intro j p q hp A;have hl:N gs=N es:=by simpa using congrArg N G.keys
  by_cases F:j<N gs
  .rw[rz F]at hp;rw[rz S]at A;exact keep (G.own j p q hp A) (G.far p (gh hp))
  .have D:j-N gs=0:=by
    rw[pE S]at hp;have:=(dF.1 hp).1;simp at this;omega
   rw[pE S,D]at hp;rw[pE S,<-hl,D]at A;cases hp;cases A;exact gD.nil
 .exact G.apart
 .intro i j p q b hp A h5 h6;have lt:∀(i:Nat)(p:K3×Value),(gs++[(k,Value.slice Q2 0 0)])[i]?=Y p->cf p.2=Y b->gs[i]?=Y p:=λi p hp s=>by
   by_cases F:i<N gs
   .rwa [rz F]at hp
   .rw[pE S]at hp;have:=gh hp;obtain rfl:=fb.1 this;simp[cf]at s
  exact G.apart i j p q b (lt i p hp h5) (lt j q A h6) h5 h6
 .exact G.far
 .intro p hp;rcases dl.1 hp with h|h
  .exact G.far p h
  .obtain rfl:=fb.1 h;simp[cf]
end
section
variable {e:Sh} {w w':World} {U U':Nat->Prop} {ρ:Nat->Option Value} {v:Value} {l:List (L e)} {r c0:Nat} {gs:List (K3×Value)} {es:List (K3×List (L e))} {k:K3}
theorem TL{ents b:Array MapEntry}{clock h:Nat}(g:w.heap[r]?=Y (.map ents clock)):lz w {w with heap:=w.heap.setIfInBounds r (.map b h)}:=by
 have⟨i,j⟩:=oD (o':=Obj.map b h) g;refine⟨sw,rfl,rfl,rfl,λa _=>?_⟩;by_cases d:a.block=r
 .unfold World.frozen?;simp only[d,i,g]
 .exact BF (j a.block d)
structure X4 (w:World) (U:Nat->Prop) (r:Nat) (gs:List (K3×Value)) (w':World) (U':Nat->Prop) (gs':List (K3×Value)):Prop where
 ext:lz w w'
 same:∀b,b<w.heap.size->¬Np r gs b->w'.heap[b]?=w.heap[b]?
 u1:∀b,b<w.heap.size->U' b->U b
 u2:∀b,b<w.heap.size->U b->¬Np r gs b->U' b
 ub:∀b,U' b->b<w'.heap.size
 new:∀b,Np r gs' b->Np r gs b\/w.heap.size<=b
theorem uA.inU(G:uA e w U r c0 gs es){n:Nat}(h:Np r gs n):U n/\n<w.heap.size:=by
 rcases h with rfl|⟨p,hp,b⟩
 .have⟨_,_,h,_⟩:=G.mp;exact⟨G.ur,(mZ.1 h).1⟩
 .obtain⟨j,d,rfl⟩:=fN hp;have g:N gs=N es:=by simpa using congrArg N G.keys
  exact(G.own j _ (es[j]'ow) (aj d) (aj S)).blk b
variable {et:TypeId}{x:L e}{vx:Value}
theorem uA.store{E:cy}(hE:EnvOk E){n:Nat}{h0:TypeId}(G:uA e w U r c0 gs es)(H:gs[n]?=Y (k,v))(x9:es[n]?=Y (k,l))(hu:E.P.underlying et=Y (.slice h0))(a7:E.sh h0=Y e)(hx:Rv w U ρ (.sl e [x]) vx)(a8:∀b,U b->b<w.heap.size)(i0:N l<=1000)(mt ty:TypeId):
  ∃D w2 w3 U3,(Builtin.append_ #[et,et] ty #[v,vx]).run E.P w=.ok D w2/\(Instr.entryStore mt (.map (Y r)) (.int .i64 (c0+n:Nat)) D).run E.P w2=.ok () w3/\
   uA e w3 U3 r c0 (gs.set n (k,D)) (es.set n (k,l++[x]))/\X4 w U r gs w3 U3 (gs.set n (k,D)):=by
 have hv:=G.own n _ _ H x9;have x5:=G.far _ (gh H);obtain⟨ents,clock,s,he,hs⟩:=G.mp;have x1:r<w.heap.size:=(mZ.1 s).1;have a1:bz w U (kz (λ_=>Q2) 0 v) 0 (.vec e l):=hv.to (by simp[kz]);have h8:∀{b:Nat},ar (kz (λ_=>Q2) 0 v) 0 (.vec e l) b->cf v=Y b:=λ⟨_,y,hy,s⟩=>by simp[kz]at hy;subst hy;exact s
 have a5:(oQ E (λid=>if id=0 then .vec e l else .dead) 1 h0 (.vec 0) (.sl e [x])).val=Y {val:=.vec 1,wr:=[(0,.dead)],nw:=[.vec e (l++[x])]}:=by
  have hd:K (N l+[x].length<=1073741824)=Z:=by simp;omega
  simp only[oQ,a7,zi,vE,dite_true,Tr.val,hd]
 obtain⟨D,w2,U2,ρ2,a3,d,_⟩:=BW hE (w:=w) (U:=U) (ρ:=kz (λ_=>Q2) 0 v) (t:=et) (t':=et) (ty:=ty) (vb:=v) (vx:=vx) (fp:=[0]) a5 hu hu (.vec 0 v (by simp[kz]) hv.one)
  (by have:=hx.ren (ρ':=kz (λ_=>Q2) 0 v) (f:=λi=>i) (by simp[AV.ids]);simpa[AV.ren]using this) a8
  ⟨λid x8=>by simp at x8;subst x8;exact a1,λi hi j hj _ _ _=>by simp at hi hj;omega⟩ (by simp[AV.ids]) (by simp[AV.ids]) (by simp[kz])
 have x3:ρ2 1=Y D:=by have:=d.val;cases this with|vec _ _ h _=>exact h
 have a9:gD e w2 U2 D (l++[x]):=zpe x3 (d.nw 0 _ rfl);have B:∀b,cf v≠Y b->∀id o,(id,o)∈([(0,AO.dead)]:List (Nat×AO))->¬ar (kz (λ_=>Q2) 0 v) id (ite (id=0) (.vec e l) (.dead)) b:=λb s id o h4 ho=>by
  simp at h4;obtain⟨rfl,_⟩:=h4;exact s (h8 ho)
 have z:∀b,cf D=Y b->w.heap.size<=b\/cf v=Y b:=λb g=>by
  rcases d.own 1 (.vec e (l++[x])) b (.inr ⟨zR _,rfl⟩) ⟨rfl,D,x3,g⟩with h|⟨i,o,h4,ho⟩
  .exact .inl h
  .simp at h4;obtain⟨rfl,_⟩:=h4;exact .inr (h8 ho)
 have x4:w2.heap[r]?=Y (.map ents clock):=(d.same r x1 (B r x5)).trans s;have x2:U2 r:=d.u2 r x1 G.ur (B r x5);have i1:(w8 gs)[n]?=Y (cR k,v):=by rw[dN,H];rfl
 obtain⟨A,h1,h2,h3⟩:=PY (P:=E.P) (mt:=mt) (w:=w2) (v':=D) x4 he hs H;have F:=oD (o':=Obj.map A clock) x4;have a2:cf D≠Y r:=λq=>(z r q).elim (λh=>by omega) x5
 have OJ:∀{v:Value}{l:List (L e)},gD e w2 U2 v l->cf v≠Y r->gD e {w2 with heap:=w2.heap.setIfInBounds r (.map A clock)} U2 v l:=λh hr=>
  h.mono sw (λb _ hu=>F.2 b λq=>hu (q▸x2)) (λ_ _ h=>h) λb g=>⟨F.2 b λq=>hr (q▸g),(h.blk g).1⟩
 have x7:∀{u:Value}{m:List (L e)},gD e w U u m->(∀b,cf u=Y b->cf v≠Y b)->gD e w2 U2 u m:=λh hd=>
  h.mono d.ext.sz (λb s hu=>d.same b s (B b λq=>hu (hv.blk q).1)) d.u1 λb g=>⟨d.same b (h.blk g).2 (B b (hd b g)),d.u2 b (h.blk g).2 (h.blk g).1 (B b (hd b g))⟩
 have hl:N gs=N es:=by simpa using congrArg N G.keys
 have a6:=(dF.1 H).1;have h9:∀{j:Nat}{p:K3×Value},(gs.set n (k,D))[j]?=Y p->(j=n/\p=(k,D))\/(j≠n/\gs[j]?=Y p):=λ{j p} hp=>by
  rw[nr]at hp;split at hp
  next q=>cases hp;exact .inl ⟨q.symm,rfl⟩
  next q=>exact .inr ⟨λh=>q h.symm,hp⟩
 have h7:(gs.set n (k,D)).map (·.1)=gs.map (·.1):=by
  rw[List.map_set];apply oB;intro i;rw[nr];split
  next q=>subst q;rw[dN,H,zf (by simpa using a6)];rfl
  .rfl
 have x0:(es.set n (k,l++[x])).map (·.1)=es.map (·.1):=by
  rw[List.map_set];apply oB;intro i;rw[nr];split
  next q=>subst q;rw[dN,x9,zf sg];rfl
  .rfl
 refine⟨D,w2,_,U2,a3,h1,⟨⟨A,clock,F.1,h2,h3⟩,by rw[h7,x0];exact G.keys,by rw[h7];exact G.nd,λp hp=>?_,λj p q hp hq=>?_,λi j p q b hp hq h5 h6=>?_,λp hp=>?_,x2⟩,?_⟩
 .rcases Tf hp with h|rfl
  .exact G.ok p h
  .exact G.ok (k,v) (gh H)
 .rcases h9 hp with⟨rfl,rfl⟩|⟨hj,hp⟩
  .rw[List.getElem?_set_self S]at hq;cases hq;exact OJ a9 a2
  .rw[D0 (λq=>hj q.symm)]at hq;exact OJ (x7 (G.own j p q hp hq) λb h5 h6=>hj (G.apart j n p _ b hp H h5 h6)) (G.far p (gh hp))
 .have a4:∀{j:Nat}{p:K3×Value},gs[j]?=Y p->cf p.2=Y b->b<w.heap.size:=λ{j p} hp g=>(G.inU (.inr ⟨p,gh hp,g⟩)).2
  rcases h9 hp with⟨rfl,rfl⟩|⟨hi,x6⟩
  .rcases h9 hq with⟨rfl,rfl⟩|⟨hj,hq⟩
   .rfl
   .rcases z b h5 with h|h
    .have:=a4 hq h6;omega
    .exact G.apart _ j _ q b H hq h h6
  .rcases h9 hq with⟨rfl,rfl⟩|⟨hj,hq⟩
   .rcases z b h6 with h|h
    .have:=a4 x6 h5;omega
    .exact G.apart i _ p _ b x6 H h5 h
   .exact G.apart i j p q b x6 hq h5 h6
 .rcases Tf hp with h|rfl
  .exact G.far p h
  .exact a2
 .have a0:∀b,¬Np r gs b->cf v≠Y b:=λb s q=>s (.inr ⟨_,gh H,q⟩)
  refine⟨d.ext.trans (TL x4),λb s hg=>(F.2 b λq=>hg (.inl q)).trans (d.same b s (B b (a0 b hg))),d.u1,λb s hu hg=>d.u2 b s hu (B b (a0 b hg)),λb s=>by have:=d.ub b s;simpa using this,λb s=>?_⟩;rcases s with rfl|⟨p,hp,s⟩
  .exact .inl (.inl rfl)
  .rcases Tf hp with h|rfl
   .exact .inl (.inr ⟨p,h,s⟩)
   .exact(z b s).elim .inr λh=>.inl (.inr ⟨_,gh H,h⟩)
theorem uA.add{E:cy}(hE:EnvOk E){mt kt elem:TypeId}(G:uA e w U r c0 gs es)(hk:eV k)(hm:E.P.underlying mt=Y (.map kt et))(h6:ij E.P kt=Z){i:TypeInfo}(hi:E.P.info? et=Y i)(hz:i.zero=Y (.slice Q2 0 0))(hu:E.P.underlying et=Y (.slice elem))(h4:E.sh elem=Y e)
    (hx:Rv w U ρ (.sl e [x]) vx) (h5:∀b,U b->b<w.heap.size) (B:∀q∈es,N q.2<=1000) (ty:TypeId):
  ∃v s w1 v' w2 w3 U3 h0 n l,(Instr.mapEntry mt (.map (Y r)) (cR k)).run E.P w=.ok (.tuple #[v,s]) w1/\(Builtin.append_ #[et,et] ty #[v,vx]).run E.P w1=.ok v' w2/\(Instr.entryStore mt (.map (Y r)) s v').run E.P w2=.ok () w3/\
   (vN es k)[n]?=Y (k,l)/\uA e w3 U3 r c0 h0 ((vN es k).set n (k,l++[x]))/\X4 w U r gs w3 U3 h0:=by
 have⟨j,g,n,h1,G1,hn⟩:=G.entry (P:=E.P) hk hm h6 hi hz;have⟨ents,clock,hb,_⟩:=G.mp;have D:=oD (o':=Obj.map j g) hb;obtain⟨l,F⟩:∃l,(vN es k)[n]?=Y (k,l):=by
  have e1:((vN es k).map (·.1))[n]?=Y k:=by rw[<-G1.keys,dN,hn];rfl
  rw[dN,dV]at e1;obtain⟨⟨k',l⟩,h,rfl⟩:=e1;exact⟨l,h⟩
 have hl:N l<=1000:=by
  have:=gh F;unfold vN at this;split at this
  .exact B _ this
  .rcases dl.1 this with h|h
   .exact B _ h
   .have:=fb.1 h;cases this;exact aK _
 have h7:Rv {w with heap:=w.heap.setIfInBounds r (.map j g)} U ρ (.sl e [x]) vx:=hx.mono sw (λb _ hu=>D.2 b λq=>hu (q▸G.ur)) (λ_ _ h=>h) λ_ _ h=>h
 have⟨v',w2,w3,U3,h2,h3,G3,d⟩:=G1.store hE hn F hu h4 h7 (λb hb=>by have:=h5 b hb;simpa using this) hl mt ty;have H:∀b,Np r (HP gs k) b↔Np r gs b:=λb=>Np.ent G.keys
 have A:({w with heap:=w.heap.setIfInBounds r (.map j g)}:World).heap.size=w.heap.size:=by simp
 refine⟨_,_,_,v',w2,w3,U3,_,n,l,h1,h2,h3,F,G3,⟨(TL hb).trans d.ext,λb z hg=>(d.same b (by rw[A];exact z) (λq=>hg ((H b).1 q))).trans (D.2 b λq=>hg (.inl q)),λb z=>d.u1 b (by rw[A];exact z),λb z hu hg=>d.u2 b (by rw[A];exact z) hu (λq=>hg ((H b).1 q)),d.ub,λb z=>?_⟩⟩;rcases d.new b z with h|h
 .exact .inl ((H b).1 h)
 .rw[A]at h;exact .inr h
end
def wE(E:cy)(C:eU)(fn:FuncId)(todo:List Item)(h:Act->World->Prop)(Q:AV->List AO->Prop):Prop:=
 ∀(b:Frame)(cs:List Frame)(a:Act)(w:World),b.fn=fn->b.kind=.normal->h a w->∃e w' d,VG E C Q e w'/\Comes E.P (lone (b.at a todo) cs w) (lone d cs w') e/\d.fn=fn/\d.leaving E.P w' e
section
variable {E:cy} {C:eU} {fn:FuncId} {Q:AV->List AO->Prop} {todo k:List Item} {st:St} {c:Code}
variable {d:Act->World->Prop}
theorem wE.of(h:Reach E C fn todo st Q)(i:∀a w,d a w->∃U ρ,Cn C st a w U ρ/\Wd E.gl C w U):wE E C fn todo d Q:=λb cs a w h1 h2 g=>by
 have⟨U,ρ,n,j⟩:=i a w g;exact h b cs a w U ρ h1 h2 n j
theorem wE.reach(h:wE E C fn todo d Q)(g:∀a w U ρ,Cn C st a w U ρ->Wd E.gl C w U->d a w):Reach E C fn todo st Q:=λb cs a w U ρ h1 h2 j i=>h b cs a w h1 h2 (g a w U ρ j i)
theorem wE.round{s:Act->World->Prop}(h:wE E C fn (.code c::.inLoop c::k) s Q)(B:∀a w,d a w->c.wp E.P (λe i w'=>e=.normal/\s i w') a w):wE E C fn (.code c::.inLoop c::k) d Q:=by intro b cs a w h1 h2 A;obtain⟨e,i,w',⟨rfl,j⟩,g⟩:=B a w A b (.inLoop c::k) cs;have⟨e,n,z,D,F,G⟩:=h b cs i w' h1 h2 j;exact⟨e,n,z,D,mh g (mh (.one step_inLoop) F),G⟩
theorem wE.rounds(n:Nat)(b:Nat->Act->World->Prop)(s:∀i,i<n->∀a w,b i a w->c.wp E.P (λe g w'=>e=.normal/\b (i+1) g w') a w)(h:wE E C fn (.code c::.inLoop c::k) (b n) Q):wE E C fn (.code c::.inLoop c::k) (b 0) Q:=by
 have d:∀j,j<=n->wE E C fn (.code c::.inLoop c::k) (b (n-j)) Q:=by
  intro j
  induction j with
  |zero=>exact λ_=>h
  | succ j z=>
   grind[round]
 have:=d n (zR _)
 rwa [Nat.sub_self]at this
end
section
variable {gl:Nat->AV} {C:eU} {a:Act} {w:World} {U:Nat->Prop} {ρ:Nat->Option Value} {e:Sh} {m r c0:Nat} {gs:List (K3×Value)} {es:List (K3×List (L e))} {tm:List AV} {h1 h2:List AO}
structure kD (C:eU) (e:Sh) (tm:List AV) (h1 h2:List AO) (a:Act) (w:World) (U:Nat->Prop) (ρ:Nat->Option Value) (r c0:Nat) (gs:List (K3×Value)) (es:List (K3×List (L e))):Prop where
 cn:Cn C ⟨tm,h1++.dead::h2⟩ a w U ρ
 at_:ρ (N h1)=Y (.map (Y r))
 gr:uA e w U r c0 gs es
 far:∀id b,ar ρ id ((⟨tm,h1++.dead::h2⟩:St).hp id) b->¬Np r gs b
 rb:C.B0 r\/C.w0.heap.size<=r
 nb:∀p∈gs,∀b,cf p.2=Y b->C.w0.heap.size<=b
theorem xt(o:AO)(id:Nat):(⟨tm,h1++o::h2⟩:St).hp id=if id=N h1 then o else(⟨tm,h1++.dead::h2⟩:St).hp id:=by
 show(h1++o::h2).getD id .dead=if id=N h1 then o else(h1++.dead::h2).getD id .dead
 grind
theorem zfb(g:Cn C ⟨tm,h1++.gmap e []::h2⟩ a w U ρ):∃r c0,kD C e tm h1 h2 a w U ρ r c0 [] []:=by
 have A:=g.hp.ob (N h1);rw[xt,zf rfl]at A;have⟨r,ents,clock,gs,B,q2,q3,q4,q5,q6,q7⟩:=A;have z:gs=[]:=by simpa using q6
 subst z;have H:ents=#[]:=by simpa using q5
 subst H;have n:ar ρ (N h1) ((⟨tm,h1++.gmap e []::h2⟩:St).hp (N h1)) r:=by
  rw[xt,zf rfl];exact⟨rfl,_,B,rfl⟩
 have s:∀id b,ar ρ id ((⟨tm,h1++.dead::h2⟩:St).hp id) b->id≠N h1/\ar ρ id ((⟨tm,h1++.gmap e []::h2⟩:St).hp id) b:=λid b h=>by
  by_cases d:id=N h1
  .rw[xt,zf d]at h;cases h.1
  grind[xt]
 refine⟨r,clock,⟨⟨g.tm,⟨λid=>?_,λi j b F G=>g.hp.inj i j b (s i b F).2 (s j b G).2,λid b h=>g.hp.blk id b (s id b h).2⟩,λid d=>g.new id (by simpa using d),g.df,g.r0⟩,B,⟨⟨#[],clock,q3,sw,⟨sw,sw⟩⟩,rfl,sw,sw,sw,sw,sw,q2⟩,λid b h D=>?_,g.hp.blk _ _ n,sw⟩⟩
 .rw[xt];split
  .trivial
  .rename_i d;have:=g.hp.ob id
   rwa [xt,zh d]at this
 .rcases D with rfl|⟨p,hp,_⟩
  .exact(s id _ h).1 (g.hp.inj id (N h1) _ (s id _ h).2 n)
  .cases hp
theorem Wy(h:kD C e tm h1 h2 a w U ρ r c0 gs es)(D:Wd gl C w U):∃U',Cn C ⟨tm,h1++.gmap e es::h2⟩ a w U' ρ/\Wd gl C w U':=by
 refine⟨λb=>U b/\¬∃p∈gs,cf p.2=Y b,⟨?_,⟨λid=>?_,λi j b hi hj=>?_,λid b s=>?_⟩,λid d=>h.cn.new id (by simpa using d),h.cn.df,h.cn.r0⟩,⟨D.ext,D.same,λb n=>D.ub b n.1,λb n F=>D.u1 b n F.1,λb n F hB=>⟨D.u2 b n F hB,λ⟨p,hp,h0⟩=>by have:=h.nb p hp b h0;omega⟩,λg=>(D.gl g).weak λ_ h=>h.1⟩⟩
 .exact⟨h.cn.tm.len,λj c v hc A=>(h.cn.tm.rv j c v hc A).weak λ_ h=>h.1⟩
 .rw[xt];split
  next d=>subst d;have⟨ents,clock,g1,g2,g3⟩:=h.gr.mp;refine⟨r,ents,clock,gs,h.at_,⟨h.gr.ur,λ⟨p,hp,n⟩=>h.gr.far p hp n⟩,g1,⟨by simpa using(congrArg N h.gr.keys).symm,λj c v hc A=>?_⟩,g2,h.gr.keys,h.gr.ok⟩;rw[dN,dV]at hc A;obtain⟨q,hq,rfl⟩:=hc;obtain⟨p,hp,rfl⟩:=A;exact(h.gr.own j p q hp hq).rv (λ_ h=>h.1) λb n F=>F.2 ⟨p,gh hp,n⟩
  next d=>refine(h.cn.hp.ob id).mono (zR _) (λ_ _ _=>rfl) (λ_ _ h=>h.1) (λ_ _ h=>h) λb s=>⟨rfl,(bz.inU (h.cn.hp.ob id) s).1,λ⟨p,hp,n⟩=>h.far id b s (.inr ⟨p,hp,n⟩)⟩
 .have z:∀id b,ar ρ id ((⟨tm,h1++.gmap e es::h2⟩:St).hp id) b->(id=N h1/\b=r)\/(id≠N h1/\ar ρ id ((⟨tm,h1++.dead::h2⟩:St).hp id) b):=λid b s=>by
   rw[xt]at s;split at s
   next d=>have⟨_,v,A,n⟩:=s;rw[d,h.at_]at A;cases A;cases n;exact .inl ⟨d,rfl⟩
   next d=>exact .inr ⟨d,s⟩
  rcases z i b hi with⟨e1,G⟩|⟨e1,G⟩
  .rcases z j b hj with⟨H,B⟩|⟨H,B⟩
   .rw[e1,H]
   .exact zB (.inl G) (h.far j b B)
  .rcases z j b hj with⟨H,B⟩|⟨H,B⟩
   .exact zB (.inl B) (h.far i b G)
   .exact h.cn.hp.inj i j b G B
 .rw[xt]at s;split at s
  next d=>have⟨_,v,A,n⟩:=s;rw[d,h.at_]at A;cases A;cases n;exact h.rb
  .exact h.cn.hp.blk id b s
variable {w':World}{U':Nat->Prop}
theorem uA.keep(G:uA e w U r c0 gs es)(z:w.heap.size<=w'.heap.size)(n:∀b,b<w.heap.size->¬U b->w'.heap[b]?=w.heap[b]?)(A:∀b,b<w.heap.size->U' b->U b)(h:∀b,Np r gs b->w'.heap[b]?=w.heap[b]?/\U' b):uA e w' U' r c0 gs es:=by refine⟨?_,G.keys,G.nd,G.ok,λj p q hp s=>(G.own j p q hp s).mono z n A λb i=>h b (.inr ⟨p,gh hp,i⟩),G.apart,G.far,(h r (.inl rfl)).2⟩;have⟨ents,clock,g,d⟩:=G.mp;exact⟨ents,clock,(h r (.inl rfl)).1.trans g,d⟩
variable {tm':List AV}
theorem kD.keep{j:Act}{ρ':Nat->Option Value}(h:kD C e tm h1 h2 a w U ρ r c0 gs es)(A:Cn C ⟨tm',h1++.dead::h2⟩ j w' U' ρ')(g:wG w U ρ (⟨tm,h1++.dead::h2⟩:St).hp w' U' ρ' (⟨tm',h1++.dead::h2⟩:St).hp):kD C e tm' h1 h2 j w' U' ρ' r c0 gs es:=by
 have s:∀b,Np r gs b->∀id,¬ar ρ id ((⟨tm,h1++.dead::h2⟩:St).hp id) b:=λb d id n=>h.far id b n d
 refine⟨A,g.rho _ _ h.at_,h.gr.keep g.ext.sz (λb z F=>g.same b z λid n=>F (bz.inU (h.cn.hp.ob id) n).1) g.u1 (λb d=>⟨g.same b (h.gr.inU d).2 (s b d),g.u2 b (h.gr.inU d).2 (h.gr.inU d).1 (s b d)⟩),λid b n d=>?_,h.rb,h.nb⟩;rcases g.own id b n with⟨i,B⟩|D
 .exact h.far i b B d
 .have:=(h.gr.inU d).2;omega
theorem kD.left{n:List (K3×Value)}{B:List (K3×List (L e))}(h:kD C e tm h1 h2 a w U ρ r c0 gs es)(A:Wd gl C w U)(d:X4 w U r gs w' U' n)(G:uA e w' U' r c0 n B):kD C e tm h1 h2 a w' U' ρ r c0 n B/\Wd gl C w' U':=by
 have hk:∀b,b<w.heap.size->¬U b->w'.heap[b]?=w.heap[b]?:=λb i F=>d.same b i λD=>F (h.gr.inU D).1
 have H:∀b,b<C.w0.heap.size->¬C.B0 b->¬Np r gs b:=λb i s D=>by
  rcases D with rfl|⟨p,hp,z⟩
  .exact h.rb.elim s λq=>by omega
  .have:=h.nb p hp b z;omega
 have h0:=A.ext.sz
 refine⟨⟨⟨⟨h.cn.tm.len,λj c v hc hv=>(h.cn.tm.rv j c v hc hv).mono d.ext.sz hk d.u1 λ_ _ h=>h⟩,⟨λid=>(h.cn.hp.ob id).mono d.ext.sz hk d.u1 (λ_ _ h=>h) λb ho=>?_,h.cn.hp.inj,h.cn.hp.blk⟩,h.cn.new,h.cn.df,h.cn.r0⟩,h.at_,G,λid b ho D=>?_,h.rb,λp hp b i=>?_⟩,
  ⟨A.ext.trans d.ext,λb i s=>(d.same b S (H b i s)).trans (A.same b i s),d.ub,λb i F=>A.u1 b i (d.u1 b S F),λb i F s=>d.u2 b S (A.u2 b i F s) (H b i s),λg=>(A.gl g).mono d.ext.sz hk d.u1 λ_ _ h=>h⟩⟩
 .have⟨u1,u2⟩:=bz.inU (h.cn.hp.ob id) ho;grind[X4.same,far,X4.u2]
 .have⟨u1,u2⟩:=bz.inU (h.cn.hp.ob id) ho;rcases d.new b D with q|q
  .exact h.far id b ho q
  .omega
 .rcases d.new b (.inr ⟨p,hp,i⟩)with(q|⟨p',hp',z⟩)|q
  .exact zB (q▸i) (G.far p hp)
  .exact h.nb p' hp' b z
  .omega
theorem kD.slots{j:Act}(h:kD C e tm h1 h2 a w U ρ r c0 gs es)(d:dn w U ρ tm' j.tmps.toList)(b:j.defers=[]):kD C e tm' h1 h2 j w U ρ r c0 gs es:=⟨⟨d,h.cn.hp,h.cn.new,b,h.cn.r0⟩,h.at_,h.gr,h.far,h.rb,h.nb⟩
def vd(ks:List Nat)(l:List AV):List AV:=l.mapIdx λi c=>if ks.contains i then c else .any
theorem Lp{ks:List Nat}{l:List AV}{g:List Value}(h:dn w U ρ l g):dn w U ρ (vd ks l) g:=⟨by unfold vd;rw[List.length_mapIdx];exact h.len,λj c v b n=>by
 unfold vd at b;rw[List.getElem?_mapIdx,dV]at b;obtain⟨i,d,rfl⟩:=b;split
 .exact h.rv j i v d n
 .exact .any _⟩
end
section
variable {E:cy} {C:eU} {a:Act} {w:World} {U:Nat->Prop} {ρ:Nat->Option Value} {e:Sh} {r c0:Nat} {gs:List (K3×Value)} {es:List (K3×List (L e))} {tm tm':List AV} {h1 h2:List AO} {cs:List Bool}
theorem Km{α:Type}{t:Tr α}{s:α}(h:t.leaf=Y s)(d:t.asks=cs)(b:cs.all id=Z):t.val=Y s:=Tr.val_leaf h (by rw[d];exact b)
theorem kD.region(A:zx E){id:Nat}{ops:List Oper}(ks:List Nat)(h:kD C e tm h1 h2 a w U ρ r c0 gs es)(D:Wd E.gl C w U)
  (z:(jZ E ops M ⟨tm,h1++.dead::h2⟩).leaf.map (λs=>(vd ks s.tmps,s.heap))=Y (tm',h1++.dead::h2)) (G:(jZ E ops M ⟨tm,h1++.dead::h2⟩).asks=cs) (F:cs.all _root_.id=Z):
  (Code.region id ops.toArray M).wp E.P (λj i w'=>j=.normal/\∃U' ρ',kD C e tm' h1 h2 i w' U' ρ' r c0 gs es/\Wd E.gl C w' U') a w:=by rw[dV]at z;have⟨s,H,n⟩:=z;have⟨st,sh⟩:=s;simp only[cQ]at n;obtain⟨rfl,rfl⟩:=n;have hv:=Km H G F;refine wp_mono (PT (id:=id) (draw:=M) (ops:=ops.toArray) A (by simpa using hv) h.cn D) ?_;rintro j i w' ⟨rfl,U',ρ',g,d,B⟩;have b:=h.keep g B;exact⟨rfl,U',ρ',b.slots (Lp b.cn.tm) b.cn.df,d⟩
variable {Q:Exit->Act->World->Prop}
theorem kD.ops(B:zx E){id:Nat}{b d:List Oper}(ks:List Nat)(h:kD C e tm h1 h2 a w U ρ r c0 gs es)(G:Wd E.gl C w U)
  (A:(cu E (b++d) b {tmps:=tm,heap:=h1++.dead::h2}).leaf.map (λs=>(vd ks s.tmps,s.heap))=Y (tm',h1++.dead::h2)) (hk:(cu E (b++d) b {tmps:=tm,heap:=h1++.dead::h2}).asks=cs) (H:cs.all _root_.id=Z)
  (F:∀g w' U' ρ',kD C e tm' h1 h2 g w' U' ρ' r c0 gs es->Wd E.gl C w' U'->wpOps E.P (b++d).toArray Q (List.range' (N b) (N d)) g w'):(Code.region id (b++d).toArray M).wp E.P Q a w:=by rw[dV]at A;have⟨s,hs,z⟩:=A;have hv:=Km hs hk H;have⟨st,sh,kn,tc,lg⟩:=s;simp only[cQ]at z;obtain⟨rfl,rfl⟩:=z;refine wp_region (zfT B hv h.cn.toR G λg w' U' ρ' n j D=>?_);have i:=h.keep (tm':=st) n.out D;exact F g w' U' ρ' (i.slots (Lp i.cn.tm) i.cn.df) j
variable {P:Program}{d:Array Oper}{v:Value}{w':World}
theorem ux{k m:Nat}{o:Oper}(g:d[k]?=Y o)(b:o.guard=Q2)(i:(execOp a.eval o).run P w=.ok (.value v) w')(h:wpOps P d Q (List.range' (k+1) m) (a.put o.dst v) w'):wpOps P d Q (List.range' k (m+1)) a w:=by rw[List.range'_succ];simp only[wpOps,g,Region.wanted,b,zi];exact .inl (fz i h)
theorem S2{k m:Nat}{o:Oper}(g:d[k]?=Y o)(b:o.guard=Q2)(i:(execOp a.eval o).run P w=.ok .skip w')(h:wpOps P d Q (List.range' (k+1) m) (a.put o.dst undef) w'):wpOps P d Q (List.range' k (m+1)) a w:=by rw[List.range'_succ];simp only[wpOps,g,Region.wanted,b,zi];exact .inl (sT i h)
section
variable {P:Program} {w':World} {f:Operand->Value} {o:Oper} {v x y:Value} {t t':TypeId} {m k p q:Operand}
theorem HO(h1:o.op=.mapEntry t m k)(b:f m=x)(d:f k=y)(h:(Instr.mapEntry t x y).run P w=.ok v w'):(execOp f o).run P w=.ok (.value v) w':=by subst b d;simp[execOp,h1,h]
theorem CC{z:Value}(h1:o.op=.entryStore t m k p)(b:f m=x)(d:f k=y)(g:f p=z)(h:(Instr.entryStore t x y z).run P w=.ok () w'):(execOp f o).run P w=.ok .skip w':=by subst b d g;simp[execOp,h1,h]
theorem xk{b:Array Value}{n:Nat}(h1:o.op=.extract m n)(d:f m=.tuple b)(h:b[n]?=Y v):(execOp f o).run P w=.ok (.value v) w:=by simp[execOp,h1,d,Instr.extract,h]
theorem Oe(h1:o.op=.call {callee:=.builtin .append,args:=#[p,q],argTypes:=#[t,t']})(b:f p=x)(d:f q=y)(h:(Builtin.append_ #[t,t'] o.type #[x,y]).run P w=.ok v w'):(execOp f o).run P w=.ok (.value v) w':=by subst b d;simp[execOp,h1,resolve,invoke,builtin,h]
end
theorem kI{a:Act}{n t:Nat}(h:n<a.tmps.size):(a.put (Y n) v).eval (.tmp t)=if t=n then v else a.eval (.tmp t):=by
 simp only[Act.eval,Act.put];rw[qX,qX];split
 next e=>subst e;simp[h]
 next e=>rw[Array.getElem?_setIfInBounds_ne (λq=>e q.symm)]
theorem G8{a:Act}{d:Option Nat}:(a.put d v).tmps.size=a.tmps.size:=by cases d<;>simp[Act.put]
theorem dn.slot{l:List AV}(h:dn w U ρ l a.tmps.toList)(t:Nat):Rv w U ρ (l.getD t .any) (a.eval (.tmp t)):=by
 show Rv w U ρ _ (a.tmps.getD t undef);by_cases b:t<N l
 .have d:t<a.tmps.toList.length:=by rw[<-h.len];exact b
  refine h.rv t _ _ (by simp_all) ?_;simp_all
 .rw[bD,fa S];exact .any _
end
def lv(l:List K3):List K3:=l.foldl (λh a=>if a∈h then h else h++[a]) []
theorem tw(l:List K3)(a:K3):lv (l++[a])=if a∈lv l then lv l else lv l++[a]:=by unfold lv;rw[List.foldl_append];rfl
theorem AU(Φ:List K3->List K3->Prop)(i:Φ [] [])(h1:∀l a,Φ l (lv l)->Φ (l++[a]) (lv (l++[a]))):∀l,Φ l (lv l):=by
 have g:∀(n:Nat)(l:List K3),N l=n->Φ l (lv l):=by
  intro n
  induction n with
  |zero=>intro l d;rw[List.length_eq_zero_iff.1 d];exact i
  | succ n j=>
   intro l d;obtain⟨h,b,rfl⟩:∃h b,l=h++[b]:=⟨l.dropLast,l.getLast (List.ne_nil_of_length_pos S),(List.dropLast_concat_getLast _).symm⟩;exact h1 h b (j h (by simpa using d))
 exact λl=>g _ l rfl
theorem JC(a:K3)(l:List K3):a∈lv l↔a∈l:=
 AU (λl u=>a∈u↔a∈l) Iff.rfl (λl b i=>by
  rw[tw];split
  .rename_i h;rw[i,dl,fb];exact⟨.inl,λq=>q.elim id λe=>e▸(AU (λl u=>∀x∈u,x∈l) (λ_ h=>h) (λl c h x d=>by
    rw[tw]at d;split at d
    .exact List.mem_append_left _ (h x d)
    .rcases dl.1 d with q|q
     .exact List.mem_append_left _ (h x q)
     .exact List.mem_append_right _ q) l) b h⟩
  .rw[dl,dl,i]) l
theorem Ca(l:List K3):(lv l).Nodup:=
 AU (λ_ u=>u.Nodup) List.nodup_nil (λl b i=>by
  rw[tw];split
  .exact i
  .rename_i h;refine List.nodup_append.2 ⟨i,sw,λx d y g e=>h ?_⟩;have:y=b:=by simpa using g
   rw[<-this,<-e];exact d) l
def dL(at_:Int)(rows:List zr):List (K3×List zr):=(lv (rows.map λrow=>zO at_ row)).map λk=>(k,rows.filter λrow=>k==zO at_ row)
section
variable {at_:Int} {rows:List (List (L R))} {row:List (L R)}
theorem B3:(dL at_ rows).map (·.1)=lv (rows.map λrow=>zO at_ row):=by unfold dL;rw[qL];exact List.map_id _
theorem Ou{n:Nat}{l:List zr}(z:(vN (e:=.sl R) (dL at_ rows) (zO at_ row))[n]?=Y (zO at_ row,l)):
  (vN (e:=.sl R) (dL at_ rows) (zO at_ row)).set n (zO at_ row,l++[row])=dL at_ (rows++[row]):=by
 have b:vN (e:=.sl R) (dL at_ rows) (zO at_ row)=(lv ((rows++[row]).map λrow=>zO at_ row)).map λk=>(k,rows.filter λrow=>k==zO at_ row):=by
  unfold vN;rw[B3,gm,er,oG,tw];split
  .rfl
  .rename_i h;rw[gm];have:(rows.filter λr=>zO at_ row==zO at_ r)=[]:=List.filter_eq_nil_iff.2 λr F s=>h ((JC _ _).2 (bt.2 ⟨r,F,(bV s).symm⟩))
   rw[er,oG,this];rfl
 have d:=Ca ((rows++[row]).map λrow=>zO at_ row);rw[b]at z|-;unfold dL;generalize lv ((rows++[row]).map λrow=>zO at_ row)=ks at z d|-;apply oB;intro j;rw[dN,dV]at z;have⟨k,A,s⟩:=z;simp only[cQ]at s;obtain⟨rfl,rfl⟩:=s;have i:=(dF.1 A).1;rw[dN,nr];split
 next q=>subst q;rw[A,zf (by simpa using i)];simp
 .rename_i q;rw[dN];cases D:ks[j]? with
  |none=>rfl
  | some G=>
   have B:(G==zO at_ row)=M:=by
    rw[dM];intro e;subst e;have h1:=(dF.1 D).1;refine q ?_;exact(List.getElem_inj (h₀:=i) (h₁:=h1) d).1 (by rw[(dF.1 A).2,(dF.1 D).2])
   have g:=dM.1 B;simpa[List.filter_append]using g
theorem RN(k:K3):lE (e:=.sl R) (dL at_ rows) k=rows.filter λrow=>k==zO at_ row:=by
 have b:∀ks:List K3,(k∈ks->lE (e:=.sl R) (ks.map λk=>(k,rows.filter λrow=>k==zO at_ row)) k=(rows.filter λrow=>k==zO at_ row))/\(k∉ks->lE (e:=.sl R) (ks.map λk=>(k,rows.filter λrow=>k==zO at_ row)) k=[]):=by
  intro ks
  induction ks with
  |nil=>exact⟨λh=>(by cases h),λ_=>rfl⟩
  | cons a r i=>
   have e:lE (e:=.sl R) ((a::r).map λk=>(k,rows.filter λrow=>k==zO at_ row)) k=bif k==a then rows.filter λrow=>a==zO at_ row else lE (e:=.sl R) (r.map λk=>(k,rows.filter λrow=>k==zO at_ row)) k:=rfl
   rw[e];by_cases h:k=a
   .subst h;simp
   .have d:(k==a)=M:=by simpa using h
    rw[d,aJ];exact⟨λq=>i.1 (by simpa[h]using q),λq=>i.2 λw=>q (np _ w)⟩
 unfold dL;by_cases h:k∈lv (rows.map λrow=>zO at_ row)
 .exact(b _).1 h
 .rw[(b _).2 h];exact(List.filter_eq_nil_iff.2 λr j g=>h ((JC _ _).2 (bt.2 ⟨r,j,(bV g).symm⟩))).symm
theorem TQ{e:Sh}{es:List (K3×List (L e))}(g:(es.map (·.1)).Nodup) (u k:K3):lE (nf es u) k=if k=u then[]else lE es k:=by
 induction es with
 |nil=>split<;>rfl
 | cons p r z=>
  rw[er,List.nodup_cons]at g;have b:∀{s:List (K3×List (L e))},p.1∉s.map (·.1)->lE s p.1=[]:=by
   intro s
   induction s with
   |nil=>exact λ_=>rfl
   | cons q s i=>
    intro h;rw[er,ce,not_or]at h;have:(p.1==q.1)=M:=by simpa using h.1
    show(cond (p.1==q.1) q.2 (lE s p.1))=[];rw[this,aJ];exact i h.2
  show lE (cond (u==p.1) r (p::nf r u)) k=_;by_cases h:u=p.1
  .subst h;rw[beq_self_eq_true,aG];split
   next q=>subst q;exact b g.1
   .rename_i q;have:(k==p.1)=M:=by simpa using q
    show _=bif k==p.1 then p.2 else lE r k
    rw[this,aJ]
  .have j:(u==p.1)=M:=by simpa using h
   rw[j,aJ];show(cond (k==p.1) p.2 (lE (nf r u) k))=if k=u then[]else bif k==p.1 then p.2 else lE r k
   rw[z g.2];cases n:k==p.1 with
   |false=>rfl
   | true=>
    have:k=p.1:=bV n;have d:¬k=u:=λq=>h (q.symm.trans this)
    simp only[zh d,aG]
theorem IA{e:Sh}{es:List (K3×List (L e))}(h:(es.map (·.1)).Nodup) (u:K3):((nf es u).map (·.1)).Nodup:=h.sublist ((Fi u es).map _)
theorem xq:((dL at_ rows).map (·.1)).Nodup:=by rw[B3];exact Ca _
end
end
end Cad
