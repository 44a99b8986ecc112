/- Units. -/
import Derived.Test.YtjdjldbhjmgmkaaGreatDoorS21
namespace Cad
open Go Go.Proofs
open List renaming length→Io
open IntKind renaming wrap→Γ,i64→Δ
open AV renaming agg→Qd
open AO renaming box→Qa
open Sh renaming expr→Q5
open Bool renaming false→Q4,true→Q3
open Option renaming none→Q2,some→Q1
open Decidable renaming decide→Q0
open Int (toNat)
open List (getD)
open Tr (chk br re)
open AV (nils agg tup ptr kb str sl)
set_option maxHeartbeats 4000000
noncomputable section
def H4(p:ar):Prop:=Io p.2.2.2.1.2.1<=1000/\Io p.2.2.2.1.2.2.2.1<=1000000/\Io p.2.2.2.1.t.1<=1000000/\pZ 16 p.2.2.2.1.t.2=Q3/\Io p.t.1<=1000000
theorem nU:H4 kB:=⟨aM _,aM _,aM _,rfl,aM _⟩
variable {c:Int}{p:ar}
theorem tK(h:c=0->H4 p):H4 (iF c p).2:=by
 unfold iF;split
 .split
  .exact h (by assumption)
  .exact nU
 .exact nU
variable {s:zN}
theorem Pw(db:zR)(x:zbK s):H4 (bm db s).2:=by
 have c:=x.sh.names.1;unfold bm;split;rotate_left
 .exact nU
 split;rotate_left
 .exact nU
 unfold cJ;split
 .refine tK λ_=>⟨?_,aM _,aM _,x.cp,?_⟩
  .show(eD _ _).length<=_;unfold eD;rw[cQ];omega
  .show(js _ _).length<=_;unfold js;rw[cQ];omega
 split
 .refine tK λh=>?_
  have b:(al db s.2.2.1).2.1.length+(eu db s.t.t.t).2.1.length<=9:=by
   unfold fY at h;split at h
   .cases h
   split at h;rotate_left
   .cases h
   split at h
   .cases h
   .omega
  have d:=lF (eu db s.t.t.t).2.2.1 (Io (eu db s.t.t.t).2.1);refine⟨?_,aM _,aM _,x.cp,?_⟩
  .show(_++fZ _ _).length<=_;unfold fZ;rw[ik,cQ];omega
  .show(ju _ _).length<=_;unfold ju;rw[cQ];omega
 split
 .refine tK λ_=>⟨?_,aM _,aM _,x.cp,?_⟩
  .show(xE _ _).length<=_;unfold xE;simp
  .show(js _ _).length<=_;unfold js;rw[cQ];omega
 .exact nU
def fh(db:zR)(p:ar):am:=getD (aa db p) 0 (zi zk)
structure aV (db:zR) (p:ar):Prop where
 go:QD p (aa db p)
 rel:ed (fh db p)
 plc:wD p (aa db p)=Q1 (dL p (aa db p),())
 inn:∀row∈(fh db p).2,zK (dL p (aa db p)) (Io row)=Q3/\Io row=Io (fh db p).1.2.1
 fnd:∀n∈bK p.2.1 p.2.2.1,LE.le (α:=Int) 0 (ae db n)
 mig:jS p.1
 col:LE.le (α:=Int) 0 (dL p (aa db p))/\LT.lt (α:=Int) (dL p (aa db p)) (Io (fh db p).1.2.1)
variable {db:zR}
theorem Zd(A:∀x∈db,gL x)(hp:(bm db s).1=0)(M:zbK s):aV db (bm db s).2:=by
  obtain⟨hm,F,hb,B,h0,m⟩:=I8 hp;obtain⟨c1,c2,_,c4,c5,J⟩:=UN A hp M.sh;have hB:=(il A).1 hb;obtain⟨X,Y,Z,b4,b5⟩:=Pw db M;have l:=jZ F;have y:(cJ db s).1=0:=by rw[<-m];exact hp
  obtain⟨f1,f2,f3⟩:=B6 y;rw[m]at c1 c2 c4 c5 J X Y Z b4 b5|-;have D:∀n∈bK (cJ db s).2.2.1 (cJ db s).2.2.2.1,LE.le (α:=Int) 0 (ae db n):=by rw[f2,f3];exact B
  have N:LE.le (α:=Int) 0 (ae db s.2.2.1):=B _ (by unfold bK;split<;>simp);have hx:fh db (cJ db s).2=ji (aG (bK s.2.2.1 (cD s))) (aF db s.2.2.1):=by
    unfold fh aa;rw[f2,f3];have:∃r,bK s.2.2.1 (cD s)=s.2.2.1::r:=by unfold bK;split<;>exact⟨_,rfl⟩
    obtain⟨r,e⟩:=this;rw[e];rfl
  have z:ed (fh db (cJ db s).2):=by rw[hx];exact(hB.rels _ (jx N).1).cut
  have j:(fh db (cJ db s).2).1.2.1=(al db s.2.2.1).2.1:=by rw[hx];rfl
  obtain⟨m1,m2⟩:=Y6 (b:=(cJ db s).2) (by omega) Y Z b4 b5;have o:∀row∈(fh db (cJ db s).2).2,Io row=Io (fh db (cJ db s).2).1.2.1:=λrow I=>(dn (z.fits row I)).1
  have c : (LE.le (α:=Int) 0 (dL (cJ db s).2 (aa db (cJ db s).2))∧LT.lt (α:=Int) (dL (cJ db s).2 (aa db (cJ db s).2)) (Io (fh db (cJ db s).2).1.2.1))∧((cJ db s).2.1≠[99,111,112,121]→(cJ db s).2.1≠[106,111,105,110]→0 < Io (cJ db s).2.2.2.2.2.1):=by
    unfold dL;rw[f1];rcases hm with g|g|g
    · rw[ze g]
      refine⟨?_,λh=>zC g h⟩;obtain⟨k1,_⟩:=gq z.may;exact k1
    · have G:s.1≠[99,111,112,121]:=by rw[g];decide
      rw[zg G,ze g];refine⟨?_,λ_ h=>zC g h⟩
      have e:(cJ db s)=iF (fY (al db s.2.2.1) (eu db s.2.2.2.2.2.2.2.2.2.2.2.2) s.2.2.2.2.2.1 s.2.2.2.2.2.2.2.2.2.2.2.2)
          (s.1,s.2.2.1,s.2.2.2.2.2.2.2.2.2.2.2.2,(s.2.1,(al db s.2.2.1).2.1++fZ (eu db s.2.2.2.2.2.2.2.2.2.2.2.2) (Io (eu db s.2.2.2.2.2.2.2.2.2.2.2.2).2.1),(al db s.2.2.1).2.2.1,[],[],s.2.2.2.2.2.2.2.2.1),
            ju (eu db s.2.2.2.2.2.2.2.2.2.2.2.2).2.2.1 (Io (eu db s.2.2.2.2.2.2.2.2.2.2.2.2).2.1),zV (al db s.2.2.1) s.2.2.2.2.2.1):=by
        unfold cJ;rw[zg (by simpa using G),ze (by simp[g])]
      have e0:=y;rw[e]at e0;obtain⟨q,L⟩:=iG e0;have d:¬LT.lt (α:=Int) (zV (al db s.2.2.1) s.2.2.2.2.2.1) 0:=by
        intro P;unfold fY at q;rw[ze P]at q;cases q
      have T:(cJ db s).2.2.2.2.2.2=zV (al db s.2.2.1) s.2.2.2.2.2.1:=by rw[e,L]
      rw[T,j];exact⟨by omega,(ie d).2⟩
    · have G:s.1≠[99,111,112,121]:=by rw[g];decide
      have n2:s.1≠[106,111,105,110]:=by rw[g];decide
      rw[zg G,zg n2];have e:(cJ db s)=iF (qi (al db s.2.2.1) s.2.2.2.1) (s.1,s.2.2.1,s.2.2.2.2.2.2.2.2.2.2.2.2,(s.2.1,xE (al db s.2.2.1) s.2.2.2.1,0,[],[],s.2.2.2.2.2.2.2.2.1),js (al db s.2.2.1) s.2.2.2.1,0):=by
        unfold cJ;rw[zg (by simpa using G),zg (by simpa using n2),ze (by simp[g])]
      have e0:=y;rw[e]at e0;obtain⟨q,L⟩:=iG e0;have W:gv (al db s.2.2.1) s.2.2.2.1=0:=by
        unfold qi at q;split at q
        · assumption
        · exact q
      have d:=qu W;have O:(cJ db s).2.2.2.2.2.1=js (al db s.2.2.1) s.2.2.2.1:=by rw[e,L]
      have h2:=jR l g;rw[O,j]
      match S:s.2.2.2.1,h2 with
      | [a,b],_=>
        rw[S]at d;have ha:=d a (by simp)
        exact ⟨⟨by have:¬ LT.lt (α:=Int) (zV (al db s.2.2.1) a) 0:=ha
                   show LE.le (α:=Int) 0 (zV (al db s.2.2.1) a);omega,(ie ha).2⟩,λ_ _=>by simp[js]⟩
  have H:=pi J;refine⟨⟨c2,J,by rw[c1],by rw[c4];exact M,c5,X,m1,m2.2 rfl⟩,z,UW H.1 c.2,λrow I=>⟨?_,o row I⟩,D,by rw[f1];exact hm,c.1⟩;rw[o row I];unfold zK;rw[aE];have h1:=c.1.1;have h2:=c.1.2;exact⟨zy h1,zy (by omega)⟩
section
variable {db:List (Sem zk)} {p:Sem aq}
theorem aV.pc(h:aV db p):mC p (aa db p)=Q3/\de p (aa db p)=dL p (aa db p):=
 ⟨by unfold mC;rw[h.plc];rfl,by unfold de;rw[h.plc];rfl⟩
theorem aV.at_mem(h:aV db p){row:zt}(b:row∈(fh db p).2):getD row (toNat (dL p (aa db p))) (zi zf)∈row:=by have x:=(h.inn row b).1;simp only[zK,aE,aQ]at x;exact Dh _ _ ow
theorem aV.may(h:aV db p){x:zp}(c:x∈Ks p (aa db p)):bf x=Q3:=by obtain⟨row,b,rfl⟩:=bh.1 c;rw[h.pc.2];exact(dn (h.rel.fits row b)).2.1 _ (h.at_mem b)
theorem aV.all(h:aV db p):HS p (aa db p)=Q3:=by unfold HS;simp only[aE,aQ,dQ];refine⟨h.pc.1,zx (i:=0) (pi h.go.two).1,aT h.rel.few ow,λrow x=>⟨?_,h.may (bh.2 ⟨row,x,rfl⟩)⟩⟩;rw[h.pc.2];exact(h.inn row x).1
theorem aV.len(h:aV db p){row:zt}(x:row∈(fh db p).2):Io row<=8:=by rw[(h.inn row x).2];exact(gq h.rel.may).2.2.2.1
theorem aV.few(_:aV db p):(cV p (aa db p)).length<=(fh db p).2.length:=by have:=VA (Ks p (aa db p));have e:(Ks p (aa db p)).length=(fh db p).2.length:=cQ _;rw[e]at this;exact this
theorem aV.keys(h:aV db p)(c:p.1=dm):(Ks p (aa db p)).Nodup/\∀x∈Ks p (aa db p),x.1≠0:=by
 have hp:de p (aa db p)=(fh db p).1.2.2.1:=by
  rw[h.pc.2];unfold dL;rw[ze c];rfl
 have e:Ks p (aa db p)=(fh db p).2.map (zS (fh db p).1.2.2.1):=by
  unfold Ks;rw[hp];rfl
 rw[e];refine⟨RF h.rel.pw,λx j=>?_⟩;obtain⟨row,b,rfl⟩:=bh.1 j;have g:=(lT _).1 h.rel.may;have d:=h.rel.keys row b;simp only[zK,aE,aQ]at d;exact(dn (h.rel.fits row b)).2.2 _ ow g.nn
theorem aV.is(h:aV db p)(v:zp):v∈cV p (aa db p)↔(fh db p).2.filter (Ak (dL p (aa db p)) v)≠[]:=by
 unfold cV;rw[(ux λx l=>h.may l).2];show _↔¬(fh db p).2.filter (Ak (dL p (aa db p)) v)=[];rw[List.filter_eq_nil_iff];constructor
 .rintro⟨l,c⟩ g;obtain⟨row,b,e⟩:=bh.1 l;rw[h.pc.2]at e;exact g row b (gn.2 ⟨e,c⟩)
 .intro g;have:∃row∈(fh db p).2,Ak (dL p (aa db p)) v row=Q3:=by
   refine th λj=>g λrow b d=>j ⟨row,b,d⟩
  obtain⟨row,b,d⟩:=this;obtain⟨e,c⟩:=gn.1 d;refine⟨bh.2 ⟨row,b,?_⟩,c⟩;show getD row (toNat (de p (aa db p))) (zi zf)=v;rw[h.pc.2];exact e
end
def RgV(v:zp):Prop:=LE.le (α:=Int) (-9223372036854775808) v.2.1/\LE.le (α:=Int) v.2.1 9223372036854775807
mutual
def RgE:za->Prop
 |.mk _ v _ l=>RgV v/\H3 l
def H3:List za->Prop
 |[]=>True
 |e::r=>RgE e/\H3 r
end
theorem H3.mem:∀{l:List za},H3 l->∀e∈l,RgE e
 |[],_,e,h=>by simp at h
 | x::r,h,e,b=>by
  rw[H3]at h;rcases b8.1 b with rfl|b
  .exact h.1
  .exact H3.mem h.2 e b
theorem lm.app:∀{a b:List za},lm a->lm b->lm (a++b)
 |[],_,_,h=>h
 | x::r,b,h,hb=>by
  rw[lm]at h;rw[List.cons_append,lm];exact⟨h.1,h.2.app hb⟩
theorem lm.of:∀{l:List za},(∀x∈l,ut x)->lm l
 |[],_=>by rw[lm];trivial
 |x::r,h=>by rw[lm];exact⟨h x sw,lm.of λy b=>h y (by simp[b])⟩
structure RgR (x:am):Prop where
 chk:RgE x.1.t.2
 vals:∀r∈x.2,∀v∈(r:zt),RgV v
structure RgS (s:zN):Prop where
 chk:RgE s.t.t.1
 whr:RgE s.t.t.q.2.1
 row:∀v∈s.t.t.2.1,RgV v
 sets:∀x∈s.t.t.q.1,RgE (x:Sem jY).2
theorem zaf{src:zR}{e:Bool}(h:DR p db=Q1 (src,e,())):A8 p db=Q1 (p,src,e,()):=by
 have c:Pz p db=Q3:=by unfold Pz;rw[h];rfl
 have b:Zn p db=(src,e):=by unfold Zn;rw[h];rfl
 have x:p=(p.1,p.2.1,p.2.2.1,(p.2.2.2.1.1,p.2.2.2.1.2.1,p.2.2.2.1.2.2.1,p.2.2.2.1.2.2.2.1,p.2.2.2.1.t.1,zr p.2.2.2.1.t.2),p.t):=by rw[zn]
 refine(zP (i:=zkz p db) (t:=t0) (n:=100000000) (outs:=[aq,zk.sl,Sh.bool]) (by
  simp only[zkz,zn,aX,Tr.val,c,b,zh];rfl) (y:=((p.1,p.2.1,p.2.2.1,(p.2.2.2.1.1,p.2.2.2.1.2.1,p.2.2.2.1.2.2.1,p.2.2.2.1.2.2.2.1,p.2.2.2.1.t.1,zr p.2.2.2.1.t.2),p.t),src,e,())) rfl).trans ?_
 rw[<-x]
theorem aV.uall(h:aV db p):Kr p (aa db p)=Q1 (cV p (aa db p),0,()):=by obtain⟨c,x⟩:=Be h.go;refine zP (r:=(tup [sl zf (cV p (aa db p)),ai 0],[])) ?_ rfl;simp only[zqP,zn,aX,Tr.val,c,x,h.all,jc,zE,zh,zm]
variable {l:zt}
theorem zeo(v:zp)(s:Io l<=1000000):zam l v=Q1 (ac (FH v) l 0,()):=by
 have j:(zrb l v).val=Q1 (.inl (.h2 l (Io l:Int) ((0:Nat):Int) (v,()))):=rfl
 have b:∀k,k<=Io l->(∀x∈l.take k,FH v x=Q4)->zJ US (k*1) (.h2 l (Io l:Int) ((0:Nat):Int) (v,())) (.h2 l (Io l:Int) (k:Int) (v,())):=λk e n=>
  zJ.all (t:=US) 1 (λi=>.h2 l (Io l:Int) (i:Int) (v,())) k λi q=>zJ.of (by
   have h:i<Io l:=by omega
   have c:FH v l[i]=Q4:=n _ (List.mem_take_iff_getElem.2 ⟨i,ow,rfl⟩);unfold FH at c;simp only[US,Tr.val,zI h,zx h,zh,zX _ _ h,c,zE,zm];rw[zu i um])
 rcases e7 (FH v) l 0 with⟨g,d⟩|⟨k,e,g,d,m⟩
 .rw[g];refine zA j ((b (Io l) (ah _) (λx o=>d x (List.mem_of_mem_take o))).ends (zY.of (r:=(.int .i64 (-1),[])) ?_)) ow rfl;simp only[US,Tr.val,zG,zE,zm]
 .rw[g];refine zA j ((b k ow m).ends (zY.of (r:=(.int .i64 (k:Int),[])) ?_)) ow (by rw[ew];rfl);unfold FH at d;simp only[US,Tr.val,zI e,zx e,zh,zX _ _ e,d]
theorem zen(v:zp)(d:Io l<=1000000):NM l v=Q3/\Kt l v=l.any (FH v):=by
 have h:=zeo v d;have c:zal l v=Q3:=by unfold zal;rw[h];rfl
 have x:zmo l v=ac (FH v) l 0:=by unfold zmo;rw[h];rfl
 have b:Q0 (GE.ge (α:=Int) (ac (FH v) l 0) 0)=l.any (FH v):=by rw[gU,xI,List.any_eq_true]
 have:zak l v=Q1 (l.any (FH v),()):=by
  refine zP (r:=(.bool (l.any (FH v)),[])) ?_ rfl;simp only[zq4,Tr.val,c,x,zh];rw[b]
 exact⟨by unfold NM;rw[this];rfl,by unfold Kt;rw[this];rfl⟩
theorem Nc{x:am}(v:zp)(h:dM x.1=Q3):JI x v=Q3/\Ss x v=ac (λr=>bC r x.1.2.2.1 v) x.2 0:=by
 have:JJ x v=Q1 (ac (λr=>bC r x.1.2.2.1 v) x.2 0,()):=by
  refine zP (r:=(.int .i64 (ac (λr=>bC r x.1.2.2.1 v) x.2 0),[])) ?_ rfl;simp only[zq3,zn,aX,Tr.val,h,cm,zE,zm]
 exact⟨by unfold JI;rw[this];rfl,by unfold Ss;rw[this];rfl⟩
variable {row:zt}
theorem G7{v:zp}(h:zK c (Io row)=Q3):bC row c v=Q3↔zS c row=v:=by simp only[zK,aE,aQ]at h;unfold bC;rw[zy (show GE.ge (α:=Int) c 0 from h.1),zy (show LT.lt (α:=Int) c (Io row:Int)from h.2),aw,aw];exact kP
theorem ed.find{b:am}(h:ed b)(l:row∈b.2):
  ∃(k:Nat)(c:k<Io b.2),ac (λr=>bC r b.1.2.2.1 (zS b.1.2.2.1 row)) b.2 0=(k:Int)/\b.2[k]=row:=by
 rcases e7 (λr=>bC r b.1.2.2.1 (zS b.1.2.2.1 row)) b.2 0 with⟨_,g⟩|⟨k,c,n,g,_⟩
 .have:=g row l;rw[(G7 (h.keys row l)).2 rfl]at this;cases this
 .refine⟨k,c,by rw[n,ew],?_⟩;have e:=(G7 (h.keys _ (bp c))).1 g;obtain⟨j,m,rfl⟩:=fP l;by_cases d:k=j
  .subst d;rfl
  .have hp:=List.pairwise_iff_getElem.1 (List.pairwise_map.1 (RF h.pw));rcases Nat.lt_or_gt_of_ne d with x|x
   .exact zC e (hp k j c m x)
   .exact zC e.symm (hp j k m c x)
section
variable {db:List (Sem zk)} {p:Sem aq}
theorem aV.has(h:aV db p){row:zt}(c:row∈(fh db p).2)(x:(zS (dL p (aa db p)) row).1≠0):zS (dL p (aa db p)) row∈cV p (aa db p):=by
 refine(h.is _).2 λb=>?_
 have:=List.filter_eq_nil_iff.1 b row c;exact this (gn.2 ⟨rfl,x⟩)
theorem aV.hasC(h:aV db p)(v:zp):NM (cV p (aa db p)) v=Q3/\(Kt (cV p (aa db p)) v=Q3↔v∈cV p (aa db p)):=by
 have g:=h.few;have j:=h.rel.few;obtain⟨a,b⟩:=zen (l:=cV p (aa db p)) v ow;refine⟨a,?_⟩;rw[b,List.any_eq_true];constructor
 .rintro⟨x,d,e⟩;rw[kP.1 e];exact d
 .intro c;exact⟨v,c,kP.2 rfl⟩
def Ua(db:zR)(p:ar)(v:zp):zp×Int:=
 if p.1=gm then
  let h:=ac (λr=>bC r (fh db p).1.2.2.1 v) (fh db p).2 0
  if LT.lt (α:=Int) h 0 then((0,0,[]),6)else
   let u:=zS p.t.2 (getD (fh db p).2 h.toNat (zi zf.sl))
   if Kt (cV p (aa db p)) u=Q3 then(u,0)else((0,0,[]),6)
 else if Kt (cV p (aa db p)) v=Q3 then(v,0)else((0,0,[]),6)
theorem aV.key(h:aV db p)(v:zp):ztI p (aa db p) v=Q1 ((Ua db p v).1,(Ua db p v).2,()):=by
 obtain⟨o,q⟩:=Be h.go;have c:zK 0 (aa db p).length=Q3:=zx (i:=0) (pi h.go.two).1;have g:getD (aa db p) (toNat 0) (zi zk)=fh db p:=rfl;obtain⟨A,z⟩:=Nc (x:=fh db p) v h.rel.may;by_cases n:p.1=gm
 .have m:(p.1==gm)=Q3:=by simpa using n
  have B:dL p (aa db p)=p.t.2:=by
   unfold dL;rw[zg (by rw[n];decide),ze n]
  unfold Ua;rw[ze n];by_cases y:LT.lt (α:=Int) (ac (λr=>bC r (fh db p).1.2.2.1 v) (fh db p).2 0) 0
  .simp only[ze y];refine zP (r:=(tup [Qd [ai 0,ai 0,str []],ai 6],[])) ?_ rfl;simp only[T6,zn,aX,Tr.val,o,q,m,c,g,A,z,jc,zE,zh,zm];rw[ze (zy y)]
  .simp only[zg y];rcases gp (λr=>bC r (fh db p).1.2.2.1 v) (fh db p).2 0 with e|⟨F,G⟩
   .rw[e]at y;omega
   .obtain⟨k,I⟩:∃k:Nat,ac (λr=>bC r (fh db p).1.2.2.1 v) (fh db p).2 0=(k:Int):=⟨_,(Int.toNat_of_nonneg F).symm⟩;rw[I]at y G z|-;have b:k<(fh db p).2.length:=by omega
    have j:=(h.inn _ (bp b)).1;rw[B]at j;obtain⟨s,H⟩:=h.hasC (zS p.t.2 (fh db p).2[k]);have D:Q0 ((k:Int)<0)=Q4:=by simp
    rw[zX _ _ b];by_cases d:Kt (cV p (aa db p)) (zS p.t.2 (fh db p).2[k])=Q3
    .rw[ze d];refine zP (r:=(tup [Qd [ai (zS p.t.2 (fh db p).2[k]).1,ai (zS p.t.2 (fh db p).2[k]).2.1,str (zS p.t.2 (fh db p).2[k]).2.2],ai 0],[])) ?_ rfl;simp only[T6,zn,aX,Tr.val,o,q,m,c,g,A,z,D,zx b,zX _ _ b,j,h.all,s,d,jc,cm,zE,zh,zm]
    .rw[zg d];have l:=Bool.eq_false_iff.2 d;refine zP (r:=(tup [Qd [ai 0,ai 0,str []],ai 6],[])) ?_ rfl;simp only[T6,zn,aX,Tr.val,o,q,m,c,g,A,z,D,zx b,zX _ _ b,j,h.all,s,l,jc,di,zE,zh,zm]
 .have m:(p.1==gm)=Q4:=by simpa using n
  unfold Ua;rw[zg n];obtain⟨s,H⟩:=h.hasC v;by_cases d:Kt (cV p (aa db p)) v=Q3
  .rw[ze d];refine zP (r:=(tup [Qd [ai v.1,ai v.2.1,str v.2.2],ai 0],[])) ?_ rfl;simp only[T6,zn,aX,Tr.val,o,q,m,h.all,s,d,jc,cm,zE,zh,zm]
  .rw[zg d];have l:=Bool.eq_false_iff.2 d;refine zP (r:=(tup [Qd [ai 0,ai 0,str []],ai 6],[])) ?_ rfl;simp only[T6,zn,aX,Tr.val,o,q,m,h.all,s,l,jc,di,zE,zh,zm]
theorem aV.mine(h:aV db p)(n:p.1≠mU){row:zt}(d:row∈(fh db p).2)(l:(zS (dL p (aa db p)) row).1≠0):
  Ua db p (zS (fh db p).1.2.2.1 row)=(zS (dL p (aa db p)) row,0):=by
 have c:=h.has d l;unfold Ua;by_cases b:p.1=gm
 .have x:dL p (aa db p)=p.t.2:=by
   unfold dL;rw[zg (by rw[b];decide),ze b]
  rw[ze b];obtain⟨k,o,g,j⟩:=h.rel.find d;simp only[g];rw[zg ow,zX _ _ o,j,<-x,ze ((h.hasC _).2.2 c)]
 .rw[zg b];have m:p.1=dm:=by
   rcases h.mig with e|e|e
   .exact e
   .exact zC e b
   .exact zC e n
  have x:dL p (aa db p)=(fh db p).1.2.2.1:=by
   unfold dL;rw[ze m];rfl
  rw[x]at c|-;rw[ze ((h.hasC _).2.2 c)]
end
def leV(a b:zp):Bool:=!Q0 (GT.gt (α:=Int) (aO a b) 0)
section
variable {α:Type} (k:α->Sem zf)
def zdi(row:α)(l:List α):List α:=l.filter (λx=>leV (k x) (k row))++row::l.filter (λx=>!leV (k x) (k row))
def XH(l:List α):List α:=l.foldl (λacc row=>zdi k row acc) []
variable {k}
theorem T9(row:α)(l:List α):(zdi k row l).Perm (row::l):=by unfold zdi;refine(List.perm_middle).trans (List.Perm.cons _ ?_);exact List.filter_append_perm _ _
theorem rz(l:List α):(XH k l).Perm l:=by
 have x:∀(l acc:List α),(l.foldl (λacc row=>zdi k row acc) acc).Perm (l++acc):=by
  intro l
  induction l with
  |nil=>intro acc;exact List.Perm.refl _
  |cons a r b=>intro acc;exact(b _).trans ((List.Perm.append_left r (T9 a acc)).trans List.perm_middle)
 have h:=x l [];rw[pR]at h;exact h
end
def zpF(k:Int)(r:zt):Prop:=zK k (Io r)=Q3/\mb (zS k r)/\bf (zS k r)=Q3
section
variable {t:Sem aj} {rows acc:List (List (Sem zf))} {i:Nat} {z1:zo uL}
theorem W7{α:Type}(l:List α)(d:α){i:Nat}(h:i<Io l):l.getD i d=l[i]:=zX l d h
end
structure tg (db:zR) (p:ar):Prop where
 wf:H5 p.2.2.2.1
 fr:KQ (fh db p)
 few:Io p.t.1<=1000
 copy:p.1=dm->(∀c∈p.t.1,zK c (fh db p).1.2.1.length=Q3)/\∃(k:Nat)(h:k<Io p.t.1),p.2.2.2.1.2.2.1=(k:Int)/\p.t.1[k]=(fh db p).1.2.2.1
 join:p.1=gm->p.2.2.2.1.2.2.1=(fh db p).1.2.2.1/\∃y:am,aa db p=[fh db p,y]/\ed y/\KQ y/\(∀c∈p.t.1,zK c (Io y.1.2.1)=Q3)/\∀row∈(fh db p).2,(zS p.t.2 row).1≠0->f5 y y.1.2.2.1 (zS p.t.2 row)=Q3
 group:p.1=mU->p.2.2.2.1.2.2.1=0/\∃a b,p.t.1=[a,b]/\zK a (fh db p).1.2.1.length=Q3/\zK b (fh db p).1.2.1.length=Q3
theorem KQ.cut{b:am}{q:zH->Bool}(h:KQ b):KQ (ji q b):=
 ⟨⟨h.t.name,h.t.cols,h.t.ncols,h.t.nuq,aT (List.length_filter_le _ _) h.t.nrf,λf x=>h.t.refs f (List.mem_filter.1 x).1,h.t.chk⟩,h.rows,h.vals⟩
theorem DN{t:ao}{a:zH}(h:¬LT.lt (α:=Int) (zV t a) 0):zK (zV t a) (Io t.2.1)=Q3:=oJ ⟨ow,(ie h).2⟩
theorem QU{t:ao}(h:H5 t)(n:List zH):∀c∈eD t n,Io (c:bR).1<=1000000:=by
 intro c b;obtain⟨s,_,rfl⟩:=bh.1 b;by_cases x:toNat (zV t s)<Io t.2.1
 .rw[aY,z6 x];exact h.cols _ (bp x)
 .rw[aY,eZ ow];exact aM _
theorem Y3{k:Int}{n j:Nat}(h:j∈DJ k n):j<n:=by unfold DJ at h;simpa using(List.mem_filter.1 h).1
theorem zle(H:∀x∈db,KQ x)(hp:(bm db s).1=0)(B:wN s):tg db (bm db s).2:=by
 obtain⟨hm,O,hb,M,h1,z⟩:=I8 hp;have hB:=(il λx D=>(H x D).short).1 hb;have o:=jZ O;have y:(cJ db s).1=0:=by rw[<-z];exact hp
 obtain⟨J,f2,f3⟩:=B6 y;rw[z];have N:LE.le (α:=Int) 0 (ae db s.2.2.1):=M _ (by unfold bK;split<;>simp);have D:fh db (cJ db s).2=ji (aG (bK s.2.2.1 (cD s))) (aF db s.2.2.1):=by
  unfold fh aa;rw[f2,f3];have:∃r,bK s.2.2.1 (cD s)=s.2.2.1::r:=by unfold bK;split<;>exact⟨_,rfl⟩
  obtain⟨r,e⟩:=this;rw[e];rfl
 have hF:=H _ (jx N).1;have F:KQ (fh db (cJ db s).2):=by rw[D];exact hF.cut
 have G:H5 (al db s.2.2.1):=hF.t;rcases hm with m|m|m
 .have e:cJ db s=iF (tq (al db s.2.2.1) s.2.2.2.1) (s.1,s.2.2.1,s.2.2.2.2.2.2.2.2.2.2.2.2,(s.2.1,eD (al db s.2.2.1) s.2.2.2.1,gV (js (al db s.2.2.1) s.2.2.2.1) (al db s.2.2.1).2.2.1,[],[],s.2.2.2.2.2.2.2.2.1),js (al db s.2.2.1) s.2.2.2.1,0):=by
   unfold cJ;rw[ze (by simp[m])]
  have e0:=y;rw[e]at e0;obtain⟨g,n⟩:=iG e0;unfold tq at g;split at g;rotate_left
  next h=>exact zC g h
  rename_i I;split at g
  .cases g
  rename_i hk;have l:=qu I;refine⟨?_,F,(by rw[e,n];show(js _ _).length<=_;unfold js;rw[cQ];have:=B.sh.names.1;omega),?_,(by rw[J,m];intro h;cases h),(by rw[J,m];intro h;cases h)⟩
  .rw[e,n];exact⟨aT B.sh.table (by omega),QU G _,by show(eD _ _).length<=_;unfold eD;rw[cQ];have:=B.sh.names.1;omega,aM _,aM _,λf L=>(by cases L),B.chk⟩
  .intro _;rw[D,e,n];refine⟨λc d=>?_,?_⟩
   .obtain⟨a,ha,rfl⟩:=bh.1 d;exact DN (l a ha)
   .rcases Mf (js (al db s.2.2.1) s.2.2.2.1) (al db s.2.2.1).2.2.1 with⟨j,A,q1,q2,_⟩|⟨q1,_⟩
    .exact⟨j,A,q1,q2⟩
    .exact zC (by rw[q1];decide) hk
 .have e:cJ db s=iF (fY (al db s.2.2.1) (eu db s.2.2.2.2.2.2.2.2.2.2.2.2) s.2.2.2.2.2.1 s.2.2.2.2.2.2.2.2.2.2.2.2)
     (s.1,s.2.2.1,s.2.2.2.2.2.2.2.2.2.2.2.2,(s.2.1,(al db s.2.2.1).2.1++fZ (eu db s.2.2.2.2.2.2.2.2.2.2.2.2) (Io (eu db s.2.2.2.2.2.2.2.2.2.2.2.2).2.1),(al db s.2.2.1).2.2.1,[],[],s.2.2.2.2.2.2.2.2.1),
      ju (eu db s.2.2.2.2.2.2.2.2.2.2.2.2).2.2.1 (Io (eu db s.2.2.2.2.2.2.2.2.2.2.2.2).2.1),zV (al db s.2.2.1) s.2.2.2.2.2.1):=by
   unfold cJ;rw[zg (by simp[m]),ze (by simp[m])]
  have e0:=y;rw[e]at e0;obtain⟨g,n⟩:=iG e0;have hr:=G9 o m;have P:bK s.2.2.1 (cD s)=[s.2.2.1,cD s]:=by unfold bK;rw[zg (by simpa using hr)]
  have S:LE.le (α:=Int) 0 (ae db (cD s)):=M _ (by rw[P];simp);have h0:eu db s.2.2.2.2.2.2.2.2.2.2.2.2=(aF db (cD s)).1:=by
   unfold eu;rw[zg hr];rfl
  have T:=H _ (jx S).1;rw[h0]at e g n;refine⟨?_,F,(by rw[e,n];show(ju _ _).length<=_;unfold ju;rw[cQ];exact aT (lF _ _) T.t.ncols),(by rw[J,m];intro h;cases h),?_,(by rw[J,m];intro h;cases h)⟩
  .rw[e,n];refine⟨aT B.sh.table (by omega),λc d=>?_,?_,aM _,aM _,λf L=>(by cases L),B.chk⟩
   .rcases cz.1 d with d|d
    .exact G.cols c d
    .obtain⟨j,A,rfl⟩:=bh.1 d;have A:=Y3 A;rw[aY,z6 A];exact T.t.cols _ (bp A)
   .show(_++fZ _ _).length<=1000;unfold fY at g;split at g
    .cases g
    split at g;rotate_left
    .cases g
    split at g
    .cases g
    rename_i h9;have:=lF (aF db (cD s)).1.2.2.1 (aF db (cD s)).1.2.1.length;unfold fZ;rw[ik,cQ];omega
  .intro _;have hs:aa db (cJ db s).2=[fh db (cJ db s).2,ji (aG (bK s.2.2.1 (cD s))) (aF db (cD s))]:=by
    rw[D];unfold aa;rw[f2,f3,P];rfl
   refine⟨?_,ji (aG (bK s.2.2.1 (cD s))) (aF db (cD s)),hs,(hB.rels _ (jx S).1).cut,T.cut,?_,?_⟩
   .rw[D,e,n];rfl
   .rw[e,n];intro c d;obtain⟨j,A,rfl⟩:=bh.1 d;exact zx (Y3 A)
   .have Z:(cJ db s).2.2.2.2.2.2=zV (al db s.2.2.1) s.2.2.2.2.2.1:=by rw[e,n]
    have X:jq (al db s.2.2.1).2.2.2.2.1 (zV (al db s.2.2.1) s.2.2.2.2.2.1,cD s)=Q3:=by
     unfold fY at g;split at g
     .cases g
     split at g
     .assumption
     .cases g
    rw[D,Z];exact(hB.bound _ (jx N).1 _ ((oG _ _).1 X)).2
 .have e:cJ db s=iF (qi (al db s.2.2.1) s.2.2.2.1) (s.1,s.2.2.1,s.2.2.2.2.2.2.2.2.2.2.2.2,(s.2.1,xE (al db s.2.2.1) s.2.2.2.1,0,[],[],s.2.2.2.2.2.2.2.2.1),js (al db s.2.2.1) s.2.2.2.1,0):=by
   unfold cJ;rw[zg (by simp[m]),zg (by simp[m]),ze (by simp[m])]
  have e0:=y;rw[e]at e0;obtain⟨g,n⟩:=iG e0;have I:gv (al db s.2.2.1) s.2.2.2.1=0:=by
   unfold qi at g;split at g
   .assumption
   .exact g
  have l:=qu I;have h2:=jR o m;refine⟨?_,F,(by rw[e,n];show(js _ _).length<=_;unfold js;rw[cQ];omega),(by rw[J,m];intro h;cases h),(by rw[J,m];intro h;cases h),?_⟩
  .rw[e,n];refine⟨aT B.sh.table (by omega),λc d=>?_,(by show(2:Nat)<=1000;omega),aM _,aM _,λf L=>(by cases L),B.chk⟩;have q:=QU G s.2.2.2.1;have hl:(eD (al db s.2.2.1) s.2.2.2.1).length=2:=by unfold eD;rw[cQ];exact h2
   generalize W:eD (al db s.2.2.1) s.2.2.2.1=cs at q hl
   match cs,hl with
   | [a,b],_=>
    have d:c∈xE (al db s.2.2.1) s.2.2.2.1:=d;unfold xE at d;rw[W]at d;rcases b8.1 d with rfl|d
    .exact q a (by simp)
    .rw[dU]at d;subst d;exact q b (by simp)
  .intro _;rw[D,e,n]
   match Y:s.2.2.2.1,h2 with
   | [a,b],_=>
    rw[Y]at l;exact⟨rfl,zV (al db s.2.2.1) a,zV (al db s.2.2.1) b,rfl,DN (l a (by simp)),DN (l b (by simp))⟩
section
variable {db:List (Sem zk)} {p:Sem aq}
end
def kA(p:ar)(row:zt):zt:=List.map (λc=>zS c row) p.t.1
def AF(p:ar)(s:zp)(row:zt):zp:=if(zS (getD p.t.1 (toNat 1) (zi zj)) row).1=0 then s else mD s (zS (getD p.t.1 (toNat 1) (zi zj)) row)
def Fd(src:zR):am:=src.getD (toNat 1) (zi zk)
def Dw(p:ar)(src:zR)(v:zp)(row:zt):zt:=
 if p.1=gm then row++kA p (getD (Fd src).2 (ac (λr=>bC r (Fd src).1.2.2.1 v) (Fd src).2 0).toNat (zi zf.sl))else kA p row
def sD(p:ar)(src:zR)(v:zp)(rows:List zt):List zt:=
 if p.1=mU then(ite (rows=[]) [] [[v,rows.foldl (AF p) (1,0,[])]])else rows.map (Dw p src v)
section
variable {db:List (Sem zk)} {p:Sem aq} {l1:List (Sem zk)} {rows acc:List (List (Sem zf))} {v:Sem zf}
end
theorem MG(h:Int)(rows:List zt):∀L:zt,L.Nodup->(∀u∈L,u.1≠0)->
  (L.map λu=>(rows.filter (Ak h u)).length).sum+(rows.filter λrow:zt=>!L.any λu:zp=>Ak h u row).length=Io rows
 |[],_,_=>by simp
 | u :: L,hn,h0=>by
  rw[List.nodup_cons]at hn;have b:=MG h rows L hn.2 λx m=>h0 x (jN _ m)
  rw[dC,List.sum_cons];have n:(rows.filter (Ak h u)).length+(rows.filter λrow:zt=>!(u::L).any λu:zp=>Ak h u row).length=(rows.filter λrow:zt=>!L.any λu:zp=>Ak h u row).length:=by
   clear b
   induction rows with
   |nil=>rfl
   | cons row r b=>
    simp only[List.filter_cons,List.any_cons];cases d:Ak h u row with
    | true=>
     have g:(L.any λu:zp=>Ak h u row)=Q4:=by
      rw[List.any_eq_false];intro v l j;have e:=(gn.1 d).1;have c:=(gn.1 j).1;exact hn.1 (by rw[<-e,c];exact l)
     simp only[g,Bool.or_false,cm,di,zh,zE,zm,eJ]at b|-;simp only[List.any_cons]at b;omega
    | false=>
     simp only[yN,zE,zm];simp only[List.any_cons]at b;cases(L.any λu:zp=>Ak h u row)with
     |true=>simpa using b
     | false=>
      simp only[di,zh,eJ];omega
  omega
section
variable {db:List (Sem zk)} {p:Sem aq}
theorem aV.rise(h:aV db p):(cV p (aa db p)).Pairwise uk:=(ux λ_ b=>h.may b).1
theorem aV.nodup(h:aV db p):(cV p (aa db p)).Nodup:=by unfold List.Nodup;exact h.rise.imp λ{a b} x(e:a=b)=>gj (a:=b) (by rw[e]at x;exact x)
end
def yz(db:zR)(p:ar)(v:zp):List zt:=(fh db p).2.filter (Ak (dL p (aa db p)) v)
def fj(db:zR)(p:ar)(v:zp):List zt:=(sD p (aa db p) v (yz db p v)).filter λr=>cf p.2.2.2.1 r==(0:Int)
theorem pY(h:zK c (Io row)=Q3):zS c row∈row:=by
 have x:c.toNat<Io row:=by
  unfold zK at h;simp only[aE,aQ]at h;omega
 unfold zS;rw[aY,z6 x];exact bp x
theorem L4{p:ar}:∀(l:List zt)(s:zp),mb s->mb (l.foldl (AF p) s)
 |[],_,h=>h
 | a::r,s,h=>L4 r _ (by
  unfold AF;split
  .exact h
  .exact KO _ _)
section
variable {db:List (Sem zk)} {p:Sem aq} {v:Sem zf}
theorem yA{row:zt}(h:row∈yz db p v):row∈(fh db p).2/\zS (dL p (aa db p)) row=v/\v.1≠0:=⟨(List.mem_filter.1 h).1,gn.1 (List.mem_filter.1 h).2⟩
theorem Pk:(sD p (aa db p) v (yz db p v)).length<=(yz db p v).length:=by
 unfold sD;split
 .split
  .simp
  next h=>have:=List.length_pos_iff.2 h;simp;omega
 .simp
theorem zer(_:aV db p)(m:tg db p)(g:p.1=gm){row:zt}(l:row∈yz db p v):
  ∃y:am,aa db p=[fh db p,y]/\ed y/\KQ y/\(∀c∈p.t.1,zK c (Io y.1.2.1)=Q3)/\getD (Fd (aa db p)).2 (ac (λr=>bC r (Fd (aa db p)).1.2.2.1 v) (Fd (aa db p)).2 0).toNat (zi zf.sl)∈y.2:=by
 obtain⟨_,y,j,A,D,z,B⟩:=m.join g;obtain⟨o,q,s⟩:=yA l;have b:dL p (aa db p)=p.t.2:=by unfold dL;rw[zg (by rw[g];decide),ze g]
 have n:Fd (aa db p)=y:=by rw[j];rfl
 have x:=B _ o (by rw[<-b,q];exact s);rw[<-b,q]at x;refine⟨y,j,A,D,z,?_⟩;rw[n];rcases e7 (λr=>bC r y.1.2.2.1 v) y.2 0 with⟨e,_⟩|⟨k,d,e,F,_⟩
 .unfold f5 at x;rw[e]at x;exact zC x (by decide)
 .rw[ew]at e;rw[e,zX _ _ d];exact bp d
theorem zlf(h:aV db p)(m:tg db p):∀r∈sD p (aa db p) v (yz db p v),∀x∈r,mb x:=by
 intro r g x d;unfold sD at g;split at g
 .split at g
  .cases g
  .rename_i o;rw[dU]at g;subst g;rcases b8.1 d with rfl|d
   .obtain⟨row,b⟩:=List.exists_mem_of_ne_nil _ o;obtain⟨q,s,_⟩:=yA b;rw[<-s];exact m.fr.vals _ q _ (pY (h.inn _ q).1)
   .rw[dU]at d;subst d;exact L4 _ _ ⟨by decide,by decide,sw⟩
 .rename_i A;obtain⟨row,b,rfl⟩:=bh.1 g;obtain⟨q,s,_⟩:=yA b;unfold Dw at d;split at d
  .rename_i n;obtain⟨y,_,D,F,B,z⟩:=zer h m n b;rcases cz.1 d with d|d
   .exact m.fr.vals _ q _ d
   .obtain⟨c,j,rfl⟩:=bh.1 d;refine F.vals _ z _ (pY ?_);rw[(dn (D.fits _ z)).1];exact B c j
  .rename_i n;obtain⟨c,j,rfl⟩:=bh.1 d;have l:p.1=dm:=by
    rcases h.mig with e|e|e
    .exact e
    .exact zC e n
    .exact zC e A
   refine m.fr.vals _ q _ (pY ?_);rw[(h.inn _ q).2];exact(m.copy l).1 c j
theorem Xd:(fj db p v).length<=(yz db p v).length:=aT (List.length_filter_le _ _) Pk
theorem Xc(h:aV db p)(m:tg db p):∀r∈fj db p v,cf p.2.2.2.1 r=(0:Int)/\zpF p.2.2.2.1.2.2.1 r/\dM p.2.2.2.1=Q3:=by
 intro r l;obtain⟨g,x⟩:=List.mem_filter.1 l;have x:cf p.2.2.2.1 r=(0:Int):=by simpa using x
 obtain⟨d,e,_⟩:=dn x;have c:dM p.2.2.2.1=Q3:=by
  cases j:dM p.2.2.2.1 with
  |true=>rfl
  | false=>
   unfold cf at x;rw[j,ze EB]at x;cases x
 have b:zK p.2.2.2.1.2.2.1 (Io r)=Q3:=by rw[d];exact oJ (gq c).1
 exact⟨x,⟨b,zlf h m r g _ (pY b),e _ (pY b)⟩,c⟩
end
set_option maxRecDepth 100000
section
variable {db:List (Sem zk)} {p:Sem aq} {us:List (Sem zf)}
end
section
variable {db:List (Sem zk)} {p:Sem aq} {v:Sem zf}
end
section
variable {db:List (Sem zk)} {p:Sem aq} {v:Sem zf}
end
def Ca(db:zR)(p:ar)(v:zp):Nat:=(sD p (aa db p) v (yz db p v)).length-(fj db p v).length
def dH(l:zt):zt:=l.foldl (λacc a=>if acc.any (λu=>FH u a)=Q3 then acc else acc++[a]) []
def iD(db:zR)(p:ar)(us:zt):Nat:=(us.map (Ca db p)).sum
theorem vA(l:zt)(a:zp):dH (l++[a])=if(dH l).any (λu=>FH u a)=Q3 then dH l else dH l++[a]:=by unfold dH;rw[List.foldl_append];rfl
theorem MA(l:zt)(a:zp):a∈dH l↔a∈l:=by
 have d:∀(n:Nat)(l:zt),Io l=n->(a∈dH l↔a∈l):=by
  intro n
  induction n with
  |zero=>intro l c;rw[List.length_eq_zero_iff.1 c];exact Iff.rfl
  | succ n x=>
   intro l c;obtain⟨e,b,rfl⟩:∃e b,l=e++[b]:=⟨l.dropLast,l.getLast (List.ne_nil_of_length_pos ow),(List.dropLast_concat_getLast _).symm⟩;have x:=x e (by simpa using c);rw[vA];split
   .rename_i h;obtain⟨u,g,j⟩:=List.any_eq_true.1 h;rw[kP.1 j]at g;rw[x,cz,dU];refine⟨.inl,λh=>?_⟩;rcases h with h|rfl
    .exact h
    .refine x.1 ?_;exact g
   .rw[cz,cz,x]
 exact d _ l rfl
theorem Y0(l:zt)(a:zp):(dH l).any (λu=>FH u a)=l.any (λu=>FH u a):=by rw[gU,List.any_eq_true,List.any_eq_true];exact⟨λ⟨u,h,x⟩=>⟨u,(MA l u).1 h,x⟩,λ⟨u,h,x⟩=>⟨u,(MA l u).2 h,x⟩⟩
theorem tU(l:zt):(dH l).Nodup:=by
 have g:∀(n:Nat)(l:zt),Io l=n->(dH l).Nodup:=by
  intro n
  induction n with
  |zero=>intro l d;rw[List.length_eq_zero_iff.1 d];exact List.nodup_nil
  | succ n c=>
   intro l d;obtain⟨j,b,rfl⟩:∃j b,l=j++[b]:=⟨l.dropLast,l.getLast (List.ne_nil_of_length_pos ow),(List.dropLast_concat_getLast _).symm⟩;have c:=c j (by simpa using d);rw[vA];split
   .exact c
   next h=>rw[List.nodup_append];refine⟨c,sw,λx o y m e=>h ?_⟩;rw[dU]at m;subst m;exact List.any_eq_true.2 ⟨x,o,kP.2 e⟩
 exact g _ l rfl
theorem Us(h:l.Nodup):dH l=l:=by
 have d:∀(n:Nat)(l:zt),Io l=n->l.Nodup->dH l=l:=by
  intro n
  induction n with
  |zero=>intro l x _;rw[List.length_eq_zero_iff.1 x];rfl
  | succ n m=>
   intro l x c;obtain⟨e,b,rfl⟩:∃e b,l=e++[b]:=⟨l.dropLast,l.getLast (List.ne_nil_of_length_pos ow),(List.dropLast_concat_getLast _).symm⟩;rw[List.nodup_append]at c;rw[vA,m e (by simpa using x) c.1,zg];rw[List.any_eq_true];rintro⟨u,j,g⟩;exact c.2.2 u j b sw (kP.1 g)
 exact d _ l rfl h
section
variable {db:List (Sem zk)} {p:Sem aq} {v:Sem zf} {us:List (Sem zf)}
theorem Mw(h:v.1=0):yz db p v=[]:=List.filter_eq_nil_iff.2 λ_ _ x=>(gn.1 x).2 h
theorem zlh(h:v.1=0):sD p (aa db p) v (yz db p v)=[]:=by rw[Mw h];unfold sD;split<;>rfl
theorem zcT:(fj db p v).length<=(sD p (aa db p) v (yz db p v)).length:=List.length_filter_le _ _
theorem Yr(us:zt)(d:us.Nodup):(us.map λu=>(sD p (aa db p) u (yz db p u)).length).sum<=(fh db p).2.length:=by
 have b:∀l:zt,(l.map λu=>(sD p (aa db p) u (yz db p u)).length).sum=((l.filter λu=>u.1!=0).map λu=>(sD p (aa db p) u (yz db p u)).length).sum:=by
  intro l
  induction l with
  |nil=>rfl
  | cons a r x=>
   rw[dC,List.sum_cons,List.filter_cons,x];by_cases h:a.1=0
   .rw[zg (by simpa using h),zlh h];simp
   .rw[ze (by simpa using h),dC,List.sum_cons]
 have c:∀l:zt,(l.map λu=>(sD p (aa db p) u (yz db p u)).length).sum<=(l.map λu=>(yz db p u).length).sum:=by
  intro l
  induction l with
  |nil=>exact ah _
  | cons a r x=>
   rw[dC,List.sum_cons,dC,List.sum_cons];have:=Pk (db:=db) (p:=p) (v:=a);omega
 have g:=MG (dL p (aa db p)) (fh db p).2 (us.filter λu=>u.1!=0) (d.filter _) λu e=>by simpa using(List.mem_filter.1 e).2
 rw[b];have:=c (us.filter λu=>u.1!=0);unfold yz at this|-;omega
theorem OZ(us:zt):(us.flatMap (fj db p)).length+iD db p us=(us.map λu=>(sD p (aa db p) u (yz db p u)).length).sum:=by
 induction us with
 |nil=>rfl
 | cons a r h=>
  unfold iD at h|-;rw[List.flatMap_cons,ik,dC,List.sum_cons,dC,List.sum_cons,<-h];have:=zcT (db:=db) (p:=p) (v:=a);unfold Ca;omega
end
section
variable {db:List (Sem zk)} {p:Sem aq} {us:List (Sem zf)}
theorem xD(h:aV db p)(us:zt)(x:us.Nodup):(us.flatMap (fj db p)).length<=200/\iD db p us<=200:=by have b:=OZ (db:=db) (p:=p) us;have c:=Yr (db:=db) (p:=p) us x;have:=h.rel.few;omega
end
section
variable {p:Sem aq} {src:List (Sem zk)} {u:Sem zf} {row:List (Sem zf)} {rows:List (List (Sem zf))}
theorem Sa(e:∀c∈p.t.1,zK c (Io row)=Q3)(j:Io p.t.1<=1000):If (p,src) row=Q1 (kA p row,()):=by
 have g:(zgG (p,src) row).val=Q1 (.inl (.h3 row p.t.1 (Io p.t.1:Int) ((0:Nat):Int) [])):=rfl;have x:=zJ.all (t:=SK) 1 (λi=>.h3 row p.t.1 (Io p.t.1:Int) (i:Int) ((p.t.1.take i).map λc=>zS c row)) (Io p.t.1) λi h=>zJ.of (by
  have b:=e _ (bp h);have d:Q0 (((p.t.1.take i).map λc=>zS c row).length+[zS p.t.1[i] row].length<=1073741824)=Q3:=by simp;omega
  simp only[SK,Tr.val,zI h,zx h,zX _ _ h,b,zh];rw[ze d,zu i um,bv h,eC];rfl)
 simp only[fQ,List.take_zero,pU]at x;refine zA g (x.ends (zY.of (r:=(AV.vec 0,[AO.vec zf (kA p row)])) ?_)) ow rfl;simp only[SK,Tr.val,zG,zE,zm];rfl
theorem zcy(g:∀row∈rows,∀c∈p.t.1,zK c (Io row)=Q3)(j:Io p.t.1<=1000)(m:Io rows<=1000):Ic (p,src) u rows=Q1 (rows.map (kA p),()):=by
 have l:(zrf (p,src) u rows).val=Q1 (.inl (.h3 rows (Io rows:Int) ((0:Nat):Int) ((p,src),()) [])):=rfl;have x:=zJ.all (t:=zef) 1 (λi=>.h3 rows (Io rows:Int) (i:Int) ((p,src),()) ((rows.take i).map (kA p))) (Io rows) λi h=>zJ.of (by
  have hp:=Sa (src:=src) (g _ (bp h)) j;have b:wP (p,src) rows[i]=Q3:=by unfold wP;rw[hp];rfl
  have e:F6 (p,src) rows[i]=kA p rows[i]:=by unfold F6;rw[hp];rfl
  have d:Q0 (((rows.take i).map (kA p)).length+[kA p rows[i]].length<=1073741824)=Q3:=by simp;omega
  simp only[zef,Tr.val,zn,aX,zI h,zx h,zX _ _ h,b,e,zh];rw[ze d,zu i um,bv h,eC];rfl)
 simp only[fQ,List.take_zero,pU]at x;refine zA l (x.ends (zY.of (r:=(AV.vec 0,[AO.vec zf.sl (rows.map (kA p))])) ?_)) ow rfl;simp only[zef,Tr.val,zG,zE,zm]
theorem zcx{a b:zt}(o:Io a<=1000)(q:Io b<=1000):QV [a,b]=Q1 (a++b,()):=by
 have e:(zgH [a,b]).val=Q1 (.inl (.h3 [a,b] 0 [a,b] 2 0)):=rfl;have l:Γ Δ (0+(Io a:Int))=(Io a:Int):=by rw[dP];omega
 have m:Γ Δ ((Io a:Int)+(Io b:Int))=((Io a+Io b:Nat):Int):=by rw[dP];omega
 have n:Q0 (LT.lt (α:=Int) (Io a:Int) 0)=Q4:=z7 ow;have j:Q0 (LT.lt (α:=Int) ((Io a+Io b:Nat):Int) 0)=Q4:=z7 ow;have g:zJ HQ 1 (.h3 [a,b] 0 [a,b] 2 0) (.h3 [a,b] (Io a:Int) [a,b] 2 1):=zJ.of (by
  show(br Q3 (chk Q3 (br (Q0 (LT.lt (α:=Int) (Γ Δ (0+(Io a:Int))) 0)) Tr.err (Tr.to (mV.h3 [a,b] (Γ Δ (0+(Io a:Int))) [a,b] 2 1)))) _).val=_;rw[l,n];rfl)
 have h:zJ HQ 1 (.h3 [a,b] (Io a:Int) [a,b] 2 1) (.h3 [a,b] ((Io a+Io b:Nat):Int) [a,b] 2 2):=zJ.of (by
  show(br Q3 (chk Q3 (br (Q0 (LT.lt (α:=Int) (Γ Δ ((Io a:Int)+(Io b:Int))) 0)) Tr.err (Tr.to (mV.h3 [a,b] (Γ Δ ((Io a:Int)+(Io b:Int))) [a,b] 2 2)))) _).val=_;rw[m,j];rfl)
 have x:zJ HQ 1 (.h3 [a,b] ((Io a+Io b:Nat):Int) [a,b] 2 2) (.h11 [a,b] 2 0 []):=zJ.of (by
  show(br Q4 _ (chk (Q0 (LE.le (α:=Int) 0 ((Io a+Io b:Nat):Int))) (chk (Q0 (LE.le (α:=Int) ((Io a+Io b:Nat):Int) 1000000)) (Tr.to (mV.h11 [a,b] 2 0 []))))).val=_;rw[zy (show LE.le (α:=Int) 0 ((Io a+Io b:Nat):Int) by omega),zy (show LE.le (α:=Int) ((Io a+Io b:Nat):Int) 1000000 by omega)];rfl)
 have c:zJ HQ 1 (.h11 [a,b] 2 0 []) (.h11 [a,b] 2 1 a):=zJ.of (by
  show(br Q3 (chk Q3 (chk (Q0 (([]:zt).length+Io a<=1073741824)) (Tr.to (mV.h11 [a,b] 2 1 ([]++a))))) _).val=_;rw[zy (show([]:zt).length+Io a<=1073741824 by simp;omega)];rfl)
 have d:zJ HQ 1 (.h11 [a,b] 2 1 a) (.h11 [a,b] 2 2 (a++b)):=zJ.of (by
  show(br Q3 (chk Q3 (chk (Q0 (Io a+Io b<=1073741824)) (Tr.to (mV.h11 [a,b] 2 2 (a++b))))) _).val=_;rw[zy (show Io a+Io b<=1073741824 by omega)];rfl)
 exact zA e (((((g.trans h).trans x).trans c).trans d).ends (zY.of (r:=(AV.vec 0,[AO.vec zf (a++b)])) rfl)) ow rfl
end
section
variable {p:Sem aq} {src:List (Sem zk)} {u:Sem zf} {rows:List (List (Sem zf))}
theorem Xe{a b:Int}(h:p.t.1=[a,b])(m:∀row∈rows,zK b (Io row)=Q3)(o:Io rows<=1000):AZ (p,src) u rows=Q1 (ite (rows=[]) [] [[u,rows.foldl (AF p) (1,0,[])]],()):=by
 by_cases j:rows=[]
 .subst j;exact zP (r:=(nils,[])) rfl rfl
 rw[zg j];have x:((Io rows:Int)==0)=Q4:=by
  have:=List.length_pos_iff.2 j;rw[dB];omega
 have n:(zkJ (p,src) u rows).val=Q1 (.inl (.h5 rows (Io rows:Int) ((0:Nat):Int) ((p,src),()) (u,()) ((1,0,[]),()))):=by
  simp only[zkJ,Tr.val,x,zE,zm];rfl
 have e:zK 1 (Io p.t.1)=Q3:=by rw[h];rfl
 have c:getD p.t.1 (toNat 1) (zi zj)=b:=by rw[h];rfl
 have l:=zJ.all (t:=zeh) 1 (λi=>.h5 rows (Io rows:Int) (i:Int) ((p,src),()) (u,()) ((rows.take i).foldl (AF p) (1,0,[]),())) (Io rows) λi d=>zJ.of (by
  have g:=m _ (bp d);simp only[zeh,Tr.val,zI d,zx d,zX _ _ d,e,c,g,zh];rw[bv d,List.foldl_append,zu i um];show _=Q1 (Sum.inl (KL.h5 rows _ ((i+1:Nat):Int) _ _ (AF p _ _,())));unfold AF;rw[c];by_cases x:(zS b rows[i]).1=0
  .rw[ze x,zg (by simpa using x)]
  .rw[zg x,ze (by simpa using x)])
 simp only[fQ,List.take_zero,List.foldl_nil]at l;refine zA n (l.ends (zY.of (r:=(sl zf.sl [[u,rows.foldl (AF p) (1,0,[])]],[])) ?_)) ow rfl;simp only[zeh,Tr.val,zG,zE,zm]
end
section
variable {db:List (Sem zk)} {p:Sem aq}
theorem zdW(h:aV db p){row:zt}(x:row∈(fh db p).2):Io row<=1000:=aT (h.len x) ow
theorem zdj(h:aV db p)(m:tg db p)(z:p.1=gm)(u:zp){rows:List zt}(Y:∀row∈rows,row∈yz db p u)(J:Io rows<=200):Ie (p,aa db p) u rows=Q1 (rows.map (Dw p (aa db p) u),()):=by
 obtain⟨_,y,F,P,yw,yc,yr⟩:=m.join z;have e:∀row∈rows,Io row<=1000/\f5 y y.1.2.2.1 u=Q3:=λrow D=>by
  obtain⟨N,O,q3⟩:=yA (Y row D);have g:dL p (aa db p)=p.t.2:=by unfold dL;rw[zg (by rw[z];decide),ze z]
  have d:=yr _ N (by rw[<-g,O];exact q3);rw[<-g,O]at d;exact⟨zdW h N,d⟩
 have o:∀row,Dw p (aa db p) u row=row++kA p (getD y.2 (ac (λr=>bC r y.1.2.2.1 u) y.2 0).toNat (zi zf.sl)):=λrow=>by
  unfold Dw;rw[ze z,F];rfl
 obtain⟨H,I⟩:=Nc u P.may;have e0:zK 1 (Io (aa db p))=Q3:=by rw[F];rfl
 have B:getD (aa db p) (toNat 1) (zi zk)=y:=by rw[F];rfl
 generalize aa db p=src at o e0 B|-;rcases e7 (λr=>bC r y.1.2.2.1 u) y.2 0 with⟨l,_⟩|⟨k,A,l,_,_⟩
 .have hn:rows=[]:=List.eq_nil_iff_forall_not_mem.2 λrow D=>by
   have:=(e row D).2;unfold f5 at this;rw[l]at this;exact zC this (by decide)
  subst hn;refine zP (r:=(nils,[])) ?_ rfl;have x:Q0 (LT.lt (α:=Int) (-1) 0)=Q3:=by decide
  simp only[zdh,Tr.val,zn,aX,e0,B,H,I,l,x,zh]
 .rw[ew]at l;have x:Q0 (LT.lt (α:=Int) (k:Int) 0)=Q4:=z7 ow;have j:∀c∈p.t.1,zK c (Io y.2[k])=Q3:=λc Z=>by
   rw[(dn (P.fits _ (bp A))).1];exact yc c Z
  have hp:=Sa (src:=src) j m.few;have S:wP (p,src) y.2[k]=Q3:=by unfold wP;rw[hp];rfl
  have G:F6 (p,src) y.2[k]=kA p y.2[k]:=by unfold F6;rw[hp];rfl
  have s:(kA p y.2[k]).length<=1000:=by unfold kA;rw[cQ];exact m.few
  have q:rows.map (Dw p src u)=rows.map (λrow=>row++kA p y.2[k]):=List.map_congr_left λrow _=>by rw[o,l,zX _ _ A]
  rw[q];generalize kA p y.2[k]=b at G s|-;have hs:(zdh (p,src) u rows).val=Q1 (.inl (.h7 b rows (Io rows:Int) ((0:Nat):Int) [])):=by
   simp only[zdh,Tr.val,zn,aX,e0,B,H,I,l,x,zx A,zX _ _ A,S,G,zE,zh,zm];rfl
  have L:=zJ.all (t:=zeg) 1 (λi=>.h7 b rows (Io rows:Int) (i:Int) ((rows.take i).map λrow=>row++b)) (Io rows) λi n=>zJ.of (by
   have M:=zcx (e _ (bp n)).1 s;have T:V0 [rows[i],b]=Q3:=by unfold V0;rw[M];rfl
   have W:zjT [rows[i],b]=rows[i]++b:=by unfold zjT;rw[M];rfl
   have X:Q0 (((rows.take i).map λrow=>row++b).length+[rows[i]++b].length<=1073741824)=Q3:=by simp;omega
   simp only[zeg,Tr.val,zI n,zx n,zX _ _ n,T,W,zh];rw[ze X,zu i um,bv n,eC];rfl)
  simp only[fQ,List.take_zero,pU]at L;refine zA hs (L.ends (zY.of (r:=(AV.vec 0,[AO.vec zf.sl (rows.map λrow=>row++b)])) ?_)) ow rfl;simp only[zeg,Tr.val,zG,zE,zm]
theorem Rp(h:aV db p)(m:tg db p)(u:zp){R:List zt}(D:∀row∈R,row∈yz db p u)(d:Io R<=200):
  B8 (p,aa db p) u R=Q1 ((sD p (aa db p) u R).filter (λr=>cf p.2.2.2.1 r==(0:Int)),(((sD p (aa db p) u R).length-((sD p (aa db p) u R).filter λr=>cf p.2.2.2.1 r==(0:Int)).length:Nat):Int),()):=by
 have q:(sD p (aa db p) u R).length<=200:=by
  unfold sD;split
  .split<;>simp
  .rw[cQ];exact d
 have I:(XB (p,aa db p) u R).val=Q1 (.inl (.h5 0 (sD p (aa db p) u R) ((sD p (aa db p) u R).length:Int) ((0:Nat):Int) ((p,aa db p),()) [])):=by
  rcases h.mig with e|e|e
  .have x:=zcy (src:=aa db p) (u:=u) (rows:=R) (λrow G c x=>by
    obtain⟨H,_⟩:=yA (D row G);rw[(h.inn _ H).2];exact(m.copy e).1 c x) m.few ow
   have l:N4 (p,aa db p) u R=Q3:=by unfold N4;rw[x];rfl
   have n:VL (p,aa db p) u R=sD p (aa db p) u R:=by
    unfold VL sD;rw[x,zg (by rw[e];decide)];refine List.map_congr_left λrow _=>?_
    unfold Dw;rw[zg (by rw[e];decide)]
   have j:(p.1==dm)=Q3:=by rw[e];rfl
   simp only[XB,Tr.val,zn,aX,j,l,n,zh];rfl
  .have x:=zdj h m e u D d;have l:N6 (p,aa db p) u R=Q3:=by unfold N6;rw[x];rfl
   have n:VN (p,aa db p) u R=sD p (aa db p) u R:=by
    unfold VN sD;rw[x,zg (by rw[e];decide)];rfl
   have j:(p.1==dm)=Q4:=by rw[e];rfl
   have z:(p.1==gm)=Q3:=by rw[e];rfl
   simp only[XB,Tr.val,zn,aX,j,z,l,n,zE,zh,zm];rfl
  .obtain⟨_,a,b,g,N,L⟩:=m.group e;have x:=Xe (src:=aa db p) (u:=u) (rows:=R) g (λrow G=>by
    obtain⟨H,_⟩:=yA (D row G);rw[(h.inn _ H).2];exact L) ow
   have l:Id (p,aa db p) u R=Q3:=by unfold Id;rw[x];rfl
   have n:N5 (p,aa db p) u R=sD p (aa db p) u R:=by
    unfold N5 sD;rw[x,ze e];rfl
   have j:(p.1==dm)=Q4:=by rw[e];rfl
   have z:(p.1==gm)=Q4:=by rw[e];rfl
   have J:(p.1==mU)=Q3:=by rw[e];rfl
   simp only[XB,Tr.val,zn,aX,j,z,J,l,n,zE,zh,zm];rfl
 generalize sD p (aa db p) u R=rows at q I|-;have o:=zJ.all (t:=zed) 1 (λi=>.h5 ((i-((rows.take i).filter λr=>cf p.2.2.2.1 r==(0:Int)).length:Nat):Int) rows (Io rows:Int) (i:Int) ((p,aa db p),()) ((rows.take i).filter λr=>cf p.2.2.2.1 r==(0:Int))) (Io rows) λi y=>zJ.of (by
  have F:((rows.take i).filter λr=>cf p.2.2.2.1 r==(0:Int)).length<=i:=aT (List.length_filter_le _ _) sg;rw[bv y,List.filter_append];generalize((rows.take i).filter λr=>cf p.2.2.2.1 r==(0:Int))=acc at F|-;have M:Q0 (Io acc+[rows[i]].length<=1073741824)=Q3:=by simp;omega
  simp only[zed,Tr.val,zn,aX,zI y,zx y,zX _ _ y,M,zh];rw[zu i um,zu (i-Io acc) um];cases s:cf p.2.2.2.1 rows[i]==(0:Int)with
  | true=>
   have A:(cf p.2.2.2.1 rows[i]!=(0:Int))=Q4:=by rw[bne,s];rfl
   rw[zg (by rw[A];simp),List.filter_cons,ze s,List.filter_nil,ik];have B:i+1-(Io acc+[rows[i]].length)=i-Io acc:=by simp
   rw[B]
  | false=>
   have A:(cf p.2.2.2.1 rows[i]!=(0:Int))=Q3:=by rw[bne,s];rfl
   rw[ze A,List.filter_cons,zg (by rw[s];simp),List.filter_nil,pR];have B:i+1-Io acc=i-Io acc+1:=by omega
   rw[B])
 simp only[fQ,List.take_zero,List.filter_nil]at o;refine zA I (o.ends (zY.of (r:=(tup [AV.vec 0,ai ((Io rows-(rows.filter λr=>cf p.2.2.2.1 r==(0:Int)).length:Nat):Int)],[AO.vec zf.sl (rows.filter λr=>cf p.2.2.2.1 r==(0:Int))])) ?_)) ow rfl;simp only[zed,Tr.val,zG,zE,zm]
theorem zjZ(h:aV db p)(m:tg db p)(u:zp):B8 (p,aa db p) u (yz db p u)=Q1 (fj db p u,((Ca db p u:Nat):Int),()):=Rp h m u (λ_ h=>h) (aT (List.length_filter_le _ _) h.rel.few)
theorem zcO(h:aV db p)(m:tg db p)(u:zp):B8 (p,aa db p) u []=Q1 ([],0,()):=by
 have e:sD p (aa db p) u []=[]:=by
  unfold sD;split<;>rfl
 have:=Rp h m u (R:=[]) (λ_ h=>by cases h) sw;rw[e]at this;exact this
end
def zeU:z8:=aS (List.replicate 1 Q2) (eK LK Tryz.f93 (List.replicate 1 Q2))
theorem za4:FK 93 zeU:=bS _ kY (bL kw)
def zfo:z8:=aS (List.replicate 2 Q2) (eK LK Tryz.f162 (List.replicate 2 Q2))
theorem zbw:FK 162 zfo:=bS _ kY (bL kw)
def OC:=LK.addL [(93,zeU),(162,zfo)]
theorem CN:zw OC:=kY.addL<|fc za4<|fc zbw<|iH
def zeW:z8:=aS (List.replicate 3 Q2) (eK OC Tryz.f94 (List.replicate 3 Q2))
theorem za6:FK 94 zeW:=bS _ CN (bL kw)
def CO:=OC.add 94 zeW
theorem CQ:zw CO:=CN.add za6
abbrev X1:=kJ [(1,[0,1,2,3,8]),(4,[0,1,2,3,8,9])]
inductive yH where
 |h1 (i1:Int) (i2:Int) (i3f_0_0:Int) (i8:Int) (lh_0:List (Sem zf.sl))
 |h4 (i1:Int) (i2:Int) (i3f_0_0:Int) (i8:Int) (i9:Int) (lh_0:List (Sem zf.sl))
abbrev Lh:yH->Nat×St
 |.h1 x b h c l=>(1,⟨tm 53 [(0,AV.vec 0),(1,ai x),(2,ai b),(3,AV.clo (Fn.func 94) [Qd [ai h]] []),(8,ai c)],[AO.vec zf.sl l]⟩)
 |.h4 x b h c d l=>(4,⟨tm 53 [(0,AV.vec 0),(1,ai x),(2,ai b),(3,AV.clo (Fn.func 94) [Qd [ai h]] []),(8,ai c),(9,ai d)],[AO.vec zf.sl l]⟩)
theorem zlA:zM CO.P 223 Tryz.f223 4:=bL kw
def RA(l:List zt)(a b k:Int):Tr (yH⊕au):=
 Tr.to (yH.h1 a b k (Γ Δ (a+1)) l)
theorem zkk(l:List zt)(a b k:Int):rn CO 1 X1 Tryz.f223 [AV.vec 0,ai a,ai b,AV.clo (Fn.func 94) [Qd [ai k]] []] [AO.vec (Sh.sl zf) l]=(RA l a b k).map (lf Tryz.f223 Lh):=kw
def tb:yH->Tr (yH⊕au)
 | .h1 e o h g l=>
  br (Q0 (g<o)) (Tr.to (yH.h4 e o h g g l))
  (re (tup []) [AO.vec zf.sl l])
 | .h4 e o h g x l=>
  let y:=Q0 (x.toNat<Io l)
  let b:=Γ Δ (x-1)
  let A:=zK b (Io l)
  let B:=Q0 (b.toNat<Io l)
  let D:=Q0 (h<0)
  let q:=l.getD x.toNat (zi zf.sl)
  let G:=(↑(Io q):Int)
  let F:=bif D then Q3 else Q0 (h>=G)
  let s:=l.getD b.toNat (zi zf.sl)
  let H:=(↑(Io s):Int)
  let c:=bif D then Q3 else Q0 (h>=H)
  let j:=bif c then Q3 else zK h (Io s)
  let m:=getD s h.toNat (zi zf)
  let n:=getD q h.toNat (zi zf)
  let z:=bif F then bif c then aO (0,0,[]) (0,0,[])else aO (0,0,[]) m else bif c then aO n (0,0,[])else aO n m
  let d:=l.set x.toNat s
  chk (cond (Q0 (x>e)) (zK x (Io l)&&(y&&(A&&(B&&bif F then j else zK h (Io q)&&j)))) Q3)
  (br (cond (Q0 (x>e)) (Q0 (z<0)) Q4) (chk A (chk B (chk (zK x (Io l)) (chk y (chk (zK x (Io l)) (chk y (chk (zK b (Io d)) (chk (Q0 (b.toNat<Io d)) (Tr.to (yH.h4 e o h g b (d.set b.toNat q))))))))))) (Tr.to (yH.h1 e o h (Γ Δ (g+1)) l)))
theorem zlK:∀s,run CO 1 X1 (Func.results Tryz.f223).toList 400 (ab Tryz.f223 (Lh s).1) (Lh s).2=(tb s).map (lf Tryz.f223 Lh):=by intro s;cases s<;>kernel_rfl
def O8(l:List zt)(a b k:Int):=bY tb 100000000 (RA l a b k)
def Kv(r:Option au):Option (List zt):=match r with
 |some (.tup [],[.vec (.sl ME) l])=>Q1 l
 |_=>Q2
theorem sm{r:Option au}(h:(Kv r).isSome=Q3):r=Q1 (.tup [],[.vec (.sl zf) ((Kv r).getD [])]):=by
 unfold Kv at h|-;split at h
 .rfl
 .cases h
def xH(l:List zt)(a b k:Int):=Kv (O8 l a b k)
def zfG:eX [Q2,Q2,Q2,Q2]:=λx h=>match x,h with
 |(.vec 0,.int .i64 a,.int .i64 b,.clo (.func 94) [.agg [.int .i64 k]] [],_),[.vec (.sl ME) l]=>.chk ((xH l a b k).isSome) (.ok (.tup [],[.vec (.sl zf) ((xH l a b k).getD [])]))
 |_,_=>.err
def zfs:z8:=aS [Q2,Q2,Q2,Q2] zfG
theorem zbA:FK 223 zfs:=by
 refine qX (ι:=List zt×Int×Int×Int) (args:=λy=>[AV.vec 0,ai y.2.1,ai y.2.2.1,AV.clo (Fn.func 94) [Qd [ai y.2.2.2]] []]) (heap:=λy=>[AO.vec zf.sl y.1]) (i:=λy=>RA y.1 y.2.1 y.2.2.1 y.2.2.2) (t:=tb) (e:=Lh) (n:=100000000) (n0:=1) CQ zlA (λ_=>rfl) (λy=>zkk _ _ _ _) zlK (λx h g c=>?_);unfold zfG at c;split at c
 .rename_i a b k u l;simp only[Tr.val]at c;split at c
  next d=>simp only[bg]at c;subst c;exact⟨(l,a,b,k),rfl,rfl,sm d⟩
  .cases c
 .simp at c
def CR:=CO.add 223 zfs
theorem CS:zw CR:=CQ.add zbA
abbrev X4:=kJ [(1,[0,1,2,3,10])]
inductive FX where
 |h1 (i1:Int) (i2:Int) (i3:Int) (i10:Int) (lh_0:List (Sem zf.sl))
abbrev Lk:FX->Nat×St
 |.h1 x b c h l=>(1,⟨tm 38 [(0,AV.vec 0),(1,ai x),(2,ai b),(3,ai c),(10,ai h)],[AO.vec zf.sl l]⟩)
theorem zlC:zM CR.P 305 Tryz.f305 5:=bL kw
def Xw(l:List zt)(a b n _:Int):Tr (FX⊕au):=
 Tr.to (FX.h1 a b n 0 l)
theorem zkq(l:List zt)(a b n k:Int):rn CR 1 X4 Tryz.f305 [AV.vec 0,ai a,ai b,ai n,AV.clo (Fn.func 94) [Qd [ai k]] []] [AO.vec (Sh.sl zf) l]=(Xw l a b n k).map (lf Tryz.f305 Lk):=kw
def HR:FX->Tr (FX⊕au)
 | .h1 g j m h l=>
  let x:=Γ Δ (j+h)
  let b:=Γ Δ (g+h)
  let d:=zK b (Io l)
  let e:=Q0 (b.toNat<Io l)
  let c:=l.set b.toNat (l.getD x.toNat (zi zf.sl))
  br (Q0 (h<m))
  (chk (zK x (Io l)) (chk (Q0 (x.toNat<Io l)) (chk d (chk e (chk d (chk e (chk (zK x (Io c)) (chk (Q0 (x.toNat<Io c)) (Tr.to (FX.h1 g j m (Γ Δ (h+1)) (c.set x.toNat (l.getD b.toNat (zi zf.sl)))))))))))))
  (re (tup []) [AO.vec zf.sl l])
theorem zlN:∀s,run CR 1 X4 (Func.results Tryz.f305).toList 400 (ab Tryz.f305 (Lk s).1) (Lk s).2=(HR s).map (lf Tryz.f305 Lk):=by intro s;cases s<;>kernel_rfl
def ztB(l:List zt)(a b n k:Int):=bY HR 100000000 (Xw l a b n k)
def P6(l:List zt)(a b n k:Int):=Kv (ztB l a b n k)
def zfI:eX [Q2,Q2,Q2,Q2,Q2]:=λx h=>match x,h with
 |(.vec 0,.int .i64 a,.int .i64 b,.int .i64 n,.clo (.func 94) [.agg [.int .i64 k]] [],_),[.vec (.sl ME) l]=>.chk ((P6 l a b n k).isSome) (.ok (.tup [],[.vec (.sl zf) ((P6 l a b n k).getD [])]))
 |_,_=>.err
def zfx:z8:=aS [Q2,Q2,Q2,Q2,Q2] zfI
theorem zbF:FK 305 zfx:=by
 refine qX (ι:=List zt×Int×Int×Int×Int) (args:=λy=>[AV.vec 0,ai y.2.1,ai y.2.2.1,ai y.2.2.2.1,AV.clo (Fn.func 94) [Qd [ai y.t]] []]) (heap:=λy=>[AO.vec zf.sl y.1]) (i:=λy=>Xw y.1 y.2.1 y.2.2.1 y.2.2.2.1 y.t) (t:=HR) (e:=Lk) (n:=100000000) (n0:=1) CS zlC (λ_=>rfl) (λy=>zkq _ _ _ _ _) zlN (λx h g c=>?_);unfold zfI at c;split at c
 .rename_i a b n k u l;simp only[Tr.val]at c;split at c
  next d=>simp only[bg]at c;subst c;exact⟨(l,a,b,n,k),rfl,rfl,sm d⟩
  .cases c
 .simp at c
def CT:=CR.add 305 zfx
theorem CU:zw CT:=CS.add zbF
abbrev X3:=kJ [(2,[0,2,4,10,11])]
inductive BS where
 |h2 (i2:Int) (i4f_0_0:Int) (i10:Int) (i11:Int) (lh_0:List (Sem zf.sl))
abbrev Lj:BS->Nat×St
 |.h2 c h x b l=>(2,⟨tm 58 [(0,AV.vec 0),(2,ai c),(4,AV.clo (Fn.func 94) [Qd [ai h]] []),(10,ai x),(11,ai b)],[AO.vec zf.sl l]⟩)
theorem zlB:zM CT.P 267 Tryz.f267 5:=bL kw
def RB(l:List zt)(a m b k:Int):Tr (BS⊕au):=
 Tr.to (BS.h2 m k (Γ Δ (m-a)) (Γ Δ (b-m)) l)
theorem zkp(l:List zt)(a m b k:Int):rn CT 1 X3 Tryz.f267 [AV.vec 0,ai a,ai m,ai b,AV.clo (Fn.func 94) [Qd [ai k]] []] [AO.vec (Sh.sl zf) l]=(RB l a m b k).map (lf Tryz.f267 Lj):=kw
def EZ:BS->Tr (BS⊕au)
 | .h2 c h x b l=>
  let d:=Γ Δ (c-x)
  let e:=P6 l d c b h
  let g:=P6 l d (Γ Δ (Γ Δ (c+b)-x)) x h
  let j:=P6 l d c x h
  br (x !=b)
  (br (Q0 (x>b)) (chk e.isSome (Tr.to (BS.h2 c h (Γ Δ (x-b)) b (e.getD [])))) (chk g.isSome (Tr.to (BS.h2 c h x (Γ Δ (b-x)) (g.getD [])))))
  (chk j.isSome (re (tup []) [AO.vec zf.sl (j.getD [])]))
theorem zlM:∀s,run CT 1 X3 (Func.results Tryz.f267).toList 400 (ab Tryz.f267 (Lj s).1) (Lj s).2=(EZ s).map (lf Tryz.f267 Lj):=by intro s;cases s<;>kernel_rfl
def zl8(l:List zt)(a m b k:Int):=bY EZ 100000000 (RB l a m b k)
def UI(l:List zt)(a m b k:Int):=Kv (zl8 l a m b k)
def zfH:eX [Q2,Q2,Q2,Q2,Q2]:=λx h=>match x,h with
 |(.vec 0,.int .i64 a,.int .i64 m,.int .i64 b,.clo (.func 94) [.agg [.int .i64 k]] [],_),[.vec (.sl ME) l]=>.chk ((UI l a m b k).isSome) (.ok (.tup [],[.vec (.sl zf) ((UI l a m b k).getD [])]))
 |_,_=>.err
def zfw:z8:=aS [Q2,Q2,Q2,Q2,Q2] zfH
theorem zbE:FK 267 zfw:=by
 refine qX (ι:=List zt×Int×Int×Int×Int) (args:=λy=>[AV.vec 0,ai y.2.1,ai y.2.2.1,ai y.2.2.2.1,AV.clo (Fn.func 94) [Qd [ai y.t]] []]) (heap:=λy=>[AO.vec zf.sl y.1]) (i:=λy=>RB y.1 y.2.1 y.2.2.1 y.2.2.2.1 y.t) (t:=EZ) (e:=Lj) (n:=100000000) (n0:=1) CU zlB (λ_=>rfl) (λy=>zkp _ _ _ _ _) zlM (λx h g c=>?_);unfold zfH at c;split at c
 .rename_i a m b k u l;simp only[Tr.val]at c;split at c
  next d=>simp only[bg]at c;subst c;exact⟨(l,a,m,b,k),rfl,rfl,sm d⟩
  .cases c
 .simp at c
def Ix:=CT.add 267 zfw
theorem CV:zw Ix:=CU.add zbE
abbrev SM:=List zt->Int->Int->Int->Int->Option (List zt)
def GSm(o:SM):eX [Q2,Q2,Q2,Q2,Q2]:=λx h=>match x,h with
 |(.vec 0,.int .i64 a,.int .i64 m,.int .i64 b,.clo (.func 94) [.agg [.int .i64 k]] [],_),[.vec (.sl ME) l]=>.chk ((o l a m b k).isSome) (.ok (.tup [],[.vec (.sl zf) ((o l a m b k).getD [])]))
 |_,_=>.err
def FSm(o:SM):z8:=aS [Q2,Q2,Q2,Q2,Q2] (GSm o)
def Cw(o:SM):cg:=Ix.add 224 (FSm o)
theorem Ox{o:SM}(h:FK 224 (FSm o)):zw (Cw o):=CV.add h
abbrev X2:=kJ [(3,[0,1,4,10,11]),(9,[0,10,13]),(15,[0,2,4,14,15]),(21,[0,14,17]),(33,[0,1,2,3,4,18,19,20,21,22])]
inductive jb where
 |h3 (i1:Int) (i4f_0_0:Int) (i10:Int) (i11:Int) (lh_0:List (Sem zf.sl))
 |h15 (i2:Int) (i4f_0_0:Int) (i14:Int) (i15:Int) (lh_0:List (Sem zf.sl))
 |h33 (i1:Int) (i2:Int) (i3:Int) (i4f_0_0:Int) (i18:Int) (i19:Int) (i20:Int) (i21:Int) (i22:Int) (lh_0:List (Sem zf.sl))
 |h9 (i10:Int) (i13:Int) (lh_0:List (Sem zf.sl))
 |h21 (i14:Int) (i17:Int) (lh_0:List (Sem zf.sl))
abbrev Li:jb->Nat×St
 |.h3 c h x d l=>(3,⟨tm 220 [(0,AV.vec 0),(1,ai c),(4,AV.clo (Fn.func 94) [Qd [ai h]] []),(10,ai x),(11,ai d)],[AO.vec zf.sl l]⟩)
 |.h15 o h b g l=>(15,⟨tm 220 [(0,AV.vec 0),(2,ai o),(4,AV.clo (Fn.func 94) [Qd [ai h]] []),(14,ai b),(15,ai g)],[AO.vec zf.sl l]⟩)
 |.h33 c o z h m n q s y l=>(33,⟨tm 220 [(0,AV.vec 0),(1,ai c),(2,ai o),(3,ai z),(4,AV.clo (Fn.func 94) [Qd [ai h]] []),(18,ai m),(19,ai n),(20,ai q),(21,ai s),(22,ai y)],[AO.vec zf.sl l]⟩)
 |.h9 x e l=>(9,⟨tm 220 [(0,AV.vec 0),(10,ai x),(13,ai e)],[AO.vec zf.sl l]⟩)
 |.h21 b j l=>(21,⟨tm 220 [(0,AV.vec 0),(14,ai b),(17,ai j)],[AO.vec zf.sl l]⟩)
theorem I2(o:SM):zM (Cw o).P 224 Tryz.f224 5:=bL kw
def Aj(_:SM)(l:List zt)(a m b k:Int):Tr (jb⊕au):=
 let h:=Γ Δ (IntKind.u64.wrap (Γ Δ (a+b))/2)
 let x:=Γ Δ (h+m)
 let c:=Γ Δ (x-1)
 br (Γ Δ (m-a)==1) (Tr.to (jb.h3 a k m b l))
 (br (Γ Δ (b-m)==1) (Tr.to (jb.h15 m k a m l))
  (chk Q3 (br (Q0 (m>h)) (Tr.to (jb.h33 a m b k h x (Γ Δ (x-b)) h c l)) (Tr.to (jb.h33 a m b k h x a m c l)))))
theorem zkl(o:SM)(l:List zt)(a m b k:Int):rn (Cw o) 1 X2 Tryz.f224 [AV.vec 0,ai a,ai m,ai b,AV.clo (Fn.func 94) [Qd [ai k]] []] [AO.vec (Sh.sl zf) l]=(Aj o l a m b k).map (lf Tryz.f224 Li):=kw
def eU(o:SM):jb->Tr (jb⊕au)
 | .h3 z h m N l=>
  let x:=Γ Δ (IntKind.u64.wrap (Γ Δ (m+N))/2)
  let d:=Q0 (h<0)
  let j:=l.getD x.toNat (zi zf.sl)
  let B:=(↑(Io j):Int)
  let L:=bif d then Q3 else Q0 (h>=B)
  let D:=l.getD z.toNat (zi zf.sl)
  let M:=(↑(Io D):Int)
  let G:=bif d then Q3 else Q0 (h>=M)
  let H:=bif G then Q3 else zK h (Io D)
  let I:=getD D h.toNat (zi zf)
  let e:=getD j h.toNat (zi zf)
  let y:=bif L then bif G then aO (0,0,[]) (0,0,[])else aO (0,0,[]) I else bif G then aO e (0,0,[])else aO e I
  br (Q0 (m<N))
  (chk Q3 (chk (zK x (Io l)) (chk (Q0 (x.toNat<Io l)) (chk (zK z (Io l)) (chk (Q0 (z.toNat<Io l)) (chk (cond L H (zK h (Io j)&&H)) (br (Q0 (y<0)) (Tr.to (jb.h3 z h (Γ Δ (x+1)) N l)) (Tr.to (jb.h3 z h m x l)))))))))
  (Tr.to (jb.h9 m z l))
 | .h15 A h q O l=>
  let x:=Γ Δ (IntKind.u64.wrap (Γ Δ (q+O))/2)
  let d:=Q0 (h<0)
  let j:=l.getD A.toNat (zi zf.sl)
  let B:=(↑(Io j):Int)
  let L:=bif d then Q3 else Q0 (h>=B)
  let D:=l.getD x.toNat (zi zf.sl)
  let M:=(↑(Io D):Int)
  let G:=bif d then Q3 else Q0 (h>=M)
  let H:=bif G then Q3 else zK h (Io D)
  let I:=getD D h.toNat (zi zf)
  let e:=getD j h.toNat (zi zf)
  let y:=bif L then bif G then aO (0,0,[]) (0,0,[])else aO (0,0,[]) I else bif G then aO e (0,0,[])else aO e I
  br (Q0 (q<O))
  (chk Q3 (chk (zK A (Io l)) (chk (Q0 (A.toNat<Io l)) (chk (zK x (Io l)) (chk (Q0 (x.toNat<Io l)) (chk (cond L H (zK h (Io j)&&H)) (br (!Q0 (y<0)) (Tr.to (jb.h15 A h (Γ Δ (x+1)) O l)) (Tr.to (jb.h15 A h q x l)))))))))
  (Tr.to (jb.h21 q A l))
 | .h33 z A W h b P c S T l=>
  let x:=Γ Δ (IntKind.u64.wrap (Γ Δ (c+S))/2)
  let d:=Γ Δ (T-x)
  let j:=Q0 (h<0)
  let B:=l.getD d.toNat (zi zf.sl)
  let L:=(↑(Io B):Int)
  let D:=bif j then Q3 else Q0 (h>=L)
  let M:=l.getD x.toNat (zi zf.sl)
  let G:=(↑(Io M):Int)
  let H:=bif j then Q3 else Q0 (h>=G)
  let I:=bif H then Q3 else zK h (Io M)
  let e:=getD M h.toNat (zi zf)
  let y:=getD B h.toNat (zi zf)
  let h8:=bif D then bif H then aO (0,0,[]) (0,0,[])else aO (0,0,[]) e else bif H then aO y (0,0,[])else aO y e
  let g:=Γ Δ (P-c)
  let X:=UI l c A g h
  let Y:=bif Q0 (z<c)then Q0 (c<b)else Q4
  let J:=X.getD []
  let Z:=o J z c b h
  let F:=bif Q0 (b<g)then Q0 (g<W)else Q4
  let h0:=Z.getD []
  let h1:=o h0 b g W h
  let h2:=o J b g W h
  let h4:=o l z c b h
  let h5:=h4.getD []
  let h6:=o h5 b g W h
  let h7:=o l b g W h
  br (Q0 (c<S))
  (chk Q3 (chk (zK d (Io l)) (chk (Q0 (d.toNat<Io l)) (chk (zK x (Io l)) (chk (Q0 (x.toNat<Io l)) (chk (cond D I (zK h (Io B)&&I)) (br (!Q0 (h8<0)) (Tr.to (jb.h33 z A W h b P (Γ Δ (x+1)) S T l))
  (Tr.to (jb.h33 z A W h b P c x T l)))))))))
  (br (cond (Q0 (c<A)) (Q0 (A<g)) Q4) (chk X.isSome (br Y (chk Z.isSome (br F (chk h1.isSome (re (tup []) [AO.vec zf.sl (h1.getD [])])) (re (tup []) [AO.vec zf.sl h0]))) (br F (chk h2.isSome (re (tup []) [AO.vec zf.sl (h2.getD [])])) (re (tup []) [AO.vec zf.sl J])))) (br Y
  (chk h4.isSome (br F (chk h6.isSome (re (tup []) [AO.vec zf.sl (h6.getD [])])) (re (tup []) [AO.vec zf.sl h5]))) (br F (chk h7.isSome (re (tup []) [AO.vec zf.sl (h7.getD [])])) (re (tup []) [AO.vec zf.sl l]))))
 | .h9 m n l=>
  let x:=Γ Δ (m-1)
  let d:=Γ Δ (n+1)
  let j:=Q0 (n.toNat<Io l)
  let B:=l.set n.toNat (l.getD d.toNat (zi zf.sl))
  br (Q0 (n<x))
  (chk (zK d (Io l)) (chk (Q0 (d.toNat<Io l)) (chk (zK n (Io l)) (chk j (chk (zK n (Io l)) (chk j (chk (zK d (Io B)) (chk (Q0 (d.toNat<Io B)) (Tr.to (jb.h9 m d (B.set d.toNat (l.getD n.toNat (zi zf.sl)))))))))))))
  (re (tup []) [AO.vec zf.sl l])
 | .h21 q s l=>
  let x:=Γ Δ (s-1)
  let d:=Q0 (s.toNat<Io l)
  let j:=l.set s.toNat (l.getD x.toNat (zi zf.sl))
  br (Q0 (s>q))
  (chk (zK x (Io l)) (chk (Q0 (x.toNat<Io l)) (chk (zK s (Io l)) (chk d (chk (zK s (Io l)) (chk d (chk (zK x (Io j)) (chk (Q0 (x.toNat<Io j)) (Tr.to (jb.h21 q x (j.set x.toNat (l.getD s.toNat (zi zf.sl)))))))))))))
  (re (tup []) [AO.vec zf.sl l])
theorem zlL(o:SM):∀s,run (Cw o) 1 X2 (Func.results Tryz.f224).toList 400 (ab Tryz.f224 (Li s).1) (Li s).2=(eU o s).map (lf Tryz.f224 Li):=by intro s;cases s<;>kernel_rfl
def smS(o:SM):SM:=λl a m b k=>Kv (bY (eU o) 100000000 (Aj o l a m b k))
def EN:Nat->SM
 |0=>λ_ _ _ _ _=>Q2
 |n+1=>smS (EN n)
theorem Qy:∀n,FK 224 (FSm (EN n))
 | 0=>fu (E:=Ix) ⟨Tryz.f224,(I2 (EN 0)).1,(I2 (EN 0)).2.1,(I2 (EN 0)).2.2.1⟩ fun x j d h=>by
  exfalso;unfold GSm at h;split at h
  .simp[EN,Tr.val]at h
  .simp at h
 | n+1=>by
  refine qX (E:=Cw (EN n)) (ι:=List zt×Int×Int×Int×Int) (args:=λy=>[AV.vec 0,ai y.2.1,ai y.2.2.1,ai y.2.2.2.1,AV.clo (Fn.func 94) [Qd [ai y.t]] []]) (heap:=λy=>[AO.vec zf.sl y.1]) (i:=λy=>Aj (EN n) y.1 y.2.1 y.2.2.1 y.2.2.2.1 y.t) (t:=eU (EN n)) (e:=Li) (n:=100000000) (n0:=1) (Ox (Qy n)) (I2 (EN n)) (λ_=>rfl) (λy=>zkl _ _ _ _ _ _) (zlL (EN n)) (λx h d c=>?_);unfold GSm at c;split at c
  .rename_i a m b k u l;simp only[Tr.val]at c;split at c
   next g=>simp only[bg]at c;subst c;exact⟨(l,a,m,b,k),rfl,rfl,sm g⟩
   .cases c
  .simp at c
def zft:z8:=FSm (EN 16)
theorem zbB:FK 224 zft:=Qy 16
def CW:=Ix.add 224 zft
theorem CX:zw CW:=CV.add zbB
abbrev X0:=kJ [(2,[0,1,2,6,7,8]),(7,[0,1,2,6]),(9,[0,1,2,6,7,8])]
inductive pJ where
 |h2 (i1:Int) (i2f_0_0:Int) (i6:Int) (i7:Int) (i8:Int) (lh_0:List (Sem zf.sl))
 |h7 (i1:Int) (i2f_0_0:Int) (i6:Int) (lh_0:List (Sem zf.sl))
 |h9 (i1:Int) (i2f_0_0:Int) (i6:Int) (i7:Int) (i8:Int) (lh_0:List (Sem zf.sl))
abbrev Lg:pJ->Nat×St
 |.h2 x h b c d l=>(2,⟨tm 63 [(0,AV.vec 0),(1,ai x),(2,AV.clo (Fn.func 94) [Qd [ai h]] []),(6,ai b),(7,ai c),(8,ai d)],[AO.vec zf.sl l]⟩)
 |.h7 x h b l=>(7,⟨tm 63 [(0,AV.vec 0),(1,ai x),(2,AV.clo (Fn.func 94) [Qd [ai h]] []),(6,ai b)],[AO.vec zf.sl l]⟩)
 |.h9 x h b c d l=>(9,⟨tm 63 [(0,AV.vec 0),(1,ai x),(2,AV.clo (Fn.func 94) [Qd [ai h]] []),(6,ai b),(7,ai c),(8,ai d)],[AO.vec zf.sl l]⟩)
theorem zlz:zM CW.P 161 Tryz.f161 3:=bL kw
def Xu(l:List zt)(n k:Int):Tr (pJ⊕au):=
 Tr.to (pJ.h2 n k 20 0 20 l)
theorem zkj(l:List zt)(n k:Int):rn CW 1 X0 Tryz.f161 [AV.vec 0,ai n,AV.clo (Fn.func 94) [Qd [ai k]] []] [AO.vec (Sh.sl zf) l]=(Xu l n k).map (lf Tryz.f161 Lg):=kw
def kE:pJ->Tr (pJ⊕au)
 | .h2 x h b e c l=>
  let d:=xH l e c h
  let g:=xH l e x h
  br (Q0 (c<=x)) (chk d.isSome (Tr.to (pJ.h2 x h b c (Γ Δ (c+b)) (d.getD []))))
  (chk g.isSome (Tr.to (pJ.h7 x h b (g.getD []))))
 | .h7 x h b l=>
  br (Q0 (b<x)) (Tr.to (pJ.h9 x h b 0 (Γ Δ (2*b)) l))
  (re (tup []) [AO.vec zf.sl l])
 | .h9 x h b e c l=>
  let d:=Γ Δ (e+b)
  let g:=EN 16 l e d c h
  let j:=EN 16 l e d x h
  let m:=Γ Δ (b*2)
  br (Q0 (c<=x)) (chk g.isSome (Tr.to (pJ.h9 x h b c (Γ Δ (c+Γ Δ (2*b))) (g.getD []))))
  (br (Q0 (d<x)) (chk j.isSome (Tr.to (pJ.h7 x h m (j.getD [])))) (Tr.to (pJ.h7 x h m l)))
theorem zlJ:∀s,run CW 1 X0 (Func.results Tryz.f161).toList 400 (ab Tryz.f161 (Lg s).1) (Lg s).2=(kE s).map (lf Tryz.f161 Lg):=by intro s;cases s<;>kernel_rfl
def zhb(l:List zt)(n k:Int):=bY kE 100000000 (Xu l n k)
def NA(l:List zt)(n k:Int):=Kv (zhb l n k)
def zfE:eX [Q2,Q2,Q2]:=λx h=>match x,h with
 |(.vec 0,.int .i64 n,.clo (.func 94) [.agg [.int .i64 k]] [],_),[.vec (.sl ME) l]=>.chk ((NA l n k).isSome) (.ok (.tup [],[.vec (.sl zf) ((NA l n k).getD [])]))
 |_,_=>.err
def zfn:z8:=aS [Q2,Q2,Q2] zfE
theorem zbv:FK 161 zfn:=by
 refine qX (ι:=List zt×Int×Int) (args:=λy=>[AV.vec 0,ai y.2.1,AV.clo (Fn.func 94) [Qd [ai y.2.2]] []]) (heap:=λy=>[AO.vec zf.sl y.1]) (i:=λy=>Xu y.1 y.2.1 y.2.2) (t:=kE) (e:=Lg) (n:=100000000) (n0:=1) CX zlz (λ_=>rfl) (λy=>zkj _ _ _) zlJ (λx h d b=>?_);unfold zfE at b;split at b
 .rename_i n k u l;simp only[Tr.val]at b;split at b
  next c=>simp only[bg]at b;subst b;exact⟨(l,n,k),rfl,rfl,sm c⟩
  .cases b
 .simp at b
def Iy:=CW.add 161 zfn
theorem CY:zw Iy:=CX.add zbv
abbrev zk0:=kJ []
theorem zlu:zM Iy.P 92 Tryz.f92 2:=bL kw
def Rx(l:List zt)(k:Int):Tr (Empty⊕au):=
 let h:=NA l (↑l.length:Int) k
 chk h.isSome (re (tup []) [AO.vec zf.sl (h.getD [])])
theorem zkc(l:List zt)(k:Int):rn Iy 1 zk0 Tryz.f92 [AV.vec 0,AV.clo (Fn.func 94) [Qd [ai k]] []] [AO.vec (Sh.sl zf) l]=(Rx l k).map (lf Tryz.f92 e0):=kw
def P2(l:List zt)(k:Int):=bY t0 100000000 (Rx l k)
def ym(l:List zt)(k:Int):=Kv (P2 l k)
def zfD:eX [Q2,Q2]:=λx h=>match x,h with
 |(.vec 0,.clo (.func 94) [.agg [.int .i64 k]] [],_),[.vec (.sl ME) l]=>.chk ((ym l k).isSome) (.ok (.tup [],[.vec (.sl zf) ((ym l k).getD [])]))
 |_,_=>.err
def zeS:z8:=aS [Q2,Q2] zfD
theorem za2:FK 92 zeS:=by
 refine qX (ι:=List zt×Int) (args:=λy=>[AV.vec 0,AV.clo (Fn.func 94) [Qd [ai y.2]] []]) (heap:=λy=>[AO.vec zf.sl y.1]) (i:=λy=>Rx y.1 y.2) (t:=t0) (e:=e0) (n:=100000000) (n0:=1) CY zlu (λ_=>rfl) (λy=>zkc _ _) (U7 _ _ _ _ _) (λx h d b=>?_);unfold zfD at b;split at b
 .rename_i k u l;simp only[Tr.val]at b;split at b
  next c=>simp only[bg]at b;subst b;exact⟨(l,k),rfl,rfl,sm c⟩
  .cases b
 .simp at b
def WK:=Iy.add 92 zeS
theorem OD:zw WK:=CY.add za2
abbrev X9:Nat->aP:=λj=>if j=7 then{slots:=[1,2,34,35]}else{ }
inductive S1 where
 |h7 (i34:Int) (i35:Int) (ja0:Sem Sh.str) (ja2:zq) (ja5:zH) (ja6:Int) (ja7:Int) (ja8:zH) (ja9:zH) (ja10:List (Sem Q5)) (jb0:List UInt8) (jb2:Int) (jb5:List UInt8) (jb6:Int) (jb7:Int) (jb8:List UInt8) (jb9:List UInt8) (lh_2:aN) (lh_3:dA) (lh_4:dr) (lh_5:List (Sem zf.sl))
abbrev Wc:S1->Nat×St
 |.h7 c d e g m n o q s j y z A B D F G l h x b=>(7,⟨tm 50 [(1,ptr 0 0),(2,ptr 1 0),(34,ai c),(35,ai d)],[Qa [str e,AV.vec 2,ai g,AV.vec 3,AV.vec 4,str m,ai n,ai o,str q,str s,sl Q5 j,AV.vec 5],Qa [str y,nils,ai z,nils,nils,str A,ai B,ai D,str F,str G,nils,nils],AO.vec zl l,AO.vec zj h,AO.vec zB x,AO.vec zf.sl b]⟩)
theorem zsI:zM Ri.P 91 Tryz.f91 1:=bL kw
def zdb(x:am):Tr (S1⊕au):=
 chk (Q0 (Io x.1.2.1<=1073741824))
 (chk (Q0 (Io x.1.2.2.2.1<=1073741824))
  (chk (Q0 (Io x.1.t.1<=1073741824)) (chk (pZ 16 (zr x.1.t.2)) (chk (Q0 (Io x.2<=1073741824)) (Tr.to (S1.h7 (↑(Io x.2):Int) 0 x.1.1 x.1.2.2.1 (za.op x.1.t.2) (za.v x.1.t.2).1 (za.v x.1.t.2).2.1 (za.v x.1.t.2).2.2
  (za.s x.1.t.2) (za.l x.1.t.2) [] 0 [] 0 0 [] [] x.1.2.1 x.1.2.2.2.1 x.1.t.1 x.2))))))
theorem zqz(x:am):rn Ri 0 X9 Tryz.f91 [zL zk x] []=(zdb x).map (lf Tryz.f91 Wc):=kw
def UR:S1->Tr (S1⊕au)
 | .h7 d h e g m n o q s j y z A B D F G x b c l=>
  let H:=Q0 (h.toNat<Io l)
  let I:=l.getD h.toNat (zi zf.sl)
  br (Q0 (h<d))
  (chk (zK h (Io l))
   (chk H (chk (Q0 (Io I<=1073741824)) (chk (zK h (Io l)) (chk H (Tr.to (S1.h7 d (Γ Δ (h+1)) e g m n o q s j y z A B D F G x b c (l.set h.toNat I))))))))
  (re
   (Qd [str e,AV.vec 0,ai g,AV.vec 1,AV.vec 2,str m,ai n,ai o,str q,str s,sl Q5 j,AV.vec 3])
   [AO.vec zl x,AO.vec zj b,AO.vec zB c,AO.vec zf.sl l])
theorem ztd:∀s,run Ri 0 X9 (Func.results Tryz.f91).toList 400 (ab Tryz.f91 (Wc s).1) (Wc s).2=(UR s).map (lf Tryz.f91 Wc)
 |.h7 c d e g m n o q y j z A B D F G H l h x b=>by kernel_rfl
def zl4(ks:List Sh)(c:zD (ks.map Q1)->Bool)(g:zD (ks.map Q1)->au):eX (ks.map Q1):=λx h=>match h with
 |[]=>.chk (c x) (.ok (g x))
 |_=>.err
theorem zjh{P:Program}{gl:Nat->AV}{h:Type}{E:cg}{k:FuncId}{f:Func}{ks:List Sh}{keep:Nat->aP}{gas n:Nat}{e:h->Nat×St}{t:h->Tr (h⊕au)}{i:zD (ks.map Q1)->Tr (h⊕au)}{c:zD (ks.map Q1)->Bool}{g:zD (ks.map Q1)->au}
  (o:zw E) (l:zM E.P k f (Io ks)) (d:∀x,run E 0 keep f.results.toList gas (bq f) (aW f.ntmps (iY (ks.map Q1) x) [])=(i x).map (lf f e))
  (j:∀s,run E 0 keep f.results.toList gas (ab f (e s).1) (e s).2=(t s).map (lf f e))
  (y:∀x,c x=Q3->bY t n (i x)=Q1 (g x)) (A:E.P=P:=by rfl) (z:E.gl=gl:=by rfl):ol P gl k (aS (ks.map Q1) (zl4 ks c g)):=by
 subst A z;refine da (by simpa using l) λx D B b C m=>?_
 unfold zl4 at b;split at b
 .simp only[Tr.val]at b;split at b
  next q=>simp only[bg]at b;subst b;exact lD (n0:=0) o (by simpa using l) (λid _=>m id (aM _)) (n+1) _ _ _ (by rw[jr j (d x)];exact y x q) rfl
  .cases b
 .simp at b
def Ol(x:am):au:=(Qd [str x.1.1,AV.vec 0,ai x.1.2.2.1,AV.vec 1,AV.vec 2,str (za.op x.1.t.2),ai (za.v x.1.t.2).1,ai (za.v x.1.t.2).2.1,str (za.v x.1.t.2).2.2,str (za.s x.1.t.2),sl Q5 (za.l x.1.t.2),AV.vec 3],
 [AO.vec zl x.1.2.1,AO.vec zj x.1.2.2.2.1,AO.vec zB x.1.t.1,AO.vec zf.sl x.2])
def Ok(x:am):Bool:=Q0 (Io x.1.2.1<=1000000)&&Q0 (Io x.1.2.2.2.1<=1000000)&&Q0 (Io x.1.t.1<=1000000)&&pZ 16 x.1.t.2&&Q0 (Io x.2<=1000000)&&List.all x.2 (λr=>Q0 (Io r<=1000000))
variable {α:Type}
theorem ZQ(l:List α)(d:α)(i:Nat)(h:i<Io l):l.set i (l.getD i d)=l:=by rw[aY,z6 h,bT];exact List.set_getElem_self h
theorem zcB(x:am)(c:Ok x=Q3):bY UR 100000000 (zdb x)=Q1 (Ol x):=by
 unfold Ok at c;simp only[aE,aQ,dQ]at c;obtain⟨⟨⟨⟨⟨A,B⟩,D⟩,o⟩,F⟩,q⟩:=c
 have y:=eP (t:=UR) (β:=Unit) (Io x.2) (λ_ i=>.h7 (Io x.2:Int) (i:Int) x.1.1 x.1.2.2.1 (za.op x.1.t.2) (za.v x.1.t.2).1 (za.v x.1.t.2).2.1 (za.v x.1.t.2).2.2
   (za.s x.1.t.2) (za.l x.1.t.2) [] 0 [] 0 0 [] [] x.1.2.1 x.1.2.2.2.1 x.1.t.1 x.2) (λ_ _=>True) (λr=>r=Ol x) 1 (by
   intro b i h _;have d:Io (getD x.2 i (zi zf.sl))<=1000000:=q _ (by rw[aY,z6 h,bT];exact bp h);simp only[UR,Tr.val,zI h,zx h,zh,aJ,zy h,ZQ _ _ _ h];rw[zu i um,ze (zy ow)];exact Or.inl ⟨(),trivial,rfl⟩) (by
   intro b n _ G;obtain⟨n,rfl⟩:∃k,n=k+1:=⟨n-1,ow⟩;rw[dR];simp only[UR,Tr.val,zG];exact⟨_,rfl,rfl⟩) (Io x.2) 0 () 100000000 rfl (aM _) trivial ow
 obtain⟨r,z,rfl⟩:=y;unfold bY;have e:Q0 (Io x.1.2.1<=1073741824)=Q3:=zy ow;have g:Q0 (Io x.1.2.2.2.1<=1073741824)=Q3:=zy ow;have j:Q0 (Io x.1.t.1<=1073741824)=Q3:=zy ow;have m:Q0 (Io x.2<=1073741824)=Q3:=zy ow;simp only[zdb,Tr.val,e,g,j,m,zn,o,zh];exact z
def znF:z8:=aS ([zk].map Q1) (zl4 [zk] (λx=>Ok x.1) (λx=>Ol x.1))
theorem ziw:FK 91 znF:=zjh (ks:=[zk]) (keep:=X9) (gas:=400) (n:=100000000) (e:=Wc) (t:=UR) (i:=λx=>zdb x.1) TU zsI (λx=>zqz x.1) ztd (λx h=>zcB x.1 h)
def zcI:=WK.add 91 znF
theorem LN:zw zcI:=OD.add ziw
def zkI(x:am):Tr (Empty⊕au):=
 let h:=(x.1.1,x.1.2.1,x.1.2.2.1,x.1.2.2.2.1,x.1.t.1,zr x.1.t.2)
 let b:=ym x.2 (-1)
 let c:=ym x.2 x.1.2.2.1
 chk (Ok (h,x.2))
 (br (!dM h)
  (chk b.isSome (re (Qd [str x.1.1,AV.vec 0,ai x.1.2.2.1,AV.vec 1,AV.vec 2,str (za.op x.1.t.2),ai (za.v x.1.t.2).1,ai (za.v x.1.t.2).2.1,str (za.v x.1.t.2).2.2,str (za.s x.1.t.2),sl Q5 (za.l x.1.t.2),AV.vec 3]) [AO.vec zl x.1.2.1,AO.vec zj x.1.2.2.2.1,
  AO.vec zB x.1.t.1,AO.vec zf.sl (b.getD [])]))
  (chk c.isSome (re (Qd [str x.1.1,AV.vec 0,ai x.1.2.2.1,AV.vec 1,AV.vec 2,str (za.op x.1.t.2),ai (za.v x.1.t.2).1,ai (za.v x.1.t.2).2.1,str (za.v x.1.t.2).2.2,str (za.s x.1.t.2),sl Q5 (za.l x.1.t.2),AV.vec 3]) [AO.vec zl x.1.2.1,AO.vec zj x.1.2.2.2.1,
  AO.vec zB x.1.t.1,AO.vec zf.sl (c.getD [])])))
def Eo(x:am):=an [zk] t0 100000000 (zkI x)
def PR(x:am):=(Eo x).isSome
def ZF(x:am):=o1 (Eo x)
def zn5:=FT [zk] [zk] λx=>Eo x.1
theorem ziX:FK 35 zn5:=LN.T1 (f:=Tryz.f35) (keep:=k0) (e:=e0)
def fy:=WI.add 35 zn5
theorem fV:zw fy:=GK.add ziX
abbrev zgN:Nat->aP:=λj=>if j=7 then{slots:=[2,3,6,9,10,11,34,35,36]}else if j=15 then{slots:=[6,9,11,14,15,57,58,59],prom:=[(14,Q1 11,.sl zf)]}else{ }
inductive H0 where
 |h7 (l2:zt) (i10:zq) (l34:List (Sem zf.sl)) (i35:Int) (i36:Int) (z0:zo [CP.d aq]) (z1:zo uL) (z2:zo uJ) (mh_3:List ((Int×Int×zH)×List (Sem zf.sl)))
 |h15 (i15:Int) (l57:zt) (i58:Int) (i59:Int) (z0:zo uL) (z1:zo uJ) (z3:zo Oj) (mh_2:List ((Int×Int×zH)×List (Sem zf.sl)))
abbrev Tx:H0->Nat×St
 |.h7 q x l c e z z1 s h=>(7,⟨tm 86 [(2,sl zf q),(3,ptr 0 0),(6,ptr 1 0),(9,ptr 2 0),(10,ai x),(11,AV.mp 3),(34,sl zf.sl l),(35,ai c),(36,ai e)],[Qa (bI [] [CP.d aq] z),Qa (bI [] uL z1),Qa (bI [] uJ s),AO.gmap zf.sl h]⟩)
 |.h15 b n g j z z1 o m=>(15,⟨tm 86 [(6,ptr 0 0),(9,ptr 1 0),(11,AV.mp 2),(14,ptr 3 0),(15,ai b),(57,sl zf n),(58,ai g),(59,ai j)],[Qa (bI [] uL z),Qa (bI [] uJ z1),AO.gmap zf.sl m,Qa (bI [4] Oj o),AO.vec zf.sl o.2.1]⟩)
def T4(x:ar)(h:Sem zk.sl)(e:Sem zf.sl):Tr (H0⊕au):=
 let b:=(x.1,x.2.1,x.2.2.1,(x.2.2.2.1.1,x.2.2.2.1.2.1,x.2.2.2.1.2.2.1,x.2.2.2.1.2.2.2.1,x.2.2.2.1.t.1,zr x.2.2.2.1.t.2),x.t)
 let c:=(b,h)
 let d:=getD h (toNat 0) (zi zk)
 chk (Ho b h)
 (br (Ut b h !=0)
  (re (tup [Qd [str [],nils,ai 0,nils,nils,str [],ai 0,ai 0,str [],str [],nils,nils],ai 0,ai 1]) [])
  (chk (VK c) (chk (zK 0 (Io h)) (Tr.to (H0.h7 e (zjy c) d.2 (↑(Io d.2):Int) 0 (x,()) ([],0,[],0,0,[],[],()) ((x,h),()) [])))))
def Ka:H0->Tr (H0⊕au)
 | .h7 G q g y b A z1 H j=>
  br (Q0 (b<y))
  (chk (zK b (Io g)) (chk (zK q (Io (g.getD b.toNat (zi zf.sl)))) Tr.err))
  (Tr.to (H0.h15 0 G (↑G.length:Int) 0 z1 H (A.1.2.2.2.1,[],()) (me j (0,0,[]))))
 | .h15 d c e x A z1 z m=>
  let B:=((z1.1.1.1,z1.1.1.2.1,z1.1.1.2.2.1,(z1.1.1.2.2.2.1.1,z1.1.1.2.2.2.1.2.1,z1.1.1.2.2.2.1.2.2.1,z1.1.1.2.2.2.1.2.2.2.1,z1.1.1.2.2.2.1.t.1,zr z1.1.1.2.2.2.1.t.2),z1.1.1.t),z1.1.2)
  let n:=c.getD x.toNat (zi zf)
  let D:=kI m n
  let o:=zjz B n D
  let F:=((z.1.1,z.1.2.1,z.1.2.2.1,z.1.2.2.2.1,z.1.t.1,zr z.1.t.2),z.2.1)
  let h:=ZF F
  br (Q0 (x<e))
  (chk (zK x (Io c)) (chk (VM B n D) (chk (Q0 (Io z.2.1+Io o.1<=1073741824)) (Tr.to (H0.h15 (Γ Δ (d+o.2)) c e (Γ Δ (x+1)) A z1 (z.1,z.2.1++o.1,()) (me m n))))))
  (chk (PR F) (re (tup [Qd [str h.1.1,sl zl h.1.2.1,ai h.1.2.2.1,sl zj h.1.2.2.2.1,sl zB h.1.t.1,str (za.op h.1.t.2),ai (za.v h.1.t.2).1,ai (za.v h.1.t.2).2.1,str (za.v h.1.t.2).2.2,str (za.s h.1.t.2),sl Q5 (za.l h.1.t.2),
  sl zf.sl h.2],ai d,ai 0]) []))
open Go
def Tr.asks:Tr α->List Bool
 |.chk c t=>c::t.asks
 |_=>[]
def Tr.leaf:Tr α->Option α
 |.chk _ t=>t.leaf
 |.ok a=>Q1 a
 |_=>Q2
theorem Tr.val_leaf{a:α}:∀{t:Tr α},t.leaf=Q1 a->t.asks.all id=Q3->t.val=Q1 a
 |.err,h,_=>by cases h
 |.br ..,h,_=>by cases h
 |.ok _,h,_=>h
 | .chk c t,h,x=>by
  simp only[Tr.asks,List.all_cons,id,aE]at x;rw[Tr.val,ze x.1];exact Tr.val_leaf h x.2
structure uo (w:World) (U:Nat->Prop) (ρ:Nat->Option Value) (hp:Nat->AO) (w':World) (U':Nat->Prop) (ρ':Nat->Option Value) (hp':Nat->AO):Prop where
 ext:kF w w'
 same:∀b,b<w.heap.size->(∀id,¬af ρ id (hp id) b)->w'.heap[b]?=w.heap[b]?
 u1:∀b,b<w.heap.size->U' b->U b
 u2:∀b,b<w.heap.size->U b->(∀id,¬af ρ id (hp id) b)->U' b
 rho:∀id v,ρ id=Q1 v->ρ' id=Q1 v
 own:∀id b,af ρ' id (hp' id) b->(∃id,af ρ id (hp id) b)\/w.heap.size<=b
section
variable {E:cg} {gl:Nat->AV} {C:eA} {a:Act} {w w':World} {U U':Nat->Prop} {ρ ρ':Nat->Option Value} {hp hp':Nat->AO}
def Ck(w:World)(U:Nat->Prop)(ρ:Nat->Option Value)(hp:Nat->AO):eA:={w0:=w,U0:=U,B0:=λb=>∃id,af ρ id (hp id) b,ρ0:=ρ}
theorem Rw(x:Wd gl C w U):Wd gl (Ck w U ρ hp) w U:=⟨kF.refl w,λ_ _ _=>rfl,x.ub,λ_ _ h=>h,λ_ _ h _=>h,x.gl⟩
theorem Ru(h:gK C w U ρ hp):gK (Ck w U ρ hp) w U ρ hp:=⟨h.ob,h.inj,λid _ x=>.inl ⟨id,x⟩⟩
theorem B9(e:gK (Ck w U ρ hp) w' U' ρ' hp')(x:Wd gl (Ck w U ρ hp) w' U')(g:∀id v,ρ id=Q1 v->ρ' id=Q1 v):uo w U ρ hp w' U' ρ' hp':=
 ⟨x.ext,λb c d=>x.same b c λ⟨id,h⟩=>d id h,x.u1,λb c j d=>x.u2 b c j λ⟨id,h⟩=>d id h,g,e.blk⟩
theorem QR(h:gK C w U ρ hp)(d:Wd gl C w U)(e:uo w U ρ hp w' U' ρ' hp')(j:∀b,U' b->b<w'.heap.size)(m:BO gl w' U'):Wd gl C w' U':=by
 have n:∀b,b<C.w0.heap.size->¬C.B0 b->∀id,¬af ρ id (hp id) b:=λb x c id o=>(h.blk id b o).elim c (λq=>by omega)
 have l:∀b,b<C.w0.heap.size->b<w.heap.size:=λb x=>gF x d.ext.sz
 exact⟨d.ext.trans e.ext,λb x c=>(e.same b (l b x) (n b x c)).trans (d.same b x c),j,λb x g=>d.u1 b x (e.u1 b (l b x) g),λb x g c=>e.u2 b (l b x) (d.u2 b x g c) (n b x c),m⟩
theorem QQ(h:gK C w U ρ hp)(c:Wd gl C w U)(x:gK (Ck w U ρ hp) w' U' ρ' hp'):gK C w' U' ρ' hp':=
 ⟨x.ob,x.inj,λid b e=>(x.blk id b e).elim (λ⟨i,d⟩=>h.blk i b d) λq=>.inr (aT c.ext.sz q)⟩
theorem Nj(m:zw E){id:Nat}{ops:Array Oper}{draw:Bool}{d s:St}(h:(jp E ops.toList draw d).val=Q1 s)(c:Cn C d a w U ρ)(g:Wd E.gl C w U):
  (Code.region id ops draw).wp E.P (λe j w'=>e=.normal/\∃U' ρ',Cn C s j w' U' ρ'/\Wd E.gl C w' U'/\uo w U ρ d.hp w' U' ρ' s.hp) a w:=by refine wp_mono (sQ (C:=Ck w U ρ d.hp) m h ⟨c.tm,Ru c.hp,c.new,c.df,λ_ _ h=>h⟩ (Rw g)) ?_;rintro e j w' ⟨rfl,U',ρ',x,b⟩;have l:=B9 x.hp b x.r0;exact⟨rfl,U',ρ',⟨x.tm,QQ c.hp g x.hp,x.new,x.df,λid v q=>x.r0 id v (c.r0 id v q)⟩,QR c.hp g l b.ub b.gl,l⟩
theorem MB(z:zw E){ops:List Oper}{Q:Exit->Act->World->Prop}{st':RS}{m:Nat}(A:∀c w' U' ρ',AD C st' c w' U' ρ'->Wd E.gl C w' U'->∀k,k+m=Io ops->wpOps E.P ops.toArray Q (List.range' k m) c w'):
  ∀(r:List Oper)(k:Nat)(d:RS)(a:Act)(w:World)(U:Nat->Prop)(ρ:Nat->Option Value)(s:List Oper),Io s=m->r++s=ops.drop k->k+Io r+m=Io ops->(bU E ops r d).val=Q1 st'->AD C d a w U ρ->Wd E.gl C w U->
   wpOps E.P ops.toArray Q (List.range' k (Io r+m)) a w
 | [],k,d,a,w,U,ρ,_,_,_,q,h,l,g=>by
  simp[bU]at h;subst h;have:=A a w U ρ l g k (by simpa using q);simpa using this
 | o::r,k,d,a,w,U,ρ,s,hs,hr,q,h,l,g=>by
  simp only[bU,Tr.val_bind,fO]at h;obtain⟨y,B,D⟩:=h;have b:ops.toArray[k]?=Q1 o:=by
   have:ops[k]?=Q1 o:=by
    have:=congrArg (·[0]?) hr;simpa[BY]using this.symm
   simpa using this
  have x:r++s=ops.drop (k+1):=by
   have:=congrArg List.tail hr;simpa using this
  have e:(o::r).length+m=(Io r+m)+1:=by rw[eJ];omega
  rw[e,List.range'_succ];simp only[wpOps,b];exact HO z B l g _ _ (λc w' U' ρ' n j=>MB z A r (k+1) y c w' U' ρ' s hs x (by rw[eJ]at q;omega) D n j)
theorem zdF(n:zw E){o s:List Oper}{Q:Exit->Act->World->Prop}{g st':RS}(h:(bU E (o++s) o g).val=Q1 st')(b:AD C g a w U ρ)(j:Wd E.gl C w U)
  (y:∀e w' U' ρ',AD C st' e w' U' ρ'->Wd E.gl C w' U'->uo w U ρ g.hp w' U' ρ' st'.hp->wpOps E.P (o++s).toArray Q (List.range' (Io o) (Io s)) e w'):
  wpOps E.P (o++s).toArray Q (List.range (o++s).toArray.size) a w:=by
 have:=MB (C:=Ck w U ρ g.hp) n (ops:=o++s) (Q:=Q) (st':=st') (m:=Io s) (λe w' U' ρ' x c k l=>by
  have l:k=Io o:=by rw[ik]at l;omega
  subst l;have d:=B9 x.hp c x.r0;exact y e w' U' ρ' ⟨x.tm,QQ b.hp j x.hp,x.new,x.kn,x.df,λid v q=>x.r0 id v (b.r0 id v q)⟩ (QR b.hp j d c.ub c.gl) d)
  o 0 g a w U ρ s rfl rfl sw h ⟨b.tm,Ru b.hp,b.new,b.kn,b.df,λ_ _ h=>h⟩ (Rw j)
 rw[List.range_eq_range'];simpa using this
theorem uo.trans{j:World}{g:Nat->Prop}{l:Nat->Option Value}{c:Nat->AO}(x:uo w U ρ hp w' U' ρ' hp')(e:uo w' U' ρ' hp' j g l c):uo w U ρ hp j g l c:=by
 have s:∀b,b<w.heap.size->(∀id,¬af ρ id (hp id) b)->∀id,¬af ρ' id (hp' id) b:=λb h d id q=>(x.own id b q).elim (λ⟨i,m⟩=>d i m) λq=>by omega
 have o:∀b,b<w.heap.size->b<w'.heap.size:=λb h=>gF h x.ext.sz
 exact⟨x.ext.trans e.ext,λb h d=>(e.same b (o b h) (s b h d)).trans (x.same b h d),λb h n=>x.u1 b h (e.u1 b (o b h) n),λb h n d=>e.u2 b (o b h) (x.u2 b h n d) (s b h d),
  λid v q=>e.rho id v (x.rho id v q),λid b q=>(e.own id b q).elim (λ⟨i,m⟩=>x.own i b m) λq=>.inr (aT x.ext.sz q)⟩
end
end
end Cad
