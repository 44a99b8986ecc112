/- States. -/
import Derived.Test.YtgcekmmgphhofaaGreatDoorR36
namespace Cad
open Go Go.Proofs Tryz
open List renaming length->M
open IntKind renaming wrap->Γ,i64->Δ
open Tr renaming val->Q9
open Bool renaming true->Z,false->J
open Option renaming some->Y
open Decidable renaming decide->L
open Int renaming toNat->T
open List renaming getD->W
open Tr (chk br re)
open AV (nils agg tup ptr kb str)
open AV renaming sl->O
open Cad renaming Tr->K,Sem->N,ai->I,ow->S,ze->Q
set_option maxHeartbeats 4000000
noncomputable section
abbrev eL:List CP:=[.d (.sl zl),.d (.sl aD),.d (.sl cZ)]
abbrev zdL:=fZ []
theorem zpU:zJ EK.P 36 f36 1:=bG kw
def zhq(y:zn eL):K (Empty⊕ac):=
 re
 (agg
  [O zl y.1,O (Sh.str.pr (Sh.str.pr Sh.bool)) y.2.1])
 (aE eL y)
theorem znl(y:zn eL):rn EK 1 zdL f36 [ptr 0 0] (aE eL y)=(zhq y).map (lf f36 e0):=kw
def Ak(y:zn eL):Option (zA (List.map Y [eG])×zn eL):=ls [eG] eL t0 100000000 (zhq y)
def nX(y:zn eL):Bool:=(Ak y).isSome
def pU(y:zn eL):iD×zn eL:=(λr:zA (List.map Y [eG])×zn eL=>(r.1.1,r.2)) ((Ak y).getD (dL [eG],jH eL))
def zkx:zV:=uO eL [] [eG] eL (λy _=>nX y) λy _=>(((pU y).1,()),(pU y).2)
theorem zfC:FK 36 zkx:=LK (ps:=eL) (ks:=[]) (outs:=[eG]) (keep:=zdL) (gas:=400) (n:=100000000) (e:=e0) (t:=t0) (i:=λy x=>zhq y) vI zpU (λy x=>znl y) (Dh _ _ _ _ _) (λ_ _=>by kernel_rfl) (λ_ _=>by kernel_rfl)
abbrev Wi:=fZ []
theorem zh5:zJ EK.P 80 f80 3:=bG kw
def Pj(y:zn eL)(x:cU)(j:N ze.sl):K (Empty⊕ac):=
 let d:=(x.1.1,x.1.2.1,x.1.q.1,(x.1.r.1.1,x.1.r.1.2.1,x.1.r.1.q.1,x.1.r.1.r.1,x.1.r.1.t.1,zP x.1.r.1.u),x.1.t)
 let b:=ab y.1 x.1.r.1.1
 let c:=Ub d x.2.1 j
 let a:=W y.1 (T b) (zk zl)
 let e:=[a.2,c.1.2]
 let g:=((a.1.1,a.1.2.1,a.1.q.1,a.1.r.1,a.1.t.1,zP a.1.u),Ut e)
 let h:=Fx g
 let i:=((h.1.1,h.1.2.1,h.1.q.1,h.1.r.1,h.1.t.1,zP h.1.u),h.2)
 chk (L3 d x.2.1 j)
 (br (cond (L (b<0)) Z (c.q !=0)) (re (I 0) (aE eL y))
  (chk (zT b (M y.1)) (chk (Mb e) (chk (wo g) (chk (Mf y.1 i) (re (I c.2.1) (aE eL (UA y.1 i,y.2))))))))
theorem zgY(y:zn eL)(x:cU)(h:N ze.sl):rn EK 1 Wi f80 [ptr 0 0,zI cZ x,zI ze.sl h] (aE eL y)=(Pj y x h).map (lf f80 e0):=kw
def N7(y:zn eL)(x:cU)(h:N ze.sl):Option (zA (List.map Y [zi])×zn eL):=ls [zi] eL t0 100000000 (Pj y x h)
def Iq(y:zn eL)(x:cU)(h:N ze.sl):Bool:=(N7 y x h).isSome
def LA(y:zn eL)(x:cU)(h:N ze.sl):zy×zn eL:=(λr:zA (List.map Y [zi])×zn eL=>(r.1.1,r.2)) ((N7 y x h).getD (dL [zi],jH eL))
def zbO:zV:=uO eL [cZ,ze.sl] [zi] eL (λy x=>Iq y x.1 x.2.1) λy x=>(((LA y x.1 x.2.1).1,()),(LA y x.1 x.2.1).2)
theorem YM:FK 80 zbO:=LK (ps:=eL) (ks:=[cZ,ze.sl]) (outs:=[zi]) (keep:=Wi) (gas:=400) (n:=100000000) (e:=e0) (t:=t0) (i:=λy x=>Pj y x.1 x.2.1) vI zh5 (λy x=>zgY y x.1 x.2.1) (Dh _ _ _ _ _) (λ_ _=>by kernel_rfl) (λ_ _=>by kernel_rfl)
def zde:=EK.addL [(36,zkx),(80,zbO)]
theorem vJ:zm zde:=vI.addL<|fc zfC<|fc YM<|ip
abbrev zmT:List CP:=[.nil,.nil]
def M2(e:N zl.sl)(x:cU):K (Empty⊕ac):=
 let b:=(x.1.r.1.1,x.1.r.1.2.1,x.1.r.1.q.1,x.1.r.1.r.1,x.1.r.1.t.1,zP x.1.r.1.u)
 let h:=(x.1.1,x.1.2.1,x.1.q.1,b,x.1.t)
 let g:=KE h x.2.1!=0
 let c:=Ym h x.2.1
 let i:=c.2!=0
 let d:=ab e x.1.r.1.1
 let j:=L (d>=0)
 let a:=W e (T d) (zk zl)
 let k:=(a.1.1,a.1.2.1,a.1.q.1,a.1.r.1,a.1.t.1,zP a.1.u)
 chk (xF h x.2.1&&bif g then Z else FI x.q.1)
 (br (cond g Z (nU x.q.1!=0)) (re (kb J) [])
  (chk (N0 h x.2.1) (chk (cond i Z (NF c.1 x.q.1.1)) (br (cond i Z (!Lh c.1 x.q.1.1)) (re (kb J) []) (chk (kU x.q.1) (br (cond ((↑(tW x.q.1).length:Int)==0) Z (L (x.r<0))) (re (kb J) [])
  (chk (cond j (zT d (M e)&&C1 k b) Z) (re (AV.bool (cond j (mU k b) J)) []))))))))
def Ir(x:N zl.sl)(h:cU):=aA [Sh.bool] t0 100000000 (M2 x h)
def N8(x:N zl.sl)(h:cU):=(Ir x h).isSome
def Yx(x:N zl.sl)(h:cU):=o1 (Ir x h)
def zky:=FT [zl.sl,cZ] [Sh.bool] λx=>Ir x.1 x.2.1
theorem zfD:FK 37 zky:=vJ.T1 (f:=f37) (keep:=k0) (e:=e0)
abbrev zoG:=fZ [(3,[2,3,9,10,11])]
inductive QS where
 |h3 (l9:List (N ((Sh.str.pr (Sh.str.pr (Sh.str.pr (zN.pr (zi.sl.pr zi))))).pr (zl.sl.pr ((ze.sl.pr (Sh.int IntKind.u8).sl).pr zi))))) (i10:Int) (i11:Int) (z0:zn zmT) (z1:zn eL)
abbrev zr3:QS->Nat×St
 |.h3 l i h z x=>(3,⟨tm 22 [(2,ptr 0 0),(3,ptr 1 0),(9,O ((Sh.str.pr (Sh.str.pr (Sh.str.pr (zN.pr (zi.sl.pr zi))))).pr (zl.sl.pr ((ze.sl.pr (Sh.int IntKind.u8).sl).pr zi))) l),(10,I i),(11,I h)],[AO.box (fD [] zmT z),AO.box (fD [] eL x)]⟩)
def ztB(x:bu):K (QS⊕ac):=
 Tr.to (QS.h3 x.q (M x.q:Int) 0 () (x.1,x.2.1,x.q,()))
def NT:QS->K (QS⊕ac)
 | .h3 l h i _ z=>
  let a:=l.getD i.toNat (zk ((Sh.str.pr (Sh.str.pr (Sh.str.pr (zN.pr (zi.sl.pr zi))))).pr (zl.sl.pr ((ze.sl.pr (Sh.int IntKind.u8).sl).pr zi))))
  let x:=(z.1,z.2.1,z.q.1,())
  let b:=((a.1.1,a.1.2.1,a.1.q.1,(a.1.r.1.1,a.1.r.1.2.1,a.1.r.1.q.1,a.1.r.1.r.1,a.1.r.1.t.1,zP a.1.r.1.u),a.1.t),a.2)
  let c:=tW a.q.1
  let e:=LA x b c
  let d:=pU x
  br (L (i<h))
  (chk (zT i (M l)) (chk (kU a.q.1) (chk (Iq x b c) (Tr.to (QS.h3 l h (Γ Δ (i+1)) () e.2)))))
  (chk (nX x) (re (agg [O zl d.1.1,O (Sh.str.pr (Sh.str.pr Sh.bool)) d.1.2]) []))
def mY(x:bu):=aA [eG] NT 100000000 (ztB x)
def wM(x:bu):=(mY x).isSome
def De(x:bu):=o1 (mY x)
def zkA:=FT [bL] [eG] λx=>mY x.1
theorem zfF:FK 38 zkA:=vJ.T1 (f:=f38) (keep:=zoG) (e:=zr3)
def zdf:=zde.addL [(37,zky),(38,zkA)]
theorem vK:zm zdf:=vJ.addL<|fc zfD<|fc zfF<|ip
theorem zaL{e:zg}(h:gz 16 e Nc=Z):e=Nc:=by rw[Lc]at h;simp only[ar,be]at h;have⟨x,a,b,c⟩:=h;have⟨o,v,s,l⟩:=e;obtain rfl:o=[]:=x;obtain rfl:v=(0,0,[]):=tE a;obtain rfl:s=[]:=b;obtain rfl:l=[]:=Do c;rfl
theorem C2{t:am}(h:gO t=Z)(d:mh t.u):FV t.u/\oI 16 t.u=Z:=by
 have x:=((jr t).1 h).chk;unfold lX at x;by_cases a:gz 16 t.u Nc=Z
 .rw[zaL a];exact⟨.inl rfl,Nf⟩
 .rw[zh a]at x;rcases fU (gY t.u)with c|c
  .have:=rI c;exact⟨.inr ⟨this,d⟩,tr 16 12 _ S this⟩
  .have b:fJ t.u t.2.1=(0,1):=by unfold fJ;rw[c];rfl
   rw[b]at x;cases x
theorem XX{a b:zo}(h:M a<=2000000):NF a b=Z/\(Lh a b=Z↔a=b):=by
 have d:∃r,HV a b=Y (r,())/\(r=Z↔a=b):=by
  by_cases x:M a=M b
  .have c:((M a:Int)!=(M b:Int))=J:=by rw[<-g9,dV];exact λh=>h x
   have j:(Pi a b).val=Y (.inl (.h4 a b (M a:Int) 0)):=by
    simp only[Pi,Q9,c];rfl
   rcases iZ (t:=zd5) (la:=a) (lb:=b) (λi=>.h4 a b (M a:Int) i) (.inr (.kb Z,[])) (λi=>wE (W a (i:Int).toNat (zk Q)) (W b (i:Int).toNat (zk Q))) (λ_ _=>rfl) (λi _ m c=>by rw[gI,aa _ _ m,aa _ _ c]) x h with⟨q,k⟩|⟨q,k⟩
   .exact⟨Z,zF j (k 0 _ rfl) S rfl,by simp[q]⟩
   .exact⟨J,zF j k S rfl,by simp[q]⟩
  .refine⟨J,zG (r:=sm) ?_ rfl,by simp;exact λe=>x (by rw[e])⟩;simp only[Pi,Q9,dV.2 x,zj]
 have⟨r,g,l⟩:=d;refine⟨by unfold NF;rw[g];rfl,?_⟩;have:Lh a b=r:=by unfold Lh;rw[g];rfl
 rw[this];exact l
structure oL (m:cU):Prop where
 src:∀x∈m.2.1,wV x
 trk:TL m.q.1
 plan:DW m.1
 rng:DY m.1.r.1.u
structure nZ (db:zH) (m:cU):Prop where
 plan:TR m.1 m.2.1
 trk:DZ m.q.1
 n200:M m.q.1.1<=200
 tchk:nU m.q.1=(0:Int)
 find:LE.le (α:=Int) 0 (ab db m.1.r.1.1)
 tab:(relAt db m.1.r.1.1).1=m.1.r.1
theorem N9{db:zH}{m:cU}(hD:dO db)(hw:∀x∈db,wV x)(i:oL m):∃b,Ir db m=Y (b,())/\(b=Z->nZ db m):=by
 have⟨e,G,p2⟩:=Xq i.src i.plan;have l:xF m.1 m.2.1=Z:=by unfold xF;rw[G];rfl
 have n:KE m.1 m.2.1=e:=by unfold KE;rw[G];rfl
 have⟨tC,t2⟩:=NX i.trk;by_cases e0:e=0;rotate_left
 .refine⟨J,zG (r:=sm) ?_ rfl,nofun⟩;have d:(e !=0)=Z:=by simpa using e0
  simp only[M2,Q9,zt,aJ,l,n,d,bU,oS,zj]
 subst e0;have d:((0:Int)!=0)=J:=rfl;by_cases k0:nU m.q.1=(0:Int);rotate_left
 .refine⟨J,zG (r:=sm) ?_ rfl,nofun⟩;have k:(nU m.q.1!=0)=Z:=by simpa using k0
  simp only[M2,Q9,zt,aJ,l,n,tC,d,k,bT,oS,zj]
 have k:(nU m.q.1!=0)=J:=by simp[k0]
 have j:=Se i.src i.plan (p2 rfl) i.rng;have⟨hT,U⟩:=t2 k0;have C:=j.ok.uall;rw[j.sself]at C;have w:N0 m.1 m.2.1=Z:=by unfold N0;rw[C];rfl
 have y:Ym m.1 m.2.1=(fC m.1 m.2.1,0):=by unfold Ym;rw[C];rfl
 have s:(fC m.1 m.2.1).length<=2000000:=by
  have P:=j.ok.few;have h3:=j.ok.rel.few;rw[j.sself]at P;omega
 have⟨A,s2⟩:=XX (b:=m.q.1.1) s;have F:=Hd i.trk;cases z:Lh (fC m.1 m.2.1) m.q.1.1 with
 | false=>
  refine⟨J,zG (r:=sm) ?_ rfl,nofun⟩;simp only[M2,Q9,zt,aJ,l,n,tC,d,k,w,y,A,z,bT,oR,oS,zO,zj,zr]
 |true=>
 by_cases D:(cond ((↑(tW m.q.1).length:Int)==0) Z (L (m.r<0)))=Z
 .refine⟨J,zG (r:=sm) ?_ rfl,nofun⟩;simp only[M2,Q9,zt,aJ,l,n,tC,d,k,w,y,A,z,F,D,bT,gv,oS,zO,zj,zr]
 by_cases o:LE.le (α:=Int) 0 (ab db m.1.r.1.1)
 .have g:L (ab db m.1.r.1.1>=0)=Z:=zL o;have⟨H,r2⟩:=eY o;have E:zT (ab db m.1.r.1.1) (M db)=Z:=my o;have c:=(hw _ H).t;have⟨qC,q2⟩:=Lm (a:=(relAt db m.1.r.1.1).1) (b:=m.1.r.1) (aB c.ncols S) (aB c.nuq S) (aB c.nrf S) (C2 (hD.rels _ H).may c.chk).2;refine⟨mU (relAt db m.1.r.1.1).1 m.1.r.1,zG (r:=(.bool (mU (relAt db m.1.r.1.1).1 m.1.r.1),[])) ?_ rfl,λh=>⟨j,hT,U,k0,o,q2.1 h⟩⟩;simp only[M2,Q9,zt,aJ,l,n,tC,d,k,w,y,A,z,F,D,g,E,bT,bU,gv,oS,zO,zj,zr];rw[zf (by simpa using qC)]
 .refine⟨J,zG (r:=(.bool J,[])) ?_ rfl,nofun⟩;have g:L (ab db m.1.r.1.1>=0)=J:=aQ o;simp only[M2,Q9,zt,aJ,l,n,tC,d,k,w,y,A,z,F,D,g,bT,gv,oS,zO,zj,zr]
def eqR(a b:zo):Bool:=@decide (a=b) (Classical.propDecidable _)
theorem tf{a b:zo}:eqR a b=Z↔a=b:=by unfold eqR;exact@decide_eq_true_iff _ (Classical.propDecidable _)
theorem SJ(a b:zo)(U:M a<=1000000):Hk a b=Z/\Hj a b=eqR a b:=by
 have:yN a b=some (eqR a b,()):=by
  by_cases D:M a=M b
  .have E:(zah a b).val=Y (.inl (.h4 a b ((0:Nat):Int))):=by
    simp only[zah,Q9,D,kF,zO,zr];rfl
   have l:∀k,k<=M a->(∀i(h:i<k),a[i]?=b[i]?)->z8 S6 (k*1) (.h4 a b ((0:Nat):Int)) (.h4 a b (k:Int)):=λk z A=>
    z8.all (t:=S6) 1 (λi=>.h4 a b (i:Int)) k λi y=>z8.of (by
     have c:i<M a:=by omega
     have g:i<M b:=by omega
     have e:=A i y;rw[zQ c,zQ g]at e;have x:wE a[i] b[i]=Z:=gI.2 (Option.some.inj e);unfold wE at x;simp only[S6,Q9,z6 c,zx c,zx g,zj,aa _ _ c,aa _ _ g,x,gv,zO,zr];rw[zz i um])
   by_cases o:a=b
   .rw[tf.2 o];refine zF E ((l (M a) (zK _) (λi _=>by rw[o])).ends (aF.of (r:=(.kb Z,[])) ?_)) S rfl;simp only[S6,Q9,aw,zO,zr]
   .have s:eqR a b=J:=Bool.eq_false_iff.2 λh=>o (tf.1 h)
    rw[s];have w:∃i,a[i]?≠b[i]?:=sB λC=>o (kE λi=>sB λh=>C ⟨i,h⟩)
    obtain⟨k,z,H⟩:∃k,a[k]?≠b[k]?/\∀i,i<k->a[i]?=b[i]?:=by
     have⟨n,A⟩:=w
     induction n using Nat.strongRecOn with
     | ind n P=>
      by_cases h:∃m,m<n/\a[m]?≠b[m]?
      .have⟨m,F,q⟩:=h;exact P m F q
      .exact⟨n,A,λi y=>sB λq=>h ⟨i,y,q⟩⟩
    have d:k<M a:=by
     refine sB λh=>z ?_
     rw[eA S,eA S]
    have j:k<M b:=by omega
    have x:wE a[k] b[k]=J:=Bool.eq_false_iff.2 λh=>z (by rw[zQ d,zQ j,gI.1 h])
    unfold wE at x;refine zF E ((l k S H).ends (aF.of (r:=(.kb J,[])) ?_)) S rfl;simp only[S6,Q9,z6 d,zx d,zx j,zj,aa _ _ d,aa _ _ j,x,oR]
  .have s:eqR a b=J:=Bool.eq_false_iff.2 λh=>D (by rw[tf.1 h])
   have G:((M a:Int)!=(M b:Int))=Z:=by simp;omega
   rw[s];refine zG (r:=(.kb J,[])) ?_ rfl;simp only[zah,Q9,G,zj]
 exact⟨by unfold Hk;rw[this];rfl,by unfold Hj;rw[this];rfl⟩
section
variable {db:List (N zl)} {p:N ao}
end
def jO(p:an)(row:zo):zo:=List.map (λc=>az c row) p.t.1
def LY(p:an)(s:zw)(row:zo):zw:=if(az (W p.t.1 (T 1) (zk zi)) row).1=0 then s else xS s (az (W p.t.1 (T 1) (zk zi)) row)
def Dc(src:zH):zX:=src.getD (T 1) (zk zl)
def BS(p:an)(src:zH)(v:zw)(row:zo):zo:=
 if p.1=iK then row++jO p (W (Dc src).2 (aj (λr=>cy r (Dc src).1.q.1 v) (Dc src).2 0).toNat (zk ze.sl))else jO p row
def tR(p:an)(src:zH)(v:zw)(rows:List zo):List zo:=
 if p.1=yu then(ite (rows=[]) [] [[v,rows.foldl (LY p) (1,0,[])]])else rows.map (BS p src v)
section
variable {db:List (N zl)} {p:N ao} {l1:List (N zl)} {rows acc:List (List (N Q))} {v:N Q}
end
theorem KK(a:Int)(rows:List zo):∀h:zo,h.Nodup->(∀u∈h,u.1≠0)->
  (h.map λu=>(rows.filter (Pr a u)).length).sum+(rows.filter λrow:zo=>!h.any λu:zw=>Pr a u row).length=M rows
 |[],_,_=>by simp
 | u :: h,hn,h0=>by
  rw[List.nodup_cons]at hn;have i:=KK a rows h hn.2 λx k=>h0 x (og _ k)
  rw[dc,List.sum_cons];have l:(rows.filter (Pr a u)).length+(rows.filter λrow:zo=>!(u::h).any λu:zw=>Pr a u row).length=(rows.filter λrow:zo=>!h.any λu:zw=>Pr a u row).length:=by
   clear i
   induction rows with
   |nil=>rfl
   | cons row r i=>
    simp only[List.filter_cons,List.any_cons];cases c:Pr a u row with
    | true=>
     have d:(h.any λu:zw=>Pr a u row)=J:=by
      rw[List.any_eq_false];intro v j g;have e:=(lH.1 c).1;have b:=(lH.1 g).1;exact hn.1 (by rw[<-e,b];exact j)
     simp only[d,Bool.or_false,gv,oR,zj,zO,zr,bx]at i|-;simp only[List.any_cons]at i;omega
    | false=>
     simp only[Bool.false_or,zO,zr];simp only[List.any_cons]at i;cases(h.any λu:zw=>Pr a u row)with
     |true=>simpa using i
     | false=>
      simp only[oR,zj,bx];omega
  omega
section
variable {db:List (N zl)} {p:N ao}
theorem bj.rise(h:bj db p):(fC p (ak db p)).Pairwise Aj:=(sE λ_ a=>h.may a).1
end
def Ai(db:zH)(p:an)(v:zw):List zo:=(fj db p).2.filter (Pr (eD p (ak db p)) v)
def jk(db:zH)(p:an)(v:zw):List zo:=(tR p (ak db p) v (Ai db p v)).filter λr=>dM p.r.1 r==(0:Int)
theorem o8{c:Int}{row:zo}(h:zT c (M row)=Z):az c row∈row:=by
 have x:c.toNat<M row:=by
  unfold zT at h;simp only[ar,aT]at h;omega
 unfold az;rw[bf,zQ x];exact bN x
theorem JT{p:an}:∀(l:List zo)(s:zw),Ap s->Ap (l.foldl (LY p) s)
 |[],_,h=>h
 | a::r,s,h=>JT r _ (by
  unfold LY;split
  .exact h
  .exact TV _ _)
section
variable {db:List (N zl)} {p:N ao} {v:N Q}
theorem wH{row:zo}(h:row∈Ai db p v):row∈(fj db p).2/\az (eD p (ak db p)) row=v/\v.1≠0:=⟨(List.mem_filter.1 h).1,lH.1 (List.mem_filter.1 h).2⟩
theorem Nb:(tR p (ak db p) v (Ai db p v)).length<=(Ai db p v).length:=by
 unfold tR;split
 .split
  .simp
  next h=>have:=List.length_pos_iff.2 h;simp;omega
 .simp
theorem zbF(_:bj db p)(m:su db p)(d:p.1=iK){row:zo}(j:row∈Ai db p v):
  ∃y:zX,ak db p=[fj db p,y]/\eI y/\wV y/\(∀c∈p.t.1,zT c (M y.1.2.1)=Z)/\W (Dc (ak db p)).2 (aj (λr=>cy r (Dc (ak db p)).1.q.1 v) (Dc (ak db p)).2 0).toNat (zk ze.sl)∈y.2:=by
 have⟨_,y,g,w,A,s,z⟩:=m.join d;have⟨n,i,o⟩:=wH j;have a:eD p (ak db p)=p.u:=by unfold eD;rw[zh (by rw[d];decide),zf d]
 have l:Dc (ak db p)=y:=by rw[g];rfl
 have x:=z _ n (by rw[<-a,i];exact o);rw[<-a,i]at x;refine⟨y,g,w,A,s,?_⟩;rw[l];rcases eU (λr=>cy r y.1.q.1 v) y.2 0 with⟨e,_⟩|⟨k,b,e,C,_⟩
 .unfold mK at x;rw[e]at x;exact zp x (by decide)
 .rw[dz]at e;rw[e,aa _ _ b];exact bN b
theorem zhX(h:bj db p)(m:su db p):∀r∈tR p (ak db p) v (Ai db p v),∀x∈r,Ap x:=by
 intro r d x b;unfold tR at d;split at d
 .split at d
  .cases d
  .rename_i k;rw[eh]at d;subst d;rcases bD.1 b with rfl|b
   .have⟨row,a⟩:=List.exists_mem_of_ne_nil _ k;have⟨q,l,_⟩:=wH a;rw[<-l];exact m.fr.vals _ q _ (o8 (h.inn _ q).1)
   .rw[eh]at b;subst b;exact JT _ _ ⟨by decide,by decide,zU _⟩
 .rename_i o;obtain⟨row,a,rfl⟩:=aN.1 d;have⟨q,l,_⟩:=wH a;unfold BS at b;split at b
  .rename_i j;have⟨y,_,t,w,s,n⟩:=zbF h m j a;rcases bX.1 b with b|b
   .exact m.fr.vals _ q _ b
   .obtain⟨c,g,rfl⟩:=aN.1 b;refine w.vals _ n _ (o8 ?_);rw[(dB (t.fits _ n)).1];exact s c g
  .rename_i j;obtain⟨c,g,rfl⟩:=aN.1 b;have i:p.1=eR:=by
    rcases h.mig with e|e|e
    .exact e
    .exact zp e j
    .exact zp e o
   refine m.fr.vals _ q _ (o8 ?_);rw[(h.inn _ q).2];exact(m.copy i).1 c g
theorem VR:(jk db p v).length<=(Ai db p v).length:=aB (List.length_filter_le _ _) Nb
theorem J1(h:bj db p)(m:su db p):∀r∈jk db p v,dM p.r.1 r=(0:Int)/\zmt p.r.1.q.1 r/\gO p.r.1=Z:=by
 intro r i;have⟨e,x⟩:=List.mem_filter.1 i;have x:dM p.r.1 r=(0:Int):=by simpa using x
 have⟨c,d,_⟩:=dB x;have b:gO p.r.1=Z:=by
  cases g:gO p.r.1 with
  |true=>rfl
  | false=>
   unfold dM at x;rw[g,zf S0]at x;cases x
 have a:zT p.r.1.q.1 (M r)=Z:=by rw[c];exact tB (gS b).1
 exact⟨x,⟨a,zhX h m r e _ (o8 a),d _ (o8 a)⟩,b⟩
end
set_option maxRecDepth 100000
section
variable {db:List (N zl)} {p:N ao} {us:List (N Q)}
end
section
variable {db:List (N zl)} {p:N ao} {v:N Q}
end
section
variable {db:List (N zl)} {p:N ao} {v:N Q}
end
def Dp(db:zH)(p:an)(v:zw):Nat:=(tR p (ak db p) v (Ai db p v)).length-(jk db p v).length
def dt(l:zo):zo:=l.foldl (λacc a=>if acc.any (λu=>wE u a)=Z then acc else acc++[a]) []
def jh(db:zH)(p:an)(us:zo):Nat:=(us.map (Dp db p)).sum
theorem B9(l:zo)(a:zw):dt (l++[a])=if(dt l).any (λu=>wE u a)=Z then dt l else dt l++[a]:=by unfold dt;rw[List.foldl_append];rfl
theorem KC(l:zo)(a:zw):a∈dt l↔a∈l:=by
 have k:∀(n:Nat)(l:zo),M l=n->(a∈dt l↔a∈l):=by
  intro n
  induction n with
  |zero=>intro l x;rw[List.length_eq_zero_iff.1 x];exact Iff.rfl
  | succ n i=>
   intro l x;obtain⟨c,b,rfl⟩:∃c b,l=c++[b]:=⟨l.dropLast,l.getLast (List.ne_nil_of_length_pos S),(List.dropLast_concat_getLast _).symm⟩;have i:=i c (by simpa using x);rw[B9];split
   .rename_i h;have⟨u,d,e⟩:=List.any_eq_true.1 h;rw[gI.1 e]at d;rw[i,bX,eh];refine⟨.inl,λh=>?_⟩;rcases h with h|rfl
    .exact h
    .refine i.1 ?_;exact d
   .rw[bX,bX,i]
 exact k _ l rfl
theorem Xn(l:zo)(a:zw):(dt l).any (λu=>wE u a)=l.any (λu=>wE u a):=by rw[Ar,List.any_eq_true,List.any_eq_true];exact⟨λ⟨u,h,x⟩=>⟨u,(KC l u).1 h,x⟩,λ⟨u,h,x⟩=>⟨u,(KC l u).2 h,x⟩⟩
theorem nL(l:zo):(dt l).Nodup:=by
 have k:∀(n:Nat)(l:zo),M l=n->(dt l).Nodup:=by
  intro n
  induction n with
  |zero=>intro l a;rw[List.length_eq_zero_iff.1 a];exact List.nodup_nil
  | succ n i=>
   intro l a;obtain⟨c,b,rfl⟩:∃c b,l=c++[b]:=⟨l.dropLast,l.getLast (List.ne_nil_of_length_pos S),(List.dropLast_concat_getLast _).symm⟩;have i:=i c (by simpa using a);rw[B9];split
   .exact i
   next h=>rw[List.nodup_append];refine⟨i,sw,λx g y d e=>h ?_⟩;rw[eh]at d;subst d;exact List.any_eq_true.2 ⟨x,g,gI.2 e⟩
 exact k _ l rfl
section
variable {db:List (N zl)} {p:N ao} {v:N Q} {us:List (N Q)}
theorem Kx(h:v.1=0):Ai db p v=[]:=List.filter_eq_nil_iff.2 λ_ _ x=>(lH.1 x).2 h
theorem zh1(h:v.1=0):tR p (ak db p) v (Ai db p v)=[]:=by rw[Kx h];unfold tR;split<;>rfl
theorem Z7:(jk db p v).length<=(tR p (ak db p) v (Ai db p v)).length:=List.length_filter_le _ _
theorem WD(us:zo)(c:us.Nodup):(us.map λu=>(tR p (ak db p) u (Ai db p u)).length).sum<=(fj db p).2.length:=by
 have x:∀l:zo,(l.map λu=>(tR p (ak db p) u (Ai db p u)).length).sum=((l.filter λu=>u.1!=0).map λu=>(tR p (ak db p) u (Ai db p u)).length).sum:=by
  intro l
  induction l with
  |nil=>rfl
  | cons a r i=>
   rw[dc,List.sum_cons,List.filter_cons,i];by_cases h:a.1=0
   .rw[zh (by simpa using h),zh1 h];simp
   .rw[zf (by simpa using h),dc,List.sum_cons]
 have b:∀l:zo,(l.map λu=>(tR p (ak db p) u (Ai db p u)).length).sum<=(l.map λu=>(Ai db p u).length).sum:=by
  intro l
  induction l with
  |nil=>exact zK _
  | cons a r i=>
   rw[dc,List.sum_cons,dc,List.sum_cons];have:=Nb (db:=db) (p:=p) (v:=a);omega
 have e:=KK (eD p (ak db p)) (fj db p).2 (us.filter λu=>u.1!=0) (c.filter _) λu d=>by simpa using(List.mem_filter.1 d).2
 rw[x];have:=b (us.filter λu=>u.1!=0);unfold Ai at this|-;omega
theorem MX(us:zo):(us.flatMap (jk db p)).length+jh db p us=(us.map λu=>(tR p (ak db p) u (Ai db p u)).length).sum:=by
 induction us with
 |nil=>rfl
 | cons a r i=>
  unfold jh at i|-;rw[List.flatMap_cons,cL,dc,List.sum_cons,dc,List.sum_cons,<-i];have:=Z7 (db:=db) (p:=p) (v:=a);unfold Dp;omega
end
section
variable {db:List (N zl)} {p:N ao} {us:List (N Q)}
theorem qf(h:bj db p)(us:zo)(x:us.Nodup):(us.flatMap (jk db p)).length<=200/\jh db p us<=200:=by have a:=MX (db:=db) (p:=p) us;have b:=WD (db:=db) (p:=p) us x;have:=h.rel.few;omega
end
section
variable {p:N ao} {src:List (N zl)} {u:N Q} {row:List (N Q)} {rows:List (List (N Q))}
theorem PS(d:∀c∈p.t.1,zT c (M row)=Z)(g:M p.t.1<=1000):Gb (p,src) row=Y (jO p row,()):=by
 have e:(zdA (p,src) row).val=Y (.inl (.h3 row p.t.1 (M p.t.1:Int) ((0:Nat):Int) [])):=rfl;have x:=z8.all (t:=Qn) 1 (λi=>.h3 row p.t.1 (M p.t.1:Int) (i:Int) ((p.t.1.take i).map λc=>az c row)) (M p.t.1) λi h=>z8.of (by
  have a:=d _ (bN h);have b:L (((p.t.1.take i).map λc=>az c row).length+[az p.t.1[i] row].length<=1073741824)=Z:=by simp;omega
  simp only[Qn,Q9,z6 h,zx h,aa _ _ h,a,zj];rw[zf b,zz i um,ch h,fx];rfl)
 simp only[jg,List.take_zero,oU]at x;refine zF e (x.ends (aF.of (r:=(AV.vec 0,[AO.vec Q (jO p row)])) ?_)) S rfl;simp only[Qn,Q9,aw,zO,zr];rfl
theorem ZL(g:∀row∈rows,∀c∈p.t.1,zT c (M row)=Z)(j:M p.t.1<=1000)(l:M rows<=1000):F8 (p,src) u rows=Y (rows.map (jO p),()):=by
 have k:(znQ (p,src) u rows).val=Y (.inl (.h3 rows (M rows:Int) ((0:Nat):Int) ((p,src),()) [])):=rfl;have x:=z8.all (t:=zbm) 1 (λi=>.h3 rows (M rows:Int) (i:Int) ((p,src),()) ((rows.take i).map (jO p))) (M rows) λi h=>z8.of (by
  have a:=PS (src:=src) (g _ (bN h)) j;have b:uN (p,src) rows[i]=Z:=by unfold uN;rw[a];rfl
  have e:D7 (p,src) rows[i]=jO p rows[i]:=by unfold D7;rw[a];rfl
  have d:L (((rows.take i).map (jO p)).length+[jO p rows[i]].length<=1073741824)=Z:=by simp;omega
  simp only[zbm,Q9,zt,aJ,z6 h,zx h,aa _ _ h,b,e,zj];rw[zf d,zz i um,ch h,fx];rfl)
 simp only[jg,List.take_zero,oU]at x;refine zF k (x.ends (aF.of (r:=(AV.vec 0,[AO.vec ze.sl (rows.map (jO p))])) ?_)) S rfl;simp only[zbm,Q9,aw,zO,zr]
theorem ZK{a b:zo}(k:M a<=1000)(l:M b<=1000):OJ [a,b]=Y (a++b,()):=by
 have e:(zdB [a,b]).val=Y (.inl (.h3 [a,b] 0 [a,b] 2 0)):=rfl;have w:Γ Δ (0+(M a:Int))=(M a:Int):=by rw[lz];omega
 have j:Γ Δ ((M a:Int)+(M b:Int))=((M a+M b:Nat):Int):=by rw[lz];omega
 have n:L (LT.lt (α:=Int) (M a:Int) 0)=J:=aQ S;have i:L (LT.lt (α:=Int) ((M a+M b:Nat):Int) 0)=J:=aQ S;have g:z8 FF 1 (.h3 [a,b] 0 [a,b] 2 0) (.h3 [a,b] (M a:Int) [a,b] 2 1):=z8.of (by
  show(br Z (chk Z (br (L (LT.lt (α:=Int) (Γ Δ (0+(M a:Int))) 0)) Tr.err (Tr.to (mf.h3 [a,b] (Γ Δ (0+(M a:Int))) [a,b] 2 1)))) _).val=_;rw[w,n];rfl)
 have h:z8 FF 1 (.h3 [a,b] (M a:Int) [a,b] 2 1) (.h3 [a,b] ((M a+M b:Nat):Int) [a,b] 2 2):=z8.of (by
  show(br Z (chk Z (br (L (LT.lt (α:=Int) (Γ Δ ((M a:Int)+(M b:Int))) 0)) Tr.err (Tr.to (mf.h3 [a,b] (Γ Δ ((M a:Int)+(M b:Int))) [a,b] 2 2)))) _).val=_;rw[j,i];rfl)
 have x:z8 FF 1 (.h3 [a,b] ((M a+M b:Nat):Int) [a,b] 2 2) (.h11 [a,b] 2 0 []):=z8.of (by
  show(br J _ (chk (L (LE.le (α:=Int) 0 ((M a+M b:Nat):Int))) (chk (L (LE.le (α:=Int) ((M a+M b:Nat):Int) 1000000)) (Tr.to (mf.h11 [a,b] 2 0 []))))).val=_;rw[zL (show LE.le (α:=Int) 0 ((M a+M b:Nat):Int) by omega),zL (show LE.le (α:=Int) ((M a+M b:Nat):Int) 1000000 by omega)];rfl)
 have c:z8 FF 1 (.h11 [a,b] 2 0 []) (.h11 [a,b] 2 1 a):=z8.of (by
  show(br Z (chk Z (chk (L (([]:zo).length+M a<=1073741824)) (Tr.to (mf.h11 [a,b] 2 1 ([]++a))))) _).val=_;rw[zL (show([]:zo).length+M a<=1073741824 by simp;omega)];rfl)
 have d:z8 FF 1 (.h11 [a,b] 2 1 a) (.h11 [a,b] 2 2 (a++b)):=z8.of (by
  show(br Z (chk Z (chk (L (M a+M b<=1073741824)) (Tr.to (mf.h11 [a,b] 2 2 (a++b))))) _).val=_;rw[zL (show M a+M b<=1073741824 by omega)];rfl)
 exact zF e (((((g.trans h).trans x).trans c).trans d).ends (aF.of (r:=(AV.vec 0,[AO.vec Q (a++b)])) rfl)) S rfl
end
section
variable {p:N ao} {src:List (N zl)} {u:N Q} {rows:List (List (N Q))}
theorem VS{c b:Int}(h:p.t.1=[c,b])(k:∀row∈rows,zT b (M row)=Z)(m:M rows<=1000):yq (p,src) u rows=Y (ite (rows=[]) [] [[u,rows.foldl (LY p) (1,0,[])]],()):=by
 by_cases x:rows=[]
 .subst x;exact zG (r:=(nils,[])) rfl rfl
 rw[zh x];have d:((M rows:Int)==0)=J:=by
  have:=List.length_pos_iff.2 x;rw[fH];omega
 have j:(zhu (p,src) u rows).val=Y (.inl (.h5 rows (M rows:Int) ((0:Nat):Int) ((p,src),()) (u,()) ((1,0,[]),()))):=by
  simp only[zhu,Q9,d,zO,zr];rfl
 have g:zT 1 (M p.t.1)=Z:=by rw[h];rfl
 have e:W p.t.1 (T 1) (zk zi)=b:=by rw[h];rfl
 have a:=z8.all (t:=zbo) 1 (λi=>.h5 rows (M rows:Int) (i:Int) ((p,src),()) (u,()) ((rows.take i).foldl (LY p) (1,0,[]),())) (M rows) λi l=>z8.of (by
  grind[zbo,Q9,zx,aa,ch,zz,af,LY])
 simp only[jg,List.take_zero,List.foldl_nil]at a;refine zF j (a.ends (aF.of (r:=(O ze.sl [[u,rows.foldl (LY p) (1,0,[])]],[])) ?_)) S rfl;grind[zbo,Q9]
end
section
variable {db:List (N zl)} {p:N ao}
theorem zbb(h:bj db p){row:zo}(x:row∈(fj db p).2):M row<=1000:=aB (h.len x) S
theorem zaC(h:bj db p)(m:su db p)(C:p.1=iK)(u:zw){rows:List zo}(hR:∀row∈rows,row∈Ai db p u)(z:M rows<=200):Ga (p,ak db p) u rows=Y (rows.map (BS p (ak db p) u),()):=by
 have⟨_,y,o,yo,yw,yc,yr⟩:=m.join C;have a:∀row∈rows,M row<=1000/\mK y y.1.q.1 u=Z:=λrow hr=>by
  grind[wH,eD,zbb]
 have d:∀row,BS p (ak db p) u row=row++jO p (W y.2 (aj (λr=>cy r y.1.q.1 u) y.2 0).toNat (zk ze.sl)):=λrow=>by
  unfold BS;rw[zf C,o];rfl
 have⟨G,H⟩:=KX u yo.may;have e0:zT 1 (M (ak db p))=Z:=by rw[o];rfl
 have w:W (ak db p) (T 1) (zk zl)=y:=by rw[o];rfl
 generalize ak db p=src at d e0 w|-;rcases eU (λr=>cy r y.1.q.1 u) y.2 0 with⟨l,_⟩|⟨k,n,l,_,_⟩
 .have U:rows=[]:=List.eq_nil_iff_forall_not_mem.2 λrow hr=>by
   grind[mK]
  subst U;refine zG (r:=(nils,[])) ?_ rfl;grind[zaB,Q9,zt]
 .rw[dz]at l;have g:L (LT.lt (α:=Int) (k:Int) 0)=J:=aQ S;have x:∀c∈p.t.1,zT c (M y.2[k])=Z:=λc hc=>by
   grind[dB,eI.fits]
  have D:=PS (src:=src) x m.few;have F:uN (p,src) y.2[k]=Z:=by unfold uN;rw[D];rfl
  have s:D7 (p,src) y.2[k]=jO p y.2[k]:=by unfold D7;rw[D];rfl
  have j:(jO p y.2[k]).length<=1000:=by unfold jO;rw[bR];exact m.few
  have e:rows.map (BS p src u)=rows.map (λrow=>row++jO p y.2[k]):=List.map_congr_left λrow _=>by rw[d,l,aa _ _ n]
  rw[e];generalize jO p y.2[k]=b at s j|-;have hs:(zaB (p,src) u rows).val=Y (.inl (.h7 b rows (M rows:Int) ((0:Nat):Int) [])):=by
   simp only[zaB,Q9,zt,aJ,e0,w,G,H,l,g,zx n,aa _ _ n,F,s,zO,zj,zr];rfl
  have A:=z8.all (t:=zbn) 1 (λi=>.h7 b rows (M rows:Int) (i:Int) ((rows.take i).map λrow=>row++b)) (M rows) λi P=>z8.of (by
   have E:=ZK (a _ (bN P)).1 j;have d1:Uv [rows[i],b]=Z:=by unfold Uv;rw[E];rfl
   have d2:zgL [rows[i],b]=rows[i]++b:=by unfold zgL;rw[E];rfl
   have d3:L (((rows.take i).map λrow=>row++b).length+[rows[i]++b].length<=1073741824)=Z:=by simp;omega
   grind[zbn,Q9,zx,aa,zz,af,ch])
  simp only[jg,List.take_zero,oU]at A;refine zF hs (A.ends (aF.of (r:=(AV.vec 0,[AO.vec ze.sl (rows.map λrow=>row++b)])) ?_)) S rfl;grind[zbn,Q9]
theorem O7(h:bj db p)(m:su db p)(u:zw){R:List zo}(o:∀row∈R,row∈Ai db p u)(d:M R<=200):
  Az (p,ak db p) u R=Y ((tR p (ak db p) u R).filter (λr=>dM p.r.1 r==(0:Int)),(((tR p (ak db p) u R).length-((tR p (ak db p) u R).filter λr=>dM p.r.1 r==(0:Int)).length:Nat):Int),()):=by
 have k:(tR p (ak db p) u R).length<=200:=by
  unfold tR;split
  .split<;>simp
  .rw[bR];exact d
 have y:(V4 (p,ak db p) u R).val=Y (.inl (.h5 0 (tR p (ak db p) u R) ((tR p (ak db p) u R).length:Int) ((0:Nat):Int) ((p,ak db p),()) [])):=by
  rcases h.mig with e|e|e
  .have x:=ZL (src:=ak db p) (u:=u) (rows:=R) (λrow s c x=>by
    have⟨w,_⟩:=wH (o row s);rw[(h.inn _ w).2];exact(m.copy e).1 c x) m.few S
   have l:L0 (p,ak db p) u R=Z:=by unfold L0;rw[x];rfl
   have n:T8 (p,ak db p) u R=tR p (ak db p) u R:=by
    unfold T8 tR;rw[x,zh (by rw[e];decide)];refine List.map_congr_left λrow _=>?_
    unfold BS;rw[zh (by rw[e];decide)]
   grind[V4,Q9,zt]
  .have x:=zaC h m e u o d;have l:L2 (p,ak db p) u R=Z:=by unfold L2;rw[x];rfl
   have n:Ua (p,ak db p) u R=tR p (ak db p) u R:=by
    unfold Ua tR;rw[x,zh (by rw[e];decide)];rfl
   grind[V4,Q9,zt]
  .have⟨_,a,b,g,F,D⟩:=m.group e;have x:=VS (src:=ak db p) (u:=u) (rows:=R) g (λrow s=>by
    have⟨w,_⟩:=wH (o row s);rw[(h.inn _ w).2];exact D) S
   have l:F9 (p,ak db p) u R=Z:=by unfold F9;rw[x];rfl
   have n:L1 (p,ak db p) u R=tR p (ak db p) u R:=by
    unfold L1 tR;rw[x,zf e];rfl
   have z:(p.1==eR)=J:=by rw[e];rfl
   have A:(p.1==iK)=J:=by rw[e];rfl
   have C:(p.1==yu)=Z:=by rw[e];rfl
   simp only[V4,Q9,zt,aJ,z,A,C,l,n,zO,zj,zr];rfl
 generalize tR p (ak db p) u R=rows at k y|-;have j:=z8.all (t:=zbj) 1 (λi=>.h5 ((i-((rows.take i).filter λr=>dM p.r.1 r==(0:Int)).length:Nat):Int) rows (M rows:Int) (i:Int) ((p,ak db p),()) ((rows.take i).filter λr=>dM p.r.1 r==(0:Int))) (M rows) λi E=>z8.of (by
  have q:((rows.take i).filter λr=>dM p.r.1 r==(0:Int)).length<=i:=aB (List.length_filter_le _ _) sg;rw[ch E,List.filter_append];generalize((rows.take i).filter λr=>dM p.r.1 r==(0:Int))=acc at q|-;grind[zbj,Q9,zt,zx,zz,af])
 simp only[jg,List.take_zero,List.filter_nil]at j;refine zF y (j.ends (aF.of (r:=(tup [AV.vec 0,I ((M rows-(rows.filter λr=>dM p.r.1 r==(0:Int)).length:Nat):Int)],[AO.vec ze.sl (rows.filter λr=>dM p.r.1 r==(0:Int))])) ?_)) S rfl;grind[zbj,Q9]
theorem zgT(h:bj db p)(m:su db p)(u:zw):Az (p,ak db p) u (Ai db p u)=Y (jk db p u,((Dp db p u:Nat):Int),()):=O7 h m u (λ_ h=>h) (aB (List.length_filter_le _ _) h.rel.few)
theorem Z1(h:bj db p)(m:su db p)(u:zw):Az (p,ak db p) u []=Y ([],0,()):=by grind[tR,O7]
end
theorem OK{e:Sh}(k:K3):∀(l:List K3)(h:List (K3×List (N e))),(h.map (·.1)).Nodup->jW (l.foldl lr h) k=if k∈l then[]else jW h k
 |[],h,_=>by rw[zh sw];rfl
 | a::r,h,hn=>by
  rw[List.foldl_cons,OK k r _ (Ea hn a),Pe hn];by_cases x:k∈r
  .rw[zf x,zf (og _ x)]
  .rw[zh x];by_cases b:k=a
   .rw[zf b,zf (by rw[b];exact sy)]
   .rw[zh b,zh (by rw[bD];exact λq=>q.elim b x)]
section
variable {db:List (N zl)} {p:N ao} {us:List (N Q)}
theorem Zz(h:bj db p)(m:su db p):OC (p,ak db p)=Y (eD p (ak db p),()):=by
 have l:zT 0 (ak db p).length=Z:=zx (i:=0) (qI h.go.two).1;unfold eD;rcases h.mig with e|e|e
 .have x:(p.1==eR)=Z:=by rw[e];rfl
  rw[zf e];refine zG (r:=(I (W (ak db p) 0 (zk zl)).1.q.1,[])) ?_ rfl;simp only[zar,Q9,x,l,zj];rfl
 .have x:(p.1==eR)=J:=by rw[e];rfl
  have c:(p.1==iK)=Z:=by rw[e];rfl
  rw[zh (by rw[e];decide),zf e];refine zG (r:=(I p.u,[])) ?_ rfl;simp only[zar,Q9,x,c,zO,zj,zr]
 .have x:(p.1==eR)=J:=by rw[e];rfl
  have c:(p.1==iK)=J:=by rw[e];rfl
  have⟨_,a,b,g,_⟩:=m.group e;rw[zh (by rw[e];decide),zh (by rw[e];decide)];have d:zT 0 (M p.t.1)=Z:=by rw[g];rfl
  refine zG (r:=(I (W p.t.1 0 (zk zi)),[])) ?_ rfl;simp only[zar,Q9,x,c,d,zO,zj,zr];rfl
def pq(db:zH)(p:an)(l:zo):List (K3×List zo):=l.foldl (lr (α:=List (N ze.sl))) (lr (α:=List (N ze.sl)) (de (eD p (ak db p)) (fj db p).2) (0,0,[]))
theorem Wx(h:bj db p)(l:zo)(u:zw):jW (e:=ze.sl) (pq db p l) u=if u∈l then[]else Ai db p u:=by
 unfold pq;rw[OK (e:=ze.sl) u l _ (Ea (e:=ze.sl) tv _),Pe (e:=ze.sl) tv];split
 .rfl
 .rw[MZ];by_cases x:u=(0,0,[])
  .rw[zf x,Kx (by rw[x])]
  .rw[zh x];unfold Ai;refine List.filter_congr λrow a=>?_
   rw[Ar,lH,be];constructor
   .intro e;refine⟨e.symm,λc=>x ?_⟩;have:=(dB (h.rel.fits row a)).2.1 _ (h.at_mem a);have b:W row (T (eD p (ak db p))) (zk Q)=u:=e.symm;rw[b]at this;exact Kt this c
   .exact λq=>q.1.symm
theorem NG(h:bj db p)(m:su db p):(DC p (ak db p) us).val=Y (.inl (.h7 us (eD p (ak db p)) (fj db p).2 ((fj db p).2.length:Int) ((fj db p).2.length:Int) (p,()) ([],0,[],0,0,[],[],()) ((p,ak db p),()) (de (eD p (ak db p)) (fj db p).2))):=by
 have⟨c,b⟩:=G7 h.go;have l:zT 0 (ak db p).length=Z:=zx (i:=0) (qI h.go.two).1;have a:=Zz h m;have d:T7 (p,ak db p)=Z:=by unfold T7;rw[a];rfl
 have e:zgt (p,ak db p)=eD p (ak db p):=by unfold zgt;rw[a];rfl
 have j:(Si p (ak db p) us).val=Y (.inl (.h7 us (eD p (ak db p)) (fj db p).2 ((fj db p).2.length:Int) 0 (p,()) ([],0,[],0,0,[],[],()) ((p,ak db p),()) [])):=by
  simp only[Si,zt,aJ,Q9,c,b,d,e,l,kF,zO,zj,zr];rfl
 have x:((0:Int)==0&&(((fj db p).2.length:Int)==((fj db p).2.length:Int)&&(L ((fj db p).2.length<=1000)&&(fj db p).2.all λrow:zo=>zT (eD p (ak db p)) (M row))))=Z:=by
  have:=h.rel.few;simp only[BEq.rfl,oT,ar,aT,dg];exact⟨S,λrow g=>(h.inn row g).1⟩
 unfold DC;rw[Tr.val_bind,j];show(chk _ _).val=_;rw[Q9,zf x];rfl
theorem X2(h:bj db p)(m:su db p)(hl:M us<=1000){l:List zo}(s:Cw (p.r.1,(dt us).flatMap (jk db p))=Y ((p.r.1,l),())):
  kI p (ak db p) us=Y ((p.r.1,l),((jh db p (dt us):Nat):Int),0,()):=by
 have U:=NG (us:=us) h m;have E:z8 H1 1 (.h7 us (eD p (ak db p)) (fj db p).2 ((fj db p).2.length:Int) ((fj db p).2.length:Int) (p,()) ([],0,[],0,0,[],[],()) ((p,ak db p),()) (de (eD p (ak db p)) (fj db p).2)) (.h15 ((jh db p (dt (us.take 0)):Nat):Int) us (M us:Int) ((0:Nat):Int) ([],0,[],0,0,[],[],()) ((p,ak db p),()) (p.r.1,(dt (us.take 0)).flatMap (jk db p),()) (pq db p (us.take 0))):=z8.of (by
  simp only[H1,Q9,aw,zO,zr];rfl)
 have g:=z8.all (t:=H1) 1 (λi=>.h15 ((jh db p (dt (us.take i)):Nat):Int) us (M us:Int) (i:Int) ([],0,[],0,0,[],[],()) ((p,ak db p),()) (p.r.1,(dt (us.take i)).flatMap (jk db p),()) (pq db p (us.take i))) (M us) λi o=>z8.of (by
  have⟨g1,g2⟩:=qf h (dt (us.take i)) (nL _);have c:lr (α:=List (N ze.sl)) (pq db p (us.take i)) us[i]=pq db p (us.take (i+1)):=by
   unfold pq;rw[ch o,List.foldl_append];rfl
  have j:=Wx h (us.take i) us[i];have b:Az (p,ak db p) us[i] (jW (e:=ze.sl) (pq db p (us.take i)) us[i])=Y (ite (us[i]∈us.take i) [] (jk db p us[i]),((ite (us[i]∈us.take i) 0 (Dp db p us[i]):Nat):Int),()):=by
   rw[j];split
   .exact Z1 h m _
   .exact zgT h m _
  have A:T9 (p,ak db p) us[i] (jW (e:=ze.sl) (pq db p (us.take i)) us[i])=Z:=by unfold T9;rw[b];rfl
  have C:zgu (p,ak db p) us[i] (jW (e:=ze.sl) (pq db p (us.take i)) us[i])=(ite (us[i]∈us.take i) [] (jk db p us[i]),((ite (us[i]∈us.take i) 0 (Dp db p us[i]):Nat):Int)):=by unfold zgu;rw[b];rfl
  have e:=B9 (us.take i) us[i];rw[Xn]at e;have a:((us.take i).any λu=>wE u us[i])=Z↔us[i]∈us.take i:=by
   rw[List.any_eq_true];exact⟨λ⟨u,F,G⟩=>gI.1 G▸F,λq=>⟨_,q,gI.2 rfl⟩⟩
  have w:(jk db p us[i]).length<=200:=aB VR (aB (List.length_filter_le _ _) h.rel.few);have P:Dp db p us[i]<=200:=by
   have:=Nb (db:=db) (p:=p) (v:=us[i]);have:(Ai db p us[i]).length<=(fj db p).2.length:=List.length_filter_le _ _;have:=h.rel.few;unfold Dp;omega
  have z:∀k:List zo,M k<=200->L (((dt (us.take i)).flatMap (jk db p)).length+M k<=1073741824)=Z:=λk hk=>zL S
  simp only[H1,Q9,zt,aJ,z6 o,zx o,aa _ _ o,A,C,zj];rw[zz i um,c,ch o,e];by_cases x:us[i]∈us.take i
  .rw[zf (a.2 x),zf x,zf x,D3,zf (z [] (zU _))];have y:Γ Δ (((jh db p (dt (us.take i)):Nat):Int)+((0:Nat):Int))=((jh db p (dt (us.take i)):Nat):Int):=by rw[lz];omega
   rw[y]
  .rw[zh (λq=>x (a.1 q)),zh x,zh x,List.flatMap_append,List.flatMap_singleton,zf (z _ w)];have H:jh db p (dt (us.take i)++[us[i]])=jh db p (dt (us.take i))+Dp db p us[i]:=by
    unfold jh;rw[fx,List.sum_append];simp
   have y:Γ Δ (((jh db p (dt (us.take i)):Nat):Int)+((Dp db p us[i]:Nat):Int))=((jh db p (dt (us.take i))+Dp db p us[i]:Nat):Int):=by rw[lz];omega
   rw[y,H])
 simp only[jg]at g;generalize(dt us).flatMap (jk db p)=rows at g s;generalize jh db p (dt us)=n at g|-;generalize pq db p us=D at g;have s1:wo (p.r.1,rows)=Z:=by unfold wo;rw[s];rfl
 have s2:Fx (p.r.1,rows)=(p.r.1,l):=by unfold Fx;rw[s];rfl
 have d:∃r,aF H1 1 (.h15 (n:Int) us (M us:Int) (M us:Int) ([],0,[],0,0,[],[],()) ((p,ak db p),()) (p.r.1,rows,()) D) r/\bc r.2 [zl,zi,zi] r.1=Y ((p.r.1,l),(n:Int),0,()):=by
  refine⟨_,aF.of (by
   simp only[H1,Q9,zt,aJ,aw,s1,s2,zO,zj,zr];rfl),?_⟩
  show Y (((p.r.1.1,p.r.1.2.1,p.r.1.q.1,p.r.1.r.1,p.r.1.t.1,zP p.r.1.u),l),(n:Int),0,())=_;rw[zt]
 have⟨r,r1,r2⟩:=d;exact zF U ((E.trans g).ends r1) S r2
end
end
end Cad
