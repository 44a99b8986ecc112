/- Build. -/
import Derived.Test.YtgcekmmgphhofaaGreatDoorR31
import Derived.Lib.AppendZerosOnto
namespace Cad
open Go Go.Proofs Tryz
open List renaming length->Io,length->M
open IntKind renaming wrap->Γ,i64->Δ
open Tr renaming chk->Qd,«to»->Qa,val->Q9
open Sh renaming expr->Q6
open Bool renaming true->Z
open Option renaming none->Q2,some->Y
open Decidable renaming decide->L
open List renaming getD->W
open Tr (chk br re)
open AV (nils agg tup ptr kb)
open AV renaming sl->O,str->X
open Cad renaming ze->Q,Sem->N,ai->I,Tr->K,ow->S,AV->R
noncomputable section
set_option maxHeartbeats 4000000
abbrev zo1:Nat->aR:=λj=>if j=3 then{slots:=[3,7,10,11,12],prom:=[(7,Q2,(.sl Q))]}else{ }
inductive QW where
 |h3 (l10:List (N ze.sl)) (i11:Int) (i12:Int) (z0:zn sP) (lh_1:List (N ze.sl))
abbrev zsf:QW->Nat×St
 |.h3 x i h z l=>(3,⟨tm 24 [(3,ptr 0 0),(7,AV.vec 1),(10,O ze.sl x),(11,I i),(12,I h)],[AO.box (fD [] sP z),AO.vec ze.sl l]⟩)
def znQ(h:dK)(_:zw)(x:N ze.sl.sl):K (QW⊕ac):=
 Qa (QW.h3 x (M x:Int) 0 (h,()) [])
def zbm:QW->K (QW⊕ac)
 | .h3 h x i z l=>
  let a:=((z.1.1.1,z.1.1.2.1,z.1.1.q.1,(z.1.1.r.1.1,z.1.1.r.1.2.1,z.1.1.r.1.q.1,z.1.1.r.1.r.1,z.1.1.r.1.t.1,zP z.1.1.r.1.u),z.1.1.t),z.1.2)
  let b:=h.getD i.toNat (zk ze.sl)
  let c:=[D7 a b]
  br (L (i<x))
  (Qd (zT i (M h)) (Qd (uN a b) (Qd (L (M l+M c<=1073741824)) (Qa (QW.h3 h x (Γ Δ (i+1)) z (l++c))))))
  (re (AV.vec 0) [AO.vec ze.sl l])
def F8(x:dK)(h:zw)(a:N ze.sl.sl):=aA [ze.sl.sl] zbm 100000000 (znQ x h a)
def L0(x:dK)(h:zw)(a:N ze.sl.sl):=(F8 x h a).isSome
def T8(x:dK)(h:zw)(a:N ze.sl.sl):=o1 (F8 x h a)
def zkY:=FT [Le,Q,ze.sl.sl] [ze.sl.sl] λx=>F8 x.1 x.2.1 x.q.1
theorem zf3:FK 231 zkY:=vG.T1 (f:=f231) (keep:=zo1) (e:=zsf)
abbrev zo3:=fZ [(5,[3,4,7,15,16,17])]
inductive LQ where
 |h5 (l15:List (N ze.sl)) (i16:Int) (i17:Int) (z0:zn sP) (z1:zn [CP.d Q]) (z2:zn [CP.d Q])
abbrev zsh:LQ->Nat×St
 |.h5 l i h z x a=>(5,⟨tm 40 [(3,ptr 0 0),(4,ptr 1 0),(7,ptr 2 0),(15,O ze.sl l),(16,I i),(17,I h)],[AO.box (fD [] sP z),AO.box (fD [] [CP.d Q] x),AO.box (fD [] [CP.d Q] a)]⟩)
def zhu(h:dK)(a:zw)(x:N ze.sl.sl):K (LQ⊕ac):=
 br ((M x:Int)==0) (re nils []) (Qa (LQ.h5 x (M x:Int) 0 (h,()) (a,()) ((1,0,[]),())))
def zbo:LQ->K (LQ⊕ac)
 | .h5 l h i z x a=>
  let b:=W z.1.1.t.1 (Int.toNat 1) (zk zi)
  let c:=l.getD i.toNat (zk ze.sl)
  let d:=W c (Int.toNat b) (zk Q)
  let e:=Γ Δ (i+1)
  br (L (i<h))
  (Qd (zT i (M l)) (Qd (zT 1 (M z.1.1.t.1)) (Qd (zT b (M c)) (br (d.1!=0) (Qa (LQ.h5 l h e z x (xS a.1 d,()))) (Qa (LQ.h5 l h e z x a))))))
  (re (O ze.sl [[x.1,a.1]]) [])
def yq(x:dK)(h:zw)(a:N ze.sl.sl):=aA [ze.sl.sl] zbo 100000000 (zhu x h a)
def F9(x:dK)(h:zw)(a:N ze.sl.sl):=(yq x h a).isSome
def L1(x:dK)(h:zw)(a:N ze.sl.sl):=o1 (yq x h a)
def zk2:=FT [Le,Q,ze.sl.sl] [ze.sl.sl] λx=>yq x.1 x.2.1 x.q.1
theorem zf7:FK 233 zk2:=vG.T1 (f:=f233) (keep:=zo3) (e:=zsh)
def zc5:=zc4.addL [(231,zkY),(233,zk2)]
theorem RT:zm zc5:=vG.addL<|fc zf3<|fc zf7<|ip
open Go Go.Proofs Go.RowKit Go.Lib
set_option maxRecDepth 100000
theorem zhx:(prog.info? 42).map (λi=>(i.zero,i.size,i.bytes))=Y (Y (.agg #[.int .i64 0,.int .i64 0,.string ⟨#[]⟩]),3,32):=by kernel_rfl
theorem Z9(p:Option Addr)(k:Nat)(n:k<=1000000)(w:World):Calls prog 357 #[.slice p 0 0,.int .i64 k] w λe d=>∃q c,e=.returned (.slice q 0 c)/\Below w.heap.size w d/\(c=0\/(0<c/\q=Y ⟨w.heap.size,0,Q2⟩/\∃h,d.heap[w.heap.size]?=Y (.cells h 42 (0,0))/\h.size=c*3)):=by
 obtain⟨m,j,b,l,a⟩:=info_parts zhx;by_cases g:k=0
 .subst g
  go_enter func357,ntmps357
  go_wp2
  first|go_ret|go_ret2
  exact⟨_,_,rfl,Below.refl _ _,.inl rfl⟩
 .have x:=λt=>run_append_grow_zeros (P:=prog) w 50 3 t 42 m _ .i64 .i64 underlying50 underlying3 j b p 0 0 [] (by cases p<;>simp[Builtin.firstCells,loadCells,loadCellsFrom]) k (by omega) (by omega) (by omega) (by omega) (by rw[a];omega) (by rw[dz,nextslicecap_zero (by omega),a];omega)
  simp only[dz]at x;have i:=grownCap_ge w k 0 42
  go_enter func357,ntmps357
  go_wp2_with (at_builtin;refine Lib.wpList_append_run _ rfl _ _ _ _ rfl _ _ rfl rfl _ _ (x _) ?_)
  first|go_ret|go_ret2
  refine⟨_,_,rfl,((Below.refl _ _).alloc (zK _) _).drew,.inr ⟨by omega,rfl,_,heap_alloc_new _ _,?_⟩⟩;simp[size_zeroCells];omega
def zd9:zV:=λargs _ n=>match args with
 |[.nils,.int .i64 k]=>.chk (L (0<=k)) (.chk (L (k<=1000000)) (.ok {val:=.vec n,nw:=[.vec Q []]}))
 |_=>.err
theorem zab{w:World}{U:Nat->Prop}{D:Nat->Option Value}{A:Nat->AO}{n k:Nat}{p:Option Addr}(g:∀b,U b->b<w.heap.size)(s:D n=Q2)(z:k<=1000000):
  Calls prog 357 #[.slice p 0 0,.int .i64 k] w λe m=>∃v t C,e=.returned v/\Ef n A {val:=.vec n,nw:=[.vec Q []]} w U D v m t C:=by
 refine(Z9 p k z w).mono ?_;rintro e m ⟨q,c,rfl,x,rfl|⟨u,rfl,j,o,l⟩⟩
 .exact⟨_,U,_,rfl,Ef.newVec sw s rfl (jt.below x) (λb a _=>x.block b a) (λb a=>cM (g b a) x.size) (λb _=>Iff.rfl) ⟨q,0,by simp[iM],zU _,.inl ⟨rfl,rfl⟩⟩ (λb a=>by cases q<;>simp[bz]at a)⟩
 .have d:w.heap.size<m.heap.size:=(dq.1 o).1;exact⟨_,λb=>U b\/b=w.heap.size,_,rfl,Ef.newVec sw s rfl (jt.below x) (λb a _=>x.block b a) (λb h=>by
     rcases h with h|rfl
     .exact cM (g b h) x.size
     .exact d) (λb a=>⟨λh=>h.elim id λe=>zp e S,.inl⟩) ⟨Y ⟨w.heap.size,0,Q2⟩,c,by simp[iM],zU _,.inr ⟨w.heap.size,42,j,rfl,u,.inr rfl,o,l,zU _,λi y=>zp y sw,λq=>by cases q⟩⟩ (λb a=>by simp[bz]at a;exact .inl S)⟩
theorem zeQ:FK 357 zd9 where
 fn:=⟨f357,kw,kw,kw⟩
 calls:=λw U u t n args v f q h x b g e i d a=>by
  unfold zd9 at h;split at h
  .rename_i k;simp only[Tr.val_chk,Tr.val_ok,ax,aT]at h;obtain⟨c,s,rfl⟩:=h;obtain⟨k,rfl⟩:=Int.eq_ofNat_of_zero_le c;have j:=x.len
   match v,j,x with
   |[o,p],_,x=>
   have l:=x.rv 0 _ o rfl rfl;have m:=x.rv 1 _ p rfl rfl;cases l;cases m;exact⟨zab b (a 0 sw) S,sw⟩
  .simp at h
def Vd:=zc5.add 357 zd9
theorem A0:zm Vd:=RT.add zeQ
abbrev zhQ:=fZ [(3,[0,3,9,10,11]),(11,[6,25,26,27])]
inductive mf where
 |h3 (l0:List (N ze.sl)) (i3:Int) (l9:List (N ze.sl)) (i10:Int) (i11:Int)
 |h11 (l25:List (N ze.sl)) (i26:Int) (i27:Int) (lh_0:zo)
abbrev zm1:mf->Nat×St
 |.h3 d c e i h=>(3,⟨tm 36 [(0,O ze.sl d),(3,I c),(9,O ze.sl e),(10,I i),(11,I h)],[]⟩)
 |.h11 b x a l=>(11,⟨tm 36 [(6,AV.vec 0),(25,O ze.sl b),(26,I x),(27,I a)],[AO.vec Q l]⟩)
def zdB(x:N ze.sl.sl):K (mf⊕ac):=
 Qa (mf.h3 x 0 x (M x:Int) 0)
def FF:mf->K (mf⊕ac)
 | .h3 e d g b i=>
  let a:=Γ Δ (d+(↑(M (g.getD i.toNat (zk ze.sl))):Int))
  br (L (i<b)) (Qd (zT i (M g)) (br (L (a<0)) Tr.err (Qa (mf.h3 e a g b (Γ Δ (i+1))))))
  (Qd (L (0<=d)) (Qd (L (d<=1000000)) (Qa (mf.h11 e (M e:Int) 0 []))))
 | .h11 x c h l=>
  let a:=x.getD h.toNat (zk ze.sl)
  br (L (h<c))
  (Qd (zT h (M x)) (Qd (L (M l+M a<=1073741824)) (Qa (mf.h11 x c (Γ Δ (h+1)) (l++a)))))
  (re (AV.vec 0) [AO.vec Q l])
def OJ(x:N ze.sl.sl):=aA [ze.sl] FF 100000000 (zdB x)
def Uv(x:N ze.sl.sl):=(OJ x).isSome
def zgL(x:N ze.sl.sl):=o1 (OJ x)
def zb0:=FT [ze.sl.sl] [ze.sl] λx=>OJ x.1
theorem Y0:FK 299 zb0:=A0.T1 (f:=f299) (keep:=zhQ) (e:=zm1)
def zc6:=Vd.add 299 zb0
theorem EF:zm zc6:=A0.add Y0
abbrev zo2:Nat->aR:=λj=>if j=7 then{slots:=[8,9,30,31,32],prom:=[(9,Q2,(.sl Q))]}else{ }
inductive QX where
 |h7 (l8:zo) (l30:List (N ze.sl)) (i31:Int) (i32:Int) (lh_0:List (N ze.sl))
abbrev zsg:QX->Nat×St
 |.h7 a x i h l=>(7,⟨tm 45 [(8,O Q a),(9,AV.vec 0),(30,O ze.sl x),(31,I i),(32,I h)],[AO.vec ze.sl l]⟩)
def zaB(x:dK)(g:zw)(i:N ze.sl.sl):K (QX⊕ac):=
 let b:=zT 1 (M x.2)
 let a:=W x.2 (Int.toNat 1) (zk zl)
 let c:=((a.1.1,a.1.2.1,a.1.q.1,a.1.r.1,a.1.t.1,zP a.1.u),a.2)
 let h:=P6 c g
 let d:=((x.1.1,x.1.2.1,x.1.q.1,(x.1.r.1.1,x.1.r.1.2.1,x.1.r.1.q.1,x.1.r.1.r.1,x.1.r.1.t.1,zP x.1.r.1.u),x.1.t),x.2)
 let e:=W a.2 (Int.toNat h) (zk ze.sl)
 Qd b
 (Qd (HD c g)
  (br (L (h<0)) (re nils []) (Qd b (Qd (zT h (M a.2)) (Qd (uN d e) (Qa (QX.h7 (D7 d e) i (M i:Int) 0 [])))))))
def zbn:QX->K (QX⊕ac)
 | .h7 c h x i l=>
  let a:=[h.getD i.toNat (zk ze.sl),c]
  let b:=[zgL a]
  br (L (i<x))
  (Qd (zT i (M h)) (Qd (Uv a) (Qd (L (M l+M b<=1073741824)) (Qa (QX.h7 c h x (Γ Δ (i+1)) (l++b))))))
  (re (AV.vec 0) [AO.vec ze.sl l])
def Ga(x:dK)(h:zw)(a:N ze.sl.sl):=aA [ze.sl.sl] zbn 100000000 (zaB x h a)
def L2(x:dK)(h:zw)(a:N ze.sl.sl):=(Ga x h a).isSome
def Ua(x:dK)(h:zw)(a:N ze.sl.sl):=o1 (Ga x h a)
def zkZ:=FT [Le,Q,ze.sl.sl] [ze.sl.sl] λx=>Ga x.1 x.2.1 x.q.1
theorem zf4:FK 232 zkZ:=EF.T1 (f:=f232) (keep:=zo2) (e:=zsg)
def zc7:=zc6.add 232 zkZ
theorem EG:zm zc7:=EF.add zf4
abbrev zom:Nat->aR:=λj=>if j=5 then{slots:=[3,9,10,23,24,25],prom:=[(9,Q2,(.sl Q))]}else{ }
inductive FZ where
 |h5 (i10:Int) (l23:List (N ze.sl)) (i24:Int) (i25:Int) (z0:zn sP) (lh_1:List (N ze.sl))
abbrev zrR:FZ->Nat×St
 |.h5 i a h x z l=>(5,⟨tm 44 [(3,ptr 0 0),(9,AV.vec 1),(10,I i),(23,O ze.sl a),(24,I h),(25,I x)],[AO.box (fD [] sP z),AO.vec ze.sl l]⟩)
def V4(x:dK)(h:zw)(b:N ze.sl.sl):K (FZ⊕ac):=
 let a:=((x.1.1,x.1.2.1,x.1.q.1,(x.1.r.1.1,x.1.r.1.2.1,x.1.r.1.q.1,x.1.r.1.r.1,x.1.r.1.t.1,zP x.1.r.1.u),x.1.t),x.2)
 let c:=T8 a h b
 let d:=Ua a h b
 let e:=L1 a h b
 Qd Z
 (Qd Z
  (Qd Z (br (x.1.1==eR) (Qd (L0 a h b) (Qa (FZ.h5 0 c (M c:Int) 0 (x,()) []))) (br (x.1.1==iK) (Qd (L2 a h b) (Qa (FZ.h5 0 d (M d:Int) 0 (x,()) [])))
  (br (x.1.1==yu) (Qd (F9 a h b) (Qa (FZ.h5 0 e (M e:Int) 0 (x,()) []))) Tr.err)))))
def zbj:FZ->K (FZ⊕ac)
 | .h5 x h a i z l=>
  let b:=h.getD i.toNat (zk ze.sl)
  let c:=Γ Δ (i+1)
  let d:=[b]
  br (L (i<a))
  (Qd (zT i (M h)) (br (dM (z.1.1.r.1.1,z.1.1.r.1.2.1,z.1.1.r.1.q.1,z.1.1.r.1.r.1,z.1.1.r.1.t.1,zP z.1.1.r.1.u) b !=0) (Qa (FZ.h5 (Γ Δ (x+1)) h a c z l)) (Qd (L (M l+M d<=1073741824)) (Qa (FZ.h5 x h a c z (l++d))))))
  (re (tup [AV.vec 0,I x]) [AO.vec ze.sl l])
def Az(x:dK)(h:zw)(a:N ze.sl.sl):=aA [ze.sl.sl,zi] zbj 100000000 (V4 x h a)
def T9(x:dK)(h:zw)(a:N ze.sl.sl):=(Az x h a).isSome
def zgu(x:dK)(h:zw)(a:N ze.sl.sl):=o2 (Az x h a)
def zkb:=FT [Le,Q,ze.sl.sl] [ze.sl.sl,zi] λx=>Az x.1 x.2.1 x.q.1
theorem zfd:FK 175 zkb:=EG.T1 (f:=f175) (keep:=zom) (e:=zrR)
def zc8:=zc7.add 175 zkb
theorem RU:zm zc8:=EG.add zfd
open Go
theorem gC{P:Program}{gl:Nat->R}{D ι:Type}{E:bS}{k:FuncId}{f:Func}{kinds:List (Option Sh)}{G:ee kinds}{keep:Nat->aR}{gas n n0:Nat}{e:D->Nat×St}{t:D->K (D⊕ac)}{args:ι->List R}{heap:ι->List AO}{i:ι->K (D⊕ac)}
  (q:zm E) (g:zJ E.P k f (M kinds)) (v:∀x,(heap x).length=n0)
  (c:∀x,run E n0 keep f.results.toList gas (aK f) (aC f.ntmps (args x) (heap x))=(i x).map (lf f e))
  (d:∀s,run E n0 keep f.results.toList gas (zZ f (e s).1) (e s).2=(t s).map (lf f e))
  (u:∀a h b,(G a h).val=Y b->∃x,gX kinds a=args x/\h=heap x/\b6 t n (i x)=Y b) (A:E.P=P:=by rfl) (z:E.gl=gl:=by rfl):ky P gl k (au kinds G):=by
 subst A z;refine cP g λx o b w C p=>?_
 have⟨y,j,l,m⟩:=u x o b w;subst l;rw[j];exact mz (n0:=n0) (Q:=λr h=>(r,h)=b) q g (λid h=>p id (by rw[v];exact h)) (n+1) _ _ _ (by rw[kR d (c y)];exact m) rfl
abbrev xf(l:da):K zM:=run cX 0 DD (Func.results f236).toList 300 (aK f236) (aC (Func.ntmps f236) [.sl zi l] [])
theorem PH:zJ cX.P 236 f236 1:=bG kw
theorem znr(l:da):xf l=.ok (.fork l.isEmpty (aX (xf l)).1 (aX (xf l)).2.1 (aX (xf l)).q):=kw
theorem zin(l:da):run cX 0 DD (Func.results f236).toList 300 (aX (xf l)).1 (aX (xf l)).q=.ok (.ret .nils []):=kw
theorem zio(l:da):run cX 0 DD (Func.results f236).toList 300 (aX (xf l)).2.1 (aX (xf l)).q=.chk (L (M l<=1073741824)) (.ok (.ret (.vec 0) [.vec zi l])):=kw
def zmn:ee [Y (.sl zi)]:=λx h=>match h with
 |[]=>.chk (L (M x.1<=1073741824)) (.ok (.vec 0,[.vec zi x.1]))
 |_=>.err
def zk6:zV:=au [Y (.sl zi)] zmn
theorem zgc:FK 236 zk6:=by
 refine cP PH λx j i a C b=>?_
 unfold zmn at a;split at a
 .simp only[Q9]at a;split at a
  .rename_i d;simp only[ax]at a;subst a;have⟨l,u⟩:=x;refine zB (n0:=0) bl PH b (znr l) ?_;refine⟨λc=>?_,?_⟩
   .have e:l=[]:=List.isEmpty_iff.1 c;refine Reach.weaken (Q:=λr h=>(r,h)=(.vec 0,[.vec zi []])) (Reach.promNil zi (λid=>b id sw) (zB (n0:=0) bl PH b (zin l) rfl)) ?_;intro r h g;cases g;refine⟨_,?_,λ_ _ _ _ h=>h⟩;show(AV.vec 0,[AO.vec zi []])=(AV.vec 0,[AO.vec zi l]);rw[e]
   .exact zB (n0:=0) bl PH b (zio l) (eH d rfl)
  .cases a
 .simp at a
abbrev xg(l:eu):K zM:=run cX 0 DD (Func.results f237).toList 300 (aK f237) (aC (Func.ntmps f237) [.sl zW l] [])
theorem PI:zJ cX.P 237 f237 1:=bG kw
theorem zns(l:eu):xg l=.ok (.fork l.isEmpty (aX (xg l)).1 (aX (xg l)).2.1 (aX (xg l)).q):=kw
theorem ziq(l:eu):run cX 0 DD (Func.results f237).toList 300 (aX (xg l)).1 (aX (xg l)).q=.ok (.ret .nils []):=kw
theorem zir(l:eu):run cX 0 DD (Func.results f237).toList 300 (aX (xg l)).2.1 (aX (xg l)).q=.chk (L (M l<=1073741824)) (.ok (.ret (.vec 0) [.vec zW l])):=kw
def zmo:ee [Y (.sl zW)]:=λx h=>match h with
 |[]=>.chk (L (M x.1<=1073741824)) (.ok (.vec 0,[.vec zW x.1]))
 |_=>.err
def zk7:zV:=au [Y (.sl zW)] zmo
theorem zgd:FK 237 zk7:=by
 refine cP PI λx j i a C b=>?_
 unfold zmo at a;split at a
 .simp only[Q9]at a;split at a
  .rename_i d;simp only[ax]at a;subst a;have⟨l,u⟩:=x;refine zB (n0:=0) bl PI b (zns l) ?_;refine⟨λc=>?_,?_⟩
   .have e:l=[]:=List.isEmpty_iff.1 c;refine Reach.weaken (Q:=λr h=>(r,h)=(.vec 0,[.vec zW []])) (Reach.promNil zW (λid=>b id sw) (zB (n0:=0) bl PI b (ziq l) rfl)) ?_;intro r h g;cases g;refine⟨_,?_,λ_ _ _ _ h=>h⟩;show(AV.vec 0,[AO.vec zW []])=(AV.vec 0,[AO.vec zW l]);rw[e]
   .exact zB (n0:=0) bl PI b (zir l) (eH d rfl)
  .cases a
 .simp at a
abbrev xh(l:List fM):K zM:=run cX 0 DD (Func.results f239).toList 300 (aK f239) (aC (Func.ntmps f239) [.sl (.sl Q) l] [])
theorem PK:zJ cX.P 239 f239 1:=bG kw
theorem znu(l:List fM):xh l=.ok (.fork l.isEmpty (aX (xh l)).1 (aX (xh l)).2.1 (aX (xh l)).q):=kw
theorem zis(l:List fM):run cX 0 DD (Func.results f239).toList 300 (aX (xh l)).1 (aX (xh l)).q=.ok (.ret .nils []):=kw
theorem zit(l:List fM):run cX 0 DD (Func.results f239).toList 300 (aX (xh l)).2.1 (aX (xh l)).q=.chk (L (M l<=1073741824)) (.ok (.ret (.vec 0) [.vec (.sl Q) l])):=kw
def zmp:ee [Y (.sl (.sl Q))]:=λx h=>match h with
 |[]=>.chk (L (M x.1<=1073741824)) (.ok (.vec 0,[.vec (.sl Q) x.1]))
 |_=>.err
def zk9:zV:=au [Y (.sl (.sl Q))] zmp
theorem zgf:FK 239 zk9:=by
 refine cP PK λx j i a C b=>?_
 unfold zmp at a;split at a
 .simp only[Q9]at a;split at a
  .rename_i d;simp only[ax]at a;subst a;have⟨l,u⟩:=x;refine zB (n0:=0) bl PK b (znu l) ?_;refine⟨λc=>?_,?_⟩
   .have e:l=[]:=List.isEmpty_iff.1 c;refine Reach.weaken (Q:=λr h=>(r,h)=(.vec 0,[.vec (.sl ze) []])) (Reach.promNil (.sl ze) (λid=>b id sw) (zB (n0:=0) bl PK b (zis l) rfl)) ?_;intro r h g;cases g;refine⟨_,?_,λ_ _ _ _ h=>h⟩;show(AV.vec 0,[AO.vec (Sh.sl ze) []])=(AV.vec 0,[AO.vec (Sh.sl ze) l]);rw[e]
   .exact zB (n0:=0) bl PK b (zit l) (eH d rfl)
  .cases a
 .simp at a
abbrev xi(l:zo):K zM:=run cX 0 DD (Func.results f150).toList 300 (aK f150) (aC (Func.ntmps f150) [.sl Q l] [])
theorem PL:zJ cX.P 150 f150 1:=bG kw
theorem znv(l:zo):xi l=.ok (.fork l.isEmpty (aX (xi l)).1 (aX (xi l)).2.1 (aX (xi l)).q):=kw
theorem ziu(l:zo):run cX 0 DD (Func.results f150).toList 300 (aX (xi l)).1 (aX (xi l)).q=.ok (.ret .nils []):=kw
theorem ziv(l:zo):run cX 0 DD (Func.results f150).toList 300 (aX (xi l)).2.1 (aX (xi l)).q=.chk (L (M l<=1073741824)) (.ok (.ret (.vec 0) [.vec Q l])):=kw
def zmq:ee [Y (.sl Q)]:=λx h=>match h with
 |[]=>.chk (L (M x.1<=1073741824)) (.ok (.vec 0,[.vec Q x.1]))
 |_=>.err
def zee:zV:=au [Y (.sl Q)] zmq
theorem TG:FK 150 zee:=by
 refine cP PL λx j i a C b=>?_
 unfold zmq at a;split at a
 .simp only[Q9]at a;split at a
  .rename_i d;simp only[ax]at a;subst a;have⟨l,u⟩:=x;refine zB (n0:=0) bl PL b (znv l) ?_;refine⟨λc=>?_,?_⟩
   .have e:l=[]:=List.isEmpty_iff.1 c;refine Reach.weaken (Q:=λr h=>(r,h)=(.vec 0,[.vec ze []])) (Reach.promNil ze (λid=>b id sw) (zB (n0:=0) bl PL b (ziu l) rfl)) ?_;intro r h g;cases g;refine⟨_,?_,λ_ _ _ _ h=>h⟩;show(AV.vec 0,[AO.vec ze []])=(AV.vec 0,[AO.vec ze l]);rw[e]
   .exact zB (n0:=0) bl PL b (ziv l) (eH d rfl)
  .cases a
 .simp at a
def ZV:=cX.addL [(236,zk6),(237,zk7),(239,zk9),(150,zee)]
theorem JE:zm ZV:=bl.addL<|fc zgc<|fc zgd<|fc zgf<|fc TG ip
def DL(c:zg->Bool):zV:=ae [.expr] [.expr] (λx=>c x.1) λx=>(x.1,())
def Eg(c:zg->Bool):bS:=ZV.add 238 (DL c)
variable {c:zg->Bool}
theorem uY(h:FK 238 (DL c)):zm (Eg c):=JE.add h
abbrev zdO:Nat->aR:=λj=>if j=3 then{slots:=[1,2,10,11]}else{ }
abbrev HL(i h:Int)(j:zD)(x a:Int)(b c:zD)(l:List (N Q6)):St:={
 tmps:=
  (tm 26 [(1,ptr 0 0),(2,ptr 1 0),(10,I i),(11,I h)]),
 heap:=
  [AO.box [X j,I x,I a,X b,X c,AV.vec 2],
   AO.box [X [],I 0,I 0,X [],X [],nils],AO.vec Q6 l]}
theorem PJ(c:zg->Bool):zJ (Eg c).P 238 f238 1:=bG kw
theorem znt(c:zg->Bool)(o:zD)(v:V)(s:zD)(l:List zg):rn (Eg c) 0 zdO f238 [zI Q6 (zg.mk o v s l)] []=
 Qd (L (M l<=1073741824)) (Tr.ok (zM.head 3 (zZ f238 3) (HL (M l:Int) 0 o v.1 v.2.1 v.2.2 s l))):=kw
theorem PQ(c:zg->Bool)(h i:Int)(j:zD)(x a:Int)(b d:zD)(l:List (Sem Sh.expr)):rh (Eg c) 0 zdO f238 3 (HL h i j x a b d l)=
 br (L (i<h))
 (chk (zT i (Io l))
  (chk (decide (i.toNat<Io l))
   (chk (c (zP (l.getD i.toNat (zk Sh.expr))))
    (chk (zT i (Io l))
     (chk (decide (i.toNat<Io l))
      (Tr.ok
       (zM.head 3 (zZ f238 3)
        (HL h (Γ Δ (i+1)) j x a b d
         (l.set i.toNat
          (zP (l.getD i.toNat (zk Q6))))))))))))
 (Tr.ok
  (zM.ret (agg [X j,I x,I a,X b,X d,AV.vec 0]) [AO.vec Q6 l])):=kw
theorem zmw(d:FK 238 (DL c)){C:eS}(b:∀id,C.ρ0 id=Q2)(o:zD)(v:V)(s:zD)(l:List zg)(t:M l<=1073741824)(a:l.all c=Z):
  ∀(k i:Nat),M l-i=k->i<=M l->Reach (Eg c) C 238 (zZ f238 3) (HL (M l) i o v.1 v.2.1 v.q s l) (λr h=>bc h [.expr] r=Y (zg.mk o v s l,())):=by
 intro k
 induction k with
 | zero=>
  intro i p n;obtain rfl:i=M l:=by omega
  refine zB (n0:=0) (uY d) (PJ c) (λid _=>b id) (PQ c _ _ _ _ _ _ _ _) ?_;simp only[aw,Tr.val_brF];rfl
 | succ k e=>
  intro i p n;have x:i<M l:=by omega
  refine zB (n0:=0) (uY d) (PJ c) (λid _=>b id) (PQ c _ _ _ _ _ _ _ _) ?_;have g:c l[i]=Z:=dg.1 a _ (bN x);have j:L ((i:Int).toNat<M l)=Z:=by simpa using x
  have m:l.set (i:Int).toNat l[i]=l:=by simp
  simp only[z6 x,zx x,bt l _ x,zg.eta,Tr.val_brT,Tr.val_chkT,g,j,m,zz i um];exact e (i+1) S S
theorem zhB:zJ ZV.P 238 f238 1:=bG kw
theorem FW:∀n,FK 238 (DL (oI n))
 |0=>kz ⟨f238,zhB.1,zhB.2.1,zhB.q.1⟩ (λ_=>rfl)
 | n+1=>by
  have h:FK 238 (DL (oI (n+1))):=by
   refine aH (E:=Eg (oI n)) (PJ _) λx a C b=>?_
   have⟨⟨o,v,s,l⟩,u⟩:=x;have a:(L (M l<=1073741824)&&l.all (oI n))=Z:=a;simp only[ar,aT]at a;refine zB (n0:=0) (uY (FW n)) (PJ _) (λid _=>b id) (znt _ o v s l) ?_;refine eH (by simpa using a.1) ?_;exact zmw (FW n) b o v s l a.1 a.2 _ 0 rfl (zU _)
  exact h
def zk8:zV:=DL (oI 16)
theorem zge:FK 238 zk8:=FW 16
def O1:=ZV.add 238 zk8
theorem R6:zm O1:=JE.add zge
def Vr:=zc8.add 150 zee
theorem MD:zm Vr:=RU.add TG
inductive zvO where
 |h4 (l1:zH) (l2:zo) (l27:zo) (i28:Int) (i29:Int) (z0:zn [CP.d ao]) (z1:zn [CP.d Q])
inductive zvZ where
 |h6 (i8:zy) (l22:List (N ze.sl)) (i23:Int) (i24:Int) (z0:zn [CP.d Q]) (lh_1:List (N ze.sl))
def Vs:=Vr
theorem ME:zm Vs:=MD
def Ve:=Vs
theorem EH:zm Ve:=ME
def zbX:zV:=au (List.replicate 1 Q2) (eJ JC f181 (List.replicate 1 Q2))
theorem YW:FK 181 zbX:=bM _ kl (bG kw)
def zb9:zV:=au (List.replicate 2 Q2) (eJ JC f241 (List.replicate 2 Q2))
theorem Y6:FK 241 zb9:=bM _ kl (bG kw)
def MA:=JC.addL [(181,zbX),(241,zb9)]
theorem A3:zm MA:=kl.addL<|fc YW<|fc Y6<|ip
def zbY:zV:=au (List.replicate 3 Q2) (eJ MA f182 (List.replicate 3 Q2))
theorem YX:FK 182 zbY:=bM _ A3 (bG kw)
def A4:=MA.add 182 zbY
theorem A5:zm A4:=A3.add YX
abbrev Wk:=fZ [(1,[0,1,2,3,8]),(4,[0,1,2,3,8,9])]
inductive wT where
 |h1 (i1:Int) (i2:Int) (i3f_0_0:Int) (i8:Int) (lh_0:List (N ze.sl))
 |h4 (i1:Int) (i2:Int) (i3f_0_0:Int) (i8:Int) (i9:Int) (lh_0:List (N ze.sl))
abbrev Ji:wT->Nat×St
 |.h1 h x i a l=>(1,⟨tm 53 [(0,AV.vec 0),(1,I h),(2,I x),(3,AV.clo (Fn.func 182) [agg [I i]] []),(8,I a)],[AO.vec ze.sl l]⟩)
 |.h4 h x i a b l=>(4,⟨tm 53 [(0,AV.vec 0),(1,I h),(2,I x),(3,AV.clo (Fn.func 182) [agg [I i]] []),(8,I a),(9,I b)],[AO.vec ze.sl l]⟩)
theorem zic:zJ A4.P 302 f302 4:=bG kw
def Pn(l:List zo)(a b k:Int):K (wT⊕ac):=
 Qa (wT.h1 a b k (Γ Δ (a+1)) l)
theorem zg5(l:List zo)(a b k:Int):rn A4 1 Wk f302 [AV.vec 0,I a,I b,AV.clo (Fn.func 182) [agg [I k]] []] [AO.vec (Sh.sl Q) l]=(Pn l a b k).map (lf f302 Ji):=kw
def rr:wT->K (wT⊕ac)
 | .h1 c k i d l=>
  br (L (d<k)) (Qa (wT.h4 c k i d d l))
  (re (tup []) [AO.vec ze.sl l])
 | .h4 c k i d h l=>
  let o:=L (h.toNat<M l)
  let a:=Γ Δ (h-1)
  let q:=zT a (M l)
  let s:=L (a.toNat<M l)
  let t:=L (i<0)
  let m:=l.getD h.toNat (zk ze.sl)
  let v:=(M m:Int)
  let u:=bif t then Z else L (i>=v)
  let n:=l.getD a.toNat (zk ze.sl)
  let w:=(M n:Int)
  let x:=bif t then Z else L (i>=w)
  let e:=bif x then Z else zT i (M n)
  let g:=W n i.toNat (zk Q)
  let j:=W m i.toNat (zk Q)
  let p:=bif u then bif x then aV (0,0,[]) (0,0,[])else aV (0,0,[]) g else bif x then aV j (0,0,[])else aV j g
  let b:=l.set h.toNat n
  Qd (cond (L (h>c)) (zT h (M l)&&(o&&(q&&(s&&bif u then e else zT i (M m)&&e)))) Z)
  (br (cond (L (h>c)) (L (p<0)) false) (Qd q (Qd s (Qd (zT h (M l)) (Qd o (Qd (zT h (M l)) (Qd o (Qd (zT a (M b)) (Qd (L (a.toNat<M b)) (Qa (wT.h4 c k i d a (b.set a.toNat m))))))))))) (Qa (wT.h1 c k i (Γ Δ (d+1)) l)))
theorem zii:∀s,run A4 1 Wk (Func.results f302).toList 400 (zZ f302 (Ji s).1) (Ji s).2=(rr s).map (lf f302 Ji):=by intro s;cases s<;>kernel_rfl
def M6(l:List zo)(a b k:Int):=b6 rr 100000000 (Pn l a b k)
def In(r:Option ac):Option (List zo):=match r with
 |some (.tup [],[.vec (.sl Nn) l])=>Y l
 |_=>Q2
theorem qL{r:Option ac}(h:(In r).isSome=Z):r=Y (.tup [],[.vec (.sl Q) ((In r).getD [])]):=by
 unfold In at h|-;split at h
 .rfl
 .cases h
def vX(l:List zo)(a b k:Int):=In (M6 l a b k)
def zcu:ee [Q2,Q2,Q2,Q2]:=λx h=>match x,h with
 |(.vec 0,I a,I b,.clo (.func 182) [.agg [I k]] [],_),[.vec (.sl Nn) l]=>.chk ((vX l a b k).isSome) (.ok (.tup [],[.vec (.sl Q) ((vX l a b k).getD [])]))
 |_,_=>.err
def zce:zV:=au [Q2,Q2,Q2,Q2] zcu
theorem Zb:FK 302 zce:=by
 refine gC (ι:=List zo×Int×Int×Int) (args:=λy=>[AV.vec 0,I y.2.1,I y.q.1,AV.clo (Fn.func 182) [agg [I y.r]] []]) (heap:=λy=>[AO.vec ze.sl y.1]) (i:=λy=>Pn y.1 y.2.1 y.q.1 y.r) (t:=rr) (e:=Ji) (n:=100000000) (n0:=1) A5 zic (λ_=>rfl) (λy=>zg5 _ _ _ _) zii (λx h g c=>?_);unfold zcu at c;split at c
 .rename_i a b k u l;simp only[Q9]at c;split at c
  next d=>simp only[ax]at c;subst c;exact⟨(l,a,b,k),rfl,rfl,qL d⟩
  .cases c
 .simp at c
def A6:=A4.add 302 zce
theorem A7:zm A6:=A5.add Zb
abbrev Wn:=fZ [(1,[0,1,2,3,10])]
inductive DV where
 |h1 (i1:Int) (i2:Int) (i3:Int) (i10:Int) (lh_0:List (N ze.sl))
abbrev Jl:DV->Nat×St
 |.h1 h x a i l=>(1,⟨tm 38 [(0,AV.vec 0),(1,I h),(2,I x),(3,I a),(10,I i)],[AO.vec ze.sl l]⟩)
theorem zie:zJ A6.P 391 f391 5:=bG kw
def V0(l:List zo)(a b n _:Int):K (DV⊕ac):=
 Qa (DV.h1 a b n 0 l)
theorem zhb(l:List zo)(a b n k:Int):rn A6 1 Wn f391 [AV.vec 0,I a,I b,I n,AV.clo (Fn.func 182) [agg [I k]] []] [AO.vec (Sh.sl Q) l]=(V0 l a b n k).map (lf f391 Jl):=kw
def FG:DV->K (DV⊕ac)
 | .h1 d e g i l=>
  let a:=Γ Δ (e+i)
  let h:=Γ Δ (d+i)
  let b:=zT h (M l)
  let c:=L (h.toNat<M l)
  let x:=l.set h.toNat (l.getD a.toNat (zk ze.sl))
  br (L (i<g))
  (Qd (zT a (M l)) (Qd (L (a.toNat<M l)) (Qd b (Qd c (Qd b (Qd c (Qd (zT a (M x)) (Qd (L (a.toNat<M x)) (Qa (DV.h1 d e g (Γ Δ (i+1)) (x.set a.toNat (l.getD h.toNat (zk ze.sl)))))))))))))
  (re (tup []) [AO.vec ze.sl l])
theorem zil:∀s,run A6 1 Wn (Func.results f391).toList 400 (zZ f391 (Jl s).1) (Jl s).2=(FG s).map (lf f391 Jl):=by intro s;cases s<;>kernel_rfl
def zqK(l:List zo)(a b n k:Int):=b6 FG 100000000 (V0 l a b n k)
def NM(l:List zo)(a b n k:Int):=In (zqK l a b n k)
def zcw:ee [Q2,Q2,Q2,Q2,Q2]:=λx h=>match x,h with
 |(.vec 0,I a,I b,I n,.clo (.func 182) [.agg [I k]] [],_),[.vec (.sl Nn) l]=>.chk ((NM l a b n k).isSome) (.ok (.tup [],[.vec (.sl Q) ((NM l a b n k).getD [])]))
 |_,_=>.err
def zch:zV:=au [Q2,Q2,Q2,Q2,Q2] zcw
theorem Ze:FK 391 zch:=by
 refine gC (ι:=List zo×Int×Int×Int×Int) (args:=λy=>[AV.vec 0,I y.2.1,I y.q.1,I y.r.1,AV.clo (Fn.func 182) [agg [I y.t]] []]) (heap:=λy=>[AO.vec ze.sl y.1]) (i:=λy=>V0 y.1 y.2.1 y.q.1 y.r.1 y.t) (t:=FG) (e:=Jl) (n:=100000000) (n0:=1) A7 zie (λ_=>rfl) (λy=>zhb _ _ _ _ _) zil (λx h g c=>?_);unfold zcw at c;split at c
 .rename_i a b n k u l;simp only[Q9]at c;split at c
  next d=>simp only[ax]at c;subst c;exact⟨(l,a,b,n,k),rfl,rfl,qL d⟩
  .cases c
 .simp at c
def A8:=A6.add 391 zch
theorem A9:zm A8:=A7.add Ze
abbrev Wm:=fZ [(2,[0,2,4,10,11])]
inductive An where
 |h2 (i2:Int) (i4f_0_0:Int) (i10:Int) (i11:Int) (lh_0:List (N ze.sl))
abbrev Jk:An->Nat×St
 |.h2 a i h x l=>(2,⟨tm 58 [(0,AV.vec 0),(2,I a),(4,AV.clo (Fn.func 182) [agg [I i]] []),(10,I h),(11,I x)],[AO.vec ze.sl l]⟩)
theorem zid:zJ A8.P 360 f360 5:=bG kw
def Po(l:List zo)(a m b k:Int):K (An⊕ac):=
 Qa (An.h2 m k (Γ Δ (m-a)) (Γ Δ (b-m)) l)
theorem zha(l:List zo)(a m b k:Int):rn A8 1 Wm f360 [AV.vec 0,I a,I m,I b,AV.clo (Fn.func 182) [agg [I k]] []] [AO.vec (Sh.sl Q) l]=(Po l a m b k).map (lf f360 Jk):=kw
def CV:An->K (An⊕ac)
 | .h2 a i h x l=>
  let b:=Γ Δ (a-h)
  let c:=NM l b a x i
  let d:=NM l b (Γ Δ (Γ Δ (a+x)-h)) h i
  let e:=NM l b a h i
  br (h !=x)
  (br (L (h>x)) (Qd c.isSome (Qa (An.h2 a i (Γ Δ (h-x)) x (c.getD [])))) (Qd d.isSome (Qa (An.h2 a i h (Γ Δ (x-h)) (d.getD [])))))
  (Qd e.isSome (re (tup []) [AO.vec ze.sl (e.getD [])]))
theorem zik:∀s,run A8 1 Wm (Func.results f360).toList 400 (zZ f360 (Jk s).1) (Jk s).2=(CV s).map (lf f360 Jk):=by intro s;cases s<;>kernel_rfl
def ziK(l:List zo)(a m b k:Int):=b6 CV 100000000 (Po l a m b k)
def SW(l:List zo)(a m b k:Int):=In (ziK l a m b k)
def zcv:ee [Q2,Q2,Q2,Q2,Q2]:=λx h=>match x,h with
 |(.vec 0,I a,I m,I b,.clo (.func 182) [.agg [I k]] [],_),[.vec (.sl Nn) l]=>.chk ((SW l a m b k).isSome) (.ok (.tup [],[.vec (.sl Q) ((SW l a m b k).getD [])]))
 |_,_=>.err
def zcg:zV:=au [Q2,Q2,Q2,Q2,Q2] zcv
theorem Zd:FK 360 zcg:=by
 refine gC (ι:=List zo×Int×Int×Int×Int) (args:=λy=>[AV.vec 0,I y.2.1,I y.q.1,I y.r.1,AV.clo (Fn.func 182) [agg [I y.t]] []]) (heap:=λy=>[AO.vec ze.sl y.1]) (i:=λy=>Po y.1 y.2.1 y.q.1 y.r.1 y.t) (t:=CV) (e:=Jk) (n:=100000000) (n0:=1) A9 zid (λ_=>rfl) (λy=>zha _ _ _ _ _) zik (λx h g c=>?_);unfold zcv at c;split at c
 .rename_i a m b k u l;simp only[Q9]at c;split at c
  next d=>simp only[ax]at c;subst c;exact⟨(l,a,m,b,k),rfl,rfl,qL d⟩
  .cases c
 .simp at c
def Gw:=A8.add 360 zcg
theorem Ba:zm Gw:=A9.add Zd
abbrev SM:=List zo->Int->Int->Int->Int->Option (List zo)
def GSm(o:SM):ee [Q2,Q2,Q2,Q2,Q2]:=λx h=>match x,h with
 |(.vec 0,I a,I m,I b,.clo (.func 182) [.agg [I k]] [],_),[.vec (.sl Nn) l]=>.chk ((o l a m b k).isSome) (.ok (.tup [],[.vec (.sl Q) ((o l a m b k).getD [])]))
 |_,_=>.err
def FSm(o:SM):zV:=au [Q2,Q2,Q2,Q2,Q2] (GSm o)
def AP(o:SM):bS:=Gw.add 303 (FSm o)
theorem Mk{o:SM}(h:FK 303 (FSm o)):zm (AP o):=Ba.add h
abbrev Wl:=fZ [(3,[0,1,4,10,11]),(9,[0,10,13]),(15,[0,2,4,14,15]),(21,[0,14,17]),(33,[0,1,2,3,4,18,19,20,21,22])]
inductive iG where
 |h3 (i1:Int) (i4f_0_0:Int) (i10:Int) (i11:Int) (lh_0:List (N ze.sl))
 |h15 (i2:Int) (i4f_0_0:Int) (i14:Int) (i15:Int) (lh_0:List (N ze.sl))
 |h33 (i1:Int) (i2:Int) (i3:Int) (i4f_0_0:Int) (i18:Int) (i19:Int) (i20:Int) (i21:Int) (i22:Int) (lh_0:List (N ze.sl))
 |h9 (i10:Int) (i13:Int) (lh_0:List (N ze.sl))
 |h21 (i14:Int) (i17:Int) (lh_0:List (N ze.sl))
abbrev Jj:iG->Nat×St
 |.h3 a i h b l=>(3,⟨tm 220 [(0,AV.vec 0),(1,I a),(4,AV.clo (Fn.func 182) [agg [I i]] []),(10,I h),(11,I b)],[AO.vec ze.sl l]⟩)
 |.h15 k i x d l=>(15,⟨tm 220 [(0,AV.vec 0),(2,I k),(4,AV.clo (Fn.func 182) [agg [I i]] []),(14,I x),(15,I d)],[AO.vec ze.sl l]⟩)
 |.h33 a k p i g j m n o l=>(33,⟨tm 220 [(0,AV.vec 0),(1,I a),(2,I k),(3,I p),(4,AV.clo (Fn.func 182) [agg [I i]] []),(18,I g),(19,I j),(20,I m),(21,I n),(22,I o)],[AO.vec ze.sl l]⟩)
 |.h9 h c l=>(9,⟨tm 220 [(0,AV.vec 0),(10,I h),(13,I c)],[AO.vec ze.sl l]⟩)
 |.h21 x e l=>(21,⟨tm 220 [(0,AV.vec 0),(14,I x),(17,I e)],[AO.vec ze.sl l]⟩)
theorem G6(o:SM):zJ (AP o).P 303 f303 5:=bG kw
def xv(_:SM)(l:List zo)(a m b k:Int):K (iG⊕ac):=
 let h:=Γ Δ (IntKind.u64.wrap (Γ Δ (a+b))/2)
 let x:=Γ Δ (h+m)
 let c:=Γ Δ (x-1)
 br (Γ Δ (m-a)==1) (Qa (iG.h3 a k m b l))
 (br (Γ Δ (b-m)==1) (Qa (iG.h15 m k a m l))
  (Qd Z (br (L (m>h)) (Qa (iG.h33 a m b k h x (Γ Δ (x-b)) h c l)) (Qa (iG.h33 a m b k h x a m c l)))))
theorem zg6(o:SM)(l:List zo)(a m b k:Int):rn (AP o) 1 Wl f303 [AV.vec 0,I a,I m,I b,AV.clo (Fn.func 182) [agg [I k]] []] [AO.vec (Sh.sl Q) l]=(xv o l a m b k).map (lf f303 Jj):=kw
def eP(o:SM):iG->K (iG⊕ac)
 | .h3 p i g D l=>
  let a:=Γ Δ (IntKind.u64.wrap (Γ Δ (g+D))/2)
  let b:=L (i<0)
  let e:=l.getD a.toNat (zk ze.sl)
  let s:=(M e:Int)
  let A:=bif b then Z else L (i>=s)
  let t:=l.getD p.toNat (zk ze.sl)
  let C:=(M t:Int)
  let v:=bif b then Z else L (i>=C)
  let w:=bif v then Z else zT i (M t)
  let y:=W t i.toNat (zk Q)
  let c:=W e i.toNat (zk Q)
  let n:=bif A then bif v then aV (0,0,[]) (0,0,[])else aV (0,0,[]) y else bif v then aV c (0,0,[])else aV c y
  br (L (g<D))
  (Qd Z (Qd (zT a (M l)) (Qd (L (a.toNat<M l)) (Qd (zT p (M l)) (Qd (L (p.toNat<M l)) (Qd (cond A w (zT i (M e)&&w)) (br (L (n<0)) (Qa (iG.h3 p i (Γ Δ (a+1)) D l)) (Qa (iG.h3 p i g a l)))))))))
  (Qa (iG.h9 g p l))
 | .h15 q i k E l=>
  let a:=Γ Δ (IntKind.u64.wrap (Γ Δ (k+E))/2)
  let b:=L (i<0)
  let e:=l.getD q.toNat (zk ze.sl)
  let s:=(M e:Int)
  let A:=bif b then Z else L (i>=s)
  let t:=l.getD a.toNat (zk ze.sl)
  let C:=(M t:Int)
  let v:=bif b then Z else L (i>=C)
  let w:=bif v then Z else zT i (M t)
  let y:=W t i.toNat (zk Q)
  let c:=W e i.toNat (zk Q)
  let n:=bif A then bif v then aV (0,0,[]) (0,0,[])else aV (0,0,[]) y else bif v then aV c (0,0,[])else aV c y
  br (L (k<E))
  (Qd Z (Qd (zT q (M l)) (Qd (L (q.toNat<M l)) (Qd (zT a (M l)) (Qd (L (a.toNat<M l)) (Qd (cond A w (zT i (M e)&&w)) (br (!L (n<0)) (Qa (iG.h15 q i (Γ Δ (a+1)) E l)) (Qa (iG.h15 q i k a l)))))))))
  (Qa (iG.h21 k q l))
 | .h33 p q P i h F x G H l=>
  let a:=Γ Δ (IntKind.u64.wrap (Γ Δ (x+G))/2)
  let b:=Γ Δ (H-a)
  let e:=L (i<0)
  let s:=l.getD b.toNat (zk ze.sl)
  let A:=(M s:Int)
  let t:=bif e then Z else L (i>=A)
  let C:=l.getD a.toNat (zk ze.sl)
  let v:=(M C:Int)
  let w:=bif e then Z else L (i>=v)
  let y:=bif w then Z else zT i (M C)
  let c:=W C i.toNat (zk Q)
  let n:=W s i.toNat (zk Q)
  let x1:=bif t then bif w then aV (0,0,[]) (0,0,[])else aV (0,0,[]) c else bif w then aV n (0,0,[])else aV n c
  let d:=Γ Δ (F-x)
  let U:=SW l x q d i
  let h0:=bif L (p<x)then L (x<h)else false
  let z:=U.getD []
  let h1:=o z p x h i
  let u:=bif L (h<d)then L (d<P)else false
  let h2:=h1.getD []
  let h4:=o h2 h d P i
  let h5:=o z h d P i
  let h6:=o l p x h i
  let h7:=h6.getD []
  let h8:=o h7 h d P i
  let x0:=o l h d P i
  br (L (x<G))
  (Qd Z (Qd (zT b (M l)) (Qd (L (b.toNat<M l)) (Qd (zT a (M l)) (Qd (L (a.toNat<M l)) (Qd (cond t y (zT i (M s)&&y)) (br (!L (x1<0)) (Qa (iG.h33 p q P i h F (Γ Δ (a+1)) G H l))
  (Qa (iG.h33 p q P i h F x a H l)))))))))
  (br (cond (L (x<q)) (L (q<d)) false) (Qd U.isSome (br h0 (Qd h1.isSome (br u (Qd h4.isSome (re (tup []) [AO.vec ze.sl (h4.getD [])])) (re (tup []) [AO.vec ze.sl h2]))) (br u (Qd h5.isSome (re (tup []) [AO.vec ze.sl (h5.getD [])])) (re (tup []) [AO.vec ze.sl z])))) (br h0
  (Qd h6.isSome (br u (Qd h8.isSome (re (tup []) [AO.vec ze.sl (h8.getD [])])) (re (tup []) [AO.vec ze.sl h7]))) (br u (Qd x0.isSome (re (tup []) [AO.vec ze.sl (x0.getD [])])) (re (tup []) [AO.vec ze.sl l]))))
 | .h9 g j l=>
  let a:=Γ Δ (g-1)
  let b:=Γ Δ (j+1)
  let e:=L (j.toNat<M l)
  let s:=l.set j.toNat (l.getD b.toNat (zk ze.sl))
  br (L (j<a))
  (Qd (zT b (M l)) (Qd (L (b.toNat<M l)) (Qd (zT j (M l)) (Qd e (Qd (zT j (M l)) (Qd e (Qd (zT b (M s)) (Qd (L (b.toNat<M s)) (Qa (iG.h9 g b (s.set b.toNat (l.getD j.toNat (zk ze.sl)))))))))))))
  (re (tup []) [AO.vec ze.sl l])
 | .h21 k m l=>
  let a:=Γ Δ (m-1)
  let b:=L (m.toNat<M l)
  let e:=l.set m.toNat (l.getD a.toNat (zk ze.sl))
  br (L (m>k))
  (Qd (zT a (M l)) (Qd (L (a.toNat<M l)) (Qd (zT m (M l)) (Qd b (Qd (zT m (M l)) (Qd b (Qd (zT a (M e)) (Qd (L (a.toNat<M e)) (Qa (iG.h21 k a (e.set a.toNat (l.getD m.toNat (zk ze.sl)))))))))))))
  (re (tup []) [AO.vec ze.sl l])
theorem zij(o:SM):∀s,run (AP o) 1 Wl (Func.results f303).toList 400 (zZ f303 (Jj s).1) (Jj s).2=(eP o s).map (lf f303 Jj):=by intro s;cases s<;>kernel_rfl
def smS(o:SM):SM:=λl a m b k=>In (b6 (eP o) 100000000 (xv o l a m b k))
def CO:Nat->SM
 |0=>λ_ _ _ _ _=>Q2
 |n+1=>smS (CO n)
theorem Ok:∀n,FK 303 (FSm (CO n))
 | 0=>cY (E:=Gw) ⟨f303,(G6 (CO 0)).1,(G6 (CO 0)).2.1,(G6 (CO 0)).q.1⟩ fun x j d h=>by
  exfalso;unfold GSm at h;split at h
  .simp[CO,Q9]at h
  .simp at h
 | n+1=>by
  refine gC (E:=AP (CO n)) (ι:=List zo×Int×Int×Int×Int) (args:=λy=>[AV.vec 0,I y.2.1,I y.q.1,I y.r.1,AV.clo (Fn.func 182) [agg [I y.t]] []]) (heap:=λy=>[AO.vec ze.sl y.1]) (i:=λy=>xv (CO n) y.1 y.2.1 y.q.1 y.r.1 y.t) (t:=eP (CO n)) (e:=Jj) (n:=100000000) (n0:=1) (Mk (Ok n)) (G6 (CO n)) (λ_=>rfl) (λy=>zg6 _ _ _ _ _ _) (zij (CO n)) (λx h d c=>?_);unfold GSm at c;split at c
  .rename_i a m b k u l;simp only[Q9]at c;split at c
   next g=>simp only[ax]at c;subst c;exact⟨(l,a,m,b,k),rfl,rfl,qL g⟩
   .cases c
  .simp at c
def zcf:zV:=FSm (CO 16)
theorem Zc:FK 303 zcf:=Ok 16
def Bb:=Gw.add 303 zcf
theorem Bc:zm Bb:=Ba.add Zc
abbrev Wj:=fZ [(2,[0,1,2,6,7,8]),(7,[0,1,2,6]),(9,[0,1,2,6,7,8])]
inductive oJ where
 |h2 (i1:Int) (i2f_0_0:Int) (i6:Int) (i7:Int) (i8:Int) (lh_0:List (N ze.sl))
 |h7 (i1:Int) (i2f_0_0:Int) (i6:Int) (lh_0:List (N ze.sl))
 |h9 (i1:Int) (i2f_0_0:Int) (i6:Int) (i7:Int) (i8:Int) (lh_0:List (N ze.sl))
abbrev Jh:oJ->Nat×St
 |.h2 h i x a b l=>(2,⟨tm 63 [(0,AV.vec 0),(1,I h),(2,AV.clo (Fn.func 182) [agg [I i]] []),(6,I x),(7,I a),(8,I b)],[AO.vec ze.sl l]⟩)
 |.h7 h i x l=>(7,⟨tm 63 [(0,AV.vec 0),(1,I h),(2,AV.clo (Fn.func 182) [agg [I i]] []),(6,I x)],[AO.vec ze.sl l]⟩)
 |.h9 h i x a b l=>(9,⟨tm 63 [(0,AV.vec 0),(1,I h),(2,AV.clo (Fn.func 182) [agg [I i]] []),(6,I x),(7,I a),(8,I b)],[AO.vec ze.sl l]⟩)
theorem zib:zJ Bb.P 240 f240 3:=bG kw
def VZ(l:List zo)(n k:Int):K (oJ⊕ac):=
 Qa (oJ.h2 n k 20 0 20 l)
theorem zg4(l:List zo)(n k:Int):rn Bb 1 Wj f240 [AV.vec 0,I n,AV.clo (Fn.func 182) [agg [I k]] []] [AO.vec (Sh.sl Q) l]=(VZ l n k).map (lf f240 Jh):=kw
def jQ:oJ->K (oJ⊕ac)
 | .h2 h i x c a l=>
  let b:=vX l c a i
  let d:=vX l c h i
  br (L (a<=h)) (Qd b.isSome (Qa (oJ.h2 h i x a (Γ Δ (a+x)) (b.getD []))))
  (Qd d.isSome (Qa (oJ.h7 h i x (d.getD []))))
 | .h7 h i x l=>
  br (L (x<h)) (Qa (oJ.h9 h i x 0 (Γ Δ (2*x)) l))
  (re (tup []) [AO.vec ze.sl l])
 | .h9 h i x c a l=>
  let b:=Γ Δ (c+x)
  let d:=CO 16 l c b a i
  let e:=CO 16 l c b h i
  let g:=Γ Δ (x*2)
  br (L (a<=h)) (Qd d.isSome (Qa (oJ.h9 h i x a (Γ Δ (a+Γ Δ (2*x))) (d.getD []))))
  (br (L (b<h)) (Qd e.isSome (Qa (oJ.h7 h i g (e.getD [])))) (Qa (oJ.h7 h i g l)))
theorem zih:∀s,run Bb 1 Wj (Func.results f240).toList 400 (zZ f240 (Jh s).1) (Jh s).2=(jQ s).map (lf f240 Jh):=by intro s;cases s<;>kernel_rfl
def zd4(l:List zo)(n k:Int):=b6 jQ 100000000 (VZ l n k)
def Lj(l:List zo)(n k:Int):=In (zd4 l n k)
def zcs:ee [Q2,Q2,Q2]:=λx h=>match x,h with
 |(.vec 0,I n,.clo (.func 182) [.agg [I k]] [],_),[.vec (.sl Nn) l]=>.chk ((Lj l n k).isSome) (.ok (.tup [],[.vec (.sl Q) ((Lj l n k).getD [])]))
 |_,_=>.err
def zb8:zV:=au [Q2,Q2,Q2] zcs
theorem Y5:FK 240 zb8:=by
 refine gC (ι:=List zo×Int×Int) (args:=λy=>[AV.vec 0,I y.2.1,AV.clo (Fn.func 182) [agg [I y.q]] []]) (heap:=λy=>[AO.vec ze.sl y.1]) (i:=λy=>VZ y.1 y.2.1 y.q) (t:=jQ) (e:=Jh) (n:=100000000) (n0:=1) Bc zib (λ_=>rfl) (λy=>zg4 _ _ _) zih (λx h c a=>?_);unfold zcs at a;split at a
 .rename_i n k u l;simp only[Q9]at a;split at a
  next b=>simp only[ax]at a;subst a;exact⟨(l,n,k),rfl,rfl,qL b⟩
  .cases a
 .simp at a
def Gx:=Bb.add 240 zb8
theorem Bd:zm Gx:=Bc.add Y5
end
end Cad
