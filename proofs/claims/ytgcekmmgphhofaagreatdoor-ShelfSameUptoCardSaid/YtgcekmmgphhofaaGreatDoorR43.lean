/- Writers. -/
import Derived.Test.YtgcekmmgphhofaaGreatDoorR42
namespace Cad
open Go Go.Proofs Tryz
open List renaming drop->Qh,take->Qg,length->M
open IntKind renaming wrap->Γ,i64->Δ
open AV renaming ptr->Qf
open Tr renaming chk->Qd,«to»->Qa,val->Q9
open AO renaming box->Qb
open Bool renaming true->Z,false->J
open Option renaming some->Y
open Decidable renaming decide->L
open Int renaming toNat->T
open Tr (chk br re)
open AV (nils agg tup ptr kb)
open AV renaming sl->O,str->X
open Cad renaming Sem->N,ai->I,Tr->K,ze->Q,ow->S
noncomputable section
set_option maxHeartbeats 4000000
abbrev zow:=fZ [(2,[2,12,13,14])]
inductive IE where
 |h2 (l12:List (N ze.sl)) (i13:Int) (i14:Int) (lh_3:List (N (Sh.int IntKind.u8)))
abbrev zrZ:IE->Nat×St
 |.h2 x i h l=>(2,⟨tm 22 [(2,AV.clo (Fn.func 43) [] [Qf 1 0]),(12,O ze.sl x),(13,I i),(14,I h)],[Qb [Qf 0 0,AV.vec 3],Qb [Qf 0 0],AO.dead,AO.vec (Sh.int IntKind.u8) l]⟩)
theorem zpG:zJ OY.P 42 f42 3:=bG kw
def ztw(x:List fM)(l:List Int):K (IE⊕ac):=
 Qd ((Z||(WS.on l).b)&&(Z&&L ((WS.on l).l.length+(ft (M x:Int)).length<=aI)))
 (Qa (IE.h2 x (M x:Int) 0 (l++zR (ft (M x:Int)))))
def zuj:IE->K (IE⊕ac)
 | .h2 h x i l=>
  let a:=h.getD i.toNat (zk ze.sl)
  let b:=gK a
  br (L (i<x))
  (Qd (zT i (M h)) (Qd (DG a&&L (M l+M b<=aI)) (Qa (IE.h2 h x (Γ Δ (i+1)) (l++zR b)))))
  (re (tup []) [Qb [Qf 0 0,AV.vec 3],Qb [Qf 0 0],AO.dead,AO.vec (Sh.int IntKind.u8) l])
abbrev zoC:=fZ [(2,[2,12,13,14])]
inductive IF where
 |h2 (l12:zo) (i13:Int) (i14:Int) (lh_3:List (N (Sh.int IntKind.u8)))
abbrev zr2:IF->Nat×St
 |.h2 x i h l=>(2,⟨tm 22 [(2,AV.clo (Fn.func 51) [] [Qf 1 0]),(12,O Q x),(13,I i),(14,I h)],[Qb [Qf 0 0,AV.vec 3],Qb [Qf 0 0],AO.dead,AO.vec (Sh.int IntKind.u8) l]⟩)
theorem zpP:zJ OY.P 50 f50 3:=bG kw
def zty(x:zo)(l:List Int):K (IF⊕ac):=
 Qd ((Z||(WS.on l).b)&&(Z&&L ((WS.on l).l.length+(ft (M x:Int)).length<=aI)))
 (Qa (IF.h2 x (M x:Int) 0 (l++zR (ft (M x:Int)))))
def zuk:IF->K (IF⊕ac)
 | .h2 h x i l=>
  let a:=dY (h.getD i.toNat (zk Q))
  br (L (i<x))
  (Qd (zT i (M h)) (Qd (Z&&L (M l+M a<=aI)) (Qa (IF.h2 h x (Γ Δ (i+1)) (l++zR a)))))
  (re (tup []) [Qb [Qf 0 0,AV.vec 3],Qb [Qf 0 0],AO.dead,AO.vec (Sh.int IntKind.u8) l])
def zkk:=au [none,Y (.sl (.sl Q)),none] (pG J (.sl Q) 43 (eC DG) (er gK))
theorem zfm:FK 42 zkk:=DN (eσ:=zrZ) (t:=zuj) (n:=100000000) (keep:=zow) (gas:=400) (i:=λx l=>ztw x l) vN zpG (λx l=>by kernel_rfl) (λs=>by cases s<;>kernel_rfl) (λx l e h=>by
 have⟨b,d⟩:=jV e;refine ag (by have:=iw h;exact wg) ?_
 exact jY (f:=gK) (c:=DG) (λi a=>IE.h2 x (M x) i a) (λa=>(tup [],[.box [.ptr 0 0,.vec 3],.box [.ptr 0 0],.dead,.vec (.int .u8) a])) b
  (λi k a o m=>ka k b (g:=λy=>DG y&&L (M a+(gK y).length<=aI)) (K:=λy j=>IE.h2 x (M x) j (a++zR (gK y))) (by rw[zL m,o];rfl)) (λa=>jZ) d h)
 (σ':=Empty) (keep':=k0) (eσ':=e0) (t':=t0) (i':=λ_=>.err) nofun nofun nofun
def zkq:=au [none,Y (.sl Q),none] (pG J Q 51 (eC λ_=>Z) (er dY))
theorem zfs:FK 50 zkq:=DN (eσ:=zr2) (t:=zuk) (n:=100000000) (keep:=zoC) (gas:=400) (i:=λx l=>zty x l) vN zpP (λx l=>by kernel_rfl) (λs=>by cases s<;>kernel_rfl) (λx l e h=>by
 have⟨b,d⟩:=jV e;refine ag (by have:=iw h;exact wg) ?_
 exact jY (f:=dY) (c:=λ_=>Z) (λi a=>IF.h2 x (M x) i a) (λa=>(tup [],[.box [.ptr 0 0,.vec 3],.box [.ptr 0 0],.dead,.vec (.int .u8) a])) b
  (λi k a _ m=>ka k b (g:=λy=>Z&&L (M a+(dY y).length<=aI)) (K:=λy j=>IF.h2 x (M x) j (a++zR (dY y))) (by rw[zL m];rfl)) (λa=>jZ) d h)
 (σ':=Empty) (keep':=k0) (eσ':=e0) (t':=t0) (i':=λ_=>.err) nofun nofun nofun
def Vl:=OY.addL [(42,zkk),(50,zkq)]
theorem EQ:zm Vl:=vN.addL<|fc zfm<|fc zfs ip
abbrev zot:=fZ []
theorem zpD:zJ Vl.P 40 f40 2:=bG kw
def znL(t:zX)(l:List Int):K (Empty⊕ac):=
 let a:=(t.1.1,t.1.2.1,t.1.2.2.1,t.1.2.2.2.1,t.1.t.1,zP t.1.t.2)
 let h:=fk a
 let x:=l++zR h
 Qd ((J||(WS.on l).b)&&(Ic a&&L ((WS.on l).l.length+M h<=aI)))
 (Qd (eC DG t.2&&L (M x+(er gK t.2).length<=aI))
  (re (tup []) [Qb [Qf 1 0],Qb [Qf 1 0,AV.vec 3],AO.dead,AO.vec (Sh.int IntKind.u8) (x++zR (er gK t.2))]))
def lV(r:zX):Bool:=Ic r.1&&eC DG r.2
def zkh:=cF zl lV bA
theorem zfk:FK 40 zkh:=DM (eσ:=e0) (t:=t0) (n:=100000000) (keep:=zot) (gas:=400) (i:=λx l=>znL x l) EQ zpD (λx l=>by kernel_rfl) (Dh _ _ _ _ _) λx l b h=>by
 unfold lV at b;simp only[ar]at b;have e:M l+((fk x.1).length+(er gK x.2).length)<=aI:=by simpa[bA]using h
 obtain⟨⟨n,c,k,u,d,ck⟩,a⟩:=x;have e:M l+(M (fk (n,c,k,u,d,ck))+M (er gK a))<=aI:=e;unfold znL;simp only[zt];refine ag (by rw[b.1];exact wg) (ag (by rw[b.2];exact wg) ?_);show Y ((tup [],[.box [.ptr 1 0],.box [.ptr 1 0,.vec 3],.dead,.vec (.int .u8) (l++zR (fk (n,c,k,u,d,ck))++zR (er gK a))]):ac)=_;rw[zdZ];rfl
def Vm:=Vl.add 40 zkh
theorem ER:zm Vm:=EQ.add zfk
abbrev zor:=fZ [(2,[2,12,13,14])]
inductive IB where
 |h2 (l12:zH) (i13:Int) (i14:Int) (lh_3:List (N (Sh.int IntKind.u8)))
abbrev zrV:IB->Nat×St
 |.h2 x i h l=>(2,⟨tm 22 [(2,AV.clo (Fn.func 40) [] [Qf 1 0]),(12,O zl x),(13,I i),(14,I h)],[Qb [Qf 0 0,AV.vec 3],Qb [Qf 0 0],AO.dead,AO.vec (Sh.int IntKind.u8) l]⟩)
theorem zpB:zJ Vm.P 39 f39 3:=bG kw
def zts(x:zH)(l:List Int):K (IB⊕ac):=
 Qd ((Z||(WS.on l).b)&&(Z&&L ((WS.on l).l.length+(ft (M x:Int)).length<=aI)))
 (Qa (IB.h2 x (M x:Int) 0 (l++zR (ft (M x:Int)))))
def zui:IB->K (IB⊕ac)
 | .h2 h x i l=>
  let a:=h.getD i.toNat (zk zl)
  let b:=((a.1.1,a.1.2.1,a.1.q.1,a.1.r.1,a.1.t.1,zP a.1.u),a.2)
  let c:=bA b
  br (L (i<x))
  (Qd (zT i (M h)) (Qd (lV b&&L (M l+M c<=aI)) (Qa (IB.h2 h x (Γ Δ (i+1)) (l++zR c)))))
  (re (tup []) [Qb [Qf 0 0,AV.vec 3],Qb [Qf 0 0],AO.dead,AO.vec (Sh.int IntKind.u8) l])
abbrev zos:=fZ [(2,[2,12,13,14])]
inductive IC where
 |h2 (l12:zH) (i13:Int) (i14:Int) (lh_2:List (N (Sh.int IntKind.u8)))
abbrev zrW:IC->Nat×St
 |.h2 x i h l=>(2,⟨tm 22 [(2,AV.clo (Fn.func 40) [] [Qf 1 0]),(12,O zl x),(13,I i),(14,I h)],[Qb [Qf 0 0,AV.vec 2],Qb [Qf 0 0],AO.vec (Sh.int IntKind.u8) l]⟩)
def ztt(x:zH):K (IC⊕ac):=
 Qd ((Z||WS.new.b)&&(Z&&L (WS.new.l.length+(ft (M x:Int)).length<=aI)))
 (Qa (IC.h2 x (M x:Int) 0 (zR (ft (M x:Int)))))
def zqQ:IC->K (IC⊕ac)
 | .h2 h x i l=>
  let a:=h.getD i.toNat (zk zl)
  let b:=((a.1.1,a.1.2.1,a.1.q.1,a.1.r.1,a.1.t.1,zP a.1.u),a.2)
  let c:=bA b
  br (L (i<x))
  (Qd (zT i (M h)) (Qd (lV b&&L (M l+M c<=aI)) (Qa (IC.h2 h x (Γ Δ (i+1)) (l++zR c)))))
  (re (tup []) [Qb [Qf 0 0,AV.vec 2],Qb [Qf 0 0],AO.vec (Sh.int IntKind.u8) l])
def zkg:=au [none,Y (.sl zl),none] (pG Z zl 40 (eC lV) (er bA))
theorem zfj:FK 39 zkg:=DN (eσ:=zrV) (t:=zui) (n:=100000000) (keep:=zor) (gas:=400) (i:=λx l=>zts x l) ER zpB (λx l=>by kernel_rfl) (λs=>by cases s<;>kernel_rfl) (λx l k h=>by
 have⟨d,e⟩:=jV k;refine ag (by have:=iw h;exact wg) ?_
 exact jY (f:=bA) (c:=lV) (λi b=>IB.h2 x (M x) i b) (λb=>(tup [],[.box [.ptr 0 0,.vec 3],.box [.ptr 0 0],.dead,.vec (.int .u8) b])) d
  (λi m b p o=>ka m d (g:=λy=>lV y&&L (M b+(bA y).length<=aI)) (K:=λy j=>IB.h2 x (M x) j (b++zR (bA y))) (by rw[zL o,p];rfl)) (λb=>jZ) e h)
 (eσ':=zrW) (t':=zqQ) (keep':=zos) (i':=λx=>ztt x) (λ_ x=>by kernel_rfl) (λ_ s=>by cases s<;>kernel_rfl) (λ_ x k h=>by
 have⟨d,e⟩:=jV k;refine ag (by have:=iw (l:=[]) (by simpa using h);exact wg) ?_
 have:=jY (f:=bA) (c:=lV) (t:=zqQ) (λi b=>IC.h2 x (M x) i b) (λb=>(tup [],[.box [.ptr 0 0,.vec 2],.box [.ptr 0 0],.vec (.int .u8) b])) d
  (λi m b p o=>ka m d (g:=λy=>lV y&&L (M b+(bA y).length<=aI)) (K:=λy j=>IC.h2 x (M x) j (b++zR (bA y))) (by rw[zL o,p];rfl)) (λb=>jZ) e (l:=[]) (a:=ft (M x)) (by show 0+(er bA x).length<=aI;omega)
 exact this)
def OZ:=Vm.add 39 zkg
theorem vO:zm OZ:=ER.add zfj
abbrev znW:=fZ []
theorem zpe:zJ OZ.P 13 f13 2:=bG kw
def zth(x:zH)(l:List Int):K (Empty⊕ac):=
 Qd (eC lV x&&L (M l+(er bA x).length<=aI))
 (re (tup []) [Qb [Qf 0 0,AV.vec 2],AO.dead,AO.vec (Sh.int IntKind.u8) (l++zR (er bA x))])
abbrev znX:=fZ []
theorem zpf:zJ OZ.P 13 f13 2:=bG kw
def zti(x:zH):K (Empty⊕ac):=
 Qd (Z&&(eC lV x&&L ((er bA x).length<=aI)))
 (re (tup []) [Qb [Qf 0 0,AV.vec 1],AO.vec (Sh.int IntKind.u8) (zR (er bA x))])
def zjA:=wF Z [.sl zl] (λx=>eC lV x.1) λx=>er bA x.1
theorem zez:FK 13 zjA:=
 Al (wP (e:=e0) (t:=t0) (n:=100000000) (keep:=znW) (gas:=400) (i:=λx l=>zth x.1 l) vO zpe (λx l=>by kernel_rfl) (Dh _ _ _ _ _) λx l a h=>ag (by rw[show eC lV x.1=Z from a];exact wg) rfl)
  (Am (e:=e0) (t:=t0) (n:=100000000) (keep:=znX) (gas:=400) (i:=λx=>zti x.1) vO zpf (λx=>by kernel_rfl) (Dh _ _ _ _ _) λx a h=>ag (by rw[show eC lV x.1=Z from a];exact wg) rfl)
def Vn:=OZ.add 13 zjA
theorem ES:zm Vn:=vO.add zez
abbrev zn4:=fZ []
theorem zpk:zJ Vn.P 19 f19 2:=bG kw
def znG(t:cU)(l:List Int):K (Empty⊕ac):=
 let q:=l++zR (dZ t.1.1)
 let a1:=WS.on q
 let s:=dZ t.1.2.1
 let u:=q++zR s
 let a4:=WS.on u
 let v:=dZ t.1.2.2.1
 let w:=u++zR v
 let a7:=WS.on w
 let y:=(t.1.2.2.2.1.1,t.1.2.2.2.1.2.1,t.1.2.2.2.1.2.2.1,t.1.2.2.2.1.2.2.2.1,t.1.2.2.2.1.t.1,zP t.1.2.2.2.1.t.2)
 let z:=fk y
 let a:=w++zR z
 let h:=er ft t.1.t.1
 let c:=a++zR h
 let a13:=WS.on c
 let d:=ft t.1.t.2
 let e:=c++zR d
 let a16:=WS.on e
 let g:=er bA t.2.1
 let i:=e++zR g
 let j:=er dY t.2.2.1.1
 let k:=i++zR j
 let a21:=WS.on k
 let p:=jR t.2.2.1
 let m:=dZ p.1
 let n:=k++zR m
 let a25:=WS.on n
 let o:=ft t.2.2.2
 Qd ((Z||(WS.on l).b)&&(Z&&L ((WS.on l).l.length+(dZ t.1.1).length<=aI)))
 (Qd ((Z||a1.b)&&(Z&&L (a1.l.length+M s<=aI)))
  (Qd ((Z||a4.b)&&(Z&&L (a4.l.length+M v<=aI))) (Qd ((J||a7.b)&&(Ic y&&L (a7.l.length+M z<=aI))) (Qd (eC (λ_=>Z) t.1.t.1&&L (M a+M h<=aI)) (Qd ((Z||a13.b)&&(Z&&L (a13.l.length+M d<=aI)))
  (Qd ((Z||a16.b)&&(eC lV t.2.1&&L (a16.l.length+M g<=aI))) (Qd (eC (λ_=>Z) t.2.2.1.1&&L (M i+M j<=aI)) (Qd (kU t.2.2.1) (Qd ((Z||a21.b)&&(Z&&L (a21.l.length+M m<=aI))) (Qd ((Z||a25.b)&&(Z&&L (a25.l.length+M o<=aI)))
  (re (tup []) [Qb [Qf 0 0,AV.vec 2],AO.dead,AO.vec (Sh.int IntKind.u8) (n++zR o)])))))))))))
def mE(m:cU):Bool:=Ic m.1.2.2.2.1&&(eC (λ_=>Z) m.1.t.1&&(eC lV m.2.1&&(eC (λ_=>Z) m.2.2.1.1&&(kU m.2.2.1&&(jR m.2.2.1).1==qS m.2.2.1))))
def zjO:=wF J [cZ] (λx=>mE x.1) λx=>dX x.1
theorem zeL:FK 19 zjO:=wP (e:=e0) (t:=t0) (n:=100000000) (keep:=zn4) (gas:=400) (i:=λx l=>znG x.1 l) ES zpk (λx l=>by kernel_rfl) (Dh _ _ _ _ _) λx l v h=>by
 obtain⟨m,u⟩:=x;obtain⟨⟨j,d,w,⟨n,c,k,q,p,ck⟩,g,o⟩,s,a,b⟩:=m;have v:mE ((j,d,w,(n,c,k,q,p,ck),g,o),s,a,b)=Z:=v;simp only[mE,ar,be]at v;obtain⟨z,A,C,D,E,F⟩:=v;have h:M l+(dX ((j,d,w,(n,c,k,q,p,ck),g,o),s,a,b)).length<=aI:=h;have y:l++zR (dZ j)++zR (dZ d)++zR (dZ w)++zR (fk (n,c,k,q,p,ck))++zR (er ft g)++zR (ft o)++zR (er bA s)++zR (er dY a.1)++zR (dZ (qS a))++zR (ft b)=l++zR (dX ((j,d,w,(n,c,k,q,p,ck),g,o),s,a,b)):=by
  show _=l++zR ((dZ j++(dZ d++(dZ w++(fk (n,c,k,q,p,ck)++(er ft g++ft o)))))++(er bA s++(er dY a.1++(dZ (qS a)++ft b))));simp only[ek,iI]
 have e:M l+(dZ j).length+(dZ d).length+(dZ w).length+M (fk (n,c,k,q,p,ck))+(er ft g).length+(ft o).length+(er bA s).length+(er dY a.1).length+(dZ (qS a)).length+(ft b).length<=aI:=by
  have h:M l+((dZ j++(dZ d++(dZ w++(fk (n,c,k,q,p,ck)++(er ft g++ft o)))))++(er bA s++(er dY a.1++(dZ (qS a)++ft b)))).length<=aI:=h;simp only[cL]at h;omega
 unfold znG;simp only[zt];rw[F];refine ag ?_ (ag ?_ (ag ?_ (ag ?_ (ag ?_ (ag ?_ (ag ?_ (ag ?_ (ag E (ag ?_ (ag ?_ ?_))))))))))
 .exact wg
 .exact wg
 .exact wg
 .rw[z];exact wg
 .rw[A];exact wg
 .exact wg
 .rw[C];exact wg
 .rw[D];exact wg
 .exact wg
 .exact wg
 .show Y ((tup [],[Qb [Qf 0 0,AV.vec 2],AO.dead,AO.vec (Sh.int IntKind.u8) (l++zR (dZ j)++zR (dZ d)++zR (dZ w)++zR (fk (n,c,k,q,p,ck))++zR (er ft g)++zR (ft o)++zR (er bA s)++zR (er dY a.1)++zR (dZ (qS a))++zR (ft b))]):ac)=_;rw[y];rfl
def Vo:=Vn.add 19 zjO
theorem ET:zm Vo:=ES.add zeL
abbrev zn2:=fZ [(2,[2,12,13,14])]
inductive Ix where
 |h2 (l12:List (N ((Sh.str.pr (Sh.str.pr (Sh.str.pr (zN.pr (zi.sl.pr zi))))).pr (zl.sl.pr ((ze.sl.pr (Sh.int IntKind.u8).sl).pr zi))))) (i13:Int) (i14:Int) (lh_2:List (N (Sh.int IntKind.u8)))
abbrev zrG:Ix->Nat×St
 |.h2 x i h l=>(2,⟨tm 22 [(2,AV.clo (Fn.func 19) [Qf 0 0] []),(12,O ((Sh.str.pr (Sh.str.pr (Sh.str.pr (zN.pr (zi.sl.pr zi))))).pr (zl.sl.pr ((ze.sl.pr (Sh.int IntKind.u8).sl).pr zi))) x),(13,I i),(14,I h)],[Qb [Qf 0 0,AV.vec 2],AO.dead,AO.vec (Sh.int IntKind.u8) l]⟩)
theorem zpj:zJ Vo.P 18 f18 3:=bG kw
def ztk(x:List (N cZ))(l:List Int):K (Ix⊕ac):=
 Qd ((Z||(WS.on l).b)&&(Z&&L ((WS.on l).l.length+(ft (M x:Int)).length<=aI)))
 (Qa (Ix.h2 x (M x:Int) 0 (l++zR (ft (M x:Int)))))
def zug:Ix->K (Ix⊕ac)
 | .h2 x c i h=>
  let a:=x.getD i.toNat (zk ((Sh.str.pr (Sh.str.pr (Sh.str.pr (zN.pr (zi.sl.pr zi))))).pr (zl.sl.pr ((ze.sl.pr (Sh.int IntKind.u8).sl).pr zi))))
  let d:=((a.1.1,a.1.2.1,a.1.q.1,(a.1.r.1.1,a.1.r.1.2.1,a.1.r.1.q.1,a.1.r.1.r.1,a.1.r.1.t.1,zP a.1.r.1.u),a.1.t),a.2)
  let e:=dX d
  br (L (i<c))
  (Qd (zT i (M x)) (Qd ((J||(WS.on h).b)&&(mE d&&L ((WS.on h).l.length+M e<=aI))) (Qa (Ix.h2 x c (Γ Δ (i+1)) (h++zR e)))))
  (re (tup []) [Qb [Qf 0 0,AV.vec 2],AO.dead,AO.vec (Sh.int IntKind.u8) h])
def zjM:=au [none,Y (.sl cZ),none] (mG cZ 19 (eC mE) (er dX))
theorem zeJ:FK 18 zjM:=zcp (eσ:=zrG) (t:=zug) (n:=100000000) (keep:=zn2) (gas:=400) (i:=λx l=>ztk x l) ET zpj (λx l=>by kernel_rfl) (λs=>by cases s<;>kernel_rfl) (λx l m h=>by
 have⟨d,k⟩:=jV m;refine ag (by have:=iw h;exact wg) ?_
 exact jY (e:=cZ) (f:=dX) (c:=mE) (λi a=>Ix.h2 x (M x) i a) (λa=>(tup [],[.box [.ptr 0 0,.vec 2],.dead,.vec (.int .u8) a])) d
  (λi o a q p=>ka (e:=cZ) o d (g:=λy=>(J||(WS.on a).b)&&(mE y&&L ((WS.on a).l.length+(dX y).length<=aI))) (K:=λy j=>Ix.h2 x (M x) j (a++zR (dX y))) (by show(Z&&(mE _&&L (M a+_<=aI)))=Z;rw[zL p,q];rfl)) (λa=>jZ) k h)
def zdk:=Vo.add 18 zjM
theorem EU:zm zdk:=ET.add zeJ
def i6j(h:bu):K (Empty⊕ac):=
 let a:=zR (er bA h.1)
 let c:=er dh h.2.1
 let d:=a++zR c
 let e:=er dX h.q
 let g:=d++zR e
 Qd (Ip h)
 (br (N6 h !=0) (re (tup [X [],I 1]) [])
  (Qd ((Z||WS.new.b)&&(eC lV h.1&&L (WS.new.l.length+(er bA h.1).length<=aI))) (Qd (eC (λ_=>Z) h.2.1&&L (M a+M c<=aI)) (Qd (eC mE h.q&&L (M d+M e<=aI)) (Qd (L (0<M g)) (re (tup [X (aL g),I 0]) []))))))
def ul(x:bu):=aA [Sh.str,zi] t0 100000000 (i6j x)
def uk(x:bu):=(ul x).isSome
def lZ(x:bu):=o2 (ul x)
def F6j:=FT [bL] [Sh.str,zi] λx=>ul x.1
theorem zco:FK 6 F6j:=EU.T1 (f:=f6) (keep:=k0) (e:=e0)
def zdl:=zdk.add 6 F6j
theorem R1:zm zdl:=EU.add zco
open Go Go.Proofs Go.Lib
theorem E8{B:Nat}:∀l:zo,(∀v∈l,(cV v).length<=B)->(l.flatMap cV).length<=M l*B
 |[],_=>by simp
 | x::r,h=>by
  have:=h x sw;have:=E8 r λy a=>h y (by simp[a])
  simp only[List.flatMap_cons,cL,bx,jG];omega
theorem XM{r:zo}(m:M r<=12)(a:∀v∈r,aP v=Z):HC r=Y (r.flatMap cV,0,()):=by
 have h:(zho r).val=Y (.inl (.h5 ((r.take 0).flatMap cV) r (M r:Int) ((0:Nat):Int))):=by
  have e:L ((M r:Int)>12)=J:=aQ S;simp only[zho,Q9,e,zO,zr];rfl
 have c:=z8.all (t:=zbl) 1 (λi=>.h5 ((r.take i).flatMap cV) r (M r:Int) (i:Int)) (M r) λi h=>z8.of (by
  have x:=a _ (bN h);have g:=Gf x;have j:=E8 (B:=42) (r.take i) λv d=>Gf (a v (List.mem_of_mem_take d))
  have b:(r.take i).length<=12:=by rw[kG];omega
  have l:=gu 42 b;have e:r.take (i+1)=r.take i++[r[i]]:=(List.take_append_getElem h).symm;simp only[zbl,Q9,z6 h,zx h,bt _ _ h,x,zj,gv,zO,zr];rw[zf (zL S),zz i um,e,List.flatMap_append];simp)
 refine zF h (c.ends (k:=1) (r:=(.tup [.str (r.flatMap cV),I 0],[])) (aF.of ?_)) S rfl;simp only[zbl,Q9,aw,zO,zr,jg]
theorem zqC{w:zo}(x:M w<=12)(a:∀v∈w,aP v=Z):DG w=Z:=by have h:=XM x a;unfold DG Nx P5;rw[h];simp[o2]
theorem zd2{x:zX}(h:uM x):lV x=Z:=by unfold lV;rw[(ux h.tab).1,GH (aB h.ok.few S) λw a=>zqC (aB (h.row w a).1 S) λv b=>((h.row w a).2 v b).1];rfl
variable {y:zH}
theorem zhY{m:cU}(b:dO y)(d:∀x∈y,wV x)(a:oL m)(h:nZ y m):mE m=Z:=by
 have c:M m.2.1<=2:=by
  have:=congrArg M h.plan.names;rw[bR]at this;rw[this];unfold bK;split<;>simp
 unfold mE;rw[(ux (tS b d h)).1,mw (aB h.plan.mok.few S),GH S λx e=>zd2 (pt a h x e),mw (aB h.n200 S),Hd a.trk,Yg a.trk h.tchk];simp
theorem Rh(s:zD):aL (zR s)=s:=by
 unfold aL zR;rw[hZ]
 conv=>rhs;rw[<-List.map_id s]
 refine List.map_congr_left λc _=>UInt8.toNat_inj.1 ?_
 simp
variable {α:Type}
theorem zaE{f:α->zD}{l:List α}:0<(er f l).length:=by unfold er ft dZ;simp;omega
variable {l:bu}
theorem S2(h:Zj l)(A:GrS l)(E:∀m∈l.q,Zm m):(∃e:Int,e≠0/\ul l=Y ([],e,()))\/(kA l/\ul l=Y (lB l,0,())):=by
 have⟨e,i,t⟩:=Lz h;have z:Ip l=Z:=by unfold Ip;rw[i];rfl
 have n:N6 l=e:=by unfold N6;rw[i];rfl
 by_cases d:e=0;rotate_left
 .refine .inl ⟨1,by decide,zG (r:=(.tup [.str [],I 1],[])) ?_ rfl⟩;have:(e !=0)=Z:=by simpa using d
  simp only[i6j,Q9,z,n,this,zj]
 have⟨g,j⟩:=t d;subst d;have c:kA l:=⟨g,h.db,h.gr,A,h.mv,λm a=>⟨h.moves m a,E m a,j m a⟩⟩;refine .inr ⟨c,zG (r:=(.tup [.str (lB l),I 0],[])) ?_ rfl⟩;have G:=c.len1;have H:=c.len2;have P:=c.len3;have C:=h.gr;have D:=h.mv;have o:eC lV l.1=Z:=GH (aB g.few S) λx F=>zd2 (c.rel x F)
 have p:eC (λ_=>Z) l.2.1=Z:=mw S;have s:eC mE l.q=Z:=GH S λm a=>zhY g h.db (h.moves m a) (j m a)
 have u:((Z||WS.new.b)&&(eC lV l.1&&L (WS.new.l.length+(er bA l.1).length<=aI)))=Z:=by
  rw[o];simp[WS.l,aI];omega
 have v:(eC (λ_=>Z) l.2.1&&L ((zR (er bA l.1)).length+(er dh l.2.1).length<=aI))=Z:=by
  rw[p];simp[em,aI];omega
 have w:(eC mE l.q&&L ((zR (er bA l.1)++zR (er dh l.2.1)).length+(er dX l.q).length<=aI))=Z:=by
  rw[s];simp[em,aI];omega
 have y:L (0<(zR (er bA l.1)++zR (er dh l.2.1)++zR (er dX l.q)).length)=Z:=by
  have:=zaE (f:=bA) (l:=l.1);simp[em];omega
 have k:aL (zR (er bA l.1)++zR (er dh l.2.1)++zR (er dX l.q))=lB l:=by
  rw[<-ek,<-ek,Rh];unfold lB;rw[iI]
 simp only[i6j,Q9,z,n,u,v,w,y,k,kF,zO,zj,zr]
theorem R9(s:zD):∃r:zD,yD s=Y (r,())/\M r<=20:=by
 by_cases h:M s>20
 .refine⟨_,zG (r:=(.str (Qg (T 20-T 0) (Qh (T 0) s)),[])) ?_ rfl,?_⟩
  .have e:L ((M s:Int)>20)=Z:=zL S;have x:(L (0<=0)&&L (0<=20)&&L (20<=(M s:Int)))=Z:=by simp;omega
   simp only[zhp,Q9,e,zj];rw[zf x]
  .show(Qg 20 s).length<=20;rw[kG];omega
 .refine⟨s,zG (r:=(.str s,[])) ?_ rfl,S⟩;have e:L ((M s:Int)>20)=J:=aQ S;simp only[zhp,Q9,e,zO,zr]
theorem JW(s:zD):yC s=Z/\(pl s).length<=20:=by have⟨r,h,x⟩:=R9 s;exact⟨by unfold yC;rw[h];rfl,by unfold pl;rw[h];exact x⟩
theorem OL(n k:Nat):(cond (L (((min k n:Nat):Int)<(n:Int))) (L (((min k n:Nat):Int)<(k:Int))) J)=J:=by
 by_cases h:k<=n
 .rw[Nat.min_eq_left h];simp
 .rw[IV S];simp
variable {n:Nat}
theorem Uz{k i:Nat}(h:i<min k n):(cond (L ((i:Int)<(n:Int))) (L ((i:Int)<(k:Int))) J)=Z:=by
 have x:i<k/\i<n:=by omega
 rw[zL (show(i:Int)<n by omega),bU];exact zL S
theorem Ws(l:pQ):∃x:pQ,BN l=Y (x,())/\M x<=61/\∀g∈x,M g.1<=1000/\M g.2.1<=1000:=by
 have⟨r,c,x,s,u⟩:=di (t:=S7) (β:=pQ) (min 61 (M l)) (λb i=>.h3 l (i:Int) b) (λb i=>M b=i/\∀g∈b,M g.1<=1000/\M g.2.1<=1000)
  (λr=>∃x:pQ,bc r.2 [aD.sl] r.1=Y (x,())/\M x<=61/\∀g∈x,M g.1<=1000/\M g.2.1<=1000) 1 (by
   rintro b i v ⟨m,j⟩;have a:i<M l:=by omega
   have⟨o,w⟩:=JW l[i].1;have⟨p,y⟩:=JW l[i].2.1;refine .inl ⟨b++[(pl l[i].1,pl l[i].2.1,l[i].q)],⟨by simp[m],λg h=>?_⟩,?_⟩
   .rcases bX.1 h with h|h
    .exact j g h
    .rw[eh.1 h];exact⟨by show(pl l[i].1).length<=1000;omega,by show(pl l[i].2.1).length<=1000;omega⟩
   .have d:=Uz v;have d:(cond (L ((i:Int)<(M l:Int))) (L ((i:Int)<61)) J)=Z:=d;simp only[S7,Q9,d,zx a,bt _ _ a,o,p,zj];rw[zf (zL sg),zz i um]) (by
   rintro b n ⟨m,j⟩ z;obtain⟨n,rfl⟩:∃k,n=k+1:=⟨n-1,S⟩;rw[cq];have e:=OL (M l) 61;have e:(cond (L (((min 61 (M l):Nat):Int)<(M l:Int))) (L (((min 61 (M l):Nat):Int)<61)) J)=J:=e;simp only[S7,Q9,e];exact⟨_,rfl,b,rfl,S,j⟩) (min 61 (M l)) 0 [] 100000000 rfl (zU _) ⟨rfl,sw⟩ S
 refine⟨x,?_,u⟩;unfold BN aA b6;show(cg S7 100000000 _).bind _=_;have c:cg S7 100000000 (.h3 l 0 [])=Y r:=c;rw[c];exact s
def VD(m:cU):cU:=
 ((m.1.1,m.1.2.1,m.1.q.1,m.1.r.1,if L ((M m.1.t.1:Int)>12)=Z then Qg (T 12-T 0) (Qh (T 0) m.1.t.1)else m.1.t.1,m.1.u),ot m.2.1,
  (ite (L ((M m.q.1.1:Int)>40)=Z) (Qg (T 40-T 0) (Qh (T 0) m.q.1.1)) m.q.1.1,if L ((M m.q.1.2:Int)>6)=Z then Qg (T 6-T 0) (Qh (T 0) m.q.1.2)else m.q.1.2),
  if L (m.r>1099511627776)=Z then 1099511627776 else m.r)
theorem GP(d:zH):GO d=Z/\(ot d).length<=13/\∀x∈ot d,∃y∈d,x=xC y:=by
 have⟨h,a,b,c⟩:=Wq d;have e:ot d=h:=by unfold ot;rw[a];rfl
 exact⟨by unfold GO;rw[a];rfl,by rw[e];exact b,by rw[e];exact c⟩
theorem VE{g:pQ}{b:List (N cZ)}(A:n<min 4 (M l.q))(D:M b=n)(c:∀m∈l.q,M m.q.1.2<=2000000):
  (t6l (.h3 (n:Int) (l.1,l.2.1,l.q,()) () (y,g,b,()))).val=Y (.inl (.h3 ((n+1:Nat):Int) (l.1,l.2.1,l.q,()) () (y,g,b++[VD (l.q[n]'ow)],()))):=by
 have a:n<M l.q:=by omega
 have z:(cond (L ((n:Int)<(M l.q:Int))) (L ((n:Int)<4)) J)=Z:=Uz A;have w:=c _ (bN a);have j:=(GP l.q[n].2.1).1;have k:∀{x:cU},L (M b+[x].length<=1073741824)=Z:=λ{x}=>zL sg
 have o:L (M (Qg (T 6-T 0) (Qh (T 0) l.q[n].q.1.2))<=1073741824)=Z:=zL (by rw[kG];show min 6 _<=_;omega);have p:L (M l.q[n].q.1.2<=1073741824)=Z:=zL S;have d:L ((M l.q[n].q.1.1:Int)>40)=Z->(L (0<=0)&&L (0<=40)&&L (40<=(M l.q[n].q.1.1:Int)))=Z:=λh=>by simp at h|-;omega
 have e:L ((M l.q[n].q.1.2:Int)>6)=Z->(L (0<=0)&&L (0<=6)&&L (6<=(M l.q[n].q.1.2:Int)))=Z:=λh=>by simp at h|-;omega
 have i:L ((M l.q[n].1.t.1:Int)>12)=Z->(L (0<=0)&&L (0<=12)&&L (12<=(M l.q[n].1.t.1:Int)))=Z:=λh=>by simp at h|-;omega
 unfold VD;simp only[t6l,Q9,z,zx a,bt _ _ a,j,zt,aJ,o,p,zj,zz n um];cases s:L ((M l.q[n].q.1.1:Int)>40)<;>cases u:L ((M l.q[n].q.1.2:Int)>6)<;>cases v:L ((M l.q[n].1.t.1:Int)>12)<;>cases C:L (l.q[n].r>1099511627776)
 all_goals
  try rw[s]at d
  try rw[u]at e
  try rw[v]at i
  simp only[d,e,i,k,zj,zO,zr,aJ]
structure InZ (l:bu):Prop where
 db:∀x∈l.1,RgR x
 src:∀m∈l.q,∀x∈m.2.1,RgR x
 us:∀m∈l.q,∀v∈m.q.1.1,Zn v
 u8:∀m∈l.q,∀b∈m.q.1.2,LE.le (α:=Int) 0 b/\LE.le (α:=Int) b 255
 nb:∀m∈l.q,M m.q.1.2<=2000000
 plan:∀m∈l.q,DW m.1
 rng:∀m∈l.q,DY m.1.r.1.u
 rgm:∀m∈l.q,Zm m
theorem Kl(h:∀x∈y,RgR x):∀x∈ot y,wV x:=λx b=>by
 obtain⟨a,c,rfl⟩:=(GP y).q x b;exact Wp (h a c)
theorem Na{c:Bool}{l a:List α}{x:α}(h:x∈(ite (c=Z) l a))(b:∀z∈l,z∈a):x∈a:=by
 cases c
 .exact h
 .exact b _ h
theorem GY{k:Nat}{l:List α}:∀z∈Qg n (Qh k l),z∈l:=λ_ h=>List.mem_of_mem_drop (List.mem_of_mem_take h)
theorem zgS(x:InZ l){m:cU}(a:m∈l.q):oL (VD m)/\Zm (VD m):=by
 refine⟨⟨Kl (x.src m a),⟨λv g=>?_,?_,λb d=>?_⟩,?_,x.rng m a⟩,?_⟩
 .exact x.us m a v (Na (c:=L ((M m.q.1.1:Int)>40)) g GY)
 .show M (ite (L ((M m.q.1.2:Int)>6)=Z) (Qg 6 m.q.1.2) m.q.1.2)<=1000;split
  .rw[kG];omega
  next h=>simp at h;omega
 .exact x.u8 m a b (Na (c:=L ((M m.q.1.2:Int)>6)) d GY)
 .have⟨p,i,j,k,n,o⟩:=x.plan m a;refine⟨p,i,j,k,n,?_⟩;show M (ite (L ((M m.1.t.1:Int)>12)=Z) (Qg 12 m.1.t.1) m.1.t.1)<=2000000;split
  .rw[kG];omega
  .exact o
 .have⟨s,u,w⟩:=x.rgm m a;refine⟨λc e=>s c (Na (c:=L ((M m.1.t.1:Int)>12)) e GY),u,?_⟩;show bq .i64 (ite (L (m.r>1099511627776)=Z) 1099511627776 m.r);split
  .simp[bq,IntKind.min,IntKind.max,IntKind.signed,IntKind.bits]
  .exact w
theorem Fi(o:InZ l):∃c:bu,tI l=Y (c,())/\Zj c/\GrS c/\∀m∈c.q,Zm m:=by
 have⟨u,E,_⟩:=GP l.1;have⟨g,p,F,v⟩:=Ws l.2.1;have w:M8 l.2.1=Z:=by unfold M8;rw[p];rfl
 have y:Wr l.2.1=g:=by unfold Wr;rw[p];rfl
 have e:(i6l l).val=Y (.inl (.h3 ((0:Nat):Int) (l.1,l.2.1,l.q,()) () (ot l.1,g,[],()))):=by
  simp only[i6l,Q9,u,w,y,zj];rfl
 have⟨r,z,a,A,C,s⟩:=di (t:=t6l) (β:=List (N cZ)) (min 4 (M l.q)) (λb i=>.h3 (i:Int) (l.1,l.2.1,l.q,()) () (ot l.1,g,b,())) (λb i=>M b=i/\∀m∈b,oL m/\Zm m)
  (λr=>∃a:List (N cZ),bc r.2 [bL] r.1=Y ((ot l.1,g,a),())/\M a<=4/\∀m∈a,oL m/\Zm m) 1 (by
   rintro b i e ⟨d,x⟩;have j:i<M l.q:=by omega
   refine .inl ⟨b++[VD l.q[i]],⟨by simp[d],λm h=>?_⟩,VE e d o.nb⟩;rcases bX.1 h with h|h
   .exact x m h
   .rw[eh.1 h];exact zgS o (bN j)) (by
   rintro b n ⟨d,x⟩ G;obtain⟨n,rfl⟩:∃k,n=k+1:=⟨n-1,S⟩;rw[cq];have D:(cond (L (((min 4 (M l.q):Nat):Int)<(M l.q:Int))) (L (((min 4 (M l.q):Nat):Int)<4)) J)=J:=OL (M l.q) 4;simp only[t6l,Q9,D];exact⟨_,rfl,b,rfl,S,x⟩) (min 4 (M l.q)) 0 [] 100000000 rfl (zU _) ⟨rfl,sw⟩ S
 refine⟨(ot l.1,g,a),?_,⟨Kl o.db,by show M g<=1000;omega,C,λm x=>(s m x).1⟩,v,λm x=>(s m x).2⟩;unfold tI aA b6;rw[e];show(cg t6l 100000000 _).bind _=_;rw[z];exact A
end
end Cad
