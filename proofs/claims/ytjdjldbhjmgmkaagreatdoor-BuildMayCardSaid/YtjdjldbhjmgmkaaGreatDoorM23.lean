/- Rows. -/
import Derived.Test.YtjdjldbhjmgmkaaGreatDoorM22
namespace Cad
open Go Go.Proofs
open List renaming length->X
open IntKind renaming wrap->Γ,i64->Δ
open AO renaming box->Qa
open Sh renaming expr->Q5
open Bool renaming true->O,false->S
open Option renaming none->Q2,some->M
open Decidable renaming decide->N,decide->Q0
open List renaming getD->Y
open Tr (chk br re)
open AV (nils agg tup ptr kb)
open AV renaming str->I,sl->T
open Cad renaming ai->L,ze->K,Sem->J,ow->W
set_option maxHeartbeats 4000000
noncomputable section
abbrev SM:=List zr->Int->Int->Int->Int->Option (List zr)
def GSm(o:SM):fz [Q2,Q2,Q2,Q2,Q2]:=λx h=>match x,h with
 |(.vec 0,L a,L m,L b,.clo (.func 94) [.agg [L k]] [],_),[.vec (.sl OH) l]=>.chk ((o l a m b k).isSome) (.ok (.tup [],[.vec (.sl K) ((o l a m b k).getD [])]))
 |_,_=>.err
def FSm(o:SM):ah:=bj [Q2,Q2,Q2,Q2,Q2] (GSm o)
def D0(o:SM):ct:=Kq.add 224 (FSm o)
theorem QE{o:SM}(h:FK 224 (FSm o)):zw (D0 o):=Ep.add h
abbrev ZV:=kG [(3,[0,1,4,10,11]),(9,[0,10,13]),(15,[0,2,4,14,15]),(21,[0,14,17]),(33,[0,1,2,3,4,18,19,20,21,22])]
inductive jJ where
 |h3 (i1:Int) (i4f_0_0:Int) (i10:Int) (i11:Int) (lh_0:List (J ze.sl))
 |h15 (i2:Int) (i4f_0_0:Int) (i14:Int) (i15:Int) (lh_0:List (J ze.sl))
 |h33 (i1:Int) (i2:Int) (i3:Int) (i4f_0_0:Int) (i18:Int) (i19:Int) (i20:Int) (i21:Int) (i22:Int) (lh_0:List (J ze.sl))
 |h9 (i10:Int) (i13:Int) (lh_0:List (J ze.sl))
 |h21 (i14:Int) (i17:Int) (lh_0:List (J ze.sl))
abbrev No:jJ->Nat×St
 |.h3 j h d s b=>(3,⟨tm 220 [(0,AV.vec 0),(1,L j),(4,AV.clo (Fn.func 94) [agg [L h]] []),(10,L d),(11,L s)],[AO.vec ze.sl b]⟩)
 |.h15 F h g z b=>(15,⟨tm 220 [(0,AV.vec 0),(2,L F),(4,AV.clo (Fn.func 94) [agg [L h]] []),(14,L g),(15,L z)],[AO.vec ze.sl b]⟩)
 |.h33 j F i3 h B D G H h0 b=>(33,⟨tm 220 [(0,AV.vec 0),(1,L j),(2,L F),(3,L i3),(4,AV.clo (Fn.func 94) [agg [L h]] []),(18,L B),(19,L D),(20,L G),(21,L H),(22,L h0)],[AO.vec ze.sl b]⟩)
 |.h9 d u b=>(9,⟨tm 220 [(0,AV.vec 0),(10,L d),(13,L u)],[AO.vec ze.sl b]⟩)
 |.h21 g A b=>(21,⟨tm 220 [(0,AV.vec 0),(14,L g),(17,L A)],[AO.vec ze.sl b]⟩)
theorem KW(o:SM):zZ (D0 o).P 224 Tryz.f224 5:=cI kw
def qB(_:SM)(l:List zr)(a m b k:Int):Tr (jJ⊕az):=
 let h:=Γ Δ (IntKind.u64.wrap (Γ Δ (a+b))/2)
 let d:=Γ Δ (h+m)
 let g:=Γ Δ (d-1)
 br (Γ Δ (m-a)==1) (Tr.to (jJ.h3 a k m b l))
 (br (Γ Δ (b-m)==1) (Tr.to (jJ.h15 m k a m l))
  (chk O (br (N (m>h)) (Tr.to (jJ.h33 a m b k h d (Γ Δ (d-b)) h g l)) (Tr.to (jJ.h33 a m b k h d a m g l)))))
theorem zmD(o:SM)(l:List zr)(a m b k:Int):rn (D0 o) 1 ZV Tryz.f224 [AV.vec 0,L a,L m,L b,AV.clo (Fn.func 94) [agg [L k]] []] [AO.vec (Sh.sl K) l]=(qB o l a m b k).map (lf Tryz.f224 No):=kw
def cq(o:SM):jJ->Tr (jJ⊕az)
 | .h3 i1 h B h5 b=>
  let d:=Γ Δ (IntKind.u64.wrap (Γ Δ (B+h5))/2)
  let s:=N (h<0)
  let A:=b.getD d.toNat (zi ze.sl)
  let a3:=(X A:Int)
  let a4:=bif s then O else N (h>=a3)
  let a5:=b.getD i1.toNat (zi ze.sl)
  let a6:=(X a5:Int)
  let a7:=bif s then O else N (h>=a6)
  let a8:=bif a7 then O else zL h (X a5)
  let a9:=Y a5 h.toNat (zi K)
  let u:=Y A h.toNat (zi K)
  let H:=bif a4 then bif a7 then aG (0,0,[]) (0,0,[])else aG (0,0,[]) a9 else bif a7 then aG u (0,0,[])else aG u a9
  br (N (B<h5))
  (chk O (chk (zL d (X b)) (chk (N (d.toNat<X b)) (chk (zL i1 (X b)) (chk (N (i1.toNat<X b)) (chk (cond a4 a8 (zL h (X A)&&a8)) (br (N (H<0)) (Tr.to (jJ.h3 i1 h (Γ Δ (d+1)) h5 b)) (Tr.to (jJ.h3 i1 h B d b)))))))))
  (Tr.to (jJ.h9 B i1 b))
 | .h15 i2 h F h6 b=>
  let d:=Γ Δ (IntKind.u64.wrap (Γ Δ (F+h6))/2)
  let s:=N (h<0)
  let A:=b.getD i2.toNat (zi ze.sl)
  let a3:=(X A:Int)
  let a4:=bif s then O else N (h>=a3)
  let a5:=b.getD d.toNat (zi ze.sl)
  let a6:=(X a5:Int)
  let a7:=bif s then O else N (h>=a6)
  let a8:=bif a7 then O else zL h (X a5)
  let a9:=Y a5 h.toNat (zi K)
  let u:=Y A h.toNat (zi K)
  let H:=bif a4 then bif a7 then aG (0,0,[]) (0,0,[])else aG (0,0,[]) a9 else bif a7 then aG u (0,0,[])else aG u a9
  br (N (F<h6))
  (chk O (chk (zL i2 (X b)) (chk (N (i2.toNat<X b)) (chk (zL d (X b)) (chk (N (d.toNat<X b)) (chk (cond a4 a8 (zL h (X A)&&a8)) (br (!Q0 (H<0)) (Tr.to (jJ.h15 i2 h (Γ Δ (d+1)) h6 b)) (Tr.to (jJ.h15 i2 h F d b)))))))))
  (Tr.to (jJ.h21 F i2 b))
 | .h33 i1 i2 i3 h g h7 j h8 x0 b=>
  let d:=Γ Δ (IntKind.u64.wrap (Γ Δ (j+h8))/2)
  let s:=Γ Δ (x0-d)
  let A:=N (h<0)
  let a3:=b.getD s.toNat (zi ze.sl)
  let a4:=(X a3:Int)
  let a5:=bif A then O else N (h>=a4)
  let a6:=b.getD d.toNat (zi ze.sl)
  let a7:=(X a6:Int)
  let a8:=bif A then O else N (h>=a7)
  let a9:=bif a8 then O else zL h (X a6)
  let u:=Y a6 h.toNat (zi K)
  let H:=Y a3 h.toNat (zi K)
  let i4:=bif a5 then bif a8 then aG (0,0,[]) (0,0,[])else aG (0,0,[]) u else bif a8 then aG H (0,0,[])else aG H u
  let z:=Γ Δ (h7-j)
  let x1:=LU b j i2 z h
  let x2:=bif N (i1<j)then N (j<g)else S
  let h4:=x1.getD []
  let x3:=o h4 i1 j g h
  let h0:=bif N (g<z)then N (z<i3)else S
  let x4:=x3.getD []
  let x5:=o x4 g z i3 h
  let x6:=o h4 g z i3 h
  let x7:=o b i1 j g h
  let x8:=x7.getD []
  let x9:=o x8 g z i3 h
  let i0:=o b g z i3 h
  br (N (j<h8))
  (chk O (chk (zL s (X b)) (chk (N (s.toNat<X b)) (chk (zL d (X b)) (chk (N (d.toNat<X b)) (chk (cond a5 a9 (zL h (X a3)&&a9)) (br (!Q0 (i4<0)) (Tr.to (jJ.h33 i1 i2 i3 h g h7 (Γ Δ (d+1)) h8 x0 b))
  (Tr.to (jJ.h33 i1 i2 i3 h g h7 j d x0 b)))))))))
  (br (cond (N (j<i2)) (N (i2<z)) S) (chk x1.isSome (br x2 (chk x3.isSome (br h0 (chk x5.isSome (re (tup []) [AO.vec ze.sl (x5.getD [])])) (re (tup []) [AO.vec ze.sl x4]))) (br h0 (chk x6.isSome (re (tup []) [AO.vec ze.sl (x6.getD [])])) (re (tup []) [AO.vec ze.sl h4])))) (br x2
  (chk x7.isSome (br h0 (chk x9.isSome (re (tup []) [AO.vec ze.sl (x9.getD [])])) (re (tup []) [AO.vec ze.sl x8]))) (br h0 (chk i0.isSome (re (tup []) [AO.vec ze.sl (i0.getD [])])) (re (tup []) [AO.vec ze.sl b]))))
 | .h9 B D b=>
  let d:=Γ Δ (B-1)
  let s:=Γ Δ (D+1)
  let A:=N (D.toNat<X b)
  let a3:=b.set D.toNat (b.getD s.toNat (zi ze.sl))
  br (N (D<d))
  (chk (zL s (X b)) (chk (N (s.toNat<X b)) (chk (zL D (X b)) (chk A (chk (zL D (X b)) (chk A (chk (zL s (X a3)) (chk (N (s.toNat<X a3)) (Tr.to (jJ.h9 B s (a3.set s.toNat (b.getD D.toNat (zi ze.sl)))))))))))))
  (re (tup []) [AO.vec ze.sl b])
 | .h21 F G b=>
  let d:=Γ Δ (G-1)
  let s:=N (G.toNat<X b)
  let A:=b.set G.toNat (b.getD d.toNat (zi ze.sl))
  br (N (G>F))
  (chk (zL d (X b)) (chk (N (d.toNat<X b)) (chk (zL G (X b)) (chk s (chk (zL G (X b)) (chk s (chk (zL d (X A)) (chk (N (d.toNat<X A)) (Tr.to (jJ.h21 F d (A.set d.toNat (b.getD G.toNat (zi ze.sl)))))))))))))
  (re (tup []) [AO.vec ze.sl b])
theorem zn7(o:SM):∀s,run (D0 o) 1 ZV (Func.results Tryz.f224).toList 400 (ap Tryz.f224 (No s).1) (No s).2=(cq o s).map (lf Tryz.f224 No):=by intro s;cases s<;>kernel_rfl
def smS(o:SM):SM:=λl a m b k=>Mz (bT (cq o) 100000000 (qB o l a m b k))
def uT:Nat->SM
 |0=>λ_ _ _ _ _=>Q2
 |n+1=>smS (uT n)
theorem SG:∀n,FK 224 (FSm (uT n))
 | 0=>fS (E:=Kq) ⟨Tryz.f224,(KW (uT 0)).1,(KW (uT 0)).2.1,(KW (uT 0)).q.1⟩ fun x j g h=>by
  exfalso;unfold GSm at h;split at h
  .simp[uT,Tr.val]at h
  .simp at h
 | n+1=>by
  refine sF (E:=D0 (uT n)) (ι:=List zr×Int×Int×Int×Int) (args:=λy=>[AV.vec 0,L y.2.1,L y.q.1,L y.r.1,AV.clo (Fn.func 94) [agg [L y.t]] []]) (heap:=λy=>[AO.vec ze.sl y.1]) (i:=λy=>qB (uT n) y.1 y.2.1 y.q.1 y.r.1 y.t) (t:=cq (uT n)) (e:=No) (n:=100000000) (n0:=1) (QE (SG n)) (KW (uT n)) (λ_=>rfl) (λy=>zmD _ _ _ _ _ _) (zn7 (uT n)) (λx h g d=>?_);unfold GSm at d;split at d
  .rename_i a m b k u l;simp only[Tr.val]at d;split at d
   next h1=>simp only[bG]at d;subst d;exact⟨(l,a,m,b,k),rfl,rfl,tZ h1⟩
   .cases d
  .simp at d
def zhv:ah:=FSm (uT 16)
theorem zdq:FK 224 zhv:=SG 16
def Er:=Kq.add 224 zhv
theorem Es:zw Er:=Ep.add zdq
abbrev ZT:=kG [(2,[0,1,2,6,7,8]),(7,[0,1,2,6]),(9,[0,1,2,6,7,8])]
inductive qV where
 |h2 (i1:Int) (i2f_0_0:Int) (i6:Int) (i7:Int) (i8:Int) (lh_0:List (J ze.sl))
 |h7 (i1:Int) (i2f_0_0:Int) (i6:Int) (lh_0:List (J ze.sl))
 |h9 (i1:Int) (i2f_0_0:Int) (i6:Int) (i7:Int) (i8:Int) (lh_0:List (J ze.sl))
abbrev Nm:qV->Nat×St
 |.h2 d h g j s b=>(2,⟨tm 63 [(0,AV.vec 0),(1,L d),(2,AV.clo (Fn.func 94) [agg [L h]] []),(6,L g),(7,L j),(8,L s)],[AO.vec ze.sl b]⟩)
 |.h7 d h g b=>(7,⟨tm 63 [(0,AV.vec 0),(1,L d),(2,AV.clo (Fn.func 94) [agg [L h]] []),(6,L g)],[AO.vec ze.sl b]⟩)
 |.h9 d h g j s b=>(9,⟨tm 63 [(0,AV.vec 0),(1,L d),(2,AV.clo (Fn.func 94) [agg [L h]] []),(6,L g),(7,L j),(8,L s)],[AO.vec ze.sl b]⟩)
theorem znY:zZ Er.P 161 Tryz.f161 3:=cI kw
def ZA(l:List zr)(n k:Int):Tr (qV⊕az):=
 Tr.to (qV.h2 n k 20 0 20 l)
theorem zmB(l:List zr)(n k:Int):rn Er 1 ZT Tryz.f161 [AV.vec 0,L n,AV.clo (Fn.func 94) [agg [L k]] []] [AO.vec (Sh.sl K) l]=(ZA l n k).map (lf Tryz.f161 Nm):=kw
def eS:qV->Tr (qV⊕az)
 | .h2 d h g u j b=>
  let s:=rI b u j h
  let z:=rI b u d h
  br (N (j<=d)) (chk s.isSome (Tr.to (qV.h2 d h g j (Γ Δ (j+g)) (s.getD []))))
  (chk z.isSome (Tr.to (qV.h7 d h g (z.getD []))))
 | .h7 d h g b=>
  br (N (g<d)) (Tr.to (qV.h9 d h g 0 (Γ Δ (2*g)) b))
  (re (tup []) [AO.vec ze.sl b])
 | .h9 d h g u j b=>
  let s:=Γ Δ (u+g)
  let z:=uT 16 b u s j h
  let A:=uT 16 b u s d h
  let B:=Γ Δ (g*2)
  br (N (j<=d)) (chk z.isSome (Tr.to (qV.h9 d h g j (Γ Δ (j+Γ Δ (2*g))) (z.getD []))))
  (br (N (s<d)) (chk A.isSome (Tr.to (qV.h7 d h B (A.getD [])))) (Tr.to (qV.h7 d h B b)))
theorem zn5:∀s,run Er 1 ZT (Func.results Tryz.f161).toList 400 (ap Tryz.f161 (Nm s).1) (Nm s).2=(eS s).map (lf Tryz.f161 Nm):=by intro s;cases s<;>kernel_rfl
def zbS(l:List zr)(n k:Int):=bT eS 100000000 (ZA l n k)
def GC(l:List zr)(n k:Int):=Mz (zbS l n k)
def zhH:fz [Q2,Q2,Q2]:=λx h=>match x,h with
 |(.vec 0,L n,.clo (.func 94) [.agg [L k]] [],_),[.vec (.sl OH) l]=>.chk ((GC l n k).isSome) (.ok (.tup [],[.vec (.sl K) ((GC l n k).getD [])]))
 |_,_=>.err
def zhp:ah:=bj [Q2,Q2,Q2] zhH
theorem zdk:FK 161 zhp:=by
 refine sF (ι:=List zr×Int×Int) (args:=λy=>[AV.vec 0,L y.2.1,AV.clo (Fn.func 94) [agg [L y.q]] []]) (heap:=λy=>[AO.vec ze.sl y.1]) (i:=λy=>ZA y.1 y.2.1 y.q) (t:=eS) (e:=Nm) (n:=100000000) (n0:=1) Es znY (λ_=>rfl) (λy=>zmB _ _ _) zn5 (λx h d b=>?_);unfold zhH at b;split at b
 .rename_i n k u l;simp only[Tr.val]at b;split at b
  next h1=>simp only[bG]at b;subst b;exact⟨(l,n,k),rfl,rfl,tZ h1⟩
  .cases b
 .simp at b
def Kr:=Er.add 161 zhp
theorem Et:zw Kr:=Es.add zdk
abbrev znw:=kG []
theorem znX:zZ Kr.P 92 Tryz.f92 2:=cI kw
def N2(l:List zr)(k:Int):Tr (Empty⊕az):=
 let h:=GC l (X l:Int) k
 chk h.isSome (re (tup []) [AO.vec ze.sl (h.getD [])])
theorem zmy(l:List zr)(k:Int):rn Kr 1 znw Tryz.f92 [AV.vec 0,AV.clo (Fn.func 94) [agg [L k]] []] [AO.vec (Sh.sl K) l]=(N2 l k).map (lf Tryz.f92 e0):=kw
def GB(l:List zr)(k:Int):=bT t0 100000000 (N2 l k)
def si(l:List zr)(k:Int):=Mz (GB l k)
def zhG:fz [Q2,Q2]:=λx h=>match x,h with
 |(.vec 0,.clo (.func 94) [.agg [L k]] [],_),[.vec (.sl OH) l]=>.chk ((si l k).isSome) (.ok (.tup [],[.vec (.sl K) ((si l k).getD [])]))
 |_,_=>.err
def zgU:ah:=bj [Q2,Q2] zhG
theorem zcR:FK 92 zgU:=by
 refine sF (ι:=List zr×Int) (args:=λy=>[AV.vec 0,AV.clo (Fn.func 94) [agg [L y.2]] []]) (heap:=λy=>[AO.vec ze.sl y.1]) (i:=λy=>N2 y.1 y.2) (t:=t0) (e:=e0) (n:=100000000) (n0:=1) Et znX (λ_=>rfl) (λy=>zmy _ _) (on0 _ _ _ _ _) (λx h d b=>?_);unfold zhG at b;split at b
 .rename_i k u l;simp only[Tr.val]at b;split at b
  next h1=>simp only[bG]at b;subst b;exact⟨(l,k),rfl,rfl,tZ h1⟩
  .cases b
 .simp at b
def Y0:=Kr.add 92 zgU
theorem QK:zw Y0:=Et.add zcR
abbrev ZY:Nat->aY:=λj=>if j=7 then{slots:=[1,2,34,35]}else{ }
inductive U5 where
 |h7 (i34:Int) (i35:Int) (ja0:J Sh.str) (ja2:zy) (ja5:zK) (ja6:Int) (ja7:Int) (ja8:zK) (ja9:zK) (ja10:List (J Q5)) (jb0:List UInt8) (jb2:Int) (jb5:List UInt8) (jb6:Int) (jb7:Int) (jb8:List UInt8) (jb9:List UInt8) (lh_2:aV) (lh_3:ed) (lh_4:dJ) (lh_5:List (J ze.sl))
abbrev Yr:U5->Nat×St
 |.h7 s u z A B D F G H j h0 h3 h4 h5 h6 h8 h9 h b d g=>(7,⟨tm 50 [(1,ptr 0 0),(2,ptr 1 0),(34,L s),(35,L u)],[Qa [I z,AV.vec 2,L A,AV.vec 3,AV.vec 4,I B,L D,L F,I G,I H,T Q5 j,AV.vec 5],Qa [I h0,nils,L h3,nils,nils,I h4,L h5,L h6,I h8,I h9,nils,nils],AO.vec zn h,AO.vec zk b,AO.vec zG d,AO.vec ze.sl g]⟩)
theorem zvu:zZ Tf.P 91 Tryz.f91 1:=cI kw
def zeY(h:ae):Tr (U5⊕az):=
 chk (N (X h.1.2.1<=1073741824))
 (chk (N (X h.1.r.1<=1073741824))
  (chk (N (X h.1.t.1<=1073741824)) (chk (mR 16 (zt h.1.u)) (chk (N (X h.2<=1073741824)) (Tr.to (U5.h7 (X h.2:Int) 0 h.1.1 h.1.q.1 (zg.op h.1.u) (zg.v h.1.u).1 (zg.v h.1.u).2.1 (zg.v h.1.u).q
  (zg.s h.1.u) (zg.l h.1.u) [] 0 [] 0 0 [] [] h.1.2.1 h.1.r.1 h.1.t.1 h.2))))))
theorem zs9(h:ae):rn Tf 0 ZY Tryz.f91 [zX zl h] []=(zeY h).map (lf Tryz.f91 Yr):=kw
def W0:U5->Tr (U5⊕az)
 | .h7 u b z A B D F G H j h0 h3 h4 h5 h6 h8 h9 d g s h=>
  let a0:=N (b.toNat<X h)
  let a1:=h.getD b.toNat (zi ze.sl)
  br (N (b<u))
  (chk (zL b (X h))
   (chk a0 (chk (N (X a1<=1073741824)) (chk (zL b (X h)) (chk a0 (Tr.to (U5.h7 u (Γ Δ (b+1)) z A B D F G H j h0 h3 h4 h5 h6 h8 h9 d g s (h.set b.toNat a1))))))))
  (re
   (agg [I z,AV.vec 0,L A,AV.vec 1,AV.vec 2,I B,L D,L F,I G,I H,T Q5 j,AV.vec 3])
   [AO.vec zn d,AO.vec zk g,AO.vec zG s,AO.vec ze.sl h])
theorem zvQ:∀s,run Tf 0 ZY (Func.results Tryz.f91).toList 400 (ap Tryz.f91 (Yr s).1) (Yr s).2=(W0 s).map (lf Tryz.f91 Yr)
 |.h7 u z A B D F G H h0 j h3 h4 h5 h6 h8 h9 x0 h b d g=>by kernel_rfl
def zoq(ks:List Sh)(c:zF (ks.map M)->Bool)(g:zF (ks.map M)->az):fz (ks.map M):=λx h=>match h with
 |[]=>.chk (c x) (.ok (g x))
 |_=>.err
theorem zlN{P:Program}{gl:Nat->AV}{σ:Type}{E:ct}{k:FuncId}{f:Func}{ks:List Sh}{keep:Nat->aY}{gas n:Nat}{e:σ->Nat×St}{t:σ->Tr (σ⊕az)}{i:zF (ks.map M)->Tr (σ⊕az)}{c:zF (ks.map M)->Bool}{g:zF (ks.map M)->az}
  (z:zw E) (j:zZ E.P k f (X ks)) (b:∀x,run E 0 keep f.results.toList gas (bu f) (bl f.ntmps (jn (ks.map M) x) [])=(i x).map (lf f e))
  (d:∀s,run E 0 keep f.results.toList gas (ap f (e s).1) (e s).2=(t s).map (lf f e))
  (B:∀x,c x=O->bT t n (i x)=M (g x)) (F:E.P=P:=by rfl) (D:E.gl=gl:=by rfl):nZ P gl k (bj (ks.map M) (zoq ks c g)):=by
 subst F D;refine dw (by simpa using j) λx H G h C u=>?_
 unfold zoq at h;split at h
 .simp only[Tr.val]at h;split at h
  next A=>simp only[bG]at h;subst h;exact ms (n0:=0) z (by simpa using j) (λid _=>u id (aK _)) (n+1) _ _ _ (by rw[jY d (b x)];exact B x A) rfl
  .cases h
 .simp at h
def Qu(x:ae):az:=(agg [I x.1.1,AV.vec 0,L x.1.q.1,AV.vec 1,AV.vec 2,I (zg.op x.1.u),L (zg.v x.1.u).1,L (zg.v x.1.u).2.1,I (zg.v x.1.u).q,I (zg.s x.1.u),T Q5 (zg.l x.1.u),AV.vec 3],
 [AO.vec zn x.1.2.1,AO.vec zk x.1.r.1,AO.vec zG x.1.t.1,AO.vec ze.sl x.2])
def Ni(x:ae):Bool:=N (X x.1.2.1<=1000000)&&N (X x.1.r.1<=1000000)&&N (X x.1.t.1<=1000000)&&mR 16 x.1.u&&N (X x.2<=1000000)&&List.all x.2 (λr=>N (X r<=1000000))
variable {α:Type}
theorem zbG(l:List α)(d:α)(i:Nat)(h:i<X l):l.set i (l.getD i d)=l:=by rw[bx,af h,bI];exact List.set_getElem_self h
theorem zeo(x:ae)(d:Ni x=O):bT W0 100000000 (zeY x)=M (Qu x):=by
 unfold Ni at d;simp only[aP,ba,ep]at d;have⟨⟨⟨⟨⟨h1,h2⟩,h3⟩,D⟩,h5⟩,F⟩:=d
 have G:=dO (t:=W0) (β:=Unit) (X x.2) (λ_ i=>.h7 (X x.2:Int) (i:Int) x.1.1 x.1.q.1 (zg.op x.1.u) (zg.v x.1.u).1 (zg.v x.1.u).2.1 (zg.v x.1.u).q
   (zg.s x.1.u) (zg.l x.1.u) [] 0 [] 0 0 [] [] x.1.2.1 x.1.r.1 x.1.t.1 x.2) (λ_ _=>True) (λr=>r=Qu x) 1 (by
   intro b i h _;have g:X (Y x.2 i (zi ze.sl))<=1000000:=F _ (by rw[bx,af h,bI];exact bp h);simp only[W0,Tr.val,zO h,zx h,zj,aJ,zB h,zbG _ _ _ h];rw[zu i um,zf (zB W)];exact Or.inl ⟨(),trivial,rfl⟩) (by
   intro b n _ hn;obtain⟨n,rfl⟩:∃k,n=k+1:=⟨n-1,W⟩;rw[dc];simp only[W0,Tr.val,zM];exact⟨_,rfl,rfl⟩) (X x.2) 0 () 100000000 rfl (aK _) trivial W
 obtain⟨r,H,rfl⟩:=G;unfold bT;have j:N (X x.1.2.1<=1073741824)=O:=zB W;have z:N (X x.1.r.1<=1073741824)=O:=zB W;have A:N (X x.1.t.1<=1073741824)=O:=zB W;have B:N (X x.2<=1073741824)=O:=zB W;simp only[zeY,Tr.val,j,z,A,B,zo,D,zj];exact H
def zqi:ah:=bj ([zl].map M) (zoq [zl] (λx=>Ni x.1) (λx=>Qu x.1))
theorem zk0:FK 91 zqi:=zlN (ks:=[zl]) (keep:=ZY) (gas:=400) (n:=100000000) (e:=Yr) (t:=W0) (i:=λx=>zeY x.1) V0 zvu (λx=>zs9 x.1) zvQ (λx h=>zeo x.1 h)
def zex:=Y0.add 91 zqi
theorem NH:zw zex:=QK.add zk0
def ze2(h:ae):Tr (Empty⊕az):=
 let b:=(h.1.1,h.1.2.1,h.1.q.1,h.1.r.1,h.1.t.1,zt h.1.u)
 let d:=si h.2 (-1)
 let g:=si h.2 h.1.q.1
 chk (Ni (b,h.2))
 (br (!dt b)
  (chk d.isSome (re (agg [I h.1.1,AV.vec 0,L h.1.q.1,AV.vec 1,AV.vec 2,I (zg.op h.1.u),L (zg.v h.1.u).1,L (zg.v h.1.u).2.1,I (zg.v h.1.u).q,I (zg.s h.1.u),T Q5 (zg.l h.1.u),AV.vec 3]) [AO.vec zn h.1.2.1,AO.vec zk h.1.r.1,
  AO.vec zG h.1.t.1,AO.vec ze.sl (d.getD [])]))
  (chk g.isSome (re (agg [I h.1.1,AV.vec 0,L h.1.q.1,AV.vec 1,AV.vec 2,I (zg.op h.1.u),L (zg.v h.1.u).1,L (zg.v h.1.u).2.1,I (zg.v h.1.u).q,I (zg.s h.1.u),T Q5 (zg.l h.1.u),AV.vec 3]) [AO.vec zn h.1.2.1,AO.vec zk h.1.r.1,
  AO.vec zG h.1.t.1,AO.vec ze.sl (g.getD [])])))
def AY(h:ae):=ar [zl] t0 100000000 (ze2 h)
def R2(h:ae):=(AY h).isSome
def zbs(h:ae):=o1 (AY h)
def zqJ:=FT [zl] [zl] λx=>AY x.1
theorem zls:FK 35 zqJ:=NH.T1 (f:=Tryz.f35) (keep:=k0) (e:=e0)
def fV:=YX.add 35 zqJ
theorem gE:zw fV:=ID.add zls
abbrev zjb:Nat->aY:=λj=>if j=7 then{slots:=[2,3,6,9,10,11,34,35,36]}else if j=15 then{slots:=[6,9,11,14,15,57,58,59],prom:=[(14,M 11,.sl K)]}else{ }
inductive JU where
 |h7 (l2:zr) (i10:zy) (l34:List (J ze.sl)) (i35:Int) (i36:Int) (z0:zq [CP.d an]) (z1:zq uh) (z2:zq wE) (mh_3:List ((Int×Int×zK)×List (J ze.sl)))
 |h15 (i15:Int) (l57:zr) (i58:Int) (i59:Int) (z0:zq uh) (z1:zq wE) (z3:zq yI) (mh_2:List ((Int×Int×zK)×List (J ze.sl)))
abbrev VE:JU->Nat×St
 |.h7 l2 g B s u z0 z1 z2 b=>(7,⟨tm 86 [(2,T K l2),(3,ptr 0 0),(6,ptr 1 0),(9,ptr 2 0),(10,L g),(11,AV.mp 3),(34,T ze.sl B),(35,L s),(36,L u)],[Qa (bF [] [CP.d an] z0),Qa (bF [] uh z1),Qa (bF [] wE z2),AO.gmap ze.sl b]⟩)
 |.h15 j D z A z0 z1 F h=>(15,⟨tm 86 [(6,ptr 0 0),(9,ptr 1 0),(11,AV.mp 2),(14,ptr 3 0),(15,L j),(57,T K D),(58,L z),(59,L A)],[Qa (bF [] uh z0),Qa (bF [] wE z1),AO.gmap ze.sl h,Qa (bF [4] yI F),AO.vec ze.sl F.2.1]⟩)
def Wa(h:ao)(b:J zl.sl)(s:J ze.sl):Tr (JU⊕az):=
 let d:=(h.1,h.2.1,h.q.1,(h.r.1.1,h.r.1.2.1,h.r.1.q.1,h.r.1.r.1,h.r.1.t.1,zt h.r.1.u),h.t)
 let g:=(d,b)
 let j:=Y b (Int.toNat 0) (zi zl)
 chk (Fx d b)
 (br (RB d b !=0)
  (re (tup [agg ([I [],nils,L 0,nils,nils]++zE++[nils]),L 0,L 1]) [])
  (chk (XX g) (chk (zL 0 (X b)) (Tr.to (JU.h7 s (zl2 g) j.2 (X j.2:Int) 0 (h,()) ([],0,[],0,0,[],[],()) ((h,b),()) [])))))
def Mf:JU->Tr (JU⊕az)
 | .h7 l2 H B h0 g z0 z1 z2 D=>
  br (N (g<h0))
  (chk (zL g (X B)) (chk (zL H (X (B.getD g.toNat (zi ze.sl)))) Tr.err))
  (Tr.to (JU.h15 0 l2 (X l2:Int) 0 z1 z2 (z0.1.r.1,[],()) (mS D (0,0,[]))))
 | .h15 s j A h z0 z1 z b=>
  let a0:=((z1.1.1.1,z1.1.1.2.1,z1.1.1.q.1,(z1.1.1.r.1.1,z1.1.1.r.1.2.1,z1.1.1.r.1.q.1,z1.1.1.r.1.r.1,z1.1.1.r.1.t.1,zt z1.1.1.r.1.u),z1.1.1.t),z1.1.2)
  let F:=j.getD h.toNat (zi K)
  let a2:=ly b F
  let G:=Vm a0 F a2
  let a4:=((z.1.1,z.1.2.1,z.1.q.1,z.1.r.1,z.1.t.1,zt z.1.u),z.2.1)
  let d:=zbs a4
  br (N (h<A))
  (chk (zL h (X j)) (chk (H2 a0 F a2) (chk (N (X z.2.1+X G.1<=1073741824)) (Tr.to (JU.h15 (Γ Δ (s+G.2)) j A (Γ Δ (h+1)) z0 z1 (z.1,z.2.1++G.1,()) (mS b F))))))
  (chk (R2 a4) (re (tup [agg ([I d.1.1,T zn d.1.2.1,L d.1.q.1,T zk d.1.r.1,T zG d.1.t.1]++xE d.1.u++[T ze.sl d.2]),L s,L 0]) []))
open Go
def Tr.asks:Tr α->List Bool
 |.chk c t=>c::t.asks
 |_=>[]
def Tr.leaf:Tr α->Option α
 |.chk _ t=>t.leaf
 |.ok a=>M a
 |_=>Q2
theorem Tr.val_leaf{a:α}:∀{t:Tr α},t.leaf=M a->t.asks.all id=O->t.val=M a
 |.err,h,_=>by cases h
 |.br ..,h,_=>by cases h
 |.ok _,h,_=>h
 | .chk c t,h,b=>by
  simp only[Tr.asks,List.all_cons,id,aP]at b;rw[Tr.val,zf b.1];exact Tr.val_leaf h b.2
structure wi (w:World) (U:Nat->Prop) (ρ:Nat->Option Value) (hp:Nat->AO) (w':World) (U':Nat->Prop) (ρ':Nat->Option Value) (hp':Nat->AO):Prop where
 ext:lv w w'
 same:∀b,b<w.heap.size->(∀id,¬aq ρ id (hp id) b)->w'.heap[b]?=w.heap[b]?
 u1:∀b,b<w.heap.size->U' b->U b
 u2:∀b,b<w.heap.size->U b->(∀id,¬aq ρ id (hp id) b)->U' b
 rho:∀id v,ρ id=M v->ρ' id=M v
 own:∀id b,aq ρ' id (hp' id) b->(∃id,aq ρ id (hp id) b)\/w.heap.size<=b
section
variable {E:ct} {gl:Nat->AV} {C:eW} {a:Act} {w w':World} {U U':Nat->Prop} {ρ ρ':Nat->Option Value} {hp hp':Nat->AO}
def DS(w:World)(U:Nat->Prop)(ρ:Nat->Option Value)(hp:Nat->AO):eW:={w0:=w,U0:=U,B0:=λb=>∃id,aq ρ id (hp id) b,ρ0:=ρ}
theorem Tu(b:Wd gl C w U):Wd gl (DS w U ρ hp) w U:=⟨lv.refl w,λ_ _ _=>rfl,b.ub,λ_ _ h=>h,λ_ _ h _=>h,b.gl⟩
theorem Tt(h:fB C w U ρ hp):fB (DS w U ρ hp) w U ρ hp:=⟨h.ob,h.inj,λid _ b=>.inl ⟨id,b⟩⟩
theorem DI(s:fB (DS w U ρ hp) w' U' ρ' hp')(d:Wd gl (DS w U ρ hp) w' U')(u:∀id v,ρ id=M v->ρ' id=M v):wi w U ρ hp w' U' ρ' hp':=
 ⟨d.ext,λb g j=>d.same b g λ⟨id,h⟩=>j id h,d.u1,λb g z j=>d.u2 b g z λ⟨id,h⟩=>j id h,u,s.blk⟩
theorem S0(h:fB C w U ρ hp)(j:Wd gl C w U)(s:wi w U ρ hp w' U' ρ' hp')(z:∀b,U' b->b<w'.heap.size)(D:Dr gl w' U'):Wd gl C w' U':=by
 have B:∀b,b<C.w0.heap.size->¬C.B0 b->∀id,¬aq ρ id (hp id) b:=λb d g id F=>(h.blk id b F).elim g (λq=>by omega)
 have A:∀b,b<C.w0.heap.size->b<w.heap.size:=λb d=>ia d j.ext.sz
 exact⟨j.ext.trans s.ext,λb d g=>(s.same b (A b d) (B b d g)).trans (j.same b d g),z,λb d u=>j.u1 b d (s.u1 b (A b d) u),λb d u g=>s.u2 b (A b d) (j.u2 b d u g) (B b d g),D⟩
theorem SZ(h:fB C w U ρ hp)(g:Wd gl C w U)(d:fB (DS w U ρ hp) w' U' ρ' hp'):fB C w' U' ρ' hp':=
 ⟨d.ob,d.inj,λid b s=>(d.blk id b s).elim (λ⟨i,j⟩=>h.blk i b j) λq=>.inr (be g.ext.sz q)⟩
theorem Pn(A:zw E){id:Nat}{ops:Array Oper}{draw:Bool}{st s:St}(h:(jW E ops.toList draw st).val=M s)(g:Cn C st a w U ρ)(j:Wd E.gl C w U):
  (Code.region id ops draw).wp E.P (λe u w'=>e=.normal/\∃U' ρ',Cn C s u w' U' ρ'/\Wd E.gl C w' U'/\wi w U ρ st.hp w' U' ρ' s.hp) a w:=by refine wp_mono (uH (C:=DS w U ρ st.hp) A h ⟨g.tm,Tt g.hp,g.new,g.df,λ_ _ h=>h⟩ (Tu j)) ?_;rintro e u w' ⟨rfl,U',ρ',b,d⟩;have z:=DI b.hp d b.r0;exact⟨rfl,U',ρ',⟨b.tm,SZ g.hp j b.hp,b.new,b.df,λid v q=>b.r0 id v (g.r0 id v q)⟩,S0 g.hp j z d.ub d.gl,z⟩
theorem OD(F:zw E){ops:List Oper}{Q:Exit->Act->World->Prop}{st':RS}{m:Nat}(G:∀g w' U' ρ',Bg C st' g w' U' ρ'->Wd E.gl C w' U'->∀k,k+m=X ops->wpOps E.P ops.toArray Q (List.range' k m) g w'):
  ∀(r:List Oper)(k:Nat)(st:RS)(a:Act)(w:World)(U:Nat->Prop)(ρ:Nat->Option Value)(s:List Oper),X s=m->r++s=ops.drop k->k+X r+m=X ops->(cm E ops r st).val=M st'->Bg C st a w U ρ->Wd E.gl C w U->
   wpOps E.P ops.toArray Q (List.range' k (X r+m)) a w
 | [],k,st,a,w,U,ρ,_,_,_,B,h,z,j=>by
  simp[cm]at h;subst h;have:=G a w U ρ z j k (by simpa using B);simpa using this
 | o::r,k,st,a,w,U,ρ,s,hs,hr,B,h,z,j=>by
  simp only[cm,Tr.val_bind,gA]at h;have⟨D,h1,h2⟩:=h;have d:ops.toArray[k]?=M o:=by
   have:ops[k]?=M o:=by
    have:=congrArg (·[0]?) hr;simpa[Bm]using this.symm
   simpa using this
  have b:r++s=ops.drop (k+1):=by
   have:=congrArg List.tail hr;simpa using this
  have e:(o::r).length+m=(X r+m)+1:=by rw[fA];omega
  rw[e,List.range'_succ];simp only[wpOps,d];exact JH F h1 z j _ _ (λg w' U' ρ' A u=>OD F G r (k+1) D g w' U' ρ' s hs b (by rw[fA]at B;omega) h2 A u)
theorem zfv(D:zw E){b s:List Oper}{Q:Exit->Act->World->Prop}{st st':RS}(h:(cm E (b++s) b st).val=M st')(g:Bg C st a w U ρ)(A:Wd E.gl C w U)
  (F:∀z w' U' ρ',Bg C st' z w' U' ρ'->Wd E.gl C w' U'->wi w U ρ st.hp w' U' ρ' st'.hp->wpOps E.P (b++s).toArray Q (List.range' (X b) (X s)) z w'):
  wpOps E.P (b++s).toArray Q (List.range (b++s).toArray.size) a w:=by
 have:=OD (C:=DS w U ρ st.hp) D (ops:=b++s) (Q:=Q) (st':=st') (m:=X s) (λz w' U' ρ' d j k B=>by
  have B:k=X b:=by rw[g9]at B;omega
  subst B;have u:=DI d.hp j d.r0;exact F z w' U' ρ' ⟨d.tm,SZ g.hp A d.hp,d.new,d.kn,d.df,λid v q=>d.r0 id v (g.r0 id v q)⟩ (S0 g.hp A u j.ub j.gl) u)
  b 0 st a w U ρ s rfl rfl sw h ⟨g.tm,Tt g.hp,g.new,g.kn,g.df,λ_ _ h=>h⟩ (Tu A)
 rw[List.range_eq_range'];simpa using this
theorem wi.trans{s:World}{j:Nat->Prop}{u:Nat->Option Value}{d:Nat->AO}(h1:wi w U ρ hp w' U' ρ' hp')(h2:wi w' U' ρ' hp' s j u d):wi w U ρ hp s j u d:=by
 have D:∀b,b<w.heap.size->(∀id,¬aq ρ id (hp id) b)->∀id,¬aq ρ' id (hp' id) b:=λb h g id q=>(h1.own id b q).elim (λ⟨i,z⟩=>g i z) λq=>by omega
 have B:∀b,b<w.heap.size->b<w'.heap.size:=λb h=>ia h h1.ext.sz
 exact⟨h1.ext.trans h2.ext,λb h g=>(h2.same b (B b h) (D b h g)).trans (h1.same b h g),λb h A=>h1.u1 b h (h2.u1 b (B b h) A),λb h A g=>h2.u2 b (B b h) (h1.u2 b h A g) (D b h g),
  λid v q=>h2.rho id v (h1.rho id v q),λid b q=>(h2.own id b q).elim (λ⟨i,z⟩=>h1.own i b z) λq=>.inr (be h1.ext.sz q)⟩
end
def ma(c0:Nat)(ents:Array MapEntry)(clock:Nat):Prop:=clock=c0+ents.size/\∀(i:Nat)(e:MapEntry),ents[i]?=M e->e.born=c0+i
variable {ents:Array MapEntry}{clock:Nat}
theorem ma.push{c0:Nat}(h:ma c0 ents clock)(k v:Value):ma c0 (ents.push {key:=k,val:=v,born:=clock}) (clock+1):=by
 refine⟨by have:=h.1;simp;omega,λi e b=>?_⟩;rw[Array.getElem?_push]at b;split at b
 next d=>cases b;rw[d];exact h.1
 .exact h.2 i e b
theorem ma.modify{c0:Nat}(h:ma c0 ents clock)(j:Nat)(f:MapEntry->MapEntry)(g:∀e,(f e).born=e.born):ma c0 (ents.modify j f) clock:=by
 refine⟨by have:=h.1;simp;omega,λi e b=>?_⟩;rw[uy]at b;split at b
 .cases d:ents[i]? with
  |none=>rw[d]at b;simp at b
  | some e0=>
   rw[d]at b;simp at b;subst b;rw[g];exact h.2 i e0 d
 .exact h.2 i e b
def Hl(es:List (K3×Value))(k:K3):List (K3×Value):=match fN es k 0 with
 |some _=>es
 |none=>es++[(k,.slice Q2 0 0)]
section
variable {P:Program} {w:World} {kt:TypeId} {k:K3}
variable {mt et:TypeId} {r:Nat} {ents:Array MapEntry} {clock c0:Nat} {es:List (K3×Value)}
theorem Pq(hm:P.underlying mt=M (.map kt et))(A:ig P kt=O){i:TypeInfo}(hi:P.info? et=M i)(hz:i.zero=M (.slice Q2 0 0))(hk:eX k)
  (F:w.heap[r]?=M (.map ents clock)) (G:(ents.toList.map λe=>(e.key,e.val))=wH es) (ho:∀p∈es,eX p.1) (H:ma c0 ents clock):
  ∃(h:Array MapEntry)(b n:Nat),(Instr.mapEntry mt (.map (M r)) (cO k)).run P w=.ok (.tuple #[ET es k,.int .i64 (c0+n:Nat)]) {w with heap:=w.heap.setIfInBounds r (.map h b)}/\
   (h.toList.map λe=>(e.key,e.val))=wH (Hl es k)/\ma c0 h b/\(Hl es k)[n]?=M (k,ET es k):=by
 have g:=nR (w:=w) A hk es ents.toList G ho;have h4:ents.size=X es:=by have:=congrArg X G;simpa using this
 unfold Hl ET;cases u:fN es k 0 with
 | none=>
  rw[u]at g;refine⟨ents.push {key:=cO k,val:=.slice Q2 0 0,born:=clock},clock+1,ents.size,?_,?_,H.push _ _,?_⟩
  .simp[Instr.mapEntry,bM hm,g8 F,bN A,g,om _ F,Result.andThen,zeroValue,typeInfo,hi,hz,H.1];rfl
  .simp_all
  .simp only[];rw[h4,pn (zQ _),Nat.sub_self];rfl
 | some q=>
  obtain⟨j,m⟩:=q;rw[u]at g;obtain⟨_,z,_⟩:=vH u;rw[Nat.sub_zero]at z;have D:∃e,ents.toList[j]?=M e/\e.key=cO k:=by
   have:(ents.toList.map λe=>(e.key,e.val))[j]?=M (cO k,m):=by
    rw[G];simp[z]
   rw[dK,dW]at this;obtain⟨e,s,d⟩:=this;simp only[cN]at d;exact⟨e,s,d.1⟩
  obtain⟨e,s,d⟩:=D;have B:ents[j]?=M e:=by rw[<-ra];exact s
  have h0:=H.2 j e B;refine⟨ents.modify j λe=>{e with key:=cO k},clock,j,?_,?_,H.modify _ _ (λ_=>rfl),z⟩
  .have h3:(Instr.keyThatStays (cO k) (cO k)).run P w=.ok (cO k) w:=by
    simp[Instr.keyThatStays,nT]
   simp[Instr.mapEntry,bM hm,g8 F,bN A,g,B,d,h3,om _ F,Result.andThen,h0];rfl
  .apply oo;intro q;have h5:(ents.toList.map λe=>(e.key,e.val))[q]?=(wH es)[q]?:=by rw[G]
   grind
theorem Pr{n:Nat}{v v':Value}(z:w.heap[r]?=M (.map ents clock))(A:(ents.toList.map λe=>(e.key,e.val))=wH es)(u:ma c0 ents clock)(B:es[n]?=M (k,v)):
  ∃(h:Array MapEntry),(Instr.entryStore mt (.map (M r)) (.int .i64 (c0+n:Nat)) v').run P w=.ok () {w with heap:=w.heap.setIfInBounds r (.map h clock)}/\
   (h.toList.map λe=>(e.key,e.val))=wH (es.set n (k,v'))/\ma c0 h clock:=by
 have F:ents.size=X es:=by have:=congrArg X A;simpa using this
 have d:n<ents.size:=by have:=(dC.1 B).1;omega
 have g:ents.findIdx? (λe=>(e.born:Int)==((c0+n:Nat):Int))=M n:=by
  rw[Array.findIdx?_eq_some_iff_getElem];refine⟨d,?_,λj G=>?_⟩
  .have:=u.2 n ents[n] (uf d);simp[this]
  .have:=u.2 j (ents[j]'ow) (uf W);simp[this];omega
 refine⟨ents.modify n λe=>{e with val:=v'},?_,?_,u.modify _ _ (λ_=>rfl)⟩
 .rw[wm]at g;simp[Instr.entryStore,g8 z,asInt,asIntOf,g,om _ z,Result.andThen]
 .apply oo;intro q;have b:(ents.toList.map λe=>(e.key,e.val))[q]?=(wH es)[q]?:=by rw[A]
  simp only[dK,ra,uy,mY]at b|-;by_cases D:n=q
  .subst D;have s:n<X es:=by omega
   rw[uf d,B]at b;simp only[HX,bG,cN]at b;simp[uf d,s,b.1]
  .simp_all
end
section
variable {e:Sh} {w w':World} {U U':Nat->Prop} {ρ:Nat->Option Value} {v:Value} {l:List (J e)}
def gz(e:Sh)(w:World)(U:Nat->Prop)(v:Value)(l:List (J e)):Prop:=bz w U (λ_=>M v) 0 (.vec e l)
variable {id:Nat}
theorem UO{ρ':Nat->Option Value}{id':Nat}(j:ρ id=M v)(h:bz w U ρ id (.vec e l))(b:ρ' id'=M v):bz w U ρ' id' (.vec e l):=by have:=h.ren' (ρ':=ρ') (f:=λi=>i) (id':=id') (λx d=>by rw[j]at d;cases d;exact b) (λi g=>by simp[AO.ids]at g);simpa[AO.ren]using this
theorem zoS(b:ρ id=M v)(h:bz w U ρ id (.vec e l)):gz e w U v l:=UO b h rfl
theorem gz.to(h:gz e w U v l)(b:ρ id=M v):bz w U ρ id (.vec e l):=UO rfl h b
theorem gz.one(h:gz e w U v l):v.oneCell'=O:=by have⟨a,c,h1,_⟩:=h;cases h1;rfl
theorem gz.blk(h:gz e w U v l){b:Nat}(d:cd v=M b):U b/\b<w.heap.size:=bz.inU h ⟨rfl,v,rfl,d⟩
theorem gz.mono(h:gz e w U v l)(s:w.heap.size<=w'.heap.size)(g:∀b,b<w.heap.size->¬U b->w'.heap[b]?=w.heap[b]?)(u:∀b,b<w.heap.size->U' b->U b)(j:∀b,cd v=M b->w'.heap[b]?=w.heap[b]?/\U' b):gz e w' U' v l:=
 bz.mono s g u (λ_ _ h=>h) h λb ⟨_,x,z,d⟩=>by cases z;exact j b d
theorem gz.rv(h:gz e w U v l)(s:∀b,U' b->U b)(j:∀b,cd v=M b->¬U' b):Rv w U' ρ (.sl e l) v:=by
 have h1:Rv w U' (λ_=>M v) (.sl e l) v:=ws (U:=U) (hp:=λ_=>.vec e l) (c:=.vec 0) (by simp[vj]) (.vec 0 v rfl h.one) s (λid d=>by simp[dq]at d;subst d;exact h) λid _ b ⟨_,x,u,g⟩=>by
  cases u;exact j b g
 have:=h1.ren (ρ':=ρ) (f:=λi=>i) (by simp[AV.ids]);simpa[AV.ren]using this
theorem gz.nil:gz e w U (.slice Q2 0 0) []:=⟨Q2,0,rfl,by simp[aE],.inl ⟨rfl,rfl⟩⟩
structure ud (e:Sh) (w:World) (U:Nat->Prop) (r c0:Nat) (gs:List (K3×Value)) (es:List (K3×List (J e))):Prop where
 mp:∃(ents:Array MapEntry)(clock:Nat),w.heap[r]?=M (.map ents clock)/\(ents.toList.map λe=>(e.key,e.val))=wH gs/\ma c0 ents clock
 keys:gs.map (·.1)=es.map (·.1)
 nd:(gs.map (·.1)).Nodup
 ok:∀p∈gs,eX p.1
 own:∀(j:Nat)(p:K3×Value)(q:K3×List (J e)),gs[j]?=M p->es[j]?=M q->gz e w U p.2 q.2
 apart:∀(i j:Nat)(p q:K3×Value)(b:Nat),gs[i]?=M p->gs[j]?=M q->cd p.2=M b->cd q.2=M b->i=j
 far:∀p∈gs,cd p.2≠M r
 ur:U r
def MS(r:Nat)(gs:List (K3×Value))(b:Nat):Prop:=b=r\/∃p∈gs,cd p.2=M b
def vw(es:List (K3×List (J e)))(k:K3):List (K3×List (J e)):=if k∈es.map (·.1)then es else es++[(k,[])]
variable {r c0:Nat} {gs:List (K3×Value)} {es:List (K3×List (J e))} {k:K3}
theorem V2:(∃q,fN gs k 0=M q)↔k∈gs.map (·.1):=by
 cases h:fN gs k 0 with
 | none=>
  refine⟨λ⟨_,q⟩=>(by cases q),λb=>?_⟩;obtain⟨p,hp,rfl⟩:=aI.1 b;exact zz rfl (ES h p hp)
 | some q=>
  have⟨_,h2,_⟩:=vH h;exact⟨λ_=>aI.2 ⟨_,fZ h2,rfl⟩,λ_=>⟨q,rfl⟩⟩
theorem Nu(b:gs.map (·.1)=es.map (·.1)):(k∈es.map (·.1)/\Hl gs k=gs/\vw es k=es)\/(k∉es.map (·.1)/\Hl gs k=gs++[(k,.slice Q2 0 0)]/\vw es k=es++[(k,[])]):=by
 have d:=V2 (gs:=gs) (k:=k);unfold Hl vw;cases h:fN gs k 0 with
 | none=>
  have g:k∉es.map (·.1):=λq=>by
   rw[<-b]at q;have⟨x,j⟩:=d.2 q;rw[h]at j;cases j
  exact .inr ⟨g,rfl,zh g⟩
 | some q=>
  have s:k∈es.map (·.1):=by rw[<-b];exact d.1 ⟨q,h⟩
  exact .inl ⟨s,rfl,zf s⟩
theorem MS.ent{b:Nat}(d:gs.map (·.1)=es.map (·.1)):MS r (Hl gs k) b↔MS r gs b:=by
 unfold MS;rcases Nu (k:=k) d with⟨_,h,_⟩|⟨_,h,_⟩
 .rw[h]
 .rw[h];simp[cd]
theorem ud.entry{P:Program}{mt kt et:TypeId}(G:ud e w U r c0 gs es)(hk:eX k)(hm:P.underlying mt=M (.map kt et))(F:ig P kt=O){i:TypeInfo}(hi:P.info? et=M i)(hz:i.zero=M (.slice Q2 0 0)):
  ∃(g:Array MapEntry)(d n:Nat),(Instr.mapEntry mt (.map (M r)) (cO k)).run P w=.ok (.tuple #[ET gs k,.int .i64 (c0+n:Nat)]) {w with heap:=w.heap.setIfInBounds r (.map g d)}/\
   ud e {w with heap:=w.heap.setIfInBounds r (.map g d)} U r c0 (Hl gs k) (vw es k)/\(Hl gs k)[n]?=M (k,ET gs k):=by
 obtain⟨ents,clock,hb,he,hs⟩:=G.mp;obtain⟨g,d,n,h1,h2,h3,h4⟩:=Pq (w:=w) hm F hi hz hk hb he G.ok hs;have u:=oq (o':=Obj.map g d) hb
 have keep:∀{v:Value}{l:List (J e)},gz e w U v l->cd v≠M r->gz e {w with heap:=w.heap.setIfInBounds r (.map g d)} U v l:=λh hr=>
  h.mono sw (λb _ hu=>u.2 b λq=>hu (q▸G.ur)) (λ_ _ h=>h) λb s=>⟨u.2 b λq=>hr (q▸s),(h.blk s).1⟩
 refine⟨g,d,n,h1,⟨⟨g,d,u.1,h2,h3⟩,?_,?_,?_,?_,?_,?_,G.ur⟩,h4⟩
 all_goals rcases Nu (k:=k) G.keys with⟨A,H,e2⟩|⟨A,H,e2⟩
 all_goals rw[H]
 all_goals try rw[e2]
 .exact G.keys
 .rw[ib,ib,G.keys];rfl
 .exact G.nd
 .rw[ib];refine List.nodup_append.2 ⟨G.nd,sw,λa ha b s q=>A ?_⟩;have:b=k:=by simpa using s
  rw[<-this,<-q,<-G.keys];exact ha
 .exact G.ok
 .intro p hp;rcases cZ.1 hp with h|h
  .exact G.ok p h
  .obtain rfl:=ff.1 h;exact hk
 .exact λj p q hp z=>keep (G.own j p q hp z) (G.far p (fZ hp))
 .intro j p q hp z;have hl:X gs=X es:=by simpa using congrArg X G.keys
  by_cases D:j<X gs
  .rw[qK D]at hp;rw[qK W]at z;exact keep (G.own j p q hp z) (G.far p (fZ hp))
  .have B:j-X gs=0:=by
    rw[pn W]at hp;have:=(dC.1 hp).1;simp at this;omega
   rw[pn W,B]at hp;rw[pn W,<-hl,B]at z;cases hp;cases z;exact gz.nil
 .exact G.apart
 .intro i j p q b hp z h5 h6;have lt:∀(i:Nat)(p:K3×Value),(gs++[(k,Value.slice Q2 0 0)])[i]?=M p->cd p.2=M b->gs[i]?=M p:=λi p hp s=>by
   by_cases D:i<X gs
   .rwa [qK D]at hp
   .rw[pn W]at hp;have:=fZ hp;obtain rfl:=ff.1 this;simp[cd]at s
  exact G.apart i j p q b (lt i p hp h5) (lt j q z h6) h5 h6
 .exact G.far
 .intro p hp;rcases cZ.1 hp with h|h
  .exact G.far p h
  .obtain rfl:=ff.1 h;simp[cd]
end
section
variable {e:Sh} {w w':World} {U U':Nat->Prop} {ρ:Nat->Option Value} {v:Value} {l:List (J e)} {r c0:Nat} {gs:List (K3×Value)} {es:List (K3×List (J e))} {k:K3}
theorem Tk{ents b:Array MapEntry}{clock h:Nat}(g:w.heap[r]?=M (.map ents clock)):lv w {w with heap:=w.heap.setIfInBounds r (.map b h)}:=by
 have⟨j,s⟩:=oq (o':=Obj.map b h) g;refine⟨sw,rfl,rfl,rfl,λa _=>?_⟩;by_cases d:a.block=r
 .unfold World.frozen?;simp only[d,j,g]
 .exact Bk (s a.block d)
structure XH (w:World) (U:Nat->Prop) (r:Nat) (gs:List (K3×Value)) (w':World) (U':Nat->Prop) (gs':List (K3×Value)):Prop where
 ext:lv w w'
 same:∀b,b<w.heap.size->¬MS r gs b->w'.heap[b]?=w.heap[b]?
 u1:∀b,b<w.heap.size->U' b->U b
 u2:∀b,b<w.heap.size->U b->¬MS r gs b->U' b
 ub:∀b,U' b->b<w'.heap.size
 new:∀b,MS r gs' b->MS r gs b\/w.heap.size<=b
theorem ud.inU(G:ud e w U r c0 gs es){b:Nat}(h:MS r gs b):U b/\b<w.heap.size:=by
 rcases h with rfl|⟨p,hp,d⟩
 .have⟨_,_,h,_⟩:=G.mp;exact⟨G.ur,(mP.1 h).1⟩
 .obtain⟨j,g,rfl⟩:=fK hp;have s:X gs=X es:=by simpa using congrArg X G.keys
  exact(G.own j _ (es[j]'ow) (af g) (af W)).blk d
variable {et:TypeId}{x:J e}{vx:Value}
theorem ud.store{E:ct}(hE:EnvOk E){n:Nat}{h0:TypeId}(G:ud e w U r c0 gs es)(H:gs[n]?=M (k,v))(x9:es[n]?=M (k,l))(hu:E.P.underlying et=M (.slice h0))(a7:E.sh h0=M e)(hx:Rv w U ρ (.sl e [x]) vx)(a8:∀b,U b->b<w.heap.size)(i0:X l<=1000)(mt ty:TypeId):
  ∃D w2 w3 U3,(Builtin.append_ #[et,et] ty #[v,vx]).run E.P w=.ok D w2/\(Instr.entryStore mt (.map (M r)) (.int .i64 (c0+n:Nat)) D).run E.P w2=.ok () w3/\
   ud e w3 U3 r c0 (gs.set n (k,D)) (es.set n (k,l++[x]))/\XH w U r gs w3 U3 (gs.set n (k,D)):=by
 have hv:=G.own n _ _ H x9;have x5:=G.far _ (fZ H);obtain⟨ents,clock,s,he,hs⟩:=G.mp;have x1:r<w.heap.size:=(mP.1 s).1;have a1:bz w U (kq (λ_=>Q2) 0 v) 0 (.vec e l):=hv.to (by simp[kq]);have h8:∀{b:Nat},aq (kq (λ_=>Q2) 0 v) 0 (.vec e l) b->cd v=M b:=λ⟨_,y,hy,s⟩=>by simp[kq]at hy;subst hy;exact s
 have a5:(oE E (λid=>if id=0 then .vec e l else .dead) 1 h0 (.vec 0) (.sl e [x])).val=M {val:=.vec 1,wr:=[(0,.dead)],nw:=[.vec e (l++[x])]}:=by
  have hd:N (X l+[x].length<=1073741824)=O:=by simp;omega
  simp only[oE,a7,zj,vj,dite_true,Tr.val,hd]
 obtain⟨D,w2,U2,ρ2,a3,d,_⟩:=BD hE (w:=w) (U:=U) (ρ:=kq (λ_=>Q2) 0 v) (t:=et) (t':=et) (ty:=ty) (vb:=v) (vx:=vx) (fp:=[0]) a5 hu hu (.vec 0 v (by simp[kq]) hv.one)
  (by have:=hx.ren (ρ':=kq (λ_=>Q2) 0 v) (f:=λi=>i) (by simp[AV.ids]);simpa[AV.ren]using this) a8
  ⟨λid x8=>by simp at x8;subst x8;exact a1,λi hi j hj _ _ _=>by simp at hi hj;omega⟩ (by simp[AV.ids]) (by simp[AV.ids]) (by simp[kq])
 have x3:ρ2 1=M D:=by have:=d.val;cases this with|vec _ _ h _=>exact h
 have a9:gz e w2 U2 D (l++[x]):=zoS x3 (d.nw 0 _ rfl);have B:∀b,cd v≠M b->∀id o,(id,o)∈([(0,AO.dead)]:List (Nat×AO))->¬aq (kq (λ_=>Q2) 0 v) id (ite (id=0) (.vec e l) (.dead)) b:=λb s id o h4 ho=>by
  simp at h4;obtain⟨rfl,_⟩:=h4;exact s (h8 ho)
 have z:∀b,cd D=M b->w.heap.size<=b\/cd v=M b:=λb g=>by
  rcases d.own 1 (.vec e (l++[x])) b (.inr ⟨zQ _,rfl⟩) ⟨rfl,D,x3,g⟩with h|⟨i,o,h4,ho⟩
  .exact .inl h
  .simp at h4;obtain⟨rfl,_⟩:=h4;exact .inr (h8 ho)
 have x4:w2.heap[r]?=M (.map ents clock):=(d.same r x1 (B r x5)).trans s;have x2:U2 r:=d.u2 r x1 G.ur (B r x5);have i1:(wH gs)[n]?=M (cO k,v):=by rw[dK,H];rfl
 obtain⟨A,h1,h2,h3⟩:=Pr (P:=E.P) (mt:=mt) (w:=w2) (v':=D) x4 he hs H;have F:=oq (o':=Obj.map A clock) x4;have a2:cd D≠M r:=λq=>(z r q).elim (λh=>by omega) x5
 have Oc:∀{v:Value}{l:List (J e)},gz e w2 U2 v l->cd v≠M r->gz e {w2 with heap:=w2.heap.setIfInBounds r (.map A clock)} U2 v l:=λh hr=>
  h.mono sw (λb _ hu=>F.2 b λq=>hu (q▸x2)) (λ_ _ h=>h) λb g=>⟨F.2 b λq=>hr (q▸g),(h.blk g).1⟩
 have x7:∀{u:Value}{m:List (J e)},gz e w U u m->(∀b,cd u=M b->cd v≠M b)->gz e w2 U2 u m:=λh hd=>
  h.mono d.ext.sz (λb s hu=>d.same b s (B b λq=>hu (hv.blk q).1)) d.u1 λb g=>⟨d.same b (h.blk g).2 (B b (hd b g)),d.u2 b (h.blk g).2 (h.blk g).1 (B b (hd b g))⟩
 have hl:X gs=X es:=by simpa using congrArg X G.keys
 have a6:=(dC.1 H).1;have h9:∀{j:Nat}{p:K3×Value},(gs.set n (k,D))[j]?=M p->(j=n/\p=(k,D))\/(j≠n/\gs[j]?=M p):=λ{j p} hp=>by
  rw[mY]at hp;split at hp
  next q=>cases hp;exact .inl ⟨q.symm,rfl⟩
  next q=>exact .inr ⟨λh=>q h.symm,hp⟩
 have h7:(gs.set n (k,D)).map (·.1)=gs.map (·.1):=by
  rw[List.map_set];apply oo;intro i;rw[mY];split
  next q=>subst q;rw[dK,H,zf (by simpa using a6)];rfl
  .rfl
 have x0:(es.set n (k,l++[x])).map (·.1)=es.map (·.1):=by
  rw[List.map_set];apply oo;intro i;rw[mY];split
  next q=>subst q;rw[dK,x9,zf sg];rfl
  .rfl
 refine⟨D,w2,_,U2,a3,h1,⟨⟨A,clock,F.1,h2,h3⟩,by rw[h7,x0];exact G.keys,by rw[h7];exact G.nd,λp hp=>?_,λj p q hp hq=>?_,λi j p q b hp hq h5 h6=>?_,λp hp=>?_,x2⟩,?_⟩
 .rcases SO hp with h|rfl
  .exact G.ok p h
  .exact G.ok (k,v) (fZ H)
 .rcases h9 hp with⟨rfl,rfl⟩|⟨hj,hp⟩
  .rw[List.getElem?_set_self W]at hq;cases hq;exact Oc a9 a2
  .rw[DA (λq=>hj q.symm)]at hq;exact Oc (x7 (G.own j p q hp hq) λb h5 h6=>hj (G.apart j n p _ b hp H h5 h6)) (G.far p (fZ hp))
 .have a4:∀{j:Nat}{p:K3×Value},gs[j]?=M p->cd p.2=M b->b<w.heap.size:=λ{j p} hp g=>(G.inU (.inr ⟨p,fZ hp,g⟩)).2
  rcases h9 hp with⟨rfl,rfl⟩|⟨hi,x6⟩
  .rcases h9 hq with⟨rfl,rfl⟩|⟨hj,hq⟩
   .rfl
   .rcases z b h5 with h|h
    .have:=a4 hq h6;omega
    .exact G.apart _ j _ q b H hq h h6
  .rcases h9 hq with⟨rfl,rfl⟩|⟨hj,hq⟩
   .rcases z b h6 with h|h
    .have:=a4 x6 h5;omega
    .exact G.apart i _ p _ b x6 H h5 h
   .exact G.apart i j p q b x6 hq h5 h6
 .rcases SO hp with h|rfl
  .exact G.far p h
  .exact a2
 .have a0:∀b,¬MS r gs b->cd v≠M b:=λb s q=>s (.inr ⟨_,fZ H,q⟩)
  refine⟨d.ext.trans (Tk x4),λb s hg=>(F.2 b λq=>hg (.inl q)).trans (d.same b s (B b (a0 b hg))),d.u1,λb s hu hg=>d.u2 b s hu (B b (a0 b hg)),λb s=>by have:=d.ub b s;simpa using this,λb s=>?_⟩;rcases s with rfl|⟨p,hp,s⟩
  .exact .inl (.inl rfl)
  .rcases SO hp with h|rfl
   .exact .inl (.inr ⟨p,h,s⟩)
   .exact(z b s).elim .inr λh=>.inl (.inr ⟨_,fZ H,h⟩)
theorem ud.add{E:ct}(hE:EnvOk E){mt kt elem:TypeId}(G:ud e w U r c0 gs es)(hk:eX k)(hm:E.P.underlying mt=M (.map kt et))(h5:ig E.P kt=O){i:TypeInfo}(hi:E.P.info? et=M i)(hz:i.zero=M (.slice Q2 0 0))(hu:E.P.underlying et=M (.slice elem))(h0:E.sh elem=M e)
    (hx:Rv w U ρ (.sl e [x]) vx) (h4:∀b,U b->b<w.heap.size) (A:∀q∈es,X q.2<=1000) (ty:TypeId):
  ∃v s w1 v' w2 w3 U3 H n l,(Instr.mapEntry mt (.map (M r)) (cO k)).run E.P w=.ok (.tuple #[v,s]) w1/\(Builtin.append_ #[et,et] ty #[v,vx]).run E.P w1=.ok v' w2/\(Instr.entryStore mt (.map (M r)) s v').run E.P w2=.ok () w3/\
   (vw es k)[n]?=M (k,l)/\ud e w3 U3 r c0 H ((vw es k).set n (k,l++[x]))/\XH w U r gs w3 U3 H:=by
 have⟨j,g,n,h1,G1,hn⟩:=G.entry (P:=E.P) hk hm h5 hi hz;have⟨ents,clock,hb,_⟩:=G.mp;have B:=oq (o':=Obj.map j g) hb;obtain⟨l,D⟩:∃l,(vw es k)[n]?=M (k,l):=by
  have e1:((vw es k).map (·.1))[n]?=M k:=by rw[<-G1.keys,dK,hn];rfl
  rw[dK,dW]at e1;obtain⟨⟨k',l⟩,h,rfl⟩:=e1;exact⟨l,h⟩
 have hl:X l<=1000:=by
  have:=fZ D;unfold vw at this;split at this
  .exact A _ this
  .rcases cZ.1 this with h|h
   .exact A _ h
   .have:=ff.1 h;cases this;exact aK _
 have h6:Rv {w with heap:=w.heap.setIfInBounds r (.map j g)} U ρ (.sl e [x]) vx:=hx.mono sw (λb _ hu=>B.2 b λq=>hu (q▸G.ur)) (λ_ _ h=>h) λ_ _ h=>h
 have⟨v',w2,w3,U3,h2,h3,G3,d⟩:=G1.store hE hn D hu h0 h6 (λb hb=>by have:=h4 b hb;simpa using this) hl mt ty;have F:∀b,MS r (Hl gs k) b↔MS r gs b:=λb=>MS.ent G.keys
 have z:({w with heap:=w.heap.setIfInBounds r (.map j g)}:World).heap.size=w.heap.size:=by simp
 refine⟨_,_,_,v',w2,w3,U3,_,n,l,h1,h2,h3,D,G3,⟨(Tk hb).trans d.ext,λb u hg=>(d.same b (by rw[z];exact u) (λq=>hg ((F b).1 q))).trans (B.2 b λq=>hg (.inl q)),λb u=>d.u1 b (by rw[z];exact u),λb u hu hg=>d.u2 b (by rw[z];exact u) hu (λq=>hg ((F b).1 q)),d.ub,λb u=>?_⟩⟩;rcases d.new b u with h|h
 .exact .inl ((F b).1 h)
 .rw[z]at h;exact .inr h
end
def wg(E:ct)(C:eW)(fn:FuncId)(todo:List Item)(h:Act->World->Prop)(Q:AV->List AO->Prop):Prop:=
 ∀(b:Frame)(cs:List Frame)(a:Act)(w:World),b.fn=fn->b.kind=.normal->h a w->∃e w' d,Vg E C Q e w'/\Comes E.P (lone (b.at a todo) cs w) (lone d cs w') e/\d.fn=fn/\d.leaving E.P w' e
section
variable {E:ct} {C:eW} {fn:FuncId} {Q:AV->List AO->Prop} {todo k:List Item} {st:St} {c:Code}
variable {b:Act->World->Prop}
theorem wg.of(h:Reach E C fn todo st Q)(j:∀a w,b a w->∃U ρ,Cn C st a w U ρ/\Wd E.gl C w U):wg E C fn todo b Q:=λd cs a w h1 h2 g=>by
 have⟨U,ρ,u,s⟩:=j a w g;exact h d cs a w U ρ h1 h2 u s
theorem wg.reach(h:wg E C fn todo b Q)(g:∀a w U ρ,Cn C st a w U ρ->Wd E.gl C w U->b a w):Reach E C fn todo st Q:=λd cs a w U ρ h1 h2 s j=>h d cs a w h1 h2 (g a w U ρ s j)
theorem wg.round{z:Act->World->Prop}(h:wg E C fn (.code c::.inLoop c::k) z Q)(D:∀a w,b a w->c.wp E.P (λe j w'=>e=.normal/\z j w') a w):wg E C fn (.code c::.inLoop c::k) b Q:=by intro d cs a w h1 h2 B;obtain⟨e,j,w',⟨rfl,s⟩,g⟩:=D a w B d (.inLoop c::k) cs;have⟨e,u,A,F,G,H⟩:=h d cs j w' h1 h2 s;exact⟨e,u,A,F,mc g (mc (.one step_inLoop) G),H⟩
theorem wg.rounds(n:Nat)(b:Nat->Act->World->Prop)(s:∀i,i<n->∀a w,b i a w->c.wp E.P (λe g w'=>e=.normal/\b (i+1) g w') a w)(h:wg E C fn (.code c::.inLoop c::k) (b n) Q):wg E C fn (.code c::.inLoop c::k) (b 0) Q:=by
 have d:∀j,j<=n->wg E C fn (.code c::.inLoop c::k) (b (n-j)) Q:=by
  intro j
  induction j with
  |zero=>exact λ_=>h
  | succ j u=>
   grind[round]
 have:=d n (zQ _)
 rwa [Nat.sub_self]at this
end
section
variable {gl:Nat->AV} {C:eW} {a:Act} {w:World} {U:Nat->Prop} {ρ:Nat->Option Value} {e:Sh} {m r c0:Nat} {gs:List (K3×Value)} {es:List (K3×List (J e))} {tm:List AV} {h1 h2:List AO}
structure kv (C:eW) (e:Sh) (tm:List AV) (h1 h2:List AO) (a:Act) (w:World) (U:Nat->Prop) (ρ:Nat->Option Value) (r c0:Nat) (gs:List (K3×Value)) (es:List (K3×List (J e))):Prop where
 cn:Cn C ⟨tm,h1++.dead::h2⟩ a w U ρ
 at_:ρ (X h1)=M (.map (M r))
 gr:ud e w U r c0 gs es
 far:∀id b,aq ρ id ((⟨tm,h1++.dead::h2⟩:St).hp id) b->¬MS r gs b
 rb:C.B0 r\/C.w0.heap.size<=r
 nb:∀p∈gs,∀b,cd p.2=M b->C.w0.heap.size<=b
theorem wY(o:AO)(id:Nat):(⟨tm,h1++o::h2⟩:St).hp id=if id=X h1 then o else(⟨tm,h1++.dead::h2⟩:St).hp id:=by
 show(h1++o::h2).getD id .dead=if id=X h1 then o else(h1++.dead::h2).getD id .dead
 grind
theorem zeM(g:Cn C ⟨tm,h1++.gmap e []::h2⟩ a w U ρ):∃r c0,kv C e tm h1 h2 a w U ρ r c0 [] []:=by
 have A:=g.hp.ob (X h1);rw[wY,zf rfl]at A;have⟨r,ents,clock,gs,B,q2,q3,q4,q5,q6,q7⟩:=A;have z:gs=[]:=by simpa using q6
 subst z;have H:ents=#[]:=by simpa using q5
 subst H;have s:aq ρ (X h1) ((⟨tm,h1++.gmap e []::h2⟩:St).hp (X h1)) r:=by
  rw[wY,zf rfl];exact⟨rfl,_,B,rfl⟩
 have u:∀id b,aq ρ id ((⟨tm,h1++.dead::h2⟩:St).hp id) b->id≠X h1/\aq ρ id ((⟨tm,h1++.gmap e []::h2⟩:St).hp id) b:=λid b h=>by
  by_cases d:id=X h1
  .rw[wY,zf d]at h;cases h.1
  grind[wY]
 refine⟨r,clock,⟨⟨g.tm,⟨λid=>?_,λi j b F G=>g.hp.inj i j b (u i b F).2 (u j b G).2,λid b h=>g.hp.blk id b (u id b h).2⟩,λid d=>g.new id (by simpa using d),g.df,g.r0⟩,B,⟨⟨#[],clock,q3,sw,⟨sw,sw⟩⟩,rfl,sw,sw,sw,sw,sw,q2⟩,λid b h D=>?_,g.hp.blk _ _ s,sw⟩⟩
 .rw[wY];split
  .trivial
  .rename_i d;have:=g.hp.ob id
   rwa [wY,zh d]at this
 .rcases D with rfl|⟨p,hp,_⟩
  .exact(u id _ h).1 (g.hp.inj id (X h1) _ (u id _ h).2 s)
  .cases hp
theorem V9(h:kv C e tm h1 h2 a w U ρ r c0 gs es)(D:Wd gl C w U):∃U',Cn C ⟨tm,h1++.gmap e es::h2⟩ a w U' ρ/\Wd gl C w U':=by
 refine⟨λb=>U b/\¬∃p∈gs,cd p.2=M b,⟨?_,⟨λid=>?_,λi j b hi hj=>?_,λid b u=>?_⟩,λid d=>h.cn.new id (by simpa using d),h.cn.df,h.cn.r0⟩,⟨D.ext,D.same,λb s=>D.ub b s.1,λb s F=>D.u1 b s F.1,λb s F hB=>⟨D.u2 b s F hB,λ⟨p,hp,h0⟩=>by have:=h.nb p hp b h0;omega⟩,λg=>(D.gl g).weak λ_ h=>h.1⟩⟩
 .exact⟨h.cn.tm.len,λj c v hc A=>(h.cn.tm.rv j c v hc A).weak λ_ h=>h.1⟩
 .rw[wY];split
  next d=>subst d;have⟨ents,clock,g1,g2,g3⟩:=h.gr.mp;refine⟨r,ents,clock,gs,h.at_,⟨h.gr.ur,λ⟨p,hp,s⟩=>h.gr.far p hp s⟩,g1,⟨by simpa using(congrArg X h.gr.keys).symm,λj c v hc A=>?_⟩,g2,h.gr.keys,h.gr.ok⟩;rw[dK,dW]at hc A;obtain⟨q,hq,rfl⟩:=hc;obtain⟨p,hp,rfl⟩:=A;exact(h.gr.own j p q hp hq).rv (λ_ h=>h.1) λb s F=>F.2 ⟨p,fZ hp,s⟩
  next d=>refine(h.cn.hp.ob id).mono (zQ _) (λ_ _ _=>rfl) (λ_ _ h=>h.1) (λ_ _ h=>h) λb u=>⟨rfl,(bz.inU (h.cn.hp.ob id) u).1,λ⟨p,hp,s⟩=>h.far id b u (.inr ⟨p,hp,s⟩)⟩
 .have z:∀id b,aq ρ id ((⟨tm,h1++.gmap e es::h2⟩:St).hp id) b->(id=X h1/\b=r)\/(id≠X h1/\aq ρ id ((⟨tm,h1++.dead::h2⟩:St).hp id) b):=λid b u=>by
   rw[wY]at u;split at u
   next d=>have⟨_,v,A,s⟩:=u;rw[d,h.at_]at A;cases A;cases s;exact .inl ⟨d,rfl⟩
   next d=>exact .inr ⟨d,u⟩
  rcases z i b hi with⟨e1,G⟩|⟨e1,G⟩
  .rcases z j b hj with⟨H,B⟩|⟨H,B⟩
   .rw[e1,H]
   .exact zz (.inl G) (h.far j b B)
  .rcases z j b hj with⟨H,B⟩|⟨H,B⟩
   .exact zz (.inl B) (h.far i b G)
   .exact h.cn.hp.inj i j b G B
 .rw[wY]at u;split at u
  next d=>have⟨_,v,A,s⟩:=u;rw[d,h.at_]at A;cases A;cases s;exact h.rb
  .exact h.cn.hp.blk id b u
variable {w':World}{U':Nat->Prop}
theorem ud.keep(G:ud e w U r c0 gs es)(A:w.heap.size<=w'.heap.size)(u:∀b,b<w.heap.size->¬U b->w'.heap[b]?=w.heap[b]?)(B:∀b,b<w.heap.size->U' b->U b)(h:∀b,MS r gs b->w'.heap[b]?=w.heap[b]?/\U' b):ud e w' U' r c0 gs es:=by refine⟨?_,G.keys,G.nd,G.ok,λj p q hp z=>(G.own j p q hp z).mono A u B λb s=>h b (.inr ⟨p,fZ hp,s⟩),G.apart,G.far,(h r (.inl rfl)).2⟩;have⟨ents,clock,g,d⟩:=G.mp;exact⟨ents,clock,(h r (.inl rfl)).1.trans g,d⟩
variable {tm':List AV}
theorem kv.keep{g:Act}{ρ':Nat->Option Value}(h:kv C e tm h1 h2 a w U ρ r c0 gs es)(A:Cn C ⟨tm',h1++.dead::h2⟩ g w' U' ρ')(j:wi w U ρ (⟨tm,h1++.dead::h2⟩:St).hp w' U' ρ' (⟨tm',h1++.dead::h2⟩:St).hp):kv C e tm' h1 h2 g w' U' ρ' r c0 gs es:=by
 have u:∀b,MS r gs b->∀id,¬aq ρ id ((⟨tm,h1++.dead::h2⟩:St).hp id) b:=λb d id s=>h.far id b s d
 refine⟨A,j.rho _ _ h.at_,h.gr.keep j.ext.sz (λb z F=>j.same b z λid s=>F (bz.inU (h.cn.hp.ob id) s).1) j.u1 (λb d=>⟨j.same b (h.gr.inU d).2 (u b d),j.u2 b (h.gr.inU d).2 (h.gr.inU d).1 (u b d)⟩),λid b s d=>?_,h.rb,h.nb⟩;rcases j.own id b s with⟨i,B⟩|D
 .exact h.far i b B d
 .have:=(h.gr.inU d).2;omega
theorem kv.left{u:List (K3×Value)}{D:List (K3×List (J e))}(h:kv C e tm h1 h2 a w U ρ r c0 gs es)(B:Wd gl C w U)(d:XH w U r gs w' U' u)(G:ud e w' U' r c0 u D):kv C e tm h1 h2 a w' U' ρ r c0 u D/\Wd gl C w' U':=by
 have hk:∀b,b<w.heap.size->¬U b->w'.heap[b]?=w.heap[b]?:=λb s H=>d.same b s λF=>H (h.gr.inU F).1
 have h0:∀b,b<C.w0.heap.size->¬C.B0 b->¬MS r gs b:=λb s z F=>by
  rcases F with rfl|⟨p,hp,A⟩
  .exact h.rb.elim z λq=>by omega
  .have:=h.nb p hp b A;omega
 have h3:=B.ext.sz
 refine⟨⟨⟨⟨h.cn.tm.len,λj c v hc hv=>(h.cn.tm.rv j c v hc hv).mono d.ext.sz hk d.u1 λ_ _ h=>h⟩,⟨λid=>(h.cn.hp.ob id).mono d.ext.sz hk d.u1 (λ_ _ h=>h) λb ho=>?_,h.cn.hp.inj,h.cn.hp.blk⟩,h.cn.new,h.cn.df,h.cn.r0⟩,h.at_,G,λid b ho F=>?_,h.rb,λp hp b s=>?_⟩,
  ⟨B.ext.trans d.ext,λb s z=>(d.same b W (h0 b s z)).trans (B.same b s z),d.ub,λb s H=>B.u1 b s (d.u1 b W H),λb s H z=>d.u2 b W (B.u2 b s H z) (h0 b s z),λg=>(B.gl g).mono d.ext.sz hk d.u1 λ_ _ h=>h⟩⟩
 .have⟨u1,u2⟩:=bz.inU (h.cn.hp.ob id) ho;grind[XH.same,far,XH.u2]
 .have⟨u1,u2⟩:=bz.inU (h.cn.hp.ob id) ho;rcases d.new b F with q|q
  .exact h.far id b ho q
  .omega
 .rcases d.new b (.inr ⟨p,hp,s⟩)with(q|⟨p',hp',A⟩)|q
  .exact zz (q▸s) (G.far p hp)
  .exact h.nb p' hp' b A
  .omega
theorem kv.slots{g:Act}(h:kv C e tm h1 h2 a w U ρ r c0 gs es)(d:di w U ρ tm' g.tmps.toList)(b:g.defers=[]):kv C e tm' h1 h2 g w U ρ r c0 gs es:=⟨⟨d,h.cn.hp,h.cn.new,b,h.cn.r0⟩,h.at_,h.gr,h.far,h.rb,h.nb⟩
def uM(ks:List Nat)(l:List AV):List AV:=l.mapIdx λi c=>if ks.contains i then c else .any
theorem KR{ks:List Nat}{l:List AV}{g:List Value}(h:di w U ρ l g):di w U ρ (uM ks l) g:=⟨by unfold uM;rw[List.length_mapIdx];exact h.len,λj c v b u=>by
 unfold uM at b;rw[List.getElem?_mapIdx,dW]at b;obtain⟨s,d,rfl⟩:=b;split
 .exact h.rv j s v d u
 .exact .any _⟩
end
section
variable {E:ct} {C:eW} {a:Act} {w:World} {U:Nat->Prop} {ρ:Nat->Option Value} {e:Sh} {r c0:Nat} {gs:List (K3×Value)} {es:List (K3×List (J e))} {tm tm':List AV} {h1 h2:List AO} {cs:List Bool}
theorem JN{α:Type}{t:Tr α}{s:α}(h:t.leaf=M s)(d:t.asks=cs)(b:cs.all id=O):t.val=M s:=Tr.val_leaf h (by rw[d];exact b)
theorem kv.region(B:zw E){id:Nat}{ops:List Oper}(ks:List Nat)(h:kv C e tm h1 h2 a w U ρ r c0 gs es)(F:Wd E.gl C w U)
  (A:(jW E ops S ⟨tm,h1++.dead::h2⟩).leaf.map (λs=>(uM ks s.tmps,s.heap))=M (tm',h1++.dead::h2)) (H:(jW E ops S ⟨tm,h1++.dead::h2⟩).asks=cs) (G:cs.all _root_.id=O):
  (Code.region id ops.toArray S).wp E.P (λu j w'=>u=.normal/\∃U' ρ',kv C e tm' h1 h2 j w' U' ρ' r c0 gs es/\Wd E.gl C w' U') a w:=by rw[dW]at A;have⟨s,hs,z⟩:=A;have⟨st,sh⟩:=s;simp only[cN]at z;obtain⟨rfl,rfl⟩:=z;have hv:=JN hs H G;refine wp_mono (Pn (id:=id) (draw:=S) (ops:=ops.toArray) B (by simpa using hv) h.cn F) ?_;rintro u j w' ⟨rfl,U',ρ',g,d,D⟩;have b:=h.keep g D;exact⟨rfl,U',ρ',b.slots (KR b.cn.tm) b.cn.df,d⟩
variable {Q:Exit->Act->World->Prop}
theorem kv.ops(D:zw E){id:Nat}{b d:List Oper}(ks:List Nat)(h:kv C e tm h1 h2 a w U ρ r c0 gs es)(H:Wd E.gl C w U)
  (B:(cm E (b++d) b {tmps:=tm,heap:=h1++.dead::h2}).leaf.map (λs=>(uM ks s.tmps,s.heap))=M (tm',h1++.dead::h2)) (hk:(cm E (b++d) b {tmps:=tm,heap:=h1++.dead::h2}).asks=cs) (hc:cs.all _root_.id=O)
  (G:∀g w' U' ρ',kv C e tm' h1 h2 g w' U' ρ' r c0 gs es->Wd E.gl C w' U'->wpOps E.P (b++d).toArray Q (List.range' (X b) (X d)) g w'):(Code.region id (b++d).toArray S).wp E.P Q a w:=by rw[dW]at B;have⟨s,hs,A⟩:=B;have hv:=JN hs hk hc;have⟨st,sh,kn,tc,lg⟩:=s;simp only[cN]at A;obtain⟨rfl,rfl⟩:=A;refine wp_region (zfv D hv h.cn.toR H λg w' U' ρ' z u F=>?_);have j:=h.keep (tm':=st) z.out F;exact G g w' U' ρ' (j.slots (KR j.cn.tm) j.cn.df) u
variable {P:Program}{b:Array Oper}{v:Value}{w':World}
theorem t7{k m:Nat}{o:Oper}(g:b[k]?=M o)(d:o.guard=Q2)(j:(execOp a.eval o).run P w=.ok (.value v) w')(h:wpOps P b Q (List.range' (k+1) m) (a.put o.dst v) w'):wpOps P b Q (List.range' k (m+1)) a w:=by rw[List.range'_succ];simp only[wpOps,g,Region.wanted,d,zj];exact .inl (fy j h)
theorem Sz{k m:Nat}{o:Oper}(g:b[k]?=M o)(d:o.guard=Q2)(j:(execOp a.eval o).run P w=.ok .skip w')(h:wpOps P b Q (List.range' (k+1) m) (a.put o.dst undef) w'):wpOps P b Q (List.range' k (m+1)) a w:=by rw[List.range'_succ];simp only[wpOps,g,Region.wanted,d,zj];exact .inl (sC j h)
section
variable {P:Program} {w':World} {f:Operand->Value} {o:Oper} {v x y:Value} {t t':TypeId} {m k p q:Operand}
theorem Hk(h1:o.op=.mapEntry t m k)(b:f m=x)(d:f k=y)(h:(Instr.mapEntry t x y).run P w=.ok v w'):(execOp f o).run P w=.ok (.value v) w':=by subst b d;simp[execOp,h1,h]
theorem Ce{z:Value}(h1:o.op=.entryStore t m k p)(b:f m=x)(d:f k=y)(g:f p=z)(h:(Instr.entryStore t x y z).run P w=.ok () w'):(execOp f o).run P w=.ok .skip w':=by subst b d g;simp[execOp,h1,h]
theorem wQ{b:Array Value}{i:Nat}(h1:o.op=.extract m i)(d:f m=.tuple b)(h:b[i]?=M v):(execOp f o).run P w=.ok (.value v) w:=by simp[execOp,h1,d,Instr.extract,h]
theorem NL(h1:o.op=.call {callee:=.builtin .append,args:=#[p,q],argTypes:=#[t,t']})(b:f p=x)(d:f q=y)(h:(Builtin.append_ #[t,t'] o.type #[x,y]).run P w=.ok v w'):(execOp f o).run P w=.ok (.value v) w':=by subst b d;simp[execOp,h1,resolve,invoke,builtin,h]
end
theorem kC{a:Act}{d t:Nat}(h:d<a.tmps.size):(a.put (M d) v).eval (.tmp t)=if t=d then v else a.eval (.tmp t):=by
 simp only[Act.eval,Act.put];rw[qJ,qJ];split
 next e=>subst e;simp[h]
 next e=>rw[Array.getElem?_setIfInBounds_ne (λq=>e q.symm)]
theorem GA{a:Act}{d:Option Nat}:(a.put d v).tmps.size=a.tmps.size:=by cases d<;>simp[Act.put]
theorem di.slot{l:List AV}(h:di w U ρ l a.tmps.toList)(t:Nat):Rv w U ρ (l.getD t .any) (a.eval (.tmp t)):=by
 show Rv w U ρ _ (a.tmps.getD t undef);by_cases b:t<X l
 .have d:t<a.tmps.toList.length:=by rw[<-h.len];exact b
  refine h.rv t _ _ (by simp_all) ?_;simp_all
 .rw[bx,fe W];exact .any _
end
def lr(l:List K3):List K3:=l.foldl (λh a=>if a∈h then h else h++[a]) []
theorem ta(l:List K3)(a:K3):lr (l++[a])=if a∈lr l then lr l else lr l++[a]:=by unfold lr;rw[List.foldl_append];rfl
theorem Ay(Φ:List K3->List K3->Prop)(j:Φ [] [])(h1:∀l a,Φ l (lr l)->Φ (l++[a]) (lr (l++[a]))):∀l,Φ l (lr l):=by
 have g:∀(n:Nat)(l:List K3),X l=n->Φ l (lr l):=by
  intro n
  induction n with
  |zero=>intro l d;rw[List.length_eq_zero_iff.1 d];exact j
  | succ n s=>
   intro l d;obtain⟨h,b,rfl⟩:∃h b,l=h++[b]:=⟨l.dropLast,l.getLast (List.ne_nil_of_length_pos W),(List.dropLast_concat_getLast _).symm⟩;exact h1 h b (s h (by simpa using d))
 exact λl=>g _ l rfl
theorem I5(a:K3)(l:List K3):a∈lr l↔a∈l:=
 Ay (λl u=>a∈u↔a∈l) Iff.rfl (λl b g=>by
  rw[ta];split
  .rename_i h;rw[g,cZ,ff];exact⟨.inl,λq=>q.elim id λe=>e▸(Ay (λl u=>∀x∈u,x∈l) (λ_ h=>h) (λl c h x d=>by
    rw[ta]at d;split at d
    .exact List.mem_append_left _ (h x d)
    .rcases cZ.1 d with q|q
     .exact List.mem_append_left _ (h x q)
     .exact List.mem_append_right _ q) l) b h⟩
  .rw[cZ,cZ,g]) l
theorem BP(l:List K3):(lr l).Nodup:=
 Ay (λ_ u=>u.Nodup) List.nodup_nil (λl b d=>by
  rw[ta];split
  .exact d
  .rename_i h;refine List.nodup_append.2 ⟨d,sw,λx g y j e=>h ?_⟩;have:y=b:=by simpa using j
   rw[<-this,<-e];exact g) l
def dL(at_:Int)(rows:List zr):List (K3×List zr):=(lr (rows.map λrow=>zN at_ row)).map λk=>(k,rows.filter λrow=>k==zN at_ row)
section
variable {at_:Int} {rows:List (List (J K))} {row:List (J K)}
theorem BI:(dL at_ rows).map (·.1)=lr (rows.map λrow=>zN at_ row):=by unfold dL;rw[qx];exact List.map_id _
theorem NY{n:Nat}{l:List zr}(z:(vw (e:=.sl K) (dL at_ rows) (zN at_ row))[n]?=M (zN at_ row,l)):
  (vw (e:=.sl K) (dL at_ rows) (zN at_ row)).set n (zN at_ row,l++[row])=dL at_ (rows++[row]):=by
 have b:vw (e:=.sl K) (dL at_ rows) (zN at_ row)=(lr ((rows++[row]).map λrow=>zN at_ row)).map λk=>(k,rows.filter λrow=>k==zN at_ row):=by
  unfold vw;rw[BI,ib,er,rk,ta];split
  .rfl
  .rename_i h;rw[ib];have:(rows.filter λr=>zN at_ row==zN at_ r)=[]:=List.filter_eq_nil_iff.2 λr F u=>h ((I5 _ _).2 (aI.2 ⟨r,F,(bQ u).symm⟩))
   rw[er,rk,this];rfl
 have d:=BP ((rows++[row]).map λrow=>zN at_ row);rw[b]at z|-;unfold dL;generalize lr ((rows++[row]).map λrow=>zN at_ row)=ks at z d|-;apply oo;intro j;rw[dK,dW]at z;have⟨k,A,u⟩:=z;simp only[cN]at u;obtain⟨rfl,rfl⟩:=u;have s:=(dC.1 A).1;rw[dK,mY];split
 next q=>subst q;rw[A,zf (by simpa using s)];simp
 .rename_i q;rw[dK];cases D:ks[j]? with
  |none=>rfl
  | some G=>
   have B:(G==zN at_ row)=S:=by
    rw[dX];intro e;subst e;have h1:=(dC.1 D).1;refine q ?_;exact(List.getElem_inj (h₀:=s) (h₁:=h1) d).1 (by rw[(dC.1 A).2,(dC.1 D).2])
   have g:=dX.1 B;simpa[List.filter_append]using g
theorem Rf(k:K3):ly (e:=.sl K) (dL at_ rows) k=rows.filter λrow=>k==zN at_ row:=by
 have b:∀ks:List K3,(k∈ks->ly (e:=.sl K) (ks.map λk=>(k,rows.filter λrow=>k==zN at_ row)) k=(rows.filter λrow=>k==zN at_ row))/\(k∉ks->ly (e:=.sl K) (ks.map λk=>(k,rows.filter λrow=>k==zN at_ row)) k=[]):=by
  intro ks
  induction ks with
  |nil=>exact⟨λh=>(by cases h),λ_=>rfl⟩
  | cons a r d=>
   have e:ly (e:=.sl K) ((a::r).map λk=>(k,rows.filter λrow=>k==zN at_ row)) k=bif k==a then rows.filter λrow=>a==zN at_ row else ly (e:=.sl K) (r.map λk=>(k,rows.filter λrow=>k==zN at_ row)) k:=rfl
   rw[e];by_cases h:k=a
   .subst h;simp
   .have g:(k==a)=S:=by simpa using h
    rw[g,aL];exact⟨λq=>d.1 (by simpa[h]using q),λq=>d.2 λw=>q (mX _ w)⟩
 unfold dL;by_cases h:k∈lr (rows.map λrow=>zN at_ row)
 .exact(b _).1 h
 .rw[(b _).2 h];exact(List.filter_eq_nil_iff.2 λr s j=>h ((I5 _ _).2 (aI.2 ⟨r,s,(bQ j).symm⟩))).symm
theorem Tp{e:Sh}{es:List (K3×List (J e))}(g:(es.map (·.1)).Nodup) (u k:K3):ly (mS es u) k=if k=u then[]else ly es k:=by
 induction es with
 |nil=>split<;>rfl
 | cons p r B=>
  rw[er,List.nodup_cons]at g;have b:∀{s:List (K3×List (J e))},p.1∉s.map (·.1)->ly s p.1=[]:=by
   intro s
   induction s with
   |nil=>exact λ_=>rfl
   | cons q s j=>
    intro h;rw[er,bX,not_or]at h;have:(p.1==q.1)=S:=by simpa using h.1
    show(cond (p.1==q.1) q.2 (ly s p.1))=[];rw[this,aL];exact j h.2
  show ly (cond (u==p.1) r (p::mS r u)) k=_;by_cases h:u=p.1
  .subst h;rw[beq_self_eq_true,aN];split
   next q=>subst q;exact b g.1
   .rename_i q;have:(k==p.1)=S:=by simpa using q
    show _=bif k==p.1 then p.2 else ly r k
    rw[this,aL]
  .have z:(u==p.1)=S:=by simpa using h
   rw[z,aL];show(cond (k==p.1) p.2 (ly (mS r u) k))=if k=u then[]else bif k==p.1 then p.2 else ly r k
   rw[B g.2];cases A:k==p.1 with
   |false=>rfl
   | true=>
    have:k=p.1:=bQ A;have d:¬k=u:=λq=>h (q.symm.trans this)
    simp only[zh d,aN]
theorem H6{e:Sh}{es:List (K3×List (J e))}(h:(es.map (·.1)).Nodup) (u:K3):((mS es u).map (·.1)).Nodup:=h.sublist ((ER u es).map _)
theorem wW:((dL at_ rows).map (·.1)).Nodup:=by rw[BI];exact BP _
end
set_option maxRecDepth 100000
def Fb:Code:=match Tryz.f13.body with
 |some (.seq _ (.seq _ (.seq _ (.seq _ (.seq _ (.seq (.seq _ (.block _ (.loop c))) _))))))=>c
 |_=>.skip
def Pk:Code->List Oper
 |.region _ h _=>h.toList
 |_=>[]
def zor:List (List Oper):=match Fb with
 |.seq a (.seq _ (.seq (.block _ (.seq b c)) d))=>[Pk a,Pk b,(Pk c).take 7,(Pk c).drop 7,Pk d]
 |_=>[]
def Xk(i:Nat):List Oper:=zor.getD i []
theorem Wo:Fb=.seq (.region 7 (Xk 0).toArray S) (.seq (.cond (.tmp 37) .skip (.exit 0)) (.seq (.block 1 (.seq (.region 8 (Xk 1).toArray S) (.region 9 (Xk 2++Xk 3).toArray S))) (.region 10 (Xk 4).toArray S))):=kw
theorem zwf:(Xk 3).map (λo=>(o.dst,o.op,o.guard.isNone,o.type))=[(M 48,.mapEntry 91 (.tmp 40) (.tmp 44),O,0),(M 45,.extract (.tmp 48) 0,O,36),(M 49,.call {callee:=.builtin .append,args:=#[.tmp 45,.tmp 47],argTypes:=#[36,36]},O,36),(M 50,.extract (.tmp 48) 1,O,3),(Q2,.entryStore 91 (.tmp 40) (.tmp 50) (.tmp 49),O,0)]:=kw
theorem zmJ:∃k,ap Tryz.f13 7=.code Fb::.inLoop Fb::k:=⟨(ap Tryz.f13 7).drop 2,kw⟩
abbrev tmB(l2:zr)(b:zy)(d:List (J ze.sl))(n i:Int)(h:List (Nat×AV)):List AV:=tm 86 ([(2,T K l2),(3,ptr 0 0),(6,ptr 1 0),(9,ptr 2 0),(10,L b),(11,AV.mp 3),(34,T ze.sl d),(35,L n),(36,L i)]++h)
abbrev hpB(z0:zq [CP.d an])(z1:zq uh)(z2:zq wE):List AO:=[Qa (bF [] [CP.d an] z0),Qa (bF [] uh z1),Qa (bF [] wE z2)]
abbrev Xj:List Nat:=[2,3,6,9,10,11,34,35,36]
section
variable {C:eW} {a:Act} {w:World} {U:Nat->Prop} {ρ:Nat->Option Value} {r c0:Nat} {gs:List (K3×Value)} {l2:List (J K)} {at':Int} {rows:List (List (J K))} {z0:zq [CP.d an]} {z1:zq uh} {z2:zq wE} {n i:Int}
theorem zuW{α:Type}:∀l:List α,X l=5->∃a b c d e,l=[a,b,c,d,e]
 |[a,b,c,d,e],_=>⟨a,b,c,d,e,rfl⟩
theorem zoH{es:List (K3×List zr)}{k:K3}{row:zr}{tm':List AV}{Q:Exit->Act->World->Prop}(h:kv C ze.sl tm' (hpB z0 z1 z2) [] a w U ρ r c0 gs es)(hW:Wd fV.gl C w U)
  (F:tm'.getD 40 .any=.mp 3/\tm'.getD 44 .any=kav k/\tm'.getD 47 .any=.sl ze.sl [row]/\X tm'=86) (h7:∀q∈es,X q.2<=1000)
  (hQ:∀a' w' U' H j l,kv C ze.sl (uM Xj tm') (hpB z0 z1 z2) [] a' w' U' ρ r c0 H ((vw (e:=ze.sl) es k).set j (k,l++[row]))->(vw (e:=ze.sl) es k)[j]?=M (k,l)->Wd fV.gl C w' U'->Q .normal a' w') (hk:∀x∈[48,45,49,50],¬x∈Xj):
  wpOps fV.P (Xk 2++Xk 3).toArray Q (List.range' (Xk 2).length (Xk 3).length) a w:=by
 have⟨t1,t2,t3,t4⟩:=F;have h4:=h.cn.tm.slot 40;have x1:=h.cn.tm.slot 44;have x2:=h.cn.tm.slot 47;rw[t1]at h4;rw[t2]at x1;rw[t3]at x2;have⟨x9,a5⟩:=Aw x1;have h6:a.eval (.tmp 40)=.map (M r):=by
  generalize a.eval (.tmp 40)=v at h4;cases h4 with
  | mp _ _ hv _=>
   have:=h.at_;rw[show(hpB z0 z1 z2).length=3 from rfl,hv]at this;cases this;rfl
 have hz:(Tryz.prog.info? 36).map (λi=>i.zero)=M (M (.slice Q2 0 0)):=by kernel_rfl
 rw[dW]at hz;have⟨a9,hi,hz⟩:=hz;have⟨v,s,w1,v',w2,w3,U3,H,j,l,q1,q2,q3,q4,G3,b⟩:=h.gr.add (E:=fV) (mt:=91) (kt:=30) (et:=36) (elem:=39) gE.toEnvOk a5 kw kw hi hz kw kw (x:=row) x2 hW.ub h7 36;have⟨h3,a0⟩:=h.left hW b G3;have hs:=zwf;have a7:a.tmps.size=86:=by have:=h.cn.tm.len;simpa[t4]using this.symm
 generalize Xk 3=x3 at hs|-;generalize Xk 2=G;have a6:X x3=5:=by simpa using congrArg X hs
 obtain⟨o1,o2,o3,o4,o5,rfl⟩:=zuW x3 a6;simp only[er,rk,Bo,cN,Option.isNone_iff_eq_none,and_true]at hs;have⟨⟨d1,p1,g1,_⟩,⟨d2,p2,g2,_⟩,⟨d3,p3,g3,y3⟩,⟨d4,p4,g4,_⟩,⟨d5,p5,g5,_⟩⟩:=hs;have u:∀j,(G++[o1,o2,o3,o4,o5]).toArray[X G+j]?=[o1,o2,o3,o4,o5][j]?:=λj=>by
  rw[SP,pn W,Nat.add_sub_cancel_left]
 generalize(G++[o1,o2,o3,o4,o5]).toArray=i0 at u|-;generalize(X G)=g at u|-;have h5:(a.put (M 48) (.tuple #[v,s])).eval (.tmp 48)=.tuple #[v,s]:=by rw[kC W,zf rfl]
 have x7:(a.put (M 48) (.tuple #[v,s])).tmps.size=86:=by rw[GA,a7]
 generalize z:a.put (M 48) (.tuple #[v,s])=a1 at h5 x7;have h8:∀t,t≠48->a1.eval (.tmp t)=a.eval (.tmp t):=λt F=>by rw[<-z,kC W,zh F]
 have x8:(a1.put (M 45) v).tmps.size=86:=by rw[GA,x7]
 have x4:(a1.put (M 45) v).eval (.tmp 45)=v:=by rw[kC W,zf rfl]
 generalize A:a1.put (M 45) v=a2 at x4 x8;have h0:∀t,t≠45->a2.eval (.tmp t)=a1.eval (.tmp t):=λt F=>by rw[<-A,kC W,zh F]
 have a8:(a2.put (M 49) v').tmps.size=86:=by rw[GA,x8]
 have x5:(a2.put (M 49) v').eval (.tmp 49)=v':=by rw[kC W,zf rfl]
 generalize B:a2.put (M 49) v'=a3 at x5 a8;have h9:∀t,t≠49->a3.eval (.tmp t)=a2.eval (.tmp t):=λt F=>by rw[<-B,kC W,zh F]
 have x6:(a3.put (M 50) s).eval (.tmp 50)=s:=by rw[kC W,zf rfl]
 generalize D:a3.put (M 50) s=a4 at x6;have x0:∀t,t≠50->a4.eval (.tmp t)=a3.eval (.tmp t):=λt F=>by rw[<-D,kC W,zh F]
 refine t7 (v:=.tuple #[v,s]) (w':=w1) (u 0) g1 (Hk p1 h6 x9 q1) ?_;rw[d1,z];refine t7 (v:=v) (w':=w1) (u 1) g2 (wQ p2 h5 rfl) ?_;rw[d2,A];refine t7 (v:=v') (w':=w2) (u 2) g3 (NL p3 x4 (by rw[h0 47 (by decide),h8 47 (by decide)]) (by rw[y3];exact q2)) ?_;rw[d3,B];refine t7 (v:=s) (w':=w2) (u 3) g4 (wQ p4 (by rw[h9 48 (by decide),h0 48 (by decide)];exact h5) rfl) ?_;rw[d4,D];refine Sz (w':=w3) (u 4) g5 (Ce p5 (by rw[x0 40 (by decide),h9 40 (by decide),h0 40 (by decide),h8 40 (by decide)];exact h6) x6 (by rw[x0 49 (by decide)];exact x5) q3) ?_;rw[d5];refine hQ _ w3 U3 H j l (h3.slots ?_ (by rw[<-D,<-B,<-A,<-z];exact h3.cn.df)) q4 a0;have f1:=nt (d:=M 48) h3.cn.tm (.any (.tuple #[v,s]));have f2:=nt (d:=M 45) f1 (.any v);have f3:=nt (d:=M 49) f2 (.any v');have f4:=KR (ks:=Xj) (nt (d:=M 50) f3 (.any s));have e:uM Xj (mT (mT (mT (mT tm' (M 48) .any) (M 45) .any) (M 49) .any) (M 50) .any)=uM Xj tm':=by
  unfold uM mT;apply oo;intro j;simp only[List.getElem?_mapIdx];cases hb:Xj.contains j with
  | true=>
   have hj:j∈Xj:=by simpa using hb
   have ne:∀x∈[48,45,49,50],x≠j:=λx hx e=>hk x hx (e▸hj)
   rw[DA (ne 50 sw),DA (ne 49 sw),DA (ne 45 sw),DA (ne 48 sw)]
  | false=>
   by_cases hj:j<X tm'<;>simp[hj]
 rw[e,z,A,B,D]at f4;exact f4
theorem zfP(hn:n=(X rows:Int)){i:Nat}(g:i<X rows)(hl:X rows<=1000)(B:∀row∈rows,zL at' (X row)=O)(h:kv C ze.sl (tmB l2 at' rows n (i:Int) []) (hpB z0 z1 z2) [] a w U ρ r c0 gs (dL at' (rows.take i)))(hW:Wd fV.gl C w U):
  Fb.wp fV.P (λe a' w'=>e=.normal/\∃U' ρ' r c0 A,kv C ze.sl (tmB l2 at' rows n ((i+1:Nat):Int) []) (hpB z0 z1 z2) [] a' w' U' ρ' r c0 A (dL at' (rows.take (i+1)))/\Wd fV.gl C w' U') a w:=by
 obtain⟨row,d⟩:∃row,Y rows (i:Int).toNat (zi ze.sl)=row:=⟨_,rfl⟩;have b:rows[i]=row:=by rw[<-d,zW _ _ g]
 rw[Wo];refine wp_seq (wp_mono (kv.region gE (Xj++[37]) (tm':=tmB l2 at' rows n (i:Int) [(37,AV.bool (N ((i:Int)<n)))]) (cs:=[]) h hW kw kw rfl) ?_);rintro e u w1 ⟨rfl,G,ρ1,h1,W1⟩;have z:u.eval (.tmp 37)=.bool O:=by
  have D:Rv w1 G ρ1 (AV.bool (N ((i:Int)<n))) (u.eval (.tmp 37)):=h1.cn.tm.slot 37;rw[hn,zO g]at D;generalize u.eval (.tmp 37)=v at D;cases D;rfl
 refine wp_seq (wp_cond_true z (wp_skip ?_));refine wp_seq (wp_block (wp_seq (wp_mono (kv.region gE (Xj++[13]) (tm':=tmB l2 at' rows n (i:Int) [(13,T K (Y rows (i:Int).toNat (zi ze.sl)))]) (cs:=[zL (i:Int) (X rows)]) h1 W1 kw kw (by rw[zx g];rfl)) ?_)));rintro e a2 w2 ⟨rfl,U2,ρ2,h2,W2⟩;rw[d]at h2;refine kv.ops gE (Xj++[40,44,47]) (tm':=tmB l2 at' rows n (i:Int) [(40,.mp 3),(44,kav (zN at' row)),(47,.sl ze.sl [row])]) (cs:=[zL at' (X row)]) h2 W2 kw kw (by rw[B row (b▸bp g)];rfl) λa3 w3 U3 ρ3 h3 W3=>?_
 refine zoH (k:=zN at' row) (row:=row) h3 W3 ⟨rfl,rfl,rfl,rfl⟩ (λq hq=>?_) (λa4 w4 U4 h0 j l s hj W4=>?_) (by decide)
 .obtain⟨x,_,rfl⟩:=aI.1 hq;exact be (List.length_filter_le _ _) sg
 .rw[NY hj]at s;have e1:rows.take i++[row]=rows.take (i+1):=by rw[bE g,b]
  rw[e1]at s;have e2:uM Xj (tmB l2 at' rows n (i:Int) [(40,.mp 3),(44,kav (zN at' row)),(47,.sl ze.sl [row])])=tmB l2 at' rows n (i:Int) []:=by kernel_rfl
  rw[e2]at s;refine wp_mono (kv.region gE Xj (tm':=tmB l2 at' rows n (Γ Δ ((i:Int)+1)) []) (cs:=[]) s W4 kw kw rfl) ?_;rintro e a5 w5 ⟨rfl,H,ρ5,F,W5⟩;rw[zu i um]at F;exact⟨rfl,H,ρ5,_,_,_,F,W5⟩
end
section
variable {C:eW} {l2:List (J K)} {at':Int} {rows:List (List (J K))} {z0:zq [CP.d an]} {z1:zq uh} {z2:zq wE} {Q:AV->List AO->Prop}
theorem zfK(A:X rows<=1000)(s:∀row∈rows,zL at' (X row)=O)(h:Reach fV C 13 (ap Tryz.f13 7) (VE (.h7 l2 at' rows (X rows) (X rows) z0 z1 z2 (dL at' rows))).2 Q):
  Reach fV C 13 (ap Tryz.f13 7) (VE (.h7 l2 at' rows (X rows) 0 z0 z1 z2 [])).2 Q:=by
 have⟨k,z⟩:=zmJ;rw[z]at h|-;refine wg.reach (wg.rounds (X rows) (λi a w=>∃U ρ r c0 gs,kv C ze.sl (tmB l2 at' rows (X rows) (i:Int) []) (hpB z0 z1 z2) [] a w U ρ r c0 gs (dL at' (rows.take i))/\Wd fV.gl C w U) (λi u a w ⟨U,ρ,r,c0,gs,b,d⟩=>zfP rfl u A s b d) (wg.of h λa w ⟨U,ρ,r,c0,gs,b,d⟩=>?_)) λa w U ρ j d=>?_
 .rw[gB]at b;have⟨U',j,g⟩:=V9 b d;exact⟨U',ρ,j,g⟩
 .have⟨r,c0,b⟩:=zeM (e:=ze.sl) (h1:=hpB z0 z1 z2) (h2:=[]) j;exact⟨U,ρ,r,c0,[],b,d⟩
end
def Hn(h:ao)(b:J zl.sl)(d:J ze.sl):Tr (JU⊕az):=(Wa h b d).bind λs=>match s with
 |.inl (.h7 l2 at' l n i z0 z1 z2 [])=>chk (i==0&&(n==(X l:Int)&&(N (X l<=1000)&&l.all λrow:zr=>zL at' (X row)))) (.ok (.inl (.h7 l2 at' l n n z0 z1 z2 (dL at' l))))
 |.inl (.h7 ..)=>.err
 |s=>.ok s
def kW(h:ao)(b:J zl.sl)(d:J ze.sl):=ar [zl,zk,zk] Mf 100000000 (Hn h b d)
def P7(h:ao)(b:J zl.sl)(d:J ze.sl):=(kW h b d).isSome
def X0(h:ao)(b:J zl.sl)(d:J ze.sl):=o3 (kW h b d)
def zpr:=FT [an,zl.sl,ze.sl] [zl,zk,zk] λx=>kW x.1 x.2.1 x.q.1
theorem zj4:FK 13 zpr:=by
 refine aZ (E:=fV) (f:=Tryz.f13) (cI kw) λx hx C G=>?_
 have⟨g,j,z,u⟩:=x;have H:zZ fV.P 13 Tryz.f13 3:=cI kw;have D:∀x,run fV 0 zjb Tryz.f13.results.toList 400 (bu Tryz.f13) (bl Tryz.f13.ntmps (jn [M an,M zl.sl,M ze.sl] x) [])=(Wa x.1 x.2.1 x.q.1).map (lf Tryz.f13 VE):=by intro x;kernel_rfl
 have B:∀s,run fV 0 zjb Tryz.f13.results.toList 400 (ap Tryz.f13 (VE s).1) (VE s).2=(Mf s).map (lf Tryz.f13 VE):=by intro s;cases s<;>kernel_rfl
 have hx:(kW g j z).isSome=O:=hx;have⟨y,b⟩:=Option.isSome_iff_exists.1 hx;show Reach fV C 13 _ _ (λr h=>bb h [zl,zk,zk] r=M ((kW g j z).getD (cH [zl,zk,zk])));rw[b];show Reach fV C 13 _ _ (λr h=>bb h [zl,zk,zk] r=M y);have A:(Hn g j z).val=(Wa g j z).val->Reach fV C 13 (bu Tryz.f13) (bl Tryz.f13.ntmps (jn [M an,M zl.sl,M ze.sl] (g,j,z,u)) []) (λr h=>bb h [zl,zk,zk] r=M y):=λe=>by
  refine LP (n:=100000000) gE H (λid _=>G id) (D (g,j,z,u)) B ?_;unfold kW ar bT at b;unfold ar bT;rw[e]at b;exact b
 cases d:(Wa g j z).val with
 | none=>
  unfold kW ar bT Hn at b;rw[Tr.val_bind,d]at b;cases b
 | some s=>
  match s,d with
  |.inr r,d=>exact A (by unfold Hn;rw[Tr.val_bind,d];rfl)
  |.inl (.h15 ..),d=>exact A (by unfold Hn;rw[Tr.val_bind,d];rfl)
  | .inl (.h7 l2 at' l n i z0 z1 z2 (p::es)),d=>
   unfold kW ar bT Hn at b;rw[Tr.val_bind,d]at b;cases b
  | .inl (.h7 l2 at' l n i z0 z1 z2 []),d=>
   have e:(Hn g j z).val=(chk (i==0&&(n==(X l:Int)&&(N (X l<=1000)&&l.all λrow:zr=>zL at' (X row)))) (.ok (.inl (.h7 l2 at' l n n z0 z1 z2 (dL at' l)))):Tr (JU⊕az)).val:=by
    unfold Hn;rw[Tr.val_bind,d];rfl
   unfold kW ar bT at b;rw[e]at b;cases F:(i==0&&(n==(X l:Int)&&(N (X l<=1000)&&l.all λrow:zr=>zL at' (X row))))with
   |false=>rw[F]at b;cases b
   | true=>
    rw[F]at b;simp only[aP,bW,ba,ep]at F;obtain⟨rfl,rfl,h3,h4⟩:=F;refine Gd gE H (λid _=>G id) (D (g,j,z,u)) d (zfK h3 h4 ?_);exact LP (n:=99999999) (i:=Mf (.h7 l2 at' l (X l) (X l) z0 z1 z2 (dL at' l))) gE H (λid _=>G id) (B (.h7 l2 at' l (X l) (X l) z0 z1 z2 (dL at' l))) B b
theorem S5{e:Sh}(k:K3):∀(l:List K3)(es:List (K3×List (J e))),(es.map (·.1)).Nodup->ly (l.foldl mS es) k=if k∈l then[]else ly es k
 |[],es,_=>by rw[zh sw];rfl
 | a::r,es,hn=>by
  rw[List.foldl_cons,S5 k r _ (H6 hn a),Tp hn];by_cases h1:k∈r
  .rw[zf h1,zf (mX _ h1)]
  .rw[zh h1];by_cases h2:k=a
   .rw[zf h2,zf (by rw[h2];exact uz)]
   .rw[zh h2,zh (by rw[bX];exact λq=>q.elim h2 h1)]
section
variable {db:List (J zl)} {p:J an} {us:List (J K)}
theorem zdR(h:aH db p)(m:jH db p):SY (p,zI db p)=M (dH p (zI db p),()):=by
 have z:zL 0 (zI db p).length=O:=zx (i:=0) (nB h.go.two).1;unfold dH;rcases h.mig with e|e|e
 .have d:(p.1==dD)=O:=by rw[e];rfl
  rw[zf e];refine zR (r:=(L (Y (zI db p) 0 (zi zl)).1.q.1,[])) ?_ rfl;simp only[zeU,Tr.val,d,z,zj];rfl
 .have d:(p.1==dD)=S:=by rw[e];rfl
  have g:(p.1==gO)=O:=by rw[e];rfl
  rw[zh (by rw[e];decide),zf e];refine zR (r:=(L p.u,[])) ?_ rfl;simp only[zeU,Tr.val,d,g,zC,zj,zm]
 .have d:(p.1==dD)=S:=by rw[e];rfl
  have g:(p.1==gO)=S:=by rw[e];rfl
  have⟨_,a,b,s,_⟩:=m.group e;rw[zh (by rw[e];decide),zh (by rw[e];decide)];have j:zL 0 (X p.t.1)=O:=by rw[s];rfl
  refine zR (r:=(L (Y p.t.1 0 (zi zk)),[])) ?_ rfl;simp only[zeU,Tr.val,d,g,j,zC,zj,zm];rfl
def rL(db:zS)(p:ao)(l:zr):List (K3×List zr):=l.foldl (mS (α:=List (J ze.sl))) (mS (α:=List (J ze.sl)) (dL (dH p (zI db p)) (eH db p).2) (0,0,[]))
theorem Z5(h:aH db p)(l:zr)(u:zp):ly (e:=ze.sl) (rL db p l) u=if u∈l then[]else uX db p u:=by
 unfold rL;rw[S5 (e:=ze.sl) u l _ (H6 (e:=ze.sl) wW _),Tp (e:=ze.sl) wW];split
 .rfl
 .rw[Rf];by_cases b:u=(0,0,[])
  .rw[zf b,Oy (by rw[b])]
  .rw[zh b];unfold uX;refine List.filter_congr λrow d=>?_
   rw[ot,nl,bW];constructor
   .intro e;refine⟨e.symm,λh1=>b ?_⟩;have:=(cK (h.rel.fits row d)).2.1 _ (h.at_mem d);have g:Y row (Int.toNat (dH p (zI db p))) (zi K)=u:=e.symm;rw[g]at this;exact Ow this h1
   .exact λq=>q.1.symm
theorem Sc(h:aH db p)(m:jH db p):(Hn p (zI db p) us).val=M (.inl (.h7 us (dH p (zI db p)) (eH db p).2 ((eH db p).2.length:Int) ((eH db p).2.length:Int) (p,()) ([],0,[],0,0,[],[],()) ((p,zI db p),()) (dL (dH p (zI db p)) (eH db p).2))):=by
 have⟨g,j⟩:=xn h.go;have B:zL 0 (zI db p).length=O:=zx (i:=0) (nB h.go.two).1;have d:=zdR h m;have s:XX (p,zI db p)=O:=by unfold XX;rw[d];rfl
 have u:zl2 (p,zI db p)=dH p (zI db p):=by unfold zl2;rw[d];rfl
 have A:(Wa p (zI db p) us).val=M (.inl (.h7 us (dH p (zI db p)) (eH db p).2 ((eH db p).2.length:Int) 0 (p,()) ([],0,[],0,0,[],[],()) ((p,zI db p),()) [])):=by
  simp only[Wa,zo,bh,Tr.val,g,j,s,u,B,fL,zC,zj,zm];rfl
 have b:((0:Int)==0&&(((eH db p).2.length:Int)==((eH db p).2.length:Int)&&(N ((eH db p).2.length<=1000)&&(eH db p).2.all λrow:zr=>zL (dH p (zI db p)) (X row))))=O:=by
  have:=h.rel.few;simp only[BEq.rfl,eY,aP,ba,ep];exact⟨W,λrow z=>(h.inn row z).1⟩
 unfold Hn;rw[Tr.val_bind,A];show(chk _ _).val=_;rw[Tr.val,zf b];rfl
theorem zbO(h:aH db p)(m:jH db p)(hl:X us<=1000){j:List zr}(F:AY (p.r.1,(dY us).flatMap (bV db p))=M ((p.r.1,j),())):
  kW p (zI db p) us=M ((p.r.1,j),((dl db p (dY us):Nat):Int),0,()):=by
 have hs:=Sc (us:=us) h m;have g0:zH Mf 1 (.h7 us (dH p (zI db p)) (eH db p).2 ((eH db p).2.length:Int) ((eH db p).2.length:Int) (p,()) ([],0,[],0,0,[],[],()) ((p,zI db p),()) (dL (dH p (zI db p)) (eH db p).2)) (.h15 ((dl db p (dY (us.take 0)):Nat):Int) us (X us:Int) ((0:Nat):Int) ([],0,[],0,0,[],[],()) ((p,zI db p),()) (p.r.1,(dY (us.take 0)).flatMap (bV db p),()) (rL db p (us.take 0))):=zH.of (by
  simp only[Mf,Tr.val,zM,zC,zm];rfl)
 have A:=zH.all (t:=Mf) 1 (λi=>.h15 ((dl db p (dY (us.take i)):Nat):Int) us (X us:Int) (i:Int) ([],0,[],0,0,[],[],()) ((p,zI db p),()) (p.r.1,(dY (us.take i)).flatMap (bV db p),()) (rL db p (us.take i))) (X us) λi D=>zH.of (by
  have⟨g1,g2⟩:=lO h (dY (us.take i)) (pR _);have s:mS (α:=List (J ze.sl)) (rL db p (us.take i)) us[i]=rL db p (us.take (i+1)):=by
   unfold rL;rw[bE D,List.foldl_append];rfl
  have B:=Z5 h (us.take i) us[i];have g:DH (p,zI db p) us[i] (ly (e:=ze.sl) (rL db p (us.take i)) us[i])=M (ite (us[i]∈us.take i) [] (bV db p us[i]),((ite (us[i]∈us.take i) 0 (qM db p us[i]):Nat):Int),()):=by
   rw[B];split
   .exact zeC h m _
   .exact Zf h m _
  have c1:H2 (p,zI db p) us[i] (ly (e:=ze.sl) (rL db p (us.take i)) us[i])=O:=by unfold H2;rw[g];rfl
  have c2:Vm (p,zI db p) us[i] (ly (e:=ze.sl) (rL db p (us.take i)) us[i])=(ite (us[i]∈us.take i) [] (bV db p us[i]),((ite (us[i]∈us.take i) 0 (qM db p us[i]):Nat):Int)):=by unfold Vm;rw[g];rfl
  have e:=xj (us.take i) us[i];rw[zaK]at e;have d:((us.take i).any λu=>Cm u us[i])=O↔us[i]∈us.take i:=by
   rw[List.any_eq_true];exact⟨λ⟨u,h1,h2⟩=>jF.1 h2▸h1,λq=>⟨_,q,jF.2 rfl⟩⟩
  have G:(bV db p us[i]).length<=200:=be NW (be (List.length_filter_le _ _) h.rel.few);have h0:qM db p us[i]<=200:=by
   have:=KS (db:=db) (p:=p) (v:=us[i]);have:(uX db p us[i]).length<=(eH db p).2.length:=List.length_filter_le _ _;have:=h.rel.few;unfold qM;omega
  have hd:∀k:List zr,X k<=200->N (((dY (us.take i)).flatMap (bV db p)).length+X k<=1073741824)=O:=λk hk=>zB W
  simp only[Mf,Tr.val,zo,bh,zO D,zx D,zW _ _ D,c1,c2,zj];rw[zu i um,s,bE D,e];by_cases b:us[i]∈us.take i
  .rw[zf (d.2 b),zf b,zf b,wn,zf (hd [] (aK _))];have H:Γ Δ (((dl db p (dY (us.take i)):Nat):Int)+((0:Nat):Int))=((dl db p (dY (us.take i)):Nat):Int):=by rw[eK];omega
   rw[H]
  .rw[zh (λq=>b (d.1 q)),zh b,zh b,List.flatMap_append,List.flatMap_singleton,zf (hd _ G)];have hb:dl db p (dY (us.take i)++[us[i]])=dl db p (dY (us.take i))+qM db p us[i]:=by
    unfold dl;rw[ib,List.sum_append];simp
   have H:Γ Δ (((dl db p (dY (us.take i)):Nat):Int)+((qM db p us[i]:Nat):Int))=((dl db p (dY (us.take i))+qM db p us[i]:Nat):Int):=by rw[eK];omega
   rw[H,hb])
 simp only[gB]at A;generalize(dY us).flatMap (bV db p)=rows at A F;generalize dl db p (dY us)=n at A|-;generalize rL db p us=es at A;have s1:R2 (p.r.1,rows)=O:=by unfold R2;rw[F];rfl
 have s2:zbs (p.r.1,rows)=(p.r.1,j):=by unfold zbs;rw[F];rfl
 have z:∃r,zU Mf 1 (.h15 (n:Int) us (X us:Int) (X us:Int) ([],0,[],0,0,[],[],()) ((p,zI db p),()) (p.r.1,rows,()) es) r/\bb r.2 [zl,zk,zk] r.1=M ((p.r.1,j),(n:Int),0,()):=by
  refine⟨_,zU.of (by
   simp only[Mf,Tr.val,zo,bh,zM,s1,s2,zC,zj,zm];rfl),?_⟩
  show M (((p.r.1.1,p.r.1.2.1,p.r.1.q.1,p.r.1.r.1,p.r.1.t.1,zt p.r.1.u),j),(n:Int),0,())=_;rw[zo]
 have⟨r,r1,r2⟩:=z;exact zA hs ((g0.trans A).ends r1) W r2
end
def YY:=YX.add 13 zpr
theorem Eg:zw YY:=ID.add zj4
def zmO(h:ao)(j:J zl.sl):Tr (Empty⊕az):=
 let d:=(h.1,h.2.1,h.q.1,(h.r.1.1,h.r.1.2.1,h.r.1.q.1,h.r.1.r.1,h.r.1.t.1,zt h.r.1.u),h.t)
 let g:=JL d j
 let b:=X0 d j g.1
 chk (Ba d j)
 (br (g.2!=0)
  (re (tup [agg ([I [],nils,L 0,nils,nils]++zE++[nils]),L 0,L g.2]) [])
  (chk (P7 d j g.1) (re (tup [agg ([I b.1.1.1,T zn b.1.1.2.1,L b.1.1.q.1,T zk b.1.1.r.1,T zG b.1.1.t.1]++xE b.1.1.u++[T ze.sl b.1.2]),L b.2.1,L b.q]) [])))
def M5(h:ao)(b:J zl.sl):=ar [zl,zk,zk] t0 100000000 (zmO h b)
def XW(h:ao)(b:J zl.sl):=(M5 h b).isSome
def zl0(h:ao)(b:J zl.sl):=o3 (M5 h b)
def zpa:=FT [an,zl.sl] [zl,zk,zk] λx=>M5 x.1 x.2.1
theorem zjN:FK 10 zpa:=Eg.T1 (f:=Tryz.f10) (keep:=k0) (e:=e0)
def zis:=YY.add 10 zpa
theorem IE:zw zis:=Eg.add zjN
end
end Cad
