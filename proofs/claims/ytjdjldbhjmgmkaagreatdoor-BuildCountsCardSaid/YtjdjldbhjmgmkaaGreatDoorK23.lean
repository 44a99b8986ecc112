/- Rows. -/
import Derived.Test.YtjdjldbhjmgmkaaGreatDoorK22
namespace Cad
open Go Go.Proofs
open List renaming length→Io
open IntKind renaming wrap→Γ,i64→Δ
open AV renaming nils→Qb
open AO renaming box→Qa
open Sh renaming expr→Q5
open Bool renaming false→Q4,true→Q3
open Option renaming none→Q2,some→Q1
open Decidable renaming decide→Q0
open List (getD)
open Tr (chk br re)
open AV (nils agg tup ptr kb str sl)
set_option maxHeartbeats 4000000
noncomputable section
abbrev SM:=List zw->Int->Int->Int->Int->Option (List zw)
def GSm(o:SM):eW [Q2,Q2,Q2,Q2,Q2]:=λx h=>match x,h with
 |(.vec 0,.int .i64 a,.int .i64 m,.int .i64 b,.clo (.func 94) [.agg [.int .i64 k]] [],_),[.vec (.sl MM) l]=>.chk ((o l a m b k).isSome) (.ok (.tup [],[.vec (.sl zf) ((o l a m b k).getD [])]))
 |_,_=>.err
def FSm(o:SM):z8:=aW [Q2,Q2,Q2,Q2,Q2] (GSm o)
def Cu(o:SM):cd:=IA.add 224 (FSm o)
theorem OC{o:SM}(h:FK 224 (FSm o)):zu (Cu o):=CT.add h
abbrev XZ:=kl [(3,[0,1,4,10,11]),(9,[0,10,13]),(15,[0,2,4,14,15]),(21,[0,14,17]),(33,[0,1,2,3,4,18,19,20,21,22])]
inductive iY where
 |h3 (i1:Int) (i4f_0_0:Int) (i10:Int) (i11:Int) (lh_0:List (Sem zf.sl))
 |h15 (i2:Int) (i4f_0_0:Int) (i14:Int) (i15:Int) (lh_0:List (Sem zf.sl))
 |h33 (i1:Int) (i2:Int) (i3:Int) (i4f_0_0:Int) (i18:Int) (i19:Int) (i20:Int) (i21:Int) (i22:Int) (lh_0:List (Sem zf.sl))
 |h9 (i10:Int) (i13:Int) (lh_0:List (Sem zf.sl))
 |h21 (i14:Int) (i17:Int) (lh_0:List (Sem zf.sl))
abbrev Ln:iY->Nat×St
 |.h3 j h d s b=>(3,⟨tm 220 [(0,AV.vec 0),(1,ai j),(4,AV.clo (Fn.func 94) [agg [ai h]] []),(10,ai d),(11,ai s)],[AO.vec zf.sl b]⟩)
 |.h15 F h g z b=>(15,⟨tm 220 [(0,AV.vec 0),(2,ai F),(4,AV.clo (Fn.func 94) [agg [ai h]] []),(14,ai g),(15,ai z)],[AO.vec zf.sl b]⟩)
 |.h33 j F J h B D G H I b=>(33,⟨tm 220 [(0,AV.vec 0),(1,ai j),(2,ai F),(3,ai J),(4,AV.clo (Fn.func 94) [agg [ai h]] []),(18,ai B),(19,ai D),(20,ai G),(21,ai H),(22,ai I)],[AO.vec zf.sl b]⟩)
 |.h9 d u b=>(9,⟨tm 220 [(0,AV.vec 0),(10,ai d),(13,ai u)],[AO.vec zf.sl b]⟩)
 |.h21 g A b=>(21,⟨tm 220 [(0,AV.vec 0),(14,ai g),(17,ai A)],[AO.vec zf.sl b]⟩)
theorem I5(o:SM):zM (Cu o).P 224 Tryz.f224 5:=bL kw
def Ai(_:SM)(l:List zw)(a m b k:Int):Tr (iY⊕aw):=
 let h:=Γ Δ (IntKind.u64.wrap (Γ Δ (a+b))/2)
 let d:=Γ Δ (h+m)
 let g:=Γ Δ (d-1)
 br (Γ Δ (m-a)==1) (Tr.to (iY.h3 a k m b l))
 (br (Γ Δ (b-m)==1) (Tr.to (iY.h15 m k a m l))
  (chk Q3 (br (Q0 (m>h)) (Tr.to (iY.h33 a m b k h d (Γ Δ (d-b)) h g l)) (Tr.to (iY.h33 a m b k h d a m g l)))))
theorem zj7(o:SM)(l:List zw)(a m b k:Int):rn (Cu o) 1 XZ Tryz.f224 [AV.vec 0,ai a,ai m,ai b,AV.clo (Fn.func 94) [agg [ai k]] []] [AO.vec (Sh.sl zf) l]=(Ai o l a m b k).map (lf Tryz.f224 Ln):=kw
def eT(o:SM):iY->Tr (iY⊕aw)
 | .h3 I h B Z b=>
  let d:=Γ Δ (IntKind.u64.wrap (Γ Δ (B+Z))/2)
  let s:=Q0 (h<0)
  let A:=b.getD d.toNat (zi zf.sl)
  let L:=(↑(Io A):Int)
  let X:=bif s then Q3 else Q0 (h>=L)
  let M:=b.getD I.toNat (zi zf.sl)
  let Y:=(↑(Io M):Int)
  let O:=bif s then Q3 else Q0 (h>=Y)
  let S:=bif O then Q3 else zK h (Io M)
  let T:=getD M h.toNat (zi zf)
  let u:=getD A h.toNat (zi zf)
  let H:=bif X then bif O then aV (0,0,[]) (0,0,[])else aV (0,0,[]) T else bif O then aV u (0,0,[])else aV u T
  br (Q0 (B<Z))
  (chk Q3 (chk (zK d (Io b)) (chk (Q0 (d.toNat<Io b)) (chk (zK I (Io b)) (chk (Q0 (I.toNat<Io b)) (chk (cond X S (zK h (Io A)&&S)) (br (Q0 (H<0)) (Tr.to (iY.h3 I h (Γ Δ (d+1)) Z b)) (Tr.to (iY.h3 I h B d b)))))))))
  (Tr.to (iY.h9 B I b))
 | .h15 J h F h0 b=>
  let d:=Γ Δ (IntKind.u64.wrap (Γ Δ (F+h0))/2)
  let s:=Q0 (h<0)
  let A:=b.getD J.toNat (zi zf.sl)
  let L:=(↑(Io A):Int)
  let X:=bif s then Q3 else Q0 (h>=L)
  let M:=b.getD d.toNat (zi zf.sl)
  let Y:=(↑(Io M):Int)
  let O:=bif s then Q3 else Q0 (h>=Y)
  let S:=bif O then Q3 else zK h (Io M)
  let T:=getD M h.toNat (zi zf)
  let u:=getD A h.toNat (zi zf)
  let H:=bif X then bif O then aV (0,0,[]) (0,0,[])else aV (0,0,[]) T else bif O then aV u (0,0,[])else aV u T
  br (Q0 (F<h0))
  (chk Q3 (chk (zK J (Io b)) (chk (Q0 (J.toNat<Io b)) (chk (zK d (Io b)) (chk (Q0 (d.toNat<Io b)) (chk (cond X S (zK h (Io A)&&S)) (br (!Q0 (H<0)) (Tr.to (iY.h15 J h (Γ Δ (d+1)) h0 b)) (Tr.to (iY.h15 J h F d b)))))))))
  (Tr.to (iY.h21 F J b))
 | .h33 I J i3 h g h4 j h5 h6 b=>
  let d:=Γ Δ (IntKind.u64.wrap (Γ Δ (j+h5))/2)
  let s:=Γ Δ (h6-d)
  let A:=Q0 (h<0)
  let L:=b.getD s.toNat (zi zf.sl)
  let X:=(↑(Io L):Int)
  let M:=bif A then Q3 else Q0 (h>=X)
  let Y:=b.getD d.toNat (zi zf.sl)
  let O:=(↑(Io Y):Int)
  let S:=bif A then Q3 else Q0 (h>=O)
  let T:=bif S then Q3 else zK h (Io Y)
  let u:=getD Y h.toNat (zi zf)
  let H:=getD L h.toNat (zi zf)
  let x8:=bif M then bif S then aV (0,0,[]) (0,0,[])else aV (0,0,[]) u else bif S then aV H (0,0,[])else aV H u
  let z:=Γ Δ (h4-j)
  let h7:=UH b j J z h
  let h8:=bif Q0 (I<j)then Q0 (j<g)else Q4
  let W:=h7.getD []
  let x0:=o W I j g h
  let N:=bif Q0 (g<z)then Q0 (z<i3)else Q4
  let x1:=x0.getD []
  let x2:=o x1 g z i3 h
  let x3:=o W g z i3 h
  let x4:=o b I j g h
  let x5:=x4.getD []
  let x6:=o x5 g z i3 h
  let x7:=o b g z i3 h
  br (Q0 (j<h5))
  (chk Q3 (chk (zK s (Io b)) (chk (Q0 (s.toNat<Io b)) (chk (zK d (Io b)) (chk (Q0 (d.toNat<Io b)) (chk (cond M T (zK h (Io L)&&T)) (br (!Q0 (x8<0)) (Tr.to (iY.h33 I J i3 h g h4 (Γ Δ (d+1)) h5 h6 b))
  (Tr.to (iY.h33 I J i3 h g h4 j d h6 b)))))))))
  (br (cond (Q0 (j<J)) (Q0 (J<z)) Q4) (chk h7.isSome (br h8 (chk x0.isSome (br N (chk x2.isSome (re (tup []) [AO.vec zf.sl (x2.getD [])])) (re (tup []) [AO.vec zf.sl x1]))) (br N (chk x3.isSome (re (tup []) [AO.vec zf.sl (x3.getD [])])) (re (tup []) [AO.vec zf.sl W])))) (br h8
  (chk x4.isSome (br N (chk x6.isSome (re (tup []) [AO.vec zf.sl (x6.getD [])])) (re (tup []) [AO.vec zf.sl x5]))) (br N (chk x7.isSome (re (tup []) [AO.vec zf.sl (x7.getD [])])) (re (tup []) [AO.vec zf.sl b]))))
 | .h9 B D b=>
  let d:=Γ Δ (B-1)
  let s:=Γ Δ (D+1)
  let A:=Q0 (D.toNat<Io b)
  let L:=b.set D.toNat (b.getD s.toNat (zi zf.sl))
  br (Q0 (D<d))
  (chk (zK s (Io b)) (chk (Q0 (s.toNat<Io b)) (chk (zK D (Io b)) (chk A (chk (zK D (Io b)) (chk A (chk (zK s (Io L)) (chk (Q0 (s.toNat<Io L)) (Tr.to (iY.h9 B s (L.set s.toNat (b.getD D.toNat (zi zf.sl)))))))))))))
  (re (tup []) [AO.vec zf.sl b])
 | .h21 F G b=>
  let d:=Γ Δ (G-1)
  let s:=Q0 (G.toNat<Io b)
  let A:=b.set G.toNat (b.getD d.toNat (zi zf.sl))
  br (Q0 (G>F))
  (chk (zK d (Io b)) (chk (Q0 (d.toNat<Io b)) (chk (zK G (Io b)) (chk s (chk (zK G (Io b)) (chk s (chk (zK d (Io A)) (chk (Q0 (d.toNat<Io A)) (Tr.to (iY.h21 F d (A.set d.toNat (b.getD G.toNat (zi zf.sl)))))))))))))
  (re (tup []) [AO.vec zf.sl b])
theorem zlx(o:SM):∀s,run (Cu o) 1 XZ (Func.results Tryz.f224).toList 400 (aa Tryz.f224 (Ln s).1) (Ln s).2=(eT o s).map (lf Tryz.f224 Ln):=by intro s;cases s<;>kernel_rfl
def smS(o:SM):SM:=λl a m b k=>KA (bR (eT o) 100000000 (Ai o l a m b k))
def EQ:Nat->SM
 |0=>λ_ _ _ _ _=>Q2
 |n+1=>smS (EQ n)
theorem Qu:∀n,FK 224 (FSm (EQ n))
 | 0=>fq (E:=IA) ⟨Tryz.f224,(I5 (EQ 0)).1,(I5 (EQ 0)).2.1,(I5 (EQ 0)).2.2.1⟩ fun x j g h=>by
  exfalso;unfold GSm at h;split at h
  .simp[EQ,Tr.val]at h
  .simp at h
 | n+1=>by
  refine qW (E:=Cu (EQ n)) (ι:=List zw×Int×Int×Int×Int) (args:=λy=>[AV.vec 0,ai y.2.1,ai y.2.2.1,ai y.2.2.2.1,AV.clo (Fn.func 94) [agg [ai y.t]] []]) (heap:=λy=>[AO.vec zf.sl y.1]) (i:=λy=>Ai (EQ n) y.1 y.2.1 y.2.2.1 y.2.2.2.1 y.t) (t:=eT (EQ n)) (e:=Ln) (n:=100000000) (n0:=1) (OC (Qu n)) (I5 (EQ n)) (λ_=>rfl) (λy=>zj7 _ _ _ _ _ _) (zlx (EQ n)) (λx h g d=>?_);unfold GSm at d;split at d
  .rename_i a m b k u l;simp only[Tr.val]at d;split at d
   next h1=>simp only[bj]at d;subst d;exact⟨(l,a,m,b,k),rfl,rfl,sr h1⟩
   .cases d
  .simp at d
def zfd:z8:=FSm (EQ 16)
theorem zbt:FK 224 zfd:=Qu 16
def CU:=IA.add 224 zfd
theorem CV:zu CU:=CT.add zbt
abbrev XX:=kl [(2,[0,1,2,6,7,8]),(7,[0,1,2,6]),(9,[0,1,2,6,7,8])]
inductive pI where
 |h2 (i1:Int) (i2f_0_0:Int) (i6:Int) (i7:Int) (i8:Int) (lh_0:List (Sem zf.sl))
 |h7 (i1:Int) (i2f_0_0:Int) (i6:Int) (lh_0:List (Sem zf.sl))
 |h9 (i1:Int) (i2f_0_0:Int) (i6:Int) (i7:Int) (i8:Int) (lh_0:List (Sem zf.sl))
abbrev Ll:pI->Nat×St
 |.h2 d h g j s b=>(2,⟨tm 63 [(0,AV.vec 0),(1,ai d),(2,AV.clo (Fn.func 94) [agg [ai h]] []),(6,ai g),(7,ai j),(8,ai s)],[AO.vec zf.sl b]⟩)
 |.h7 d h g b=>(7,⟨tm 63 [(0,AV.vec 0),(1,ai d),(2,AV.clo (Fn.func 94) [agg [ai h]] []),(6,ai g)],[AO.vec zf.sl b]⟩)
 |.h9 d h g j s b=>(9,⟨tm 63 [(0,AV.vec 0),(1,ai d),(2,AV.clo (Fn.func 94) [agg [ai h]] []),(6,ai g),(7,ai j),(8,ai s)],[AO.vec zf.sl b]⟩)
theorem zll:zM CU.P 161 Tryz.f161 3:=bL kw
def Xt(l:List zw)(n k:Int):Tr (pI⊕aw):=
 Tr.to (pI.h2 n k 20 0 20 l)
theorem zj5(l:List zw)(n k:Int):rn CU 1 XX Tryz.f161 [AV.vec 0,ai n,AV.clo (Fn.func 94) [agg [ai k]] []] [AO.vec (Sh.sl zf) l]=(Xt l n k).map (lf Tryz.f161 Ll):=kw
def kz:pI->Tr (pI⊕aw)
 | .h2 d h g u j b=>
  let s:=xH b u j h
  let z:=xH b u d h
  br (Q0 (j<=d)) (chk s.isSome (Tr.to (pI.h2 d h g j (Γ Δ (j+g)) (s.getD []))))
  (chk z.isSome (Tr.to (pI.h7 d h g (z.getD []))))
 | .h7 d h g b=>
  br (Q0 (g<d)) (Tr.to (pI.h9 d h g 0 (Γ Δ (2*g)) b))
  (re (tup []) [AO.vec zf.sl b])
 | .h9 d h g u j b=>
  let s:=Γ Δ (u+g)
  let z:=EQ 16 b u s j h
  let A:=EQ 16 b u s d h
  let B:=Γ Δ (g*2)
  br (Q0 (j<=d)) (chk z.isSome (Tr.to (pI.h9 d h g j (Γ Δ (j+Γ Δ (2*g))) (z.getD []))))
  (br (Q0 (s<d)) (chk A.isSome (Tr.to (pI.h7 d h B (A.getD [])))) (Tr.to (pI.h7 d h B b)))
theorem zlv:∀s,run CU 1 XX (Func.results Tryz.f161).toList 400 (aa Tryz.f161 (Ll s).1) (Ll s).2=(kz s).map (lf Tryz.f161 Ll):=by intro s;cases s<;>kernel_rfl
def zgV(l:List zw)(n k:Int):=bR kz 100000000 (Xt l n k)
def NG(l:List zw)(n k:Int):=KA (zgV l n k)
def zfp:eW [Q2,Q2,Q2]:=λx h=>match x,h with
 |(.vec 0,.int .i64 n,.clo (.func 94) [.agg [.int .i64 k]] [],_),[.vec (.sl MM) l]=>.chk ((NG l n k).isSome) (.ok (.tup [],[.vec (.sl zf) ((NG l n k).getD [])]))
 |_,_=>.err
def ze7:z8:=aW [Q2,Q2,Q2] zfp
theorem zbn:FK 161 ze7:=by
 refine qW (ι:=List zw×Int×Int) (args:=λy=>[AV.vec 0,ai y.2.1,AV.clo (Fn.func 94) [agg [ai y.2.2]] []]) (heap:=λy=>[AO.vec zf.sl y.1]) (i:=λy=>Xt y.1 y.2.1 y.2.2) (t:=kz) (e:=Ll) (n:=100000000) (n0:=1) CV zll (λ_=>rfl) (λy=>zj5 _ _ _) zlv (λx h d b=>?_);unfold zfp at b;split at b
 .rename_i n k u l;simp only[Tr.val]at b;split at b
  next h1=>simp only[bj]at b;subst b;exact⟨(l,n,k),rfl,rfl,sr h1⟩
  .cases b
 .simp at b
def IB:=CU.add 161 ze7
theorem CW:zu IB:=CV.add zbn
abbrev zkN:=kl []
theorem zlg:zM IB.P 92 Tryz.f92 2:=bL kw
def Rs(l:List zw)(k:Int):Tr (Empty⊕aw):=
 let h:=NG l (↑l.length:Int) k
 chk h.isSome (re (tup []) [AO.vec zf.sl (h.getD [])])
theorem zjY(l:List zw)(k:Int):rn IB 1 zkN Tryz.f92 [AV.vec 0,AV.clo (Fn.func 94) [agg [ai k]] []] [AO.vec (Sh.sl zf) l]=(Rs l k).map (lf Tryz.f92 e0):=kw
def P0(l:List zw)(k:Int):=bR t0 100000000 (Rs l k)
def yn(l:List zw)(k:Int):=KA (P0 l k)
def zfo:eW [Q2,Q2]:=λx h=>match x,h with
 |(.vec 0,.clo (.func 94) [.agg [.int .i64 k]] [],_),[.vec (.sl MM) l]=>.chk ((yn l k).isSome) (.ok (.tup [],[.vec (.sl zf) ((yn l k).getD [])]))
 |_,_=>.err
def zeC:z8:=aW [Q2,Q2] zfo
theorem zaU:FK 92 zeC:=by
 refine qW (ι:=List zw×Int) (args:=λy=>[AV.vec 0,AV.clo (Fn.func 94) [agg [ai y.2]] []]) (heap:=λy=>[AO.vec zf.sl y.1]) (i:=λy=>Rs y.1 y.2) (t:=t0) (e:=e0) (n:=100000000) (n0:=1) CW zlg (λ_=>rfl) (λy=>zjY _ _) (U6 _ _ _ _ _) (λx h d b=>?_);unfold zfo at b;split at b
 .rename_i k u l;simp only[Tr.val]at b;split at b
  next h1=>simp only[bj]at b;subst b;exact⟨(l,k),rfl,rfl,sr h1⟩
  .cases b
 .simp at b
def WK:=IB.add 92 zeC
theorem OI:zu WK:=CW.add zaU
abbrev X6:Nat->aT:=λj=>if j=7 then{slots:=[1,2,34,35]}else{ }
inductive SX where
 |h7 (i34:Int) (i35:Int) (ja0:Sem Sh.str) (ja2:zq) (ja5:zH) (ja6:Int) (ja7:Int) (ja8:zH) (ja9:zH) (ja10:List (Sem Q5)) (jb0:List UInt8) (jb2:Int) (jb5:List UInt8) (jb6:Int) (jb7:Int) (jb8:List UInt8) (jb9:List UInt8) (lh_2:aM) (lh_3:dI) (lh_4:dp) (lh_5:List (Sem zf.sl))
abbrev Wc:SX->Nat×St
 |.h7 s u z A B D F G H j I J L M N O S h b d g=>(7,⟨tm 50 [(1,ptr 0 0),(2,ptr 1 0),(34,ai s),(35,ai u)],[Qa [str z,AV.vec 2,ai A,AV.vec 3,AV.vec 4,str B,ai D,ai F,str G,str H,sl Q5 j,AV.vec 5],Qa [str I,Qb,ai J,Qb,Qb,str L,ai M,ai N,str O,str S,Qb,Qb],AO.vec zl h,AO.vec zj b,AO.vec zA d,AO.vec zf.sl g]⟩)
theorem zst:zM Re.P 91 Tryz.f91 1:=bL kw
def zc1(h:ah):Tr (SX⊕aw):=
 chk (Q0 (Io h.1.2.1<=1073741824))
 (chk (Q0 (Io h.1.2.2.2.1<=1073741824))
  (chk (Q0 (Io h.1.t.1<=1073741824)) (chk (oe 16 (zr h.1.t.2)) (chk (Q0 (Io h.2<=1073741824)) (Tr.to (SX.h7 (↑(Io h.2):Int) 0 h.1.1 h.1.2.2.1 (za.op h.1.t.2) (za.v h.1.t.2).1 (za.v h.1.t.2).2.1 (za.v h.1.t.2).2.2
  (za.s h.1.t.2) (za.l h.1.t.2) [] 0 [] 0 0 [] [] h.1.2.1 h.1.2.2.2.1 h.1.t.1 h.2))))))
theorem zqi(h:ah):rn Re 0 X6 Tryz.f91 [zI zk h] []=(zc1 h).map (lf Tryz.f91 Wc):=kw
def UP:SX->Tr (SX⊕aw)
 | .h7 u b z A B D F G H j I J L M N O S d g s h=>
  let T:=Q0 (b.toNat<Io h)
  let W:=h.getD b.toNat (zi zf.sl)
  br (Q0 (b<u))
  (chk (zK b (Io h))
   (chk T (chk (Q0 (Io W<=1073741824)) (chk (zK b (Io h)) (chk T (Tr.to (SX.h7 u (Γ Δ (b+1)) z A B D F G H j I J L M N O S d g s (h.set b.toNat W))))))))
  (re
   (agg [str z,AV.vec 0,ai A,AV.vec 1,AV.vec 2,str B,ai D,ai F,str G,str H,sl Q5 j,AV.vec 3])
   [AO.vec zl d,AO.vec zj g,AO.vec zA s,AO.vec zf.sl h])
theorem zsY:∀s,run Re 0 X6 (Func.results Tryz.f91).toList 400 (aa Tryz.f91 (Wc s).1) (Wc s).2=(UP s).map (lf Tryz.f91 Wc)
 |.h7 u z A B D F G H I j J L M N O S T h b d g=>by kernel_rfl
def zlQ(ks:List Sh)(c:zD (ks.map Q1)->Bool)(g:zD (ks.map Q1)->aw):eW (ks.map Q1):=λx h=>match h with
 |[]=>.chk (c x) (.ok (g x))
 |_=>.err
theorem zi2{P:Program}{gl:Nat->AV}{σ:Type}{E:cd}{k:FuncId}{f:Func}{ks:List Sh}{keep:Nat->aT}{gas n:Nat}{e:σ->Nat×St}{t:σ->Tr (σ⊕aw)}{i:zD (ks.map Q1)->Tr (σ⊕aw)}{c:zD (ks.map Q1)->Bool}{g:zD (ks.map Q1)->aw}
  (z:zu E) (j:zM E.P k f (Io ks)) (b:∀x,run E 0 keep f.results.toList gas (bq f) (aY f.ntmps (iV (ks.map Q1) x) [])=(i x).map (lf f e))
  (d:∀s,run E 0 keep f.results.toList gas (aa f (e s).1) (e s).2=(t s).map (lf f e))
  (B:∀x,c x=Q3->bR t n (i x)=Q1 (g x)) (F:E.P=P:=by rfl) (D:E.gl=gl:=by rfl):oh P gl k (aW (ks.map Q1) (zlQ ks c g)):=by
 subst F D;refine dc (by simpa using j) λx H G h C u=>?_
 unfold zlQ at h;split at h
 .simp only[Tr.val]at h;split at h
  next A=>simp only[bj]at h;subst h;exact lC (n0:=0) z (by simpa using j) (λid _=>u id (aL _)) (n+1) _ _ _ (by rw[jq d (b x)];exact B x A) rfl
  .cases h
 .simp at h
def Ot(x:ah):aw:=(agg [str x.1.1,AV.vec 0,ai x.1.2.2.1,AV.vec 1,AV.vec 2,str (za.op x.1.t.2),ai (za.v x.1.t.2).1,ai (za.v x.1.t.2).2.1,str (za.v x.1.t.2).2.2,str (za.s x.1.t.2),sl Q5 (za.l x.1.t.2),AV.vec 3],
 [AO.vec zl x.1.2.1,AO.vec zj x.1.2.2.2.1,AO.vec zA x.1.t.1,AO.vec zf.sl x.2])
def Oq(x:ah):Bool:=Q0 (Io x.1.2.1<=1000000)&&Q0 (Io x.1.2.2.2.1<=1000000)&&Q0 (Io x.1.t.1<=1000000)&&oe 16 x.1.t.2&&Q0 (Io x.2<=1000000)&&List.all x.2 (λr=>Q0 (Io r<=1000000))
variable {α:Type}
theorem ZN(l:List α)(d:α)(i:Nat)(h:i<Io l):l.set i (l.getD i d)=l:=by rw[aZ,zZ h,bM];exact List.set_getElem_self h
theorem zcs(x:ah)(d:Oq x=Q3):bR UP 100000000 (zc1 x)=Q1 (Ot x):=by
 unfold Oq at d;simp only[aF,aR,dJ]at d;obtain⟨⟨⟨⟨⟨h1,h2⟩,H⟩,B⟩,I⟩,D⟩:=d
 have F:=dw (t:=UP) (β:=Unit) (Io x.2) (λ_ i=>.h7 (Io x.2:Int) (i:Int) x.1.1 x.1.2.2.1 (za.op x.1.t.2) (za.v x.1.t.2).1 (za.v x.1.t.2).2.1 (za.v x.1.t.2).2.2
   (za.s x.1.t.2) (za.l x.1.t.2) [] 0 [] 0 0 [] [] x.1.2.1 x.1.2.2.2.1 x.1.t.1 x.2) (λ_ _=>True) (λr=>r=Ot x) 1 (by
   intro b i h _;have g:Io (getD x.2 i (zi zf.sl))<=1000000:=D _ (by rw[aZ,zZ h,bM];exact bp h);simp only[UP,Tr.val,zL h,zz h,zh,aK,zy h,ZN _ _ _ h];rw[zt i um,ze (zy ow)];exact Or.inl ⟨(),trivial,rfl⟩) (by
   intro b n _ J;obtain⟨n,rfl⟩:∃k,n=k+1:=⟨n-1,ow⟩;rw[cK];simp only[UP,Tr.val,zG];exact⟨_,rfl,rfl⟩) (Io x.2) 0 () 100000000 rfl (aL _) trivial ow
 obtain⟨r,G,rfl⟩:=F;unfold bR;have j:Q0 (Io x.1.2.1<=1073741824)=Q3:=zy ow;have u:Q0 (Io x.1.2.2.2.1<=1073741824)=Q3:=zy ow;have z:Q0 (Io x.1.t.1<=1073741824)=Q3:=zy ow;have A:Q0 (Io x.2<=1073741824)=Q3:=zy ow;simp only[zc1,Tr.val,j,u,z,A,zm,B,zh];exact G
def zns:z8:=aW ([zk].map Q1) (zlQ [zk] (λx=>Oq x.1) (λx=>Ot x.1))
theorem zig:FK 91 zns:=zi2 (ks:=[zk]) (keep:=X6) (gas:=400) (n:=100000000) (e:=Wc) (t:=UP) (i:=λx=>zc1 x.1) TR zst (λx=>zqi x.1) zsY (λx h=>zcs x.1 h)
def zcz:=WK.add 91 zns
theorem LU:zu zcz:=OI.add zig
def zkv(h:ah):Tr (Empty⊕aw):=
 let b:=(h.1.1,h.1.2.1,h.1.2.2.1,h.1.2.2.2.1,h.1.t.1,zr h.1.t.2)
 let d:=yn h.2 (-1)
 let g:=yn h.2 h.1.2.2.1
 chk (Oq (b,h.2))
 (br (!dX b)
  (chk d.isSome (re (agg [str h.1.1,AV.vec 0,ai h.1.2.2.1,AV.vec 1,AV.vec 2,str (za.op h.1.t.2),ai (za.v h.1.t.2).1,ai (za.v h.1.t.2).2.1,str (za.v h.1.t.2).2.2,str (za.s h.1.t.2),sl Q5 (za.l h.1.t.2),AV.vec 3]) [AO.vec zl h.1.2.1,AO.vec zj h.1.2.2.2.1,
  AO.vec zA h.1.t.1,AO.vec zf.sl (d.getD [])]))
  (chk g.isSome (re (agg [str h.1.1,AV.vec 0,ai h.1.2.2.1,AV.vec 1,AV.vec 2,str (za.op h.1.t.2),ai (za.v h.1.t.2).1,ai (za.v h.1.t.2).2.1,str (za.v h.1.t.2).2.2,str (za.s h.1.t.2),sl Q5 (za.l h.1.t.2),AV.vec 3]) [AO.vec zl h.1.2.1,AO.vec zj h.1.2.2.2.1,
  AO.vec zA h.1.t.1,AO.vec zf.sl (g.getD [])])))
def Es(h:ah):=ao [zk] t0 100000000 (zkv h)
def PQ(h:ah):=(Es h).isSome
def ZD(h:ah):=o1 (Es h)
def znS:=FT [zk] [zk] λx=>Es x.1
theorem ziI:FK 35 znS:=LU.T1 (f:=Tryz.f35) (keep:=k0) (e:=e0)
def fw:=WI.add 35 znS
theorem fS:zu fw:=GP.add ziI
abbrev zgx:Nat->aT:=λj=>if j=7 then{slots:=[2,3,6,9,10,11,34,35,36]}else if j=15 then{slots:=[6,9,11,14,15,57,58,59],prom:=[(14,Q1 11,.sl zf)]}else{ }
inductive H3 where
 |h7 (l2:zw) (i10:zq) (l34:List (Sem zf.sl)) (i35:Int) (i36:Int) (z0:zn [CP.d am]) (z1:zn uO) (z2:zn uM) (mh_3:List ((Int×Int×zH)×List (Sem zf.sl)))
 |h15 (i15:Int) (l57:zw) (i58:Int) (i59:Int) (z0:zn uO) (z1:zn uM) (z3:zn Oo) (mh_2:List ((Int×Int×zH)×List (Sem zf.sl)))
abbrev Tv:H3->Nat×St
 |.h7 l2 g B s u z0 z1 z2 b=>(7,⟨tm 86 [(2,sl zf l2),(3,ptr 0 0),(6,ptr 1 0),(9,ptr 2 0),(10,ai g),(11,AV.mp 3),(34,sl zf.sl B),(35,ai s),(36,ai u)],[Qa (bI [] [CP.d am] z0),Qa (bI [] uO z1),Qa (bI [] uM z2),AO.gmap zf.sl b]⟩)
 |.h15 j D z A z0 z1 F h=>(15,⟨tm 86 [(6,ptr 0 0),(9,ptr 1 0),(11,AV.mp 2),(14,ptr 3 0),(15,ai j),(57,sl zf D),(58,ai z),(59,ai A)],[Qa (bI [] uO z0),Qa (bI [] uM z1),AO.gmap zf.sl h,Qa (bI [4] Oo F),AO.vec zf.sl F.2.1]⟩)
def T2(h:ap)(b:Sem zk.sl)(s:Sem zf.sl):Tr (H3⊕aw):=
 let d:=(h.1,h.2.1,h.2.2.1,(h.2.2.2.1.1,h.2.2.2.1.2.1,h.2.2.2.1.2.2.1,h.2.2.2.1.2.2.2.1,h.2.2.2.1.t.1,zr h.2.2.2.1.t.2),h.t)
 let g:=(d,b)
 let j:=getD b (Int.toNat 0) (zi zk)
 chk (Hq d b)
 (br (Us d b !=0)
  (re (tup [agg [str [],Qb,ai 0,Qb,Qb,str [],ai 0,ai 0,str [],str [],Qb,Qb],ai 0,ai 1]) [])
  (chk (VI g) (chk (zK 0 (Io b)) (Tr.to (H3.h7 s (zjj g) j.2 (↑(Io j.2):Int) 0 (h,()) ([],0,[],0,0,[],[],()) ((h,b),()) [])))))
def Kf:H3->Tr (H3⊕aw)
 | .h7 l2 H B I g z0 z1 z2 D=>
  br (Q0 (g<I))
  (chk (zK g (Io B)) (chk (zK H (Io (B.getD g.toNat (zi zf.sl)))) Tr.err))
  (Tr.to (H3.h15 0 l2 (↑l2.length:Int) 0 z1 z2 (z0.1.2.2.2.1,[],()) (mb D (0,0,[]))))
 | .h15 u j A b z0 z1 z d=>
  let J:=((z1.1.1.1,z1.1.1.2.1,z1.1.1.2.2.1,(z1.1.1.2.2.2.1.1,z1.1.1.2.2.2.1.2.1,z1.1.1.2.2.2.1.2.2.1,z1.1.1.2.2.2.1.2.2.2.1,z1.1.1.2.2.2.1.t.1,zr z1.1.1.2.2.2.1.t.2),z1.1.1.t),z1.1.2)
  let F:=j.getD b.toNat (zi zf)
  let L:=kE d F
  let G:=zjk J F L
  let M:=((z.1.1,z.1.2.1,z.1.2.2.1,z.1.2.2.2.1,z.1.t.1,zr z.1.t.2),z.2.1)
  let h:=ZD M
  br (Q0 (b<A))
  (chk (zK b (Io j)) (chk (VK J F L) (chk (Q0 (Io z.2.1+Io G.1<=1073741824)) (Tr.to (H3.h15 (Γ Δ (u+G.2)) j A (Γ Δ (b+1)) z0 z1 (z.1,z.2.1++G.1,()) (mb d F))))))
  (chk (PQ M) (re (tup [agg [str h.1.1,sl zl h.1.2.1,ai h.1.2.2.1,sl zj h.1.2.2.2.1,sl zA h.1.t.1,str (za.op h.1.t.2),ai (za.v h.1.t.2).1,ai (za.v h.1.t.2).2.1,str (za.v h.1.t.2).2.2,str (za.s h.1.t.2),sl Q5 (za.l h.1.t.2),
  sl zf.sl h.2],ai u,ai 0]) []))
open Go
def Tr.asks:Tr α->List Bool
 |.chk c t=>c::t.asks
 |_=>[]
def Tr.leaf:Tr α->Option α
 |.chk _ t=>t.leaf
 |.ok a=>Q1 a
 |_=>Q2
theorem Tr.val_leaf{a:α}:∀{t:Tr α},t.leaf=Q1 a->t.asks.all id=Q3->t.val=Q1 a
 |.err,h,_=>by cases h
 |.br ..,h,_=>by cases h
 |.ok _,h,_=>h
 | .chk c t,h,b=>by
  simp only[Tr.asks,List.all_cons,id,aF]at b;rw[Tr.val,ze b.1];exact Tr.val_leaf h b.2
structure ux (w:World) (U:Nat->Prop) (ρ:Nat->Option Value) (hp:Nat->AO) (w':World) (U':Nat->Prop) (ρ':Nat->Option Value) (hp':Nat->AO):Prop where
 ext:kA w w'
 same:∀b,b<w.heap.size->(∀id,¬af ρ id (hp id) b)->w'.heap[b]?=w.heap[b]?
 u1:∀b,b<w.heap.size->U' b->U b
 u2:∀b,b<w.heap.size->U b->(∀id,¬af ρ id (hp id) b)->U' b
 rho:∀id v,ρ id=Q1 v->ρ' id=Q1 v
 own:∀id b,af ρ' id (hp' id) b->(∃id,af ρ id (hp id) b)\/w.heap.size<=b
section
variable {E:cd} {gl:Nat->AV} {C:ew} {a:Act} {w w':World} {U U':Nat->Prop} {ρ ρ':Nat->Option Value} {hp hp':Nat->AO}
def Ci(w:World)(U:Nat->Prop)(ρ:Nat->Option Value)(hp:Nat->AO):ew:={w0:=w,U0:=U,B0:=λb=>∃id,af ρ id (hp id) b,ρ0:=ρ}
theorem Rr(b:Wd gl C w U):Wd gl (Ci w U ρ hp) w U:=⟨kA.refl w,λ_ _ _=>rfl,b.ub,λ_ _ h=>h,λ_ _ h _=>h,b.gl⟩
theorem Rq(h:gK C w U ρ hp):gK (Ci w U ρ hp) w U ρ hp:=⟨h.ob,h.inj,λid _ b=>.inl ⟨id,b⟩⟩
theorem B8(s:gK (Ci w U ρ hp) w' U' ρ' hp')(d:Wd gl (Ci w U ρ hp) w' U')(u:∀id v,ρ id=Q1 v->ρ' id=Q1 v):ux w U ρ hp w' U' ρ' hp':=
 ⟨d.ext,λb g j=>d.same b g λ⟨id,h⟩=>j id h,d.u1,λb g z j=>d.u2 b g z λ⟨id,h⟩=>j id h,u,s.blk⟩
theorem QN(h:gK C w U ρ hp)(j:Wd gl C w U)(s:ux w U ρ hp w' U' ρ' hp')(z:∀b,U' b->b<w'.heap.size)(D:BN gl w' U'):Wd gl C w' U':=by
 have B:∀b,b<C.w0.heap.size->¬C.B0 b->∀id,¬af ρ id (hp id) b:=λb d g id F=>(h.blk id b F).elim g (λq=>by omega)
 have A:∀b,b<C.w0.heap.size->b<w.heap.size:=λb d=>gE d j.ext.sz
 exact⟨j.ext.trans s.ext,λb d g=>(s.same b (A b d) (B b d g)).trans (j.same b d g),z,λb d u=>j.u1 b d (s.u1 b (A b d) u),λb d u g=>s.u2 b (A b d) (j.u2 b d u g) (B b d g),D⟩
theorem QM(h:gK C w U ρ hp)(g:Wd gl C w U)(d:gK (Ci w U ρ hp) w' U' ρ' hp'):gK C w' U' ρ' hp':=
 ⟨d.ob,d.inj,λid b s=>(d.blk id b s).elim (λ⟨i,j⟩=>h.blk i b j) λq=>.inr (aX g.ext.sz q)⟩
theorem Nq(A:zu E){id:Nat}{ops:Array Oper}{draw:Bool}{st s:St}(h:(jo E ops.toList draw st).val=Q1 s)(g:Cn C st a w U ρ)(j:Wd E.gl C w U):
  (Code.region id ops draw).wp E.P (λe u w'=>e=.normal/\∃U' ρ',Cn C s u w' U' ρ'/\Wd E.gl C w' U'/\ux w U ρ st.hp w' U' ρ' s.hp) a w:=by refine wp_mono (sT (C:=Ci w U ρ st.hp) A h ⟨g.tm,Rq g.hp,g.new,g.df,λ_ _ h=>h⟩ (Rr j)) ?_;rintro e u w' ⟨rfl,U',ρ',b,d⟩;have z:=B8 b.hp d b.r0;exact⟨rfl,U',ρ',⟨b.tm,QM g.hp j b.hp,b.new,b.df,λid v q=>b.r0 id v (g.r0 id v q)⟩,QN g.hp j z d.ub d.gl,z⟩
theorem MJ(F:zu E){ops:List Oper}{Q:Exit->Act->World->Prop}{st':RS}{m:Nat}(G:∀g w' U' ρ',AD C st' g w' U' ρ'->Wd E.gl C w' U'->∀k,k+m=Io ops->wpOps E.P ops.toArray Q (List.range' k m) g w'):
  ∀(r:List Oper)(k:Nat)(st:RS)(a:Act)(w:World)(U:Nat->Prop)(ρ:Nat->Option Value)(s:List Oper),Io s=m->r++s=ops.drop k->k+Io r+m=Io ops->(bU E ops r st).val=Q1 st'->AD C st a w U ρ->Wd E.gl C w U->
   wpOps E.P ops.toArray Q (List.range' k (Io r+m)) a w
 | [],k,st,a,w,U,ρ,_,_,_,B,h,z,j=>by
  simp[bU]at h;subst h;have:=G a w U ρ z j k (by simpa using B);simpa using this
 | o::r,k,st,a,w,U,ρ,s,hs,hr,B,h,z,j=>by
  simp only[bU,Tr.val_bind,fN]at h;obtain⟨D,h1,h2⟩:=h;have d:ops.toArray[k]?=Q1 o:=by
   have:ops[k]?=Q1 o:=by
    have:=congrArg (·[0]?) hr;simpa[BX]using this.symm
   simpa using this
  have b:r++s=ops.drop (k+1):=by
   have:=congrArg List.tail hr;simpa using this
  have e:(o::r).length+m=(Io r+m)+1:=by rw[eA];omega
  rw[e,List.range'_succ];simp only[wpOps,d];exact HQ F h1 z j _ _ (λg w' U' ρ' A u=>MJ F G r (k+1) D g w' U' ρ' s hs b (by rw[eA]at B;omega) h2 A u)
theorem zdt(D:zu E){b s:List Oper}{Q:Exit->Act->World->Prop}{st st':RS}(h:(bU E (b++s) b st).val=Q1 st')(g:AD C st a w U ρ)(A:Wd E.gl C w U)
  (F:∀z w' U' ρ',AD C st' z w' U' ρ'->Wd E.gl C w' U'->ux w U ρ st.hp w' U' ρ' st'.hp->wpOps E.P (b++s).toArray Q (List.range' (Io b) (Io s)) z w'):
  wpOps E.P (b++s).toArray Q (List.range (b++s).toArray.size) a w:=by
 have:=MJ (C:=Ci w U ρ st.hp) D (ops:=b++s) (Q:=Q) (st':=st') (m:=Io s) (λz w' U' ρ' d j k B=>by
  have B:k=Io b:=by rw[gS]at B;omega
  subst B;have u:=B8 d.hp j d.r0;exact F z w' U' ρ' ⟨d.tm,QM g.hp A d.hp,d.new,d.kn,d.df,λid v q=>d.r0 id v (g.r0 id v q)⟩ (QN g.hp A u j.ub j.gl) u)
  b 0 st a w U ρ s rfl rfl sw h ⟨g.tm,Rq g.hp,g.new,g.kn,g.df,λ_ _ h=>h⟩ (Rr A)
 rw[List.range_eq_range'];simpa using this
theorem ux.trans{s:World}{j:Nat->Prop}{u:Nat->Option Value}{d:Nat->AO}(h1:ux w U ρ hp w' U' ρ' hp')(h2:ux w' U' ρ' hp' s j u d):ux w U ρ hp s j u d:=by
 have D:∀b,b<w.heap.size->(∀id,¬af ρ id (hp id) b)->∀id,¬af ρ' id (hp' id) b:=λb h g id q=>(h1.own id b q).elim (λ⟨i,z⟩=>g i z) λq=>by omega
 have B:∀b,b<w.heap.size->b<w'.heap.size:=λb h=>gE h h1.ext.sz
 exact⟨h1.ext.trans h2.ext,λb h g=>(h2.same b (B b h) (D b h g)).trans (h1.same b h g),λb h A=>h1.u1 b h (h2.u1 b (B b h) A),λb h A g=>h2.u2 b (B b h) (h1.u2 b h A g) (D b h g),
  λid v q=>h2.rho id v (h1.rho id v q),λid b q=>(h2.own id b q).elim (λ⟨i,z⟩=>h1.own i b z) λq=>.inr (aX h1.ext.sz q)⟩
end
def li(c0:Nat)(ents:Array MapEntry)(clock:Nat):Prop:=clock=c0+ents.size/\∀(i:Nat)(e:MapEntry),ents[i]?=Q1 e->e.born=c0+i
variable {ents:Array MapEntry}{clock:Nat}
theorem li.push{c0:Nat}(h:li c0 ents clock)(k v:Value):li c0 (ents.push {key:=k,val:=v,born:=clock}) (clock+1):=by
 refine⟨by have:=h.1;simp;omega,λi e b=>?_⟩;rw[Array.getElem?_push]at b;split at b
 next d=>cases b;rw[d];exact h.1
 .exact h.2 i e b
theorem li.modify{c0:Nat}(h:li c0 ents clock)(j:Nat)(f:MapEntry->MapEntry)(g:∀e,(f e).born=e.born):li c0 (ents.modify j f) clock:=by
 refine⟨by have:=h.1;simp;omega,λi e b=>?_⟩;rw[pO]at b;split at b
 .cases d:ents[i]? with
  |none=>rw[d]at b;simp at b
  | some e0=>
   rw[d]at b;simp at b;subst b;rw[g];exact h.2 i e0 d
 .exact h.2 i e b
def FA(es:List (K3×Value))(k:K3):List (K3×Value):=match eD es k 0 with
 |some _=>es
 |none=>es++[(k,.slice Q2 0 0)]
section
variable {P:Program} {w:World} {kt:TypeId} {k:K3}
variable {mt et:TypeId} {r:Nat} {ents:Array MapEntry} {clock c0:Nat} {es:List (K3×Value)}
theorem Ns(M:P.underlying mt=Q1 (.map kt et))(A:gJ P kt=Q3){i:TypeInfo}(O:P.info? et=Q1 i)(W:i.zero=Q1 (.slice Q2 0 0))(S:ez k)
  (F:w.heap[r]?=Q1 (.map ents clock)) (G:(ents.toList.map λe=>(e.key,e.val))=uQ es) (T:∀p∈es,ez p.1) (H:li c0 ents clock):
  ∃(h:Array MapEntry)(b n:Nat),(Instr.mapEntry mt (.map (Q1 r)) (cB k)).run P w=.ok (.tuple #[Dh es k,.int .i64 (c0+n:Nat)]) {w with heap:=w.heap.setIfInBounds r (.map h b)}/\
   (h.toList.map λe=>(e.key,e.val))=uQ (FA es k)/\li c0 h b/\(FA es k)[n]?=Q1 (k,Dh es k):=by
 have g:=mK (w:=w) A S es ents.toList G T;have L:ents.size=Io es:=by have:=congrArg Io G;simpa using this
 unfold FA Dh;cases u:eD es k 0 with
 | none=>
  rw[u]at g;refine⟨ents.push {key:=cB k,val:=.slice Q2 0 0,born:=clock},clock+1,ents.size,?_,?_,H.push _ _,?_⟩
  .simp[Instr.mapEntry,bA M,gB F,bD A,g,mW _ F,Result.andThen,zeroValue,typeInfo,O,W,H.1];rfl
  .simp_all
  .simp only[];rw[L,jd (aj _),Nat.sub_self];rfl
 | some q=>
  obtain⟨j,m⟩:=q;rw[u]at g;obtain⟨_,z,_⟩:=tT u;rw[Nat.sub_zero]at z;have D:∃e,ents.toList[j]?=Q1 e/\e.key=cB k:=by
   have:(ents.toList.map λe=>(e.key,e.val))[j]?=Q1 (cB k,m):=by
    rw[G];simp[z]
   rw[dt,dq]at this;obtain⟨e,s,d⟩:=this;simp only[b5]at d;exact⟨e,s,d.1⟩
  obtain⟨e,s,d⟩:=D;have B:ents[j]?=Q1 e:=by rw[<-ph];exact s
  have I:=H.2 j e B;refine⟨ents.modify j λe=>{e with key:=cB k},clock,j,?_,?_,H.modify _ _ (λ_=>rfl),z⟩
  .have J:(Instr.keyThatStays (cB k) (cB k)).run P w=.ok (cB k) w:=by
    simp[Instr.keyThatStays,mL]
   simp[Instr.mapEntry,bA M,gB F,bD A,g,B,d,J,mW _ F,Result.andThen,I];rfl
  .apply pi;intro q;have N:(ents.toList.map λe=>(e.key,e.val))[q]?=(uQ es)[q]?:=by rw[G]
   grind
theorem Nt{n:Nat}{v v':Value}(z:w.heap[r]?=Q1 (.map ents clock))(A:(ents.toList.map λe=>(e.key,e.val))=uQ es)(u:li c0 ents clock)(B:es[n]?=Q1 (k,v)):
  ∃(h:Array MapEntry),(Instr.entryStore mt (.map (Q1 r)) (.int .i64 (c0+n:Nat)) v').run P w=.ok () {w with heap:=w.heap.setIfInBounds r (.map h clock)}/\
   (h.toList.map λe=>(e.key,e.val))=uQ (es.set n (k,v'))/\li c0 h clock:=by
 have F:ents.size=Io es:=by have:=congrArg Io A;simpa using this
 have d:n<ents.size:=by have:=(cR.1 B).1;omega
 have g:ents.findIdx? (λe=>(e.born:Int)==((c0+n:Nat):Int))=Q1 n:=by
  rw[Array.findIdx?_eq_some_iff_getElem];refine⟨d,?_,λj G=>?_⟩
  .have:=u.2 n ents[n] (pA d);simp[this]
  .have:=u.2 j (ents[j]'ow) (pA ow);simp[this];omega
 refine⟨ents.modify n λe=>{e with val:=v'},?_,?_,u.modify _ _ (λ_=>rfl)⟩
 .rw[sK]at g;simp[Instr.entryStore,gB z,asInt,asIntOf,g,mW _ z,Result.andThen]
 .apply pi;intro q;have b:(ents.toList.map λe=>(e.key,e.val))[q]?=(uQ es)[q]?:=by rw[A]
  simp only[dt,ph,pO,mY]at b|-;by_cases D:n=q
  .subst D;have s:n<Io es:=by omega
   rw[pA d,B]at b;simp only[B1,bj,b5]at b;simp[pA d,s,b.1]
  .simp_all
end
section
variable {e:Sh} {w w':World} {U U':Nat->Prop} {ρ:Nat->Option Value} {v:Value} {l:List (Sem e)}
def fM(e:Sh)(w:World)(U:Nat->Prop)(v:Value)(l:List (Sem e)):Prop:=bm w U (λ_=>Q1 v) 0 (.vec e l)
variable {id:Nat}
theorem SN{ρ':Nat->Option Value}{id':Nat}(j:ρ id=Q1 v)(h:bm w U ρ id (.vec e l))(b:ρ' id'=Q1 v):bm w U ρ' id' (.vec e l):=by have:=h.ren' (ρ':=ρ') (f:=λi=>i) (id':=id') (λx d=>by rw[j]at d;cases d;exact b) (λi g=>by simp[AO.ids]at g);simpa[AO.ren]using this
theorem zmb(b:ρ id=Q1 v)(h:bm w U ρ id (.vec e l)):fM e w U v l:=SN b h rfl
theorem fM.to(h:fM e w U v l)(b:ρ id=Q1 v):bm w U ρ id (.vec e l):=SN rfl h b
theorem fM.one(h:fM e w U v l):v.oneCell'=Q3:=by obtain⟨a,c,h1,_⟩:=h;cases h1;rfl
theorem fM.blk(h:fM e w U v l){b:Nat}(d:bJ v=Q1 b):U b/\b<w.heap.size:=bm.inU h ⟨rfl,v,rfl,d⟩
theorem fM.mono(h:fM e w U v l)(s:w.heap.size<=w'.heap.size)(g:∀b,b<w.heap.size->¬U b->w'.heap[b]?=w.heap[b]?)(u:∀b,b<w.heap.size->U' b->U b)(j:∀b,bJ v=Q1 b->w'.heap[b]?=w.heap[b]?/\U' b):fM e w' U' v l:=
 bm.mono s g u (λ_ _ h=>h) h λb ⟨_,x,z,d⟩=>by cases z;exact j b d
theorem fM.rv(h:fM e w U v l)(s:∀b,U' b->U b)(j:∀b,bJ v=Q1 b->¬U' b):Rv w U' ρ (.sl e l) v:=by
 have h1:Rv w U' (λ_=>Q1 v) (.sl e l) v:=uB (U:=U) (hp:=λ_=>.vec e l) (c:=.vec 0) (by simp[tt]) (.vec 0 v rfl h.one) s (λid d=>by simp[cW]at d;subst d;exact h) λid _ b ⟨_,x,u,g⟩=>by
  cases u;exact j b g
 have:=h1.ren (ρ':=ρ) (f:=λi=>i) (by simp[AV.ids]);simpa[AV.ren]using this
theorem fM.nil:fM e w U (.slice Q2 0 0) []:=⟨Q2,0,rfl,by simp[aJ],.inl ⟨rfl,rfl⟩⟩
structure sy (e:Sh) (w:World) (U:Nat->Prop) (r c0:Nat) (gs:List (K3×Value)) (es:List (K3×List (Sem e))):Prop where
 mp:∃(ents:Array MapEntry)(clock:Nat),w.heap[r]?=Q1 (.map ents clock)/\(ents.toList.map λe=>(e.key,e.val))=uQ gs/\li c0 ents clock
 keys:gs.map (·.1)=es.map (·.1)
 nd:(gs.map (·.1)).Nodup
 ok:∀p∈gs,ez p.1
 own:∀(j:Nat)(p:K3×Value)(q:K3×List (Sem e)),gs[j]?=Q1 p->es[j]?=Q1 q->fM e w U p.2 q.2
 apart:∀(i j:Nat)(p q:K3×Value)(b:Nat),gs[i]?=Q1 p->gs[j]?=Q1 q->bJ p.2=Q1 b->bJ q.2=Q1 b->i=j
 far:∀p∈gs,bJ p.2≠Q1 r
 ur:U r
def KS(r:Nat)(gs:List (K3×Value))(b:Nat):Prop:=b=r\/∃p∈gs,bJ p.2=Q1 b
def tH(es:List (K3×List (Sem e)))(k:K3):List (K3×List (Sem e)):=if k∈es.map (·.1)then es else es++[(k,[])]
variable {r c0:Nat} {gs:List (K3×Value)} {es:List (K3×List (Sem e))} {k:K3}
theorem TV:(∃q,eD gs k 0=Q1 q)↔k∈gs.map (·.1):=by
 cases h:eD gs k 0 with
 | none=>
  refine⟨λ⟨_,q⟩=>(by cases q),λb=>?_⟩;obtain⟨p,hp,rfl⟩:=aE.1 b;exact zC rfl (Dg h p hp)
 | some q=>
  obtain⟨_,h2,_⟩:=tT h;exact⟨λ_=>aE.2 ⟨_,fD h2,rfl⟩,λ_=>⟨q,rfl⟩⟩
theorem Lw(b:gs.map (·.1)=es.map (·.1)):(k∈es.map (·.1)/\FA gs k=gs/\tH es k=es)\/(k∉es.map (·.1)/\FA gs k=gs++[(k,.slice Q2 0 0)]/\tH es k=es++[(k,[])]):=by
 have d:=TV (gs:=gs) (k:=k);unfold FA tH;cases h:eD gs k 0 with
 | none=>
  have g:k∉es.map (·.1):=λq=>by
   rw[<-b]at q;obtain⟨x,j⟩:=d.2 q;rw[h]at j;cases j
  exact .inr ⟨g,rfl,zg g⟩
 | some q=>
  have s:k∈es.map (·.1):=by rw[<-b];exact d.1 ⟨q,h⟩
  exact .inl ⟨s,rfl,ze s⟩
theorem KS.ent{b:Nat}(d:gs.map (·.1)=es.map (·.1)):KS r (FA gs k) b↔KS r gs b:=by
 unfold KS;rcases Lw (k:=k) d with⟨_,h,_⟩|⟨_,h,_⟩
 .rw[h]
 .rw[h];simp[bJ]
theorem sy.entry{P:Program}{mt kt et:TypeId}(G:sy e w U r c0 gs es)(N:ez k)(hm:P.underlying mt=Q1 (.map kt et))(F:gJ P kt=Q3){i:TypeInfo}(Y:P.info? et=Q1 i)(hz:i.zero=Q1 (.slice Q2 0 0)):
  ∃(g:Array MapEntry)(d n:Nat),(Instr.mapEntry mt (.map (Q1 r)) (cB k)).run P w=.ok (.tuple #[Dh gs k,.int .i64 (c0+n:Nat)]) {w with heap:=w.heap.setIfInBounds r (.map g d)}/\
   sy e {w with heap:=w.heap.setIfInBounds r (.map g d)} U r c0 (FA gs k) (tH es k)/\(FA gs k)[n]?=Q1 (k,Dh gs k):=by
 obtain⟨ents,clock,M,X,hs⟩:=G.mp;obtain⟨g,d,n,h1,h2,S,T⟩:=Ns (w:=w) hm F Y hz N M X G.ok hs;have u:=na (o':=Obj.map g d) M
 have keep:∀{v:Value}{l:List (Sem e)},fM e w U v l->bJ v≠Q1 r->fM e {w with heap:=w.heap.setIfInBounds r (.map g d)} U v l:=λh hr=>
  h.mono sw (λb _ hu=>u.2 b λq=>hu (q▸G.ur)) (λ_ _ h=>h) λb s=>⟨u.2 b λq=>hr (q▸s),(h.blk s).1⟩
 refine⟨g,d,n,h1,⟨⟨g,d,u.1,h2,S⟩,?_,?_,?_,?_,?_,?_,G.ur⟩,T⟩
 all_goals rcases Lw (k:=k) G.keys with⟨A,H,I⟩|⟨A,H,I⟩
 all_goals rw[H]
 all_goals try rw[I]
 .exact G.keys
 .rw[eI,eI,G.keys];rfl
 .exact G.nd
 .rw[eI];refine List.nodup_append.2 ⟨G.nd,sw,λa W b s q=>A ?_⟩;have:b=k:=by simpa using s
  rw[<-this,<-q,<-G.keys];exact W
 .exact G.ok
 .intro p hp;rcases bZ.1 hp with h|h
  .exact G.ok p h
  .obtain rfl:=dO.1 h;exact N
 .exact λj p q hp z=>keep (G.own j p q hp z) (G.far p (fD hp))
 .intro j p q hp z;have Z:Io gs=Io es:=by simpa using congrArg Io G.keys
  by_cases D:j<Io gs
  .rw[kC D]at hp;rw[kC ow]at z;exact keep (G.own j p q hp z) (G.far p (fD hp))
  .have B:j-Io gs=0:=by
    rw[jd ow]at hp;have:=(cR.1 hp).1;simp at this;omega
   rw[jd ow,B]at hp;rw[jd ow,<-Z,B]at z;cases hp;cases z;exact fM.nil
 .exact G.apart
 .intro i j p q b hp z J L;have O:∀(i:Nat)(p:K3×Value),(gs++[(k,Value.slice Q2 0 0)])[i]?=Q1 p->bJ p.2=Q1 b->gs[i]?=Q1 p:=λi p hp s=>by
   by_cases D:i<Io gs
   .rwa [kC D]at hp
   .rw[jd ow]at hp;have:=fD hp;obtain rfl:=dO.1 this;simp[bJ]at s
  exact G.apart i j p q b (O i p hp J) (O j q z L) J L
 .exact G.far
 .intro p hp;rcases bZ.1 hp with h|h
  .exact G.far p h
  .obtain rfl:=dO.1 h;simp[bJ]
end
section
variable {e:Sh} {w w':World} {U U':Nat->Prop} {ρ:Nat->Option Value} {v:Value} {l:List (Sem e)} {r c0:Nat} {gs:List (K3×Value)} {es:List (K3×List (Sem e))} {k:K3}
theorem Rj{ents b:Array MapEntry}{clock h:Nat}(g:w.heap[r]?=Q1 (.map ents clock)):kA w {w with heap:=w.heap.setIfInBounds r (.map b h)}:=by
 obtain⟨j,s⟩:=na (o':=Obj.map b h) g;refine⟨sw,rfl,rfl,rfl,λa _=>?_⟩;by_cases d:a.block=r
 .unfold World.frozen?;simp only[d,j,g]
 .exact yH (s a.block d)
structure zi9 (w:World) (U:Nat->Prop) (r:Nat) (gs:List (K3×Value)) (w':World) (U':Nat->Prop) (gs':List (K3×Value)):Prop where
 ext:kA w w'
 same:∀b,b<w.heap.size->¬KS r gs b->w'.heap[b]?=w.heap[b]?
 u1:∀b,b<w.heap.size->U' b->U b
 u2:∀b,b<w.heap.size->U b->¬KS r gs b->U' b
 ub:∀b,U' b->b<w'.heap.size
 new:∀b,KS r gs' b->KS r gs b\/w.heap.size<=b
theorem sy.inU(G:sy e w U r c0 gs es){b:Nat}(h:KS r gs b):U b/\b<w.heap.size:=by
 rcases h with rfl|⟨p,hp,d⟩
 .obtain⟨_,_,h,_⟩:=G.mp;exact⟨G.ur,(lZ.1 h).1⟩
 .obtain⟨j,g,rfl⟩:=gD hp;have s:Io gs=Io es:=by simpa using congrArg Io G.keys
  exact(G.own j _ (es[j]'ow) (zZ g) (zZ ow)).blk d
variable {et:TypeId}{x:Sem e}
theorem sy.store{E:cd}(hE:EnvOk E){n:Nat}{J:TypeId}(G:sy e w U r c0 gs es)(H:gs[n]?=Q1 (k,v))(x0:es[n]?=Q1 (k,l))(X:E.P.underlying et=Q1 (.slice J))(x8:E.sh J=Q1 e){vx:Value}(hx:Rv w U ρ (.sl e [x]) vx)(x9:∀b,U b->b<w.heap.size)(a1:Io l<=1000)(mt ty:TypeId):
  ∃D O w3 U3,(Builtin.append_ #[et,et] ty #[v,vx]).run E.P w=.ok D O/\(Instr.entryStore mt (.map (Q1 r)) (.int .i64 (c0+n:Nat)) D).run E.P O=.ok () w3/\
   sy e w3 U3 r c0 (gs.set n (k,D)) (es.set n (k,l++[x]))/\zi9 w U r gs w3 U3 (gs.set n (k,D)):=by
 have hv:=G.own n _ _ H x0;have h4:=G.far _ (fD H);obtain⟨ents,clock,s,he,hs⟩:=G.mp;have W:r<w.heap.size:=(lZ.1 s).1;have x2:bm w U (jI (λ_=>Q2) 0 v) 0 (.vec e l):=hv.to (by simp[jI]);have N:∀{b:Nat},af (jI (λ_=>Q2) 0 v) 0 (.vec e l) b->bJ v=Q1 b:=λ⟨_,y,hy,s⟩=>by simp[jI]at hy;subst hy;exact s
 have x6:(nr E (λid=>if id=0 then .vec e l else .dead) 1 J (.vec 0) (.sl e [x])).val=Q1 {val:=.vec 1,wr:=[(0,.dead)],nw:=[.vec e (l++[x])]}:=by
  have hd:Q0 (Io l+[x].length<=1073741824)=Q3:=by simp;omega
  simp only[nr,x8,zh,tt,dite_true,Tr.val,hd]
 obtain⟨D,O,U2,ρ2,x4,d,_⟩:=Aa hE (w:=w) (U:=U) (ρ:=jI (λ_=>Q2) 0 v) (t:=et) (t':=et) (ty:=ty) (vb:=v) (vx:=vx) (fp:=[0]) x6 X X (.vec 0 v (by simp[jI]) hv.one)
  (by have:=hx.ren (ρ':=jI (λ_=>Q2) 0 v) (f:=λi=>i) (by simp[AV.ids]);simpa[AV.ren]using this) x9
  ⟨λid h9=>by simp at h9;subst h9;exact x2,λi hi j hj _ _ _=>by simp at hi hj;omega⟩ (by simp[AV.ids]) (by simp[AV.ids]) (by simp[jI])
 have Z:ρ2 1=Q1 D:=by have:=d.val;cases this with|vec _ _ h _=>exact h
 have a0:fM e O U2 D (l++[x]):=zmb Z (d.nw 0 _ rfl);have B:∀b,bJ v≠Q1 b->∀id o,(id,o)∈([(0,AO.dead)]:List (Nat×AO))->¬af (jI (λ_=>Q2) 0 v) id (ite (id=0) (.vec e l) (.dead)) b:=λb s id o L ho=>by
  simp at L;obtain⟨rfl,_⟩:=L;exact s (N ho)
 have z:∀b,bJ D=Q1 b->w.heap.size<=b\/bJ v=Q1 b:=λb g=>by
  rcases d.own 1 (.vec e (l++[x])) b (.inr ⟨aj _,rfl⟩) ⟨rfl,D,Z,g⟩with h|⟨i,o,L,ho⟩
  .exact .inl h
  .simp at L;obtain⟨rfl,_⟩:=L;exact .inr (N ho)
 have h0:O.heap[r]?=Q1 (.map ents clock):=(d.same r W (B r h4)).trans s;have Y:U2 r:=d.u2 r W G.ur (B r h4);have a2:(uQ gs)[n]?=Q1 (cB k,v):=by rw[dt,H];rfl
 obtain⟨A,h1,h2,h3⟩:=Nt (P:=E.P) (mt:=mt) (w:=O) (v':=D) h0 he hs H;have F:=na (o':=Obj.map A clock) h0;have x3:bJ D≠Q1 r:=λq=>(z r q).elim (λh=>by omega) h4
 have Mm:∀{v:Value}{l:List (Sem e)},fM e O U2 v l->bJ v≠Q1 r->fM e {O with heap:=O.heap.setIfInBounds r (.map A clock)} U2 v l:=λh hr=>
  h.mono sw (λb _ X=>F.2 b λq=>X (q▸Y)) (λ_ _ h=>h) λb g=>⟨F.2 b λq=>hr (q▸g),(h.blk g).1⟩
 have h8:∀{u:Value}{m:List (Sem e)},fM e w U u m->(∀b,bJ u=Q1 b->bJ v≠Q1 b)->fM e O U2 u m:=λh hd=>
  h.mono d.ext.sz (λb s X=>d.same b s (B b λq=>X (hv.blk q).1)) d.u1 λb g=>⟨d.same b (h.blk g).2 (B b (hd b g)),d.u2 b (h.blk g).2 (h.blk g).1 (B b (hd b g))⟩
 have hl:Io gs=Io es:=by simpa using congrArg Io G.keys
 have x7:=(cR.1 H).1;have S:∀{j:Nat}{p:K3×Value},(gs.set n (k,D))[j]?=Q1 p->(j=n/\p=(k,D))\/(j≠n/\gs[j]?=Q1 p):=λ{j p} hp=>by
  rw[mY]at hp;split at hp
  next q=>cases hp;exact .inl ⟨q.symm,rfl⟩
  next q=>exact .inr ⟨λh=>q h.symm,hp⟩
 have M:(gs.set n (k,D)).map (·.1)=gs.map (·.1):=by
  rw[List.map_set];apply pi;intro i;rw[mY];split
  next q=>subst q;rw[dt,H,ze (by simpa using x7)];rfl
  .rfl
 have T:(es.set n (k,l++[x])).map (·.1)=es.map (·.1):=by
  rw[List.map_set];apply pi;intro i;rw[mY];split
  next q=>subst q;rw[dt,x0,ze sg];rfl
  .rfl
 refine⟨D,O,_,U2,x4,h1,⟨⟨A,clock,F.1,h2,h3⟩,by rw[M,T];exact G.keys,by rw[M];exact G.nd,λp hp=>?_,λj p q hp I=>?_,λi j p q b hp I h5 h6=>?_,λp hp=>?_,Y⟩,?_⟩
 .rcases QB hp with h|rfl
  .exact G.ok p h
  .exact G.ok (k,v) (fD H)
 .rcases S hp with⟨rfl,rfl⟩|⟨hj,hp⟩
  .rw[List.getElem?_set_self ow]at I;cases I;exact Mm a0 x3
  .rw[BV (λq=>hj q.symm)]at I;exact Mm (h8 (G.own j p q hp I) λb h5 h6=>hj (G.apart j n p _ b hp H h5 h6)) (G.far p (fD hp))
 .have x5:∀{j:Nat}{p:K3×Value},gs[j]?=Q1 p->bJ p.2=Q1 b->b<w.heap.size:=λ{j p} hp g=>(G.inU (.inr ⟨p,fD hp,g⟩)).2
  rcases S hp with⟨rfl,rfl⟩|⟨hi,h7⟩
  .rcases S I with⟨rfl,rfl⟩|⟨hj,I⟩
   .rfl
   .rcases z b h5 with h|h
    .have:=x5 I h6;omega
    .exact G.apart _ j _ q b H I h h6
  .rcases S I with⟨rfl,rfl⟩|⟨hj,I⟩
   .rcases z b h6 with h|h
    .have:=x5 h7 h5;omega
    .exact G.apart i _ p _ b h7 H h5 h
   .exact G.apart i j p q b h7 I h5 h6
 .rcases QB hp with h|rfl
  .exact G.far p h
  .exact x3
 .have x1:∀b,¬KS r gs b->bJ v≠Q1 b:=λb s q=>s (.inr ⟨_,fD H,q⟩)
  refine⟨d.ext.trans (Rj h0),λb s hg=>(F.2 b λq=>hg (.inl q)).trans (d.same b s (B b (x1 b hg))),d.u1,λb s X hg=>d.u2 b s X (B b (x1 b hg)),λb s=>by have:=d.ub b s;simpa using this,λb s=>?_⟩;rcases s with rfl|⟨p,hp,s⟩
  .exact .inl (.inl rfl)
  .rcases QB hp with h|rfl
   .exact .inl (.inr ⟨p,h,s⟩)
   .exact(z b s).elim .inr λh=>.inl (.inr ⟨_,fD H,h⟩)
theorem sy.add{E:cd}(hE:EnvOk E){mt kt elem:TypeId}(G:sy e w U r c0 gs es)(hk:ez k)(hm:E.P.underlying mt=Q1 (.map kt et))(X:gJ E.P kt=Q3){i:TypeInfo}(hi:E.P.info? et=Q1 i)(hz:i.zero=Q1 (.slice Q2 0 0))(H:E.P.underlying et=Q1 (.slice elem))(T:E.sh elem=Q1 e)
   {Z:Value} (hx:Rv w U ρ (.sl e [x]) Z) (W:∀b,U b->b<w.heap.size) (z:∀q∈es,Io q.2<=1000) (ty:TypeId):
  ∃v s w1 O S I J F n l,(Instr.mapEntry mt (.map (Q1 r)) (cB k)).run E.P w=.ok (.tuple #[v,s]) w1/\(Builtin.append_ #[et,et] ty #[v,Z]).run E.P w1=.ok O S/\(Instr.entryStore mt (.map (Q1 r)) s O).run E.P S=.ok () I/\
   (tH es k)[n]?=Q1 (k,l)/\sy e I J r c0 F ((tH es k).set n (k,l++[x]))/\zi9 w U r gs I J F:=by
 obtain⟨g,d,n,h1,G1,hn⟩:=G.entry (P:=E.P) hk hm X hi hz;obtain⟨ents,clock,M,_⟩:=G.mp;have A:=na (o':=Obj.map g d) M;obtain⟨l,B⟩:∃l,(tH es k)[n]?=Q1 (k,l):=by
  have e1:((tH es k).map (·.1))[n]?=Q1 k:=by rw[<-G1.keys,dt,hn];rfl
  rw[dt,dq]at e1;obtain⟨⟨k',l⟩,h,rfl⟩:=e1;exact⟨l,h⟩
 have hl:Io l<=1000:=by
  have:=fD B;unfold tH at this;split at this
  .exact z _ this
  .rcases bZ.1 this with h|h
   .exact z _ h
   .have:=dO.1 h;cases this;exact aL _
 have Y:Rv {w with heap:=w.heap.setIfInBounds r (.map g d)} U ρ (.sl e [x]) Z:=hx.mono sw (λb _ H=>A.2 b λq=>H (q▸G.ur)) (λ_ _ h=>h) λ_ _ h=>h
 obtain⟨O,S,I,J,h2,h3,G3,L⟩:=G1.store hE hn B H T Y (λb M=>by have:=W b M;simpa using this) hl mt ty;have D:∀b,KS r (FA gs k) b↔KS r gs b:=λb=>KS.ent G.keys
 have u:({w with heap:=w.heap.setIfInBounds r (.map g d)}:World).heap.size=w.heap.size:=by simp
 refine⟨_,_,_,O,S,I,J,_,n,l,h1,h2,h3,B,G3,⟨(Rj M).trans L.ext,λb j N=>(L.same b (by rw[u];exact j) (λq=>N ((D b).1 q))).trans (A.2 b λq=>N (.inl q)),λb j=>L.u1 b (by rw[u];exact j),λb j H N=>L.u2 b (by rw[u];exact j) H (λq=>N ((D b).1 q)),L.ub,λb j=>?_⟩⟩;rcases L.new b j with h|h
 .exact .inl ((D b).1 h)
 .rw[u]at h;exact .inr h
end
def uv(E:cd)(C:ew)(fn:FuncId)(todo:List Item)(I:Act->World->Prop)(Q:AV->List AO->Prop):Prop:=
 ∀(b:Frame)(cs:List Frame)(a:Act)(w:World),b.fn=fn->b.kind=.normal->I a w->∃e w' h,S7 E C Q e w'/\Comes E.P (lone (b.at a todo) cs w) (lone h cs w') e/\h.fn=fn/\h.leaving E.P w' e
section
variable {E:cd} {C:ew} {fn:FuncId} {Q:AV->List AO->Prop} {todo k:List Item} {st:St} {c:Code}
variable {I:Act->World->Prop}
theorem uv.of(h:Reach E C fn todo st Q)(g:∀a w,I a w->∃U ρ,Cn C st a w U ρ/\Wd E.gl C w U):uv E C fn todo I Q:=λb cs a w h1 h2 d=>by
 obtain⟨U,ρ,s,j⟩:=g a w d;exact h b cs a w U ρ h1 h2 s j
theorem uv.reach(h:uv E C fn todo I Q)(d:∀a w U ρ,Cn C st a w U ρ->Wd E.gl C w U->I a w):Reach E C fn todo st Q:=λb cs a w U ρ h1 h2 j g=>h b cs a w h1 h2 (d a w U ρ j g)
theorem uv.round{u:Act->World->Prop}(h:uv E C fn (.code c::.inLoop c::k) u Q)(B:∀a w,I a w->c.wp E.P (λe g w'=>e=.normal/\u g w') a w):uv E C fn (.code c::.inLoop c::k) I Q:=by intro b cs a w h1 h2 A;obtain⟨e,g,w',⟨rfl,j⟩,d⟩:=B a w A b (.inLoop c::k) cs;obtain⟨e,s,z,D,F,G⟩:=h b cs g w' h1 h2 j;exact⟨e,s,z,D,lk d (lk (.one step_inLoop) F),G⟩
theorem uv.rounds(n:Nat)(I:Nat->Act->World->Prop)(s:∀i,i<n->∀a w,I i a w->c.wp E.P (λe d w'=>e=.normal/\I (i+1) d w') a w)(h:uv E C fn (.code c::.inLoop c::k) (I n) Q):uv E C fn (.code c::.inLoop c::k) (I 0) Q:=by
 have b:∀j,j<=n->uv E C fn (.code c::.inLoop c::k) (I (n-j)) Q:=by
  intro j
  induction j with
  |zero=>exact λ_=>h
  | succ j u=>
   intro z;refine(u ow).round λa w g=>?_
   have:=s (n-(j+1)) ow a w g
   rwa [show n-(j+1)+1=n-j by omega]at this
 have:=b n (aj _)
 rwa [Nat.sub_self]at this
end
section
variable {gl:Nat->AV} {C:ew} {a:Act} {w:World} {U:Nat->Prop} {ρ:Nat->Option Value} {e:Sh} {m r c0:Nat} {gs:List (K3×Value)} {es:List (K3×List (Sem e))} {tm:List AV} {h1 h2:List AO}
structure jL (C:ew) (e:Sh) (tm:List AV) (h1 h2:List AO) (a:Act) (w:World) (U:Nat->Prop) (ρ:Nat->Option Value) (r c0:Nat) (gs:List (K3×Value)) (es:List (K3×List (Sem e))):Prop where
 cn:Cn C ⟨tm,h1++.dead::h2⟩ a w U ρ
 at_:ρ (Io h1)=Q1 (.map (Q1 r))
 gr:sy e w U r c0 gs es
 far:∀id b,af ρ id ((⟨tm,h1++.dead::h2⟩:St).hp id) b->¬KS r gs b
 rb:C.B0 r\/C.w0.heap.size<=r
 nb:∀p∈gs,∀b,bJ p.2=Q1 b->C.w0.heap.size<=b
theorem vl(o:AO)(id:Nat):(⟨tm,h1++o::h2⟩:St).hp id=if id=Io h1 then o else(⟨tm,h1++.dead::h2⟩:St).hp id:=by
 show(h1++o::h2).getD id .dead=if id=Io h1 then o else(h1++.dead::h2).getD id .dead
 rw[aZ,aZ];split
 next h=>subst h;rw[jd (aj _),Nat.sub_self];rfl
 .rename_i h;by_cases b:id<Io h1
  .rw[kC b,kC b]
  .rw[jd ow,jd ow];obtain⟨d,g⟩:∃d,id-Io h1=d+1:=⟨id-Io h1-1,ow⟩;rw[g];rfl
theorem zcP(g:Cn C ⟨tm,h1++.gmap e []::h2⟩ a w U ρ):∃r c0,jL C e tm h1 h2 a w U ρ r c0 [] []:=by
 have A:=g.hp.ob (Io h1);rw[vl,ze rfl]at A;obtain⟨r,ents,clock,gs,B,I,J,N,L,M,O⟩:=A;have z:gs=[]:=by simpa using M
 subst z;have H:ents=#[]:=by simpa using L
 subst H;have s:af ρ (Io h1) ((⟨tm,h1++.gmap e []::h2⟩:St).hp (Io h1)) r:=by
  rw[vl,ze rfl];exact⟨rfl,_,B,rfl⟩
 have u:∀id b,af ρ id ((⟨tm,h1++.dead::h2⟩:St).hp id) b->id≠Io h1/\af ρ id ((⟨tm,h1++.gmap e []::h2⟩:St).hp id) b:=λid b h=>by
  by_cases d:id=Io h1
  .rw[vl,ze d]at h;cases h.1
  .refine⟨d,?_⟩;rw[vl,zg d];exact h
 refine⟨r,clock,⟨⟨g.tm,⟨λid=>?_,λi j b F G=>g.hp.inj i j b (u i b F).2 (u j b G).2,λid b h=>g.hp.blk id b (u id b h).2⟩,λid d=>g.new id (by simpa using d),g.df,g.r0⟩,B,⟨⟨#[],clock,J,sw,⟨sw,sw⟩⟩,rfl,sw,sw,sw,sw,sw,I⟩,λid b h D=>?_,g.hp.blk _ _ s,sw⟩⟩
 .rw[vl];split
  .trivial
  .rename_i d;have:=g.hp.ob id
   rwa [vl,zg d]at this
 .rcases D with rfl|⟨p,hp,_⟩
  .exact(u id _ h).1 (g.hp.inj id (Io h1) _ (u id _ h).2 s)
  .cases hp
theorem T0(h:jL C e tm h1 h2 a w U ρ r c0 gs es)(D:Wd gl C w U):∃U',Cn C ⟨tm,h1++.gmap e es::h2⟩ a w U' ρ/\Wd gl C w U':=by
 refine⟨λb=>U b/\¬∃p∈gs,bJ p.2=Q1 b,⟨?_,⟨λid=>?_,λi j b T M=>?_,λid b u=>?_⟩,λid d=>h.cn.new id (by simpa using d),h.cn.df,h.cn.r0⟩,⟨D.ext,D.same,λb s=>D.ub b s.1,λb s F=>D.u1 b s F.1,λb s F S=>⟨D.u2 b s F S,λ⟨p,hp,J⟩=>by have:=h.nb p hp b J;omega⟩,λg=>(D.gl g).weak λ_ h=>h.1⟩⟩
 .exact⟨h.cn.tm.len,λj c v I A=>(h.cn.tm.rv j c v I A).weak λ_ h=>h.1⟩
 .rw[vl];split
  next d=>subst d;obtain⟨ents,clock,N,O,X⟩:=h.gr.mp;refine⟨r,ents,clock,gs,h.at_,⟨h.gr.ur,λ⟨p,hp,s⟩=>h.gr.far p hp s⟩,N,⟨by simpa using(congrArg Io h.gr.keys).symm,λj c v I A=>?_⟩,O,h.gr.keys,h.gr.ok⟩;rw[dt,dq]at I A;obtain⟨q,W,rfl⟩:=I;obtain⟨p,hp,rfl⟩:=A;exact(h.gr.own j p q hp W).rv (λ_ h=>h.1) λb s F=>F.2 ⟨p,fD hp,s⟩
  next d=>refine(h.cn.hp.ob id).mono (aj _) (λ_ _ _=>rfl) (λ_ _ h=>h.1) (λ_ _ h=>h) λb u=>⟨rfl,(bm.inU (h.cn.hp.ob id) u).1,λ⟨p,hp,s⟩=>h.far id b u (.inr ⟨p,hp,s⟩)⟩
 .have z:∀id b,af ρ id ((⟨tm,h1++.gmap e es::h2⟩:St).hp id) b->(id=Io h1/\b=r)\/(id≠Io h1/\af ρ id ((⟨tm,h1++.dead::h2⟩:St).hp id) b):=λid b u=>by
   rw[vl]at u;split at u
   next d=>obtain⟨_,v,A,s⟩:=u;rw[d,h.at_]at A;cases A;cases s;exact .inl ⟨d,rfl⟩
   next d=>exact .inr ⟨d,u⟩
  rcases z i b T with⟨L,G⟩|⟨L,G⟩
  .rcases z j b M with⟨H,B⟩|⟨H,B⟩
   .rw[L,H]
   .exact zC (.inl G) (h.far j b B)
  .rcases z j b M with⟨H,B⟩|⟨H,B⟩
   .exact zC (.inl B) (h.far i b G)
   .exact h.cn.hp.inj i j b G B
 .rw[vl]at u;split at u
  next d=>obtain⟨_,v,A,s⟩:=u;rw[d,h.at_]at A;cases A;cases s;exact h.rb
  .exact h.cn.hp.blk id b u
variable {w':World}{U':Nat->Prop}
theorem sy.keep(G:sy e w U r c0 gs es)(A:w.heap.size<=w'.heap.size)(u:∀b,b<w.heap.size->¬U b->w'.heap[b]?=w.heap[b]?)(B:∀b,b<w.heap.size->U' b->U b)(h:∀b,KS r gs b->w'.heap[b]?=w.heap[b]?/\U' b):sy e w' U' r c0 gs es:=by refine⟨?_,G.keys,G.nd,G.ok,λj p q hp z=>(G.own j p q hp z).mono A u B λb s=>h b (.inr ⟨p,fD hp,s⟩),G.apart,G.far,(h r (.inl rfl)).2⟩;obtain⟨ents,clock,g,d⟩:=G.mp;exact⟨ents,clock,(h r (.inl rfl)).1.trans g,d⟩
variable {tm':List AV}
theorem jL.keep{d:Act}{ρ':Nat->Option Value}(h:jL C e tm h1 h2 a w U ρ r c0 gs es)(A:Cn C ⟨tm',h1++.dead::h2⟩ d w' U' ρ')(j:ux w U ρ (⟨tm,h1++.dead::h2⟩:St).hp w' U' ρ' (⟨tm',h1++.dead::h2⟩:St).hp):jL C e tm' h1 h2 d w' U' ρ' r c0 gs es:=by
 have u:∀b,KS r gs b->∀id,¬af ρ id ((⟨tm,h1++.dead::h2⟩:St).hp id) b:=λb g id s=>h.far id b s g
 refine⟨A,j.rho _ _ h.at_,h.gr.keep j.ext.sz (λb z F=>j.same b z λid s=>F (bm.inU (h.cn.hp.ob id) s).1) j.u1 (λb g=>⟨j.same b (h.gr.inU g).2 (u b g),j.u2 b (h.gr.inU g).2 (h.gr.inU g).1 (u b g)⟩),λid b s g=>?_,h.rb,h.nb⟩;rcases j.own id b s with⟨i,B⟩|D
 .exact h.far i b B g
 .have:=(h.gr.inU g).2;omega
theorem jL.left{s:List (K3×Value)}{D:List (K3×List (Sem e))}(h:jL C e tm h1 h2 a w U ρ r c0 gs es)(A:Wd gl C w U)(L:zi9 w U r gs w' U' s)(G:sy e w' U' r c0 s D):jL C e tm h1 h2 a w' U' ρ r c0 s D/\Wd gl C w' U':=by
 have J:∀b,b<w.heap.size->¬U b->w'.heap[b]?=w.heap[b]?:=λb d H=>L.same b d λF=>H (h.gr.inU F).1
 have I:∀b,b<C.w0.heap.size->¬C.B0 b->¬KS r gs b:=λb d u F=>by
  rcases F with rfl|⟨p,hp,z⟩
  .exact h.rb.elim u λq=>by omega
  .have:=h.nb p hp b z;omega
 have S:=A.ext.sz
 refine⟨⟨⟨⟨h.cn.tm.len,λj c v O T=>(h.cn.tm.rv j c v O T).mono L.ext.sz J L.u1 λ_ _ h=>h⟩,⟨λid=>(h.cn.hp.ob id).mono L.ext.sz J L.u1 (λ_ _ h=>h) λb B=>?_,h.cn.hp.inj,h.cn.hp.blk⟩,h.cn.new,h.cn.df,h.cn.r0⟩,h.at_,G,λid b B F=>?_,h.rb,λp hp b d=>?_⟩,
  ⟨A.ext.trans L.ext,λb d u=>(L.same b ow (I b d u)).trans (A.same b d u),L.ub,λb d H=>A.u1 b d (L.u1 b ow H),λb d H u=>L.u2 b ow (A.u2 b d H u) (I b d u),λg=>(A.gl g).mono L.ext.sz J L.u1 λ_ _ h=>h⟩⟩
 .obtain⟨N,M⟩:=bm.inU (h.cn.hp.ob id) B;exact⟨L.same b M (h.far id b B),L.u2 b M N (h.far id b B)⟩
 .obtain⟨N,M⟩:=bm.inU (h.cn.hp.ob id) B;rcases L.new b F with q|q
  .exact h.far id b B q
  .omega
 .rcases L.new b (.inr ⟨p,hp,d⟩)with(q|⟨W,hp',z⟩)|q
  .exact zC (q▸d) (G.far p hp)
  .exact h.nb W hp' b z
  .omega
theorem jL.slots{d:Act}(h:jL C e tm h1 h2 a w U ρ r c0 gs es)(g:dg w U ρ tm' d.tmps.toList)(b:d.defers=[]):jL C e tm' h1 h2 d w U ρ r c0 gs es:=⟨⟨g,h.cn.hp,h.cn.new,b,h.cn.r0⟩,h.at_,h.gr,h.far,h.rb,h.nb⟩
def sX(ks:List Nat)(l:List AV):List AV:=l.mapIdx λi c=>if ks.contains i then c else .any
theorem I2{ks:List Nat}{l:List AV}{g:List Value}(h:dg w U ρ l g):dg w U ρ (sX ks l) g:=⟨by unfold sX;rw[List.length_mapIdx];exact h.len,λj c v b u=>by
 unfold sX at b;rw[List.getElem?_mapIdx,dq]at b;obtain⟨s,d,rfl⟩:=b;split
 .exact h.rv j s v d u
 .exact .any _⟩
end
section
variable {E:cd} {C:ew} {a:Act} {w:World} {U:Nat->Prop} {ρ:Nat->Option Value} {e:Sh} {r c0:Nat} {gs:List (K3×Value)} {es:List (K3×List (Sem e))} {tm tm':List AV} {h1 h2:List AO} {cs:List Bool}
theorem HW{α:Type}{t:Tr α}{s:α}(h:t.leaf=Q1 s)(d:t.asks=cs)(b:cs.all id=Q3):t.val=Q1 s:=Tr.val_leaf h (by rw[d];exact b)
theorem jL.region(B:zu E){id:Nat}{ops:List Oper}(ks:List Nat)(h:jL C e tm h1 h2 a w U ρ r c0 gs es)(F:Wd E.gl C w U)
  (A:(jo E ops Q4 ⟨tm,h1++.dead::h2⟩).leaf.map (λs=>(sX ks s.tmps,s.heap))=Q1 (tm',h1++.dead::h2)) (H:(jo E ops Q4 ⟨tm,h1++.dead::h2⟩).asks=cs) (G:cs.all _root_.id=Q3):
  (Code.region id ops.toArray Q4).wp E.P (λu j w'=>u=.normal/\∃U' ρ',jL C e tm' h1 h2 j w' U' ρ' r c0 gs es/\Wd E.gl C w' U') a w:=by rw[dq]at A;obtain⟨s,I,z⟩:=A;obtain⟨st,sh⟩:=s;simp only[b5]at z;obtain⟨rfl,rfl⟩:=z;have J:=HW I H G;refine wp_mono (Nq (id:=id) (draw:=Q4) (ops:=ops.toArray) B (by simpa using J) h.cn F) ?_;rintro u j w' ⟨rfl,U',ρ',g,d,D⟩;have b:=h.keep g D;exact⟨rfl,U',ρ',b.slots (I2 b.cn.tm) b.cn.df,d⟩
variable {Q:Exit->Act->World->Prop}
theorem jL.ops(D:zu E){id:Nat}{b d:List Oper}(ks:List Nat)(h:jL C e tm h1 h2 a w U ρ r c0 gs es)(H:Wd E.gl C w U)
  (B:(bU E (b++d) b {tmps:=tm,heap:=h1++.dead::h2}).leaf.map (λs=>(sX ks s.tmps,s.heap))=Q1 (tm',h1++.dead::h2)) (J:(bU E (b++d) b {tmps:=tm,heap:=h1++.dead::h2}).asks=cs) (I:cs.all _root_.id=Q3)
  (G:∀g w' U' ρ',jL C e tm' h1 h2 g w' U' ρ' r c0 gs es->Wd E.gl C w' U'->wpOps E.P (b++d).toArray Q (List.range' (Io b) (Io d)) g w'):(Code.region id (b++d).toArray Q4).wp E.P Q a w:=by rw[dq]at B;obtain⟨s,L,A⟩:=B;have M:=HW L J I;obtain⟨st,sh,N,S,O⟩:=s;simp only[b5]at A;obtain⟨rfl,rfl⟩:=A;refine wp_region (zdt D M h.cn.toR H λg w' U' ρ' z u F=>?_);have j:=h.keep (tm':=st) z.out F;exact G g w' U' ρ' (j.slots (I2 j.cn.tm) j.cn.df) u
variable {P:Program}{b:Array Oper}{v:Value}{w':World}
theorem su{k m:Nat}{o:Oper}(g:b[k]?=Q1 o)(d:o.guard=Q2)(j:(execOp a.eval o).run P w=.ok (.value v) w')(h:wpOps P b Q (List.range' (k+1) m) (a.put o.dst v) w'):wpOps P b Q (List.range' k (m+1)) a w:=by rw[List.range'_succ];simp only[wpOps,g,Region.wanted,d,zh];exact .inl (eV j h)
theorem Qo{k m:Nat}{o:Oper}(g:b[k]?=Q1 o)(d:o.guard=Q2)(j:(execOp a.eval o).run P w=.ok .skip w')(h:wpOps P b Q (List.range' (k+1) m) (a.put o.dst undef) w'):wpOps P b Q (List.range' k (m+1)) a w:=by rw[List.range'_succ];simp only[wpOps,g,Region.wanted,d,zh];exact .inl (qT j h)
section
variable {P:Program} {w':World} {f:Operand->Value} {o:Oper} {v x y:Value} {t t':TypeId} {m k p q:Operand}
theorem Fz(h1:o.op=.mapEntry t m k)(b:f m=x)(d:f k=y)(h:(Instr.mapEntry t x y).run P w=.ok v w'):(execOp f o).run P w=.ok (.value v) w':=by subst b d;simp[execOp,h1,h]
theorem AK{z:Value}(h1:o.op=.entryStore t m k p)(b:f m=x)(d:f k=y)(g:f p=z)(h:(Instr.entryStore t x y z).run P w=.ok () w'):(execOp f o).run P w=.ok .skip w':=by subst b d g;simp[execOp,h1,h]
theorem uY{b:Array Value}{i:Nat}(h1:o.op=.extract m i)(d:f m=.tuple b)(h:b[i]?=Q1 v):(execOp f o).run P w=.ok (.value v) w:=by simp[execOp,h1,d,Instr.extract,h]
theorem L0(h1:o.op=.call {callee:=.builtin .append,args:=#[p,q],argTypes:=#[t,t']})(b:f p=x)(d:f q=y)(h:(Builtin.append_ #[t,t'] o.type #[x,y]).run P w=.ok v w'):(execOp f o).run P w=.ok (.value v) w':=by subst b d;simp[execOp,h1,resolve,invoke,builtin,h]
end
theorem jO{a:Act}{d t:Nat}(h:d<a.tmps.size):(a.put (Q1 d) v).eval (.tmp t)=if t=d then v else a.eval (.tmp t):=by
 simp only[Act.eval,Act.put];rw[pz,pz];split
 next e=>subst e;simp[h]
 next e=>rw[Array.getElem?_setIfInBounds_ne (λq=>e q.symm)]
theorem EP{a:Act}{d:Option Nat}:(a.put d v).tmps.size=a.tmps.size:=by cases d<;>simp[Act.put]
theorem dg.slot{l:List AV}(h:dg w U ρ l a.tmps.toList)(t:Nat):Rv w U ρ (l.getD t .any) (a.eval (.tmp t)):=by
 show Rv w U ρ _ (a.tmps.getD t undef);by_cases b:t<Io l
 .have d:t<a.tmps.toList.length:=by rw[<-h.len];exact b
  refine h.rv t _ _ (by simp_all) ?_;simp_all
 .rw[aZ,eX ow];exact .any _
end
def kv(l:List K3):List K3:=l.foldl (λh a=>if a∈h then h else h++[a]) []
theorem rz(l:List K3)(a:K3):kv (l++[a])=if a∈kv l then kv l else kv l++[a]:=by unfold kv;rw[List.foldl_append];rfl
theorem xL(Φ:List K3->List K3->Prop)(j:Φ [] [])(h1:∀l a,Φ l (kv l)->Φ (l++[a]) (kv (l++[a]))):∀l,Φ l (kv l):=by
 have g:∀(n:Nat)(l:List K3),Io l=n->Φ l (kv l):=by
  intro n
  induction n with
  |zero=>intro l d;rw[List.length_eq_zero_iff.1 d];exact j
  | succ n s=>
   intro l d;obtain⟨h,b,rfl⟩:∃h b,l=h++[b]:=⟨l.dropLast,l.getLast (List.ne_nil_of_length_pos ow),(List.dropLast_concat_getLast _).symm⟩;exact h1 h b (s h (by simpa using d))
 exact λl=>g _ l rfl
theorem Hg(a:K3)(l:List K3):a∈kv l↔a∈l:=
 xL (λl u=>a∈u↔a∈l) Iff.rfl (λl b g=>by
  rw[rz];split
  .rename_i h;rw[g,bZ,dO];exact⟨.inl,λq=>q.elim id λe=>e▸(xL (λl u=>∀x∈u,x∈l) (λ_ h=>h) (λl c h x d=>by
    rw[rz]at d;split at d
    .exact List.mem_append_left _ (h x d)
    .rcases bZ.1 d with q|q
     .exact List.mem_append_left _ (h x q)
     .exact List.mem_append_right _ q) l) b h⟩
  .rw[bZ,bZ,g]) l
theorem An(l:List K3):(kv l).Nodup:=
 xL (λ_ u=>u.Nodup) List.nodup_nil (λl b d=>by
  rw[rz];split
  .exact d
  .rename_i h;refine List.nodup_append.2 ⟨d,sw,λx g y j e=>h ?_⟩;have:y=b:=by simpa using j
   rw[<-this,<-e];exact g) l
def dr(at_:Int)(rows:List zw):List (K3×List zw):=(kv (rows.map λrow=>zX at_ row)).map λk=>(k,rows.filter λrow=>k==zX at_ row)
section
variable {at_:Int} {rows:List (List (Sem zf))} {row:List (Sem zf)}
theorem Af:(dr at_ rows).map (·.1)=kv (rows.map λrow=>zX at_ row):=by unfold dr;rw[nf];exact List.map_id _
theorem Mb{n:Nat}{l:List zw}(z:(tH (e:=.sl zf) (dr at_ rows) (zX at_ row))[n]?=Q1 (zX at_ row,l)):
  (tH (e:=.sl zf) (dr at_ rows) (zX at_ row)).set n (zX at_ row,l++[row])=dr at_ (rows++[row]):=by
 have b:tH (e:=.sl zf) (dr at_ rows) (zX at_ row)=(kv ((rows++[row]).map λrow=>zX at_ row)).map λk=>(k,rows.filter λrow=>k==zX at_ row):=by
  unfold tH;rw[Af,eI,dC,pS,rz];split
  .rfl
  .rename_i h;rw[eI];have:(rows.filter λr=>zX at_ row==zX at_ r)=[]:=List.filter_eq_nil_iff.2 λr F u=>h ((Hg _ _).2 (aE.2 ⟨r,F,(bF u).symm⟩))
   rw[dC,pS,this];rfl
 have d:=An ((rows++[row]).map λrow=>zX at_ row);rw[b]at z|-;unfold dr;generalize kv ((rows++[row]).map λrow=>zX at_ row)=ks at z d|-;apply pi;intro j;rw[dt,dq]at z;obtain⟨k,A,u⟩:=z;simp only[b5]at u;obtain⟨rfl,rfl⟩:=u;have s:=(cR.1 A).1;rw[dt,mY];split
 next q=>subst q;rw[A,ze (by simpa using s)];simp
 .rename_i q;rw[dt];cases D:ks[j]? with
  |none=>rfl
  | some G=>
   have B:(G==zX at_ row)=Q4:=by
    rw[dB];intro e;subst e;have h1:=(cR.1 D).1;refine q ?_;exact(List.getElem_inj (h₀:=s) (h₁:=h1) d).1 (by rw[(cR.1 A).2,(cR.1 D).2])
   have g:=dB.1 B;simpa[List.filter_append]using g
theorem O4(k:K3):kE (e:=.sl zf) (dr at_ rows) k=rows.filter λrow=>k==zX at_ row:=by
 have b:∀ks:List K3,(k∈ks->kE (e:=.sl zf) (ks.map λk=>(k,rows.filter λrow=>k==zX at_ row)) k=(rows.filter λrow=>k==zX at_ row))/\(k∉ks->kE (e:=.sl zf) (ks.map λk=>(k,rows.filter λrow=>k==zX at_ row)) k=[]):=by
  intro ks
  induction ks with
  |nil=>exact⟨λh=>(by cases h),λ_=>rfl⟩
  | cons a r d=>
   have e:kE (e:=.sl zf) ((a::r).map λk=>(k,rows.filter λrow=>k==zX at_ row)) k=bif k==a then rows.filter λrow=>a==zX at_ row else kE (e:=.sl zf) (r.map λk=>(k,rows.filter λrow=>k==zX at_ row)) k:=rfl
   rw[e];by_cases h:k=a
   .subst h;simp
   .have g:(k==a)=Q4:=by simpa using h
    rw[g,aA];exact⟨λq=>d.1 (by simpa[h]using q),λq=>d.2 λw=>q (mX _ w)⟩
 unfold dr;by_cases h:k∈kv (rows.map λrow=>zX at_ row)
 .exact(b _).1 h
 .rw[(b _).2 h];exact(List.filter_eq_nil_iff.2 λr s j=>h ((Hg _ _).2 (aE.2 ⟨r,s,(bF j).symm⟩))).symm
theorem Ro{e:Sh}{es:List (K3×List (Sem e))}(g:(es.map (·.1)).Nodup) (u k:K3):kE (mb es u) k=if k=u then[]else kE es k:=by
 induction es with
 |nil=>split<;>rfl
 | cons p r B=>
  rw[dC,List.nodup_cons]at g;have b:∀{s:List (K3×List (Sem e))},p.1∉s.map (·.1)->kE s p.1=[]:=by
   intro s
   induction s with
   |nil=>exact λ_=>rfl
   | cons q s j=>
    intro h;rw[dC,cf,not_or]at h;have:(p.1==q.1)=Q4:=by simpa using h.1
    show(cond (p.1==q.1) q.2 (kE s p.1))=[];rw[this,aA];exact j h.2
  show kE (cond (u==p.1) r (p::mb r u)) k=_;by_cases h:u=p.1
  .subst h;rw[beq_self_eq_true,ax];split
   next q=>subst q;exact b g.1
   .rename_i q;have:(k==p.1)=Q4:=by simpa using q
    show _=bif k==p.1 then p.2 else kE r k
    rw[this,aA]
  .have z:(u==p.1)=Q4:=by simpa using h
   rw[z,aA];show(cond (k==p.1) p.2 (kE (mb r u) k))=if k=u then[]else bif k==p.1 then p.2 else kE r k
   rw[B g.2];cases A:k==p.1 with
   |false=>rfl
   | true=>
    have:k=p.1:=bF A;have d:¬k=u:=λq=>h (q.symm.trans this)
    simp only[zg d,ax]
theorem Gf{e:Sh}{es:List (K3×List (Sem e))}(h:(es.map (·.1)).Nodup) (u:K3):((mb es u).map (·.1)).Nodup:=h.sublist ((Df u es).map _)
theorem vi:((dr at_ rows).map (·.1)).Nodup:=by rw[Af];exact An _
end
set_option maxRecDepth 100000
def Dv:Code:=match Tryz.f13.body with
 |some (.seq _ (.seq _ (.seq _ (.seq _ (.seq _ (.seq (.seq _ (.block _ (.loop c))) _))))))=>c
 |_=>.skip
def No:Code->List Oper
 |.region _ h _=>h.toList
 |_=>[]
def zlR:List (List Oper):=match Dv with
 |.seq a (.seq _ (.seq (.block _ (.seq b c)) d))=>[No a,No b,(No c).take 7,(No c).drop 7,No d]
 |_=>[]
def U7(i:Nat):List Oper:=zlR.getD i []
theorem Ue:Dv=.seq (.region 7 (U7 0).toArray Q4) (.seq (.cond (.tmp 37) .skip (.exit 0)) (.seq (.block 1 (.seq (.region 8 (U7 1).toArray Q4) (.region 9 (U7 2++U7 3).toArray Q4))) (.region 10 (U7 4).toArray Q4))):=kw
theorem ztl:(U7 3).map (λo=>(o.dst,o.op,o.guard.isNone,o.type))=[(Q1 48,.mapEntry 91 (.tmp 40) (.tmp 44),Q3,0),(Q1 45,.extract (.tmp 48) 0,Q3,36),(Q1 49,.call {callee:=.builtin .append,args:=#[.tmp 45,.tmp 47],argTypes:=#[36,36]},Q3,36),(Q1 50,.extract (.tmp 48) 1,Q3,3),(Q2,.entryStore 91 (.tmp 40) (.tmp 50) (.tmp 49),Q3,0)]:=kw
theorem zkd:∃k,aa Tryz.f13 7=.code Dv::.inLoop Dv::k:=⟨(aa Tryz.f13 7).drop 2,kw⟩
abbrev tmB(l2:zw)(b:zq)(d:List (Sem zf.sl))(n i:Int)(h:List (Nat×AV)):List AV:=tm 86 ([(2,sl zf l2),(3,ptr 0 0),(6,ptr 1 0),(9,ptr 2 0),(10,ai b),(11,AV.mp 3),(34,sl zf.sl d),(35,ai n),(36,ai i)]++h)
abbrev hpB(z0:zn [CP.d am])(z1:zn uO)(z2:zn uM):List AO:=[Qa (bI [] [CP.d am] z0),Qa (bI [] uO z1),Qa (bI [] uM z2)]
abbrev U5:List Nat:=[2,3,6,9,10,11,34,35,36]
section
variable {C:ew} {a:Act} {w:World} {U:Nat->Prop} {ρ:Nat->Option Value} {r c0:Nat} {gs:List (K3×Value)} {l2:List (Sem zf)} {at':Int} {rows:List (List (Sem zf))} {z0:zn [CP.d am]} {z1:zn uO} {z2:zn uM} {n i:Int}
theorem zrQ{α:Type}:∀l:List α,Io l=5->∃a b c d e,l=[a,b,c,d,e]
 |[a,b,c,d,e],_=>⟨a,b,c,d,e,rfl⟩
theorem zl3{es:List (K3×List zw)}{k:K3}{row:zw}{tm':List AV}{Q:Exit->Act->World->Prop}(h:jL C zf.sl tm' (hpB z0 z1 z2) [] a w U ρ r c0 gs es)(hW:Wd fw.gl C w U)
  (B:tm'.getD 40 .any=.mp 3/\tm'.getD 44 .any=kav k/\tm'.getD 47 .any=.sl zf.sl [row]/\Io tm'=86) (T:∀q∈es,Io q.2<=1000)
  (hQ:∀a' w' U' F j l,jL C zf.sl (sX U5 tm') (hpB z0 z1 z2) [] a' w' U' ρ r c0 F ((tH (e:=zf.sl) es k).set j (k,l++[row]))->(tH (e:=zf.sl) es k)[j]?=Q1 (k,l)->Wd fw.gl C w' U'->Q .normal a' w') (hk:∀x∈[48,45,49,50],¬x∈U5):
  wpOps fw.P (U7 2++U7 3).toArray Q (List.range' (U7 2).length (U7 3).length) a w:=by
 obtain⟨t1,t2,t3,t4⟩:=B;have H:=h.cn.tm.slot 40;have Z:=h.cn.tm.slot 44;have h0:=h.cn.tm.slot 47;rw[t1]at H;rw[t2]at Z;rw[t3]at h0;obtain⟨x0,x2⟩:=xJ Z;have S:a.eval (.tmp 40)=.map (Q1 r):=by
  generalize a.eval (.tmp 40)=v at H;cases H with
  | mp _ _ hv _=>
   have:=h.at_;rw[show(hpB z0 z1 z2).length=3 from rfl,hv]at this;cases this;rfl
 have hz:(Tryz.prog.info? 36).map (λi=>i.zero)=Q1 (Q1 (.slice Q2 0 0)):=by kernel_rfl
 rw[dq]at hz;obtain⟨x6,hi,hz⟩:=hz;obtain⟨v,s,w1,J,w2,w3,U3,F,j,l,q1,q2,q3,q4,G3,L⟩:=h.gr.add (E:=fw) (mt:=91) (kt:=30) (et:=36) (elem:=39) fS.toEnvOk x2 kw kw hi hz kw kw (x:=row) h0 hW.ub T 36;obtain⟨h3,x1⟩:=h.left hW L G3;have hs:=ztl;have x4:a.tmps.size=86:=by have:=h.cn.tm.len;simpa[t4]using this.symm
 generalize U7 3=h4 at hs|-;generalize U7 2=D;have x3:Io h4=5:=by simpa using congrArg Io hs
 obtain⟨o1,o2,o3,o4,o5,rfl⟩:=zrQ h4 x3;simp only[dC,pS,yL,b5,Option.isNone_iff_eq_none,and_true]at hs;obtain⟨⟨d1,p1,g1,_⟩,⟨d2,p2,g2,_⟩,⟨d3,p3,g3,y3⟩,⟨d4,p4,g4,_⟩,⟨d5,p5,g5,_⟩⟩:=hs;have b:∀j,(D++[o1,o2,o3,o4,o5]).toArray[Io D+j]?=[o1,o2,o3,o4,o5][j]?:=λj=>by
  rw[QD,jd ow,Nat.add_sub_cancel_left]
 generalize(D++[o1,o2,o3,o4,o5]).toArray=x7 at b|-;generalize(Io D)=N at b|-;have I:(a.put (Q1 48) (.tuple #[v,s])).eval (.tmp 48)=.tuple #[v,s]:=by rw[jO ow,ze rfl]
 have h8:(a.put (Q1 48) (.tuple #[v,s])).tmps.size=86:=by rw[EP,x4]
 generalize g:a.put (Q1 48) (.tuple #[v,s])=M at I h8;have W:∀t,t≠48->M.eval (.tmp t)=a.eval (.tmp t):=λt B=>by rw[<-g,jO ow,zg B]
 have h9:(M.put (Q1 45) v).tmps.size=86:=by rw[EP,h8]
 have h5:(M.put (Q1 45) v).eval (.tmp 45)=v:=by rw[jO ow,ze rfl]
 generalize u:M.put (Q1 45) v=O at h5 h9;have G:∀t,t≠45->O.eval (.tmp t)=M.eval (.tmp t):=λt B=>by rw[<-u,jO ow,zg B]
 have x5:(O.put (Q1 49) J).tmps.size=86:=by rw[EP,h9]
 have h6:(O.put (Q1 49) J).eval (.tmp 49)=J:=by rw[jO ow,ze rfl]
 generalize z:O.put (Q1 49) J=a3 at h6 x5;have X:∀t,t≠49->a3.eval (.tmp t)=O.eval (.tmp t):=λt B=>by rw[<-z,jO ow,zg B]
 have h7:(a3.put (Q1 50) s).eval (.tmp 50)=s:=by rw[jO ow,ze rfl]
 generalize A:a3.put (Q1 50) s=a4 at h7;have Y:∀t,t≠50->a4.eval (.tmp t)=a3.eval (.tmp t):=λt B=>by rw[<-A,jO ow,zg B]
 refine su (v:=.tuple #[v,s]) (w':=w1) (b 0) g1 (Fz p1 S x0 q1) ?_;rw[d1,g];refine su (v:=v) (w':=w1) (b 1) g2 (uY p2 I rfl) ?_;rw[d2,u];refine su (v:=J) (w':=w2) (b 2) g3 (L0 p3 h5 (by rw[G 47 (by decide),W 47 (by decide)]) (by rw[y3];exact q2)) ?_;rw[d3,z];refine su (v:=s) (w':=w2) (b 3) g4 (uY p4 (by rw[X 48 (by decide),G 48 (by decide)];exact I) rfl) ?_;rw[d4,A];refine Qo (w':=w3) (b 4) g5 (AK p5 (by rw[Y 40 (by decide),X 40 (by decide),G 40 (by decide),W 40 (by decide)];exact S) h7 (by rw[Y 49 (by decide)];exact h6) q3) ?_;rw[d5];refine hQ _ w3 U3 F j l (h3.slots ?_ (by rw[<-A,<-z,<-u,<-g];exact h3.cn.df)) q4 x1;have f1:=mu (d:=Q1 48) h3.cn.tm (.any (.tuple #[v,s]));have f2:=mu (d:=Q1 45) f1 (.any v);have f3:=mu (d:=Q1 49) f2 (.any J);have f4:=I2 (ks:=U5) (mu (d:=Q1 50) f3 (.any s));have e:sX U5 (mc (mc (mc (mc tm' (Q1 48) .any) (Q1 45) .any) (Q1 49) .any) (Q1 50) .any)=sX U5 tm':=by
  unfold sX mc;apply pi;intro j;simp only[List.getElem?_mapIdx];cases hb:U5.contains j with
  | true=>
   have hj:j∈U5:=by simpa using hb
   have ne:∀x∈[48,45,49,50],x≠j:=λx hx e=>hk x hx (e▸hj)
   rw[BV (ne 50 sw),BV (ne 49 sw),BV (ne 45 sw),BV (ne 48 sw)]
  | false=>
   by_cases hj:j<Io tm'<;>simp[hj]
 rw[e,g,u,z,A]at f4;exact f4
theorem zdJ(hn:n=(Io rows:Int)){i:Nat}(g:i<Io rows)(hl:Io rows<=1000)(B:∀row∈rows,zK at' (Io row)=Q3)(h:jL C zf.sl (tmB l2 at' rows n (i:Int) []) (hpB z0 z1 z2) [] a w U ρ r c0 gs (dr at' (rows.take i)))(Y:Wd fw.gl C w U):
  Dv.wp fw.P (λe N w'=>e=.normal/\∃U' ρ' r c0 A,jL C zf.sl (tmB l2 at' rows n ((i+1:Nat):Int) []) (hpB z0 z1 z2) [] N w' U' ρ' r c0 A (dr at' (rows.take (i+1)))/\Wd fw.gl C w' U') a w:=by
 obtain⟨row,d⟩:∃row,getD rows (i:Int).toNat (zi zf.sl)=row:=⟨_,rfl⟩;have b:rows[i]=row:=by rw[<-d,z7 _ _ g]
 rw[Ue];refine wp_seq (wp_mono (jL.region fS (U5++[37]) (tm':=tmB l2 at' rows n (i:Int) [(37,AV.bool (Q0 ((i:Int)<n)))]) (cs:=[]) h Y kw kw rfl) ?_);rintro e u w1 ⟨rfl,G,ρ1,h1,W⟩;have z:u.eval (.tmp 37)=.bool Q3:=by
  have D:Rv w1 G ρ1 (AV.bool (Q0 ((i:Int)<n))) (u.eval (.tmp 37)):=h1.cn.tm.slot 37;rw[hn,zL g]at D;generalize u.eval (.tmp 37)=v at D;cases D;rfl
 refine wp_seq (wp_cond_true z (wp_skip ?_));refine wp_seq (wp_block (wp_seq (wp_mono (jL.region fS (U5++[13]) (tm':=tmB l2 at' rows n (i:Int) [(13,sl zf (getD rows (i:Int).toNat (zi zf.sl)))]) (cs:=[zK (i:Int) (Io rows)]) h1 W kw kw (by rw[zz g];rfl)) ?_)));rintro e a2 w2 ⟨rfl,U2,ρ2,h2,I⟩;rw[d]at h2;refine jL.ops fS (U5++[40,44,47]) (tm':=tmB l2 at' rows n (i:Int) [(40,.mp 3),(44,kav (zX at' row)),(47,.sl zf.sl [row])]) (cs:=[zK at' (Io row)]) h2 I kw kw (by rw[B row (b▸bp g)];rfl) λa3 w3 U3 ρ3 X J=>?_
 refine zl3 (k:=zX at' row) (row:=row) X J ⟨rfl,rfl,rfl,rfl⟩ (λq hq=>?_) (λa4 w4 U4 T j l s Z L=>?_) (by decide)
 .obtain⟨x,_,rfl⟩:=aE.1 hq;exact aX (List.length_filter_le _ _) sg
 .rw[Mb Z]at s;have O:rows.take i++[row]=rows.take (i+1):=by rw[bx g,b]
  rw[O]at s;have S:sX U5 (tmB l2 at' rows n (i:Int) [(40,.mp 3),(44,kav (zX at' row)),(47,.sl zf.sl [row])])=tmB l2 at' rows n (i:Int) []:=by kernel_rfl
  rw[S]at s;refine wp_mono (jL.region fS U5 (tm':=tmB l2 at' rows n (Γ Δ ((i:Int)+1)) []) (cs:=[]) s L kw kw rfl) ?_;rintro e a5 w5 ⟨rfl,H,ρ5,F,M⟩;rw[zt i um]at F;exact⟨rfl,H,ρ5,_,_,_,F,M⟩
end
section
variable {C:ew} {l2:List (Sem zf)} {at':Int} {rows:List (List (Sem zf))} {z0:zn [CP.d am]} {z1:zn uO} {z2:zn uM} {Q:AV->List AO->Prop}
theorem zdF(A:Io rows<=1000)(s:∀row∈rows,zK at' (Io row)=Q3)(h:Reach fw C 13 (aa Tryz.f13 7) (Tv (.h7 l2 at' rows (Io rows) (Io rows) z0 z1 z2 (dr at' rows))).2 Q):
  Reach fw C 13 (aa Tryz.f13 7) (Tv (.h7 l2 at' rows (Io rows) 0 z0 z1 z2 [])).2 Q:=by
 obtain⟨k,z⟩:=zkd;rw[z]at h|-;refine uv.reach (uv.rounds (Io rows) (λi a w=>∃U ρ r c0 gs,jL C zf.sl (tmB l2 at' rows (Io rows) (i:Int) []) (hpB z0 z1 z2) [] a w U ρ r c0 gs (dr at' (rows.take i))/\Wd fw.gl C w U) (λi u a w ⟨U,ρ,r,c0,gs,b,d⟩=>zdJ rfl u A s b d) (uv.of h λa w ⟨U,ρ,r,c0,gs,b,d⟩=>?_)) λa w U ρ j d=>?_
 .rw[gF]at b;obtain⟨U',j,g⟩:=T0 b d;exact⟨U',ρ,j,g⟩
 .obtain⟨r,c0,b⟩:=zcP (e:=zf.sl) (h1:=hpB z0 z1 z2) (h2:=[]) j;exact⟨U,ρ,r,c0,[],b,d⟩
end
def FC(h:ap)(b:Sem zk.sl)(d:Sem zf.sl):Tr (H3⊕aw):=(T2 h b d).bind λs=>match s with
 |.inl (.h7 l2 at' l n i z0 z1 z2 [])=>chk (i==0&&(n==(Io l:Int)&&(Q0 (Io l<=1000)&&l.all λrow:zw=>zK at' (Io row)))) (.ok (.inl (.h7 l2 at' l n n z0 z1 z2 (dr at' l))))
 |.inl (.h7 ..)=>.err
 |s=>.ok s
def kf(h:ap)(b:Sem zk.sl)(d:Sem zf.sl):=ao [zk,zj,zj] Kf 100000000 (FC h b d)
def Ob(h:ap)(b:Sem zk.sl)(d:Sem zf.sl):=(kf h b d).isSome
def VM(h:ap)(b:Sem zk.sl)(d:Sem zf.sl):=o3 (kf h b d)
def zmJ:=FT [am,zk.sl,zf.sl] [zk,zj,zj] λx=>kf x.1 x.2.1 x.2.2.1
theorem zhs:FK 13 zmJ:=by
 refine aO (E:=fw) (f:=Tryz.f13) (bL kw) λx I C G=>?_
 obtain⟨g,j,z,u⟩:=x;have H:zM fw.P 13 Tryz.f13 3:=bL kw;have D:∀x,run fw 0 zgx Tryz.f13.results.toList 400 (bq Tryz.f13) (aY Tryz.f13.ntmps (iV [Q1 am,Q1 zk.sl,Q1 zf.sl] x) [])=(T2 x.1 x.2.1 x.2.2.1).map (lf Tryz.f13 Tv):=by intro x;kernel_rfl
 have B:∀s,run fw 0 zgx Tryz.f13.results.toList 400 (aa Tryz.f13 (Tv s).1) (Tv s).2=(Kf s).map (lf Tryz.f13 Tv):=by intro s;cases s<;>kernel_rfl
 have I:(kf g j z).isSome=Q3:=I;obtain⟨y,b⟩:=Option.isSome_iff_exists.1 I;show Reach fw C 13 _ _ (λr h=>aS h [zk,zj,zj] r=Q1 ((kf g j z).getD (cA [zk,zj,zj])));rw[b];show Reach fw C 13 _ _ (λr h=>aS h [zk,zj,zj] r=Q1 y);have A:(FC g j z).val=(T2 g j z).val->Reach fw C 13 (bq Tryz.f13) (aY Tryz.f13.ntmps (iV [Q1 am,Q1 zk.sl,Q1 zf.sl] (g,j,z,u)) []) (λr h=>aS h [zk,zj,zj] r=Q1 y):=λe=>by
  refine JT (n:=100000000) fS H (λid _=>G id) (D (g,j,z,u)) B ?_;unfold kf ao bR at b;unfold ao bR;rw[e]at b;exact b
 cases d:(T2 g j z).val with
 | none=>
  unfold kf ao bR FC at b;rw[Tr.val_bind,d]at b;cases b
 | some s=>
  match s,d with
  |.inr r,d=>exact A (by unfold FC;rw[Tr.val_bind,d];rfl)
  |.inl (.h15 ..),d=>exact A (by unfold FC;rw[Tr.val_bind,d];rfl)
  | .inl (.h7 l2 at' l n i z0 z1 z2 (p::es)),d=>
   unfold kf ao bR FC at b;rw[Tr.val_bind,d]at b;cases b
  | .inl (.h7 l2 at' l n i z0 z1 z2 []),d=>
   have e:(FC g j z).val=(chk (i==0&&(n==(Io l:Int)&&(Q0 (Io l<=1000)&&l.all λrow:zw=>zK at' (Io row)))) (.ok (.inl (.h7 l2 at' l n n z0 z1 z2 (dr at' l)))):Tr (H3⊕aw)).val:=by
    unfold FC;rw[Tr.val_bind,d];rfl
   unfold kf ao bR at b;rw[e]at b;cases F:(i==0&&(n==(Io l:Int)&&(Q0 (Io l<=1000)&&l.all λrow:zw=>zK at' (Io row))))with
   |false=>rw[F]at b;cases b
   | true=>
    rw[F]at b;simp only[aF,bd,aR,dJ]at F;obtain⟨rfl,rfl,J,L⟩:=F;refine Ev fS H (λid _=>G id) (D (g,j,z,u)) d (zdF J L ?_);exact JT (n:=99999999) (i:=Kf (.h7 l2 at' l (Io l) (Io l) z0 z1 z2 (dr at' l))) fS H (λid _=>G id) (B (.h7 l2 at' l (Io l) (Io l) z0 z1 z2 (dr at' l))) B b
theorem QS{e:Sh}(k:K3):∀(l:List K3)(es:List (K3×List (Sem e))),(es.map (·.1)).Nodup->kE (l.foldl mb es) k=if k∈l then[]else kE es k
 |[],es,_=>by rw[zg sw];rfl
 | a::r,es,hn=>by
  rw[List.foldl_cons,QS k r _ (Gf hn a),Ro hn];by_cases h1:k∈r
  .rw[ze h1,ze (mX _ h1)]
  .rw[zg h1];by_cases h2:k=a
   .rw[ze h2,ze (by rw[h2];exact pP)]
   .rw[zg h2,zg (by rw[cf];exact λq=>q.elim h2 h1)]
section
variable {db:List (Sem zk)} {p:Sem am} {us:List (Sem zf)}
theorem zbU(h:aP db p)(m:tn db p):QL (p,zS db p)=Q1 (cM p (zS db p),()):=by
 have u:zK 0 (zS db p).length=Q3:=zz (i:=0) (mz h.go.two).1;unfold cM;rcases h.mig with e|e|e
 .have d:(p.1==dj)=Q3:=by rw[e];rfl
  rw[ze e];refine zO (r:=(ai (getD (zS db p) 0 (zi zk)).1.2.2.1,[])) ?_ rfl;simp only[zcU,Tr.val,d,u,zh];rfl
 .have d:(p.1==dj)=Q4:=by rw[e];rfl
  have g:(p.1==gj)=Q3:=by rw[e];rfl
  rw[zg (by rw[e];decide),ze e];refine zO (r:=(ai p.t.2,[])) ?_ rfl;simp only[zcU,Tr.val,d,g,zE,zh,zp]
 .have d:(p.1==dj)=Q4:=by rw[e];rfl
  have g:(p.1==gj)=Q4:=by rw[e];rfl
  obtain⟨_,a,b,s,_⟩:=m.group e;rw[zg (by rw[e];decide),zg (by rw[e];decide)];have j:zK 0 (Io p.t.1)=Q3:=by rw[s];rfl
  refine zO (r:=(ai (getD p.t.1 0 (zi zj)),[])) ?_ rfl;simp only[zcU,Tr.val,d,g,j,zE,zh,zp];rfl
def qm(db:zP)(p:ap)(l:zw):List (K3×List zw):=l.foldl (mb (α:=List (Sem zf.sl))) (mb (α:=List (Sem zf.sl)) (dr (cM p (zS db p)) (dR db p).2) (0,0,[]))
theorem Yh(h:aP db p)(l:zw)(u:zo):kE (e:=zf.sl) (qm db p l) u=if u∈l then[]else uu db p u:=by
 unfold qm;rw[QS (e:=zf.sl) u l _ (Gf (e:=zf.sl) vi _),Ro (e:=zf.sl) vi];split
 .rfl
 .rw[O4];by_cases b:u=(0,0,[])
  .rw[ze b,ME (by rw[b])]
  .rw[zg b];unfold uu;refine List.filter_congr λrow d=>?_
   rw[gU,jE,bd];constructor
   .intro e;refine⟨e.symm,λh1=>b ?_⟩;have:=(dl (h.rel.fits row d)).2.1 _ (h.at_mem d);have g:getD row (Int.toNat (cM p (zS db p))) (zi zf)=u:=e.symm;rw[g]at this;exact MC this h1
   .exact λq=>q.1.symm
theorem PY(h:aP db p)(m:tn db p):(FC p (zS db p) us).val=Q1 (.inl (.h7 us (cM p (zS db p)) (dR db p).2 ((dR db p).2.length:Int) ((dR db p).2.length:Int) (p,()) ([],0,[],0,0,[],[],()) ((p,zS db p),()) (dr (cM p (zS db p)) (dR db p).2))):=by
 obtain⟨g,j⟩:=Bd h.go;have B:zK 0 (zS db p).length=Q3:=zz (i:=0) (mz h.go.two).1;have d:=zbU h m;have s:VI (p,zS db p)=Q3:=by unfold VI;rw[d];rfl
 have u:zjj (p,zS db p)=cM p (zS db p):=by unfold zjj;rw[d];rfl
 have A:(T2 p (zS db p) us).val=Q1 (.inl (.h7 us (cM p (zS db p)) (dR db p).2 ((dR db p).2.length:Int) 0 (p,()) ([],0,[],0,0,[],[],()) ((p,zS db p),()) [])):=by
  simp only[T2,zm,aQ,Tr.val,g,j,s,u,B,iz,zE,zh,zp];rfl
 have b:((0:Int)==0&&(((dR db p).2.length:Int)==((dR db p).2.length:Int)&&(Q0 ((dR db p).2.length<=1000)&&(dR db p).2.all λrow:zw=>zK (cM p (zS db p)) (Io row))))=Q3:=by
  have:=h.rel.few;simp only[BEq.rfl,eB,aF,aR,dJ];exact⟨ow,λrow z=>(h.inn row z).1⟩
 unfold FC;rw[Tr.val_bind,A];show(chk _ _).val=_;rw[Tr.val,ze b];rfl
theorem ZV(h:aP db p)(m:tn db p)(hl:Io us<=1000){g:List zw}(F:Es (p.2.2.2.1,(dK us).flatMap (iE db p))=Q1 ((p.2.2.2.1,g),())):
  kf p (zS db p) us=Q1 ((p.2.2.2.1,g),((gG db p (dK us):Nat):Int),0,()):=by
 have S:=PY (us:=us) h m;have M:zN Kf 1 (.h7 us (cM p (zS db p)) (dR db p).2 ((dR db p).2.length:Int) ((dR db p).2.length:Int) (p,()) ([],0,[],0,0,[],[],()) ((p,zS db p),()) (dr (cM p (zS db p)) (dR db p).2)) (.h15 ((gG db p (dK (us.take 0)):Nat):Int) us (Io us:Int) ((0:Nat):Int) ([],0,[],0,0,[],[],()) ((p,zS db p),()) (p.2.2.2.1,(dK (us.take 0)).flatMap (iE db p),()) (qm db p (us.take 0))):=zN.of (by
  simp only[Kf,Tr.val,zG,zE,zp];rfl)
 have A:=zN.all (t:=Kf) 1 (λi=>.h15 ((gG db p (dK (us.take i)):Nat):Int) us (Io us:Int) (i:Int) ([],0,[],0,0,[],[],()) ((p,zS db p),()) (p.2.2.2.1,(dK (us.take i)).flatMap (iE db p),()) (qm db p (us.take i))) (Io us) λi D=>zN.of (by
  obtain⟨Z,g2⟩:=xD h (dK (us.take i)) (ua _);have s:mb (α:=List (Sem zf.sl)) (qm db p (us.take i)) us[i]=qm db p (us.take (i+1)):=by
   unfold qm;rw[bx D,List.foldl_append];rfl
  have B:=Yh h (us.take i) us[i];have j:B7 (p,zS db p) us[i] (kE (e:=zf.sl) (qm db p (us.take i)) us[i])=Q1 (ite (us[i]∈us.take i) [] (iE db p us[i]),((ite (us[i]∈us.take i) 0 (Fr db p us[i]):Nat):Int),()):=by
   rw[B];split
   .exact zcE h m _
   .exact zjL h m _
  have J:VK (p,zS db p) us[i] (kE (e:=zf.sl) (qm db p (us.take i)) us[i])=Q3:=by unfold VK;rw[j];rfl
  have L:zjk (p,zS db p) us[i] (kE (e:=zf.sl) (qm db p (us.take i)) us[i])=(ite (us[i]∈us.take i) [] (iE db p us[i]),((ite (us[i]∈us.take i) 0 (Fr db p us[i]):Nat):Int)):=by unfold zjk;rw[j];rfl
  have e:=vB (us.take i) us[i];rw[YZ]at e;have d:((us.take i).any λu=>FJ u us[i])=Q3↔us[i]∈us.take i:=by
   rw[List.any_eq_true];exact⟨λ⟨u,h1,h2⟩=>kM.1 h2▸h1,λq=>⟨_,q,kM.2 rfl⟩⟩
  have G:(iE db p us[i]).length<=200:=aX Xb (aX (List.length_filter_le _ _) h.rel.few);have O:Fr db p us[i]<=200:=by
   have:=Pm (db:=db) (p:=p) (v:=us[i]);have:(uu db p us[i]).length<=(dR db p).2.length:=List.length_filter_le _ _;have:=h.rel.few;unfold Fr;omega
  have I:∀k:List zw,Io k<=200->Q0 (((dK (us.take i)).flatMap (iE db p)).length+Io k<=1073741824)=Q3:=λk hk=>zy ow
  simp only[Kf,Tr.val,zm,aQ,zL D,zz D,z7 _ _ D,J,L,zh];rw[zt i um,s,bx D,e];by_cases b:us[i]∈us.take i
  .rw[ze (d.2 b),ze b,ze b,sL,ze (I [] (aL _))];have H:Γ Δ (((gG db p (dK (us.take i)):Nat):Int)+((0:Nat):Int))=((gG db p (dK (us.take i)):Nat):Int):=by rw[ee];omega
   rw[H]
  .rw[zg (λq=>b (d.1 q)),zg b,zg b,List.flatMap_append,List.flatMap_singleton,ze (I _ G)];have N:gG db p (dK (us.take i)++[us[i]])=gG db p (dK (us.take i))+Fr db p us[i]:=by
    unfold gG;rw[eI,List.sum_append];simp
   have H:Γ Δ (((gG db p (dK (us.take i)):Nat):Int)+((Fr db p us[i]:Nat):Int))=((gG db p (dK (us.take i))+Fr db p us[i]:Nat):Int):=by rw[ee];omega
   rw[H,N])
 simp only[gF]at A;generalize(dK us).flatMap (iE db p)=rows at A F;generalize gG db p (dK us)=n at A|-;generalize qm db p us=es at A;have X:PQ (p.2.2.2.1,rows)=Q3:=by unfold PQ;rw[F];rfl
 have Y:ZD (p.2.2.2.1,rows)=(p.2.2.2.1,g):=by unfold ZD;rw[F];rfl
 have z:∃r,z6 Kf 1 (.h15 (n:Int) us (Io us:Int) (Io us:Int) ([],0,[],0,0,[],[],()) ((p,zS db p),()) (p.2.2.2.1,rows,()) es) r/\aS r.2 [zk,zj,zj] r.1=Q1 ((p.2.2.2.1,g),(n:Int),0,()):=by
  refine⟨_,z6.of (by
   simp only[Kf,Tr.val,zm,aQ,zG,X,Y,zE,zh,zp];rfl),?_⟩
  show Q1 (((p.2.2.2.1.1,p.2.2.2.1.2.1,p.2.2.2.1.2.2.1,p.2.2.2.1.2.2.2.1,p.2.2.2.1.t.1,zr p.2.2.2.1.t.2),g),(n:Int),0,())=_;rw[zm]
 obtain⟨r,T,W⟩:=z;exact zB S ((M.trans A).ends T) ow W
end
def WJ:=WI.add 13 zmJ
theorem CK:zu WJ:=GP.add zhs
def zki(b:ap)(j:Sem zk.sl):Tr (Empty⊕aw):=
 let d:=(b.1,b.2.1,b.2.2.1,(b.2.2.2.1.1,b.2.2.2.1.2.1,b.2.2.2.1.2.2.1,b.2.2.2.1.2.2.2.1,b.2.2.2.1.t.1,zr b.2.2.2.1.t.2),b.t)
 let g:=HU d j
 let h:=VM d j g.1
 chk (yv d j)
 (br (g.2!=0)
  (re (tup [agg [str [],Qb,ai 0,Qb,Qb,str [],ai 0,ai 0,str [],str [],Qb,Qb],ai 0,ai g.2]) [])
  (chk (Ob d j g.1) (re (tup [agg [str h.1.1.1,sl zl h.1.1.2.1,ai h.1.1.2.2.1,sl zj h.1.1.2.2.2.1,sl zA h.1.1.t.1,str (za.op h.1.1.t.2),ai (za.v h.1.1.t.2).1,ai (za.v h.1.1.t.2).2.1,str (za.v h.1.1.t.2).2.2,
  str (za.s h.1.1.t.2),sl Q5 (za.l h.1.1.t.2),sl zf.sl h.1.2],ai h.2.1,ai h.2.2]) [])))
def K5(h:ap)(b:Sem zk.sl):=ao [zk,zj,zj] t0 100000000 (zki h b)
def VH(h:ap)(b:Sem zk.sl):=(K5 h b).isSome
def zjh(h:ap)(b:Sem zk.sl):=o3 (K5 h b)
def zms:=FT [am,zk.sl] [zk,zj,zj] λx=>K5 x.1 x.2.1
theorem zhb:FK 10 zms:=CK.T1 (f:=Tryz.f10) (keep:=k0) (e:=e0)
def zfY:=WJ.add 10 zms
theorem GQ:zu zfY:=CK.add zhb
end
end Cad
