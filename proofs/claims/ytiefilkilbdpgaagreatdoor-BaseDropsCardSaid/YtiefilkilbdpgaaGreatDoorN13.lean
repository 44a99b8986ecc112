/- Functions with memory of their own, by their trees. Copies: slices.Clone, copied. Bases: an answer that is an error alone. -/
import Derived.Test.YtiefilkilbdpgaaGreatDoorN12
import Derived.Test.YtiefilkilbdpgaaGreatDoorN02
import Derived.Laws.IdiomCopy
import Derived.Test.YtiefilkilbdpgaaGreatDoorN06
import Derived.Shelf.RegionOpenPlain
import Derived.WalkKit
import Derived.Lib.Walk
import Derived.Lib.SliceRun
import Derived.Lib.AppendZerosOnto
import Derived.Lib.Overlaps
import Derived.Laws.Externs
import Derived.Laws.NewBlocks
namespace Cad
open Go
open Int (toNat)
open List (getD)
open List (length)

theorem fv {P:Program} {gl:Nat→AV} {σ ι:Type} {E:bx} {k:FuncId} {f:Func} {kinds:List (Option Sh)} {G:cG kinds} {keep:Nat→aj} {gas n n0:Nat} {e:σ→Nat×St} {t:σ→Tr (σ ⊕ ao)} {args:ι→List AV} {heap:ι→List AO} {i:ι→Tr (σ ⊕ ao)}
  (hE:zl E) (hf:zA E.P k f kinds.length) (hn:∀ x,(heap x).length=n0)
  (hgo:∀ x,run E n0 keep f.results.toList gas (aC f) (ar f.ntmps (args x) (heap x))=(i x).map (lf f e))
  (hon:∀ s,run E n0 keep f.results.toList gas (zy f (e s).1) (e s).2=(t s).map (lf f e))
  (hG:∀ a h res,(G a h).val=some res→∃ x,gD kinds a=args x∧h=heap x∧bl t n (i x)=some res) (qp:E.P=P:=by rfl) (qg:E.gl=gl:=by rfl):mv P gl k (zU kinds G):=by
 subst qp qg
 refine bC hf fun x h0 res hx C hC=>?_
 obtain ⟨y,e1,e2,e3⟩:=hG x h0 res hx
 subst e2
 rw [e1]
 exact kQ (n0:=n0) (Q:=fun r h=>(r,h)=res) hE hf (fun id h=>hC id (by rw [hn]; exact h)) (n+1) _ _ _ (by rw [jB hon (hgo y)]; exact e3) rfl
open Go Go.Proofs
set_option maxHeartbeats 4000000

noncomputable abbrev sF (l:List (Sem zg)):Tr zt:=run fY 0 yf (Func.results Tryz.f198).toList 300 (aC Tryz.f198) (ar (Func.ntmps Tryz.f198) [.sl zg l] [])
theorem H7:zA fY.P 198 Tryz.f198 1:=aS (by kernel_rfl)
theorem zdl (l:List (Sem zg)):sF l=.ok (.fork l.isEmpty (aB (sF l)).1 (aB (sF l)).2.1 (aB (sF l)).2.2):=by kernel_rfl
theorem Yk (l:List (Sem zg)):run fY 0 yf (Func.results Tryz.f198).toList 300 (aB (sF l)).1 (aB (sF l)).2.2=.ok (.ret .nils []):=by kernel_rfl
theorem Yl (l:List (Sem zg)):run fY 0 yf (Func.results Tryz.f198).toList 300 (aB (sF l)).2.1 (aB (sF l)).2.2=.chk (decide (l.length≤1073741824)) (.ok (.ret (.vec 0) [.vec zg l])):=by kernel_rfl
def zcg:cG [some (.sl zg)]:=fun x h=>match h with
 | []=>.chk (decide (length x.1≤1073741824)) (.ok (.vec 0,[.vec zg x.1]))
 | _=>.err
def zaF:zF:=zU [some (.sl zg)] zcg
theorem VT:FK 198 zaF:=by
 refine bC H7 fun x h0 res hx C hC=>?_
 unfold zcg at hx
 split at hx
 ·simp only [Tr.val] at hx
  split at hx
  ·rename_i hl
   simp only [ap] at hx
   subst hx
   obtain ⟨l,u⟩:=x
   refine zk (n0:=0) bY H7 hC (zdl l) ?_
   refine ⟨fun he=>?_,?_⟩
   ·have hn:l=[]:=List.isEmpty_iff.1 he
    refine Reach.weaken (Q:=fun r h=>(r,h)=(.vec 0,[.vec zg []])) (Reach.promNil zg (fun id=>hC id (by simp)) (zk (n0:=0) bY H7 hC (Yk l) rfl)) ?_
    intro r h hq
    cases hq
    refine ⟨_,?_,fun _ _ _ _ h=>h⟩
    show (AV.vec 0,[AO.vec zg []])=(AV.vec 0,[AO.vec zg l])
    rw [hn]
   ·exact zk (n0:=0) bY H7 hC (Yl l) (de hl rfl)
  ·cases hx
 ·simp at hx

noncomputable abbrev sG (l:List (Sem zq)):Tr zt:=run fY 0 yf (Func.results Tryz.f199).toList 300 (aC Tryz.f199) (ar (Func.ntmps Tryz.f199) [.sl zq l] [])
theorem H8:zA fY.P 199 Tryz.f199 1:=aS (by kernel_rfl)
theorem zdm (l:List (Sem zq)):sG l=.ok (.fork l.isEmpty (aB (sG l)).1 (aB (sG l)).2.1 (aB (sG l)).2.2):=by kernel_rfl
theorem Ym (l:List (Sem zq)):run fY 0 yf (Func.results Tryz.f199).toList 300 (aB (sG l)).1 (aB (sG l)).2.2=.ok (.ret .nils []):=by kernel_rfl
theorem Yn (l:List (Sem zq)):run fY 0 yf (Func.results Tryz.f199).toList 300 (aB (sG l)).2.1 (aB (sG l)).2.2=.chk (decide (l.length≤1073741824)) (.ok (.ret (.vec 0) [.vec zq l])):=by kernel_rfl
def zch:cG [some (.sl zq)]:=fun x h=>match h with
 | []=>.chk (decide (length x.1≤1073741824)) (.ok (.vec 0,[.vec zq x.1]))
 | _=>.err
def zaG:zF:=zU [some (.sl zq)] zch
theorem VU:FK 199 zaG:=by
 refine bC H8 fun x h0 res hx C hC=>?_
 unfold zch at hx
 split at hx
 ·simp only [Tr.val] at hx
  split at hx
  ·rename_i hl
   simp only [ap] at hx
   subst hx
   obtain ⟨l,u⟩:=x
   refine zk (n0:=0) bY H8 hC (zdm l) ?_
   refine ⟨fun he=>?_,?_⟩
   ·have hn:l=[]:=List.isEmpty_iff.1 he
    refine Reach.weaken (Q:=fun r h=>(r,h)=(.vec 0,[.vec zq []])) (Reach.promNil zq (fun id=>hC id (by simp)) (zk (n0:=0) bY H8 hC (Ym l) rfl)) ?_
    intro r h hq
    cases hq
    refine ⟨_,?_,fun _ _ _ _ h=>h⟩
    show (AV.vec 0,[AO.vec zq []])=(AV.vec 0,[AO.vec zq l])
    rw [hn]
   ·exact zk (n0:=0) bY H8 hC (Yn l) (de hl rfl)
  ·cases hx
 ·simp at hx

noncomputable abbrev sH (l:List (Sem (.sl zf))):Tr zt:=run fY 0 yf (Func.results Tryz.f43).toList 300 (aC Tryz.f43) (ar (Func.ntmps Tryz.f43) [.sl (.sl zf) l] [])
theorem Ia:zA fY.P 43 Tryz.f43 1:=aS (by kernel_rfl)
theorem zdo (l:List (Sem (.sl zf))):sH l=.ok (.fork l.isEmpty (aB (sH l)).1 (aB (sH l)).2.1 (aB (sH l)).2.2):=by kernel_rfl
theorem Yo (l:List (Sem (.sl zf))):run fY 0 yf (Func.results Tryz.f43).toList 300 (aB (sH l)).1 (aB (sH l)).2.2=.ok (.ret .nils []):=by kernel_rfl
theorem Yp (l:List (Sem (.sl zf))):run fY 0 yf (Func.results Tryz.f43).toList 300 (aB (sH l)).2.1 (aB (sH l)).2.2=.chk (decide (l.length≤1073741824)) (.ok (.ret (.vec 0) [.vec (.sl zf) l])):=by kernel_rfl
def zci:cG [some (.sl (.sl zf))]:=fun x h=>match h with
 | []=>.chk (decide (length x.1≤1073741824)) (.ok (.vec 0,[.vec (.sl zf) x.1]))
 | _=>.err
def zaI:zF:=zU [some (.sl (.sl zf))] zci
theorem VW:FK 43 zaI:=by
 refine bC Ia fun x h0 res hx C hC=>?_
 unfold zci at hx
 split at hx
 ·simp only [Tr.val] at hx
  split at hx
  ·rename_i hl
   simp only [ap] at hx
   subst hx
   obtain ⟨l,u⟩:=x
   refine zk (n0:=0) bY Ia hC (zdo l) ?_
   refine ⟨fun he=>?_,?_⟩
   ·have hn:l=[]:=List.isEmpty_iff.1 he
    refine Reach.weaken (Q:=fun r h=>(r,h)=(.vec 0,[.vec (.sl zf) []])) (Reach.promNil (.sl zf) (fun id=>hC id (by simp)) (zk (n0:=0) bY Ia hC (Yo l) rfl)) ?_
    intro r h hq
    cases hq
    refine ⟨_,?_,fun _ _ _ _ h=>h⟩
    show (AV.vec 0,[AO.vec (Sh.sl zf) []])=(AV.vec 0,[AO.vec (Sh.sl zf) l])
    rw [hn]
   ·exact zk (n0:=0) bY Ia hC (Yp l) (de hl rfl)
  ·cases hx
 ·simp at hx

noncomputable abbrev sI (l:List (Sem zf)):Tr zt:=run fY 0 yf (Func.results Tryz.f44).toList 300 (aC Tryz.f44) (ar (Func.ntmps Tryz.f44) [.sl zf l] [])
theorem Ib:zA fY.P 44 Tryz.f44 1:=aS (by kernel_rfl)
theorem zdp (l:List (Sem zf)):sI l=.ok (.fork l.isEmpty (aB (sI l)).1 (aB (sI l)).2.1 (aB (sI l)).2.2):=by kernel_rfl
theorem Yq (l:List (Sem zf)):run fY 0 yf (Func.results Tryz.f44).toList 300 (aB (sI l)).1 (aB (sI l)).2.2=.ok (.ret .nils []):=by kernel_rfl
theorem Yr (l:List (Sem zf)):run fY 0 yf (Func.results Tryz.f44).toList 300 (aB (sI l)).2.1 (aB (sI l)).2.2=.chk (decide (l.length≤1073741824)) (.ok (.ret (.vec 0) [.vec zf l])):=by kernel_rfl
def zcj:cG [some (.sl zf)]:=fun x h=>match h with
 | []=>.chk (decide (length x.1≤1073741824)) (.ok (.vec 0,[.vec zf x.1]))
 | _=>.err
def zaJ:zF:=zU [some (.sl zf)] zcj
theorem VX:FK 44 zaJ:=by
 refine bC Ib fun x h0 res hx C hC=>?_
 unfold zcj at hx
 split at hx
 ·simp only [Tr.val] at hx
  split at hx
  ·rename_i hl
   simp only [ap] at hx
   subst hx
   obtain ⟨l,u⟩:=x
   refine zk (n0:=0) bY Ib hC (zdp l) ?_
   refine ⟨fun he=>?_,?_⟩
   ·have hn:l=[]:=List.isEmpty_iff.1 he
    refine Reach.weaken (Q:=fun r h=>(r,h)=(.vec 0,[.vec zf []])) (Reach.promNil zf (fun id=>hC id (by simp)) (zk (n0:=0) bY Ib hC (Yq l) rfl)) ?_
    intro r h hq
    cases hq
    refine ⟨_,?_,fun _ _ _ _ h=>h⟩
    show (AV.vec 0,[AO.vec zf []])=(AV.vec 0,[AO.vec zf l])
    rw [hn]
   ·exact zk (n0:=0) bY Ib hC (Yr l) (de hl rfl)
  ·cases hx
 ·simp at hx

noncomputable def Qu:=fY.addL [(198,zaF),(199,zaG),(43,zaI),(44,zaJ)]
theorem DH:zl Qu:=bY.addL <| fc VT <| fc VU <| fc VW <| fc VX jn
def yo (c:ze→Bool):zF:=zG [.expr] [.expr] (fun x=>c x.1) fun x=>(x.1,())
noncomputable def yQ (c:ze→Bool):bx:=Qu.add 200 (yo c)
theorem rt {c:ze→Bool} (hg:FK 200 (yo c)):zl (yQ c):=DH.add hg
abbrev TA:Nat→aj:=fun j=>if j=3 then { slots:=[1,2,10,11] } else { }
abbrev Co (i10:Int) (i11:Int) (ja0:zp) (ja1:Int) (ja2:Int) (ja3:zp) (ja4:zp) (lh_2:List (Sem Sh.expr)):St:={
 tmps:=
  (tm 26 [(1,AV.ptr 0 0),(2,AV.ptr 1 0),(10,AV.int .i64 i10),(11,AV.int .i64 i11)]),
 heap:=
  [AO.box [AV.str ja0,AV.int .i64 ja1,AV.int .i64 ja2,AV.str ja3,AV.str ja4,AV.vec 2],
   AO.box [AV.str [],AV.int .i64 0,AV.int .i64 0,AV.str [],AV.str [],AV.nils],AO.vec Sh.expr lh_2] }
theorem H9 (c:ze→Bool):zA (yQ c).P 200 Tryz.f200 1:=aS (by kernel_rfl)
theorem zdn (c:ze→Bool) (op:zp) (v:V) (s:zp) (l:List ze):rn (yQ c) 0 TA Tryz.f200 [zz Sh.expr (ze.mk op v s l)] []=
 Tr.chk (decide (l.length≤1073741824)) (Tr.ok (zt.head 3 (zy Tryz.f200 3) (Co (↑l.length:Int) 0 op v.1 v.2.1 v.2.2 s l))):=by kernel_rfl
theorem Ik (c:ze→Bool) (i10:Int) (i11:Int) (ja0:zp) (ja1:Int) (ja2:Int) (ja3:zp) (ja4:zp) (lh_2:List (Sem Sh.expr)):rh (yQ c) 0 TA Tryz.f200 3 (Co i10 i11 ja0 ja1 ja2 ja3 ja4 lh_2)=
 Tr.br (decide (i11 < i10))
 (Tr.chk (zI i11 lh_2.length)
  (Tr.chk (decide (i11.toNat < lh_2.length))
   (Tr.chk (c (zE (lh_2.getD i11.toNat (zj Sh.expr))))
    (Tr.chk (zI i11 lh_2.length)
     (Tr.chk (decide (i11.toNat < lh_2.length))
      (Tr.ok
       (zt.head 3 (zy Tryz.f200 3)
        (Co i10 (IntKind.i64.wrap (i11+1)) ja0 ja1 ja2 ja3 ja4
         (lh_2.set i11.toNat
          (zE (lh_2.getD i11.toNat (zj Sh.expr))))))))))))
 (Tr.ok
  (zt.ret (AV.agg [AV.str ja0,AV.int .i64 ja1,AV.int .i64 ja2,AV.str ja3,AV.str ja4,AV.vec 0]) [AO.vec Sh.expr lh_2])):=by kernel_rfl

theorem zcr {c:ze→Bool} (hg:FK 200 (yo c)) {C:cI} (hC:∀ id,C.ρ0 id=none) (op:zp) (v:V) (s:zp) (l:List ze) (hl:l.length≤1073741824) (hcl:l.all c=true):
  ∀ (k i:Nat),l.length - i=k→i≤l.length→Reach (yQ c) C 200 (zy Tryz.f200 3) (Co l.length i op v.1 v.2.1 v.2.2 s l) (fun r h=>ah h [.expr] r=some (ze.mk op v s l,())):=by
 intro k
 induction k with
 | zero=>
  intro i hk hi
  obtain rfl:i=l.length:=by omega
  refine zk (n0:=0) (rt hg) (H9 c) (fun id _=>hC id) (Ik c _ _ _ _ _ _ _ _) ?_
  simp only [zY,Tr.val_brF]
  rfl
 | succ k IH=>
  intro i hk hi
  have hlt:i < l.length:=by omega
  refine zk (n0:=0) (rt hg) (H9 c) (fun id _=>hC id) (Ik c _ _ _ _ _ _ _ _) ?_
  have h1:c l[i]=true:=cY.1 hcl _ (cZ hlt)
  have h2:decide ((i:Int).toNat < l.length)=true:=by simpa using hlt
  have h3:l.set (i:Int).toNat l[i]=l:=by simp
  simp only [zT hlt,zC hlt,ae l _ hlt,ze.eta,Tr.val_brT,Tr.val_chkT,h1,h2,h3,zD i (by unfold zB; omega)]
  exact IH (i+1) (by omega) (by omega)

theorem Xn:zA Qu.P 200 Tryz.f200 1:=aS (by kernel_rfl)
theorem A5:∀ n,FK 200 (yo (kC n))
 | 0=>dz ⟨Tryz.f200,Xn.1,Xn.2.1,Xn.2.2.1⟩ (fun _=>rfl)
 | n+1=>by
  have h:FK 200 (yo (kC (n+1))):=by
   refine zR (E:=yQ (kC n)) (H9 _) fun x hc C hC=>?_
   obtain ⟨⟨op,v,s,l⟩,u⟩:=x
   have hc:(decide (l.length≤1073741824)&&l.all (kC n))=true:=hc
   simp only [aM,zZ] at hc
   refine zk (n0:=0) (rt (A5 n)) (H9 _) (fun id _=>hC id) (zdn _ op v s l) ?_
   refine de (by simpa using hc.1) ?_
   exact zcr (A5 n) hC op v s l hc.1 hc.2 _ 0 rfl (aV _)
  exact h
def zaH:zF:=yo (kC 16)
theorem VV:FK 200 zaH:=A5 16
noncomputable def DG:=Qu.add 200 zaH
theorem rG:zl DG:=DH.add VV
abbrev cw:Sh:=.pr zg (.pr zg (.sl (.sl zf)))

noncomputable def zhZ (x0:Sem zg):Tr (Empty ⊕ ao):=
 Tr.re (AV.tup [AV.nils,AV.agg [AV.int .i64 x0,AV.int .i64 0,AV.nils]]) []
noncomputable def Fo (x0:Sem zg):=zW [zh.sl,cw] t0 100000000 (zhZ x0)
noncomputable def o4 (x0:Sem zg):=(Fo x0).isSome
noncomputable def bT (x0:Sem zg):=o2 (Fo x0)
noncomputable def Z2:=FT [zg] [zh.sl,cw] fun x=>Fo x.1
theorem Vc:FK 39 Z2:=rG.T1 (f:=Tryz.f39) (keep:=k0) (e:=e0)

noncomputable def S7:=DG.add 39 Z2
theorem nK:zl S7:=rG.add Vc
noncomputable section

def zdU (x0:Sem zw) (x1:Sem zf.sl):Tr (Empty ⊕ ao):=
 let a0:=getD x1 (toNat x0.2.2.1) (zj zf)
 Tr.br
 (bif !gn (x0.1,x0.2.1,x0.2.2.1,x0.2.2.2.1,x0.2.2.2.2.1,zE x0.2.2.2.2.2) then true
 else decide (x0.2.2.1 ≥ (↑(length x1):Int)))
 (Tr.re (AV.agg [AV.int .i64 0,AV.int .i64 0,AV.str []]) [])
 (Tr.chk (zI x0.2.2.1 (length x1)) (Tr.re (AV.agg [AV.int .i64 a0.1,AV.int .i64 a0.2.1,AV.str a0.2.2]) []))
def EK (x0:Sem zw) (x1:Sem zf.sl):=zW [zf] t0 100000000 (zdU x0 x1)
def Ov (x0:Sem zw) (x1:Sem zf.sl):=(EK x0 x1).isSome
def YE (x0:Sem zw) (x1:Sem zf.sl):=o1 (EK x0 x1)
def zaB:=FT [zw,zf.sl] [zf] fun x=>EK x.1 x.2.1
theorem VO:FK 84 zaB:=nK.T1 (f:=Tryz.f84) (keep:=k0) (e:=e0)

def W8 (x0:Sem zh.sl) (x1:Sem zg):Tr (Empty ⊕ ao):=
 Tr.chk (nC x0)
 (Tr.br (!rc x0)
  (Tr.chk true (Tr.re (AV.tup [AV.sl zh (bT 10).1,AV.agg [AV.int .i64 (bT 10).2.1,AV.int .i64 (bT 10).2.2.1,AV.sl zf.sl (bT 10).2.2.2]]) []))
  (Tr.re (AV.tup [AV.sl zh x0,AV.agg [AV.int .i64 0,AV.int .i64 x1,AV.nils]]) []))
def uX (x0:Sem zh.sl) (x1:Sem zg):=zW [zh.sl,cw] t0 100000000 (W8 x0 x1)
def gG (x0:Sem zh.sl) (x1:Sem zg):=(uX x0 x1).isSome
def kG (x0:Sem zh.sl) (x1:Sem zg):=o2 (uX x0 x1)
def Z3:=FT [zh.sl,zg] [zh.sl,cw] fun x=>uX x.1 x.2.1
theorem Vd:FK 40 Z3:=nK.T1 (f:=Tryz.f40) (keep:=k0) (e:=e0)

abbrev zeg:=mn [(9,[2,3,8,36,37,38])]
inductive uw where
 | h9 (l36:List (Sem zf.sl)) (i37:Int) (i38:Int) (z0:zu [CP.d zh]) (z1:zu [CP.d Sh.expr])
 | h9b (l36:List (Sem zf.sl)) (i37:Int) (i38:Int) (z0:zu [CP.d zh]) (z1:zu [CP.d Sh.expr]) (lh_2:List (Sem zf.sl))
abbrev zgI:uw→Nat×St
 | .h9 l36 i37 i38 z0 z1=>(9,⟨tm 62 [(2,AV.ptr 0 0),(3,AV.ptr 1 0),(8,AV.nils),(36,AV.sl zf.sl l36),(37,AV.int .i64 i37),(38,AV.int .i64 i38)],[AO.box (bK [] [CP.d zh] z0),AO.box (bK [] [CP.d Sh.expr] z1)]⟩)
 | .h9b l36 i37 i38 z0 z1 lh_2=>(9,⟨tm 62 [(2,AV.ptr 0 0),(3,AV.ptr 1 0),(8,AV.vec 2),(36,AV.sl zf.sl l36),(37,AV.int .i64 i37),(38,AV.int .i64 i38)],[AO.box (bK [] [CP.d zh] z0),AO.box (bK [] [CP.d Sh.expr] z1),AO.vec zf.sl lh_2]⟩)
def zdR (x0:Sem zh) (x1:Sem Sh.expr):Tr (uw ⊕ ao):=
 let a0:=bn (zE x1) x0.1.2.1
 Tr.br (!ze.op x1==[])
 (Tr.br (bif a0.2==0 then bif a0.1 != 3 then a0.1 != 0 else false else false)
  (Tr.br true (Tr.re (AV.tup [AV.nils,AV.int .i64 5]) []) (Tr.to (uw.h9 x0.2 (↑(length x0.2):Int) 0 (x0,()) (x1,()))))
  (Tr.br (a0.2 != 0) (Tr.re (AV.tup [AV.nils,AV.int .i64 a0.2]) []) (Tr.to (uw.h9 x0.2 (↑(length x0.2):Int) 0 (x0,()) (x1,())))))
 (Tr.to (uw.h9 x0.2 (↑(length x0.2):Int) 0 (x0,()) (x1,())))
def CE:uw→Tr (uw ⊕ ao)
 | .h9 l36 i37 i38 z0 z1=>
  let a0:=l36.getD i38.toNat (zj zf.sl)
  let a1:=il (zE z1.1) z0.1.1.2.1 a0
  let a2:=[a0]
  let a3:=IntKind.i64.wrap (i38+1)
  Tr.br (decide (i38 < i37))
  (Tr.chk (zI i38 l36.length) (Tr.br (bif ze.op z1.1==[] then true else a1.1==3&&(a1.2.1==1&&(a1.2.2==[]&&true))) (Tr.chk (decide (length a0≤1073741824)) (Tr.chk (decide (a2.length≤1073741824)) (Tr.to (uw.h9b l36 i37 a3 z0 z1 a2)))) (Tr.to (uw.h9 l36 i37 a3 z0 z1))))
  (Tr.re (AV.tup [AV.nils,AV.int .i64 0]) [])
 | .h9b l36 i37 i38 z0 z1 lh_2=>
  let a0:=l36.getD i38.toNat (zj zf.sl)
  let a1:=il (zE z1.1) z0.1.1.2.1 a0
  let a2:=[a0]
  let a3:=IntKind.i64.wrap (i38+1)
  Tr.br (decide (i38 < i37))
  (Tr.chk (zI i38 l36.length) (Tr.br (bif ze.op z1.1==[] then true else a1.1==3&&(a1.2.1==1&&(a1.2.2==[]&&true))) (Tr.chk (decide (length a0≤1073741824)) (Tr.chk (decide (lh_2.length+a2.length≤1073741824)) (Tr.to (uw.h9b l36 i37 a3 z0 z1 (lh_2++a2))))) (Tr.to (uw.h9b l36 i37 a3 z0 z1 lh_2))))
  (Tr.re (AV.tup [AV.vec 0,AV.int .i64 0]) [AO.vec zf.sl lh_2])
def qz (x0:Sem zh) (x1:Sem Sh.expr):=zW [zf.sl.sl,zg] CE 100000000 (zdR x0 x1)
def nY (x0:Sem zh) (x1:Sem Sh.expr):=(qz x0 x1).isSome
def r8 (x0:Sem zh) (x1:Sem Sh.expr):=o2 (qz x0 x1)
def zae:=FT [zh,Sh.expr] [zf.sl.sl,zg] fun x=>qz x.1 x.2.1
theorem Vp:FK 51 zae:=nK.T1 (f:=Tryz.f51) (keep:=zeg) (e:=zgI)

def vE:=S7.addL [(84,zaB),(40,Z3),(51,zae)]
theorem kM:zl vE:=nK.addL <| fc VO <| fc Vd <| fc Vp <|  jn
end

noncomputable abbrev sE (l:List (Sem zh)):Tr zt:=run vE 0 yf (Func.results Tryz.f76).toList 300 (aC Tryz.f76) (ar (Func.ntmps Tryz.f76) [.sl zh l] [])
theorem H6:zA vE.P 76 Tryz.f76 1:=aS (by kernel_rfl)
theorem zdf (l:List (Sem zh)):sE l=.ok (.fork l.isEmpty (aB (sE l)).1 (aB (sE l)).2.1 (aB (sE l)).2.2):=by kernel_rfl
theorem Yi (l:List (Sem zh)):run vE 0 yf (Func.results Tryz.f76).toList 300 (aB (sE l)).1 (aB (sE l)).2.2=.ok (.ret .nils []):=by kernel_rfl
theorem Yj (l:List (Sem zh)):run vE 0 yf (Func.results Tryz.f76).toList 300 (aB (sE l)).2.1 (aB (sE l)).2.2=.chk (decide (l.length≤1073741824)) (.ok (.ret (.vec 0) [.vec zh l])):=by kernel_rfl
def zcb:cG [some (.sl zh)]:=fun x h=>match h with
 | []=>.chk (decide (length x.1≤1073741824)) (.ok (.vec 0,[.vec zh x.1]))
 | _=>.err
def zan:zF:=zU [some (.sl zh)] zcb
theorem Vz:FK 76 zan:=by
 refine bC H6 fun x h0 res hx C hC=>?_
 unfold zcb at hx
 split at hx
 ·simp only [Tr.val] at hx
  split at hx
  ·rename_i hl
   simp only [ap] at hx
   subst hx
   obtain ⟨l,u⟩:=x
   refine zk (n0:=0) kM H6 hC (zdf l) ?_
   refine ⟨fun he=>?_,?_⟩
   ·have hn:l=[]:=List.isEmpty_iff.1 he
    refine Reach.weaken (Q:=fun r h=>(r,h)=(.vec 0,[.vec zh []])) (Reach.promNil zh (fun id=>hC id (by simp)) (zk (n0:=0) kM H6 hC (Yi l) rfl)) ?_
    intro r h hq
    cases hq
    refine ⟨_,?_,fun _ _ _ _ h=>h⟩
    show (AV.vec 0,[AO.vec zh []])=(AV.vec 0,[AO.vec zh l])
    rw [hn]
   ·exact zk (n0:=0) kM H6 hC (Yj l) (de hl rfl)
  ·cases hx
 ·simp at hx

noncomputable def zap:zF:=zU (List.replicate 2 none) (bZ vE Tryz.f77 (List.replicate 2 none))
theorem VB:FK 77 zap:=aw _ kM (aS (by kernel_rfl))

noncomputable def DI:=vE.addL [(76,zan),(77,zap)]
theorem rH:zl DI:=kM.addL <| fc Vz <| fc VB <|  jn

abbrev uc (n:zp) (q1:Sh) (cs:List (Sem q1)) (k:Int) (q2:Sh) (us:List (Sem q2)) (q3:Sh) (fs:List (Sem q3)) (eo:zp) (a b:Int) (vs es:zp) (q4:Sh) (el:List (Sem q4)) (q5:Sh) (rs:List (Sem q5)) (l:List (Sem zh)) (i:Int):St:={ tmps:=[.sl zh l,.clo (.func 77) [] [.ptr 0 0],.any,.any,.any,.any,.any,.int .i64 l.length,.int .i64 i,.any,.any,.any,.any,.any,.any,.any,.any,.any,.any],heap:=[.box [.str n,.sl q1 cs,.int .i64 k,.sl q2 us,.sl q3 fs,.str eo,.int .i64 a,.int .i64 b,.str vs,.str es,.sl q4 el,.sl q5 rs]] }
theorem Md (n:zp) (q1:Sh) (cs:List (Sem q1)) (k:Int) (q2:Sh) (us:List (Sem q2)) (q3:Sh) (fs:List (Sem q3)) (eo:zp) (a b:Int) (vs es:zp) (q4:Sh) (el:List (Sem q4)) (q5:Sh) (rs:List (Sem q5)) (l:List (Sem zh)):run DI 1 mw Tryz.f36.results.toList 300 (aC Tryz.f36) (ar Tryz.f36.ntmps [.sl zh l,.clo (.func 77) [] [.ptr 0 0]] [.box [.str n,.sl q1 cs,.int .i64 k,.sl q2 us,.sl q3 fs,.str eo,.int .i64 a,.int .i64 b,.str vs,.str es,.sl q4 el,.sl q5 rs]])=.ok (.head 2 (zy Tryz.f36 2) (uc n q1 cs k q2 us q3 fs eo a b vs es q4 el q5 rs l 0)):=by kernel_rfl
theorem NG (n:zp) (q1:Sh) (cs:List (Sem q1)) (k:Int) (q2:Sh) (us:List (Sem q2)) (q3:Sh) (fs:List (Sem q3)) (eo:zp) (a b:Int) (vs es:zp) (q4:Sh) (el:List (Sem q4)) (q5:Sh) (rs:List (Sem q5)) (l:List (Sem zh)) (i:Int):run DI 1 mw Tryz.f36.results.toList 300 (zy Tryz.f36 2) (uc n q1 cs k q2 us q3 fs eo a b vs es q4 el q5 rs l i)=iG (K:=zy Tryz.f36 2) (e:=zh) l (fun y => !(Op.bytesLess y.1.1 n||y.1.1==n)) (uc n q1 cs k q2 us q3 fs eo a b vs es q4 el q5 rs l) [.box [.str n,.sl q1 cs,.int .i64 k,.sl q2 us,.sl q3 fs,.str eo,.int .i64 a,.int .i64 b,.str vs,.str es,.sl q4 el,.sl q5 rs]] i:=by kernel_rfl

theorem Nx:zA DI.P 36 Tryz.f36 2:=by refine ⟨?_,?_,?_,?_⟩ <;> kernel_rfl
def zb7:cG [some (.sl zh),none]:=fun x h=>match x,h with
 | (l,.clo (.func 77) [] [.ptr 0 0],_),[.box [.str n,.sl q1 cs,.int .i64 k,.sl q2 us,.sl q3 fs,.str eo,.int .i64 a,.int .i64 b,.str vs,.str es,.sl q4 el,.sl q5 rs]]=>.ok (.int .i64 (zL (fun y => !(Op.bytesLess y.1.1 n||y.1.1==n)) l 0),[.box [.str n,.sl q1 cs,.int .i64 k,.sl q2 us,.sl q3 fs,.str eo,.int .i64 a,.int .i64 b,.str vs,.str es,.sl q4 el,.sl q5 rs]])
 | _,_=>.err
def ZY:zF:=zU [some (.sl zh),none] zb7
theorem U7:FK 36 ZY:=by
 refine bC Nx fun x h0 res hx C hC=>?_
 unfold zb7 at hx
 split at hx
 ·rename_i l u n q1 cs k q2 us q3 fs eo a b vs es q4 el q5 rs
  simp only [Tr.val_ok,ap] at hx
  subst hx
  refine Reach.len 0 zh l rfl fun hl=>?_
  refine zk (n0:=1) rH Nx hC (Md n q1 cs k q2 us q3 fs eo a b vs es q4 el q5 rs l) ?_
  exact eY l (fun y => !(Op.bytesLess y.1.1 n||y.1.1==n)) (uc n q1 cs k q2 us q3 fs eo a b vs es q4 el q5 rs l) rH Nx hC (NG n q1 cs k q2 us q3 fs eo a b vs es q4 el q5 rs l) hl _ 0 rfl (aV _)
 ·simp at hx

noncomputable def HE:=DI.add 36 ZY
theorem y7:zl HE:=rH.add U7

theorem fB {P:Program} (w:World) (dT sT ty elem:TypeId) (sz b o dLen dCap:Nat) (a:Addr) (sLen sCap:Nat) (cs:List Value)
  (hu:P.underlying dT=some (.slice elem)) (hs:(P.info? elem).map (·.size)=some sz) (hn:cs.length=Nat.min sLen dLen * sz)
  (hsrc:∀ j v,cs[j]?=some v→w.cell? (a.add j)=some v) (hc:∀ j,j < cs.length→(w.cell? ⟨b,o+j,none⟩).isSome=true) (hf:∀ j,j < cs.length→w.frozen? ⟨b,o+j,none⟩=false) (h1:∀ v∈cs,v.oneCell'=true):
  (Builtin.copy_ #[dT,sT] ty #[.slice (some ⟨b,o,none⟩) dLen dCap,.slice (some a) sLen sCap]).run P w=.ok (goInt (Nat.min sLen dLen)) (w.setCells b o cs):=by
 have hl:=run_loadCells_list (P:=P) w a cs hsrc
 have hst:=run_storeCells_cells (P:=P) b o cs 0 w (by simpa using hc) (by simpa using hf) h1
 cases hq:P.info? elem with
 | none=>simp [hq] at hs
 | some i=>
  have hi:i.size=sz:=by simpa [hq] using hs
  simp [Builtin.copy_,aX hu,Builtin.lenOf,Builtin.firstCells,Go.sizeOf,typeInfo,hq,hi,← hn,hl,hst]

section
variable {w:World} {U:Nat→Prop} {ρ:Nat→Option Value}
theorem HR {n:Nat} {e:Sh} {l:List (Sem e)} {x:Sem e} {k b c:Nat} {arr:Array Value} {T:TypeId} {f:Nat→Nat→Value} {g:Nat→Value} (hk:k≤l.length)
  (hρ:ρ n=some (.slice (some ⟨b,0,none⟩) (l.length+1) c)) (hm:l.length+1≤zB) (hU:U b) (hb:w.heap[b]?=some (.cells arr T (0,0))) (hsz:arr.size=c * e.size) (hc:l.length+1≤c)
  (h1:∀ i j,i < k→j < e.size→arr[i * e.size+j]?=some (f i j)) (h2:∀ j,j < e.size→arr[k * e.size+j]?=some (g j))
  (h3:∀ i j,k≤i→i < l.length→j < e.size→arr[(i+1) * e.size+j]?=some (f i j))
  (hf:∀ i (hi:i < l.length) (j:Nat) (c:AV),(zn e l[i])[j]?=some c→Rv w U ρ c (f i j)) (hg:∀ (j:Nat) (c:AV),(zn e x)[j]?=some c→Rv w U ρ c (g j)):
  bg w U ρ n (.vec e (l.take k++x::l.drop k)):=by
 have hl:(l.take k++x::l.drop k).length=l.length+1:=by simp; omega
 refine ⟨some ⟨b,0,none⟩,c,by rw [hl]; exact hρ,by rw [hl]; exact hm,.inr ⟨b,T,arr,rfl,by omega,hU,hb,hsz,by rw [hl]; exact hc,?_⟩⟩
 intro i hi j cc hcc
 have hj:j < e.size:=by have:=(bR.1 hcc).1; rwa [zN] at this
 rw [hl] at hi
 have htl:(l.take k).length=k:=by simp; omega
 rcases Nat.lt_trichotomy i k with h | h | h
 ·have:(l.take k++x::l.drop k)[i]=l[i]:=by
   rw [List.getElem_append_left (by omega),List.getElem_take]
  rw [this] at hcc
  exact ⟨_,h1 i j h hj,hf i (by omega) j cc hcc⟩
 ·subst h
  have:(l.take i++x::l.drop i)[i]=x:=by
   rw [List.getElem_append_right (by omega)]
   simp [htl]
  rw [this] at hcc
  exact ⟨_,h2 j hj,hg j cc hcc⟩
 ·obtain ⟨i,rfl⟩:∃ q,i=q+1:=⟨i - 1,by omega⟩
  have:(l.take k++x::l.drop k)[i+1]=l[i]:=by
   rw [List.getElem_append_right (by omega)]
   simp only [htl]
   rw [List.getElem_cons]
   rw [dif_neg (by omega),List.getElem_drop]
   congr 1
   omega
  rw [this] at hcc
  exact ⟨_,h3 i j (by omega) (by omega) hj,hf i (by omega) j cc hcc⟩
end

theorem Aw {sz n k:Nat} (A B D:List Value) {f:Nat→Nat→Value} {g:Nat→Value} (hk:k≤n) (hB:B.length=sz) (hBg:∀ j,j < sz→B[j]?=some (g j)) (hD:D=(aJ sz n f).drop (k * sz)) (hA:(n+1) * sz≤A.length)
  (hA1:∀ i j,i < k→j < sz→A[i * sz+j]?=some (f i j)):
  (∀ X,X=gh (gh A ((k+1) * sz) D) (k * sz) B∨X=gh (gh A (k * sz) B) ((k+1) * sz) D→
   (∀ i j,i < k→j < sz→X[i * sz+j]?=some (f i j))∧(∀ j,j < sz→X[k * sz+j]?=some (g j))∧∀ i j,k≤i→i < n→j < sz→X[(i+1) * sz+j]?=some (f i j)):=by
 have hDl:D.length=n * sz - k * sz:=by rw [hD,List.length_drop,aP]
 have e1:(k+1) * sz=k * sz+sz:=eu _ _
 have e2:(n+1) * sz=n * sz+sz:=eu _ _
 have e3:k * sz≤n * sz:=cN _ hk
 have hDg:∀ i j,k≤i→i < n→j < sz→D[(i+1) * sz+j - (k+1) * sz]?=some (f i j):=by
  intro i j h1 h2 h3
  have e4:k * sz≤i * sz:=cN _ h1
  have e5:(i+1) * sz=i * sz+sz:=eu _ _
  rw [hD,jO,show k * sz+((i+1) * sz+j - (k+1) * sz)=i * sz+j by omega]
  exact gV h2 h3
 intro X hX
 have small:∀ i j,i < k→j < sz→i * sz+j < k * sz:=by
  intro i j h1 h2
  have:=cN sz (pF h1)
  rw [eu] at this
  omega
 have big:∀ i j,k≤i→i < n→j < sz→(k+1) * sz≤(i+1) * sz+j∧(i+1) * sz+j < (n+1) * sz:=by
  intro i j h1 h2 h3
  have:=cN sz (Nat.succ_le_succ h1)
  have h4:=cN sz (Nat.succ_le_succ (pF h2))
  rw [eu (i+1)] at h4
  simp only [Nat.succ_eq_add_one] at this h4
  exact ⟨by omega,by omega⟩
 refine ⟨fun i j h1 h2=>?_,fun j h1=>?_,fun i j h1 h2 h3=>?_⟩
 ·have:=small i j h1 h2
  rcases hX with rfl | rfl <;> rw [bX,if_neg (by omega),bX,if_neg (by omega)] <;> exact hA1 i j h1 h2
 ·rcases hX with rfl | rfl
  ·rw [bX,if_pos (by rw [cg]; omega),show k * sz+j - k * sz=j by omega]; exact hBg j h1
  ·rw [bX,if_neg (by omega),bX,if_pos (by omega),show k * sz+j - k * sz=j by omega]; exact hBg j h1
 ·obtain ⟨b1,b2⟩:=big i j h1 h2 h3
  rcases hX with rfl | rfl
  ·rw [bX,if_neg (by omega),bX,if_pos (by omega)]; exact hDg i j h1 h2 h3
  ·rw [bX,if_pos (by rw [cg]; omega)]; exact hDg i j h1 h2 h3
open Go Go.Proofs Go.RowKit Go.Lib

theorem CR {P:Program} (w:World) {o:Oper} {a:Act} {K:Act→World→Prop} {Q:Exit→Act→World→Prop} (d s:Operand) (t t':TypeId)
  (ho:o.op=.call { callee:=.builtin .copy,args := #[d,s],argTypes := #[t,t'] }) (v u:Value) (hd:a.eval d=v) (hs:a.eval s=u) {v':Value} {w':World}
  (hr:(Builtin.copy_ #[t,t'] o.type #[v,u]).run P w=.ok v' w') (h:K (a.put o.dst v') w'):o.wp P a w K Q:=by
 unfold Oper.wp execOp
 simp only [ho,resolve,invoke,builtin,da,oD,js,List.map_toArray,jT,uH,hd,hs,hr]
 exact h
theorem gX {P:Program} (w:World) {ops:Array Oper} {rest:List Oper} {o:Oper} {a:Act} {Q:Exit→Act→World→Prop} (hgd:o.guard=none) (d s:Operand) (t t':TypeId)
  (ho:o.op=.call { callee:=.builtin .copy,args := #[d,s],argTypes := #[t,t'] }) (v u:Value) (hd:a.eval d=v) (hs:a.eval s=u) {v':Value} {w':World}
  (hr:(Builtin.copy_ #[t,t'] o.type #[v,u]).run P w=.ok v' w') (h:wpList P ops Q rest (a.put o.dst v') w'):wpList P ops Q (o::rest) a w:=
 wpList_plain hgd fun _ hK=>CR w d s t t' ho v u hd hs hr (hK _ _ h)
theorem nl {P:Program} {ops:Array Oper} {o:Oper} {a:Act} {w:World} {K:Act→World→Prop} {Q:Exit→Act→World→Prop} {E:Prop}
  (hg:o.guard=none) (d x:Operand) (dT sT:TypeId) (hop:o.op=Op.call { callee:=Callee.builtin Builtin.copy,args := #[d,x],argTypes := #[dT,sT] })
  (v u:Value) (hd:a.eval d=v) (hx:a.eval x=u) {v':Value} {w':World} (hr:(Builtin.copy_ #[dT,sT] o.type #[v,u]).run P w=.ok v' w') (hK:K (a.put o.dst v') w'):
  if Region.wanted o (yielded ops a.tmps)=true then Oper.wp P o a w K Q else E:=by
 have hw:Region.wanted o (yielded ops a.tmps)=true:=by simp [Region.wanted,hg]
 rw [if_pos hw]
 unfold Oper.wp
 simp [execOp,hop,resolve,invoke,builtin,hd,hx,hr,Result.andThen]
 exact hK
theorem ml (b:Nat) (vs:List Value) (o:Nat) (w:World) (h:∀ j,j < vs.length→(w.cell? ⟨b,o+j,none⟩).isSome=true) (k:Nat) (hk:(w.cell? ⟨b,k,none⟩).isSome=true):((w.setCells b o vs).cell? ⟨b,k,none⟩).isSome=true:=by
 by_cases hin:o≤k∧k < o+vs.length
 ·have:=World.cell?_setCells_in b vs o w h (k - o) (by omega)
  rw [show o+(k - o)=k by omega] at this
  rw [this]; rfl
 ·rw [World.cell?_setCells_out b vs o w ⟨b,k,none⟩ (fun _ _=>by show k < o∨o+vs.length≤k; omega)]
  exact hk

set_option maxHeartbeats 4000000 in
set_option maxRecDepth 100000 in
theorem JN (b n c i vb vc:Nat) (cs vs:List Value) (w:World) (hi:i < n) (hroom:n+1≤c) (hmax:n+1≤1073741824) (hvb:vb≠b)
  (hcl:cs.length=n * 12) (hvl:vs.length=12) (hcs:∀ j v,cs[j]?=some v→w.cell? ⟨b,j,none⟩=some v) (hsp:∀ j,j < (n+1) * 12→(w.cell? ⟨b,j,none⟩).isSome=true) (hfz:∀ j,w.frozen? ⟨b,j,none⟩=false)
  (hvs:∀ j v,vs[j]?=some v→w.cell? ⟨vb,j,none⟩=some v) (h1c:∀ v∈cs,v.oneCell'=true) (h1v:∀ v∈vs,v.oneCell'=true)
  (tA tB:TypeId) (kA kB:Nat) (hsa:w.shape? vb=some (tA,kA)) (hsb:w.shape? b=some (tB,kB)) (hkB:kB≠0) (hfa:∀ j,w.frozen? ⟨vb,j,none⟩=false):
  Calls Tryz.prog 78 #[.slice (some ⟨b,0,none⟩) n c,.int .i64 i,.slice (some ⟨vb,0,none⟩) 1 vc] w fun e w'=>
   e=.returned (.slice (some ⟨b,0,none⟩) (n+1) c)∧w'=(w.drew.setCells b ((i+1) * 12) (cs.drop (i * 12))).setCells b (i * 12) vs:=by
 have hz2:¬ ((i:Int)=(n:Int)):=by omega
 have hsz:(Tryz.prog.info? 54).map (·.size)=some 12:=by kernel_rfl
 have hov:∀ lb cb,(callFunc 129 #[.slice (some ⟨vb,0,none⟩) 1 vc,.slice (some ⟨b,(i+1) * 12,none⟩) lb cb]).run Tryz.prog w=.ok (.value (.bool false)) w:=fun lb cb=>by
  rw [run_callFunc_extern Tryz.func129 (by kernel_rfl) (by kernel_rfl) (by kernel_rfl) (e:=Extern.SlicesOverlaps.overlaps #[23,23] #[4]) (by kernel_rfl),
   Lib.run_overlaps_apart w 23 4 54 Tryz.underlying23 12 Tryz.sizeOf54 ⟨vb,0,none⟩ ⟨b,(i+1) * 12,none⟩ 1 vc lb cb hvb tA tB kA kB hsa hsb hkB (hfa 0) (hfa kA)]
  rfl
 have hdl:(cs.drop (i * 12)).length=(n - i) * 12:=by rw [List.length_drop,hcl]; omega
 have hw1:IntKind.i64.wrap ((i:Int)+(1:Int))=(i:Int)+(1:Int):=by rw [uE]; omega
 have hb1:(0:Int)≤(i:Int)+(1:Int):=by omega
 have hin:i≤n:=by omega
 have htn:((i:Int)+(1:Int)).toNat=i+1:=by omega
 have hb2:¬ (c=i+1):=by omega
 have hb3:(i:Int)≤(n:Int)+(1:Int):=by omega
 have hb4:¬ (c=i):=by omega
 have hcp1:∀ ty dc sc,(Builtin.copy_ #[23,23] ty #[.slice (some ⟨b,(i+1) * 12,none⟩) (n - i) dc,.slice (some ⟨b,i * 12,none⟩) (n+1 - i) sc]).run Tryz.prog w.drew=.ok (goInt (Nat.min (n+1 - i) (n - i))) (w.drew.setCells b ((i+1) * 12) (cs.drop (i * 12))):=fun ty dc sc=>
  fB w.drew _ _ ty 54 12 b ((i+1) * 12) (n - i) dc ⟨b,i * 12,none⟩ (n+1 - i) sc (cs.drop (i * 12)) Tryz.underlying23 hsz (by rw [hdl]; simp only [Nat.min_def]; split <;> omega)
   (fun j v hj=>by rw [Addr.add_lit]; exact hcs (i * 12+j) v (by rwa [jO] at hj))
   (fun j hj=>hsp _ (by omega)) (fun j hj=>hfz _) (fun v hv=>h1c v (List.mem_of_mem_drop hv))
 obtain ⟨W1,hW1⟩:∃ W1,W1=w.drew.setCells b ((i+1) * 12) (cs.drop (i * 12)):=⟨_,rfl⟩
 have hsp1:∀ k,k < (n+1) * 12→(W1.cell? ⟨b,k,none⟩).isSome=true:=fun k hk=>by
  rw [hW1]
  refine ml b (cs.drop (i * 12)) _ w.drew (fun j hj=>?_) _ (hsp k hk)
  rw [hdl] at hj
  exact hsp _ (by omega)
 have hcp2:∀ (W:World),(∀ x,W.cell? x=W1.cell? x)→(∀ x,W.frozen? x=W1.frozen? x)→∀ ty dc,(Builtin.copy_ #[23,23] ty #[.slice (some ⟨b,i * 12,none⟩) (n+1 - i) dc,.slice (some ⟨vb,0,none⟩) 1 vc]).run Tryz.prog W=.ok (goInt (Nat.min 1 (n+1 - i))) (W.setCells b (i * 12) vs):=fun W hWc hWf ty dc=>
  fB W _ _ ty 54 12 b (i * 12) (n+1 - i) dc ⟨vb,0,none⟩ 1 vc vs Tryz.underlying23 hsz (by rw [hvl]; simp only [Nat.min_def]; split <;> omega)
   (fun j v hj=>by
    rw [Addr.add_lit,hWc,hW1,World.cell?_setCells_out b _ _ _ _ (fun h _=>absurd h hvb),eG]
    exact hvs j v hj)
   (fun j hj=>by rw [hWc]; exact hsp1 _ (by omega)) (fun j hj=>by rw [hWf,hW1,World.frozen?_setCells]; exact hfz _) h1v
 rw [← hW1] at hcp1
 have mixed:Tryz.prog.follows .mixedOrders=true:=by kernel_rfl
 go_enter Tryz.func78,Tryz.ntmps78
 go_wp2_with (simp only [hov])
 go_region_law_o (refine nl rfl _ _ 23 23 rfl _ _ (by simp [Act.eval,Act.put]) (by simp [Act.eval,Act.put]) (hcp1 _ _ _) ?_)
 go_wp2_with (at_builtin; refine gX _ rfl _ _ 23 23 rfl _ _ rfl rfl (hcp2 _ (fun _=>rfl) (fun _=>rfl) _ _) ?_)
 go_ret
 first | exact ⟨rfl,rfl⟩ | exact ⟨rfl,by rw [hW1]⟩

set_option maxHeartbeats 4000000 in
set_option maxRecDepth 100000 in
theorem Mz (b n c i vb vc:Nat) (cs vs:List Value) (w:World) (hi:i < n) (hnc:n≤c) (hroom:c < n+1) (hmax:n+1≤1073741824) (i0:TypeInfo) (z:Value) (hi0:Tryz.prog.info? 54=some i0) (hzs:i0.size=12) (hzb:i0.bytes≤131072) (hz0:i0.zero=some z) (hzc:z.cells.size=12)
  (hcl:cs.length=n * 12) (hvl:vs.length=12) (hcs:∀ j v,cs[j]?=some v→w.cell? ⟨b,j,none⟩=some v)
  (hvs:∀ j v,vs[j]?=some v→w.cell? ⟨vb,j,none⟩=some v) (h1c:∀ v∈cs,v.oneCell'=true) (h1v:∀ v∈vs,v.oneCell'=true):
  Calls Tryz.prog 78 #[.slice (some ⟨b,0,none⟩) n c,.int .i64 i,.slice (some ⟨vb,0,none⟩) 1 vc] w fun e w'=>
   e=.returned (.slice (some ⟨w.heap.size,0,none⟩) (n+1) (grownCap w (n+1) c 54))∧
   w'=(((w.alloc (.cells ((cs.take (i * 12)).toArray++Builtin.zeroCells z.cells (n+1 - i)++Builtin.zeroCells z.cells (grownCap w (n+1) c 54 - (n+1))) 54)).drew.setCells w.heap.size (i * 12) vs).drew).setCells w.heap.size ((i+1) * 12) (cs.drop (i * 12)):=by
 have hz2:¬ ((i:Int)=(n:Int)):=by omega
 have hz3:(c:Int) < (n:Int)+1:=by omega
 have hsz:(Tryz.prog.info? 54).map (·.size)=some 12:=by rw [hi0]; simp [hzs]
 have hbw:b < w.heap.size:=block_lt_of_cell (hcs 0 _ (zJ (by omega)))
 have hvw:vb < w.heap.size:=block_lt_of_cell (hvs 0 _ (zJ (by omega)))
 have hkk:(n:Int)+1 - (i:Int)=((n+1 - i:Nat):Int):=by omega
 have hik:i+(n+1 - i)=n+1:=by omega
 have hold:(Builtin.firstCells i0.size i (.slice (some ⟨b,0,none⟩) i c)).run Tryz.prog w.drew=.ok (cs.take (i * 12)).toArray w.drew:=by
  rw [hzs]
  exact run_firstCells_some w.drew 12 i ⟨b,0,none⟩ i c (cs.take (i * 12)) (by rw [sx]; omega) (fun j v hj=>by
   rw [Addr.add_lit,eG]
   rw [uC] at hj
   split at hj
   ·exact hcs j v hj
   ·cases hj)
 have hbig:(n+1) * i0.bytes≤140737488355328:=by
  have:(n+1) * i0.bytes≤1073741824 * 131072:=jS hmax hzb
  omega
 have h48:(n+1 - i) * i0.bytes≤281474976710656:=by
  have:(n+1 - i) * i0.bytes≤(n+1) * i0.bytes:=cN _ (by omega)
  omega
 have hrz:∀ ty,(Builtin.append_ #[23,3] ty #[.slice (some ⟨b,0,none⟩) i c,.int .i64 ((n:Int)+1 - (i:Int))]).run Tryz.prog w=
   .ok (.slice (some ⟨w.heap.size,0,none⟩) (n+1) (grownCap w (n+1) c 54)) (w.drew.alloc (.cells ((cs.take (i * 12)).toArray++Builtin.zeroCells z.cells (n+1 - i)++Builtin.zeroCells z.cells (grownCap w (n+1) c 54 - (n+1))) 54)):=fun ty=>by
  have h:=Lib.run_append_grow_zeros w 23 3 ty 54 i0 z .i64 .i64 Tryz.underlying23 Tryz.underlying3 hi0 hz0 (some ⟨b,0,none⟩) i c (cs.take (i * 12)) hold (n+1 - i) (by omega) (by omega) (by omega) (by omega) h48 (by rw [hik]; exact growslice_fits hroom hbig)
  rw [hik] at h
  rw [hkk]
  exact h
 obtain ⟨G,hG⟩:∃ G,G=grownCap w (n+1) c 54:=⟨_,rfl⟩
 obtain ⟨ROW,hROW⟩:∃ ROW:Array Value,ROW=(cs.take (i * 12)).toArray++Builtin.zeroCells z.cells (n+1 - i)++Builtin.zeroCells z.cells (G - (n+1)):=⟨_,rfl⟩
 rw [← hG] at hrz ⊢
 rw [← hROW] at hrz ⊢
 have hRl:(n+1) * 12≤ROW.size:=by
  rw [hROW]
  simp only [Array.size_append,List.size_toArray,sx,gv,hzc]
  omega
 obtain ⟨W1,hW1⟩:∃ W1,W1=w.drew.alloc (.cells ROW 54):=⟨_,rfl⟩
 rw [← hW1] at hrz
 have hN:∀ j,j < (n+1) * 12→(W1.cell? ⟨w.heap.size,j,none⟩).isSome=true:=fun j hj=>by
  rw [hW1,World.cell?_alloc_at (w:=w.drew) ROW _ w.heap.size j rfl,hM (by omega)]; rfl
 have hNf:∀ j,W1.frozen? ⟨w.heap.size,j,none⟩=false:=fun j=>by rw [hW1]; exact World.frozen?_alloc_at (w:=w.drew) ROW _ w.heap.size j rfl
 have hOb:∀ j v,w.cell? ⟨b,j,none⟩=some v→W1.cell? ⟨b,j,none⟩=some v:=fun j v h=>by rw [hW1,World.cell?_alloc_past (w:=w.drew) _ b j hbw]; exact h
 have hOv:∀ j v,w.cell? ⟨vb,j,none⟩=some v→W1.cell? ⟨vb,j,none⟩=some v:=fun j v h=>by rw [hW1,World.cell?_alloc_past (w:=w.drew) _ vb j hvw]; exact h
 have hcpA:∀ (W:World),(∀ x,W.cell? x=W1.cell? x)→(∀ x,W.frozen? x=W1.frozen? x)→∀ ty dc,(Builtin.copy_ #[23,23] ty #[.slice (some ⟨w.heap.size,i * 12,none⟩) (n+1 - i) dc,.slice (some ⟨vb,0,none⟩) 1 vc]).run Tryz.prog W=.ok (goInt (Nat.min 1 (n+1 - i))) (W.setCells w.heap.size (i * 12) vs):=fun W hWc hWf ty dc=>
  fB W _ _ ty 54 12 w.heap.size (i * 12) (n+1 - i) dc ⟨vb,0,none⟩ 1 vc vs Tryz.underlying23 hsz (by rw [hvl]; simp only [Nat.min_def]; split <;> omega)
   (fun j v hj=>by rw [Addr.add_lit,hWc,eG]; exact hOv _ v (hvs j v hj))
   (fun j hj=>by rw [hWc]; exact hN _ (by omega)) (fun j hj=>by rw [hWf]; exact hNf _) h1v
 have hGn:n+1≤G:=by rw [hG]; exact grownCap_ge w _ _ _
 have hG63:G≤9223372036854775807:=by
  have:=grownCap_le_maxLen w (n+1) c 54 (by unfold maxLen; omega)
  rw [← hG] at this
  unfold maxLen at this
  omega
 have hGi:¬ (G=i):=by omega
 have hGim:¬ (G=i+1):=by omega
 have hci:¬ (c=i):=by omega
 have hbN:b≠w.heap.size:=by omega
 have hdl:(cs.drop (i * 12)).length=(n - i) * 12:=by rw [List.length_drop,hcl]; omega
 have hcpB:∀ (W:World),(∀ x,W.cell? x=(W1.setCells w.heap.size (i * 12) vs).cell? x)→(∀ x,W.frozen? x=(W1.setCells w.heap.size (i * 12) vs).frozen? x)→∀ ty dc sc,(Builtin.copy_ #[23,23] ty #[.slice (some ⟨w.heap.size,(i+1) * 12,none⟩) (n - i) dc,.slice (some ⟨b,i * 12,none⟩) (n - i) sc]).run Tryz.prog W=.ok (goInt (Nat.min (n - i) (n - i))) (W.setCells w.heap.size ((i+1) * 12) (cs.drop (i * 12))):=fun W hWc hWf ty dc sc=>
  fB W _ _ ty 54 12 w.heap.size ((i+1) * 12) (n - i) dc ⟨b,i * 12,none⟩ (n - i) sc (cs.drop (i * 12)) Tryz.underlying23 hsz (by rw [hdl]; simp only [Nat.min_def]; split <;> omega)
   (fun j v hj=>by
    rw [Addr.add_lit,hWc,World.cell?_setCells_out _ _ _ _ _ (fun h _=>absurd h hbN)]
    exact hOb _ v (hcs (i * 12+j) v (by rwa [jO] at hj)))
   (fun j hj=>by rw [hWc]; refine ml _ _ _ _ (fun t ht=>hN _ ?_) _ (hN _ ?_) <;> omega)
   (fun j hj=>by rw [hWf,World.frozen?_setCells]; exact hNf _) (fun v hv=>h1c v (List.mem_of_mem_drop hv))
 subst hW1
 have hE1:∀ x,((w.alloc (.cells ROW 54)).drew).cell? x=(w.drew.alloc (.cells ROW 54)).cell? x:=fun x=>rfl
 have hE2:∀ x,((w.alloc (.cells ROW 54)).drew).frozen? x=(w.drew.alloc (.cells ROW 54)).frozen? x:=fun x=>rfl
 have hF1:∀ x,(((w.alloc (.cells ROW 54)).drew.setCells w.heap.size (i * 12) vs).drew).cell? x=((w.drew.alloc (.cells ROW 54)).setCells w.heap.size (i * 12) vs).cell? x:=fun x=>rfl
 have hF2:∀ x,(((w.alloc (.cells ROW 54)).drew.setCells w.heap.size (i * 12) vs).drew).frozen? x=((w.drew.alloc (.cells ROW 54)).setCells w.heap.size (i * 12) vs).frozen? x:=fun x=>rfl
 have hw1:IntKind.i64.wrap ((i:Int)+1)=(i:Int)+1:=by rw [uE]; omega
 have hb1:(0:Int)≤(i:Int)+1:=by omega
 have hin:i≤n:=by omega
 have htn:((i:Int)+1).toNat=i+1:=by omega
 have hb3:(i:Int)≤(n:Int):=by omega
 have mixed:Tryz.prog.follows .mixedOrders=true:=by kernel_rfl
 clear hkk hik hold hROW hG hRl h48 hbig
 go_enter Tryz.func78,Tryz.ntmps78
 go_wp2_with (first
  | (at_builtin; refine Lib.wpList_append_run _ rfl _ _ _ _ rfl _ _ rfl rfl _ _ (hrz _) ?_)
  | (at_builtin; refine gX _ rfl _ _ 23 23 rfl _ _ rfl rfl (hcpA _ hE1 hE2 _ _) ?_)
  | (at_builtin; refine gX _ rfl _ _ 23 23 rfl _ _ rfl rfl (hcpB _ (fun _=>rfl) (fun _=>rfl) _ _ _) ?_))
 go_region_law_o (refine nl rfl _ _ 23 23 rfl (.slice (some ⟨w.heap.size,(i+1) * 12,none⟩) (n - i) (G - (i+1))) (.slice (some ⟨b,i * 12,none⟩) (n - i) (c - i)) (by simp [Act.eval,Act.put]) (by simp [Act.eval,Act.put]) (hcpB _ hF1 hF2 3 (G - (i+1)) (c - i)) ?_)
 go_wp2
 go_ret
 exact ⟨rfl,rfl⟩
set_option maxHeartbeats 1000000

@[match_pattern] abbrev Gt:Sh:=.pr (.pr .str (.pr (.sl (.pr .str (.pr (.int .i64) .bool))) (.pr (.int .i64) (.pr (.sl (.int .i64)) (.pr (.sl (.pr (.int .i64) .str)) .expr))))) (.sl (.sl (.pr (.int .i64) (.pr (.int .i64) .str))))
def HQ (l:List (Sem zh)) (i:Int) (x:Sem zh):List (Sem zh):=l.take i.toNat++x::l.drop i.toNat
def My (a b:Nat) (i:Int) (l:List (Sem zh)) (x:Sem zh) (n:Nat):Tr eE:=
 .chk (zI i l.length) (.chk (decide (l.length+1≤1073741824)) (.ok { val:=.vec n,wr:=[(a,.dead),(b,.dead)],nw:=[.vec zh (HQ l i x)] }))
def T5:zF:=fun args hp n=>match args with
 | [.vec a,.int .i64 i,.vec b]=>if a=b then .err else match hp a,hp b with
  | .vec Gt l,.vec Gt [x]=>My a b i l x n
  | _,_=>.err
 | _=>.err

theorem K2 {w:World} {b q:Nat} {arr:Array Value} {T:TypeId} {x:Value} (h:w.heap[b]?=some (.cells arr T (0,0))) (hc:w.cell? ⟨b,q,none⟩=some x):arr[q]?=some x:=by
 simpa [World.cell?,h] using hc

theorem Xh {w:World} {U:Nat→Prop} {ρ:Nat→Option Value} {hp:Nat→AO} {n a b k:Nat} {l:List (Sem zh)} {x:Sem zh} {va vb:Value} (hub:∀ b,U b→b < w.heap.size) (ha:hp a=.vec zh l) (hb:hp b=.vec zh [x]) (hoa:bg w U ρ a (hp a)) (hob:bg w U ρ b (hp b))
  (hinj:∀ q,zP ρ a (hp a) q→zP ρ b (hp b) q→False) (hva:ρ a=some va) (hvb:ρ b=some vb) (hn:ρ n=none) (hk:k < l.length) (hmax:l.length+1≤1073741824):
  Calls Tryz.prog 78 #[va,.int .i64 k,vb] w fun e w'=>∃ v U' ρ',e=.returned v∧Ef n hp { val:=.vec n,wr:=[(a,.dead),(b,.dead)],nw:=[.vec zh (l.take k++x::l.drop k)] } w U ρ v w' U' ρ':=by
 have hwr:∀ id' o,(id',o)∈[(a,AO.dead),(b,AO.dead)]→o=.dead:=by
  intro id' o h
  simp at h
  rcases h with h | h <;> exact h.2
 obtain ⟨i0,z,hinfo,hisz,hpos,hbytes,hz,hzc⟩:=Dy.sh 54 zh rfl
 have e12:zh.size=12:=rfl
 rw [e12] at hisz
 rw [hisz] at hzc
 rw [ha] at hoa
 rw [hb] at hob
 obtain ⟨a0,cap0,f,rfl,hle0,hf0,hone0,hnone0,hcell0⟩:=(qW hoa hva).cells (e:=zh) (by decide)
 obtain ⟨a1,cap1,g,rfl,hle1,hg0,hone1,hnone1,hcell1⟩:=(qW hob hvb).cells (e:=zh) (by decide)
 rw [e12] at hone0 hcell0 hone1 hcell1
 obtain ⟨_,_,q1,_,q3⟩:=hoa
 rw [hva] at q1; cases q1
 obtain ⟨_,_,r1,_,r3⟩:=hob
 rw [hvb] at r1; cases r1
 rcases q3 with ⟨rfl,_⟩ | ⟨B,T,arr,rfl,hc,hUB,hBB,hsz,hleB,_⟩
 ·simp at hk
 rcases r3 with ⟨h,_⟩ | ⟨B2,T2,arr2,rfl,hc2,hUB2,hBB2,hsz2,hleB2,_⟩
 ·cases h
 rw [e12] at hsz hsz2
 have hne:B2≠B:=by
  rintro rfl
  exact hinj B2 ⟨by rw [ha]; rfl,_,hva,by simp [dd]; omega⟩ ⟨by rw [hb]; rfl,_,hvb,by simp [dd]; omega⟩
 have hownA:zP ρ a (hp a) B:=⟨by rw [ha]; rfl,_,hva,by simp [dd]; omega⟩
 have hBlt:=hub B hUB
 have hcs:∀ j v,(aJ 12 l.length f)[j]?=some v→w.cell? ⟨B,j,none⟩=some v:=fun j v h=>by
  have:=hcell0 _ rfl j v h
  rwa [Addr.add_none,eG] at this
 have hvs:∀ j v,(aJ 12 1 g)[j]?=some v→w.cell? ⟨B2,j,none⟩=some v:=fun j v h=>by
  have:=hcell1 _ rfl j v h
  rwa [Addr.add_none,eG] at this
 have hfrz:∀ (b:Nat) (arr:Array Value) (T:TypeId),w.heap[b]?=some (.cells arr T (0,0))→∀ j,w.frozen? ⟨b,j,none⟩=false:=fun b arr T h j=>by simp [World.frozen?,h]
 have hbg:∀ j,j < 12→(aJ 12 1 g)[j]?=some (g 0 j):=fun j hj=>by
  have:=gV (size:=12) (n:=1) (vals:=g) (i:=0) (j:=j) (by omega) hj
  rwa [Nat.zero_mul,eG] at this
 have hgx:∀ (j:Nat) (c:AV),(zn zh x)[j]?=some c→Rv w U ρ c (g 0 j):=fun j c h=>hg0 0 (by simp) j c h
 have hA1:∀ i j,i < l.length→j < 12→arr[i * 12+j]?=some (f i j):=fun i j hi hj=>K2 hBB (hcs _ _ (gV hi hj))
 by_cases hroom:l.length+1≤cap0
 ·
  have hsp:∀ j,j < (l.length+1) * 12→(w.cell? ⟨B,j,none⟩).isSome=true:=fun j hj=>by
   have:j < arr.size:=by rw [hsz]; have:=cN 12 hroom; omega
   simp only [World.cell?,hBB,Option.isSome_none,zH,if_false,hM this,fi]
  refine (JN B l.length cap0 k B2 cap1 (aJ 12 l.length f) (aJ 12 1 g) w hk hroom hmax hne aP aP hcs hsp (hfrz B arr T hBB) hvs hone0 hone1 T2 T arr2.size arr.size ?_ ?_ ?_ (hfrz B2 arr2 T2 hBB2)).mono ?_
  ·simp [World.shape?,hBB2]
  ·simp [World.shape?,hBB]
  ·rw [hsz]; omega
  rintro e w' ⟨rfl,rfl⟩
  have hk1:∀ b',b'≠B→((w.drew.setCells B ((k+1) * 12) ((aJ 12 l.length f).drop (k * 12))).setCells B (k * 12) (aJ 12 1 g)).heap[b']?=w.heap[b']?:=fun b' h=>by
   rw [zX _ _ _ _ _ h,zX _ _ _ _ _ h]; rfl
  have hsize:((w.drew.setCells B ((k+1) * 12) ((aJ 12 l.length f).drop (k * 12))).setCells B (k * 12) (aJ 12 1 g)).heap.size=w.heap.size:=by
   rw [aT,aT]; rfl
  have hBB':=bS (aJ 12 1 g) _ B (k * 12) (bS ((aJ 12 l.length f).drop (k * 12)) w.drew B ((k+1) * 12) hBB)
  rw [List.toList_toArray] at hBB'
  generalize hw':(w.drew.setCells B ((k+1) * 12) ((aJ 12 l.length f).drop (k * 12))).setCells B (k * 12) (aJ 12 1 g)=w' at hk1 hsize hBB'
  have hext:gz w w':=by rw [← hw']; exact ((gz.drew w).trans (gz.setCells _ w.drew B _)).trans (gz.setCells _ _ B _)
  obtain ⟨c1,c2,c3⟩:=Aw (sz:=12) (n:=l.length) (k:=k) arr.toList (aJ 12 1 g) ((aJ 12 l.length f).drop (k * 12)) (f:=f) (g:=g 0) (by omega) aP hbg rfl (by have e:arr.toList.length=cap0 * 12:=(by simpa using hsz); rw [e]; exact cN 12 hroom)
   (fun i j hi hj=>by rw [su]; exact hA1 i j (by omega) hj) _ (.inl rfl)
  have hm:∀ {c:AV} {v:Value},Rv w U ρ c v→Rv w' U (j9 ρ n (.slice (some ⟨B,0,none⟩) (l.length+1) cap0)) c v:=fun h=>h.mono hext.sz (fun b' _ hb'=>hk1 b' fun e=>hb' (e▸hUB)) (fun _ _ h=>h) (dw hn)
  refine ⟨_,U,_,rfl,Ef.newVec hwr hn rfl hext (fun b' _ hno=>hk1 b' fun e=>hno a .dead (by simp) (e▸hownA)) (fun b' h'=>by rw [hsize]; exact hub b' h') (fun _ _=>Iff.rfl) ?_ ?_⟩
  ·refine HR (x:=x) (k:=k) (f:=f) (g:=g 0) (by omega) (by simp [j9]) (by unfold zB; omega) hUB hBB' (by simp [cg,hsz,e12]) hroom ?_ ?_ ?_ (fun i hi j c h=>hm (hf0 i hi j c h)) (fun j c h=>hm (hgx j c h))
   ·intro i j hi hj; rw [jN]; exact c1 i j hi hj
   ·intro j hj; rw [jN]; exact c2 j hj
   ·intro i j hi hi' hj; rw [jN]; exact c3 i j hi hi' hj
  ·intro b' hb'
   simp [dd] at hb'
   exact .inr ⟨a,.dead,by simp,by rw [← hb'.2]; exact hownA⟩
 ·
  refine (Mz B l.length cap0 k B2 cap1 (aJ 12 l.length f) (aJ 12 1 g) w hk hle0 (by omega) hmax i0 z hinfo hisz hbytes hz hzc aP aP hcs hvs hone0 hone1).mono ?_
  rintro e w' ⟨rfl,rfl⟩
  have hge:=grownCap_ge w (l.length+1) cap0 54
  generalize hG:grownCap w (l.length+1) cap0 54=G at hge
  generalize hROW:(((aJ 12 l.length f).take (k * 12)).toArray++Builtin.zeroCells z.cells (l.length+1 - k)++Builtin.zeroCells z.cells (G - (l.length+1)))=ROW
  have hRs:ROW.size=G * 12:=by
   rw [← hROW]
   simp only [Array.size_append,List.size_toArray,sx,aP,gv,hzc]
   omega
  have hRg:∀ i j,i < k→j < 12→ROW[i * 12+j]?=some (f i j):=fun i j hi hj=>by
   rw [← hROW,Array.append_assoc,Array.getElem?_append_left (by simp only [List.size_toArray,sx,aP]; omega),jN,List.getElem?_take_of_lt (by omega)]
   exact gV (by omega) hj
  have hnew:(w.alloc (.cells ROW 54)).heap[w.heap.size]?=some (.cells ROW 54 (0,0)):=dq w _
  have hold2:∀ b',b' < w.heap.size→(w.alloc (.cells ROW 54)).heap[b']?=w.heap[b']?:=fun b' h=>ba w _ b' h
  have hs2:(w.alloc (.cells ROW 54)).heap.size=w.heap.size+1:=aI w _
  have hx2:gz w (w.alloc (.cells ROW 54)):=gz.alloc w ROW 54
  generalize w.alloc (.cells ROW 54)=W2 at hnew hold2 hs2 hx2 ⊢
  have h3:(W2.drew.setCells w.heap.size (k * 12) (aJ 12 1 g)).heap[w.heap.size]?=some (.cells (gh ROW.toList (k * 12) (aJ 12 1 g)).toArray 54 (0,0)):=bS _ W2.drew w.heap.size (k * 12) (show W2.drew.heap[w.heap.size]?=_ from hnew)
  have hold3:∀ b',b' < w.heap.size→(W2.drew.setCells w.heap.size (k * 12) (aJ 12 1 g)).heap[b']?=w.heap[b']?:=fun b' h=>(zX _ W2.drew w.heap.size _ b' (Nat.ne_of_lt h)).trans (show W2.drew.heap[b']?=_ from hold2 b' h)
  have hs3:(W2.drew.setCells w.heap.size (k * 12) (aJ 12 1 g)).heap.size=w.heap.size+1:=(aT _ W2.drew _ _).trans (show W2.drew.heap.size=_ from hs2)
  have hx3:gz w (W2.drew.setCells w.heap.size (k * 12) (aJ 12 1 g)):=(hx2.trans (gz.drew W2)).trans (gz.setCells _ _ _ _)
  generalize W2.drew.setCells w.heap.size (k * 12) (aJ 12 1 g)=W3 at h3 hold3 hs3 hx3 ⊢
  have hBB':(W3.drew.setCells w.heap.size ((k+1) * 12) ((aJ 12 l.length f).drop (k * 12))).heap[w.heap.size]?=some (.cells (gh (gh ROW.toList (k * 12) (aJ 12 1 g)) ((k+1) * 12) ((aJ 12 l.length f).drop (k * 12))).toArray 54 (0,0)):=by
   have:=bS ((aJ 12 l.length f).drop (k * 12)) W3.drew w.heap.size ((k+1) * 12) (show W3.drew.heap[w.heap.size]?=_ from h3)
   rwa [List.toList_toArray] at this
  have hk1:∀ b',b' < w.heap.size→(W3.drew.setCells w.heap.size ((k+1) * 12) ((aJ 12 l.length f).drop (k * 12))).heap[b']?=w.heap[b']?:=fun b' h=>(zX _ W3.drew w.heap.size _ b' (Nat.ne_of_lt h)).trans (show W3.drew.heap[b']?=_ from hold3 b' h)
  have hsize:(W3.drew.setCells w.heap.size ((k+1) * 12) ((aJ 12 l.length f).drop (k * 12))).heap.size=w.heap.size+1:=(aT _ W3.drew _ _).trans (show W3.drew.heap.size=_ from hs3)
  have hext:gz w (W3.drew.setCells w.heap.size ((k+1) * 12) ((aJ 12 l.length f).drop (k * 12))):=(hx3.trans (gz.drew W3)).trans (gz.setCells _ _ _ _)
  generalize W3.drew.setCells w.heap.size ((k+1) * 12) ((aJ 12 l.length f).drop (k * 12))=w' at hk1 hsize hBB' hext ⊢
  obtain ⟨c1,c2,c3⟩:=Aw (sz:=12) (n:=l.length) (k:=k) ROW.toList (aJ 12 1 g) ((aJ 12 l.length f).drop (k * 12)) (f:=f) (g:=g 0) (by omega) aP hbg rfl (by have e:ROW.toList.length=G * 12:=(by simpa using hRs); rw [e]; exact cN 12 hge)
   (fun i j hi hj=>by rw [su]; exact hRg i j hi hj) _ (.inr rfl)
  obtain ⟨U2,u1,u2,u3⟩:∃ U2:Nat→Prop,(∀ b,b < w.heap.size→(U2 b↔U b))∧U2 w.heap.size∧∀ b,U2 b→b < w'.heap.size:=
   ⟨fun b=>U b∨b=w.heap.size,fun b hb=>⟨fun h=>h.elim id fun e=>absurd e (Nat.ne_of_lt hb),.inl⟩,.inr rfl,fun b h=>by
    rw [hsize]
    rcases h with h | h
    ·exact Nat.lt_succ_of_lt (hub b h)
    ·rw [h]; exact Nat.lt_succ_self _⟩
  have hm:∀ {c:AV} {v:Value},Rv w U ρ c v→Rv w' U2 (j9 ρ n (.slice (some ⟨w.heap.size,0,none⟩) (l.length+1) G)) c v:=fun h=>h.mono hext.sz (fun b' hb' _=>hk1 b' hb') (fun b hb h=>(u1 b hb).1 h) (dw hn)
  refine ⟨_,U2,_,rfl,Ef.newVec hwr hn rfl hext (fun b' hb' _=>hk1 b' hb') u3 u1 ?_ ?_⟩
  ·refine HR (x:=x) (k:=k) (f:=f) (g:=g 0) (by omega) (by simp [j9]) (by unfold zB; omega) u2 hBB' (by simp [cg,hRs,e12]) hge ?_ ?_ ?_ (fun i hi j c h=>hm (hf0 i hi j c h)) (fun j c h=>hm (hgx j c h))
   ·intro i j hi hj; rw [jN]; exact c1 i j hi hj
   ·intro j hj; rw [jN]; exact c2 j hj
   ·intro i j hi hi' hj; rw [jN]; exact c3 i j hi hi' hj
  ·intro b' hb'
   simp [dd] at hb'
   exact .inl (Nat.le_of_eq hb'.2)

abbrev zeo:=mn []
theorem zfe:zA HE.P 78 Tryz.f78 3:=aS (by kernel_rfl)
noncomputable def Xc (l:List (Sem zh)) (i:Int) (x:Sem zh):Tr (Empty ⊕ ao):=
 Tr.chk (decide (0≤i)&&decide (i≤(↑l.length:Int)))
 (Tr.br ((↑[x].length:Int)==0)
  (Tr.re (AV.vec 0) [AO.vec zh l,AO.vec zh [x]])
  (Tr.br (i==(↑l.length:Int)) (Tr.chk (decide (l.length+[x].length≤1073741824)) (Tr.re (AV.vec 2) [AO.dead,AO.vec zh [x],AO.vec zh (l++[x])])) Tr.err))
theorem zdh (l:List (Sem zh)) (i:Int) (x:Sem zh):rn HE 2 zeo Tryz.f78 [AV.vec 0,AV.int .i64 i,AV.vec 1] [AO.vec zh l,AO.vec zh [x]]=(Xc l i x).map (lf Tryz.f78 e0):=by kernel_rfl
def zcc:cG [none,none,none]:=fun a h=>match a,h with
 | (.vec 0,.int .i64 i,.vec 1,_),[.vec Gt l,.vec Gt [x]]=>.chk (i==(length l:Int)) (.chk (decide (length l+1≤1073741824)) (.ok (.vec 2,[.dead,.vec zh [x],.vec zh (l++[x])])))
 | _,_=>.err
def zaq:zF:=zU [none,none,none] zcc
theorem VC:FK 78 zaq:=by
 refine fv (ι:=List (Sem zh)×Int×Sem zh) (args:=fun y=>[AV.vec 0,AV.int .i64 y.2.1,AV.vec 1]) (heap:=fun y=>[AO.vec zh y.1,AO.vec zh [y.2.2]]) (i:=fun y=>Xc y.1 y.2.1 y.2.2) (t:=t0) (e:=e0) (n:=100000000) (n0:=2) y7 zfe (fun _=>rfl) (fun y=>zdh _ _ _) (fun s=>nomatch s) (fun a h res hv=>?_)
 unfold zcc at hv
 split at hv
 ·rename_i i u l x
  simp only [Tr.val] at hv
  split at hv
  ·rename_i h1
   split at hv
   ·rename_i h2
    simp only [ap] at hv
    subst hv
    refine ⟨(l,i,x),rfl,rfl,?_⟩
    have h3:i=(length l:Int):=by simpa using h1
    subst h3
    have h4:length l+1≤1073741824:=by simpa using h2
    unfold bl Xc
    simp [Tr.val,h4]
   ·cases hv
  ·cases hv
 ·simp at hv

theorem KI:FK 78 T5 where
 fn:=⟨Tryz.f78,by kernel_rfl,by kernel_rfl,by kernel_rfl⟩
 calls:=fun w U ρ hp n args vals f fp hf hr hub hgl hfp hin hcl hnw=>by
  unfold T5 at hf
  split at hf
  ·rename_i a i b
   split at hf
   ·simp at hf
   rename_i hab
   split at hf
   ·rename_i l x ha hb
    unfold My at hf
    simp only [Tr.val_chk,Tr.val_ok,ap] at hf
    obtain ⟨h1,h2,rfl⟩:=hf
    obtain ⟨h0,h1⟩:=g5.1 h1
    obtain ⟨k,rfl⟩:=Int.eq_ofNat_of_zero_le h0
    have hl:=hr.len
    match vals,hl,hr with
    | [va,vi,vb],_,hr=>
     have r0:=hr.rv 0 _ va rfl rfl
     have r1:=hr.rv 1 _ vi rfl rfl
     have r2:=hr.rv 2 _ vb rfl rfl
     cases r0 with
     | vec _ _ hva _=>
     cases r1 with
     | int _ _ _=>
     cases r2 with
     | vec _ _ hvb _=>
     have ia:a∈fp:=hin a (by simp [AV.idsL,AV.ids])
     have ib:b∈fp:=hin b (by simp [AV.idsL,AV.ids])
     refine ⟨Xh hub ha hb (hfp.ob a ia) (hfp.ob b ib) (fun q ho ho'=>hab (hfp.inj a ia b ib q ho ho')) hva hvb (hnw 0 (by simp)) (by omega) (by simpa using h2),fun id o ho=>?_⟩
     simp at ho
     rcases ho with ⟨rfl,_⟩ | ⟨rfl,_⟩
     ·exact ia
     ·exact ib
   ·simp at hf
  ·simp at hf

def T6:zF:=fun args hp n=>match args with
 | [.vec a,.int .i64 i,.vec b]=>match hp a with
  | .vec Gt l=>.br (i==(length l:Int)) (zaq [.vec a,.int .i64 i,.vec b] hp n) (T5 [.vec a,.int .i64 i,.vec b] hp n)
  | _=>.err
 | _=>.err
theorem VE:FK 78 T6 where
 fn:=KI.fn
 calls:=fun w U ρ hp n args vals f fp hf hr hub hgl hfp hin hcl hnw=>by
  unfold T6 at hf
  split at hf
  ·split at hf
   ·simp only [Tr.val] at hf
    split at hf
    ·exact VC.calls w U ρ hp n _ vals f fp hf hr hub hgl hfp hin hcl hnw
    ·exact KI.calls w U ρ hp n _ vals f fp hf hr hub hgl hfp hin hcl hnw
   ·simp at hf
  ·simp at hf

noncomputable def FE:=HE.add 78 T6
theorem lC:zl FE:=y7.add VE
noncomputable section
def Qv:bx:={ FE with own:=true }
theorem DN:zl Qv:=⟨⟨lC.sh⟩,lC.fs,lC.mix⟩

def Mx (x0:Sem zh.sl) (x1:Sem zh):Tr (Empty ⊕ ao):=
 let a0:=zO x0 x1.1.1
 let a1:=((x1.1.1,x1.1.2.1,x1.1.2.2.1,x1.1.2.2.2.1,x1.1.2.2.2.2.1,zE x1.1.2.2.2.2.2),x1.2)
 let a2:=zL (fun y => !(Op.bytesLess y.1.1 x1.1.1||y.1.1==x1.1.1)) x0 0
 let a3:=(↑(length x0):Int)==(↑(length x0):Int)
 let a4:=decide (length x0+1≤1073741824)
 let a5:=a2==(↑(length x0):Int)
 Tr.chk (decide (length x0≤1073741824))
 (Tr.br (decide (a0 ≥ 0))
  (Tr.chk (zI a0 (length x0)) (Tr.chk (decide (toNat a0 < length x0)) (Tr.re (AV.vec 0) [AO.vec zh (List.set x0 (toNat a0) a1)])))
  (Tr.br (decide (a2 < 0)) (Tr.br a3 (Tr.chk a3 (Tr.chk (decide (length x0+1≤1073741824)) (Tr.re (AV.vec 0) [AO.vec zh (x0++[a1])]))) (Tr.chk (zI (↑(length x0):Int) (length x0)) (Tr.chk a4 (Tr.re (AV.vec 0) [AO.vec zh (HQ x0 (↑(length x0):Int) a1)])))) (Tr.br a5 (Tr.chk a5 (Tr.chk (decide (length x0+1≤1073741824)) (Tr.re (AV.vec 0) [AO.vec zh
  (x0++[a1])]))) (Tr.chk (zI a2 (length x0)) (Tr.chk a4 (Tr.re (AV.vec 0) [AO.vec zh (HQ x0 a2 a1)]))))))
def lA (x0:Sem zh.sl) (x1:Sem zh):=zW [zh.sl] t0 100000000 (Mx x0 x1)
def jv (x0:Sem zh.sl) (x1:Sem zh):=(lA x0 x1).isSome
def jU (x0:Sem zh.sl) (x1:Sem zh):=o1 (lA x0 x1)
def Z4:=FT [zh.sl,zh] [zh.sl] fun x=>lA x.1 x.2.1
theorem Ve:FK 41 Z4:=DN.T1 (f:=Tryz.f41) (keep:=k0) (e:=e0)

def y8:=FE.add 41 Z4
theorem rI:zl y8:=lC.add Ve

end
noncomputable section
abbrev ag:Sh:=.pr (.sl zh) zo

abbrev Tv:=mn [(4,[3,7,8,20,21,22])]
inductive I3 where
 | h4 (i7:Sem zg) (l20:List (Sem zf.sl)) (i21:Int) (i22:Int) (z0:zu [CP.d zh]) (mh_1:List ((Int×Int×zp)×Int))
abbrev Lj:I3→Nat×St
 | .h4 i7 l20 i21 i22 z0 mh_1=>(4,⟨tm 35 [(3,AV.ptr 0 0),(7,AV.int .i64 i7),(8,AV.mp 1),(20,AV.sl zf.sl l20),(21,AV.int .i64 i21),(22,AV.int .i64 i22)],[AO.box (bK [] [CP.d zh] z0),AO.vmap true mh_1]⟩)
theorem zeW:zA y8.P 47 Tryz.f47 2:=aS (by kernel_rfl)
def QJ (d:Sem ag) (x:Sem zh):Tr (I3 ⊕ ao):=
 let a0:=((x.1.1,x.1.2.1,x.1.2.2.1,x.1.2.2.2.1,x.1.2.2.2.2.1,zE x.1.2.2.2.2.2),x.2)
 let a1:=zE d.2.2.2.2.2.2.2.2.2.2.2.2.1
 let a2:=r8 a0 a1
 Tr.chk (nY a0 a1) (Tr.to (I3.h4 a2.2 a2.1 (↑(length a2.1):Int) 0 (x,()) []))
theorem zc7 (d:Sem ag) (x:Sem zh):rn y8 0 Tv Tryz.f47 [zz ag d,zz zh x] []=(QJ d x).map (lf Tryz.f47 Lj):=by kernel_rfl
def Kk:I3→Tr (I3 ⊕ ao)
 | .h4 i7 l20 i21 i22 z0 mh_1=>
  let a0:=(z0.1.1.1,z0.1.1.2.1,z0.1.1.2.2.1,z0.1.1.2.2.2.1,z0.1.1.2.2.2.2.1,zE z0.1.1.2.2.2.2.2)
  let a1:=l20.getD i22.toNat (zj zf.sl)
  Tr.br (decide (i22 < i21))
  (Tr.chk (zI i22 l20.length) (Tr.chk (Ov a0 a1) (Tr.to (I3.h4 i7 l20 i21 (IntKind.i64.wrap (i22+1)) z0 (iI mh_1 (YE a0 a1) 0)))))
  (Tr.re (AV.tup [AV.mp 0,AV.int .i64 i7]) [AO.vmap true mh_1])
theorem zfy:∀ s,run y8 0 Tv (Func.results Tryz.f47).toList 400 (zy Tryz.f47 (Lj s).1) (Lj s).2=(Kk s).map (lf Tryz.f47 Lj):=by intro s; cases s <;> kernel_rfl
def Hv (d:Sem ag) (x:Sem zh):=bl Kk 100000000 (QJ d x)

def mO (d:Sem ag) (x:Sem zh):Option (List ((Int×Int×zp)×Int)×Int):=match Hv d x with
 | some (.tup [.mp 0,.int .i64 e],[.vmap true es])=>some (es,e)
 | _=>none
def mV (d:Sem ag) (x:Sem zh):List ((Int×Int×zp)×Int)×Int:=(mO d x).getD ([],0)
theorem zev {d:Sem ag} {x:Sem zh} (h:(mO d x).isSome=true):Hv d x=some (.tup [.mp 0,.int .i64 (mV d x).2],[.vmap true (mV d x).1]):=by
 unfold mV
 unfold mO at h ⊢
 split at h
 ·rename_i e es hd
  rw [hd]
  rfl
 ·cases h
def zb9:cG [some ag,some zh]:=fun a h=>match h with
 | []=>.chk ((mO a.1 a.2.1).isSome) (.ok (.tup [.mp 0,.int .i64 (mV a.1 a.2.1).2],[.vmap true (mV a.1 a.2.1).1]))
 | _=>.err
def Z9:zF:=zU [some ag,some zh] zb9
theorem Vj:FK 47 Z9:=by
 refine fv (ι:=Sem ag×Sem zh) (args:=fun y=>[zz ag y.1,zz zh y.2]) (heap:=fun _=>[]) (i:=fun y=>QJ y.1 y.2) (t:=Kk) (e:=Lj) (n:=100000000) (n0:=0) rI zeW (fun _=>rfl) (fun y=>zc7 _ _) zfy (fun a h res hv=>?_)
 unfold zb9 at hv
 split at hv
 ·simp only [Tr.val] at hv
  split at hv
  ·rename_i h1
   simp only [ap] at hv
   subst hv
   exact ⟨(a.1,a.2.1),rfl,rfl,zev h1⟩
  ·cases hv
 ·simp at hv

def zac:zF:=zU (List.replicate 3 none) (bZ y8 Tryz.f50 (List.replicate 3 none))
theorem Vm:FK 50 zac:=aw _ rI (aS (by kernel_rfl))

def DJ:=y8.addL [(47,Z9),(50,zac)]
theorem y9:zl DJ:=rI.addL <| fc Vj <| fc Vm <|  jn
end

abbrev Tz:=mn [(2,[0,1,7,8])]
inductive I6 where
 | h2 (i7:Int) (i8:Int) (z2:zu [CP.d zh]) (lh_0:List (Sem zf.sl)) (mh_3:List ((Int×Int×zp)×Int))
abbrev Lp:I6→Nat×St
 | .h2 i7 i8 z2 lh_0 mh_3=>(2,⟨tm 19 [(0,AV.vec 0),(1,AV.clo (Fn.func 50) [] [AV.ptr 1 0,AV.ptr 2 0]),(7,AV.int .i64 i7),(8,AV.int .i64 i8)],[AO.vec zf.sl lh_0,AO.box [AV.mp 3],AO.box (bK [] [CP.d zh] z2),AO.vmap true mh_3]⟩)
theorem zfn:zA DJ.P 88 Tryz.f88 2:=aS (by kernel_rfl)
noncomputable def Xf (l:List (List (Sem zf))) (x:Sem zh) (es:List ((Int×Int×zp)×Int)):Tr (I6 ⊕ ao):=
 Tr.to (I6.h2 (↑l.length:Int) 0 (x,()) l es)
theorem zdk (l:List (List (Sem zf))) (x:Sem zh) (es:List ((Int×Int×zp)×Int)):rn DJ 4 Tz Tryz.f88 [AV.vec 0,AV.clo (Fn.func 50) [] [AV.ptr 1 0,AV.ptr 2 0]] [AO.vec (Sh.sl zf) l,AO.box [AV.mp 3],AO.box (bK [] [CP.d zh] (x,())),AO.vmap true es]=(Xf l x es).map (lf Tryz.f88 Lp):=by kernel_rfl
noncomputable def Ko:I6→Tr (I6 ⊕ ao)
 | .h2 i7 i8 z2 lh_0 mh_3=>
  let a0:=lh_0.getD i8.toNat (zj zf.sl)
  Tr.br (decide (i8 < i7))
  (Tr.chk (zI i8 lh_0.length) (Tr.chk (decide (i8.toNat < lh_0.length)) (Tr.chk (zI z2.1.1.2.2.1 (length a0)) (Tr.br (fT mh_3 (getD a0 (toNat z2.1.1.2.2.1) (zj zf))) (Tr.re (AV.int .i64 i8) [AO.vec zf.sl lh_0,AO.box [AV.mp 3],AO.box [AV.str z2.1.1.1,AV.sl zi z2.1.1.2.1,AV.int .i64 z2.1.1.2.2.1,AV.sl zg z2.1.1.2.2.2.1,AV.sl zq z2.1.1.2.2.2.2.1,
  AV.str (ze.op z2.1.1.2.2.2.2.2),AV.int .i64 (ze.v z2.1.1.2.2.2.2.2).1,AV.int .i64 (ze.v z2.1.1.2.2.2.2.2).2.1,AV.str (ze.v z2.1.1.2.2.2.2.2).2.2,AV.str (ze.s z2.1.1.2.2.2.2.2),AV.sl Sh.expr (ze.l z2.1.1.2.2.2.2.2),AV.sl zf.sl z2.1.2],AO.vmap true mh_3]) (Tr.to (I6.h2 i7 (IntKind.i64.wrap (i8+1)) z2 lh_0 mh_3))))))
  (Tr.re (AV.int .i64 (-1)) [AO.vec zf.sl lh_0,AO.box [AV.mp 3],AO.box [AV.str z2.1.1.1,AV.sl zi z2.1.1.2.1,AV.int .i64 z2.1.1.2.2.1,AV.sl zg z2.1.1.2.2.2.1,AV.sl zq z2.1.1.2.2.2.2.1,AV.str (ze.op z2.1.1.2.2.2.2.2),AV.int .i64 (ze.v z2.1.1.2.2.2.2.2).1,AV.int .i64 (ze.v z2.1.1.2.2.2.2.2).2.1,AV.str (ze.v z2.1.1.2.2.2.2.2).2.2,
  AV.str (ze.s z2.1.1.2.2.2.2.2),AV.sl Sh.expr (ze.l z2.1.1.2.2.2.2.2),AV.sl zf.sl z2.1.2],AO.vmap true mh_3])
theorem zfI:∀ s,run DJ 4 Tz (Func.results Tryz.f88).toList 400 (zy Tryz.f88 (Lp s).1) (Lp s).2=(Ko s).map (lf Tryz.f88 Lp):=by intro s; cases s <;> kernel_rfl
noncomputable def zia (l:List (List (Sem zf))) (x:Sem zh) (es:List ((Int×Int×zp)×Int)):=bl Ko 100000000 (Xf l x es)


def jC (k:Int) (es:List ((Int×Int×zp)×Int)) (r:List (Sem zf)):Bool:=fT es (getD r (toNat k) (zj zf))
def MH (l:List (List (Sem zf))) (x:Sem zh) (es:List ((Int×Int×zp)×Int)):List AO:=[AO.vec zf.sl l,AO.box [AV.mp 3],AO.box (bK [] [CP.d zh] (x,())),AO.vmap true es]
theorem Xj (l:List (List (Sem zf))) (x:Sem zh) (es:List ((Int×Int×zp)×Int)) (hl:l.length≤1000000) (hk:∀ r∈l,zI x.1.2.2.1 (length r)=true):∀ (m i n:Nat),l.length - i=m→i≤l.length→m < n→
  bw Ko n (.h2 (l.length:Int) (i:Int) (x,()) l es)=some (.int .i64 (zL (jC x.1.2.2.1 es) (l.drop i) i),MH l x es):=by
 intro m
 induction m with
 | zero=>
  intro i n hm hi hn
  obtain rfl:i=l.length:=by omega
  obtain ⟨n,rfl⟩:∃ k,n=k+1:=⟨n - 1,by omega⟩
  rw [bw]
  simp only [Ko,Tr.val,zY,cL]
  rfl
 | succ m IH=>
  intro i n hm hi hn
  have hlt:i < l.length:=by omega
  have h2:decide ((i:Int).toNat < l.length)=true:=by simpa using hlt
  obtain ⟨n,rfl⟩:∃ k,n=k+1:=⟨n - 1,by omega⟩
  have h3:=hk l[i] (cZ hlt)
  rw [bw,cX hlt]
  simp only [Ko,Tr.val,zT hlt,zC hlt,h2,ae l _ hlt,zD i (by unfold zB; omega),if_true,zL,h3]
  by_cases h:jC x.1.2.2.1 es l[i]=true
  ·have h':fT es (getD l[i] (toNat x.1.2.2.1) (zj zf))=true:=h
   rw [h]
   simp only [h',if_true]
   rfl
  ·have h':¬ fT es (getD l[i] (toNat x.1.2.2.1) (zj zf))=true:=h
   rw [if_neg h',Bool.eq_false_iff.2 h]
   dsimp only
   exact IH (i+1) n (by omega) (by omega) (by omega)
theorem QQ (l:List (List (Sem zf))) (x:Sem zh) (es:List ((Int×Int×zp)×Int)) (hl:l.length≤1000000) (hk:∀ r∈l,zI x.1.2.2.1 (length r)=true):zia l x es=some (.int .i64 (zL (jC x.1.2.2.1 es) l 0),MH l x es):=by
 have:=Xj l x es hl hk l.length 0 100000000 rfl (aV _) (by omega)
 rw [List.drop_zero] at this
 exact this

@[match_pattern] abbrev wM:Sh:=.pr (.int .i64) (.pr (.int .i64) .str)
@[match_pattern] abbrev zfM:Sh:=.pr .str (.pr (.int .i64) .bool)
@[match_pattern] abbrev zfN:Sh:=.pr (.int .i64) .str
def zce:cG [none,none]:=fun a h=>match a,h with
 | (.vec 0,.clo (.func 50) [] [.ptr 1 0,.ptr 2 0],_),[.vec (.sl wM) l,.box [.mp 3],.box [.str n,.sl zfM cs,.int .i64 k,.sl (.int .i64) us,.sl zfN fs,.str eo,.int .i64 p,.int .i64 q,.str vs,.str ss,.sl .expr el,.sl (.sl wM) rs],.vmap true es]=>
  .chk (decide (length l≤1000000)&&List.all l (fun r=>zI k (length r))) (.ok (.int .i64 (zL (jC k es) l 0),[.vec (.sl zf) l,.box [.mp 3],.box [.str n,.sl zi cs,.int .i64 k,.sl zg us,.sl zq fs,.str eo,.int .i64 p,.int .i64 q,.str vs,.str ss,.sl .expr el,.sl (.sl zf) rs],.vmap true es]))
 | _,_=>.err
def zaC:zF:=zU [none,none] zce
theorem VP:FK 88 zaC:=by
 refine fv (ι:=List (List (Sem zf))×Sem zh×List ((Int×Int×zp)×Int)) (args:=fun _=>[AV.vec 0,AV.clo (Fn.func 50) [] [AV.ptr 1 0,AV.ptr 2 0]]) (heap:=fun y=>MH y.1 y.2.1 y.2.2) (i:=fun y=>Xf y.1 y.2.1 y.2.2) (t:=Ko) (e:=Lp) (n:=100000000) (n0:=4) y9 zfn (fun _=>rfl) (fun y=>zdk _ _ _) zfI (fun a h res hv=>?_)
 unfold zce at hv
 split at hv
 ·rename_i u l n cs k us fs eo p q vs ss el rs es
  simp only [Tr.val] at hv
  split at hv
  ·rename_i h1
   simp only [ap] at hv
   subst hv
   simp only [aM,zZ,cY] at h1
   exact ⟨(l,((n,cs,k,us,fs,ze.mk eo (p,q,vs) ss el),rs),es),rfl,rfl,QQ l ((n,cs,k,us,fs,ze.mk eo (p,q,vs) ss el),rs) es h1.1 h1.2⟩
  ·cases hv
 ·simp at hv

noncomputable def DK:=DJ.add 88 zaC
theorem Aa:zl DK:=y9.add VP

abbrev Tw:=mn [(5,[0,1,5,6])]
inductive E5 where
 | h5 (i5:Int) (i6:Int) (z2:zu [CP.d zh]) (lh_0:List (Sem zf.sl)) (mh_3:List ((Int×Int×zp)×Int))
abbrev Lk:E5→Nat×St
 | .h5 i5 i6 z2 lh_0 mh_3=>(5,⟨tm 42 [(0,AV.vec 0),(1,AV.clo (Fn.func 50) [] [AV.ptr 1 0,AV.ptr 2 0]),(5,AV.int .i64 i5),(6,AV.int .i64 i6)],[AO.vec zf.sl lh_0,AO.box [AV.mp 3],AO.box (bK [] [CP.d zh] z2),AO.vmap true mh_3]⟩)
theorem zeZ:zA DK.P 49 Tryz.f49 2:=aS (by kernel_rfl)
noncomputable def QK (l:List (List (Sem zf))) (x:Sem zh) (es:List ((Int×Int×zp)×Int)):Tr (E5 ⊕ ao):=
 let a0:=zL (jC x.1.2.2.1 es) l 0
 Tr.chk (decide (l.length≤1000000)&&l.all fun r=>zI x.1.2.2.1 (length r))
 (Tr.br (a0==-1)
  (Tr.re (AV.vec 0) [AO.vec zf.sl l,AO.box [AV.mp 3],AO.box [AV.str x.1.1,AV.sl zi x.1.2.1,AV.int .i64 x.1.2.2.1,AV.sl zg x.1.2.2.2.1,AV.sl zq x.1.2.2.2.2.1,AV.str (ze.op x.1.2.2.2.2.2),AV.int .i64 (ze.v x.1.2.2.2.2.2).1,AV.int .i64 (ze.v x.1.2.2.2.2.2).2.1,AV.str (ze.v x.1.2.2.2.2.2).2.2,AV.str (ze.s x.1.2.2.2.2.2),AV.sl Sh.expr (ze.l x.1.2.2.2.2.2),
  AV.sl zf.sl x.2],AO.vmap true es])
  (Tr.to (E5.h5 a0 (IntKind.i64.wrap (a0+1)) (x,()) l es)))
theorem zc9 (l:List (List (Sem zf))) (x:Sem zh) (es:List ((Int×Int×zp)×Int)):rn DK 4 Tw Tryz.f49 [AV.vec 0,AV.clo (Fn.func 50) [] [AV.ptr 1 0,AV.ptr 2 0]] [AO.vec (Sh.sl zf) l,AO.box [AV.mp 3],AO.box (bK [] [CP.d zh] (x,())),AO.vmap true es]=(QK l x es).map (lf Tryz.f49 Lk):=by kernel_rfl
noncomputable def Kl:E5→Tr (E5 ⊕ ao)
 | .h5 i5 i6 z2 lh_0 mh_3=>
  let a0:=lh_0.getD i6.toNat (zj zf.sl)
  let a1:=IntKind.i64.wrap (i6+1)
  let a2:=decide (0≤i5)
  let a3:=List.take i5.toNat lh_0++List.replicate (lh_0.length - i5.toNat) []
  let a4:=(↑a3.length:Int)
  Tr.br (decide (i6 < (↑lh_0.length:Int)))
  (Tr.chk (zI i6 lh_0.length) (Tr.chk (decide (i6.toNat < lh_0.length)) (Tr.chk (zI z2.1.1.2.2.1 (length a0)) (Tr.br (!fT mh_3 (getD a0 (toNat z2.1.1.2.2.1) (zj zf))) (Tr.chk (zI i5 lh_0.length) (Tr.chk (decide (i5.toNat < lh_0.length)) (Tr.to (E5.h5 (IntKind.i64.wrap (i5+1)) a1 z2 (lh_0.set i5.toNat a0) mh_3)))) (Tr.to (E5.h5 i5 a1 z2 lh_0 mh_3))))))
  (Tr.chk (a2&&decide (i5≤(↑lh_0.length:Int))) (Tr.chk (decide (i5.toNat≤lh_0.length)) (Tr.chk (decide (0≤0)&&a2&&decide (i5≤a4)) (Tr.re (AV.sl zf.sl (List.take (i5.toNat - toNat 0) (List.drop (toNat 0) a3))) [AO.frz zf.sl a3,AO.box [AV.mp 3],AO.box [AV.str z2.1.1.1,AV.sl zi z2.1.1.2.1,AV.int .i64 z2.1.1.2.2.1,
  AV.sl zg z2.1.1.2.2.2.1,AV.sl zq z2.1.1.2.2.2.2.1,AV.str (ze.op z2.1.1.2.2.2.2.2),AV.int .i64 (ze.v z2.1.1.2.2.2.2.2).1,AV.int .i64 (ze.v z2.1.1.2.2.2.2.2).2.1,AV.str (ze.v z2.1.1.2.2.2.2.2).2.2,AV.str (ze.s z2.1.1.2.2.2.2.2),AV.sl Sh.expr (ze.l z2.1.1.2.2.2.2.2),AV.sl zf.sl z2.1.2],AO.vmap true mh_3]))))
theorem zfz:∀ s,run DK 4 Tw (Func.results Tryz.f49).toList 400 (zy Tryz.f49 (Lk s).1) (Lk s).2=(Kl s).map (lf Tryz.f49 Lk):=by intro s; cases s <;> kernel_rfl
noncomputable def SU (l:List (List (Sem zf))) (x:Sem zh) (es:List ((Int×Int×zp)×Int)):=bl Kl 100000000 (QK l x es)

set_option maxHeartbeats 2000000

theorem cd {α:Type} (p:α→Bool):∀ (l:List α) (i:Nat),(zL p l i=-1∧∀ x∈l,p x=false)∨∃ (k:Nat) (h:k < l.length),zL p l i=((i+k:Nat):Int)∧p l[k]=true∧∀ x∈l.take k,p x=false
 | [],_=>.inl ⟨rfl,by simp⟩
 | x::r,i=>by
  unfold zL
  split
  ·rename_i h
   exact .inr ⟨0,by simp,rfl,h,by simp⟩
  ·rename_i h
   have hx:p x=false:=by simpa using h
   rcases cd p r (i+1) with ⟨h1,h2⟩ | ⟨k,hk,h1,h2,h3⟩
   ·refine .inl ⟨h1,fun y hy=>?_⟩
    rcases c9.1 hy with rfl | hy
    ·exact hx
    ·exact h2 y hy
   ·refine .inr ⟨k+1,by simpa using hk,by rw [h1]; congr 1; omega,by simpa using h2,fun y hy=>?_⟩
    rw [List.take_succ_cons] at hy
    rcases c9.1 hy with rfl | hy
    ·exact hx
    ·exact h3 y hy

theorem AY {α:Type} {l:List α} {i:Nat} (h:i < l.length):l.take (i+1)=l.take i++[l[i]]:=by
 rw [List.take_add_one,zJ h]; rfl
abbrev pu (k:Int) (es:List ((Int×Int×zp)×Int)):List (Sem zf)→Bool:=fun r => !jC k es r
abbrev IM (k:Int) (es:List ((Int×Int×zp)×Int)) (l:List (List (Sem zf))):List (List (Sem zf)):=l.filter (pu k es)++List.replicate (l.length - (l.filter (pu k es)).length) ([]:List (Sem zf))
def zcy (x:Sem zh) (es:List ((Int×Int×zp)×Int)) (l:List (List (Sem zf))):List AO:=[AO.frz zf.sl (IM x.1.2.2.1 es l),AO.box [AV.mp 3],AO.box (bK [] [CP.d zh] (x,())),AO.vmap true es]

theorem Qp (l:List (List (Sem zf))) (x:Sem zh) (es:List ((Int×Int×zp)×Int)) (hl:l.length≤1000000) (hk:∀ r∈l,zI x.1.2.2.1 (length r)=true):∀ (m i6 i5 n:Nat) (cur:List (List (Sem zf))),l.length - i6=m→i6≤l.length→i5≤i6→cur.length=l.length→
  cur.take i5=(l.take i6).filter (pu x.1.2.2.1 es)→cur.drop i6=l.drop i6→m < n→
  bw Kl n (.h5 (i5:Int) (i6:Int) (x,()) cur es)=some (.sl zf.sl (l.filter (pu x.1.2.2.1 es)),zcy x es l):=by
 intro m
 induction m with
 | zero=>
  intro i6 i5 n cur hm' hi h5 hcl ht hd hn
  obtain rfl:i6=l.length:=by omega
  obtain ⟨n,rfl⟩:∃ k,n=k+1:=⟨n - 1,by omega⟩
  rw [List.take_length] at ht
  have hlen5:(l.filter (pu x.1.2.2.1 es)).length=i5:=by rw [← ht,sx]; omega
  have e1:decide ((l.length:Int) < (cur.length:Int))=false:=by rw [hcl]; simp
  have e2:(decide ((0:Int)≤(i5:Int))&&decide ((i5:Int)≤(cur.length:Int)))=true:=by simp; omega
  have e3:decide ((i5:Int).toNat≤cur.length)=true:=by simp; omega
  have e4:(decide ((0:Int)≤0)&&decide ((0:Int)≤(i5:Int))&&decide ((i5:Int)≤((List.take (i5:Int).toNat cur++List.replicate (cur.length - (i5:Int).toNat) ([]:List (Sem zf))).length:Int)))=true:=by simp; omega
  rw [bw]
  simp only [Kl,Tr.val,e1,e2,e3,if_true,zH,if_false]
  have e5:List.take ((i5:Int).toNat - toNat 0) (List.drop (toNat 0) (List.take (i5:Int).toNat cur++List.replicate (cur.length - (i5:Int).toNat) ([]:List (Sem zf))))=l.filter (pu x.1.2.2.1 es):=by
   simp only [aQ,Int.toNat_zero,List.drop_zero,Nat.sub_zero]
   rw [List.take_append_of_le_length (by simp; omega),List.take_take,Nat.min_self,ht]
  have e6:List.take (i5:Int).toNat cur++List.replicate (cur.length - (i5:Int).toNat) ([]:List (Sem zf))=IM x.1.2.2.1 es l:=by
   simp only [aQ]
   rw [ht,hcl]
   unfold IM
   rw [hlen5]
  rw [if_pos (by simp; omega),e5,e6]
  rfl
 | succ m IH=>
  intro i6 i5 n cur hm' hi h5 hcl ht hd hn
  obtain ⟨n,rfl⟩:∃ k,n=k+1:=⟨n - 1,by omega⟩
  have hlt:i6 < l.length:=by omega
  have hltc:i6 < cur.length:=by omega
  have h5c:i5 < cur.length:=by omega
  have hc6:cur[i6]=l[i6]:=by
   have:=congrArg (·[0]?) hd
   simp only [jO,oC] at this
   rw [zJ hltc,zJ hlt] at this
   exact Option.some.inj this
  have h2:decide ((i6:Int).toNat < cur.length)=true:=by simpa using hltc
  have h3:decide ((i5:Int).toNat < cur.length)=true:=by simpa using h5c
  have ht6:l.take (i6+1)=l.take i6++[l[i6]]:=AY hlt
  have hd6:cur.drop (i6+1)=l.drop (i6+1):=by
   have:=congrArg (List.drop 1) hd
   simpa [List.drop_drop,oB] using this
  have h7:=hk l[i6] (cZ hlt)
  rw [bw]
  simp only [Kl,Tr.val,zT hltc,zC hltc,zC h5c,h2,h3,ae cur _ hltc,hc6,h7,zD i6 (by unfold zB; omega),zD i5 (by unfold zB; omega),if_true]
  by_cases hk':jC x.1.2.2.1 es l[i6]=true
  ·have h':fT es (getD l[i6] (toNat x.1.2.2.1) (zj zf))=true:=hk'
   simp only [h',fk,zH,if_false]
   refine IH (i6+1) i5 n cur (by omega) (by omega) (by omega) hcl ?_ hd6 (by omega)
   rw [ht6,List.filter_append,← ht,List.filter_cons_of_neg (by simp [pu,hk']),List.filter_nil,jQ]
  ·have hkf:jC x.1.2.2.1 es l[i6]=false:=by simpa using hk'
   have h':fT es (getD l[i6] (toNat x.1.2.2.1) (zj zf))=false:=hkf
   simp only [h',pH,if_true]
   refine IH (i6+1) (i5+1) n _ (by omega) (by omega) (by omega) (by simpa using hcl) ?_ ?_ (by omega)
   ·rw [ht6,List.filter_append,← ht]
    simp only [aQ]
    rw [AY (by simpa using h5c),List.filter_cons_of_pos (by simp [pu,hkf]),List.filter_nil]
    simp [List.take_set_of_le]
   ·simp only [aQ]
    rw [List.drop_set_of_lt (by omega)]
    exact hd6
theorem Le (l:List (List (Sem zf))) (x:Sem zh) (es:List ((Int×Int×zp)×Int)) (hl:l.length≤1000000) (hk:∀ r∈l,zI x.1.2.2.1 (length r)=true):
  SU l x es=some (if zL (jC x.1.2.2.1 es) l 0==-1 then (.vec 0,MH l x es) else (.sl zf.sl (l.filter (pu x.1.2.2.1 es)),zcy x es l)):=by
 have h0:(decide (l.length≤1000000)&&l.all fun r=>zI x.1.2.2.1 (length r))=true:=by
  simp only [aM,zZ,cY]
  exact ⟨hl,hk⟩
 unfold SU bl QK
 simp only [Tr.val,h0,if_true]
 by_cases h1:(zL (jC x.1.2.2.1 es) l 0==-1)=true
 ·simp only [h1,if_true]
  rfl
 ·rw [if_neg h1,if_neg h1]
  rcases cd (jC x.1.2.2.1 es) l 0 with ⟨h2,_⟩ | ⟨k,hk',h2,h3,h4⟩
  ·exfalso; apply h1; rw [h2]; rfl
  ·rw [h2,eG,zD k (by unfold zB; omega)]
   refine Qp l x es hl hk (l.length - (k+1)) (k+1) k 100000000 l rfl (by omega) (by omega) rfl ?_ rfl (by omega)
   rw [AY hk',List.filter_append,List.filter_cons_of_neg (by simp [pu,h3]),List.filter_nil,jQ]
   refine (List.filter_eq_self.2 fun y hy=>?_).symm
   simp [pu,h4 y hy]

def zca:cG [none,none]:=fun a h=>match a,h with
 | (.vec 0,.clo (.func 50) [] [.ptr 1 0,.ptr 2 0],_),[.vec (.sl wM) l,.box [.mp 3],.box [.str n,.sl zfM cs,.int .i64 k,.sl (.int .i64) us,.sl zfN fs,.str eo,.int .i64 p,.int .i64 q,.str vs,.str ss,.sl .expr el,.sl (.sl wM) rs],.vmap true es]=>
  .chk (decide (length l≤1000000)&&List.all l (fun r=>zI k (length r))) (.br (zL (jC k es) l 0==-1)
   (.ok (.vec 0,[.vec (.sl zf) l,.box [.mp 3],.box [.str n,.sl zi cs,.int .i64 k,.sl zg us,.sl zq fs,.str eo,.int .i64 p,.int .i64 q,.str vs,.str ss,.sl .expr el,.sl (.sl zf) rs],.vmap true es]))
   (.ok (.sl (.sl zf) (List.filter (pu k es) l),[.frz (.sl zf) (IM k es l),.box [.mp 3],.box [.str n,.sl zi cs,.int .i64 k,.sl zg us,.sl zq fs,.str eo,.int .i64 p,.int .i64 q,.str vs,.str ss,.sl .expr el,.sl (.sl zf) rs],.vmap true es])))
 | _,_=>.err
def zab:zF:=zU [none,none] zca
theorem Vl:FK 49 zab:=by
 refine fv (ι:=List (List (Sem zf))×Sem zh×List ((Int×Int×zp)×Int)) (args:=fun _=>[AV.vec 0,AV.clo (Fn.func 50) [] [AV.ptr 1 0,AV.ptr 2 0]]) (heap:=fun y=>MH y.1 y.2.1 y.2.2) (i:=fun y=>QK y.1 y.2.1 y.2.2) (t:=Kl) (e:=Lk) (n:=100000000) (n0:=4) Aa zeZ (fun _=>rfl) (fun y=>zc9 _ _ _) zfz (fun a h res hv=>?_)
 unfold zca at hv
 split at hv
 ·rename_i u l n cs k us fs eo p q vs ss el rs es
  simp only [Tr.val] at hv
  split at hv
  ·rename_i h1
   simp only [aM,zZ,cY] at h1
   have h2:=Le l ((n,cs,k,us,fs,ze.mk eo (p,q,vs) ss el),rs) es h1.1 h1.2
   refine ⟨(l,((n,cs,k,us,fs,ze.mk eo (p,q,vs) ss el),rs),es),rfl,rfl,?_⟩
   refine h2.trans ?_
   split at hv
   ·rename_i h3
    rw [if_pos h3]
    exact hv
   ·rename_i h3
    rw [if_neg h3]
    exact hv
  ·cases hv
 ·simp at hv

noncomputable def LH:=DK.add 49 zab
theorem pb:zl LH:=Aa.add Vl
noncomputable section

def W5 (x0:Sem ag):Tr (Empty ⊕ ao):=
 let a0:=zO x0.1 x0.2.2.1
 let a1:=getD x0.1 (toNat a0) (zj zh)
 let a2:=((a1.1.1,a1.1.2.1,a1.1.2.2.1,a1.1.2.2.2.1,a1.1.2.2.2.2.1,zE a1.1.2.2.2.2.2),a1.2)
 let a3:=zE x0.2.2.2.2.2.2.2.2.2.2.2.2.1
 let a4:=r8 a2 a3
 let a5:=bT a4.2
 Tr.br (decide (a0 < 0))
 (Tr.chk true
  (Tr.re (AV.tup [AV.sl zh (bT 6).1,AV.agg [AV.int .i64 (bT 6).2.1,AV.int .i64 (bT 6).2.2.1,AV.sl zf.sl (bT 6).2.2.2]]) []))
 (Tr.chk (zI a0 (length x0.1))
  (Tr.chk (nY a2 a3) (Tr.br (a4.2 != 0) (Tr.chk (o4 a4.2) (Tr.re (AV.tup [AV.sl zh a5.1,AV.agg [AV.int .i64 a5.2.1,AV.int .i64 a5.2.2.1,AV.sl zf.sl a5.2.2.2]]) [])) (Tr.re (AV.tup [AV.sl zh x0.1,AV.agg [AV.int .i64 0,AV.int .i64 (↑(length a4.1):Int),AV.sl zf.sl a4.1]]) []))))
def ie (x0:Sem ag):=zW [zh.sl,cw] t0 100000000 (W5 x0)
def uU (x0:Sem ag):=(ie x0).isSome
def Bl (x0:Sem ag):=o2 (ie x0)
def ZQ:=FT [ag] [zh.sl,cw] fun x=>ie x.1
theorem UU:FK 22 ZQ:=pb.T1 (f:=Tryz.f22) (keep:=k0) (e:=e0)

def W4 (x0:Sem ag):Tr (Empty ⊕ ao):=
 let a0:=zO x0.1 x0.2.2.1
 let a1:=(x0.1,x0.2.1,x0.2.2.1,x0.2.2.2.1,x0.2.2.2.2.1,x0.2.2.2.2.2.1,x0.2.2.2.2.2.2.1,x0.2.2.2.2.2.2.2.1,x0.2.2.2.2.2.2.2.2.1,zE x0.2.2.2.2.2.2.2.2.2.1,x0.2.2.2.2.2.2.2.2.2.2.1,x0.2.2.2.2.2.2.2.2.2.2.2.1,zE x0.2.2.2.2.2.2.2.2.2.2.2.2.1,x0.2.2.2.2.2.2.2.2.2.2.2.2.2)
 let a2:=getD x0.1 (toNat a0) (zj zh)
 let a3:=(a2.1.1,a2.1.2.1,a2.1.2.2.1,a2.1.2.2.2.1,a2.1.2.2.2.2.1,zE a2.1.2.2.2.2.2)
 let a4:=(a3,a2.2)
 let a5:=mV a1 a4
 let a6:=bT a5.2
 let a7:=decide (a5.1.length≤1073741824)
 let a8:=jU x0.1 a4
 let a9:=(↑a5.1.length:Int)
 let a10:=kG a8 a9
 let a11:=(a3,List.filter (pu a2.1.2.2.1 a5.1) a2.2)
 let a12:=jU x0.1 a11
 let a13:=kG a12 a9
 Tr.br (decide (a0 < 0))
 (Tr.chk true
  (Tr.re (AV.tup [AV.sl zh (bT 6).1,AV.agg [AV.int .i64 (bT 6).2.1,AV.int .i64 (bT 6).2.2.1,AV.sl zf.sl (bT 6).2.2.2]]) []))
 (Tr.chk (zI a0 (length x0.1))
  (Tr.chk (mO a1 a4).isSome (Tr.br (a5.2 != 0) (Tr.chk (o4 a5.2) (Tr.re (AV.tup [AV.sl zh a6.1,AV.agg [AV.int .i64 a6.2.1,AV.int .i64 a6.2.2.1,AV.sl zf.sl a6.2.2.2]]) [])) (Tr.chk (decide (length a2.2≤1073741824)) (Tr.chk (decide (length a2.2≤1000000)&&List.all a2.2 fun r=>zI a2.1.2.2.1 (length r)) (Tr.br (zL (jC a2.1.2.2.1 a5.1) a2.2 0==-1)
  (Tr.chk (jv x0.1 a4) (Tr.chk a7 (Tr.chk (gG a8 a9) (Tr.re (AV.tup [AV.sl zh a10.1,AV.agg [AV.int .i64 a10.2.1,AV.int .i64 a10.2.2.1,AV.sl zf.sl a10.2.2.2]]) [])))) (Tr.chk (jv x0.1 a11) (Tr.chk a7 (Tr.chk (gG a12 a9) (Tr.re (AV.tup [AV.sl zh a13.1,AV.agg [AV.int .i64 a13.2.1,AV.int .i64 a13.2.2.1,AV.sl zf.sl a13.2.2.2]]) []))))))))))
def ij (x0:Sem ag):=zW [zh.sl,cw] t0 100000000 (W4 x0)
def uY (x0:Sem ag):=(ij x0).isSome
def Bq (x0:Sem ag):=o2 (ij x0)
def ZN:=FT [ag] [zh.sl,cw] fun x=>ij x.1
theorem UR:FK 21 ZN:=pb.T1 (f:=Tryz.f21) (keep:=k0) (e:=e0)

def BF:=LH.addL [(22,ZQ),(21,ZN)]
theorem pc:zl BF:=pb.addL <| fc UU <| fc UR <|  jn
end

theorem gi {c g:Bool} (h1:c=true) (h2:g=true):(if c=true then g else false)=true:=by rw [if_pos h1]; exact h2
theorem aD {a b:Nat} (h:a≤b):decide (a≤b)=true:=aq h

theorem A0 {v:Sem zf} (h:gy v=true) (h2:(v.1==2)=true):v.2.2.length≤40:=by
 have e:v.1=2:=by simpa using h2
 unfold gy at h
 rw [e] at h
 simp only [show ((2:Int)==0)=false from rfl,show ((2:Int)==1)=false from rfl,show ((2:Int)==2)=true from rfl,zH,if_false,if_true] at h
 cases h1:v.2.1==0
 ·rw [h1] at h; simp at h
 ·rw [h1] at h
  cases h3:decide ((v.2.2.length:Int)≤40)
  ·rw [h3] at h; simp at h
  ·have:=fj h3
   omega

theorem tt (v:Sem zf):lW v=true:=by
 unfold lW
 split
 ·rfl
 ·rename_i hm
  have hm:gy v=true:=by simpa using hm
  split
  ·rfl
  ·split
   ·rename_i h2
    have hl:=A0 hm h2
    have hr:=jF v.2.2 [39] [39,39]
    have hr2:(Lib.replaceAll v.2.2 [39] [39,39]).length≤200:=by
     simp only [mc,List.length_nil] at hr
     omega
    refine gi ?_ (gi (aD ?_) (gi (aD ?_) rfl))
    ·unfold qA
     simp
     omega
    ·simp; omega
    ·simp; omega
   ·rfl

theorem sj (v:Sem zf):(gC v).length≤300:=by
 unfold gC
 split
 ·simp
 ·rename_i hm
  have hm:gy v=true:=by simpa using hm
  split
  ·have:=Ax v.2.1
   omega
  ·split
   ·rename_i h2
    have hl:=A0 hm h2
    have hr:=jF v.2.2 [39] [39,39]
    simp only [mc,List.length_nil] at hr
    simp
    omega
   ·split
    ·split <;> simp
    ·simp

theorem sm {s:zp} (h:lq s=true):s.length≤16:=by
 have h:nv s=true:=h
 unfold nv at h
 by_cases h2:(s.length:Int)≤16
 ·omega
 ·exfalso
  rw [cx h2] at h
  cases h1:decide ((s.length:Int) ≥ 1) <;> rw [h1] at h <;> simp at h

theorem Ni {g:ze→Int→Int→Bool×Int} {e:ze} {d n:Int} (h:(Ed g e d n).1=true) (hc:e.op=[99,111,108]):e.s.length≤16:=by
 unfold Ed at h
 split at h
 ·cases h
 ·split at h
  ·rename_i h1; rw [hc] at h1; simp at h1
  ·split at h
   ·cases h1:wo e.v
    ·rw [h1] at h; simp at h
    ·rw [h1] at h
     cases h2:lq e.s
     ·rw [h2] at h; simp at h
     ·exact sm h2
   ·rename_i h1; rw [hc] at h1; simp at h1

theorem dm (s:zp):(Lib.toUpperA s).length=s.length:=by simp [Lib.toUpperA]

theorem u9:∀ (N:Nat) (e:ze) (d n:Int),N≤16→(qj N e d n).1=true→gY N e=true∧(gH N e).length≤400 * 2 ^ N - 100
 | 0,_,_,_,_,h=>by cases h
 | N + 1,e,d,n,hN,h=>by
  rw [qj] at h
  obtain ⟨hl,h2⟩:=rQ h
  have hp:2 ^ N≤2 ^ 15:=Nat.pow_le_pow_right (by omega) (by omega)
  have hp1:1≤2 ^ N:=Nat.one_le_two_pow
  have hpp:2 ^ (N+1)=2 * 2 ^ N:=by rw [Nat.pow_succ]; omega
  have hparts:∀ x∈e.l,gY N x=true∧(gH N x).length≤400 * 2 ^ N - 100:=by
   intro x hx
   rcases h2 with h2 | h2
   ·exfalso
    have:dH e.op=0:=by
     rcases h2 with h2 | h2 <;> rw [h2] <;> decide
    rw [this] at hl
    have:e.l=[]:=C7 (by omega)
    rw [this] at hx; simp at hx
   ·obtain ⟨m,hm⟩:=qi e.l _ h2 x hx
    exact u9 N x _ _ (by omega) hm
  have hget:∀ i,i < e.l.length→e.l.getD i (zj Sh.expr)∈e.l:=by
   intro i hi
   rw [aH,zJ hi]
   exact cZ hi
  rw [gY,gH]
  unfold tL u7
  rcases m8 e.op with ⟨hp0,hop | hop⟩ | ⟨hp0,hop | hop⟩ | ⟨hp0,hop⟩ | hp0
  ·rw [hop]
   simp only [beq_self_eq_true,if_true]
   refine ⟨gi (tt _) rfl,?_⟩
   have:=sj e.v
   omega
  ·have hs:=Ni h hop
   rw [hop]
   refine ⟨rfl,?_⟩
   show e.s.length≤_
   omega
  ·rw [hp0] at hl
   have hlen:e.l.length=1:=by omega
   obtain ⟨k1,k2⟩:=hparts _ (hget 0 (by omega))
   rw [hop]
   refine ⟨gi ?_ (gi k1 (gi (aD ?_) (gi (aD ?_) rfl))),?_⟩
   ·simp [zI,hlen]
   ·simp at k2 ⊢; omega
   ·simp at k2 ⊢; omega
   ·show ([40,78,79,84,32]++gH N (e.l.getD 0 (zj Sh.expr))++[41]).length≤_
    simp at k2 ⊢; omega
  ·rw [hp0] at hl
   have hlen:e.l.length=1:=by omega
   obtain ⟨k1,k2⟩:=hparts _ (hget 0 (by omega))
   rw [hop]
   refine ⟨gi ?_ (gi k1 (gi (aD ?_) (gi (aD ?_) rfl))),?_⟩
   ·simp [zI,hlen]
   ·simp at k2 ⊢; omega
   ·simp at k2 ⊢; omega
   ·show ([40]++gH N (e.l.getD 0 (zj Sh.expr))++[32,73,83,32,78,85,76,76,41]).length≤_
    simp at k2 ⊢; omega
  ·rw [hp0] at hl
   have hlen:e.l.length=2:=by omega
   obtain ⟨k1,k2⟩:=hparts _ (hget 0 (by omega))
   obtain ⟨k3,k4⟩:=hparts _ (hget 1 (by omega))
   have hu:(decide (e.op.length≤140737488355328)&&e.op.all fun b=>decide (b.toNat < 128))=true:=by
    rcases hop with hop | hop | hop | hop | hop | hop <;> rw [hop] <;> decide
   have hol:e.op.length≤3:=by
    rcases hop with hop | hop | hop | hop | hop | hop <;> rw [hop] <;> simp
   have hul:=dm e.op
   have n1:(e.op==[108,105,116])=false:=by rcases hop with hop | hop | hop | hop | hop | hop <;> rw [hop] <;> rfl
   have n2:(e.op==[99,111,108])=false:=by rcases hop with hop | hop | hop | hop | hop | hop <;> rw [hop] <;> rfl
   have n3:(e.op==[110,111,116])=false:=by rcases hop with hop | hop | hop | hop | hop | hop <;> rw [hop] <;> rfl
   have n4:(e.op==[110,117,108,108])=false:=by rcases hop with hop | hop | hop | hop | hop | hop <;> rw [hop] <;> rfl
   simp only [n1,n2,n3,n4,zH,if_false]
   refine ⟨gi ?_ (gi k1 (gi (aD ?_) (gi (aD ?_) (gi hu (gi (aD ?_) (gi (aD ?_) (gi ?_ (gi k3 (gi (aD ?_) (gi (aD ?_) rfl)))))))))),?_⟩
   ·simp [zI,hlen]
   all_goals first
    | (simp [zI,hlen]; done)
    | (simp at k2 k4 ⊢; omega)
  ·rw [hp0] at hl
   omega

theorem BQ (e:ze):nL e=true:=by
 unfold nL
 split
 ·rfl
 ·rename_i h
  exact gi (u9 16 e 1 0 (by omega) (by simpa [kf] using h)).1 rfl

theorem FR (e:ze):(mQ e).1.length≤30000000:=by
 unfold mQ
 split
 ·simp
 ·rename_i h
  have:=(u9 16 e 1 0 (by omega) (by simpa [kf] using h)).2
  show (gH 16 e).length≤_
  omega


theorem HU (p:Int→Bool):∀ s:zp,fF p s≤s.length
 | []=>by simp [fF]
 | c::r=>by
  have:=HU p r
  rw [fF]
  split <;> simp <;> omega
theorem n7 (f m:Int→Bool) (s:zp):aA f m s≤s.length:=by
 cases s with
 | nil=>simp [aA]
 | cons c r=>
  have:=HU m r
  rw [aA]
  split <;> simp <;> omega

theorem TZ (i:Nat) (h:i≤4000000000):IntKind.i64.wrap (i:Int)=(i:Int):=by
 have:=zD (i - 1) (by unfold zB; omega)
 cases i with
 | zero=>rfl
 | succ i=>simpa using this

theorem nA (i:Nat) (h:i≤4000000000):IntKind.i64.wrap ((i:Int)+1)=((i+1:Nat):Int):=zD i (by unfold zB; omega)

theorem lO:∀ (n:Nat) (s:zp) (i:Nat) (a:Int) (b:zp),1≤i→i≤s.length→s.length+2≤n+i→s.length≤1000000000→gT n s (i:Int) a b=true
 | 0,s,i,a,b,h1,h2,h3,h4=>by omega
 | n + 1,s,i,a,b,h1,h2,h3,h4=>by
  rw [gT]
  split
  ·rename_i hlt
   have hlt:i < s.length:=by have:=fj hlt; omega
   refine gi (zC hlt) ?_
   rw [nA i (by omega)]
   split
   ·exact lO n s (i+1) a b (by omega) (by omega) (by omega) h4
   ·refine gi ?_ ?_
    ·cases hd:decide (((i+1:Nat):Int) < (s.length:Int))
     ·rfl
     ·exact zC (by have:=fj hd; omega)
    ·split
     ·rename_i hh
      have h5:i+1 < s.length:=by
       cases hd:decide (((i+1:Nat):Int) < (s.length:Int))
       ·rw [hd] at hh; simp at hh
       ·have:=fj hd; omega
      rw [nA (i+1) (by omega)]
      exact lO n s (i+1+1) a b (by omega) (by omega) (by omega) h4
     ·refine gi ?_ (gi ?_ rfl)
      ·simp; omega
      ·unfold qA
       simp
       omega
  ·rfl

theorem po:∀ (n:Nat) (s:zp) (i:Nat) (a:Int) (b:zp),1≤i→i≤s.length→s.length+2≤n+i→s.length≤1000000000→
  (ed n s (i:Int) a b=((0,[]),0))∨∃ k:Nat,(ed n s (i:Int) a b).2=(k:Int)∧1≤k∧k≤s.length
 | 0,s,i,a,b,h1,h2,h3,h4=>by omega
 | n + 1,s,i,a,b,h1,h2,h3,h4=>by
  rw [ed]
  split
  ·rename_i hlt
   have hlt:i < s.length:=by have:=fj hlt; omega
   rw [nA i (by omega)]
   split
   ·exact po n s (i+1) a b (by omega) (by omega) (by omega) h4
   ·split
    ·rename_i hh
     have h5:i+1 < s.length:=by
      cases hd:decide (((i+1:Nat):Int) < (s.length:Int))
      ·rw [hd] at hh; simp at hh
      ·have:=fj hd; omega
     rw [nA (i+1) (by omega)]
     exact po n s (i+1+1) a b (by omega) (by omega) (by omega) h4
    ·exact .inr ⟨i+1,rfl,by omega,by omega⟩
  ·exact .inl rfl

theorem CI (t:Sem eA):om t=true:=by
 unfold om
 split
 ·rfl
 ·split
  ·refine gi ?_ rfl
   cases h:((t.2.length:Int)==1)
   ·rfl
   ·have:(t.2.length:Int)=1:=by simpa using h
    simp only [aR,eH]
    omega
  ·simp

theorem xI (s:zp) (h0:s≠[]) (h1:s.length≤1000000000):jp s=true:=by
 have hl:1≤s.length:=by cases s with | nil=>exact absurd rfl h0 | cons _ _=>simp
 have r1:=n7 aK cm s
 have r2:=n7 zV zV s
 have hq:ja s=true:=lO (s.length+1) s 1 _ _ (by omega) hl (by omega) h1
 have hb:zI 0 s.length=true:=zC hl
 have d1:(decide ((0:Int)≤0)&&decide (0≤(↑(aA aK cm s):Int))&&decide ((↑(aA aK cm s):Int)≤(↑(length s):Int)))=true:=by simp; omega
 have d2:(decide ((0:Int)≤0)&&decide (0≤(↑(aA zV zV s):Int))&&decide ((↑(aA zV zV s):Int)≤(↑(length s):Int)))=true:=by simp; omega
 have d3:(decide ((0:Int)≤0)&&decide ((0:Int)≤1)&&decide (1≤(↑(length s):Int)))=true:=by simp; omega
 unfold jp
 simp only [hq,hb,if_true,zH,if_false]
 repeat' split
 all_goals first
  | rfl
  | (rename_i h; exfalso; apply h; simp; omega)

theorem qR (s:zp) (h0:s≠[]) (h1:s.length≤1000000000) (hm:fL (bh s).1=true):∃ k:Nat,(bh s).2=(k:Int)∧1≤k∧k≤s.length:=by
 have hl:1≤s.length:=by cases s with | nil=>exact absurd rfl h0 | cons _ _=>simp
 have r1:=n7 aK cm s
 have r2:=n7 zV zV s
 have hq:=po (s.length+1) s 1 0 [] (by omega) hl (by omega) h1
 unfold bh at hm ⊢
 simp only [if_true,zH,if_false] at hm ⊢
 split
 ·rename_i h
  have:=fj h
  exact ⟨_,rfl,by omega,by omega⟩
 ·rename_i h
  rw [if_neg h] at hm
  split
  ·rename_i h2
   have:=fj h2
   exact ⟨_,rfl,by omega,by omega⟩
  ·rename_i h2
   rw [if_neg h2] at hm
   split
   ·rename_i h3
    rw [if_pos h3] at hm
    rcases hq with hq | ⟨k,hk,hk1,hk2⟩
    ·exfalso
     have hqq:quoted s=((0,[]),0):=hq
     rw [hqq] at hm
     revert hm
     decide
    ·exact ⟨k,hk,hk1,hk2⟩
   ·exact ⟨1,rfl,by omega,by omega⟩

theorem rk:∀ (n:Nat) (s:zp) (i:Nat) (l:List (Sem zq)),i≤s.length→s.length+1≤n+i→s.length≤1000000000→l.length≤400→oY n s (i:Int) l=true
 | 0,s,i,l,h1,h2,h3,h4=>by omega
 | n + 1,s,i,l,h1,h2,h3,h4=>by
  rw [oY]
  split
  ·rename_i hlt
   have hlt:i < s.length:=by have:=fj hlt; omega
   have e1:List.take ((s.length:Int).toNat - (i:Int).toNat) (List.drop (i:Int).toNat s)=s.drop i:=by
    simp only [aQ]
    exact Hg (by simp)
   rw [e1]
   refine gi ?_ ?_
   ·rw [zC hlt]
    cases (((s.getD (i:Int).toNat 0).toNat:Int)==32) <;> rfl
   ·split
    ·rw [nA i (by omega)]
     exact rk n s (i+1) l (by omega) (by omega) h3 h4
    ·have hne:s.drop i≠[]:=by
      intro h
      have:=congrArg length h
      simp at this
      omega
     have hdl:(s.drop i).length≤1000000000:=by simp; omega
     refine gi ?_ (gi (xI _ hne hdl) (gi (CI _) ?_))
     ·simp; omega
     ·split
      ·rfl
      ·rename_i hh
       have hm:fL (bh (s.drop i)).1=true:=by
        cases hq:fL (bh (s.drop i)).1
        ·rw [hq] at hh; simp at hh
        ·rfl
       have hl4:l.length≠400:=by
        intro h5
        rw [hm,h5] at hh
        simp at hh
       obtain ⟨k,hk,hk1,hk2⟩:=qR _ hne hdl hm
       have hk3:k≤s.length - i:=by simpa using hk2
       refine gi (aD ?_) ?_
       ·simp; omega
       ·rw [hk,show ((i:Int)+(k:Int))=((i+k:Nat):Int) by omega,TZ (i+k) (by omega)]
        exact rk n s (i+k) _ (by omega) (by omega) h3 (by simp; omega)
  ·rfl

theorem K8 (s:zp) (h:s.length≤1000000000):K7 s=true:=rk (s.length+1) s 0 [] (by omega) (by omega) h (by simp)
end Cad
