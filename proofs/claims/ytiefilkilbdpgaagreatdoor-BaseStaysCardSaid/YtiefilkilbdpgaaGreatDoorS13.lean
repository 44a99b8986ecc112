/- Functions with memory of their own, by their trees. Copies: slices.Clone, copied. Bases: an answer that is an error alone. -/
import Derived.Test.YtiefilkilbdpgaaGreatDoorS12
import Derived.Test.YtiefilkilbdpgaaGreatDoorS02
import Derived.Laws.IdiomCopy
import Derived.Test.YtiefilkilbdpgaaGreatDoorS06
import Derived.Shelf.RegionOpenPlain
import Derived.WalkKit
import Derived.Lib.Walk
import Derived.Lib.SliceRun
import Derived.Lib.AppendZerosOnto
import Derived.Lib.Overlaps
import Derived.Laws.Externs
import Derived.Laws.NewBlocks
namespace Cad
open Go
open Int (toNat)
open List (getD)
open List (length)

theorem fk {P:Program} {gl:Nat→AV} {σ ι:Type} {E:bt} {k:FuncId} {f:Func} {kinds:List (Option Sh)} {G:cF kinds} {keep:Nat→ah} {gas n n0:Nat} {e:σ→Nat×St} {t:σ→Tr (σ ⊕ aj)} {args:ι→List AV} {heap:ι→List AO} {i:ι→Tr (σ ⊕ aj)}
  (hE:zl E) (hf:zA E.P k f kinds.length) (hn:∀ x,(heap x).length=n0)
  (hgo:∀ x,run E n0 keep f.results.toList gas (aB f) (aq f.ntmps (args x) (heap x))=(i x).map (lf f e))
  (hon:∀ s,run E n0 keep f.results.toList gas (zy f (e s).1) (e s).2=(t s).map (lf f e))
  (hG:∀ a h res,(G a h).val=some res→∃ x,gz kinds a=args x∧h=heap x∧bh t n (i x)=some res) (qp:E.P=P:=by rfl) (qg:E.gl=gl:=by rfl):mf P gl k (zU kinds G):=by
 subst qp qg
 refine bA hf fun x h0 res hx C hC=>?_
 obtain ⟨y,e1,e2,e3⟩:=hG x h0 res hx
 subst e2
 rw [e1]
 exact kH (n0:=n0) (Q:=fun r h=>(r,h)=res) hE hf (fun id h=>hC id (by rw [hn]; exact h)) (n+1) _ _ _ (by rw [js hon (hgo y)]; exact e3) rfl
open Go Go.Proofs
set_option maxHeartbeats 4000000

noncomputable abbrev r9 (l:List (Sem zg)):Tr zt:=run fS 0 xJ (Func.results Tryz.f198).toList 300 (aB Tryz.f198) (aq (Func.ntmps Tryz.f198) [.sl zg l] [])
theorem Hn:zA fS.P 198 Tryz.f198 1:=aQ (by kernel_rfl)
theorem zcE (l:List (Sem zg)):r9 l=.ok (.fork l.isEmpty (aA (r9 l)).1 (aA (r9 l)).2.1 (aA (r9 l)).2.2):=by kernel_rfl
theorem XA (l:List (Sem zg)):run fS 0 xJ (Func.results Tryz.f198).toList 300 (aA (r9 l)).1 (aA (r9 l)).2.2=.ok (.ret .nils []):=by kernel_rfl
theorem XB (l:List (Sem zg)):run fS 0 xJ (Func.results Tryz.f198).toList 300 (aA (r9 l)).2.1 (aA (r9 l)).2.2=.chk (decide (l.length≤1073741824)) (.ok (.ret (.vec 0) [.vec zg l])):=by kernel_rfl
def zbz:cF [some (.sl zg)]:=fun x h=>match h with
 | []=>.chk (decide (length x.1≤1073741824)) (.ok (.vec 0,[.vec zg x.1]))
 | _=>.err
def ZX:zF:=zU [some (.sl zg)] zbz
theorem U8:FK 198 ZX:=by
 refine bA Hn fun x h0 res hx C hC=>?_
 unfold zbz at hx
 split at hx
 ·simp only [Tr.val] at hx
  split at hx
  ·rename_i hl
   simp only [ao] at hx
   subst hx
   obtain ⟨l,u⟩:=x
   refine zk (n0:=0) bX Hn hC (zcE l) ?_
   refine ⟨fun he=>?_,?_⟩
   ·have hn:l=[]:=List.isEmpty_iff.1 he
    refine Reach.weaken (Q:=fun r h=>(r,h)=(.vec 0,[.vec zg []])) (Reach.promNil zg (fun id=>hC id (by simp)) (zk (n0:=0) bX Hn hC (XA l) rfl)) ?_
    intro r h hq
    cases hq
    refine ⟨_,?_,fun _ _ _ _ h=>h⟩
    show (AV.vec 0,[AO.vec zg []])=(AV.vec 0,[AO.vec zg l])
    rw [hn]
   ·exact zk (n0:=0) bX Hn hC (XB l) (da hl rfl)
  ·cases hx
 ·simp at hx

noncomputable abbrev sb (l:List (Sem zq)):Tr zt:=run fS 0 xJ (Func.results Tryz.f199).toList 300 (aB Tryz.f199) (aq (Func.ntmps Tryz.f199) [.sl zq l] [])
theorem Ho:zA fS.P 199 Tryz.f199 1:=aQ (by kernel_rfl)
theorem zcF (l:List (Sem zq)):sb l=.ok (.fork l.isEmpty (aA (sb l)).1 (aA (sb l)).2.1 (aA (sb l)).2.2):=by kernel_rfl
theorem XC (l:List (Sem zq)):run fS 0 xJ (Func.results Tryz.f199).toList 300 (aA (sb l)).1 (aA (sb l)).2.2=.ok (.ret .nils []):=by kernel_rfl
theorem XD (l:List (Sem zq)):run fS 0 xJ (Func.results Tryz.f199).toList 300 (aA (sb l)).2.1 (aA (sb l)).2.2=.chk (decide (l.length≤1073741824)) (.ok (.ret (.vec 0) [.vec zq l])):=by kernel_rfl
def zbA:cF [some (.sl zq)]:=fun x h=>match h with
 | []=>.chk (decide (length x.1≤1073741824)) (.ok (.vec 0,[.vec zq x.1]))
 | _=>.err
def ZY:zF:=zU [some (.sl zq)] zbA
theorem U9:FK 199 ZY:=by
 refine bA Ho fun x h0 res hx C hC=>?_
 unfold zbA at hx
 split at hx
 ·simp only [Tr.val] at hx
  split at hx
  ·rename_i hl
   simp only [ao] at hx
   subst hx
   obtain ⟨l,u⟩:=x
   refine zk (n0:=0) bX Ho hC (zcF l) ?_
   refine ⟨fun he=>?_,?_⟩
   ·have hn:l=[]:=List.isEmpty_iff.1 he
    refine Reach.weaken (Q:=fun r h=>(r,h)=(.vec 0,[.vec zq []])) (Reach.promNil zq (fun id=>hC id (by simp)) (zk (n0:=0) bX Ho hC (XC l) rfl)) ?_
    intro r h hq
    cases hq
    refine ⟨_,?_,fun _ _ _ _ h=>h⟩
    show (AV.vec 0,[AO.vec zq []])=(AV.vec 0,[AO.vec zq l])
    rw [hn]
   ·exact zk (n0:=0) bX Ho hC (XD l) (da hl rfl)
  ·cases hx
 ·simp at hx

noncomputable abbrev se (l:List (Sem (.sl zf))):Tr zt:=run fS 0 xJ (Func.results Tryz.f43).toList 300 (aB Tryz.f43) (aq (Func.ntmps Tryz.f43) [.sl (.sl zf) l] [])
theorem Hq:zA fS.P 43 Tryz.f43 1:=aQ (by kernel_rfl)
theorem zcH (l:List (Sem (.sl zf))):se l=.ok (.fork l.isEmpty (aA (se l)).1 (aA (se l)).2.1 (aA (se l)).2.2):=by kernel_rfl
theorem XE (l:List (Sem (.sl zf))):run fS 0 xJ (Func.results Tryz.f43).toList 300 (aA (se l)).1 (aA (se l)).2.2=.ok (.ret .nils []):=by kernel_rfl
theorem XF (l:List (Sem (.sl zf))):run fS 0 xJ (Func.results Tryz.f43).toList 300 (aA (se l)).2.1 (aA (se l)).2.2=.chk (decide (l.length≤1073741824)) (.ok (.ret (.vec 0) [.vec (.sl zf) l])):=by kernel_rfl
def zbB:cF [some (.sl (.sl zf))]:=fun x h=>match h with
 | []=>.chk (decide (length x.1≤1073741824)) (.ok (.vec 0,[.vec (.sl zf) x.1]))
 | _=>.err
def Z0:zF:=zU [some (.sl (.sl zf))] zbB
theorem Vb:FK 43 Z0:=by
 refine bA Hq fun x h0 res hx C hC=>?_
 unfold zbB at hx
 split at hx
 ·simp only [Tr.val] at hx
  split at hx
  ·rename_i hl
   simp only [ao] at hx
   subst hx
   obtain ⟨l,u⟩:=x
   refine zk (n0:=0) bX Hq hC (zcH l) ?_
   refine ⟨fun he=>?_,?_⟩
   ·have hn:l=[]:=List.isEmpty_iff.1 he
    refine Reach.weaken (Q:=fun r h=>(r,h)=(.vec 0,[.vec (.sl zf) []])) (Reach.promNil (.sl zf) (fun id=>hC id (by simp)) (zk (n0:=0) bX Hq hC (XE l) rfl)) ?_
    intro r h hq
    cases hq
    refine ⟨_,?_,fun _ _ _ _ h=>h⟩
    show (AV.vec 0,[AO.vec (Sh.sl zf) []])=(AV.vec 0,[AO.vec (Sh.sl zf) l])
    rw [hn]
   ·exact zk (n0:=0) bX Hq hC (XF l) (da hl rfl)
  ·cases hx
 ·simp at hx

noncomputable abbrev sf (l:List (Sem zf)):Tr zt:=run fS 0 xJ (Func.results Tryz.f44).toList 300 (aB Tryz.f44) (aq (Func.ntmps Tryz.f44) [.sl zf l] [])
theorem Hr:zA fS.P 44 Tryz.f44 1:=aQ (by kernel_rfl)
theorem zcI (l:List (Sem zf)):sf l=.ok (.fork l.isEmpty (aA (sf l)).1 (aA (sf l)).2.1 (aA (sf l)).2.2):=by kernel_rfl
theorem XG (l:List (Sem zf)):run fS 0 xJ (Func.results Tryz.f44).toList 300 (aA (sf l)).1 (aA (sf l)).2.2=.ok (.ret .nils []):=by kernel_rfl
theorem XH (l:List (Sem zf)):run fS 0 xJ (Func.results Tryz.f44).toList 300 (aA (sf l)).2.1 (aA (sf l)).2.2=.chk (decide (l.length≤1073741824)) (.ok (.ret (.vec 0) [.vec zf l])):=by kernel_rfl
def zbC:cF [some (.sl zf)]:=fun x h=>match h with
 | []=>.chk (decide (length x.1≤1073741824)) (.ok (.vec 0,[.vec zf x.1]))
 | _=>.err
def Z1:zF:=zU [some (.sl zf)] zbC
theorem Vc:FK 44 Z1:=by
 refine bA Hr fun x h0 res hx C hC=>?_
 unfold zbC at hx
 split at hx
 ·simp only [Tr.val] at hx
  split at hx
  ·rename_i hl
   simp only [ao] at hx
   subst hx
   obtain ⟨l,u⟩:=x
   refine zk (n0:=0) bX Hr hC (zcI l) ?_
   refine ⟨fun he=>?_,?_⟩
   ·have hn:l=[]:=List.isEmpty_iff.1 he
    refine Reach.weaken (Q:=fun r h=>(r,h)=(.vec 0,[.vec zf []])) (Reach.promNil zf (fun id=>hC id (by simp)) (zk (n0:=0) bX Hr hC (XG l) rfl)) ?_
    intro r h hq
    cases hq
    refine ⟨_,?_,fun _ _ _ _ h=>h⟩
    show (AV.vec 0,[AO.vec zf []])=(AV.vec 0,[AO.vec zf l])
    rw [hn]
   ·exact zk (n0:=0) bX Hr hC (XH l) (da hl rfl)
  ·cases hx
 ·simp at hx

noncomputable def PM:=fS.addL [(198,ZX),(199,ZY),(43,Z0),(44,Z1)]
theorem C3:zl PM:=bX.addL <| fc U8 <| fc U9 <| fc Vb <| fc Vc jf
def xR (c:ze→Bool):zF:=zG [.expr] [.expr] (fun x=>c x.1) fun x=>(x.1,())
noncomputable def ym (c:ze→Bool):bt:=PM.add 200 (xR c)
theorem qS {c:ze→Bool} (hg:FK 200 (xR c)):zl (ym c):=C3.add hg
abbrev SP:Nat→ah:=fun j=>if j=3 then { slots:=[1,2,10,11] } else { }
abbrev BJ (i10:Int) (i11:Int) (ja0:zo) (ja1:Int) (ja2:Int) (ja3:zo) (ja4:zo) (lh_2:List (Sem Sh.expr)):St:={
 tmps:=
  (tm 26 [(1,AV.ptr 0 0),(2,AV.ptr 1 0),(10,AV.int .i64 i10),(11,AV.int .i64 i11)]),
 heap:=
  [AO.box [AV.str ja0,AV.int .i64 ja1,AV.int .i64 ja2,AV.str ja3,AV.str ja4,AV.vec 2],
   AO.box [AV.str [],AV.int .i64 0,AV.int .i64 0,AV.str [],AV.str [],AV.nils],AO.vec Sh.expr lh_2] }
theorem Hp (c:ze→Bool):zA (ym c).P 200 Tryz.f200 1:=aQ (by kernel_rfl)
theorem zcG (c:ze→Bool) (op:zo) (v:V) (s:zo) (l:List ze):rn (ym c) 0 SP Tryz.f200 [zz Sh.expr (ze.mk op v s l)] []=
 Tr.chk (decide (l.length≤1073741824)) (Tr.ok (zt.head 3 (zy Tryz.f200 3) (BJ (↑l.length:Int) 0 op v.1 v.2.1 v.2.2 s l))):=by kernel_rfl
theorem HA (c:ze→Bool) (i10:Int) (i11:Int) (ja0:zo) (ja1:Int) (ja2:Int) (ja3:zo) (ja4:zo) (lh_2:List (Sem Sh.expr)):rh (ym c) 0 SP Tryz.f200 3 (BJ i10 i11 ja0 ja1 ja2 ja3 ja4 lh_2)=
 Tr.br (decide (i11 < i10))
 (Tr.chk (zI i11 lh_2.length)
  (Tr.chk (decide (i11.toNat < lh_2.length))
   (Tr.chk (c (zE (lh_2.getD i11.toNat (zj Sh.expr))))
    (Tr.chk (zI i11 lh_2.length)
     (Tr.chk (decide (i11.toNat < lh_2.length))
      (Tr.ok
       (zt.head 3 (zy Tryz.f200 3)
        (BJ i10 (IntKind.i64.wrap (i11+1)) ja0 ja1 ja2 ja3 ja4
         (lh_2.set i11.toNat
          (zE (lh_2.getD i11.toNat (zj Sh.expr))))))))))))
 (Tr.ok
  (zt.ret (AV.agg [AV.str ja0,AV.int .i64 ja1,AV.int .i64 ja2,AV.str ja3,AV.str ja4,AV.vec 0]) [AO.vec Sh.expr lh_2])):=by kernel_rfl

theorem zbK {c:ze→Bool} (hg:FK 200 (xR c)) {C:cH} (hC:∀ id,C.ρ0 id=none) (op:zo) (v:V) (s:zo) (l:List ze) (hl:l.length≤1073741824) (hcl:l.all c=true):
  ∀ (k i:Nat),l.length - i=k→i≤l.length→Reach (ym c) C 200 (zy Tryz.f200 3) (BJ l.length i op v.1 v.2.1 v.2.2 s l) (fun r h=>ap h [.expr] r=some (ze.mk op v s l,())):=by
 intro k
 induction k with
 | zero=>
  intro i hk hi
  obtain rfl:i=l.length:=by omega
  refine zk (n0:=0) (qS hg) (Hp c) (fun id _=>hC id) (HA c _ _ _ _ _ _ _ _) ?_
  simp only [zX,Tr.val_brF]
  rfl
 | succ k IH=>
  intro i hk hi
  have hlt:i < l.length:=by omega
  refine zk (n0:=0) (qS hg) (Hp c) (fun id _=>hC id) (HA c _ _ _ _ _ _ _ _) ?_
  have h1:c l[i]=true:=cX.1 hcl _ (dg hlt)
  have h2:decide ((i:Int).toNat < l.length)=true:=by simpa using hlt
  have h3:l.set (i:Int).toNat l[i]=l:=by simp
  simp only [zT hlt,zB hlt,ac l _ hlt,ze.eta,Tr.val_brT,Tr.val_chkT,h1,h2,h3,zD i (by unfold zC; omega)]
  exact IH (i+1) (by omega) (by omega)

theorem Wy:zA PM.P 200 Tryz.f200 1:=aQ (by kernel_rfl)
theorem Ax:∀ n,FK 200 (xR (kX n))
 | 0=>dv ⟨Tryz.f200,Wy.1,Wy.2.1,Wy.2.2.1⟩ (fun _=>rfl)
 | n+1=>by
  have h:FK 200 (xR (kX (n+1))):=by
   refine zQ (E:=ym (kX n)) (Hp _) fun x hc C hC=>?_
   obtain ⟨⟨op,v,s,l⟩,u⟩:=x
   have hc:(decide (l.length≤1073741824)&&l.all (kX n))=true:=hc
   simp only [aL,ae] at hc
   refine zk (n0:=0) (qS (Ax n)) (Hp _) (fun id _=>hC id) (zcG _ op v s l) ?_
   refine da (by simpa using hc.1) ?_
   exact zbK (Ax n) hC op v s l hc.1 hc.2 _ 0 rfl (aV _)
  exact h
def ZZ:zF:=xR (kX 16)
theorem Va:FK 200 ZZ:=Ax 16
noncomputable def C2:=PM.add 200 ZZ
theorem rg:zl C2:=C3.add Va
abbrev cB:Sh:=.pr zg (.pr zg (.sl (.sl zf)))

noncomputable def zhh (x0:Sem zg):Tr (Empty ⊕ aj):=
 Tr.re (AV.tup [AV.nils,AV.agg [AV.int .i64 x0,AV.int .i64 0,AV.nils]]) []
noncomputable def EH (x0:Sem zg):=zW [zh.sl,cB] t0 100000000 (zhh x0)
noncomputable def oL (x0:Sem zg):=(EH x0).isSome
noncomputable def bS (x0:Sem zg):=o2 (EH x0)
noncomputable def Zk:=FT [zg] [zh.sl,cB] fun x=>EH x.1
theorem Up:FK 39 Zk:=rg.T1 (f:=Tryz.f39) (keep:=k0) (e:=e0)

noncomputable def Sl:=C2.add 39 Zk
theorem ns:zl Sl:=rg.add Up
noncomputable section

def zdd (x0:Sem zx) (x1:Sem zf.sl):Tr (Empty ⊕ aj):=
 let a0:=getD x1 (toNat x0.2.2.1) (zj zf)
 Tr.br
 (bif !gq (x0.1,x0.2.1,x0.2.2.1,x0.2.2.2.1,x0.2.2.2.2.1,zE x0.2.2.2.2.2) then true
 else decide (x0.2.2.1 ≥ (↑(length x1):Int)))
 (Tr.re (AV.agg [AV.int .i64 0,AV.int .i64 0,AV.str []]) [])
 (Tr.chk (zI x0.2.2.1 (length x1)) (Tr.re (AV.agg [AV.int .i64 a0.1,AV.int .i64 a0.2.1,AV.str a0.2.2]) []))
def D1 (x0:Sem zx) (x1:Sem zf.sl):=zW [zf] t0 100000000 (zdd x0 x1)
def NI (x0:Sem zx) (x1:Sem zf.sl):=(D1 x0 x1).isSome
def XV (x0:Sem zx) (x1:Sem zf.sl):=o1 (D1 x0 x1)
def ZT:=FT [zx,zf.sl] [zf] fun x=>D1 x.1 x.2.1
theorem U4:FK 84 ZT:=ns.T1 (f:=Tryz.f84) (keep:=k0) (e:=e0)

def Wi (x0:Sem zh.sl) (x1:Sem zg):Tr (Empty ⊕ aj):=
 Tr.chk (nh x0)
 (Tr.br (!qL x0)
  (Tr.chk true (Tr.re (AV.tup [AV.sl zh (bS 10).1,AV.agg [AV.int .i64 (bS 10).2.1,AV.int .i64 (bS 10).2.2.1,AV.sl zf.sl (bS 10).2.2.2]]) []))
  (Tr.re (AV.tup [AV.sl zh x0,AV.agg [AV.int .i64 0,AV.int .i64 x1,AV.nils]]) []))
def uz (x0:Sem zh.sl) (x1:Sem zg):=zW [zh.sl,cB] t0 100000000 (Wi x0 x1)
def gA (x0:Sem zh.sl) (x1:Sem zg):=(uz x0 x1).isSome
def kv (x0:Sem zh.sl) (x1:Sem zg):=o2 (uz x0 x1)
def Zl:=FT [zh.sl,zg] [zh.sl,cB] fun x=>uz x.1 x.2.1
theorem Uq:FK 40 Zl:=ns.T1 (f:=Tryz.f40) (keep:=k0) (e:=e0)

abbrev zdz:=lz [(9,[2,3,8,36,37,38])]
inductive tY where
 | h9 (l36:List (Sem zf.sl)) (i37:Int) (i38:Int) (z0:zu [CP.d zh]) (z1:zu [CP.d Sh.expr])
 | h9b (l36:List (Sem zf.sl)) (i37:Int) (i38:Int) (z0:zu [CP.d zh]) (z1:zu [CP.d Sh.expr]) (lh_2:List (Sem zf.sl))
abbrev zf0:tY→Nat×St
 | .h9 l36 i37 i38 z0 z1=>(9,⟨tm 62 [(2,AV.ptr 0 0),(3,AV.ptr 1 0),(8,AV.nils),(36,AV.sl zf.sl l36),(37,AV.int .i64 i37),(38,AV.int .i64 i38)],[AO.box (bJ [] [CP.d zh] z0),AO.box (bJ [] [CP.d Sh.expr] z1)]⟩)
 | .h9b l36 i37 i38 z0 z1 lh_2=>(9,⟨tm 62 [(2,AV.ptr 0 0),(3,AV.ptr 1 0),(8,AV.vec 2),(36,AV.sl zf.sl l36),(37,AV.int .i64 i37),(38,AV.int .i64 i38)],[AO.box (bJ [] [CP.d zh] z0),AO.box (bJ [] [CP.d Sh.expr] z1),AO.vec zf.sl lh_2]⟩)
def zda (x0:Sem zh) (x1:Sem Sh.expr):Tr (tY ⊕ aj):=
 let a0:=bg (zE x1) x0.1.2.1
 Tr.br (!ze.op x1==[])
 (Tr.br (bif a0.2==0 then bif a0.1 != 3 then a0.1 != 0 else false else false)
  (Tr.br true (Tr.re (AV.tup [AV.nils,AV.int .i64 5]) []) (Tr.to (tY.h9 x0.2 (↑(length x0.2):Int) 0 (x0,()) (x1,()))))
  (Tr.br (a0.2 != 0) (Tr.re (AV.tup [AV.nils,AV.int .i64 a0.2]) []) (Tr.to (tY.h9 x0.2 (↑(length x0.2):Int) 0 (x0,()) (x1,())))))
 (Tr.to (tY.h9 x0.2 (↑(length x0.2):Int) 0 (x0,()) (x1,())))
def BW:tY→Tr (tY ⊕ aj)
 | .h9 l36 i37 i38 z0 z1=>
  let a0:=l36.getD i38.toNat (zj zf.sl)
  let a1:=hZ (zE z1.1) z0.1.1.2.1 a0
  let a2:=[a0]
  let a3:=IntKind.i64.wrap (i38+1)
  Tr.br (decide (i38 < i37))
  (Tr.chk (zI i38 l36.length) (Tr.br (bif ze.op z1.1==[] then true else a1.1==3&&(a1.2.1==1&&(a1.2.2==[]&&true))) (Tr.chk (decide (length a0≤1073741824)) (Tr.chk (decide (a2.length≤1073741824)) (Tr.to (tY.h9b l36 i37 a3 z0 z1 a2)))) (Tr.to (tY.h9 l36 i37 a3 z0 z1))))
  (Tr.re (AV.tup [AV.nils,AV.int .i64 0]) [])
 | .h9b l36 i37 i38 z0 z1 lh_2=>
  let a0:=l36.getD i38.toNat (zj zf.sl)
  let a1:=hZ (zE z1.1) z0.1.1.2.1 a0
  let a2:=[a0]
  let a3:=IntKind.i64.wrap (i38+1)
  Tr.br (decide (i38 < i37))
  (Tr.chk (zI i38 l36.length) (Tr.br (bif ze.op z1.1==[] then true else a1.1==3&&(a1.2.1==1&&(a1.2.2==[]&&true))) (Tr.chk (decide (length a0≤1073741824)) (Tr.chk (decide (lh_2.length+a2.length≤1073741824)) (Tr.to (tY.h9b l36 i37 a3 z0 z1 (lh_2++a2))))) (Tr.to (tY.h9b l36 i37 a3 z0 z1 lh_2))))
  (Tr.re (AV.tup [AV.vec 0,AV.int .i64 0]) [AO.vec zf.sl lh_2])
def qh (x0:Sem zh) (x1:Sem Sh.expr):=zW [zf.sl.sl,zg] BW 100000000 (zda x0 x1)
def nI (x0:Sem zh) (x1:Sem Sh.expr):=(qh x0 x1).isSome
def rJ (x0:Sem zh) (x1:Sem Sh.expr):=o2 (qh x0 x1)
def Zw:=FT [zh,Sh.expr] [zf.sl.sl,zg] fun x=>qh x.1 x.2.1
theorem UC:FK 51 Zw:=ns.T1 (f:=Tryz.f51) (keep:=zdz) (e:=zf0)

def uY:=Sl.addL [(84,ZT),(40,Zl),(51,Zw)]
theorem kD:zl uY:=ns.addL <| fc U4 <| fc Uq <| fc UC <|  jf
end

noncomputable abbrev r8 (l:List (Sem zh)):Tr zt:=run uY 0 xJ (Func.results Tryz.f76).toList 300 (aB Tryz.f76) (aq (Func.ntmps Tryz.f76) [.sl zh l] [])
theorem Hm:zA uY.P 76 Tryz.f76 1:=aQ (by kernel_rfl)
theorem zcy (l:List (Sem zh)):r8 l=.ok (.fork l.isEmpty (aA (r8 l)).1 (aA (r8 l)).2.1 (aA (r8 l)).2.2):=by kernel_rfl
theorem Xy (l:List (Sem zh)):run uY 0 xJ (Func.results Tryz.f76).toList 300 (aA (r8 l)).1 (aA (r8 l)).2.2=.ok (.ret .nils []):=by kernel_rfl
theorem Xz (l:List (Sem zh)):run uY 0 xJ (Func.results Tryz.f76).toList 300 (aA (r8 l)).2.1 (aA (r8 l)).2.2=.chk (decide (l.length≤1073741824)) (.ok (.ret (.vec 0) [.vec zh l])):=by kernel_rfl
def zbu:cF [some (.sl zh)]:=fun x h=>match h with
 | []=>.chk (decide (length x.1≤1073741824)) (.ok (.vec 0,[.vec zh x.1]))
 | _=>.err
def ZF:zF:=zU [some (.sl zh)] zbu
theorem UM:FK 76 ZF:=by
 refine bA Hm fun x h0 res hx C hC=>?_
 unfold zbu at hx
 split at hx
 ·simp only [Tr.val] at hx
  split at hx
  ·rename_i hl
   simp only [ao] at hx
   subst hx
   obtain ⟨l,u⟩:=x
   refine zk (n0:=0) kD Hm hC (zcy l) ?_
   refine ⟨fun he=>?_,?_⟩
   ·have hn:l=[]:=List.isEmpty_iff.1 he
    refine Reach.weaken (Q:=fun r h=>(r,h)=(.vec 0,[.vec zh []])) (Reach.promNil zh (fun id=>hC id (by simp)) (zk (n0:=0) kD Hm hC (Xy l) rfl)) ?_
    intro r h hq
    cases hq
    refine ⟨_,?_,fun _ _ _ _ h=>h⟩
    show (AV.vec 0,[AO.vec zh []])=(AV.vec 0,[AO.vec zh l])
    rw [hn]
   ·exact zk (n0:=0) kD Hm hC (Xz l) (da hl rfl)
  ·cases hx
 ·simp at hx

noncomputable def ZH:zF:=zU (List.replicate 2 none) (bZ uY Tryz.f77 (List.replicate 2 none))
theorem UO:FK 77 ZH:=au _ kD (aQ (by kernel_rfl))

noncomputable def C4:=uY.addL [(76,ZF),(77,ZH)]
theorem rk:zl C4:=kD.addL <| fc UM <| fc UO <|  jf

abbrev tG (n:zo) (q1:Sh) (cs:List (Sem q1)) (k:Int) (q2:Sh) (us:List (Sem q2)) (q3:Sh) (fs:List (Sem q3)) (eo:zo) (a b:Int) (vs es:zo) (q4:Sh) (el:List (Sem q4)) (q5:Sh) (rs:List (Sem q5)) (l:List (Sem zh)) (i:Int):St:={ tmps:=[.sl zh l,.clo (.func 77) [] [.ptr 0 0],.any,.any,.any,.any,.any,.int .i64 l.length,.int .i64 i,.any,.any,.any,.any,.any,.any,.any,.any,.any,.any],heap:=[.box [.str n,.sl q1 cs,.int .i64 k,.sl q2 us,.sl q3 fs,.str eo,.int .i64 a,.int .i64 b,.str vs,.str es,.sl q4 el,.sl q5 rs]] }
theorem Lm (n:zo) (q1:Sh) (cs:List (Sem q1)) (k:Int) (q2:Sh) (us:List (Sem q2)) (q3:Sh) (fs:List (Sem q3)) (eo:zo) (a b:Int) (vs es:zo) (q4:Sh) (el:List (Sem q4)) (q5:Sh) (rs:List (Sem q5)) (l:List (Sem zh)):run C4 1 mg Tryz.f36.results.toList 300 (aB Tryz.f36) (aq Tryz.f36.ntmps [.sl zh l,.clo (.func 77) [] [.ptr 0 0]] [.box [.str n,.sl q1 cs,.int .i64 k,.sl q2 us,.sl q3 fs,.str eo,.int .i64 a,.int .i64 b,.str vs,.str es,.sl q4 el,.sl q5 rs]])=.ok (.head 2 (zy Tryz.f36 2) (tG n q1 cs k q2 us q3 fs eo a b vs es q4 el q5 rs l 0)):=by kernel_rfl
theorem MU (n:zo) (q1:Sh) (cs:List (Sem q1)) (k:Int) (q2:Sh) (us:List (Sem q2)) (q3:Sh) (fs:List (Sem q3)) (eo:zo) (a b:Int) (vs es:zo) (q4:Sh) (el:List (Sem q4)) (q5:Sh) (rs:List (Sem q5)) (l:List (Sem zh)) (i:Int):run C4 1 mg Tryz.f36.results.toList 300 (zy Tryz.f36 2) (tG n q1 cs k q2 us q3 fs eo a b vs es q4 el q5 rs l i)=iA (K:=zy Tryz.f36 2) (e:=zh) l (fun y => !(Op.bytesLess y.1.1 n||y.1.1==n)) (tG n q1 cs k q2 us q3 fs eo a b vs es q4 el q5 rs l) [.box [.str n,.sl q1 cs,.int .i64 k,.sl q2 us,.sl q3 fs,.str eo,.int .i64 a,.int .i64 b,.str vs,.str es,.sl q4 el,.sl q5 rs]] i:=by kernel_rfl

theorem ML:zA C4.P 36 Tryz.f36 2:=by refine ⟨?_,?_,?_,?_⟩ <;> kernel_rfl
def zbq:cF [some (.sl zh),none]:=fun x h=>match x,h with
 | (l,.clo (.func 77) [] [.ptr 0 0],_),[.box [.str n,.sl q1 cs,.int .i64 k,.sl q2 us,.sl q3 fs,.str eo,.int .i64 a,.int .i64 b,.str vs,.str es,.sl q4 el,.sl q5 rs]]=>.ok (.int .i64 (zL (fun y => !(Op.bytesLess y.1.1 n||y.1.1==n)) l 0),[.box [.str n,.sl q1 cs,.int .i64 k,.sl q2 us,.sl q3 fs,.str eo,.int .i64 a,.int .i64 b,.str vs,.str es,.sl q4 el,.sl q5 rs]])
 | _,_=>.err
def Zg:zF:=zU [some (.sl zh),none] zbq
theorem Uk:FK 36 Zg:=by
 refine bA ML fun x h0 res hx C hC=>?_
 unfold zbq at hx
 split at hx
 ·rename_i l u n q1 cs k q2 us q3 fs eo a b vs es q4 el q5 rs
  simp only [Tr.val_ok,ao] at hx
  subst hx
  refine Reach.len 0 zh l rfl fun hl=>?_
  refine zk (n0:=1) rk ML hC (Lm n q1 cs k q2 us q3 fs eo a b vs es q4 el q5 rs l) ?_
  exact eQ l (fun y => !(Op.bytesLess y.1.1 n||y.1.1==n)) (tG n q1 cs k q2 us q3 fs eo a b vs es q4 el q5 rs l) rk ML hC (MU n q1 cs k q2 us q3 fs eo a b vs es q4 el q5 rs l) hl _ 0 rfl (aV _)
 ·simp at hx

noncomputable def GS:=C4.add 36 Zg
theorem yG:zl GS:=rk.add Uk

theorem fv {P:Program} (w:World) (dT sT ty elem:TypeId) (sz b o dLen dCap:Nat) (a:Addr) (sLen sCap:Nat) (cs:List Value)
  (hu:P.underlying dT=some (.slice elem)) (hs:(P.info? elem).map (·.size)=some sz) (hn:cs.length=Nat.min sLen dLen * sz)
  (hsrc:∀ j v,cs[j]?=some v→w.cell? (a.add j)=some v) (hc:∀ j,j < cs.length→(w.cell? ⟨b,o+j,none⟩).isSome=true) (hf:∀ j,j < cs.length→w.frozen? ⟨b,o+j,none⟩=false) (h1:∀ v∈cs,v.oneCell'=true):
  (Builtin.copy_ #[dT,sT] ty #[.slice (some ⟨b,o,none⟩) dLen dCap,.slice (some a) sLen sCap]).run P w=.ok (goInt (Nat.min sLen dLen)) (w.setCells b o cs):=by
 have hl:=run_loadCells_list (P:=P) w a cs hsrc
 have hst:=run_storeCells_cells (P:=P) b o cs 0 w (by simpa using hc) (by simpa using hf) h1
 cases hq:P.info? elem with
 | none=>simp [hq] at hs
 | some i=>
  have hi:i.size=sz:=by simpa [hq] using hs
  simp [Builtin.copy_,aW hu,Builtin.lenOf,Builtin.firstCells,Go.sizeOf,typeInfo,hq,hi,← hn,hl,hst]

section
variable {w:World} {U:Nat→Prop} {ρ:Nat→Option Value}
theorem G6 {n:Nat} {e:Sh} {l:List (Sem e)} {x:Sem e} {k b c:Nat} {arr:Array Value} {T:TypeId} {f:Nat→Nat→Value} {g:Nat→Value} (hk:k≤l.length)
  (hρ:ρ n=some (.slice (some ⟨b,0,none⟩) (l.length+1) c)) (hm:l.length+1≤zC) (hU:U b) (hb:w.heap[b]?=some (.cells arr T (0,0))) (hsz:arr.size=c * e.size) (hc:l.length+1≤c)
  (h1:∀ i j,i < k→j < e.size→arr[i * e.size+j]?=some (f i j)) (h2:∀ j,j < e.size→arr[k * e.size+j]?=some (g j))
  (h3:∀ i j,k≤i→i < l.length→j < e.size→arr[(i+1) * e.size+j]?=some (f i j))
  (hf:∀ i (hi:i < l.length) (j:Nat) (c:AV),(zn e l[i])[j]?=some c→Rv w U ρ c (f i j)) (hg:∀ (j:Nat) (c:AV),(zn e x)[j]?=some c→Rv w U ρ c (g j)):
  be w U ρ n (.vec e (l.take k++x::l.drop k)):=by
 have hl:(l.take k++x::l.drop k).length=l.length+1:=by simp; omega
 refine ⟨some ⟨b,0,none⟩,c,by rw [hl]; exact hρ,by rw [hl]; exact hm,.inr ⟨b,T,arr,rfl,by omega,hU,hb,hsz,by rw [hl]; exact hc,?_⟩⟩
 intro i hi j cc hcc
 have hj:j < e.size:=by have:=(bM.1 hcc).1; rwa [zN] at this
 rw [hl] at hi
 have htl:(l.take k).length=k:=by simp; omega
 rcases Nat.lt_trichotomy i k with h | h | h
 ·have:(l.take k++x::l.drop k)[i]=l[i]:=by
   rw [List.getElem_append_left (by omega),List.getElem_take]
  rw [this] at hcc
  exact ⟨_,h1 i j h hj,hf i (by omega) j cc hcc⟩
 ·subst h
  have:(l.take i++x::l.drop i)[i]=x:=by
   rw [List.getElem_append_right (by omega)]
   simp [htl]
  rw [this] at hcc
  exact ⟨_,h2 j hj,hg j cc hcc⟩
 ·obtain ⟨i,rfl⟩:∃ q,i=q+1:=⟨i - 1,by omega⟩
  have:(l.take k++x::l.drop k)[i+1]=l[i]:=by
   rw [List.getElem_append_right (by omega)]
   simp only [htl]
   rw [List.getElem_cons]
   rw [dif_neg (by omega),List.getElem_drop]
   congr 1
   omega
  rw [this] at hcc
  exact ⟨_,h3 i j (by omega) (by omega) hj,hf i (by omega) j cc hcc⟩
end

theorem y5 {sz n k:Nat} (A B D:List Value) {f:Nat→Nat→Value} {g:Nat→Value} (hk:k≤n) (hB:B.length=sz) (hBg:∀ j,j < sz→B[j]?=some (g j)) (hD:D=(aI sz n f).drop (k * sz)) (hA:(n+1) * sz≤A.length)
  (hA1:∀ i j,i < k→j < sz→A[i * sz+j]?=some (f i j)):
  (∀ X,X=f8 (f8 A ((k+1) * sz) D) (k * sz) B∨X=f8 (f8 A (k * sz) B) ((k+1) * sz) D→
   (∀ i j,i < k→j < sz→X[i * sz+j]?=some (f i j))∧(∀ j,j < sz→X[k * sz+j]?=some (g j))∧∀ i j,k≤i→i < n→j < sz→X[(i+1) * sz+j]?=some (f i j)):=by
 have hDl:D.length=n * sz - k * sz:=by rw [hD,List.length_drop,aP]
 have e1:(k+1) * sz=k * sz+sz:=ee _ _
 have e2:(n+1) * sz=n * sz+sz:=ee _ _
 have e3:k * sz≤n * sz:=cN _ hk
 have hDg:∀ i j,k≤i→i < n→j < sz→D[(i+1) * sz+j - (k+1) * sz]?=some (f i j):=by
  intro i j h1 h2 h3
  have e4:k * sz≤i * sz:=cN _ h1
  have e5:(i+1) * sz=i * sz+sz:=ee _ _
  rw [hD,jI,show k * sz+((i+1) * sz+j - (k+1) * sz)=i * sz+j by omega]
  exact gP h2 h3
 intro X hX
 have small:∀ i j,i < k→j < sz→i * sz+j < k * sz:=by
  intro i j h1 h2
  have:=cN sz (pm h1)
  rw [ee] at this
  omega
 have big:∀ i j,k≤i→i < n→j < sz→(k+1) * sz≤(i+1) * sz+j∧(i+1) * sz+j < (n+1) * sz:=by
  intro i j h1 h2 h3
  have:=cN sz (Nat.succ_le_succ h1)
  have h4:=cN sz (Nat.succ_le_succ (pm h2))
  rw [ee (i+1)] at h4
  simp only [Nat.succ_eq_add_one] at this h4
  exact ⟨by omega,by omega⟩
 refine ⟨fun i j h1 h2=>?_,fun j h1=>?_,fun i j h1 h2 h3=>?_⟩
 ·have:=small i j h1 h2
  rcases hX with rfl | rfl <;> rw [bW,if_neg (by omega),bW,if_neg (by omega)] <;> exact hA1 i j h1 h2
 ·rcases hX with rfl | rfl
  ·rw [bW,if_pos (by rw [cd]; omega),show k * sz+j - k * sz=j by omega]; exact hBg j h1
  ·rw [bW,if_neg (by omega),bW,if_pos (by omega),show k * sz+j - k * sz=j by omega]; exact hBg j h1
 ·obtain ⟨b1,b2⟩:=big i j h1 h2 h3
  rcases hX with rfl | rfl
  ·rw [bW,if_neg (by omega),bW,if_pos (by omega)]; exact hDg i j h1 h2 h3
  ·rw [bW,if_pos (by rw [cd]; omega)]; exact hDg i j h1 h2 h3
open Go Go.Proofs Go.RowKit Go.Lib

theorem Cb {P:Program} (w:World) {o:Oper} {a:Act} {K:Act→World→Prop} {Q:Exit→Act→World→Prop} (d s:Operand) (t t':TypeId)
  (ho:o.op=.call { callee:=.builtin .copy,args := #[d,s],argTypes := #[t,t'] }) (v u:Value) (hd:a.eval d=v) (hs:a.eval s=u) {v':Value} {w':World}
  (hr:(Builtin.copy_ #[t,t'] o.type #[v,u]).run P w=.ok v' w') (h:K (a.put o.dst v') w'):o.wp P a w K Q:=by
 unfold Oper.wp execOp
 simp only [ho,resolve,invoke,builtin,cZ,ol,jj,List.map_toArray,jO,ui,hd,hs,hr]
 exact h
theorem gR {P:Program} (w:World) {ops:Array Oper} {rest:List Oper} {o:Oper} {a:Act} {Q:Exit→Act→World→Prop} (hgd:o.guard=none) (d s:Operand) (t t':TypeId)
  (ho:o.op=.call { callee:=.builtin .copy,args := #[d,s],argTypes := #[t,t'] }) (v u:Value) (hd:a.eval d=v) (hs:a.eval s=u) {v':Value} {w':World}
  (hr:(Builtin.copy_ #[t,t'] o.type #[v,u]).run P w=.ok v' w') (h:wpList P ops Q rest (a.put o.dst v') w'):wpList P ops Q (o::rest) a w:=
 wpList_plain hgd fun _ hK=>Cb w d s t t' ho v u hd hs hr (hK _ _ h)
theorem mZ {P:Program} {ops:Array Oper} {o:Oper} {a:Act} {w:World} {K:Act→World→Prop} {Q:Exit→Act→World→Prop} {E:Prop}
  (hg:o.guard=none) (d x:Operand) (dT sT:TypeId) (hop:o.op=Op.call { callee:=Callee.builtin Builtin.copy,args := #[d,x],argTypes := #[dT,sT] })
  (v u:Value) (hd:a.eval d=v) (hx:a.eval x=u) {v':Value} {w':World} (hr:(Builtin.copy_ #[dT,sT] o.type #[v,u]).run P w=.ok v' w') (hK:K (a.put o.dst v') w'):
  if Region.wanted o (yielded ops a.tmps)=true then Oper.wp P o a w K Q else E:=by
 have hw:Region.wanted o (yielded ops a.tmps)=true:=by simp [Region.wanted,hg]
 rw [if_pos hw]
 unfold Oper.wp
 simp [execOp,hop,resolve,invoke,builtin,hd,hx,hr,Result.andThen]
 exact hK
theorem lY (b:Nat) (vs:List Value) (o:Nat) (w:World) (h:∀ j,j < vs.length→(w.cell? ⟨b,o+j,none⟩).isSome=true) (k:Nat) (hk:(w.cell? ⟨b,k,none⟩).isSome=true):((w.setCells b o vs).cell? ⟨b,k,none⟩).isSome=true:=by
 by_cases hin:o≤k∧k < o+vs.length
 ·have:=World.cell?_setCells_in b vs o w h (k - o) (by omega)
  rw [show o+(k - o)=k by omega] at this
  rw [this]; rfl
 ·rw [World.cell?_setCells_out b vs o w ⟨b,k,none⟩ (fun _ _=>by show k < o∨o+vs.length≤k; omega)]
  exact hk

set_option maxHeartbeats 4000000 in
set_option maxRecDepth 100000 in
theorem I2 (b n c i vb vc:Nat) (cs vs:List Value) (w:World) (hi:i < n) (hroom:n+1≤c) (hmax:n+1≤1073741824) (hvb:vb≠b)
  (hcl:cs.length=n * 12) (hvl:vs.length=12) (hcs:∀ j v,cs[j]?=some v→w.cell? ⟨b,j,none⟩=some v) (hsp:∀ j,j < (n+1) * 12→(w.cell? ⟨b,j,none⟩).isSome=true) (hfz:∀ j,w.frozen? ⟨b,j,none⟩=false)
  (hvs:∀ j v,vs[j]?=some v→w.cell? ⟨vb,j,none⟩=some v) (h1c:∀ v∈cs,v.oneCell'=true) (h1v:∀ v∈vs,v.oneCell'=true)
  (tA tB:TypeId) (kA kB:Nat) (hsa:w.shape? vb=some (tA,kA)) (hsb:w.shape? b=some (tB,kB)) (hkB:kB≠0) (hfa:∀ j,w.frozen? ⟨vb,j,none⟩=false):
  Calls Tryz.prog 78 #[.slice (some ⟨b,0,none⟩) n c,.int .i64 i,.slice (some ⟨vb,0,none⟩) 1 vc] w fun e w'=>
   e=.returned (.slice (some ⟨b,0,none⟩) (n+1) c)∧w'=(w.drew.setCells b ((i+1) * 12) (cs.drop (i * 12))).setCells b (i * 12) vs:=by
 have hz2:¬ ((i:Int)=(n:Int)):=by omega
 have hsz:(Tryz.prog.info? 54).map (·.size)=some 12:=by kernel_rfl
 have hov:∀ lb cb,(callFunc 129 #[.slice (some ⟨vb,0,none⟩) 1 vc,.slice (some ⟨b,(i+1) * 12,none⟩) lb cb]).run Tryz.prog w=.ok (.value (.bool false)) w:=fun lb cb=>by
  rw [run_callFunc_extern Tryz.func129 (by kernel_rfl) (by kernel_rfl) (by kernel_rfl) (e:=Extern.SlicesOverlaps.overlaps #[23,23] #[4]) (by kernel_rfl),
   Lib.run_overlaps_apart w 23 4 54 Tryz.underlying23 12 Tryz.sizeOf54 ⟨vb,0,none⟩ ⟨b,(i+1) * 12,none⟩ 1 vc lb cb hvb tA tB kA kB hsa hsb hkB (hfa 0) (hfa kA)]
  rfl
 have hdl:(cs.drop (i * 12)).length=(n - i) * 12:=by rw [List.length_drop,hcl]; omega
 have hw1:IntKind.i64.wrap ((i:Int)+(1:Int))=(i:Int)+(1:Int):=by rw [ue]; omega
 have hb1:(0:Int)≤(i:Int)+(1:Int):=by omega
 have hin:i≤n:=by omega
 have htn:((i:Int)+(1:Int)).toNat=i+1:=by omega
 have hb2:¬ (c=i+1):=by omega
 have hb3:(i:Int)≤(n:Int)+(1:Int):=by omega
 have hb4:¬ (c=i):=by omega
 have hcp1:∀ ty dc sc,(Builtin.copy_ #[23,23] ty #[.slice (some ⟨b,(i+1) * 12,none⟩) (n - i) dc,.slice (some ⟨b,i * 12,none⟩) (n+1 - i) sc]).run Tryz.prog w.drew=.ok (goInt (Nat.min (n+1 - i) (n - i))) (w.drew.setCells b ((i+1) * 12) (cs.drop (i * 12))):=fun ty dc sc=>
  fv w.drew _ _ ty 54 12 b ((i+1) * 12) (n - i) dc ⟨b,i * 12,none⟩ (n+1 - i) sc (cs.drop (i * 12)) Tryz.underlying23 hsz (by rw [hdl]; simp only [Nat.min_def]; split <;> omega)
   (fun j v hj=>by rw [Addr.add_lit]; exact hcs (i * 12+j) v (by rwa [jI] at hj))
   (fun j hj=>hsp _ (by omega)) (fun j hj=>hfz _) (fun v hv=>h1c v (List.mem_of_mem_drop hv))
 obtain ⟨W1,hW1⟩:∃ W1,W1=w.drew.setCells b ((i+1) * 12) (cs.drop (i * 12)):=⟨_,rfl⟩
 have hsp1:∀ k,k < (n+1) * 12→(W1.cell? ⟨b,k,none⟩).isSome=true:=fun k hk=>by
  rw [hW1]
  refine lY b (cs.drop (i * 12)) _ w.drew (fun j hj=>?_) _ (hsp k hk)
  rw [hdl] at hj
  exact hsp _ (by omega)
 have hcp2:∀ (W:World),(∀ x,W.cell? x=W1.cell? x)→(∀ x,W.frozen? x=W1.frozen? x)→∀ ty dc,(Builtin.copy_ #[23,23] ty #[.slice (some ⟨b,i * 12,none⟩) (n+1 - i) dc,.slice (some ⟨vb,0,none⟩) 1 vc]).run Tryz.prog W=.ok (goInt (Nat.min 1 (n+1 - i))) (W.setCells b (i * 12) vs):=fun W hWc hWf ty dc=>
  fv W _ _ ty 54 12 b (i * 12) (n+1 - i) dc ⟨vb,0,none⟩ 1 vc vs Tryz.underlying23 hsz (by rw [hvl]; simp only [Nat.min_def]; split <;> omega)
   (fun j v hj=>by
    rw [Addr.add_lit,hWc,hW1,World.cell?_setCells_out b _ _ _ _ (fun h _=>absurd h hvb),ez]
    exact hvs j v hj)
   (fun j hj=>by rw [hWc]; exact hsp1 _ (by omega)) (fun j hj=>by rw [hWf,hW1,World.frozen?_setCells]; exact hfz _) h1v
 rw [← hW1] at hcp1
 have mixed:Tryz.prog.follows .mixedOrders=true:=by kernel_rfl
 go_enter Tryz.func78,Tryz.ntmps78
 go_wp2_with (simp only [hov])
 go_region_law_o (refine mZ rfl _ _ 23 23 rfl _ _ (by simp [Act.eval,Act.put]) (by simp [Act.eval,Act.put]) (hcp1 _ _ _) ?_)
 go_wp2_with (at_builtin; refine gR _ rfl _ _ 23 23 rfl _ _ rfl rfl (hcp2 _ (fun _=>rfl) (fun _=>rfl) _ _) ?_)
 go_ret
 first | exact ⟨rfl,rfl⟩ | exact ⟨rfl,by rw [hW1]⟩

set_option maxHeartbeats 4000000 in
set_option maxRecDepth 100000 in
theorem LN (b n c i vb vc:Nat) (cs vs:List Value) (w:World) (hi:i < n) (hnc:n≤c) (hroom:c < n+1) (hmax:n+1≤1073741824) (i0:TypeInfo) (z:Value) (hi0:Tryz.prog.info? 54=some i0) (hzs:i0.size=12) (hzb:i0.bytes≤131072) (hz0:i0.zero=some z) (hzc:z.cells.size=12)
  (hcl:cs.length=n * 12) (hvl:vs.length=12) (hcs:∀ j v,cs[j]?=some v→w.cell? ⟨b,j,none⟩=some v)
  (hvs:∀ j v,vs[j]?=some v→w.cell? ⟨vb,j,none⟩=some v) (h1c:∀ v∈cs,v.oneCell'=true) (h1v:∀ v∈vs,v.oneCell'=true):
  Calls Tryz.prog 78 #[.slice (some ⟨b,0,none⟩) n c,.int .i64 i,.slice (some ⟨vb,0,none⟩) 1 vc] w fun e w'=>
   e=.returned (.slice (some ⟨w.heap.size,0,none⟩) (n+1) (grownCap w (n+1) c 54))∧
   w'=(((w.alloc (.cells ((cs.take (i * 12)).toArray++Builtin.zeroCells z.cells (n+1 - i)++Builtin.zeroCells z.cells (grownCap w (n+1) c 54 - (n+1))) 54)).drew.setCells w.heap.size (i * 12) vs).drew).setCells w.heap.size ((i+1) * 12) (cs.drop (i * 12)):=by
 have hz2:¬ ((i:Int)=(n:Int)):=by omega
 have hz3:(c:Int) < (n:Int)+1:=by omega
 have hsz:(Tryz.prog.info? 54).map (·.size)=some 12:=by rw [hi0]; simp [hzs]
 have hbw:b < w.heap.size:=block_lt_of_cell (hcs 0 _ (zJ (by omega)))
 have hvw:vb < w.heap.size:=block_lt_of_cell (hvs 0 _ (zJ (by omega)))
 have hkk:(n:Int)+1 - (i:Int)=((n+1 - i:Nat):Int):=by omega
 have hik:i+(n+1 - i)=n+1:=by omega
 have hold:(Builtin.firstCells i0.size i (.slice (some ⟨b,0,none⟩) i c)).run Tryz.prog w.drew=.ok (cs.take (i * 12)).toArray w.drew:=by
  rw [hzs]
  exact run_firstCells_some w.drew 12 i ⟨b,0,none⟩ i c (cs.take (i * 12)) (by rw [rW]; omega) (fun j v hj=>by
   rw [Addr.add_lit,ez]
   rw [uc] at hj
   split at hj
   ·exact hcs j v hj
   ·cases hj)
 have hbig:(n+1) * i0.bytes≤140737488355328:=by
  have:(n+1) * i0.bytes≤1073741824 * 131072:=jN hmax hzb
  omega
 have h48:(n+1 - i) * i0.bytes≤281474976710656:=by
  have:(n+1 - i) * i0.bytes≤(n+1) * i0.bytes:=cN _ (by omega)
  omega
 have hrz:∀ ty,(Builtin.append_ #[23,3] ty #[.slice (some ⟨b,0,none⟩) i c,.int .i64 ((n:Int)+1 - (i:Int))]).run Tryz.prog w=
   .ok (.slice (some ⟨w.heap.size,0,none⟩) (n+1) (grownCap w (n+1) c 54)) (w.drew.alloc (.cells ((cs.take (i * 12)).toArray++Builtin.zeroCells z.cells (n+1 - i)++Builtin.zeroCells z.cells (grownCap w (n+1) c 54 - (n+1))) 54)):=fun ty=>by
  have h:=Lib.run_append_grow_zeros w 23 3 ty 54 i0 z .i64 .i64 Tryz.underlying23 Tryz.underlying3 hi0 hz0 (some ⟨b,0,none⟩) i c (cs.take (i * 12)) hold (n+1 - i) (by omega) (by omega) (by omega) (by omega) h48 (by rw [hik]; exact growslice_fits hroom hbig)
  rw [hik] at h
  rw [hkk]
  exact h
 obtain ⟨G,hG⟩:∃ G,G=grownCap w (n+1) c 54:=⟨_,rfl⟩
 obtain ⟨ROW,hROW⟩:∃ ROW:Array Value,ROW=(cs.take (i * 12)).toArray++Builtin.zeroCells z.cells (n+1 - i)++Builtin.zeroCells z.cells (G - (n+1)):=⟨_,rfl⟩
 rw [← hG] at hrz ⊢
 rw [← hROW] at hrz ⊢
 have hRl:(n+1) * 12≤ROW.size:=by
  rw [hROW]
  simp only [Array.size_append,List.size_toArray,rW,gn,hzc]
  omega
 obtain ⟨W1,hW1⟩:∃ W1,W1=w.drew.alloc (.cells ROW 54):=⟨_,rfl⟩
 rw [← hW1] at hrz
 have hN:∀ j,j < (n+1) * 12→(W1.cell? ⟨w.heap.size,j,none⟩).isSome=true:=fun j hj=>by
  rw [hW1,World.cell?_alloc_at (w:=w.drew) ROW _ w.heap.size j rfl,gZ (by omega)]; rfl
 have hNf:∀ j,W1.frozen? ⟨w.heap.size,j,none⟩=false:=fun j=>by rw [hW1]; exact World.frozen?_alloc_at (w:=w.drew) ROW _ w.heap.size j rfl
 have hOb:∀ j v,w.cell? ⟨b,j,none⟩=some v→W1.cell? ⟨b,j,none⟩=some v:=fun j v h=>by rw [hW1,World.cell?_alloc_past (w:=w.drew) _ b j hbw]; exact h
 have hOv:∀ j v,w.cell? ⟨vb,j,none⟩=some v→W1.cell? ⟨vb,j,none⟩=some v:=fun j v h=>by rw [hW1,World.cell?_alloc_past (w:=w.drew) _ vb j hvw]; exact h
 have hcpA:∀ (W:World),(∀ x,W.cell? x=W1.cell? x)→(∀ x,W.frozen? x=W1.frozen? x)→∀ ty dc,(Builtin.copy_ #[23,23] ty #[.slice (some ⟨w.heap.size,i * 12,none⟩) (n+1 - i) dc,.slice (some ⟨vb,0,none⟩) 1 vc]).run Tryz.prog W=.ok (goInt (Nat.min 1 (n+1 - i))) (W.setCells w.heap.size (i * 12) vs):=fun W hWc hWf ty dc=>
  fv W _ _ ty 54 12 w.heap.size (i * 12) (n+1 - i) dc ⟨vb,0,none⟩ 1 vc vs Tryz.underlying23 hsz (by rw [hvl]; simp only [Nat.min_def]; split <;> omega)
   (fun j v hj=>by rw [Addr.add_lit,hWc,ez]; exact hOv _ v (hvs j v hj))
   (fun j hj=>by rw [hWc]; exact hN _ (by omega)) (fun j hj=>by rw [hWf]; exact hNf _) h1v
 have hGn:n+1≤G:=by rw [hG]; exact grownCap_ge w _ _ _
 have hG63:G≤9223372036854775807:=by
  have:=grownCap_le_maxLen w (n+1) c 54 (by unfold maxLen; omega)
  rw [← hG] at this
  unfold maxLen at this
  omega
 have hGi:¬ (G=i):=by omega
 have hGim:¬ (G=i+1):=by omega
 have hci:¬ (c=i):=by omega
 have hbN:b≠w.heap.size:=by omega
 have hdl:(cs.drop (i * 12)).length=(n - i) * 12:=by rw [List.length_drop,hcl]; omega
 have hcpB:∀ (W:World),(∀ x,W.cell? x=(W1.setCells w.heap.size (i * 12) vs).cell? x)→(∀ x,W.frozen? x=(W1.setCells w.heap.size (i * 12) vs).frozen? x)→∀ ty dc sc,(Builtin.copy_ #[23,23] ty #[.slice (some ⟨w.heap.size,(i+1) * 12,none⟩) (n - i) dc,.slice (some ⟨b,i * 12,none⟩) (n - i) sc]).run Tryz.prog W=.ok (goInt (Nat.min (n - i) (n - i))) (W.setCells w.heap.size ((i+1) * 12) (cs.drop (i * 12))):=fun W hWc hWf ty dc sc=>
  fv W _ _ ty 54 12 w.heap.size ((i+1) * 12) (n - i) dc ⟨b,i * 12,none⟩ (n - i) sc (cs.drop (i * 12)) Tryz.underlying23 hsz (by rw [hdl]; simp only [Nat.min_def]; split <;> omega)
   (fun j v hj=>by
    rw [Addr.add_lit,hWc,World.cell?_setCells_out _ _ _ _ _ (fun h _=>absurd h hbN)]
    exact hOb _ v (hcs (i * 12+j) v (by rwa [jI] at hj)))
   (fun j hj=>by rw [hWc]; refine lY _ _ _ _ (fun t ht=>hN _ ?_) _ (hN _ ?_) <;> omega)
   (fun j hj=>by rw [hWf,World.frozen?_setCells]; exact hNf _) (fun v hv=>h1c v (List.mem_of_mem_drop hv))
 subst hW1
 have hE1:∀ x,((w.alloc (.cells ROW 54)).drew).cell? x=(w.drew.alloc (.cells ROW 54)).cell? x:=fun x=>rfl
 have hE2:∀ x,((w.alloc (.cells ROW 54)).drew).frozen? x=(w.drew.alloc (.cells ROW 54)).frozen? x:=fun x=>rfl
 have hF1:∀ x,(((w.alloc (.cells ROW 54)).drew.setCells w.heap.size (i * 12) vs).drew).cell? x=((w.drew.alloc (.cells ROW 54)).setCells w.heap.size (i * 12) vs).cell? x:=fun x=>rfl
 have hF2:∀ x,(((w.alloc (.cells ROW 54)).drew.setCells w.heap.size (i * 12) vs).drew).frozen? x=((w.drew.alloc (.cells ROW 54)).setCells w.heap.size (i * 12) vs).frozen? x:=fun x=>rfl
 have hw1:IntKind.i64.wrap ((i:Int)+1)=(i:Int)+1:=by rw [ue]; omega
 have hb1:(0:Int)≤(i:Int)+1:=by omega
 have hin:i≤n:=by omega
 have htn:((i:Int)+1).toNat=i+1:=by omega
 have hb3:(i:Int)≤(n:Int):=by omega
 have mixed:Tryz.prog.follows .mixedOrders=true:=by kernel_rfl
 clear hkk hik hold hROW hG hRl h48 hbig
 go_enter Tryz.func78,Tryz.ntmps78
 go_wp2_with (first
  | (at_builtin; refine Lib.wpList_append_run _ rfl _ _ _ _ rfl _ _ rfl rfl _ _ (hrz _) ?_)
  | (at_builtin; refine gR _ rfl _ _ 23 23 rfl _ _ rfl rfl (hcpA _ hE1 hE2 _ _) ?_)
  | (at_builtin; refine gR _ rfl _ _ 23 23 rfl _ _ rfl rfl (hcpB _ (fun _=>rfl) (fun _=>rfl) _ _ _) ?_))
 go_region_law_o (refine mZ rfl _ _ 23 23 rfl (.slice (some ⟨w.heap.size,(i+1) * 12,none⟩) (n - i) (G - (i+1))) (.slice (some ⟨b,i * 12,none⟩) (n - i) (c - i)) (by simp [Act.eval,Act.put]) (by simp [Act.eval,Act.put]) (hcpB _ hF1 hF2 3 (G - (i+1)) (c - i)) ?_)
 go_wp2
 go_ret
 exact ⟨rfl,rfl⟩
set_option maxHeartbeats 1000000

@[match_pattern] abbrev FC:Sh:=.pr (.pr .str (.pr (.sl (.pr .str (.pr (.int .i64) .bool))) (.pr (.int .i64) (.pr (.sl (.int .i64)) (.pr (.sl (.pr (.int .i64) .str)) .expr))))) (.sl (.sl (.pr (.int .i64) (.pr (.int .i64) .str))))
def G5 (l:List (Sem zh)) (i:Int) (x:Sem zh):List (Sem zh):=l.take i.toNat++x::l.drop i.toNat
def LM (a b:Nat) (i:Int) (l:List (Sem zh)) (x:Sem zh) (n:Nat):Tr ew:=
 .chk (zI i l.length) (.chk (decide (l.length+1≤1073741824)) (.ok { val:=.vec n,wr:=[(a,.dead),(b,.dead)],nw:=[.vec zh (G5 l i x)] }))
def Tg:zF:=fun args hp n=>match args with
 | [.vec a,.int .i64 i,.vec b]=>if a=b then .err else match hp a,hp b with
  | .vec FC l,.vec FC [x]=>LM a b i l x n
  | _,_=>.err
 | _=>.err

theorem Ki {w:World} {b q:Nat} {arr:Array Value} {T:TypeId} {x:Value} (h:w.heap[b]?=some (.cells arr T (0,0))) (hc:w.cell? ⟨b,q,none⟩=some x):arr[q]?=some x:=by
 simpa [World.cell?,h] using hc

theorem Ws {w:World} {U:Nat→Prop} {ρ:Nat→Option Value} {hp:Nat→AO} {n a b k:Nat} {l:List (Sem zh)} {x:Sem zh} {va vb:Value} (hub:∀ b,U b→b < w.heap.size) (ha:hp a=.vec zh l) (hb:hp b=.vec zh [x]) (hoa:be w U ρ a (hp a)) (hob:be w U ρ b (hp b))
  (hinj:∀ q,zO ρ a (hp a) q→zO ρ b (hp b) q→False) (hva:ρ a=some va) (hvb:ρ b=some vb) (hn:ρ n=none) (hk:k < l.length) (hmax:l.length+1≤1073741824):
  Calls Tryz.prog 78 #[va,.int .i64 k,vb] w fun e w'=>∃ v U' ρ',e=.returned v∧Ef n hp { val:=.vec n,wr:=[(a,.dead),(b,.dead)],nw:=[.vec zh (l.take k++x::l.drop k)] } w U ρ v w' U' ρ':=by
 have hwr:∀ id' o,(id',o)∈[(a,AO.dead),(b,AO.dead)]→o=.dead:=by
  intro id' o h
  simp at h
  rcases h with h | h <;> exact h.2
 obtain ⟨i0,z,hinfo,hisz,hpos,hbytes,hz,hzc⟩:=CU.sh 54 zh rfl
 have e12:zh.size=12:=rfl
 rw [e12] at hisz
 rw [hisz] at hzc
 rw [ha] at hoa
 rw [hb] at hob
 obtain ⟨a0,cap0,f,rfl,hle0,hf0,hone0,hnone0,hcell0⟩:=(qF hoa hva).cells (e:=zh) (by decide)
 obtain ⟨a1,cap1,g,rfl,hle1,hg0,hone1,hnone1,hcell1⟩:=(qF hob hvb).cells (e:=zh) (by decide)
 rw [e12] at hone0 hcell0 hone1 hcell1
 obtain ⟨_,_,q1,_,q3⟩:=hoa
 rw [hva] at q1; cases q1
 obtain ⟨_,_,r1,_,r3⟩:=hob
 rw [hvb] at r1; cases r1
 rcases q3 with ⟨rfl,_⟩ | ⟨B,T,arr,rfl,hc,hUB,hBB,hsz,hleB,_⟩
 ·simp at hk
 rcases r3 with ⟨h,_⟩ | ⟨B2,T2,arr2,rfl,hc2,hUB2,hBB2,hsz2,hleB2,_⟩
 ·cases h
 rw [e12] at hsz hsz2
 have hne:B2≠B:=by
  rintro rfl
  exact hinj B2 ⟨by rw [ha]; rfl,_,hva,by simp [c9]; omega⟩ ⟨by rw [hb]; rfl,_,hvb,by simp [c9]; omega⟩
 have hownA:zO ρ a (hp a) B:=⟨by rw [ha]; rfl,_,hva,by simp [c9]; omega⟩
 have hBlt:=hub B hUB
 have hcs:∀ j v,(aI 12 l.length f)[j]?=some v→w.cell? ⟨B,j,none⟩=some v:=fun j v h=>by
  have:=hcell0 _ rfl j v h
  rwa [Addr.add_none,ez] at this
 have hvs:∀ j v,(aI 12 1 g)[j]?=some v→w.cell? ⟨B2,j,none⟩=some v:=fun j v h=>by
  have:=hcell1 _ rfl j v h
  rwa [Addr.add_none,ez] at this
 have hfrz:∀ (b:Nat) (arr:Array Value) (T:TypeId),w.heap[b]?=some (.cells arr T (0,0))→∀ j,w.frozen? ⟨b,j,none⟩=false:=fun b arr T h j=>by simp [World.frozen?,h]
 have hbg:∀ j,j < 12→(aI 12 1 g)[j]?=some (g 0 j):=fun j hj=>by
  have:=gP (size:=12) (n:=1) (vals:=g) (i:=0) (j:=j) (by omega) hj
  rwa [Nat.zero_mul,ez] at this
 have hgx:∀ (j:Nat) (c:AV),(zn zh x)[j]?=some c→Rv w U ρ c (g 0 j):=fun j c h=>hg0 0 (by simp) j c h
 have hA1:∀ i j,i < l.length→j < 12→arr[i * 12+j]?=some (f i j):=fun i j hi hj=>Ki hBB (hcs _ _ (gP hi hj))
 by_cases hroom:l.length+1≤cap0
 ·
  have hsp:∀ j,j < (l.length+1) * 12→(w.cell? ⟨B,j,none⟩).isSome=true:=fun j hj=>by
   have:j < arr.size:=by rw [hsz]; have:=cN 12 hroom; omega
   simp only [World.cell?,hBB,Option.isSome_none,zH,if_false,gZ this,fa]
  refine (I2 B l.length cap0 k B2 cap1 (aI 12 l.length f) (aI 12 1 g) w hk hroom hmax hne aP aP hcs hsp (hfrz B arr T hBB) hvs hone0 hone1 T2 T arr2.size arr.size ?_ ?_ ?_ (hfrz B2 arr2 T2 hBB2)).mono ?_
  ·simp [World.shape?,hBB2]
  ·simp [World.shape?,hBB]
  ·rw [hsz]; omega
  rintro e w' ⟨rfl,rfl⟩
  have hk1:∀ b',b'≠B→((w.drew.setCells B ((k+1) * 12) ((aI 12 l.length f).drop (k * 12))).setCells B (k * 12) (aI 12 1 g)).heap[b']?=w.heap[b']?:=fun b' h=>by
   rw [zV _ _ _ _ _ h,zV _ _ _ _ _ h]; rfl
  have hsize:((w.drew.setCells B ((k+1) * 12) ((aI 12 l.length f).drop (k * 12))).setCells B (k * 12) (aI 12 1 g)).heap.size=w.heap.size:=by
   rw [aR,aR]; rfl
  have hBB':=bN (aI 12 1 g) _ B (k * 12) (bN ((aI 12 l.length f).drop (k * 12)) w.drew B ((k+1) * 12) hBB)
  rw [List.toList_toArray] at hBB'
  generalize hw':(w.drew.setCells B ((k+1) * 12) ((aI 12 l.length f).drop (k * 12))).setCells B (k * 12) (aI 12 1 g)=w' at hk1 hsize hBB'
  have hext:gu w w':=by rw [← hw']; exact ((gu.drew w).trans (gu.setCells _ w.drew B _)).trans (gu.setCells _ _ B _)
  obtain ⟨c1,c2,c3⟩:=y5 (sz:=12) (n:=l.length) (k:=k) arr.toList (aI 12 1 g) ((aI 12 l.length f).drop (k * 12)) (f:=f) (g:=g 0) (by omega) aP hbg rfl (by have e:arr.toList.length=cap0 * 12:=(by simpa using hsz); rw [e]; exact cN 12 hroom)
   (fun i j hi hj=>by rw [rU]; exact hA1 i j (by omega) hj) _ (.inl rfl)
  have hm:∀ {c:AV} {v:Value},Rv w U ρ c v→Rv w' U (j4 ρ n (.slice (some ⟨B,0,none⟩) (l.length+1) cap0)) c v:=fun h=>h.mono hext.sz (fun b' _ hb'=>hk1 b' fun e=>hb' (e▸hUB)) (fun _ _ h=>h) (du hn)
  refine ⟨_,U,_,rfl,Ef.newVec hwr hn rfl hext (fun b' _ hno=>hk1 b' fun e=>hno a .dead (by simp) (e▸hownA)) (fun b' h'=>by rw [hsize]; exact hub b' h') (fun _ _=>Iff.rfl) ?_ ?_⟩
  ·refine G6 (x:=x) (k:=k) (f:=f) (g:=g 0) (by omega) (by simp [j4]) (by unfold zC; omega) hUB hBB' (by simp [cd,hsz,e12]) hroom ?_ ?_ ?_ (fun i hi j c h=>hm (hf0 i hi j c h)) (fun j c h=>hm (hgx j c h))
   ·intro i j hi hj; rw [jG]; exact c1 i j hi hj
   ·intro j hj; rw [jG]; exact c2 j hj
   ·intro i j hi hi' hj; rw [jG]; exact c3 i j hi hi' hj
  ·intro b' hb'
   simp [c9] at hb'
   exact .inr ⟨a,.dead,by simp,by rw [← hb'.2]; exact hownA⟩
 ·
  refine (LN B l.length cap0 k B2 cap1 (aI 12 l.length f) (aI 12 1 g) w hk hle0 (by omega) hmax i0 z hinfo hisz hbytes hz hzc aP aP hcs hvs hone0 hone1).mono ?_
  rintro e w' ⟨rfl,rfl⟩
  have hge:=grownCap_ge w (l.length+1) cap0 54
  generalize hG:grownCap w (l.length+1) cap0 54=G at hge
  generalize hROW:(((aI 12 l.length f).take (k * 12)).toArray++Builtin.zeroCells z.cells (l.length+1 - k)++Builtin.zeroCells z.cells (G - (l.length+1)))=ROW
  have hRs:ROW.size=G * 12:=by
   rw [← hROW]
   simp only [Array.size_append,List.size_toArray,rW,aP,gn,hzc]
   omega
  have hRg:∀ i j,i < k→j < 12→ROW[i * 12+j]?=some (f i j):=fun i j hi hj=>by
   rw [← hROW,Array.append_assoc,Array.getElem?_append_left (by simp only [List.size_toArray,rW,aP]; omega),jG,List.getElem?_take_of_lt (by omega)]
   exact gP (by omega) hj
  have hnew:(w.alloc (.cells ROW 54)).heap[w.heap.size]?=some (.cells ROW 54 (0,0)):=dp w _
  have hold2:∀ b',b' < w.heap.size→(w.alloc (.cells ROW 54)).heap[b']?=w.heap[b']?:=fun b' h=>aY w _ b' h
  have hs2:(w.alloc (.cells ROW 54)).heap.size=w.heap.size+1:=aH w _
  have hx2:gu w (w.alloc (.cells ROW 54)):=gu.alloc w ROW 54
  generalize w.alloc (.cells ROW 54)=W2 at hnew hold2 hs2 hx2 ⊢
  have h3:(W2.drew.setCells w.heap.size (k * 12) (aI 12 1 g)).heap[w.heap.size]?=some (.cells (f8 ROW.toList (k * 12) (aI 12 1 g)).toArray 54 (0,0)):=bN _ W2.drew w.heap.size (k * 12) (show W2.drew.heap[w.heap.size]?=_ from hnew)
  have hold3:∀ b',b' < w.heap.size→(W2.drew.setCells w.heap.size (k * 12) (aI 12 1 g)).heap[b']?=w.heap[b']?:=fun b' h=>(zV _ W2.drew w.heap.size _ b' (Nat.ne_of_lt h)).trans (show W2.drew.heap[b']?=_ from hold2 b' h)
  have hs3:(W2.drew.setCells w.heap.size (k * 12) (aI 12 1 g)).heap.size=w.heap.size+1:=(aR _ W2.drew _ _).trans (show W2.drew.heap.size=_ from hs2)
  have hx3:gu w (W2.drew.setCells w.heap.size (k * 12) (aI 12 1 g)):=(hx2.trans (gu.drew W2)).trans (gu.setCells _ _ _ _)
  generalize W2.drew.setCells w.heap.size (k * 12) (aI 12 1 g)=W3 at h3 hold3 hs3 hx3 ⊢
  have hBB':(W3.drew.setCells w.heap.size ((k+1) * 12) ((aI 12 l.length f).drop (k * 12))).heap[w.heap.size]?=some (.cells (f8 (f8 ROW.toList (k * 12) (aI 12 1 g)) ((k+1) * 12) ((aI 12 l.length f).drop (k * 12))).toArray 54 (0,0)):=by
   have:=bN ((aI 12 l.length f).drop (k * 12)) W3.drew w.heap.size ((k+1) * 12) (show W3.drew.heap[w.heap.size]?=_ from h3)
   rwa [List.toList_toArray] at this
  have hk1:∀ b',b' < w.heap.size→(W3.drew.setCells w.heap.size ((k+1) * 12) ((aI 12 l.length f).drop (k * 12))).heap[b']?=w.heap[b']?:=fun b' h=>(zV _ W3.drew w.heap.size _ b' (Nat.ne_of_lt h)).trans (show W3.drew.heap[b']?=_ from hold3 b' h)
  have hsize:(W3.drew.setCells w.heap.size ((k+1) * 12) ((aI 12 l.length f).drop (k * 12))).heap.size=w.heap.size+1:=(aR _ W3.drew _ _).trans (show W3.drew.heap.size=_ from hs3)
  have hext:gu w (W3.drew.setCells w.heap.size ((k+1) * 12) ((aI 12 l.length f).drop (k * 12))):=(hx3.trans (gu.drew W3)).trans (gu.setCells _ _ _ _)
  generalize W3.drew.setCells w.heap.size ((k+1) * 12) ((aI 12 l.length f).drop (k * 12))=w' at hk1 hsize hBB' hext ⊢
  obtain ⟨c1,c2,c3⟩:=y5 (sz:=12) (n:=l.length) (k:=k) ROW.toList (aI 12 1 g) ((aI 12 l.length f).drop (k * 12)) (f:=f) (g:=g 0) (by omega) aP hbg rfl (by have e:ROW.toList.length=G * 12:=(by simpa using hRs); rw [e]; exact cN 12 hge)
   (fun i j hi hj=>by rw [rU]; exact hRg i j hi hj) _ (.inr rfl)
  obtain ⟨U2,u1,u2,u3⟩:∃ U2:Nat→Prop,(∀ b,b < w.heap.size→(U2 b↔U b))∧U2 w.heap.size∧∀ b,U2 b→b < w'.heap.size:=
   ⟨fun b=>U b∨b=w.heap.size,fun b hb=>⟨fun h=>h.elim id fun e=>absurd e (Nat.ne_of_lt hb),.inl⟩,.inr rfl,fun b h=>by
    rw [hsize]
    rcases h with h | h
    ·exact Nat.lt_succ_of_lt (hub b h)
    ·rw [h]; exact Nat.lt_succ_self _⟩
  have hm:∀ {c:AV} {v:Value},Rv w U ρ c v→Rv w' U2 (j4 ρ n (.slice (some ⟨w.heap.size,0,none⟩) (l.length+1) G)) c v:=fun h=>h.mono hext.sz (fun b' hb' _=>hk1 b' hb') (fun b hb h=>(u1 b hb).1 h) (du hn)
  refine ⟨_,U2,_,rfl,Ef.newVec hwr hn rfl hext (fun b' hb' _=>hk1 b' hb') u3 u1 ?_ ?_⟩
  ·refine G6 (x:=x) (k:=k) (f:=f) (g:=g 0) (by omega) (by simp [j4]) (by unfold zC; omega) u2 hBB' (by simp [cd,hRs,e12]) hge ?_ ?_ ?_ (fun i hi j c h=>hm (hf0 i hi j c h)) (fun j c h=>hm (hgx j c h))
   ·intro i j hi hj; rw [jG]; exact c1 i j hi hj
   ·intro j hj; rw [jG]; exact c2 j hj
   ·intro i j hi hi' hj; rw [jG]; exact c3 i j hi hi' hj
  ·intro b' hb'
   simp [c9] at hb'
   exact .inl (Nat.le_of_eq hb'.2)

abbrev zdH:=lz []
theorem zey:zA GS.P 78 Tryz.f78 3:=aQ (by kernel_rfl)
noncomputable def Wm (l:List (Sem zh)) (i:Int) (x:Sem zh):Tr (Empty ⊕ aj):=
 Tr.chk (decide (0≤i)&&decide (i≤(↑l.length:Int)))
 (Tr.br ((↑[x].length:Int)==0)
  (Tr.re (AV.vec 0) [AO.vec zh l,AO.vec zh [x]])
  (Tr.br (i==(↑l.length:Int)) (Tr.chk (decide (l.length+[x].length≤1073741824)) (Tr.re (AV.vec 2) [AO.dead,AO.vec zh [x],AO.vec zh (l++[x])])) Tr.err))
theorem zcA (l:List (Sem zh)) (i:Int) (x:Sem zh):rn GS 2 zdH Tryz.f78 [AV.vec 0,AV.int .i64 i,AV.vec 1] [AO.vec zh l,AO.vec zh [x]]=(Wm l i x).map (lf Tryz.f78 e0):=by kernel_rfl
def zbv:cF [none,none,none]:=fun a h=>match a,h with
 | (.vec 0,.int .i64 i,.vec 1,_),[.vec FC l,.vec FC [x]]=>.chk (i==(length l:Int)) (.chk (decide (length l+1≤1073741824)) (.ok (.vec 2,[.dead,.vec zh [x],.vec zh (l++[x])])))
 | _,_=>.err
def ZI:zF:=zU [none,none,none] zbv
theorem UP:FK 78 ZI:=by
 refine fk (ι:=List (Sem zh)×Int×Sem zh) (args:=fun y=>[AV.vec 0,AV.int .i64 y.2.1,AV.vec 1]) (heap:=fun y=>[AO.vec zh y.1,AO.vec zh [y.2.2]]) (i:=fun y=>Wm y.1 y.2.1 y.2.2) (t:=t0) (e:=e0) (n:=100000000) (n0:=2) yG zey (fun _=>rfl) (fun y=>zcA _ _ _) (fun s=>nomatch s) (fun a h res hv=>?_)
 unfold zbv at hv
 split at hv
 ·rename_i i u l x
  simp only [Tr.val] at hv
  split at hv
  ·rename_i h1
   split at hv
   ·rename_i h2
    simp only [ao] at hv
    subst hv
    refine ⟨(l,i,x),rfl,rfl,?_⟩
    have h3:i=(length l:Int):=by simpa using h1
    subst h3
    have h4:length l+1≤1073741824:=by simpa using h2
    unfold bh Wm
    simp [Tr.val,h4]
   ·cases hv
  ·cases hv
 ·simp at hv

theorem JZ:FK 78 Tg where
 fn:=⟨Tryz.f78,by kernel_rfl,by kernel_rfl,by kernel_rfl⟩
 calls:=fun w U ρ hp n args vals f fp hf hr hub hgl hfp hin hcl hnw=>by
  unfold Tg at hf
  split at hf
  ·rename_i a i b
   split at hf
   ·simp at hf
   rename_i hab
   split at hf
   ·rename_i l x ha hb
    unfold LM at hf
    simp only [Tr.val_chk,Tr.val_ok,ao] at hf
    obtain ⟨h1,h2,rfl⟩:=hf
    obtain ⟨h0,h1⟩:=gU.1 h1
    obtain ⟨k,rfl⟩:=Int.eq_ofNat_of_zero_le h0
    have hl:=hr.len
    match vals,hl,hr with
    | [va,vi,vb],_,hr=>
     have r0:=hr.rv 0 _ va rfl rfl
     have r1:=hr.rv 1 _ vi rfl rfl
     have r2:=hr.rv 2 _ vb rfl rfl
     cases r0 with
     | vec _ _ hva _=>
     cases r1 with
     | int _ _ _=>
     cases r2 with
     | vec _ _ hvb _=>
     have ia:a∈fp:=hin a (by simp [AV.idsL,AV.ids])
     have ib:b∈fp:=hin b (by simp [AV.idsL,AV.ids])
     refine ⟨Ws hub ha hb (hfp.ob a ia) (hfp.ob b ib) (fun q ho ho'=>hab (hfp.inj a ia b ib q ho ho')) hva hvb (hnw 0 (by simp)) (by omega) (by simpa using h2),fun id o ho=>?_⟩
     simp at ho
     rcases ho with ⟨rfl,_⟩ | ⟨rfl,_⟩
     ·exact ia
     ·exact ib
   ·simp at hf
  ·simp at hf

def Th:zF:=fun args hp n=>match args with
 | [.vec a,.int .i64 i,.vec b]=>match hp a with
  | .vec FC l=>.br (i==(length l:Int)) (ZI [.vec a,.int .i64 i,.vec b] hp n) (Tg [.vec a,.int .i64 i,.vec b] hp n)
  | _=>.err
 | _=>.err
theorem UR:FK 78 Th where
 fn:=JZ.fn
 calls:=fun w U ρ hp n args vals f fp hf hr hub hgl hfp hin hcl hnw=>by
  unfold Th at hf
  split at hf
  ·split at hf
   ·simp only [Tr.val] at hf
    split at hf
    ·exact UP.calls w U ρ hp n _ vals f fp hf hr hub hgl hfp hin hcl hnw
    ·exact JZ.calls w U ρ hp n _ vals f fp hf hr hub hgl hfp hin hcl hnw
   ·simp at hf
  ·simp at hf

noncomputable def EX:=GS.add 78 Th
theorem lp:zl EX:=yG.add UR
noncomputable section
def PN:bt:={ EX with own:=true }
theorem C9:zl PN:=⟨⟨lp.sh⟩,lp.fs,lp.mix⟩

def LL (x0:Sem zh.sl) (x1:Sem zh):Tr (Empty ⊕ aj):=
 let a0:=zR x0 x1.1.1
 let a1:=((x1.1.1,x1.1.2.1,x1.1.2.2.1,x1.1.2.2.2.1,x1.1.2.2.2.2.1,zE x1.1.2.2.2.2.2),x1.2)
 let a2:=zL (fun y => !(Op.bytesLess y.1.1 x1.1.1||y.1.1==x1.1.1)) x0 0
 let a3:=(↑(length x0):Int)==(↑(length x0):Int)
 let a4:=decide (length x0+1≤1073741824)
 let a5:=a2==(↑(length x0):Int)
 Tr.chk (decide (length x0≤1073741824))
 (Tr.br (decide (a0 ≥ 0))
  (Tr.chk (zI a0 (length x0)) (Tr.chk (decide (toNat a0 < length x0)) (Tr.re (AV.vec 0) [AO.vec zh (List.set x0 (toNat a0) a1)])))
  (Tr.br (decide (a2 < 0)) (Tr.br a3 (Tr.chk a3 (Tr.chk (decide (length x0+1≤1073741824)) (Tr.re (AV.vec 0) [AO.vec zh (x0++[a1])]))) (Tr.chk (zI (↑(length x0):Int) (length x0)) (Tr.chk a4 (Tr.re (AV.vec 0) [AO.vec zh (G5 x0 (↑(length x0):Int) a1)])))) (Tr.br a5 (Tr.chk a5 (Tr.chk (decide (length x0+1≤1073741824)) (Tr.re (AV.vec 0) [AO.vec zh
  (x0++[a1])]))) (Tr.chk (zI a2 (length x0)) (Tr.chk a4 (Tr.re (AV.vec 0) [AO.vec zh (G5 x0 a2 a1)]))))))
def lm (x0:Sem zh.sl) (x1:Sem zh):=zW [zh.sl] t0 100000000 (LL x0 x1)
def jm (x0:Sem zh.sl) (x1:Sem zh):=(lm x0 x1).isSome
def jP (x0:Sem zh.sl) (x1:Sem zh):=o1 (lm x0 x1)
def Zm:=FT [zh.sl,zh] [zh.sl] fun x=>lm x.1 x.2.1
theorem Ur:FK 41 Zm:=C9.T1 (f:=Tryz.f41) (keep:=k0) (e:=e0)

def yH:=EX.add 41 Zm
theorem rm:zl yH:=lp.add Ur

end
noncomputable section
abbrev ag:Sh:=.pr (.sl zh) zm

abbrev SJ:=lz [(4,[3,7,8,20,21,22])]
inductive If where
 | h4 (i7:Sem zg) (l20:List (Sem zf.sl)) (i21:Int) (i22:Int) (z0:zu [CP.d zh]) (mh_1:List ((Int×Int×zo)×Int))
abbrev KB:If→Nat×St
 | .h4 i7 l20 i21 i22 z0 mh_1=>(4,⟨tm 35 [(3,AV.ptr 0 0),(7,AV.int .i64 i7),(8,AV.mp 1),(20,AV.sl zf.sl l20),(21,AV.int .i64 i21),(22,AV.int .i64 i22)],[AO.box (bJ [] [CP.d zh] z0),AO.vmap true mh_1]⟩)
theorem zeg:zA yH.P 47 Tryz.f47 2:=aQ (by kernel_rfl)
def P1 (d:Sem ag) (x:Sem zh):Tr (If ⊕ aj):=
 let a0:=((x.1.1,x.1.2.1,x.1.2.2.1,x.1.2.2.2.1,x.1.2.2.2.2.1,zE x.1.2.2.2.2.2),x.2)
 let a1:=zE d.2.2.2.2.2.2.2.2.2.2.2.2.1
 let a2:=rJ a0 a1
 Tr.chk (nI a0 a1) (Tr.to (If.h4 a2.2 a2.1 (↑(length a2.1):Int) 0 (x,()) []))
theorem zcq (d:Sem ag) (x:Sem zh):rn yH 0 SJ Tryz.f47 [zz ag d,zz zh x] []=(P1 d x).map (lf Tryz.f47 KB):=by kernel_rfl
def JB:If→Tr (If ⊕ aj)
 | .h4 i7 l20 i21 i22 z0 mh_1=>
  let a0:=(z0.1.1.1,z0.1.1.2.1,z0.1.1.2.2.1,z0.1.1.2.2.2.1,z0.1.1.2.2.2.2.1,zE z0.1.1.2.2.2.2.2)
  let a1:=l20.getD i22.toNat (zj zf.sl)
  Tr.br (decide (i22 < i21))
  (Tr.chk (zI i22 l20.length) (Tr.chk (NI a0 a1) (Tr.to (If.h4 i7 l20 i21 (IntKind.i64.wrap (i22+1)) z0 (iC mh_1 (XV a0 a1) 0)))))
  (Tr.re (AV.tup [AV.mp 0,AV.int .i64 i7]) [AO.vmap true mh_1])
theorem zeS:∀ s,run yH 0 SJ (Func.results Tryz.f47).toList 400 (zy Tryz.f47 (KB s).1) (KB s).2=(JB s).map (lf Tryz.f47 KB):=by intro s; cases s <;> kernel_rfl
def GL (d:Sem ag) (x:Sem zh):=bh JB 100000000 (P1 d x)

def mO (d:Sem ag) (x:Sem zh):Option (List ((Int×Int×zo)×Int)×Int):=match GL d x with
 | some (.tup [.mp 0,.int .i64 e],[.vmap true es])=>some (es,e)
 | _=>none
def mV (d:Sem ag) (x:Sem zh):List ((Int×Int×zo)×Int)×Int:=(mO d x).getD ([],0)
theorem zdP {d:Sem ag} {x:Sem zh} (h:(mO d x).isSome=true):GL d x=some (.tup [.mp 0,.int .i64 (mV d x).2],[.vmap true (mV d x).1]):=by
 unfold mV
 unfold mO at h ⊢
 split at h
 ·rename_i e es hd
  rw [hd]
  rfl
 ·cases h
def zbs:cF [some ag,some zh]:=fun a h=>match h with
 | []=>.chk ((mO a.1 a.2.1).isSome) (.ok (.tup [.mp 0,.int .i64 (mV a.1 a.2.1).2],[.vmap true (mV a.1 a.2.1).1]))
 | _=>.err
def Zr:zF:=zU [some ag,some zh] zbs
theorem Uw:FK 47 Zr:=by
 refine fk (ι:=Sem ag×Sem zh) (args:=fun y=>[zz ag y.1,zz zh y.2]) (heap:=fun _=>[]) (i:=fun y=>P1 y.1 y.2) (t:=JB) (e:=KB) (n:=100000000) (n0:=0) rm zeg (fun _=>rfl) (fun y=>zcq _ _) zeS (fun a h res hv=>?_)
 unfold zbs at hv
 split at hv
 ·simp only [Tr.val] at hv
  split at hv
  ·rename_i h1
   simp only [ao] at hv
   subst hv
   exact ⟨(a.1,a.2.1),rfl,rfl,zdP h1⟩
  ·cases hv
 ·simp at hv

def Zu:zF:=zU (List.replicate 3 none) (bZ yH Tryz.f50 (List.replicate 3 none))
theorem Uz:FK 50 Zu:=au _ rm (aQ (by kernel_rfl))

def C5:=yH.addL [(47,Zr),(50,Zu)]
theorem yI:zl C5:=rm.addL <| fc Uw <| fc Uz <|  jf
end

abbrev SO:=lz [(2,[0,1,7,8])]
inductive Ii where
 | h2 (i7:Int) (i8:Int) (z2:zu [CP.d zh]) (lh_0:List (Sem zf.sl)) (mh_3:List ((Int×Int×zo)×Int))
abbrev KH:Ii→Nat×St
 | .h2 i7 i8 z2 lh_0 mh_3=>(2,⟨tm 19 [(0,AV.vec 0),(1,AV.clo (Fn.func 50) [] [AV.ptr 1 0,AV.ptr 2 0]),(7,AV.int .i64 i7),(8,AV.int .i64 i8)],[AO.vec zf.sl lh_0,AO.box [AV.mp 3],AO.box (bJ [] [CP.d zh] z2),AO.vmap true mh_3]⟩)
theorem zeH:zA C5.P 88 Tryz.f88 2:=aQ (by kernel_rfl)
noncomputable def Wq (l:List (List (Sem zf))) (x:Sem zh) (es:List ((Int×Int×zo)×Int)):Tr (Ii ⊕ aj):=
 Tr.to (Ii.h2 (↑l.length:Int) 0 (x,()) l es)
theorem zcD (l:List (List (Sem zf))) (x:Sem zh) (es:List ((Int×Int×zo)×Int)):rn C5 4 SO Tryz.f88 [AV.vec 0,AV.clo (Fn.func 50) [] [AV.ptr 1 0,AV.ptr 2 0]] [AO.vec (Sh.sl zf) l,AO.box [AV.mp 3],AO.box (bJ [] [CP.d zh] (x,())),AO.vmap true es]=(Wq l x es).map (lf Tryz.f88 KH):=by kernel_rfl
noncomputable def JF:Ii→Tr (Ii ⊕ aj)
 | .h2 i7 i8 z2 lh_0 mh_3=>
  let a0:=lh_0.getD i8.toNat (zj zf.sl)
  Tr.br (decide (i8 < i7))
  (Tr.chk (zI i8 lh_0.length) (Tr.chk (decide (i8.toNat < lh_0.length)) (Tr.chk (zI z2.1.1.2.2.1 (length a0)) (Tr.br (fN mh_3 (getD a0 (toNat z2.1.1.2.2.1) (zj zf))) (Tr.re (AV.int .i64 i8) [AO.vec zf.sl lh_0,AO.box [AV.mp 3],AO.box [AV.str z2.1.1.1,AV.sl zi z2.1.1.2.1,AV.int .i64 z2.1.1.2.2.1,AV.sl zg z2.1.1.2.2.2.1,AV.sl zq z2.1.1.2.2.2.2.1,
  AV.str (ze.op z2.1.1.2.2.2.2.2),AV.int .i64 (ze.v z2.1.1.2.2.2.2.2).1,AV.int .i64 (ze.v z2.1.1.2.2.2.2.2).2.1,AV.str (ze.v z2.1.1.2.2.2.2.2).2.2,AV.str (ze.s z2.1.1.2.2.2.2.2),AV.sl Sh.expr (ze.l z2.1.1.2.2.2.2.2),AV.sl zf.sl z2.1.2],AO.vmap true mh_3]) (Tr.to (Ii.h2 i7 (IntKind.i64.wrap (i8+1)) z2 lh_0 mh_3))))))
  (Tr.re (AV.int .i64 (-1)) [AO.vec zf.sl lh_0,AO.box [AV.mp 3],AO.box [AV.str z2.1.1.1,AV.sl zi z2.1.1.2.1,AV.int .i64 z2.1.1.2.2.1,AV.sl zg z2.1.1.2.2.2.1,AV.sl zq z2.1.1.2.2.2.2.1,AV.str (ze.op z2.1.1.2.2.2.2.2),AV.int .i64 (ze.v z2.1.1.2.2.2.2.2).1,AV.int .i64 (ze.v z2.1.1.2.2.2.2.2).2.1,AV.str (ze.v z2.1.1.2.2.2.2.2).2.2,
  AV.str (ze.s z2.1.1.2.2.2.2.2),AV.sl Sh.expr (ze.l z2.1.1.2.2.2.2.2),AV.sl zf.sl z2.1.2],AO.vmap true mh_3])
theorem ze2:∀ s,run C5 4 SO (Func.results Tryz.f88).toList 400 (zy Tryz.f88 (KH s).1) (KH s).2=(JF s).map (lf Tryz.f88 KH):=by intro s; cases s <;> kernel_rfl
noncomputable def zhs (l:List (List (Sem zf))) (x:Sem zh) (es:List ((Int×Int×zo)×Int)):=bh JF 100000000 (Wq l x es)


def jt (k:Int) (es:List ((Int×Int×zo)×Int)) (r:List (Sem zf)):Bool:=fN es (getD r (toNat k) (zj zf))
def LY (l:List (List (Sem zf))) (x:Sem zh) (es:List ((Int×Int×zo)×Int)):List AO:=[AO.vec zf.sl l,AO.box [AV.mp 3],AO.box (bJ [] [CP.d zh] (x,())),AO.vmap true es]
theorem Wu (l:List (List (Sem zf))) (x:Sem zh) (es:List ((Int×Int×zo)×Int)) (hl:l.length≤1000000) (hk:∀ r∈l,zI x.1.2.2.1 (length r)=true):∀ (m i n:Nat),l.length - i=m→i≤l.length→m < n→
  bl JF n (.h2 (l.length:Int) (i:Int) (x,()) l es)=some (.int .i64 (zL (jt x.1.2.2.1 es) (l.drop i) i),LY l x es):=by
 intro m
 induction m with
 | zero=>
  intro i n hm hi hn
  obtain rfl:i=l.length:=by omega
  obtain ⟨n,rfl⟩:∃ k,n=k+1:=⟨n - 1,by omega⟩
  rw [bl]
  simp only [JF,Tr.val,zX,cL]
  rfl
 | succ m IH=>
  intro i n hm hi hn
  have hlt:i < l.length:=by omega
  have h2:decide ((i:Int).toNat < l.length)=true:=by simpa using hlt
  obtain ⟨n,rfl⟩:∃ k,n=k+1:=⟨n - 1,by omega⟩
  have h3:=hk l[i] (dg hlt)
  rw [bl,dw hlt]
  simp only [JF,Tr.val,zT hlt,zB hlt,h2,ac l _ hlt,zD i (by unfold zC; omega),if_true,zL,h3]
  by_cases h:jt x.1.2.2.1 es l[i]=true
  ·have h':fN es (getD l[i] (toNat x.1.2.2.1) (zj zf))=true:=h
   rw [h]
   simp only [h',if_true]
   rfl
  ·have h':¬ fN es (getD l[i] (toNat x.1.2.2.1) (zj zf))=true:=h
   rw [if_neg h',Bool.eq_false_iff.2 h]
   dsimp only
   exact IH (i+1) n (by omega) (by omega) (by omega)
theorem P8 (l:List (List (Sem zf))) (x:Sem zh) (es:List ((Int×Int×zo)×Int)) (hl:l.length≤1000000) (hk:∀ r∈l,zI x.1.2.2.1 (length r)=true):zhs l x es=some (.int .i64 (zL (jt x.1.2.2.1 es) l 0),LY l x es):=by
 have:=Wu l x es hl hk l.length 0 100000000 rfl (aV _) (by omega)
 rw [List.drop_zero] at this
 exact this

@[match_pattern] abbrev wj:Sh:=.pr (.int .i64) (.pr (.int .i64) .str)
@[match_pattern] abbrev ze6:Sh:=.pr .str (.pr (.int .i64) .bool)
@[match_pattern] abbrev ze7:Sh:=.pr (.int .i64) .str
def zbx:cF [none,none]:=fun a h=>match a,h with
 | (.vec 0,.clo (.func 50) [] [.ptr 1 0,.ptr 2 0],_),[.vec (.sl wj) l,.box [.mp 3],.box [.str n,.sl ze6 cs,.int .i64 k,.sl (.int .i64) us,.sl ze7 fs,.str eo,.int .i64 p,.int .i64 q,.str vs,.str ss,.sl .expr el,.sl (.sl wj) rs],.vmap true es]=>
  .chk (decide (length l≤1000000)&&List.all l (fun r=>zI k (length r))) (.ok (.int .i64 (zL (jt k es) l 0),[.vec (.sl zf) l,.box [.mp 3],.box [.str n,.sl zi cs,.int .i64 k,.sl zg us,.sl zq fs,.str eo,.int .i64 p,.int .i64 q,.str vs,.str ss,.sl .expr el,.sl (.sl zf) rs],.vmap true es]))
 | _,_=>.err
def ZU:zF:=zU [none,none] zbx
theorem U5:FK 88 ZU:=by
 refine fk (ι:=List (List (Sem zf))×Sem zh×List ((Int×Int×zo)×Int)) (args:=fun _=>[AV.vec 0,AV.clo (Fn.func 50) [] [AV.ptr 1 0,AV.ptr 2 0]]) (heap:=fun y=>LY y.1 y.2.1 y.2.2) (i:=fun y=>Wq y.1 y.2.1 y.2.2) (t:=JF) (e:=KH) (n:=100000000) (n0:=4) yI zeH (fun _=>rfl) (fun y=>zcD _ _ _) ze2 (fun a h res hv=>?_)
 unfold zbx at hv
 split at hv
 ·rename_i u l n cs k us fs eo p q vs ss el rs es
  simp only [Tr.val] at hv
  split at hv
  ·rename_i h1
   simp only [ao] at hv
   subst hv
   simp only [aL,ae,cX] at h1
   exact ⟨(l,((n,cs,k,us,fs,ze.mk eo (p,q,vs) ss el),rs),es),rfl,rfl,P8 l ((n,cs,k,us,fs,ze.mk eo (p,q,vs) ss el),rs) es h1.1 h1.2⟩
  ·cases hv
 ·simp at hv

noncomputable def C6:=C5.add 88 ZU
theorem yJ:zl C6:=yI.add U5

abbrev SK:=lz [(5,[0,1,5,6])]
inductive En where
 | h5 (i5:Int) (i6:Int) (z2:zu [CP.d zh]) (lh_0:List (Sem zf.sl)) (mh_3:List ((Int×Int×zo)×Int))
abbrev KC:En→Nat×St
 | .h5 i5 i6 z2 lh_0 mh_3=>(5,⟨tm 42 [(0,AV.vec 0),(1,AV.clo (Fn.func 50) [] [AV.ptr 1 0,AV.ptr 2 0]),(5,AV.int .i64 i5),(6,AV.int .i64 i6)],[AO.vec zf.sl lh_0,AO.box [AV.mp 3],AO.box (bJ [] [CP.d zh] z2),AO.vmap true mh_3]⟩)
theorem zej:zA C6.P 49 Tryz.f49 2:=aQ (by kernel_rfl)
noncomputable def P2 (l:List (List (Sem zf))) (x:Sem zh) (es:List ((Int×Int×zo)×Int)):Tr (En ⊕ aj):=
 let a0:=zL (jt x.1.2.2.1 es) l 0
 Tr.chk (decide (l.length≤1000000)&&l.all fun r=>zI x.1.2.2.1 (length r))
 (Tr.br (a0==-1)
  (Tr.re (AV.vec 0) [AO.vec zf.sl l,AO.box [AV.mp 3],AO.box [AV.str x.1.1,AV.sl zi x.1.2.1,AV.int .i64 x.1.2.2.1,AV.sl zg x.1.2.2.2.1,AV.sl zq x.1.2.2.2.2.1,AV.str (ze.op x.1.2.2.2.2.2),AV.int .i64 (ze.v x.1.2.2.2.2.2).1,AV.int .i64 (ze.v x.1.2.2.2.2.2).2.1,AV.str (ze.v x.1.2.2.2.2.2).2.2,AV.str (ze.s x.1.2.2.2.2.2),AV.sl Sh.expr (ze.l x.1.2.2.2.2.2),
  AV.sl zf.sl x.2],AO.vmap true es])
  (Tr.to (En.h5 a0 (IntKind.i64.wrap (a0+1)) (x,()) l es)))
theorem zcs (l:List (List (Sem zf))) (x:Sem zh) (es:List ((Int×Int×zo)×Int)):rn C6 4 SK Tryz.f49 [AV.vec 0,AV.clo (Fn.func 50) [] [AV.ptr 1 0,AV.ptr 2 0]] [AO.vec (Sh.sl zf) l,AO.box [AV.mp 3],AO.box (bJ [] [CP.d zh] (x,())),AO.vmap true es]=(P2 l x es).map (lf Tryz.f49 KC):=by kernel_rfl
noncomputable def JC:En→Tr (En ⊕ aj)
 | .h5 i5 i6 z2 lh_0 mh_3=>
  let a0:=lh_0.getD i6.toNat (zj zf.sl)
  let a1:=IntKind.i64.wrap (i6+1)
  let a2:=decide (0≤i5)
  let a3:=List.take i5.toNat lh_0++List.replicate (lh_0.length - i5.toNat) []
  let a4:=(↑a3.length:Int)
  Tr.br (decide (i6 < (↑lh_0.length:Int)))
  (Tr.chk (zI i6 lh_0.length) (Tr.chk (decide (i6.toNat < lh_0.length)) (Tr.chk (zI z2.1.1.2.2.1 (length a0)) (Tr.br (!fN mh_3 (getD a0 (toNat z2.1.1.2.2.1) (zj zf))) (Tr.chk (zI i5 lh_0.length) (Tr.chk (decide (i5.toNat < lh_0.length)) (Tr.to (En.h5 (IntKind.i64.wrap (i5+1)) a1 z2 (lh_0.set i5.toNat a0) mh_3)))) (Tr.to (En.h5 i5 a1 z2 lh_0 mh_3))))))
  (Tr.chk (a2&&decide (i5≤(↑lh_0.length:Int))) (Tr.chk (decide (i5.toNat≤lh_0.length)) (Tr.chk (decide (0≤0)&&a2&&decide (i5≤a4)) (Tr.re (AV.sl zf.sl (List.take (i5.toNat - toNat 0) (List.drop (toNat 0) a3))) [AO.frz zf.sl a3,AO.box [AV.mp 3],AO.box [AV.str z2.1.1.1,AV.sl zi z2.1.1.2.1,AV.int .i64 z2.1.1.2.2.1,
  AV.sl zg z2.1.1.2.2.2.1,AV.sl zq z2.1.1.2.2.2.2.1,AV.str (ze.op z2.1.1.2.2.2.2.2),AV.int .i64 (ze.v z2.1.1.2.2.2.2.2).1,AV.int .i64 (ze.v z2.1.1.2.2.2.2.2).2.1,AV.str (ze.v z2.1.1.2.2.2.2.2).2.2,AV.str (ze.s z2.1.1.2.2.2.2.2),AV.sl Sh.expr (ze.l z2.1.1.2.2.2.2.2),AV.sl zf.sl z2.1.2],AO.vmap true mh_3]))))
theorem zeT:∀ s,run C6 4 SK (Func.results Tryz.f49).toList 400 (zy Tryz.f49 (KC s).1) (KC s).2=(JC s).map (lf Tryz.f49 KC):=by intro s; cases s <;> kernel_rfl
noncomputable def R8 (l:List (List (Sem zf))) (x:Sem zh) (es:List ((Int×Int×zo)×Int)):=bh JC 100000000 (P2 l x es)

set_option maxHeartbeats 2000000

theorem cn {α:Type} (p:α→Bool):∀ (l:List α) (i:Nat),(zL p l i=-1∧∀ x∈l,p x=false)∨∃ (k:Nat) (h:k < l.length),zL p l i=((i+k:Nat):Int)∧p l[k]=true∧∀ x∈l.take k,p x=false
 | [],_=>.inl ⟨rfl,by simp⟩
 | x::r,i=>by
  unfold zL
  split
  ·rename_i h
   exact .inr ⟨0,by simp,rfl,h,by simp⟩
  ·rename_i h
   have hx:p x=false:=by simpa using h
   rcases cn p r (i+1) with ⟨h1,h2⟩ | ⟨k,hk,h1,h2,h3⟩
   ·refine .inl ⟨h1,fun y hy=>?_⟩
    rcases cY.1 hy with rfl | hy
    ·exact hx
    ·exact h2 y hy
   ·refine .inr ⟨k+1,by simpa using hk,by rw [h1]; congr 1; omega,by simpa using h2,fun y hy=>?_⟩
    rw [List.take_succ_cons] at hy
    rcases cY.1 hy with rfl | hy
    ·exact hx
    ·exact h3 y hy

theorem Aq {α:Type} {l:List α} {i:Nat} (h:i < l.length):l.take (i+1)=l.take i++[l[i]]:=by
 rw [List.take_add_one,zJ h]; rfl
abbrev pe (k:Int) (es:List ((Int×Int×zo)×Int)):List (Sem zf)→Bool:=fun r => !jt k es r
abbrev HY (k:Int) (es:List ((Int×Int×zo)×Int)) (l:List (List (Sem zf))):List (List (Sem zf)):=l.filter (pe k es)++List.replicate (l.length - (l.filter (pe k es)).length) ([]:List (Sem zf))
def zbQ (x:Sem zh) (es:List ((Int×Int×zo)×Int)) (l:List (List (Sem zf))):List AO:=[AO.frz zf.sl (HY x.1.2.2.1 es l),AO.box [AV.mp 3],AO.box (bJ [] [CP.d zh] (x,())),AO.vmap true es]

theorem PG (l:List (List (Sem zf))) (x:Sem zh) (es:List ((Int×Int×zo)×Int)) (hl:l.length≤1000000) (hk:∀ r∈l,zI x.1.2.2.1 (length r)=true):∀ (m i6 i5 n:Nat) (cur:List (List (Sem zf))),l.length - i6=m→i6≤l.length→i5≤i6→cur.length=l.length→
  cur.take i5=(l.take i6).filter (pe x.1.2.2.1 es)→cur.drop i6=l.drop i6→m < n→
  bl JC n (.h5 (i5:Int) (i6:Int) (x,()) cur es)=some (.sl zf.sl (l.filter (pe x.1.2.2.1 es)),zbQ x es l):=by
 intro m
 induction m with
 | zero=>
  intro i6 i5 n cur hm' hi h5 hcl ht hd hn
  obtain rfl:i6=l.length:=by omega
  obtain ⟨n,rfl⟩:∃ k,n=k+1:=⟨n - 1,by omega⟩
  rw [List.take_length] at ht
  have hlen5:(l.filter (pe x.1.2.2.1 es)).length=i5:=by rw [← ht,rW]; omega
  have e1:decide ((l.length:Int) < (cur.length:Int))=false:=by rw [hcl]; simp
  have e2:(decide ((0:Int)≤(i5:Int))&&decide ((i5:Int)≤(cur.length:Int)))=true:=by simp; omega
  have e3:decide ((i5:Int).toNat≤cur.length)=true:=by simp; omega
  have e4:(decide ((0:Int)≤0)&&decide ((0:Int)≤(i5:Int))&&decide ((i5:Int)≤((List.take (i5:Int).toNat cur++List.replicate (cur.length - (i5:Int).toNat) ([]:List (Sem zf))).length:Int)))=true:=by simp; omega
  rw [bl]
  simp only [JC,Tr.val,e1,e2,e3,if_true,zH,if_false]
  have e5:List.take ((i5:Int).toNat - toNat 0) (List.drop (toNat 0) (List.take (i5:Int).toNat cur++List.replicate (cur.length - (i5:Int).toNat) ([]:List (Sem zf))))=l.filter (pe x.1.2.2.1 es):=by
   simp only [aT,Int.toNat_zero,List.drop_zero,Nat.sub_zero]
   rw [List.take_append_of_le_length (by simp; omega),List.take_take,Nat.min_self,ht]
  have e6:List.take (i5:Int).toNat cur++List.replicate (cur.length - (i5:Int).toNat) ([]:List (Sem zf))=HY x.1.2.2.1 es l:=by
   simp only [aT]
   rw [ht,hcl]
   unfold HY
   rw [hlen5]
  rw [if_pos (by simp; omega),e5,e6]
  rfl
 | succ m IH=>
  intro i6 i5 n cur hm' hi h5 hcl ht hd hn
  obtain ⟨n,rfl⟩:∃ k,n=k+1:=⟨n - 1,by omega⟩
  have hlt:i6 < l.length:=by omega
  have hltc:i6 < cur.length:=by omega
  have h5c:i5 < cur.length:=by omega
  have hc6:cur[i6]=l[i6]:=by
   have:=congrArg (·[0]?) hd
   simp only [jI,oh] at this
   rw [zJ hltc,zJ hlt] at this
   exact Option.some.inj this
  have h2:decide ((i6:Int).toNat < cur.length)=true:=by simpa using hltc
  have h3:decide ((i5:Int).toNat < cur.length)=true:=by simpa using h5c
  have ht6:l.take (i6+1)=l.take i6++[l[i6]]:=Aq hlt
  have hd6:cur.drop (i6+1)=l.drop (i6+1):=by
   have:=congrArg (List.drop 1) hd
   simpa [List.drop_drop,po] using this
  have h7:=hk l[i6] (dg hlt)
  rw [bl]
  simp only [JC,Tr.val,zT hltc,zB hltc,zB h5c,h2,h3,ac cur _ hltc,hc6,h7,zD i6 (by unfold zC; omega),zD i5 (by unfold zC; omega),if_true]
  by_cases hk':jt x.1.2.2.1 es l[i6]=true
  ·have h':fN es (getD l[i6] (toNat x.1.2.2.1) (zj zf))=true:=hk'
   simp only [h',fG,zH,if_false]
   refine IH (i6+1) i5 n cur (by omega) (by omega) (by omega) hcl ?_ hd6 (by omega)
   rw [ht6,List.filter_append,← ht,List.filter_cons_of_neg (by simp [pe,hk']),List.filter_nil,jL]
  ·have hkf:jt x.1.2.2.1 es l[i6]=false:=by simpa using hk'
   have h':fN es (getD l[i6] (toNat x.1.2.2.1) (zj zf))=false:=hkf
   simp only [h',pn,if_true]
   refine IH (i6+1) (i5+1) n _ (by omega) (by omega) (by omega) (by simpa using hcl) ?_ ?_ (by omega)
   ·rw [ht6,List.filter_append,← ht]
    simp only [aT]
    rw [Aq (by simpa using h5c),List.filter_cons_of_pos (by simp [pe,hkf]),List.filter_nil]
    simp [List.take_set_of_le]
   ·simp only [aT]
    rw [List.drop_set_of_lt (by omega)]
    exact hd6
theorem Kw (l:List (List (Sem zf))) (x:Sem zh) (es:List ((Int×Int×zo)×Int)) (hl:l.length≤1000000) (hk:∀ r∈l,zI x.1.2.2.1 (length r)=true):
  R8 l x es=some (if zL (jt x.1.2.2.1 es) l 0==-1 then (.vec 0,LY l x es) else (.sl zf.sl (l.filter (pe x.1.2.2.1 es)),zbQ x es l)):=by
 have h0:(decide (l.length≤1000000)&&l.all fun r=>zI x.1.2.2.1 (length r))=true:=by
  simp only [aL,ae,cX]
  exact ⟨hl,hk⟩
 unfold R8 bh P2
 simp only [Tr.val,h0,if_true]
 by_cases h1:(zL (jt x.1.2.2.1 es) l 0==-1)=true
 ·simp only [h1,if_true]
  rfl
 ·rw [if_neg h1,if_neg h1]
  rcases cn (jt x.1.2.2.1 es) l 0 with ⟨h2,_⟩ | ⟨k,hk',h2,h3,h4⟩
  ·exfalso; apply h1; rw [h2]; rfl
  ·rw [h2,ez,zD k (by unfold zC; omega)]
   refine PG l x es hl hk (l.length - (k+1)) (k+1) k 100000000 l rfl (by omega) (by omega) rfl ?_ rfl (by omega)
   rw [Aq hk',List.filter_append,List.filter_cons_of_neg (by simp [pe,h3]),List.filter_nil,jL]
   refine (List.filter_eq_self.2 fun y hy=>?_).symm
   simp [pe,h4 y hy]

def zbt:cF [none,none]:=fun a h=>match a,h with
 | (.vec 0,.clo (.func 50) [] [.ptr 1 0,.ptr 2 0],_),[.vec (.sl wj) l,.box [.mp 3],.box [.str n,.sl ze6 cs,.int .i64 k,.sl (.int .i64) us,.sl ze7 fs,.str eo,.int .i64 p,.int .i64 q,.str vs,.str ss,.sl .expr el,.sl (.sl wj) rs],.vmap true es]=>
  .chk (decide (length l≤1000000)&&List.all l (fun r=>zI k (length r))) (.br (zL (jt k es) l 0==-1)
   (.ok (.vec 0,[.vec (.sl zf) l,.box [.mp 3],.box [.str n,.sl zi cs,.int .i64 k,.sl zg us,.sl zq fs,.str eo,.int .i64 p,.int .i64 q,.str vs,.str ss,.sl .expr el,.sl (.sl zf) rs],.vmap true es]))
   (.ok (.sl (.sl zf) (List.filter (pe k es) l),[.frz (.sl zf) (HY k es l),.box [.mp 3],.box [.str n,.sl zi cs,.int .i64 k,.sl zg us,.sl zq fs,.str eo,.int .i64 p,.int .i64 q,.str vs,.str ss,.sl .expr el,.sl (.sl zf) rs],.vmap true es])))
 | _,_=>.err
def Zt:zF:=zU [none,none] zbt
theorem Uy:FK 49 Zt:=by
 refine fk (ι:=List (List (Sem zf))×Sem zh×List ((Int×Int×zo)×Int)) (args:=fun _=>[AV.vec 0,AV.clo (Fn.func 50) [] [AV.ptr 1 0,AV.ptr 2 0]]) (heap:=fun y=>LY y.1 y.2.1 y.2.2) (i:=fun y=>P2 y.1 y.2.1 y.2.2) (t:=JC) (e:=KC) (n:=100000000) (n0:=4) yJ zej (fun _=>rfl) (fun y=>zcs _ _ _) zeT (fun a h res hv=>?_)
 unfold zbt at hv
 split at hv
 ·rename_i u l n cs k us fs eo p q vs ss el rs es
  simp only [Tr.val] at hv
  split at hv
  ·rename_i h1
   simp only [aL,ae,cX] at h1
   have h2:=Kw l ((n,cs,k,us,fs,ze.mk eo (p,q,vs) ss el),rs) es h1.1 h1.2
   refine ⟨(l,((n,cs,k,us,fs,ze.mk eo (p,q,vs) ss el),rs),es),rfl,rfl,?_⟩
   refine h2.trans ?_
   split at hv
   ·rename_i h3
    rw [if_pos h3]
    exact hv
   ·rename_i h3
    rw [if_neg h3]
    exact hv
  ·cases hv
 ·simp at hv

noncomputable def KV:=C6.add 49 Zt
theorem oR:zl KV:=yJ.add Uy
noncomputable section

def Wf (x0:Sem ag):Tr (Empty ⊕ aj):=
 let a0:=zR x0.1 x0.2.2.1
 let a1:=getD x0.1 (toNat a0) (zj zh)
 let a2:=((a1.1.1,a1.1.2.1,a1.1.2.2.1,a1.1.2.2.2.1,a1.1.2.2.2.2.1,zE a1.1.2.2.2.2.2),a1.2)
 let a3:=zE x0.2.2.2.2.2.2.2.2.2.2.2.2.1
 let a4:=rJ a2 a3
 let a5:=bS a4.2
 Tr.br (decide (a0 < 0))
 (Tr.chk true
  (Tr.re (AV.tup [AV.sl zh (bS 6).1,AV.agg [AV.int .i64 (bS 6).2.1,AV.int .i64 (bS 6).2.2.1,AV.sl zf.sl (bS 6).2.2.2]]) []))
 (Tr.chk (zI a0 (length x0.1))
  (Tr.chk (nI a2 a3) (Tr.br (a4.2 != 0) (Tr.chk (oL a4.2) (Tr.re (AV.tup [AV.sl zh a5.1,AV.agg [AV.int .i64 a5.2.1,AV.int .i64 a5.2.2.1,AV.sl zf.sl a5.2.2.2]]) [])) (Tr.re (AV.tup [AV.sl zh x0.1,AV.agg [AV.int .i64 0,AV.int .i64 (↑(length a4.1):Int),AV.sl zf.sl a4.1]]) []))))
def hJ (x0:Sem ag):=zW [zh.sl,cB] t0 100000000 (Wf x0)
def uw (x0:Sem ag):=(hJ x0).isSome
def AJ (x0:Sem ag):=o2 (hJ x0)
def Y8:=FT [ag] [zh.sl,cB] fun x=>hJ x.1
theorem Ua:FK 22 Y8:=oR.T1 (f:=Tryz.f22) (keep:=k0) (e:=e0)

def We (x0:Sem ag):Tr (Empty ⊕ aj):=
 let a0:=zR x0.1 x0.2.2.1
 let a1:=(x0.1,x0.2.1,x0.2.2.1,x0.2.2.2.1,x0.2.2.2.2.1,x0.2.2.2.2.2.1,x0.2.2.2.2.2.2.1,x0.2.2.2.2.2.2.2.1,x0.2.2.2.2.2.2.2.2.1,zE x0.2.2.2.2.2.2.2.2.2.1,x0.2.2.2.2.2.2.2.2.2.2.1,x0.2.2.2.2.2.2.2.2.2.2.2.1,zE x0.2.2.2.2.2.2.2.2.2.2.2.2.1,x0.2.2.2.2.2.2.2.2.2.2.2.2.2)
 let a2:=getD x0.1 (toNat a0) (zj zh)
 let a3:=(a2.1.1,a2.1.2.1,a2.1.2.2.1,a2.1.2.2.2.1,a2.1.2.2.2.2.1,zE a2.1.2.2.2.2.2)
 let a4:=(a3,a2.2)
 let a5:=mV a1 a4
 let a6:=bS a5.2
 let a7:=decide (a5.1.length≤1073741824)
 let a8:=jP x0.1 a4
 let a9:=(↑a5.1.length:Int)
 let a10:=kv a8 a9
 let a11:=(a3,List.filter (pe a2.1.2.2.1 a5.1) a2.2)
 let a12:=jP x0.1 a11
 let a13:=kv a12 a9
 Tr.br (decide (a0 < 0))
 (Tr.chk true
  (Tr.re (AV.tup [AV.sl zh (bS 6).1,AV.agg [AV.int .i64 (bS 6).2.1,AV.int .i64 (bS 6).2.2.1,AV.sl zf.sl (bS 6).2.2.2]]) []))
 (Tr.chk (zI a0 (length x0.1))
  (Tr.chk (mO a1 a4).isSome (Tr.br (a5.2 != 0) (Tr.chk (oL a5.2) (Tr.re (AV.tup [AV.sl zh a6.1,AV.agg [AV.int .i64 a6.2.1,AV.int .i64 a6.2.2.1,AV.sl zf.sl a6.2.2.2]]) [])) (Tr.chk (decide (length a2.2≤1073741824)) (Tr.chk (decide (length a2.2≤1000000)&&List.all a2.2 fun r=>zI a2.1.2.2.1 (length r)) (Tr.br (zL (jt a2.1.2.2.1 a5.1) a2.2 0==-1)
  (Tr.chk (jm x0.1 a4) (Tr.chk a7 (Tr.chk (gA a8 a9) (Tr.re (AV.tup [AV.sl zh a10.1,AV.agg [AV.int .i64 a10.2.1,AV.int .i64 a10.2.2.1,AV.sl zf.sl a10.2.2.2]]) [])))) (Tr.chk (jm x0.1 a11) (Tr.chk a7 (Tr.chk (gA a12 a9) (Tr.re (AV.tup [AV.sl zh a13.1,AV.agg [AV.int .i64 a13.2.1,AV.int .i64 a13.2.2.1,AV.sl zf.sl a13.2.2.2]]) []))))))))))
def hY (x0:Sem ag):=zW [zh.sl,cB] t0 100000000 (We x0)
def uA (x0:Sem ag):=(hY x0).isSome
def AP (x0:Sem ag):=o2 (hY x0)
def Y5:=FT [ag] [zh.sl,cB] fun x=>hY x.1
theorem T7:FK 21 Y5:=oR.T1 (f:=Tryz.f21) (keep:=k0) (e:=e0)

def A4:=KV.addL [(22,Y8),(21,Y5)]
theorem oS:zl A4:=oR.addL <| fc Ua <| fc T7 <|  jf
end

theorem gi {c g:Bool} (h1:c=true) (h2:g=true):(if c=true then g else false)=true:=by rw [if_pos h1]; exact h2
theorem aG {a b:Nat} (h:a≤b):decide (a≤b)=true:=ay h

theorem As {v:Sem zf} (h:gr v=true) (h2:(v.1==2)=true):v.2.2.length≤40:=by
 have e:v.1=2:=by simpa using h2
 unfold gr at h
 rw [e] at h
 simp only [show ((2:Int)==0)=false from rfl,show ((2:Int)==1)=false from rfl,show ((2:Int)==2)=true from rfl,zH,if_false,if_true] at h
 cases h1:v.2.1==0
 ·rw [h1] at h; simp at h
 ·rw [h1] at h
  cases h3:decide ((v.2.2.length:Int)≤40)
  ·rw [h3] at h; simp at h
  ·have:=fb h3
   omega

theorem sO (v:Sem zf):lL v=true:=by
 unfold lL
 split
 ·rfl
 ·rename_i hm
  have hm:gr v=true:=by simpa using hm
  split
  ·rfl
  ·split
   ·rename_i h2
    have hl:=As hm h2
    have hr:=jx v.2.2 [39] [39,39]
    have hr2:(Lib.replaceAll v.2.2 [39] [39,39]).length≤200:=by
     simp only [oe,List.length_nil] at hr
     omega
    refine gi ?_ (gi (aG ?_) (gi (aG ?_) rfl))
    ·unfold qi
     simp
     omega
    ·simp; omega
    ·simp; omega
   ·rfl

theorem rP (v:Sem zf):(gy v).length≤300:=by
 unfold gy
 split
 ·simp
 ·rename_i hm
  have hm:gr v=true:=by simpa using hm
  split
  ·have:=y6 v.2.1
   omega
  ·split
   ·rename_i h2
    have hl:=As hm h2
    have hr:=jx v.2.2 [39] [39,39]
    simp only [oe,List.length_nil] at hr
    simp
    omega
   ·split
    ·split <;> simp
    ·simp

theorem JL {s:zo} (h:md s=true):s.length≤16:=by
 have h:nd s=true:=h
 unfold nd at h
 by_cases h2:(s.length:Int)≤16
 ·omega
 ·exfalso
  rw [cu h2] at h
  cases h1:decide ((s.length:Int) ≥ 1) <;> rw [h1] at h <;> simp at h

theorem Mw {g:ze→Int→Int→Bool×Int} {e:ze} {d n:Int} (h:(Dx g e d n).1=true) (hc:e.op=[99,111,108]):e.s.length≤16:=by
 unfold Dx at h
 split at h
 ·cases h
 ·split at h
  ·rename_i h1; rw [hc] at h1; simp at h1
  ·split at h
   ·cases h1:vR e.v
    ·rw [h1] at h; simp at h
    ·rw [h1] at h
     cases h2:md e.s
     ·rw [h2] at h; simp at h
     ·exact JL h2
   ·rename_i h1; rw [hc] at h1; simp at h1

theorem dV (s:zo):(Lib.toUpperA s).length=s.length:=by simp [Lib.toUpperA]

theorem uH:∀ (N:Nat) (e:ze) (d n:Int),N≤16→(pY N e d n).1=true→gS N e=true∧(gB N e).length≤400 * 2 ^ N - 100
 | 0,_,_,_,_,h=>by cases h
 | N + 1,e,d,n,hN,h=>by
  rw [pY] at h
  obtain ⟨hl,h2⟩:=rx h
  have hp:2 ^ N≤2 ^ 15:=Nat.pow_le_pow_right (by omega) (by omega)
  have hp1:1≤2 ^ N:=Nat.one_le_two_pow
  have hpp:2 ^ (N+1)=2 * 2 ^ N:=by rw [Nat.pow_succ]; omega
  have hparts:∀ x∈e.l,gS N x=true∧(gB N x).length≤400 * 2 ^ N - 100:=by
   intro x hx
   rcases h2 with h2 | h2
   ·exfalso
    have:dE e.op=0:=by
     rcases h2 with h2 | h2 <;> rw [h2] <;> decide
    rw [this] at hl
    have:e.l=[]:=Ct (by omega)
    rw [this] at hx; simp at hx
   ·obtain ⟨m,hm⟩:=pX e.l _ h2 x hx
    exact uH N x _ _ (by omega) hm
  have hget:∀ i,i < e.l.length→e.l.getD i (zj Sh.expr)∈e.l:=by
   intro i hi
   rw [aJ,zJ hi]
   exact dg hi
  rw [gS,gB]
  unfold td uG
  rcases mP e.op with ⟨hp0,hop | hop⟩ | ⟨hp0,hop | hop⟩ | ⟨hp0,hop⟩ | hp0
  ·rw [hop]
   simp only [beq_self_eq_true,if_true]
   refine ⟨gi (sO _) rfl,?_⟩
   have:=rP e.v
   omega
  ·have hs:=Mw h hop
   rw [hop]
   refine ⟨rfl,?_⟩
   show e.s.length≤_
   omega
  ·rw [hp0] at hl
   have hlen:e.l.length=1:=by omega
   obtain ⟨k1,k2⟩:=hparts _ (hget 0 (by omega))
   rw [hop]
   refine ⟨gi ?_ (gi k1 (gi (aG ?_) (gi (aG ?_) rfl))),?_⟩
   ·simp [zI,hlen]
   ·simp at k2 ⊢; omega
   ·simp at k2 ⊢; omega
   ·show ([40,78,79,84,32]++gB N (e.l.getD 0 (zj Sh.expr))++[41]).length≤_
    simp at k2 ⊢; omega
  ·rw [hp0] at hl
   have hlen:e.l.length=1:=by omega
   obtain ⟨k1,k2⟩:=hparts _ (hget 0 (by omega))
   rw [hop]
   refine ⟨gi ?_ (gi k1 (gi (aG ?_) (gi (aG ?_) rfl))),?_⟩
   ·simp [zI,hlen]
   ·simp at k2 ⊢; omega
   ·simp at k2 ⊢; omega
   ·show ([40]++gB N (e.l.getD 0 (zj Sh.expr))++[32,73,83,32,78,85,76,76,41]).length≤_
    simp at k2 ⊢; omega
  ·rw [hp0] at hl
   have hlen:e.l.length=2:=by omega
   obtain ⟨k1,k2⟩:=hparts _ (hget 0 (by omega))
   obtain ⟨k3,k4⟩:=hparts _ (hget 1 (by omega))
   have hu:(decide (e.op.length≤140737488355328)&&e.op.all fun b=>decide (b.toNat < 128))=true:=by
    rcases hop with hop | hop | hop | hop | hop | hop <;> rw [hop] <;> decide
   have hol:e.op.length≤3:=by
    rcases hop with hop | hop | hop | hop | hop | hop <;> rw [hop] <;> simp
   have hul:=dV e.op
   have n1:(e.op==[108,105,116])=false:=by rcases hop with hop | hop | hop | hop | hop | hop <;> rw [hop] <;> rfl
   have n2:(e.op==[99,111,108])=false:=by rcases hop with hop | hop | hop | hop | hop | hop <;> rw [hop] <;> rfl
   have n3:(e.op==[110,111,116])=false:=by rcases hop with hop | hop | hop | hop | hop | hop <;> rw [hop] <;> rfl
   have n4:(e.op==[110,117,108,108])=false:=by rcases hop with hop | hop | hop | hop | hop | hop <;> rw [hop] <;> rfl
   simp only [n1,n2,n3,n4,zH,if_false]
   refine ⟨gi ?_ (gi k1 (gi (aG ?_) (gi (aG ?_) (gi hu (gi (aG ?_) (gi (aG ?_) (gi ?_ (gi k3 (gi (aG ?_) (gi (aG ?_) rfl)))))))))),?_⟩
   ·simp [zI,hlen]
   all_goals first
    | (simp [zI,hlen]; done)
    | (simp at k2 k4 ⊢; omega)
  ·rw [hp0] at hl
   omega

theorem Bf (e:ze):nt e=true:=by
 unfold nt
 split
 ·rfl
 ·rename_i h
  exact gi (uH 16 e 1 0 (by omega) (by simpa [j7] using h)).1 rfl

theorem Fa (e:ze):(mC e).1.length≤30000000:=by
 unfold mC
 split
 ·simp
 ·rename_i h
  have:=(uH 16 e 1 0 (by omega) (by simpa [j7] using h)).2
  show (gB 16 e).length≤_
  omega


theorem G9 (p:Int→Bool):∀ s:zo,fW p s≤s.length
 | []=>by simp [fW]
 | c::r=>by
  have:=G9 p r
  rw [fW]
  split <;> simp <;> omega
theorem nM (f m:Int→Bool) (s:zo):aD f m s≤s.length:=by
 cases s with
 | nil=>simp [aD]
 | cons c r=>
  have:=G9 m r
  rw [aD]
  split <;> simp <;> omega

theorem zfs (i:Nat) (h:i≤4000000000):IntKind.i64.wrap (i:Int)=(i:Int):=by
 have:=zD (i - 1) (by unfold zC; omega)
 cases i with
 | zero=>rfl
 | succ i=>simpa using this

theorem xm (i:Nat) (h:i≤4000000000):IntKind.i64.wrap ((i:Int)+1)=((i+1:Nat):Int):=zD i (by unfold zC; omega)

theorem lD:∀ (n:Nat) (s:zo) (i:Nat) (a:Int) (b:zo),1≤i→i≤s.length→s.length+2≤n+i→s.length≤1000000000→gN n s (i:Int) a b=true
 | 0,s,i,a,b,h1,h2,h3,h4=>by omega
 | n + 1,s,i,a,b,h1,h2,h3,h4=>by
  rw [gN]
  split
  ·rename_i hlt
   have hlt:i < s.length:=by have:=fb hlt; omega
   refine gi (zB hlt) ?_
   rw [xm i (by omega)]
   split
   ·exact lD n s (i+1) a b (by omega) (by omega) (by omega) h4
   ·refine gi ?_ ?_
    ·cases hd:decide (((i+1:Nat):Int) < (s.length:Int))
     ·rfl
     ·exact zB (by have:=fb hd; omega)
    ·split
     ·rename_i hh
      have h5:i+1 < s.length:=by
       cases hd:decide (((i+1:Nat):Int) < (s.length:Int))
       ·rw [hd] at hh; simp at hh
       ·have:=fb hd; omega
      rw [xm (i+1) (by omega)]
      exact lD n s (i+1+1) a b (by omega) (by omega) (by omega) h4
     ·refine gi ?_ (gi ?_ rfl)
      ·simp; omega
      ·unfold qi
       simp
       omega
  ·rfl

theorem o8:∀ (n:Nat) (s:zo) (i:Nat) (a:Int) (b:zo),1≤i→i≤s.length→s.length+2≤n+i→s.length≤1000000000→
  (fi n s (i:Int) a b=((0,[]),0))∨∃ k:Nat,(fi n s (i:Int) a b).2=(k:Int)∧1≤k∧k≤s.length
 | 0,s,i,a,b,h1,h2,h3,h4=>by omega
 | n + 1,s,i,a,b,h1,h2,h3,h4=>by
  rw [fi]
  split
  ·rename_i hlt
   have hlt:i < s.length:=by have:=fb hlt; omega
   rw [xm i (by omega)]
   split
   ·exact o8 n s (i+1) a b (by omega) (by omega) (by omega) h4
   ·split
    ·rename_i hh
     have h5:i+1 < s.length:=by
      cases hd:decide (((i+1:Nat):Int) < (s.length:Int))
      ·rw [hd] at hh; simp at hh
      ·have:=fb hd; omega
     rw [xm (i+1) (by omega)]
     exact o8 n s (i+1+1) a b (by omega) (by omega) (by omega) h4
    ·exact .inr ⟨i+1,rfl,by omega,by omega⟩
  ·exact .inl rfl

theorem B3 (t:Sem ej):nS t=true:=by
 unfold nS
 split
 ·rfl
 ·split
  ·refine gi ?_ rfl
   cases h:((t.2.length:Int)==1)
   ·rfl
   ·have:(t.2.length:Int)=1:=by simpa using h
    simp only [bR,eT]
    omega
  ·simp

theorem w9 (s:zo) (h0:s≠[]) (h1:s.length≤1000000000):jh s=true:=by
 have hl:1≤s.length:=by cases s with | nil=>exact absurd rfl h0 | cons _ _=>simp
 have r1:=nM aU cr s
 have r2:=nM zY zY s
 have hq:iS s=true:=lD (s.length+1) s 1 _ _ (by omega) hl (by omega) h1
 have hb:zI 0 s.length=true:=zB hl
 have d1:(decide ((0:Int)≤0)&&decide (0≤(↑(aD aU cr s):Int))&&decide ((↑(aD aU cr s):Int)≤(↑(length s):Int)))=true:=by simp; omega
 have d2:(decide ((0:Int)≤0)&&decide (0≤(↑(aD zY zY s):Int))&&decide ((↑(aD zY zY s):Int)≤(↑(length s):Int)))=true:=by simp; omega
 have d3:(decide ((0:Int)≤0)&&decide ((0:Int)≤1)&&decide (1≤(↑(length s):Int)))=true:=by simp; omega
 unfold jh
 simp only [hq,hb,if_true,zH,if_false]
 repeat' split
 all_goals first
  | rfl
  | (rename_i h; exfalso; apply h; simp; omega)

theorem B1 (s:zo) (h0:s≠[]) (h1:s.length≤1000000000) (hm:jB (bp s).1=true):∃ k:Nat,(bp s).2=(k:Int)∧1≤k∧k≤s.length:=by
 have hl:1≤s.length:=by cases s with | nil=>exact absurd rfl h0 | cons _ _=>simp
 have r1:=nM aU cr s
 have r2:=nM zY zY s
 have hq:=o8 (s.length+1) s 1 0 [] (by omega) hl (by omega) h1
 unfold bp at hm ⊢
 simp only [if_true,zH,if_false] at hm ⊢
 split
 ·rename_i h
  have:=fb h
  exact ⟨_,rfl,by omega,by omega⟩
 ·rename_i h
  rw [if_neg h] at hm
  split
  ·rename_i h2
   have:=fb h2
   exact ⟨_,rfl,by omega,by omega⟩
  ·rename_i h2
   rw [if_neg h2] at hm
   split
   ·rename_i h3
    rw [if_pos h3] at hm
    rcases hq with hq | ⟨k,hk,hk1,hk2⟩
    ·exfalso
     have hqq:quoted s=((0,[]),0):=hq
     rw [hqq] at hm
     revert hm
     decide
    ·exact ⟨k,hk,hk1,hk2⟩
   ·exact ⟨1,rfl,by omega,by omega⟩

theorem qN:∀ (n:Nat) (s:zo) (i:Nat) (l:List (Sem zq)),i≤s.length→s.length+1≤n+i→s.length≤1000000000→l.length≤400→oK n s (i:Int) l=true
 | 0,s,i,l,h1,h2,h3,h4=>by omega
 | n + 1,s,i,l,h1,h2,h3,h4=>by
  rw [oK]
  split
  ·rename_i hlt
   have hlt:i < s.length:=by have:=fb hlt; omega
   have e1:List.take ((s.length:Int).toNat - (i:Int).toNat) (List.drop (i:Int).toNat s)=s.drop i:=by
    simp only [aT]
    exact List.take_of_length_le (by simp)
   rw [e1]
   refine gi ?_ ?_
   ·rw [zB hlt]
    cases (((s.getD (i:Int).toNat 0).toNat:Int)==32) <;> rfl
   ·split
    ·rw [xm i (by omega)]
     exact qN n s (i+1) l (by omega) (by omega) h3 h4
    ·have hne:s.drop i≠[]:=by
      intro h
      have:=congrArg length h
      simp at this
      omega
     have hdl:(s.drop i).length≤1000000000:=by simp; omega
     refine gi ?_ (gi (w9 _ hne hdl) (gi (B3 _) ?_))
     ·simp; omega
     ·split
      ·rfl
      ·rename_i hh
       have hm:jB (bp (s.drop i)).1=true:=by
        cases hq:jB (bp (s.drop i)).1
        ·rw [hq] at hh; simp at hh
        ·rfl
       have hl4:l.length≠400:=by
        intro h5
        rw [hm,h5] at hh
        simp at hh
       obtain ⟨k,hk,hk1,hk2⟩:=B1 _ hne hdl hm
       have hk3:k≤s.length - i:=by simpa using hk2
       refine gi (aG ?_) ?_
       ·simp; omega
       ·rw [hk,show ((i:Int)+(k:Int))=((i+k:Nat):Int) by omega,zfs (i+k) (by omega)]
        exact qN n s (i+k) _ (by omega) (by omega) h3 (by simp; omega)
  ·rfl

theorem Ko (s:zo) (h:s.length≤1000000000):Kn s=true:=qN (s.length+1) s 0 [] (by omega) (by omega) h (by simp)
end Cad
