/- Functions with memory of their own, by their trees. Copies: slices.Clone, copied. Bases: an answer that is an error alone. Bases: bases that are kept, rows that a condition meets. Bases: copies; where a table is put. Bases: the place of a table by its name. Bases: slices.Insert at the end. Bases: a table is put into a base. Bases: the keys that are met. Bases: rows taken out by their keys: the first. Bases: the first row that is taken out by its key. Bases: the first row that is taken out by its key: the contract. Bases: rows taken out by their keys: slices.DeleteFunc. Bases: the rows that stay when rows are taken out by their keys. Bases: slices.DeleteFunc over rows: the contract. Bases: remove, choose. Texts of values and expressions, and tokens: nothing panics. Tokens: nothing panics. Statements' texts: nothing panics. stmt.May: nothing panics. What is asked of tables with rows, and of bases, holds. What is asked of tables with rows, and of bases, holds. What is asked of bases holds. -/
import Derived.Test.YtiefilkilbdpgaaGreatDoorG12
namespace Cad
open Go
open Int (toNat)
open List (getD)
open List (length)

theorem fG {P:Program} {gl:Nat→AV} {σ ι:Type} {E:ba} {k:FuncId} {f:Func} {kinds:List (Option Sh)} {G:b7 kinds} {keep:Nat→zS} {gas n n0:Nat} {e:σ→Nat×St} {t:σ→Tr (σ ⊕ au)} {args:ι→List AV} {heap:ι→List AO} {i:ι→Tr (σ ⊕ au)}
  (hE:zm E) (hf:zz E.P k f kinds.length) (hn:∀ x,(heap x).length=n0)
  (hgo:∀ x,run E n0 keep f.results.toList gas (ah f) (zU f.ntmps (args x) (heap x))=(i x).map (lf f e))
  (hon:∀ s,run E n0 keep f.results.toList gas (zx f (e s).1) (e s).2=(t s).map (lf f e))
  (hG:∀ a h res,(G a h).val=some res→∃ x,fm kinds a=args x∧h=heap x∧cM t n (i x)=some res) (qp:E.P=P:=by rfl) (qg:E.gl=gl:=by rfl):kx P gl k (zP kinds G):=by
 subst qp qg
 refine bb hf fun x h0 res hx C hC=>?_
 obtain ⟨y,e1,e2,e3⟩:=hG x h0 res hx
 subst e2
 rw [e1]
 exact jm (n0:=n0) (Q:=fun r h=>(r,h)=res) hE hf (fun id h=>hC id (by rw [hn]; exact h)) (n+1) _ _ _ (by rw [hZ hon (hgo y)]; exact e3) rfl
open Go Go.Proofs
set_option maxHeartbeats 4000000

noncomputable abbrev p5 (l:List (Sem zg)):Tr zp:=run eT 0 uP (Func.results Tryz.f198).toList 300 (ah Tryz.f198) (zU (Func.ntmps Tryz.f198) [.sl zg l] [])
theorem DP:zz eT.P 198 Tryz.f198 1:=aG (by kernel_rfl)
theorem WY (l:List (Sem zg)):p5 l=.ok (.fork l.isEmpty (af (p5 l)).1 (af (p5 l)).2.1 (af (p5 l)).2.2):=by kernel_rfl
theorem Sc (l:List (Sem zg)):run eT 0 uP (Func.results Tryz.f198).toList 300 (af (p5 l)).1 (af (p5 l)).2.2=.ok (.ret .nils []):=by kernel_rfl
theorem Sd (l:List (Sem zg)):run eT 0 uP (Func.results Tryz.f198).toList 300 (af (p5 l)).2.1 (af (p5 l)).2.2=.chk (decide (l.length≤1073741824)) (.ok (.ret (.vec 0) [.vec zg l])):=by kernel_rfl
def VZ:b7 [some (.sl zg)]:=fun x h=>match h with
 | []=>.chk (decide (length x.1≤1073741824)) (.ok (.vec 0,[.vec zg x.1]))
 | _=>.err
def Un:zB:=zP [some (.sl zg)] VZ
theorem P6:FK 198 Un:=by
 refine bb DP fun x h0 res hx C hC=>?_
 unfold VZ at hx
 split at hx
 ·simp only [Tr.val] at hx
  split at hx
  ·rename_i hl
   simp only [zZ] at hx
   subst hx
   obtain ⟨l,u⟩:=x
   refine zk (n0:=0) bv DP hC (WY l) ?_
   refine ⟨fun he=>?_,?_⟩
   ·have hn:l=[]:=List.isEmpty_iff.1 he
    refine Reach.weaken (Q:=fun r h=>(r,h)=(.vec 0,[.vec zg []])) (Reach.promNil zg (fun id=>hC id (by simp)) (zk (n0:=0) bv DP hC (Sc l) rfl)) ?_
    intro r h hq
    cases hq
    refine ⟨_,?_,fun _ _ _ _ h=>h⟩
    show (AV.vec 0,[AO.vec zg []])=(AV.vec 0,[AO.vec zg l])
    rw [hn]
   ·exact zk (n0:=0) bv DP hC (Sd l) (cu hl rfl)
  ·cases hx
 ·simp at hx

noncomputable abbrev p6 (l:List (Sem zr)):Tr zp:=run eT 0 uP (Func.results Tryz.f199).toList 300 (ah Tryz.f199) (zU (Func.ntmps Tryz.f199) [.sl zr l] [])
theorem DQ:zz eT.P 199 Tryz.f199 1:=aG (by kernel_rfl)
theorem WZ (l:List (Sem zr)):p6 l=.ok (.fork l.isEmpty (af (p6 l)).1 (af (p6 l)).2.1 (af (p6 l)).2.2):=by kernel_rfl
theorem Se (l:List (Sem zr)):run eT 0 uP (Func.results Tryz.f199).toList 300 (af (p6 l)).1 (af (p6 l)).2.2=.ok (.ret .nils []):=by kernel_rfl
theorem Sf (l:List (Sem zr)):run eT 0 uP (Func.results Tryz.f199).toList 300 (af (p6 l)).2.1 (af (p6 l)).2.2=.chk (decide (l.length≤1073741824)) (.ok (.ret (.vec 0) [.vec zr l])):=by kernel_rfl
def V0:b7 [some (.sl zr)]:=fun x h=>match h with
 | []=>.chk (decide (length x.1≤1073741824)) (.ok (.vec 0,[.vec zr x.1]))
 | _=>.err
def Uo:zB:=zP [some (.sl zr)] V0
theorem P7:FK 199 Uo:=by
 refine bb DQ fun x h0 res hx C hC=>?_
 unfold V0 at hx
 split at hx
 ·simp only [Tr.val] at hx
  split at hx
  ·rename_i hl
   simp only [zZ] at hx
   subst hx
   obtain ⟨l,u⟩:=x
   refine zk (n0:=0) bv DQ hC (WZ l) ?_
   refine ⟨fun he=>?_,?_⟩
   ·have hn:l=[]:=List.isEmpty_iff.1 he
    refine Reach.weaken (Q:=fun r h=>(r,h)=(.vec 0,[.vec zr []])) (Reach.promNil zr (fun id=>hC id (by simp)) (zk (n0:=0) bv DQ hC (Se l) rfl)) ?_
    intro r h hq
    cases hq
    refine ⟨_,?_,fun _ _ _ _ h=>h⟩
    show (AV.vec 0,[AO.vec zr []])=(AV.vec 0,[AO.vec zr l])
    rw [hn]
   ·exact zk (n0:=0) bv DQ hC (Sf l) (cu hl rfl)
  ·cases hx
 ·simp at hx

noncomputable abbrev p7 (l:List (Sem (.sl zf))):Tr zp:=run eT 0 uP (Func.results Tryz.f43).toList 300 (ah Tryz.f43) (zU (Func.ntmps Tryz.f43) [.sl (.sl zf) l] [])
theorem DS:zz eT.P 43 Tryz.f43 1:=aG (by kernel_rfl)
theorem W1 (l:List (Sem (.sl zf))):p7 l=.ok (.fork l.isEmpty (af (p7 l)).1 (af (p7 l)).2.1 (af (p7 l)).2.2):=by kernel_rfl
theorem Sg (l:List (Sem (.sl zf))):run eT 0 uP (Func.results Tryz.f43).toList 300 (af (p7 l)).1 (af (p7 l)).2.2=.ok (.ret .nils []):=by kernel_rfl
theorem Si (l:List (Sem (.sl zf))):run eT 0 uP (Func.results Tryz.f43).toList 300 (af (p7 l)).2.1 (af (p7 l)).2.2=.chk (decide (l.length≤1073741824)) (.ok (.ret (.vec 0) [.vec (.sl zf) l])):=by kernel_rfl
def V1:b7 [some (.sl (.sl zf))]:=fun x h=>match h with
 | []=>.chk (decide (length x.1≤1073741824)) (.ok (.vec 0,[.vec (.sl zf) x.1]))
 | _=>.err
def Uq:zB:=zP [some (.sl (.sl zf))] V1
theorem P9:FK 43 Uq:=by
 refine bb DS fun x h0 res hx C hC=>?_
 unfold V1 at hx
 split at hx
 ·simp only [Tr.val] at hx
  split at hx
  ·rename_i hl
   simp only [zZ] at hx
   subst hx
   obtain ⟨l,u⟩:=x
   refine zk (n0:=0) bv DS hC (W1 l) ?_
   refine ⟨fun he=>?_,?_⟩
   ·have hn:l=[]:=List.isEmpty_iff.1 he
    refine Reach.weaken (Q:=fun r h=>(r,h)=(.vec 0,[.vec (.sl zf) []])) (Reach.promNil (.sl zf) (fun id=>hC id (by simp)) (zk (n0:=0) bv DS hC (Sg l) rfl)) ?_
    intro r h hq
    cases hq
    refine ⟨_,?_,fun _ _ _ _ h=>h⟩
    show (AV.vec 0,[AO.vec (Sh.sl zf) []])=(AV.vec 0,[AO.vec (Sh.sl zf) l])
    rw [hn]
   ·exact zk (n0:=0) bv DS hC (Si l) (cu hl rfl)
  ·cases hx
 ·simp at hx

noncomputable abbrev p8 (l:List (Sem zf)):Tr zp:=run eT 0 uP (Func.results Tryz.f44).toList 300 (ah Tryz.f44) (zU (Func.ntmps Tryz.f44) [.sl zf l] [])
theorem DT:zz eT.P 44 Tryz.f44 1:=aG (by kernel_rfl)
theorem W2 (l:List (Sem zf)):p8 l=.ok (.fork l.isEmpty (af (p8 l)).1 (af (p8 l)).2.1 (af (p8 l)).2.2):=by kernel_rfl
theorem Sj (l:List (Sem zf)):run eT 0 uP (Func.results Tryz.f44).toList 300 (af (p8 l)).1 (af (p8 l)).2.2=.ok (.ret .nils []):=by kernel_rfl
theorem Sk (l:List (Sem zf)):run eT 0 uP (Func.results Tryz.f44).toList 300 (af (p8 l)).2.1 (af (p8 l)).2.2=.chk (decide (l.length≤1073741824)) (.ok (.ret (.vec 0) [.vec zf l])):=by kernel_rfl
def V2:b7 [some (.sl zf)]:=fun x h=>match h with
 | []=>.chk (decide (length x.1≤1073741824)) (.ok (.vec 0,[.vec zf x.1]))
 | _=>.err
def Ur:zB:=zP [some (.sl zf)] V2
theorem Qa:FK 44 Ur:=by
 refine bb DT fun x h0 res hx C hC=>?_
 unfold V2 at hx
 split at hx
 ·simp only [Tr.val] at hx
  split at hx
  ·rename_i hl
   simp only [zZ] at hx
   subst hx
   obtain ⟨l,u⟩:=x
   refine zk (n0:=0) bv DT hC (W2 l) ?_
   refine ⟨fun he=>?_,?_⟩
   ·have hn:l=[]:=List.isEmpty_iff.1 he
    refine Reach.weaken (Q:=fun r h=>(r,h)=(.vec 0,[.vec zf []])) (Reach.promNil zf (fun id=>hC id (by simp)) (zk (n0:=0) bv DT hC (Sj l) rfl)) ?_
    intro r h hq
    cases hq
    refine ⟨_,?_,fun _ _ _ _ h=>h⟩
    show (AV.vec 0,[AO.vec zf []])=(AV.vec 0,[AO.vec zf l])
    rw [hn]
   ·exact zk (n0:=0) bv DT hC (Sk l) (cu hl rfl)
  ·cases hx
 ·simp at hx

noncomputable def Lm:=eT.addL [(198,Un),(199,Uo),(43,Uq),(44,Ur)]
theorem Aw:zm Lm:=bv.addL <| fc P6 <| fc P7 <| fc P9 <| fc Qa gX
def uY (c:ze→Bool):zB:=zA [.expr] [.expr] (fun x=>c x.1) fun x=>(x.1,())
noncomputable def vF (c:ze→Bool):ba:=Lm.add 200 (uY c)
theorem o4 {c:ze→Bool} (hg:FK 200 (uY c)):zm (vF c):=Aw.add hg
abbrev Oa:Nat→zS:=fun j=>if j=3 then { slots:=[1,2,10,11] } else { }
abbrev yj (i10:Int) (i11:Int) (ja0:zn) (ja1:Int) (ja2:Int) (ja3:zn) (ja4:zn) (lh_2:List (Sem Sh.expr)):St:={
 tmps:=
  (tm 26 [(1,AV.ptr 0 0),(2,AV.ptr 1 0),(10,AV.int .i64 i10),(11,AV.int .i64 i11)]),
 heap:=
  [AO.box [AV.str ja0,AV.int .i64 ja1,AV.int .i64 ja2,AV.str ja3,AV.str ja4,AV.vec 2],
   AO.box [AV.str [],AV.int .i64 0,AV.int .i64 0,AV.str [],AV.str [],AV.nils],AO.vec Sh.expr lh_2] }
theorem DR (c:ze→Bool):zz (vF c).P 200 Tryz.f200 1:=aG (by kernel_rfl)
theorem W0 (c:ze→Bool) (op:zn) (v:V) (s:zn) (l:List ze):rn (vF c) 0 Oa Tryz.f200 [zy Sh.expr (ze.mk op v s l)] []=
 Tr.chk (decide (l.length≤1073741824)) (Tr.ok (zp.head 3 (zx Tryz.f200 3) (yj (↑l.length:Int) 0 op v.1 v.2.1 v.2.2 s l))):=by kernel_rfl
theorem D2 (c:ze→Bool) (i10:Int) (i11:Int) (ja0:zn) (ja1:Int) (ja2:Int) (ja3:zn) (ja4:zn) (lh_2:List (Sem Sh.expr)):rh (vF c) 0 Oa Tryz.f200 3 (yj i10 i11 ja0 ja1 ja2 ja3 ja4 lh_2)=
 Tr.br (decide (i11 < i10))
 (Tr.chk (zH i11 lh_2.length)
  (Tr.chk (decide (i11.toNat < lh_2.length))
   (Tr.chk (c (zC (lh_2.getD i11.toNat (zj Sh.expr))))
    (Tr.chk (zH i11 lh_2.length)
     (Tr.chk (decide (i11.toNat < lh_2.length))
      (Tr.ok
       (zp.head 3 (zx Tryz.f200 3)
        (yj i10 (IntKind.i64.wrap (i11+1)) ja0 ja1 ja2 ja3 ja4
         (lh_2.set i11.toNat
          (zC (lh_2.getD i11.toNat (zj Sh.expr))))))))))))
 (Tr.ok
  (zp.ret (AV.agg [AV.str ja0,AV.int .i64 ja1,AV.int .i64 ja2,AV.str ja3,AV.str ja4,AV.vec 0]) [AO.vec Sh.expr lh_2])):=by kernel_rfl

theorem V9 {c:ze→Bool} (hg:FK 200 (uY c)) {C:bW} (hC:∀ id,C.ρ0 id=none) (op:zn) (v:V) (s:zn) (l:List ze) (hl:l.length≤1073741824) (hcl:l.all c=true):
  ∀ (k i:Nat),l.length - i=k→i≤l.length→Reach (vF c) C 200 (zx Tryz.f200 3) (yj l.length i op v.1 v.2.1 v.2.2 s l) (fun r h=>zX h [.expr] r=some (ze.mk op v s l,())):=by
 intro k
 induction k with
 | zero=>
  intro i hk hi
  obtain rfl:i=l.length:=by omega
  refine zk (n0:=0) (o4 hg) (DR c) (fun id _=>hC id) (D2 c _ _ _ _ _ _ _ _) ?_
  simp only [ap,Tr.val_brF]
  rfl
 | succ k IH=>
  intro i hk hi
  have hlt:i < l.length:=by omega
  refine zk (n0:=0) (o4 hg) (DR c) (fun id _=>hC id) (D2 c _ _ _ _ _ _ _ _) ?_
  have h1:c l[i]=true:=cH.1 hcl _ (cI hlt)
  have h2:decide ((i:Int).toNat < l.length)=true:=by simpa using hlt
  have h3:l.set (i:Int).toNat l[i]=l:=by simp
  simp only [aH hlt,zN hlt,ag l _ hlt,ze.eta,Tr.val_brT,Tr.val_chkT,h1,h2,h3,zG i (by unfold zD; omega)]
  exact IH (i+1) (by omega) (by omega)

theorem Re:zz Lm.P 200 Tryz.f200 1:=aG (by kernel_rfl)
theorem wR:∀ n,FK 200 (uY (nD n))
 | 0=>cO ⟨Tryz.f200,Re.1,Re.2.1,Re.2.2.1⟩ (fun _=>rfl)
 | n+1=>by
  have h:FK 200 (uY (nD (n+1))):=by
   refine zL (E:=vF (nD n)) (DR _) fun x hc C hC=>?_
   obtain ⟨⟨op,v,s,l⟩,u⟩:=x
   have hc:(decide (l.length≤1073741824)&&l.all (nD n))=true:=hc
   simp only [aC,ae] at hc
   refine zk (n0:=0) (o4 (wR n)) (DR _) (fun id _=>hC id) (W0 _ op v s l) ?_
   refine cu (by simpa using hc.1) ?_
   exact V9 (wR n) hC op v s l hc.1 hc.2 _ 0 rfl (aZ _)
  exact h
def Up:zB:=uY (nD 16)
theorem P8:FK 200 Up:=wR 16
noncomputable def Av:=Lm.add 200 Up
theorem pg:zm Av:=Aw.add P8
abbrev eI:Sh:=.pr zg (.pr zg (.sl (.sl zf)))

noncomputable def zbl (x0:Sem zg):Tr (Empty ⊕ au):=
 Tr.re (AV.tup [AV.nils,AV.agg [AV.int .i64 x0,AV.int .i64 0,AV.nils]]) []
noncomputable def BQ (x0:Sem zg):=aq [zh.sl,eI] t0 100000000 (zbl x0)
noncomputable def rY (x0:Sem zg):=(BQ x0).isSome
noncomputable def cy (x0:Sem zg):=o2 (BQ x0)
noncomputable def TN:=FT [zg] [zh.sl,eI] fun x=>BQ x.1
theorem Px:FK 39 TN:=pg.T1 (f:=Tryz.f39) (keep:=k0) (e:=e0)

noncomputable def NO:=Av.add 39 TN
theorem lF:zm NO:=pg.add Px
noncomputable section

def Xw (x0:Sem zE) (x1:Sem zf.sl):Tr (Empty ⊕ au):=
 let a0:=getD x1 (toNat x0.2.2.1) (zj zf)
 Tr.br
 (bif !j3 (x0.1,x0.2.1,x0.2.2.1,x0.2.2.2.1,x0.2.2.2.2.1,zC x0.2.2.2.2.2) then true
 else decide (x0.2.2.1 ≥ (↑(length x1):Int)))
 (Tr.re (AV.agg [AV.int .i64 0,AV.int .i64 0,AV.str []]) [])
 (Tr.chk (zH x0.2.2.1 (length x1)) (Tr.re (AV.agg [AV.int .i64 a0.1,AV.int .i64 a0.2.1,AV.str a0.2.2]) []))
def Bt (x0:Sem zE) (x1:Sem zf.sl):=aq [zf] t0 100000000 (Xw x0 x1)
def Jh (x0:Sem zE) (x1:Sem zf.sl):=(Bt x0 x1).isSome
def Sx (x0:Sem zE) (x1:Sem zf.sl):=o1 (Bt x0 x1)
def Uj:=FT [zE,zf.sl] [zf] fun x=>Bt x.1 x.2.1
theorem P2:FK 84 Uj:=lF.T1 (f:=Tryz.f84) (keep:=k0) (e:=e0)

def Q4 (x0:Sem zh.sl) (x1:Sem zg):Tr (Empty ⊕ au):=
 Tr.chk (ly x0)
 (Tr.br (!oP x0)
  (Tr.chk true (Tr.re (AV.tup [AV.sl zh (cy 10).1,AV.agg [AV.int .i64 (cy 10).2.1,AV.int .i64 (cy 10).2.2.1,AV.sl zf.sl (cy 10).2.2.2]]) []))
  (Tr.re (AV.tup [AV.sl zh x0,AV.agg [AV.int .i64 0,AV.int .i64 x1,AV.nils]]) []))
def r5 (x0:Sem zh.sl) (x1:Sem zg):=aq [zh.sl,eI] t0 100000000 (Q4 x0 x1)
def oV (x0:Sem zh.sl) (x1:Sem zg):=(r5 x0 x1).isSome
def vD (x0:Sem zh.sl) (x1:Sem zg):=o2 (r5 x0 x1)
def TO:=FT [zh.sl,zg] [zh.sl,eI] fun x=>r5 x.1 x.2.1
theorem Py:FK 40 TO:=lF.T1 (f:=Tryz.f40) (keep:=k0) (e:=e0)

abbrev XP:=my [(9,[2,3,8,36,37,38])]
inductive ru where
 | h9 (l36:List (Sem zf.sl)) (i37:Int) (i38:Int) (z0:zu [CP.d zh]) (z1:zu [CP.d Sh.expr])
 | h9b (l36:List (Sem zf.sl)) (i37:Int) (i38:Int) (z0:zu [CP.d zh]) (z1:zu [CP.d Sh.expr]) (lh_2:List (Sem zf.sl))
abbrev Z2:ru→Nat×St
 | .h9 l36 i37 i38 z0 z1=>(9,⟨tm 62 [(2,AV.ptr 0 0),(3,AV.ptr 1 0),(8,AV.nils),(36,AV.sl zf.sl l36),(37,AV.int .i64 i37),(38,AV.int .i64 i38)],[AO.box (bn [] [CP.d zh] z0),AO.box (bn [] [CP.d Sh.expr] z1)]⟩)
 | .h9b l36 i37 i38 z0 z1 lh_2=>(9,⟨tm 62 [(2,AV.ptr 0 0),(3,AV.ptr 1 0),(8,AV.vec 2),(36,AV.sl zf.sl l36),(37,AV.int .i64 i37),(38,AV.int .i64 i38)],[AO.box (bn [] [CP.d zh] z0),AO.box (bn [] [CP.d Sh.expr] z1),AO.vec zf.sl lh_2]⟩)
def Xt (x0:Sem zh) (x1:Sem Sh.expr):Tr (ru ⊕ au):=
 let a0:=be (zC x1) x0.1.2.1
 Tr.br (!ze.op x1==[])
 (Tr.br (bif a0.2==0 then bif a0.1 != 3 then a0.1 != 0 else false else false)
  (Tr.br true (Tr.re (AV.tup [AV.nils,AV.int .i64 5]) []) (Tr.to (ru.h9 x0.2 (↑(length x0.2):Int) 0 (x0,()) (x1,()))))
  (Tr.br (a0.2 != 0) (Tr.re (AV.tup [AV.nils,AV.int .i64 a0.2]) []) (Tr.to (ru.h9 x0.2 (↑(length x0.2):Int) 0 (x0,()) (x1,())))))
 (Tr.to (ru.h9 x0.2 (↑(length x0.2):Int) 0 (x0,()) (x1,())))
def yx:ru→Tr (ru ⊕ au)
 | .h9 l36 i37 i38 z0 z1=>
  let a0:=l36.getD i38.toNat (zj zf.sl)
  let a1:=g8 (zC z1.1) z0.1.1.2.1 a0
  let a2:=[a0]
  let a3:=IntKind.i64.wrap (i38+1)
  Tr.br (decide (i38 < i37))
  (Tr.chk (zH i38 l36.length) (Tr.br (bif ze.op z1.1==[] then true else a1.1==3&&(a1.2.1==1&&(a1.2.2==[]&&true))) (Tr.chk (decide (length a0≤1073741824)) (Tr.chk (decide (a2.length≤1073741824)) (Tr.to (ru.h9b l36 i37 a3 z0 z1 a2)))) (Tr.to (ru.h9 l36 i37 a3 z0 z1))))
  (Tr.re (AV.tup [AV.nils,AV.int .i64 0]) [])
 | .h9b l36 i37 i38 z0 z1 lh_2=>
  let a0:=l36.getD i38.toNat (zj zf.sl)
  let a1:=g8 (zC z1.1) z0.1.1.2.1 a0
  let a2:=[a0]
  let a3:=IntKind.i64.wrap (i38+1)
  Tr.br (decide (i38 < i37))
  (Tr.chk (zH i38 l36.length) (Tr.br (bif ze.op z1.1==[] then true else a1.1==3&&(a1.2.1==1&&(a1.2.2==[]&&true))) (Tr.chk (decide (length a0≤1073741824)) (Tr.chk (decide (lh_2.length+a2.length≤1073741824)) (Tr.to (ru.h9b l36 i37 a3 z0 z1 (lh_2++a2))))) (Tr.to (ru.h9b l36 i37 a3 z0 z1 lh_2))))
  (Tr.re (AV.tup [AV.vec 0,AV.int .i64 0]) [AO.vec zf.sl lh_2])
def og (x0:Sem zh) (x1:Sem Sh.expr):=aq [zf.sl.sl,zg] yx 100000000 (Xt x0 x1)
def lV (x0:Sem zh) (x1:Sem Sh.expr):=(og x0 x1).isSome
def pE (x0:Sem zh) (x1:Sem Sh.expr):=o2 (og x0 x1)
def TY:=FT [zh,Sh.expr] [zf.sl.sl,zg] fun x=>og x.1 x.2.1
theorem PI:FK 51 TY:=lF.T1 (f:=Tryz.f51) (keep:=XP) (e:=Z2)

def sB:=NO.addL [(84,Uj),(40,TO),(51,TY)]
theorem jk:zm sB:=lF.addL <| fc P2 <| fc Py <| fc PI <|  gX
end

noncomputable abbrev p4 (l:List (Sem zh)):Tr zp:=run sB 0 uP (Func.results Tryz.f76).toList 300 (ah Tryz.f76) (zU (Func.ntmps Tryz.f76) [.sl zh l] [])
theorem DO:zz sB.P 76 Tryz.f76 1:=aG (by kernel_rfl)
theorem WT (l:List (Sem zh)):p4 l=.ok (.fork l.isEmpty (af (p4 l)).1 (af (p4 l)).2.1 (af (p4 l)).2.2):=by kernel_rfl
theorem Sa (l:List (Sem zh)):run sB 0 uP (Func.results Tryz.f76).toList 300 (af (p4 l)).1 (af (p4 l)).2.2=.ok (.ret .nils []):=by kernel_rfl
theorem Sb (l:List (Sem zh)):run sB 0 uP (Func.results Tryz.f76).toList 300 (af (p4 l)).2.1 (af (p4 l)).2.2=.chk (decide (l.length≤1073741824)) (.ok (.ret (.vec 0) [.vec zh l])):=by kernel_rfl
def VV:b7 [some (.sl zh)]:=fun x h=>match h with
 | []=>.chk (decide (length x.1≤1073741824)) (.ok (.vec 0,[.vec zh x.1]))
 | _=>.err
def T8:zB:=zP [some (.sl zh)] VV
theorem PR:FK 76 T8:=by
 refine bb DO fun x h0 res hx C hC=>?_
 unfold VV at hx
 split at hx
 ·simp only [Tr.val] at hx
  split at hx
  ·rename_i hl
   simp only [zZ] at hx
   subst hx
   obtain ⟨l,u⟩:=x
   refine zk (n0:=0) jk DO hC (WT l) ?_
   refine ⟨fun he=>?_,?_⟩
   ·have hn:l=[]:=List.isEmpty_iff.1 he
    refine Reach.weaken (Q:=fun r h=>(r,h)=(.vec 0,[.vec zh []])) (Reach.promNil zh (fun id=>hC id (by simp)) (zk (n0:=0) jk DO hC (Sa l) rfl)) ?_
    intro r h hq
    cases hq
    refine ⟨_,?_,fun _ _ _ _ h=>h⟩
    show (AV.vec 0,[AO.vec zh []])=(AV.vec 0,[AO.vec zh l])
    rw [hn]
   ·exact zk (n0:=0) jk DO hC (Sb l) (cu hl rfl)
  ·cases hx
 ·simp at hx

noncomputable def Ua:zB:=zP (List.replicate 2 none) (bA sB Tryz.f77 (List.replicate 2 none))
theorem PT:FK 77 Ua:=zY _ jk (aG (by kernel_rfl))

noncomputable def Ax:=sB.addL [(76,T8),(77,Ua)]
theorem ph:zm Ax:=jk.addL <| fc PR <| fc PT <|  gX

abbrev qY (n:zn) (q1:Sh) (cs:List (Sem q1)) (k:Int) (q2:Sh) (us:List (Sem q2)) (q3:Sh) (fs:List (Sem q3)) (eo:zn) (a b:Int) (vs es:zn) (q4:Sh) (el:List (Sem q4)) (q5:Sh) (rs:List (Sem q5)) (l:List (Sem zh)) (i:Int):St:={ tmps:=[.sl zh l,.clo (.func 77) [] [.ptr 0 0],.any,.any,.any,.any,.any,.int .i64 l.length,.int .i64 i,.any,.any,.any,.any,.any,.any,.any,.any,.any,.any],heap:=[.box [.str n,.sl q1 cs,.int .i64 k,.sl q2 us,.sl q3 fs,.str eo,.int .i64 a,.int .i64 b,.str vs,.str es,.sl q4 el,.sl q5 rs]] }
theorem G8 (n:zn) (q1:Sh) (cs:List (Sem q1)) (k:Int) (q2:Sh) (us:List (Sem q2)) (q3:Sh) (fs:List (Sem q3)) (eo:zn) (a b:Int) (vs es:zn) (q4:Sh) (el:List (Sem q4)) (q5:Sh) (rs:List (Sem q5)) (l:List (Sem zh)):run Ax 1 kz Tryz.f36.results.toList 300 (ah Tryz.f36) (zU Tryz.f36.ntmps [.sl zh l,.clo (.func 77) [] [.ptr 0 0]] [.box [.str n,.sl q1 cs,.int .i64 k,.sl q2 us,.sl q3 fs,.str eo,.int .i64 a,.int .i64 b,.str vs,.str es,.sl q4 el,.sl q5 rs]])=.ok (.head 2 (zx Tryz.f36 2) (qY n q1 cs k q2 us q3 fs eo a b vs es q4 el q5 rs l 0)):=by kernel_rfl
theorem Ix (n:zn) (q1:Sh) (cs:List (Sem q1)) (k:Int) (q2:Sh) (us:List (Sem q2)) (q3:Sh) (fs:List (Sem q3)) (eo:zn) (a b:Int) (vs es:zn) (q4:Sh) (el:List (Sem q4)) (q5:Sh) (rs:List (Sem q5)) (l:List (Sem zh)) (i:Int):run Ax 1 kz Tryz.f36.results.toList 300 (zx Tryz.f36 2) (qY n q1 cs k q2 us q3 fs eo a b vs es q4 el q5 rs l i)=gh (K:=zx Tryz.f36 2) (e:=zh) l (fun y => !(Op.bytesLess y.1.1 n||y.1.1==n)) (qY n q1 cs k q2 us q3 fs eo a b vs es q4 el q5 rs l) [.box [.str n,.sl q1 cs,.int .i64 k,.sl q2 us,.sl q3 fs,.str eo,.int .i64 a,.int .i64 b,.str vs,.str es,.sl q4 el,.sl q5 rs]] i:=by kernel_rfl

theorem In:zz Ax.P 36 Tryz.f36 2:=by refine ⟨?_,?_,?_,?_⟩ <;> kernel_rfl
def VS:b7 [some (.sl zh),none]:=fun x h=>match x,h with
 | (l,.clo (.func 77) [] [.ptr 0 0],_),[.box [.str n,.sl q1 cs,.int .i64 k,.sl q2 us,.sl q3 fs,.str eo,.int .i64 a,.int .i64 b,.str vs,.str es,.sl q4 el,.sl q5 rs]]=>.ok (.int .i64 (zQ (fun y => !(Op.bytesLess y.1.1 n||y.1.1==n)) l 0),[.box [.str n,.sl q1 cs,.int .i64 k,.sl q2 us,.sl q3 fs,.str eo,.int .i64 a,.int .i64 b,.str vs,.str es,.sl q4 el,.sl q5 rs]])
 | _,_=>.err
def TJ:zB:=zP [some (.sl zh),none] VS
theorem Ps:FK 36 TJ:=by
 refine bb In fun x h0 res hx C hC=>?_
 unfold VS at hx
 split at hx
 ·rename_i l u n q1 cs k q2 us q3 fs eo a b vs es q4 el q5 rs
  simp only [Tr.val_ok,zZ] at hx
  subst hx
  refine Reach.len 0 zh l rfl fun hl=>?_
  refine zk (n0:=1) ph In hC (G8 n q1 cs k q2 us q3 fs eo a b vs es q4 el q5 rs l) ?_
  exact dR l (fun y => !(Op.bytesLess y.1.1 n||y.1.1==n)) (qY n q1 cs k q2 us q3 fs eo a b vs es q4 el q5 rs l) ph In hC (Ix n q1 cs k q2 us q3 fs eo a b vs es q4 el q5 rs l) hl _ 0 rfl (aZ _)
 ·simp at hx

noncomputable def Ds:=Ax.add 36 TJ
theorem vW:zm Ds:=ph.add Ps

abbrev XW:=my []
theorem YM:zz Ds.P 78 Tryz.f78 3:=aG (by kernel_rfl)
noncomputable def Q7 (l:List (Sem zh)) (i:Int) (x:Sem zh):Tr (Empty ⊕ au):=
 Tr.chk (decide (0≤i)&&decide (i≤(↑l.length:Int)))
 (Tr.br ((↑[x].length:Int)==0)
  (Tr.re (AV.vec 0) [AO.vec zh l])
  (Tr.br (i==(↑l.length:Int)) (Tr.chk (decide (l.length+[x].length≤1073741824)) (Tr.re (AV.vec 1) [AO.dead,AO.vec zh (l++[x])])) Tr.err))
theorem WV (l:List (Sem zh)) (i:Int) (x:Sem zh):rn Ds 1 XW Tryz.f78 [AV.vec 0,AV.int .i64 i,AV.sl zh [x]] [AO.vec zh l]=(Q7 l i x).map (lf Tryz.f78 e0):=by kernel_rfl
@[match_pattern] abbrev Zj:Sh:=.pr (.pr .str (.pr (.sl (.pr .str (.pr (.int .i64) .bool))) (.pr (.int .i64) (.pr (.sl (.int .i64)) (.pr (.sl (.pr (.int .i64) .str)) .expr))))) (.sl (.sl (.pr (.int .i64) (.pr (.int .i64) .str))))
def VW:b7 [none,none,none]:=fun a h=>match a,h with
 | (.vec 0,.int .i64 i,.sl Zj [x],_),[.vec Zj l]=>.chk (i==(length l:Int)) (.chk (decide (length l+1≤1073741824)) (.ok (.vec 1,[.dead,.vec zh (l++[x])])))
 | _,_=>.err
def Uc:zB:=zP [none,none,none] VW
theorem PV:FK 78 Uc:=by
 refine fG (ι:=List (Sem zh)×Int×Sem zh) (args:=fun y=>[AV.vec 0,AV.int .i64 y.2.1,AV.sl zh [y.2.2]]) (heap:=fun y=>[AO.vec zh y.1]) (i:=fun y=>Q7 y.1 y.2.1 y.2.2) (t:=t0) (e:=e0) (n:=100000000) (n0:=1) vW YM (fun _=>rfl) (fun y=>WV _ _ _) (fun s=>nomatch s) (fun a h res hv=>?_)
 unfold VW at hv
 split at hv
 ·rename_i i x u l
  simp only [Tr.val] at hv
  split at hv
  ·rename_i h1
   split at hv
   ·rename_i h2
    simp only [zZ] at hv
    subst hv
    refine ⟨(l,i,x),rfl,rfl,?_⟩
    have h3:i=(length l:Int):=by simpa using h1
    subst h3
    have h4:length l+1≤1073741824:=by simpa using h2
    unfold cM Q7
    simp [Tr.val,h4]
   ·cases hv
  ·cases hv
 ·simp at hv

noncomputable def NP:=Ds.add 78 Uc
theorem vY:zm NP:=vW.add PV

noncomputable def Xs (x0:Sem zh.sl) (x1:Sem zh):Tr (Empty ⊕ au):=
 let a0:=aE x0 x1.1.1
 let a1:=((x1.1.1,x1.1.2.1,x1.1.2.2.1,x1.1.2.2.2.1,x1.1.2.2.2.2.1,zC x1.1.2.2.2.2.2),x1.2)
 let a2:=zQ (fun y => !(Op.bytesLess y.1.1 x1.1.1||y.1.1==x1.1.1)) x0 0
 Tr.chk (decide (length x0≤1073741824))
 (Tr.br (decide (a0 ≥ 0))
  (Tr.chk (zH a0 (length x0)) (Tr.chk (decide (toNat a0 < length x0)) (Tr.re (AV.vec 0) [AO.vec zh (List.set x0 (toNat a0) a1)])))
  (Tr.br (decide (a2 < 0)) (Tr.chk ((↑(length x0):Int)==(↑(length x0):Int)) (Tr.chk (decide (length x0+1≤1073741824)) (Tr.re (AV.vec 0) [AO.vec zh (x0++[a1])]))) (Tr.chk (a2==(↑(length x0):Int)) (Tr.chk (decide (length x0+1≤1073741824)) (Tr.re (AV.vec 0) [AO.vec zh (x0++[a1])])))))
noncomputable def oW (x0:Sem zh.sl) (x1:Sem zh):=aq [zh.sl] t0 100000000 (Xs x0 x1)
noncomputable def mN (x0:Sem zh.sl) (x1:Sem zh):=(oW x0 x1).isSome
noncomputable def mq (x0:Sem zh.sl) (x1:Sem zh):=o1 (oW x0 x1)
noncomputable def TP:=FT [zh.sl,zh] [zh.sl] fun x=>oW x.1 x.2.1
theorem Pz:FK 41 TP:=vY.T1 (f:=Tryz.f41) (keep:=k0) (e:=e0)

noncomputable def vX:=NP.add 41 TP
theorem pi:zm vX:=vY.add Pz
noncomputable section
abbrev aR:Sh:=.pr (.sl zh) zq

abbrev N6:=my [(4,[3,7,8,20,21,22])]
inductive ED where
 | h4 (i7:Sem zg) (l20:List (Sem zf.sl)) (i21:Int) (i22:Int) (z0:zu [CP.d zh]) (mh_1:List ((Int×Int×zn)×Int))
abbrev Gv:ED→Nat×St
 | .h4 i7 l20 i21 i22 z0 mh_1=>(4,⟨tm 35 [(3,AV.ptr 0 0),(7,AV.int .i64 i7),(8,AV.mp 1),(20,AV.sl zf.sl l20),(21,AV.int .i64 i21),(22,AV.int .i64 i22)],[AO.box (bn [] [CP.d zh] z0),AO.vmap true mh_1]⟩)
theorem Yu:zz vX.P 47 Tryz.f47 2:=aG (by kernel_rfl)
def Lz (d:Sem aR) (x:Sem zh):Tr (ED ⊕ au):=
 let a0:=((x.1.1,x.1.2.1,x.1.2.2.1,x.1.2.2.2.1,x.1.2.2.2.2.1,zC x.1.2.2.2.2.2),x.2)
 let a1:=zC d.2.2.2.2.2.2.2.2.2.2.2.2.1
 let a2:=pE a0 a1
 Tr.chk (lV a0 a1) (Tr.to (ED.h4 a2.2 a2.1 (↑(length a2.1):Int) 0 (x,()) []))
theorem WL (d:Sem aR) (x:Sem zh):rn vX 0 N6 Tryz.f47 [zy aR d,zy zh x] []=(Lz d x).map (lf Tryz.f47 Gv):=by kernel_rfl
def FF:ED→Tr (ED ⊕ au)
 | .h4 i7 l20 i21 i22 z0 mh_1=>
  let a0:=(z0.1.1.1,z0.1.1.2.1,z0.1.1.2.2.1,z0.1.1.2.2.2.1,z0.1.1.2.2.2.2.1,zC z0.1.1.2.2.2.2.2)
  let a1:=l20.getD i22.toNat (zj zf.sl)
  Tr.br (decide (i22 < i21))
  (Tr.chk (zH i22 l20.length) (Tr.chk (Jh a0 a1) (Tr.to (ED.h4 i7 l20 i21 (IntKind.i64.wrap (i22+1)) z0 (gq mh_1 (Sx a0 a1) 0)))))
  (Tr.re (AV.tup [AV.mp 0,AV.int .i64 i7]) [AO.vmap true mh_1])
theorem Y4:∀ s,run vX 0 N6 (Func.results Tryz.f47).toList 400 (zx Tryz.f47 (Gv s).1) (Gv s).2=(FF s).map (lf Tryz.f47 Gv):=by intro s; cases s <;> kernel_rfl
def Dl (d:Sem aR) (x:Sem zh):=cM FF 100000000 (Lz d x)

def mO (d:Sem aR) (x:Sem zh):Option (List ((Int×Int×zn)×Int)×Int):=match Dl d x with
 | some (.tup [.mp 0,.int .i64 e],[.vmap true es])=>some (es,e)
 | _=>none
def mV (d:Sem aR) (x:Sem zh):List ((Int×Int×zn)×Int)×Int:=(mO d x).getD ([],0)
theorem X4 {d:Sem aR} {x:Sem zh} (h:(mO d x).isSome=true):Dl d x=some (.tup [.mp 0,.int .i64 (mV d x).2],[.vmap true (mV d x).1]):=by
 unfold mV
 unfold mO at h ⊢
 split at h
 ·rename_i e es hd
  rw [hd]
  rfl
 ·cases h
def VT:b7 [some aR,some zh]:=fun a h=>match h with
 | []=>.chk ((mO a.1 a.2.1).isSome) (.ok (.tup [.mp 0,.int .i64 (mV a.1 a.2.1).2],[.vmap true (mV a.1 a.2.1).1]))
 | _=>.err
def TT:zB:=zP [some aR,some zh] VT
theorem PC:FK 47 TT:=by
 refine fG (ι:=Sem aR×Sem zh) (args:=fun y=>[zy aR y.1,zy zh y.2]) (heap:=fun _=>[]) (i:=fun y=>Lz y.1 y.2) (t:=FF) (e:=Gv) (n:=100000000) (n0:=0) pi Yu (fun _=>rfl) (fun y=>WL _ _) Y4 (fun a h res hv=>?_)
 unfold VT at hv
 split at hv
 ·simp only [Tr.val] at hv
  split at hv
  ·rename_i h1
   simp only [zZ] at hv
   subst hv
   exact ⟨(a.1,a.2.1),rfl,rfl,X4 h1⟩
  ·cases hv
 ·simp at hv

def TW:zB:=zP (List.replicate 3 none) (bA vX Tryz.f50 (List.replicate 3 none))
theorem PF:FK 50 TW:=zY _ pi (aG (by kernel_rfl))

def Ay:=vX.addL [(47,TT),(50,TW)]
theorem vZ:zm Ay:=pi.addL <| fc PC <| fc PF <|  gX
end

abbrev N9:=my [(2,[0,1,7,8])]
inductive EG where
 | h2 (i7:Int) (i8:Int) (z2:zu [CP.d zh]) (lh_0:List (Sem zf.sl)) (mh_3:List ((Int×Int×zn)×Int))
abbrev GA:EG→Nat×St
 | .h2 i7 i8 z2 lh_0 mh_3=>(2,⟨tm 19 [(0,AV.vec 0),(1,AV.clo (Fn.func 50) [] [AV.ptr 1 0,AV.ptr 2 0]),(7,AV.int .i64 i7),(8,AV.int .i64 i8)],[AO.vec zf.sl lh_0,AO.box [AV.mp 3],AO.box (bn [] [CP.d zh] z2),AO.vmap true mh_3]⟩)
theorem YU:zz Ay.P 88 Tryz.f88 2:=aG (by kernel_rfl)
noncomputable def Q9 (l:List (List (Sem zf))) (x:Sem zh) (es:List ((Int×Int×zn)×Int)):Tr (EG ⊕ au):=
 Tr.to (EG.h2 (↑l.length:Int) 0 (x,()) l es)
theorem WX (l:List (List (Sem zf))) (x:Sem zh) (es:List ((Int×Int×zn)×Int)):rn Ay 4 N9 Tryz.f88 [AV.vec 0,AV.clo (Fn.func 50) [] [AV.ptr 1 0,AV.ptr 2 0]] [AO.vec (Sh.sl zf) l,AO.box [AV.mp 3],AO.box (bn [] [CP.d zh] (x,())),AO.vmap true es]=(Q9 l x es).map (lf Tryz.f88 GA):=by kernel_rfl
noncomputable def FI:EG→Tr (EG ⊕ au)
 | .h2 i7 i8 z2 lh_0 mh_3=>
  let a0:=lh_0.getD i8.toNat (zj zf.sl)
  Tr.br (decide (i8 < i7))
  (Tr.chk (zH i8 lh_0.length) (Tr.chk (decide (i8.toNat < lh_0.length)) (Tr.chk (zH z2.1.1.2.2.1 (length a0)) (Tr.br (eA mh_3 (getD a0 (toNat z2.1.1.2.2.1) (zj zf))) (Tr.re (AV.int .i64 i8) [AO.vec zf.sl lh_0,AO.box [AV.mp 3],AO.box [AV.str z2.1.1.1,AV.sl zi z2.1.1.2.1,AV.int .i64 z2.1.1.2.2.1,AV.sl zg z2.1.1.2.2.2.1,AV.sl zr z2.1.1.2.2.2.2.1,
  AV.str (ze.op z2.1.1.2.2.2.2.2),AV.int .i64 (ze.v z2.1.1.2.2.2.2.2).1,AV.int .i64 (ze.v z2.1.1.2.2.2.2.2).2.1,AV.str (ze.v z2.1.1.2.2.2.2.2).2.2,AV.str (ze.s z2.1.1.2.2.2.2.2),AV.sl Sh.expr (ze.l z2.1.1.2.2.2.2.2),AV.sl zf.sl z2.1.2],AO.vmap true mh_3]) (Tr.to (EG.h2 i7 (IntKind.i64.wrap (i8+1)) z2 lh_0 mh_3))))))
  (Tr.re (AV.int .i64 (-1)) [AO.vec zf.sl lh_0,AO.box [AV.mp 3],AO.box [AV.str z2.1.1.1,AV.sl zi z2.1.1.2.1,AV.int .i64 z2.1.1.2.2.1,AV.sl zg z2.1.1.2.2.2.1,AV.sl zr z2.1.1.2.2.2.2.1,AV.str (ze.op z2.1.1.2.2.2.2.2),AV.int .i64 (ze.v z2.1.1.2.2.2.2.2).1,AV.int .i64 (ze.v z2.1.1.2.2.2.2.2).2.1,AV.str (ze.v z2.1.1.2.2.2.2.2).2.2,
  AV.str (ze.s z2.1.1.2.2.2.2.2),AV.sl Sh.expr (ze.l z2.1.1.2.2.2.2.2),AV.sl zf.sl z2.1.2],AO.vmap true mh_3])
theorem Zd:∀ s,run Ay 4 N9 (Func.results Tryz.f88).toList 400 (zx Tryz.f88 (GA s).1) (GA s).2=(FI s).map (lf Tryz.f88 GA):=by intro s; cases s <;> kernel_rfl
noncomputable def zbv (l:List (List (Sem zf))) (x:Sem zh) (es:List ((Int×Int×zn)×Int)):=cM FI 100000000 (Q9 l x es)

set_option maxHeartbeats 1000000

def ia (k:Int) (es:List ((Int×Int×zn)×Int)) (r:List (Sem zf)):Bool:=eA es (getD r (toNat k) (zj zf))
def Hz (l:List (List (Sem zf))) (x:Sem zh) (es:List ((Int×Int×zn)×Int)):List AO:=[AO.vec zf.sl l,AO.box [AV.mp 3],AO.box (bn [] [CP.d zh] (x,())),AO.vmap true es]
theorem Rb (l:List (List (Sem zf))) (x:Sem zh) (es:List ((Int×Int×zn)×Int)) (hl:l.length≤1000000) (hk:∀ r∈l,zH x.1.2.2.1 (length r)=true):∀ (m i n:Nat),l.length - i=m→i≤l.length→m < n→
  bE FI n (.h2 (l.length:Int) (i:Int) (x,()) l es)=some (.int .i64 (zQ (ia x.1.2.2.1 es) (l.drop i) i),Hz l x es):=by
 intro m
 induction m with
 | zero=>
  intro i n hm hi hn
  obtain rfl:i=l.length:=by omega
  obtain ⟨n,rfl⟩:∃ k,n=k+1:=⟨n - 1,by omega⟩
  rw [bE]
  simp only [FI,Tr.val,ap,cQ]
  rfl
 | succ m IH=>
  intro i n hm hi hn
  have hlt:i < l.length:=by omega
  have h2:decide ((i:Int).toNat < l.length)=true:=by simpa using hlt
  obtain ⟨n,rfl⟩:∃ k,n=k+1:=⟨n - 1,by omega⟩
  have h3:=hk l[i] (cI hlt)
  rw [bE,c6 hlt]
  simp only [FI,Tr.val,aH hlt,zN hlt,h2,ag l _ hlt,zG i (by unfold zD; omega),if_true,zQ,h3]
  by_cases h:ia x.1.2.2.1 es l[i]=true
  ·have h':eA es (getD l[i] (toNat x.1.2.2.1) (zj zf))=true:=h
   rw [h]
   simp only [h',if_true]
   rfl
  ·have h':¬ eA es (getD l[i] (toNat x.1.2.2.1) (zj zf))=true:=h
   rw [if_neg h',Bool.eq_false_iff.2 h]
   simp only [cZ]
   exact IH (i+1) n (by omega) (by omega) (by omega)
theorem LG (l:List (List (Sem zf))) (x:Sem zh) (es:List ((Int×Int×zn)×Int)) (hl:l.length≤1000000) (hk:∀ r∈l,zH x.1.2.2.1 (length r)=true):zbv l x es=some (.int .i64 (zQ (ia x.1.2.2.1 es) l 0),Hz l x es):=by
 have:=Rb l x es hl hk l.length 0 100000000 rfl (aZ _) (by omega)
 rw [List.drop_zero] at this
 exact this

@[match_pattern] abbrev tF:Sh:=.pr (.int .i64) (.pr (.int .i64) .str)
@[match_pattern] abbrev Zh:Sh:=.pr .str (.pr (.int .i64) .bool)
@[match_pattern] abbrev Zi:Sh:=.pr (.int .i64) .str
def VX:b7 [none,none]:=fun a h=>match a,h with
 | (.vec 0,.clo (.func 50) [] [.ptr 1 0,.ptr 2 0],_),[.vec (.sl tF) l,.box [.mp 3],.box [.str n,.sl Zh cs,.int .i64 k,.sl (.int .i64) us,.sl Zi fs,.str eo,.int .i64 p,.int .i64 q,.str vs,.str ss,.sl .expr el,.sl (.sl tF) rs],.vmap true es]=>
  .chk (decide (length l≤1000000)&&List.all l (fun r=>zH k (length r))) (.ok (.int .i64 (zQ (ia k es) l 0),[.vec (.sl zf) l,.box [.mp 3],.box [.str n,.sl zi cs,.int .i64 k,.sl zg us,.sl zr fs,.str eo,.int .i64 p,.int .i64 q,.str vs,.str ss,.sl .expr el,.sl (.sl zf) rs],.vmap true es]))
 | _,_=>.err
def Uk:zB:=zP [none,none] VX
theorem P3:FK 88 Uk:=by
 refine fG (ι:=List (List (Sem zf))×Sem zh×List ((Int×Int×zn)×Int)) (args:=fun _=>[AV.vec 0,AV.clo (Fn.func 50) [] [AV.ptr 1 0,AV.ptr 2 0]]) (heap:=fun y=>Hz y.1 y.2.1 y.2.2) (i:=fun y=>Q9 y.1 y.2.1 y.2.2) (t:=FI) (e:=GA) (n:=100000000) (n0:=4) vZ YU (fun _=>rfl) (fun y=>WX _ _ _) Zd (fun a h res hv=>?_)
 unfold VX at hv
 split at hv
 ·rename_i u l n cs k us fs eo p q vs ss el rs es
  simp only [Tr.val] at hv
  split at hv
  ·rename_i h1
   simp only [zZ] at hv
   subst hv
   simp only [aC,ae,cH] at h1
   exact ⟨(l,((n,cs,k,us,fs,ze.mk eo (p,q,vs) ss el),rs),es),rfl,rfl,LG l ((n,cs,k,us,fs,ze.mk eo (p,q,vs) ss el),rs) es h1.1 h1.2⟩
  ·cases hv
 ·simp at hv

noncomputable def Az:=Ay.add 88 Uk
theorem v6:zm Az:=vZ.add P3

abbrev N7:=my [(5,[0,1,5,6])]
inductive BJ where
 | h5 (i5:Int) (i6:Int) (z2:zu [CP.d zh]) (lh_0:List (Sem zf.sl)) (mh_3:List ((Int×Int×zn)×Int))
abbrev Gw:BJ→Nat×St
 | .h5 i5 i6 z2 lh_0 mh_3=>(5,⟨tm 42 [(0,AV.vec 0),(1,AV.clo (Fn.func 50) [] [AV.ptr 1 0,AV.ptr 2 0]),(5,AV.int .i64 i5),(6,AV.int .i64 i6)],[AO.vec zf.sl lh_0,AO.box [AV.mp 3],AO.box (bn [] [CP.d zh] z2),AO.vmap true mh_3]⟩)
theorem Yx:zz Az.P 49 Tryz.f49 2:=aG (by kernel_rfl)
noncomputable def LA (l:List (List (Sem zf))) (x:Sem zh) (es:List ((Int×Int×zn)×Int)):Tr (BJ ⊕ au):=
 let a0:=zQ (ia x.1.2.2.1 es) l 0
 Tr.chk (decide (l.length≤1000000)&&l.all fun r=>zH x.1.2.2.1 (length r))
 (Tr.br (a0==-1)
  (Tr.re (AV.vec 0) [AO.vec zf.sl l,AO.box [AV.mp 3],AO.box [AV.str x.1.1,AV.sl zi x.1.2.1,AV.int .i64 x.1.2.2.1,AV.sl zg x.1.2.2.2.1,AV.sl zr x.1.2.2.2.2.1,AV.str (ze.op x.1.2.2.2.2.2),AV.int .i64 (ze.v x.1.2.2.2.2.2).1,AV.int .i64 (ze.v x.1.2.2.2.2.2).2.1,AV.str (ze.v x.1.2.2.2.2.2).2.2,AV.str (ze.s x.1.2.2.2.2.2),AV.sl Sh.expr (ze.l x.1.2.2.2.2.2),
  AV.sl zf.sl x.2],AO.vmap true es])
  (Tr.to (BJ.h5 a0 (IntKind.i64.wrap (a0+1)) (x,()) l es)))
theorem WN (l:List (List (Sem zf))) (x:Sem zh) (es:List ((Int×Int×zn)×Int)):rn Az 4 N7 Tryz.f49 [AV.vec 0,AV.clo (Fn.func 50) [] [AV.ptr 1 0,AV.ptr 2 0]] [AO.vec (Sh.sl zf) l,AO.box [AV.mp 3],AO.box (bn [] [CP.d zh] (x,())),AO.vmap true es]=(LA l x es).map (lf Tryz.f49 Gw):=by kernel_rfl
noncomputable def FG:BJ→Tr (BJ ⊕ au)
 | .h5 i5 i6 z2 lh_0 mh_3=>
  let a0:=lh_0.getD i6.toNat (zj zf.sl)
  let a1:=IntKind.i64.wrap (i6+1)
  let a2:=decide (0≤i5)
  let a3:=List.take i5.toNat lh_0++List.replicate (lh_0.length - i5.toNat) []
  let a4:=(↑a3.length:Int)
  Tr.br (decide (i6 < (↑lh_0.length:Int)))
  (Tr.chk (zH i6 lh_0.length) (Tr.chk (decide (i6.toNat < lh_0.length)) (Tr.chk (zH z2.1.1.2.2.1 (length a0)) (Tr.br (!eA mh_3 (getD a0 (toNat z2.1.1.2.2.1) (zj zf))) (Tr.chk (zH i5 lh_0.length) (Tr.chk (decide (i5.toNat < lh_0.length)) (Tr.to (BJ.h5 (IntKind.i64.wrap (i5+1)) a1 z2 (lh_0.set i5.toNat a0) mh_3)))) (Tr.to (BJ.h5 i5 a1 z2 lh_0 mh_3))))))
  (Tr.chk (a2&&decide (i5≤(↑lh_0.length:Int))) (Tr.chk (decide (i5.toNat≤lh_0.length)) (Tr.chk (decide (0≤0)&&a2&&decide (i5≤a4)) (Tr.re (AV.sl zf.sl (List.take (i5.toNat - toNat 0) (List.drop (toNat 0) a3))) [AO.frz zf.sl a3,AO.box [AV.mp 3],AO.box [AV.str z2.1.1.1,AV.sl zi z2.1.1.2.1,AV.int .i64 z2.1.1.2.2.1,
  AV.sl zg z2.1.1.2.2.2.1,AV.sl zr z2.1.1.2.2.2.2.1,AV.str (ze.op z2.1.1.2.2.2.2.2),AV.int .i64 (ze.v z2.1.1.2.2.2.2.2).1,AV.int .i64 (ze.v z2.1.1.2.2.2.2.2).2.1,AV.str (ze.v z2.1.1.2.2.2.2.2).2.2,AV.str (ze.s z2.1.1.2.2.2.2.2),AV.sl Sh.expr (ze.l z2.1.1.2.2.2.2.2),AV.sl zf.sl z2.1.2],AO.vmap true mh_3]))))
theorem Y5:∀ s,run Az 4 N7 (Func.results Tryz.f49).toList 400 (zx Tryz.f49 (Gw s).1) (Gw s).2=(FG s).map (lf Tryz.f49 Gw):=by intro s; cases s <;> kernel_rfl
noncomputable def ND (l:List (List (Sem zf))) (x:Sem zh) (es:List ((Int×Int×zn)×Int)):=cM FG 100000000 (LA l x es)

set_option maxHeartbeats 2000000

theorem iA {α:Type} (p:α→Bool):∀ (l:List α) (i:Nat),(zQ p l i=-1∧∀ x∈l,p x=false)∨∃ (k:Nat) (h:k < l.length),zQ p l i=((i+k:Nat):Int)∧p l[k]=true∧∀ x∈l.take k,p x=false
 | [],_=>.inl ⟨rfl,by simp⟩
 | x::r,i=>by
  unfold zQ
  split
  ·rename_i h
   exact .inr ⟨0,by simp,rfl,h,by simp⟩
  ·rename_i h
   have hx:p x=false:=by simpa using h
   rcases iA p r (i+1) with ⟨h1,h2⟩ | ⟨k,hk,h1,h2,h3⟩
   ·refine .inl ⟨h1,fun y hy=>?_⟩
    rcases eE.1 hy with rfl | hy
    ·exact hx
    ·exact h2 y hy
   ·refine .inr ⟨k+1,by simpa using hk,by rw [h1]; congr 1; omega,by simpa using h2,fun y hy=>?_⟩
    rw [List.take_succ_cons] at hy
    rcases eE.1 hy with rfl | hy
    ·exact hx
    ·exact h3 y hy

theorem JB {α:Type} {l:List α} {i:Nat} (h:i < l.length):l.take (i+1)=l.take i++[l[i]]:=by
 rw [List.take_add_one,zJ h]; rfl
abbrev nh (k:Int) (es:List ((Int×Int×zn)×Int)):List (Sem zf)→Bool:=fun r => !ia k es r
abbrev Es (k:Int) (es:List ((Int×Int×zn)×Int)) (l:List (List (Sem zf))):List (List (Sem zf)):=l.filter (nh k es)++List.replicate (l.length - (l.filter (nh k es)).length) ([]:List (Sem zf))
def Wh (x:Sem zh) (es:List ((Int×Int×zn)×Int)) (l:List (List (Sem zf))):List AO:=[AO.frz zf.sl (Es x.1.2.2.1 es l),AO.box [AV.mp 3],AO.box (bn [] [CP.d zh] (x,())),AO.vmap true es]

theorem Lh (l:List (List (Sem zf))) (x:Sem zh) (es:List ((Int×Int×zn)×Int)) (hl:l.length≤1000000) (hk:∀ r∈l,zH x.1.2.2.1 (length r)=true):∀ (m i6 i5 n:Nat) (cur:List (List (Sem zf))),l.length - i6=m→i6≤l.length→i5≤i6→cur.length=l.length→
  cur.take i5=(l.take i6).filter (nh x.1.2.2.1 es)→cur.drop i6=l.drop i6→m < n→
  bE FG n (.h5 (i5:Int) (i6:Int) (x,()) cur es)=some (.sl zf.sl (l.filter (nh x.1.2.2.1 es)),Wh x es l):=by
 intro m
 induction m with
 | zero=>
  intro i6 i5 n cur hm' hi h5 hcl ht hd hn
  obtain rfl:i6=l.length:=by omega
  obtain ⟨n,rfl⟩:∃ k,n=k+1:=⟨n - 1,by omega⟩
  rw [List.take_length] at ht
  have hlen5:(l.filter (nh x.1.2.2.1 es)).length=i5:=by rw [← ht,List.length_take]; omega
  have e1:decide ((l.length:Int) < (cur.length:Int))=false:=by rw [hcl]; simp
  have e2:(decide ((0:Int)≤(i5:Int))&&decide ((i5:Int)≤(cur.length:Int)))=true:=by simp; omega
  have e3:decide ((i5:Int).toNat≤cur.length)=true:=by simp; omega
  have e4:(decide ((0:Int)≤0)&&decide ((0:Int)≤(i5:Int))&&decide ((i5:Int)≤((List.take (i5:Int).toNat cur++List.replicate (cur.length - (i5:Int).toNat) ([]:List (Sem zf))).length:Int)))=true:=by simp; omega
  rw [bE]
  simp only [FG,Tr.val,e1,e2,e3,if_true,aI,if_false]
  have e5:List.take ((i5:Int).toNat - toNat 0) (List.drop (toNat 0) (List.take (i5:Int).toNat cur++List.replicate (cur.length - (i5:Int).toNat) ([]:List (Sem zf))))=l.filter (nh x.1.2.2.1 es):=by
   simp only [dp,Int.toNat_zero,List.drop_zero,Nat.sub_zero]
   rw [List.take_append_of_le_length (by simp; omega),List.take_take,Nat.min_self,ht]
  have e6:List.take (i5:Int).toNat cur++List.replicate (cur.length - (i5:Int).toNat) ([]:List (Sem zf))=Es x.1.2.2.1 es l:=by
   simp only [dp]
   rw [ht,hcl]
   unfold Es
   rw [hlen5]
  rw [if_pos (by simp; omega),e5,e6]
  rfl
 | succ m IH=>
  intro i6 i5 n cur hm' hi h5 hcl ht hd hn
  obtain ⟨n,rfl⟩:∃ k,n=k+1:=⟨n - 1,by omega⟩
  have hlt:i6 < l.length:=by omega
  have hltc:i6 < cur.length:=by omega
  have h5c:i5 < cur.length:=by omega
  have hc6:cur[i6]=l[i6]:=by
   have:=congrArg (·[0]?) hd
   simp only [ml,pV] at this
   rw [zJ hltc,zJ hlt] at this
   exact Option.some.inj this
  have h2:decide ((i6:Int).toNat < cur.length)=true:=by simpa using hltc
  have h3:decide ((i5:Int).toNat < cur.length)=true:=by simpa using h5c
  have ht6:l.take (i6+1)=l.take i6++[l[i6]]:=JB hlt
  have hd6:cur.drop (i6+1)=l.drop (i6+1):=by
   have:=congrArg (List.drop 1) hd
   simpa [List.drop_drop,nr] using this
  have h7:=hk l[i6] (cI hlt)
  rw [bE]
  simp only [FG,Tr.val,aH hltc,zN hltc,zN h5c,h2,h3,ag cur _ hltc,hc6,h7,zG i6 (by unfold zD; omega),zG i5 (by unfold zD; omega),if_true]
  by_cases hk':ia x.1.2.2.1 es l[i6]=true
  ·have h':eA es (getD l[i6] (toNat x.1.2.2.1) (zj zf))=true:=hk'
   simp only [h',mn,aI,if_false]
   refine IH (i6+1) i5 n cur (by omega) (by omega) (by omega) hcl ?_ hd6 (by omega)
   rw [ht6,List.filter_append,← ht,List.filter_cons_of_neg (by simp [nh,hk']),List.filter_nil,pR]
  ·have hkf:ia x.1.2.2.1 es l[i6]=false:=by simpa using hk'
   have h':eA es (getD l[i6] (toNat x.1.2.2.1) (zj zf))=false:=hkf
   simp only [h',Bool.not_false,if_true]
   refine IH (i6+1) (i5+1) n _ (by omega) (by omega) (by omega) (by simpa using hcl) ?_ ?_ (by omega)
   ·rw [ht6,List.filter_append,← ht]
    simp only [dp]
    rw [JB (by simpa using h5c),List.filter_cons_of_pos (by simp [nh,hkf]),List.filter_nil]
    simp [List.take_set_of_le]
   ·simp only [dp]
    rw [List.drop_set_of_lt (by omega)]
    exact hd6
theorem Gt (l:List (List (Sem zf))) (x:Sem zh) (es:List ((Int×Int×zn)×Int)) (hl:l.length≤1000000) (hk:∀ r∈l,zH x.1.2.2.1 (length r)=true):
  ND l x es=some (if zQ (ia x.1.2.2.1 es) l 0==-1 then (.vec 0,Hz l x es) else (.sl zf.sl (l.filter (nh x.1.2.2.1 es)),Wh x es l)):=by
 have h0:(decide (l.length≤1000000)&&l.all fun r=>zH x.1.2.2.1 (length r))=true:=by
  simp only [aC,ae,cH]
  exact ⟨hl,hk⟩
 unfold ND cM LA
 simp only [Tr.val,h0,if_true]
 by_cases h1:(zQ (ia x.1.2.2.1 es) l 0==-1)=true
 ·simp only [h1,if_true]
  rfl
 ·rw [if_neg h1,if_neg h1]
  rcases iA (ia x.1.2.2.1 es) l 0 with ⟨h2,_⟩ | ⟨k,hk',h2,h3,h4⟩
  ·exfalso; apply h1; rw [h2]; rfl
  ·rw [h2,kd,zG k (by unfold zD; omega)]
   refine Lh l x es hl hk (l.length - (k+1)) (k+1) k 100000000 l rfl (by omega) (by omega) rfl ?_ rfl (by omega)
   rw [JB hk',List.filter_append,List.filter_cons_of_neg (by simp [nh,h3]),List.filter_nil,pR]
   refine (List.filter_eq_self.2 fun y hy=>?_).symm
   simp [nh,h4 y hy]

def VU:b7 [none,none]:=fun a h=>match a,h with
 | (.vec 0,.clo (.func 50) [] [.ptr 1 0,.ptr 2 0],_),[.vec (.sl tF) l,.box [.mp 3],.box [.str n,.sl Zh cs,.int .i64 k,.sl (.int .i64) us,.sl Zi fs,.str eo,.int .i64 p,.int .i64 q,.str vs,.str ss,.sl .expr el,.sl (.sl tF) rs],.vmap true es]=>
  .chk (decide (length l≤1000000)&&List.all l (fun r=>zH k (length r))) (.br (zQ (ia k es) l 0==-1)
   (.ok (.vec 0,[.vec (.sl zf) l,.box [.mp 3],.box [.str n,.sl zi cs,.int .i64 k,.sl zg us,.sl zr fs,.str eo,.int .i64 p,.int .i64 q,.str vs,.str ss,.sl .expr el,.sl (.sl zf) rs],.vmap true es]))
   (.ok (.sl (.sl zf) (List.filter (nh k es) l),[.frz (.sl zf) (Es k es l),.box [.mp 3],.box [.str n,.sl zi cs,.int .i64 k,.sl zg us,.sl zr fs,.str eo,.int .i64 p,.int .i64 q,.str vs,.str ss,.sl .expr el,.sl (.sl zf) rs],.vmap true es])))
 | _,_=>.err
def TV:zB:=zP [none,none] VU
theorem PE:FK 49 TV:=by
 refine fG (ι:=List (List (Sem zf))×Sem zh×List ((Int×Int×zn)×Int)) (args:=fun _=>[AV.vec 0,AV.clo (Fn.func 50) [] [AV.ptr 1 0,AV.ptr 2 0]]) (heap:=fun y=>Hz y.1 y.2.1 y.2.2) (i:=fun y=>LA y.1 y.2.1 y.2.2) (t:=FG) (e:=Gw) (n:=100000000) (n0:=4) v6 Yx (fun _=>rfl) (fun y=>WN _ _ _) Y5 (fun a h res hv=>?_)
 unfold VU at hv
 split at hv
 ·rename_i u l n cs k us fs eo p q vs ss el rs es
  simp only [Tr.val] at hv
  split at hv
  ·rename_i h1
   simp only [aC,ae,cH] at h1
   have h2:=Gt l ((n,cs,k,us,fs,ze.mk eo (p,q,vs) ss el),rs) es h1.1 h1.2
   refine ⟨(l,((n,cs,k,us,fs,ze.mk eo (p,q,vs) ss el),rs),es),rfl,rfl,?_⟩
   refine h2.trans ?_
   split at hv
   ·rename_i h3
    rw [if_pos h3]
    exact hv
   ·rename_i h3
    rw [if_neg h3]
    exact hv
  ·cases hv
 ·simp at hv

noncomputable def GQ:=Az.add 49 TV
theorem mT:zm GQ:=v6.add PE
noncomputable section

def Q3 (x0:Sem aR):Tr (Empty ⊕ au):=
 let a0:=aE x0.1 x0.2.2.1
 let a1:=getD x0.1 (toNat a0) (zj zh)
 let a2:=((a1.1.1,a1.1.2.1,a1.1.2.2.1,a1.1.2.2.2.1,a1.1.2.2.2.2.1,zC a1.1.2.2.2.2.2),a1.2)
 let a3:=zC x0.2.2.2.2.2.2.2.2.2.2.2.2.1
 let a4:=pE a2 a3
 let a5:=cy a4.2
 Tr.br (decide (a0 < 0))
 (Tr.chk true
  (Tr.re (AV.tup [AV.sl zh (cy 6).1,AV.agg [AV.int .i64 (cy 6).2.1,AV.int .i64 (cy 6).2.2.1,AV.sl zf.sl (cy 6).2.2.2]]) []))
 (Tr.chk (zH a0 (length x0.1))
  (Tr.chk (lV a2 a3) (Tr.br (a4.2 != 0) (Tr.chk (rY a4.2) (Tr.re (AV.tup [AV.sl zh a5.1,AV.agg [AV.int .i64 a5.2.1,AV.int .i64 a5.2.2.1,AV.sl zf.sl a5.2.2.2]]) [])) (Tr.re (AV.tup [AV.sl zh x0.1,AV.agg [AV.int .i64 0,AV.int .i64 (↑(length a4.1):Int),AV.sl zf.sl a4.1]]) []))))
def fO (x0:Sem aR):=aq [zh.sl,eI] t0 100000000 (Q3 x0)
def rV (x0:Sem aR):=(fO x0).isSome
def xf (x0:Sem aR):=o2 (fO x0)
def TC:=FT [aR] [zh.sl,eI] fun x=>fO x.1
theorem Pj:FK 22 TC:=mT.T1 (f:=Tryz.f22) (keep:=k0) (e:=e0)

def Xn (x0:Sem aR):Tr (Empty ⊕ au):=
 let a0:=aE x0.1 x0.2.2.1
 let a1:=(x0.1,x0.2.1,x0.2.2.1,x0.2.2.2.1,x0.2.2.2.2.1,x0.2.2.2.2.2.1,x0.2.2.2.2.2.2.1,x0.2.2.2.2.2.2.2.1,x0.2.2.2.2.2.2.2.2.1,zC x0.2.2.2.2.2.2.2.2.2.1,x0.2.2.2.2.2.2.2.2.2.2.1,x0.2.2.2.2.2.2.2.2.2.2.2.1,zC x0.2.2.2.2.2.2.2.2.2.2.2.2.1,x0.2.2.2.2.2.2.2.2.2.2.2.2.2)
 let a2:=getD x0.1 (toNat a0) (zj zh)
 let a3:=(a2.1.1,a2.1.2.1,a2.1.2.2.1,a2.1.2.2.2.1,a2.1.2.2.2.2.1,zC a2.1.2.2.2.2.2)
 let a4:=(a3,a2.2)
 let a5:=mV a1 a4
 let a6:=cy a5.2
 let a7:=decide (a5.1.length≤1073741824)
 let a8:=mq x0.1 a4
 let a9:=(↑a5.1.length:Int)
 let a10:=vD a8 a9
 let a11:=(a3,List.filter (nh a2.1.2.2.1 a5.1) a2.2)
 let a12:=mq x0.1 a11
 let a13:=vD a12 a9
 Tr.br (decide (a0 < 0))
 (Tr.chk true
  (Tr.re (AV.tup [AV.sl zh (cy 6).1,AV.agg [AV.int .i64 (cy 6).2.1,AV.int .i64 (cy 6).2.2.1,AV.sl zf.sl (cy 6).2.2.2]]) []))
 (Tr.chk (zH a0 (length x0.1))
  (Tr.chk (mO a1 a4).isSome (Tr.br (a5.2 != 0) (Tr.chk (rY a5.2) (Tr.re (AV.tup [AV.sl zh a6.1,AV.agg [AV.int .i64 a6.2.1,AV.int .i64 a6.2.2.1,AV.sl zf.sl a6.2.2.2]]) [])) (Tr.chk (decide (length a2.2≤1073741824)) (Tr.chk (decide (length a2.2≤1000000)&&List.all a2.2 fun r=>zH a2.1.2.2.1 (length r)) (Tr.br (zQ (ia a2.1.2.2.1 a5.1) a2.2 0==-1)
  (Tr.chk (mN x0.1 a4) (Tr.chk a7 (Tr.chk (oV a8 a9) (Tr.re (AV.tup [AV.sl zh a10.1,AV.agg [AV.int .i64 a10.2.1,AV.int .i64 a10.2.2.1,AV.sl zf.sl a10.2.2.2]]) [])))) (Tr.chk (mN x0.1 a11) (Tr.chk a7 (Tr.chk (oV a12 a9) (Tr.re (AV.tup [AV.sl zh a13.1,AV.agg [AV.int .i64 a13.2.1,AV.int .i64 a13.2.2.1,AV.sl zf.sl a13.2.2.2]]) []))))))))))
def je (x0:Sem aR):=aq [zh.sl,eI] t0 100000000 (Xn x0)
def r6 (x0:Sem aR):=(je x0).isSome
def xh (x0:Sem aR):=o2 (je x0)
def Tz:=FT [aR] [zh.sl,eI] fun x=>je x.1
theorem Pg:FK 21 Tz:=mT.T1 (f:=Tryz.f21) (keep:=k0) (e:=e0)

def xv:=GQ.addL [(22,TC),(21,Tz)]
theorem mU:zm xv:=mT.addL <| fc Pj <| fc Pg <|  gX
end

theorem gi {c g:Bool} (h1:c=true) (h2:g=true):(if c=true then g else false)=true:=by rw [if_pos h1]; exact h2
theorem ac {a b:Nat} (h:a≤b):decide (a≤b)=true:=dc h

theorem wN {v:Sem zf} (h:gP v=true) (h2:(v.1==2)=true):v.2.2.length≤40:=by
 have e:v.1=2:=by simpa using h2
 unfold gP at h
 rw [e] at h
 simp only [show ((2:Int)==0)=false from rfl,show ((2:Int)==1)=false from rfl,show ((2:Int)==2)=true from rfl,aI,if_false,if_true] at h
 cases h1:v.2.1==0
 ·rw [h1] at h; simp at h
 ·rw [h1] at h
  cases h3:decide ((v.2.2.length:Int)≤40)
  ·rw [h3] at h; simp at h
  ·have:=g6 h3
   omega

theorem qA (v:Sem zf):j5 v=true:=by
 unfold j5
 split
 ·rfl
 ·rename_i hm
  have hm:gP v=true:=by simpa using hm
  split
  ·rfl
  ·split
   ·rename_i h2
    have hl:=wN hm h2
    have hr:=ic v.2.2 [39] [39,39]
    have hr2:(Lib.replaceAll v.2.2 [39] [39,39]).length≤200:=by
     simp only [nq,List.length_nil] at hr
     omega
    refine gi ?_ (gi (ac ?_) (gi (ac ?_) rfl))
    ·unfold oh
     simp
     omega
    ·simp; omega
    ·simp; omega
   ·rfl

theorem pK (v:Sem zf):(gy v).length≤300:=by
 unfold gy
 split
 ·simp
 ·rename_i hm
  have hm:gP v=true:=by simpa using hm
  split
  ·have:=wt v.2.1
   omega
  ·split
   ·rename_i h2
    have hl:=wN hm h2
    have hr:=ic v.2.2 [39] [39,39]
    simp only [nq,List.length_nil] at hr
    simp
    omega
   ·split
    ·split <;> simp
    ·simp

theorem FN {s:zn} (h:mI s=true):s.length≤16:=by
 have h:pN s=true:=h
 unfold pN at h
 by_cases h2:(s.length:Int)≤16
 ·omega
 ·exfalso
  rw [decide_eq_false h2] at h
  cases h1:decide ((s.length:Int) ≥ 1) <;> rw [h1] at h <;> simp at h

theorem H8 {g:ze→Int→Int→Bool×Int} {e:ze} {d n:Int} (h:(AZ g e d n).1=true) (hc:e.op=[99,111,108]):e.s.length≤16:=by
 unfold AZ at h
 split at h
 ·cases h
 ·split at h
  ·rename_i h1; rw [hc] at h1; simp at h1
  ·split at h
   ·cases h1:tc e.v
    ·rw [h1] at h; simp at h
    ·rw [h1] at h
     cases h2:mI e.s
     ·rw [h2] at h; simp at h
     ·exact FN h2
   ·rename_i h1; rw [hc] at h1; simp at h1

theorem bX (s:zn):(Lib.toUpperA s).length=s.length:=by simp [Lib.toUpperA]

theorem sb:∀ (N:Nat) (e:ze) (d n:Int),N≤16→(nV N e d n).1=true→fH N e=true∧(ft N e).length≤400 * 2 ^ N - 100
 | 0,_,_,_,_,h=>by cases h
 | N + 1,e,d,n,hN,h=>by
  rw [nV] at h
  obtain ⟨hl,h2⟩:=pp h
  have hp:2 ^ N≤2 ^ 15:=Nat.pow_le_pow_right (by omega) (by omega)
  have hp1:1≤2 ^ N:=Nat.one_le_two_pow
  have hpp:2 ^ (N+1)=2 * 2 ^ N:=by rw [Nat.pow_succ]; omega
  have hparts:∀ x∈e.l,fH N x=true∧(ft N x).length≤400 * 2 ^ N - 100:=by
   intro x hx
   rcases h2 with h2 | h2
   ·exfalso
    have:cW e.op=0:=by
     rcases h2 with h2 | h2 <;> rw [h2] <;> decide
    rw [this] at hl
    have:e.l=[]:=yV (by omega)
    rw [this] at hx; simp at hx
   ·obtain ⟨m,hm⟩:=nU e.l _ h2 x hx
    exact sb N x _ _ (by omega) hm
  have hget:∀ i,i < e.l.length→e.l.getD i (zj Sh.expr)∈e.l:=by
   intro i hi
   rw [aJ,zJ hi]
   exact cI hi
  rw [fH,ft]
  unfold qO r9
  rcases kZ e.op with ⟨hp0,hop | hop⟩ | ⟨hp0,hop | hop⟩ | ⟨hp0,hop⟩ | hp0
  ·rw [hop]
   simp only [beq_self_eq_true,if_true]
   refine ⟨gi (qA _) rfl,?_⟩
   have:=pK e.v
   omega
  ·have hs:=H8 h hop
   rw [hop]
   refine ⟨rfl,?_⟩
   show e.s.length≤_
   omega
  ·rw [hp0] at hl
   have hlen:e.l.length=1:=by omega
   obtain ⟨k1,k2⟩:=hparts _ (hget 0 (by omega))
   rw [hop]
   refine ⟨gi ?_ (gi k1 (gi (ac ?_) (gi (ac ?_) rfl))),?_⟩
   ·simp [zH,hlen]
   ·simp at k2 ⊢; omega
   ·simp at k2 ⊢; omega
   ·show ([40,78,79,84,32]++ft N (e.l.getD 0 (zj Sh.expr))++[41]).length≤_
    simp at k2 ⊢; omega
  ·rw [hp0] at hl
   have hlen:e.l.length=1:=by omega
   obtain ⟨k1,k2⟩:=hparts _ (hget 0 (by omega))
   rw [hop]
   refine ⟨gi ?_ (gi k1 (gi (ac ?_) (gi (ac ?_) rfl))),?_⟩
   ·simp [zH,hlen]
   ·simp at k2 ⊢; omega
   ·simp at k2 ⊢; omega
   ·show ([40]++ft N (e.l.getD 0 (zj Sh.expr))++[32,73,83,32,78,85,76,76,41]).length≤_
    simp at k2 ⊢; omega
  ·rw [hp0] at hl
   have hlen:e.l.length=2:=by omega
   obtain ⟨k1,k2⟩:=hparts _ (hget 0 (by omega))
   obtain ⟨k3,k4⟩:=hparts _ (hget 1 (by omega))
   have hu:(decide (e.op.length≤140737488355328)&&e.op.all fun b=>decide (b.toNat < 128))=true:=by
    rcases hop with hop | hop | hop | hop | hop | hop <;> rw [hop] <;> decide
   have hol:e.op.length≤3:=by
    rcases hop with hop | hop | hop | hop | hop | hop <;> rw [hop] <;> simp
   have hul:=bX e.op
   have n1:(e.op==[108,105,116])=false:=by rcases hop with hop | hop | hop | hop | hop | hop <;> rw [hop] <;> rfl
   have n2:(e.op==[99,111,108])=false:=by rcases hop with hop | hop | hop | hop | hop | hop <;> rw [hop] <;> rfl
   have n3:(e.op==[110,111,116])=false:=by rcases hop with hop | hop | hop | hop | hop | hop <;> rw [hop] <;> rfl
   have n4:(e.op==[110,117,108,108])=false:=by rcases hop with hop | hop | hop | hop | hop | hop <;> rw [hop] <;> rfl
   simp only [n1,n2,n3,n4,aI,if_false]
   refine ⟨gi ?_ (gi k1 (gi (ac ?_) (gi (ac ?_) (gi hu (gi (ac ?_) (gi (ac ?_) (gi ?_ (gi k3 (gi (ac ?_) (gi (ac ?_) rfl)))))))))),?_⟩
   ·simp [zH,hlen]
   all_goals first
    | (simp [zH,hlen]; done)
    | (simp at k2 k4 ⊢; omega)
  ·rw [hp0] at hl
   omega

theorem xG (e:ze):lG e=true:=by
 unfold lG
 split
 ·rfl
 ·rename_i h
  exact gi (sb 16 e 1 0 (by omega) (by simpa [iL] using h)).1 rfl

theorem Cb (e:ze):(kP e).1.length≤30000000:=by
 unfold kP
 split
 ·simp
 ·rename_i h
  have:=(sb 16 e 1 0 (by omega) (by simpa [iL] using h)).2
  show (ft 16 e).length≤_
  omega


theorem DD (p:Int→Bool):∀ s:zn,iN p s≤s.length
 | []=>by simp [iN]
 | c::r=>by
  have:=DD p r
  rw [iN]
  split <;> simp <;> omega
theorem lY (f m:Int→Bool) (s:zn):aA f m s≤s.length:=by
 cases s with
 | nil=>simp [aA]
 | cons c r=>
  have:=DD m r
  rw [aA]
  split <;> simp <;> omega

theorem Ox (i:Nat) (h:i≤4000000000):IntKind.i64.wrap (i:Int)=(i:Int):=by
 have:=zG (i - 1) (by unfold zD; omega)
 cases i with
 | zero=>rfl
 | succ i=>simpa using this

theorem lv (i:Nat) (h:i≤4000000000):IntKind.i64.wrap ((i:Int)+1)=((i+1:Nat):Int):=zG i (by unfold zD; omega)

theorem jT:∀ (n:Nat) (s:zn) (i:Nat) (a:Int) (b:zn),1≤i→i≤s.length→s.length+2≤n+i→s.length≤1000000000→fE n s (i:Int) a b=true
 | 0,s,i,a,b,h1,h2,h3,h4=>by omega
 | n + 1,s,i,a,b,h1,h2,h3,h4=>by
  rw [fE]
  split
  ·rename_i hlt
   have hlt:i < s.length:=by have:=g6 hlt; omega
   refine gi (zN hlt) ?_
   rw [lv i (by omega)]
   split
   ·exact jT n s (i+1) a b (by omega) (by omega) (by omega) h4
   ·refine gi ?_ ?_
    ·cases hd:decide (((i+1:Nat):Int) < (s.length:Int))
     ·rfl
     ·exact zN (by have:=g6 hd; omega)
    ·split
     ·rename_i hh
      have h5:i+1 < s.length:=by
       cases hd:decide (((i+1:Nat):Int) < (s.length:Int))
       ·rw [hd] at hh; simp at hh
       ·have:=g6 hd; omega
      rw [lv (i+1) (by omega)]
      exact jT n s (i+1+1) a b (by omega) (by omega) (by omega) h4
     ·refine gi ?_ (gi ?_ rfl)
      ·simp; omega
      ·unfold oh
       simp
       omega
  ·rfl

theorem na:∀ (n:Nat) (s:zn) (i:Nat) (a:Int) (b:zn),1≤i→i≤s.length→s.length+2≤n+i→s.length≤1000000000→
  (de n s (i:Int) a b=((0,[]),0))∨∃ k:Nat,(de n s (i:Int) a b).2=(k:Int)∧1≤k∧k≤s.length
 | 0,s,i,a,b,h1,h2,h3,h4=>by omega
 | n + 1,s,i,a,b,h1,h2,h3,h4=>by
  rw [de]
  split
  ·rename_i hlt
   have hlt:i < s.length:=by have:=g6 hlt; omega
   rw [lv i (by omega)]
   split
   ·exact na n s (i+1) a b (by omega) (by omega) (by omega) h4
   ·split
    ·rename_i hh
     have h5:i+1 < s.length:=by
      cases hd:decide (((i+1:Nat):Int) < (s.length:Int))
      ·rw [hd] at hh; simp at hh
      ·have:=g6 hd; omega
     rw [lv (i+1) (by omega)]
     exact na n s (i+1+1) a b (by omega) (by omega) (by omega) h4
    ·exact .inr ⟨i+1,rfl,by omega,by omega⟩
  ·exact .inl rfl

theorem yA (t:Sem dI):ma t=true:=by
 unfold ma
 split
 ·rfl
 ·split
  ·refine gi ?_ rfl
   cases h:((t.2.length:Int)==1)
   ·rfl
   ·have:(t.2.length:Int)=1:=by simpa using h
    simp only [bJ,ee]
    omega
  ·simp

theorem uo (s:zn) (h0:s≠[]) (h1:s.length≤1000000000):gZ s=true:=by
 have hl:1≤s.length:=by cases s with | nil=>exact absurd rfl h0 | cons _ _=>simp
 have r1:=lY aS cJ s
 have r2:=lY zT zT s
 have hq:gJ s=true:=jT (s.length+1) s 1 _ _ (by omega) hl (by omega) h1
 have hb:zH 0 s.length=true:=zN hl
 have d1:(decide ((0:Int)≤0)&&decide (0≤(↑(aA aS cJ s):Int))&&decide ((↑(aA aS cJ s):Int)≤(↑(length s):Int)))=true:=by simp; omega
 have d2:(decide ((0:Int)≤0)&&decide (0≤(↑(aA zT zT s):Int))&&decide ((↑(aA zT zT s):Int)≤(↑(length s):Int)))=true:=by simp; omega
 have d3:(decide ((0:Int)≤0)&&decide ((0:Int)≤1)&&decide (1≤(↑(length s):Int)))=true:=by simp; omega
 unfold gZ
 simp only [hq,hb,if_true,aI,if_false]
 repeat' split
 all_goals first
  | rfl
  | (rename_i h; exfalso; apply h; simp; omega)

theorem oF (s:zn) (h0:s≠[]) (h1:s.length≤1000000000) (hm:gp (aP s).1=true):∃ k:Nat,(aP s).2=(k:Int)∧1≤k∧k≤s.length:=by
 have hl:1≤s.length:=by cases s with | nil=>exact absurd rfl h0 | cons _ _=>simp
 have r1:=lY aS cJ s
 have r2:=lY zT zT s
 have hq:=na (s.length+1) s 1 0 [] (by omega) hl (by omega) h1
 unfold aP at hm ⊢
 simp only [if_true,aI,if_false] at hm ⊢
 split
 ·rename_i h
  have:=g6 h
  exact ⟨_,rfl,by omega,by omega⟩
 ·rename_i h
  rw [if_neg h] at hm
  split
  ·rename_i h2
   have:=g6 h2
   exact ⟨_,rfl,by omega,by omega⟩
  ·rename_i h2
   rw [if_neg h2] at hm
   split
   ·rename_i h3
    rw [if_pos h3] at hm
    rcases hq with hq | ⟨k,hk,hk1,hk2⟩
    ·exfalso
     have hqq:cE s=((0,[]),0):=hq
     rw [hqq] at hm
     revert hm
     decide
    ·exact ⟨k,hk,hk1,hk2⟩
   ·exact ⟨1,rfl,by omega,by omega⟩

theorem oS:∀ (n:Nat) (s:zn) (i:Nat) (l:List (Sem zr)),i≤s.length→s.length+1≤n+i→s.length≤1000000000→l.length≤400→mM n s (i:Int) l=true
 | 0,s,i,l,h1,h2,h3,h4=>by omega
 | n + 1,s,i,l,h1,h2,h3,h4=>by
  rw [mM]
  split
  ·rename_i hlt
   have hlt:i < s.length:=by have:=g6 hlt; omega
   have e1:List.take ((s.length:Int).toNat - (i:Int).toNat) (List.drop (i:Int).toNat s)=s.drop i:=by
    simp only [dp]
    exact Dc (by simp)
   rw [e1]
   refine gi ?_ ?_
   ·rw [zN hlt]
    cases (((s.getD (i:Int).toNat 0).toNat:Int)==32) <;> rfl
   ·split
    ·rw [lv i (by omega)]
     exact oS n s (i+1) l (by omega) (by omega) h3 h4
    ·have hne:s.drop i≠[]:=by
      intro h
      have:=congrArg length h
      simp at this
      omega
     have hdl:(s.drop i).length≤1000000000:=by simp; omega
     refine gi ?_ (gi (uo _ hne hdl) (gi (yA _) ?_))
     ·simp; omega
     ·split
      ·rfl
      ·rename_i hh
       have hm:gp (aP (s.drop i)).1=true:=by
        cases hq:gp (aP (s.drop i)).1
        ·rw [hq] at hh; simp at hh
        ·rfl
       have hl4:l.length≠400:=by
        intro h5
        rw [hm,h5] at hh
        simp at hh
       obtain ⟨k,hk,hk1,hk2⟩:=oF _ hne hdl hm
       have hk3:k≤s.length - i:=by simpa using hk2
       refine gi (ac ?_) ?_
       ·simp; omega
       ·rw [hk,show ((i:Int)+(k:Int))=((i+k:Nat):Int) by omega,Ox (i+k) (by omega)]
        exact oS n s (i+k) _ (by omega) (by omega) h3 (by simp; omega)
  ·rfl

theorem Gm (s:zn) (h:s.length≤1000000000):Gl s=true:=oS (s.length+1) s 0 [] (by omega) (by omega) h (by simp)

structure eu (s:Sem zq):Prop where
 op:s.1.length≤1000
 table:s.2.1.length≤1000
 other:s.2.2.1.length≤1000
 names:s.2.2.2.1.length≤20∧∀ x∈s.2.2.2.1,length x≤1000
 cols:s.2.2.2.2.1.length≤20∧∀ x∈s.2.2.2.2.1,length x.1≤1000
 key:s.2.2.2.2.2.1.length≤1000
 uniques:s.2.2.2.2.2.2.1.length≤20∧∀ x∈s.2.2.2.2.2.2.1,length x≤1000
 refs:s.2.2.2.2.2.2.2.1.length≤20∧∀ x∈s.2.2.2.2.2.2.2.1,length x.1≤1000∧length x.2≤1000
 row:s.2.2.2.2.2.2.2.2.2.1.length≤20
 sets:s.2.2.2.2.2.2.2.2.2.2.1.length≤20∧∀ x∈s.2.2.2.2.2.2.2.2.2.2.1,length x.1≤1000
 role:s.2.2.2.2.2.2.2.2.2.2.2.2.length≤1000

theorem eU (sep:zn) (B:Nat):∀ l:List zn,(∀ x∈l,x.length≤B)→(Lib.join l sep).length≤l.length * (B+sep.length)
 | [],_=>by simp [Lib.join,List.intercalate]
 | [x],h=>by
  rw [Lib.join_one]
  have:=h x (by simp)
  simp
  omega
 | x::y::r,h=>by
  have ih:=eU sep B (y::r) (fun z hz=>h z (kF _ hz))
  have hx:=h x (by simp)
  have e:Lib.join (x::y::r) sep=x++sep++Lib.join (y::r) sep:=by simp [Lib.join,List.intercalate,List.intersperse]
  rw [e]
  simp only [nl,nq] at ih ⊢
  rw [eP]
  omega

theorem qf {α:Type} (p:α→Bool):∀ (l:List α) (i:Nat),(!decide (zQ p l i ≥ 0))=true→∀ x∈l,p x=false
 | [],_,_,x,hx=>by simp at hx
 | y::r,i,h,x,hx=>by
  rw [zQ] at h
  cases hy:p y
  ·rw [hy] at h
   rcases eE.1 hx with rfl | hx
   ·exact hy
   ·exact qf p r (i+1) (by simpa using h) x hx
  ·exfalso
   rw [hy] at h
   simp at h
   try omega

theorem iV (e:ze):fg e=true:=gi (xG e) rfl
theorem eK (e:ze):(cr e).length≤30000000:=Cb e
theorem f5 (e:ze):uv e=true:=by
 unfold uv
 have:=eK e
 split
 ·rfl
 ·refine gi (iV e) (gi (ac ?_) rfl)
  simp; omega
theorem pM (e:ze):(lu e).length≤30000010:=by
 unfold lu
 have:=eK e
 split
 ·simp
 ·simp; omega
theorem gB (s:zn) (h:s.length≤10) (e:ze):jJ s e=true:=by
 unfold jJ
 have:=eK e
 split
 ·rfl
 ·refine gi (ac ?_) (gi (iV e) (gi (ac ?_) (gi (ac ?_) rfl)))
  all_goals (simp; omega)
theorem rR (s:zn) (h:s.length≤10) (e:ze):(gg s e).length≤30000030:=by
 unfold gg
 have:=eK e
 split
 ·simp
 ·simp; omega
theorem uV (x:Sem aF) (h:length x.1≤1000):ig x=true:=by
 unfold ig
 have:=eK x.2
 refine gi (ac ?_) (gi (iV _) (gi (ac ?_) rfl))
 all_goals (simp; omega)
theorem qu (x:Sem aF) (h:length x.1≤1000):(dt x).length≤30001010:=by
 unfold dt
 have:=eK x.2
 simp; omega
theorem uH (x:Sem zi) (h:length x.1≤1000) (h1:(1:Int)≤x.2.1) (h2:LE.le (α:=Int) x.2.1 3):fN x=true:=by
 obtain ⟨nm,ty,nn⟩:=x
 replace h:nm.length≤1000:=h
 replace h1:LE.le (α:=Int) 1 ty:=h1
 replace h2:LE.le (α:=Int) ty 3:=h2
 have hw:IntKind.i64.wrap (ty - 1)=ty - 1:=j7 _ (by omega) (by omega)
 have hin:zH (ty - 1) 3=true:=by simp [zH]; omega
 unfold fN
 simp only [hw,hin,Bool.cond_eq_ite]
 repeat' split
 all_goals first
  | rfl
  | (rename_i hf; exfalso; apply hf; simp; omega)
  | (rename_i hf _; exfalso; apply hf; simp; omega)
  | (exfalso; simp_all; omega)
theorem y6 (x:Sem zi) (h:length x.1≤1000):(c7 x).length≤1100:=by
 unfold c7
 simp only [Bool.cond_eq_ite]
 repeat' split
 all_goals (simp; omega)

theorem p9:∀ (l:List (Sem zi)) (i:Int) (acc:List zn),ce l i acc=Lib.join (acc++l.map c7) [32,44,32]
 | [],i,acc=>by simp [ce]
 | x::r,i,acc=>by rw [ce,p9 r]; simp
theorem w9 (B:Nat) (l:List (Sem zi)) (h:∀ x∈l,(c7 x).length≤B):(cS l).length≤l.length * (B+3):=by
 unfold cS
 rw [p9]
 have:=eU [32,44,32] B ([]++l.map c7) (fun y hy=>by
  simp only [List.nil_append,eO] at hy
  obtain ⟨x,hx,rfl⟩:=hy
  exact h x hx)
 simpa using this
theorem nC (B:Nat) (hB:B≤100000000):∀ (l:List (Sem zi)) (i:Int) (acc:List zn),(∀ x∈l,fN x=true∧(c7 x).length≤B)→(∀ x∈acc,x.length≤B)→acc.length+l.length≤40→cw l i acc=true
 | [],i,acc,_,ha,hl=>by
  rw [cw]
  refine gi ?_ rfl
  have h1:=eU [32,44,32] B acc ha
  have h2:acc.length * (B+3)≤40 * 100000003:=ja (by simpa using hl) (by omega)
  replace h1:(Lib.join acc [32,44,32]).length≤acc.length * (B+3):=h1
  simp only [aC,ae]
  simp at hl
  exact ⟨by omega,by omega⟩
 | x::r,i,acc,h,ha,hl=>by
  rw [cw]
  have hx:=h x (by simp)
  simp at hl
  refine gi hx.1 (gi (ac ?_) ?_)
  ·simp; omega
  ·refine nC B hB r (i+1) _ (fun y hy=>h y (kF _ hy)) (fun y hy=>?_) (by simp; omega)
   rcases bg.1 hy with hy | hy
   ·exact ha y hy
   ·simp at hy; subst hy; exact hx.2

theorem qw:∀ (l:List (Sem Sh.str)) (i:Int) (acc:List zn),cm l i acc=Lib.join (acc++l.map kr) [32,44,32]
 | [],i,acc=>by simp [cm]
 | x::r,i,acc=>by rw [cm,qw r]; simp
theorem yu (B:Nat) (l:List (Sem Sh.str)) (h:∀ x∈l,(kr x).length≤B):(jw l).length≤l.length * (B+3):=by
 unfold jw
 rw [qw]
 have:=eU [32,44,32] B ([]++l.map kr) (fun y hy=>by
  simp only [List.nil_append,eO] at hy
  obtain ⟨x,hx,rfl⟩:=hy
  exact h x hx)
 simpa using this
theorem oB (B:Nat) (hB:B≤100000000):∀ (l:List (Sem Sh.str)) (i:Int) (acc:List zn),(∀ x∈l,(kr x).length≤B)→(∀ x∈acc,x.length≤B)→acc.length+l.length≤40→cB l i acc=true
 | [],i,acc,_,ha,hl=>by
  rw [cB]
  refine gi ?_ rfl
  have h1:=eU [32,44,32] B acc ha
  have h2:acc.length * (B+3)≤40 * 100000003:=ja (by simpa using hl) (by omega)
  replace h1:(Lib.join acc [32,44,32]).length≤acc.length * (B+3):=h1
  simp only [aC,ae]
  simp at hl
  exact ⟨by omega,by omega⟩
 | x::r,i,acc,h,ha,hl=>by
  rw [cB]
  have hx:=h x (by simp)
  simp at hl
  refine gi (ac ?_) ?_
  ·simp; omega
  ·refine oB B hB r (i+1) _ (fun y hy=>h y (kF _ hy)) (fun y hy=>?_) (by simp; omega)
   rcases bg.1 hy with hy | hy
   ·exact ha y hy
   ·simp at hy; subst hy; exact hx

theorem qB:∀ (l:List (Sem zf)) (i:Int) (acc:List zn),cn l i acc=Lib.join (acc++l.map gy) [32,44,32]
 | [],i,acc=>by simp [cn]
 | x::r,i,acc=>by rw [cn,qB r]; simp
theorem yE (B:Nat) (l:List (Sem zf)) (h:∀ x∈l,(gy x).length≤B):(jz l).length≤l.length * (B+3):=by
 unfold jz
 rw [qB]
 have:=eU [32,44,32] B ([]++l.map gy) (fun y hy=>by
  simp only [List.nil_append,eO] at hy
  obtain ⟨x,hx,rfl⟩:=hy
  exact h x hx)
 simpa using this
theorem oJ (B:Nat) (hB:B≤100000000):∀ (l:List (Sem zf)) (i:Int) (acc:List zn),(∀ x∈l,j5 x=true∧(gy x).length≤B)→(∀ x∈acc,x.length≤B)→acc.length+l.length≤40→cD l i acc=true
 | [],i,acc,_,ha,hl=>by
  rw [cD]
  refine gi ?_ rfl
  have h1:=eU [32,44,32] B acc ha
  have h2:acc.length * (B+3)≤40 * 100000003:=ja (by simpa using hl) (by omega)
  replace h1:(Lib.join acc [32,44,32]).length≤acc.length * (B+3):=h1
  simp only [aC,ae]
  simp at hl
  exact ⟨by omega,by omega⟩
 | x::r,i,acc,h,ha,hl=>by
  rw [cD]
  have hx:=h x (by simp)
  simp at hl
  refine gi hx.1 (gi (ac ?_) ?_)
  ·simp; omega
  ·refine oJ B hB r (i+1) _ (fun y hy=>h y (kF _ hy)) (fun y hy=>?_) (by simp; omega)
   rcases bg.1 hy with hy | hy
   ·exact ha y hy
   ·simp at hy; subst hy; exact hx.2

theorem qv:∀ (l:List (Sem aF)) (i:Int) (acc:List zn),ck l i acc=Lib.join (acc++l.map dt) [32,44,32]
 | [],i,acc=>by simp [ck]
 | x::r,i,acc=>by rw [ck,qv r]; simp
theorem yp (B:Nat) (l:List (Sem aF)) (h:∀ x∈l,(dt x).length≤B):(jt l).length≤l.length * (B+3):=by
 unfold jt
 rw [qv]
 have:=eU [32,44,32] B ([]++l.map dt) (fun y hy=>by
  simp only [List.nil_append,eO] at hy
  obtain ⟨x,hx,rfl⟩:=hy
  exact h x hx)
 simpa using this
theorem oz (B:Nat) (hB:B≤100000000):∀ (l:List (Sem aF)) (i:Int) (acc:List zn),(∀ x∈l,ig x=true∧(dt x).length≤B)→(∀ x∈acc,x.length≤B)→acc.length+l.length≤40→cA l i acc=true
 | [],i,acc,_,ha,hl=>by
  rw [cA]
  refine gi ?_ rfl
  have h1:=eU [32,44,32] B acc ha
  have h2:acc.length * (B+3)≤40 * 100000003:=ja (by simpa using hl) (by omega)
  replace h1:(Lib.join acc [32,44,32]).length≤acc.length * (B+3):=h1
  simp only [aC,ae]
  simp at hl
  exact ⟨by omega,by omega⟩
 | x::r,i,acc,h,ha,hl=>by
  rw [cA]
  have hx:=h x (by simp)
  simp at hl
  refine gi hx.1 (gi (ac ?_) ?_)
  ·simp; omega
  ·refine oz B hB r (i+1) _ (fun y hy=>h y (kF _ hy)) (fun y hy=>?_) (by simp; omega)
   rcases bg.1 hy with hy | hy
   ·exact ha y hy
   ·simp at hy; subst hy; exact hx.2

theorem bB {s:Sem zq} {g b:Bool} (hv:(dW s).val=if g=true then some (.inr (.bool b,[])) else none):iF s=g∧ez s=(g&&b):=by
 unfold iF ez rb aq cM
 rw [hv]
 cases g <;> cases b <;> exact ⟨rfl,rfl⟩
theorem qq {s:Sem zq} (hv:(dW s).val=some (.inr (.kb false,[]))):iF s=true∧ez s=false:=by
 unfold iF ez rb aq cM
 rw [hv]
 exact ⟨rfl,rfl⟩

theorem Mj {s:Sem zq} (h:ez s=true):(s.1=[99,114,101,97,116,101]∧gD s=true)∨(s.1=[103,114,111,117,112]∧s.2.2.2.1.length=2)∨
  (s.1∈([[100,114,111,112],[105,110,115,101,114,116],[117,112,100,97,116,101],[100,101,108,101,116,101],[115,101,108,101,99,116],[114,101,97,100],[119,114,105,116,101],[117,110,114,101,97,100],[117,110,119,114,105,116,101],[99,111,112,121],[106,111,105,110]]:List zn)):=by
 by_cases q0:(s.1==[99,114,101,97,116,101])=true
 ·refine .inl ⟨fL q0,?_⟩
  obtain ⟨_,hp⟩:=bB (s:=s) (g:=_) (b:=_) (by simp only [dW,dm,Tr.val,q0,if_true,zt]; exact rfl)
  rw [hp] at h
  cases h2:gD s
  ·rw [h2] at h
   cases h1:bF s.2.1 <;> rw [h1] at h <;> simp at h
  ·rfl
 by_cases q1:(s.1==[100,114,111,112])=true
 ·exact .inr (.inr (by rw [fL q1]; simp))
 by_cases q2:(s.1==[105,110,115,101,114,116])=true
 ·exact .inr (.inr (by rw [fL q2]; simp))
 by_cases q3:(s.1==[117,112,100,97,116,101])=true
 ·exact .inr (.inr (by rw [fL q3]; simp))
 by_cases q4:(s.1==[100,101,108,101,116,101])=true
 ·exact .inr (.inr (by rw [fL q4]; simp))
 by_cases q5:(s.1==[115,101,108,101,99,116])=true
 ·exact .inr (.inr (by rw [fL q5]; simp))
 by_cases q6:(s.1==[114,101,97,100])=true
 ·exact .inr (.inr (by rw [fL q6]; simp))
 by_cases q7:(s.1==[119,114,105,116,101])=true
 ·exact .inr (.inr (by rw [fL q7]; simp))
 by_cases q8:(s.1==[117,110,114,101,97,100])=true
 ·exact .inr (.inr (by rw [fL q8]; simp))
 by_cases q9:(s.1==[117,110,119,114,105,116,101])=true
 ·exact .inr (.inr (by rw [fL q9]; simp))
 by_cases q10:(s.1==[99,111,112,121])=true
 ·exact .inr (.inr (by rw [fL q10]; simp))
 by_cases q11:(s.1==[106,111,105,110])=true
 ·exact .inr (.inr (by rw [fL q11]; simp))
 by_cases q12:(s.1==[103,114,111,117,112])=true
 ·refine .inr (.inl ⟨fL q12,?_⟩)
  obtain ⟨_,hp⟩:=bB (s:=s) (g:=_) (b:=_) (by simp only [dW,dm,Tr.val,q0,q1,q2,q3,q4,q5,q6,q7,q8,q9,q10,q11,q12,if_true,if_false,aI,zt]; exact rfl)
  rw [hp] at h
  by_cases hl:s.2.2.2.1.length=2
  ·exact hl
  ·exfalso
   have hd:(bif decide ((s.2.2.2.1.length:Int) < 2) then true else decide ((s.2.2.2.1.length:Int) > 2))=true:=by
    rcases Nat.lt_or_gt_of_ne hl with h2 | h2
    ·have:decide ((s.2.2.2.1.length:Int) < 2)=true:=dc (by omega)
     rw [this]; rfl
    ·have:decide ((s.2.2.2.1.length:Int) > 2)=true:=dc (by omega)
     rw [this]; cases decide ((s.2.2.2.1.length:Int) < 2) <;> rfl
   rw [hd] at h
   cases h1:bF s.2.1 <;> cases h2:bF s.2.2.1 <;> rw [h1,h2] at h <;> simp at h
 obtain ⟨_,hp⟩:=qq (s:=s) (by simp only [dW,dm,Tr.val,q0,q1,q2,q3,q4,q5,q6,q7,q8,q9,q10,q11,q12,if_false,aI])
 rw [hp] at h
 cases h


theorem jd {a0:Sem Sh.str} {a1:Sem Sh.str} {a2:Sem Sh.str} {a3:List (Sem Sh.str)} {a4:List (Sem zi)} {a5:Sem Sh.str} {a6:List (Sem Sh.str)} {a7:List (Sem (Sh.str.pr Sh.str))} {a8:zn} {a9:Int} {a10:Int} {a11:zn} {a12:zn} {a13:List (Sem Sh.expr)} {a14:List (Sem zf)} {a15:List (Sem (Sh.str.pr Sh.expr))} {a16:zn} {a17:Int} {a18:Int} {a19:zn} {a20:zn} {a21:List (Sem Sh.expr)} {a22:Sem Sh.str}:∀ (l:List (Sem (Sh.str.pr Sh.str))) (i:Int) (s:zn),(∀ x∈l,length x.1≤1000∧length x.2≤1000)→s.length+l.length * 3000≤1000000→
  cx a0 a1 a2 a3 a4 a5 a6 a7 a8 a9 a10 a11 a12 a13 a14 a15 a16 a17 a18 a19 a20 a21 a22 l i s=true∧(cg a0 a1 a2 a3 a4 a5 a6 a7 a8 a9 a10 a11 a12 a13 a14 a15 a16 a17 a18 a19 a20 a21 a22 l i s).length≤40000000
 | [],i,s,_,hs=>by
  rw [cx,cg]
  have h1:=rR [32,44,32] (by simp) (ze.mk a8 (a9,a10,a11) a12 a13)
  simp at hs
  refine ⟨gi (gB _ (by simp) _) (gi (ac ?_) (gi (ac ?_) rfl)),?_⟩
  all_goals first | omega | (simp; omega)
 | x::r,i,s,h,hs=>by
  have hx:=h x (by simp)
  simp at hs
  rw [cx,cg]
  obtain ⟨k1,k2⟩:=jd (a0:=a0) (a1:=a1) (a2:=a2) (a3:=a3) (a4:=a4) (a5:=a5) (a6:=a6) (a7:=a7) (a8:=a8) (a9:=a9) (a10:=a10) (a11:=a11) (a12:=a12) (a13:=a13) (a14:=a14) (a15:=a15) (a16:=a16) (a17:=a17) (a18:=a18) (a19:=a19) (a20:=a20) (a21:=a21) (a22:=a22) r (i+1) (s++([32,44,32,82,69,70,69,82,69,78,67,69,83,32,40,32]++x.1++[32,41,32]++x.2)) (fun y hy=>h y (kF _ hy)) (by simp; omega)
  refine ⟨gi (ac ?_) (gi (ac ?_) (gi (ac ?_) (gi (ac ?_) k1))),k2⟩
  all_goals (simp; omega)

theorem kg {a0:Sem Sh.str} {a1:Sem Sh.str} {a2:Sem Sh.str} {a3:List (Sem Sh.str)} {a4:List (Sem zi)} {a5:Sem Sh.str} {a6:List (Sem Sh.str)} {a7:List (Sem (Sh.str.pr Sh.str))} {a8:zn} {a9:Int} {a10:Int} {a11:zn} {a12:zn} {a13:List (Sem Sh.expr)} {a14:List (Sem zf)} {a15:List (Sem (Sh.str.pr Sh.expr))} {a16:zn} {a17:Int} {a18:Int} {a19:zn} {a20:zn} {a21:List (Sem Sh.expr)} {a22:Sem Sh.str} (h7:a7.length≤20∧∀ x∈a7,length x.1≤1000∧length x.2≤1000):∀ (l:List (Sem Sh.str)) (i:Int) (s:zn),(∀ x∈l,length x≤1000)→s.length+l.length * 3000≤900000→
  c8 a0 a1 a2 a3 a4 a5 a6 a7 a8 a9 a10 a11 a12 a13 a14 a15 a16 a17 a18 a19 a20 a21 a22 l i s=true∧(cT a0 a1 a2 a3 a4 a5 a6 a7 a8 a9 a10 a11 a12 a13 a14 a15 a16 a17 a18 a19 a20 a21 a22 l i s).length≤40000000
 | [],i,s,_,hs=>by
  rw [c8,cT]
  simp at hs
  exact jd a7 0 s h7.2 (by have:=h7.1; omega)
 | x::r,i,s,h,hs=>by
  have hx:=h x (by simp)
  simp at hs
  rw [c8,cT]
  obtain ⟨k1,k2⟩:=kg (a0:=a0) (a1:=a1) (a2:=a2) (a3:=a3) (a4:=a4) (a5:=a5) (a6:=a6) (a7:=a7) (a8:=a8) (a9:=a9) (a10:=a10) (a11:=a11) (a12:=a12) (a13:=a13) (a14:=a14) (a15:=a15) (a16:=a16) (a17:=a17) (a18:=a18) (a19:=a19) (a20:=a20) (a21:=a21) (a22:=a22) h7 r (i+1) (s++([32,44,32,85,78,73,81,85,69,32,40,32]++x++[32,41])) (fun y hy=>h y (kF _ hy)) (by simp; omega)
  refine ⟨gi (ac ?_) (gi (ac ?_) (gi (ac ?_) k1)),k2⟩
  all_goals (simp; omega)

theorem xe {s:Sem zq} (h:gD s=true):∀ x∈s.2.2.2.2.1,iv x=true:=by
 intro x hx
 have hq:(!decide (zQ (fun x => !iv x) s.2.2.2.2.1 0 ≥ 0))=true:=by
  unfold gD at h
  cases h1:(bif decide ((↑(length s.2.2.2.2.1):Int) < 1) then true else decide ((↑(length s.2.2.2.2.1):Int) > 8))
  ·rw [h1] at h
   cases h2:(!decide (zQ (fun x => !iv x) s.2.2.2.2.1 0 ≥ 0))
   ·rw [h2] at h; cases h
   ·rfl
  ·rw [h1] at h; cases h
 have:=qf (fun x => !iv x) _ 0 hq x hx
 simpa using this

theorem rS {x:Sem zi} (h:iv x=true):LE.le (α:=Int) 1 x.2.1∧LE.le (α:=Int) x.2.1 3:=by
 unfold iv at h
 cases h1:bF x.1
 ·rw [h1] at h; cases h
 ·rw [h1] at h
  cases h2:decide (x.2.1 ≥ 1)
  ·rw [h2] at h; cases h
  ·rw [h2] at h
   have h3:decide (x.2.1≤3)=true:=h
   exact ⟨g6 h2,g6 h3⟩

theorem uI {s:Sem zq} (hs:eu s) (hc:gD s=true):kJ s=true∧(lz s).length≤40000000:=by
 have hcol:=xe hc
 have c1:∀ x∈s.2.2.2.2.1,fN x=true∧(c7 x).length≤1100:=fun x hx=>⟨uH x (hs.cols.2 x hx) (rS (hcol x hx)).1 (rS (hcol x hx)).2,y6 x (hs.cols.2 x hx)⟩
 have c2:gR s.2.2.2.2.1=true:=nC 1100 (by omega) _ 0 [] c1 (by simp) (by have:=hs.cols.1; simp; omega)
 have c3:=w9 1100 s.2.2.2.2.1 (fun x hx=>(c1 x hx).2)
 have c4:s.2.2.2.2.1.length * (1100+3)≤20 * 1103:=ja hs.cols.1 (by omega)
 have t1:=hs.table
 have t2:=hs.key
 have u1:=hs.uniques.1
 unfold kJ lz
 obtain ⟨k1,k2⟩:=kg (a0:=s.1) (a1:=s.2.1) (a2:=s.2.2.1) (a3:=s.2.2.2.1) (a4:=s.2.2.2.2.1) (a5:=s.2.2.2.2.2.1) (a6:=s.2.2.2.2.2.2.1) (a8:=s.2.2.2.2.2.2.2.2.1.op) (a9:=s.2.2.2.2.2.2.2.2.1.v.1) (a10:=s.2.2.2.2.2.2.2.2.1.v.2.1) (a11:=s.2.2.2.2.2.2.2.2.1.v.2.2) (a12:=s.2.2.2.2.2.2.2.2.1.s) (a13:=s.2.2.2.2.2.2.2.2.1.l) (a14:=s.2.2.2.2.2.2.2.2.2.1) (a15:=s.2.2.2.2.2.2.2.2.2.2.1) (a16:=s.2.2.2.2.2.2.2.2.2.2.2.1.op) (a17:=s.2.2.2.2.2.2.2.2.2.2.2.1.v.1) (a18:=s.2.2.2.2.2.2.2.2.2.2.2.1.v.2.1) (a19:=s.2.2.2.2.2.2.2.2.2.2.2.1.v.2.2) (a20:=s.2.2.2.2.2.2.2.2.2.2.2.1.s) (a21:=s.2.2.2.2.2.2.2.2.2.2.2.1.l) (a22:=s.2.2.2.2.2.2.2.2.2.2.2.2)
  hs.refs s.2.2.2.2.2.2.1 0 ([67,82,69,65,84,69,32,84,65,66,76,69,32]++s.2.1++[32,40,32]++cS s.2.2.2.2.1++([32,44,32,75,69,89,32,40,32]++s.2.2.2.2.2.1++[32,41])) hs.uniques.2 (by
   have:s.2.2.2.2.2.2.1.length * 3000≤20 * 3000:=ja u1 (by omega)
   simp; omega)
 refine ⟨gi (ac ?_) (gi (ac ?_) (gi c2 (gi (ac ?_) (gi (ac ?_) (gi (ac ?_) (gi (ac ?_) k1)))))),k2⟩
 all_goals (simp; omega)

theorem gx {α β:Type} {c:Bool} {a:Option α} {F:β→Option α} {P:β→Prop} (h:c=true) (k:∃ t,a=F t∧P t):∃ t,(if c=true then a else none)=F t∧P t:=by
 subst h; exact k
theorem uf {s:Sem zq} (h:∃ t,(kl s).val=some (.inr (.str t,[]))∧t.length≤1000000000):pI s=true∧(eH s).length≤1000000000:=by
 obtain ⟨t,h,k⟩:=h
 unfold pI eH ym aq cM
 rw [h]
 exact ⟨rfl,k⟩

theorem qr {s:Sem zq} (hs:eu s) (hp:ez s=true):pI s=true∧(eH s).length≤1000000000:=by
 have t1:=hs.table
 have t2:=hs.other
 have t3:=hs.key
 have t4:=hs.role
 have t5:=hs.op
 have tu:=bX s.1
 have w1:=pM s.2.2.2.2.2.2.2.2.2.2.2.1
 have w2:=rR [32] (by simp) s.2.2.2.2.2.2.2.2.1
 have v1:jA s.2.2.2.2.2.2.2.2.2.1=true:=oJ 300 (by omega) _ 0 [] (fun x _=>⟨qA x,pK x⟩) (by simp) (by have:=hs.row; simp; omega)
 have v2:=yE 300 s.2.2.2.2.2.2.2.2.2.1 (fun x _=>pK x)
 have v3:s.2.2.2.2.2.2.2.2.2.1.length * (300+3)≤20 * 303:=ja hs.row (by omega)
 have e1:ju s.2.2.2.2.2.2.2.2.2.2.1=true:=oz 30001010 (by omega) _ 0 [] (fun x hx=>⟨uV x (hs.sets.2 x hx),qu x (hs.sets.2 x hx)⟩) (by simp) (by have:=hs.sets.1; simp; omega)
 have e2:=yp 30001010 s.2.2.2.2.2.2.2.2.2.2.1 (fun x hx=>qu x (hs.sets.2 x hx))
 have e3:s.2.2.2.2.2.2.2.2.2.2.1.length * (30001010+3)≤20 * 30001013:=ja hs.sets.1 (by omega)
 have n1:jx s.2.2.2.1=true:=oB 1000 (by omega) _ 0 [] (fun x hx=>hs.names.2 x hx) (by simp) (by have:=hs.names.1; simp; omega)
 have n2:=yu 1000 s.2.2.2.1 (fun x hx=>hs.names.2 x hx)
 have n3:s.2.2.2.1.length * (1000+3)≤20 * 1003:=ja hs.names.1 (by omega)
 have go:∀ op:zn,s.1=op→(∀ z:Bool,z=true→z=true):=fun _ _ _ h=>h
 clear go
 rcases Mj hp with ⟨hop,hc⟩ | ⟨hop,hl2⟩ | hop
 ·have hup:(decide (length s.1≤140737488355328)&&List.all s.1 fun b=>decide (b.toNat < 128))=true:=by rw [hop]; decide
  have q0:(s.1==[99,114,101,97,116,101])=true:=by rw [hop]; rfl
  have q1:(s.1==[100,114,111,112])=false:=by rw [hop]; rfl
  have q2:(s.1==[105,110,115,101,114,116])=false:=by rw [hop]; rfl
  have q3:(s.1==[117,112,100,97,116,101])=false:=by rw [hop]; rfl
  have q4:(s.1==[100,101,108,101,116,101])=false:=by rw [hop]; rfl
  have q5:(s.1==[115,101,108,101,99,116])=false:=by rw [hop]; rfl
  have q6:(s.1==[114,101,97,100])=false:=by rw [hop]; rfl
  have q7:(s.1==[119,114,105,116,101])=false:=by rw [hop]; rfl
  have q8:(s.1==[117,110,114,101,97,100])=false:=by rw [hop]; rfl
  have q9:(s.1==[117,110,119,114,105,116,101])=false:=by rw [hop]; rfl
  have q10:(s.1==[99,111,112,121])=false:=by rw [hop]; rfl
  have q11:(s.1==[106,111,105,110])=false:=by rw [hop]; rfl
  have q12:(s.1==[103,114,111,117,112])=false:=by rw [hop]; rfl
  have kc:=uI hs hc
  refine uf ?_
  simp only [kl,pl,Tr.val,q0,q1,q2,q3,q4,q5,q6,q7,q8,q9,q10,q11,if_true,aI,if_false,zt]
  repeat' (with_reducible refine gx ?_ ?_)
  all_goals first
   | (refine ⟨_,rfl,?_⟩; exact g7 kc.2 (by omega))
   | rfl
   | exact hup
   | exact v1
   | exact e1
   | exact n1
   | exact f5 _
   | exact gB _ (by simp) _
   | exact kc.1
   | (refine ac ?_; simp; omega)
   | (rw [hop]; decide)
   | (refine ac ?_; rw [hop]; simp [bX]; omega)
 ·have hup:(decide (length s.1≤140737488355328)&&List.all s.1 fun b=>decide (b.toNat < 128))=true:=by rw [hop]; decide
  have q0:(s.1==[99,114,101,97,116,101])=false:=by rw [hop]; rfl
  have q1:(s.1==[100,114,111,112])=false:=by rw [hop]; rfl
  have q2:(s.1==[105,110,115,101,114,116])=false:=by rw [hop]; rfl
  have q3:(s.1==[117,112,100,97,116,101])=false:=by rw [hop]; rfl
  have q4:(s.1==[100,101,108,101,116,101])=false:=by rw [hop]; rfl
  have q5:(s.1==[115,101,108,101,99,116])=false:=by rw [hop]; rfl
  have q6:(s.1==[114,101,97,100])=false:=by rw [hop]; rfl
  have q7:(s.1==[119,114,105,116,101])=false:=by rw [hop]; rfl
  have q8:(s.1==[117,110,114,101,97,100])=false:=by rw [hop]; rfl
  have q9:(s.1==[117,110,119,114,105,116,101])=false:=by rw [hop]; rfl
  have q10:(s.1==[99,111,112,121])=false:=by rw [hop]; rfl
  have q11:(s.1==[106,111,105,110])=false:=by rw [hop]; rfl
  have q12:(s.1==[103,114,111,117,112])=true:=by rw [hop]; rfl
  have g0:length (getD s.2.2.2.1 (toNat 0) (zj Sh.str))≤1000:=by
   rw [aJ,zJ (show (0:Int).toNat < s.2.2.2.1.length by rw [hl2]; decide)]
   exact hs.names.2 _ (cI _)
  have g1:length (getD s.2.2.2.1 (toNat 1) (zj Sh.str))≤1000:=by
   rw [aJ,zJ (show (1:Int).toNat < s.2.2.2.1.length by rw [hl2]; decide)]
   exact hs.names.2 _ (cI _)
  refine uf ?_
  simp only [kl,pl,Tr.val,q0,q1,q2,q3,q4,q5,q6,q7,q8,q9,q10,q11,aI,if_false,zt]
  repeat' (with_reducible refine gx ?_ ?_)
  all_goals first
   | (refine ⟨_,rfl,?_⟩; first | (simp at g0 g1 ⊢; omega) | (rw [hop]; simp [bX]; omega))
   | rfl
   | exact hup
   | exact v1
   | exact e1
   | exact n1
   | exact f5 _
   | exact gB _ (by simp) _
   | (simp [zH,hl2]; done)
   | (refine ac ?_; simp at g0 g1 ⊢; omega)
   | (rw [hop]; decide)
   | (refine ac ?_; rw [hop]; simp [bX]; omega)
 ·simp only [eE,List.not_mem_nil,or_false] at hop
  rcases hop with hop | hop | hop | hop | hop | hop | hop | hop | hop | hop | hop
  all_goals
   have hup:(decide (length s.1≤140737488355328)&&List.all s.1 fun b=>decide (b.toNat < 128))=true:=by rw [hop]; decide
   have q0:(s.1==[99,114,101,97,116,101])=false:=by rw [hop]; rfl
   first | (have q1:(s.1==[100,114,111,112])=false:=by rw [hop]; rfl) | (have q1:(s.1==[100,114,111,112])=true:=by rw [hop]; rfl)
   first | (have q2:(s.1==[105,110,115,101,114,116])=false:=by rw [hop]; rfl) | (have q2:(s.1==[105,110,115,101,114,116])=true:=by rw [hop]; rfl)
   first | (have q3:(s.1==[117,112,100,97,116,101])=false:=by rw [hop]; rfl) | (have q3:(s.1==[117,112,100,97,116,101])=true:=by rw [hop]; rfl)
   first | (have q4:(s.1==[100,101,108,101,116,101])=false:=by rw [hop]; rfl) | (have q4:(s.1==[100,101,108,101,116,101])=true:=by rw [hop]; rfl)
   first | (have q5:(s.1==[115,101,108,101,99,116])=false:=by rw [hop]; rfl) | (have q5:(s.1==[115,101,108,101,99,116])=true:=by rw [hop]; rfl)
   first | (have q6:(s.1==[114,101,97,100])=false:=by rw [hop]; rfl) | (have q6:(s.1==[114,101,97,100])=true:=by rw [hop]; rfl)
   first | (have q7:(s.1==[119,114,105,116,101])=false:=by rw [hop]; rfl) | (have q7:(s.1==[119,114,105,116,101])=true:=by rw [hop]; rfl)
   first | (have q8:(s.1==[117,110,114,101,97,100])=false:=by rw [hop]; rfl) | (have q8:(s.1==[117,110,114,101,97,100])=true:=by rw [hop]; rfl)
   first | (have q9:(s.1==[117,110,119,114,105,116,101])=false:=by rw [hop]; rfl) | (have q9:(s.1==[117,110,119,114,105,116,101])=true:=by rw [hop]; rfl)
   first | (have q10:(s.1==[99,111,112,121])=false:=by rw [hop]; rfl) | (have q10:(s.1==[99,111,112,121])=true:=by rw [hop]; rfl)
   first | (have q11:(s.1==[106,111,105,110])=false:=by rw [hop]; rfl) | (have q11:(s.1==[106,111,105,110])=true:=by rw [hop]; rfl)
   have q12:(s.1==[103,114,111,117,112])=false:=by rw [hop]; rfl
   refine uf ?_
   simp only [kl,pl,Tr.val,q0,q1,q2,q3,q4,q5,q6,q7,q8,q9,q10,q11,if_true,aI,if_false,zt]
   repeat' (with_reducible refine gx ?_ ?_)
   all_goals first
    | (refine ⟨_,rfl,?_⟩; first | (simp; omega) | (rw [hop]; simp [bX]; omega))
    | rfl
    | exact hup
    | exact v1
    | exact e1
    | exact n1
    | exact f5 _
    | exact gB _ (by simp) _
    | (refine ac ?_; simp; omega)
    | (rw [hop]; decide)
    | (refine ac ?_; rw [hop]; simp [bX]; omega)
theorem aW {x:Sem zq} (h1:x.2.1.length≤1000) (h2:x.2.2.1.length≤1000) (h3:x.2.2.2.2.2.1.length≤1000) (h4:x.2.2.2.2.2.2.2.2.2.2.2.2.length≤1000):cN x=true:=by
 unfold cN
 refine gi (ac ?_) (gi (ac ?_) (gi (ac ?_) rfl))
 all_goals first | omega | (simp; omega)

theorem cR {c g:Bool} (h:g=true):(bif c then g else true)=true:=by cases c <;> simp [h]

theorem yl {s:Sem zq} (hs:eu s):iF s=true:=by
 have t1:=hs.table
 have t2:=hs.other
 have t3:=hs.key
 have t4:=hs.role
 by_cases q0:(s.1==[99,114,101,97,116,101])=true
 ·obtain ⟨hc,_⟩:=bB (s:=s) (g:=_) (b:=_) (by simp only [dW,dm,Tr.val,q0,if_true,zt]; exact rfl)
  rw [hc]
  exact cR (aW (by simp) (by first | exact t2 | simp) (by first | exact t3 | simp) (by first | exact t4 | simp))
 by_cases q1:(s.1==[100,114,111,112])=true
 ·obtain ⟨hc,_⟩:=bB (s:=s) (g:=_) (b:=_) (by simp only [dW,dm,Tr.val,q0,q1,if_true,if_false,aI,zt]; exact rfl)
  rw [hc]
  exact cR (aW (by simp) (by first | exact t2 | simp) (by first | exact t3 | simp) (by first | exact t4 | simp))
 by_cases q2:(s.1==[105,110,115,101,114,116])=true
 ·obtain ⟨hc,_⟩:=bB (s:=s) (g:=_) (b:=_) (by simp only [dW,dm,Tr.val,q0,q1,q2,if_true,if_false,aI,zt]; exact rfl)
  rw [hc]
  exact cR (aW (by simp) (by first | exact t2 | simp) (by first | exact t3 | simp) (by first | exact t4 | simp))
 by_cases q3:(s.1==[117,112,100,97,116,101])=true
 ·obtain ⟨hc,_⟩:=bB (s:=s) (g:=_) (b:=_) (by simp only [dW,dm,Tr.val,q0,q1,q2,q3,if_true,if_false,aI,zt]; exact rfl)
  rw [hc]
  exact cR (aW (by simp) (by first | exact t2 | simp) (by first | exact t3 | simp) (by first | exact t4 | simp))
 by_cases q4:(s.1==[100,101,108,101,116,101])=true
 ·obtain ⟨hc,_⟩:=bB (s:=s) (g:=_) (b:=_) (by simp only [dW,dm,Tr.val,q0,q1,q2,q3,q4,if_true,if_false,aI,zt]; exact rfl)
  rw [hc]
  exact cR (aW (by simp) (by first | exact t2 | simp) (by first | exact t3 | simp) (by first | exact t4 | simp))
 by_cases q5:(s.1==[115,101,108,101,99,116])=true
 ·obtain ⟨hc,_⟩:=bB (s:=s) (g:=_) (b:=_) (by simp only [dW,dm,Tr.val,q0,q1,q2,q3,q4,q5,if_true,if_false,aI,zt]; exact rfl)
  rw [hc]
  exact cR (aW (by simp) (by first | exact t2 | simp) (by first | exact t3 | simp) (by first | exact t4 | simp))
 by_cases q6:(s.1==[114,101,97,100])=true
 ·obtain ⟨hc,_⟩:=bB (s:=s) (g:=_) (b:=_) (by simp only [dW,dm,Tr.val,q0,q1,q2,q3,q4,q5,q6,if_true,if_false,aI,zt]; exact rfl)
  rw [hc]
  exact cR (aW (by simp) (by first | exact t2 | simp) (by first | exact t3 | simp) (by first | exact t4 | simp))
 by_cases q7:(s.1==[119,114,105,116,101])=true
 ·obtain ⟨hc,_⟩:=bB (s:=s) (g:=_) (b:=_) (by simp only [dW,dm,Tr.val,q0,q1,q2,q3,q4,q5,q6,q7,if_true,if_false,aI,zt]; exact rfl)
  rw [hc]
  exact cR (aW (by simp) (by first | exact t2 | simp) (by first | exact t3 | simp) (by first | exact t4 | simp))
 by_cases q8:(s.1==[117,110,114,101,97,100])=true
 ·obtain ⟨hc,_⟩:=bB (s:=s) (g:=_) (b:=_) (by simp only [dW,dm,Tr.val,q0,q1,q2,q3,q4,q5,q6,q7,q8,if_true,if_false,aI,zt]; exact rfl)
  rw [hc]
  exact cR (aW (by simp) (by first | exact t2 | simp) (by first | exact t3 | simp) (by first | exact t4 | simp))
 by_cases q9:(s.1==[117,110,119,114,105,116,101])=true
 ·obtain ⟨hc,_⟩:=bB (s:=s) (g:=_) (b:=_) (by simp only [dW,dm,Tr.val,q0,q1,q2,q3,q4,q5,q6,q7,q8,q9,if_true,if_false,aI,zt]; exact rfl)
  rw [hc]
  exact cR (aW (by simp) (by first | exact t2 | simp) (by first | exact t3 | simp) (by first | exact t4 | simp))
 by_cases q10:(s.1==[99,111,112,121])=true
 ·obtain ⟨hc,_⟩:=bB (s:=s) (g:=_) (b:=_) (by simp only [dW,dm,Tr.val,q0,q1,q2,q3,q4,q5,q6,q7,q8,q9,q10,if_true,if_false,aI,zt]; exact rfl)
  rw [hc]
  exact cR (aW (by simp) (by first | exact t2 | simp) (by first | exact t3 | simp) (by first | exact t4 | simp))
 by_cases q11:(s.1==[106,111,105,110])=true
 ·obtain ⟨hc,_⟩:=bB (s:=s) (g:=_) (b:=_) (by simp only [dW,dm,Tr.val,q0,q1,q2,q3,q4,q5,q6,q7,q8,q9,q10,q11,if_true,if_false,aI,zt]; exact rfl)
  rw [hc]
  exact cR (aW (by simp) (by first | exact t2 | simp) (by first | exact t3 | simp) (by first | exact t4 | simp))
 by_cases q12:(s.1==[103,114,111,117,112])=true
 ·obtain ⟨hc,_⟩:=bB (s:=s) (g:=_) (b:=_) (by simp only [dW,dm,Tr.val,q0,q1,q2,q3,q4,q5,q6,q7,q8,q9,q10,q11,q12,if_true,if_false,aI,zt]; exact rfl)
  rw [hc]
  exact cR (aW (by simp) (by first | exact t2 | simp) (by first | exact t3 | simp) (by first | exact t4 | simp))
 exact (qq (by simp only [dW,dm,Tr.val,q0,q1,q2,q3,q4,q5,q6,q7,q8,q9,q10,q11,q12,if_false,aI])).1

theorem ll {s:Sem zq} (hs:eu s):nf s=true:=by
 unfold nf
 refine gi ?_ rfl
 unfold oA
 refine gi (yl hs) ?_
 split
 ·rfl
 ·rename_i h
  have hp:ez s=true:=by simpa using h
  obtain ⟨k1,k2⟩:=qr hs hp
  exact gi k1 (gi (Gm _ k2) rfl)

theorem uu:∀ (es:List ((Int×Int×zn)×Int)) (n:Nat) (x:Int),(gr es n x).length=es.length
 | [],_,_=>rfl
 | _::_,0,_=>rfl
 | _::r,n+1,x=>by simp [gr,uu r n x]
theorem JH (es:List ((Int×Int×zn)×Int)) (k:Int×Int×zn):(f4 es k).length≤es.length+1:=by
 unfold f4
 cases eA es k <;> simp
theorem wP:∀ (es:List ((Int×Int×zn)×Int)) (k:Int×Int×zn),(eA es k=true→ip es k < es.length)∧ip es k≤es.length
 | [],k=>⟨fun h=>by simp [eA] at h,bV _⟩
 | p::r,k=>by
  obtain ⟨h1,h2⟩:=wP r k
  constructor
  ·intro h
   rw [ip]
   cases hk:(k==p.1) with
   | true=>simp
   | false=>
    have:eA r k=true:=by simpa [eA,hk] using h
    have:=h1 this
    simp; omega
  ·rw [ip]
   cases (k==p.1) <;> simp <;> omega
theorem Ml (es:List ((Int×Int×zn)×Int)) (k:Int×Int×zn):ip es k < (f4 es k).length:=by
 obtain ⟨h1,h2⟩:=wP es k
 unfold f4
 cases h:eA es k with
 | true=>exact h1 h
 | false=>simp; omega

def BF (c:Int) (n:Nat):Prop:=0≤c∧c < n
theorem xI {c:Int} {n:Nat} (h:BF c n):zH c n=true:=by
 simp [zH,h.1,h.2]
theorem ql {a0 a1 a2 a3 a4 a5 a6 a7 a8 a9 b0}:∀ (l:List (Sem zr)) (i:Int),ff a0 a1 a2 a3 a4 a5 a6 a7 a8 a9 b0 l i=true→BF a2 a1.length∧∀ f∈l,BF f.1 a1.length
 | [],i,h=>by
  rw [ff] at h
  split at h
  ·rename_i h1
   refine ⟨?_,by simp⟩
   unfold BF
   cases h2:decide (a2 ≥ 0) with
   | true=>
    rw [h2] at h1
    simp at h1 h2
    exact ⟨h2,h1⟩
   | false=>rw [h2] at h1; simp at h1
  ·cases h
 | x :: r,i,h=>by
  rw [ff] at h
  split at h
  ·cases h
  ·rename_i h1
   split at h
   ·cases h
   ·obtain ⟨h3,h4⟩:=ql r _ h
    refine ⟨h3,fun f hf=>?_⟩
    rcases eE.1 hf with rfl | hf
    ·unfold BF
     cases h2:decide (f.1 ≥ 0) with
     | true=>
      rw [h2] at h1
      simp at h1 h2
      exact ⟨h2,h1⟩
     | false=>rw [h2] at h1; simp at h1
    ·exact h4 f hf
theorem qk {a0 a1 a2 a3 a4 a5 a6 a7 a8 a9 b0}:∀ (l:List (Sem zg)) (i:Int),fe a0 a1 a2 a3 a4 a5 a6 a7 a8 a9 b0 l i=true→BF a2 a1.length∧(∀ f∈a4,BF f.1 a1.length)∧∀ u∈l,BF u a1.length
 | [],i,h=>by
  rw [fe] at h
  obtain ⟨h1,h2⟩:=ql _ _ h
  exact ⟨h1,h2,by simp⟩
 | x :: r,i,h=>by
  rw [fe] at h
  split at h
  ·cases h
  ·rename_i h1
   obtain ⟨h3,h4,h5⟩:=qk r _ h
   refine ⟨h3,h4,fun f hf=>?_⟩
   rcases eE.1 hf with rfl | hf
   ·unfold BF
    cases h2:decide (f ≥ 0) with
    | true=>
     rw [h2] at h1
     simp at h1 h2
     exact ⟨h2,h1⟩
    | false=>rw [h2] at h1; simp at h1
   ·exact h5 f hf
theorem tn {a0 a1 a2 a3 a4 a5 a6 a7 a8 a9 b0}:∀ (l:List (Sem zi)) (i:Int),ij a0 a1 a2 a3 a4 a5 a6 a7 a8 a9 b0 l i=true→BF a2 a1.length∧(∀ f∈a4,BF f.1 a1.length)∧∀ u∈a3,BF u a1.length
 | [],i,h=>by
  rw [ij] at h
  exact qk _ _ h
 | x::r,i,h=>by
  rw [ij] at h
  split at h
  ·cases h
  ·exact tn r _ h
theorem lM {t:Sem zE} (h:j3 t=true):BF t.2.2.1 t.2.1.length∧(∀ f∈t.2.2.2.2.1,BF f.1 t.2.1.length)∧(∀ u∈t.2.2.2.1,BF u t.2.1.length)∧t.2.1.length≤8∧1≤t.2.1.length:=by
 unfold j3 at h
 split at h
 ·cases h
 ·rename_i h1
  obtain ⟨h2,h3,h4⟩:=tn _ _ h
  refine ⟨h2,h3,h4,?_⟩
  cases hn:gk t.1 with
  | false=>rw [hn] at h1; simp at h1
  | true=>
   rw [hn] at h1
   cases hd:decide ((length t.2.1:Int) < 1) with
   | true=>rw [hd] at h1; simp at h1
   | false=>
    rw [hd] at h1
    simp at h1 hd
    omega
theorem nO {t:Sem zE} {row:List (Sem zf)} (h:(iG t row != 0)≠true):row.length=t.2.1.length:=by
 simp at h
 unfold iG at h
 split at h
 ·cases h
 ·rename_i h1
  cases hm:j3 t with
  | false=>rw [hm] at h1; simp at h1
  | true=>
   rw [hm] at h1
   simp at h1
   omega

structure dX (x:Sem zh):Prop where
 uq:x.1.2.2.2.1.length≤1000
 rf:x.1.2.2.2.2.1.length≤1000
 rw:x.2.length≤1000


theorem y3 (l:List (Sem zh)) (s:zn):aE l s=(-1:Int)∨((0:Int)≤aE l s∧LT.lt (α:=Int) (aE l s) l.length):=by
 have:=jQ (fun x:Sem zh=>x.1.1==s) l 0
 simp at this
 exact this

theorem jl {l:List (Sem zh)} {s:zn} (h:(0:Int)≤aE l s):zH (aE l s) (length l)=true:=by
 rcases y3 l s with h1 | ⟨h1,h2⟩
 ·rw [h1] at h; omega
 ·simp only [zH,aC,ae]; exact ⟨h1,h2⟩

end Cad
