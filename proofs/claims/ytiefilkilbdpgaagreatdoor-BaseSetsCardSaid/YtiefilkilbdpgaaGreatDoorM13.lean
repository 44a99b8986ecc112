/- Functions with memory of their own, by their trees. Copies: slices.Clone, copied. Bases: an answer that is an error alone. Bases: bases that are kept, rows that a condition meets. Bases: copies; where a table is put. Bases: the place of a table by its name. Bases: slices.Insert at the end. Bases: a table is put into a base. Bases: the keys that are met. Bases: rows taken out by their keys: the first. Bases: the first row that is taken out by its key. Bases: the first row that is taken out by its key: the contract. Bases: rows taken out by their keys: slices.DeleteFunc. Bases: the rows that stay when rows are taken out by their keys. Bases: slices.DeleteFunc over rows: the contract. Bases: remove, choose. Texts of values and expressions, and tokens: nothing panics. Tokens: nothing panics. Statements' texts: nothing panics. stmt.May: nothing panics. What is asked of tables with rows, and of bases, holds. What is asked of tables with rows, and of bases, holds. What is asked of bases holds. -/
import Derived.Test.YtiefilkilbdpgaaGreatDoorM12
namespace Cad
open Go
open Int (toNat)
open List (getD)
open List (length)

theorem gy {P:Program} {gl:Nat→AV} {σ ι:Type} {E:bf} {k:FuncId} {f:Func} {kinds:List (Option Sh)} {G:cy kinds} {keep:Nat→zX} {gas n n0:Nat} {e:σ→Nat×St} {t:σ→Tr (σ ⊕ zV)} {args:ι→List AV} {heap:ι→List AO} {i:ι→Tr (σ ⊕ zV)}
  (hE:zm E) (hf:zA E.P k f kinds.length) (hn:∀ x,(heap x).length=n0)
  (hgo:∀ x,run E n0 keep f.results.toList gas (au f) (z7 f.ntmps (args x) (heap x))=(i x).map (lf f e))
  (hon:∀ s,run E n0 keep f.results.toList gas (zx f (e s).1) (e s).2=(t s).map (lf f e))
  (hG:∀ a h res,(G a h).val=some res→∃ x,f6 kinds a=args x∧h=heap x∧cd t n (i x)=some res) (qp:E.P=P:=by rfl) (qg:E.gl=gl:=by rfl):lF P gl k (zR kinds G):=by
 subst qp qg
 refine bq hf fun x h0 res hx C hC=>?_
 obtain ⟨y,e1,e2,e3⟩:=hG x h0 res hx
 subst e2
 rw [e1]
 exact kh (n0:=n0) (Q:=fun r h=>(r,h)=res) hE hf (fun id h=>hC id (by rw [hn]; exact h)) (n+1) _ _ _ (by rw [ja hon (hgo y)]; exact e3) rfl
open Go Go.Proofs
set_option maxHeartbeats 4000000

noncomputable abbrev rU (l:List (Sem zg)):Tr zr:=run fI 0 xW (Func.results Tryz.f198).toList 300 (au Tryz.f198) (z7 (Func.ntmps Tryz.f198) [.sl zg l] [])
theorem Ih:zA fI.P 198 Tryz.f198 1:=aJ (by kernel_rfl)
theorem zdS (l:List (Sem zg)):rU l=.ok (.fork l.isEmpty (ar (rU l)).1 (ar (rU l)).2.1 (ar (rU l)).2.2):=by kernel_rfl
theorem Y3 (l:List (Sem zg)):run fI 0 xW (Func.results Tryz.f198).toList 300 (ar (rU l)).1 (ar (rU l)).2.2=.ok (.ret .nils []):=by kernel_rfl
theorem Y4 (l:List (Sem zg)):run fI 0 xW (Func.results Tryz.f198).toList 300 (ar (rU l)).2.1 (ar (rU l)).2.2=.chk (decide (l.length≤1073741824)) (.ok (.ret (.vec 0) [.vec zg l])):=by kernel_rfl
def zcS:cy [some (.sl zg)]:=fun x h=>match h with
 | []=>.chk (decide (length x.1≤1073741824)) (.ok (.vec 0,[.vec zg x.1]))
 | _=>.err
def zbi:zD:=zR [some (.sl zg)] zcS
theorem WO:FK 198 zbi:=by
 refine bq Ih fun x h0 res hx C hC=>?_
 unfold zcS at hx
 split at hx
 ·simp only [Tr.val] at hx
  split at hx
  ·rename_i hl
   simp only [ag] at hx
   subst hx
   obtain ⟨l,u⟩:=x
   refine zk (n0:=0) bK Ih hC (zdS l) ?_
   refine ⟨fun he=>?_,?_⟩
   ·have hn:l=[]:=List.isEmpty_iff.1 he
    refine Reach.weaken (Q:=fun r h=>(r,h)=(.vec 0,[.vec zg []])) (Reach.promNil zg (fun id=>hC id (by simp)) (zk (n0:=0) bK Ih hC (Y3 l) rfl)) ?_
    intro r h hq
    cases hq
    refine ⟨_,?_,fun _ _ _ _ h=>h⟩
    show (AV.vec 0,[AO.vec zg []])=(AV.vec 0,[AO.vec zg l])
    rw [hn]
   ·exact zk (n0:=0) bK Ih hC (Y4 l) (cO hl rfl)
  ·cases hx
 ·simp at hx

noncomputable abbrev rV (l:List (Sem zp)):Tr zr:=run fI 0 xW (Func.results Tryz.f199).toList 300 (au Tryz.f199) (z7 (Func.ntmps Tryz.f199) [.sl zp l] [])
theorem Ii:zA fI.P 199 Tryz.f199 1:=aJ (by kernel_rfl)
theorem zdT (l:List (Sem zp)):rV l=.ok (.fork l.isEmpty (ar (rV l)).1 (ar (rV l)).2.1 (ar (rV l)).2.2):=by kernel_rfl
theorem Y5 (l:List (Sem zp)):run fI 0 xW (Func.results Tryz.f199).toList 300 (ar (rV l)).1 (ar (rV l)).2.2=.ok (.ret .nils []):=by kernel_rfl
theorem Y6 (l:List (Sem zp)):run fI 0 xW (Func.results Tryz.f199).toList 300 (ar (rV l)).2.1 (ar (rV l)).2.2=.chk (decide (l.length≤1073741824)) (.ok (.ret (.vec 0) [.vec zp l])):=by kernel_rfl
def zcT:cy [some (.sl zp)]:=fun x h=>match h with
 | []=>.chk (decide (length x.1≤1073741824)) (.ok (.vec 0,[.vec zp x.1]))
 | _=>.err
def zbj:zD:=zR [some (.sl zp)] zcT
theorem WP:FK 199 zbj:=by
 refine bq Ii fun x h0 res hx C hC=>?_
 unfold zcT at hx
 split at hx
 ·simp only [Tr.val] at hx
  split at hx
  ·rename_i hl
   simp only [ag] at hx
   subst hx
   obtain ⟨l,u⟩:=x
   refine zk (n0:=0) bK Ii hC (zdT l) ?_
   refine ⟨fun he=>?_,?_⟩
   ·have hn:l=[]:=List.isEmpty_iff.1 he
    refine Reach.weaken (Q:=fun r h=>(r,h)=(.vec 0,[.vec zp []])) (Reach.promNil zp (fun id=>hC id (by simp)) (zk (n0:=0) bK Ii hC (Y5 l) rfl)) ?_
    intro r h hq
    cases hq
    refine ⟨_,?_,fun _ _ _ _ h=>h⟩
    show (AV.vec 0,[AO.vec zp []])=(AV.vec 0,[AO.vec zp l])
    rw [hn]
   ·exact zk (n0:=0) bK Ii hC (Y6 l) (cO hl rfl)
  ·cases hx
 ·simp at hx

noncomputable abbrev rW (l:List (Sem (.sl zf))):Tr zr:=run fI 0 xW (Func.results Tryz.f43).toList 300 (au Tryz.f43) (z7 (Func.ntmps Tryz.f43) [.sl (.sl zf) l] [])
theorem Ik:zA fI.P 43 Tryz.f43 1:=aJ (by kernel_rfl)
theorem zdV (l:List (Sem (.sl zf))):rW l=.ok (.fork l.isEmpty (ar (rW l)).1 (ar (rW l)).2.1 (ar (rW l)).2.2):=by kernel_rfl
theorem Y7 (l:List (Sem (.sl zf))):run fI 0 xW (Func.results Tryz.f43).toList 300 (ar (rW l)).1 (ar (rW l)).2.2=.ok (.ret .nils []):=by kernel_rfl
theorem Y8 (l:List (Sem (.sl zf))):run fI 0 xW (Func.results Tryz.f43).toList 300 (ar (rW l)).2.1 (ar (rW l)).2.2=.chk (decide (l.length≤1073741824)) (.ok (.ret (.vec 0) [.vec (.sl zf) l])):=by kernel_rfl
def zcU:cy [some (.sl (.sl zf))]:=fun x h=>match h with
 | []=>.chk (decide (length x.1≤1073741824)) (.ok (.vec 0,[.vec (.sl zf) x.1]))
 | _=>.err
def zbl:zD:=zR [some (.sl (.sl zf))] zcU
theorem WR:FK 43 zbl:=by
 refine bq Ik fun x h0 res hx C hC=>?_
 unfold zcU at hx
 split at hx
 ·simp only [Tr.val] at hx
  split at hx
  ·rename_i hl
   simp only [ag] at hx
   subst hx
   obtain ⟨l,u⟩:=x
   refine zk (n0:=0) bK Ik hC (zdV l) ?_
   refine ⟨fun he=>?_,?_⟩
   ·have hn:l=[]:=List.isEmpty_iff.1 he
    refine Reach.weaken (Q:=fun r h=>(r,h)=(.vec 0,[.vec (.sl zf) []])) (Reach.promNil (.sl zf) (fun id=>hC id (by simp)) (zk (n0:=0) bK Ik hC (Y7 l) rfl)) ?_
    intro r h hq
    cases hq
    refine ⟨_,?_,fun _ _ _ _ h=>h⟩
    show (AV.vec 0,[AO.vec (Sh.sl zf) []])=(AV.vec 0,[AO.vec (Sh.sl zf) l])
    rw [hn]
   ·exact zk (n0:=0) bK Ik hC (Y8 l) (cO hl rfl)
  ·cases hx
 ·simp at hx

noncomputable abbrev rX (l:List (Sem zf)):Tr zr:=run fI 0 xW (Func.results Tryz.f44).toList 300 (au Tryz.f44) (z7 (Func.ntmps Tryz.f44) [.sl zf l] [])
theorem Il:zA fI.P 44 Tryz.f44 1:=aJ (by kernel_rfl)
theorem zdW (l:List (Sem zf)):rX l=.ok (.fork l.isEmpty (ar (rX l)).1 (ar (rX l)).2.1 (ar (rX l)).2.2):=by kernel_rfl
theorem Y9 (l:List (Sem zf)):run fI 0 xW (Func.results Tryz.f44).toList 300 (ar (rX l)).1 (ar (rX l)).2.2=.ok (.ret .nils []):=by kernel_rfl
theorem Za (l:List (Sem zf)):run fI 0 xW (Func.results Tryz.f44).toList 300 (ar (rX l)).2.1 (ar (rX l)).2.2=.chk (decide (l.length≤1073741824)) (.ok (.ret (.vec 0) [.vec zf l])):=by kernel_rfl
def zcV:cy [some (.sl zf)]:=fun x h=>match h with
 | []=>.chk (decide (length x.1≤1073741824)) (.ok (.vec 0,[.vec zf x.1]))
 | _=>.err
def zbm:zD:=zR [some (.sl zf)] zcV
theorem WS:FK 44 zbm:=by
 refine bq Il fun x h0 res hx C hC=>?_
 unfold zcV at hx
 split at hx
 ·simp only [Tr.val] at hx
  split at hx
  ·rename_i hl
   simp only [ag] at hx
   subst hx
   obtain ⟨l,u⟩:=x
   refine zk (n0:=0) bK Il hC (zdW l) ?_
   refine ⟨fun he=>?_,?_⟩
   ·have hn:l=[]:=List.isEmpty_iff.1 he
    refine Reach.weaken (Q:=fun r h=>(r,h)=(.vec 0,[.vec zf []])) (Reach.promNil zf (fun id=>hC id (by simp)) (zk (n0:=0) bK Il hC (Y9 l) rfl)) ?_
    intro r h hq
    cases hq
    refine ⟨_,?_,fun _ _ _ _ h=>h⟩
    show (AV.vec 0,[AO.vec zf []])=(AV.vec 0,[AO.vec zf l])
    rw [hn]
   ·exact zk (n0:=0) bK Il hC (Za l) (cO hl rfl)
  ·cases hx
 ·simp at hx

noncomputable def Q4:=fI.addL [(198,zbi),(199,zbj),(43,zbl),(44,zbm)]
theorem DP:zm Q4:=bK.addL <| fc WO <| fc WP <| fc WR <| fc WS gW
def x5 (c:ze→Bool):zD:=zC [.expr] [.expr] (fun x=>c x.1) fun x=>(x.1,())
noncomputable def yD (c:ze→Bool):bf:=Q4.add 200 (x5 c)
theorem qB {c:ze→Bool} (hg:FK 200 (x5 c)):zm (yD c):=DP.add hg
abbrev Uv:Nat→zX:=fun j=>if j=3 then { slots:=[1,2,10,11] } else { }
abbrev Cx (i10:Int) (i11:Int) (ja0:zn) (ja1:Int) (ja2:Int) (ja3:zn) (ja4:zn) (lh_2:List (Sem Sh.expr)):St:={
 tmps:=
  (tm 26 [(1,AV.ptr 0 0),(2,AV.ptr 1 0),(10,AV.int .i64 i10),(11,AV.int .i64 i11)]),
 heap:=
  [AO.box [AV.str ja0,AV.int .i64 ja1,AV.int .i64 ja2,AV.str ja3,AV.str ja4,AV.vec 2],
   AO.box [AV.str [],AV.int .i64 0,AV.int .i64 0,AV.str [],AV.str [],AV.nils],AO.vec Sh.expr lh_2] }
theorem Ij (c:ze→Bool):zA (yD c).P 200 Tryz.f200 1:=aJ (by kernel_rfl)
theorem zdU (c:ze→Bool) (op:zn) (v:V) (s:zn) (l:List ze):rn (yD c) 0 Uv Tryz.f200 [zz Sh.expr (ze.mk op v s l)] []=
 Tr.chk (decide (l.length≤1073741824)) (Tr.ok (zr.head 3 (zx Tryz.f200 3) (Cx (↑l.length:Int) 0 op v.1 v.2.1 v.2.2 s l))):=by kernel_rfl
theorem Iv (c:ze→Bool) (i10:Int) (i11:Int) (ja0:zn) (ja1:Int) (ja2:Int) (ja3:zn) (ja4:zn) (lh_2:List (Sem Sh.expr)):rh (yD c) 0 Uv Tryz.f200 3 (Cx i10 i11 ja0 ja1 ja2 ja3 ja4 lh_2)=
 Tr.br (decide (i11 < i10))
 (Tr.chk (zE i11 lh_2.length)
  (Tr.chk (decide (i11.toNat < lh_2.length))
   (Tr.chk (c (zB (lh_2.getD i11.toNat (zj Sh.expr))))
    (Tr.chk (zE i11 lh_2.length)
     (Tr.chk (decide (i11.toNat < lh_2.length))
      (Tr.ok
       (zr.head 3 (zx Tryz.f200 3)
        (Cx i10 (IntKind.i64.wrap (i11+1)) ja0 ja1 ja2 ja3 ja4
         (lh_2.set i11.toNat
          (zB (lh_2.getD i11.toNat (zj Sh.expr))))))))))))
 (Tr.ok
  (zr.ret (AV.agg [AV.str ja0,AV.int .i64 ja1,AV.int .i64 ja2,AV.str ja3,AV.str ja4,AV.vec 0]) [AO.vec Sh.expr lh_2])):=by kernel_rfl

theorem zc3 {c:ze→Bool} (hg:FK 200 (x5 c)) {C:cq} (hC:∀ id,C.ρ0 id=none) (op:zn) (v:V) (s:zn) (l:List ze) (hl:l.length≤1073741824) (hcl:l.all c=true):
  ∀ (k i:Nat),l.length - i=k→i≤l.length→Reach (yD c) C 200 (zx Tryz.f200 3) (Cx l.length i op v.1 v.2.1 v.2.2 s l) (fun r h=>ae h [.expr] r=some (ze.mk op v s l,())):=by
 intro k
 induction k with
 | zero=>
  intro i hk hi
  obtain rfl:i=l.length:=by omega
  refine zk (n0:=0) (qB hg) (Ij c) (fun id _=>hC id) (Iv c _ _ _ _ _ _ _ _) ?_
  simp only [z8,Tr.val_brF]
  rfl
 | succ k IH=>
  intro i hk hi
  have hlt:i < l.length:=by omega
  refine zk (n0:=0) (qB hg) (Ij c) (fun id _=>hC id) (Iv c _ _ _ _ _ _ _ _) ?_
  have h1:c l[i]=true:=cR.1 hcl _ (cx hlt)
  have h2:decide ((i:Int).toNat < l.length)=true:=by simpa using hlt
  have h3:l.set (i:Int).toNat l[i]=l:=by simp
  simp only [zW hlt,zG hlt,zY l _ hlt,ze.eta,Tr.val_brT,Tr.val_chkT,h1,h2,h3,zH i (by unfold zF; omega)]
  exact IH (i+1) (by omega) (by omega)

theorem X4:zA Q4.P 200 Tryz.f200 1:=aJ (by kernel_rfl)
theorem AX:∀ n,FK 200 (x5 (lR n))
 | 0=>cP ⟨Tryz.f200,X4.1,X4.2.1,X4.2.2.1⟩ (fun _=>rfl)
 | n+1=>by
  have h:FK 200 (x5 (lR (n+1))):=by
   refine zN (E:=yD (lR n)) (Ij _) fun x hc C hC=>?_
   obtain ⟨⟨op,v,s,l⟩,u⟩:=x
   have hc:(decide (l.length≤1073741824)&&l.all (lR n))=true:=hc
   simp only [aE,zZ] at hc
   refine zk (n0:=0) (qB (AX n)) (Ij _) (fun id _=>hC id) (zdU _ op v s l) ?_
   refine cO (by simpa using hc.1) ?_
   exact zc3 (AX n) hC op v s l hc.1 hc.2 _ 0 rfl (aD _)
  exact h
def zbk:zD:=x5 (lR 16)
theorem WQ:FK 200 zbk:=AX 16
noncomputable def DO:=Q4.add 200 zbk
theorem qM:zm DO:=DP.add WQ
abbrev eE:Sh:=.pr zg (.pr zg (.sl (.sl zf)))

noncomputable def ziL (x0:Sem zg):Tr (Empty ⊕ zV):=
 Tr.re (AV.tup [AV.nils,AV.agg [AV.int .i64 x0,AV.int .i64 0,AV.nils]]) []
noncomputable def FC (x0:Sem zg):=zT [zh.sl,eE] t0 100000000 (ziL x0)
noncomputable def n8 (x0:Sem zg):=(FC x0).isSome
noncomputable def bY (x0:Sem zg):=o2 (FC x0)
noncomputable def zaD:=FT [zg] [zh.sl,eE] fun x=>FC x.1
theorem V5:FK 39 zaD:=qM.T1 (f:=Tryz.f39) (keep:=k0) (e:=e0)

noncomputable def TR:=DO.add 39 zaD
theorem mP:zm TR:=qM.add V5
noncomputable section

def zet (x0:Sem zt) (x1:Sem zf.sl):Tr (Empty ⊕ zV):=
 let a0:=getD x1 (toNat x0.2.2.1) (zj zf)
 Tr.br
 (bif !gS (x0.1,x0.2.1,x0.2.2.1,x0.2.2.2.1,x0.2.2.2.2.1,zB x0.2.2.2.2.2) then true
 else decide (x0.2.2.1 ≥ (↑(length x1):Int)))
 (Tr.re (AV.agg [AV.int .i64 0,AV.int .i64 0,AV.str []]) [])
 (Tr.chk (zE x0.2.2.1 (length x1)) (Tr.re (AV.agg [AV.int .i64 a0.1,AV.int .i64 a0.2.1,AV.str a0.2.2]) []))
def E3 (x0:Sem zt) (x1:Sem zf.sl):=zT [zf] t0 100000000 (zet x0 x1)
def OQ (x0:Sem zt) (x1:Sem zf.sl):=(E3 x0 x1).isSome
def Zl (x0:Sem zt) (x1:Sem zf.sl):=o1 (E3 x0 x1)
def zbe:=FT [zt,zf.sl] [zf] fun x=>E3 x.1 x.2.1
theorem WK:FK 84 zbe:=mP.T1 (f:=Tryz.f84) (keep:=k0) (e:=e0)

def XU (x0:Sem zh.sl) (x1:Sem zg):Tr (Empty ⊕ zV):=
 Tr.chk (mH x0)
 (Tr.br (!qm x0)
  (Tr.chk true (Tr.re (AV.tup [AV.sl zh (bY 10).1,AV.agg [AV.int .i64 (bY 10).2.1,AV.int .i64 (bY 10).2.2.1,AV.sl zf.sl (bY 10).2.2.2]]) []))
  (Tr.re (AV.tup [AV.sl zh x0,AV.agg [AV.int .i64 0,AV.int .i64 x1,AV.nils]]) []))
def uB (x0:Sem zh.sl) (x1:Sem zg):=zT [zh.sl,eE] t0 100000000 (XU x0 x1)
def qu (x0:Sem zh.sl) (x1:Sem zg):=(uB x0 x1).isSome
def yA (x0:Sem zh.sl) (x1:Sem zg):=o2 (uB x0 x1)
def zaE:=FT [zh.sl,zg] [zh.sl,eE] fun x=>uB x.1 x.2.1
theorem V6:FK 40 zaE:=mP.T1 (f:=Tryz.f40) (keep:=k0) (e:=e0)

abbrev zeR:=jJ [(9,[2,3,8,36,37,38])]
inductive tV where
 | h9 (l36:List (Sem zf.sl)) (i37:Int) (i38:Int) (z0:zu [CP.d zh]) (z1:zu [CP.d Sh.expr])
 | h9b (l36:List (Sem zf.sl)) (i37:Int) (i38:Int) (z0:zu [CP.d zh]) (z1:zu [CP.d Sh.expr]) (lh_2:List (Sem zf.sl))
abbrev zhk:tV→Nat×St
 | .h9 l36 i37 i38 z0 z1=>(9,⟨tm 62 [(2,AV.ptr 0 0),(3,AV.ptr 1 0),(8,AV.nils),(36,AV.sl zf.sl l36),(37,AV.int .i64 i37),(38,AV.int .i64 i38)],[AO.box (bb [] [CP.d zh] z0),AO.box (bb [] [CP.d Sh.expr] z1)]⟩)
 | .h9b l36 i37 i38 z0 z1 lh_2=>(9,⟨tm 62 [(2,AV.ptr 0 0),(3,AV.ptr 1 0),(8,AV.vec 2),(36,AV.sl zf.sl l36),(37,AV.int .i64 i37),(38,AV.int .i64 i38)],[AO.box (bb [] [CP.d zh] z0),AO.box (bb [] [CP.d Sh.expr] z1),AO.vec zf.sl lh_2]⟩)
def zem (x0:Sem zh) (x1:Sem Sh.expr):Tr (tV ⊕ zV):=
 let a0:=ba (zB x1) x0.1.2.1
 Tr.br (!ze.op x1==[])
 (Tr.br (bif a0.2==0 then bif a0.1 != 3 then a0.1 != 0 else false else false)
  (Tr.br true (Tr.re (AV.tup [AV.nils,AV.int .i64 5]) []) (Tr.to (tV.h9 x0.2 (↑(length x0.2):Int) 0 (x0,()) (x1,()))))
  (Tr.br (a0.2 != 0) (Tr.re (AV.tup [AV.nils,AV.int .i64 a0.2]) []) (Tr.to (tV.h9 x0.2 (↑(length x0.2):Int) 0 (x0,()) (x1,())))))
 (Tr.to (tV.h9 x0.2 (↑(length x0.2):Int) 0 (x0,()) (x1,())))
def CK:tV→Tr (tV ⊕ zV)
 | .h9 l36 i37 i38 z0 z1=>
  let a0:=l36.getD i38.toNat (zj zf.sl)
  let a1:=f5 (zB z1.1) z0.1.1.2.1 a0
  let a2:=[a0]
  let a3:=IntKind.i64.wrap (i38+1)
  Tr.br (decide (i38 < i37))
  (Tr.chk (zE i38 l36.length) (Tr.br (bif ze.op z1.1==[] then true else a1.1==3&&(a1.2.1==1&&(a1.2.2==[]&&true))) (Tr.chk (decide (length a0≤1073741824)) (Tr.chk (decide (a2.length≤1073741824)) (Tr.to (tV.h9b l36 i37 a3 z0 z1 a2)))) (Tr.to (tV.h9 l36 i37 a3 z0 z1))))
  (Tr.re (AV.tup [AV.nils,AV.int .i64 0]) [])
 | .h9b l36 i37 i38 z0 z1 lh_2=>
  let a0:=l36.getD i38.toNat (zj zf.sl)
  let a1:=f5 (zB z1.1) z0.1.1.2.1 a0
  let a2:=[a0]
  let a3:=IntKind.i64.wrap (i38+1)
  Tr.br (decide (i38 < i37))
  (Tr.chk (zE i38 l36.length) (Tr.br (bif ze.op z1.1==[] then true else a1.1==3&&(a1.2.1==1&&(a1.2.2==[]&&true))) (Tr.chk (decide (length a0≤1073741824)) (Tr.chk (decide (lh_2.length+a2.length≤1073741824)) (Tr.to (tV.h9b l36 i37 a3 z0 z1 (lh_2++a2))))) (Tr.to (tV.h9b l36 i37 a3 z0 z1 lh_2))))
  (Tr.re (AV.tup [AV.vec 0,AV.int .i64 0]) [AO.vec zf.sl lh_2])
def pM (x0:Sem zh) (x1:Sem Sh.expr):=zT [zf.sl.sl,zg] CK 100000000 (zem x0 x1)
def na (x0:Sem zh) (x1:Sem Sh.expr):=(pM x0 x1).isSome
def rr (x0:Sem zh) (x1:Sem Sh.expr):=o2 (pM x0 x1)
def zaO:=FT [zh,Sh.expr] [zf.sl.sl,zg] fun x=>pM x.1 x.2.1
theorem Wi:FK 51 zaO:=mP.T1 (f:=Tryz.f51) (keep:=zeR) (e:=zhk)

def u0:=TR.addL [(84,zbe),(40,zaE),(51,zaO)]
theorem ke:zm u0:=mP.addL <| fc WK <| fc V6 <| fc Wi <|  gW
end

noncomputable abbrev rT (l:List (Sem zh)):Tr zr:=run u0 0 xW (Func.results Tryz.f76).toList 300 (au Tryz.f76) (z7 (Func.ntmps Tryz.f76) [.sl zh l] [])
theorem Ig:zA u0.P 76 Tryz.f76 1:=aJ (by kernel_rfl)
theorem zdN (l:List (Sem zh)):rT l=.ok (.fork l.isEmpty (ar (rT l)).1 (ar (rT l)).2.1 (ar (rT l)).2.2):=by kernel_rfl
theorem Y1 (l:List (Sem zh)):run u0 0 xW (Func.results Tryz.f76).toList 300 (ar (rT l)).1 (ar (rT l)).2.2=.ok (.ret .nils []):=by kernel_rfl
theorem Y2 (l:List (Sem zh)):run u0 0 xW (Func.results Tryz.f76).toList 300 (ar (rT l)).2.1 (ar (rT l)).2.2=.chk (decide (l.length≤1073741824)) (.ok (.ret (.vec 0) [.vec zh l])):=by kernel_rfl
def zcO:cy [some (.sl zh)]:=fun x h=>match h with
 | []=>.chk (decide (length x.1≤1073741824)) (.ok (.vec 0,[.vec zh x.1]))
 | _=>.err
def za2:zD:=zR [some (.sl zh)] zcO
theorem Wy:FK 76 za2:=by
 refine bq Ig fun x h0 res hx C hC=>?_
 unfold zcO at hx
 split at hx
 ·simp only [Tr.val] at hx
  split at hx
  ·rename_i hl
   simp only [ag] at hx
   subst hx
   obtain ⟨l,u⟩:=x
   refine zk (n0:=0) ke Ig hC (zdN l) ?_
   refine ⟨fun he=>?_,?_⟩
   ·have hn:l=[]:=List.isEmpty_iff.1 he
    refine Reach.weaken (Q:=fun r h=>(r,h)=(.vec 0,[.vec zh []])) (Reach.promNil zh (fun id=>hC id (by simp)) (zk (n0:=0) ke Ig hC (Y1 l) rfl)) ?_
    intro r h hq
    cases hq
    refine ⟨_,?_,fun _ _ _ _ h=>h⟩
    show (AV.vec 0,[AO.vec zh []])=(AV.vec 0,[AO.vec zh l])
    rw [hn]
   ·exact zk (n0:=0) ke Ig hC (Y2 l) (cO hl rfl)
  ·cases hx
 ·simp at hx

noncomputable def za4:zD:=zR (List.replicate 2 none) (bS u0 Tryz.f77 (List.replicate 2 none))
theorem WA:FK 77 za4:=aj _ ke (aJ (by kernel_rfl))

noncomputable def DQ:=u0.addL [(76,za2),(77,za4)]
theorem qN:zm DQ:=ke.addL <| fc Wy <| fc WA <|  gW

abbrev tv (n:zn) (q1:Sh) (cs:List (Sem q1)) (k:Int) (q2:Sh) (us:List (Sem q2)) (q3:Sh) (fs:List (Sem q3)) (eo:zn) (a b:Int) (vs es:zn) (q4:Sh) (el:List (Sem q4)) (q5:Sh) (rs:List (Sem q5)) (l:List (Sem zh)) (i:Int):St:={ tmps:=[.sl zh l,.clo (.func 77) [] [.ptr 0 0],.any,.any,.any,.any,.any,.int .i64 l.length,.int .i64 i,.any,.any,.any,.any,.any,.any,.any,.any,.any,.any],heap:=[.box [.str n,.sl q1 cs,.int .i64 k,.sl q2 us,.sl q3 fs,.str eo,.int .i64 a,.int .i64 b,.str vs,.str es,.sl q4 el,.sl q5 rs]] }
theorem Ms (n:zn) (q1:Sh) (cs:List (Sem q1)) (k:Int) (q2:Sh) (us:List (Sem q2)) (q3:Sh) (fs:List (Sem q3)) (eo:zn) (a b:Int) (vs es:zn) (q4:Sh) (el:List (Sem q4)) (q5:Sh) (rs:List (Sem q5)) (l:List (Sem zh)):run DQ 1 lG Tryz.f36.results.toList 300 (au Tryz.f36) (z7 Tryz.f36.ntmps [.sl zh l,.clo (.func 77) [] [.ptr 0 0]] [.box [.str n,.sl q1 cs,.int .i64 k,.sl q2 us,.sl q3 fs,.str eo,.int .i64 a,.int .i64 b,.str vs,.str es,.sl q4 el,.sl q5 rs]])=.ok (.head 2 (zx Tryz.f36 2) (tv n q1 cs k q2 us q3 fs eo a b vs es q4 el q5 rs l 0)):=by kernel_rfl
theorem NY (n:zn) (q1:Sh) (cs:List (Sem q1)) (k:Int) (q2:Sh) (us:List (Sem q2)) (q3:Sh) (fs:List (Sem q3)) (eo:zn) (a b:Int) (vs es:zn) (q4:Sh) (el:List (Sem q4)) (q5:Sh) (rs:List (Sem q5)) (l:List (Sem zh)) (i:Int):run DQ 1 lG Tryz.f36.results.toList 300 (zx Tryz.f36 2) (tv n q1 cs k q2 us q3 fs eo a b vs es q4 el q5 rs l i)=hZ (K:=zx Tryz.f36 2) (e:=zh) l (fun y => !(Op.bytesLess y.1.1 n||y.1.1==n)) (tv n q1 cs k q2 us q3 fs eo a b vs es q4 el q5 rs l) [.box [.str n,.sl q1 cs,.int .i64 k,.sl q2 us,.sl q3 fs,.str eo,.int .i64 a,.int .i64 b,.str vs,.str es,.sl q4 el,.sl q5 rs]] i:=by kernel_rfl

theorem NP:zA DQ.P 36 Tryz.f36 2:=by refine ⟨?_,?_,?_,?_⟩ <;> kernel_rfl
def zcL:cy [some (.sl zh),none]:=fun x h=>match x,h with
 | (l,.clo (.func 77) [] [.ptr 0 0],_),[.box [.str n,.sl q1 cs,.int .i64 k,.sl q2 us,.sl q3 fs,.str eo,.int .i64 a,.int .i64 b,.str vs,.str es,.sl q4 el,.sl q5 rs]]=>.ok (.int .i64 (zS (fun y => !(Op.bytesLess y.1.1 n||y.1.1==n)) l 0),[.box [.str n,.sl q1 cs,.int .i64 k,.sl q2 us,.sl q3 fs,.str eo,.int .i64 a,.int .i64 b,.str vs,.str es,.sl q4 el,.sl q5 rs]])
 | _,_=>.err
def zaA:zD:=zR [some (.sl zh),none] zcL
theorem V1:FK 36 zaA:=by
 refine bq NP fun x h0 res hx C hC=>?_
 unfold zcL at hx
 split at hx
 ·rename_i l u n q1 cs k q2 us q3 fs eo a b vs es q4 el q5 rs
  simp only [Tr.val_ok,ag] at hx
  subst hx
  refine Reach.len 0 zh l rfl fun hl=>?_
  refine zk (n0:=1) qN NP hC (Ms n q1 cs k q2 us q3 fs eo a b vs es q4 el q5 rs l) ?_
  exact eL l (fun y => !(Op.bytesLess y.1.1 n||y.1.1==n)) (tv n q1 cs k q2 us q3 fs eo a b vs es q4 el q5 rs l) qN NP hC (NY n q1 cs k q2 us q3 fs eo a b vs es q4 el q5 rs l) hl _ 0 rfl (aD _)
 ·simp at hx

noncomputable def HI:=DQ.add 36 zaA
theorem yU:zm HI:=qN.add V1

abbrev ze3:=jJ []
theorem zfT:zA HI.P 78 Tryz.f78 3:=aJ (by kernel_rfl)
noncomputable def XX (l:List (Sem zh)) (i:Int) (x:Sem zh):Tr (Empty ⊕ zV):=
 Tr.chk (decide (0≤i)&&decide (i≤(↑l.length:Int)))
 (Tr.br ((↑[x].length:Int)==0)
  (Tr.re (AV.vec 0) [AO.vec zh l])
  (Tr.br (i==(↑l.length:Int)) (Tr.chk (decide (l.length+[x].length≤1073741824)) (Tr.re (AV.vec 1) [AO.dead,AO.vec zh (l++[x])])) Tr.err))
theorem zdP (l:List (Sem zh)) (i:Int) (x:Sem zh):rn HI 1 ze3 Tryz.f78 [AV.vec 0,AV.int .i64 i,AV.sl zh [x]] [AO.vec zh l]=(XX l i x).map (lf Tryz.f78 e0):=by kernel_rfl
@[match_pattern] abbrev zgq:Sh:=.pr (.pr .str (.pr (.sl (.pr .str (.pr (.int .i64) .bool))) (.pr (.int .i64) (.pr (.sl (.int .i64)) (.pr (.sl (.pr (.int .i64) .str)) .expr))))) (.sl (.sl (.pr (.int .i64) (.pr (.int .i64) .str))))
def zcP:cy [none,none,none]:=fun a h=>match a,h with
 | (.vec 0,.int .i64 i,.sl zgq [x],_),[.vec zgq l]=>.chk (i==(length l:Int)) (.chk (decide (length l+1≤1073741824)) (.ok (.vec 1,[.dead,.vec zh (l++[x])])))
 | _,_=>.err
def za6:zD:=zR [none,none,none] zcP
theorem WC:FK 78 za6:=by
 refine gy (ι:=List (Sem zh)×Int×Sem zh) (args:=fun y=>[AV.vec 0,AV.int .i64 y.2.1,AV.sl zh [y.2.2]]) (heap:=fun y=>[AO.vec zh y.1]) (i:=fun y=>XX y.1 y.2.1 y.2.2) (t:=t0) (e:=e0) (n:=100000000) (n0:=1) yU zfT (fun _=>rfl) (fun y=>zdP _ _ _) (fun s=>nomatch s) (fun a h res hv=>?_)
 unfold zcP at hv
 split at hv
 ·rename_i i x u l
  simp only [Tr.val] at hv
  split at hv
  ·rename_i h1
   split at hv
   ·rename_i h2
    simp only [ag] at hv
    subst hv
    refine ⟨(l,i,x),rfl,rfl,?_⟩
    have h3:i=(length l:Int):=by simpa using h1
    subst h3
    have h4:length l+1≤1073741824:=by simpa using h2
    unfold cd XX
    simp [Tr.val,h4]
   ·cases hv
  ·cases hv
 ·simp at hv

noncomputable def TT:=HI.add 78 za6
theorem yW:zm TT:=yU.add WC

noncomputable def zel (x0:Sem zh.sl) (x1:Sem zh):Tr (Empty ⊕ zV):=
 let a0:=aF x0 x1.1.1
 let a1:=((x1.1.1,x1.1.2.1,x1.1.2.2.1,x1.1.2.2.2.1,x1.1.2.2.2.2.1,zB x1.1.2.2.2.2.2),x1.2)
 let a2:=zS (fun y => !(Op.bytesLess y.1.1 x1.1.1||y.1.1==x1.1.1)) x0 0
 Tr.chk (decide (length x0≤1073741824))
 (Tr.br (decide (a0 ≥ 0))
  (Tr.chk (zE a0 (length x0)) (Tr.chk (decide (toNat a0 < length x0)) (Tr.re (AV.vec 0) [AO.vec zh (List.set x0 (toNat a0) a1)])))
  (Tr.br (decide (a2 < 0)) (Tr.chk ((↑(length x0):Int)==(↑(length x0):Int)) (Tr.chk (decide (length x0+1≤1073741824)) (Tr.re (AV.vec 0) [AO.vec zh (x0++[a1])]))) (Tr.chk (a2==(↑(length x0):Int)) (Tr.chk (decide (length x0+1≤1073741824)) (Tr.re (AV.vec 0) [AO.vec zh (x0++[a1])])))))
noncomputable def qw (x0:Sem zh.sl) (x1:Sem zh):=zT [zh.sl] t0 100000000 (zel x0 x1)
noncomputable def qv (x0:Sem zh.sl) (x1:Sem zh):=(qw x0 x1).isSome
noncomputable def yB (x0:Sem zh.sl) (x1:Sem zh):=o1 (qw x0 x1)
noncomputable def zaF:=FT [zh.sl,zh] [zh.sl] fun x=>qw x.1 x.2.1
theorem V7:FK 41 zaF:=yW.T1 (f:=Tryz.f41) (keep:=k0) (e:=e0)

noncomputable def yV:=TT.add 41 zaF
theorem qO:zm yV:=yW.add V7
noncomputable section
abbrev ah:Sh:=.pr (.sl zh) zy

abbrev Ur:=jJ [(4,[3,7,8,20,21,22])]
inductive Jr where
 | h4 (i7:Sem zg) (l20:List (Sem zf.sl)) (i21:Int) (i22:Int) (z0:zu [CP.d zh]) (mh_1:List ((Int×Int×zn)×Int))
abbrev Lw:Jr→Nat×St
 | .h4 i7 l20 i21 i22 z0 mh_1=>(4,⟨tm 35 [(3,AV.ptr 0 0),(7,AV.int .i64 i7),(8,AV.mp 1),(20,AV.sl zf.sl l20),(21,AV.int .i64 i21),(22,AV.int .i64 i22)],[AO.box (bb [] [CP.d zh] z0),AO.vmap true mh_1]⟩)
theorem zfB:zA yV.P 47 Tryz.f47 2:=aJ (by kernel_rfl)
def Ri (d:Sem ah) (x:Sem zh):Tr (Jr ⊕ zV):=
 let a0:=((x.1.1,x.1.2.1,x.1.2.2.1,x.1.2.2.2.1,x.1.2.2.2.2.1,zB x.1.2.2.2.2.2),x.2)
 let a1:=zB d.2.2.2.2.2.2.2.2.2.2.2.2.1
 let a2:=rr a0 a1
 Tr.chk (na a0 a1) (Tr.to (Jr.h4 a2.2 a2.1 (↑(length a2.1):Int) 0 (x,()) []))
theorem zdF (d:Sem ah) (x:Sem zh):rn yV 0 Ur Tryz.f47 [zz ah d,zz zh x] []=(Ri d x).map (lf Tryz.f47 Lw):=by kernel_rfl
def KE:Jr→Tr (Jr ⊕ zV)
 | .h4 i7 l20 i21 i22 z0 mh_1=>
  let a0:=(z0.1.1.1,z0.1.1.2.1,z0.1.1.2.2.1,z0.1.1.2.2.2.1,z0.1.1.2.2.2.2.1,zB z0.1.1.2.2.2.2.2)
  let a1:=l20.getD i22.toNat (zj zf.sl)
  Tr.br (decide (i22 < i21))
  (Tr.chk (zE i22 l20.length) (Tr.chk (OQ a0 a1) (Tr.to (Jr.h4 i7 l20 i21 (IntKind.i64.wrap (i22+1)) z0 (ic mh_1 (Zl a0 a1) 0)))))
  (Tr.re (AV.tup [AV.mp 0,AV.int .i64 i7]) [AO.vmap true mh_1])
theorem zgb:∀ s,run yV 0 Ur (Func.results Tryz.f47).toList 400 (zx Tryz.f47 (Lw s).1) (Lw s).2=(KE s).map (lf Tryz.f47 Lw):=by intro s; cases s <;> kernel_rfl
def HB (d:Sem ah) (x:Sem zh):=cd KE 100000000 (Ri d x)

def mO (d:Sem ah) (x:Sem zh):Option (List ((Int×Int×zn)×Int)×Int):=match HB d x with
 | some (.tup [.mp 0,.int .i64 e],[.vmap true es])=>some (es,e)
 | _=>none
def mV (d:Sem ah) (x:Sem zh):List ((Int×Int×zn)×Int)×Int:=(mO d x).getD ([],0)
theorem zfb {d:Sem ah} {x:Sem zh} (h:(mO d x).isSome=true):HB d x=some (.tup [.mp 0,.int .i64 (mV d x).2],[.vmap true (mV d x).1]):=by
 unfold mV
 unfold mO at h ⊢
 split at h
 ·rename_i e es hd
  rw [hd]
  rfl
 ·cases h
def zcM:cy [some ah,some zh]:=fun a h=>match h with
 | []=>.chk ((mO a.1 a.2.1).isSome) (.ok (.tup [.mp 0,.int .i64 (mV a.1 a.2.1).2],[.vmap true (mV a.1 a.2.1).1]))
 | _=>.err
def zaJ:zD:=zR [some ah,some zh] zcM
theorem Wb:FK 47 zaJ:=by
 refine gy (ι:=Sem ah×Sem zh) (args:=fun y=>[zz ah y.1,zz zh y.2]) (heap:=fun _=>[]) (i:=fun y=>Ri y.1 y.2) (t:=KE) (e:=Lw) (n:=100000000) (n0:=0) qO zfB (fun _=>rfl) (fun y=>zdF _ _) zgb (fun a h res hv=>?_)
 unfold zcM at hv
 split at hv
 ·simp only [Tr.val] at hv
  split at hv
  ·rename_i h1
   simp only [ag] at hv
   subst hv
   exact ⟨(a.1,a.2.1),rfl,rfl,zfb h1⟩
  ·cases hv
 ·simp at hv

def zaM:zD:=zR (List.replicate 3 none) (bS yV Tryz.f50 (List.replicate 3 none))
theorem Wf:FK 50 zaM:=aj _ qO (aJ (by kernel_rfl))

def DR:=yV.addL [(47,zaJ),(50,zaM)]
theorem yX:zm DR:=qO.addL <| fc Wb <| fc Wf <|  gW
end

abbrev Uu:=jJ [(2,[0,1,7,8])]
inductive Jt where
 | h2 (i7:Int) (i8:Int) (z2:zu [CP.d zh]) (lh_0:List (Sem zf.sl)) (mh_3:List ((Int×Int×zn)×Int))
abbrev LD:Jt→Nat×St
 | .h2 i7 i8 z2 lh_0 mh_3=>(2,⟨tm 19 [(0,AV.vec 0),(1,AV.clo (Fn.func 50) [] [AV.ptr 1 0,AV.ptr 2 0]),(7,AV.int .i64 i7),(8,AV.int .i64 i8)],[AO.vec zf.sl lh_0,AO.box [AV.mp 3],AO.box (bb [] [CP.d zh] z2),AO.vmap true mh_3]⟩)
theorem zf1:zA DR.P 88 Tryz.f88 2:=aJ (by kernel_rfl)
noncomputable def XZ (l:List (List (Sem zf))) (x:Sem zh) (es:List ((Int×Int×zn)×Int)):Tr (Jt ⊕ zV):=
 Tr.to (Jt.h2 (↑l.length:Int) 0 (x,()) l es)
theorem zdR (l:List (List (Sem zf))) (x:Sem zh) (es:List ((Int×Int×zn)×Int)):rn DR 4 Uu Tryz.f88 [AV.vec 0,AV.clo (Fn.func 50) [] [AV.ptr 1 0,AV.ptr 2 0]] [AO.vec (Sh.sl zf) l,AO.box [AV.mp 3],AO.box (bb [] [CP.d zh] (x,())),AO.vmap true es]=(XZ l x es).map (lf Tryz.f88 LD):=by kernel_rfl
noncomputable def KH:Jt→Tr (Jt ⊕ zV)
 | .h2 i7 i8 z2 lh_0 mh_3=>
  let a0:=lh_0.getD i8.toNat (zj zf.sl)
  Tr.br (decide (i8 < i7))
  (Tr.chk (zE i8 lh_0.length) (Tr.chk (decide (i8.toNat < lh_0.length)) (Tr.chk (zE z2.1.1.2.2.1 (length a0)) (Tr.br (fW mh_3 (getD a0 (toNat z2.1.1.2.2.1) (zj zf))) (Tr.re (AV.int .i64 i8) [AO.vec zf.sl lh_0,AO.box [AV.mp 3],AO.box [AV.str z2.1.1.1,AV.sl zi z2.1.1.2.1,AV.int .i64 z2.1.1.2.2.1,AV.sl zg z2.1.1.2.2.2.1,AV.sl zp z2.1.1.2.2.2.2.1,
  AV.str (ze.op z2.1.1.2.2.2.2.2),AV.int .i64 (ze.v z2.1.1.2.2.2.2.2).1,AV.int .i64 (ze.v z2.1.1.2.2.2.2.2).2.1,AV.str (ze.v z2.1.1.2.2.2.2.2).2.2,AV.str (ze.s z2.1.1.2.2.2.2.2),AV.sl Sh.expr (ze.l z2.1.1.2.2.2.2.2),AV.sl zf.sl z2.1.2],AO.vmap true mh_3]) (Tr.to (Jt.h2 i7 (IntKind.i64.wrap (i8+1)) z2 lh_0 mh_3))))))
  (Tr.re (AV.int .i64 (-1)) [AO.vec zf.sl lh_0,AO.box [AV.mp 3],AO.box [AV.str z2.1.1.1,AV.sl zi z2.1.1.2.1,AV.int .i64 z2.1.1.2.2.1,AV.sl zg z2.1.1.2.2.2.1,AV.sl zp z2.1.1.2.2.2.2.1,AV.str (ze.op z2.1.1.2.2.2.2.2),AV.int .i64 (ze.v z2.1.1.2.2.2.2.2).1,AV.int .i64 (ze.v z2.1.1.2.2.2.2.2).2.1,AV.str (ze.v z2.1.1.2.2.2.2.2).2.2,
  AV.str (ze.s z2.1.1.2.2.2.2.2),AV.sl Sh.expr (ze.l z2.1.1.2.2.2.2.2),AV.sl zf.sl z2.1.2],AO.vmap true mh_3])
theorem zgk:∀ s,run DR 4 Uu (Func.results Tryz.f88).toList 400 (zx Tryz.f88 (LD s).1) (LD s).2=(KH s).map (lf Tryz.f88 LD):=by intro s; cases s <;> kernel_rfl
noncomputable def ziY (l:List (List (Sem zf))) (x:Sem zh) (es:List ((Int×Int×zn)×Int)):=cd KH 100000000 (XZ l x es)

set_option maxHeartbeats 1000000

def ki (k:Int) (es:List ((Int×Int×zn)×Int)) (r:List (Sem zf)):Bool:=fW es (getD r (toNat k) (zj zf))
def MU (l:List (List (Sem zf))) (x:Sem zh) (es:List ((Int×Int×zn)×Int)):List AO:=[AO.vec zf.sl l,AO.box [AV.mp 3],AO.box (bb [] [CP.d zh] (x,())),AO.vmap true es]
theorem X1 (l:List (List (Sem zf))) (x:Sem zh) (es:List ((Int×Int×zn)×Int)) (hl:l.length≤1000000) (hk:∀ r∈l,zE x.1.2.2.1 (length r)=true):∀ (m i n:Nat),l.length - i=m→i≤l.length→m < n→
  bU KH n (.h2 (l.length:Int) (i:Int) (x,()) l es)=some (.int .i64 (zS (ki x.1.2.2.1 es) (l.drop i) i),MU l x es):=by
 intro m
 induction m with
 | zero=>
  intro i n hm hi hn
  obtain rfl:i=l.length:=by omega
  obtain ⟨n,rfl⟩:∃ k,n=k+1:=⟨n - 1,by omega⟩
  rw [bU]
  simp only [KH,Tr.val,z8,dg]
  rfl
 | succ m IH=>
  intro i n hm hi hn
  have hlt:i < l.length:=by omega
  have h2:decide ((i:Int).toNat < l.length)=true:=by simpa using hlt
  obtain ⟨n,rfl⟩:∃ k,n=k+1:=⟨n - 1,by omega⟩
  have h3:=hk l[i] (cx hlt)
  rw [bU,dA hlt]
  simp only [KH,Tr.val,zW hlt,zG hlt,h2,zY l _ hlt,zH i (by unfold zF; omega),if_true,zS,h3]
  by_cases h:ki x.1.2.2.1 es l[i]=true
  ·have h':fW es (getD l[i] (toNat x.1.2.2.1) (zj zf))=true:=h
   rw [h]
   simp only [h',if_true]
   rfl
  ·have h':¬ fW es (getD l[i] (toNat x.1.2.2.1) (zj zf))=true:=h
   rw [if_neg h',Bool.eq_false_iff.2 h]
   dsimp only
   exact IH (i+1) n (by omega) (by omega) (by omega)
theorem Ro (l:List (List (Sem zf))) (x:Sem zh) (es:List ((Int×Int×zn)×Int)) (hl:l.length≤1000000) (hk:∀ r∈l,zE x.1.2.2.1 (length r)=true):ziY l x es=some (.int .i64 (zS (ki x.1.2.2.1 es) l 0),MU l x es):=by
 have:=X1 l x es hl hk l.length 0 100000000 rfl (aD _) (by omega)
 rw [List.drop_zero] at this
 exact this

@[match_pattern] abbrev wh:Sh:=.pr (.int .i64) (.pr (.int .i64) .str)
@[match_pattern] abbrev zgo:Sh:=.pr .str (.pr (.int .i64) .bool)
@[match_pattern] abbrev zgp:Sh:=.pr (.int .i64) .str
def zcQ:cy [none,none]:=fun a h=>match a,h with
 | (.vec 0,.clo (.func 50) [] [.ptr 1 0,.ptr 2 0],_),[.vec (.sl wh) l,.box [.mp 3],.box [.str n,.sl zgo cs,.int .i64 k,.sl (.int .i64) us,.sl zgp fs,.str eo,.int .i64 p,.int .i64 q,.str vs,.str ss,.sl .expr el,.sl (.sl wh) rs],.vmap true es]=>
  .chk (decide (length l≤1000000)&&List.all l (fun r=>zE k (length r))) (.ok (.int .i64 (zS (ki k es) l 0),[.vec (.sl zf) l,.box [.mp 3],.box [.str n,.sl zi cs,.int .i64 k,.sl zg us,.sl zp fs,.str eo,.int .i64 p,.int .i64 q,.str vs,.str ss,.sl .expr el,.sl (.sl zf) rs],.vmap true es]))
 | _,_=>.err
def zbf:zD:=zR [none,none] zcQ
theorem WL:FK 88 zbf:=by
 refine gy (ι:=List (List (Sem zf))×Sem zh×List ((Int×Int×zn)×Int)) (args:=fun _=>[AV.vec 0,AV.clo (Fn.func 50) [] [AV.ptr 1 0,AV.ptr 2 0]]) (heap:=fun y=>MU y.1 y.2.1 y.2.2) (i:=fun y=>XZ y.1 y.2.1 y.2.2) (t:=KH) (e:=LD) (n:=100000000) (n0:=4) yX zf1 (fun _=>rfl) (fun y=>zdR _ _ _) zgk (fun a h res hv=>?_)
 unfold zcQ at hv
 split at hv
 ·rename_i u l n cs k us fs eo p q vs ss el rs es
  simp only [Tr.val] at hv
  split at hv
  ·rename_i h1
   simp only [ag] at hv
   subst hv
   simp only [aE,zZ,cR] at h1
   exact ⟨(l,((n,cs,k,us,fs,ze.mk eo (p,q,vs) ss el),rs),es),rfl,rfl,Ro l ((n,cs,k,us,fs,ze.mk eo (p,q,vs) ss el),rs) es h1.1 h1.2⟩
  ·cases hv
 ·simp at hv

noncomputable def DS:=DR.add 88 zbf
theorem yY:zm DS:=yX.add WL

abbrev Us:=jJ [(5,[0,1,5,6])]
inductive Fo where
 | h5 (i5:Int) (i6:Int) (z2:zu [CP.d zh]) (lh_0:List (Sem zf.sl)) (mh_3:List ((Int×Int×zn)×Int))
abbrev Ly:Fo→Nat×St
 | .h5 i5 i6 z2 lh_0 mh_3=>(5,⟨tm 42 [(0,AV.vec 0),(1,AV.clo (Fn.func 50) [] [AV.ptr 1 0,AV.ptr 2 0]),(5,AV.int .i64 i5),(6,AV.int .i64 i6)],[AO.vec zf.sl lh_0,AO.box [AV.mp 3],AO.box (bb [] [CP.d zh] z2),AO.vmap true mh_3]⟩)
theorem zfE:zA DS.P 49 Tryz.f49 2:=aJ (by kernel_rfl)
noncomputable def Rj (l:List (List (Sem zf))) (x:Sem zh) (es:List ((Int×Int×zn)×Int)):Tr (Fo ⊕ zV):=
 let a0:=zS (ki x.1.2.2.1 es) l 0
 Tr.chk (decide (l.length≤1000000)&&l.all fun r=>zE x.1.2.2.1 (length r))
 (Tr.br (a0==-1)
  (Tr.re (AV.vec 0) [AO.vec zf.sl l,AO.box [AV.mp 3],AO.box [AV.str x.1.1,AV.sl zi x.1.2.1,AV.int .i64 x.1.2.2.1,AV.sl zg x.1.2.2.2.1,AV.sl zp x.1.2.2.2.2.1,AV.str (ze.op x.1.2.2.2.2.2),AV.int .i64 (ze.v x.1.2.2.2.2.2).1,AV.int .i64 (ze.v x.1.2.2.2.2.2).2.1,AV.str (ze.v x.1.2.2.2.2.2).2.2,AV.str (ze.s x.1.2.2.2.2.2),AV.sl Sh.expr (ze.l x.1.2.2.2.2.2),
  AV.sl zf.sl x.2],AO.vmap true es])
  (Tr.to (Fo.h5 a0 (IntKind.i64.wrap (a0+1)) (x,()) l es)))
theorem zdH (l:List (List (Sem zf))) (x:Sem zh) (es:List ((Int×Int×zn)×Int)):rn DS 4 Us Tryz.f49 [AV.vec 0,AV.clo (Fn.func 50) [] [AV.ptr 1 0,AV.ptr 2 0]] [AO.vec (Sh.sl zf) l,AO.box [AV.mp 3],AO.box (bb [] [CP.d zh] (x,())),AO.vmap true es]=(Rj l x es).map (lf Tryz.f49 Ly):=by kernel_rfl
noncomputable def KF:Fo→Tr (Fo ⊕ zV)
 | .h5 i5 i6 z2 lh_0 mh_3=>
  let a0:=lh_0.getD i6.toNat (zj zf.sl)
  let a1:=IntKind.i64.wrap (i6+1)
  let a2:=decide (0≤i5)
  let a3:=List.take i5.toNat lh_0++List.replicate (lh_0.length - i5.toNat) []
  let a4:=(↑a3.length:Int)
  Tr.br (decide (i6 < (↑lh_0.length:Int)))
  (Tr.chk (zE i6 lh_0.length) (Tr.chk (decide (i6.toNat < lh_0.length)) (Tr.chk (zE z2.1.1.2.2.1 (length a0)) (Tr.br (!fW mh_3 (getD a0 (toNat z2.1.1.2.2.1) (zj zf))) (Tr.chk (zE i5 lh_0.length) (Tr.chk (decide (i5.toNat < lh_0.length)) (Tr.to (Fo.h5 (IntKind.i64.wrap (i5+1)) a1 z2 (lh_0.set i5.toNat a0) mh_3)))) (Tr.to (Fo.h5 i5 a1 z2 lh_0 mh_3))))))
  (Tr.chk (a2&&decide (i5≤(↑lh_0.length:Int))) (Tr.chk (decide (i5.toNat≤lh_0.length)) (Tr.chk (decide (0≤0)&&a2&&decide (i5≤a4)) (Tr.re (AV.sl zf.sl (List.take (i5.toNat - toNat 0) (List.drop (toNat 0) a3))) [AO.frz zf.sl a3,AO.box [AV.mp 3],AO.box [AV.str z2.1.1.1,AV.sl zi z2.1.1.2.1,AV.int .i64 z2.1.1.2.2.1,
  AV.sl zg z2.1.1.2.2.2.1,AV.sl zp z2.1.1.2.2.2.2.1,AV.str (ze.op z2.1.1.2.2.2.2.2),AV.int .i64 (ze.v z2.1.1.2.2.2.2.2).1,AV.int .i64 (ze.v z2.1.1.2.2.2.2.2).2.1,AV.str (ze.v z2.1.1.2.2.2.2.2).2.2,AV.str (ze.s z2.1.1.2.2.2.2.2),AV.sl Sh.expr (ze.l z2.1.1.2.2.2.2.2),AV.sl zf.sl z2.1.2],AO.vmap true mh_3]))))
theorem zgc:∀ s,run DS 4 Us (Func.results Tryz.f49).toList 400 (zx Tryz.f49 (Ly s).1) (Ly s).2=(KF s).map (lf Tryz.f49 Ly):=by intro s; cases s <;> kernel_rfl
noncomputable def TF (l:List (List (Sem zf))) (x:Sem zh) (es:List ((Int×Int×zn)×Int)):=cd KF 100000000 (Rj l x es)

set_option maxHeartbeats 2000000

theorem mc {α:Type} (p:α→Bool):∀ (l:List α) (i:Nat),(zS p l i=-1∧∀ x∈l,p x=false)∨∃ (k:Nat) (h:k < l.length),zS p l i=((i+k:Nat):Int)∧p l[k]=true∧∀ x∈l.take k,p x=false
 | [],_=>.inl ⟨rfl,by simp⟩
 | x::r,i=>by
  unfold zS
  split
  ·rename_i h
   exact .inr ⟨0,by simp,rfl,h,by simp⟩
  ·rename_i h
   have hx:p x=false:=by simpa using h
   rcases mc p r (i+1) with ⟨h1,h2⟩ | ⟨k,hk,h1,h2,h3⟩
   ·refine .inl ⟨h1,fun y hy=>?_⟩
    rcases dW.1 hy with rfl | hy
    ·exact hx
    ·exact h2 y hy
   ·refine .inr ⟨k+1,by simpa using hk,by rw [h1]; congr 1; omega,by simpa using h2,fun y hy=>?_⟩
    rw [List.take_succ_cons] at hy
    rcases dW.1 hy with rfl | hy
    ·exact hx
    ·exact h3 y hy

theorem O4 {α:Type} {l:List α} {i:Nat} (h:i < l.length):l.take (i+1)=l.take i++[l[i]]:=by
 rw [List.take_add_one,zI h]; rfl
abbrev rD (k:Int) (es:List ((Int×Int×zn)×Int)):List (Sem zf)→Bool:=fun r => !ki k es r
abbrev Ja (k:Int) (es:List ((Int×Int×zn)×Int)) (l:List (List (Sem zf))):List (List (Sem zf)):=l.filter (rD k es)++List.replicate (l.length - (l.filter (rD k es)).length) ([]:List (Sem zf))
def zda (x:Sem zh) (es:List ((Int×Int×zn)×Int)) (l:List (List (Sem zf))):List AO:=[AO.frz zf.sl (Ja x.1.2.2.1 es l),AO.box [AV.mp 3],AO.box (bb [] [CP.d zh] (x,())),AO.vmap true es]

theorem QX (l:List (List (Sem zf))) (x:Sem zh) (es:List ((Int×Int×zn)×Int)) (hl:l.length≤1000000) (hk:∀ r∈l,zE x.1.2.2.1 (length r)=true):∀ (m i6 i5 n:Nat) (cur:List (List (Sem zf))),l.length - i6=m→i6≤l.length→i5≤i6→cur.length=l.length→
  cur.take i5=(l.take i6).filter (rD x.1.2.2.1 es)→cur.drop i6=l.drop i6→m < n→
  bU KF n (.h5 (i5:Int) (i6:Int) (x,()) cur es)=some (.sl zf.sl (l.filter (rD x.1.2.2.1 es)),zda x es l):=by
 intro m
 induction m with
 | zero=>
  intro i6 i5 n cur hm' hi h5 hcl ht hd hn
  obtain rfl:i6=l.length:=by omega
  obtain ⟨n,rfl⟩:∃ k,n=k+1:=⟨n - 1,by omega⟩
  rw [List.take_length] at ht
  have hlen5:(l.filter (rD x.1.2.2.1 es)).length=i5:=by rw [← ht,List.length_take]; omega
  have e1:decide ((l.length:Int) < (cur.length:Int))=false:=by rw [hcl]; simp
  have e2:(decide ((0:Int)≤(i5:Int))&&decide ((i5:Int)≤(cur.length:Int)))=true:=by simp; omega
  have e3:decide ((i5:Int).toNat≤cur.length)=true:=by simp; omega
  have e4:(decide ((0:Int)≤0)&&decide ((0:Int)≤(i5:Int))&&decide ((i5:Int)≤((List.take (i5:Int).toNat cur++List.replicate (cur.length - (i5:Int).toNat) ([]:List (Sem zf))).length:Int)))=true:=by simp; omega
  rw [bU]
  simp only [KF,Tr.val,e1,e2,e3,if_true,zO,if_false]
  have e5:List.take ((i5:Int).toNat - toNat 0) (List.drop (toNat 0) (List.take (i5:Int).toNat cur++List.replicate (cur.length - (i5:Int).toNat) ([]:List (Sem zf))))=l.filter (rD x.1.2.2.1 es):=by
   simp only [bl,Int.toNat_zero,List.drop_zero,Nat.sub_zero]
   rw [List.take_append_of_le_length (by simp; omega),List.take_take,Nat.min_self,ht]
  have e6:List.take (i5:Int).toNat cur++List.replicate (cur.length - (i5:Int).toNat) ([]:List (Sem zf))=Ja x.1.2.2.1 es l:=by
   simp only [bl]
   rw [ht,hcl]
   unfold Ja
   rw [hlen5]
  rw [if_pos (by simp; omega),e5,e6]
  rfl
 | succ m IH=>
  intro i6 i5 n cur hm' hi h5 hcl ht hd hn
  obtain ⟨n,rfl⟩:∃ k,n=k+1:=⟨n - 1,by omega⟩
  have hlt:i6 < l.length:=by omega
  have hltc:i6 < cur.length:=by omega
  have h5c:i5 < cur.length:=by omega
  have hc6:cur[i6]=l[i6]:=by
   have:=congrArg (·[0]?) hd
   simp only [nA,oU] at this
   rw [zI hltc,zI hlt] at this
   exact Option.some.inj this
  have h2:decide ((i6:Int).toNat < cur.length)=true:=by simpa using hltc
  have h3:decide ((i5:Int).toNat < cur.length)=true:=by simpa using h5c
  have ht6:l.take (i6+1)=l.take i6++[l[i6]]:=O4 hlt
  have hd6:cur.drop (i6+1)=l.drop (i6+1):=by
   have:=congrArg (List.drop 1) hd
   simpa [List.drop_drop,oT] using this
  have h7:=hk l[i6] (cx hlt)
  rw [bU]
  simp only [KF,Tr.val,zW hltc,zG hltc,zG h5c,h2,h3,zY cur _ hltc,hc6,h7,zH i6 (by unfold zF; omega),zH i5 (by unfold zF; omega),if_true]
  by_cases hk':ki x.1.2.2.1 es l[i6]=true
  ·have h':fW es (getD l[i6] (toNat x.1.2.2.1) (zj zf))=true:=hk'
   simp only [h',iT,zO,if_false]
   refine IH (i6+1) i5 n cur (by omega) (by omega) (by omega) hcl ?_ hd6 (by omega)
   rw [ht6,List.filter_append,← ht,List.filter_cons_of_neg (by simp [rD,hk']),List.filter_nil,nB]
  ·have hkf:ki x.1.2.2.1 es l[i6]=false:=by simpa using hk'
   have h':fW es (getD l[i6] (toNat x.1.2.2.1) (zj zf))=false:=hkf
   simp only [h',yu,if_true]
   refine IH (i6+1) (i5+1) n _ (by omega) (by omega) (by omega) (by simpa using hcl) ?_ ?_ (by omega)
   ·rw [ht6,List.filter_append,← ht]
    simp only [bl]
    rw [O4 (by simpa using h5c),List.filter_cons_of_pos (by simp [rD,hkf]),List.filter_nil]
    simp [List.take_set_of_le]
   ·simp only [bl]
    rw [List.drop_set_of_lt (by omega)]
    exact hd6
theorem Lt (l:List (List (Sem zf))) (x:Sem zh) (es:List ((Int×Int×zn)×Int)) (hl:l.length≤1000000) (hk:∀ r∈l,zE x.1.2.2.1 (length r)=true):
  TF l x es=some (if zS (ki x.1.2.2.1 es) l 0==-1 then (.vec 0,MU l x es) else (.sl zf.sl (l.filter (rD x.1.2.2.1 es)),zda x es l)):=by
 have h0:(decide (l.length≤1000000)&&l.all fun r=>zE x.1.2.2.1 (length r))=true:=by
  simp only [aE,zZ,cR]
  exact ⟨hl,hk⟩
 unfold TF cd Rj
 simp only [Tr.val,h0,if_true]
 by_cases h1:(zS (ki x.1.2.2.1 es) l 0==-1)=true
 ·simp only [h1,if_true]
  rfl
 ·rw [if_neg h1,if_neg h1]
  rcases mc (ki x.1.2.2.1 es) l 0 with ⟨h2,_⟩ | ⟨k,hk',h2,h3,h4⟩
  ·exfalso; apply h1; rw [h2]; rfl
  ·rw [h2,iU,zH k (by unfold zF; omega)]
   refine QX l x es hl hk (l.length - (k+1)) (k+1) k 100000000 l rfl (by omega) (by omega) rfl ?_ rfl (by omega)
   rw [O4 hk',List.filter_append,List.filter_cons_of_neg (by simp [rD,h3]),List.filter_nil,nB]
   refine (List.filter_eq_self.2 fun y hy=>?_).symm
   simp [rD,h4 y hy]

def zcN:cy [none,none]:=fun a h=>match a,h with
 | (.vec 0,.clo (.func 50) [] [.ptr 1 0,.ptr 2 0],_),[.vec (.sl wh) l,.box [.mp 3],.box [.str n,.sl zgo cs,.int .i64 k,.sl (.int .i64) us,.sl zgp fs,.str eo,.int .i64 p,.int .i64 q,.str vs,.str ss,.sl .expr el,.sl (.sl wh) rs],.vmap true es]=>
  .chk (decide (length l≤1000000)&&List.all l (fun r=>zE k (length r))) (.br (zS (ki k es) l 0==-1)
   (.ok (.vec 0,[.vec (.sl zf) l,.box [.mp 3],.box [.str n,.sl zi cs,.int .i64 k,.sl zg us,.sl zp fs,.str eo,.int .i64 p,.int .i64 q,.str vs,.str ss,.sl .expr el,.sl (.sl zf) rs],.vmap true es]))
   (.ok (.sl (.sl zf) (List.filter (rD k es) l),[.frz (.sl zf) (Ja k es l),.box [.mp 3],.box [.str n,.sl zi cs,.int .i64 k,.sl zg us,.sl zp fs,.str eo,.int .i64 p,.int .i64 q,.str vs,.str ss,.sl .expr el,.sl (.sl zf) rs],.vmap true es])))
 | _,_=>.err
def zaL:zD:=zR [none,none] zcN
theorem We:FK 49 zaL:=by
 refine gy (ι:=List (List (Sem zf))×Sem zh×List ((Int×Int×zn)×Int)) (args:=fun _=>[AV.vec 0,AV.clo (Fn.func 50) [] [AV.ptr 1 0,AV.ptr 2 0]]) (heap:=fun y=>MU y.1 y.2.1 y.2.2) (i:=fun y=>Rj y.1 y.2.1 y.2.2) (t:=KF) (e:=Ly) (n:=100000000) (n0:=4) yY zfE (fun _=>rfl) (fun y=>zdH _ _ _) zgc (fun a h res hv=>?_)
 unfold zcN at hv
 split at hv
 ·rename_i u l n cs k us fs eo p q vs ss el rs es
  simp only [Tr.val] at hv
  split at hv
  ·rename_i h1
   simp only [aE,zZ,cR] at h1
   have h2:=Lt l ((n,cs,k,us,fs,ze.mk eo (p,q,vs) ss el),rs) es h1.1 h1.2
   refine ⟨(l,((n,cs,k,us,fs,ze.mk eo (p,q,vs) ss el),rs),es),rfl,rfl,?_⟩
   refine h2.trans ?_
   split at hv
   ·rename_i h3
    rw [if_pos h3]
    exact hv
   ·rename_i h3
    rw [if_neg h3]
    exact hv
  ·cases hv
 ·simp at hv

noncomputable def L2:=DS.add 49 zaL
theorem oo:zm L2:=yY.add We
noncomputable section

def zee (x0:Sem ah):Tr (Empty ⊕ zV):=
 let a0:=aF x0.1 x0.2.2.1
 let a1:=getD x0.1 (toNat a0) (zj zh)
 let a2:=((a1.1.1,a1.1.2.1,a1.1.2.2.1,a1.1.2.2.2.1,a1.1.2.2.2.2.1,zB a1.1.2.2.2.2.2),a1.2)
 let a3:=zB x0.2.2.2.2.2.2.2.2.2.2.2.2.1
 let a4:=rr a2 a3
 let a5:=bY a4.2
 Tr.br (decide (a0 < 0))
 (Tr.chk true
  (Tr.re (AV.tup [AV.sl zh (bY 6).1,AV.agg [AV.int .i64 (bY 6).2.1,AV.int .i64 (bY 6).2.2.1,AV.sl zf.sl (bY 6).2.2.2]]) []))
 (Tr.chk (zE a0 (length x0.1))
  (Tr.chk (na a2 a3) (Tr.br (a4.2 != 0) (Tr.chk (n8 a4.2) (Tr.re (AV.tup [AV.sl zh a5.1,AV.agg [AV.int .i64 a5.2.1,AV.int .i64 a5.2.2.1,AV.sl zf.sl a5.2.2.2]]) [])) (Tr.re (AV.tup [AV.sl zh x0.1,AV.agg [AV.int .i64 0,AV.int .i64 (↑(length a4.1):Int),AV.sl zf.sl a4.1]]) []))))
def j4 (x0:Sem ah):=zT [zh.sl,eE] t0 100000000 (zee x0)
def ux (x0:Sem ah):=(j4 x0).isSome
def Bj (x0:Sem ah):=o2 (j4 x0)
def zar:=FT [ah] [zh.sl,eE] fun x=>j4 x.1
theorem VP:FK 22 zar:=oo.T1 (f:=Tryz.f22) (keep:=k0) (e:=e0)

def ziG (x0:Sem ah):Tr (Empty ⊕ zV):=
 let a0:=aF x0.1 x0.2.2.1
 let a1:=(x0.1,x0.2.1,x0.2.2.1,x0.2.2.2.1,x0.2.2.2.2.1,x0.2.2.2.2.2.1,x0.2.2.2.2.2.2.1,x0.2.2.2.2.2.2.2.1,x0.2.2.2.2.2.2.2.2.1,zB x0.2.2.2.2.2.2.2.2.2.1,x0.2.2.2.2.2.2.2.2.2.2.1,x0.2.2.2.2.2.2.2.2.2.2.2.1,zB x0.2.2.2.2.2.2.2.2.2.2.2.2.1,x0.2.2.2.2.2.2.2.2.2.2.2.2.2)
 let a2:=getD x0.1 (toNat a0) (zj zh)
 let a3:=(a2.1.1,a2.1.2.1,a2.1.2.2.1,a2.1.2.2.2.1,a2.1.2.2.2.2.1,zB a2.1.2.2.2.2.2)
 let a4:=(a3,a2.2)
 let a5:=mV a1 a4
 let a6:=bY a5.2
 let a7:=decide (a5.1.length≤1073741824)
 let a8:=yB x0.1 a4
 let a9:=(↑a5.1.length:Int)
 let a10:=yA a8 a9
 let a11:=(a3,List.filter (rD a2.1.2.2.1 a5.1) a2.2)
 let a12:=yB x0.1 a11
 let a13:=yA a12 a9
 Tr.br (decide (a0 < 0))
 (Tr.chk true
  (Tr.re (AV.tup [AV.sl zh (bY 6).1,AV.agg [AV.int .i64 (bY 6).2.1,AV.int .i64 (bY 6).2.2.1,AV.sl zf.sl (bY 6).2.2.2]]) []))
 (Tr.chk (zE a0 (length x0.1))
  (Tr.chk (mO a1 a4).isSome (Tr.br (a5.2 != 0) (Tr.chk (n8 a5.2) (Tr.re (AV.tup [AV.sl zh a6.1,AV.agg [AV.int .i64 a6.2.1,AV.int .i64 a6.2.2.1,AV.sl zf.sl a6.2.2.2]]) [])) (Tr.chk (decide (length a2.2≤1073741824)) (Tr.chk (decide (length a2.2≤1000000)&&List.all a2.2 fun r=>zE a2.1.2.2.1 (length r)) (Tr.br (zS (ki a2.1.2.2.1 a5.1) a2.2 0==-1)
  (Tr.chk (qv x0.1 a4) (Tr.chk a7 (Tr.chk (qu a8 a9) (Tr.re (AV.tup [AV.sl zh a10.1,AV.agg [AV.int .i64 a10.2.1,AV.int .i64 a10.2.2.1,AV.sl zf.sl a10.2.2.2]]) [])))) (Tr.chk (qv x0.1 a11) (Tr.chk a7 (Tr.chk (qu a12 a9) (Tr.re (AV.tup [AV.sl zh a13.1,AV.agg [AV.int .i64 a13.2.1,AV.int .i64 a13.2.2.1,AV.sl zf.sl a13.2.2.2]]) []))))))))))
def uC (x0:Sem ah):=zT [zh.sl,eE] t0 100000000 (ziG x0)
def Lq (x0:Sem ah):=(uC x0).isSome
def QW (x0:Sem ah):=o2 (uC x0)
def zao:=FT [ah] [zh.sl,eE] fun x=>uC x.1
theorem VM:FK 21 zao:=oo.T1 (f:=Tryz.f21) (keep:=k0) (e:=e0)

def By:=L2.addL [(22,zar),(21,zao)]
theorem oq:zm By:=oo.addL <| fc VP <| fc VM <|  gW
end

theorem gi {c g:Bool} (h1:c=true) (h2:g=true):(if c=true then g else false)=true:=by rw [if_pos h1]; exact h2
theorem ao {a b:Nat} (h:a≤b):decide (a≤b)=true:=aZ h

theorem AS {v:Sem zf} (h:fC v=true) (h2:(v.1==2)=true):v.2.2.length≤40:=by
 have e:v.1=2:=by simpa using h2
 unfold fC at h
 rw [e] at h
 simp only [show ((2:Int)==0)=false from rfl,show ((2:Int)==1)=false from rfl,show ((2:Int)==2)=true from rfl,zO,if_false,if_true] at h
 cases h1:v.2.1==0
 ·rw [h1] at h; simp at h
 ·rw [h1] at h
  cases h3:decide ((v.2.2.length:Int)≤40)
  ·rw [h3] at h; simp at h
  ·have:=dG h3
   omega

theorem sB (v:Sem zf):lg v=true:=by
 unfold lg
 split
 ·rfl
 ·rename_i hm
  have hm:fC v=true:=by simpa using hm
  split
  ·rfl
  ·split
   ·rename_i h2
    have hl:=AS hm h2
    have hr:=je v.2.2 [39] [39,39]
    have hr2:(Lib.replaceAll v.2.2 [39] [39,39]).length≤200:=by
     simp only [lp,List.length_nil] at hr
     omega
    refine gi ?_ (gi (ao ?_) (gi (ao ?_) rfl))
    ·unfold pN
     simp
     omega
    ·simp; omega
    ·simp; omega
   ·rfl

theorem rG (v:Sem zf):(fV v).length≤300:=by
 unfold fV
 split
 ·simp
 ·rename_i hm
  have hm:fC v=true:=by simpa using hm
  split
  ·have:=Al v.2.1
   omega
  ·split
   ·rename_i h2
    have hl:=AS hm h2
    have hr:=je v.2.2 [39] [39,39]
    simp only [lp,List.length_nil] at hr
    simp
    omega
   ·split
    ·split <;> simp
    ·simp

theorem kz {s:zn} (h:gU s=true):s.length≤16:=by
 have h:mC s=true:=h
 unfold mC at h
 by_cases h2:(s.length:Int)≤16
 ·omega
 ·exfalso
  rw [er h2] at h
  cases h1:decide ((s.length:Int) ≥ 1) <;> rw [h1] at h <;> simp at h

theorem Nx {g:ze→Int→Int→Bool×Int} {e:ze} {d n:Int} (h:(BW g e d n).1=true) (hc:e.op=[99,111,108]):e.s.length≤16:=by
 unfold BW at h
 split at h
 ·cases h
 ·split at h
  ·rename_i h1; rw [hc] at h1; simp at h1
  ·split at h
   ·cases h1:nL e.v
    ·rw [h1] at h; simp at h
    ·rw [h1] at h
     cases h2:gU e.s
     ·rw [h2] at h; simp at h
     ·exact kz h2
   ·rename_i h1; rw [hc] at h1; simp at h1

theorem cw (s:zn):(Lib.toUpperA s).length=s.length:=by simp [Lib.toUpperA]

theorem uI:∀ (N:Nat) (e:ze) (d n:Int),N≤16→(kj N e d n).1=true→gz N e=true∧(bC N e).length≤400 * 2 ^ N - 100
 | 0,_,_,_,_,h=>by cases h
 | N + 1,e,d,n,hN,h=>by
  rw [kj] at h
  obtain ⟨hl,h2⟩:=qX h
  have hp:2 ^ N≤2 ^ 15:=Nat.pow_le_pow_right (by omega) (by omega)
  have hp1:1≤2 ^ N:=Nat.one_le_two_pow
  have hpp:2 ^ (N+1)=2 * 2 ^ N:=by rw [Nat.pow_succ]; omega
  have hparts:∀ x∈e.l,gz N x=true∧(bC N x).length≤400 * 2 ^ N - 100:=by
   intro x hx
   rcases h2 with h2 | h2
   ·exfalso
    have:cn e.op=0:=by
     rcases h2 with h2 | h2 <;> rw [h2] <;> decide
    rw [this] at hl
    have:e.l=[]:=Dg (by omega)
    rw [this] at hx; simp at hx
   ·obtain ⟨m,hm⟩:=py e.l _ h2 x hx
    exact uI N x _ _ (by omega) hm
  have hget:∀ i,i < e.l.length→e.l.getD i (zj Sh.expr)∈e.l:=by
   intro i hi
   rw [aB,zI hi]
   exact cx hi
  rw [gz,bC]
  unfold sU uH
  rcases mi e.op with ⟨hp0,hop | hop⟩ | ⟨hp0,hop | hop⟩ | ⟨hp0,hop⟩ | hp0
  ·rw [hop]
   simp only [beq_self_eq_true,if_true]
   refine ⟨gi (sB _) rfl,?_⟩
   have:=rG e.v
   omega
  ·have hs:=Nx h hop
   rw [hop]
   refine ⟨rfl,?_⟩
   show e.s.length≤_
   omega
  ·rw [hp0] at hl
   have hlen:e.l.length=1:=by omega
   obtain ⟨k1,k2⟩:=hparts _ (hget 0 (by omega))
   rw [hop]
   refine ⟨gi ?_ (gi k1 (gi (ao ?_) (gi (ao ?_) rfl))),?_⟩
   ·simp [zE,hlen]
   ·simp at k2 ⊢; omega
   ·simp at k2 ⊢; omega
   ·show ([40,78,79,84,32]++bC N (e.l.getD 0 (zj Sh.expr))++[41]).length≤_
    simp at k2 ⊢; omega
  ·rw [hp0] at hl
   have hlen:e.l.length=1:=by omega
   obtain ⟨k1,k2⟩:=hparts _ (hget 0 (by omega))
   rw [hop]
   refine ⟨gi ?_ (gi k1 (gi (ao ?_) (gi (ao ?_) rfl))),?_⟩
   ·simp [zE,hlen]
   ·simp at k2 ⊢; omega
   ·simp at k2 ⊢; omega
   ·show ([40]++bC N (e.l.getD 0 (zj Sh.expr))++[32,73,83,32,78,85,76,76,41]).length≤_
    simp at k2 ⊢; omega
  ·rw [hp0] at hl
   have hlen:e.l.length=2:=by omega
   obtain ⟨k1,k2⟩:=hparts _ (hget 0 (by omega))
   obtain ⟨k3,k4⟩:=hparts _ (hget 1 (by omega))
   have hu:(decide (e.op.length≤140737488355328)&&e.op.all fun b=>decide (b.toNat < 128))=true:=by
    rcases hop with hop | hop | hop | hop | hop | hop <;> rw [hop] <;> decide
   have hol:e.op.length≤3:=by
    rcases hop with hop | hop | hop | hop | hop | hop <;> rw [hop] <;> simp
   have hul:=cw e.op
   have n1:(e.op==[108,105,116])=false:=by rcases hop with hop | hop | hop | hop | hop | hop <;> rw [hop] <;> rfl
   have n2:(e.op==[99,111,108])=false:=by rcases hop with hop | hop | hop | hop | hop | hop <;> rw [hop] <;> rfl
   have n3:(e.op==[110,111,116])=false:=by rcases hop with hop | hop | hop | hop | hop | hop <;> rw [hop] <;> rfl
   have n4:(e.op==[110,117,108,108])=false:=by rcases hop with hop | hop | hop | hop | hop | hop <;> rw [hop] <;> rfl
   simp only [n1,n2,n3,n4,zO,if_false]
   refine ⟨gi ?_ (gi k1 (gi (ao ?_) (gi (ao ?_) (gi hu (gi (ao ?_) (gi (ao ?_) (gi ?_ (gi k3 (gi (ao ?_) (gi (ao ?_) rfl)))))))))),?_⟩
   ·simp [zE,hlen]
   all_goals first
    | (simp [zE,hlen]; done)
    | (simp at k2 k4 ⊢; omega)
  ·rw [hp0] at hl
   omega

theorem BJ (e:ze):mQ e=true:=by
 unfold mQ
 split
 ·rfl
 ·rename_i h
  exact gi (uI 16 e 1 0 (by omega) (by simpa [hY] using h)).1 rfl

theorem F3 (e:ze):(jI e).1.length≤30000000:=by
 unfold jI
 split
 ·simp
 ·rename_i h
  have:=(uI 16 e 1 0 (by omega) (by simpa [hY] using h)).2
  show (bC 16 e).length≤_
  omega


theorem H2 (p:Int→Bool):∀ s:zn,fi p s≤s.length
 | []=>by simp [fi]
 | c::r=>by
  have:=H2 p r
  rw [fi]
  split <;> simp <;> omega
theorem nd (f m:Int→Bool) (s:zn):aq f m s≤s.length:=by
 cases s with
 | nil=>simp [aq]
 | cons c r=>
  have:=H2 m r
  rw [aq]
  split <;> simp <;> omega

theorem UX (i:Nat) (h:i≤4000000000):IntKind.i64.wrap (i:Int)=(i:Int):=by
 have:=zH (i - 1) (by unfold zF; omega)
 cases i with
 | zero=>rfl
 | succ i=>simpa using this

theorem mE (i:Nat) (h:i≤4000000000):IntKind.i64.wrap ((i:Int)+1)=((i+1:Nat):Int):=zH i (by unfold zF; omega)

theorem kV:∀ (n:Nat) (s:zn) (i:Nat) (a:Int) (b:zn),1≤i→i≤s.length→s.length+2≤n+i→s.length≤1000000000→gv n s (i:Int) a b=true
 | 0,s,i,a,b,h1,h2,h3,h4=>by omega
 | n + 1,s,i,a,b,h1,h2,h3,h4=>by
  rw [gv]
  split
  ·rename_i hlt
   have hlt:i < s.length:=by have:=dG hlt; omega
   refine gi (zG hlt) ?_
   rw [mE i (by omega)]
   split
   ·exact kV n s (i+1) a b (by omega) (by omega) (by omega) h4
   ·refine gi ?_ ?_
    ·cases hd:decide (((i+1:Nat):Int) < (s.length:Int))
     ·rfl
     ·exact zG (by have:=dG hd; omega)
    ·split
     ·rename_i hh
      have h5:i+1 < s.length:=by
       cases hd:decide (((i+1:Nat):Int) < (s.length:Int))
       ·rw [hd] at hh; simp at hh
       ·have:=dG hd; omega
      rw [mE (i+1) (by omega)]
      exact kV n s (i+1+1) a b (by omega) (by omega) (by omega) h4
     ·refine gi ?_ (gi ?_ rfl)
      ·simp; omega
      ·unfold pN
       simp
       omega
  ·rfl

theorem oD:∀ (n:Nat) (s:zn) (i:Nat) (a:Int) (b:zn),1≤i→i≤s.length→s.length+2≤n+i→s.length≤1000000000→
  (dI n s (i:Int) a b=((0,[]),0))∨∃ k:Nat,(dI n s (i:Int) a b).2=(k:Int)∧1≤k∧k≤s.length
 | 0,s,i,a,b,h1,h2,h3,h4=>by omega
 | n + 1,s,i,a,b,h1,h2,h3,h4=>by
  rw [dI]
  split
  ·rename_i hlt
   have hlt:i < s.length:=by have:=dG hlt; omega
   rw [mE i (by omega)]
   split
   ·exact oD n s (i+1) a b (by omega) (by omega) (by omega) h4
   ·split
    ·rename_i hh
     have h5:i+1 < s.length:=by
      cases hd:decide (((i+1:Nat):Int) < (s.length:Int))
      ·rw [hd] at hh; simp at hh
      ·have:=dG hd; omega
     rw [mE (i+1) (by omega)]
     exact oD n s (i+1+1) a b (by omega) (by omega) (by omega) h4
    ·exact .inr ⟨i+1,rfl,by omega,by omega⟩
  ·exact .inl rfl

theorem CO (t:Sem ed):nk t=true:=by
 unfold nk
 split
 ·rfl
 ·split
  ·refine gi ?_ rfl
   cases h:((t.2.length:Int)==1)
   ·rfl
   ·have:(t.2.length:Int)=1:=by simpa using h
    simp only [bO,eQ]
    omega
  ·simp

theorem xw (s:zn) (h0:s≠[]) (h1:s.length≤1000000000):iS s=true:=by
 have hl:1≤s.length:=by cases s with | nil=>exact absurd rfl h0 | cons _ _=>simp
 have r1:=nd aA bV s
 have r2:=nd zQ zQ s
 have hq:iB s=true:=kV (s.length+1) s 1 _ _ (by omega) hl (by omega) h1
 have hb:zE 0 s.length=true:=zG hl
 have d1:(decide ((0:Int)≤0)&&decide (0≤(↑(aq aA bV s):Int))&&decide ((↑(aq aA bV s):Int)≤(↑(length s):Int)))=true:=by simp; omega
 have d2:(decide ((0:Int)≤0)&&decide (0≤(↑(aq zQ zQ s):Int))&&decide ((↑(aq zQ zQ s):Int)≤(↑(length s):Int)))=true:=by simp; omega
 have d3:(decide ((0:Int)≤0)&&decide ((0:Int)≤1)&&decide (1≤(↑(length s):Int)))=true:=by simp; omega
 unfold iS
 simp only [hq,hb,if_true,zO,if_false]
 repeat' split
 all_goals first
  | rfl
  | (rename_i h; exfalso; apply h; simp; omega)

theorem qa (s:zn) (h0:s≠[]) (h1:s.length≤1000000000) (hm:fm (aU s).1=true):∃ k:Nat,(aU s).2=(k:Int)∧1≤k∧k≤s.length:=by
 have hl:1≤s.length:=by cases s with | nil=>exact absurd rfl h0 | cons _ _=>simp
 have r1:=nd aA bV s
 have r2:=nd zQ zQ s
 have hq:=oD (s.length+1) s 1 0 [] (by omega) hl (by omega) h1
 unfold aU at hm ⊢
 simp only [if_true,zO,if_false] at hm ⊢
 split
 ·rename_i h
  have:=dG h
  exact ⟨_,rfl,by omega,by omega⟩
 ·rename_i h
  rw [if_neg h] at hm
  split
  ·rename_i h2
   have:=dG h2
   exact ⟨_,rfl,by omega,by omega⟩
  ·rename_i h2
   rw [if_neg h2] at hm
   split
   ·rename_i h3
    rw [if_pos h3] at hm
    rcases hq with hq | ⟨k,hk,hk1,hk2⟩
    ·exfalso
     have hqq:quoted s=((0,[]),0):=hq
     rw [hqq] at hm
     revert hm
     decide
    ·exact ⟨k,hk,hk1,hk2⟩
   ·exact ⟨1,rfl,by omega,by omega⟩

theorem qq:∀ (n:Nat) (s:zn) (i:Nat) (l:List (Sem zp)),i≤s.length→s.length+1≤n+i→s.length≤1000000000→l.length≤400→n7 n s (i:Int) l=true
 | 0,s,i,l,h1,h2,h3,h4=>by omega
 | n + 1,s,i,l,h1,h2,h3,h4=>by
  rw [n7]
  split
  ·rename_i hlt
   have hlt:i < s.length:=by have:=dG hlt; omega
   have e1:List.take ((s.length:Int).toNat - (i:Int).toNat) (List.drop (i:Int).toNat s)=s.drop i:=by
    simp only [bl]
    exact Ho (by simp)
   rw [e1]
   refine gi ?_ ?_
   ·rw [zG hlt]
    cases (((s.getD (i:Int).toNat 0).toNat:Int)==32) <;> rfl
   ·split
    ·rw [mE i (by omega)]
     exact qq n s (i+1) l (by omega) (by omega) h3 h4
    ·have hne:s.drop i≠[]:=by
      intro h
      have:=congrArg length h
      simp at this
      omega
     have hdl:(s.drop i).length≤1000000000:=by simp; omega
     refine gi ?_ (gi (xw _ hne hdl) (gi (CO _) ?_))
     ·simp; omega
     ·split
      ·rfl
      ·rename_i hh
       have hm:fm (aU (s.drop i)).1=true:=by
        cases hq:fm (aU (s.drop i)).1
        ·rw [hq] at hh; simp at hh
        ·rfl
       have hl4:l.length≠400:=by
        intro h5
        rw [hm,h5] at hh
        simp at hh
       obtain ⟨k,hk,hk1,hk2⟩:=qa _ hne hdl hm
       have hk3:k≤s.length - i:=by simpa using hk2
       refine gi (ao ?_) ?_
       ·simp; omega
       ·rw [hk,show ((i:Int)+(k:Int))=((i+k:Nat):Int) by omega,UX (i+k) (by omega)]
        exact qq n s (i+k) _ (by omega) (by omega) h3 (by simp; omega)
  ·rfl

theorem Lm (s:zn) (h:s.length≤1000000000):Ll s=true:=qq (s.length+1) s 0 [] (by omega) (by omega) h (by simp)

structure gZ (s:Sem zy):Prop where
 op:s.1.length≤1000
 table:s.2.1.length≤1000
 other:s.2.2.1.length≤1000
 names:s.2.2.2.1.length≤20∧∀ x∈s.2.2.2.1,length x≤1000
 cols:s.2.2.2.2.1.length≤20∧∀ x∈s.2.2.2.2.1,length x.1≤1000
 key:s.2.2.2.2.2.1.length≤1000
 uniques:s.2.2.2.2.2.2.1.length≤20∧∀ x∈s.2.2.2.2.2.2.1,length x≤1000
 refs:s.2.2.2.2.2.2.2.1.length≤20∧∀ x∈s.2.2.2.2.2.2.2.1,length x.1≤1000∧length x.2≤1000
 row:s.2.2.2.2.2.2.2.2.2.1.length≤20
 sets:s.2.2.2.2.2.2.2.2.2.2.1.length≤20∧∀ x∈s.2.2.2.2.2.2.2.2.2.2.1,length x.1≤1000
 role:s.2.2.2.2.2.2.2.2.2.2.2.2.length≤1000

theorem fJ (sep:zn) (B:Nat):∀ l:List zn,(∀ x∈l,x.length≤B)→(Lib.join l sep).length≤l.length * (B+sep.length)
 | [],_=>by simp [Lib.join,List.intercalate]
 | [x],h=>by
  rw [Lib.join_one]
  have:=h x (by simp)
  simp
  omega
 | x::y::r,h=>by
  have ih:=fJ sep B (y::r) (fun z hz=>h z (lO _ hz))
  have hx:=h x (by simp)
  have e:Lib.join (x::y::r) sep=x++sep++Lib.join (y::r) sep:=by simp [Lib.join,List.intercalate,List.intersperse]
  rw [e]
  simp only [ua,lp] at ih ⊢
  rw [fE]
  omega

theorem r9 {α:Type} (p:α→Bool):∀ (l:List α) (i:Nat),(!decide (zS p l i ≥ 0))=true→∀ x∈l,p x=false
 | [],_,_,x,hx=>by simp at hx
 | y::r,i,h,x,hx=>by
  rw [zS] at h
  cases hy:p y
  ·rw [hy] at h
   rcases dW.1 hx with rfl | hx
   ·exact hy
   ·exact r9 p r (i+1) (by simpa using h) x hx
  ·exfalso
   rw [hy] at h
   simp at h
   try omega

theorem jS (e:ze):fX e=true:=gi (BJ e) rfl
theorem fA (e:ze):(bX e).length≤30000000:=F3 e
theorem gV (e:ze):xD e=true:=by
 unfold xD
 have:=fA e
 split
 ·rfl
 ·refine gi (jS e) (gi (ao ?_) rfl)
  simp; omega
theorem rI (e:ze):(fe e).length≤30000010:=by
 unfold fe
 have:=fA e
 split
 ·simp
 ·simp; omega
theorem ip (s:zn) (h:s.length≤10) (e:ze):kJ s e=true:=by
 unfold kJ
 have:=fA e
 split
 ·rfl
 ·refine gi (ao ?_) (gi (jS e) (gi (ao ?_) (gi (ao ?_) rfl)))
  all_goals (simp; omega)
theorem ur (s:zn) (h:s.length≤10) (e:ze):(hP s e).length≤30000030:=by
 unfold hP
 have:=fA e
 split
 ·simp
 ·simp; omega
theorem nR (x:Sem aQ) (h:length x.1≤1000):jg x=true:=by
 unfold jg
 have:=fA x.2
 refine gi (ao ?_) (gi (jS _) (gi (ao ?_) rfl))
 all_goals (simp; omega)
theorem su (x:Sem aQ) (h:length x.1≤1000):(cK x).length≤30001010:=by
 unfold cK
 have:=fA x.2
 simp; omega
theorem xN (x:Sem zi) (h:length x.1≤1000) (h1:(1:Int)≤x.2.1) (h2:LE.le (α:=Int) x.2.1 3):gF x=true:=by
 obtain ⟨nm,ty,nn⟩:=x
 replace h:nm.length≤1000:=h
 replace h1:LE.le (α:=Int) 1 ty:=h1
 replace h2:LE.le (α:=Int) ty 3:=h2
 have hw:IntKind.i64.wrap (ty - 1)=ty - 1:=ll _ (by omega) (by omega)
 have hin:zE (ty - 1) 3=true:=by simp [zE]; omega
 unfold gF
 simp only [hw,hin,Bool.cond_eq_ite]
 repeat' split
 all_goals first
  | rfl
  | (rename_i hf; exfalso; apply hf; simp; omega)
  | (rename_i hf _; exfalso; apply hf; simp; omega)
  | (exfalso; simp_all; omega)
theorem Dr (x:Sem zi) (h:length x.1≤1000):(dB x).length≤1100:=by
 unfold dB
 simp only [Bool.cond_eq_ite]
 repeat' split
 all_goals (simp; omega)

theorem rY:∀ (l:List (Sem zi)) (i:Int) (acc:List zn),cD l i acc=Lib.join (acc++l.map dB) [32,44,32]
 | [],i,acc=>by simp [cD]
 | x::r,i,acc=>by rw [cD,rY r]; simp
theorem Bf (B:Nat) (l:List (Sem zi)) (h:∀ x∈l,(dB x).length≤B):(dj l).length≤l.length * (B+3):=by
 unfold dj
 rw [rY]
 have:=fJ [32,44,32] B ([]++l.map dB) (fun y hy=>by
  simp only [List.nil_append,fD] at hy
  obtain ⟨x,hx,rfl⟩:=hy
  exact h x hx)
 simpa using this
theorem o7 (B:Nat) (hB:B≤100000000):∀ (l:List (Sem zi)) (i:Int) (acc:List zn),(∀ x∈l,gF x=true∧(dB x).length≤B)→(∀ x∈acc,x.length≤B)→acc.length+l.length≤40→cT l i acc=true
 | [],i,acc,_,ha,hl=>by
  rw [cT]
  refine gi ?_ rfl
  have h1:=fJ [32,44,32] B acc ha
  have h2:acc.length * (B+3)≤40 * 100000003:=jX (by simpa using hl) (by omega)
  replace h1:(Lib.join acc [32,44,32]).length≤acc.length * (B+3):=h1
  simp only [aE,zZ]
  simp at hl
  exact ⟨by omega,by omega⟩
 | x::r,i,acc,h,ha,hl=>by
  rw [cT]
  have hx:=h x (by simp)
  simp at hl
  refine gi hx.1 (gi (ao ?_) ?_)
  ·simp; omega
  ·refine o7 B hB r (i+1) _ (fun y hy=>h y (lO _ hy)) (fun y hy=>?_) (by simp; omega)
   rcases bB.1 hy with hy | hy
   ·exact ha y hy
   ·simp at hy; subst hy; exact hx.2

theorem sw:∀ (l:List (Sem Sh.str)) (i:Int) (acc:List zn),cI l i acc=Lib.join (acc++l.map lC) [32,44,32]
 | [],i,acc=>by simp [cI]
 | x::r,i,acc=>by rw [cI,sw r]; simp
theorem CH (B:Nat) (l:List (Sem Sh.str)) (h:∀ x∈l,(lC x).length≤B):(kr l).length≤l.length * (B+3):=by
 unfold kr
 rw [sw]
 have:=fJ [32,44,32] B ([]++l.map lC) (fun y hy=>by
  simp only [List.nil_append,fD] at hy
  obtain ⟨x,hx,rfl⟩:=hy
  exact h x hx)
 simpa using this
theorem p0 (B:Nat) (hB:B≤100000000):∀ (l:List (Sem Sh.str)) (i:Int) (acc:List zn),(∀ x∈l,(lC x).length≤B)→(∀ x∈acc,x.length≤B)→acc.length+l.length≤40→cZ l i acc=true
 | [],i,acc,_,ha,hl=>by
  rw [cZ]
  refine gi ?_ rfl
  have h1:=fJ [32,44,32] B acc ha
  have h2:acc.length * (B+3)≤40 * 100000003:=jX (by simpa using hl) (by omega)
  replace h1:(Lib.join acc [32,44,32]).length≤acc.length * (B+3):=h1
  simp only [aE,zZ]
  simp at hl
  exact ⟨by omega,by omega⟩
 | x::r,i,acc,h,ha,hl=>by
  rw [cZ]
  have hx:=h x (by simp)
  simp at hl
  refine gi (ao ?_) ?_
  ·simp; omega
  ·refine p0 B hB r (i+1) _ (fun y hy=>h y (lO _ hy)) (fun y hy=>?_) (by simp; omega)
   rcases bB.1 hy with hy | hy
   ·exact ha y hy
   ·simp at hy; subst hy; exact hx

theorem sC:∀ (l:List (Sem zf)) (i:Int) (acc:List zn),cJ l i acc=Lib.join (acc++l.map fV) [32,44,32]
 | [],i,acc=>by simp [cJ]
 | x::r,i,acc=>by rw [cJ,sC r]; simp
theorem CW (B:Nat) (l:List (Sem zf)) (h:∀ x∈l,(fV x).length≤B):(kx l).length≤l.length * (B+3):=by
 unfold kx
 rw [sC]
 have:=fJ [32,44,32] B ([]++l.map fV) (fun y hy=>by
  simp only [List.nil_append,fD] at hy
  obtain ⟨x,hx,rfl⟩:=hy
  exact h x hx)
 simpa using this
theorem qe (B:Nat) (hB:B≤100000000):∀ (l:List (Sem zf)) (i:Int) (acc:List zn),(∀ x∈l,lg x=true∧(fV x).length≤B)→(∀ x∈acc,x.length≤B)→acc.length+l.length≤40→c6 l i acc=true
 | [],i,acc,_,ha,hl=>by
  rw [c6]
  refine gi ?_ rfl
  have h1:=fJ [32,44,32] B acc ha
  have h2:acc.length * (B+3)≤40 * 100000003:=jX (by simpa using hl) (by omega)
  replace h1:(Lib.join acc [32,44,32]).length≤acc.length * (B+3):=h1
  simp only [aE,zZ]
  simp at hl
  exact ⟨by omega,by omega⟩
 | x::r,i,acc,h,ha,hl=>by
  rw [c6]
  have hx:=h x (by simp)
  simp at hl
  refine gi hx.1 (gi (ao ?_) ?_)
  ·simp; omega
  ·refine qe B hB r (i+1) _ (fun y hy=>h y (lO _ hy)) (fun y hy=>?_) (by simp; omega)
   rcases bB.1 hy with hy | hy
   ·exact ha y hy
   ·simp at hy; subst hy; exact hx.2

theorem sv:∀ (l:List (Sem aQ)) (i:Int) (acc:List zn),cH l i acc=Lib.join (acc++l.map cK) [32,44,32]
 | [],i,acc=>by simp [cH]
 | x::r,i,acc=>by rw [cH,sv r]; simp
theorem CE (B:Nat) (l:List (Sem aQ)) (h:∀ x∈l,(cK x).length≤B):(jh l).length≤l.length * (B+3):=by
 unfold jh
 rw [sv]
 have:=fJ [32,44,32] B ([]++l.map cK) (fun y hy=>by
  simp only [List.nil_append,fD] at hy
  obtain ⟨x,hx,rfl⟩:=hy
  exact h x hx)
 simpa using this
theorem pY (B:Nat) (hB:B≤100000000):∀ (l:List (Sem aQ)) (i:Int) (acc:List zn),(∀ x∈l,jg x=true∧(cK x).length≤B)→(∀ x∈acc,x.length≤B)→acc.length+l.length≤40→bF l i acc=true
 | [],i,acc,_,ha,hl=>by
  rw [bF]
  refine gi ?_ rfl
  have h1:=fJ [32,44,32] B acc ha
  have h2:acc.length * (B+3)≤40 * 100000003:=jX (by simpa using hl) (by omega)
  replace h1:(Lib.join acc [32,44,32]).length≤acc.length * (B+3):=h1
  simp only [aE,zZ]
  simp at hl
  exact ⟨by omega,by omega⟩
 | x::r,i,acc,h,ha,hl=>by
  rw [bF]
  have hx:=h x (by simp)
  simp at hl
  refine gi hx.1 (gi (ao ?_) ?_)
  ·simp; omega
  ·refine pY B hB r (i+1) _ (fun y hy=>h y (lO _ hy)) (fun y hy=>?_) (by simp; omega)
   rcases bB.1 hy with hy | hy
   ·exact ha y hy
   ·simp at hy; subst hy; exact hx.2

theorem bE {s:Sem zy} {g b:Bool} (hv:(dX s).val=if g=true then some (.inr (.bool b,[])) else none):jC s=g∧eC s=(g&&b):=by
 unfold jC eC tA zT cd
 rw [hv]
 cases g <;> cases b <;> exact ⟨rfl,rfl⟩
theorem sq {s:Sem zy} (hv:(dX s).val=some (.inr (.kb false,[]))):jC s=true∧eC s=false:=by
 unfold jC eC tA zT cd
 rw [hv]
 exact ⟨rfl,rfl⟩

theorem R6 {s:Sem zy} (h:eC s=true):(s.1=[99,114,101,97,116,101]∧ir s=true)∨(s.1=[103,114,111,117,112]∧s.2.2.2.1.length=2)∨
  (s.1∈([[100,114,111,112],[105,110,115,101,114,116],[117,112,100,97,116,101],[100,101,108,101,116,101],[115,101,108,101,99,116],[114,101,97,100],[119,114,105,116,101],[117,110,114,101,97,100],[117,110,119,114,105,116,101],[99,111,112,121],[106,111,105,110]]:List zn)):=by
 by_cases q0:(s.1==[99,114,101,97,116,101])=true
 ·refine .inl ⟨cB q0,?_⟩
  obtain ⟨_,hp⟩:=bE (s:=s) (g:=_) (b:=_) (by simp only [dX,dn,Tr.val,q0,if_true,zo]; exact rfl)
  rw [hp] at h
  cases h2:ir s
  ·rw [h2] at h
   cases h1:aT s.2.1 <;> rw [h1] at h <;> simp at h
  ·rfl
 by_cases q1:(s.1==[100,114,111,112])=true
 ·exact .inr (.inr (by rw [cB q1]; simp))
 by_cases q2:(s.1==[105,110,115,101,114,116])=true
 ·exact .inr (.inr (by rw [cB q2]; simp))
 by_cases q3:(s.1==[117,112,100,97,116,101])=true
 ·exact .inr (.inr (by rw [cB q3]; simp))
 by_cases q4:(s.1==[100,101,108,101,116,101])=true
 ·exact .inr (.inr (by rw [cB q4]; simp))
 by_cases q5:(s.1==[115,101,108,101,99,116])=true
 ·exact .inr (.inr (by rw [cB q5]; simp))
 by_cases q6:(s.1==[114,101,97,100])=true
 ·exact .inr (.inr (by rw [cB q6]; simp))
 by_cases q7:(s.1==[119,114,105,116,101])=true
 ·exact .inr (.inr (by rw [cB q7]; simp))
 by_cases q8:(s.1==[117,110,114,101,97,100])=true
 ·exact .inr (.inr (by rw [cB q8]; simp))
 by_cases q9:(s.1==[117,110,119,114,105,116,101])=true
 ·exact .inr (.inr (by rw [cB q9]; simp))
 by_cases q10:(s.1==[99,111,112,121])=true
 ·exact .inr (.inr (by rw [cB q10]; simp))
 by_cases q11:(s.1==[106,111,105,110])=true
 ·exact .inr (.inr (by rw [cB q11]; simp))
 by_cases q12:(s.1==[103,114,111,117,112])=true
 ·refine .inr (.inl ⟨cB q12,?_⟩)
  obtain ⟨_,hp⟩:=bE (s:=s) (g:=_) (b:=_) (by simp only [dX,dn,Tr.val,q0,q1,q2,q3,q4,q5,q6,q7,q8,q9,q10,q11,q12,if_true,if_false,zO,zo]; exact rfl)
  rw [hp] at h
  by_cases hl:s.2.2.2.1.length=2
  ·exact hl
  ·exfalso
   have hd:(bif decide ((s.2.2.2.1.length:Int) < 2) then true else decide ((s.2.2.2.1.length:Int) > 2))=true:=by
    rcases Nat.lt_or_gt_of_ne hl with h2 | h2
    ·have:decide ((s.2.2.2.1.length:Int) < 2)=true:=aZ (by omega)
     rw [this]; rfl
    ·have:decide ((s.2.2.2.1.length:Int) > 2)=true:=aZ (by omega)
     rw [this]; cases decide ((s.2.2.2.1.length:Int) < 2) <;> rfl
   rw [hd] at h
   cases h1:aT s.2.1 <;> cases h2:aT s.2.2.1 <;> rw [h1,h2] at h <;> simp at h
 obtain ⟨_,hp⟩:=sq (s:=s) (by simp only [dX,dn,Tr.val,q0,q1,q2,q3,q4,q5,q6,q7,q8,q9,q10,q11,q12,if_false,zO])
 rw [hp] at h
 cases h


theorem j0 {a0:Sem Sh.str} {a1:Sem Sh.str} {a2:Sem Sh.str} {a3:List (Sem Sh.str)} {a4:List (Sem zi)} {a5:Sem Sh.str} {a6:List (Sem Sh.str)} {a7:List (Sem (Sh.str.pr Sh.str))} {a8:zn} {a9:Int} {a10:Int} {a11:zn} {a12:zn} {a13:List (Sem Sh.expr)} {a14:List (Sem zf)} {a15:List (Sem (Sh.str.pr Sh.expr))} {a16:zn} {a17:Int} {a18:Int} {a19:zn} {a20:zn} {a21:List (Sem Sh.expr)} {a22:Sem Sh.str}:∀ (l:List (Sem (Sh.str.pr Sh.str))) (i:Int) (s:zn),(∀ x∈l,length x.1≤1000∧length x.2≤1000)→s.length+l.length * 3000≤1000000→
  cU a0 a1 a2 a3 a4 a5 a6 a7 a8 a9 a10 a11 a12 a13 a14 a15 a16 a17 a18 a19 a20 a21 a22 l i s=true∧(cE a0 a1 a2 a3 a4 a5 a6 a7 a8 a9 a10 a11 a12 a13 a14 a15 a16 a17 a18 a19 a20 a21 a22 l i s).length≤40000000
 | [],i,s,_,hs=>by
  rw [cU,cE]
  have h1:=ur [32,44,32] (by simp) (ze.mk a8 (a9,a10,a11) a12 a13)
  simp at hs
  refine ⟨gi (ip _ (by simp) _) (gi (ao ?_) (gi (ao ?_) rfl)),?_⟩
  all_goals first | omega | (simp; omega)
 | x::r,i,s,h,hs=>by
  have hx:=h x (by simp)
  simp at hs
  rw [cU,cE]
  obtain ⟨k1,k2⟩:=j0 (a0:=a0) (a1:=a1) (a2:=a2) (a3:=a3) (a4:=a4) (a5:=a5) (a6:=a6) (a7:=a7) (a8:=a8) (a9:=a9) (a10:=a10) (a11:=a11) (a12:=a12) (a13:=a13) (a14:=a14) (a15:=a15) (a16:=a16) (a17:=a17) (a18:=a18) (a19:=a19) (a20:=a20) (a21:=a21) (a22:=a22) r (i+1) (s++([32,44,32,82,69,70,69,82,69,78,67,69,83,32,40,32]++x.1++[32,41,32]++x.2)) (fun y hy=>h y (lO _ hy)) (by simp; omega)
  refine ⟨gi (ao ?_) (gi (ao ?_) (gi (ao ?_) (gi (ao ?_) k1))),k2⟩
  all_goals (simp; omega)

theorem ls {a0:Sem Sh.str} {a1:Sem Sh.str} {a2:Sem Sh.str} {a3:List (Sem Sh.str)} {a4:List (Sem zi)} {a5:Sem Sh.str} {a6:List (Sem Sh.str)} {a7:List (Sem (Sh.str.pr Sh.str))} {a8:zn} {a9:Int} {a10:Int} {a11:zn} {a12:zn} {a13:List (Sem Sh.expr)} {a14:List (Sem zf)} {a15:List (Sem (Sh.str.pr Sh.expr))} {a16:zn} {a17:Int} {a18:Int} {a19:zn} {a20:zn} {a21:List (Sem Sh.expr)} {a22:Sem Sh.str} (h7:a7.length≤20∧∀ x∈a7,length x.1≤1000∧length x.2≤1000):∀ (l:List (Sem Sh.str)) (i:Int) (s:zn),(∀ x∈l,length x≤1000)→s.length+l.length * 3000≤900000→
  dD a0 a1 a2 a3 a4 a5 a6 a7 a8 a9 a10 a11 a12 a13 a14 a15 a16 a17 a18 a19 a20 a21 a22 l i s=true∧(dk a0 a1 a2 a3 a4 a5 a6 a7 a8 a9 a10 a11 a12 a13 a14 a15 a16 a17 a18 a19 a20 a21 a22 l i s).length≤40000000
 | [],i,s,_,hs=>by
  rw [dD,dk]
  simp at hs
  exact j0 a7 0 s h7.2 (by have:=h7.1; omega)
 | x::r,i,s,h,hs=>by
  have hx:=h x (by simp)
  simp at hs
  rw [dD,dk]
  obtain ⟨k1,k2⟩:=ls (a0:=a0) (a1:=a1) (a2:=a2) (a3:=a3) (a4:=a4) (a5:=a5) (a6:=a6) (a7:=a7) (a8:=a8) (a9:=a9) (a10:=a10) (a11:=a11) (a12:=a12) (a13:=a13) (a14:=a14) (a15:=a15) (a16:=a16) (a17:=a17) (a18:=a18) (a19:=a19) (a20:=a20) (a21:=a21) (a22:=a22) h7 r (i+1) (s++([32,44,32,85,78,73,81,85,69,32,40,32]++x++[32,41])) (fun y hy=>h y (lO _ hy)) (by simp; omega)
  refine ⟨gi (ao ?_) (gi (ao ?_) (gi (ao ?_) k1)),k2⟩
  all_goals (simp; omega)

theorem Bg {s:Sem zy} (h:ir s=true):∀ x∈s.2.2.2.2.1,js x=true:=by
 intro x hx
 have hq:(!decide (zS (fun x => !js x) s.2.2.2.2.1 0 ≥ 0))=true:=by
  unfold ir at h
  cases h1:(bif decide ((↑(length s.2.2.2.2.1):Int) < 1) then true else decide ((↑(length s.2.2.2.2.1):Int) > 8))
  ·rw [h1] at h
   cases h2:(!decide (zS (fun x => !js x) s.2.2.2.2.1 0 ≥ 0))
   ·rw [h2] at h; cases h
   ·rfl
  ·rw [h1] at h; cases h
 have:=r9 (fun x => !js x) _ 0 hq x hx
 simpa using this

theorem ut {x:Sem zi} (h:js x=true):LE.le (α:=Int) 1 x.2.1∧LE.le (α:=Int) x.2.1 3:=by
 unfold js at h
 cases h1:aT x.1
 ·rw [h1] at h; cases h
 ·rw [h1] at h
  cases h2:decide (x.2.1 ≥ 1)
  ·rw [h2] at h; cases h
  ·rw [h2] at h
   have h3:decide (x.2.1≤3)=true:=h
   exact ⟨dG h2,dG h3⟩

theorem xO {s:Sem zy} (hs:gZ s) (hc:ir s=true):lT s=true∧(mI s).length≤40000000:=by
 have hcol:=Bg hc
 have c1:∀ x∈s.2.2.2.2.1,gF x=true∧(dB x).length≤1100:=fun x hx=>⟨xN x (hs.cols.2 x hx) (ut (hcol x hx)).1 (ut (hcol x hx)).2,Dr x (hs.cols.2 x hx)⟩
 have c2:iJ s.2.2.2.2.1=true:=o7 1100 (by omega) _ 0 [] c1 (by simp) (by have:=hs.cols.1; simp; omega)
 have c3:=Bf 1100 s.2.2.2.2.1 (fun x hx=>(c1 x hx).2)
 have c4:s.2.2.2.2.1.length * (1100+3)≤20 * 1103:=jX hs.cols.1 (by omega)
 have t1:=hs.table
 have t2:=hs.key
 have u1:=hs.uniques.1
 unfold lT mI
 obtain ⟨k1,k2⟩:=ls (a0:=s.1) (a1:=s.2.1) (a2:=s.2.2.1) (a3:=s.2.2.2.1) (a4:=s.2.2.2.2.1) (a5:=s.2.2.2.2.2.1) (a6:=s.2.2.2.2.2.2.1) (a8:=s.2.2.2.2.2.2.2.2.1.op) (a9:=s.2.2.2.2.2.2.2.2.1.v.1) (a10:=s.2.2.2.2.2.2.2.2.1.v.2.1) (a11:=s.2.2.2.2.2.2.2.2.1.v.2.2) (a12:=s.2.2.2.2.2.2.2.2.1.s) (a13:=s.2.2.2.2.2.2.2.2.1.l) (a14:=s.2.2.2.2.2.2.2.2.2.1) (a15:=s.2.2.2.2.2.2.2.2.2.2.1) (a16:=s.2.2.2.2.2.2.2.2.2.2.2.1.op) (a17:=s.2.2.2.2.2.2.2.2.2.2.2.1.v.1) (a18:=s.2.2.2.2.2.2.2.2.2.2.2.1.v.2.1) (a19:=s.2.2.2.2.2.2.2.2.2.2.2.1.v.2.2) (a20:=s.2.2.2.2.2.2.2.2.2.2.2.1.s) (a21:=s.2.2.2.2.2.2.2.2.2.2.2.1.l) (a22:=s.2.2.2.2.2.2.2.2.2.2.2.2)
  hs.refs s.2.2.2.2.2.2.1 0 ([67,82,69,65,84,69,32,84,65,66,76,69,32]++s.2.1++[32,40,32]++dj s.2.2.2.2.1++([32,44,32,75,69,89,32,40,32]++s.2.2.2.2.2.1++[32,41])) hs.uniques.2 (by
   have:s.2.2.2.2.2.2.1.length * 3000≤20 * 3000:=jX u1 (by omega)
   simp; omega)
 refine ⟨gi (ao ?_) (gi (ao ?_) (gi c2 (gi (ao ?_) (gi (ao ?_) (gi (ao ?_) (gi (ao ?_) k1)))))),k2⟩
 all_goals (simp; omega)

theorem gx {α β:Type} {c:Bool} {a:Option α} {F:β→Option α} {P:β→Prop} (h:c=true) (k:∃ t,a=F t∧P t):∃ t,(if c=true then a else none)=F t∧P t:=by
 subst h; exact k
theorem xg {s:Sem zy} (h:∃ t,(ly s).val=some (.inr (.str t,[]))∧t.length≤1000000000):rz s=true∧(fw s).length≤1000000000:=by
 obtain ⟨t,h,k⟩:=h
 unfold rz fw CA zT cd
 rw [h]
 exact ⟨rfl,k⟩

theorem mu {s:Sem zy} (hs:gZ s) (hp:eC s=true):rz s=true∧(fw s).length≤1000000000:=by
 have t1:=hs.table
 have t2:=hs.other
 have t3:=hs.key
 have t4:=hs.role
 have t5:=hs.op
 have tu:=cw s.1
 have w1:=rI s.2.2.2.2.2.2.2.2.2.2.2.1
 have w2:=ur [32] (by simp) s.2.2.2.2.2.2.2.2.1
 have v1:ky s.2.2.2.2.2.2.2.2.2.1=true:=qe 300 (by omega) _ 0 [] (fun x _=>⟨sB x,rG x⟩) (by simp) (by have:=hs.row; simp; omega)
 have v2:=CW 300 s.2.2.2.2.2.2.2.2.2.1 (fun x _=>rG x)
 have v3:s.2.2.2.2.2.2.2.2.2.1.length * (300+3)≤20 * 303:=jX hs.row (by omega)
 have e1:iR s.2.2.2.2.2.2.2.2.2.2.1=true:=pY 30001010 (by omega) _ 0 [] (fun x hx=>⟨nR x (hs.sets.2 x hx),su x (hs.sets.2 x hx)⟩) (by simp) (by have:=hs.sets.1; simp; omega)
 have e2:=CE 30001010 s.2.2.2.2.2.2.2.2.2.2.1 (fun x hx=>su x (hs.sets.2 x hx))
 have e3:s.2.2.2.2.2.2.2.2.2.2.1.length * (30001010+3)≤20 * 30001013:=jX hs.sets.1 (by omega)
 have n1:kv s.2.2.2.1=true:=p0 1000 (by omega) _ 0 [] (fun x hx=>hs.names.2 x hx) (by simp) (by have:=hs.names.1; simp; omega)
 have n2:=CH 1000 s.2.2.2.1 (fun x hx=>hs.names.2 x hx)
 have n3:s.2.2.2.1.length * (1000+3)≤20 * 1003:=jX hs.names.1 (by omega)
 have go:∀ op:zn,s.1=op→(∀ z:Bool,z=true→z=true):=fun _ _ _ h=>h
 clear go
 rcases R6 hp with ⟨hop,hc⟩ | ⟨hop,hl2⟩ | hop
 ·have hup:(decide (length s.1≤140737488355328)&&List.all s.1 fun b=>decide (b.toNat < 128))=true:=by rw [hop]; decide
  have q0:(s.1==[99,114,101,97,116,101])=true:=by rw [hop]; rfl
  have q1:(s.1==[100,114,111,112])=false:=by rw [hop]; rfl
  have q2:(s.1==[105,110,115,101,114,116])=false:=by rw [hop]; rfl
  have q3:(s.1==[117,112,100,97,116,101])=false:=by rw [hop]; rfl
  have q4:(s.1==[100,101,108,101,116,101])=false:=by rw [hop]; rfl
  have q5:(s.1==[115,101,108,101,99,116])=false:=by rw [hop]; rfl
  have q6:(s.1==[114,101,97,100])=false:=by rw [hop]; rfl
  have q7:(s.1==[119,114,105,116,101])=false:=by rw [hop]; rfl
  have q8:(s.1==[117,110,114,101,97,100])=false:=by rw [hop]; rfl
  have q9:(s.1==[117,110,119,114,105,116,101])=false:=by rw [hop]; rfl
  have q10:(s.1==[99,111,112,121])=false:=by rw [hop]; rfl
  have q11:(s.1==[106,111,105,110])=false:=by rw [hop]; rfl
  have q12:(s.1==[103,114,111,117,112])=false:=by rw [hop]; rfl
  have kc:=xO hs hc
  refine xg ?_
  simp only [ly,qR,Tr.val,q0,q1,q2,q3,q4,q5,q6,q7,q8,q9,q10,q11,if_true,zO,if_false,zo]
  repeat' (with_reducible refine gx ?_ ?_)
  all_goals first
   | (refine ⟨_,rfl,?_⟩; exact cC kc.2 (by omega))
   | rfl
   | exact hup
   | exact v1
   | exact e1
   | exact n1
   | exact gV _
   | exact ip _ (by simp) _
   | exact kc.1
   | (refine ao ?_; simp; omega)
   | (rw [hop]; decide)
   | (refine ao ?_; rw [hop]; simp [cw]; omega)
 ·have hup:(decide (length s.1≤140737488355328)&&List.all s.1 fun b=>decide (b.toNat < 128))=true:=by rw [hop]; decide
  have q0:(s.1==[99,114,101,97,116,101])=false:=by rw [hop]; rfl
  have q1:(s.1==[100,114,111,112])=false:=by rw [hop]; rfl
  have q2:(s.1==[105,110,115,101,114,116])=false:=by rw [hop]; rfl
  have q3:(s.1==[117,112,100,97,116,101])=false:=by rw [hop]; rfl
  have q4:(s.1==[100,101,108,101,116,101])=false:=by rw [hop]; rfl
  have q5:(s.1==[115,101,108,101,99,116])=false:=by rw [hop]; rfl
  have q6:(s.1==[114,101,97,100])=false:=by rw [hop]; rfl
  have q7:(s.1==[119,114,105,116,101])=false:=by rw [hop]; rfl
  have q8:(s.1==[117,110,114,101,97,100])=false:=by rw [hop]; rfl
  have q9:(s.1==[117,110,119,114,105,116,101])=false:=by rw [hop]; rfl
  have q10:(s.1==[99,111,112,121])=false:=by rw [hop]; rfl
  have q11:(s.1==[106,111,105,110])=false:=by rw [hop]; rfl
  have q12:(s.1==[103,114,111,117,112])=true:=by rw [hop]; rfl
  have g0:length (getD s.2.2.2.1 (toNat 0) (zj Sh.str))≤1000:=by
   rw [aB,zI (show (0:Int).toNat < s.2.2.2.1.length by rw [hl2]; decide)]
   exact hs.names.2 _ (cx _)
  have g1:length (getD s.2.2.2.1 (toNat 1) (zj Sh.str))≤1000:=by
   rw [aB,zI (show (1:Int).toNat < s.2.2.2.1.length by rw [hl2]; decide)]
   exact hs.names.2 _ (cx _)
  refine xg ?_
  simp only [ly,qR,Tr.val,q0,q1,q2,q3,q4,q5,q6,q7,q8,q9,q10,q11,zO,if_false,zo]
  repeat' (with_reducible refine gx ?_ ?_)
  all_goals first
   | (refine ⟨_,rfl,?_⟩; first | (simp at g0 g1 ⊢; omega) | (rw [hop]; simp [cw]; omega))
   | rfl
   | exact hup
   | exact v1
   | exact e1
   | exact n1
   | exact gV _
   | exact ip _ (by simp) _
   | (simp [zE,hl2]; done)
   | (refine ao ?_; simp at g0 g1 ⊢; omega)
   | (rw [hop]; decide)
   | (refine ao ?_; rw [hop]; simp [cw]; omega)
 ·simp only [dW,List.not_mem_nil,or_false] at hop
  rcases hop with hop | hop | hop | hop | hop | hop | hop | hop | hop | hop | hop
  all_goals
   have hup:(decide (length s.1≤140737488355328)&&List.all s.1 fun b=>decide (b.toNat < 128))=true:=by rw [hop]; decide
   have q0:(s.1==[99,114,101,97,116,101])=false:=by rw [hop]; rfl
   first | (have q1:(s.1==[100,114,111,112])=false:=by rw [hop]; rfl) | (have q1:(s.1==[100,114,111,112])=true:=by rw [hop]; rfl)
   first | (have q2:(s.1==[105,110,115,101,114,116])=false:=by rw [hop]; rfl) | (have q2:(s.1==[105,110,115,101,114,116])=true:=by rw [hop]; rfl)
   first | (have q3:(s.1==[117,112,100,97,116,101])=false:=by rw [hop]; rfl) | (have q3:(s.1==[117,112,100,97,116,101])=true:=by rw [hop]; rfl)
   first | (have q4:(s.1==[100,101,108,101,116,101])=false:=by rw [hop]; rfl) | (have q4:(s.1==[100,101,108,101,116,101])=true:=by rw [hop]; rfl)
   first | (have q5:(s.1==[115,101,108,101,99,116])=false:=by rw [hop]; rfl) | (have q5:(s.1==[115,101,108,101,99,116])=true:=by rw [hop]; rfl)
   first | (have q6:(s.1==[114,101,97,100])=false:=by rw [hop]; rfl) | (have q6:(s.1==[114,101,97,100])=true:=by rw [hop]; rfl)
   first | (have q7:(s.1==[119,114,105,116,101])=false:=by rw [hop]; rfl) | (have q7:(s.1==[119,114,105,116,101])=true:=by rw [hop]; rfl)
   first | (have q8:(s.1==[117,110,114,101,97,100])=false:=by rw [hop]; rfl) | (have q8:(s.1==[117,110,114,101,97,100])=true:=by rw [hop]; rfl)
   first | (have q9:(s.1==[117,110,119,114,105,116,101])=false:=by rw [hop]; rfl) | (have q9:(s.1==[117,110,119,114,105,116,101])=true:=by rw [hop]; rfl)
   first | (have q10:(s.1==[99,111,112,121])=false:=by rw [hop]; rfl) | (have q10:(s.1==[99,111,112,121])=true:=by rw [hop]; rfl)
   first | (have q11:(s.1==[106,111,105,110])=false:=by rw [hop]; rfl) | (have q11:(s.1==[106,111,105,110])=true:=by rw [hop]; rfl)
   have q12:(s.1==[103,114,111,117,112])=false:=by rw [hop]; rfl
   refine xg ?_
   simp only [ly,qR,Tr.val,q0,q1,q2,q3,q4,q5,q6,q7,q8,q9,q10,q11,if_true,zO,if_false,zo]
   repeat' (with_reducible refine gx ?_ ?_)
   all_goals first
    | (refine ⟨_,rfl,?_⟩; first | (simp; omega) | (rw [hop]; simp [cw]; omega))
    | rfl
    | exact hup
    | exact v1
    | exact e1
    | exact n1
    | exact gV _
    | exact ip _ (by simp) _
    | (refine ao ?_; simp; omega)
    | (rw [hop]; decide)
    | (refine ao ?_; rw [hop]; simp [cw]; omega)
theorem be {x:Sem zy} (h1:x.2.1.length≤1000) (h2:x.2.2.1.length≤1000) (h3:x.2.2.2.2.2.1.length≤1000) (h4:x.2.2.2.2.2.2.2.2.2.2.2.2.length≤1000):dc x=true:=by
 unfold dc
 refine gi (ao ?_) (gi (ao ?_) (gi (ao ?_) rfl))
 all_goals first | omega | (simp; omega)

theorem dh {c g:Bool} (h:g=true):(bif c then g else true)=true:=by cases c <;> simp [h]

theorem Cz {s:Sem zy} (hs:gZ s):jC s=true:=by
 have t1:=hs.table
 have t2:=hs.other
 have t3:=hs.key
 have t4:=hs.role
 by_cases q0:(s.1==[99,114,101,97,116,101])=true
 ·obtain ⟨hc,_⟩:=bE (s:=s) (g:=_) (b:=_) (by simp only [dX,dn,Tr.val,q0,if_true,zo]; exact rfl)
  rw [hc]
  exact dh (be (by simp) (by first | exact t2 | simp) (by first | exact t3 | simp) (by first | exact t4 | simp))
 by_cases q1:(s.1==[100,114,111,112])=true
 ·obtain ⟨hc,_⟩:=bE (s:=s) (g:=_) (b:=_) (by simp only [dX,dn,Tr.val,q0,q1,if_true,if_false,zO,zo]; exact rfl)
  rw [hc]
  exact dh (be (by simp) (by first | exact t2 | simp) (by first | exact t3 | simp) (by first | exact t4 | simp))
 by_cases q2:(s.1==[105,110,115,101,114,116])=true
 ·obtain ⟨hc,_⟩:=bE (s:=s) (g:=_) (b:=_) (by simp only [dX,dn,Tr.val,q0,q1,q2,if_true,if_false,zO,zo]; exact rfl)
  rw [hc]
  exact dh (be (by simp) (by first | exact t2 | simp) (by first | exact t3 | simp) (by first | exact t4 | simp))
 by_cases q3:(s.1==[117,112,100,97,116,101])=true
 ·obtain ⟨hc,_⟩:=bE (s:=s) (g:=_) (b:=_) (by simp only [dX,dn,Tr.val,q0,q1,q2,q3,if_true,if_false,zO,zo]; exact rfl)
  rw [hc]
  exact dh (be (by simp) (by first | exact t2 | simp) (by first | exact t3 | simp) (by first | exact t4 | simp))
 by_cases q4:(s.1==[100,101,108,101,116,101])=true
 ·obtain ⟨hc,_⟩:=bE (s:=s) (g:=_) (b:=_) (by simp only [dX,dn,Tr.val,q0,q1,q2,q3,q4,if_true,if_false,zO,zo]; exact rfl)
  rw [hc]
  exact dh (be (by simp) (by first | exact t2 | simp) (by first | exact t3 | simp) (by first | exact t4 | simp))
 by_cases q5:(s.1==[115,101,108,101,99,116])=true
 ·obtain ⟨hc,_⟩:=bE (s:=s) (g:=_) (b:=_) (by simp only [dX,dn,Tr.val,q0,q1,q2,q3,q4,q5,if_true,if_false,zO,zo]; exact rfl)
  rw [hc]
  exact dh (be (by simp) (by first | exact t2 | simp) (by first | exact t3 | simp) (by first | exact t4 | simp))
 by_cases q6:(s.1==[114,101,97,100])=true
 ·obtain ⟨hc,_⟩:=bE (s:=s) (g:=_) (b:=_) (by simp only [dX,dn,Tr.val,q0,q1,q2,q3,q4,q5,q6,if_true,if_false,zO,zo]; exact rfl)
  rw [hc]
  exact dh (be (by simp) (by first | exact t2 | simp) (by first | exact t3 | simp) (by first | exact t4 | simp))
 by_cases q7:(s.1==[119,114,105,116,101])=true
 ·obtain ⟨hc,_⟩:=bE (s:=s) (g:=_) (b:=_) (by simp only [dX,dn,Tr.val,q0,q1,q2,q3,q4,q5,q6,q7,if_true,if_false,zO,zo]; exact rfl)
  rw [hc]
  exact dh (be (by simp) (by first | exact t2 | simp) (by first | exact t3 | simp) (by first | exact t4 | simp))
 by_cases q8:(s.1==[117,110,114,101,97,100])=true
 ·obtain ⟨hc,_⟩:=bE (s:=s) (g:=_) (b:=_) (by simp only [dX,dn,Tr.val,q0,q1,q2,q3,q4,q5,q6,q7,q8,if_true,if_false,zO,zo]; exact rfl)
  rw [hc]
  exact dh (be (by simp) (by first | exact t2 | simp) (by first | exact t3 | simp) (by first | exact t4 | simp))
 by_cases q9:(s.1==[117,110,119,114,105,116,101])=true
 ·obtain ⟨hc,_⟩:=bE (s:=s) (g:=_) (b:=_) (by simp only [dX,dn,Tr.val,q0,q1,q2,q3,q4,q5,q6,q7,q8,q9,if_true,if_false,zO,zo]; exact rfl)
  rw [hc]
  exact dh (be (by simp) (by first | exact t2 | simp) (by first | exact t3 | simp) (by first | exact t4 | simp))
 by_cases q10:(s.1==[99,111,112,121])=true
 ·obtain ⟨hc,_⟩:=bE (s:=s) (g:=_) (b:=_) (by simp only [dX,dn,Tr.val,q0,q1,q2,q3,q4,q5,q6,q7,q8,q9,q10,if_true,if_false,zO,zo]; exact rfl)
  rw [hc]
  exact dh (be (by simp) (by first | exact t2 | simp) (by first | exact t3 | simp) (by first | exact t4 | simp))
 by_cases q11:(s.1==[106,111,105,110])=true
 ·obtain ⟨hc,_⟩:=bE (s:=s) (g:=_) (b:=_) (by simp only [dX,dn,Tr.val,q0,q1,q2,q3,q4,q5,q6,q7,q8,q9,q10,q11,if_true,if_false,zO,zo]; exact rfl)
  rw [hc]
  exact dh (be (by simp) (by first | exact t2 | simp) (by first | exact t3 | simp) (by first | exact t4 | simp))
 by_cases q12:(s.1==[103,114,111,117,112])=true
 ·obtain ⟨hc,_⟩:=bE (s:=s) (g:=_) (b:=_) (by simp only [dX,dn,Tr.val,q0,q1,q2,q3,q4,q5,q6,q7,q8,q9,q10,q11,q12,if_true,if_false,zO,zo]; exact rfl)
  rw [hc]
  exact dh (be (by simp) (by first | exact t2 | simp) (by first | exact t3 | simp) (by first | exact t4 | simp))
 exact (sq (by simp only [dX,dn,Tr.val,q0,q1,q2,q3,q4,q5,q6,q7,q8,q9,q10,q11,q12,if_false,zO])).1

theorem mv {s:Sem zy} (hs:gZ s):oH s=true:=by
 unfold oH
 refine gi ?_ rfl
 unfold pZ
 refine gi (Cz hs) ?_
 split
 ·rfl
 ·rename_i h
  have hp:eC s=true:=by simpa using h
  obtain ⟨k1,k2⟩:=mu hs hp
  exact gi k1 (gi (Lm _ k2) rfl)

theorem xC:∀ (es:List ((Int×Int×zn)×Int)) (n:Nat) (x:Int),(ie es n x).length=es.length
 | [],_,_=>rfl
 | _::_,0,_=>rfl
 | _::r,n+1,x=>by simp [ie,xC r n x]
theorem Pd (es:List ((Int×Int×zn)×Int)) (k:Int×Int×zn):(gT es k).length≤es.length+1:=by
 unfold gT
 cases fW es k <;> simp
theorem AU:∀ (es:List ((Int×Int×zn)×Int)) (k:Int×Int×zn),(fW es k=true→jm es k < es.length)∧jm es k≤es.length
 | [],k=>⟨fun h=>by simp [fW] at h,aM _⟩
 | p::r,k=>by
  obtain ⟨h1,h2⟩:=AU r k
  constructor
  ·intro h
   rw [jm]
   cases hk:(k==p.1) with
   | true=>simp
   | false=>
    have:fW r k=true:=by simpa [fW,hk] using h
    have:=h1 this
    simp; omega
  ·rw [jm]
   cases (k==p.1) <;> simp <;> omega
theorem Sa (es:List ((Int×Int×zn)×Int)) (k:Int×Int×zn):jm es k < (gT es k).length:=by
 obtain ⟨h1,h2⟩:=AU es k
 unfold gT
 cases h:fW es k with
 | true=>exact h1 h
 | false=>simp; omega

def Fi (c:Int) (n:Nat):Prop:=0≤c∧c < n
theorem BN {c:Int} {n:Nat} (h:Fi c n):zE c n=true:=by
 simp [zE,h.1,h.2]
theorem si {a0 a1 a2 a3 a4 a5 a6 a7 a8 a9 b0}:∀ (l:List (Sem zp)) (i:Int),ef a0 a1 a2 a3 a4 a5 a6 a7 a8 a9 b0 l i=true→Fi a2 a1.length∧∀ f∈l,Fi f.1 a1.length
 | [],i,h=>by
  rw [ef] at h
  split at h
  ·rename_i h1
   refine ⟨?_,by simp⟩
   unfold Fi
   cases h2:decide (a2 ≥ 0) with
   | true=>
    rw [h2] at h1
    simp at h1 h2
    exact ⟨h2,h1⟩
   | false=>rw [h2] at h1; simp at h1
  ·cases h
 | x :: r,i,h=>by
  rw [ef] at h
  split at h
  ·cases h
  ·rename_i h1
   split at h
   ·cases h
   ·obtain ⟨h3,h4⟩:=si r _ h
    refine ⟨h3,fun f hf=>?_⟩
    rcases dW.1 hf with rfl | hf
    ·unfold Fi
     cases h2:decide (f.1 ≥ 0) with
     | true=>
      rw [h2] at h1
      simp at h1 h2
      exact ⟨h2,h1⟩
     | false=>rw [h2] at h1; simp at h1
    ·exact h4 f hf
theorem sf {a0 a1 a2 a3 a4 a5 a6 a7 a8 a9 b0}:∀ (l:List (Sem zg)) (i:Int),ee a0 a1 a2 a3 a4 a5 a6 a7 a8 a9 b0 l i=true→Fi a2 a1.length∧(∀ f∈a4,Fi f.1 a1.length)∧∀ u∈l,Fi u a1.length
 | [],i,h=>by
  rw [ee] at h
  obtain ⟨h1,h2⟩:=si _ _ h
  exact ⟨h1,h2,by simp⟩
 | x :: r,i,h=>by
  rw [ee] at h
  split at h
  ·cases h
  ·rename_i h1
   obtain ⟨h3,h4,h5⟩:=sf r _ h
   refine ⟨h3,h4,fun f hf=>?_⟩
   rcases dW.1 hf with rfl | hf
   ·unfold Fi
    cases h2:decide (f ≥ 0) with
    | true=>
     rw [h2] at h1
     simp at h1 h2
     exact ⟨h2,h1⟩
    | false=>rw [h2] at h1; simp at h1
   ·exact h5 f hf
theorem vT {a0 a1 a2 a3 a4 a5 a6 a7 a8 a9 b0}:∀ (l:List (Sem zi)) (i:Int),fU a0 a1 a2 a3 a4 a5 a6 a7 a8 a9 b0 l i=true→Fi a2 a1.length∧(∀ f∈a4,Fi f.1 a1.length)∧∀ u∈a3,Fi u a1.length
 | [],i,h=>by
  rw [fU] at h
  exact sf _ _ h
 | x::r,i,h=>by
  rw [fU] at h
  split at h
  ·cases h
  ·exact vT r _ h
theorem gu {t:Sem zt} (h:gS t=true):Fi t.2.2.1 t.2.1.length∧(∀ f∈t.2.2.2.2.1,Fi f.1 t.2.1.length)∧(∀ u∈t.2.2.2.1,Fi u t.2.1.length)∧t.2.1.length≤8∧1≤t.2.1.length:=by
 unfold gS at h
 split at h
 ·cases h
 ·rename_i h1
  obtain ⟨h2,h3,h4⟩:=vT _ _ h
  refine ⟨h2,h3,h4,?_⟩
  cases hn:dp t.1 with
  | false=>rw [hn] at h1; simp at h1
  | true=>
   rw [hn] at h1
   cases hd:decide ((length t.2.1:Int) < 1) with
   | true=>rw [hd] at h1; simp at h1
   | false=>
    rw [hd] at h1
    simp at h1 hd
    omega
theorem lZ {t:Sem zt} {row:List (Sem zf)} (h:(jD t row != 0)≠true):row.length=t.2.1.length:=by
 simp at h
 unfold jD at h
 split at h
 ·cases h
 ·rename_i h1
  cases hm:gS t with
  | false=>rw [hm] at h1; simp at h1
  | true=>
   rw [hm] at h1
   simp at h1
   omega

structure eR (x:Sem zh):Prop where
 uq:x.1.2.2.2.1.length≤1000
 rf:x.1.2.2.2.2.1.length≤1000
 rw:x.2.length≤1000


theorem Do (l:List (Sem zh)) (s:zn):aF l s=(-1:Int)∨((0:Int)≤aF l s∧LT.lt (α:=Int) (aF l s) l.length):=by
 have:=kP (fun x:Sem zh=>x.1.1==s) l 0
 simp at this
 exact this

theorem kf {l:List (Sem zh)} {s:zn} (h:(0:Int)≤aF l s):zE (aF l s) (length l)=true:=by
 rcases Do l s with h1 | ⟨h1,h2⟩
 ·rw [h1] at h; omega
 ·simp only [zE,aE,zZ]; exact ⟨h1,h2⟩

end Cad
