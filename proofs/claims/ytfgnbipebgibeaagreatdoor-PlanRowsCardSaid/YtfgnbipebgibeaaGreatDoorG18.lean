/- The document's tables that may be are the program's: the loops. The document's rows. The document's tables with rows, and references. The document's rows that fit are the program's. The document's tables with rows: no value twice, keys, places of keys. The document's tables with rows that may be are the program's. The document's bases. The document's bases that may be are the program's. Few of a base: numbers of 64 bits, and short texts. The law PlanRows. The chapter's examples hold. From what is handed in to plain data. From a contract over plain data to a law's statement. -/
import Derived.Test.YtfgnbipebgibeaaGreatDoorG17
import Derived.Test.YtfgnbipebgibeaaGreatDoorG14
import Derived.Test.YtfgnbipebgibeaaGreatDoorG16
import Derived.Test.YtfgnbipebgibeaaGreatDoorG06
import Derived.Carry
import Derived.ChangeSame
import Derived.RowKit3
import Derived.WideKeyArgs
namespace Cad
open Go Go.Proofs
set_option maxHeartbeats 4000000

structure WfT (t:Sem zn):Prop where
 name:t.1.length≤1000000
 cols:∀ c∈t.2.1,List.length c.1≤1000000
 ncols:t.2.1.length≤1000
 nuq:t.2.2.2.1.length≤1000
 nrf:t.2.2.2.2.1.length≤1000
 refs:∀ f∈t.2.2.2.2.1,List.length f.2≤1000000
 chk:WfE t.2.2.2.2.2

theorem zAb {b:Bool} {x p i:Int}:(bif !b then true else bif decide (x < 1) then true else bif decide (x > 3) then true else p != i)=false↔(b=true∧1≤x∧x≤3∧p=i):=by
 cases b
 ·simp
 ·by_cases h1:x < 1
  ·rw [decide_eq_true h1]; simp; omega
  ·rw [decide_eq_false h1]
   by_cases h2:x > 3
   ·rw [decide_eq_true h2]; simp; omega
   ·rw [decide_eq_false h2]
    exact ⟨fun h=>⟨rfl,by omega,by omega,by simpa using h⟩,fun h=>by simpa using h.2.2.2⟩
theorem zAr {x:Int} {n:Nat}:(bif decide (x < 0) then true else decide (x ≥ (n:Int)))=true↔¬ inC x n:=by
 unfold inC
 by_cases h:x < 0
 ·rw [decide_eq_true h]; simp; omega
 ·rw [decide_eq_false h]; simp; omega

theorem zvY {t:Sem zn} (hw:WfT t):zy6 t=some (zdi t,()):=by
 have hiff:=zrL t
 have hn1:=hw.ncols
 have hn2:=hw.nuq
 have hn3:=hw.nrf
 have no:∀ r:Raw,r=(.kb false,[])→¬ ztF t→zac r.2 [Sh.bool] r.1=some (zdi t,()):=by
  intro r hr h
  have:zdi t=false:=by
   rcases Bool.eq_false_or_eq_true (zdi t) with c | c
   ·exact absurd (hiff.1 c) h
   ·exact c
  rw [hr,this]; rfl
 have hi:(zEF t).val=if (bif !zaB t.1 then true else bif decide ((t.2.1.length:Int) < 1) then true else bif decide ((t.2.1.length:Int) > 8) then true else bif decide (LT.lt (α:=Int) t.2.2.1 0) then true else bif decide (GE.ge (α:=Int) t.2.2.1 (t.2.1.length:Int)) then true else !(List.getD t.2.1 (Int.toNat t.2.2.1) (zl zh)).2.2)=true then some (.inr (.kb false,[])) else some (.inl (.h5 (t.2.1.length:Int) ((0:Nat):Int) (t,()))):=by
  simp only [zEF,zLa,Tr.val,znp hw.name,zqv hw.name]
  rw [if_pos]
  ·rfl
  ·rcases Bool.eq_false_or_eq_true (zaB t.1) with c | c
   ·rw [c]
    by_cases k1:LT.lt (α:=Int) t.2.2.1 0
    ·rw [decide_eq_true k1]; cases decide ((t.2.1.length:Int) < 1) <;> cases decide ((t.2.1.length:Int) > 8) <;> rfl
    ·by_cases k2:GE.ge (α:=Int) t.2.2.1 (t.2.1.length:Int)
     ·rw [decide_eq_true k2]; cases decide ((t.2.1.length:Int) < 1) <;> cases decide ((t.2.1.length:Int) > 8) <;> cases decide (LT.lt (α:=Int) t.2.2.1 0) <;> rfl
     ·have:inB t.2.2.1 t.2.1.length=true:=zlz ⟨by omega,by omega⟩
      rw [this]; cases decide ((t.2.1.length:Int) < 1) <;> cases decide ((t.2.1.length:Int) > 8) <;> cases decide (LT.lt (α:=Int) t.2.2.1 0) <;> cases decide (GE.ge (α:=Int) t.2.2.1 (t.2.1.length:Int)) <;> rfl
   ·rw [c]; rfl
 rcases Bool.eq_false_or_eq_true (bif !zaB t.1 then true else bif decide ((t.2.1.length:Int) < 1) then true else bif decide ((t.2.1.length:Int) > 8) then true else bif decide (LT.lt (α:=Int) t.2.2.1 0) then true else bif decide (GE.ge (α:=Int) t.2.2.1 (t.2.1.length:Int)) then true else !(List.getD t.2.1 (Int.toNat t.2.2.1) (zl zh)).2.2) with c | c
 ·rw [if_pos c] at hi
  refine zg5 hi (no _ rfl fun h=>?_)
  obtain ⟨k1,k2⟩:=h.key
  have e1:=h.n1
  have e2:=h.n8
  rw [h.name,decide_eq_false (by omega),decide_eq_false (by omega),decide_eq_false (by omega),decide_eq_false (by omega),h.nn] at c
  cases c
 rw [if_neg (by rw [c]; simp)] at hi
 have hname:zaB t.1=true:=by
  rcases Bool.eq_false_or_eq_true (zaB t.1) with k | k
  ·exact k
  ·rw [k] at c; cases c
 rw [hname] at c
 have h1:1≤t.2.1.length:=by
  by_cases k:(t.2.1.length:Int) < 1
  ·rw [decide_eq_true k] at c; cases c
  ·omega
 rw [decide_eq_false (by omega:¬ (t.2.1.length:Int) < 1)] at c
 have h8:t.2.1.length≤8:=by
  by_cases k:(t.2.1.length:Int) > 8
  ·rw [decide_eq_true k] at c; cases c
  ·omega
 rw [decide_eq_false (by omega:¬ (t.2.1.length:Int) > 8)] at c
 have hk0:LE.le (α:=Int) 0 t.2.2.1:=by
  by_cases k:LT.lt (α:=Int) t.2.2.1 0
  ·rw [decide_eq_true k] at c; cases c
  ·omega
 rw [decide_eq_false (by omega:¬ LT.lt (α:=Int) t.2.2.1 0)] at c
 have hkn:LT.lt (α:=Int) t.2.2.1 (t.2.1.length:Int):=by
  by_cases k:GE.ge (α:=Int) t.2.2.1 (t.2.1.length:Int)
  ·rw [decide_eq_true k] at c; cases c
  ·omega
 rw [decide_eq_false (by omega:¬ GE.ge (α:=Int) t.2.2.1 (t.2.1.length:Int))] at c
 have hnn:(List.getD t.2.1 (Int.toNat t.2.2.1) (zl zh)).2.2=true:=by simpa using c
 have f5:=For (t:=zir) (Φ:=fun r=>r=(.kb false,[])) 1 (fun i=>.h5 (t.2.1.length:Int) (i:Int) (t,())) (fun i=>zaB (List.getD t.2.1 i (zl zh)).1=true∧LE.le (α:=Int) 1 (List.getD t.2.1 i (zl zh)).2.1∧LE.le (α:=Int) (List.getD t.2.1 i (zl zh)).2.1 3∧zR t.2.1 (List.getD t.2.1 i (zl zh)).1=(i:Int)) t.2.1.length (by
  intro i hi _
  have hcl:=hw.cols _ (zaO (d:=zl zh) hi)
  have hv:(zir (.h5 (t.2.1.length:Int) (i:Int) (t,()))).val=if (bif !zaB (List.getD t.2.1 i (zl zh)).1 then true else bif decide (LT.lt (α:=Int) (List.getD t.2.1 i (zl zh)).2.1 1) then true else bif decide (GT.gt (α:=Int) (List.getD t.2.1 i (zl zh)).2.1 3) then true else zR t.2.1 (List.getD t.2.1 i (zl zh)).1 != (i:Int))=true then some (.inr (.kb false,[])) else some (.inl (.h5 (t.2.1.length:Int) ((i+1:Nat):Int) (t,()))):=by
   simp only [zir,zzu,zuC,Tr.val,zV hi,zK hi,Int.toNat_natCast,znp hcl,zqv hcl,zyz (show t.2.1.length≤1000000 by omega),zB2 (show t.2.1.length≤1000000 by omega),if_true]
   rw [if_pos,zH i (by unfold zI; omega)]
   cases zaB (List.getD t.2.1 i (zl zh)).1 <;> cases decide (LT.lt (α:=Int) (List.getD t.2.1 i (zl zh)).2.1 1) <;> cases decide (GT.gt (α:=Int) (List.getD t.2.1 i (zl zh)).2.1 3) <;> rfl
  rcases Bool.eq_false_or_eq_true (bif !zaB (List.getD t.2.1 i (zl zh)).1 then true else bif decide (LT.lt (α:=Int) (List.getD t.2.1 i (zl zh)).2.1 1) then true else bif decide (GT.gt (α:=Int) (List.getD t.2.1 i (zl zh)).2.1 3) then true else zR t.2.1 (List.getD t.2.1 i (zl zh)).1 != (i:Int)) with c | c
  ·refine .inr ⟨fun h=>?_,_,zaI.of (by rw [hv,if_pos c]),rfl⟩
   rw [zAb.2 h] at c; cases c
  ·exact .inl ⟨zAb.1 c,zaz.of (by rw [hv,if_neg (by rw [c]; simp)])⟩)
 rcases f5 with ⟨p5,f5⟩ | ⟨p5,r,f5,hr⟩
 case inr=>exact zO hi f5 (by omega) (no _ hr fun h=>p5 h.cols)
 have v5:(zir (.h5 (t.2.1.length:Int) (t.2.1.length:Int) (t,()))).val=some (.inl (.h11 (t.2.1.length:Int) ((0:Nat):Int) (t,()))):=by
  simp only [zir,zzu,zuC,Tr.val,zP]
  rfl
 have g11:=f5.trans (zaz.of v5)
 have f11:=For (t:=zir) (Φ:=fun r=>r=(.kb false,[])) 1 (fun i=>.h11 (t.2.1.length:Int) (i:Int) (t,())) (fun i=>inC (List.getD t.2.2.2.1 i (zl zg)) t.2.1.length) t.2.2.2.1.length (by
  intro i hi _
  have hv:(zir (.h11 (t.2.1.length:Int) (i:Int) (t,()))).val=if (bif decide (LT.lt (α:=Int) (List.getD t.2.2.2.1 i (zl zg)) 0) then true else decide (GE.ge (α:=Int) (List.getD t.2.2.2.1 i (zl zg)) (t.2.1.length:Int)))=true then some (.inr (.kb false,[])) else some (.inl (.h11 (t.2.1.length:Int) ((i+1:Nat):Int) (t,()))):=by
   simp only [zir,ztP,zqR,Tr.val,zV hi,zK hi,Int.toNat_natCast,if_true]
   rw [if_pos,zH i (by unfold zI; omega)]
   cases decide (LT.lt (α:=Int) (List.getD t.2.2.2.1 i (zl zg)) 0) <;> rfl
  by_cases h:inC (List.getD t.2.2.2.1 i (zl zg)) t.2.1.length
  ·exact .inl ⟨h,zaz.of (by rw [hv,if_neg (by rw [decide_eq_false (by have:=h.1; omega),decide_eq_false (by have:=h.2; omega)]; simp)])⟩
  ·refine .inr ⟨h,_,zaI.of (by rw [hv,if_pos (zAr.2 h)]),rfl⟩)
 rcases f11 with ⟨p11,f11⟩ | ⟨p11,r,f11,hr⟩
 case inr=>exact zO hi (g11.ends f11) (by omega) (no _ hr fun h=>p11 ((zZ (Q:=fun u=>inC u t.2.1.length)).2 h.uniq))
 have v11:(zir (.h11 (t.2.1.length:Int) (t.2.2.2.1.length:Int) (t,()))).val=some (.inl (.h16 (t.2.1.length:Int) ((0:Nat):Int) (t,()))):=by
  simp only [zir,ztP,zqR,Tr.val,zP]
  rfl
 have g16:=(g11.trans f11).trans (zaz.of v11)
 have f16:=For (t:=zir) (Φ:=fun r=>r=(.kb false,[])) 1 (fun i=>.h16 (t.2.1.length:Int) (i:Int) (t,())) (fun i=>inC (List.getD t.2.2.2.2.1 i (zl zt)).1 t.2.1.length∧zaB (List.getD t.2.2.2.2.1 i (zl zt)).2=true) t.2.2.2.2.1.length (by
  intro i hi _
  have hcl:=hw.refs _ (zaO (d:=zl zt) hi)
  have hv:(zir (.h16 (t.2.1.length:Int) (i:Int) (t,()))).val=if (bif decide (LT.lt (α:=Int) (List.getD t.2.2.2.2.1 i (zl zt)).1 0) then true else bif decide (GE.ge (α:=Int) (List.getD t.2.2.2.2.1 i (zl zt)).1 (t.2.1.length:Int)) then true else !zaB (List.getD t.2.2.2.2.1 i (zl zt)).2)=true then some (.inr (.kb false,[])) else some (.inl (.h16 (t.2.1.length:Int) ((i+1:Nat):Int) (t,()))):=by
   simp only [zir,zvD,zq1,Tr.val,zV hi,zK hi,Int.toNat_natCast,znp hcl,zqv hcl,if_true]
   rw [if_pos,zH i (by unfold zI; omega)]
   cases decide (LT.lt (α:=Int) (List.getD t.2.2.2.2.1 i (zl zt)).1 0) <;> cases decide (GE.ge (α:=Int) (List.getD t.2.2.2.2.1 i (zl zt)).1 (t.2.1.length:Int)) <;> rfl
  by_cases h:inC (List.getD t.2.2.2.2.1 i (zl zt)).1 t.2.1.length
  ·rcases Bool.eq_false_or_eq_true (zaB (List.getD t.2.2.2.2.1 i (zl zt)).2) with c | c
   ·exact .inl ⟨⟨h,c⟩,zaz.of (by rw [hv,c,if_neg (by rw [decide_eq_false (by have:=h.1; omega),decide_eq_false (by have:=h.2; omega)]; simp)])⟩
   ·exact .inr ⟨fun h2=>(by rw [h2.2] at c; cases c),_,zaI.of (by rw [hv,c,if_pos (by rw [decide_eq_false (by have:=h.1; omega),decide_eq_false (by have:=h.2; omega)]; rfl)]),rfl⟩
  ·have hb:(bif decide (LT.lt (α:=Int) (List.getD t.2.2.2.2.1 i (zl zt)).1 0) then true else bif decide (GE.ge (α:=Int) (List.getD t.2.2.2.2.1 i (zl zt)).1 (t.2.1.length:Int)) then true else !zaB (List.getD t.2.2.2.2.1 i (zl zt)).2)=true:=by
    have:=zAr.2 h
    rcases Bool.eq_false_or_eq_true (decide (LT.lt (α:=Int) (List.getD t.2.2.2.2.1 i (zl zt)).1 0)) with k | k
    ·rw [k]; rfl
    ·rw [k] at this ⊢
     rw [show decide (GE.ge (α:=Int) (List.getD t.2.2.2.2.1 i (zl zt)).1 (t.2.1.length:Int))=true from this]
     rfl
   exact .inr ⟨fun h2=>h h2.1,_,zaI.of (by rw [hv,if_pos hb]),rfl⟩)
 rcases f16 with ⟨p16,f16⟩ | ⟨p16,r,f16,hr⟩
 case inr=>exact zO hi (g16.ends f16) (by omega) (no _ hr fun h=>p16 ((zZ (Q:=fun f:Sem zt=>inC f.1 t.2.1.length∧zaB f.2=true)).2 h.refs))
 have hch:zla t.2.2.2.2.2 t.2.1=true:=by unfold zla; rw [zq7 hw.chk (by omega)]; rfl
 have hcv:zoL t.2.2.2.2.2 t.2.1=zdz t.2.2.2.2.2 t.2.1:=by unfold zoL; rw [zq7 hw.chk (by omega)]; rfl
 have v16:(zir (.h16 (t.2.1.length:Int) (t.2.2.2.2.1.length:Int) (t,()))).val=some (.inr (.bool (zdz t.2.2.2.2.2 t.2.1==(0:Int)),[])):=by
  simp only [zir,zvD,zq1,Tr.val,zP,zw,hch,hcv]
  rfl
 refine zO hi (g16.ends (f16.ends (zaI.of v16))) (by omega) ?_
 have:zdi t=(zdz t.2.2.2.2.2 t.2.1==(0:Int)):=by
  apply Bool.eq_iff_iff.2
  rw [hiff]
  constructor
  ·intro h; rw [h.chk]; rfl
  ·intro h
   exact ⟨hname,h1,h8,p5,(zZ (Q:=fun u=>inC u t.2.1.length)).1 p11,(zZ (Q:=fun f:Sem zt=>inC f.1 t.2.1.length∧zaB f.2=true)).1 p16,⟨hk0,hkn⟩,hnn,eq_of_beq h⟩
 rw [this]
 rfl
theorem zg9 {t:Sem zn} (hw:WfT t):zkr t=true:=by unfold zkr; rw [zvY hw]; rfl
theorem zji {t:Sem zn} (hw:WfT t):zrO t=zdi t:=by unfold zrO; rw [zvY hw]; rfl
open Go Go.Proofs
noncomputable section
set_option maxHeartbeats 4000000

abbrev zC6:Nat→zQ:=fun j=>if j=4 then { slots:=[1,2,5] } else if j=9 then { slots:=[1,2,6] } else { }
inductive zmu where
 | h4 (l1:LV) (i5:Int) (z0:zj [CP.d zn])
 | h9 (l1:LV) (i6:Int) (z0:zj [CP.d zn])
abbrev zEp:zmu→Nat×St
 | .h4 l1 i5 z0=>(4,⟨tm 83 [(1,AV.sl zf l1),(2,AV.ptr 0 0),(5,AV.int .i64 i5)],[AO.box (cpN [] [CP.d zn] z0)]⟩)
 | .h9 l1 i6 z0=>(9,⟨tm 83 [(1,AV.sl zf l1),(2,AV.ptr 0 0),(6,AV.int .i64 i6)],[AO.box (cpN [] [CP.d zn] z0)]⟩)
theorem zTN:zF zbt.P 60 Tryz.f60 2:=by refine ⟨?_,?_,?_,?_⟩ <;> kernel_rfl
def zKt (x0:Sem zn) (x1:Sem zf.sl) (a0:Sem Sh.str×Sem (zh.sl.pr (zg.pr (zg.sl.pr (zt.sl.pr Sh.expr))))):Tr (zmu ⊕ Raw):=
 Tr.chk (zkr a0)
 (Tr.br (bif !zrO a0 then true else (↑(List.length x1):Int) != (↑(List.length x0.2.1):Int)) (Tr.re (AV.int .i64 1) [])
  (Tr.to (zmu.h4 x1 0 (x0,()))))
def zEN (x0:Sem zn) (x1:Sem zf.sl):Tr (zmu ⊕ Raw):=
 let a0:=(x0.1,x0.2.1,x0.2.2.1,x0.2.2.2.1,x0.2.2.2.2.1,zz x0.2.2.2.2.2)
 zKt x0 x1 a0
def zuZ (l1:LV) (i5:Int) (z0:zj [CP.d zn]) (a0:Sem zf):Tr (zmu ⊕ Raw):=
 Tr.br (decide (i5 < (↑l1.length:Int)))
 (Tr.chk (inB i5 l1.length) (Tr.chk (ziJ a0) (Tr.br (!zn1 a0) (Tr.re (AV.int .i64 1) []) (Tr.to (zmu.h4 l1 (IntKind.i64.wrap (i5+1)) z0)))))
 (Tr.to (zmu.h9 l1 0 z0))
def zyu (l1:LV) (i5:Int) (z0:zj [CP.d zn]):Tr (zmu ⊕ Raw):=
 let a0:=l1.getD i5.toNat (zl zf)
 zuZ l1 i5 z0 a0
def zpe (l1:LV) (i6:Int) (z0:zj [CP.d zn]) (a0:Sem zf) (a1:Bool) (a2:Bool) (a3:Sem zh) (a4:Bool) (a5:Bool) (a6:ze) (a7:Sem zf):Tr (zmu ⊕ Raw):=
 Tr.br (decide (i6 < (↑l1.length:Int)))
 (Tr.chk (inB i6 l1.length&&bif a1 then a2 else true)
  (Tr.br (bif a1 then a3.2.2 else false) (Tr.re (AV.int .i64 8) []) (Tr.chk (inB i6 l1.length&&bif a4 then inB i6 l1.length&&a2 else true) (Tr.br (bif a4 then a0.1 != a3.2.1 else false) (Tr.re (AV.int .i64 5) []) (Tr.to (zmu.h9 l1 (IntKind.i64.wrap (i6+1)) z0))))))
 (Tr.chk (bif a5 then zpd a6 z0.1.2.1 l1&&zgz a7 false else true)
  (Tr.br (bif a5 then zio a7 false else false) (Tr.re (AV.int .i64 9) []) (Tr.re (AV.int .i64 0) [])))
def zvV (l1:LV) (i6:Int) (z0:zj [CP.d zn]):Tr (zmu ⊕ Raw):=
 let a0:=l1.getD i6.toNat (zl zf)
 let a1:=a0.1==0
 let a2:=inB i6 (List.length z0.1.2.1)
 let a3:=List.getD z0.1.2.1 i6.toNat (zl zh)
 let a4:=a0.1 != 0
 let a5 := !ze.op z0.1.2.2.2.2.2==[]
 let a6:=zz z0.1.2.2.2.2.2
 let a7:=zvk a6 z0.1.2.1 l1
 zpe l1 i6 z0 a0 a1 a2 a3 a4 a5 a6 a7
theorem zPS (x0:Sem zn) (x1:Sem zf.sl):run zbt 0 zC6 (Func.results Tryz.f60).toList 400 (zq Tryz.f60) (zp (Func.ntmps Tryz.f60) [zx zn x0,zx zf.sl x1] [])=(zEN x0 x1).map (lf Tryz.f60 zEp):=by kernel_rfl
def zng:zmu→Tr (zmu ⊕ Raw)
 | .h4 l1 i5 z0=>zyu l1 i5 z0
 | .h9 l1 i6 z0=>zvV l1 i6 z0
theorem zUu:∀ s,run zbt 0 zC6 (Func.results Tryz.f60).toList 400 (zA Tryz.f60 (zEp s).1) (zEp s).2=(zng s).map (lf Tryz.f60 zEp)
 | .h4 l1 i5 z0=>by kernel_rfl
 | .h9 l1 i6 z0=>by kernel_rfl
def zvB (x0:Sem zn) (x1:Sem zf.sl):Option (zo (List.map some [zg])):=zaj [zg] zng 100000000 (zEN x0 x1)
def zoz (x0:Sem zn) (x1:Sem zf.sl):Bool:=(zvB x0 x1).isSome
def zuM (x0:Sem zn) (x1:Sem zf.sl):Sem zg:=(fun r:zo (List.map some [zg])=>r.1) ((zvB x0 x1).getD (zad [zg]))
def zVQ:zJ:=zG [zn,zf.sl] [zg] (fun x=>zoz x.1 x.2.1) fun x=>(zuM x.1 x.2.1,())
theorem zNo:FOk zbt.P zbt.gl 60 zVQ:=zae (ks:=[zn,zf.sl]) (outs:=[zg]) (keep:=zC6) (gas:=400) (n:=100000000) (e:=zEp) (t:=zng) (i:=fun x=>zEN x.1 x.2.1) zgq zf2 zTN (fun x=>zPS x.1 x.2.1) zUu (fun _=>by kernel_rfl) (fun _=>by kernel_rfl)

abbrev zEG:Nat→zQ:=fun j=>if j=2 then { slots:=[0,1,5] } else if j=5 then { slots:=[0,1,5,6] } else { }
inductive zp4 where
 | h2 (l0:List (Sem zf.sl)) (i1:Sem zg) (i5:Int)
 | h5 (l0:List (Sem zf.sl)) (i1:Sem zg) (i5:Int) (i6:Int)
abbrev zFs:zp4→Nat×St
 | .h2 l0 i1 i5=>(2,⟨tm 44 [(0,AV.sl zf.sl l0),(1,AV.int .i64 i1),(5,AV.int .i64 i5)],[]⟩)
 | .h5 l0 i1 i5 i6=>(5,⟨tm 44 [(0,AV.sl zf.sl l0),(1,AV.int .i64 i1),(5,AV.int .i64 i5),(6,AV.int .i64 i6)],[]⟩)
theorem zQX:zF zbt.P 61 Tryz.f61 2:=by refine ⟨?_,?_,?_,?_⟩ <;> kernel_rfl
def zHE (x0:Sem zf.sl.sl) (x1:Sem zg):Tr (zp4 ⊕ Raw):=
 Tr.to (zp4.h2 x0 x1 0)
def zyK (l0:List (Sem zf.sl)) (i1:Sem zg) (i5:Int):Tr (zp4 ⊕ Raw):=
 Tr.br (decide (i5 < (↑l0.length:Int))) (Tr.to (zp4.h5 l0 i1 i5 0)) (Tr.re (AV.kb false) [])
def zug (l0:List (Sem zf.sl)) (i1:Sem zg) (i5:Int) (i6:Int) (_:Sem zf.sl) (a1:Bool) (a2:Sem zf) (a3:Bool) (a4:Sem zf.sl) (a5:Sem zf):Tr (zp4 ⊕ Raw):=
 Tr.br (decide (i6 < i5))
 (Tr.chk (inB i5 l0.length&&(a1&&bif a3 then inB i5 l0.length&&(a1&&(inB i6 l0.length&&inB i1 (List.length a4))) else true))
  (Tr.br (bif a3 then a2.1==a5.1&&(a2.2.1==a5.2.1&&(a2.2.2==a5.2.2&&true)) else false) (Tr.re (AV.kb true) []) (Tr.to (zp4.h5 l0 i1 i5 (IntKind.i64.wrap (i6+1))))))
 (Tr.to (zp4.h2 l0 i1 (IntKind.i64.wrap (i5+1))))
def zyG (l0:List (Sem zf.sl)) (i1:Sem zg) (i5:Int) (i6:Int):Tr (zp4 ⊕ Raw):=
 let a0:=l0.getD i5.toNat (zl zf.sl)
 let a1:=inB i1 (List.length a0)
 let a2:=List.getD a0 (Int.toNat i1) (zl zf)
 let a3:=a2.1 != 0
 let a4:=l0.getD i6.toNat (zl zf.sl)
 let a5:=List.getD a4 (Int.toNat i1) (zl zf)
 zug l0 i1 i5 i6 a0 a1 a2 a3 a4 a5
theorem zSM (x0:Sem zf.sl.sl) (x1:Sem zg):run zbt 0 zEG (Func.results Tryz.f61).toList 400 (zq Tryz.f61) (zp (Func.ntmps Tryz.f61) [zx zf.sl.sl x0,zx zg x1] [])=(zHE x0 x1).map (lf Tryz.f61 zFs):=by kernel_rfl
def zom:zp4→Tr (zp4 ⊕ Raw)
 | .h2 l0 i1 i5=>zyK l0 i1 i5
 | .h5 l0 i1 i5 i6=>zyG l0 i1 i5 i6
theorem zP5:∀ s,run zbt 0 zEG (Func.results Tryz.f61).toList 400 (zA Tryz.f61 (zFs s).1) (zFs s).2=(zom s).map (lf Tryz.f61 zFs)
 | .h2 l0 i1 i5=>by kernel_rfl
 | .h5 l0 i1 i5 i6=>by kernel_rfl
def zqG (x0:Sem zf.sl.sl) (x1:Sem zg):Option (zo (List.map some [Sh.bool])):=zaj [Sh.bool] zom 100000000 (zHE x0 x1)
def zgl (x0:Sem zf.sl.sl) (x1:Sem zg):Bool:=(zqG x0 x1).isSome
def zhL (x0:Sem zf.sl.sl) (x1:Sem zg):Sem Sh.bool:=(fun r:zo (List.map some [Sh.bool])=>r.1) ((zqG x0 x1).getD (zad [Sh.bool]))
def zS0:zJ:=zG [zf.sl.sl,zg] [Sh.bool] (fun x=>zgl x.1 x.2.1) fun x=>(zhL x.1 x.2.1,())
theorem zNt:FOk zbt.P zbt.gl 61 zS0:=zae (ks:=[zf.sl.sl,zg]) (outs:=[Sh.bool]) (keep:=zEG) (gas:=400) (n:=100000000) (e:=zFs) (t:=zom) (i:=fun x=>zHE x.1 x.2.1) zgq zf2 zQX (fun x=>zSM x.1 x.2.1) zP5 (fun _=>by kernel_rfl) (fun _=>by kernel_rfl)

abbrev zKW:Nat→zQ:=fun _=>{ }
theorem zVd:zF zbt.P 63 Tryz.f63 2:=by refine ⟨?_,?_,?_,?_⟩ <;> kernel_rfl
def zKK (x0:Sem zn) (x1:Sem zf.sl) (a0:Sem Sh.str×Sem (zh.sl.pr (zg.pr (zg.sl.pr (zt.sl.pr Sh.expr))))) (a1:Sem zf):Tr (Empty ⊕ Raw):=
 Tr.chk (zkr a0)
 (Tr.br (bif zrO a0 then decide (x0.2.2.1 < (↑(List.length x1):Int)) else false)
  (Tr.chk (inB x0.2.2.1 (List.length x1)) (Tr.re (AV.agg [AV.int .i64 a1.1,AV.int .i64 a1.2.1,AV.str a1.2.2]) []))
  (Tr.re (AV.agg [AV.int .i64 0,AV.int .i64 0,AV.str []]) []))
def zIV (x0:Sem zn) (x1:Sem zf.sl):Tr (Empty ⊕ Raw):=
 let a0:=(x0.1,x0.2.1,x0.2.2.1,x0.2.2.2.1,x0.2.2.2.2.1,zz x0.2.2.2.2.2)
 let a1:=List.getD x1 (Int.toNat x0.2.2.1) (zl zf)
 zKK x0 x1 a0 a1
theorem zV3 (x0:Sem zn) (x1:Sem zf.sl):run zbt 0 zKW (Func.results Tryz.f63).toList 400 (zq Tryz.f63) (zp (Func.ntmps Tryz.f63) [zx zn x0,zx zf.sl x1] [])=(zIV x0 x1).map (lf Tryz.f63 e0):=by kernel_rfl
def zvn (x0:Sem zn) (x1:Sem zf.sl):Option (zo (List.map some [zf])):=zaj [zf] t0 100000000 (zIV x0 x1)
def zqA (x0:Sem zn) (x1:Sem zf.sl):Bool:=(zvn x0 x1).isSome
def zwD (x0:Sem zn) (x1:Sem zf.sl):Sem zf:=(fun r:zo (List.map some [zf])=>r.1) ((zvn x0 x1).getD (zad [zf]))
def zPY:zJ:=zG [zn,zf.sl] [zf] (fun x=>zqA x.1 x.2.1) fun x=>(zwD x.1 x.2.1,())
theorem zNl:FOk zbt.P zbt.gl 63 zPY:=zae (ks:=[zn,zf.sl]) (outs:=[zf]) (keep:=zKW) (gas:=400) (n:=100000000) (e:=e0) (t:=t0) (i:=fun x=>zIV x.1 x.2.1) zgq zf2 zVd (fun x=>zV3 x.1 x.2.1) (on0 _ _ _ _ _) (fun _=>by kernel_rfl) (fun _=>by kernel_rfl)

abbrev zGG:Nat→zQ:=fun j=>if j=2 then { slots:=[2,3,5] } else { }
inductive zwm where
 | h2 (i5:Int) (z0:zj [CP.d zk]) (z1:zj [CP.d zf])
abbrev zFt:zwm→Nat×St
 | .h2 i5 z0 z1=>(2,⟨tm 43 [(2,AV.ptr 0 0),(3,AV.ptr 1 0),(5,AV.int .i64 i5)],[AO.box (cpN [] [CP.d zk] z0),AO.box (cpN [] [CP.d zf] z1)]⟩)
theorem zRq:zF zbt.P 64 Tryz.f64 2:=by refine ⟨?_,?_,?_,?_⟩ <;> kernel_rfl
def zHP (x0:Sem zk) (x1:Sem zf):Tr (zwm ⊕ Raw):=
 Tr.to (zwm.h2 0 (x0,()) (x1,()))
def zut (i5:Int) (z0:zj [CP.d zk]) (z1:zj [CP.d zf]) (_:Int) (a1:Bool) (a2:Sem Sh.str×Sem (zh.sl.pr (zg.pr (zg.sl.pr (zt.sl.pr Sh.expr))))) (a3:Bool) (a4:Sem zf.sl) (_:Int) (a6:Bool) (a7:Sem zf):Tr (zwm ⊕ Raw):=
 Tr.chk (bif a1 then zkr a2 else true)
 (Tr.br (bif a1 then zrO a2 else false)
  (Tr.chk (a3&&bif a6 then a3&&inB z0.1.1.2.2.1 (List.length a4) else true) (Tr.br (bif a6 then a7.1==z1.1.1&&(a7.2.1==z1.1.2.1&&(a7.2.2==z1.1.2.2&&true)) else false) (Tr.re (AV.int .i64 i5) []) (Tr.to (zwm.h2 (IntKind.i64.wrap (i5+1)) z0 z1))))
  (Tr.re (AV.int .i64 (-1)) []))
def zzU (i5:Int) (z0:zj [CP.d zk]) (z1:zj [CP.d zf]):Tr (zwm ⊕ Raw):=
 let a0:=(↑(List.length z0.1.2):Int)
 let a1:=decide (i5 < a0)
 let a2:=(z0.1.1.1,z0.1.1.2.1,z0.1.1.2.2.1,z0.1.1.2.2.2.1,z0.1.1.2.2.2.2.1,zz z0.1.1.2.2.2.2.2)
 let a3:=inB i5 (List.length z0.1.2)
 let a4:=List.getD z0.1.2 i5.toNat (zl zf.sl)
 let a5:=(↑(List.length a4):Int)
 let a6:=decide (z0.1.1.2.2.1 < a5)
 let a7:=List.getD a4 (Int.toNat z0.1.1.2.2.1) (zl zf)
 zut i5 z0 z1 a0 a1 a2 a3 a4 a5 a6 a7
theorem zWd (x0:Sem zk) (x1:Sem zf):run zbt 0 zGG (Func.results Tryz.f64).toList 400 (zq Tryz.f64) (zp (Func.ntmps Tryz.f64) [zx zk x0,zx zf x1] [])=(zHP x0 x1).map (lf Tryz.f64 zFt):=by kernel_rfl
def zyH:zwm→Tr (zwm ⊕ Raw)
 | .h2 i5 z0 z1=>zzU i5 z0 z1
theorem zRK:∀ s,run zbt 0 zGG (Func.results Tryz.f64).toList 400 (zA Tryz.f64 (zFt s).1) (zFt s).2=(zyH s).map (lf Tryz.f64 zFt)
 | .h2 i5 z0 z1=>by kernel_rfl
def zvP (x0:Sem zk) (x1:Sem zf):Option (zo (List.map some [zg])):=zaj [zg] zyH 100000000 (zHP x0 x1)
def zoY (x0:Sem zk) (x1:Sem zf):Bool:=(zvP x0 x1).isSome
def zuE (x0:Sem zk) (x1:Sem zf):Sem zg:=(fun r:zo (List.map some [zg])=>r.1) ((zvP x0 x1).getD (zad [zg]))
def zRF:zJ:=zG [zk,zf] [zg] (fun x=>zoY x.1 x.2.1) fun x=>(zuE x.1 x.2.1,())
theorem zNe:FOk zbt.P zbt.gl 64 zRF:=zae (ks:=[zk,zf]) (outs:=[zg]) (keep:=zGG) (gas:=400) (n:=100000000) (e:=zFt) (t:=zyH) (i:=fun x=>zHP x.1 x.2.1) zgq zf2 zRq (fun x=>zWd x.1 x.2.1) zRK (fun _=>by kernel_rfl) (fun _=>by kernel_rfl)

def zdV:Env:=((((zbt.add 60 zVQ).add 61 zS0).add 63 zPY).add 64 zRF)
theorem zkS:zi zdV:=(zi.addS (zi.addS (zi.addS (zi.addS zgq (zB.refl zbt) zNo) ((zB.refl zbt).add _ _) zNt) (((zB.refl zbt).add _ _).add _ _) zNl) ((((zB.refl zbt).add _ _).add _ _).add _ _) zNe)
theorem zkn:zdV.P.follows .mixedOrders=true:=(zm (zm (zm (zm zf2 _ _) _ _) _ _) _ _)
end
open Go Go.Proofs
noncomputable section
set_option maxHeartbeats 4000000

abbrev zGa:Nat→zQ:=fun j=>if j=6 then { slots:=[1,3] } else if j=14 then { slots:=[1,5] } else if j=19 then { slots:=[1,6] } else { }
inductive zi0 where
 | h6 (i3:Int) (z0:zj [CP.d zk])
 | h14 (i5:Int) (z0:zj [CP.d zk])
 | h19 (i6:Int) (z0:zj [CP.d zk])
abbrev zEv:zi0→Nat×St
 | .h6 i3 z0=>(6,⟨tm 82 [(1,AV.ptr 0 0),(3,AV.int .i64 i3)],[AO.box (cpN [] [CP.d zk] z0)]⟩)
 | .h14 i5 z0=>(14,⟨tm 82 [(1,AV.ptr 0 0),(5,AV.int .i64 i5)],[AO.box (cpN [] [CP.d zk] z0)]⟩)
 | .h19 i6 z0=>(19,⟨tm 82 [(1,AV.ptr 0 0),(6,AV.int .i64 i6)],[AO.box (cpN [] [CP.d zk] z0)]⟩)
theorem zQz:zF zdV.P 27 Tryz.f27 1:=by refine ⟨?_,?_,?_,?_⟩ <;> kernel_rfl
def zBd (x0:Sem zk) (a0:Sem Sh.str×Sem (zh.sl.pr (zg.pr (zg.sl.pr (zt.sl.pr Sh.expr))))):Tr (zi0 ⊕ Raw):=
 Tr.chk (zkr a0)
 (Tr.br (!zrO a0) (Tr.re (AV.int .i64 1) [])
  (Tr.br (decide ((↑(List.length x0.2):Int) > 200)) (Tr.re (AV.int .i64 13) []) (Tr.to (zi0.h6 0 (x0,())))))
def zyk (x0:Sem zk):Tr (zi0 ⊕ Raw):=
 let a0:=(x0.1.1,x0.1.2.1,x0.1.2.2.1,x0.1.2.2.2.1,x0.1.2.2.2.2.1,zz x0.1.2.2.2.2.2)
 zBd x0 a0
def zu4 (i3:Int) (z0:zj [CP.d zk]) (a0:Int) (a1:Sem Sh.str×Sem (zh.sl.pr (zg.pr (zg.sl.pr (zt.sl.pr Sh.expr))))) (a2:Sem zf.sl) (a3:Sem zg):Tr (zi0 ⊕ Raw):=
 Tr.br (decide (i3 < a0))
 (Tr.chk (inB i3 (List.length z0.1.2))
  (Tr.chk (zoz a1 a2) (Tr.br (a3 != 0) (Tr.re (AV.int .i64 a3) []) (Tr.to (zi0.h6 (IntKind.i64.wrap (i3+1)) z0)))))
 (Tr.chk (zgl z0.1.2 z0.1.1.2.2.1)
  (Tr.br (zhL z0.1.2 z0.1.1.2.2.1) (Tr.re (AV.int .i64 7) []) (Tr.to (zi0.h14 0 z0))))
def zyj (i3:Int) (z0:zj [CP.d zk]):Tr (zi0 ⊕ Raw):=
 let a0:=(↑(List.length z0.1.2):Int)
 let a1:=(z0.1.1.1,z0.1.1.2.1,z0.1.1.2.2.1,z0.1.1.2.2.2.1,z0.1.1.2.2.2.2.1,zz z0.1.1.2.2.2.2.2)
 let a2:=List.getD z0.1.2 i3.toNat (zl zf.sl)
 let a3:=zuM a1 a2
 zu4 i3 z0 a0 a1 a2 a3
def zqS (i5:Int) (z0:zj [CP.d zk]) (a0:Int) (a1:Sem zg):Tr (zi0 ⊕ Raw):=
 Tr.br (decide (i5 < a0))
 (Tr.chk (inB i5 (List.length z0.1.1.2.2.2.1))
  (Tr.chk (zgl z0.1.2 a1) (Tr.br (zhL z0.1.2 a1) (Tr.re (AV.int .i64 7) []) (Tr.to (zi0.h14 (IntKind.i64.wrap (i5+1)) z0)))))
 (Tr.to (zi0.h19 1 z0))
def zu9 (i5:Int) (z0:zj [CP.d zk]):Tr (zi0 ⊕ Raw):=
 let a0:=(↑(List.length z0.1.1.2.2.2.1):Int)
 let a1:=List.getD z0.1.1.2.2.2.1 i5.toNat (zl zg)
 zqS i5 z0 a0 a1
def zrk (i6:Int) (z0:zj [CP.d zk]) (a0:Int) (a1:Int) (a2:Sem Sh.str×Sem (zh.sl.pr (zg.pr (zg.sl.pr (zt.sl.pr Sh.expr))))) (a3:Sem zf.sl) (a4:Sem zf.sl) (a5:Sem zf) (a6:Sem zf) (a7:Sem zg):Tr (zi0 ⊕ Raw):=
 Tr.br (decide (i6 < a0))
 (Tr.chk (inB a1 (List.length z0.1.2))
  (Tr.chk (zqA a2 a3) (Tr.chk (inB i6 (List.length z0.1.2)) (Tr.chk (zqA a2 a4) (Tr.chk (zk1 a5 a6) (Tr.br (decide (a7 > 0)) (Tr.re (AV.int .i64 15) []) (Tr.to (zi0.h19 (IntKind.i64.wrap (i6+1)) z0))))))))
 (Tr.re (AV.int .i64 0) [])
def zue (i6:Int) (z0:zj [CP.d zk]):Tr (zi0 ⊕ Raw):=
 let a0:=(↑(List.length z0.1.2):Int)
 let a1:=IntKind.i64.wrap (i6 - 1)
 let a2:=(z0.1.1.1,z0.1.1.2.1,z0.1.1.2.2.1,z0.1.1.2.2.2.1,z0.1.1.2.2.2.2.1,zz z0.1.1.2.2.2.2.2)
 let a3:=List.getD z0.1.2 a1.toNat (zl zf.sl)
 let a4:=List.getD z0.1.2 i6.toNat (zl zf.sl)
 let a5:=zwD a2 a3
 let a6:=zwD a2 a4
 let a7:=zo4 a5 a6
 zrk i6 z0 a0 a1 a2 a3 a4 a5 a6 a7
theorem zS2 (x0:Sem zk):run zdV 0 zGa (Func.results Tryz.f27).toList 400 (zq Tryz.f27) (zp (Func.ntmps Tryz.f27) [zx zk x0] [])=(zyk x0).map (lf Tryz.f27 zEv):=by kernel_rfl
def zhO:zi0→Tr (zi0 ⊕ Raw)
 | .h6 i3 z0=>zyj i3 z0
 | .h14 i5 z0=>zu9 i5 z0
 | .h19 i6 z0=>zue i6 z0
theorem zWg:∀ s,run zdV 0 zGa (Func.results Tryz.f27).toList 400 (zA Tryz.f27 (zEv s).1) (zEv s).2=(zhO s).map (lf Tryz.f27 zEv)
 | .h6 i3 z0=>by kernel_rfl
 | .h14 i5 z0=>by kernel_rfl
 | .h19 i6 z0=>by kernel_rfl
def zja (x0:Sem zk):Option (zo (List.map some [zg])):=zaj [zg] zhO 100000000 (zyk x0)
def zlo (x0:Sem zk):Bool:=(zja x0).isSome
def zos (x0:Sem zk):Sem zg:=(fun r:zo (List.map some [zg])=>r.1) ((zja x0).getD (zad [zg]))
def zQ7:zJ:=zG [zk] [zg] (fun x=>zlo x.1) fun x=>(zos x.1,())
theorem zMs:FOk zdV.P zdV.gl 27 zQ7:=zae (ks:=[zk]) (outs:=[zg]) (keep:=zGa) (gas:=400) (n:=100000000) (e:=zEv) (t:=zhO) (i:=fun x=>zyk x.1) zkS zkn zQz (fun x=>zS2 x.1) zWg (fun _=>by kernel_rfl) (fun _=>by kernel_rfl)

abbrev zEn:Nat→zQ:=fun j=>if j=2 then { slots:=[0,3] } else if j=5 then { slots:=[0,3,4] } else if j=12 then { slots:=[0,3,4,5,6,7] } else { }
inductive zkJ where
 | h2 (l0:List (Sem zk)) (i3:Int)
 | h5 (l0:List (Sem zk)) (i3:Int) (i4:Int)
 | h12 (l0:List (Sem zk)) (i3:Int) (i4:Int) (i6:Sem zg) (i7:Int) (z0:zj [CP.d zt])
abbrev zC7:zkJ→Nat×St
 | .h2 l0 i3=>(2,⟨tm 75 [(0,AV.sl zk l0),(3,AV.int .i64 i3)],[]⟩)
 | .h5 l0 i3 i4=>(5,⟨tm 75 [(0,AV.sl zk l0),(3,AV.int .i64 i3),(4,AV.int .i64 i4)],[]⟩)
 | .h12 l0 i3 i4 i6 i7 z0=>(12,⟨tm 75 [(0,AV.sl zk l0),(3,AV.int .i64 i3),(4,AV.int .i64 i4),(5,AV.ptr 0 0),(6,AV.int .i64 i6),(7,AV.int .i64 i7)],[AO.box (cpN [] [CP.d zt] z0)]⟩)
theorem zVl:zF zdV.P 28 Tryz.f28 1:=by refine ⟨?_,?_,?_,?_⟩ <;> kernel_rfl
def zIb (x0:Sem zk.sl):Tr (zkJ ⊕ Raw):=
 Tr.to (zkJ.h2 x0 0)
def zzy (l0:List (Sem zk)) (i3:Int):Tr (zkJ ⊕ Raw):=
 Tr.br (decide (i3 < (↑l0.length:Int))) (Tr.to (zkJ.h5 l0 i3 0)) (Tr.re (AV.kb true) [])
def zvy (l0:List (Sem zk)) (i3:Int) (i4:Int) (a0:Sem zk) (a1:Int) (a2:Sem zt) (a3:Sem zg):Tr (zkJ ⊕ Raw):=
 Tr.chk (inB i3 l0.length)
 (Tr.br (decide (i4 < a1))
  (Tr.chk (inB i3 l0.length) (Tr.chk (inB i4 (List.length a0.1.2.2.2.2.1)) (Tr.br (decide (a3 < 0)) (Tr.re (AV.kb false) []) (Tr.to (zkJ.h12 l0 i3 i4 a3 0 (a2,()))))))
  (Tr.to (zkJ.h2 l0 (IntKind.i64.wrap (i3+1)))))
def zzo (l0:List (Sem zk)) (i3:Int) (i4:Int):Tr (zkJ ⊕ Raw):=
 let a0:=l0.getD i3.toNat (zl zk)
 let a1:=(↑(List.length a0.1.2.2.2.2.1):Int)
 let a2:=List.getD a0.1.2.2.2.2.1 i4.toNat (zl zt)
 let a3:=zqH l0 a2.2
 zvy l0 i3 i4 a0 a1 a2 a3
def zp3 (l0:List (Sem zk)) (i3:Int) (i4:Int) (i6:Sem zg) (i7:Int) (z0:zj [CP.d zt]) (a0:Sem zk) (a1:Int) (a2:Sem zf.sl) (a3:Sem zf) (a4:Bool) (_:Sem zk) (a6:Sem zn×Sem zf.sl.sl) (a7:Sem zg):Tr (zkJ ⊕ Raw):=
 Tr.chk (inB i3 l0.length)
 (Tr.br (decide (i7 < a1))
  (Tr.chk (inB i3 l0.length) (Tr.chk (inB i7 (List.length a0.2)) (Tr.chk (inB z0.1.1 (List.length a2)) (Tr.chk (bif a4 then inB i6 l0.length&&zoY a6 a3 else true) (Tr.br (bif a4 then decide (a7 < 0) else false) (Tr.re (AV.kb false) []) (Tr.to (zkJ.h12 l0 i3 i4 i6 (IntKind.i64.wrap (i7+1)) z0)))))))
  (Tr.to (zkJ.h5 l0 i3 (IntKind.i64.wrap (i4+1)))))
def zvg (l0:List (Sem zk)) (i3:Int) (i4:Int) (i6:Sem zg) (i7:Int) (z0:zj [CP.d zt]):Tr (zkJ ⊕ Raw):=
 let a0:=l0.getD i3.toNat (zl zk)
 let a1:=(↑(List.length a0.2):Int)
 let a2:=List.getD a0.2 i7.toNat (zl zf.sl)
 let a3:=List.getD a2 (Int.toNat z0.1.1) (zl zf)
 let a4:=a3.1 != 0
 let a5:=l0.getD (Int.toNat i6) (zl zk)
 let a6:=((a5.1.1,a5.1.2.1,a5.1.2.2.1,a5.1.2.2.2.1,a5.1.2.2.2.2.1,zz a5.1.2.2.2.2.2),a5.2)
 let a7:=zuE a6 a3
 zp3 l0 i3 i4 i6 i7 z0 a0 a1 a2 a3 a4 a5 a6 a7
theorem zUJ (x0:Sem zk.sl):run zdV 0 zEn (Func.results Tryz.f28).toList 400 (zq Tryz.f28) (zp (Func.ntmps Tryz.f28) [zx zk.sl x0] [])=(zIb x0).map (lf Tryz.f28 zC7):=by kernel_rfl
def ziq:zkJ→Tr (zkJ ⊕ Raw)
 | .h2 l0 i3=>zzy l0 i3
 | .h5 l0 i3 i4=>zzo l0 i3 i4
 | .h12 l0 i3 i4 i6 i7 z0=>zvg l0 i3 i4 i6 i7 z0
theorem zTc:∀ s,run zdV 0 zEn (Func.results Tryz.f28).toList 400 (zA Tryz.f28 (zC7 s).1) (zC7 s).2=(ziq s).map (lf Tryz.f28 zC7)
 | .h2 l0 i3=>by kernel_rfl
 | .h5 l0 i3 i4=>by kernel_rfl
 | .h12 l0 i3 i4 i6 i7 z0=>by kernel_rfl
def zpF (x0:Sem zk.sl):Option (zo (List.map some [Sh.bool])):=zaj [Sh.bool] ziq 100000000 (zIb x0)
def zld (x0:Sem zk.sl):Bool:=(zpF x0).isSome
def zoD (x0:Sem zk.sl):Sem Sh.bool:=(fun r:zo (List.map some [Sh.bool])=>r.1) ((zpF x0).getD (zad [Sh.bool]))
def zR1:zJ:=zG [zk.sl] [Sh.bool] (fun x=>zld x.1) fun x=>(zoD x.1,())
theorem zOC:FOk zdV.P zdV.gl 28 zR1:=zae (ks:=[zk.sl]) (outs:=[Sh.bool]) (keep:=zEn) (gas:=400) (n:=100000000) (e:=zC7) (t:=ziq) (i:=fun x=>zIb x.1) zkS zkn zVl (fun x=>zUJ x.1) zTc (fun _=>by kernel_rfl) (fun _=>by kernel_rfl)

def zhC:Env:=((zdV.add 27 zQ7).add 28 zR1)
theorem zrh:zi zhC:=(zi.addS (zi.addS zkS (zB.refl zdV) zMs) ((zB.refl zdV).add _ _) zOC)
theorem zqd:zhC.P.follows .mixedOrders=true:=(zm (zm zkn _ _) _ _)
end
open Go Go.Proofs
set_option maxHeartbeats 4000000

theorem ztF.may {t:Sem zn} (h:ztF t) (ho:(t.2.2.2.2.2.op==[])=false):zc1 t.2.2.2.2.2=true:=by
 have hc:=h.chk
 unfold zdz at hc
 have hn:zgn 16 t.2.2.2.2.2 zmQ=false:=by rw [zpl,ho]; rfl
 rw [hn,if_neg (by simp)] at hc
 rcases Bool.eq_false_or_eq_true (zc1 t.2.2.2.2.2) with c | c
 ·exact c
 ·have ht:zcx t.2.2.2.2.2 t.2.1=(0,1):=by unfold zcx; rw [c]; rfl
  rw [ht] at hc
  cases hc

abbrev zh4 (t:Sem zn) (row:List (Sem zf)) (r:List (Sem zf)) (i:Int):Int:=zc7 t.1 t.2.1 t.2.2.1 t.2.2.2.1 t.2.2.2.2.1 (ze.op t.2.2.2.2.2) (ze.v t.2.2.2.2.2).1 (ze.v t.2.2.2.2.2).2.1 (ze.v t.2.2.2.2.2).2.2 (ze.s t.2.2.2.2.2) (ze.l t.2.2.2.2.2) row r i
abbrev ziH (t:Sem zn) (row:List (Sem zf)) (r:List (Sem zf)) (i:Int):Int:=zdk row t.1 t.2.1 t.2.2.1 t.2.2.2.1 t.2.2.2.2.1 (ze.op t.2.2.2.2.2) (ze.v t.2.2.2.2.2).1 (ze.v t.2.2.2.2.2).2.1 (ze.v t.2.2.2.2.2).2.2 (ze.s t.2.2.2.2.2) (ze.l t.2.2.2.2.2) r i

theorem zzk (t:Sem zn) (row:List (Sem zf)) (i:Int):zh4 t row [] i=if isV (zez t.2.2.2.2.2 t.2.1 row) 0=true then (9:Int) else 0:=by
 have e0:ze.mk (ze.op t.2.2.2.2.2) ((ze.v t.2.2.2.2.2).1,(ze.v t.2.2.2.2.2).2.1,(ze.v t.2.2.2.2.2).2.2) (ze.s t.2.2.2.2.2) (ze.l t.2.2.2.2.2)=t.2.2.2.2.2:=ze.eta _
 unfold zh4
 rw [zc7,e0]
 rfl
theorem zoa (t:Sem zn) (row:List (Sem zf)) (x:Sem zf) (r:List (Sem zf)) (i:Nat):zh4 t row (x::r) (i:Int)=if (bif x.1==0 then (List.getD t.2.1 i (zl zh)).2.2 else false)=true then (8:Int) else if (bif x.1 != 0 then x.1 != (List.getD t.2.1 i (zl zh)).2.1 else false)=true then 5 else zh4 t row r ((i+1:Nat):Int):=by
 unfold zh4
 rw [zc7]
 simp only [Int.toNat_natCast]
 rfl

theorem zps {t:Sem zn} {row:List (Sem zf)} (hw:WfT t) (hT:ztF t) (hr:∀ v∈row,VOk v) (hl:row.length=t.2.1.length):∀ (m i:Nat),row.length - i=m→i≤row.length→zaI zng (m+1) (.h9 row (i:Int) (t,())) (.int .i64 (zh4 t row (row.drop i) (i:Int)),[])
 | 0,i,hm,hi=>by
  obtain rfl:i=row.length:=by omega
  have hcl:=hw.ncols
  rw [List.drop_length,zzk]
  refine zaI.of ?_
  have h8:=hT.n8
  rcases Bool.eq_false_or_eq_true (t.2.2.2.2.2.op==[]) with c | c
  ·have hm:zc1 t.2.2.2.2.2=false:=by
    rcases Bool.eq_false_or_eq_true (zc1 t.2.2.2.2.2) with h | h
    ·rw [zAH h] at c; cases c
    ·exact h
   have hv:zez t.2.2.2.2.2 t.2.1 row=(0,0,[]):=by unfold zez; rw [hm]; rfl
   rw [hv]
   simp only [zng,zvV,zpe,Tr.val,zP,zw]
   rw [c]
   rfl
  ·have hm:=hT.may c
   have hev:=zDi (cols:=t.2.1) (row:=row) (by omega) hr hw.chk hm
   have hec:zpd t.2.2.2.2.2 t.2.1 row=true:=by unfold zpd; rw [hev]; rfl
   have hevv:zvk t.2.2.2.2.2 t.2.1 row=zez t.2.2.2.2.2 t.2.1 row:=by unfold zvk; rw [hev]; rfl
   simp only [zng,zvV,zpe,Tr.val,zP,zw,hec,hevv,zoX,zvL]
   rw [c]
   show (if true=true then (if isV (zez t.2.2.2.2.2 t.2.1 row) 0=true then some (Sum.inr (AV.int .i64 9,[])) else some (Sum.inr (AV.int .i64 0,[]))) else none:Option (zmu ⊕ Raw))=_
   rcases Bool.eq_false_or_eq_true (isV (zez t.2.2.2.2.2 t.2.1 row) 0) with k | k <;> rw [k] <;> rfl
 | m+1,i,hm,hi=>by
  have hlt:i < row.length:=by omega
  have h8:=hT.n8
  have ih:=zps hw hT hr hl m (i+1) (by omega) (by omega)
  have hd:row.drop i=List.getD row i (zl zf)::row.drop (i+1):=by
   rw [List.drop_eq_getElem_cons hlt,List.getD_eq_getElem?_getD,List.getElem?_eq_getElem hlt]; rfl
  rw [hd,zoa]
  have hin:inB (i:Int) t.2.1.length=true:=zK (by omega)
  have hv:(zng (.h9 row (i:Int) (t,()))).val=if (bif (List.getD row i (zl zf)).1==0 then (List.getD t.2.1 i (zl zh)).2.2 else false)=true then some (.inr (.int .i64 8,[])) else if (bif (List.getD row i (zl zf)).1 != 0 then (List.getD row i (zl zf)).1 != (List.getD t.2.1 i (zl zh)).2.1 else false)=true then some (.inr (.int .i64 5,[])) else some (.inl (.h9 row ((i+1:Nat):Int) (t,()))):=by
   simp only [zng,zvV,zpe,Tr.val,zV hlt,zK hlt,hin,Int.toNat_natCast,if_true]
   rw [zH i (by unfold zI; omega)]
   cases ((List.getD row i (zl zf)).1==0) <;> cases ((List.getD row i (zl zf)).1 != 0) <;> rfl
  rcases Bool.eq_false_or_eq_true (bif (List.getD row i (zl zf)).1==0 then (List.getD t.2.1 i (zl zh)).2.2 else false) with c | c
  ·rw [c,if_pos (by rfl)] at hv ⊢
   exact (zaI.of hv).mono (by omega)
  ·rw [c,if_neg (by simp)] at hv ⊢
   rcases Bool.eq_false_or_eq_true (bif (List.getD row i (zl zf)).1 != 0 then (List.getD row i (zl zf)).1 != (List.getD t.2.1 i (zl zh)).2.1 else false) with c2 | c2
   ·rw [c2,if_pos (by rfl)] at hv ⊢
    exact (zaI.of hv).mono (by omega)
   ·rw [c2,if_neg (by simp)] at hv ⊢
    exact (zaz.of hv).ends ih

theorem zqb {t:Sem zn} {row:List (Sem zf)} (hw:WfT t) (hT:ztF t) (hr:∀ v∈row,VOk v) (hl:row.length=t.2.1.length):∀ (m i:Nat),row.length - i=m→i≤row.length→zaI zng (m+2+row.length) (.h4 row (i:Int) (t,())) (.int .i64 (ziH t row (row.drop i) (i:Int)),[])
 | 0,i,hm,hi=>by
  obtain rfl:i=row.length:=by omega
  rw [List.drop_length]
  have hv:(zng (.h4 row (row.length:Int) (t,()))).val=some (.inl (.h9 row ((0:Nat):Int) (t,()))):=by
   simp only [zng,zyu,zuZ,Tr.val,zP]
   rfl
  have h9:=zps hw hT hr hl row.length 0 (by omega) (by omega)
  have e:ziH t row [] (row.length:Int)=zh4 t row (row.drop 0) ((0:Nat):Int):=by
   unfold ziH
   rw [zdk]
   rfl
  rw [e]
  exact ((zaz.of hv).ends h9).mono (by omega)
 | m+1,i,hm,hi=>by
  have hlt:i < row.length:=by omega
  have h8:=hT.n8
  have ih:=zqb hw hT hr hl m (i+1) (by omega) (by omega)
  have hd:row.drop i=List.getD row i (zl zf)::row.drop (i+1):=by
   rw [List.drop_eq_getElem_cons hlt,List.getD_eq_getElem?_getD,List.getElem?_eq_getElem hlt]; rfl
  have hvl:=(hr _ (zaO (d:=zl zf) hlt)).2.2
  have e:ziH t row (row.drop i) (i:Int)=if (!zbj (List.getD row i (zl zf)))=true then (1:Int) else ziH t row (row.drop (i+1)) ((i+1:Nat):Int):=by
   rw [hd]
   unfold ziH
   rw [zdk]
   rfl
  rw [e]
  have hv:(zng (.h4 row (i:Int) (t,()))).val=if (!zbj (List.getD row i (zl zf)))=true then some (.inr (.int .i64 1,[])) else some (.inl (.h4 row ((i+1:Nat):Int) (t,()))):=by
   simp only [zng,zyu,zuZ,Tr.val,zV hlt,zK hlt,Int.toNat_natCast,if_true,zl4 hvl,zoI hvl]
   rw [zH i (by unfold zI; omega)]
  rcases Bool.eq_false_or_eq_true (!zbj (List.getD row i (zl zf))) with c | c
  ·rw [c,if_pos (by rfl)] at hv ⊢
   exact (zaI.of hv).mono (by omega)
  ·rw [c,if_neg (by simp)] at hv ⊢
   exact ((zaz.of hv).ends ih).mono (by omega)

theorem zsX {t:Sem zn} {row:List (Sem zf)} (hw:WfT t) (hr:∀ v∈row,VOk v):zvB t row=some (zcL t row,()):=by
 unfold zcL
 have hi:(zEN t row).val=if (bif !zdi t then true else (row.length:Int) != (t.2.1.length:Int))=true then some (.inr (.int .i64 1,[])) else some (.inl (.h4 row ((0:Nat):Int) (t,()))):=by
  simp only [zEN,zKt,Tr.val,zw,zg9 hw,zji hw,if_true]
  rfl
 rcases Bool.eq_false_or_eq_true (bif !zdi t then true else (row.length:Int) != (t.2.1.length:Int)) with c | c
 ·rw [if_pos c] at hi ⊢
  exact zg5 hi rfl
 ·rw [if_neg (by rw [c]; simp)] at hi ⊢
  have hm:zdi t=true:=by
   rcases Bool.eq_false_or_eq_true (zdi t) with k | k
   ·exact k
   ·rw [k] at c; cases c
  rw [hm] at c
  have hl:row.length=t.2.1.length:=by
   have:((row.length:Int) != (t.2.1.length:Int))=false:=c
   simp at this; omega
  have hT:=(zrL t).1 hm
  have h8:=hT.n8
  exact zO hi (zqb hw hT hr hl row.length 0 (by omega) (by omega)) (by omega) rfl
theorem zB4 {t:Sem zn} {row:List (Sem zf)} (hw:WfT t) (hr:∀ v∈row,VOk v):zoz t row=true:=by unfold zoz; rw [zsX hw hr]; rfl
theorem zDX {t:Sem zn} {row:List (Sem zf)} (hw:WfT t) (hr:∀ v∈row,VOk v):zuM t row=zcL t row:=by unfold zuM; rw [zsX hw hr]; rfl
open Go Go.Proofs
set_option maxHeartbeats 4000000

theorem eq3 (a b:Sem zf):(a.1==b.1&&(a.2.1==b.2.1&&(a.2.2==b.2.2&&true)))=true↔a=b:=by
 obtain ⟨k,n,s⟩:=a
 obtain ⟨k',n',s'⟩:=b
 simp

theorem zlw {rows:List (List (Sem zf))} {c:Int} (hc:∀ r∈rows,inB c (List.length r)=true) (hl:rows.length≤1000):∃ b,zqG rows c=some (b,())∧(b=false↔zj1 rows c):=by
 have h2:=For (t:=zom) (Φ:=fun r=>r=(.kb true,[])) 1002 (fun i=>.h2 rows c (i:Int)) (fun i=>∀ k,k < i→¬ ((zab c (List.getD rows i (zl zf.sl))).1≠0∧zab c (List.getD rows i (zl zf.sl))=zab c (List.getD rows k (zl zf.sl)))) rows.length (by
  intro i hi _
  have hv:(zom (.h2 rows c (i:Int))).val=some (.inl (.h5 rows c (i:Int) ((0:Nat):Int))):=by
   simp only [zom,zyK,Tr.val,zV hi]
   rfl
  have h5:=For (t:=zom) (Φ:=fun r=>r=(.kb true,[])) 1 (fun k=>.h5 rows c (i:Int) (k:Int)) (fun k=>¬ ((zab c (List.getD rows i (zl zf.sl))).1≠0∧zab c (List.getD rows i (zl zf.sl))=zab c (List.getD rows k (zl zf.sl)))) i (by
   intro k hk _
   have hk2:k < rows.length:=by omega
   have hv:(zom (.h5 rows c (i:Int) (k:Int))).val=if (bif (zab c (List.getD rows i (zl zf.sl))).1 != 0 then (zab c (List.getD rows i (zl zf.sl))).1==(zab c (List.getD rows k (zl zf.sl))).1&&((zab c (List.getD rows i (zl zf.sl))).2.1==(zab c (List.getD rows k (zl zf.sl))).2.1&&((zab c (List.getD rows i (zl zf.sl))).2.2==(zab c (List.getD rows k (zl zf.sl))).2.2&&true)) else false)=true then some (.inr (.kb true,[])) else some (.inl (.h5 rows c (i:Int) ((k+1:Nat):Int))):=by
    simp only [zom,zyG,zug,Tr.val,zV hk,zK hi,zK hk2,hc _ (zaO (d:=zl zf.sl) hi),hc _ (zaO (d:=zl zf.sl) hk2),Int.toNat_natCast,if_true]
    rw [if_pos,zH k (by unfold zI; omega)]
    cases ((List.getD (List.getD rows i (zl zf.sl)) (Int.toNat c) (zl zf)).1 != 0) <;> rfl
   have he:=eq3 (zab c (List.getD rows i (zl zf.sl))) (zab c (List.getD rows k (zl zf.sl)))
   rcases Bool.eq_false_or_eq_true ((zab c (List.getD rows i (zl zf.sl))).1 != 0) with d1 | d1
   ·have d1':(zab c (List.getD rows i (zl zf.sl))).1≠0:=bne_iff_ne.1 d1
    rcases Bool.eq_false_or_eq_true ((zab c (List.getD rows i (zl zf.sl))).1==(zab c (List.getD rows k (zl zf.sl))).1&&((zab c (List.getD rows i (zl zf.sl))).2.1==(zab c (List.getD rows k (zl zf.sl))).2.1&&((zab c (List.getD rows i (zl zf.sl))).2.2==(zab c (List.getD rows k (zl zf.sl))).2.2&&true))) with d2 | d2
    ·exact .inr ⟨fun h=>h ⟨d1',he.1 d2⟩,_,zaI.of (by rw [hv,d1,d2,if_pos (by rfl)]),rfl⟩
    ·exact .inl ⟨fun h=>(by rw [he.2 h.2] at d2; cases d2),zaz.of (by rw [hv,d1,d2,if_neg (by simp)])⟩
   ·refine .inl ⟨fun h=>h.1 (by simpa using d1),zaz.of (by rw [hv,d1,if_neg (by simp)])⟩)
  rcases h5 with ⟨p5,g5⟩ | ⟨p5,r,g5,hr⟩
  ·have hv5:(zom (.h5 rows c (i:Int) (i:Int))).val=some (.inl (.h2 rows c ((i+1:Nat):Int))):=by
    simp only [zom,zyG,zug,Tr.val,zP]
    rw [zH i (by unfold zI; omega)]
    rfl
   exact .inl ⟨p5,(((zaz.of hv).trans g5).trans (zaz.of hv5)).mono (by omega)⟩
  ·exact .inr ⟨p5,r,((zaz.of hv).ends g5).mono (by omega),hr⟩)
 have hu:(∀ i,i < rows.length→∀ k,k < i→¬ ((zab c (List.getD rows i (zl zf.sl))).1≠0∧zab c (List.getD rows i (zl zf.sl))=zab c (List.getD rows k (zl zf.sl))))↔zj1 rows c:=by
  unfold zj1
  rw [List.pairwise_iff_getElem]
  have e:∀ i (hi:i < rows.length),List.getD rows i (zl zf.sl)=rows[i]:=fun i hi=>by rw [List.getD_eq_getElem?_getD,List.getElem?_eq_getElem hi,Option.getD_some]
  constructor
  ·intro h i j hi hj hij hne heq
   have:=h j hj i hij
   rw [e i hi,e j hj] at this
   exact this ⟨by rw [← heq]; exact hne,heq.symm⟩
  ·rintro h i hi k hk ⟨h1,h2⟩
   rw [e i hi] at h1 h2
   rw [e k (by omega)] at h2
   exact h k i (by omega) hi hk (by rw [← h2]; exact h1) h2.symm
 have hi:(zHE rows c).val=some (.inl (.h2 rows c ((0:Nat):Int))):=rfl
 rcases h2 with ⟨p2,g2⟩ | ⟨p2,r,g2,hr⟩
 ·refine ⟨false,zO hi (g2.ends (zaI.of (r:=(.kb false,[])) ?_)) (by omega) rfl,⟨fun _=>hu.1 p2,fun _=>rfl⟩⟩
  simp only [zom,zyK,Tr.val,zP]
  rfl
 ·subst hr
  exact ⟨true,zO hi g2 (by omega) rfl,⟨fun h=>(by cases h),fun h=>absurd (hu.2 h) p2⟩⟩

theorem zwI {t:Sem zn} {row:List (Sem zf)} (hw:WfT t) (hm:zdi t=true) (hk:inB t.2.2.1 row.length=true):zvn t row=some (zab t.2.2.1 row,()):=by
 unfold zvn zaj zbk
 have h2:decide (LT.lt (α:=Int) t.2.2.1 (row.length:Int))=true:=by
  unfold inB at hk
  simp only [Bool.and_eq_true] at hk
  exact hk.2
 simp only [zIV,zKK,Tr.val,zw,zg9 hw,zji hw,hm,hk,h2]
 rfl
theorem zxm {t:Sem zn} {row:List (Sem zf)} (hw:WfT t) (hm:zdi t=true) (hk:inB t.2.2.1 row.length=true):zqA t row=true:=by unfold zqA; rw [zwI hw hm hk]; rfl
theorem zA9 {t:Sem zn} {row:List (Sem zf)} (hw:WfT t) (hm:zdi t=true) (hk:inB t.2.2.1 row.length=true):zwD t row=zab t.2.2.1 row:=by unfold zwD; rw [zwI hw hm hk]; rfl

theorem zsj {x:Sem zk} {v:Sem zf} (hw:WfT x.1) (hm:zdi x.1=true) (hk:∀ r∈x.2,inB x.1.2.2.1 (List.length r)=true) (hl:x.2.length≤1000):zvP x v=some (zaa (fun r=>zbT r x.1.2.2.1 v) x.2 0,()):=by
 have hh:∀ r∈x.2,zbT r x.1.2.2.1 v=((zab x.1.2.2.1 r).1==v.1&&((zab x.1.2.2.1 r).2.1==v.2.1&&((zab x.1.2.2.1 r).2.2==v.2.2&&true))):=by
  intro r hr
  have:=hk r hr
  unfold inB at this
  simp only [Bool.and_eq_true] at this
  unfold zbT
  rw [show decide (GE.ge (α:=Int) x.1.2.2.1 0)=true from this.1,this.2]
  rfl
 have hf:=For (t:=zyH) (Φ:=fun r=>r=(.int .i64 (zaa (fun r=>zbT r x.1.2.2.1 v) x.2 0),[])) 1 (fun i=>.h2 (i:Int) (x,()) (v,())) (fun i=>zbT (List.getD x.2 i (zl zf.sl)) x.1.2.2.1 v=false) x.2.length (by
  intro i hi hj
  have hmem:=zaO (d:=zl zf.sl) hi
  have hkk:=hk _ hmem
  have h2:decide (LT.lt (α:=Int) x.1.2.2.1 ((List.getD x.2 i (zl zf.sl)).length:Int))=true:=by
   unfold inB at hkk
   simp only [Bool.and_eq_true] at hkk
   exact hkk.2
  have hv:(zyH (.h2 (i:Int) (x,()) (v,()))).val=if zbT (List.getD x.2 i (zl zf.sl)) x.1.2.2.1 v=true then some (.inr (.int .i64 i,[])) else some (.inl (.h2 ((i+1:Nat):Int) (x,()) (v,()))):=by
   rw [hh _ hmem]
   simp only [zyH,zzU,zut,Tr.val,zw,zV hi,zK hi,hkk,h2,zg9 hw,zji hw,hm,Int.toNat_natCast,cond_true,if_true,Bool.and_self]
   rw [zH i (by unfold zI; omega)]
  rcases Bool.eq_false_or_eq_true (zbT (List.getD x.2 i (zl zf.sl)) x.1.2.2.1 v) with h | h
  ·have hp:=zhf (p:=fun r=>zbT r x.1.2.2.1 v) (d:=zl zf.sl) x.2 0 i hi h hj
   refine .inr ⟨by rw [h]; simp,_,zaI.of (by rw [hv,if_pos h]),?_⟩
   show _=(AV.int .i64 (zaa (fun r=>zbT r x.1.2.2.1 v) x.2 0),[])
   rw [hp]
   simp
  ·exact .inl ⟨h,zaz.of (by rw [hv,if_neg (by rw [h]; simp)])⟩)
 have hi:(zHP x v).val=some (.inl (.h2 ((0:Nat):Int) (x,()) (v,()))):=rfl
 rcases hf with ⟨h1,h2⟩ | ⟨h1,r,h2,rfl⟩
 ·have hp:=zhh (p:=fun r=>zbT r x.1.2.2.1 v) (d:=zl zf.sl) x.2 0 h1
  rw [hp]
  refine zO hi (h2.ends (zaI.of (r:=(.int .i64 (-1),[])) ?_)) (by omega) rfl
  simp only [zyH,zzU,zut,Tr.val,zP]
  rfl
 ·exact zO hi h2 (by omega) rfl
theorem zCv {x:Sem zk} {v:Sem zf} (hw:WfT x.1) (hm:zdi x.1=true) (hk:∀ r∈x.2,inB x.1.2.2.1 (List.length r)=true) (hl:x.2.length≤1000):zoY x v=true:=by unfold zoY; rw [zsj hw hm hk hl]; rfl
theorem zDq {x:Sem zk} {v:Sem zf} (hw:WfT x.1) (hm:zdi x.1=true) (hk:∀ r∈x.2,inB x.1.2.2.1 (List.length r)=true) (hl:x.2.length≤1000):zuE x v=zaa (fun r=>zbT r x.1.2.2.1 v) x.2 0:=by unfold zuE; rw [zsj hw hm hk hl]; rfl
open Go Go.Proofs
set_option maxHeartbeats 4000000

structure WfR (x:Sem zk):Prop where
 t:WfT x.1
 rows:x.2.length≤1000
 vals:∀ r∈x.2,∀ v∈(r:List (Sem zf)),VOk v
theorem WfR.short {x:Sem zk} (h:WfR x):zhQ x:=⟨h.t.nuq,h.t.nrf,h.rows⟩

theorem zsu {t:Sem zn} {row:List (Sem zf)}:∀ (r:List (Sem zf)) (i:Nat),zh4 t row r (i:Int)=(0:Int)→∀ j,j < r.length→(List.getD t.2.1 (i+j) (zl zh)).2.2=true→(List.getD r j (zl zf)).1≠0
 | [],_,_,j,hj,_=>by simp at hj
 | x::r,i,h,j,hj,hn=>by
  rw [zoa] at h
  split at h
  ·cases h
  rename_i c
  split at h
  ·cases h
  cases j with
  | zero=>
   intro h0
   have h0':(x.1==0)=true:=by simpa using h0
   rw [h0'] at c
   exact c hn
  | succ j=>
   have:=zsu r (i+1) h j (by simpa using hj) (by rw [show i+1+j=i+(j+1) by omega]; exact hn)
   exact this
theorem zsV {t:Sem zn} {row:List (Sem zf)}:∀ (r:List (Sem zf)) (i:Nat),ziH t row r (i:Int)=(0:Int)→(∀ v∈r,zbj v=true)∧zh4 t row row ((0:Nat):Int)=(0:Int)
 | [],i,h=>by
  unfold ziH at h
  rw [zdk] at h
  exact ⟨fun v hv=>(by cases hv),h⟩
 | x::r,i,h=>by
  have e:ziH t row (x::r) (i:Int)=if (!zbj x)=true then (1:Int) else ziH t row r ((i+1:Nat):Int):=by
   unfold ziH
   rw [zdk]
   rfl
  rw [e] at h
  split at h
  ·cases h
  rename_i c
  obtain ⟨h1,h2⟩:=zsV r (i+1) h
  refine ⟨fun v hv=>?_,h2⟩
  rcases List.mem_cons.1 hv with rfl | hv
  ·simpa using c
  ·exact h1 v hv

theorem zhT {t:Sem zn} {row:List (Sem zf)} (h:zcL t row=(0:Int)):row.length=t.2.1.length∧(∀ v∈row,zbj v=true)∧∀ j,j < row.length→(List.getD t.2.1 j (zl zh)).2.2=true→(List.getD row j (zl zf)).1≠0:=by
 have hl:=zpR (t:=t) (row:=row) (by simpa using h)
 unfold zcL at h
 split at h
 ·cases h
 obtain ⟨h1,h2⟩:=zsV row 0 h
 refine ⟨hl,h1,fun j hj hn=>?_⟩
 have:=zsu row 0 h2 j hj (by rwa [Nat.zero_add])
 exact this

theorem zzM {a b:Sem zf} (ha:zbj a=true) (hb:zbj b=true) (h:zb1 a b=(0:Int)):a=b:=by
 unfold zb1 zam at h
 rw [ha,hb] at h
 have h:orI [zu0 a.1 b.1,zlH a.2.1 b.2.1,zt1 a.2.2 b.2.2]=(0:Int):=h
 rw [← zG8] at h
 rcases Bool.eq_false_or_eq_true (a.1==b.1&&(a.2.1==b.2.1&&(a.2.2==b.2.2&&true))) with c | c
 ·exact (eq3 a b).1 c
 ·rw [if_neg (by rw [c]; simp)] at h
  split at h <;> cases h

theorem zvM {x:Sem zk} (hw:WfR x):∃ e:Int,zja x=some (e,())∧(e=0↔zgE x):=by
 have hsw:=hw.rows
 have hsu:=hw.t.nuq
 by_cases hm:zdi x.1=true
 case neg=>
  have hm':zdi x.1=false:=by simpa using hm
  refine ⟨1,?_,fun h=>(by cases h),fun h=>absurd h.may hm⟩
  unfold zja zaj zbk
  simp only [zyk,zBd,Tr.val,zw,zg9 hw.t,zji hw.t,hm']
  rfl
 by_cases hwl:x.2.length≤200
 case neg=>
  refine ⟨13,?_,fun h=>(by cases h),fun h=>absurd h.few hwl⟩
  unfold zja zaj zbk
  simp only [zyk,zBd,Tr.val,zw,zg9 hw.t,zji hw.t,hm]
  rw [if_pos trivial,if_neg (by simp),if_pos (by simp; omega)]
  rfl
 have hi:(zyk x).val=some (.inl (.h6 ((0:Nat):Int) (x,()))):=by
  simp only [zyk,zBd,Tr.val,zw,zg9 hw.t,zji hw.t,hm]
  rw [if_pos trivial,if_neg (by simp),if_neg (by simp; omega)]
  rfl
 obtain ⟨hkc,hrc,huc,_,_⟩:=zfP hm
 have h6:=For (t:=zhO) (Φ:=Err) 1 (fun i=>.h6 (i:Int) (x,())) (fun i=>zcL x.1 (List.getD x.2 i (zl zf.sl))=(0:Int)) x.2.length (by
  intro i hi _
  have hvr:=hw.vals _ (zaO (d:=zl zf.sl) hi)
  have hv:(zhO (.h6 (i:Int) (x,()))).val=if (zcL x.1 (List.getD x.2 i (zl zf.sl)) != 0)=true then some (.inr (.int .i64 (zcL x.1 (List.getD x.2 i (zl zf.sl))),[])) else some (.inl (.h6 ((i+1:Nat):Int) (x,()))):=by
   simp only [zhO,zyj,zu4,Tr.val,zw,zV hi,zK hi,Int.toNat_natCast,zB4 hw.t hvr,zDX hw.t hvr,if_true]
   rw [zH i (by unfold zI; omega)]
  by_cases h:zcL x.1 (List.getD x.2 i (zl zf.sl))=(0:Int)
  ·refine .inl ⟨h,zaz.of ?_⟩
   rw [hv,if_neg (by rw [h]; simp)]
  ·refine .inr ⟨h,_,zaI.of (by rw [hv,if_pos (by simpa using h)]),_,rfl,h⟩)
 rcases h6 with ⟨hf,h6⟩ | ⟨hf,r,h6,e,he,hne⟩
 case inr=>
  subst he
  exact ⟨e,zO hi h6 (by omega) rfl,fun h=>absurd h hne,fun h=>absurd ((zZ (Q:=fun r=>zcL x.1 r=(0:Int))).2 h.fits) hf⟩
 have hfits:=(zZ (Q:=fun r=>zcL x.1 r=(0:Int))).1 hf
 have hlen:∀ r∈x.2,List.length r=x.1.2.1.length:=fun r hr=>(zhT (hfits r hr)).1
 have hin:∀ c,inC c x.1.2.1.length→∀ r∈x.2,inB c (List.length r)=true:=fun c hc r hr=>by
  rw [hlen r hr]; exact zlz hc
 obtain ⟨b,hb,hbu⟩:=zlw (rows:=x.2) (c:=x.1.2.2.1) (hin _ hkc) hsw
 have hbc:zgl x.2 x.1.2.2.1=true:=by unfold zgl; rw [hb]; rfl
 have hbv:zhL x.2 x.1.2.2.1=b:=by unfold zhL; rw [hb]; rfl
 have hv6:(zhO (.h6 (x.2.length:Int) (x,()))).val=if b=true then some (.inr (.int .i64 7,[])) else some (.inl (.h14 ((0:Nat):Int) (x,()))):=by
  simp only [zhO,zyj,zu4,Tr.val,zP,hbc,hbv]
  rfl
 by_cases hb1:b=true
 ·refine ⟨7,zO hi (h6.ends (zaI.of (by rw [hv6,if_pos hb1]))) (by omega) rfl,fun h=>(by cases h),fun h=>?_⟩
  have:=hbu.2 h.key
  rw [hb1] at this; cases this
 have hkey:zj1 x.2 x.1.2.2.1:=hbu.1 (by simpa using hb1)
 have g14:zaz zhO _ (.h6 ((0:Nat):Int) (x,())) _:=h6.trans (zaz.of (by rw [hv6,if_neg hb1]))
 have h14:=For (t:=zhO) (Φ:=Err) 1 (fun i=>.h14 (i:Int) (x,())) (fun i=>zj1 x.2 (List.getD x.1.2.2.2.1 i (zl zg))) x.1.2.2.2.1.length (by
  intro i hi _
  obtain ⟨b,hb,hbu⟩:=zlw (rows:=x.2) (c:=List.getD x.1.2.2.2.1 i (zl zg)) (hin _ (huc _ (zaO hi))) hsw
  have hbc:zgl x.2 (List.getD x.1.2.2.2.1 i (zl zg))=true:=by unfold zgl; rw [hb]; rfl
  have hbv:zhL x.2 (List.getD x.1.2.2.2.1 i (zl zg))=b:=by unfold zhL; rw [hb]; rfl
  have hv:(zhO (.h14 (i:Int) (x,()))).val=if b=true then some (.inr (.int .i64 7,[])) else some (.inl (.h14 ((i+1:Nat):Int) (x,()))):=by
   simp only [zhO,zu9,zqS,Tr.val,zV hi,zK hi,if_true,Int.toNat_natCast,hbc,hbv]
   rw [zH i (by unfold zI; omega)]
  by_cases h:b=true
  ·refine .inr ⟨fun hu=>?_,_,zaI.of (by rw [hv,if_pos h]),7,rfl,by decide⟩
   have:=hbu.2 hu
   rw [h] at this; cases this
  ·exact .inl ⟨hbu.1 (by simpa using h),zaz.of (by rw [hv,if_neg h])⟩)
 rcases h14 with ⟨hq,h14⟩ | ⟨hq,r,h14,e,he,hne⟩
 case inr=>
  subst he
  exact ⟨e,zO hi (g14.ends h14) (by omega) rfl,fun h=>absurd h hne,fun h=>absurd ((zZ (Q:=fun u=>zj1 x.2 u)).2 h.uniq) hq⟩
 have huniq:=(zZ (Q:=fun u=>zj1 x.2 u)).1 hq
 have hv14:(zhO (.h14 (x.1.2.2.2.1.length:Int) (x,()))).val=some (.inl (.h19 ((0+1:Nat):Int) (x,()))):=by
  simp only [zhO,zu9,zqS,Tr.val,zP]
  rfl
 have g19:=(g14.trans h14).trans (zaz.of hv14)
 have hstep:∀ i,i+1 < x.2.length→(vLt (zab x.1.2.2.1 (List.getD x.2 i (zl zf.sl))) (zab x.1.2.2.1 (List.getD x.2 (i+1) (zl zf.sl)))↔decide (GT.gt (α:=Int) (zb1 (zab x.1.2.2.1 (List.getD x.2 i (zl zf.sl))) (zab x.1.2.2.1 (List.getD x.2 (i+1) (zl zf.sl)))) 0)=false):=by
  intro i h2
  have h1:i < x.2.length:=by omega
  have m1:=zaO (d:=zl zf.sl) h1
  have m2:=zaO (d:=zl zf.sl) h2
  obtain ⟨l1,f1,n1⟩:=zhT (hfits _ m1)
  obtain ⟨l2,f2,_⟩:=zhT (hfits _ m2)
  have hT:=(zrL x.1).1 hm
  obtain ⟨k1,k2⟩:=hT.key
  have hk1:Int.toNat x.1.2.2.1 < (List.getD x.2 i (zl zf.sl)).length:=by rw [l1]; omega
  have hk2:Int.toNat x.1.2.2.1 < (List.getD x.2 (i+1) (zl zf.sl)).length:=by rw [l2]; omega
  unfold vLt
  constructor
  ·intro h; exact decide_eq_false (by omega)
  ·intro h
   have h:¬ GT.gt (α:=Int) (zb1 (zab x.1.2.2.1 (List.getD x.2 i (zl zf.sl))) (zab x.1.2.2.1 (List.getD x.2 (i+1) (zl zf.sl)))) 0:=of_decide_eq_false h
   by_cases h0:@Eq Int (zb1 (zab x.1.2.2.1 (List.getD x.2 i (zl zf.sl))) (zab x.1.2.2.1 (List.getD x.2 (i+1) (zl zf.sl)))) 0
   ·exfalso
    have he:=zzM (f1 _ (zaO hk1)) (f2 _ (zaO hk2)) h0
    have hne:=n1 _ hk1 hT.nn
    have hp:=(List.pairwise_iff_getElem.1 hkey) i (i+1) h1 h2 (by omega)
    have e1:List.getD x.2 i (zl zf.sl)=x.2[i]:=by rw [List.getD_eq_getElem?_getD,List.getElem?_eq_getElem h1,Option.getD_some]
    have e2:List.getD x.2 (i+1) (zl zf.sl)=x.2[i+1]:=by rw [List.getD_eq_getElem?_getD,List.getElem?_eq_getElem h2,Option.getD_some]
    rw [e1] at hne he
    rw [e2] at he
    exact hp hne he
   ·omega
 have h19:=For (t:=zhO) (Φ:=Err) 1 (fun i=>.h19 ((i+1:Nat):Int) (x,())) (fun i=>vLt (zab x.1.2.2.1 (List.getD x.2 i (zl zf.sl))) (zab x.1.2.2.1 (List.getD x.2 (i+1) (zl zf.sl)))) (x.2.length - 1) (by
  intro i hi _
  have h1:i < x.2.length:=by omega
  have h2:i+1 < x.2.length:=by omega
  have m1:=zaO (d:=zl zf.sl) h1
  have m2:=zaO (d:=zl zf.sl) h2
  have k1:=hin _ hkc _ m1
  have k2:=hin _ hkc _ m2
  have o1:∀ r∈x.2,(zab x.1.2.2.1 r).2.2.length≤1000000:=by
   intro r hr
   by_cases h:Int.toNat x.1.2.2.1 < List.length r
   ·exact (hw.vals r hr _ (zaO h)).2.2
   ·unfold zab
    rw [List.getD_eq_getElem?_getD,List.getElem?_eq_none (by omega)]
    simp [zl]
  have hv:(zhO (.h19 ((i+1:Nat):Int) (x,()))).val=if decide (GT.gt (α:=Int) (zb1 (zab x.1.2.2.1 (List.getD x.2 i (zl zf.sl))) (zab x.1.2.2.1 (List.getD x.2 (i+1) (zl zf.sl)))) 0)=true then some (.inr (.int .i64 15,[])) else some (.inl (.h19 ((i+1+1:Nat):Int) (x,()))):=by
   simp only [zhO,zue,zrk,zw,ziQ i (by unfold zI; omega)]
   simp only [Tr.val,zV h2,zK h2,zK h1,Int.toNat_natCast,Prod.eta,zxm hw.t hm k1,zxm hw.t hm k2,zA9 hw.t hm k1,zA9 hw.t hm k2,zzm (o1 _ m1) (o1 _ m2),zCH (o1 _ m1) (o1 _ m2),if_true]
   rw [zH (i+1) (by unfold zI; omega)]
  rcases Bool.eq_false_or_eq_true (decide (GT.gt (α:=Int) (zb1 (zab x.1.2.2.1 (List.getD x.2 i (zl zf.sl))) (zab x.1.2.2.1 (List.getD x.2 (i+1) (zl zf.sl)))) 0)) with c | c
  ·exact .inr ⟨fun h=>(by rw [(hstep i h2).1 h] at c; cases c),_,zaI.of (by rw [hv,if_pos c]),15,rfl,by decide⟩
  ·exact .inl ⟨(hstep i h2).2 c,zaz.of (by rw [hv,if_neg (by rw [c]; simp)])⟩)
 rcases h19 with ⟨hr,h19⟩ | ⟨hr,r,h19,e,he,hne⟩
 case inr=>
  subst he
  exact ⟨e,zO hi (g19.ends h19) (by omega) rfl,fun h=>absurd h hne,fun h=>absurd h.rise hr⟩
 have hv19:(zhO (.h19 ((x.2.length - 1+1:Nat):Int) (x,()))).val=some (.inr (.int .i64 0,[])):=by
  simp only [zhO,zue,zrk,Tr.val]
  rw [if_neg (by simp; omega)]
 exact ⟨0,zO hi (g19.ends (h19.ends (zaI.of hv19))) (by omega) rfl,fun _=>⟨hm,hwl,hfits,hkey,huniq,hr⟩,fun _=>rfl⟩
open Go Go.Proofs
noncomputable section
set_option maxHeartbeats 4000000

abbrev zOm:Nat→zQ:=fun j=>if j=4 then { slots:=[0,3] } else if j=9 then { slots:=[0,4] } else { }
inductive H9p where
 | h4 (l0:List (Sem zk)) (i3:Int)
 | h9 (l0:List (Sem zk)) (i4:Int)
abbrev e9p:H9p→Nat×St
 | .h4 l0 i3=>(4,⟨tm 46 [(0,AV.sl zk l0),(3,AV.int .i64 i3)],[]⟩)
 | .h9 l0 i4=>(9,⟨tm 46 [(0,AV.sl zk l0),(4,AV.int .i64 i4)],[]⟩)
theorem zXE:zF zhC.P 9 Tryz.f9 1:=by refine ⟨?_,?_,?_,?_⟩ <;> kernel_rfl
def i9p (x0:Sem zk.sl):Tr (H9p ⊕ Raw):=
 Tr.br (decide ((↑(List.length x0):Int) > 12)) (Tr.re (AV.int .i64 13) []) (Tr.to (H9p.h4 x0 1))
def zyM (l0:List (Sem zk)) (i3:Int) (a0:Int) (a1:Sem zk) (a2:Sem zk):Tr (H9p ⊕ Raw):=
 Tr.br (decide (i3 < (↑l0.length:Int)))
 (Tr.chk (inB a0 l0.length)
  (Tr.chk (inB i3 l0.length) (Tr.br (!Op.bytesLess a1.1.1 a2.1.1) (Tr.re (AV.int .i64 15) []) (Tr.to (H9p.h4 l0 (IntKind.i64.wrap (i3+1)))))))
 (Tr.to (H9p.h9 l0 0))
def zEw (l0:List (Sem zk)) (i3:Int):Tr (H9p ⊕ Raw):=
 let a0:=IntKind.i64.wrap (i3 - 1)
 let a1:=l0.getD a0.toNat (zl zk)
 let a2:=l0.getD i3.toNat (zl zk)
 zyM l0 i3 a0 a1 a2
def zyN (l0:List (Sem zk)) (i4:Int) (_:Sem zk) (a1:Sem zn×Sem zf.sl.sl) (a2:Sem zg):Tr (H9p ⊕ Raw):=
 Tr.br (decide (i4 < (↑l0.length:Int)))
 (Tr.chk (inB i4 l0.length) (Tr.chk (zlo a1) (Tr.br (a2 != 0) (Tr.re (AV.int .i64 a2) []) (Tr.to (H9p.h9 l0 (IntKind.i64.wrap (i4+1)))))))
 (Tr.chk (zld l0) (Tr.br (!zoD l0) (Tr.re (AV.int .i64 10) []) (Tr.re (AV.int .i64 0) [])))
def zF8 (l0:List (Sem zk)) (i4:Int):Tr (H9p ⊕ Raw):=
 let a0:=l0.getD i4.toNat (zl zk)
 let a1:=((a0.1.1,a0.1.2.1,a0.1.2.2.1,a0.1.2.2.2.1,a0.1.2.2.2.2.1,zz a0.1.2.2.2.2.2),a0.2)
 let a2:=zos a1
 zyN l0 i4 a0 a1 a2
theorem zWT (x0:Sem zk.sl):run zhC 0 zOm (Func.results Tryz.f9).toList 400 (zq Tryz.f9) (zp (Func.ntmps Tryz.f9) [zx zk.sl x0] [])=(i9p x0).map (lf Tryz.f9 e9p):=by kernel_rfl
def t9p:H9p→Tr (H9p ⊕ Raw)
 | .h4 l0 i3=>zEw l0 i3
 | .h9 l0 i4=>zF8 l0 i4
theorem zX3:∀ s,run zhC 0 zOm (Func.results Tryz.f9).toList 400 (zA Tryz.f9 (e9p s).1) (e9p s).2=(t9p s).map (lf Tryz.f9 e9p)
 | .h4 l0 i3=>by kernel_rfl
 | .h9 l0 i4=>by kernel_rfl
def zlE (x0:Sem zk.sl):Option (zo (List.map some [zg])):=zaj [zg] t9p 100000000 (i9p x0)
def zlm (x0:Sem zk.sl):Bool:=(zlE x0).isSome
def zoV (x0:Sem zk.sl):Sem zg:=(fun r:zo (List.map some [zg])=>r.1) ((zlE x0).getD (zad [zg]))
def F9p:zJ:=zG [zk.sl] [zg] (fun x=>zlm x.1) fun x=>(zoV x.1,())
theorem zT7:FOk zhC.P zhC.gl 9 F9p:=zae (ks:=[zk.sl]) (outs:=[zg]) (keep:=zOm) (gas:=400) (n:=100000000) (e:=e9p) (t:=t9p) (i:=fun x=>i9p x.1) zrh zqd zXE (fun x=>zWT x.1) zX3 (fun _=>by kernel_rfl) (fun _=>by kernel_rfl)

def zgP:Env:=(zhC.add 9 F9p)
theorem zzd:zi zgP:=(zi.addS zrh (zB.refl zhC) zT7)
theorem zy2:zgP.P.follows .mixedOrders=true:=(zm zqd _ _)
end
open Go Go.Proofs
set_option maxHeartbeats 4000000

theorem zwH (s:Str):∀ (l:List (Sem zk)) (i:Nat),zdE s l (i:Int)=zaa (fun x:Sem zk=>x.1.1==s) l i
 | [],_=>rfl
 | x::r,i=>by
  rw [zdE,zaa]
  have h:=zwH s r (i+1)
  have e:(((i+1:Nat)):Int)=(i:Int)+1:=by omega
  rw [e] at h
  by_cases hx:(x.1.1==s)=true
  ·rw [if_pos hx,if_pos hx]
  ·rw [if_neg hx,if_neg hx,h]
theorem zBZ (l:List (Sem zk)) (s:Str):zqH l s=zak l s:=zwH s l 0

theorem zgE.keys {x:Sem zk} (h:zgE x):∀ r∈x.2,inB x.1.2.2.1 (List.length r)=true:=by
 intro r hr
 obtain ⟨h1,_⟩:=zfP h.may
 rw [(zhT (h.fits r hr)).1]
 exact zlz h1
theorem zDt (x:Sem zk) (c:Int) (v:Sem zf):decide (LT.lt (α:=Int) (zaa (fun r=>zbT r c v) x.2 0) 0) = !zdU x c v:=by
 unfold zdU
 rcases zeq (fun r=>zbT r c v) x.2 0 with h | ⟨h,_⟩
 ·rw [h]; rfl
 ·have:decide (zaa (fun r=>zbT r c v) x.2 0 ≥ 0)=true:=decide_eq_true (by omega)
  rw [this,decide_eq_false (by omega)]; rfl

theorem zuv {db:List (Sem zk)} (hok:∀ x∈db,zgE x) (hw:∀ x∈db,WfR x) (hl:db.length≤13):∃ b,zpF db=some (b,())∧(b=true↔zx1 db):=by
 have h2:=For (t:=ziq) (Φ:=IsF) 1010000 (fun i=>.h2 db (i:Int)) (fun i=>∀ f∈(List.getD db i (zl zk)).1.2.2.2.2.1,LE.le (α:=Int) 0 (zak db f.2)∧∀ row∈(List.getD db i (zl zk)).2,(zab f.1 row).1≠0→zdU (zaL db f.2) (zaL db f.2).1.2.2.1 (zab f.1 row)=true) db.length (by
  intro i hi _
  have hm:=zaO (d:=zl zk) hi
  have s1:=(hw _ hm).t.nrf
  have s2:=(hw _ hm).rows
  have hcl:=(hok _ hm).cols
  generalize hx:List.getD db i (zl zk)=x at *
  have hv:(ziq (.h2 db (i:Int))).val=some (.inl (.h5 db (i:Int) ((0:Nat):Int))):=by
   simp only [ziq,zzy,Tr.val,zV hi]
   rfl
  have h5:=For (t:=ziq) (Φ:=IsF) 1002 (fun k=>.h5 db (i:Int) (k:Int)) (fun k=>LE.le (α:=Int) 0 (zak db (List.getD x.1.2.2.2.2.1 k (zl zt)).2)∧∀ row∈x.2,(zab (List.getD x.1.2.2.2.2.1 k (zl zt)).1 row).1≠0→zdU (zaL db (List.getD x.1.2.2.2.2.1 k (zl zt)).2) (zaL db (List.getD x.1.2.2.2.2.1 k (zl zt)).2).1.2.2.1 (zab (List.getD x.1.2.2.2.2.1 k (zl zt)).1 row)=true) x.1.2.2.2.2.1.length (by
   intro k hk _
   have hfm:=zaO (d:=zl zt) hk
   have hcf:=hcl _ hfm
   generalize hf:List.getD x.1.2.2.2.2.1 k (zl zt)=f at *
   have hv:(ziq (.h5 db (i:Int) (k:Int))).val=if decide (LT.lt (α:=Int) (zak db f.2) 0)=true then some (.inr (.kb false,[])) else some (.inl (.h12 db (i:Int) (k:Int) (zak db f.2) ((0:Nat):Int) (f,()))):=by
    simp only [ziq,zzo,zvy,Tr.val,zK hi,Int.toNat_natCast,hx,zV hk,zK hk,hf,zBZ,if_true]
    rfl
   by_cases h1:LE.le (α:=Int) 0 (zak db f.2)
   ·have g1:=zaz.of (t:=ziq) (s:=.h5 db (i:Int) (k:Int)) (by rw [hv,if_neg (by rw [decide_eq_true_eq]; omega)])
    have hto:zaL db f.2∈db:=zaO (by
     rcases znN db f.2 with h | ⟨_,h⟩
     ·rw [h] at h1; exact absurd h1 (by decide)
     ·omega)
    have htw:=hw _ hto
    have hto2:=hok _ hto
    have h12:=For (t:=ziq) (Φ:=IsF) 1 (fun j=>.h12 db (i:Int) (k:Int) (zak db f.2) (j:Int) (f,())) (fun j=>(zab f.1 (List.getD x.2 j (zl zf.sl))).1≠0→zdU (zaL db f.2) (zaL db f.2).1.2.2.1 (zab f.1 (List.getD x.2 j (zl zf.sl)))=true) x.2.length (by
     intro j hj _
     have hv:(ziq (.h12 db (i:Int) (k:Int) (zak db f.2) (j:Int) (f,()))).val=if (bif (zab f.1 (List.getD x.2 j (zl zf.sl))).1 != 0 then !zdU (zaL db f.2) (zaL db f.2).1.2.2.1 (zab f.1 (List.getD x.2 j (zl zf.sl))) else false)=true then some (.inr (.kb false,[])) else some (.inl (.h12 db (i:Int) (k:Int) (zak db f.2) ((j+1:Nat):Int) (f,()))):=by
      simp only [ziq,zvg,zp3,Tr.val,zw,Prod.eta,zK hi,Int.toNat_natCast,hx,zV hj,zK hj,hcf _ (zaO (d:=zl zf.sl) hj),ziy h1,zCv htw.t hto2.may hto2.keys htw.rows,if_true,Bool.and_self]
      rw [zDq htw.t hto2.may hto2.keys htw.rows,zDt]
      rw [if_pos (by cases ((List.getD (List.getD x.2 j (zl zf.sl)) (Int.toNat f.1) (zl zf)).1 != 0) <;> rfl)]
      rw [zH j (by unfold zI; omega)]
     by_cases d1:(zab f.1 (List.getD x.2 j (zl zf.sl))).1=0
     ·exact .inl ⟨fun h=>absurd d1 h,zaz.of (by rw [hv,if_neg (by rw [d1]; simp)])⟩
     ·have d1':((zab f.1 (List.getD x.2 j (zl zf.sl))).1 != 0)=true:=by simpa using d1
      by_cases d2:zdU (zaL db f.2) (zaL db f.2).1.2.2.1 (zab f.1 (List.getD x.2 j (zl zf.sl)))=true
      ·exact .inl ⟨fun _=>d2,zaz.of (by rw [hv,if_neg (by rw [d2,d1']; simp)])⟩
      ·exact .inr ⟨fun h=>d2 (h d1),_,zaI.of (by rw [hv,if_pos (by rw [d1']; simpa using d2)]),rfl⟩)
    rcases h12 with ⟨p12,g12⟩ | ⟨p12,r,g12,hr⟩
    ·have hv2:(ziq (.h12 db (i:Int) (k:Int) (zak db f.2) (x.2.length:Int) (f,()))).val=some (.inl (.h5 db (i:Int) ((k+1:Nat):Int))):=by
      simp only [ziq,zvg,zp3,Tr.val,zK hi,Int.toNat_natCast,hx,zP]
      rw [zH k (by unfold zI; omega)]
      rfl
     refine .inl ⟨⟨h1,?_⟩,((g1.trans g12).trans (zaz.of hv2)).mono (by omega)⟩
     exact (zZ (Q:=fun row=>(zab f.1 row).1≠0→zdU (zaL db f.2) (zaL db f.2).1.2.2.1 (zab f.1 row)=true)).1 p12
    ·refine .inr ⟨fun h=>p12 ?_,r,(g1.ends g12).mono (by omega),hr⟩
     exact (zZ (Q:=fun row=>(zab f.1 row).1≠0→zdU (zaL db f.2) (zaL db f.2).1.2.2.1 (zab f.1 row)=true)).2 h.2
   ·exact .inr ⟨fun h=>h1 h.1,_,(zaI.of (by rw [hv,if_pos (by rw [decide_eq_true_eq]; omega)])).mono (by omega),rfl⟩)
  rcases h5 with ⟨p5,g5⟩ | ⟨p5,r,g5,hr⟩
  ·have hv2:(ziq (.h5 db (i:Int) (x.1.2.2.2.2.1.length:Int))).val=some (.inl (.h2 db ((i+1:Nat):Int))):=by
    simp only [ziq,zzo,zvy,Tr.val,zK hi,Int.toNat_natCast,hx,zP]
    rw [zH i (by unfold zI; omega)]
    rfl
   refine .inl ⟨?_,(((zaz.of hv).trans g5).trans (zaz.of hv2)).mono (by omega)⟩
   exact (zZ (Q:=fun f:Sem zt=>LE.le (α:=Int) 0 (zak db f.2)∧∀ row∈x.2,(zab f.1 row).1≠0→zdU (zaL db f.2) (zaL db f.2).1.2.2.1 (zab f.1 row)=true)).1 p5
  ·refine .inr ⟨fun h=>p5 ?_,r,((zaz.of hv).ends g5).mono (by omega),hr⟩
   exact (zZ (Q:=fun f:Sem zt=>LE.le (α:=Int) 0 (zak db f.2)∧∀ row∈x.2,(zab f.1 row).1≠0→zdU (zaL db f.2) (zaL db f.2).1.2.2.1 (zab f.1 row)=true)).2 h)
 have hb:(∀ i,i < db.length→∀ f∈(List.getD db i (zl zk)).1.2.2.2.2.1,LE.le (α:=Int) 0 (zak db f.2)∧∀ row∈(List.getD db i (zl zk)).2,(zab f.1 row).1≠0→zdU (zaL db f.2) (zaL db f.2).1.2.2.1 (zab f.1 row)=true)↔zx1 db:=
  zZ (Q:=fun x:Sem zk=>∀ f∈x.1.2.2.2.2.1,LE.le (α:=Int) 0 (zak db f.2)∧∀ row∈x.2,(zab f.1 row).1≠0→zdU (zaL db f.2) (zaL db f.2).1.2.2.1 (zab f.1 row)=true)
 have hi:(zIb db).val=some (.inl (.h2 db ((0:Nat):Int))):=rfl
 rcases h2 with ⟨h2,h3⟩ | ⟨h2,r,h3,h4⟩
 ·refine ⟨true,zO hi (h3.ends (zaI.of (r:=(.kb true,[])) ?_)) (by omega) rfl,fun _=>hb.1 h2,fun _=>rfl⟩
  simp only [ziq,zzy,Tr.val,zP]
  rfl
 ·unfold IsF at h4
  subst h4
  exact ⟨false,zO hi h3 (by omega) rfl,fun h=>(by cases h),fun h=>absurd (hb.2 h) h2⟩

theorem zus {db:List (Sem zk)} (hw:∀ x∈db,WfR x):∃ e:Int,zlE db=some (e,())∧(e=0↔zpm db):=by
 by_cases hwl:db.length≤12
 case neg=>
  refine ⟨13,?_,fun h=>(by cases h),fun h=>absurd h.few hwl⟩
  unfold zlE zaj zbk
  simp only [i9p,Tr.val]
  rw [if_pos (by simp; omega)]
  rfl
 have hi:(i9p db).val=some (.inl (.h4 db ((0+1:Nat):Int))):=by
  simp only [i9p,Tr.val]
  rw [if_neg (by simp; omega)]
  rfl
 have h4:=For (t:=t9p) (Φ:=Err) 1 (fun i=>.h4 db ((i+1:Nat):Int)) (fun i=>Op.bytesLess (List.getD db i (zl zk)).1.1 (List.getD db (i+1) (zl zk)).1.1=true) (db.length - 1) (by
  intro i hi _
  have h1:i < db.length:=by omega
  have h2:i+1 < db.length:=by omega
  have hv:(t9p (.h4 db ((i+1:Nat):Int))).val=if (!Op.bytesLess (List.getD db i (zl zk)).1.1 (List.getD db (i+1) (zl zk)).1.1)=true then some (.inr (.int .i64 15,[])) else some (.inl (.h4 db ((i+1+1:Nat):Int))):=by
   simp only [t9p,zEw,zyM,ziQ i (by unfold zI; omega)]
   simp only [Tr.val,zV h2,zK h2,zK h1,Int.toNat_natCast,if_true]
   rw [zH (i+1) (by unfold zI; omega)]
  by_cases h:Op.bytesLess (List.getD db i (zl zk)).1.1 (List.getD db (i+1) (zl zk)).1.1=true
  ·exact .inl ⟨h,zaz.of (by rw [hv,if_neg (by rw [h]; simp)])⟩
  ·exact .inr ⟨h,_,zaI.of (by rw [hv,if_pos (by simpa using h)]),15,rfl,by decide⟩)
 rcases h4 with ⟨hn,h4⟩ | ⟨hn,r,h4,e,he,hne⟩
 case inr=>
  subst he
  exact ⟨e,zO hi h4 (by omega) rfl,fun h=>absurd h hne,fun h=>absurd h.names hn⟩
 have hv4:(t9p (.h4 db ((db.length - 1+1:Nat):Int))).val=some (.inl (.h9 db ((0:Nat):Int))):=by
  simp only [t9p,zEw,zyM,Tr.val]
  rw [if_neg (by simp; omega)]
  rfl
 have g9:=h4.trans (zaz.of hv4)
 have h9:=For (t:=t9p) (Φ:=Err) 1 (fun i=>.h9 db (i:Int)) (fun i=>zgE (List.getD db i (zl zk))) db.length (by
  intro i hi _
  obtain ⟨e,he,heq⟩:=zvM (hw _ (zaO (d:=zl zk) hi))
  have hc:zlo (List.getD db i (zl zk))=true:=by unfold zlo; rw [he]; rfl
  have hv0:zos (List.getD db i (zl zk))=e:=by unfold zos; rw [he]; rfl
  have hv:(t9p (.h9 db (i:Int))).val=if (e != 0)=true then some (.inr (.int .i64 e,[])) else some (.inl (.h9 db ((i+1:Nat):Int))):=by
   simp only [t9p,zF8,zyN,Tr.val,zw,zV hi,zK hi,Int.toNat_natCast,if_true,Prod.eta,hc,hv0]
   rw [zH i (by unfold zI; omega)]
  by_cases h:e=0
  ·exact .inl ⟨heq.1 h,zaz.of (by rw [hv,if_neg (by rw [h]; simp)])⟩
  ·exact .inr ⟨fun hr=>h (heq.2 hr),_,zaI.of (by rw [hv,if_pos (by simpa using h)]),e,rfl,h⟩)
 rcases h9 with ⟨hr,h9⟩ | ⟨hr,r,h9,e,he,hne⟩
 case inr=>
  subst he
  exact ⟨e,zO hi (g9.ends h9) (by omega) rfl,fun h=>absurd h hne,fun h=>absurd ((zZ (Q:=zgE)).2 h.rels) hr⟩
 have hrels:=(zZ (Q:=zgE)).1 hr
 obtain ⟨b,hb,hbb⟩:=zuv (db:=db) hrels hw (by omega)
 have hc:zld db=true:=by unfold zld; rw [hb]; rfl
 have hv0:zoD db=b:=by unfold zoD; rw [hb]; rfl
 have hv9:(t9p (.h9 db (db.length:Int))).val=if (!b)=true then some (.inr (.int .i64 10,[])) else some (.inr (.int .i64 0,[])):=by
  simp only [t9p,zF8,zyN,Tr.val,zP,hc,hv0]
  rfl
 by_cases h:b=true
 ·exact ⟨0,zO hi (g9.ends (h9.ends (zaI.of (by rw [hv9,if_neg (by rw [h]; simp)])))) (by omega) rfl,fun _=>⟨hwl,hn,hrels,hbb.1 h⟩,fun _=>rfl⟩
 ·exact ⟨10,zO hi (g9.ends (h9.ends (zaI.of (by rw [hv9,if_pos (by simpa using h)])))) (by omega) rfl,fun h=>(by cases h),fun hB=>absurd (hbb.2 hB.bound) h⟩
open Go Go.Proofs
set_option maxHeartbeats 4000000

def RgV (v:Sem zf):Prop:=LE.le (α:=Int) (-9223372036854775808) v.2.1∧LE.le (α:=Int) v.2.1 9223372036854775807
mutual
def RgE:ze→Prop
 | .mk _ v _ l=>RgV v∧zuw l
def zuw:List ze→Prop
 | []=>True
 | e::r=>RgE e∧zuw r
end
theorem zuw.mem:∀ {l:List ze},zuw l→∀ e∈l,RgE e
 | [],_,e,h=>by simp at h
 | x::r,h,e,he=>by
  rw [zuw] at h
  rcases List.mem_cons.1 he with rfl | he
  ·exact h.1
  ·exact zuw.mem h.2 e he
theorem zg8.app:∀ {a b:List ze},zg8 a→zg8 b→zg8 (a++b)
 | [],_,_,h=>h
 | x::r,b,h,hb=>by
  rw [zg8] at h
  rw [List.cons_append,zg8]
  exact ⟨h.1,h.2.app hb⟩

theorem zAN {g:Sem Sh.expr→Sem zg→Sem zg→Sem Sh.expr×Sem zg} {c:Sem Sh.expr→Sem zg→Sem zg→Bool} {i1:Int} {a0:Str} {a1 a2:Int} {a3 a4 b0:Str} {b1 b2:Int} {b3 b4 d0:Str} {d1 d2:Int} {d3 d4:Str} (hv:VOk (d1,d2,d3)) (hs:d4.length≤1000000):
  ∀ (l:List (Sem Sh.expr)) (i n:Int) (acc:List (Sem Sh.expr)),(∀ x∈l,∀ m,WfE (g x (IntKind.i64.wrap (i1 - 1)) m).1)→zg8 acc→WfE (zbe g c i1 a0 a1 a2 a3 a4 b0 b1 b2 b3 b4 d0 d1 d2 d3 d4 l i n acc).1
 | [],_,_,acc,_,ha=>by
  rw [zbe,WfE]; exact ⟨hv,hs,ha⟩
 | x::r,i,n,acc,hg,ha=>by
  rw [zbe]
  split
  ·exact zAN hv hs r (i+1) _ _ (fun y hy m=>hg y (by simp [hy]) m) (ha.app (by rw [zg8,zg8]; exact ⟨hg x (by simp) n,trivial⟩))
  ·rw [WfE]; exact ⟨hv,hs,ha⟩

theorem ziw (k:Nat) (s:Str) (h:k≤1000):(List.take (Int.toNat (k:Int) - Int.toNat 0) (List.drop (Int.toNat 0) s)).length≤1000000:=by
 simp; omega
theorem zpp {n k:Nat} (h:¬ decide ((n:Int) > (k:Int))=true) (hk:k≤1000):n≤1000000:=by
 have:¬ (n:Int) > (k:Int):=by simpa using h
 omega

theorem zAd:∀ (N:Nat) (e:ze) (d n:Int),RgE e→WfE (zgt N e d n).1
 | 0,_,_,_,_=>by
  show WfE (.mk [] (0,0,[]) [] [])
  rw [WfE,zg8]
  exact ⟨zdO,by simp,trivial⟩
 | N+1,.mk op v s l,d,n,h=>by
  rw [RgE] at h
  obtain ⟨⟨h1,h2⟩,hl⟩:=h
  have hg:∀ x∈l,∀ (k m:Int),WfE (zgt N x k m).1:=fun x hx k m=>zAd N x k m (hl.mem x hx)
  rw [zgt]
  unfold zv1
  have t45:=ziw 45 v.2.2 (by omega)
  have t20:=ziw 20 s (by omega)
  repeat' split
  all_goals refine zAN ?_ ?_ _ _ _ _ (fun x hx m=>hg x hx _ m) (by rw [zg8]; trivial)
  all_goals first | exact ⟨h1,h2,t45⟩ | exact t20 | exact ⟨h1,h2,zpp (k:=45) (by assumption) (by omega)⟩ | exact zpp (k:=20) (by assumption) (by omega)

theorem zJs {e:ze} (h:RgE e):WfE (zdr e):=by
 unfold zdr
 rw [ze.eta]
 exact zAd 16 e 14 80 h

theorem zwt (s:Str):(zmV s).length≤1000000:=by
 unfold zmV
 split
 ·exact ziw 20 s (by omega)
 ·exact zpp (k:=20) (by assumption) (by omega)
theorem zkD:∀ (l:List (Sem zh)) (i:Int) (acc:List (Sem zh)),(acc.length:Int)≤i→acc.length≤9→(∀ c∈acc,List.length c.1≤1000000)→(zdo l i acc).length≤9∧∀ c∈zdo l i acc,List.length c.1≤1000000
 | [],_,_,_,h,ha=>⟨h,ha⟩
 | x :: r,i,acc,h0,h,ha=>by
  rw [zdo]
  split
  ·rename_i hi
   simp only [decide_eq_true_eq] at hi
   split
   ·refine zkD r (i+1) _ (by simp; omega) (by simp; omega) (fun c hc=>?_)
    rcases List.mem_append.1 hc with hc | hc
    ·exact ha c hc
    ·rw [List.mem_singleton] at hc
     rw [hc]
     exact ziw 20 x.1 (by omega)
   ·refine zkD r (i+1) _ (by simp; omega) (by simp; omega) (fun c hc=>?_)
    rcases List.mem_append.1 hc with hc | hc
    ·exact ha c hc
    ·rw [List.mem_singleton] at hc
     rw [hc]
     exact zpp (k:=20) (by assumption) (by omega)
  ·exact ⟨h,ha⟩
theorem znu {a0 a1 a2 a3 a4 a5 a6 a7 a8 a9 b0 b1 b2 b3 b4 b5 b6} {d0:Str} {d1:List (Sem zh)} {d2:Int} {d3:Str} {d4 d5:Int} {d6 d7:Str} {d8:List (Sem Sh.expr)} {d9:List (Sem zg)} (hn:d0.length≤1000000) (hc:d1.length≤9∧∀ c∈d1,List.length c.1≤1000000) (hu:d9.length≤10) (he:WfE (.mk d3 (d4,d5,d6) d7 d8)):
  ∀ (l:List (Sem zt)) (i:Int) (acc:List (Sem zt)),(acc.length:Int)≤i→acc.length≤10→(∀ f∈acc,List.length f.2≤1000000)→WfT (zfr a0 a1 a2 a3 a4 a5 a6 a7 a8 a9 b0 b1 b2 b3 b4 b5 b6 d0 d1 d2 d3 d4 d5 d6 d7 d8 d9 l i acc)
 | [],_,acc,_,h,ha=>by
  rw [zfr]
  exact ⟨hn,hc.2,by have:=hc.1; show d1.length≤1000; omega,by show d9.length≤1000; omega,by show acc.length≤1000; omega,ha,he⟩
 | x::r,i,acc,h0,h,ha=>by
  rw [zfr]
  split
  ·rename_i hi
   simp only [decide_eq_true_eq] at hi
   refine znu hn hc hu he r (i+1) _ (by simp; omega) (by simp; omega) (fun f hf=>?_)
   rcases List.mem_append.1 hf with hf | hf
   ·exact ha f hf
   ·rw [List.mem_singleton] at hf
    rw [hf]
    exact zwt x.2
  ·exact ⟨hn,hc.2,by have:=hc.1; show d1.length≤1000; omega,by show d9.length≤1000; omega,by show acc.length≤1000; omega,ha,he⟩
theorem zsG {a0 a1 a2 a4 a5 a6 a7 a8 a9 b0 b1 b2 b3 b4 b5 b6 a10 w} {d0:Str} {d1:List (Sem zh)} {d2:Int} {d3:Str} {d4 d5:Int} {d6 d7:Str} {d8:List (Sem Sh.expr)} (hn:d0.length≤1000000) (hc:d1.length≤9∧∀ c∈d1,List.length c.1≤1000000) (he:WfE (.mk d3 (d4,d5,d6) d7 d8)):
  ∀ (l:List (Sem zg)) (i:Int) (acc:List (Sem zg)),(acc.length:Int)≤i→acc.length≤10→WfT (zf9 a0 a1 a2 w a4 a5 a6 a7 a8 a9 a10 b0 b1 b2 b3 b4 b5 d0 d1 d2 d3 d4 d5 d6 d7 d8 b6 l i acc)
 | [],_,acc,_,h=>by
  rw [zf9]
  exact znu hn hc h he _ _ _ (by simp) (by simp) (by simp)
 | x::r,i,acc,h0,h=>by
  rw [zf9]
  split
  ·rename_i hi
   simp only [decide_eq_true_eq] at hi
   exact zsG hn hc he r (i+1) _ (by simp; omega) (by simp; omega)
  ·exact znu hn hc h he _ _ _ (by simp) (by simp) (by simp)
theorem zIy {t:Sem zn} (h:RgE t.2.2.2.2.2):WfT (zmS t):=by
 unfold zmS
 refine zsG (zwt _) (zkD _ _ _ (by simp) (by simp) (by simp)) ?_ _ _ _ (by simp) (by simp)
 rw [show ze.mk (ze.op (zdr t.2.2.2.2.2)) ((ze.v (zdr t.2.2.2.2.2)).1,(ze.v (zdr t.2.2.2.2.2)).2.1,(ze.v (zdr t.2.2.2.2.2)).2.2) (ze.s (zdr t.2.2.2.2.2)) (ze.l (zdr t.2.2.2.2.2))=zdr t.2.2.2.2.2 from ze.eta _]
 exact zJs h

theorem zJn {v:Sem zf} (h:RgV v):VOk (zr2 v):=by
 unfold zr2
 split
 ·exact ⟨h.1,h.2,ziw 60 v.2.2 (by omega)⟩
 ·exact ⟨h.1,h.2,zpp (k:=60) (by assumption) (by omega)⟩
theorem zp5:∀ (l:List (Sem zf)) (i:Int) (acc:List (Sem zf)),(∀ v∈l,RgV v)→(∀ v∈acc,VOk v)→∀ v∈ze4 l i acc,VOk v
 | [],_,_,_,ha=>ha
 | x::r,i,acc,h,ha=>by
  rw [ze4]
  split
  ·refine zp5 r (i+1) _ (fun v hv=>h v (by simp [hv])) (fun v hv=>?_)
   rcases List.mem_append.1 hv with hv | hv
   ·exact ha v hv
   ·rw [List.mem_singleton] at hv
    rw [hv]; exact zJn (h x (by simp))
  ·exact ha

structure RgR (x:Sem zk):Prop where
 chk:RgE x.1.2.2.2.2.2
 vals:∀ r∈x.2,∀ v∈(r:List (Sem zf)),RgV v
theorem zGK {x:Sem zk} (h:RgR x):WfR (zmv x):=by
 obtain ⟨rows,h1,h2⟩:=zxR x
 have h3:zmv x=(zmS x.1,rows):=by unfold zmv; rw [h2]; rfl
 rw [h3]
 refine ⟨zIy h.chk,by show rows.length≤1000; have:=h1.1; omega,fun r hr v hv=>?_⟩
 obtain ⟨r0,hr0,rfl⟩:=h1.2 r hr
 exact zp5 r0 0 [] (h.vals r0 hr0) (by simp) v hv
open Go Go.Proofs
noncomputable section
set_option maxHeartbeats 4000000

abbrev zNj:Nat→zQ:=fun j=>if j=4 then { slots:=[0,3,5,6],prom:=[(5,none,zk)] } else { }
inductive H3p where
 | h4 (l0:List (Sem zk)) (i6:Int) (z0:zj [CP.d zu]) (lh_1:List (Sem zk))
abbrev e3p:H3p→Nat×St
 | .h4 l0 i6 z0 lh_1=>(4,⟨tm 57 [(0,AV.sl zk l0),(3,AV.ptr 0 0),(5,AV.vec 1),(6,AV.int .i64 i6)],[AO.box (cpN [] [CP.d zu] z0),AO.vec zk lh_1]⟩)
theorem zW3:zF zgP.P 3 Tryz.f3 2:=by refine ⟨?_,?_,?_,?_⟩ <;> kernel_rfl
def zTw (x0:Sem zk.sl) (_:Sem zu) (a0:Sem Sh.str×Sem (Sh.str.pr (Sh.str.pr (Sh.str.sl.pr (zh.sl.pr (Sh.str.pr (Sh.str.sl.pr (zaT.sl.pr (Sh.expr.pr (zf.sl.pr (zan.sl.pr (Sh.expr.pr Sh.str)))))))))))):Tr (H3p ⊕ Raw):=
 Tr.chk (zvt x0) (Tr.chk (zvc a0) (Tr.to (H3p.h4 (zAg x0) 0 (zAX a0,()) [])))
def i3p (x0:Sem zk.sl) (x1:Sem zu):Tr (H3p ⊕ Raw):=
 let a0:=(x1.1,x1.2.1,x1.2.2.1,x1.2.2.2.1,x1.2.2.2.2.1,x1.2.2.2.2.2.1,x1.2.2.2.2.2.2.1,x1.2.2.2.2.2.2.2.1,zz x1.2.2.2.2.2.2.2.2.1,x1.2.2.2.2.2.2.2.2.2.1,x1.2.2.2.2.2.2.2.2.2.2.1,zz x1.2.2.2.2.2.2.2.2.2.2.2.1,x1.2.2.2.2.2.2.2.2.2.2.2.2)
 zTw x0 x1 a0
def zvH (l0:List (Sem zk)) (i6:Int) (z0:zj [CP.d zu]) (lh_1:List (Sem zk)) (_:Sem zk) (a1:List (Sem zk)) (a2:Sem Sh.str×Sem (Sh.str.pr (Sh.str.pr (Sh.str.sl.pr (zh.sl.pr (Sh.str.pr (Sh.str.sl.pr (zaT.sl.pr (Sh.expr.pr (zf.sl.pr (zan.sl.pr (Sh.expr.pr Sh.str)))))))))))) (_:Sem zas×Sem zg) (a4:Sem Sh.str×Sem (Sh.str.pr (Sh.str.pr (zn.pr (zg.sl.pr zg))))) (_:Sem zas×Sem zg) (a6:Sem Sh.str×Sem (Sh.str.pr (Sh.str.pr (zn.pr (zg.sl.pr zg))))) (a7:Sem Sh.bool) (a8:Bool):Tr (H3p ⊕ Raw):=
 Tr.br (decide (i6 < (↑l0.length:Int)))
 (Tr.chk (inB i6 l0.length) (Tr.chk (decide (lh_1.length+a1.length≤1073741824)) (Tr.to (H3p.h4 l0 (IntKind.i64.wrap (i6+1)) z0 (lh_1++a1)))))
 (Tr.chk (zlm l0)
  (Tr.br (zoV l0 != 0) (Tr.chk true (Tr.re (AV.bool zxM) [])) (Tr.chk (zyw l0 a2) (Tr.chk (zyw lh_1 a2) (Tr.chk (zlM a4 a6&&bif a7 then bif a8 then ztQ else true else true) (Tr.re (AV.bool (bif a7 then bif a8 then zxM else false else false)) []))))))
def zz1 (l0:List (Sem zk)) (i6:Int) (z0:zj [CP.d zu]) (lh_1:List (Sem zk)):Tr (H3p ⊕ Raw):=
 let a0:=l0.getD i6.toNat (zl zk)
 let a1:=[((a0.1.1,a0.1.2.1,a0.1.2.2.1,a0.1.2.2.2.1,a0.1.2.2.2.2.1,zz a0.1.2.2.2.2.2),[])]
 let a2:=(z0.1.1,z0.1.2.1,z0.1.2.2.1,z0.1.2.2.2.1,z0.1.2.2.2.2.1,z0.1.2.2.2.2.2.1,z0.1.2.2.2.2.2.2.1,z0.1.2.2.2.2.2.2.2.1,zz z0.1.2.2.2.2.2.2.2.2.1,z0.1.2.2.2.2.2.2.2.2.2.1,z0.1.2.2.2.2.2.2.2.2.2.2.1,zz z0.1.2.2.2.2.2.2.2.2.2.2.2.1,z0.1.2.2.2.2.2.2.2.2.2.2.2.2)
 let a3:=pOf l0 a2
 let a4:=(a3.1.1,a3.1.2.1,a3.1.2.2.1,(a3.1.2.2.2.1.1,a3.1.2.2.2.1.2.1,a3.1.2.2.2.1.2.2.1,a3.1.2.2.2.1.2.2.2.1,a3.1.2.2.2.1.2.2.2.2.1,zz a3.1.2.2.2.1.2.2.2.2.2),a3.1.2.2.2.2)
 let a5:=pOf lh_1 a2
 let a6:=(a5.1.1,a5.1.2.1,a5.1.2.2.1,(a5.1.2.2.2.1.1,a5.1.2.2.2.1.2.1,a5.1.2.2.2.1.2.2.1,a5.1.2.2.2.1.2.2.2.1,a5.1.2.2.2.1.2.2.2.2.1,zz a5.1.2.2.2.1.2.2.2.2.2),a5.1.2.2.2.2)
 let a7:=zoC a4 a6
 let a8:=a3.2==a5.2
 zvH l0 i6 z0 lh_1 a0 a1 a2 a3 a4 a5 a6 a7 a8
theorem zWO (x0:Sem zk.sl) (x1:Sem zu):run zgP 0 zNj (Func.results Tryz.f3).toList 400 (zq Tryz.f3) (zp (Func.ntmps Tryz.f3) [zx zk.sl x0,zx zu x1] [])=(i3p x0 x1).map (lf Tryz.f3 e3p):=by kernel_rfl
def t3p:H3p→Tr (H3p ⊕ Raw)
 | .h4 l0 i6 z0 lh_1=>zz1 l0 i6 z0 lh_1
theorem zWp:∀ s,run zgP 0 zNj (Func.results Tryz.f3).toList 400 (zA Tryz.f3 (e3p s).1) (e3p s).2=(t3p s).map (lf Tryz.f3 e3p)
 | .h4 l0 i6 z0 lh_1=>by kernel_rfl
def zy5 (x0:Sem zk.sl) (x1:Sem zu):Option (zo (List.map some [Sh.bool])):=zaj [Sh.bool] t3p 100000000 (i3p x0 x1)
def zvC (x0:Sem zk.sl) (x1:Sem zu):Bool:=(zy5 x0 x1).isSome
def zz9 (x0:Sem zk.sl) (x1:Sem zu):Sem Sh.bool:=(fun r:zo (List.map some [Sh.bool])=>r.1) ((zy5 x0 x1).getD (zad [Sh.bool]))
def F3p:zJ:=zG [zk.sl,zu] [Sh.bool] (fun x=>zvC x.1 x.2.1) fun x=>(zz9 x.1 x.2.1,())
theorem zQd:FOk zgP.P zgP.gl 3 F3p:=zae (ks:=[zk.sl,zu]) (outs:=[Sh.bool]) (keep:=zNj) (gas:=400) (n:=100000000) (e:=e3p) (t:=t3p) (i:=fun x=>i3p x.1 x.2.1) zzd zy2 zW3 (fun x=>zWO x.1 x.2.1) zWp (fun _=>by kernel_rfl) (fun _=>by kernel_rfl)

def zX2:Env:=(zgP.add 3 F3p)
end
theorem zqm:zzO=some (true,()):=by kernel_rfl
open Go

abbrev U0:Nat→Prop:=fun _=>False
abbrev zfB:Nat→Option Value:=fun _=>none

def tyF (P:Program) (T:TypeId→Sh→Bool):List Field→Nat→Sh→Bool
 | [],_,_=>false
 | [f],off,s=>f.offset==off&&(T f.type s&&P.cellsOf f.type==s.size)
 | f::fs,off,.pr a b=>f.offset==off&&(T f.type a&&(P.cellsOf f.type==a.size&&tyF P T fs (off+a.size) b))
 | _,_,_=>false

def zjl (P:Program) (t:TypeId):Bool:=match P.underlying t with
 | some .string=>P.cellsOf t==1
 | _=>false

def zBv (P:Program) (t e:TypeId):Bool:=match P.underlying t with
 | some (.slice u)=>u==e&&P.cellsOf t==1
 | _=>false

def tyB (P:Program):Nat→TypeId→Sh→Bool
 | 0,_,_=>false
 | n+1,t,s=>match P.underlying t,s with
  | some .bool,.bool=>true
  | some (.int k),.int k'=>k==k'
  | some .string,.str=>true
  | some (.slice e),.sl s=>P.cellsOf e==s.size&&(decide (0 < s.size)&&tyB P n e s)
  | some (.struct fs),.expr=>match fs.toList with
   | [a,b,c,d]=>P.cellsOf t==6&&(a.offset==0&&(b.offset==1&&(c.offset==4&&(d.offset==5&&(zjl P a.type&&(zjl P c.type&&(zBv P d.type t&&(P.cellsOf b.type==3&&tyB P n b.type (.pr (.int .i64) (.pr (.int .i64) .str))))))))))
   | _=>false
  | some (.struct fs),.pr a b=>P.cellsOf t==(Sh.pr a b).size&&tyF P (tyB P n) fs.toList 0 (.pr a b)
  | _,_=>false

section
variable {H:Type} {enc:TypeId×Value→H} {P:Program} {w:World} {sp:Nat→Bool} {held:Bool}

def Got (w:World) (s:Sh) (cs:List Value):Prop:=∃ x:Sem s,RvL w U0 zfB (zC s x) cs∧∀ v∈cs,v.oneCell'=true

theorem zbw {α β:Type} {f:α→Option β} {a:α} {l:List α} {r:List β} (h:(a::l).mapM f=some r):∃ y ys,f a=some y∧l.mapM f=some ys∧r=y::ys:=by
 rw [List.mapM_cons] at h
 cases hy:f a with
 | none=>rw [hy] at h; simp at h
 | some y=>
  cases hys:l.mapM f with
  | none=>rw [hy,hys] at h; simp at h
  | some ys=>
   rw [hy,hys] at h
   simp at h
   exact ⟨y,ys,rfl,rfl,h.symm⟩

theorem zxx {α β:Type} {f:α→Option β}:∀ {l:List α} {r:List β},l.mapM f=some r→∀ x∈l,∃ y,f x=some y
 | [],_,_,_,hx=>by simp at hx
 | a::l,r,h,x,hx=>by
  obtain ⟨y,ys,h1,h2,_⟩:=zbw h
  rcases List.mem_cons.1 hx with rfl | hx
  ·exact ⟨y,h1⟩
  ·exact zxx h2 x hx

theorem zqP {α β:Type} {f:α→Option β}:∀ {l:List α} {r:List β},l.mapM f=some r→r.length=l.length∧∀ (i:Nat) a,l[i]?=some a→f a=r[i]?
 | [],r,h=>by simp at h; subst h; simp
 | a::l,r,h=>by
  obtain ⟨y,ys,h1,h2,rfl⟩:=zbw h
  obtain ⟨h3,h4⟩:=zqP h2
  refine ⟨by simp [h3],fun i b hi=>?_⟩
  cases i with
  | zero=>simp at hi; subst hi; simpa using h1
  | succ i=>simpa using h4 i b (by simpa using hi)

theorem zxi (a:Addr) (h:a.spot=none) (n:Nat):a.add n=⟨a.block,a.off+n,none⟩:=by
 obtain ⟨b,o,s⟩:=a
 simp only at h
 subst h
 unfold Addr.add
 split
 ·rename_i h; subst h; rfl
 ·rfl

theorem RvL.take {cs:List AV} {vs:List Value} (h:RvL w U0 zfB cs vs) (n:Nat):RvL w U0 zfB (cs.take n) (vs.take n):=by
 refine ⟨by simp [h.len],fun j c v hc hv=>?_⟩
 rw [List.getElem?_take] at hc hv
 split at hc
 ·rename_i hj
  rw [if_pos hj] at hv
  exact h.rv j c v hc hv
 ·cases hc

theorem RvL.appS {a b:List AV} {x y:List Value} (h:RvL w U0 zfB a x) (h':RvL w U0 zfB b y):RvL w U0 zfB (a++b) (x++y):=by
 refine ⟨by simp [h.len,h'.len],fun j c v hc hv=>?_⟩
 by_cases hj:j < a.length
 ·rw [List.getElem?_append_left hj] at hc
  rw [List.getElem?_append_left (by rw [← h.len]; exact hj)] at hv
  exact h.rv j c v hc hv
 ·rw [List.getElem?_append_right (by omega)] at hc
  rw [List.getElem?_append_right (by rw [← h.len]; omega),← h.len] at hv
  exact h'.rv _ c v hc hv

theorem RvL.one {c:AV} {v:Value} (h:Rv w U0 zfB c v):RvL w U0 zfB [c] [v]:=by
 refine ⟨rfl,fun j d u hd hu=>?_⟩
 cases j with
 | zero=>simp at hd hu; subst hd; subst hu; exact h
 | succ j=>simp at hd

theorem zpS {fuel:Nat} {T:TypeId→Sh→Bool} (hT:∀ t s cs d ps,T t s=true→DataW.trod enc P w 0 sp held fuel t cs=some (d,ps)→Got w s cs) {cs:List Value}:
  ∀ (fl:List Field) (off:Nat) (s:Sh) xs,tyF P T fl off s=true→(fl.mapM fun f=>DataW.trod enc P w 0 sp held fuel f.type ((cs.drop f.offset).take (P.cellsOf f.type)))=some xs→Got w s ((cs.drop off).take s.size)
 | [],_,_,_,h,_=>by simp [tyF] at h
 | [f],off,s,xs,h,hm=>by
  simp only [tyF,Bool.and_eq_true,beq_iff_eq] at h
  obtain ⟨h1,h2,h3⟩:=h
  obtain ⟨y,ys,hy,_,_⟩:=zbw hm
  rw [h1,h3] at hy
  exact hT _ _ _ _ _ h2 hy
 | f::g::fs,off,.pr a b,xs,h,hm=>by
  simp only [tyF,Bool.and_eq_true,beq_iff_eq] at h
  obtain ⟨h1,h2,h3,h4⟩:=h
  obtain ⟨y,ys,hy,hys,_⟩:=zbw hm
  rw [h1,h3] at hy
  obtain ⟨x1,r1,o1⟩:=hT _ _ _ _ _ h2 hy
  obtain ⟨x2,r2,o2⟩:=zpS hT (g::fs) (off+a.size) b ys h4 hys
  have hl1:((cs.drop off).take a.size).length=a.size:=by rw [← r1.len,zU]
  have hsplit:(cs.drop off).take (a.size+b.size)=(cs.drop off).take a.size++(cs.drop (off+a.size)).take b.size:=by
   rw [List.take_add,List.drop_drop]
  refine ⟨(x1,x2),?_,?_⟩
  ·show RvL w U0 zfB (zC a x1++zC b x2) ((cs.drop off).take (a.size+b.size))
   rw [hsplit]
   exact r1.appS r2
  ·intro v hv
   have hv:v∈(cs.drop off).take (a.size+b.size):=hv
   rw [hsplit,List.mem_append] at hv
   exact hv.elim (o1 v) (o2 v)
 | _::_::_,_,.unit,_,h,_=>by simp [tyF] at h
 | _::_::_,_,.bool,_,h,_=>by simp [tyF] at h
 | _::_::_,_,.int _,_,h,_=>by simp [tyF] at h
 | _::_::_,_,.str,_,h,_=>by simp [tyF] at h
 | _::_::_,_,.sl _,_,h,_=>by simp [tyF] at h
 | _::_::_,_,.expr,_,h,_=>by simp [tyF] at h

theorem ztm {fuel:Nat} {t e:TypeId} {s:Sh} (ht:P.underlying t=some (.slice e)) (hc:P.cellsOf e=s.size) (hpos:0 < s.size)
  (hT:∀ cs d ps,DataW.trod enc P w 0 sp held fuel e cs=some (d,ps)→Got w s cs) {cs:List Value} {d:DataW H} {ps:List MemPlace} (h:DataW.trod enc P w 0 sp held (fuel+1) t cs=some (d,ps)):Got w (.sl s) cs:=by
 unfold DataW.trod at h
 rw [ht] at h
 split at h
 all_goals first
  | (rename_i hu; cases hu; done)
  | (rename_i hu _; cases hu; done)
  | (simp at h; done)
  | skip
 ·rename_i hu
  cases hu
  exact ⟨[],RvL.one (.sl0 s none 0),by simp [Value.oneCell']⟩
 ·rename_i a len cap hu
  cases hu
  simp only [Nat.zero_le,true_and] at h
  split at h
  ·rename_i hcond
   rw [Option.bind_eq_some_iff] at h
   obtain ⟨elems,he,_⟩:=h
   have hall:∀ i,∃ x:Sem s,i < len→∃ ci,w.cells? 0 (a.add (i * s.size)) s.size=some ci∧RvL w U0 zfB (zC s x) ci:=by
    intro i
    by_cases hi:i < len
    ·obtain ⟨y,hy⟩:=zxx he i (by simpa using hi)
     rw [Option.bind_eq_some_iff] at hy
     obtain ⟨ci,h1,h2⟩:=hy
     obtain ⟨x,hx,_⟩:=hT ci y.1 y.2 h2
     rw [hc] at h1
     exact ⟨x,fun _=>⟨ci,h1,hx⟩⟩
    ·exact ⟨zl s,fun h=>(hi h).elim⟩
   obtain ⟨X,hX⟩:=Classical.axiomOfChoice hall
   have hmax:maxLen=zI:=rfl
   cases len with
   | zero=>exact ⟨[],RvL.one (.sl0 s (some a) cap),by simp [Value.oneCell']⟩
   | succ len=>
    have hcell:∀ i,i < len+1→∃ ci,ci.length=s.size∧(∀ j,j < s.size→w.cell? ((a.add (i * s.size)).add j)=ci[j]?)∧RvL w U0 zfB (zC s (X i)) ci:=by
     intro i hi
     obtain ⟨ci,h1,h2⟩:=hX i hi
     unfold World.cells? at h1
     rw [if_pos (Nat.zero_le _)] at h1
     obtain ⟨h3,h4⟩:=zqP h1
     refine ⟨ci,by simpa using h3,fun j hj=>?_,h2⟩
     exact h4 j j (by simp [hj])
    have hspot:a.spot=none:=by
     obtain ⟨ci,h1,h2,_⟩:=hcell 0 (by omega)
     have:=h2 0 hpos
     simp only [Nat.zero_mul,Addr.add,if_true] at this
     rw [List.getElem?_eq_getElem (by omega)] at this
     unfold World.cell? at this
     split at this
     ·split at this
      ·cases this
      ·rename_i hs
       cases hsp:a.spot with
       | none=>rfl
       | some q=>rw [hsp] at hs; simp at hs
     ·cases this
    have hblk:a.block < w.heap.size:=by
     obtain ⟨ci,h1,h2,_⟩:=hcell 0 (by omega)
     have:=h2 0 hpos
     simp only [Nat.zero_mul,Addr.add,if_true] at this
     rw [List.getElem?_eq_getElem (by omega)] at this
     have ha:a=⟨a.block,a.off,none⟩:=by rw [← hspot]
     rw [ha] at this
     exact zuq this
    have hci:∀ i,∃ ci:List Value,i < len+1→ci.length=s.size∧(∀ j,j < s.size→w.cell? ⟨a.block,a.off+i * s.size+j,none⟩=ci[j]?)∧RvL w U0 zfB (zC s (X i)) ci:=by
     intro i
     by_cases hi:i < len+1
     ·obtain ⟨ci,h1,h2,h3⟩:=hcell i hi
      refine ⟨ci,fun _=>⟨h1,fun j hj=>?_,h3⟩⟩
      rw [← h2 j hj,zxi a hspot,zxi _ rfl]
     ·exact ⟨[],fun h=>(hi h).elim⟩
    obtain ⟨Cs,hCs⟩:=Classical.axiomOfChoice hci
    let l:List (Sem s):=(List.range (len+1)).map X
    have hl:l.length=len+1:=by simp [l]
    have hget:∀ i (hi:i < l.length),l[i]=X i:=by intro i hi; simp [l]
    refine ⟨l,RvL.one ?_,by simp [Value.oneCell']⟩
    have ha:a=⟨a.block,a.off,none⟩:=by rw [← hspot]
    rw [ha,← hl]
    refine .sl s l a.block a.off cap (fun i j=>((Cs i)[j]?).getD undef) (by omega) (by omega) hblk (fun h=>h) ?_ ?_
    ·intro i j hi hj
     obtain ⟨h1,h2,_⟩:=hCs i (by omega)
     rw [h2 j hj,List.getElem?_eq_getElem (by omega)]
     rfl
    ·intro i hi j c hc'
     obtain ⟨h1,_,h3⟩:=hCs i (by omega)
     rw [hget i hi] at hc'
     have hj:j < (Cs i).length:=by
      have:=(List.getElem?_eq_some_iff.1 hc').1
      rw [h3.len] at this
      exact this
     have:=h3.rv j c _ hc' (List.getElem?_eq_getElem hj)
     rw [List.getElem?_eq_getElem hj]
     exact this
  ·cases h

theorem zt8 {fuel:Nat} {t:TypeId} (ht:P.underlying t=some .string) {cs:List Value} {d:DataW H} {ps:List MemPlace} (h:DataW.trod enc P w 0 sp held fuel t cs=some (d,ps)):Got w .str cs:=by
 cases fuel with
 | zero=>simp [DataW.trod] at h
 | succ fuel=>
  unfold DataW.trod at h
  rw [ht] at h
  split at h
  all_goals first
   | (rename_i hu; cases hu; done)
   | (rename_i hu _; cases hu; done)
   | (simp at h; done)
   | skip
  rename_i s hu
  split at h
  ·rename_i hs
   refine ⟨s.data.toList,RvL.one ?_,by simp [Value.oneCell']⟩
   have h9:maxLen=zI:=rfl
   have h8:s.size=s.data.toList.length:=rfl
   exact .str s.data.toList (by omega)
  ·cases h

theorem zpn {t:TypeId} (h:zjl P t=true):P.underlying t=some .string∧P.cellsOf t=1:=by
 unfold zjl at h
 split at h
 ·rename_i hu; exact ⟨hu,by simpa using h⟩
 ·cases h

theorem zGO {t e:TypeId} (h:zBv P t e=true):P.underlying t=some (.slice e)∧P.cellsOf t=1:=by
 unfold zBv at h
 split at h
 ·rename_i u hu
  simp only [Bool.and_eq_true,beq_iff_eq] at h
  rw [← h.1]
  exact ⟨hu,h.2⟩
 ·cases h

theorem ziP:∀ (fuel n:Nat) (t:TypeId) (s:Sh) (cs:List Value) (d:DataW H) (ps:List MemPlace),tyB P n t s=true→DataW.trod enc P w 0 sp held fuel t cs=some (d,ps)→Got w s cs
 | 0,_,_,_,_,_,_,_,h=>by simp [DataW.trod] at h
 | fuel+1,0,_,_,_,_,_,hty,_=>by simp [tyB] at hty
 | fuel+1,n+1,t,s,cs,d,ps,hty,h=>by
  have h0:=h
  unfold tyB at hty
  split at hty
  ·rename_i hu
   unfold DataW.trod at h
   rw [hu] at h
   split at h
   all_goals first
    | (rename_i hu'; cases hu'; done)
    | (rename_i hu' _; cases hu'; done)
    | (simp at h; done)
    | skip
   exact ⟨_,RvL.one (.bool _),by simp [Value.oneCell']⟩
  ·rename_i k k' hu
   have hk:k=k':=by simpa using hty
   subst hk
   unfold DataW.trod at h
   rw [hu] at h
   split at h
   all_goals first
    | (rename_i hu'; cases hu'; done)
    | (rename_i hu' _; cases hu'; done)
    | (simp at h; done)
    | skip
   rename_i k1 k2 m hu'
   cases hu'
   split at h
   ·rename_i hw
    obtain ⟨rfl,hw⟩:=hw
    simp only [Lit.wf,Bool.and_eq_true,decide_eq_true_eq] at hw
    exact ⟨m,RvL.one (.int _ _ ⟨hw.1,hw.2⟩),by simp [Value.oneCell']⟩
   ·cases h
  ·rename_i hu
   exact zt8 hu h
  ·rename_i e s hu
   simp only [Bool.and_eq_true,beq_iff_eq,decide_eq_true_eq] at hty
   exact ztm hu hty.1 hty.2.1 (fun cs d ps h=>ziP fuel n e s cs d ps hty.2.2 h) h
  ·rename_i fs hu
   split at hty
   ·rename_i a b c d' hfs
    simp only [Bool.and_eq_true,beq_iff_eq] at hty
    obtain ⟨hsz,ha,hb,hc,hd,sa,sc,sd,zb,tb⟩:=hty
    obtain ⟨sa,za⟩:=zpn sa
    obtain ⟨sc,zc⟩:=zpn sc
    obtain ⟨sd,zd⟩:=zGO sd
    unfold DataW.trod at h
    rw [hu] at h
    simp only at h
    split at h
    ·rename_i hlen
     rw [Option.map_eq_some_iff] at h
     obtain ⟨xs,hm,_⟩:=h
     rw [hfs] at hm
     obtain ⟨ya,r1,ya1,hm,_⟩:=zbw hm
     obtain ⟨yb,r2,yb1,hm,_⟩:=zbw hm
     obtain ⟨yc,r3,yc1,hm,_⟩:=zbw hm
     obtain ⟨yd,r4,yd1,hm,_⟩:=zbw hm
     rw [ha,za] at ya1
     rw [hb,zb] at yb1
     rw [hc,zc] at yc1
     rw [hd,zd] at yd1
     obtain ⟨xa,ga,oa⟩:=zt8 sa ya1
     obtain ⟨xb,gb,ob⟩:=ziP fuel n b.type _ _ _ _ tb yb1
     obtain ⟨xc,gc,oc⟩:=zt8 sc yc1
     have hgd:Got w (.sl .expr) ((cs.drop 5).take 1):=by
      cases fuel with
      | zero=>simp [DataW.trod] at yd1
      | succ fuel=>
       refine ztm sd (by rw [hsz]; rfl) (by decide) (fun cs d ps h=>ziP fuel (n+1) t .expr cs d ps ?_ h) yd1
       unfold tyB
       rw [hu]
       simp only [hfs,Bool.and_eq_true,beq_iff_eq]
       refine ⟨hsz,ha,hb,hc,hd,?_,?_,?_,zb,tb⟩
       ·simp [zjl,sa,za]
       ·simp [zjl,sc,zc]
       ·simp [zBv,sd,zd]
     obtain ⟨xd,gd,od⟩:=hgd
     have hl6:cs.length=6:=by rw [hlen,hsz]
     have hcs:cs=(cs.drop 0).take 1++((cs.drop 1).take 3++((cs.drop 4).take 1++(cs.drop 5).take 1)):=by
      match cs,hl6 with
      | [v0,v1,v2,v3,v4,v5],_=>rfl
     refine ⟨ze.mk xa xb xc xd,?_,?_⟩
     ·have hr:=ga.appS (gb.appS (gc.appS gd))
      rw [← hcs] at hr
      exact hr
     ·intro v hv
      rw [hcs] at hv
      simp only [List.mem_append] at hv
      rcases hv with hv | hv | hv | hv
      ·exact oa v hv
      ·exact ob v hv
      ·exact oc v hv
      ·exact od v hv
    ·cases h
   ·cases hty
  ·rename_i fs a b hu
   simp only [Bool.and_eq_true,beq_iff_eq] at hty
   unfold DataW.trod at h
   rw [hu] at h
   simp only at h
   split at h
   ·rename_i hlen
    rw [Option.map_eq_some_iff] at h
    obtain ⟨xs,hm,_⟩:=h
    have:=zpS (fun t s cs d ps h1 h2=>ziP fuel n t s cs d ps h1 h2) fs.toList 0 (.pr a b) xs hty.2 hm
    rw [List.drop_zero,List.take_of_length_le (by rw [hlen,hty.1]; exact Nat.le_refl _)] at this
    exact this
   ·cases h
  ·cases hty
termination_by fuel=>fuel

theorem zAV {n:Nat} {t:TypeId} {s:Sh} {v:Value} {d:DataW H} {ps:List MemPlace} (hty:tyB P n t s=true) (h:DataW.Trod enc P w 0 sp held t v d ps) (hagg:(∃ cs,v=.agg cs)↔s.isAgg=true) (hsc:s.isAgg=false→v.cells = #[v]):∃ x:Sem s,Rv w U0 zfB (zx s x) v:=by
 obtain ⟨fuel,h⟩:=h
 obtain ⟨x,hr,ho⟩:=ziP fuel n t s _ d ps hty h
 refine ⟨x,?_⟩
 unfold zx
 cases hs:s.isAgg with
 | true=>
  obtain ⟨cs,rfl⟩:=hagg.2 hs
  simp only
  have:=Rv.agg (w:=w) (U:=U0) (ρ:=zfB) (zC s x) cs.toList hr.len ho hr.rv
  simpa using this
 | false=>
  simp only
  rw [hsc hs] at hr
  have hlen:=hr.len
  match he:zC s x,hlen with
  | [c],_=>
   rw [he] at hr
   exact hr.rv 0 c v rfl rfl
end
open Go Go.RowKit Go.ChangeShapes

theorem zvo {W W':World} (hos:W'.os=W.os) (hout:W'.output=W.output) (h:∀ b,b < W.heap.size→W'.heap[b]?=W.heap[b]?) (may:MemPlace→Prop):W.keptBut W' may:=by
 refine ⟨hos,hout,fun i hi=>?_⟩
 rw [h i hi]
 cases W.heap[i]? with
 | none=>rfl
 | some o=>
  cases o with
  | cells c t fr=>exact ⟨rfl,rfl,rfl,fun _ _=>rfl⟩
  | map es clock=>exact .inr ⟨rfl,rfl⟩
  | _=>rfl

section
variable {H:Type} {enc:TypeId×Value→H} {P:Program}

theorem zv3 {f:Func} {s:ChangeSpec} {fresh handsOn again:Bool} {W W':World} {args:Array Value} {v:Value} {ds gs:List (DataW H)} {before pa pv:List MemPlace}
  (hW:DataW.Whole enc P f.params.toList s.vars false W args.toList ds gs before)
  (hres:∀ (b:Nat) (sp:Nat→Bool) (hd:Bool),DataW.TrodAll enc P W' b sp hd f.resultTypes.toList (v.resultList f.resultTypes.size) (s.fn H (ds++gs)).results [])
  (hargs:∀ sp:Nat→Bool,(∀ p∈before,sp p.block=true)→DataW.TrodAll enc P W' 0 sp true f.params.toList args.toList (s.fn H (ds++gs)).args pa)
  (hvars:∀ sp:Nat→Bool,(∀ p∈before,sp p.block=true)→DataW.TrodVars enc P W' sp s.vars (s.fn H (ds++gs)).vars pv)
  (hps:before=pa++pv) (hk:W.keptBut W' (· ∈ before)) (hfz:∀ a:Addr,a.block < W.heap.size→W'.frozen? a=W.frozen? a)
  (hok:∀ (j:Nat) (t:TypeId) (r:Value),f.resultTypes[j]?=some t→(v.resultList f.resultTypes.size)[j]?=some r→Value.okWide P W' .any 0 t r):
  s.post enc P f false fresh handsOn again W args v W':=by
 have hold:∀ p∈before,(fun b=>decide (b < W.heap.size)) p.block=true:=fun p hp=>by simpa using hW.lt p hp
 have hlt:=hW.lt
 refine ⟨ds,gs,before,[],pa,pv,hW,hres _ _ _,hargs _ hold,hvars _ hold,World.keptBut_mono (fun p hp=>⟨hp,?_⟩) hk,fun _=>?_⟩
 ·rw [hps,List.mem_append] at hp
  exact Or.inr hp
 ·obtain ⟨_,_,_,_,_,hz,hn⟩:=hW
  refine ⟨hok,_,_,([]++pa)++pv,⟨[]++pa,pv,trodAll_append (hargs _ (fun _ _=>rfl)) (hres _ _ _),hvars _ (fun _ _=>rfl),rfl,?_,?_⟩,?_⟩
  ·intro b off hp
   have hp':MemPlace.cell b off∈before:=by rw [hps]; simpa using hp
   rw [hfz ⟨b,off,none⟩ (hlt _ hp')]
   exact hz b off hp'
  ·intro ha
   cases ha
  ·intro p hp _
   rw [hps]
   simpa using hp

theorem zCK {W:World} {r:Go.Reach} {b:Nat} {t:TypeId} {fs:Array Field} {v:Value} (ht:P.underlying t=some (.struct fs)) (h:Value.okWide P W r b t v):∃ cs,v=.agg cs:=by
 unfold Value.okWide at h
 rw [ht] at h
 obtain ⟨cs,rfl,_⟩:=h
 exact ⟨cs,rfl⟩

theorem zD1 {W:World} {r:Go.Reach} {b:Nat} {t e:TypeId} {v:Value} (ht:P.underlying t=some (.slice e)) (h:Value.okWide P W r b t v):∃ a n c,v=.slice a n c:=by
 unfold Value.okWide at h
 rw [ht] at h
 simp only at h
 unfold Cell.okWide at h
 rw [ht] at h
 unfold Cell.ok at h
 rw [ht] at h
 cases v <;> simp at h
 exact ⟨_,_,_,rfl⟩

theorem zze {W:World} {r:Go.Reach} {b n:Nat} {t:TypeId} {fs:Array Field} {s:Sh} {v:Value} {d:DataW H} {ps:List MemPlace} (hty:tyB P n t s=true) (hs:s.isAgg=true) (ht:P.underlying t=some (.struct fs)) (hok:Value.okWide P W r b t v)
  (h:DataW.Trod enc P W 0 (fun _=>true) true t v d ps):∃ x:Sem s,Rv W U0 zfB (zx s x) v:=by
 refine zAV hty h ⟨fun _=>hs,fun _=>zCK ht hok⟩ (fun h'=>?_)
 rw [hs] at h'; cases h'
theorem zBN {W:World} {r:Go.Reach} {b n:Nat} {t e:TypeId} {s:Sh} {v:Value} {d:DataW H} {ps:List MemPlace} (hty:tyB P n t (.sl s)=true) (ht:P.underlying t=some (.slice e)) (hok:Value.okWide P W r b t v)
  (h:DataW.Trod enc P W 0 (fun _=>true) true t v d ps):∃ x:List (Sem s),Rv W U0 zfB (.sl s x) v:=by
 obtain ⟨a,m,c,rfl⟩:=zD1 ht hok
 exact zAV (s:=.sl s) hty h ⟨(fun ⟨_,hh⟩=>(by cases hh)),(fun hh=>(by cases hh))⟩ (fun _=>rfl)
theorem zyW {gl:Nat→AV} {k:FuncId} {F:zJ} (hF:FOk P gl k F) {W:World} {avs:List AV} {args:Array Value} (hgl:zr0 gl W U0) (hr:RvL W U0 zfB avs args.toList) (hv:(F avs (fun _=>.dead) 0).val=some { val:=.bool true }) (hid:AV.idsL avs=[]):
  Calls P k args W fun e W'=>e=.returned (.bool true)∧Ext W W'∧∀ b,b < W.heap.size→W'.heap[b]?=W.heap[b]?:=by
 have:=(hF.calls W U0 zfB (fun _=>.dead) 0 avs args.toList _ [] hv hr (fun _ h=>h.elim) hgl ⟨by simp,by simp⟩ (by rw [hid]; simp) (by simp) (by simp)).1
 rw [show args.toList.toArray=args by simp] at this
 refine this.mono ?_
 rintro e w' ⟨v,U',ρ',rfl,hef⟩
 have hv':=hef.val
 cases hv'
 exact ⟨rfl,hef.ext,fun b hb=>hef.same b hb (by simp)⟩
end
end Cad
