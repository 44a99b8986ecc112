/- Plans: what is wrong with a target. Plans: sources. Plans: sources, who refers. Plans: sources, who refers. Few tables, few statements. Few bases. Plans: sources. Plans: the columns that are named. Plans: copies, groups. Plans: joins. Plans: the whole. Texts of values and expressions, and tokens: nothing panics. Tokens: nothing panics. Statements' texts: nothing panics. stmt.May: nothing panics. What is asked of tables with rows, and of bases, holds. What is asked of tables with rows, and of bases, holds. What is asked of bases holds. Plans: sources: always an answer. Plans: targets, joins: always an answer. -/
import Derived.Test.YtfgnbipebgibeaaGreatDoorG12
import Derived.Test.YtfgnbipebgibeaaGreatDoorG06
namespace Cad
open Go Go.Proofs
noncomputable section
set_option maxHeartbeats 4000000

abbrev zEb:Nat→zQ:=fun j=>if j=2 then { slots:=[0,12,13,14] } else { }
inductive zrV where
 | h2 (i13:Int) (i14:Int) (z0:zj zX)
abbrev zHn:zrV→Nat×St
 | .h2 i13 i14 z0=>(2,⟨tm 65 [(0,AV.ptr 0 0),(12,AV.vec 1),(13,ai i13),(14,ai i14)],[AO.box (cpN [1] zX z0),AO.vec zh z0.2.2.2.2.2.2.2.2.1]⟩)
theorem zVF:zF zk5.P 37 Tryz.f37 1:=by refine ⟨?_,?_,?_,?_⟩ <;> kernel_rfl
def zJP (y:zj zX):Tr (zrV ⊕ Raw):=Tr.to (zrV.h2 (↑y.2.2.2.2.2.2.2.2.1.length:Int) 0 y)
def zoM (i13:Int) (i14:Int) (z0:zj zX) (a0:ze) (a1:Sem zh) (a2:Sem zg×Sem zg):Tr (zrV ⊕ Raw):=Tr.br (decide (i14 < i13)) (Tr.chk (inB i14 z0.2.2.2.2.2.2.2.2.1.length) (Tr.chk (decide (i14.toNat < z0.2.2.2.2.2.2.2.2.1.length)) (Tr.br (zbF (z0.2.2.2.2.2.2.2.1,z0.2.2.2.2.2.2.2.2.1,z0.2.2.2.2.2.2.2.2.2.1,[],[],a0) a1.1 != i14) (Tr.re (ai 7) (zY zX z0)) (Tr.to (zrV.h2 i13 (IntKind.i64.wrap (i14+1)) z0))))) (Tr.br (ze.op z0.2.2.2.2.2.2.2.2.2.2.1==[]) (Tr.re (ai 0) (zY zX z0)) (Tr.br (bif a2.2==0 then bif a2.1 != 3 then a2.1 != 0 else false else false) (Tr.re (ai 5) (zY zX z0)) (Tr.re (ai a2.2) (zY zX z0))))
def zux (i13:Int) (i14:Int) (z0:zj zX):Tr (zrV ⊕ Raw):=
 let a0:=zz z0.2.2.2.2.2.2.2.2.2.2.1
 let a1:=z0.2.2.2.2.2.2.2.2.1.getD i14.toNat (zl zh)
 let a2:=zcx a0 z0.2.2.2.2.2.2.2.2.1
 zoM i13 i14 z0 a0 a1 a2
theorem zU5 (y:zj zX):run zk5 2 zEb (Func.results Tryz.f37).toList 400 (zq Tryz.f37) (zp (Func.ntmps Tryz.f37) [AV.ptr 0 0] (zY zX y))=(zJP y).map (lf Tryz.f37 zHn):=by kernel_rfl
def zrn:zrV→Tr (zrV ⊕ Raw)
 | .h2 i13 i14 z0=>zux i13 i14 z0
theorem zWf:∀ s,run zk5 2 zEb (Func.results Tryz.f37).toList 400 (zA Tryz.f37 (zHn s).1) (zHn s).2=(zrn s).map (lf Tryz.f37 zHn) | .h2 i13 i14 z0=>by kernel_rfl
def zfa (y:zj zX):Option (zo (List.map some [zg])×zj zX):=zfE [zg] zX zrn 100000000 (zJP y)
def zcq (y:zj zX):Bool:=(zfa y).isSome
def zbX (y:zj zX):(Sem zg)×zj zX:=(fun r:zo (List.map some [zg])×zj zX=>(r.1.1,r.2)) ((zfa y).getD (zad [zg],zdv zX))
def zTm:zJ:=zk0 zX [] [zg] zX (fun y _=>zcq y) fun y _=>(((zbX y).1,()),(zbX y).2)
theorem zNY:FOk zk5.P zk5.gl 37 zTm:=zgr (keep:=zEb) (gas:=400) (n:=100000000) (e:=zHn) (t:=zrn) (i:=fun y x=>zJP y) ztx zsS zVF (fun y x=>zU5 y) zWf (fun _ _=>by kernel_rfl) (fun _ _=>by kernel_rfl)

def zqD:Env:=(zk5.add 37 zTm)
theorem zsi:zi zqD:=(zi.addS ztx (zB.refl zk5) zNY)
theorem zsY:zqD.P.follows .mixedOrders=true:=(zm zsS _ _)
end
open Go Go.Proofs
set_option maxHeartbeats 4000000

noncomputable def zP9:zJ:=zai (List.replicate 2 none) (zbx zqD Tryz.f74 (List.replicate 2 none))
theorem zME:FOk zqD.P zqD.gl 74 zP9:=zav _ zsi zsY (by refine ⟨?_,?_,?_,?_⟩ <;> kernel_rfl)

noncomputable def zlF:Env:=(zqD.add 74 zP9)
theorem zmN:zi zlF:=(zi.addS zsi (zB.refl zqD) zME)
theorem zmY:zlF.P.follows .mixedOrders=true:=(zm zsY _ _)
open Go Go.Proofs
set_option maxHeartbeats 4000000

abbrev zo1 (s:List Str) (l:LF) (i:Int):St:={ tmps:=[.sl zt l,.clo (.func 74) [] [.ptr 0 0],.any,.any,.any,.any,.any,.int .i64 l.length,.int .i64 i,.any,.any,.any,.any,.any,.any,.any,.any,.any,.any],heap:=[.box [.sl .str s]] }
theorem zDH (s:List Str) (l:LF):run zlF 1 zis Tryz.f98.results.toList 300 (zq Tryz.f98) (zp Tryz.f98.ntmps [.sl zt l,.clo (.func 74) [] [.ptr 0 0]] [.box [.sl .str s]])=.ok (.head 2 (zA Tryz.f98 2) (zo1 s l 0)):=by kernel_rfl
theorem zFu (s:List Str) (l:LF) (i:Int):run zlF 1 zis Tryz.f98.results.toList 300 (zA Tryz.f98 2) (zo1 s l i)=zfp (K:=zA Tryz.f98 2) (e:=zt) l (fun x=>zhF s x.2) (zo1 s l) [.box [.sl .str s]] i:=by kernel_rfl

theorem zGe:zF zlF.P 98 Tryz.f98 2:=by refine ⟨?_,?_,?_,?_⟩ <;> kernel_rfl
def zVr:zdS [some (.sl zt),none]:=fun x h=>match x,h with
 | (l,.clo (.func 74) [] [.ptr 0 0],_),[.box [.sl .str s]]=>.ok (.int .i64 (zaa (fun x=>zhF s x.2) l 0),[.box [.sl .str s]])
 | _,_=>.err
def zRS:zJ:=zai [some (.sl zt),none] zVr
theorem zPd:FOk zlF.P zlF.gl 98 zRS:=by
 refine zbC zGe fun x h0 res hx C hC=>?_
 unfold zVr at hx
 split at hx
 ·rename_i l u s
  simp only [Tr.val_ok,Option.some.injEq] at hx
  subst hx
  refine Reach.len 0 zt l rfl fun hl=>?_
  refine zr (n0:=1) zmN zmY zGe hC (zDH s l) ?_
  exact zdg l (fun x=>zhF s x.2) (zo1 s l) zmN zmY zGe hC (zFu s l) hl _ 0 rfl (Nat.zero_le _)
 ·simp at hx

noncomputable def zqV:Env:=(zlF.add 98 zRS)
theorem zti:zi zqV:=(zi.addS zmN (zB.refl zlF) zPd)
theorem zsp:zqV.P.follows .mixedOrders=true:=(zm zmY _ _)
open Go Go.Proofs
set_option maxHeartbeats 4000000

noncomputable def zUc:zJ:=zai (List.replicate 2 none) (zbx zqV Tryz.f75 (List.replicate 2 none))
theorem zN9:FOk zqV.P zqV.gl 75 zUc:=zav _ zti zsp (by refine ⟨?_,?_,?_,?_⟩ <;> kernel_rfl)

noncomputable def zgj:Env:=(zqV.add 75 zUc)
theorem zm3:zi zgj:=(zi.addS zti (zB.refl zqV) zN9)
theorem zni:zgj.P.follows .mixedOrders=true:=(zm zsp _ _)
open Go Go.Proofs
noncomputable section
set_option maxHeartbeats 4000000
abbrev cpR:List CP:=[.d zk]
abbrev zFg:List CP:=[.d .str,.nil,.d zg,.nil,.nil,.d .str,.d zg,.d zg,.d .str,.d .str,.nil,.nil]
abbrev zJE:List CP:=[.d zn,.vec (.sl zf)]
abbrev cpS:List CP:=[.d zu]
abbrev zce:List CP:=[.d .str,.d .str,.d .str,.nil,.nil,.d .str,.nil,.nil,.d .str,.d zg,.d zg,.d .str,.d .str,.nil,.nil,.nil,.d .str,.d zg,.d zg,.d .str,.d .str,.nil,.d .str]
abbrev zzt:List CP:=[.d .str,.d .str,.d .str,.d (.sl .str),.d (.sl zh),.d .str,.d (.sl .str),.vec zaT,.d .expr,.d (.sl zf),.nil,.d .expr,.d .str]
abbrev zzF:List CP:=[.d .str,.d .str,.d .str,.d (.sl .str),.d (.sl zh),.d .str,.d (.sl .str),.vec zaT,.d .expr,.d (.sl zf),.vec zan,.d .expr,.d .str]

abbrev zGX:Nat→zQ:=fun j=>if j=6 then { slots:=[1,2,3,4,5],prom:=[(3,some 11,.sl zf)] } else { }
inductive zr3 where
 | h6 (i4:Int) (i5:Int) (z0:zj cpR) (z1:zj zFg) (z2:zj zJE)
abbrev zGI:zr3→Nat×St
 | .h6 i4 i5 z0 z1 z2=>(6,⟨tm 38 [(1,AV.ptr 0 0),(2,AV.ptr 1 0),(3,AV.ptr 2 0),(4,AV.int .i64 i4),(5,AV.int .i64 i5)],[AO.box (cpN [] cpR z0),AO.box (cpN [] zFg z1),AO.box (cpN [3] zJE z2),AO.vec zf.sl z2.2.1]⟩)
theorem zTj:zF zgj.P 21 Tryz.f21 1:=by refine ⟨?_,?_,?_,?_⟩ <;> kernel_rfl
def zK1 (x0:Sem zk) (a0:Sem zn×List (Sem zf.sl)×Unit):Tr (zr3 ⊕ Raw):=
 Tr.br (decide ((↑(List.length x0.2):Int) > 200)) (Tr.to (zr3.h6 201 0 (x0,()) ([],0,[],0,0,[],[],()) a0))
 (Tr.to (zr3.h6 40 0 (x0,()) ([],0,[],0,0,[],[],()) a0))
def zG9 (x0:Sem zk):Tr (zr3 ⊕ Raw):=
 let a0:=(zmS (x0.1.1,x0.1.2.1,x0.1.2.2.1,x0.1.2.2.2.1,x0.1.2.2.2.2.1,zz x0.1.2.2.2.2.2),[],())
 zK1 x0 a0
def zuY (i4:Int) (i5:Int) (z0:zj cpR) (z1:zj zFg) (z2:zj zJE) (a0:Int) (a1:List (Sem zf.sl)):Tr (zr3 ⊕ Raw):=
 Tr.br (bif decide (i5 < a0) then decide (i5 < i4) else false)
 (Tr.chk (inB i5 (List.length z0.1.2))
  (Tr.chk (decide (z2.2.1.length+a1.length≤1073741824)) (Tr.to (zr3.h6 i4 (IntKind.i64.wrap (i5+1)) z0 z1 (z2.1,z2.2.1++a1,())))))
 (Tr.re
  (AV.agg [AV.str z2.1.1,AV.sl zh z2.1.2.1,AV.int .i64 z2.1.2.2.1,AV.sl zg z2.1.2.2.2.1,AV.sl zt z2.1.2.2.2.2.1,AV.str (ze.op z2.1.2.2.2.2.2),AV.int .i64 (ze.v z2.1.2.2.2.2.2).1,AV.int .i64 (ze.v z2.1.2.2.2.2.2).2.1,AV.str (ze.v z2.1.2.2.2.2.2).2.2,AV.str (ze.s z2.1.2.2.2.2.2),AV.sl Sh.expr (ze.l z2.1.2.2.2.2.2),AV.vec 0])
  [AO.vec zf.sl z2.2.1])
def zyV (i4:Int) (i5:Int) (z0:zj cpR) (z1:zj zFg) (z2:zj zJE):Tr (zr3 ⊕ Raw):=
 let a0:=(↑(List.length z0.1.2):Int)
 let a1:=[zj5 (List.getD z0.1.2 i5.toNat (zl zf.sl))]
 zuY i4 i5 z0 z1 z2 a0 a1
theorem zRw (x0:Sem zk):run zgj 0 zGX (Func.results Tryz.f21).toList 400 (zq Tryz.f21) (zp (Func.ntmps Tryz.f21) [zx zk x0] [])=(zG9 x0).map (lf Tryz.f21 zGI):=by kernel_rfl
def zw4:zr3→Tr (zr3 ⊕ Raw)
 | .h6 i4 i5 z0 z1 z2=>zyV i4 i5 z0 z1 z2
theorem zSV:∀ s,run zgj 0 zGX (Func.results Tryz.f21).toList 400 (zA Tryz.f21 (zGI s).1) (zGI s).2=(zw4 s).map (lf Tryz.f21 zGI)
 | .h6 i4 i5 z0 z1 z2=>by kernel_rfl
def zuR (x0:Sem zk):Option (zo (List.map some [zk])):=zaj [zk] zw4 100000000 (zG9 x0)
def zvb (x0:Sem zk):Bool:=(zuR x0).isSome
def zmv (x0:Sem zk):Sem zk:=(fun r:zo (List.map some [zk])=>r.1) ((zuR x0).getD (zad [zk]))
def zUo:zJ:=zG [zk] [zk] (fun x=>zvb x.1) fun x=>(zmv x.1,())
theorem zNw:FOk zgj.P zgj.gl 21 zUo:=zae (ks:=[zk]) (outs:=[zk]) (keep:=zGX) (gas:=400) (n:=100000000) (e:=zGI) (t:=zw4) (i:=fun x=>zG9 x.1) zm3 zni zTj (fun x=>zRw x.1) zSV (fun _=>by kernel_rfl) (fun _=>by kernel_rfl)

abbrev zPl:Nat→zQ:=fun j=>if j=3 then { slots:=[1,2,3,4],prom:=[(3,some 7,zaT)] } else if j=7 then { slots:=[1,2,3,5],prom:=[(3,some 15,zan)] } else { }
inductive H8p where
 | h3 (i4:Int) (z0:zj cpS) (z1:zj zce) (z2:zj zzt)
 | h7 (i5:Int) (z0:zj cpS) (z1:zj zce) (z2:zj zzF)
abbrev e8p:H8p→Nat×St
 | .h3 i4 z0 z1 z2=>(3,⟨tm 103 [(1,AV.ptr 0 0),(2,AV.ptr 1 0),(3,AV.ptr 2 0),(4,AV.int .i64 i4)],[AO.box (cpN [] cpS z0),AO.box (cpN [] zce z1),AO.box (cpN [3] zzt z2),AO.vec (Sh.str.pr Sh.str) z2.2.2.2.2.2.2.2.1]⟩)
 | .h7 i5 z0 z1 z2=>(7,⟨tm 103 [(1,AV.ptr 0 0),(2,AV.ptr 1 0),(3,AV.ptr 2 0),(5,AV.int .i64 i5)],[AO.box (cpN [] cpS z0),AO.box (cpN [] zce z1),AO.box (cpN [3,4] zzF z2),AO.vec (Sh.str.pr Sh.str) z2.2.2.2.2.2.2.2.1,AO.vec (Sh.str.pr Sh.expr) z2.2.2.2.2.2.2.2.2.2.2.1]⟩)
theorem zWm:zF zgj.P 8 Tryz.f8 1:=by refine ⟨?_,?_,?_,?_⟩ <;> kernel_rfl
def i8p (x0:Sem zu):Tr (H8p ⊕ Raw):=
 Tr.chk (zcV x0.1)
 (Tr.chk (zcV x0.2.1)
  (Tr.chk (zcV x0.2.2.1) (Tr.chk (zcV x0.2.2.2.2.2.1) (Tr.chk (zcV x0.2.2.2.2.2.2.2.2.2.2.2.2) (Tr.chk (ziR x0.2.2.2.1) (Tr.chk (ziR x0.2.2.2.2.2.2.1) (Tr.to (H8p.h3 0 (x0,()) ([],[],[],[],[],0,0,[],[],[],0,0,[],[],[],()) (zbu x0.1,zbu x0.2.1,zbu x0.2.2.1,zfC x0.2.2.2.1,zke x0.2.2.2.2.1,
  zbu x0.2.2.2.2.2.1,zfC x0.2.2.2.2.2.2.1,[],zdr (zz x0.2.2.2.2.2.2.2.2.1),zj5 x0.2.2.2.2.2.2.2.2.2.1,zdr (zz x0.2.2.2.2.2.2.2.2.2.2.2.1),zbu x0.2.2.2.2.2.2.2.2.2.2.2.2,())))))))))
def zy7 (i4:Int) (z0:zj cpS) (z1:zj zce) (z2:zj zzt) (a0:Int) (a1:Bool) (a2:Sem zaT) (a3:List (Sem (Sh.str.pr Sh.str))):Tr (H8p ⊕ Raw):=
 Tr.br (bif decide (i4 < a0) then decide (i4 < 10) else false)
 (Tr.chk a1
  (Tr.chk (zcV a2.1) (Tr.chk a1 (Tr.chk (zcV a2.2) (Tr.chk (decide (z2.2.2.2.2.2.2.2.1.length+a3.length≤1073741824)) (Tr.to (H8p.h3 (IntKind.i64.wrap (i4+1)) z0 z1 (z2.1,z2.2.1,z2.2.2.1,z2.2.2.2.1,z2.2.2.2.2.1,z2.2.2.2.2.2.1,z2.2.2.2.2.2.2.1,z2.2.2.2.2.2.2.2.1++a3,z2.2.2.2.2.2.2.2.2))))))))
 (Tr.to
  (H8p.h7 0 z0 z1 (z2.1,z2.2.1,z2.2.2.1,z2.2.2.2.1,z2.2.2.2.2.1,z2.2.2.2.2.2.1,z2.2.2.2.2.2.2.1,z2.2.2.2.2.2.2.2.1,z2.2.2.2.2.2.2.2.2.1,z2.2.2.2.2.2.2.2.2.2.1,[],z2.2.2.2.2.2.2.2.2.2.2)))
def zFS (i4:Int) (z0:zj cpS) (z1:zj zce) (z2:zj zzt):Tr (H8p ⊕ Raw):=
 let a0:=(↑(List.length z0.1.2.2.2.2.2.2.2.1):Int)
 let a1:=inB i4 (List.length z0.1.2.2.2.2.2.2.2.1)
 let a2:=List.getD z0.1.2.2.2.2.2.2.2.1 i4.toNat (zl zaT)
 let a3:=[(zbu a2.1,zbu a2.2)]
 zy7 i4 z0 z1 z2 a0 a1 a2 a3
def zyC (i5:Int) (z0:zj cpS) (z1:zj zce) (z2:zj zzF) (a0:Int) (a1:Bool) (a2:Sem zan) (a3:List (Sem (Sh.str.pr Sh.expr))):Tr (H8p ⊕ Raw):=
 Tr.br (bif decide (i5 < a0) then decide (i5 < 10) else false)
 (Tr.chk a1
  (Tr.chk (zcV a2.1) (Tr.chk a1 (Tr.chk (decide (z2.2.2.2.2.2.2.2.2.2.2.1.length+a3.length≤1073741824)) (Tr.to (H8p.h7 (IntKind.i64.wrap (i5+1)) z0 z1 (z2.1,z2.2.1,z2.2.2.1,z2.2.2.2.1,z2.2.2.2.2.1,z2.2.2.2.2.2.1,z2.2.2.2.2.2.2.1,z2.2.2.2.2.2.2.2.1,z2.2.2.2.2.2.2.2.2.1,z2.2.2.2.2.2.2.2.2.2.1,z2.2.2.2.2.2.2.2.2.2.2.1++a3,z2.2.2.2.2.2.2.2.2.2.2.2)))))))
 (Tr.re
  (AV.agg [AV.str z2.1,AV.str z2.2.1,AV.str z2.2.2.1,AV.sl Sh.str z2.2.2.2.1,AV.sl zh z2.2.2.2.2.1,AV.str z2.2.2.2.2.2.1,AV.sl Sh.str z2.2.2.2.2.2.2.1,AV.vec 0,AV.str (ze.op z2.2.2.2.2.2.2.2.2.1),AV.int .i64 (ze.v z2.2.2.2.2.2.2.2.2.1).1,AV.int .i64 (ze.v z2.2.2.2.2.2.2.2.2.1).2.1,AV.str (ze.v z2.2.2.2.2.2.2.2.2.1).2.2,AV.str (ze.s z2.2.2.2.2.2.2.2.2.1),
  AV.sl Sh.expr (ze.l z2.2.2.2.2.2.2.2.2.1),AV.sl zf z2.2.2.2.2.2.2.2.2.2.1,AV.vec 1,AV.str (ze.op z2.2.2.2.2.2.2.2.2.2.2.2.1),AV.int .i64 (ze.v z2.2.2.2.2.2.2.2.2.2.2.2.1).1,AV.int .i64 (ze.v z2.2.2.2.2.2.2.2.2.2.2.2.1).2.1,AV.str (ze.v z2.2.2.2.2.2.2.2.2.2.2.2.1).2.2,AV.str (ze.s z2.2.2.2.2.2.2.2.2.2.2.2.1),
  AV.sl Sh.expr (ze.l z2.2.2.2.2.2.2.2.2.2.2.2.1),AV.str z2.2.2.2.2.2.2.2.2.2.2.2.2.1])
  [AO.vec (Sh.str.pr Sh.str) z2.2.2.2.2.2.2.2.1,AO.vec (Sh.str.pr Sh.expr) z2.2.2.2.2.2.2.2.2.2.2.1])
def zGs (i5:Int) (z0:zj cpS) (z1:zj zce) (z2:zj zzF):Tr (H8p ⊕ Raw):=
 let a0:=(↑(List.length z0.1.2.2.2.2.2.2.2.2.2.2.1):Int)
 let a1:=inB i5 (List.length z0.1.2.2.2.2.2.2.2.2.2.2.1)
 let a2:=List.getD z0.1.2.2.2.2.2.2.2.2.2.2.1 i5.toNat (zl zan)
 let a3:=[(zbu a2.1,zz (zdr (zz a2.2)))]
 zyC i5 z0 z1 z2 a0 a1 a2 a3
theorem zW6 (x0:Sem zu):run zgj 0 zPl (Func.results Tryz.f8).toList 400 (zq Tryz.f8) (zp (Func.ntmps Tryz.f8) [zx zu x0] [])=(i8p x0).map (lf Tryz.f8 e8p):=by kernel_rfl
def t8p:H8p→Tr (H8p ⊕ Raw)
 | .h3 i4 z0 z1 z2=>zFS i4 z0 z1 z2
 | .h7 i5 z0 z1 z2=>zGs i5 z0 z1 z2
theorem zXv:∀ s,run zgj 0 zPl (Func.results Tryz.f8).toList 400 (zA Tryz.f8 (e8p s).1) (e8p s).2=(t8p s).map (lf Tryz.f8 e8p)
 | .h3 i4 z0 z1 z2=>by kernel_rfl
 | .h7 i5 z0 z1 z2=>by kernel_rfl
def ztW (x0:Sem zu):Option (zo (List.map some [zu])):=zaj [zu] t8p 100000000 (i8p x0)
def zvc (x0:Sem zu):Bool:=(ztW x0).isSome
def zAX (x0:Sem zu):Sem zu:=(fun r:zo (List.map some [zu])=>r.1) ((ztW x0).getD (zad [zu]))
def F8p:zJ:=zG [zu] [zu] (fun x=>zvc x.1) fun x=>(zAX x.1,())
theorem zTY:FOk zgj.P zgj.gl 8 F8p:=zae (ks:=[zu]) (outs:=[zu]) (keep:=zPl) (gas:=400) (n:=100000000) (e:=e8p) (t:=t8p) (i:=fun x=>i8p x.1) zm3 zni zWm (fun x=>zW6 x.1) zXv (fun _=>by kernel_rfl) (fun _=>by kernel_rfl)

def zl3:Env:=((zgj.add 21 zUo).add 8 F8p)
theorem ztd:zi zl3:=(zi.addS (zi.addS zm3 (zB.refl zgj) zNw) ((zB.refl zgj).add _ _) zTY)
theorem zta:zl3.P.follows .mixedOrders=true:=(zm (zm zni _ _) _ _)
end
open Go Go.Proofs
noncomputable section
set_option maxHeartbeats 4000000

abbrev zOi:Nat→zQ:=fun j=>if j=3 then { slots:=[0,3,4],prom:=[(3,none,zk)] } else { }
inductive H7p where
 | h3 (l0:List (Sem zk)) (i4:Int) (lh_0:List (Sem zk))
abbrev e7p:H7p→Nat×St
 | .h3 l0 i4 lh_0=>(3,⟨tm 24 [(0,AV.sl zk l0),(3,AV.vec 0),(4,AV.int .i64 i4)],[AO.vec zk lh_0]⟩)
theorem zXe:zF zl3.P 7 Tryz.f7 1:=by refine ⟨?_,?_,?_,?_⟩ <;> kernel_rfl
def i7p (x0:Sem zk.sl):Tr (H7p ⊕ Raw):=
 Tr.to (H7p.h3 x0 0 [])
def zx5 (l0:List (Sem zk)) (i4:Int) (lh_0:List (Sem zk)) (_:Sem zk) (a1:Sem zn×Sem zf.sl.sl) (_:Sem zk) (a3:List (Sem zk)):Tr (H7p ⊕ Raw):=
 Tr.br (bif decide (i4 < (↑l0.length:Int)) then decide (i4 < 13) else false)
 (Tr.chk (inB i4 l0.length)
  (Tr.chk (zvb a1) (Tr.chk (decide (lh_0.length+a3.length≤1073741824)) (Tr.to (H7p.h3 l0 (IntKind.i64.wrap (i4+1)) (lh_0++a3))))))
 (Tr.re (AV.vec 0)
  [AO.vec zk lh_0])
def zFR (l0:List (Sem zk)) (i4:Int) (lh_0:List (Sem zk)):Tr (H7p ⊕ Raw):=
 let a0:=l0.getD i4.toNat (zl zk)
 let a1:=((a0.1.1,a0.1.2.1,a0.1.2.2.1,a0.1.2.2.2.1,a0.1.2.2.2.2.1,zz a0.1.2.2.2.2.2),a0.2)
 let a2:=zmv a1
 let a3:=[((a2.1.1,a2.1.2.1,a2.1.2.2.1,a2.1.2.2.2.1,a2.1.2.2.2.2.1,zz a2.1.2.2.2.2.2),a2.2)]
 zx5 l0 i4 lh_0 a0 a1 a2 a3
theorem zXa (x0:Sem zk.sl):run zl3 0 zOi (Func.results Tryz.f7).toList 400 (zq Tryz.f7) (zp (Func.ntmps Tryz.f7) [zx zk.sl x0] [])=(i7p x0).map (lf Tryz.f7 e7p):=by kernel_rfl
def t7p:H7p→Tr (H7p ⊕ Raw)
 | .h3 l0 i4 lh_0=>zFR l0 i4 lh_0
theorem zXU:∀ s,run zl3 0 zOi (Func.results Tryz.f7).toList 400 (zA Tryz.f7 (e7p s).1) (e7p s).2=(t7p s).map (lf Tryz.f7 e7p)
 | .h3 l0 i4 lh_0=>by kernel_rfl
def zuj (x0:Sem zk.sl):Option (zo (List.map some [zk.sl])):=zaj [zk.sl] t7p 100000000 (i7p x0)
def zvt (x0:Sem zk.sl):Bool:=(zuj x0).isSome
def zAg (x0:Sem zk.sl):Sem zk.sl:=(fun r:zo (List.map some [zk.sl])=>r.1) ((zuj x0).getD (zad [zk.sl]))
def F7p:zJ:=zG [zk.sl] [zk.sl] (fun x=>zvt x.1) fun x=>(zAg x.1,())
theorem zSR:FOk zl3.P zl3.gl 7 F7p:=zae (ks:=[zk.sl]) (outs:=[zk.sl]) (keep:=zOi) (gas:=400) (n:=100000000) (e:=e7p) (t:=t7p) (i:=fun x=>i7p x.1) ztd zta zXe (fun x=>zXa x.1) zXU (fun _=>by kernel_rfl) (fun _=>by kernel_rfl)

def zlO:Env:=(zl3.add 7 F7p)
theorem zts:zi zlO:=(zi.addS ztd (zB.refl zl3) zSR)
theorem zsl:zlO.P.follows .mixedOrders=true:=(zm zta _ _)
end
open Go Go.Proofs
noncomputable section
set_option maxHeartbeats 4000000

abbrev zFb:Nat→zQ:=fun j=>if j=3 then { slots:=[0,3,14,15,16] } else if j=11 then { slots:=[0,3,55,56,57] } else { }
inductive ziI where
 | h3 (l14:LS) (i15:Int) (i16:Int) (z0:zj zal) (jb0:LS)
 | h11 (l55:List (Sem zk)) (i56:Int) (i57:Int) (z0:zj zal) (jb0:LS)
abbrev zE5:ziI→Nat×St
 | .h3 l14 i15 i16 z0 jb0=>(3,⟨tm 122 [(0,AV.ptr 0 0),(3,AV.ptr 1 0),(14,AV.sl Sh.str l14),(15,ai i15),(16,ai i16)],[AO.box (cpN [] zal z0),AO.box [AV.sl Sh.str jb0]]⟩)
 | .h11 l55 i56 i57 z0 jb0=>(11,⟨tm 122 [(0,AV.ptr 0 0),(3,AV.ptr 1 0),(55,AV.sl zk l55),(56,ai i56),(57,ai i57)],[AO.box (cpN [] zal z0),AO.box [AV.sl Sh.str jb0]]⟩)
theorem zSS:zF zlO.P 36 Tryz.f36 1:=by refine ⟨?_,?_,?_,?_⟩ <;> kernel_rfl
def zKM (y:zj zal) (a0:Sem Sh.str.sl):Tr (ziI ⊕ Raw):=Tr.to (ziI.h3 a0 (↑(List.length a0):Int) 0 y a0)
def zHM (y:zj zal):Tr (ziI ⊕ Raw):=
 let a0:=zhi (y.2.2.2.2.1,y.2.2.2.2.2.1,y.2.2.2.2.2.2.1,(y.2.2.2.2.2.2.2.1,[],y.2.2.2.2.2.2.2.2.1,[],[],zz y.2.2.2.2.2.2.2.2.2.1),[],y.2.2.2.2.2.2.2.2.2.2.1)
 zKM y a0
def zoJ (l14:LS) (i15:Int) (i16:Int) (z0:zj zal) (jb0:LS) (a0:Sem zg) (a1:Sem zg):Tr (ziI ⊕ Raw):=Tr.br (decide (i16 < i15)) (Tr.chk (inB i16 l14.length) (Tr.br (decide (a0 < 0)) (Tr.re (ai 6) (zY zal z0)) (Tr.to (ziI.h3 l14 i15 (IntKind.i64.wrap (i16+1)) z0 jb0)))) (Tr.br (bif decide (a1 ≥ 0) then true else z0.2.2.2.2.2.1==z0.2.2.2.2.2.2.1) (Tr.re (ai 7) (zY zal z0)) (Tr.to (ziI.h11 z0.1 (↑(List.length z0.1):Int) 0 z0 jb0)))
def ztO (l14:LS) (i15:Int) (i16:Int) (z0:zj zal) (jb0:LS):Tr (ziI ⊕ Raw):=
 let a0:=zak z0.1 (l14.getD i16.toNat (zl Sh.str))
 let a1:=zak z0.1 z0.2.1.2.1
 zoJ l14 i15 i16 z0 jb0 a0 a1
def zlt (l55:List (Sem zk)) (i56:Int) (i57:Int) (z0:zj zal) (jb0:LS) (a0:Sem zk) (a1:Int) (a2:Sem zg) (a3:Sem zg) (a4:Sem zk) (a5:Sem zk):Tr (ziI ⊕ Raw):=Tr.br (decide (i57 < i56)) (Tr.chk (inB i57 l55.length) (Tr.br (!zhF jb0 a0.1.1) (Tr.br (decide (a1 ≥ 0)) (Tr.re (ai 10) (zY zal z0)) (Tr.to (ziI.h11 l55 i56 (IntKind.i64.wrap (i57+1)) z0 jb0))) (Tr.to (ziI.h11 l55 i56 (IntKind.i64.wrap (i57+1)) z0 jb0)))) (Tr.chk (inB a2 (List.length z0.1)) (Tr.br (!z0.2.2.2.2.2.2.1==[]) (Tr.chk (inB a3 (List.length z0.1)) (Tr.re (ai 0) (zY zal (z0.1,z0.2.1,a4.1,a5.1,z0.2.2.2.2)))) (Tr.re (ai 0) (zY zal (z0.1,z0.2.1,a4.1,z0.2.2.2)))))
def zo6 (l55:List (Sem zk)) (i56:Int) (i57:Int) (z0:zj zal) (jb0:LS):Tr (ziI ⊕ Raw):=
 let a0:=l55.getD i57.toNat (zl zk)
 let a1:=zaa (fun x=>zhF jb0 x.2) a0.1.2.2.2.2.1 0
 let a2:=zak z0.1 z0.2.2.2.2.2.1
 let a3:=zak z0.1 z0.2.2.2.2.2.2.1
 let a4:=List.getD z0.1 (Int.toNat a2) (zl zk)
 let a5:=List.getD z0.1 (Int.toNat a3) (zl zk)
 zlt l55 i56 i57 z0 jb0 a0 a1 a2 a3 a4 a5
theorem zUN (y:zj zal):run zlO 1 zFb (Func.results Tryz.f36).toList 400 (zq Tryz.f36) (zp (Func.ntmps Tryz.f36) [AV.ptr 0 0] (zY zal y))=(zHM y).map (lf Tryz.f36 zE5):=by kernel_rfl
def zko:ziI→Tr (ziI ⊕ Raw)
 | .h3 l14 i15 i16 z0 jb0=>ztO l14 i15 i16 z0 jb0
 | .h11 l55 i56 i57 z0 jb0=>zo6 l55 i56 i57 z0 jb0
theorem zTz:∀ s,run zlO 1 zFb (Func.results Tryz.f36).toList 400 (zA Tryz.f36 (zE5 s).1) (zE5 s).2=(zko s).map (lf Tryz.f36 zE5) | .h3 l14 i15 i16 z0 jb0=>by kernel_rfl | .h11 l55 i56 i57 z0 jb0=>by kernel_rfl
def zd6 (y:zj zal):Option (zo (List.map some [zg])×zj zal):=zfE [zg] zal zko 100000000 (zHM y)
def zd0 (y:zj zal):Bool:=(zd6 y).isSome
def zde (y:zj zal):(Sem zg)×zj zal:=(fun r:zo (List.map some [zg])×zj zal=>(r.1.1,r.2)) ((zd6 y).getD (zad [zg],zdv zal))
def zTa:zJ:=zk0 zal [] [zg] zal (fun y _=>zd0 y) fun y _=>(((zde y).1,()),(zde y).2)
theorem zPk:FOk zlO.P zlO.gl 36 zTa:=zgr (keep:=zFb) (gas:=400) (n:=100000000) (e:=zE5) (t:=zko) (i:=fun y x=>zHM y) zts zsl zSS (fun y x=>zUN y) zTz (fun _ _=>by kernel_rfl) (fun _ _=>by kernel_rfl)

def zlV:Env:=(zlO.add 36 zTa)
theorem ztb:zi zlV:=(zi.addS zts (zB.refl zlO) zPk)
theorem ztk:zlV.P.follows .mixedOrders=true:=(zm zsl _ _)
end
open Go Go.Proofs
noncomputable section
set_option maxHeartbeats 4000000
abbrev zbO:List CP:=[.d (.sl zk),.d zu,.d zn,.d zn,.d .str,.d .str,.d .str,.d .str,.vec zh,.d zg,.nil,.nil,.d .expr,.vec zg,.d zg]

abbrev zHd:Nat→zQ:=fun j=>if j=3 then { slots:=[1,3,14,15,16,0],prom:=[(0,some 60,.int .i64),(0,some 50,zh)] } else if j=12 then { slots:=[1,63,64,65,0] } else if j=1000000 then { sett:=[(0,60)] } else { }
inductive ziB where
 | h3 (l14:LS) (i15:Int) (i16:Int) (z0:zj zbO)
 | h12 (i64:Int) (i65:Int) (z0:zj zbO)
 | h12b (i64:Int) (i65:Int) (z0:zj zbO)
abbrev zEX:ziB→Nat×St
 | .h3 l14 i15 i16 z0=>(3,⟨tm 80 [(0,AV.ptr 0 0),(1,AV.ptr 1 0),(3,AV.clo (Fn.func 115) [] [AV.ptr 1 0]),(14,AV.sl Sh.str l14),(15,ai i15),(16,ai i16)],[AO.box (cpN [2,3] zbO z0),AO.box [AV.ptr 0 0],AO.vec zh z0.2.2.2.2.2.2.2.2.1,AO.vec zg z0.2.2.2.2.2.2.2.2.2.2.2.1]⟩)
 | .h12 i64 i65 z0=>(12,⟨tm 80 [(0,AV.ptr 0 0),(1,AV.ptr 1 0),(63,AV.vec 2),(64,ai i64),(65,ai i65)],[AO.box (cpN [3,2] zbO z0),AO.box [AV.ptr 0 0],AO.vec zg z0.2.2.2.2.2.2.2.2.2.2.2.1,AO.vec zh z0.2.2.2.2.2.2.2.2.1]⟩)
 | .h12b i64 i65 z0=>(12,⟨tm 80 [(0,AV.ptr 0 0),(1,AV.ptr 1 0),(63,AV.vec 2),(64,ai i64),(65,ai i65)],[AO.box (cpN [3,2] zbO z0),AO.box [AV.ptr 0 0],AO.frz zg z0.2.2.2.2.2.2.2.2.2.2.2.1,AO.vec zh z0.2.2.2.2.2.2.2.2.1]⟩)
theorem zQ6:zF zlV.P 66 Tryz.f66 1:=by refine ⟨?_,?_,?_,?_⟩ <;> kernel_rfl
def zJy (y:zj zal):Tr (ziB ⊕ Raw):=Tr.to (ziB.h3 y.2.1.2.2.2.1 (↑(List.length y.2.1.2.2.2.1):Int) 0 (y.1,y.2.1,y.2.2.1,y.2.2.2.1,y.2.2.2.2.1,y.2.2.2.2.2.1,y.2.2.2.2.2.2.1,y.2.2.2.2.2.2.2.1,[],y.2.2.2.2.2.2.2.2.1,y.2.2.2.2.2.2.2.2.2.1,[],y.2.2.2.2.2.2.2.2.2.2))
def zoo (l14:LS) (i15:Int) (i16:Int) (z0:zj zbO) (a0:Sem zg) (a1:LI) (a2:LC):Tr (ziB ⊕ Raw):=Tr.br (decide (i16 < i15)) (Tr.chk (inB i16 l14.length) (Tr.br (decide (a0 < 0)) (Tr.re (ai 4) (zY zX z0)) (Tr.chk (decide (z0.2.2.2.2.2.2.2.2.2.2.2.1.length+a1.length≤1073741824)) (Tr.chk (inB a0 (List.length z0.2.2.1.2.1)) (Tr.chk (decide (z0.2.2.2.2.2.2.2.2.1.length+a2.length≤1073741824)) (Tr.to (ziB.h3 l14 i15 (IntKind.i64.wrap (i16+1)) (z0.1,z0.2.1,z0.2.2.1,z0.2.2.2.1,z0.2.2.2.2.1,z0.2.2.2.2.2.1,z0.2.2.2.2.2.2.1,z0.2.2.2.2.2.2.2.1,z0.2.2.2.2.2.2.2.2.1++a2,z0.2.2.2.2.2.2.2.2.2.1,z0.2.2.2.2.2.2.2.2.2.2.1,z0.2.2.2.2.2.2.2.2.2.2.2.1++a1,z0.2.2.2.2.2.2.2.2.2.2.2.2)))))))) (Tr.to (ziB.h12 (↑z0.2.2.2.2.2.2.2.2.2.2.2.1.length:Int) 0 z0))
def zvA (l14:LS) (i15:Int) (i16:Int) (z0:zj zbO):Tr (ziB ⊕ Raw):=
 let a0:=zbF (z0.2.2.1.1,z0.2.2.1.2.1,z0.2.2.1.2.2.1,z0.2.2.1.2.2.2.1,z0.2.2.1.2.2.2.2.1,zz z0.2.2.1.2.2.2.2.2) (l14.getD i16.toNat (zl Sh.str))
 let a1:=[a0]
 let a2:=[List.getD z0.2.2.1.2.1 (Int.toNat a0) (zl zh)]
 zoo l14 i15 i16 z0 a0 a1 a2
def zlc (i64:Int) (i65:Int) (z0:zj zbO) (a0:Int):Tr (ziB ⊕ Raw):=Tr.br (decide (i65 < i64)) (Tr.chk (inB i65 z0.2.2.2.2.2.2.2.2.2.2.2.1.length) (Tr.chk (decide (i65.toNat < z0.2.2.2.2.2.2.2.2.2.2.2.1.length)) (Tr.chk (decide (0≤0)&&decide (0≤i65)&&decide (i65≤a0)) (Tr.br (zqY (List.take (i65.toNat - Int.toNat 0) (List.drop (Int.toNat 0) z0.2.2.2.2.2.2.2.2.2.2.2.1)) (z0.2.2.2.2.2.2.2.2.2.2.2.1.getD i65.toNat (zl zg))) (Tr.re (ai 7) (zY zX z0)) (Tr.to (ziB.h12b i64 (IntKind.i64.wrap (i65+1)) z0)))))) (Tr.re (ai 0) (zY zX z0))
def zo2 (i64:Int) (i65:Int) (z0:zj zbO):Tr (ziB ⊕ Raw):=
 let a0:=(↑z0.2.2.2.2.2.2.2.2.2.2.2.1.length:Int)
 zlc i64 i65 z0 a0
def zjk (i64:Int) (i65:Int) (z0:zj zbO) (a0:Int):Tr (ziB ⊕ Raw):=Tr.br (decide (i65 < i64)) (Tr.chk (inB i65 z0.2.2.2.2.2.2.2.2.2.2.2.1.length) (Tr.chk (decide (0≤0)&&decide (0≤i65)&&decide (i65≤a0)) (Tr.br (zqY (List.take (i65.toNat - Int.toNat 0) (List.drop (Int.toNat 0) z0.2.2.2.2.2.2.2.2.2.2.2.1)) (z0.2.2.2.2.2.2.2.2.2.2.2.1.getD i65.toNat (zl zg))) (Tr.re (ai 7) (zY zX z0)) (Tr.to (ziB.h12b i64 (IntKind.i64.wrap (i65+1)) z0))))) (Tr.re (ai 0) (zY zX z0))
def zmx (i64:Int) (i65:Int) (z0:zj zbO):Tr (ziB ⊕ Raw):=
 let a0:=(↑z0.2.2.2.2.2.2.2.2.2.2.2.1.length:Int)
 zjk i64 i65 z0 a0
theorem zV5 (y:zj zal):run zlV 1 zHd (Func.results Tryz.f66).toList 400 (zq Tryz.f66) (zp (Func.ntmps Tryz.f66) [AV.ptr 0 0] (zY zal y))=(zJy y).map (lf Tryz.f66 zEX):=by kernel_rfl
def zgu:ziB→Tr (ziB ⊕ Raw)
 | .h3 l14 i15 i16 z0=>zvA l14 i15 i16 z0
 | .h12 i64 i65 z0=>zo2 i64 i65 z0
 | .h12b i64 i65 z0=>zmx i64 i65 z0
theorem zRV:∀ s,run zlV 1 zHd (Func.results Tryz.f66).toList 400 (zA Tryz.f66 (zEX s).1) (zEX s).2=(zgu s).map (lf Tryz.f66 zEX) | .h3 l14 i15 i16 z0=>by kernel_rfl | .h12 i64 i65 z0=>by kernel_rfl | .h12b i64 i65 z0=>by kernel_rfl
def zgw (y:zj zal):Option (zo (List.map some [zg])×zj zX):=zfE [zg] zX zgu 100000000 (zJy y)
def ze3 (y:zj zal):Bool:=(zgw y).isSome
def zcS (y:zj zal):(Sem zg)×zj zX:=(fun r:zo (List.map some [zg])×zj zX=>(r.1.1,r.2)) ((zgw y).getD (zad [zg],zdv zX))
def zUV:zJ:=zk0 zal [] [zg] zX (fun y _=>ze3 y) fun y _=>(((zcS y).1,()),(zcS y).2)
theorem zMB:FOk zlV.P zlV.gl 66 zUV:=zgr (ps:=zal) (ks:=[]) (outs:=[zg]) (keep:=zHd) (gas:=400) (n:=100000000) (e:=zEX) (t:=zgu) (i:=fun y x=>zJy y) ztb ztk zQ6 (fun y x=>zV5 y) zRV (fun _ _=>by kernel_rfl) (fun _ _=>by kernel_rfl)

def zhj:Env:=(zlV.add 66 zUV)
theorem znl:zi zhj:=(zi.addS ztb (zB.refl zlV) zMB)
theorem zm8:zhj.P.follows .mixedOrders=true:=(zm ztk _ _)
end
open Go Go.Proofs
noncomputable section
set_option maxHeartbeats 4000000

abbrev zj0 (y:zj zal):zj zal:=(y.1,(y.2.1.1,y.2.1.2.1,y.2.1.2.2.1,y.2.1.2.2.2.1,y.2.1.2.2.2.2.1,y.2.1.2.2.2.2.2.1,y.2.1.2.2.2.2.2.2.1,y.2.1.2.2.2.2.2.2.2.1,zz y.2.1.2.2.2.2.2.2.2.2.1,y.2.1.2.2.2.2.2.2.2.2.2.1,y.2.1.2.2.2.2.2.2.2.2.2.2.1,zz y.2.1.2.2.2.2.2.2.2.2.2.2.2.1,y.2.1.2.2.2.2.2.2.2.2.2.2.2.2),(y.2.2.1.1,y.2.2.1.2.1,y.2.2.1.2.2.1,y.2.2.1.2.2.2.1,y.2.2.1.2.2.2.2.1,zz y.2.2.1.2.2.2.2.2),(y.2.2.2.1.1,y.2.2.2.1.2.1,y.2.2.2.1.2.2.1,y.2.2.2.1.2.2.2.1,y.2.2.2.1.2.2.2.2.1,zz y.2.2.2.1.2.2.2.2.2),y.2.2.2.2.1,y.2.2.2.2.2.1,y.2.2.2.2.2.2.1,y.2.2.2.2.2.2.2.1,y.2.2.2.2.2.2.2.2.1,zz y.2.2.2.2.2.2.2.2.2.1,y.2.2.2.2.2.2.2.2.2.2.1,())
abbrev zBm (y:zj zX):zj zX:=(y.1,(y.2.1.1,y.2.1.2.1,y.2.1.2.2.1,y.2.1.2.2.2.1,y.2.1.2.2.2.2.1,y.2.1.2.2.2.2.2.1,y.2.1.2.2.2.2.2.2.1,y.2.1.2.2.2.2.2.2.2.1,zz y.2.1.2.2.2.2.2.2.2.2.1,y.2.1.2.2.2.2.2.2.2.2.2.1,y.2.1.2.2.2.2.2.2.2.2.2.2.1,zz y.2.1.2.2.2.2.2.2.2.2.2.2.2.1,y.2.1.2.2.2.2.2.2.2.2.2.2.2.2),(y.2.2.1.1,y.2.2.1.2.1,y.2.2.1.2.2.1,y.2.2.1.2.2.2.1,y.2.2.1.2.2.2.2.1,zz y.2.2.1.2.2.2.2.2),(y.2.2.2.1.1,y.2.2.2.1.2.1,y.2.2.2.1.2.2.1,y.2.2.2.1.2.2.2.1,y.2.2.2.1.2.2.2.2.1,zz y.2.2.2.1.2.2.2.2.2),y.2.2.2.2.1,y.2.2.2.2.2.1,y.2.2.2.2.2.2.1,y.2.2.2.2.2.2.2.1,y.2.2.2.2.2.2.2.2.1,y.2.2.2.2.2.2.2.2.2.1,zz y.2.2.2.2.2.2.2.2.2.2.1,y.2.2.2.2.2.2.2.2.2.2.2.1,y.2.2.2.2.2.2.2.2.2.2.2.2.1,())

abbrev zKX:Nat→zQ:=fun _=>{ }
theorem zU7:zF zhj.P 30 Tryz.f30 1:=by refine ⟨?_,?_,?_,?_⟩ <;> kernel_rfl
def zAa (_:zj zal) (a0:Sem zk.sl×zj [CP.d zu,CP.d zn,CP.d zn,CP.d Sh.str,CP.d Sh.str,CP.d Sh.str,CP.d Sh.str,CP.nil,CP.d zg,CP.nil,CP.nil,CP.d Sh.expr,CP.nil,CP.d zg]) (a1:Sem zg×zj zX) (a2:Sem zg):Tr (Empty ⊕ Raw):=Tr.chk (ze3 a0) (Tr.br (a1.1 != 0) (Tr.re (ai a1.1) (zY zX a1.2)) (Tr.br (decide (a2 < 0)) (Tr.re (ai 1) (zY zX (a1.2.1,a1.2.2.1,a1.2.2.2.1,a1.2.2.2.2.1,a1.2.2.2.2.2.1,a1.2.2.2.2.2.2.1,a1.2.2.2.2.2.2.2.1,a1.2.2.2.2.2.2.2.2.1,a1.2.2.2.2.2.2.2.2.2.1,a2,a1.2.2.2.2.2.2.2.2.2.2.2))) (Tr.re (ai 0) (zY zX (a1.2.1,a1.2.2.1,a1.2.2.2.1,a1.2.2.2.2.1,a1.2.2.2.2.2.1,a1.2.2.2.2.2.2.1,a1.2.2.2.2.2.2.2.1,a1.2.2.2.2.2.2.2.2.1,a1.2.2.2.2.2.2.2.2.2.1,a2,a1.2.2.2.2.2.2.2.2.2.2.2)))))
def zCM (y:zj zal):Tr (Empty ⊕ Raw):=
 let a0:=zj0 y
 let a1:=zcS a0
 let a2:=zix a1.2.2.2.2.2.2.2.2.2.2.2.2.1 a1.2.2.2.1.2.2.1
 zAa y a0 a1 a2
theorem zVn (y:zj zal):run zhj 1 zKX (Func.results Tryz.f30).toList 400 (zq Tryz.f30) (zp (Func.ntmps Tryz.f30) [AV.ptr 0 0] (zY zal y))=(zCM y).map (lf Tryz.f30 e0):=by kernel_rfl
def zi5 (y:zj zal):Option (zo (List.map some [zg])×zj zX):=zfE [zg] zX t0 100000000 (zCM y)
def zkX (y:zj zal):Bool:=(zi5 y).isSome
def zim (y:zj zal):(Sem zg)×zj zX:=(fun r:zo (List.map some [zg])×zj zX=>(r.1.1,r.2)) ((zi5 y).getD (zad [zg],zdv zX))
def zRv:zJ:=zk0 zal [] [zg] zX (fun y _=>zkX y) fun y _=>(((zim y).1,()),(zim y).2)
theorem zNZ:FOk zhj.P zhj.gl 30 zRv:=zgr (keep:=zKX) (gas:=400) (n:=100000000) (e:=e0) (t:=t0) (i:=fun y x=>zCM y) znl zm8 zU7 (fun y x=>zVn y) (on0 _ _ _ _ _) (fun _ _=>by kernel_rfl) (fun _ _=>by kernel_rfl)

abbrev zKH:Nat→zQ:=fun _=>{ }
theorem zSH:zF zhj.P 32 Tryz.f32 1:=by refine ⟨?_,?_,?_,?_⟩ <;> kernel_rfl
def zA2 (_:zj zal) (a0:Sem zk.sl×zj [CP.d zu,CP.d zn,CP.d zn,CP.d Sh.str,CP.d Sh.str,CP.d Sh.str,CP.d Sh.str,CP.nil,CP.d zg,CP.nil,CP.nil,CP.d Sh.expr,CP.nil,CP.d zg]) (a1:Sem zg×zj zX) (a2:Sem zh) (_:Sem zh) (a4:LC) (a5:Sem zh):Tr (Empty ⊕ Raw):=Tr.chk (ze3 a0) (Tr.br (a1.1 != 0) (Tr.re (ai a1.1) (zY zX a1.2)) (Tr.chk (inB 1 a1.2.2.2.2.2.2.2.2.2.1.length) (Tr.chk (decide (Int.toNat 1 < a1.2.2.2.2.2.2.2.2.2.1.length)) (Tr.br (a2.2.1 != 1) (Tr.re (ai 5) (zY zX a1.2)) (Tr.chk (inB 0 a1.2.2.2.2.2.2.2.2.2.1.length) (Tr.chk (decide (Int.toNat 0 < a1.2.2.2.2.2.2.2.2.2.1.length)) (Tr.chk (inB 1 a4.length) (Tr.chk (decide (Int.toNat 1 < a4.length)) (Tr.re (ai 0) (zY zX (a1.2.1,a1.2.2.1,a1.2.2.2.1,a1.2.2.2.2.1,a1.2.2.2.2.2.1,a1.2.2.2.2.2.2.1,a1.2.2.2.2.2.2.2.1,a1.2.2.2.2.2.2.2.2.1,a4.set (Int.toNat 1) (a5.1,a5.2.1,false),a1.2.2.2.2.2.2.2.2.2.2)))))))))))
def zCB (y:zj zal):Tr (Empty ⊕ Raw):=
 let a0:=zj0 y
 let a1:=zcS a0
 let a2:=a1.2.2.2.2.2.2.2.2.2.1.getD (Int.toNat 1) (zl zh)
 let a3:=a1.2.2.2.2.2.2.2.2.2.1.getD (Int.toNat 0) (zl zh)
 let a4:=a1.2.2.2.2.2.2.2.2.2.1.set (Int.toNat 0) (a3.1,a3.2.1,true)
 let a5:=a4.getD (Int.toNat 1) (zl zh)
 zA2 y a0 a1 a2 a3 a4 a5
theorem zTT (y:zj zal):run zhj 1 zKH (Func.results Tryz.f32).toList 400 (zq Tryz.f32) (zp (Func.ntmps Tryz.f32) [AV.ptr 0 0] (zY zal y))=(zCB y).map (lf Tryz.f32 e0):=by kernel_rfl
def zgI (y:zj zal):Option (zo (List.map some [zg])×zj zX):=zfE [zg] zX t0 100000000 (zCB y)
def zhA (y:zj zal):Bool:=(zgI y).isSome
def zfv (y:zj zal):(Sem zg)×zj zX:=(fun r:zo (List.map some [zg])×zj zX=>(r.1.1,r.2)) ((zgI y).getD (zad [zg],zdv zX))
def zVG:zJ:=zk0 zal [] [zg] zX (fun y _=>zhA y) fun y _=>(((zfv y).1,()),(zfv y).2)
theorem zN0:FOk zhj.P zhj.gl 32 zVG:=zgr (keep:=zKH) (gas:=400) (n:=100000000) (e:=e0) (t:=t0) (i:=fun y x=>zCB y) znl zm8 zSH (fun y x=>zTT y) (on0 _ _ _ _ _) (fun _ _=>by kernel_rfl) (fun _ _=>by kernel_rfl)

def zlh:Env:=((zhj.add 30 zRv).add 32 zVG)
theorem zst:zi zlh:=(zi.addS (zi.addS znl (zB.refl zhj) zNZ) ((zB.refl zhj).add _ _) zN0)
theorem ztp:zlh.P.follows .mixedOrders=true:=(zm (zm zm8 _ _) _ _)
end
open Go Go.Proofs
noncomputable section
set_option maxHeartbeats 4000000

abbrev zG5:Nat→zQ:=fun j=>if j=11 then { slots:=[0,83,84,85],prom:=[(0,some 60,.int .i64)] } else if j=1000000 then { prom:=[(0,some 50,zh),(0,some 60,.int .i64)],sett:=[(0,60)] } else { }
inductive zok where
 | h11 (l83:LC) (i84:Int) (i85:Int) (z0:zj zbO)
abbrev zG6:zok→Nat×St
 | .h11 l83 i84 i85 z0=>(11,⟨tm 124 [(0,AV.ptr 0 0),(83,AV.sl zh l83),(84,ai i84),(85,ai i85)],[AO.box (cpN [1,2] zbO z0),AO.vec zh z0.2.2.2.2.2.2.2.2.1,AO.vec zg z0.2.2.2.2.2.2.2.2.2.2.2.1]⟩)
theorem zSK:zF zlh.P 31 Tryz.f31 1:=by refine ⟨?_,?_,?_,?_⟩ <;> kernel_rfl
def zF0 (y:zj zal) (a0:Sem zg) (a1:Sem Sh.expr×List (Sem zg)×Sem zg×Unit) (a2:Int) (a3:Int):Tr (zok ⊕ Raw):=Tr.br (decide (a0 < 0)) (Tr.re (ai 4) (zY zX (y.1,y.2.1,y.2.2.1,y.2.2.2.1,y.2.2.2.2.1,y.2.2.2.2.2.1,y.2.2.2.2.2.2.1,y.2.2.2.2.2.2.2.1,[],y.2.2.2.2.2.2.2.2.1,a1))) (Tr.br (!zvz y.2.2.1.2.2.2.2.1 (a0,y.2.2.2.2.2.2.1)) (Tr.re (ai 10) (zY zX (y.1,y.2.1,y.2.2.1,y.2.2.2.1,y.2.2.2.2.1,y.2.2.2.2.2.1,y.2.2.2.2.2.2.1,y.2.2.2.2.2.2.2.1,[],y.2.2.2.2.2.2.2.2.1,a1))) (Tr.br (decide (a3 > 8)) (Tr.re (ai 13) (zY zX (y.1,y.2.1,y.2.2.1,y.2.2.2.1,y.2.2.2.2.1,y.2.2.2.2.2.1,y.2.2.2.2.2.2.1,y.2.2.2.2.2.2.2.1,[],y.2.2.2.2.2.2.2.2.1,a1))) (Tr.chk (decide (List.length y.2.2.1.2.1≤1073741824)) (Tr.to (zok.h11 y.2.2.2.1.2.1 a2 0 (y.1,y.2.1,y.2.2.1,y.2.2.2.1,y.2.2.2.2.1,y.2.2.2.2.2.1,y.2.2.2.2.2.2.1,y.2.2.2.2.2.2.2.1,y.2.2.1.2.1,y.2.2.1.2.2.1,a1))))))
def zxY (y:zj zal):Tr (zok ⊕ Raw):=
 let a0:=zbF (y.2.2.1.1,y.2.2.1.2.1,y.2.2.1.2.2.1,y.2.2.1.2.2.2.1,y.2.2.1.2.2.2.2.1,zz y.2.2.1.2.2.2.2.2) y.2.1.2.2.2.2.2.1
 let a1:=(y.2.2.2.2.2.2.2.2.2.1,[],a0,())
 let a2:=(↑(List.length y.2.2.2.1.2.1):Int)
 let a3:=IntKind.i64.wrap (IntKind.i64.wrap ((↑(List.length y.2.2.1.2.1):Int)+a2) - 1)
 zF0 y a0 a1 a2 a3
def zms (l83:LC) (i84:Int) (i85:Int) (z0:zj zbO) (a0:LC) (a1:Int):Tr (zok ⊕ Raw):=Tr.br (decide (i85 < i84)) (Tr.chk (inB i85 l83.length) (Tr.br (i85 != z0.2.2.2.1.2.2.1) (Tr.chk (decide (z0.2.2.2.2.2.2.2.2.2.2.2.1.length+[i85].length≤1073741824)) (Tr.chk (decide (z0.2.2.2.2.2.2.2.2.1.length+a0.length≤1073741824)) (Tr.to (zok.h11 l83 i84 a1 (z0.1,z0.2.1,z0.2.2.1,z0.2.2.2.1,z0.2.2.2.2.1,z0.2.2.2.2.2.1,z0.2.2.2.2.2.2.1,z0.2.2.2.2.2.2.2.1,z0.2.2.2.2.2.2.2.2.1++a0,z0.2.2.2.2.2.2.2.2.2.1,z0.2.2.2.2.2.2.2.2.2.2.1,z0.2.2.2.2.2.2.2.2.2.2.2.1++[i85],z0.2.2.2.2.2.2.2.2.2.2.2.2))))) (Tr.to (zok.h11 l83 i84 a1 z0)))) (Tr.re (ai 0) (zY zX z0))
def zoQ (l83:LC) (i84:Int) (i85:Int) (z0:zj zbO):Tr (zok ⊕ Raw):=
 let a0:=[l83.getD i85.toNat (zl zh)]
 let a1:=IntKind.i64.wrap (i85+1)
 zms l83 i84 i85 z0 a0 a1
theorem zRO (y:zj zal):run zlh 1 zG5 (Func.results Tryz.f31).toList 400 (zq Tryz.f31) (zp (Func.ntmps Tryz.f31) [AV.ptr 0 0] (zY zal y))=(zxY y).map (lf Tryz.f31 zG6):=by kernel_rfl
def zqB:zok→Tr (zok ⊕ Raw)
 | .h11 l83 i84 i85 z0=>zoQ l83 i84 i85 z0
theorem zSm:∀ s,run zlh 1 zG5 (Func.results Tryz.f31).toList 400 (zA Tryz.f31 (zG6 s).1) (zG6 s).2=(zqB s).map (lf Tryz.f31 zG6) | .h11 l83 i84 i85 z0=>by kernel_rfl
def ziC (y:zj zal):Option (zo (List.map some [zg])×zj zX):=zfE [zg] zX zqB 100000000 (zxY y)
def zkA (y:zj zal):Bool:=(ziC y).isSome
def zij (y:zj zal):(Sem zg)×zj zX:=(fun r:zo (List.map some [zg])×zj zX=>(r.1.1,r.2)) ((ziC y).getD (zad [zg],zdv zX))
def zUP:zJ:=zk0 zal [] [zg] zX (fun y _=>zkA y) fun y _=>(((zij y).1,()),(zij y).2)
theorem zPK:FOk zlh.P zlh.gl 31 zUP:=zgr (keep:=zG5) (gas:=400) (n:=100000000) (e:=zG6) (t:=zqB) (i:=fun y x=>zxY y) zst ztp zSK (fun y x=>zRO y) zSm (fun _ _=>by kernel_rfl) (fun _ _=>by kernel_rfl)

def znK:Env:=(zlh.add 31 zUP)
theorem zsZ:zi znK:=(zi.addS zst (zB.refl zlh) zPK)
theorem zsL:znK.P.follows .mixedOrders=true:=(zm ztp _ _)
end
open Go Go.Proofs
noncomputable section
set_option maxHeartbeats 4000000

abbrev zhc:AV:=AV.agg [AV.str [],AV.str [],AV.str [],AV.str [],AV.nils,ai 0,AV.nils,AV.nils,AV.str [],ai 0,ai 0,AV.str [],AV.str [],AV.nils,AV.nils,ai 0]
abbrev zno (z:zj zX):AV:=AV.agg [AV.str z.2.2.2.2.1,AV.str z.2.2.2.2.2.1,AV.str z.2.2.2.2.2.2.1,AV.str z.2.2.2.2.2.2.2.1,AV.vec 0,ai z.2.2.2.2.2.2.2.2.2.1,AV.nils,AV.nils,AV.str (ze.op z.2.2.2.2.2.2.2.2.2.2.1),ai (ze.v z.2.2.2.2.2.2.2.2.2.2.1).1,ai (ze.v z.2.2.2.2.2.2.2.2.2.2.1).2.1,AV.str (ze.v z.2.2.2.2.2.2.2.2.2.2.1).2.2,AV.str (ze.s z.2.2.2.2.2.2.2.2.2.2.1),AV.sl Sh.expr (ze.l z.2.2.2.2.2.2.2.2.2.2.1),AV.sl zg z.2.2.2.2.2.2.2.2.2.2.2.1,ai z.2.2.2.2.2.2.2.2.2.2.2.2.1]
abbrev ztU (z:zj zal):AV:=AV.agg [AV.str z.2.2.2.2.1,AV.str z.2.2.2.2.2.1,AV.str z.2.2.2.2.2.2.1,AV.str z.2.2.2.2.2.2.2.1,AV.nils,ai z.2.2.2.2.2.2.2.2.1,AV.nils,AV.nils,AV.str (ze.op z.2.2.2.2.2.2.2.2.2.1),ai (ze.v z.2.2.2.2.2.2.2.2.2.1).1,ai (ze.v z.2.2.2.2.2.2.2.2.2.1).2.1,AV.str (ze.v z.2.2.2.2.2.2.2.2.2.1).2.2,AV.str (ze.s z.2.2.2.2.2.2.2.2.2.1),AV.sl Sh.expr (ze.l z.2.2.2.2.2.2.2.2.2.1),AV.nils,ai z.2.2.2.2.2.2.2.2.2.2.1]

abbrev zK7:Nat→zQ:=fun _=>{ }
theorem zTq:zF znK.P 11 Tryz.f11 2:=by refine ⟨?_,?_,?_,?_⟩ <;> kernel_rfl
def zw2 (_:Sem zk.sl) (x1:Sem zu) (_:ze) (_:Sem Sh.str×Sem (Sh.str.pr (Sh.str.pr (Sh.str.sl.pr (zh.sl.pr (Sh.str.pr (Sh.str.sl.pr (zaT.sl.pr (Sh.expr.pr (zf.sl.pr (zan.sl.pr (Sh.expr.pr Sh.str)))))))))))) (_:Bool) (a3:Bool) (a4:Bool) (a5:Bool) (_:Sem zk.sl×zj [CP.d zu,CP.d zn,CP.d zn,CP.d Sh.str,CP.d Sh.str,CP.d Sh.str,CP.d Sh.str,CP.nil,CP.d zg,CP.nil,CP.nil,CP.d Sh.expr,CP.nil,CP.d zg]) (a7:Bool) (a8:Sem zg×zj zal) (a9:Bool) (a10:Sem zk.sl×zj [CP.d zu,CP.d zn,CP.d zn,CP.d Sh.str,CP.d Sh.str,CP.d Sh.str,CP.d Sh.str,CP.nil,CP.d zg,CP.nil,CP.nil,CP.d Sh.expr,CP.nil,CP.d zg]) (a11:Sem zg×zj zX) (a12:Sem zk.sl×zj [CP.d zu,CP.d zn,CP.d zn,CP.d Sh.str,CP.d Sh.str,CP.d Sh.str,CP.d Sh.str,CP.vec zh,CP.d zg,CP.nil,CP.nil,CP.d Sh.expr,CP.d zg.sl,CP.d zg]) (a13:Sem zg×zj zX) (a14:Sem zg×zj zX) (a15:Sem zk.sl×zj [CP.d zu,CP.d zn,CP.d zn,CP.d Sh.str,CP.d Sh.str,CP.d Sh.str,CP.d Sh.str,CP.vec zh,CP.d zg,CP.nil,CP.nil,CP.d Sh.expr,CP.d zg.sl,CP.d zg]) (a16:Sem zg×zj zX) (a17:Sem zg×zj zX) (a18:Sem zk.sl×zj [CP.d zu,CP.d zn,CP.d zn,CP.d Sh.str,CP.d Sh.str,CP.d Sh.str,CP.d Sh.str,CP.vec zh,CP.d zg,CP.nil,CP.nil,CP.d Sh.expr,CP.d zg.sl,CP.d zg]) (a19:Sem zg×zj zX):Tr (Empty ⊕ Raw):=
 Tr.chk true (Tr.chk true (Tr.chk true (Tr.br (x1.1==[99,111,112,121]) (Tr.chk a3 (Tr.br a4 (Tr.re (AV.tup [zhc,ai 1]) []) (Tr.chk a5 (Tr.chk a7 (Tr.br a9 (Tr.chk (zkX a10) (Tr.br (a11.1==0) (Tr.chk (zcq a12) (Tr.br (a13.1 != 0) (Tr.re (AV.tup [zhc,ai a13.1]) []) (Tr.re (AV.tup [(zno a13.2),ai 0]) [AO.vec zh a13.2.2.2.2.2.2.2.2.2.1]))) (Tr.br (a11.1 != 0) (Tr.re (AV.tup [zhc,ai a11.1]) []) (Tr.re (AV.tup [(zno a11.2),ai 0]) [AO.vec zh a11.2.2.2.2.2.2.2.2.2.1])))) (Tr.br a9 Tr.err (Tr.br (a8.1 != 0) (Tr.re (AV.tup [zhc,ai a8.1]) []) (Tr.re (AV.tup [(ztU a8.2),ai 0]) [])))))))) (Tr.br (x1.1==[106,111,105,110]) (Tr.chk a3 (Tr.br a4 (Tr.re (AV.tup [zhc,ai 1]) []) (Tr.chk a5 (Tr.chk a7 (Tr.br a9 (Tr.chk (zkA a10) (Tr.br (a14.1==0) (Tr.chk (zcq a15) (Tr.br (a16.1 != 0) (Tr.re (AV.tup [zhc,ai a16.1]) []) (Tr.re (AV.tup [(zno a16.2),ai 0]) [AO.vec zh a16.2.2.2.2.2.2.2.2.2.1]))) (Tr.br (a14.1 != 0) (Tr.re (AV.tup [zhc,ai a14.1]) []) (Tr.re (AV.tup [(zno a14.2),ai 0]) [AO.vec zh a14.2.2.2.2.2.2.2.2.2.1])))) (Tr.br a9 Tr.err (Tr.br (a8.1 != 0) (Tr.re (AV.tup [zhc,ai a8.1]) []) (Tr.re (AV.tup [(ztU a8.2),ai 0]) []))))))))
 (Tr.br (x1.1==[103,114,111,117,112]) (Tr.chk a3 (Tr.br a4 (Tr.re (AV.tup [zhc,ai 1]) []) (Tr.chk a5 (Tr.chk a7 (Tr.br a9 (Tr.chk (zhA a10) (Tr.br (a17.1==0) (Tr.chk (zcq a18) (Tr.br (a19.1 != 0) (Tr.re (AV.tup [zhc,ai a19.1]) []) (Tr.re (AV.tup [(zno a19.2),ai 0]) [AO.vec zh a19.2.2.2.2.2.2.2.2.2.1]))) (Tr.br (a17.1 != 0) (Tr.re (AV.tup [zhc,ai a17.1]) []) (Tr.re (AV.tup [(zno a17.2),ai 0]) [AO.vec zh a17.2.2.2.2.2.2.2.2.2.1])))) (Tr.br a9 Tr.err (Tr.br (a8.1 != 0) (Tr.re (AV.tup [zhc,ai a8.1]) []) (Tr.re (AV.tup [(ztU a8.2),ai 0]) [])))))))) (Tr.re (AV.tup [zhc,ai 1]) []))))))
def zyO (x0:Sem zk.sl) (x1:Sem zu):Tr (Empty ⊕ Raw):=
 let a0:=zz x1.2.2.2.2.2.2.2.2.1
 let a1:=(x1.1,x1.2.1,x1.2.2.1,x1.2.2.2.1,x1.2.2.2.2.1,x1.2.2.2.2.2.1,x1.2.2.2.2.2.2.1,x1.2.2.2.2.2.2.2.1,a0,x1.2.2.2.2.2.2.2.2.2.1,x1.2.2.2.2.2.2.2.2.2.2.1,zz x1.2.2.2.2.2.2.2.2.2.2.2.1,x1.2.2.2.2.2.2.2.2.2.2.2.2)
 let a2 := !zfd a1
 let a3:=zhY a1&&bif a2 then true else ze2 x0
 let a4:=bif a2 then true else zf3 x0 != 0
 let a5:=cpC 16 a0
 let a6:=(x0,a1,([],[],0,[],[],ze.mk [] (0,0,[]) [] []),([],[],0,[],[],ze.mk [] (0,0,[]) [] []),x1.1,x1.2.2.1,x1.2.2.2.2.2.2.2.2.2.2.2.2,x1.2.1,0,a0,0,())
 let a7:=zd0 a6
 let a8:=zde a6
 let a9:=a8.1==0
 let a10:=zj0 a8.2
 let a11:=zim a10
 let a12:=zBm a11.2
 let a13:=zbX a12
 let a14:=zij a10
 let a15:=zBm a14.2
 let a16:=zbX a15
 let a17:=zfv a10
 let a18:=zBm a17.2
 let a19:=zbX a18
 zw2 x0 x1 a0 a1 a2 a3 a4 a5 a6 a7 a8 a9 a10 a11 a12 a13 a14 a15 a16 a17 a18 a19
theorem zSf (x0:Sem zk.sl) (x1:Sem zu):run znK 0 zK7 (Func.results Tryz.f11).toList 400 (zq Tryz.f11) (zp (Func.ntmps Tryz.f11) [zx zk.sl x0,zx zu x1] [])=(zyO x0 x1).map (lf Tryz.f11 e0):=by kernel_rfl
def zsb (x0:Sem zk.sl) (x1:Sem zu):Option (zo (List.map some [zas,zg])):=zaj [zas,zg] t0 100000000 (zyO x0 x1)
def zyw (x0:Sem zk.sl) (x1:Sem zu):Bool:=(zsb x0 x1).isSome
def pOf (x0:Sem zk.sl) (x1:Sem zu):Sem zas×Sem zg:=(fun r:zo (List.map some [zas,zg])=>(r.1,r.2.1)) ((zsb x0 x1).getD (zad [zas,zg]))
def zQT:zJ:=zG [zk.sl,zu] [zas,zg] (fun x=>zyw x.1 x.2.1) fun x=>((pOf x.1 x.2.1).1,(pOf x.1 x.2.1).2,())
theorem zMS:FOk znK.P znK.gl 11 zQT:=zae (ks:=[zk.sl,zu]) (outs:=[zas,zg]) (keep:=zK7) (gas:=400) (n:=100000000) (e:=e0) (t:=t0) (i:=fun x=>zyO x.1 x.2.1) zsZ zsL zTq (fun x=>zSf x.1 x.2.1) (on0 _ _ _ _ _) (fun _=>by kernel_rfl) (fun _=>by kernel_rfl)

def zb0:Env:=(znK.add 11 zQT)
theorem zfS:zi zb0:=(zi.addS zsZ (zB.refl znK) zMS)
theorem zfR:zb0.P.follows .mixedOrders=true:=(zm zsL _ _)
end
open Go Go.Proofs

theorem gi {c g:Bool} (h1:c=true) (h2:g=true):(if c=true then g else false)=true:=by rw [if_pos h1]; exact h2
theorem zaw {a b:Nat} (h:a≤b):decide (a≤b)=true:=decide_eq_true h

theorem ztc {v:Sem zf} (h:zbj v=true) (h2:(v.1==2)=true):v.2.2.length≤40:=by
 have e:v.1=2:=by simpa using h2
 unfold zbj at h
 rw [e] at h
 simp only [show ((2:Int)==0)=false from rfl,show ((2:Int)==1)=false from rfl,show ((2:Int)==2)=true from rfl,Bool.false_eq_true,if_false,if_true] at h
 cases h1:v.2.1==0
 ·rw [h1] at h; simp at h
 ·rw [h1] at h
  cases h3:decide ((v.2.2.length:Int)≤40)
  ·rw [h3] at h; simp at h
  ·have:=of_decide_eq_true h3
   omega

theorem zob (v:Sem zf):zhI v=true:=by
 unfold zhI
 split
 ·rfl
 ·rename_i hm
  have hm:zbj v=true:=by simpa using hm
  split
  ·rfl
  ·split
   ·rename_i h2
    have hl:=ztc hm h2
    have hr:=zgi v.2.2 [39] [39,39]
    have hr2:(Lib.replaceAll v.2.2 [39] [39,39]).length≤200:=by
     simp only [List.length_cons,List.length_nil] at hr
     omega
    refine gi ?_ (gi (zaw ?_) (gi (zaw ?_) rfl))
    ·unfold zlY
     simp
     omega
    ·simp; omega
    ·simp; omega
   ·rfl

theorem zmW (v:Sem zf):(zfx v).length≤300:=by
 unfold zfx
 split
 ·simp
 ·rename_i hm
  have hm:zbj v=true:=by simpa using hm
  split
  ·have:=zsF v.2.1
   omega
  ·split
   ·rename_i h2
    have hl:=ztc hm h2
    have hr:=zgi v.2.2 [39] [39,39]
    simp only [List.length_cons,List.length_nil] at hr
    simp
    omega
   ·split
    ·split <;> simp
    ·simp

theorem zBP {s:Str} (h:zcf s=true):s.length≤16:=by
 have h:ziZ s=true:=h
 unfold ziZ at h
 by_cases h2:(s.length:Int)≤16
 ·omega
 ·exfalso
  rw [decide_eq_false h2] at h
  cases h1:decide ((s.length:Int) ≥ 1) <;> rw [h1] at h <;> simp at h

theorem zFH {g:ze→Int→Int→Bool×Int} {e:ze} {d n:Int} (h:(zoi g e d n).1=true) (hc:e.op=[99,111,108]):e.s.length≤16:=by
 unfold zoi at h
 split at h
 ·cases h
 ·split at h
  ·rename_i h1; rw [hc] at h1; simp at h1
  ·split at h
   ·cases h1:zax e.v
    ·rw [h1] at h; simp at h
    ·rw [h1] at h
     cases h2:zcf e.s
     ·rw [h2] at h; simp at h
     ·exact zBP h2
   ·rename_i h1; rw [hc] at h1; simp at h1

theorem zcF (s:Str):(Lib.toUpperA s).length=s.length:=by simp [Lib.toUpperA]

theorem zpu:∀ (N:Nat) (e:ze) (d n:Int),N≤16→(zeb N e d n).1=true→ze9 N e=true∧(zeB N e).length≤400 * 2 ^ N - 100
 | 0,_,_,_,_,h=>by cases h
 | N + 1,e,d,n,hN,h=>by
  rw [zeb] at h
  obtain ⟨hl,h2⟩:=znn h
  have hp:2 ^ N≤2 ^ 15:=Nat.pow_le_pow_right (by omega) (by omega)
  have hp1:1≤2 ^ N:=Nat.one_le_two_pow
  have hpp:2 ^ (N+1)=2 * 2 ^ N:=by rw [Nat.pow_succ]; omega
  have hparts:∀ x∈e.l,ze9 N x=true∧(zeB N x).length≤400 * 2 ^ N - 100:=by
   intro x hx
   rcases h2 with h2 | h2
   ·exfalso
    have:zbn e.op=0:=by
     rcases h2 with h2 | h2 <;> rw [h2] <;> decide
    rw [this] at hl
    have:e.l=[]:=List.eq_nil_of_length_eq_zero (by omega)
    rw [this] at hx; simp at hx
   ·obtain ⟨m,hm⟩:=zlv e.l _ h2 x hx
    exact zpu N x _ _ (by omega) hm
  have hget:∀ i,i < e.l.length→e.l.getD i (zl Sh.expr)∈e.l:=by
   intro i hi
   rw [List.getD_eq_getElem?_getD,List.getElem?_eq_getElem hi]
   exact List.getElem_mem hi
  rw [ze9,zeB]
  unfold zpa zrp
  rcases zgF e.op with ⟨hp0,hop | hop⟩ | ⟨hp0,hop | hop⟩ | ⟨hp0,hop⟩ | hp0
  ·rw [hop]
   simp only [beq_self_eq_true,if_true]
   refine ⟨gi (zob _) rfl,?_⟩
   have:=zmW e.v
   omega
  ·have hs:=zFH h hop
   rw [hop]
   refine ⟨rfl,?_⟩
   show e.s.length≤_
   omega
  ·rw [hp0] at hl
   have hlen:e.l.length=1:=by omega
   obtain ⟨k1,k2⟩:=hparts _ (hget 0 (by omega))
   rw [hop]
   refine ⟨gi ?_ (gi k1 (gi (zaw ?_) (gi (zaw ?_) rfl))),?_⟩
   ·simp [inB,hlen]
   ·simp at k2 ⊢; omega
   ·simp at k2 ⊢; omega
   ·show ([40,78,79,84,32]++zeB N (e.l.getD 0 (zl Sh.expr))++[41]).length≤_
    simp at k2 ⊢; omega
  ·rw [hp0] at hl
   have hlen:e.l.length=1:=by omega
   obtain ⟨k1,k2⟩:=hparts _ (hget 0 (by omega))
   rw [hop]
   refine ⟨gi ?_ (gi k1 (gi (zaw ?_) (gi (zaw ?_) rfl))),?_⟩
   ·simp [inB,hlen]
   ·simp at k2 ⊢; omega
   ·simp at k2 ⊢; omega
   ·show ([40]++zeB N (e.l.getD 0 (zl Sh.expr))++[32,73,83,32,78,85,76,76,41]).length≤_
    simp at k2 ⊢; omega
  ·rw [hp0] at hl
   have hlen:e.l.length=2:=by omega
   obtain ⟨k1,k2⟩:=hparts _ (hget 0 (by omega))
   obtain ⟨k3,k4⟩:=hparts _ (hget 1 (by omega))
   have hu:(decide (e.op.length≤140737488355328)&&e.op.all fun b=>decide (b.toNat < 128))=true:=by
    rcases hop with hop | hop | hop | hop | hop | hop <;> rw [hop] <;> decide
   have hol:e.op.length≤3:=by
    rcases hop with hop | hop | hop | hop | hop | hop <;> rw [hop] <;> simp
   have hul:=zcF e.op
   have n1:(e.op==[108,105,116])=false:=by rcases hop with hop | hop | hop | hop | hop | hop <;> rw [hop] <;> rfl
   have n2:(e.op==[99,111,108])=false:=by rcases hop with hop | hop | hop | hop | hop | hop <;> rw [hop] <;> rfl
   have n3:(e.op==[110,111,116])=false:=by rcases hop with hop | hop | hop | hop | hop | hop <;> rw [hop] <;> rfl
   have n4:(e.op==[110,117,108,108])=false:=by rcases hop with hop | hop | hop | hop | hop | hop <;> rw [hop] <;> rfl
   simp only [n1,n2,n3,n4,Bool.false_eq_true,if_false]
   refine ⟨gi ?_ (gi k1 (gi (zaw ?_) (gi (zaw ?_) (gi hu (gi (zaw ?_) (gi (zaw ?_) (gi ?_ (gi k3 (gi (zaw ?_) (gi (zaw ?_) rfl)))))))))),?_⟩
   ·simp [inB,hlen]
   all_goals first
    | (simp [inB,hlen]; done)
    | (simp at k2 k4 ⊢; omega)
  ·rw [hp0] at hl
   omega

theorem zt2 (e:ze):zjj e=true:=by
 unfold zjj
 split
 ·rfl
 ·rename_i h
  exact gi (zpu 16 e 1 0 (by omega) (by simpa [zc1] using h)).1 rfl

theorem zy4 (e:ze):(ziL e).1.length≤30000000:=by
 unfold ziL
 split
 ·simp
 ·rename_i h
  have:=(zpu 16 e 1 0 (by omega) (by simpa [zc1] using h)).2
  show (zeB 16 e).length≤_
  omega

open Go Go.Proofs

theorem zBG (p:Int→Bool):∀ s:Str,zhx p s≤s.length
 | []=>by simp [zhx]
 | c::r=>by
  have:=zBG p r
  rw [zhx]
  split <;> simp <;> omega
theorem zjw (f m:Int→Bool) (s:Str):zaA f m s≤s.length:=by
 cases s with
 | nil=>simp [zaA]
 | cons c r=>
  have:=zBG m r
  rw [zaA]
  split <;> simp <;> omega

theorem zSk (i:Nat) (h:i≤4000000000):IntKind.i64.wrap (i:Int)=(i:Int):=by
 have:=zH (i - 1) (by unfold zI; omega)
 cases i with
 | zero=>rfl
 | succ i=>simpa using this

theorem zqO (i:Nat) (h:i≤4000000000):IntKind.i64.wrap ((i:Int)+1)=((i+1:Nat):Int):=zH i (by unfold zI; omega)

theorem zhM:∀ (n:Nat) (s:Str) (i:Nat) (a:Int) (b:Str),1≤i→i≤s.length→s.length+2≤n+i→s.length≤1000000000→zeV n s (i:Int) a b=true
 | 0,s,i,a,b,h1,h2,h3,h4=>by omega
 | n + 1,s,i,a,b,h1,h2,h3,h4=>by
  rw [zeV]
  split
  ·rename_i hlt
   have hlt:i < s.length:=by have:=of_decide_eq_true hlt; omega
   refine gi (zK hlt) ?_
   rw [zqO i (by omega)]
   split
   ·exact zhM n s (i+1) a b (by omega) (by omega) (by omega) h4
   ·refine gi ?_ ?_
    ·cases hd:decide (((i+1:Nat):Int) < (s.length:Int))
     ·rfl
     ·exact zK (by have:=of_decide_eq_true hd; omega)
    ·split
     ·rename_i hh
      have h5:i+1 < s.length:=by
       cases hd:decide (((i+1:Nat):Int) < (s.length:Int))
       ·rw [hd] at hh; simp at hh
       ·have:=of_decide_eq_true hd; omega
      rw [zqO (i+1) (by omega)]
      exact zhM n s (i+1+1) a b (by omega) (by omega) (by omega) h4
     ·refine gi ?_ (gi ?_ rfl)
      ·simp; omega
      ·unfold zlY
       simp
       omega
  ·rfl

theorem zkU:∀ (n:Nat) (s:Str) (i:Nat) (a:Int) (b:Str),1≤i→i≤s.length→s.length+2≤n+i→s.length≤1000000000→
  (zdJ n s (i:Int) a b=((0,[]),0))∨∃ k:Nat,(zdJ n s (i:Int) a b).2=(k:Int)∧1≤k∧k≤s.length
 | 0,s,i,a,b,h1,h2,h3,h4=>by omega
 | n + 1,s,i,a,b,h1,h2,h3,h4=>by
  rw [zdJ]
  split
  ·rename_i hlt
   have hlt:i < s.length:=by have:=of_decide_eq_true hlt; omega
   rw [zqO i (by omega)]
   split
   ·exact zkU n s (i+1) a b (by omega) (by omega) (by omega) h4
   ·split
    ·rename_i hh
     have h5:i+1 < s.length:=by
      cases hd:decide (((i+1:Nat):Int) < (s.length:Int))
      ·rw [hd] at hh; simp at hh
      ·have:=of_decide_eq_true hd; omega
     rw [zqO (i+1) (by omega)]
     exact zkU n s (i+1+1) a b (by omega) (by omega) (by omega) h4
    ·exact .inr ⟨i+1,rfl,by omega,by omega⟩
  ·exact .inl rfl

theorem zuP (t:Sem zdx):zjq t=true:=by
 unfold zjq
 split
 ·rfl
 ·split
  ·refine gi ?_ rfl
   cases h:((t.2.length:Int)==1)
   ·rfl
   ·have:(t.2.length:Int)=1:=by simpa using h
    simp only [cond_true,beq_iff_eq]
    omega
  ·simp

theorem zqc (s:Str) (h0:s≠[]) (h1:s.length≤1000000000):zfV s=true:=by
 have hl:1≤s.length:=by cases s with | nil=>exact absurd rfl h0 | cons _ _=>simp
 have r1:=zjw zaE zbd s
 have r2:=zjw zaq zaq s
 have hq:zfz s=true:=zhM (s.length+1) s 1 _ _ (by omega) hl (by omega) h1
 have hb:inB 0 s.length=true:=zK hl
 have d1:(decide ((0:Int)≤0)&&decide (0≤(↑(zaA zaE zbd s):Int))&&decide ((↑(zaA zaE zbd s):Int)≤(↑(List.length s):Int)))=true:=by simp; omega
 have d2:(decide ((0:Int)≤0)&&decide (0≤(↑(zaA zaq zaq s):Int))&&decide ((↑(zaA zaq zaq s):Int)≤(↑(List.length s):Int)))=true:=by simp; omega
 have d3:(decide ((0:Int)≤0)&&decide ((0:Int)≤1)&&decide (1≤(↑(List.length s):Int)))=true:=by simp; omega
 unfold zfV
 simp only [hq,hb,if_true,Bool.false_eq_true,if_false]
 repeat' split
 all_goals first
  | rfl
  | (rename_i h; exfalso; apply h; simp; omega)

theorem zul (s:Str) (h0:s≠[]) (h1:s.length≤1000000000) (hm:zia (zaX s).1=true):∃ k:Nat,(zaX s).2=(k:Int)∧1≤k∧k≤s.length:=by
 have hl:1≤s.length:=by cases s with | nil=>exact absurd rfl h0 | cons _ _=>simp
 have r1:=zjw zaE zbd s
 have r2:=zjw zaq zaq s
 have hq:=zkU (s.length+1) s 1 0 [] (by omega) hl (by omega) h1
 unfold zaX at hm ⊢
 simp only [if_true,Bool.false_eq_true,if_false] at hm ⊢
 split
 ·rename_i h
  have:=of_decide_eq_true h
  exact ⟨_,rfl,by omega,by omega⟩
 ·rename_i h
  rw [if_neg h] at hm
  split
  ·rename_i h2
   have:=of_decide_eq_true h2
   exact ⟨_,rfl,by omega,by omega⟩
  ·rename_i h2
   rw [if_neg h2] at hm
   split
   ·rename_i h3
    rw [if_pos h3] at hm
    rcases hq with hq | ⟨k,hk,hk1,hk2⟩
    ·exfalso
     have hqq:zcn s=((0,[]),0):=hq
     rw [hqq] at hm
     revert hm
     decide
    ·exact ⟨k,hk,hk1,hk2⟩
   ·exact ⟨1,rfl,by omega,by omega⟩

theorem zmK:∀ (n:Nat) (s:Str) (i:Nat) (l:List (Sem zt)),i≤s.length→s.length+1≤n+i→s.length≤1000000000→l.length≤400→zkY n s (i:Int) l=true
 | 0,s,i,l,h1,h2,h3,h4=>by omega
 | n + 1,s,i,l,h1,h2,h3,h4=>by
  rw [zkY]
  split
  ·rename_i hlt
   have hlt:i < s.length:=by have:=of_decide_eq_true hlt; omega
   have e1:List.take ((s.length:Int).toNat - (i:Int).toNat) (List.drop (i:Int).toNat s)=s.drop i:=by
    simp only [Int.toNat_natCast]
    exact List.take_of_length_le (by simp)
   rw [e1]
   refine gi ?_ ?_
   ·rw [zK hlt]
    cases (((s.getD (i:Int).toNat 0).toNat:Int)==32) <;> rfl
   ·split
    ·rw [zqO i (by omega)]
     exact zmK n s (i+1) l (by omega) (by omega) h3 h4
    ·have hne:s.drop i≠[]:=by
      intro h
      have:=congrArg List.length h
      simp at this
      omega
     have hdl:(s.drop i).length≤1000000000:=by simp; omega
     refine gi ?_ (gi (zqc _ hne hdl) (gi (zuP _) ?_))
     ·simp; omega
     ·split
      ·rfl
      ·rename_i hh
       have hm:zia (zaX (s.drop i)).1=true:=by
        cases hq:zia (zaX (s.drop i)).1
        ·rw [hq] at hh; simp at hh
        ·rfl
       have hl4:l.length≠400:=by
        intro h5
        rw [hm,h5] at hh
        simp at hh
       obtain ⟨k,hk,hk1,hk2⟩:=zul _ hne hdl hm
       have hk3:k≤s.length - i:=by simpa using hk2
       refine gi (zaw ?_) ?_
       ·simp; omega
       ·rw [hk,show ((i:Int)+(k:Int))=((i+k:Nat):Int) by omega,zSk (i+k) (by omega)]
        exact zmK n s (i+k) _ (by omega) (by omega) h3 (by simp; omega)
  ·rfl

theorem zGv (s:Str) (h:s.length≤1000000000):zFQ s=true:=zmK (s.length+1) s 0 [] (by omega) (by omega) h (by simp)
open Go Go.Proofs
set_option maxHeartbeats 4000000

structure zqq (s:Sem zu):Prop where
 op:s.1.length≤1000
 table:s.2.1.length≤1000
 other:s.2.2.1.length≤1000
 names:s.2.2.2.1.length≤20∧∀ x∈s.2.2.2.1,List.length x≤1000
 cols:s.2.2.2.2.1.length≤20∧∀ x∈s.2.2.2.2.1,List.length x.1≤1000
 key:s.2.2.2.2.2.1.length≤1000
 uniques:s.2.2.2.2.2.2.1.length≤20∧∀ x∈s.2.2.2.2.2.2.1,List.length x≤1000
 refs:s.2.2.2.2.2.2.2.1.length≤20∧∀ x∈s.2.2.2.2.2.2.2.1,List.length x.1≤1000∧List.length x.2≤1000
 row:s.2.2.2.2.2.2.2.2.2.1.length≤20
 sets:s.2.2.2.2.2.2.2.2.2.2.1.length≤20∧∀ x∈s.2.2.2.2.2.2.2.2.2.2.1,List.length x.1≤1000
 role:s.2.2.2.2.2.2.2.2.2.2.2.2.length≤1000

theorem zeo (sep:Str) (B:Nat):∀ l:List Str,(∀ x∈l,x.length≤B)→(Lib.join l sep).length≤l.length * (B+sep.length)
 | [],_=>by simp [Lib.join,List.intercalate]
 | [x],h=>by
  rw [Lib.join_one]
  have:=h x (by simp)
  simp
  omega
 | x::y::r,h=>by
  have ih:=zeo sep B (y::r) (fun z hz=>h z (List.mem_cons_of_mem _ hz))
  have hx:=h x (by simp)
  have e:Lib.join (x::y::r) sep=x++sep++Lib.join (y::r) sep:=by simp [Lib.join,List.intercalate,List.intersperse]
  rw [e]
  simp only [List.length_append,List.length_cons] at ih ⊢
  rw [Nat.succ_mul]
  omega

theorem znV {α:Type} (p:α→Bool):∀ (l:List α) (i:Nat),(!decide (zaa p l i ≥ 0))=true→∀ x∈l,p x=false
 | [],_,_,x,hx=>by simp at hx
 | y::r,i,h,x,hx=>by
  rw [zaa] at h
  cases hy:p y
  ·rw [hy] at h
   rcases List.mem_cons.1 hx with rfl | hx
   ·exact hy
   ·exact znV p r (i+1) (by simpa using h) x hx
  ·exfalso
   rw [hy] at h
   simp at h
   try omega

theorem zgV (e:ze):zed e=true:=gi (zt2 e) rfl
theorem zd1 (e:ze):(zbZ e).length≤30000000:=zy4 e
theorem ziz (e:ze):zpk e=true:=by
 unfold zpk
 have:=zd1 e
 split
 ·rfl
 ·refine gi (zgV e) (gi (zaw ?_) rfl)
  simp; omega
theorem zBS (e:ze):(zsC e).length≤30000010:=by
 unfold zsC
 have:=zd1 e
 split
 ·simp
 ·simp; omega
theorem zfJ (s:Str) (h:s.length≤10) (e:ze):zhE s e=true:=by
 unfold zhE
 have:=zd1 e
 split
 ·rfl
 ·refine gi (zaw ?_) (gi (zgV e) (gi (zaw ?_) (gi (zaw ?_) rfl)))
  all_goals (simp; omega)
theorem zpU (s:Str) (h:s.length≤10) (e:ze):(zfu s e).length≤30000030:=by
 unfold zfu
 have:=zd1 e
 split
 ·simp
 ·simp; omega
theorem zr5 (x:Sem zan) (h:List.length x.1≤1000):zf4 x=true:=by
 unfold zf4
 have:=zd1 x.2
 refine gi (zaw ?_) (gi (zgV _) (gi (zaw ?_) rfl))
 all_goals (simp; omega)
theorem znS (x:Sem zan) (h:List.length x.1≤1000):(zc0 x).length≤30001010:=by
 unfold zc0
 have:=zd1 x.2
 simp; omega
theorem zsd (x:Sem zh) (h:List.length x.1≤1000) (h1:(1:Int)≤x.2.1) (h2:LE.le (α:=Int) x.2.1 3):zfl x=true:=by
 obtain ⟨nm,ty,nn⟩:=x
 replace h:nm.length≤1000:=h
 replace h1:LE.le (α:=Int) 1 ty:=h1
 replace h2:LE.le (α:=Int) ty 3:=h2
 have hw:IntKind.i64.wrap (ty - 1)=ty - 1:=zhJ _ (by omega) (by omega)
 have hin:inB (ty - 1) 3=true:=by simp [inB]; omega
 unfold zfl
 simp only [hw,hin,Bool.cond_eq_ite]
 repeat' split
 all_goals first
  | rfl
  | (rename_i hf; exfalso; apply hf; simp; omega)
  | (rename_i hf _; exfalso; apply hf; simp; omega)
  | (exfalso; simp_all; omega)
theorem zv7 (x:Sem zh) (h:List.length x.1≤1000):(zcC x).length≤1100:=by
 unfold zcC
 simp only [Bool.cond_eq_ite]
 repeat' split
 all_goals (simp; omega)

theorem zn9:∀ (l:List (Sem zh)) (i:Int) (acc:List Str),zbU l i acc=Lib.join (acc++l.map zcC) [32,44,32]
 | [],i,acc=>by simp [zbU]
 | x::r,i,acc=>by rw [zbU,zn9 r]; simp
theorem zvF (B:Nat) (l:List (Sem zh)) (h:∀ x∈l,(zcC x).length≤B):(zcr l).length≤l.length * (B+3):=by
 unfold zcr
 rw [zn9]
 have:=zeo [32,44,32] B ([]++l.map zcC) (fun y hy=>by
  simp only [List.nil_append,List.mem_map] at hy
  obtain ⟨x,hx,rfl⟩:=hy
  exact h x hx)
 simpa using this
theorem zmz (B:Nat) (hB:B≤100000000):∀ (l:List (Sem zh)) (i:Int) (acc:List Str),(∀ x∈l,zfl x=true∧(zcC x).length≤B)→(∀ x∈acc,x.length≤B)→acc.length+l.length≤40→zb4 l i acc=true
 | [],i,acc,_,ha,hl=>by
  rw [zb4]
  refine gi ?_ rfl
  have h1:=zeo [32,44,32] B acc ha
  have h2:acc.length * (B+3)≤40 * 100000003:=Nat.mul_le_mul (by simpa using hl) (by omega)
  replace h1:(Lib.join acc [32,44,32]).length≤acc.length * (B+3):=h1
  simp only [Bool.and_eq_true,decide_eq_true_eq]
  simp at hl
  exact ⟨by omega,by omega⟩
 | x::r,i,acc,h,ha,hl=>by
  rw [zb4]
  have hx:=h x (by simp)
  simp at hl
  refine gi hx.1 (gi (zaw ?_) ?_)
  ·simp; omega
  ·refine zmz B hB r (i+1) _ (fun y hy=>h y (List.mem_cons_of_mem _ hy)) (fun y hy=>?_) (by simp; omega)
   rcases List.mem_append.1 hy with hy | hy
   ·exact ha y hy
   ·simp at hy; subst hy; exact hx.2

theorem znY:∀ (l:List (Sem Sh.str)) (i:Int) (acc:List Str),zbR l i acc=Lib.join (acc++l.map zig) [32,44,32]
 | [],i,acc=>by simp [zbR]
 | x::r,i,acc=>by rw [zbR,znY r]; simp
theorem zuA (B:Nat) (l:List (Sem Sh.str)) (h:∀ x∈l,(zig x).length≤B):(zhl l).length≤l.length * (B+3):=by
 unfold zhl
 rw [znY]
 have:=zeo [32,44,32] B ([]++l.map zig) (fun y hy=>by
  simp only [List.nil_append,List.mem_map] at hy
  obtain ⟨x,hx,rfl⟩:=hy
  exact h x hx)
 simpa using this
theorem zmC (B:Nat) (hB:B≤100000000):∀ (l:List (Sem Sh.str)) (i:Int) (acc:List Str),(∀ x∈l,(zig x).length≤B)→(∀ x∈acc,x.length≤B)→acc.length+l.length≤40→zcd l i acc=true
 | [],i,acc,_,ha,hl=>by
  rw [zcd]
  refine gi ?_ rfl
  have h1:=zeo [32,44,32] B acc ha
  have h2:acc.length * (B+3)≤40 * 100000003:=Nat.mul_le_mul (by simpa using hl) (by omega)
  replace h1:(Lib.join acc [32,44,32]).length≤acc.length * (B+3):=h1
  simp only [Bool.and_eq_true,decide_eq_true_eq]
  simp at hl
  exact ⟨by omega,by omega⟩
 | x::r,i,acc,h,ha,hl=>by
  rw [zcd]
  have hx:=h x (by simp)
  simp at hl
  refine gi (zaw ?_) ?_
  ·simp; omega
  ·refine zmC B hB r (i+1) _ (fun y hy=>h y (List.mem_cons_of_mem _ hy)) (fun y hy=>?_) (by simp; omega)
   rcases List.mem_append.1 hy with hy | hy
   ·exact ha y hy
   ·simp at hy; subst hy; exact hx

theorem znQ:∀ (l:List (Sem zf)) (i:Int) (acc:List Str),zbW l i acc=Lib.join (acc++l.map zfx) [32,44,32]
 | [],i,acc=>by simp [zbW]
 | x::r,i,acc=>by rw [zbW,znQ r]; simp
theorem zub (B:Nat) (l:List (Sem zf)) (h:∀ x∈l,(zfx x).length≤B):(zg6 l).length≤l.length * (B+3):=by
 unfold zg6
 rw [znQ]
 have:=zeo [32,44,32] B ([]++l.map zfx) (fun y hy=>by
  simp only [List.nil_append,List.mem_map] at hy
  obtain ⟨x,hx,rfl⟩:=hy
  exact h x hx)
 simpa using this
theorem zlq (B:Nat) (hB:B≤100000000):∀ (l:List (Sem zf)) (i:Int) (acc:List Str),(∀ x∈l,zhI x=true∧(zfx x).length≤B)→(∀ x∈acc,x.length≤B)→acc.length+l.length≤40→zb6 l i acc=true
 | [],i,acc,_,ha,hl=>by
  rw [zb6]
  refine gi ?_ rfl
  have h1:=zeo [32,44,32] B acc ha
  have h2:acc.length * (B+3)≤40 * 100000003:=Nat.mul_le_mul (by simpa using hl) (by omega)
  replace h1:(Lib.join acc [32,44,32]).length≤acc.length * (B+3):=h1
  simp only [Bool.and_eq_true,decide_eq_true_eq]
  simp at hl
  exact ⟨by omega,by omega⟩
 | x::r,i,acc,h,ha,hl=>by
  rw [zb6]
  have hx:=h x (by simp)
  simp at hl
  refine gi hx.1 (gi (zaw ?_) ?_)
  ·simp; omega
  ·refine zlq B hB r (i+1) _ (fun y hy=>h y (List.mem_cons_of_mem _ hy)) (fun y hy=>?_) (by simp; omega)
   rcases List.mem_append.1 hy with hy | hy
   ·exact ha y hy
   ·simp at hy; subst hy; exact hx.2

theorem zn8:∀ (l:List (Sem zan)) (i:Int) (acc:List Str),zbV l i acc=Lib.join (acc++l.map zc0) [32,44,32]
 | [],i,acc=>by simp [zbV]
 | x::r,i,acc=>by rw [zbV,zn8 r]; simp
theorem zuD (B:Nat) (l:List (Sem zan)) (h:∀ x∈l,(zc0 x).length≤B):(zhr l).length≤l.length * (B+3):=by
 unfold zhr
 rw [zn8]
 have:=zeo [32,44,32] B ([]++l.map zc0) (fun y hy=>by
  simp only [List.nil_append,List.mem_map] at hy
  obtain ⟨x,hx,rfl⟩:=hy
  exact h x hx)
 simpa using this
theorem zmw (B:Nat) (hB:B≤100000000):∀ (l:List (Sem zan)) (i:Int) (acc:List Str),(∀ x∈l,zf4 x=true∧(zc0 x).length≤B)→(∀ x∈acc,x.length≤B)→acc.length+l.length≤40→zcc l i acc=true
 | [],i,acc,_,ha,hl=>by
  rw [zcc]
  refine gi ?_ rfl
  have h1:=zeo [32,44,32] B acc ha
  have h2:acc.length * (B+3)≤40 * 100000003:=Nat.mul_le_mul (by simpa using hl) (by omega)
  replace h1:(Lib.join acc [32,44,32]).length≤acc.length * (B+3):=h1
  simp only [Bool.and_eq_true,decide_eq_true_eq]
  simp at hl
  exact ⟨by omega,by omega⟩
 | x::r,i,acc,h,ha,hl=>by
  rw [zcc]
  have hx:=h x (by simp)
  simp at hl
  refine gi hx.1 (gi (zaw ?_) ?_)
  ·simp; omega
  ·refine zmw B hB r (i+1) _ (fun y hy=>h y (List.mem_cons_of_mem _ hy)) (fun y hy=>?_) (by simp; omega)
   rcases List.mem_append.1 hy with hy | hy
   ·exact ha y hy
   ·simp at hy; subst hy; exact hx.2

theorem zbm {s:Sem zu} {g b:Bool} (hv:(zdw s).val=if g=true then some (.inr (.bool b,[])) else none):zgD s=g∧zdW s=(g&&b):=by
 unfold zgD zdW zph zaj zbk
 rw [hv]
 cases g <;> cases b <;> exact ⟨rfl,rfl⟩
theorem znM {s:Sem zu} (hv:(zdw s).val=some (.inr (.kb false,[]))):zgD s=true∧zdW s=false:=by
 unfold zgD zdW zph zaj zbk
 rw [hv]
 exact ⟨rfl,rfl⟩

theorem zz2 {s:Sem zu} (h:zdW s=true):(s.1=[99,114,101,97,116,101]∧zfK s=true)∨(s.1=[103,114,111,117,112]∧s.2.2.2.1.length=2)∨
  (s.1∈([[100,114,111,112],[105,110,115,101,114,116],[117,112,100,97,116,101],[100,101,108,101,116,101],[115,101,108,101,99,116],[114,101,97,100],[119,114,105,116,101],[117,110,114,101,97,100],[117,110,119,114,105,116,101],[99,111,112,121],[106,111,105,110]]:List Str)):=by
 by_cases q0:(s.1==[99,114,101,97,116,101])=true
 ·refine .inl ⟨eq_of_beq q0,?_⟩
  obtain ⟨_,hp⟩:=zbm (s:=s) (g:=_) (b:=_) (by simp only [zdw,zcT,Tr.val,q0,if_true,zw]; exact rfl)
  rw [hp] at h
  cases h2:zfK s
  ·rw [h2] at h
   cases h1:zbp s.2.1 <;> rw [h1] at h <;> simp at h
  ·rfl
 by_cases q1:(s.1==[100,114,111,112])=true
 ·exact .inr (.inr (by rw [eq_of_beq q1]; simp))
 by_cases q2:(s.1==[105,110,115,101,114,116])=true
 ·exact .inr (.inr (by rw [eq_of_beq q2]; simp))
 by_cases q3:(s.1==[117,112,100,97,116,101])=true
 ·exact .inr (.inr (by rw [eq_of_beq q3]; simp))
 by_cases q4:(s.1==[100,101,108,101,116,101])=true
 ·exact .inr (.inr (by rw [eq_of_beq q4]; simp))
 by_cases q5:(s.1==[115,101,108,101,99,116])=true
 ·exact .inr (.inr (by rw [eq_of_beq q5]; simp))
 by_cases q6:(s.1==[114,101,97,100])=true
 ·exact .inr (.inr (by rw [eq_of_beq q6]; simp))
 by_cases q7:(s.1==[119,114,105,116,101])=true
 ·exact .inr (.inr (by rw [eq_of_beq q7]; simp))
 by_cases q8:(s.1==[117,110,114,101,97,100])=true
 ·exact .inr (.inr (by rw [eq_of_beq q8]; simp))
 by_cases q9:(s.1==[117,110,119,114,105,116,101])=true
 ·exact .inr (.inr (by rw [eq_of_beq q9]; simp))
 by_cases q10:(s.1==[99,111,112,121])=true
 ·exact .inr (.inr (by rw [eq_of_beq q10]; simp))
 by_cases q11:(s.1==[106,111,105,110])=true
 ·exact .inr (.inr (by rw [eq_of_beq q11]; simp))
 by_cases q12:(s.1==[103,114,111,117,112])=true
 ·refine .inr (.inl ⟨eq_of_beq q12,?_⟩)
  obtain ⟨_,hp⟩:=zbm (s:=s) (g:=_) (b:=_) (by simp only [zdw,zcT,Tr.val,q0,q1,q2,q3,q4,q5,q6,q7,q8,q9,q10,q11,q12,if_true,if_false,Bool.false_eq_true,zw]; exact rfl)
  rw [hp] at h
  by_cases hl:s.2.2.2.1.length=2
  ·exact hl
  ·exfalso
   have hd:(bif decide ((s.2.2.2.1.length:Int) < 2) then true else decide ((s.2.2.2.1.length:Int) > 2))=true:=by
    rcases Nat.lt_or_gt_of_ne hl with h2 | h2
    ·have:decide ((s.2.2.2.1.length:Int) < 2)=true:=decide_eq_true (by omega)
     rw [this]; rfl
    ·have:decide ((s.2.2.2.1.length:Int) > 2)=true:=decide_eq_true (by omega)
     rw [this]; cases decide ((s.2.2.2.1.length:Int) < 2) <;> rfl
   rw [hd] at h
   cases h1:zbp s.2.1 <;> cases h2:zbp s.2.2.1 <;> rw [h1,h2] at h <;> simp at h
 obtain ⟨_,hp⟩:=znM (s:=s) (by simp only [zdw,zcT,Tr.val,q0,q1,q2,q3,q4,q5,q6,q7,q8,q9,q10,q11,q12,if_false,Bool.false_eq_true])
 rw [hp] at h
 cases h

open Go Go.Proofs
set_option maxHeartbeats 4000000

theorem zhv {a0:Sem Sh.str} {a1:Sem Sh.str} {a2:Sem Sh.str} {a3:List (Sem Sh.str)} {a4:List (Sem zh)} {a5:Sem Sh.str} {a6:List (Sem Sh.str)} {a7:List (Sem (Sh.str.pr Sh.str))} {a8:Str} {a9:Int} {a10:Int} {a11:Str} {a12:Str} {a13:List (Sem Sh.expr)} {a14:List (Sem zf)} {a15:List (Sem (Sh.str.pr Sh.expr))} {a16:Str} {a17:Int} {a18:Int} {a19:Str} {a20:Str} {a21:List (Sem Sh.expr)} {a22:Sem Sh.str}:∀ (l:List (Sem (Sh.str.pr Sh.str))) (i:Int) (s:Str),(∀ x∈l,List.length x.1≤1000∧List.length x.2≤1000)→s.length+l.length * 3000≤1000000→
  zb5 a0 a1 a2 a3 a4 a5 a6 a7 a8 a9 a10 a11 a12 a13 a14 a15 a16 a17 a18 a19 a20 a21 a22 l i s=true∧(zbP a0 a1 a2 a3 a4 a5 a6 a7 a8 a9 a10 a11 a12 a13 a14 a15 a16 a17 a18 a19 a20 a21 a22 l i s).length≤40000000
 | [],i,s,_,hs=>by
  rw [zb5,zbP]
  have h1:=zpU [32,44,32] (by simp) (ze.mk a8 (a9,a10,a11) a12 a13)
  simp at hs
  refine ⟨gi (zfJ _ (by simp) _) (gi (zaw ?_) (gi (zaw ?_) rfl)),?_⟩
  all_goals first | omega | (simp; omega)
 | x::r,i,s,h,hs=>by
  have hx:=h x (by simp)
  simp at hs
  rw [zb5,zbP]
  obtain ⟨k1,k2⟩:=zhv (a0:=a0) (a1:=a1) (a2:=a2) (a3:=a3) (a4:=a4) (a5:=a5) (a6:=a6) (a7:=a7) (a8:=a8) (a9:=a9) (a10:=a10) (a11:=a11) (a12:=a12) (a13:=a13) (a14:=a14) (a15:=a15) (a16:=a16) (a17:=a17) (a18:=a18) (a19:=a19) (a20:=a20) (a21:=a21) (a22:=a22) r (i+1) (s++([32,44,32,82,69,70,69,82,69,78,67,69,83,32,40,32]++x.1++[32,41,32]++x.2)) (fun y hy=>h y (List.mem_cons_of_mem _ hy)) (by simp; omega)
  refine ⟨gi (zaw ?_) (gi (zaw ?_) (gi (zaw ?_) (gi (zaw ?_) k1))),k2⟩
  all_goals (simp; omega)

theorem zin {a0:Sem Sh.str} {a1:Sem Sh.str} {a2:Sem Sh.str} {a3:List (Sem Sh.str)} {a4:List (Sem zh)} {a5:Sem Sh.str} {a6:List (Sem Sh.str)} {a7:List (Sem (Sh.str.pr Sh.str))} {a8:Str} {a9:Int} {a10:Int} {a11:Str} {a12:Str} {a13:List (Sem Sh.expr)} {a14:List (Sem zf)} {a15:List (Sem (Sh.str.pr Sh.expr))} {a16:Str} {a17:Int} {a18:Int} {a19:Str} {a20:Str} {a21:List (Sem Sh.expr)} {a22:Sem Sh.str} (h7:a7.length≤20∧∀ x∈a7,List.length x.1≤1000∧List.length x.2≤1000):∀ (l:List (Sem Sh.str)) (i:Int) (s:Str),(∀ x∈l,List.length x≤1000)→s.length+l.length * 3000≤900000→
  zcE a0 a1 a2 a3 a4 a5 a6 a7 a8 a9 a10 a11 a12 a13 a14 a15 a16 a17 a18 a19 a20 a21 a22 l i s=true∧(zco a0 a1 a2 a3 a4 a5 a6 a7 a8 a9 a10 a11 a12 a13 a14 a15 a16 a17 a18 a19 a20 a21 a22 l i s).length≤40000000
 | [],i,s,_,hs=>by
  rw [zcE,zco]
  simp at hs
  exact zhv a7 0 s h7.2 (by have:=h7.1; omega)
 | x::r,i,s,h,hs=>by
  have hx:=h x (by simp)
  simp at hs
  rw [zcE,zco]
  obtain ⟨k1,k2⟩:=zin (a0:=a0) (a1:=a1) (a2:=a2) (a3:=a3) (a4:=a4) (a5:=a5) (a6:=a6) (a7:=a7) (a8:=a8) (a9:=a9) (a10:=a10) (a11:=a11) (a12:=a12) (a13:=a13) (a14:=a14) (a15:=a15) (a16:=a16) (a17:=a17) (a18:=a18) (a19:=a19) (a20:=a20) (a21:=a21) (a22:=a22) h7 r (i+1) (s++([32,44,32,85,78,73,81,85,69,32,40,32]++x++[32,41])) (fun y hy=>h y (List.mem_cons_of_mem _ hy)) (by simp; omega)
  refine ⟨gi (zaw ?_) (gi (zaw ?_) (gi (zaw ?_) k1)),k2⟩
  all_goals (simp; omega)

theorem zu6 {s:Sem zu} (h:zfK s=true):∀ x∈s.2.2.2.2.1,zgH x=true:=by
 intro x hx
 have hq:(!decide (zaa (fun x => !zgH x) s.2.2.2.2.1 0 ≥ 0))=true:=by
  unfold zfK at h
  cases h1:(bif decide ((↑(List.length s.2.2.2.2.1):Int) < 1) then true else decide ((↑(List.length s.2.2.2.2.1):Int) > 8))
  ·rw [h1] at h
   cases h2:(!decide (zaa (fun x => !zgH x) s.2.2.2.2.1 0 ≥ 0))
   ·rw [h2] at h; cases h
   ·rfl
  ·rw [h1] at h; cases h
 have:=znV (fun x => !zgH x) _ 0 hq x hx
 simpa using this

theorem zpq {x:Sem zh} (h:zgH x=true):LE.le (α:=Int) 1 x.2.1∧LE.le (α:=Int) x.2.1 3:=by
 unfold zgH at h
 cases h1:zbp x.1
 ·rw [h1] at h; cases h
 ·rw [h1] at h
  cases h2:decide (x.2.1 ≥ 1)
  ·rw [h2] at h; cases h
  ·rw [h2] at h
   have h3:decide (x.2.1≤3)=true:=h
   exact ⟨of_decide_eq_true h2,of_decide_eq_true h3⟩

theorem zr7 {s:Sem zu} (hs:zqq s) (hc:zfK s=true):ziW s=true∧(zjK s).length≤40000000:=by
 have hcol:=zu6 hc
 have c1:∀ x∈s.2.2.2.2.1,zfl x=true∧(zcC x).length≤1100:=fun x hx=>⟨zsd x (hs.cols.2 x hx) (zpq (hcol x hx)).1 (zpq (hcol x hx)).2,zv7 x (hs.cols.2 x hx)⟩
 have c2:zf0 s.2.2.2.2.1=true:=zmz 1100 (by omega) _ 0 [] c1 (by simp) (by have:=hs.cols.1; simp; omega)
 have c3:=zvF 1100 s.2.2.2.2.1 (fun x hx=>(c1 x hx).2)
 have c4:s.2.2.2.2.1.length * (1100+3)≤20 * 1103:=Nat.mul_le_mul hs.cols.1 (by omega)
 have t1:=hs.table
 have t2:=hs.key
 have u1:=hs.uniques.1
 unfold ziW zjK
 obtain ⟨k1,k2⟩:=zin (a0:=s.1) (a1:=s.2.1) (a2:=s.2.2.1) (a3:=s.2.2.2.1) (a4:=s.2.2.2.2.1) (a5:=s.2.2.2.2.2.1) (a6:=s.2.2.2.2.2.2.1) (a8:=s.2.2.2.2.2.2.2.2.1.op) (a9:=s.2.2.2.2.2.2.2.2.1.v.1) (a10:=s.2.2.2.2.2.2.2.2.1.v.2.1) (a11:=s.2.2.2.2.2.2.2.2.1.v.2.2) (a12:=s.2.2.2.2.2.2.2.2.1.s) (a13:=s.2.2.2.2.2.2.2.2.1.l) (a14:=s.2.2.2.2.2.2.2.2.2.1) (a15:=s.2.2.2.2.2.2.2.2.2.2.1) (a16:=s.2.2.2.2.2.2.2.2.2.2.2.1.op) (a17:=s.2.2.2.2.2.2.2.2.2.2.2.1.v.1) (a18:=s.2.2.2.2.2.2.2.2.2.2.2.1.v.2.1) (a19:=s.2.2.2.2.2.2.2.2.2.2.2.1.v.2.2) (a20:=s.2.2.2.2.2.2.2.2.2.2.2.1.s) (a21:=s.2.2.2.2.2.2.2.2.2.2.2.1.l) (a22:=s.2.2.2.2.2.2.2.2.2.2.2.2)
  hs.refs s.2.2.2.2.2.2.1 0 ([67,82,69,65,84,69,32,84,65,66,76,69,32]++s.2.1++[32,40,32]++zcr s.2.2.2.2.1++([32,44,32,75,69,89,32,40,32]++s.2.2.2.2.2.1++[32,41])) hs.uniques.2 (by
   have:s.2.2.2.2.2.2.1.length * 3000≤20 * 3000:=Nat.mul_le_mul u1 (by omega)
   simp; omega)
 refine ⟨gi (zaw ?_) (gi (zaw ?_) (gi c2 (gi (zaw ?_) (gi (zaw ?_) (gi (zaw ?_) (gi (zaw ?_) k1)))))),k2⟩
 all_goals (simp; omega)

theorem gx {α β:Type} {c:Bool} {a:Option α} {F:β→Option α} {P:β→Prop} (h:c=true) (k:∃ t,a=F t∧P t):∃ t,(if c=true then a else none)=F t∧P t:=by
 subst h; exact k
theorem zp0 {s:Sem zu} (h:∃ t,(zpQ s).val=some (.inr (.str t,[]))∧t.length≤1000000000):zm5 s=true∧(zki s).length≤1000000000:=by
 obtain ⟨t,h,k⟩:=h
 unfold zm5 zki zzn zaj zbk
 rw [h]
 exact ⟨rfl,k⟩

theorem zxq {s:Sem zu} (hs:zqq s) (hp:zdW s=true):zm5 s=true∧(zki s).length≤1000000000:=by
 have t1:=hs.table
 have t2:=hs.other
 have t3:=hs.key
 have t4:=hs.role
 have t5:=hs.op
 have tu:=zcF s.1
 have w1:=zBS s.2.2.2.2.2.2.2.2.2.2.2.1
 have w2:=zpU [32] (by simp) s.2.2.2.2.2.2.2.2.1
 have v1:zhq s.2.2.2.2.2.2.2.2.2.1=true:=zlq 300 (by omega) _ 0 [] (fun x _=>⟨zob x,zmW x⟩) (by simp) (by have:=hs.row; simp; omega)
 have v2:=zub 300 s.2.2.2.2.2.2.2.2.2.1 (fun x _=>zmW x)
 have v3:s.2.2.2.2.2.2.2.2.2.1.length * (300+3)≤20 * 303:=Nat.mul_le_mul hs.row (by omega)
 have e1:zhd s.2.2.2.2.2.2.2.2.2.2.1=true:=zmw 30001010 (by omega) _ 0 [] (fun x hx=>⟨zr5 x (hs.sets.2 x hx),znS x (hs.sets.2 x hx)⟩) (by simp) (by have:=hs.sets.1; simp; omega)
 have e2:=zuD 30001010 s.2.2.2.2.2.2.2.2.2.2.1 (fun x hx=>znS x (hs.sets.2 x hx))
 have e3:s.2.2.2.2.2.2.2.2.2.2.1.length * (30001010+3)≤20 * 30001013:=Nat.mul_le_mul hs.sets.1 (by omega)
 have n1:zhy s.2.2.2.1=true:=zmC 1000 (by omega) _ 0 [] (fun x hx=>hs.names.2 x hx) (by simp) (by have:=hs.names.1; simp; omega)
 have n2:=zuA 1000 s.2.2.2.1 (fun x hx=>hs.names.2 x hx)
 have n3:s.2.2.2.1.length * (1000+3)≤20 * 1003:=Nat.mul_le_mul hs.names.1 (by omega)
 have go:∀ op:Str,s.1=op→(∀ z:Bool,z=true→z=true):=fun _ _ _ h=>h
 clear go
 rcases zz2 hp with ⟨hop,hc⟩ | ⟨hop,hl2⟩ | hop
 ·have hup:(decide (List.length s.1≤140737488355328)&&List.all s.1 fun b=>decide (b.toNat < 128))=true:=by rw [hop]; decide
  have q0:(s.1==[99,114,101,97,116,101])=true:=by rw [hop]; rfl
  have q1:(s.1==[100,114,111,112])=false:=by rw [hop]; rfl
  have q2:(s.1==[105,110,115,101,114,116])=false:=by rw [hop]; rfl
  have q3:(s.1==[117,112,100,97,116,101])=false:=by rw [hop]; rfl
  have q4:(s.1==[100,101,108,101,116,101])=false:=by rw [hop]; rfl
  have q5:(s.1==[115,101,108,101,99,116])=false:=by rw [hop]; rfl
  have q6:(s.1==[114,101,97,100])=false:=by rw [hop]; rfl
  have q7:(s.1==[119,114,105,116,101])=false:=by rw [hop]; rfl
  have q8:(s.1==[117,110,114,101,97,100])=false:=by rw [hop]; rfl
  have q9:(s.1==[117,110,119,114,105,116,101])=false:=by rw [hop]; rfl
  have q10:(s.1==[99,111,112,121])=false:=by rw [hop]; rfl
  have q11:(s.1==[106,111,105,110])=false:=by rw [hop]; rfl
  have q12:(s.1==[103,114,111,117,112])=false:=by rw [hop]; rfl
  have kc:=zr7 hs hc
  refine zp0 ?_
  simp only [zpQ,zuQ,Tr.val,q0,q1,q2,q3,q4,q5,q6,q7,q8,q9,q10,q11,if_true,Bool.false_eq_true,if_false,zw]
  repeat' (with_reducible refine gx ?_ ?_)
  all_goals first
   | (refine ⟨_,rfl,?_⟩; exact Nat.le_trans kc.2 (by omega))
   | rfl
   | exact hup
   | exact v1
   | exact e1
   | exact n1
   | exact ziz _
   | exact zfJ _ (by simp) _
   | exact kc.1
   | (refine zaw ?_; simp; omega)
   | (rw [hop]; decide)
   | (refine zaw ?_; rw [hop]; simp [zcF]; omega)
 ·have hup:(decide (List.length s.1≤140737488355328)&&List.all s.1 fun b=>decide (b.toNat < 128))=true:=by rw [hop]; decide
  have q0:(s.1==[99,114,101,97,116,101])=false:=by rw [hop]; rfl
  have q1:(s.1==[100,114,111,112])=false:=by rw [hop]; rfl
  have q2:(s.1==[105,110,115,101,114,116])=false:=by rw [hop]; rfl
  have q3:(s.1==[117,112,100,97,116,101])=false:=by rw [hop]; rfl
  have q4:(s.1==[100,101,108,101,116,101])=false:=by rw [hop]; rfl
  have q5:(s.1==[115,101,108,101,99,116])=false:=by rw [hop]; rfl
  have q6:(s.1==[114,101,97,100])=false:=by rw [hop]; rfl
  have q7:(s.1==[119,114,105,116,101])=false:=by rw [hop]; rfl
  have q8:(s.1==[117,110,114,101,97,100])=false:=by rw [hop]; rfl
  have q9:(s.1==[117,110,119,114,105,116,101])=false:=by rw [hop]; rfl
  have q10:(s.1==[99,111,112,121])=false:=by rw [hop]; rfl
  have q11:(s.1==[106,111,105,110])=false:=by rw [hop]; rfl
  have q12:(s.1==[103,114,111,117,112])=true:=by rw [hop]; rfl
  have g0:List.length (List.getD s.2.2.2.1 (Int.toNat 0) (zl Sh.str))≤1000:=by
   rw [List.getD_eq_getElem?_getD,List.getElem?_eq_getElem (show (0:Int).toNat < s.2.2.2.1.length by rw [hl2]; decide)]
   exact hs.names.2 _ (List.getElem_mem _)
  have g1:List.length (List.getD s.2.2.2.1 (Int.toNat 1) (zl Sh.str))≤1000:=by
   rw [List.getD_eq_getElem?_getD,List.getElem?_eq_getElem (show (1:Int).toNat < s.2.2.2.1.length by rw [hl2]; decide)]
   exact hs.names.2 _ (List.getElem_mem _)
  refine zp0 ?_
  simp only [zpQ,zuQ,Tr.val,q0,q1,q2,q3,q4,q5,q6,q7,q8,q9,q10,q11,Bool.false_eq_true,if_false,zw]
  repeat' (with_reducible refine gx ?_ ?_)
  all_goals first
   | (refine ⟨_,rfl,?_⟩; first | (simp at g0 g1 ⊢; omega) | (rw [hop]; simp [zcF]; omega))
   | rfl
   | exact hup
   | exact v1
   | exact e1
   | exact n1
   | exact ziz _
   | exact zfJ _ (by simp) _
   | (simp [inB,hl2]; done)
   | (refine zaw ?_; simp at g0 g1 ⊢; omega)
   | (rw [hop]; decide)
   | (refine zaw ?_; rw [hop]; simp [zcF]; omega)
 ·simp only [List.mem_cons,List.not_mem_nil,or_false] at hop
  rcases hop with hop | hop | hop | hop | hop | hop | hop | hop | hop | hop | hop
  all_goals
   have hup:(decide (List.length s.1≤140737488355328)&&List.all s.1 fun b=>decide (b.toNat < 128))=true:=by rw [hop]; decide
   have q0:(s.1==[99,114,101,97,116,101])=false:=by rw [hop]; rfl
   first | (have q1:(s.1==[100,114,111,112])=false:=by rw [hop]; rfl) | (have q1:(s.1==[100,114,111,112])=true:=by rw [hop]; rfl)
   first | (have q2:(s.1==[105,110,115,101,114,116])=false:=by rw [hop]; rfl) | (have q2:(s.1==[105,110,115,101,114,116])=true:=by rw [hop]; rfl)
   first | (have q3:(s.1==[117,112,100,97,116,101])=false:=by rw [hop]; rfl) | (have q3:(s.1==[117,112,100,97,116,101])=true:=by rw [hop]; rfl)
   first | (have q4:(s.1==[100,101,108,101,116,101])=false:=by rw [hop]; rfl) | (have q4:(s.1==[100,101,108,101,116,101])=true:=by rw [hop]; rfl)
   first | (have q5:(s.1==[115,101,108,101,99,116])=false:=by rw [hop]; rfl) | (have q5:(s.1==[115,101,108,101,99,116])=true:=by rw [hop]; rfl)
   first | (have q6:(s.1==[114,101,97,100])=false:=by rw [hop]; rfl) | (have q6:(s.1==[114,101,97,100])=true:=by rw [hop]; rfl)
   first | (have q7:(s.1==[119,114,105,116,101])=false:=by rw [hop]; rfl) | (have q7:(s.1==[119,114,105,116,101])=true:=by rw [hop]; rfl)
   first | (have q8:(s.1==[117,110,114,101,97,100])=false:=by rw [hop]; rfl) | (have q8:(s.1==[117,110,114,101,97,100])=true:=by rw [hop]; rfl)
   first | (have q9:(s.1==[117,110,119,114,105,116,101])=false:=by rw [hop]; rfl) | (have q9:(s.1==[117,110,119,114,105,116,101])=true:=by rw [hop]; rfl)
   first | (have q10:(s.1==[99,111,112,121])=false:=by rw [hop]; rfl) | (have q10:(s.1==[99,111,112,121])=true:=by rw [hop]; rfl)
   first | (have q11:(s.1==[106,111,105,110])=false:=by rw [hop]; rfl) | (have q11:(s.1==[106,111,105,110])=true:=by rw [hop]; rfl)
   have q12:(s.1==[103,114,111,117,112])=false:=by rw [hop]; rfl
   refine zp0 ?_
   simp only [zpQ,zuQ,Tr.val,q0,q1,q2,q3,q4,q5,q6,q7,q8,q9,q10,q11,if_true,Bool.false_eq_true,if_false,zw]
   repeat' (with_reducible refine gx ?_ ?_)
   all_goals first
    | (refine ⟨_,rfl,?_⟩; first | (simp; omega) | (rw [hop]; simp [zcF]; omega))
    | rfl
    | exact hup
    | exact v1
    | exact e1
    | exact n1
    | exact ziz _
    | exact zfJ _ (by simp) _
    | (refine zaw ?_; simp; omega)
    | (rw [hop]; decide)
    | (refine zaw ?_; rw [hop]; simp [zcF]; omega)
theorem zaV {x:Sem zu} (h1:x.2.1.length≤1000) (h2:x.2.2.1.length≤1000) (h3:x.2.2.2.2.2.1.length≤1000) (h4:x.2.2.2.2.2.2.2.2.2.2.2.2.length≤1000):zci x=true:=by
 unfold zci
 refine gi (zaw ?_) (gi (zaw ?_) (gi (zaw ?_) rfl))
 all_goals first | omega | (simp; omega)

theorem zct {c g:Bool} (h:g=true):(bif c then g else true)=true:=by cases c <;> simp [h]

theorem zt7 {s:Sem zu} (hs:zqq s):zgD s=true:=by
 have t1:=hs.table
 have t2:=hs.other
 have t3:=hs.key
 have t4:=hs.role
 by_cases q0:(s.1==[99,114,101,97,116,101])=true
 ·obtain ⟨hc,_⟩:=zbm (s:=s) (g:=_) (b:=_) (by simp only [zdw,zcT,Tr.val,q0,if_true,zw]; exact rfl)
  rw [hc]
  exact zct (zaV (by simp) (by first | exact t2 | simp) (by first | exact t3 | simp) (by first | exact t4 | simp))
 by_cases q1:(s.1==[100,114,111,112])=true
 ·obtain ⟨hc,_⟩:=zbm (s:=s) (g:=_) (b:=_) (by simp only [zdw,zcT,Tr.val,q0,q1,if_true,if_false,Bool.false_eq_true,zw]; exact rfl)
  rw [hc]
  exact zct (zaV (by simp) (by first | exact t2 | simp) (by first | exact t3 | simp) (by first | exact t4 | simp))
 by_cases q2:(s.1==[105,110,115,101,114,116])=true
 ·obtain ⟨hc,_⟩:=zbm (s:=s) (g:=_) (b:=_) (by simp only [zdw,zcT,Tr.val,q0,q1,q2,if_true,if_false,Bool.false_eq_true,zw]; exact rfl)
  rw [hc]
  exact zct (zaV (by simp) (by first | exact t2 | simp) (by first | exact t3 | simp) (by first | exact t4 | simp))
 by_cases q3:(s.1==[117,112,100,97,116,101])=true
 ·obtain ⟨hc,_⟩:=zbm (s:=s) (g:=_) (b:=_) (by simp only [zdw,zcT,Tr.val,q0,q1,q2,q3,if_true,if_false,Bool.false_eq_true,zw]; exact rfl)
  rw [hc]
  exact zct (zaV (by simp) (by first | exact t2 | simp) (by first | exact t3 | simp) (by first | exact t4 | simp))
 by_cases q4:(s.1==[100,101,108,101,116,101])=true
 ·obtain ⟨hc,_⟩:=zbm (s:=s) (g:=_) (b:=_) (by simp only [zdw,zcT,Tr.val,q0,q1,q2,q3,q4,if_true,if_false,Bool.false_eq_true,zw]; exact rfl)
  rw [hc]
  exact zct (zaV (by simp) (by first | exact t2 | simp) (by first | exact t3 | simp) (by first | exact t4 | simp))
 by_cases q5:(s.1==[115,101,108,101,99,116])=true
 ·obtain ⟨hc,_⟩:=zbm (s:=s) (g:=_) (b:=_) (by simp only [zdw,zcT,Tr.val,q0,q1,q2,q3,q4,q5,if_true,if_false,Bool.false_eq_true,zw]; exact rfl)
  rw [hc]
  exact zct (zaV (by simp) (by first | exact t2 | simp) (by first | exact t3 | simp) (by first | exact t4 | simp))
 by_cases q6:(s.1==[114,101,97,100])=true
 ·obtain ⟨hc,_⟩:=zbm (s:=s) (g:=_) (b:=_) (by simp only [zdw,zcT,Tr.val,q0,q1,q2,q3,q4,q5,q6,if_true,if_false,Bool.false_eq_true,zw]; exact rfl)
  rw [hc]
  exact zct (zaV (by simp) (by first | exact t2 | simp) (by first | exact t3 | simp) (by first | exact t4 | simp))
 by_cases q7:(s.1==[119,114,105,116,101])=true
 ·obtain ⟨hc,_⟩:=zbm (s:=s) (g:=_) (b:=_) (by simp only [zdw,zcT,Tr.val,q0,q1,q2,q3,q4,q5,q6,q7,if_true,if_false,Bool.false_eq_true,zw]; exact rfl)
  rw [hc]
  exact zct (zaV (by simp) (by first | exact t2 | simp) (by first | exact t3 | simp) (by first | exact t4 | simp))
 by_cases q8:(s.1==[117,110,114,101,97,100])=true
 ·obtain ⟨hc,_⟩:=zbm (s:=s) (g:=_) (b:=_) (by simp only [zdw,zcT,Tr.val,q0,q1,q2,q3,q4,q5,q6,q7,q8,if_true,if_false,Bool.false_eq_true,zw]; exact rfl)
  rw [hc]
  exact zct (zaV (by simp) (by first | exact t2 | simp) (by first | exact t3 | simp) (by first | exact t4 | simp))
 by_cases q9:(s.1==[117,110,119,114,105,116,101])=true
 ·obtain ⟨hc,_⟩:=zbm (s:=s) (g:=_) (b:=_) (by simp only [zdw,zcT,Tr.val,q0,q1,q2,q3,q4,q5,q6,q7,q8,q9,if_true,if_false,Bool.false_eq_true,zw]; exact rfl)
  rw [hc]
  exact zct (zaV (by simp) (by first | exact t2 | simp) (by first | exact t3 | simp) (by first | exact t4 | simp))
 by_cases q10:(s.1==[99,111,112,121])=true
 ·obtain ⟨hc,_⟩:=zbm (s:=s) (g:=_) (b:=_) (by simp only [zdw,zcT,Tr.val,q0,q1,q2,q3,q4,q5,q6,q7,q8,q9,q10,if_true,if_false,Bool.false_eq_true,zw]; exact rfl)
  rw [hc]
  exact zct (zaV (by simp) (by first | exact t2 | simp) (by first | exact t3 | simp) (by first | exact t4 | simp))
 by_cases q11:(s.1==[106,111,105,110])=true
 ·obtain ⟨hc,_⟩:=zbm (s:=s) (g:=_) (b:=_) (by simp only [zdw,zcT,Tr.val,q0,q1,q2,q3,q4,q5,q6,q7,q8,q9,q10,q11,if_true,if_false,Bool.false_eq_true,zw]; exact rfl)
  rw [hc]
  exact zct (zaV (by simp) (by first | exact t2 | simp) (by first | exact t3 | simp) (by first | exact t4 | simp))
 by_cases q12:(s.1==[103,114,111,117,112])=true
 ·obtain ⟨hc,_⟩:=zbm (s:=s) (g:=_) (b:=_) (by simp only [zdw,zcT,Tr.val,q0,q1,q2,q3,q4,q5,q6,q7,q8,q9,q10,q11,q12,if_true,if_false,Bool.false_eq_true,zw]; exact rfl)
  rw [hc]
  exact zct (zaV (by simp) (by first | exact t2 | simp) (by first | exact t3 | simp) (by first | exact t4 | simp))
 exact (znM (by simp only [zdw,zcT,Tr.val,q0,q1,q2,q3,q4,q5,q6,q7,q8,q9,q10,q11,q12,if_false,Bool.false_eq_true])).1

theorem zv2 {s:Sem zu} (hs:zqq s):zhY s=true:=by
 unfold zhY
 refine gi ?_ rfl
 unfold zmf
 refine gi (zt7 hs) ?_
 split
 ·rfl
 ·rename_i h
  have hp:zdW s=true:=by simpa using h
  obtain ⟨k1,k2⟩:=zxq hs hp
  exact gi k1 (gi (zGv _ k2) rfl)
open Go Go.Proofs

theorem zrv:∀ (es:List ((Int×Int×Str)×Int)) (n:Nat) (x:Int),(zfw es n x).length=es.length
 | [],_,_=>rfl
 | _::_,0,_=>rfl
 | _::r,n+1,x=>by simp [zfw,zrv r n x]
theorem zGf (es:List ((Int×Int×Str)×Int)) (k:Int×Int×Str):(zfk es k).length≤es.length+1:=by
 unfold zfk
 cases zgZ es k <;> simp
theorem zs3:∀ (es:List ((Int×Int×Str)×Int)) (k:Int×Int×Str),(zgZ es k=true→zgb es k < es.length)∧zgb es k≤es.length
 | [],k=>⟨fun h=>by simp [zgZ] at h,Nat.le_refl _⟩
 | p::r,k=>by
  obtain ⟨h1,h2⟩:=zs3 r k
  constructor
  ·intro h
   rw [zgb]
   cases hk:(k==p.1) with
   | true=>simp
   | false=>
    have:zgZ r k=true:=by simpa [zgZ,hk] using h
    have:=h1 this
    simp; omega
  ·rw [zgb]
   cases (k==p.1) <;> simp <;> omega
theorem zI7 (es:List ((Int×Int×Str)×Int)) (k:Int×Int×Str):zgb es k < (zfk es k).length:=by
 obtain ⟨h1,h2⟩:=zs3 es k
 unfold zfk
 cases h:zgZ es k with
 | true=>exact h1 h
 | false=>simp; omega

def inC (c:Int) (n:Nat):Prop:=0≤c∧c < n
theorem zlz {c:Int} {n:Nat} (h:inC c n):inB c n=true:=by
 simp [inB,h.1,h.2]
theorem zn5 {a0 a1 a2 a3 a4 a5 a6 a7 a8 a9 b0}:∀ (l:List (Sem zt)) (i:Int),zcY a0 a1 a2 a3 a4 a5 a6 a7 a8 a9 b0 l i=true→inC a2 a1.length∧∀ f∈l,inC f.1 a1.length
 | [],i,h=>by
  rw [zcY] at h
  split at h
  ·rename_i h1
   refine ⟨?_,by simp⟩
   unfold inC
   cases h2:decide (a2 ≥ 0) with
   | true=>
    rw [h2] at h1
    simp at h1 h2
    exact ⟨h2,h1⟩
   | false=>rw [h2] at h1; simp at h1
  ·cases h
 | x :: r,i,h=>by
  rw [zcY] at h
  split at h
  ·cases h
  ·rename_i h1
   split at h
   ·cases h
   ·obtain ⟨h3,h4⟩:=zn5 r _ h
    refine ⟨h3,fun f hf=>?_⟩
    rcases List.mem_cons.1 hf with rfl | hf
    ·unfold inC
     cases h2:decide (f.1 ≥ 0) with
     | true=>
      rw [h2] at h1
      simp at h1 h2
      exact ⟨h2,h1⟩
     | false=>rw [h2] at h1; simp at h1
    ·exact h4 f hf
theorem znX {a0 a1 a2 a3 a4 a5 a6 a7 a8 a9 b0}:∀ (l:List (Sem zg)) (i:Int),zcZ a0 a1 a2 a3 a4 a5 a6 a7 a8 a9 b0 l i=true→inC a2 a1.length∧(∀ f∈a4,inC f.1 a1.length)∧∀ u∈l,inC u a1.length
 | [],i,h=>by
  rw [zcZ] at h
  obtain ⟨h1,h2⟩:=zn5 _ _ h
  exact ⟨h1,h2,by simp⟩
 | x :: r,i,h=>by
  rw [zcZ] at h
  split at h
  ·cases h
  ·rename_i h1
   obtain ⟨h3,h4,h5⟩:=znX r _ h
   refine ⟨h3,h4,fun f hf=>?_⟩
   rcases List.mem_cons.1 hf with rfl | hf
   ·unfold inC
    cases h2:decide (f ≥ 0) with
    | true=>
     rw [h2] at h1
     simp at h1 h2
     exact ⟨h2,h1⟩
    | false=>rw [h2] at h1; simp at h1
   ·exact h5 f hf
theorem zrr {a0 a1 a2 a3 a4 a5 a6 a7 a8 a9 b0}:∀ (l:List (Sem zh)) (i:Int),zes a0 a1 a2 a3 a4 a5 a6 a7 a8 a9 b0 l i=true→inC a2 a1.length∧(∀ f∈a4,inC f.1 a1.length)∧∀ u∈a3,inC u a1.length
 | [],i,h=>by
  rw [zes] at h
  exact znX _ _ h
 | x::r,i,h=>by
  rw [zes] at h
  split at h
  ·cases h
  ·exact zrr r _ h
theorem zfP {t:Sem zn} (h:zdi t=true):inC t.2.2.1 t.2.1.length∧(∀ f∈t.2.2.2.2.1,inC f.1 t.2.1.length)∧(∀ u∈t.2.2.2.1,inC u t.2.1.length)∧t.2.1.length≤8∧1≤t.2.1.length:=by
 unfold zdi at h
 split at h
 ·cases h
 ·rename_i h1
  obtain ⟨h2,h3,h4⟩:=zrr _ _ h
  refine ⟨h2,h3,h4,?_⟩
  cases hn:zaB t.1 with
  | false=>rw [hn] at h1; simp at h1
  | true=>
   rw [hn] at h1
   cases hd:decide ((List.length t.2.1:Int) < 1) with
   | true=>rw [hd] at h1; simp at h1
   | false=>
    rw [hd] at h1
    simp at h1 hd
    omega
theorem zpR {t:Sem zn} {row:List (Sem zf)} (h:(zcL t row != 0)≠true):row.length=t.2.1.length:=by
 simp at h
 unfold zcL at h
 split at h
 ·cases h
 ·rename_i h1
  cases hm:zdi t with
  | false=>rw [hm] at h1; simp at h1
  | true=>
   rw [hm] at h1
   simp at h1
   omega
open Go Go.Proofs

structure zhQ (x:Sem zk):Prop where
 uq:x.1.2.2.2.1.length≤1000
 rf:x.1.2.2.2.2.1.length≤1000
 rw:x.2.length≤1000

open Go Go.Proofs

theorem znN (l:List (Sem zk)) (s:Str):zak l s=(-1:Int)∨((0:Int)≤zak l s∧LT.lt (α:=Int) (zak l s) l.length):=by
 have:=zeq (fun x:Sem zk=>x.1.1==s) l 0
 simp at this
 exact this

theorem ziy {l:List (Sem zk)} {s:Str} (h:(0:Int)≤zak l s):inB (zak l s) (List.length l)=true:=by
 rcases znN l s with h1 | ⟨h1,h2⟩
 ·rw [h1] at h; omega
 ·simp only [inB,Bool.and_eq_true,decide_eq_true_eq]; exact ⟨h1,h2⟩

open Go Go.Proofs
set_option maxHeartbeats 4000000

theorem zl2 {α:Type} (l:List α) (d:α) {i:Nat} (h:i < l.length):l.getD ((i:Int).toNat) d=l[i]:=by
 rw [Int.toNat_natCast,List.getD_eq_getElem?_getD,List.getElem?_eq_getElem h,Option.getD_some]

def zG2 (y:zj zal) (y':zj zal):Prop:=
 (0:Int)≤zak y.1 y.2.2.2.2.2.1∧(y.2.2.2.2.2.2.1=[]∨(0:Int)≤zak y.1 y.2.2.2.2.2.2.1)∧LT.lt (α:=Int) (zak y.1 y.2.1.2.1) 0∧y.2.2.2.2.2.1≠y.2.2.2.2.2.2.1∧
 y'.2.2.1=(List.getD y.1 (Int.toNat (zak y.1 y.2.2.2.2.2.1)) (zl zk)).1∧
 y'.2.2.2.1=(if y.2.2.2.2.2.2.1=[] then y.2.2.2.1 else (List.getD y.1 (Int.toNat (zak y.1 y.2.2.2.2.2.2.1)) (zl zk)).1)

def zIG (y:zj zal) (r:Raw):Prop:=∃ (e:Int) (y':zj zal),r=(.int .i64 e,zY zal y')∧y'.1=y.1∧y'.2.1=y.2.1∧y'.2.2.2.2=y.2.2.2.2∧(e=0→zG2 y y')

theorem zVK (y:zj zal) (ns:List Str) (hl:List.length y.1≤1000000) (h1:(0:Int)≤zak y.1 y.2.2.2.2.2.1) (h2:y.2.2.2.2.2.2.1=[]∨(0:Int)≤zak y.1 y.2.2.2.2.2.2.1) (h3:LT.lt (α:=Int) (zak y.1 y.2.1.2.1) 0) (h4:y.2.2.2.2.2.1≠y.2.2.2.2.2.2.1) (n:Nat) (hn:1+List.length y.1≤n):
  ∃ r,zb8 zko n (.h11 y.1 (List.length y.1:Int) 0 y ns)=some r∧zIG y r:=by
 refine zdf (t:=zko) (β:=Unit) (List.length y.1) (fun _ i=>.h11 y.1 (List.length y.1:Int) (i:Int) y ns) (fun _ _=>True) (zIG y) 1 ?_ ?_ (List.length y.1) 0 () n rfl (Nat.zero_le _) trivial hn
 ·intro b i hi _
  simp only [zko,zo6,zlt,Tr.val,zV hi,zK hi,if_true]
  rw [zH i (by unfold zI; omega)]
  by_cases c1:(!zhF ns (List.getD y.1 (Int.toNat (i:Int)) (zl zk)).1.1)=true
  ·simp only [c1,if_true]
   split
   ·exact Or.inr ⟨_,rfl,10,y,rfl,rfl,rfl,rfl,fun h=>by cases h⟩
   ·exact Or.inl ⟨(),trivial,rfl⟩
  ·simp only [c1]
   exact Or.inl ⟨(),trivial,rfl⟩
 ·intro b n _ hn
  obtain ⟨n,rfl⟩:∃ k,n=k+1:=⟨n - 1,by omega⟩
  rw [zcm]
  simp only [zko,zo6,zlt,Tr.val,zP,ziy h1,if_true]
  by_cases c1:(!y.2.2.2.2.2.2.1==[])=true
  ·have hne:y.2.2.2.2.2.2.1≠[]:=by simpa using c1
   have hb:(0:Int)≤zak y.1 y.2.2.2.2.2.2.1:=h2.resolve_left hne
   simp only [c1,if_true,ziy hb]
   refine ⟨_,rfl,0,_,rfl,rfl,rfl,rfl,fun _=>⟨h1,h2,h3,h4,rfl,?_⟩⟩
   simp [hne]
  ·have he:y.2.2.2.2.2.2.1=[]:=by simpa using c1
   simp only [c1]
   refine ⟨_,rfl,0,_,rfl,rfl,rfl,rfl,fun _=>⟨h1,h2,h3,h4,rfl,?_⟩⟩
   simp [he]

theorem zWo (y:zj zal) (ns:List Str) (hns:ns=if (y.2.2.2.2.2.2.1==[])=true then [y.2.2.2.2.2.1] else [y.2.2.2.2.2.1,y.2.2.2.2.2.2.1]) (hl:List.length y.1≤1000000) (n:Nat) (hn:2+List.length y.1+ns.length≤n):
  ∃ r,zb8 zko n (.h3 ns (List.length ns:Int) 0 y ns)=some r∧zIG y r:=by
 have hnl:ns.length≤2:=by rw [hns]; split <;> simp
 refine zdf (t:=zko) (β:=Unit) ns.length (fun _ i=>.h3 ns (List.length ns:Int) (i:Int) y ns) (fun _ i=>∀ j (hj:j < ns.length),j < i→(0:Int)≤zak y.1 ns[j]) (zIG y) (2+List.length y.1) ?_ ?_ ns.length 0 () n rfl (Nat.zero_le _) (fun j _ h=>by omega) hn
 ·intro b i hi hI
  simp only [zko,ztO,zoJ,Tr.val,zV hi,zK hi,if_true,zl2 ns _ hi]
  rw [zH i (by unfold zI; omega)]
  by_cases c1:(0:Int)≤zak y.1 ns[i]
  ·have:decide (LT.lt (α:=Int) (zak y.1 ns[i]) 0)=false:=by simpa using c1
   simp only [this]
   refine Or.inl ⟨(),fun j hj hji=>?_,rfl⟩
   by_cases hji2:j=i
   ·subst hji2; exact c1
   ·exact hI j hj (by omega)
  ·have:decide (LT.lt (α:=Int) (zak y.1 ns[i]) 0)=true:=by simpa using c1
   simp only [this,if_true]
   exact Or.inr ⟨_,rfl,6,y,rfl,rfl,rfl,rfl,fun h=>by cases h⟩
 ·intro b n hI hn
  obtain ⟨n,rfl⟩:∃ k,n=k+1:=⟨n - 1,by omega⟩
  have h1:(0:Int)≤zak y.1 y.2.2.2.2.2.1:=by
   have:=hI 0 (by rw [hns]; split <;> simp) (by rw [hns]; split <;> simp)
   simp only [hns] at this
   revert this
   split <;> exact id
  have h2:y.2.2.2.2.2.2.1=[]∨(0:Int)≤zak y.1 y.2.2.2.2.2.2.1:=by
   by_cases hw:(y.2.2.2.2.2.2.1==[])=true
   ·left; simpa using hw
   ·right
    have e:ns=[y.2.2.2.2.2.1,y.2.2.2.2.2.2.1]:=by rw [hns,if_neg hw]
    have:=hI 1 (by rw [e]; simp) (by rw [e]; simp)
    simpa [e] using this
  rw [zcm]
  simp only [zko,ztO,zoJ,Tr.val,zP]
  by_cases c1:(bif decide (GE.ge (α:=Int) (zak y.1 y.2.1.2.1) 0) then true else y.2.2.2.2.2.1==y.2.2.2.2.2.2.1)=true
  ·simp only [c1,if_true]
   exact ⟨_,rfl,7,y,rfl,rfl,rfl,rfl,fun h=>by cases h⟩
  ·simp only [c1]
   have hd:decide (GE.ge (α:=Int) (zak y.1 y.2.1.2.1) 0)=false:=by
    cases hh:decide (GE.ge (α:=Int) (zak y.1 y.2.1.2.1) 0) with
    | false=>rfl
    | true=>rw [hh] at c1; simp at c1
   rw [hd] at c1
   exact zVK y ns hl h1 h2 (by simpa using hd) (by simpa using c1) n (by omega)

theorem zxw (y:zj zal) (hl:List.length y.1≤1000000):∃ (e:Int) (y':zj zal),zd6 y=some ((e,()),y')∧y'.1=y.1∧y'.2.1=y.2.1∧y'.2.2.2.2=y.2.2.2.2∧(e=0→zG2 y y'):=by
 have hps:zhi (y.2.2.2.2.1,y.2.2.2.2.2.1,y.2.2.2.2.2.2.1,(y.2.2.2.2.2.2.2.1,[],y.2.2.2.2.2.2.2.2.1,[],[],zz y.2.2.2.2.2.2.2.2.2.1),[],y.2.2.2.2.2.2.2.2.2.2.1)=if (y.2.2.2.2.2.2.1==[])=true then [y.2.2.2.2.2.1] else [y.2.2.2.2.2.1,y.2.2.2.2.2.2.1]:=rfl
 obtain ⟨r,h1,e,y',rfl,h2⟩:=zWo y _ hps hl 100000000 (by
  have:List.length (zhi (y.2.2.2.2.1,y.2.2.2.2.2.1,y.2.2.2.2.2.2.1,(y.2.2.2.2.2.2.2.1,[],y.2.2.2.2.2.2.2.2.1,[],[],zz y.2.2.2.2.2.2.2.2.2.1),[],y.2.2.2.2.2.2.2.2.2.2.1))≤2:=by rw [hps]; split <;> simp
  omega)
 refine ⟨e,y',?_,h2⟩
 unfold zd6 zfE zbk
 simp only [zHM,zKM,Tr.val]
 rw [h1]
 exact zbs (outs:=[zg]) (r:=.int .i64 e) (a:=(e,())) y' rfl
open Go Go.Proofs
set_option maxHeartbeats 4000000

theorem ztw {i n:Nat} (h:i < n):decide ((i:Int).toNat < n)=true:=by simpa using h

theorem zkR (y:zj zX) (hl:y.2.2.2.2.2.2.2.2.1.length≤1000000):∃ e:Int,zfa y=some ((e,()),y):=by
 have h:=zdf (t:=zrn) (β:=Unit) y.2.2.2.2.2.2.2.2.1.length (fun _ i=>.h2 (y.2.2.2.2.2.2.2.2.1.length:Int) (i:Int) y) (fun _ _=>True) (fun r=>∃ e:Int,r=(.int .i64 e,zY zX y)) 1 (by
   intro b i hi _
   simp only [zrn,zux,zoM,Tr.val,zV hi,zK hi,ztw hi,if_true]
   rw [zH i (by unfold zI; omega)]
   split
   ·exact Or.inr ⟨_,rfl,7,rfl⟩
   ·exact Or.inl ⟨(),trivial,rfl⟩) (by
   intro b n _ hn
   obtain ⟨n,rfl⟩:∃ k,n=k+1:=⟨n - 1,by omega⟩
   have hv:∃ e:Int,(zrn (.h2 (y.2.2.2.2.2.2.2.2.1.length:Int) (y.2.2.2.2.2.2.2.2.1.length:Int) y)).val=some (.inr (.int .i64 e,zY zX y)):=by
    simp only [zrn,zux,zoM,Tr.val,zP]
    split
    ·simp_all
    ·split
     ·exact ⟨_,rfl⟩
     ·split <;> exact ⟨_,rfl⟩
   obtain ⟨e,hv⟩:=hv
   rw [zcm,hv]
   exact ⟨_,rfl,e,rfl⟩)
  y.2.2.2.2.2.2.2.2.1.length 0 () 100000000 rfl (Nat.zero_le _) trivial (by omega)
 obtain ⟨r,h1,e,rfl⟩:=h
 refine ⟨e,?_⟩
 unfold zfa zfE zbk
 simp only [zJP,Tr.val]
 have h1':zb8 zrn 100000000 (.h2 (y.2.2.2.2.2.2.2.2.1.length:Int) 0 y)=some (.int .i64 e,zY zX y):=h1
 rw [h1']
 exact zbs (outs:=[zg]) (r:=.int .i64 e) (a:=(e,())) y rfl
end Cad
