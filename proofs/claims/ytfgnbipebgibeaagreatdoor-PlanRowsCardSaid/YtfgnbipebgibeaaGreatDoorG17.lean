/- The document's names are the program's. The document's expressions: values; tables that may be. The document's expressions that may be are the program's. The document's expressions that may be are the program's: nodes. The document's types and values of expressions are the program's. The document's values of expressions are the program's. The document's expressions that may be are the program's, and no others. The document's tables that may be are the program's. The document's tables that may be are the program's. -/
import Derived.Test.YtfgnbipebgibeaaGreatDoorG16
import Derived.Test.YtfgnbipebgibeaaGreatDoorG13
import Derived.Test.YtfgnbipebgibeaaGreatDoorG14
namespace Cad
open Go Go.Proofs
set_option maxHeartbeats 4000000

theorem znE (c:Int):zjp c=some (zaE c,()):=by
 unfold zjp zaj zbk
 simp only [zz8,zF1,Tr.val,zaE]
 by_cases h1:97≤c
 ·have e1:decide (97≤c)=true:=decide_eq_true h1
  have e2:decide (c≤90)=false:=decide_eq_false (by omega)
  have e3:decide (65≤c)=true:=decide_eq_true (by omega)
  simp [e1,e2,e3]
  rfl
 ·have e1:decide (97≤c)=false:=decide_eq_false h1
  simp [e1]
  rfl
theorem znB (c:Int):zeC c=true:=by unfold zeC; rw [znE]; rfl
theorem zpC (c:Int):zgc c=zaE c:=by unfold zgc; rw [znE]; rfl
theorem zqT (c:Int):zrs c=some (zaq c,()):=rfl
theorem zzz (c:Int):zc6 c=true:=by unfold zc6; rw [zqT]; rfl
theorem zCh (c:Int):zdM c=zaq c:=by unfold zdM; rw [zqT]; rfl
theorem ztu (c:Int):zou c=some (zbd c,()):=by
 unfold zou zaj zbk
 simp only [zAv,Tr.val,zzz,zCh,znB,zpC,zbd]
 cases zaq c <;> cases zaE c <;> rfl
theorem zBY (c:Int):zjS c=true:=by unfold zjS; rw [ztu]; rfl
theorem zGE (c:Int):zm0 c=zbd c:=by unfold zm0; rw [ztu]; rfl

theorem zxd (p:Int→Bool):∀ s:Str,zhx p s=s.length↔∀ c∈s,p c.toNat=true
 | []=>by simp [zhx]
 | c::r=>by
  have ih:=zxd p r
  rw [zhx]
  by_cases h:p c.toNat=true
  ·rw [if_pos h]
   simp only [List.length_cons,List.mem_cons,forall_eq_or_imp]
   constructor
   ·intro h2; exact ⟨h,ih.1 (by omega)⟩
   ·intro h2; rw [ih.2 h2.2]
  ·rw [if_neg h]
   simp only [List.length_cons,List.mem_cons,forall_eq_or_imp]
   exact ⟨fun h2=>absurd h2 (by omega),fun h2=>absurd h2.1 h⟩
theorem zw9 {c:Int} (h:zaE c=true):zbd c=true:=by
 unfold zbd; rw [h]; rfl

theorem zCE (s:Str):ziZ s=true↔(1≤s.length∧s.length≤16∧zaE (List.getD s 0 0).toNat=true∧∀ c∈s,zbd c.toNat=true):=by
 unfold ziZ
 cases s with
 | nil=>simp
 | cons c r=>
  have e1:decide (((c::r).length:Int) ≥ 1)=true:=decide_eq_true (by simp; omega)
  rw [e1]
  by_cases h:(c::r).length≤16
  ·have e2:decide (((c::r).length:Int)≤16)=true:=decide_eq_true (by omega)
   rw [e2]
   simp only [cond_true]
   have ha:=zxd zbd r
   by_cases hl:zaE c.toNat=true
   ·have er:zaA zaE zbd (c::r)=zhx zbd r+1:=by rw [zaA,if_pos hl]
    rw [er]
    constructor
    ·intro h2
     have:zhx zbd r=r.length:=by simp at h2; omega
     refine ⟨by simp,h,hl,?_⟩
     intro x hx
     rcases List.mem_cons.1 hx with rfl | hx
     ·exact zw9 hl
     ·exact ha.1 this x hx
    ·rintro ⟨_,_,_,h3⟩
     have:=ha.2 (fun x hx=>h3 x (List.mem_cons_of_mem _ hx))
     simp [this]
   ·have er:zaA zaE zbd (c::r)=0:=by rw [zaA,if_neg hl]
    rw [er]
    constructor
    ·intro h2
     simp at h2
     omega
    ·rintro ⟨_,_,h2,_⟩
     exact absurd h2 hl
  ·have e2:decide (((c::r).length:Int)≤16)=false:=decide_eq_false (by omega)
   rw [e2]
   simp only [cond_true,cond_false]
   exact ⟨fun h=>(by cases h),fun h2=>absurd h2.2.1 h⟩

theorem ztA {s:Str} (hl:s.length≤1000000):zuK s=some (zcf s,()):=by
 have hf:=For (t:=zwV) (Φ:=fun r=>r=(.kb false,[])) 1 (fun i=>.h2 s (i:Int)) (fun i=>zbd (List.getD s i 0).toNat=true) s.length (by
  intro i hi _
  have hv:(zwV (.h2 s (i:Int))).val=if (!zbd (List.getD s i 0).toNat)=true then some (.inr (.kb false,[])) else some (.inl (.h2 s ((i+1:Nat):Int))):=by
   show (zly _ _).val=_
   unfold zly
   simp only [zqn,Tr.val,zV hi,zK hi,Int.toNat_natCast,zBY,zGE,if_true]
   rw [zH i (by unfold zI; omega)]
  by_cases h:zbd (List.getD s i 0).toNat=true
  ·exact .inl ⟨h,zaz.of (by rw [hv,if_neg (by rw [h]; simp)])⟩
  ·exact .inr ⟨h,_,zaI.of (by rw [hv,if_pos (by simpa using h)]),rfl⟩)
 have hi:(zAt s).val=some (.inl (.h2 s ((0:Nat):Int))):=rfl
 have hq:=zZ (l:=s) (d:=0) (Q:=fun c=>zbd c.toNat=true)
 have hw:=zCE s
 rcases hf with ⟨h1,h2⟩ | ⟨h1,r,h2,rfl⟩
 ·refine zO hi (h2.ends (zaI.of (r:=(.bool (zcf s),[])) ?_)) (by omega) rfl
  show (zly _ _).val=_
  unfold zly
  simp only [zqn,Tr.val,zP,znB,zpC]
  have e:zcf s=(bif decide (1≤(s.length:Int)) then bif decide ((s.length:Int)≤16) then zaE (List.getD s (Int.toNat 0) 0).toNat else false else false):=by
   apply Bool.eq_iff_iff.2
   unfold zcf
   rw [hw]
   by_cases k1:1≤s.length
   ·have e1:decide (1≤(s.length:Int))=true:=decide_eq_true (by omega)
    rw [e1]
    by_cases k2:s.length≤16
    ·have e2:decide ((s.length:Int)≤16)=true:=decide_eq_true (by omega)
     rw [e2]
     exact ⟨fun h=>h.2.2.1,fun h=>⟨k1,k2,h,hq.1 h1⟩⟩
    ·have e2:decide ((s.length:Int)≤16)=false:=decide_eq_false (by omega)
     rw [e2]
     exact ⟨fun h=>absurd h.2.1 k2,fun h=>(by cases h)⟩
   ·have e1:decide (1≤(s.length:Int))=false:=decide_eq_false (by omega)
    rw [e1]
    exact ⟨fun h=>absurd h.1 k1,fun h=>(by cases h)⟩
  rw [e]
  by_cases k1:1≤s.length
  ·have e0:inB 0 s.length=true:=zK (i:=0) (by omega)
   rw [e0]
   cases decide (1≤(s.length:Int)) <;> cases decide ((s.length:Int)≤16) <;> rfl
  ·have e1:decide (1≤(s.length:Int))=false:=decide_eq_false (by omega)
   rw [e1]; rfl
 ·have e:zcf s=false:=by
   cases hh:zcf s with
   | false=>rfl
   | true=>exact absurd (hq.2 (hw.1 hh).2.2.2) h1
  rw [e]
  exact zO hi h2 (by omega) rfl
theorem zsO {s:Str} (hl:s.length≤1000000):zjz s=true:=by unfold zjz; rw [ztA hl]; rfl
theorem zxa {s:Str} (hl:s.length≤1000000):ziU s=zcf s:=by unfold ziU; rw [ztA hl]; rfl

noncomputable def znf:List Str:=match (zxS []).val with
 | some (.inl (.h3 _ l _))=>l
 | _=>[]
theorem zEe:znf.length=38:=by kernel_rfl
theorem zD6:(znf.all fun w=>(zqk.map (·.1)).contains w)=true:=by kernel_rfl
theorem zDY:(zqk.all fun w=>znf.contains w.1)=true:=by kernel_rfl
theorem zyo:(zqk.all fun w=>w.2)=true:=by kernel_rfl
theorem zAZ (s:Str):∀ l:List (Str×Bool),(l.all fun w=>w.2)=true→(swV s l false=true↔s∈l.map (·.1))
 | [],_=>by simp [swV]
 | (w,b)::r,h=>by
  simp only [List.all_cons,Bool.and_eq_true] at h
  obtain ⟨rfl,h⟩:=h
  rw [swV]
  by_cases e:(s==w)=true
  ·have:s=w:=eq_of_beq e
   rw [if_pos e]; simp [this]
  ·rw [if_neg e,zAZ s r h]
   have:s≠w:=fun h=>e (by rw [h]; simp)
   simp [this]
theorem zAD (s:Str):zeW s=true↔s∈znf:=by
 unfold zeW
 rw [zAZ s zqk zyo]
 constructor
 ·intro h
  obtain ⟨w,hw,rfl⟩:=List.mem_map.1 h
  have:=List.all_eq_true.1 zDY w hw
  simpa using this
 ·intro h
  have:=List.all_eq_true.1 zD6 s h
  simpa using this

theorem zwv (s:Str):zzI s=some (zeW s,()):=by
 have hn:=zEe
 have hf:=For (t:=zwp) (Φ:=fun r=>r=(.kb true,[])) 1 (fun i=>.h3 s znf (i:Int)) (fun i=>List.getD znf i (zl Sh.str)≠s) znf.length (by
  intro i hi _
  have hv:(zwp (.h3 s znf (i:Int))).val=if (List.getD znf i (zl Sh.str)==s)=true then some (.inr (.kb true,[])) else some (.inl (.h3 s znf ((i+1:Nat):Int))):=by
   show (zma _ _ _).val=_
   unfold zma
   simp only [Tr.val,zV hi,zK hi,Int.toNat_natCast,if_true]
   rw [zH i (by unfold zI; omega)]
  by_cases h:List.getD znf i (zl Sh.str)=s
  ·exact .inr ⟨fun h2=>h2 h,_,zaI.of (by rw [hv,if_pos (by rw [h]; simp)]),rfl⟩
  ·exact .inl ⟨h,zaz.of (by rw [hv,if_neg (fun h2=>h (eq_of_beq h2))])⟩)
 have hi:(zxS s).val=some (.inl (.h3 s znf ((0:Nat):Int))):=rfl
 have hq:=zZ (l:=znf) (d:=zl Sh.str) (Q:=fun w=>w≠s)
 rcases hf with ⟨h1,h2⟩ | ⟨h1,r,h2,rfl⟩
 ·have e:zeW s=false:=by
   cases hh:zeW s with
   | false=>rfl
   | true=>exact absurd rfl (hq.1 h1 s ((zAD s).1 hh))
  rw [e]
  refine zO hi (h2.ends (zaI.of (r:=(.kb false,[])) ?_)) (by omega) rfl
  show (zma _ _ _).val=_
  unfold zma
  simp only [Tr.val,zP]
  rfl
 ·have e:zeW s=true:=by
   cases hh:zeW s with
   | true=>rfl
   | false=>exact absurd (hq.2 fun w hw hws=>by rw [hws] at hw; rw [(zAD s).2 hw] at hh; cases hh) h1
  rw [e]
  exact zO hi h2 (by omega) rfl
theorem zwO (s:Str):zm2 s=true:=by unfold zm2; rw [zwv]; rfl
theorem zz3 (s:Str):zsW s=zeW s:=by unfold zsW; rw [zwv]; rfl

theorem zsJ {s:Str} (hl:s.length≤1000000):zoA s=some (zaB s,()):=by
 unfold zoA zaj zbk
 simp only [zJz,Tr.val,zsO hl,zxa hl,zwO,zz3,zaB]
 cases zcf s <;> rfl
theorem znp {s:Str} (hl:s.length≤1000000):zcX s=true:=by unfold zcX; rw [zsJ hl]; rfl
theorem zqv {s:Str} (hl:s.length≤1000000):zdT s=zaB s:=by unfold zdT; rw [zsJ hl]; rfl
open Go Go.Proofs
noncomputable section
set_option maxHeartbeats 4000000

def zkm (g:Sem Sh.expr→Sem (Sh.sl zh)→Sem (Sh.sl zf)→Sem zf) (c:Sem Sh.expr→Sem (Sh.sl zh)→Sem (Sh.sl zf)→Bool):Env:=zcs.add 103 (zG [Sh.expr,Sh.sl zh,Sh.sl zf] [zf] (fun x=>c x.1 x.2.1 x.2.2.1) fun x=>(g x.1 x.2.1 x.2.2.1,()))
theorem zyQ {g:Sem Sh.expr→Sem (Sh.sl zh)→Sem (Sh.sl zf)→Sem zf} {c:Sem Sh.expr→Sem (Sh.sl zh)→Sem (Sh.sl zf)→Bool} (hg:FOk zcs.P zcs.gl 103 (zG [Sh.expr,Sh.sl zh,Sh.sl zf] [zf] (fun x=>c x.1 x.2.1 x.2.2.1) fun x=>(g x.1 x.2.1 x.2.2.1,()))):zi (zkm g c):=zks.add hg
theorem zyp {g:Sem Sh.expr→Sem (Sh.sl zh)→Sem (Sh.sl zf)→Sem zf} {c:Sem Sh.expr→Sem (Sh.sl zh)→Sem (Sh.sl zf)→Bool}:(zkm g c).P.follows .mixedOrders=true:=zm zkp _ _
abbrev zzs:Nat→zQ:=fun j=>if j=6 then { slots:=[1,2,3,6,7] } else { }
inductive zlu where
 | h6 (l1:LC) (l2:LV) (i7:Int) (z0:zj [CP.d Sh.expr]) (z1:zj [CP.d zf])
abbrev zwk:zlu→Nat×St
 | .h6 l1 l2 i7 z0 z1=>(6,⟨tm 103 [(1,AV.sl zh l1),(2,AV.sl zf l2),(3,AV.ptr 0 0),(6,AV.ptr 1 0),(7,AV.int .i64 i7)],[AO.box (cpN [] [CP.d Sh.expr] z0),AO.box (cpN [] [CP.d zf] z1)]⟩)
theorem zNb (g:Sem Sh.expr→Sem zh.sl→Sem zf.sl→Sem zf) (c:Sem Sh.expr→Sem zh.sl→Sem zf.sl→Bool):zF (zkm g c).P 103 Tryz.f103 3:=by refine ⟨?_,?_,?_,?_⟩ <;> kernel_rfl
def zOb (_:Sem Sh.expr→Sem zh.sl→Sem zf.sl→Sem zf) (c:Sem Sh.expr→Sem zh.sl→Sem zf.sl→Bool) (x0:Sem Sh.expr) (x1:Sem zh.sl) (x2:Sem zf.sl) (a0:ze) (a1:Sem zf) (a2:Sem zf) (a3:Bool) (a4:Sem zf) (a5:ze) (a6:Sem zf) (a7:Sem zf) (a8:Sem zf) (a9:Sem zf) (a10:Sem zf) (a11:Sem zf) (a12:Sem zf):Tr (zlu ⊕ Raw):=
 Tr.br (ze.op x0==[108,105,116])
 (Tr.re (AV.agg [AV.int .i64 (ze.v x0).1,AV.int .i64 (ze.v x0).2.1,AV.str (ze.v x0).2.2]) [])
 (Tr.br (ze.op x0==[99,111,108]) (Tr.to (zlu.h6 x1 x2 0 (x0,()) ((0,0,[]),())))
  (Tr.chk (inB 0 (ze.l x0).length) (Tr.chk (c a0 x1 x2) (Tr.br (ze.op x0==[110,111,116]) (Tr.chk (zrP a1) (Tr.re (AV.agg [AV.int .i64 a2.1,AV.int .i64 a2.2.1,AV.str a2.2.2]) [])) (Tr.br (ze.op x0==[110,117,108,108]) (Tr.chk (ziJ a1) (Tr.br (!zn1 a1) (Tr.chk true
  (Tr.re (AV.agg [AV.int .i64 (zap true).1,AV.int .i64 (zap true).2.1,AV.str (zap true).2.2]) [])) (Tr.chk (zfo a3) (Tr.re (AV.agg [AV.int .i64 a4.1,AV.int .i64 a4.2.1,AV.str a4.2.2]) [])))) (Tr.chk (inB 1 (ze.l x0).length) (Tr.chk (c a5 x1 x2) (Tr.br (ze.op x0==[97,110,100])
  (Tr.chk (zq3 a1 a6) (Tr.re (AV.agg [AV.int .i64 a7.1,AV.int .i64 a7.2.1,AV.str a7.2.2]) [])) (Tr.br (ze.op x0==[111,114]) (Tr.chk (zxj a1 a6) (Tr.re (AV.agg [AV.int .i64 a8.1,AV.int .i64 a8.2.1,AV.str a8.2.2]) [])) (Tr.br (ze.op x0==[61]) (Tr.chk (ziS a1 a6) (Tr.re (AV.agg [AV.int .i64 a9.1,AV.int .i64 a9.2.1,AV.str a9.2.2]) [])) (Tr.br (ze.op x0==[60])
  (Tr.chk (zl5 a1 a6) (Tr.re (AV.agg [AV.int .i64 a10.1,AV.int .i64 a10.2.1,AV.str a10.2.2]) [])) (Tr.br (ze.op x0==[43]) (Tr.chk (zl6 a1 a6) (Tr.re (AV.agg [AV.int .i64 a11.1,AV.int .i64 a11.2.1,AV.str a11.2.2]) [])) (Tr.chk (ziE a1 a6) (Tr.re (AV.agg [AV.int .i64 a12.1,AV.int .i64 a12.2.1,AV.str a12.2.2]) []))))))))))))))
def zi8 (g:Sem Sh.expr→Sem zh.sl→Sem zf.sl→Sem zf) (c:Sem Sh.expr→Sem zh.sl→Sem zf.sl→Bool) (x0:Sem Sh.expr) (x1:Sem zh.sl) (x2:Sem zf.sl):Tr (zlu ⊕ Raw):=
 let a0:=zz ((ze.l x0).getD (Int.toNat 0) (zl Sh.expr))
 let a1:=g a0 x1 x2
 let a2:=zpx a1
 let a3:=a1.1==0
 let a4:=zap a3
 let a5:=zz ((ze.l x0).getD (Int.toNat 1) (zl Sh.expr))
 let a6:=g a5 x1 x2
 let a7:=zq2 a1 a6
 let a8:=zzi a1 a6
 let a9:=zhH a1 a6
 let a10:=zkx a1 a6
 let a11:=zkt a1 a6
 let a12:=zhW a1 a6
 zOb g c x0 x1 x2 a0 a1 a2 a3 a4 a5 a6 a7 a8 a9 a10 a11 a12
def zru (_:Sem Sh.expr→Sem zh.sl→Sem zf.sl→Sem zf) (_:Sem Sh.expr→Sem zh.sl→Sem zf.sl→Bool) (l1:LC) (l2:LV) (i7:Int) (z0:zj [CP.d Sh.expr]) (z1:zj [CP.d zf]) (a0:Sem zh) (a1:Sem zf):Tr (zlu ⊕ Raw):=
 Tr.br (decide (i7 < (↑l1.length:Int)))
 (Tr.chk (inB i7 l1.length)
  (Tr.br (a0.1==ze.s z0.1) (Tr.br (decide (i7 < (↑l2.length:Int))) (Tr.chk (inB i7 l2.length) (Tr.re (AV.agg [AV.int .i64 a1.1,AV.int .i64 a1.2.1,AV.str a1.2.2]) [])) (Tr.re (AV.agg [AV.int .i64 0,AV.int .i64 0,AV.str []]) [])) (Tr.to (zlu.h6 l1 l2 (IntKind.i64.wrap (i7+1)) z0 z1))))
 (Tr.re (AV.agg [AV.int .i64 0,AV.int .i64 0,AV.str []]) [])
def zuo (g:Sem Sh.expr→Sem zh.sl→Sem zf.sl→Sem zf) (c:Sem Sh.expr→Sem zh.sl→Sem zf.sl→Bool) (l1:LC) (l2:LV) (i7:Int) (z0:zj [CP.d Sh.expr]) (z1:zj [CP.d zf]):Tr (zlu ⊕ Raw):=
 let a0:=l1.getD i7.toNat (zl zh)
 let a1:=l2.getD i7.toNat (zl zf)
 zru g c l1 l2 i7 z0 z1 a0 a1
theorem zPr (g:Sem Sh.expr→Sem zh.sl→Sem zf.sl→Sem zf) (c:Sem Sh.expr→Sem zh.sl→Sem zf.sl→Bool) (x0:Sem Sh.expr) (x1:Sem zh.sl) (x2:Sem zf.sl):run (zkm g c) 0 zzs (Func.results Tryz.f103).toList 400 (zq Tryz.f103) (zp (Func.ntmps Tryz.f103) [zx Sh.expr x0,zx zh.sl x1,zx zf.sl x2] [])=(zi8 g c x0 x1 x2).map (lf Tryz.f103 zwk):=by kernel_rfl
def znR (g:Sem Sh.expr→Sem zh.sl→Sem zf.sl→Sem zf) (c:Sem Sh.expr→Sem zh.sl→Sem zf.sl→Bool):zlu→Tr (zlu ⊕ Raw)
 | .h6 l1 l2 i7 z0 z1=>zuo g c l1 l2 i7 z0 z1
theorem zOY (g:Sem Sh.expr→Sem zh.sl→Sem zf.sl→Sem zf) (c:Sem Sh.expr→Sem zh.sl→Sem zf.sl→Bool):∀ s,run (zkm g c) 0 zzs (Func.results Tryz.f103).toList 400 (zA Tryz.f103 (zwk s).1) (zwk s).2=(znR g c s).map (lf Tryz.f103 zwk)
 | .h6 l1 l2 i7 z0 z1=>by kernel_rfl
def zdN (o:Option (zo (List.map some [zf]))):Sem zf:=(fun r:zo (List.map some [zf])=>r.1) (o.getD (zad [zf]))
def zzY (g:Sem Sh.expr→Sem zh.sl→Sem zf.sl→Sem zf) (c:Sem Sh.expr→Sem zh.sl→Sem zf.sl→Bool) (x0:Sem Sh.expr) (x1:Sem zh.sl) (x2:Sem zf.sl):Option (zo (List.map some [zf])):=zaj [zf] (znR g c) 100000000 (zi8 g c x0 x1 x2)
def za3:Nat→Sem Sh.expr→Sem zh.sl→Sem zf.sl→Option (zo (List.map some [zf]))
 | 0=>fun _ _ _=>none
 | n+1=>zzY (fun x0 x1 x2=>zdN (za3 n x0 x1 x2)) fun x0 x1 x2=>(za3 n x0 x1 x2).isSome
theorem zGb:zF zcs.P 103 Tryz.f103 3:=by refine ⟨?_,?_,?_,?_⟩ <;> kernel_rfl
theorem zNX (g:Sem Sh.expr→Sem zh.sl→Sem zf.sl→Sem zf) (c:Sem Sh.expr→Sem zh.sl→Sem zf.sl→Bool):zB (zkm g c) zcs:=(zB.refl zcs).add _ _
theorem zxT:∀ n,FOk zcs.P zcs.gl 103 (zG [Sh.expr,zh.sl,zf.sl] [zf] (fun x=>(za3 n x.1 x.2.1 x.2.2.1).isSome) fun x=>(zdN (za3 n x.1 x.2.1 x.2.2.1),()))
 | 0=>zdK ⟨Tryz.f103,zGb.1,zGb.2.1,zGb.2.2.1⟩ (fun _=>rfl)
 | n+1=>zg7 (zNX _ _) <| zae (E:=zkm (fun x0 x1 x2=>zdN (za3 n x0 x1 x2)) (fun x0 x1 x2=>(za3 n x0 x1 x2).isSome)) (ks:=[Sh.expr,zh.sl,zf.sl]) (outs:=[zf]) (keep:=zzs) (gas:=400) (n:=100000000) (e:=zwk) (t:=znR (fun x0 x1 x2=>zdN (za3 n x0 x1 x2)) (fun x0 x1 x2=>(za3 n x0 x1 x2).isSome)) (i:=fun x=>zi8 (fun x0 x1 x2=>zdN (za3 n x0 x1 x2)) (fun x0 x1 x2=>(za3 n x0 x1 x2).isSome) x.1 x.2.1 x.2.2.1) (zyQ (zxT n)) zyp (zNb _ _) (fun x=>zPr _ _ x.1 x.2.1 x.2.2.1) (zOY _ _) (fun _=>by kernel_rfl) (fun _=>by kernel_rfl)
def zoy (x0:Sem Sh.expr) (x1:Sem zh.sl) (x2:Sem zf.sl):Option (zo (List.map some [zf])):=za3 16 x0 x1 x2
def zpd (x0:Sem Sh.expr) (x1:Sem zh.sl) (x2:Sem zf.sl):Bool:=(zoy x0 x1 x2).isSome
def zvk (x0:Sem Sh.expr) (x1:Sem zh.sl) (x2:Sem zf.sl):Sem zf:=zdN (zoy x0 x1 x2)
def zKa:zJ:=zG [Sh.expr,zh.sl,zf.sl] [zf] (fun x=>zpd x.1 x.2.1 x.2.2.1) fun x=>(zvk x.1 x.2.1 x.2.2.1,())
theorem zIs:FOk zcs.P zcs.gl 103 zKa:=zxT 16

abbrev zC8:Nat→zQ:=fun j=>if j=5 then { slots:=[1,3,4] } else if j=11 then { slots:=[1,3,6] } else if j=16 then { slots:=[1,3,7] } else { }
inductive zi9 where
 | h5 (i3:Int) (i4:Int) (z0:zj [CP.d zn])
 | h11 (i3:Int) (i6:Int) (z0:zj [CP.d zn])
 | h16 (i3:Int) (i7:Int) (z0:zj [CP.d zn])
abbrev zGS:zi9→Nat×St
 | .h5 i3 i4 z0=>(5,⟨tm 139 [(1,AV.ptr 0 0),(3,AV.int .i64 i3),(4,AV.int .i64 i4)],[AO.box (cpN [] [CP.d zn] z0)]⟩)
 | .h11 i3 i6 z0=>(11,⟨tm 139 [(1,AV.ptr 0 0),(3,AV.int .i64 i3),(6,AV.int .i64 i6)],[AO.box (cpN [] [CP.d zn] z0)]⟩)
 | .h16 i3 i7 z0=>(16,⟨tm 139 [(1,AV.ptr 0 0),(3,AV.int .i64 i3),(7,AV.int .i64 i7)],[AO.box (cpN [] [CP.d zn] z0)]⟩)
theorem zSX:zF zcs.P 59 Tryz.f59 1:=by refine ⟨?_,?_,?_,?_⟩ <;> kernel_rfl
def zLa (x0:Sem zn) (a0:Int) (a1:Bool) (a2:Bool) (a3:Bool) (a4:Bool) (a5:Sem zh):Tr (zi9 ⊕ Raw):=
 Tr.chk
 (zcX x0.1&&
  bif !zdT x0.1 then true
  else bif a1 then true else bif a2 then true else bif a3 then true else bif a4 then true else inB x0.2.2.1 (List.length x0.2.1))
 (Tr.br (bif !zdT x0.1 then true else bif a1 then true else bif a2 then true else bif a3 then true else bif a4 then true else !a5.2.2)
  (Tr.re (AV.kb false) []) (Tr.to (zi9.h5 a0 0 (x0,()))))
def zEF (x0:Sem zn):Tr (zi9 ⊕ Raw):=
 let a0:=(↑(List.length x0.2.1):Int)
 let a1:=decide (a0 < 1)
 let a2:=decide (a0 > 8)
 let a3:=decide (x0.2.2.1 < 0)
 let a4:=decide (x0.2.2.1 ≥ a0)
 let a5:=List.getD x0.2.1 (Int.toNat x0.2.2.1) (zl zh)
 zLa x0 a0 a1 a2 a3 a4 a5
def zuC (i3:Int) (i4:Int) (z0:zj [CP.d zn]) (a0:Sem zh) (a1:Bool) (a2:Bool) (a3:Bool):Tr (zi9 ⊕ Raw):=
 Tr.br (decide (i4 < i3))
 (Tr.chk (inB i4 (List.length z0.1.2.1))
  (Tr.chk (zcX a0.1&&bif a1 then true else bif a2 then true else bif a3 then true else zmt z0.1.2.1 a0.1) (Tr.br (bif a1 then true else bif a2 then true else bif a3 then true else zoR z0.1.2.1 a0.1 != i4) (Tr.re (AV.kb false) []) (Tr.to (zi9.h5 i3 (IntKind.i64.wrap (i4+1)) z0)))))
 (Tr.to (zi9.h11 i3 0 z0))
def zzu (i3:Int) (i4:Int) (z0:zj [CP.d zn]):Tr (zi9 ⊕ Raw):=
 let a0:=List.getD z0.1.2.1 i4.toNat (zl zh)
 let a1 := !zdT a0.1
 let a2:=decide (a0.2.1 < 1)
 let a3:=decide (a0.2.1 > 3)
 zuC i3 i4 z0 a0 a1 a2 a3
def zqR (i3:Int) (i6:Int) (z0:zj [CP.d zn]) (a0:Int) (a1:Bool) (a2:Sem zg) (a3:Bool):Tr (zi9 ⊕ Raw):=
 Tr.br (decide (i6 < a0))
 (Tr.chk (a1&&bif a3 then true else a1)
  (Tr.br (bif a3 then true else decide (a2 ≥ i3)) (Tr.re (AV.kb false) []) (Tr.to (zi9.h11 i3 (IntKind.i64.wrap (i6+1)) z0))))
 (Tr.to (zi9.h16 i3 0 z0))
def ztP (i3:Int) (i6:Int) (z0:zj [CP.d zn]):Tr (zi9 ⊕ Raw):=
 let a0:=(↑(List.length z0.1.2.2.2.1):Int)
 let a1:=inB i6 (List.length z0.1.2.2.2.1)
 let a2:=List.getD z0.1.2.2.2.1 i6.toNat (zl zg)
 let a3:=decide (a2 < 0)
 zqR i3 i6 z0 a0 a1 a2 a3
def zq1 (i3:Int) (i7:Int) (z0:zj [CP.d zn]) (a0:Int) (a1:Bool) (a2:Sem zt) (a3:Bool) (a4:Bool) (a5:ze):Tr (zi9 ⊕ Raw):=
 Tr.br (decide (i7 < a0))
 (Tr.chk (a1&&bif a3 then true else a1&&bif a4 then true else a1&&zcX a2.2)
  (Tr.br (bif a3 then true else bif a4 then true else !zdT a2.2) (Tr.re (AV.kb false) []) (Tr.to (zi9.h16 i3 (IntKind.i64.wrap (i7+1)) z0))))
 (Tr.chk (zla a5 z0.1.2.1) (Tr.re (AV.bool (zoL a5 z0.1.2.1==0)) []))
def zvD (i3:Int) (i7:Int) (z0:zj [CP.d zn]):Tr (zi9 ⊕ Raw):=
 let a0:=(↑(List.length z0.1.2.2.2.2.1):Int)
 let a1:=inB i7 (List.length z0.1.2.2.2.2.1)
 let a2:=List.getD z0.1.2.2.2.2.1 i7.toNat (zl zt)
 let a3:=decide (a2.1 < 0)
 let a4:=decide (a2.1 ≥ i3)
 let a5:=zz z0.1.2.2.2.2.2
 zq1 i3 i7 z0 a0 a1 a2 a3 a4 a5
theorem zQn (x0:Sem zn):run zcs 0 zC8 (Func.results Tryz.f59).toList 400 (zq Tryz.f59) (zp (Func.ntmps Tryz.f59) [zx zn x0] [])=(zEF x0).map (lf Tryz.f59 zGS):=by kernel_rfl
def zir:zi9→Tr (zi9 ⊕ Raw)
 | .h5 i3 i4 z0=>zzu i3 i4 z0
 | .h11 i3 i6 z0=>ztP i3 i6 z0
 | .h16 i3 i7 z0=>zvD i3 i7 z0
theorem zVe:∀ s,run zcs 0 zC8 (Func.results Tryz.f59).toList 400 (zA Tryz.f59 (zGS s).1) (zGS s).2=(zir s).map (lf Tryz.f59 zGS)
 | .h5 i3 i4 z0=>by kernel_rfl
 | .h11 i3 i6 z0=>by kernel_rfl
 | .h16 i3 i7 z0=>by kernel_rfl
def zy6 (x0:Sem zn):Option (zo (List.map some [Sh.bool])):=zaj [Sh.bool] zir 100000000 (zEF x0)
def zkr (x0:Sem zn):Bool:=(zy6 x0).isSome
def zrO (x0:Sem zn):Sem Sh.bool:=(fun r:zo (List.map some [Sh.bool])=>r.1) ((zy6 x0).getD (zad [Sh.bool]))
def zQS:zJ:=zG [zn] [Sh.bool] (fun x=>zkr x.1) fun x=>(zrO x.1,())
theorem zLA:FOk zcs.P zcs.gl 59 zQS:=zae (ks:=[zn]) (outs:=[Sh.bool]) (keep:=zC8) (gas:=400) (n:=100000000) (e:=zGS) (t:=zir) (i:=fun x=>zEF x.1) zks zkp zSX (fun x=>zQn x.1) zVe (fun _=>by kernel_rfl) (fun _=>by kernel_rfl)

def zbt:Env:=((zcs.add 103 zKa).add 59 zQS)
theorem zgq:zi zbt:=(zi.addS (zi.addS zks (zB.refl zcs) zIs) ((zB.refl zcs).add _ _) zLA)
theorem zf2:zbt.P.follows .mixedOrders=true:=(zm (zm zkp _ _) _ _)
end
open Go Go.Proofs
set_option maxHeartbeats 4000000

mutual
def WfE:ze→Prop
 | .mk _ v s l=>VOk v∧s.length≤1000000∧zg8 l
def zg8:List ze→Prop
 | []=>True
 | e::r=>WfE e∧zg8 r
end
theorem zg8.mem:∀ {l:List ze},zg8 l→∀ e∈l,WfE e
 | [],_,e,h=>by simp at h
 | x::r,h,e,he=>by
  rw [zg8] at h
  rcases List.mem_cons.1 he with rfl | he
  ·exact h.1
  ·exact zg8.mem h.2 e he

def zr6 (op:Str):Bool:=bif op==[97,110,100] then true else bif op==[111,114] then true else bif op==[61] then true else bif op==[60] then true else bif op==[43] then true else op==[45]
theorem zwu (s:Str):zyt s=some (zr6 s,()):=rfl
theorem zFG (s:Str):ztY s=true:=by unfold ztY; rw [zwu]; rfl
theorem zIY (s:Str):zz7 s=zr6 s:=by unfold zz7; rw [zwu]; rfl

def zba:Nat→ze→Bool
 | 0,_=>false
 | d+1,.mk op v s l=>
  if (op==[108,105,116])=true then (bif zbj v then bif s==[] then (l.length:Int)==0 else false else false) else
  if (op==[99,111,108])=true then (bif zax v then bif zcf s then bif !zeW s then (l.length:Int)==0 else false else false else false) else
  if (bif op==[110,111,116] then true else op==[110,117,108,108])=true then (bif zax v then bif s==[] then (match l with | [a]=>zba d a | _=>false) else false else false) else
  if zr6 op=true then (bif zax v then bif s==[] then (match l with | [a,b]=>bif zba d a then zba d b else false | _=>false) else false else false) else false
def nE:Nat→ze→Nat
 | 0,_=>0
 | d+1,.mk _ _ _ l=>1+(l.map (nE d)).sum

theorem zCz (d:Nat) (h:d≤1000):IntKind.i64.wrap (((d+1:Nat):Int) - 1)=(d:Int):=ziQ d (by unfold zI; omega)

theorem ztg:∀ (N d:Nat) (e:ze),d≤12→d < N→WfE e→zdq N e (d:Int)=some (zba d e,())
 | 0,_,_,_,h,_=>absurd h (by omega)
 | N+1,0,e,_,_,_=>by
  rw [zdq]
  unfold zvS zaj zbk
  rfl
 | N+1,d+1,.mk op v s l,h1,h2,hw=>by
  rw [WfE] at hw
  obtain ⟨hv,hs,hl⟩:=hw
  have hN:∀ a∈l,zdq N a (d:Int)=some (zba d a,()):=fun a ha=>ztg N d a (by omega) (by omega) (hl.mem a ha)
  rw [zdq]
  unfold zvS zaj zbk
  have hx:(((d+1:Nat):Int)==0)=false:=beq_eq_false_iff_ne.2 (by omega)
  simp only [zAW,zGL,Tr.val,zw,ze.op,ze.v,ze.s,ze.l,zl4 hv.2.2,zoI hv.2.2,zsO hs,zxa hs,zwO,zz3,zFG,zIY,zCz d (by omega),if_true,hx]
  match l,hN with
  | [],_=>
   simp only [zba,zax]
   rcases Bool.eq_false_or_eq_true (op==[108,105,116]) with c1 | c1
   ·rcases Bool.eq_false_or_eq_true (zbj v) with c5 | c5 <;> rcases Bool.eq_false_or_eq_true (s==[]) with c6 | c6 <;> (simp only [c1,c5,c6,cond_true,cond_false,if_true,if_false,Bool.false_eq_true,Bool.true_and]; rfl)
   rcases Bool.eq_false_or_eq_true (op==[99,111,108]) with c2 | c2
   ·rcases Bool.eq_false_or_eq_true (zax v) with c5 | c5 <;> rcases Bool.eq_false_or_eq_true (zcf s) with c6 | c6 <;> rcases Bool.eq_false_or_eq_true (zeW s) with c7 | c7 <;> (simp only [zax] at c5; simp only [c1,c2,c5,c6,c7,cond_true,cond_false,if_true,if_false,Bool.false_eq_true,Bool.true_and,Bool.not_true,Bool.not_false]; rfl)
   rcases Bool.eq_false_or_eq_true (bif op==[110,111,116] then true else op==[110,117,108,108]) with c3 | c3
   ·rcases Bool.eq_false_or_eq_true (zax v) with c5 | c5 <;> rcases Bool.eq_false_or_eq_true (s==[]) with c6 | c6 <;> (simp only [zax] at c5; simp only [c1,c2,c3,c5,c6,cond_true,cond_false,if_true,if_false,Bool.false_eq_true,Bool.true_and]; rfl)
   rcases Bool.eq_false_or_eq_true (zr6 op) with c4 | c4
   ·rcases Bool.eq_false_or_eq_true (zax v) with c5 | c5 <;> rcases Bool.eq_false_or_eq_true (s==[]) with c6 | c6 <;> (simp only [zax] at c5; simp only [c1,c2,c3,c4,c5,c6,cond_true,cond_false,if_true,if_false,Bool.false_eq_true,Bool.true_and]; rfl)
   ·simp only [c1,c2,c3,c4,if_false,Bool.false_eq_true,Bool.true_and]; rfl
  | [a],hN=>
   have ha:=hN a (by simp)
   simp only [zba,zax,show List.getD [a] (Int.toNat 0) (zl Sh.expr)=a from rfl,ha,show inB 0 [a].length=true from rfl,Option.isSome_some,show ∀ x,zh7 (some (x,()))=x from fun _=>rfl]
   rcases Bool.eq_false_or_eq_true (op==[108,105,116]) with c1 | c1
   ·rcases Bool.eq_false_or_eq_true (zbj v) with c5 | c5 <;> rcases Bool.eq_false_or_eq_true (s==[]) with c6 | c6 <;> (simp only [c1,c5,c6,cond_true,cond_false,if_true,if_false,Bool.false_eq_true,Bool.true_and]; rfl)
   rcases Bool.eq_false_or_eq_true (op==[99,111,108]) with c2 | c2
   ·rcases Bool.eq_false_or_eq_true (zax v) with c5 | c5 <;> rcases Bool.eq_false_or_eq_true (zcf s) with c6 | c6 <;> rcases Bool.eq_false_or_eq_true (zeW s) with c7 | c7 <;> (simp only [zax] at c5; simp only [c1,c2,c5,c6,c7,cond_true,cond_false,if_true,if_false,Bool.false_eq_true,Bool.true_and,Bool.not_true,Bool.not_false]; rfl)
   rcases Bool.eq_false_or_eq_true (bif op==[110,111,116] then true else op==[110,117,108,108]) with c3 | c3
   ·rcases Bool.eq_false_or_eq_true (zax v) with c5 | c5 <;> rcases Bool.eq_false_or_eq_true (s==[]) with c6 | c6 <;> rcases Bool.eq_false_or_eq_true (zba d a) with c7 | c7 <;> (simp only [zax] at c5; simp only [c1,c2,c3,c5,c6,c7,cond_true,cond_false,if_true,if_false,Bool.false_eq_true,Bool.true_and]; rfl)
   rcases Bool.eq_false_or_eq_true (zr6 op) with c4 | c4
   ·rcases Bool.eq_false_or_eq_true (zax v) with c5 | c5 <;> rcases Bool.eq_false_or_eq_true (s==[]) with c6 | c6 <;> rcases Bool.eq_false_or_eq_true (zba d a) with c7 | c7 <;> (simp only [zax] at c5; simp only [c1,c2,c3,c4,c5,c6,c7,cond_true,cond_false,if_true,if_false,Bool.false_eq_true,Bool.true_and]; rfl)
   ·simp only [c1,c2,c3,c4,if_false,Bool.false_eq_true,Bool.true_and]; rfl
  | [a,b],hN=>
   have ha:=hN a (by simp)
   have hb:=hN b (by simp)
   simp only [zba,zax,show List.getD [a,b] (Int.toNat 0) (zl Sh.expr)=a from rfl,show List.getD [a,b] (Int.toNat 1) (zl Sh.expr)=b from rfl,ha,hb,show inB 0 [a,b].length=true from rfl,show inB 1 [a,b].length=true from rfl,Option.isSome_some,show ∀ x,zh7 (some (x,()))=x from fun _=>rfl]
   rcases Bool.eq_false_or_eq_true (op==[108,105,116]) with c1 | c1
   ·rcases Bool.eq_false_or_eq_true (zbj v) with c5 | c5 <;> rcases Bool.eq_false_or_eq_true (s==[]) with c6 | c6 <;> (simp only [c1,c5,c6,cond_true,cond_false,if_true,if_false,Bool.false_eq_true,Bool.true_and]; rfl)
   rcases Bool.eq_false_or_eq_true (op==[99,111,108]) with c2 | c2
   ·rcases Bool.eq_false_or_eq_true (zax v) with c5 | c5 <;> rcases Bool.eq_false_or_eq_true (zcf s) with c6 | c6 <;> rcases Bool.eq_false_or_eq_true (zeW s) with c7 | c7 <;> (simp only [zax] at c5; simp only [c1,c2,c5,c6,c7,cond_true,cond_false,if_true,if_false,Bool.false_eq_true,Bool.true_and,Bool.not_true,Bool.not_false]; rfl)
   rcases Bool.eq_false_or_eq_true (bif op==[110,111,116] then true else op==[110,117,108,108]) with c3 | c3
   ·rcases Bool.eq_false_or_eq_true (zax v) with c5 | c5 <;> rcases Bool.eq_false_or_eq_true (s==[]) with c6 | c6 <;> rcases Bool.eq_false_or_eq_true (zba d a) with c7 | c7 <;> rcases Bool.eq_false_or_eq_true (zba d b) with c8 | c8 <;> (simp only [zax] at c5; simp only [c1,c2,c3,c5,c6,c7,c8,cond_true,cond_false,if_true,if_false,Bool.false_eq_true,Bool.true_and]; rfl)
   rcases Bool.eq_false_or_eq_true (zr6 op) with c4 | c4
   ·rcases Bool.eq_false_or_eq_true (zax v) with c5 | c5 <;> rcases Bool.eq_false_or_eq_true (s==[]) with c6 | c6 <;> rcases Bool.eq_false_or_eq_true (zba d a) with c7 | c7 <;> rcases Bool.eq_false_or_eq_true (zba d b) with c8 | c8 <;> (simp only [zax] at c5; simp only [c1,c2,c3,c4,c5,c6,c7,c8,cond_true,cond_false,if_true,if_false,Bool.false_eq_true,Bool.true_and]; rfl)
   ·simp only [c1,c2,c3,c4,if_false,Bool.false_eq_true,Bool.true_and]; rfl
  | a::b::c::r,_=>
   have e0:((((a::b::c::r).length:Nat):Int)==0)=false:=beq_eq_false_iff_ne.2 (by simp; omega)
   have e1:((((a::b::c::r).length:Nat):Int)==1)=false:=beq_eq_false_iff_ne.2 (by simp; omega)
   have e2:((((a::b::c::r).length:Nat):Int)==2)=false:=beq_eq_false_iff_ne.2 (by simp; omega)
   simp only [zba,zax,e0,e1,e2]
   rcases Bool.eq_false_or_eq_true (op==[108,105,116]) with c1 | c1
   ·rcases Bool.eq_false_or_eq_true (zbj v) with c5 | c5 <;> rcases Bool.eq_false_or_eq_true (s==[]) with c6 | c6 <;> (simp only [c1,c5,c6,cond_true,cond_false,if_true,if_false,Bool.false_eq_true,Bool.true_and]; rfl)
   rcases Bool.eq_false_or_eq_true (op==[99,111,108]) with c2 | c2
   ·rcases Bool.eq_false_or_eq_true (zax v) with c5 | c5 <;> rcases Bool.eq_false_or_eq_true (zcf s) with c6 | c6 <;> rcases Bool.eq_false_or_eq_true (zeW s) with c7 | c7 <;> (simp only [zax] at c5; simp only [c1,c2,c5,c6,c7,cond_true,cond_false,if_true,if_false,Bool.false_eq_true,Bool.true_and,Bool.not_true,Bool.not_false]; rfl)
   rcases Bool.eq_false_or_eq_true (bif op==[110,111,116] then true else op==[110,117,108,108]) with c3 | c3
   ·rcases Bool.eq_false_or_eq_true (zax v) with c5 | c5 <;> rcases Bool.eq_false_or_eq_true (s==[]) with c6 | c6 <;> (simp only [zax] at c5; simp only [c1,c2,c3,c5,c6,cond_true,cond_false,if_true,if_false,Bool.false_eq_true,Bool.true_and]; rfl)
   rcases Bool.eq_false_or_eq_true (zr6 op) with c4 | c4
   ·rcases Bool.eq_false_or_eq_true (zax v) with c5 | c5 <;> rcases Bool.eq_false_or_eq_true (s==[]) with c6 | c6 <;> (simp only [zax] at c5; simp only [c1,c2,c3,c4,c5,c6,cond_true,cond_false,if_true,if_false,Bool.false_eq_true,Bool.true_and]; rfl)
   ·simp only [c1,c2,c3,c4,cond_false,if_false,Bool.false_eq_true,Bool.true_and]; rfl
open Go Go.Proofs
set_option maxHeartbeats 4000000

theorem zCl {op:Str} (h:zr6 op=true):op=[97,110,100]∨op=[111,114]∨op=[61]∨op=[60]∨op=[43]∨op=[45]:=by
 unfold zr6 at h
 rcases Bool.eq_false_or_eq_true (op==[97,110,100]) with c | c
 ·exact .inl (eq_of_beq c)
 rcases Bool.eq_false_or_eq_true (op==[111,114]) with c2 | c2
 ·exact .inr (.inl (eq_of_beq c2))
 rcases Bool.eq_false_or_eq_true (op==[61]) with c3 | c3
 ·exact .inr (.inr (.inl (eq_of_beq c3)))
 rcases Bool.eq_false_or_eq_true (op==[60]) with c4 | c4
 ·exact .inr (.inr (.inr (.inl (eq_of_beq c4))))
 rcases Bool.eq_false_or_eq_true (op==[43]) with c5 | c5
 ·exact .inr (.inr (.inr (.inr (.inl (eq_of_beq c5)))))
 rcases Bool.eq_false_or_eq_true (op==[45]) with c6 | c6
 ·exact .inr (.inr (.inr (.inr (.inr (eq_of_beq c6)))))
 rw [c,c2,c3,c4,c5,c6] at h
 cases h

inductive zDP (d:Nat):ze→Prop
 | lit (v:Int×Int×Str) (h:zbj v=true):zDP d (.mk [108,105,116] v [] [])
 | col (s:Str) (h:zcf s=true) (h2:zeW s=false):zDP d (.mk [99,111,108] (0,0,[]) s [])
 | one (op:Str) (a:ze) (h:op=[110,111,116]∨op=[110,117,108,108]) (ha:zba d a=true):zDP d (.mk op (0,0,[]) [] [a])
 | two (op:Str) (a b:ze) (h:op=[97,110,100]∨op=[111,114]∨op=[61]∨op=[60]∨op=[43]∨op=[45]) (ha:zba d a=true) (hb:zba d b=true):zDP d (.mk op (0,0,[]) [] [a,b])

theorem zpH {v:Int×Int×Str} (h:zax v=true):v=(0,0,[]):=by
 obtain ⟨a,b,c⟩:=v
 unfold zax at h
 simp at h
 obtain ⟨rfl,rfl,rfl⟩:=h
 rfl
theorem zca {a b:Bool} (h:(bif a then b else false)=true):a=true∧b=true:=by
 cases a <;> cases b <;> simp_all
theorem zCs {op:Str} (h:(bif op==[110,111,116] then true else op==[110,117,108,108])=true):op=[110,111,116]∨op=[110,117,108,108]:=by
 rcases Bool.eq_false_or_eq_true (op==[110,111,116]) with k | k
 ·exact .inl (eq_of_beq k)
 ·rw [k] at h; exact .inr (eq_of_beq h)
theorem zeZ {d:Nat}:∀ {e:ze},zba (d+1) e=true→zDP d e
 | .mk op v s [],h=>by
  simp only [zba] at h
  split at h
  ·rename_i c
   obtain ⟨h1,h2⟩:=zca h
   obtain ⟨h3,h4⟩:=zca h2
   rw [eq_of_beq c,eq_of_beq h3]
   exact .lit v h1
  split at h
  ·rename_i c
   obtain ⟨h1,h2⟩:=zca h
   obtain ⟨h3,h4⟩:=zca h2
   obtain ⟨h5,h6⟩:=zca h4
   rw [eq_of_beq c,zpH h1]
   exact .col s h3 (by simpa using h5)
  split at h
  ·cases hh:zax v <;> cases hs:(s==[]) <;> simp [hh,hs] at h
  split at h
  ·cases hh:zax v <;> cases hs:(s==[]) <;> simp [hh,hs] at h
  ·cases h
 | .mk op v s [a],h=>by
  simp only [zba] at h
  split at h
  ·cases hh:zbj v <;> cases hs:(s==[]) <;> simp [hh,hs] at h
  split at h
  ·cases hh:zax v <;> cases hs:zcf s <;> cases hr:zeW s <;> simp [hh,hs,hr] at h
  split at h
  ·rename_i c
   obtain ⟨h1,h2⟩:=zca h
   obtain ⟨h3,h4⟩:=zca h2
   rw [eq_of_beq h3,zpH h1]
   exact .one op a (zCs c) h4
  split at h
  ·cases hh:zax v <;> cases hs:(s==[]) <;> simp [hh,hs] at h
  ·cases h
 | .mk op v s [a,b],h=>by
  simp only [zba] at h
  split at h
  ·cases hh:zbj v <;> cases hs:(s==[]) <;> simp [hh,hs] at h
  split at h
  ·cases hh:zax v <;> cases hs:zcf s <;> cases hr:zeW s <;> simp [hh,hs,hr] at h
  split at h
  ·cases hh:zax v <;> cases hs:(s==[]) <;> simp [hh,hs] at h
  split at h
  ·rename_i c
   obtain ⟨h1,h2⟩:=zca h
   obtain ⟨h3,h4⟩:=zca h2
   obtain ⟨ha,hb⟩:=zca h4
   rw [eq_of_beq h3,zpH h1]
   exact .two op a b (zCl c) ha hb
  ·cases h
 | .mk op v s (a::b::c::r),h=>by
  have e0:((((a::b::c::r).length:Nat):Int)==0)=false:=beq_eq_false_iff_ne.2 (by simp; omega)
  simp only [zba,e0] at h
  split at h
  ·cases hh:zbj v <;> cases hs:(s==[]) <;> simp [hh,hs] at h
  split at h
  ·cases hh:zax v <;> cases hs:zcf s <;> cases hr:zeW s <;> simp [hh,hs,hr] at h
  split at h
  ·cases hh:zax v <;> cases hs:(s==[]) <;> simp [hh,hs] at h
  split at h
  ·cases hh:zax v <;> cases hs:(s==[]) <;> simp [hh,hs] at h
  ·cases h

theorem zrm:∀ (d:Nat) (e:ze),zba d e=true→nE d e+1≤2 ^ d
 | 0,_,h=>by cases h
 | d+1,e,h=>by
  have h2:0 < 2 ^ d:=Nat.two_pow_pos d
  cases zeZ h with
  | lit v h=>simp [nE,Nat.pow_succ]; omega
  | col s h h2=>simp [nE,Nat.pow_succ]; omega
  | one op a h ha=>have:=zrm d a ha; simp [nE,Nat.pow_succ]; omega
  | two op a b h ha hb=>have:=zrm d a ha; have:=zrm d b hb; simp [nE,Nat.pow_succ]; omega
theorem zPH {d:Nat} {e:ze} (h:zba d e=true):1≤nE d e:=by
 cases d with
 | zero=>cases h
 | succ d=>
  obtain ⟨op,v,s,l⟩:=e
  rw [nE]; omega

theorem zEU {n:Nat} (h:n≤1000000):IntKind.i64.wrap (n:Int)=(n:Int):=by
 rw [IntKind.wrap_i64]; omega

theorem zh3:∀ (N d:Nat) (e:ze),d≤12→d≤N→zba d e=true→za6 N e=some ((nE d e:Int),())
 | _,0,_,_,_,h=>by cases h
 | 0,d+1,_,_,h,_=>absurd h (by omega)
 | N+1,d+1,e,h1,h2,h=>by
  have hp:2 ^ (d+1)≤2 ^ 12:=Nat.pow_le_pow_right (by omega) (by omega)
  have hle:=zrm (d+1) e h
  have hstep:∀ (e:ze) (i:Nat) (n k:Nat) (hi:i < (ze.l e).length),za6 N (ze.l e)[i]=some ((k:Int),())→n+k≤1000000→i≤1000→
    (zrF (fun x0=>zev (za6 N x0)) (fun x0=>(za6 N x0).isSome) (.h3 (n:Int) (i:Int) (e,()))).val=some (.inl (.h3 ((n+k:Nat):Int) ((i+1:Nat):Int) (e,()))):=by
   intro e i n k hi k1 k2 k3
   have g0:List.getD (ze.l e) (i:Int).toNat (zl Sh.expr)=(ze.l e)[i]:=zl2 _ _ hi
   simp only [zrF,zun,zqs,Tr.val,g0,zw,k1,zV hi,zK hi,Option.isSome_some,if_true]
   show some (Sum.inl (zmm.h3 (IntKind.i64.wrap ((n:Int)+(k:Int))) _ _))=_
   rw [zH i (by unfold zI; omega),← Int.natCast_add,zEU k2]
  have hend:∀ (e:ze) (n:Nat),(zrF (fun x0=>zev (za6 N x0)) (fun x0=>(za6 N x0).isSome) (.h3 (n:Int) ((ze.l e).length:Int) (e,()))).val=some (.inr (.int .i64 n,[])):=by
   intro e n
   simp only [zrF,zun,zqs,Tr.val,zP]
   rfl
  have hgo:∀ e,(zBi (fun x0=>zev (za6 N x0)) (fun x0=>(za6 N x0).isSome) e).val=some (.inl (.h3 ((1:Nat):Int) ((0:Nat):Int) (e,()))):=fun _=>rfl
  rw [za6]
  unfold zwE
  cases zeZ h with
  | lit v h=>exact zO (hgo _) (zaI.of (hend _ 1)) (by omega) rfl
  | col s h h2=>exact zO (hgo _) (zaI.of (hend _ 1)) (by omega) rfl
  | one op a h ha=>
   have ka:=zh3 N d a (by omega) (by omega) ha
   have l1:=zrm d a ha
   have p1:2 ^ d≤2 ^ 12:=Nat.pow_le_pow_right (by omega) (by omega)
   refine zO (hgo _) ((zaz.of (hstep (.mk op (0,0,[]) [] [a]) 0 1 (nE d a) (by simp [ze.l]) ka (by omega) (by omega))).ends (zaI.of (hend (.mk op (0,0,[]) [] [a]) _))) (by omega) ?_
   simp [nE]
   rfl
  | two op a b h ha hb=>
   have ka:=zh3 N d a (by omega) (by omega) ha
   have kb:=zh3 N d b (by omega) (by omega) hb
   have l1:=zrm d a ha
   have l2:=zrm d b hb
   have p1:2 ^ d≤2 ^ 12:=Nat.pow_le_pow_right (by omega) (by omega)
   refine zO (hgo _) ((zaz.of (hstep (.mk op (0,0,[]) [] [a,b]) 0 1 (nE d a) (by simp [ze.l]) ka (by omega) (by omega))).ends ((zaz.of (hstep (.mk op (0,0,[]) [] [a,b]) 1 (1+nE d a) (nE d b) (by simp [ze.l]) kb (by omega) (by omega))).ends (zaI.of (hend (.mk op (0,0,[]) [] [a,b]) _)))) (by omega) ?_
   simp [nE,Nat.add_assoc]
   rfl

theorem zjs:∀ (N k:Nat) (e:ze) (n:Nat),k≤12→k≤N→zba k e=true→n+nE k e≤60→zeb N e ((13:Int) - k) n=(true,((n+nE k e:Nat):Int))
 | _,0,_,_,_,_,h,_=>by cases h
 | 0,k+1,_,_,_,h,_,_=>absurd h (by omega)
 | N+1,k+1,e,n,h1,h2,h,h3=>by
  rw [zeb]
  unfold zoi
  have w1:IntKind.i64.wrap ((n:Int)+1)=((n+1:Nat):Int):=zH n (by unfold zI; omega)
  have w2:IntKind.i64.wrap ((13:Int) - ((k+1:Nat):Int)+1)=(13:Int) - (k:Int):=by rw [IntKind.wrap_i64]; omega
  have d1:decide ((13:Int) - ((k+1:Nat):Int) > 12)=false:=decide_eq_false (by omega)
  have hpos:=zPH h
  have d2:decide (((n+1:Nat):Int) > 60)=false:=decide_eq_false (by omega)
  rw [w1,d1,d2]
  cases zeZ h with
  | lit v hv=>simp [ze.op,ze.l,ze.s,ze.v,zbn,znL,swV,hv,nE]
  | col s hw h2=>simp [ze.op,ze.l,ze.s,ze.v,zbn,znL,swV,hw,h2,nE,zax]
  | one op a ho ha=>
   have hn:n+1+nE k a≤60:=by simp [nE] at h3; omega
   have ka:=zjs N k a (n+1) (by omega) (by omega) ha hn
   have hs:((n+nE (k+1) (.mk op (0,0,[]) [] [a]):Nat):Int)=((n+1+nE k a:Nat):Int):=by simp [nE]; omega
   rw [hs]
   push_cast at *
   rcases ho with rfl | rfl <;> simp [ze.op,ze.l,ze.s,ze.v,zbn,znL,swV,zax,ziu,w2,ka]
  | two op a b ho ha hb=>
   have hn:n+1+nE k a+nE k b≤60:=by simp [nE] at h3; omega
   have ka:=zjs N k a (n+1) (by omega) (by omega) ha (by omega)
   have kb:=zjs N k b (n+1+nE k a) (by omega) (by omega) hb hn
   have hs:((n+nE (k+1) (.mk op (0,0,[]) [] [a,b]):Nat):Int)=((n+1+nE k a+nE k b:Nat):Int):=by simp [nE]; omega
   rw [hs]
   push_cast at *
   rcases ho with rfl | rfl | rfl | rfl | rfl | rfl <;> simp [ze.op,ze.l,ze.s,ze.v,zbn,znL,swV,zax,ziu,w2,ka,kb]
open Go Go.Proofs
set_option maxHeartbeats 4000000

theorem zhf {α:Type} {p:α→Bool} {d:α}:∀ (l:List α) (k i:Nat),i < l.length→p (l.getD i d)=true→(∀ j,j < i→p (l.getD j d)=false)→zaa p l k=((k+i:Nat):Int)
 | [],_,_,h,_,_=>by simp at h
 | x::r,k,0,_,hp,_=>by
  rw [zaa,if_pos (by simpa using hp)]; rfl
 | x::r,k,i+1,h,hp,hj=>by
  have h0:=hj 0 (by omega)
  rw [zaa,if_neg (by rw [show p x=false by simpa using h0]; simp),zhf r (k+1) i (by simpa using h) (by simpa using hp) (fun j hj2=>by simpa using hj (j+1) (by omega))]
  congr 1; omega
theorem zhh {α:Type} {p:α→Bool} {d:α}:∀ (l:List α) (k:Nat),(∀ j,j < l.length→p (l.getD j d)=false)→zaa p l k=-1
 | [],_,_=>rfl
 | x::r,k,hj=>by
  have h0:=hj 0 (by simp)
  rw [zaa,if_neg (by rw [show p x=false by simpa using h0]; simp)]
  exact zhh (d:=d) r (k+1) (fun j h=>by simpa using hj (j+1) (by simpa using h))

theorem zqg {cols:List (Sem zh)} {s:Str} (hl:cols.length≤1000000):zp1 cols s=some (zR cols s,()):=by
 have hf:=For (t:=zy9) (Φ:=fun r=>r=(.int .i64 (zR cols s),[])) 1 (fun i=>.h2 cols s (i:Int)) (fun i=>((List.getD cols i (zl zh)).1==s)=false) cols.length (by
  intro i hi hj
  have hv:(zy9 (.h2 cols s (i:Int))).val=if ((List.getD cols i (zl zh)).1==s)=true then some (.inr (.int .i64 i,[])) else some (.inl (.h2 cols s ((i+1:Nat):Int))):=by
   simp only [zy9,zyU,ztZ,Tr.val,zV hi,zK hi,Int.toNat_natCast,if_true]
   rw [zH i (by unfold zI; omega)]
  rcases Bool.eq_false_or_eq_true ((List.getD cols i (zl zh)).1==s) with h | h
  ·refine .inr ⟨by rw [h]; simp,_,zaI.of (by rw [hv,if_pos h]),?_⟩
   have:=zhf (p:=fun c:Sem zh=>c.1==s) (d:=zl zh) cols 0 i hi h hj
   rw [show zR cols s=(i:Int) by unfold zR; rw [this]; simp]
  ·exact .inl ⟨h,zaz.of (by rw [hv,if_neg (by rw [h]; simp)])⟩)
 have hi:(zJc cols s).val=some (.inl (.h2 cols s ((0:Nat):Int))):=rfl
 rcases hf with ⟨h1,h2⟩ | ⟨h1,r,h2,rfl⟩
 ·have:=zhh (p:=fun c:Sem zh=>c.1==s) (d:=zl zh) cols 0 h1
  rw [show zR cols s=(-1:Int) from this]
  refine zO hi (h2.ends (zaI.of (r:=(.int .i64 (-1),[])) ?_)) (by omega) rfl
  simp only [zy9,zyU,ztZ,Tr.val,zP]
  rfl
 ·exact zO hi h2 (by omega) rfl
theorem zyz {cols:List (Sem zh)} {s:Str} (hl:cols.length≤1000000):zmt cols s=true:=by unfold zmt; rw [zqg hl]; rfl
theorem zB2 {cols:List (Sem zh)} {s:Str} (hl:cols.length≤1000000):zoR cols s=zR cols s:=by unfold zoR; rw [zqg hl]; rfl

theorem zEA (t u:Int):zgR [t] u = !(bif t != u then t != 0 else false):=by
 unfold zgR
 simp only [zaa]
 rcases Bool.eq_false_or_eq_true (bif t != u then t != 0 else false) with h | h <;> simp [h]
theorem zlX (t t' u:Int):zgR [t,t'] u = !(bif (bif t != u then t != 0 else false) then true else (bif t' != u then t' != 0 else false)):=by
 unfold zgR
 simp only [zaa]
 rcases Bool.eq_false_or_eq_true (bif t != u then t != 0 else false) with h | h <;> rcases Bool.eq_false_or_eq_true (bif t' != u then t' != 0 else false) with h' | h' <;> simp [h,h']

theorem zzr {g c} {cols:List (Sem zh)} {e:ze} (hl:cols.length≤1000000):∃ r k,zaI (zxB g c) k (.h5 cols ((0:Nat):Int) (e,())) r∧k≤100000000∧zac r.2 [zg,zg] r.1=some (if decide (LT.lt (α:=Int) (zR cols (ze.s e)) 0)=true then ((0:Int),(4:Int),()) else ((List.getD cols (Int.toNat (zR cols (ze.s e))) (zl zh)).2.1,(0:Int),())):=by
 have hf:=For (t:=zxB g c) (Φ:=fun r=>zac r.2 [zg,zg] r.1=some (if decide (LT.lt (α:=Int) (zR cols (ze.s e)) 0)=true then ((0:Int),(4:Int),()) else ((List.getD cols (Int.toNat (zR cols (ze.s e))) (zl zh)).2.1,(0:Int),()))) 1 (fun i=>.h5 cols (i:Int) (e,())) (fun i=>((List.getD cols i (zl zh)).1==ze.s e)=false) cols.length (by
  intro i hi hj
  have hv:(zxB g c (.h5 cols (i:Int) (e,()))).val=if ((List.getD cols i (zl zh)).1==ze.s e)=true then some (.inr (.tup [.int .i64 (List.getD cols i (zl zh)).2.1,.int .i64 0],[])) else some (.inl (.h5 cols ((i+1:Nat):Int) (e,()))):=by
   simp only [zxB,zzA,zur,Tr.val,zV hi,zK hi,Int.toNat_natCast,if_true]
   rw [zH i (by unfold zI; omega)]
  rcases Bool.eq_false_or_eq_true ((List.getD cols i (zl zh)).1==ze.s e) with h | h
  ·refine .inr ⟨by rw [h]; simp,_,zaI.of (by rw [hv,if_pos h]),?_⟩
   have:=zhf (p:=fun c:Sem zh=>c.1==ze.s e) (d:=zl zh) cols 0 i hi h hj
   rw [show zR cols (ze.s e)=(i:Int) by unfold zR; rw [this]; simp,if_neg (by rw [decide_eq_true_eq]; omega),Int.toNat_natCast]
   rfl
  ·exact .inl ⟨h,zaz.of (by rw [hv,if_neg (by rw [h]; simp)])⟩)
 rcases hf with ⟨h1,h2⟩ | ⟨h1,r,h2,h3⟩
 ·have:=zhh (p:=fun c:Sem zh=>c.1==ze.s e) (d:=zl zh) cols 0 h1
  refine ⟨(.tup [.int .i64 0,.int .i64 4],[]),_,h2.ends (zaI.of ?_),by omega,?_⟩
  ·simp only [zxB,zzA,zur,Tr.val,zP]
   rfl
  ·rw [show zR cols (ze.s e)=(-1:Int) from this]; rfl
 ·exact ⟨r,_,h2,by omega,h3⟩

theorem zjC {cols:List (Sem zh)} (hl:cols.length≤1000000):∀ (N d M:Nat) (e:ze),d≤N→d≤M→zba d e=true→za0 N e cols=some ((zM M e cols).1,(zM M e cols).2,())
 | _,0,_,_,_,_,h=>by cases h
 | 0,d+1,_,_,h,_,_=>absurd h (by omega)
 | _,d+1,0,_,_,h,_=>absurd h (by omega)
 | N+1,d+1,M+1,e,h1,h2,h=>by
  rw [za0,zM]
  unfold zAA zmU
  cases zeZ h with
  | lit v hv=>rfl
  | col s hw hr=>
   obtain ⟨r,k,k1,k2,k3⟩:=zzr (g:=fun x0 x1=>zdm (za0 N x0 x1)) (c:=fun x0 x1=>(za0 N x0 x1).isSome) (cols:=cols) (e:=.mk [99,111,108] (0,0,[]) s []) hl
   refine zO (by rfl) k1 k2 (k3.trans ?_)
   have e1:zah (zM M) (zaC M) cols [99,111,108] (0:Int) (0:Int) [] s [] [] 0 []=if decide (LT.lt (α:=Int) (zR cols s) 0)=true then ((0:Int),(4:Int)) else ((List.getD cols (Int.toNat (zR cols s)) (zl zh)).2.1,(0:Int)):=rfl
   show _=some ((zah (zM M) (zaC M) cols [99,111,108] (0:Int) (0:Int) [] s [] [] 0 []).1,(zah (zM M) (zaC M) cols [99,111,108] (0:Int) (0:Int) [] s [] [] 0 []).2,())
   rw [e1]
   show some (if decide (LT.lt (α:=Int) (zR cols s) 0)=true then ((0:Int),(4:Int),()) else ((List.getD cols (Int.toNat (zR cols s)) (zl zh)).2.1,(0:Int),()))=_
   rcases Bool.eq_false_or_eq_true (decide (LT.lt (α:=Int) (zR cols s) 0)) with c | c
   ·rw [if_pos c,if_pos c]
   ·rw [if_neg (by rw [c]; simp),if_neg (by rw [c]; simp)]
  | one op a ho ha=>
   have ka:=zjC hl N d M a (by omega) (by omega) ha
   unfold zaj zbk
   generalize hg:(fun x0 x1=>zdm (za0 N x0 x1))=g
   generalize hc:(fun x0 x1=>(za0 N x0 x1).isSome)=c
   have g1:g a cols=zM M a cols:=by rw [← hg]; show zdm (za0 N a cols)=_; rw [ka]; rfl
   have c1:c a cols=true:=by rw [← hc]; show (za0 N a cols).isSome=_; rw [ka]; rfl
   rcases ho with rfl | rfl
   ·have e1:zah (zM M) (zaC M) cols [110,111,116] (0:Int) (0:Int) [] [] [a] [a] 0 []=if ((zM M a cols).2 != 0)=true then ((0:Int),(zM M a cols).2) else if (!zgR [(zM M a cols).1] 3)=true then ((0:Int),(5:Int)) else ((3:Int),(0:Int)):=rfl
    show _=some ((zah (zM M) (zaC M) cols [110,111,116] (0:Int) (0:Int) [] [] [a] [a] 0 []).1,(zah (zM M) (zaC M) cols [110,111,116] (0:Int) (0:Int) [] [] [a] [a] 0 []).2,())
    rw [e1,zEA]
    have e2:(zrJ g c (.mk [110,111,116] (0,0,[]) [] [a]) cols).val=if c (zz a) cols=true then (if ((g (zz a) cols).2 != 0)=true then some (.inr (.tup [.int .i64 0,.int .i64 (g (zz a) cols).2],[])) else if (bif (g (zz a) cols).1 != 0 then bif (g (zz a) cols).1 != 3 then true else (bif (g (zz a) cols).1 != 0 then (g (zz a) cols).1 != 3 else false) else (bif (g (zz a) cols).1 != 0 then (g (zz a) cols).1 != 3 else false))=true then some (.inr (.tup [.int .i64 0,.int .i64 5],[])) else some (.inr (.tup [.int .i64 3,.int .i64 0],[]))) else none:=rfl
    rw [e2,zw,c1,g1]
    generalize zM M a cols=t
    rcases Bool.eq_false_or_eq_true (t.2 != 0) with k1 | k1 <;> rcases Bool.eq_false_or_eq_true (t.1 != 0) with k2 | k2 <;> rcases Bool.eq_false_or_eq_true (t.1 != 3) with k3 | k3 <;> (simp only [k1,k2,k3,cond_true,cond_false,if_true,if_false,Bool.false_eq_true,Bool.not_true,Bool.not_false]; rfl)
   ·have e1:zah (zM M) (zaC M) cols [110,117,108,108] (0:Int) (0:Int) [] [] [a] [a] 0 []=if ((zM M a cols).2 != 0)=true then ((0:Int),(zM M a cols).2) else ((3:Int),(0:Int)):=rfl
    show _=some ((zah (zM M) (zaC M) cols [110,117,108,108] (0:Int) (0:Int) [] [] [a] [a] 0 []).1,(zah (zM M) (zaC M) cols [110,117,108,108] (0:Int) (0:Int) [] [] [a] [a] 0 []).2,())
    rw [e1]
    have e2:(zrJ g c (.mk [110,117,108,108] (0,0,[]) [] [a]) cols).val=if c (zz a) cols=true then (if ((g (zz a) cols).2 != 0)=true then some (.inr (.tup [.int .i64 0,.int .i64 (g (zz a) cols).2],[])) else some (.inr (.tup [.int .i64 3,.int .i64 0],[]))) else none:=rfl
    rw [e2,zw,c1,g1]
    generalize zM M a cols=t
    rcases Bool.eq_false_or_eq_true (t.2 != 0) with k1 | k1 <;> (simp only [k1,if_true,if_false,Bool.false_eq_true]; rfl)
  | two op a b ho ha hb=>
   have ka:=zjC hl N d M a (by omega) (by omega) ha
   have kb:=zjC hl N d M b (by omega) (by omega) hb
   unfold zaj zbk
   generalize hg:(fun x0 x1=>zdm (za0 N x0 x1))=g
   generalize hc:(fun x0 x1=>(za0 N x0 x1).isSome)=c
   have g1:g a cols=zM M a cols:=by rw [← hg]; show zdm (za0 N a cols)=_; rw [ka]; rfl
   have c1:c a cols=true:=by rw [← hc]; show (za0 N a cols).isSome=_; rw [ka]; rfl
   have g2:g b cols=zM M b cols:=by rw [← hg]; show zdm (za0 N b cols)=_; rw [kb]; rfl
   have c2:c b cols=true:=by rw [← hc]; show (za0 N b cols).isSome=_; rw [kb]; rfl
   rcases ho with rfl | rfl | rfl | rfl | rfl | rfl
   ·have e1:zah (zM M) (zaC M) cols [97,110,100] (0:Int) (0:Int) [] [] [a,b] [a,b] 0 []=if ((zM M a cols).2 != 0)=true then ((0:Int),(zM M a cols).2) else if ((zM M b cols).2 != 0)=true then ((0:Int),(zM M b cols).2) else if (!zgR [(zM M a cols).1,(zM M b cols).1] 3)=true then ((0:Int),(5:Int)) else ((3:Int),(0:Int)):=rfl
    show _=some ((zah (zM M) (zaC M) cols [97,110,100] (0:Int) (0:Int) [] [] [a,b] [a,b] 0 []).1,(zah (zM M) (zaC M) cols [97,110,100] (0:Int) (0:Int) [] [] [a,b] [a,b] 0 []).2,())
    rw [e1,zlX]
    have e2:(zrJ g c (.mk [97,110,100] (0,0,[]) [] [a,b]) cols).val=if c (zz a) cols=true then (if ((g (zz a) cols).2 != 0)=true then some (.inr (.tup [.int .i64 0,.int .i64 (g (zz a) cols).2],[])) else if c (zz b) cols=true then (if ((g (zz b) cols).2 != 0)=true then some (.inr (.tup [.int .i64 0,.int .i64 (g (zz b) cols).2],[])) else if (bif (g (zz a) cols).1 != 0 then bif (g (zz a) cols).1 != 3 then true else (bif (g (zz b) cols).1 != 0 then (g (zz b) cols).1 != 3 else false) else (bif (g (zz b) cols).1 != 0 then (g (zz b) cols).1 != 3 else false))=true then some (.inr (.tup [.int .i64 0,.int .i64 5],[])) else some (.inr (.tup [.int .i64 3,.int .i64 0],[]))) else none) else none:=rfl
    rw [e2,zw,zw,c1,c2,g1,g2]
    generalize zM M a cols=t
    generalize zM M b cols=u
    rcases Bool.eq_false_or_eq_true (t.2 != 0) with k1 | k1 <;> rcases Bool.eq_false_or_eq_true (u.2 != 0) with k2 | k2 <;> rcases Bool.eq_false_or_eq_true (t.1 != 0) with k3 | k3 <;> rcases Bool.eq_false_or_eq_true (u.1 != 0) with k4 | k4 <;> rcases Bool.eq_false_or_eq_true (t.1 != 3) with k5 | k5 <;> rcases Bool.eq_false_or_eq_true (u.1 != 3) with k6 | k6 <;> (simp only [k1,k2,k3,k4,k5,k6,cond_true,cond_false,if_true,if_false,Bool.false_eq_true,Bool.not_true,Bool.not_false]; rfl)
   ·have e1:zah (zM M) (zaC M) cols [111,114] (0:Int) (0:Int) [] [] [a,b] [a,b] 0 []=if ((zM M a cols).2 != 0)=true then ((0:Int),(zM M a cols).2) else if ((zM M b cols).2 != 0)=true then ((0:Int),(zM M b cols).2) else if (!zgR [(zM M a cols).1,(zM M b cols).1] 3)=true then ((0:Int),(5:Int)) else ((3:Int),(0:Int)):=rfl
    show _=some ((zah (zM M) (zaC M) cols [111,114] (0:Int) (0:Int) [] [] [a,b] [a,b] 0 []).1,(zah (zM M) (zaC M) cols [111,114] (0:Int) (0:Int) [] [] [a,b] [a,b] 0 []).2,())
    rw [e1,zlX]
    have e2:(zrJ g c (.mk [111,114] (0,0,[]) [] [a,b]) cols).val=if c (zz a) cols=true then (if ((g (zz a) cols).2 != 0)=true then some (.inr (.tup [.int .i64 0,.int .i64 (g (zz a) cols).2],[])) else if c (zz b) cols=true then (if ((g (zz b) cols).2 != 0)=true then some (.inr (.tup [.int .i64 0,.int .i64 (g (zz b) cols).2],[])) else if (bif (g (zz a) cols).1 != 0 then bif (g (zz a) cols).1 != 3 then true else (bif (g (zz b) cols).1 != 0 then (g (zz b) cols).1 != 3 else false) else (bif (g (zz b) cols).1 != 0 then (g (zz b) cols).1 != 3 else false))=true then some (.inr (.tup [.int .i64 0,.int .i64 5],[])) else some (.inr (.tup [.int .i64 3,.int .i64 0],[]))) else none) else none:=rfl
    rw [e2,zw,zw,c1,c2,g1,g2]
    generalize zM M a cols=t
    generalize zM M b cols=u
    rcases Bool.eq_false_or_eq_true (t.2 != 0) with k1 | k1 <;> rcases Bool.eq_false_or_eq_true (u.2 != 0) with k2 | k2 <;> rcases Bool.eq_false_or_eq_true (t.1 != 0) with k3 | k3 <;> rcases Bool.eq_false_or_eq_true (u.1 != 0) with k4 | k4 <;> rcases Bool.eq_false_or_eq_true (t.1 != 3) with k5 | k5 <;> rcases Bool.eq_false_or_eq_true (u.1 != 3) with k6 | k6 <;> (simp only [k1,k2,k3,k4,k5,k6,cond_true,cond_false,if_true,if_false,Bool.false_eq_true,Bool.not_true,Bool.not_false]; rfl)
   ·have e1:zah (zM M) (zaC M) cols [61] (0:Int) (0:Int) [] [] [a,b] [a,b] 0 []=if ((zM M a cols).2 != 0)=true then ((0:Int),(zM M a cols).2) else if ((zM M b cols).2 != 0)=true then ((0:Int),(zM M b cols).2) else if (!bif (zM M a cols).1==(zM M b cols).1 then true else bif (zM M a cols).1==0 then true else (zM M b cols).1==0)=true then ((0:Int),(5:Int)) else ((3:Int),(0:Int)):=rfl
    show _=some ((zah (zM M) (zaC M) cols [61] (0:Int) (0:Int) [] [] [a,b] [a,b] 0 []).1,(zah (zM M) (zaC M) cols [61] (0:Int) (0:Int) [] [] [a,b] [a,b] 0 []).2,())
    rw [e1]
    have e2:(zrJ g c (.mk [61] (0,0,[]) [] [a,b]) cols).val=if c (zz a) cols=true then (if ((g (zz a) cols).2 != 0)=true then some (.inr (.tup [.int .i64 0,.int .i64 (g (zz a) cols).2],[])) else if c (zz b) cols=true then (if ((g (zz b) cols).2 != 0)=true then some (.inr (.tup [.int .i64 0,.int .i64 (g (zz b) cols).2],[])) else if (bif (g (zz a) cols).1 != 0 then bif (g (zz b) cols).1 != 0 then (g (zz a) cols).1 != (g (zz b) cols).1 else false else false)=true then some (.inr (.tup [.int .i64 0,.int .i64 5],[])) else some (.inr (.tup [.int .i64 3,.int .i64 0],[]))) else none) else none:=rfl
    rw [e2,zw,zw,c1,c2,g1,g2]
    generalize zM M a cols=t
    generalize zM M b cols=u
    simp only [bne]
    rcases Bool.eq_false_or_eq_true (t.2==0) with k1 | k1 <;> rcases Bool.eq_false_or_eq_true (u.2==0) with k2 | k2 <;> rcases Bool.eq_false_or_eq_true (t.1==0) with k3 | k3 <;> rcases Bool.eq_false_or_eq_true (u.1==0) with k4 | k4 <;> rcases Bool.eq_false_or_eq_true (t.1==u.1) with k5 | k5 <;> (simp only [k1,k2,k3,k4,k5,cond_true,cond_false,if_true,if_false,Bool.false_eq_true,Bool.not_true,Bool.not_false]; rfl)
   ·have e1:zah (zM M) (zaC M) cols [60] (0:Int) (0:Int) [] [] [a,b] [a,b] 0 []=if ((zM M a cols).2 != 0)=true then ((0:Int),(zM M a cols).2) else if ((zM M b cols).2 != 0)=true then ((0:Int),(zM M b cols).2) else if (!bif (zM M a cols).1==(zM M b cols).1 then true else bif (zM M a cols).1==0 then true else (zM M b cols).1==0)=true then ((0:Int),(5:Int)) else ((3:Int),(0:Int)):=rfl
    show _=some ((zah (zM M) (zaC M) cols [60] (0:Int) (0:Int) [] [] [a,b] [a,b] 0 []).1,(zah (zM M) (zaC M) cols [60] (0:Int) (0:Int) [] [] [a,b] [a,b] 0 []).2,())
    rw [e1]
    have e2:(zrJ g c (.mk [60] (0,0,[]) [] [a,b]) cols).val=if c (zz a) cols=true then (if ((g (zz a) cols).2 != 0)=true then some (.inr (.tup [.int .i64 0,.int .i64 (g (zz a) cols).2],[])) else if c (zz b) cols=true then (if ((g (zz b) cols).2 != 0)=true then some (.inr (.tup [.int .i64 0,.int .i64 (g (zz b) cols).2],[])) else if (bif (g (zz a) cols).1 != 0 then bif (g (zz b) cols).1 != 0 then (g (zz a) cols).1 != (g (zz b) cols).1 else false else false)=true then some (.inr (.tup [.int .i64 0,.int .i64 5],[])) else some (.inr (.tup [.int .i64 3,.int .i64 0],[]))) else none) else none:=rfl
    rw [e2,zw,zw,c1,c2,g1,g2]
    generalize zM M a cols=t
    generalize zM M b cols=u
    simp only [bne]
    rcases Bool.eq_false_or_eq_true (t.2==0) with k1 | k1 <;> rcases Bool.eq_false_or_eq_true (u.2==0) with k2 | k2 <;> rcases Bool.eq_false_or_eq_true (t.1==0) with k3 | k3 <;> rcases Bool.eq_false_or_eq_true (u.1==0) with k4 | k4 <;> rcases Bool.eq_false_or_eq_true (t.1==u.1) with k5 | k5 <;> (simp only [k1,k2,k3,k4,k5,cond_true,cond_false,if_true,if_false,Bool.false_eq_true,Bool.not_true,Bool.not_false]; rfl)
   ·have e1:zah (zM M) (zaC M) cols [43] (0:Int) (0:Int) [] [] [a,b] [a,b] 0 []=if ((zM M a cols).2 != 0)=true then ((0:Int),(zM M a cols).2) else if ((zM M b cols).2 != 0)=true then ((0:Int),(zM M b cols).2) else if (!zgR [(zM M a cols).1,(zM M b cols).1] 1)=true then ((0:Int),(5:Int)) else ((1:Int),(0:Int)):=rfl
    show _=some ((zah (zM M) (zaC M) cols [43] (0:Int) (0:Int) [] [] [a,b] [a,b] 0 []).1,(zah (zM M) (zaC M) cols [43] (0:Int) (0:Int) [] [] [a,b] [a,b] 0 []).2,())
    rw [e1,zlX]
    have e2:(zrJ g c (.mk [43] (0,0,[]) [] [a,b]) cols).val=if c (zz a) cols=true then (if ((g (zz a) cols).2 != 0)=true then some (.inr (.tup [.int .i64 0,.int .i64 (g (zz a) cols).2],[])) else if c (zz b) cols=true then (if ((g (zz b) cols).2 != 0)=true then some (.inr (.tup [.int .i64 0,.int .i64 (g (zz b) cols).2],[])) else if (bif (g (zz a) cols).1 != 0 then bif (g (zz a) cols).1 != 1 then true else (bif (g (zz b) cols).1 != 0 then (g (zz b) cols).1 != 1 else false) else (bif (g (zz b) cols).1 != 0 then (g (zz b) cols).1 != 1 else false))=true then some (.inr (.tup [.int .i64 0,.int .i64 5],[])) else some (.inr (.tup [.int .i64 1,.int .i64 0],[]))) else none) else none:=rfl
    rw [e2,zw,zw,c1,c2,g1,g2]
    generalize zM M a cols=t
    generalize zM M b cols=u
    rcases Bool.eq_false_or_eq_true (t.2 != 0) with k1 | k1 <;> rcases Bool.eq_false_or_eq_true (u.2 != 0) with k2 | k2 <;> rcases Bool.eq_false_or_eq_true (t.1 != 0) with k3 | k3 <;> rcases Bool.eq_false_or_eq_true (u.1 != 0) with k4 | k4 <;> rcases Bool.eq_false_or_eq_true (t.1 != 1) with k5 | k5 <;> rcases Bool.eq_false_or_eq_true (u.1 != 1) with k6 | k6 <;> (simp only [k1,k2,k3,k4,k5,k6,cond_true,cond_false,if_true,if_false,Bool.false_eq_true,Bool.not_true,Bool.not_false]; rfl)
   ·have e1:zah (zM M) (zaC M) cols [45] (0:Int) (0:Int) [] [] [a,b] [a,b] 0 []=if ((zM M a cols).2 != 0)=true then ((0:Int),(zM M a cols).2) else if ((zM M b cols).2 != 0)=true then ((0:Int),(zM M b cols).2) else if (!zgR [(zM M a cols).1,(zM M b cols).1] 1)=true then ((0:Int),(5:Int)) else ((1:Int),(0:Int)):=rfl
    show _=some ((zah (zM M) (zaC M) cols [45] (0:Int) (0:Int) [] [] [a,b] [a,b] 0 []).1,(zah (zM M) (zaC M) cols [45] (0:Int) (0:Int) [] [] [a,b] [a,b] 0 []).2,())
    rw [e1,zlX]
    have e2:(zrJ g c (.mk [45] (0,0,[]) [] [a,b]) cols).val=if c (zz a) cols=true then (if ((g (zz a) cols).2 != 0)=true then some (.inr (.tup [.int .i64 0,.int .i64 (g (zz a) cols).2],[])) else if c (zz b) cols=true then (if ((g (zz b) cols).2 != 0)=true then some (.inr (.tup [.int .i64 0,.int .i64 (g (zz b) cols).2],[])) else if (bif (g (zz a) cols).1 != 0 then bif (g (zz a) cols).1 != 1 then true else (bif (g (zz b) cols).1 != 0 then (g (zz b) cols).1 != 1 else false) else (bif (g (zz b) cols).1 != 0 then (g (zz b) cols).1 != 1 else false))=true then some (.inr (.tup [.int .i64 0,.int .i64 5],[])) else some (.inr (.tup [.int .i64 1,.int .i64 0],[]))) else none) else none:=rfl
    rw [e2,zw,zw,c1,c2,g1,g2]
    generalize zM M a cols=t
    generalize zM M b cols=u
    rcases Bool.eq_false_or_eq_true (t.2 != 0) with k1 | k1 <;> rcases Bool.eq_false_or_eq_true (u.2 != 0) with k2 | k2 <;> rcases Bool.eq_false_or_eq_true (t.1 != 0) with k3 | k3 <;> rcases Bool.eq_false_or_eq_true (u.1 != 0) with k4 | k4 <;> rcases Bool.eq_false_or_eq_true (t.1 != 1) with k5 | k5 <;> rcases Bool.eq_false_or_eq_true (u.1 != 1) with k6 | k6 <;> (simp only [k1,k2,k3,k4,k5,k6,cond_true,cond_false,if_true,if_false,Bool.false_eq_true,Bool.not_true,Bool.not_false]; rfl)
open Go Go.Proofs
set_option maxHeartbeats 4000000

theorem zdO:VOk (0,0,[]):=⟨by decide,by decide,by simp⟩
theorem zhe (b:Bool):VOk (zmI b):=by cases b <;> exact ⟨by decide,by decide,by simp [zmI]⟩
theorem zFz:VOk (3,0,[]):=zhe false
theorem zGT:VOk (3,1,[]):=zhe true
theorem zIE (a b:Sem zf):VOk (zsa a b):=by
 unfold zsa; rw [zg4,zgk,zge]; split; exact zFz; split; exact zGT; exact zdO
theorem zN2 (a b:Sem zf):VOk (vOr a b):=by
 unfold vOr; rw [zg4,zgk,zge]; split; exact zGT; split; exact zFz; exact zdO
theorem zIr (a:Sem zf):VOk (zol a):=by
 unfold zol; rw [zg4,zgk,zge]; split; exact zFz; split; exact zGT; exact zdO
theorem zPb (a b:Sem zf):VOk (zgW a b):=by
 unfold zgW; split; exact zdO; rw [zeQ]; exact zhe _
theorem zEq (a b:Sem zf):VOk (zkh a b):=by
 unfold zkh; split; exact zdO; rw [zeQ]; exact zhe _
theorem zzR (a:Sem zf):VOk (ze8 a):=by
 unfold ze8; rw [zeQ]; exact zhe _
theorem zxF (n:Int):VOk (1,IntKind.i64.wrap n,[]):=by
 refine ⟨?_,?_,by simp⟩
 ·show (-9223372036854775808:Int)≤IntKind.i64.wrap n
  rw [IntKind.wrap_i64]; omega
 ·show IntKind.i64.wrap n≤(9223372036854775807:Int)
  rw [IntKind.wrap_i64]; omega
theorem zDh (a b:Sem zf):VOk (zkj a b):=by
 unfold zkj; split; exact zdO; split; exact zdO; exact zxF _
theorem zCt (a b:Sem zf):VOk (zgL a b):=by
 unfold zgL; split; exact zdO; split; exact zdO; exact zxF _

def zkW (cols:List (Sem zh)) (row:List (Sem zf)) (s:Str):Sem zf:=if (bif decide (zR cols s < 0) then true else decide (zR cols s ≥ (↑row.length:Int)))=true then (0,0,[]) else row.getD (Int.toNat (zR cols s)) (zl zf)

theorem zyP {g c} {cols:List (Sem zh)} {row:List (Sem zf)} {e:ze} (hl:cols.length≤1000000):∃ r k,zaI (znR g c) k (.h6 cols row ((0:Nat):Int) (e,()) ((0,0,[]),())) r∧k≤100000000∧zac r.2 [zf] r.1=some (zkW cols row (ze.s e),()):=by
 have hf:=For (t:=znR g c) (Φ:=fun r=>zac r.2 [zf] r.1=some (zkW cols row (ze.s e),())) 1 (fun i=>.h6 cols row (i:Int) (e,()) ((0,0,[]),())) (fun i=>((List.getD cols i (zl zh)).1==ze.s e)=false) cols.length (by
  intro i hi hj
  have hv:(znR g c (.h6 cols row (i:Int) (e,()) ((0,0,[]),()))).val=if ((List.getD cols i (zl zh)).1==ze.s e)=true then (if decide ((i:Int) < (row.length:Int))=true then (if inB (i:Int) row.length=true then some (.inr (.agg [.int .i64 (List.getD row i (zl zf)).1,.int .i64 (List.getD row i (zl zf)).2.1,.str (List.getD row i (zl zf)).2.2],[])) else none) else some (.inr (.agg [.int .i64 0,.int .i64 0,.str []],[]))) else some (.inl (.h6 cols row ((i+1:Nat):Int) (e,()) ((0,0,[]),()))):=by
   simp only [znR,zuo,zru,Tr.val,zV hi,zK hi,Int.toNat_natCast,if_true]
   rw [zH i (by unfold zI; omega)]
  rcases Bool.eq_false_or_eq_true ((List.getD cols i (zl zh)).1==ze.s e) with h | h
  ·have hp:=zhf (p:=fun c:Sem zh=>c.1==ze.s e) (d:=zl zh) cols 0 i hi h hj
   have hp:zR cols (ze.s e)=(i:Int):=by unfold zR; rw [hp]; simp
   by_cases hr:i < row.length
   ·refine .inr ⟨by rw [h]; simp,_,zaI.of (by rw [hv,if_pos h,if_pos (zV hr),if_pos (zK hr)]),?_⟩
    unfold zkW
    rw [hp,if_neg (by rw [decide_eq_false (by omega:¬ (i:Int) < 0),decide_eq_false (by omega:¬ (i:Int) ≥ (row.length:Int))]; simp),Int.toNat_natCast]
    rfl
   ·refine .inr ⟨by rw [h]; simp,_,zaI.of (by rw [hv,if_pos h,if_neg (by rw [decide_eq_true_eq]; omega)]),?_⟩
    unfold zkW
    rw [hp,if_pos (by rw [decide_eq_false (by omega:¬ (i:Int) < 0),decide_eq_true (by omega:(i:Int) ≥ (row.length:Int))]; rfl)]
    rfl
  ·exact .inl ⟨h,zaz.of (by rw [hv,if_neg (by rw [h]; simp)])⟩)
 rcases hf with ⟨h1,h2⟩ | ⟨h1,r,h2,h3⟩
 ·have hp:=zhh (p:=fun c:Sem zh=>c.1==ze.s e) (d:=zl zh) cols 0 h1
  refine ⟨(.agg [.int .i64 0,.int .i64 0,.str []],[]),_,h2.ends (zaI.of ?_),by omega,?_⟩
  ·simp only [znR,zuo,zru,Tr.val,zP]
   rfl
  ·unfold zkW
   rw [show zR cols (ze.s e)=(-1:Int) from hp]; rfl
 ·exact ⟨r,_,h2,by omega,h3⟩

theorem zJl {cols:List (Sem zh)} {row:List (Sem zf)} {s:Str} (hr:∀ v∈row,VOk v):VOk (zkW cols row s):=by
 unfold zkW
 split
 ·exact zdO
 ·by_cases h:Int.toNat (zR cols s) < row.length
  ·exact hr _ (zaO h)
  ·rw [List.getD_eq_getElem?_getD,List.getElem?_eq_none (by omega)]
   exact zdO

theorem zjx {cols:List (Sem zh)} {row:List (Sem zf)} (hl:cols.length≤1000000) (hr:∀ v∈row,VOk v):∀ (N d M:Nat) (e:ze),d≤N→d≤M→zba d e=true→WfE e→za3 N e cols row=some (zbK M cols row e,())∧VOk (zbK M cols row e)
 | _,0,_,_,_,_,h,_=>by cases h
 | 0,d+1,_,_,h,_,_,_=>absurd h (by omega)
 | _,d+1,0,_,_,h,_,_=>absurd h (by omega)
 | N+1,d+1,M+1,e,h1,h2,h,hw=>by
  rw [za3,zbK]
  unfold zzY
  cases zeZ h with
  | lit v hv=>
   rw [WfE] at hw
   exact ⟨rfl,hw.1⟩
  | col s hw2 hr2=>
   obtain ⟨r,k,k1,k2,k3⟩:=zyP (g:=fun x0 x1 x2=>zdN (za3 N x0 x1 x2)) (c:=fun x0 x1 x2=>(za3 N x0 x1 x2).isSome) (cols:=cols) (row:=row) (e:=.mk [99,111,108] (0,0,[]) s []) hl
   exact ⟨zO (by rfl) k1 k2 k3,zJl hr⟩
  | one op a ho ha=>
   rw [WfE,zg8] at hw
   obtain ⟨ka,va⟩:=zjx hl hr N d M a (by omega) (by omega) ha hw.2.2.1
   unfold zaj zbk
   generalize hg:(fun x0 x1 x2=>zdN (za3 N x0 x1 x2))=g
   generalize hc:(fun x0 x1 x2=>(za3 N x0 x1 x2).isSome)=c
   have g1:g a cols row=zbK M cols row a:=by rw [← hg]; show zdN (za3 N a cols row)=_; rw [ka]; rfl
   have c1:c a cols row=true:=by rw [← hc]; show (za3 N a cols row).isSome=_; rw [ka]; rfl
   rcases ho with rfl | rfl
   ·have e1:zjZ (zbK M) cols row (.mk [110,111,116] (0,0,[]) [] [a])=zol (zbK M cols row a):=rfl
    have e2:(zi8 g c (.mk [110,111,116] (0,0,[]) [] [a]) cols row).val=if c (zz a) cols row=true then (if zrP (g (zz a) cols row)=true then some (.inr (.agg [.int .i64 (zpx (g (zz a) cols row)).1,.int .i64 (zpx (g (zz a) cols row)).2.1,.str (zpx (g (zz a) cols row)).2.2],[])) else none) else none:=rfl
    rw [e1,e2,zw,c1,g1]
    generalize zbK M cols row a=x at *
    rw [zD0,zIg]
    exact ⟨rfl,zIr _⟩
   ·have e1:zjZ (zbK M) cols row (.mk [110,117,108,108] (0,0,[]) [] [a])=ze8 (zbK M cols row a):=rfl
    have e2:(zi8 g c (.mk [110,117,108,108] (0,0,[]) [] [a]) cols row).val=if c (zz a) cols row=true then (if ziJ (g (zz a) cols row)=true then (if (!zn1 (g (zz a) cols row))=true then some (.inr (.agg [.int .i64 (zap true).1,.int .i64 (zap true).2.1,.str (zap true).2.2],[])) else if zfo ((g (zz a) cols row).1==0)=true then some (.inr (.agg [.int .i64 (zap ((g (zz a) cols row).1==0)).1,.int .i64 (zap ((g (zz a) cols row).1==0)).2.1,.str (zap ((g (zz a) cols row).1==0)).2.2],[])) else none) else none) else none:=rfl
    rw [e1,e2,zw,c1,g1]
    generalize zbK M cols row a=x at *
    refine ⟨?_,zzR _⟩
    rw [zl4 va.2.2,zoI va.2.2,zhB,zd5,zd5]
    unfold ze8 zam
    rw [zeQ]
    cases zbj x
    ·rfl
    ·rfl
  | two op a b ho ha hb=>
   rw [WfE,zg8,zg8] at hw
   obtain ⟨ka,va⟩:=zjx hl hr N d M a (by omega) (by omega) ha hw.2.2.1
   obtain ⟨kb,vb⟩:=zjx hl hr N d M b (by omega) (by omega) hb hw.2.2.2.1
   unfold zaj zbk
   generalize hg:(fun x0 x1 x2=>zdN (za3 N x0 x1 x2))=g
   generalize hc:(fun x0 x1 x2=>(za3 N x0 x1 x2).isSome)=c
   have g1:g a cols row=zbK M cols row a:=by rw [← hg]; show zdN (za3 N a cols row)=_; rw [ka]; rfl
   have c1:c a cols row=true:=by rw [← hc]; show (za3 N a cols row).isSome=_; rw [ka]; rfl
   have g2:g b cols row=zbK M cols row b:=by rw [← hg]; show zdN (za3 N b cols row)=_; rw [kb]; rfl
   have c2:c b cols row=true:=by rw [← hc]; show (za3 N b cols row).isSome=_; rw [kb]; rfl
   rcases ho with rfl | rfl | rfl | rfl | rfl | rfl
   ·have e1:zjZ (zbK M) cols row (.mk [97,110,100] (0,0,[]) [] [a,b])=zsa (zbK M cols row a) (zbK M cols row b):=rfl
    have e2:(zi8 g c (.mk [97,110,100] (0,0,[]) [] [a,b]) cols row).val=if c (zz a) cols row=true then (if c (zz b) cols row=true then (if zq3 (g (zz a) cols row) (g (zz b) cols row)=true then some (.inr (.agg [.int .i64 (zq2 (g (zz a) cols row) (g (zz b) cols row)).1,.int .i64 (zq2 (g (zz a) cols row) (g (zz b) cols row)).2.1,.str (zq2 (g (zz a) cols row) (g (zz b) cols row)).2.2],[])) else none) else none) else none:=rfl
    rw [e1,e2,zw,zw,c1,c2,g1,g2]
    generalize zbK M cols row a=x at *
    generalize zbK M cols row b=y at *
    rw [zDn,zJg]
    exact ⟨rfl,zIE _ _⟩
   ·have e1:zjZ (zbK M) cols row (.mk [111,114] (0,0,[]) [] [a,b])=vOr (zbK M cols row a) (zbK M cols row b):=rfl
    have e2:(zi8 g c (.mk [111,114] (0,0,[]) [] [a,b]) cols row).val=if c (zz a) cols row=true then (if c (zz b) cols row=true then (if zxj (g (zz a) cols row) (g (zz b) cols row)=true then some (.inr (.agg [.int .i64 (zzi (g (zz a) cols row) (g (zz b) cols row)).1,.int .i64 (zzi (g (zz a) cols row) (g (zz b) cols row)).2.1,.str (zzi (g (zz a) cols row) (g (zz b) cols row)).2.2],[])) else none) else none) else none:=rfl
    rw [e1,e2,zw,zw,c1,c2,g1,g2]
    generalize zbK M cols row a=x at *
    generalize zbK M cols row b=y at *
    rw [zIC,zOW]
    exact ⟨rfl,zN2 _ _⟩
   ·have e1:zjZ (zbK M) cols row (.mk [61] (0,0,[]) [] [a,b])=zgW (zbK M cols row a) (zbK M cols row b):=rfl
    have e2:(zi8 g c (.mk [61] (0,0,[]) [] [a,b]) cols row).val=if c (zz a) cols row=true then (if c (zz b) cols row=true then (if ziS (g (zz a) cols row) (g (zz b) cols row)=true then some (.inr (.agg [.int .i64 (zhH (g (zz a) cols row) (g (zz b) cols row)).1,.int .i64 (zhH (g (zz a) cols row) (g (zz b) cols row)).2.1,.str (zhH (g (zz a) cols row) (g (zz b) cols row)).2.2],[])) else none) else none) else none:=rfl
    rw [e1,e2,zw,zw,c1,c2,g1,g2]
    generalize zbK M cols row a=x at *
    generalize zbK M cols row b=y at *
    rw [zyE va.2.2 vb.2.2,zC3 va.2.2 vb.2.2]
    exact ⟨rfl,zPb _ _⟩
   ·have e1:zjZ (zbK M) cols row (.mk [60] (0,0,[]) [] [a,b])=zkh (zbK M cols row a) (zbK M cols row b):=rfl
    have e2:(zi8 g c (.mk [60] (0,0,[]) [] [a,b]) cols row).val=if c (zz a) cols row=true then (if c (zz b) cols row=true then (if zl5 (g (zz a) cols row) (g (zz b) cols row)=true then some (.inr (.agg [.int .i64 (zkx (g (zz a) cols row) (g (zz b) cols row)).1,.int .i64 (zkx (g (zz a) cols row) (g (zz b) cols row)).2.1,.str (zkx (g (zz a) cols row) (g (zz b) cols row)).2.2],[])) else none) else none) else none:=rfl
    rw [e1,e2,zw,zw,c1,c2,g1,g2]
    generalize zbK M cols row a=x at *
    generalize zbK M cols row b=y at *
    rw [zCx va.2.2 vb.2.2,zDO va.2.2 vb.2.2]
    exact ⟨rfl,zEq _ _⟩
   ·have e1:zjZ (zbK M) cols row (.mk [43] (0,0,[]) [] [a,b])=zkj (zbK M cols row a) (zbK M cols row b):=rfl
    have e2:(zi8 g c (.mk [43] (0,0,[]) [] [a,b]) cols row).val=if c (zz a) cols row=true then (if c (zz b) cols row=true then (if zl6 (g (zz a) cols row) (g (zz b) cols row)=true then some (.inr (.agg [.int .i64 (zkt (g (zz a) cols row) (g (zz b) cols row)).1,.int .i64 (zkt (g (zz a) cols row) (g (zz b) cols row)).2.1,.str (zkt (g (zz a) cols row) (g (zz b) cols row)).2.2],[])) else none) else none) else none:=rfl
    rw [e1,e2,zw,zw,c1,c2,g1,g2]
    generalize zbK M cols row a=x at *
    generalize zbK M cols row b=y at *
    rw [zB8 va vb,zF7 va vb]
    exact ⟨rfl,zDh _ _⟩
   ·have e1:zjZ (zbK M) cols row (.mk [45] (0,0,[]) [] [a,b])=zgL (zbK M cols row a) (zbK M cols row b):=rfl
    have e2:(zi8 g c (.mk [45] (0,0,[]) [] [a,b]) cols row).val=if c (zz a) cols row=true then (if c (zz b) cols row=true then (if ziE (g (zz a) cols row) (g (zz b) cols row)=true then some (.inr (.agg [.int .i64 (zhW (g (zz a) cols row) (g (zz b) cols row)).1,.int .i64 (zhW (g (zz a) cols row) (g (zz b) cols row)).2.1,.str (zhW (g (zz a) cols row) (g (zz b) cols row)).2.2],[])) else none) else none) else none:=rfl
    rw [e1,e2,zw,zw,c1,c2,g1,g2]
    generalize zbK M cols row a=x at *
    generalize zbK M cols row b=y at *
    rw [zzp va vb,zCC va vb]
    exact ⟨rfl,zCt _ _⟩
open Go Go.Proofs
set_option maxHeartbeats 4000000

theorem zjG:∀ (N k:Nat) (e:ze) (n:Nat),k≤12→n≤60→(zeb N e ((13:Int) - k) n).1=true→zba k e=true∧(zeb N e ((13:Int) - k) n).2=((n+nE k e:Nat):Int)∧n+nE k e≤60
 | 0,_,_,_,_,_,h=>by cases h
 | N+1,0,e,n,_,_,h=>by
  rw [zeb] at h
  unfold zoi at h
  rw [if_pos (by rfl)] at h
  cases h
 | N + 1,k+1,.mk op v s l,n,h1,h2,h=>by
  have w1:IntKind.i64.wrap ((n:Int)+1)=((n+1:Nat):Int):=zH n (by unfold zI; omega)
  have w2:IntKind.i64.wrap ((13:Int) - ((k+1:Nat):Int)+1)=(13:Int) - (k:Int):=by rw [IntKind.wrap_i64]; omega
  have d1:decide ((13:Int) - ((k+1:Nat):Int) > 12)=false:=decide_eq_false (by omega)
  rw [zeb] at h ⊢
  have e0:∀ m:Int,zoi (zeb N) (.mk op v s l) m n=if (bif decide (m > 12) then true else bif decide (((n+1:Nat):Int) > 60) then true else (↑l.length:Int) != zbn op)=true then (false,((n+1:Nat):Int)) else
    if (op==[108,105,116])=true then (bif s==[] then zbj v else false,((n+1:Nat):Int)) else
    if (op==[99,111,108])=true then (bif zax v then bif zcf s then !zeW s else false else false,((n+1:Nat):Int)) else
    if (bif !zax v then true else !s==[])=true then (false,((n+1:Nat):Int)) else ziu (zeb N) m l ((n+1:Nat):Int):=by
   intro m
   unfold zoi
   rw [w1]
   rfl
  rw [e0,d1] at h ⊢
  rcases Bool.eq_false_or_eq_true (decide (((n+1:Nat):Int) > 60)) with c0 | c0
  ·rw [c0,if_pos (by rfl)] at h; cases h
  rcases Bool.eq_false_or_eq_true ((↑l.length:Int) != zbn op) with c1 | c1
  ·rw [c0,c1,if_pos (by rfl)] at h; cases h
  have hn:n+1≤60:=by simp at c0; omega
  have hp:(l.length:Int)=zbn op:=by simpa using c1
  rw [c0,c1,if_neg (by simp)] at h ⊢
  rcases zgF op with ⟨p,ho⟩ | ⟨p,ho⟩ | ⟨p,ho⟩ | p
  ·have hl:l=[]:=List.eq_nil_of_length_eq_zero (by omega)
   subst hl
   rcases ho with rfl | rfl
   ·rw [if_pos (by rfl)] at h ⊢
    obtain ⟨a,b⟩:=zca h
    refine ⟨?_,by simp [nE],by simp [nE]; omega⟩
    simp [zba,b,eq_of_beq a]
   ·rw [if_neg (by decide),if_pos (by rfl)] at h ⊢
    obtain ⟨a,b⟩:=zca h
    obtain ⟨b,c⟩:=zca b
    refine ⟨?_,by simp [nE],by simp [nE]; omega⟩
    have c':zeW s=false:=by simpa using c
    simp [zba,a,b,c']
  ·obtain ⟨a,rfl⟩:∃ a,l=[a]:=List.length_eq_one_iff.1 (by omega)
   have o1:(op==[108,105,116])=false:=by rcases ho with rfl | rfl <;> rfl
   have o2:(op==[99,111,108])=false:=by rcases ho with rfl | rfl <;> rfl
   have o3:(bif op==[110,111,116] then true else op==[110,117,108,108])=true:=by rcases ho with rfl | rfl <;> rfl
   rw [if_neg (by rw [o1]; simp),if_neg (by rw [o2]; simp)] at h ⊢
   rcases Bool.eq_false_or_eq_true (zax v) with c2 | c2
   ·rcases Bool.eq_false_or_eq_true (s==[]) with c3 | c3
    ·rw [c2,c3,if_neg (by simp)] at h ⊢
     rw [ziu,w2] at h ⊢
     rcases Bool.eq_false_or_eq_true (zeb N a ((13:Int) - (k:Int)) ((n+1:Nat):Int)).1 with c4 | c4
     ·obtain ⟨i1,i2,i3⟩:=zjG N k a (n+1) (by omega) hn c4
      rw [c4,if_neg (by simp)]
      refine ⟨by simp [zba,o1,o2,o3,c2,c3,i1],?_,by simp [nE]; omega⟩
      rw [ziu]
      show (zeb N a ((13:Int) - (k:Int)) ((n+1:Nat):Int)).2=_
      rw [i2]; simp [nE]; omega
     ·rw [c4,if_pos (by rfl)] at h; cases h
    ·rw [c2,c3,if_pos (by rfl)] at h; cases h
   ·rw [c2,if_pos (by rfl)] at h; cases h
  ·obtain ⟨a,b,rfl⟩:∃ a b,l=[a,b]:=by
    match l,hp with
    | [a,b],_=>exact ⟨a,b,rfl⟩
    | [],hp=>exact absurd hp (by rw [p]; simp)
    | [_],hp=>exact absurd hp (by rw [p]; simp)
    | _::_::_::_,hp=>exact absurd hp (by rw [p]; simp; omega)
   have o1:(op==[108,105,116])=false:=by rcases ho with rfl | rfl | rfl | rfl | rfl | rfl <;> rfl
   have o2:(op==[99,111,108])=false:=by rcases ho with rfl | rfl | rfl | rfl | rfl | rfl <;> rfl
   have o3:(bif op==[110,111,116] then true else op==[110,117,108,108])=false:=by rcases ho with rfl | rfl | rfl | rfl | rfl | rfl <;> rfl
   have o4:zr6 op=true:=by rcases ho with rfl | rfl | rfl | rfl | rfl | rfl <;> rfl
   rw [if_neg (by rw [o1]; simp),if_neg (by rw [o2]; simp)] at h ⊢
   rcases Bool.eq_false_or_eq_true (zax v) with c2 | c2
   ·rcases Bool.eq_false_or_eq_true (s==[]) with c3 | c3
    ·rw [c2,c3,if_neg (by simp)] at h ⊢
     rw [ziu,w2] at h ⊢
     rcases Bool.eq_false_or_eq_true (zeb N a ((13:Int) - (k:Int)) ((n+1:Nat):Int)).1 with c4 | c4
     ·obtain ⟨i1,i2,i3⟩:=zjG N k a (n+1) (by omega) hn c4
      rw [c4,if_neg (by simp)] at h ⊢
      rw [i2,ziu,w2] at h ⊢
      rcases Bool.eq_false_or_eq_true (zeb N b ((13:Int) - (k:Int)) ((n+1+nE k a:Nat):Int)).1 with c5 | c5
      ·obtain ⟨j1,j2,j3⟩:=zjG N k b (n+1+nE k a) (by omega) i3 c5
       rw [c5,if_neg (by simp)]
       refine ⟨by simp [zba,o1,o2,o3,o4,c2,c3,i1,j1],?_,by simp [nE]; omega⟩
       rw [ziu]
       show (zeb N b ((13:Int) - (k:Int)) ((n+1+nE k a:Nat):Int)).2=_
       rw [j2]; simp [nE]; omega
      ·rw [c5,if_pos (by rfl)] at h; cases h
     ·rw [c4,if_pos (by rfl)] at h; cases h
    ·rw [c2,c3,if_pos (by rfl)] at h; cases h
   ·rw [c2,if_pos (by rfl)] at h; cases h
  ·omega

theorem zsk (e:ze):zc1 e=(bif zba 12 e then decide (nE 12 e≤60) else false):=by
 unfold zc1
 rcases Bool.eq_false_or_eq_true (zeb 16 e 1 0).1 with c | c
 ·obtain ⟨h1,_,h3⟩:=zjG 16 12 e 0 (by omega) (by omega) c
  rw [c,h1,decide_eq_true (by omega)]; rfl
 ·rw [c]
  rcases Bool.eq_false_or_eq_true (zba 12 e) with g | g
  ·rw [g]
   by_cases h:nE 12 e≤60
   ·have:=zjs 16 12 e 0 (by omega) (by omega) g (by omega)
    have h2:(zeb 16 e 1 0).1=true:=by
     have e1:zeb 16 e 1 0=(true,((0+nE 12 e:Nat):Int)):=this
     rw [e1]
    rw [h2] at c; cases c
   ·rw [decide_eq_false h]; rfl
  ·rw [g]; rfl

theorem zwM {e:ze} (hw:WfE e):zvE e=some (zc1 e,()):=by
 have hf:ztN e 12=some (zba 12 e,()):=ztg 16 12 e (by omega) (by omega) hw
 have hfc:zoq e 12=true:=by unfold zoq; rw [hf]; rfl
 have hfv:ztM e 12=zba 12 e:=by unfold ztM; rw [hf]; rfl
 unfold zvE zaj zbk
 simp only [zIS,zKb,Tr.val,zw,hfc,hfv]
 rw [zsk]
 rcases Bool.eq_false_or_eq_true (zba 12 e) with g | g
 ·have hn:zq8 e=some ((nE 12 e:Int),()):=zh3 16 12 e (by omega) (by omega) g
  have hnc:zlJ e=true:=by unfold zlJ; rw [hn]; rfl
  have hnv:zov e=(nE 12 e:Int):=by unfold zov; rw [hn]; rfl
  rw [g,hnc,hnv]
  have:decide (((nE 12 e:Nat):Int)≤60)=decide (nE 12 e≤60):=by
   by_cases h:nE 12 e≤60
   ·rw [decide_eq_true h,decide_eq_true (by omega)]
   ·rw [decide_eq_false h,decide_eq_false (by omega)]
  rw [this]
  rfl
 ·rw [g]; rfl
theorem zEh {e:ze} (hw:WfE e):zu8 e=true:=by unfold zu8; rw [zwM hw]; rfl
theorem zIa {e:ze} (hw:WfE e):zAn e=zc1 e:=by unfold zAn; rw [zwM hw]; rfl

theorem zkM {e:ze} (h:zc1 e=true):zba 12 e=true:=by
 rw [zsk] at h
 exact (zca h).1

theorem zGi {e:ze} {cols:List (Sem zh)} (hl:cols.length≤1000000) (h:zc1 e=true):zoH e cols=some ((zcx e cols).1,(zcx e cols).2,()):=by
 have:=zjC hl 16 12 16 e (by omega) (by omega) (zkM h)
 unfold zoH zcx
 rw [this,h]
 rfl
theorem zDi {e:ze} {cols:List (Sem zh)} {row:List (Sem zf)} (hl:cols.length≤1000000) (hr:∀ v∈row,VOk v) (hw:WfE e) (h:zc1 e=true):zoy e cols row=some (zez e cols row,()):=by
 have:=(zjx hl hr 16 12 16 e (by omega) (by omega) (zkM h) hw).1
 unfold zoy zez
 rw [this,h]
 rfl
open Go Go.Proofs
set_option maxHeartbeats 4000000

theorem zpl (e:ze):zgn 16 e zmQ=(e.op==[]&&(zax e.v&&(e.s==[]&&e.l.length==0))):=by
 show zxO (zgn 15) e zmQ=_
 unfold zxO zG4 eqV zax
 obtain ⟨op,v,s,l⟩:=e
 simp only [ze.op,ze.v,ze.s,ze.l]
 cases l with
 | nil=>
  simp only [List.length_nil,eqL]
  cases (op==[]) <;> cases (v.1==0&&(v.2.1==0&&(v.2.2==[]&&true))) <;> cases (s==[]) <;> rfl
 | cons x r=>
  have:(((x::r).length:Int) != (([]:List ze).length:Int))=true:=by simp; omega
  simp only [this]
  cases (op==[]) <;> cases (v.1==0&&(v.2.1==0&&(v.2.2==[]&&true))) <;> cases (s==[]) <;> rfl

theorem zyl (e:ze):zoP e zmQ=some (zgn 16 e zmQ,()):=by
 rw [zpl]
 show zcb 16 e zmQ=_
 rw [zcb]
 unfold ztR
 rcases Bool.eq_false_or_eq_true (e.op==[]) with c1 | c1
 ·rcases Bool.eq_false_or_eq_true (zax e.v) with c2 | c2
  ·rcases Bool.eq_false_or_eq_true (e.s==[]) with c3 | c3
   ·by_cases c4:e.l.length=0
    ·refine zO (s:=.h4 0 (e,()) (zmQ,())) (k:=1) (r:=(.kb true,[])) ?_ (zaI.of ?_) (by omega) ?_
     ·unfold zax at c2
      simp only [zud,Tr.val]
      have c4':(((ze.l e).length:Int) != (([]:List ze).length:Int))=false:=by simp [c4]
      show (if (bif !(e.op==[]) then true else bif !(e.v.1==0&&(e.v.2.1==0&&(e.v.2.2==[]&&true))) then true else bif !(e.s==[]) then true else ((ze.l e).length:Int) != (([]:List ze).length:Int))=true then _ else _)=_
      rw [c1,c2,c3,c4']
      rfl
     ·have c5:decide ((0:Int) < ((ze.l e).length:Int))=false:=decide_eq_false (by rw [c4]; omega)
      simp only [zyT,zuU,zox,Tr.val]
      rw [c5]
      rfl
     ·rw [c1,c2,c3,c4]; rfl
    ·have c4':(((ze.l e).length:Int) != (([]:List ze).length:Int))=true:=bne_iff_ne.2 (by show ((ze.l e).length:Int)≠0; omega)
     have c5:((ze.l e).length==0)=false:=beq_eq_false_iff_ne.2 c4
     refine zg5 (r:=(.kb false,[])) ?_ ?_
     ·unfold zax at c2
      simp only [zud,Tr.val]
      show (if (bif !(e.op==[]) then true else bif !(e.v.1==0&&(e.v.2.1==0&&(e.v.2.2==[]&&true))) then true else bif !(e.s==[]) then true else ((ze.l e).length:Int) != (([]:List ze).length:Int))=true then _ else _)=_
      rw [c1,c2,c3,c4']
      rfl
     ·rw [c1,c2,c3,c5]; rfl
   ·refine zg5 (r:=(.kb false,[])) ?_ ?_
    ·unfold zax at c2
     simp only [zud,Tr.val]
     show (if (bif !(e.op==[]) then true else bif !(e.v.1==0&&(e.v.2.1==0&&(e.v.2.2==[]&&true))) then true else bif !(e.s==[]) then true else ((ze.l e).length:Int) != (([]:List ze).length:Int))=true then _ else _)=_
     rw [c1,c2,c3]
     rfl
    ·rw [c1,c2,c3]; rfl
  ·refine zg5 (r:=(.kb false,[])) ?_ ?_
   ·unfold zax at c2
    simp only [zud,Tr.val]
    show (if (bif !(e.op==[]) then true else bif !(e.v.1==0&&(e.v.2.1==0&&(e.v.2.2==[]&&true))) then true else bif !(e.s==[]) then true else ((ze.l e).length:Int) != (([]:List ze).length:Int))=true then _ else _)=_
    rw [c1,c2]
    rfl
   ·rw [c1,c2]; rfl
 ·refine zg5 (r:=(.kb false,[])) ?_ ?_
  ·simp only [zud,Tr.val]
   show (if (bif !(e.op==[]) then true else bif !(e.v.1==0&&(e.v.2.1==0&&(e.v.2.2==[]&&true))) then true else bif !(e.s==[]) then true else ((ze.l e).length:Int) != (([]:List ze).length:Int))=true then _ else _)=_
   rw [c1]
   rfl
  ·rw [c1]; rfl

theorem zAH {e:ze} (h:zc1 e=true):(e.op==[])=false:=by
 have hg:=zkM h
 cases zeZ hg with
 | lit v hv=>rfl
 | col s hw hr=>rfl
 | one op a ho ha=>rcases ho with rfl | rfl <;> rfl
 | two op a b ho ha hb=>rcases ho with rfl | rfl | rfl | rfl | rfl | rfl <;> rfl

theorem zq7 {e:ze} {cols:List (Sem zh)} (hw:WfE e) (hl:cols.length≤1000000):zmG e cols=some (zdz e cols,()):=by
 have hs:=zyl e
 have hsc:zh8 e zmQ=true:=by unfold zh8; rw [hs]; rfl
 have hsv:zkB e zmQ=zgn 16 e zmQ:=by unfold zkB; rw [hs]; rfl
 unfold zmG zaj zbk
 simp only [zAm,Tr.val,zw,zEh hw,zIa hw]
 unfold zdz
 rcases Bool.eq_false_or_eq_true (e.op==[]) with c | c
 ·have hm:zc1 e=false:=by
   rcases Bool.eq_false_or_eq_true (zc1 e) with h | h
   ·rw [zAH h] at c; cases c
   ·exact h
  have ht:zcx e cols=(0,1):=by unfold zcx; rw [hm]; rfl
  rw [c,hsc,hsv,ht]
  rcases Bool.eq_false_or_eq_true (zgn 16 e zmQ) with h | h <;> rw [h] <;> rfl
 ·have hn:zgn 16 e zmQ=false:=by rw [zpl,c]; rfl
  rw [c,hn]
  rcases Bool.eq_false_or_eq_true (zc1 e) with h | h
  ·have ht:=zGi (cols:=cols) hl h
   have htc:zow e cols=true:=by unfold zow; rw [ht]; rfl
   have htv:zi6 e cols=zcx e cols:=by unfold zi6; rw [ht]; rfl
   rw [h,htc,htv]
   generalize zcx e cols=t
   obtain ⟨t,r⟩:=t
   rcases Bool.eq_false_or_eq_true (r==0) with k1 | k1
   ·have e0:r=0:=eq_of_beq k1
    subst e0
    rcases Bool.eq_false_or_eq_true (t==0) with k2 | k2 <;> rcases Bool.eq_false_or_eq_true (t==3) with k3 | k3 <;> (simp only [bne,k2,k3]; rfl)
   ·simp only [bne,k1]
    rfl
  ·have ht:zcx e cols=(0,1):=by unfold zcx; rw [h]; rfl
   rw [h,ht]
   rfl
open Go Go.Proofs
set_option maxHeartbeats 4000000

structure ztF (t:Sem zn):Prop where
 name:zaB t.1=true
 n1:1≤t.2.1.length
 n8:t.2.1.length≤8
 cols:∀ i,i < t.2.1.length→zaB (List.getD t.2.1 i (zl zh)).1=true∧LE.le (α:=Int) 1 (List.getD t.2.1 i (zl zh)).2.1∧LE.le (α:=Int) (List.getD t.2.1 i (zl zh)).2.1 3∧zR t.2.1 (List.getD t.2.1 i (zl zh)).1=(i:Int)
 uniq:∀ u∈t.2.2.2.1,inC u t.2.1.length
 refs:∀ f∈t.2.2.2.2.1,inC f.1 t.2.1.length∧zaB f.2=true
 key:inC t.2.2.1 t.2.1.length
 nn:(List.getD t.2.1 (Int.toNat t.2.2.1) (zl zh)).2.2=true
 chk:zdz t.2.2.2.2.2 t.2.1=(0:Int)

theorem zyn (x:Int) (n:Nat):(bif decide (x ≥ 0) then decide (x < (n:Int)) else false)=true↔inC x n:=by
 unfold inC
 by_cases h:x ≥ 0
 ·rw [decide_eq_true h]; simp; omega
 ·rw [decide_eq_false h]; simp; omega

theorem znG {a0:Str} {cols:List (Sem zh)} {key:Int} {uq:List (Sem zg)} {rf:List (Sem zt)} {op:Str} {k n:Int} {vs s:Str} {l:List (Sem Sh.expr)}:∀ (r:List (Sem zt)) (i:Int),zcY a0 cols key uq rf op k n vs s l r i=true↔
  ((∀ f∈r,inC f.1 cols.length∧zaB f.2=true)∧inC key cols.length∧(List.getD cols (Int.toNat key) (zl zh)).2.2=true∧zdz (.mk op (k,n,vs) s l) cols=(0:Int))
 | [],i=>by
  rw [zcY,← zyn]
  rcases Bool.eq_false_or_eq_true (bif decide (key ≥ 0) then decide (key < (cols.length:Int)) else false) with c | c
  ·rw [if_pos c]
   rcases Bool.eq_false_or_eq_true (List.getD cols (Int.toNat key) (zl zh)).2.2 with c2 | c2
   ·rw [if_pos c2]
    constructor
    ·intro h; exact ⟨fun f hf=>(by cases hf),c,c2,eq_of_beq h⟩
    ·intro h; rw [h.2.2.2]; rfl
   ·rw [if_neg (by rw [c2]; simp)]
    exact ⟨fun h=>(by cases h),fun h=>by rw [h.2.2.1] at c2; cases c2⟩
  ·rw [if_neg (by rw [c]; simp)]
   exact ⟨fun h=>(by cases h),fun h=>by rw [h.2.1] at c; cases c⟩
 | f::r,i=>by
  rw [zcY]
  have ih:=znG (a0:=a0) (cols:=cols) (key:=key) (uq:=uq) (rf:=rf) (op:=op) (k:=k) (n:=n) (vs:=vs) (s:=s) (l:=l) r (i+1)
  simp only [List.mem_cons,forall_eq_or_imp]
  rw [← zyn f.1]
  rcases Bool.eq_false_or_eq_true (bif decide (f.1 ≥ 0) then decide (f.1 < (cols.length:Int)) else false) with c | c
  ·rw [c,if_neg (by simp)]
   rcases Bool.eq_false_or_eq_true (zaB f.2) with c2 | c2
   ·rw [c2,if_neg (by simp),ih]
    simp
   ·rw [c2,if_pos (by rfl)]
    simp
  ·rw [c,if_pos (by rfl)]
   simp

theorem znF {a0:Str} {cols:List (Sem zh)} {key:Int} {uq:List (Sem zg)} {rf:List (Sem zt)} {op:Str} {k n:Int} {vs s:Str} {l:List (Sem Sh.expr)}:∀ (r:List (Sem zg)) (i:Int),zcZ a0 cols key uq rf op k n vs s l r i=true↔
  ((∀ u∈r,inC u cols.length)∧(∀ f∈rf,inC f.1 cols.length∧zaB f.2=true)∧inC key cols.length∧(List.getD cols (Int.toNat key) (zl zh)).2.2=true∧zdz (.mk op (k,n,vs) s l) cols=(0:Int))
 | [],i=>by
  rw [zcZ,znG]
  simp
 | u::r,i=>by
  rw [zcZ]
  have ih:=znF (a0:=a0) (cols:=cols) (key:=key) (uq:=uq) (rf:=rf) (op:=op) (k:=k) (n:=n) (vs:=vs) (s:=s) (l:=l) r (i+1)
  simp only [List.mem_cons,forall_eq_or_imp]
  rw [← zyn u]
  rcases Bool.eq_false_or_eq_true (bif decide (GE.ge (α:=Int) u 0) then decide (LT.lt (α:=Int) u (cols.length:Int)) else false) with c | c
  ·rw [c,if_neg (by simp),ih]
   simp
  ·rw [c,if_pos (by rfl)]
   simp

theorem zrz {a0:Str} {cols:List (Sem zh)} {key:Int} {uq:List (Sem zg)} {rf:List (Sem zt)} {op:Str} {k n:Int} {vs s:Str} {l:List (Sem Sh.expr)}:∀ (r:List (Sem zh)) (i:Nat),zes a0 cols key uq rf op k n vs s l r (i:Int)=true↔
  ((∀ j,j < r.length→zaB (List.getD r j (zl zh)).1=true∧LE.le (α:=Int) 1 (List.getD r j (zl zh)).2.1∧LE.le (α:=Int) (List.getD r j (zl zh)).2.1 3∧zR cols (List.getD r j (zl zh)).1=((i+j:Nat):Int))∧
   (∀ u∈uq,inC u cols.length)∧(∀ f∈rf,inC f.1 cols.length∧zaB f.2=true)∧inC key cols.length∧(List.getD cols (Int.toNat key) (zl zh)).2.2=true∧zdz (.mk op (k,n,vs) s l) cols=(0:Int))
 | [],i=>by
  rw [zes,znF]
  simp
 | x :: r,i=>by
  rw [zes]
  have ih:=zrz (a0:=a0) (cols:=cols) (key:=key) (uq:=uq) (rf:=rf) (op:=op) (k:=k) (n:=n) (vs:=vs) (s:=s) (l:=l) r (i+1)
  have hsplit:(∀ j,j < (x::r).length→zaB (List.getD (x::r) j (zl zh)).1=true∧LE.le (α:=Int) 1 (List.getD (x::r) j (zl zh)).2.1∧LE.le (α:=Int) (List.getD (x::r) j (zl zh)).2.1 3∧zR cols (List.getD (x::r) j (zl zh)).1=((i+j:Nat):Int))↔
    ((zaB x.1=true∧LE.le (α:=Int) 1 x.2.1∧LE.le (α:=Int) x.2.1 3∧zR cols x.1=(i:Int))∧∀ j,j < r.length→zaB (List.getD r j (zl zh)).1=true∧LE.le (α:=Int) 1 (List.getD r j (zl zh)).2.1∧LE.le (α:=Int) (List.getD r j (zl zh)).2.1 3∧zR cols (List.getD r j (zl zh)).1=((i+1+j:Nat):Int)):=by
   constructor
   ·intro h
    refine ⟨h 0 (by simp),fun j hj=>?_⟩
    have:=h (j+1) (by simp; omega)
    rw [show i+1+j=i+(j+1) by omega]
    exact this
   ·rintro ⟨h0,h⟩ j hj
    cases j with
    | zero=>exact h0
    | succ j=>
     have:=h j (by simpa using hj)
     rw [show i+1+j=i+(j+1) by omega] at this
     exact this
  rw [hsplit]
  have ep:zbF (a0,cols,key,uq,rf,ze.mk op (k,n,vs) s l) x.1=zR cols x.1:=rfl
  have hc:(bif !zaB x.1 then true else bif decide (LT.lt (α:=Int) x.2.1 1) then true else bif decide (GT.gt (α:=Int) x.2.1 3) then true else zR cols x.1 != (i:Int))=false↔(zaB x.1=true∧LE.le (α:=Int) 1 x.2.1∧LE.le (α:=Int) x.2.1 3∧zR cols x.1=(i:Int)):=by
   rcases Bool.eq_false_or_eq_true (zaB x.1) with c | c
   ·rw [c]
    by_cases h1:LT.lt (α:=Int) x.2.1 1
    ·rw [decide_eq_true h1]; simp; omega
    ·rw [decide_eq_false h1]
     by_cases h2:GT.gt (α:=Int) x.2.1 3
     ·rw [decide_eq_true h2]; simp; omega
     ·rw [decide_eq_false h2]
      exact ⟨fun h=>⟨rfl,by omega,by omega,by simpa using h⟩,fun h=>by simpa using h.2.2.2⟩
   ·rw [c]; simp
  rw [ep]
  rcases Bool.eq_false_or_eq_true (bif !zaB x.1 then true else bif decide (LT.lt (α:=Int) x.2.1 1) then true else bif decide (GT.gt (α:=Int) x.2.1 3) then true else zR cols x.1 != (i:Int)) with c | c
  ·rw [if_pos c]
   constructor
   ·intro h; cases h
   ·intro h
    rw [hc.2 h.1.1] at c; cases c
  ·rw [if_neg (by rw [c]; simp)]
   have:=hc.1 c
   rw [show ((i:Int)+1)=((i+1:Nat):Int) by omega,ih]
   constructor
   ·intro h; exact ⟨⟨this,h.1⟩,h.2⟩
   ·intro h; exact ⟨h.1.2,h.2⟩

theorem zrL (t:Sem zn):zdi t=true↔ztF t:=by
 unfold zdi
 have e0:ze.mk (ze.op t.2.2.2.2.2) ((ze.v t.2.2.2.2.2).1,(ze.v t.2.2.2.2.2).2.1,(ze.v t.2.2.2.2.2).2.2) (ze.s t.2.2.2.2.2) (ze.l t.2.2.2.2.2)=t.2.2.2.2.2:=ze.eta _
 rcases Bool.eq_false_or_eq_true (zaB t.1) with c | c
 ·by_cases h1:t.2.1.length < 1
  ·rw [c,decide_eq_true (by omega:(t.2.1.length:Int) < 1),if_pos (by rfl)]
   exact ⟨fun h=>(by cases h),fun h=>by have:=h.n1; omega⟩
  ·by_cases h2:8 < t.2.1.length
   ·rw [c,decide_eq_false (by omega:¬ (t.2.1.length:Int) < 1),decide_eq_true (by omega:(t.2.1.length:Int) > 8),if_pos (by rfl)]
    exact ⟨fun h=>(by cases h),fun h=>by have:=h.n8; omega⟩
   ·rw [c,decide_eq_false (by omega:¬ (t.2.1.length:Int) < 1),decide_eq_false (by omega:¬ (t.2.1.length:Int) > 8),if_neg (by simp)]
    have:=zrz (a0:=t.1) (cols:=t.2.1) (key:=t.2.2.1) (uq:=t.2.2.2.1) (rf:=t.2.2.2.2.1) (op:=ze.op t.2.2.2.2.2) (k:=(ze.v t.2.2.2.2.2).1) (n:=(ze.v t.2.2.2.2.2).2.1) (vs:=(ze.v t.2.2.2.2.2).2.2) (s:=ze.s t.2.2.2.2.2) (l:=ze.l t.2.2.2.2.2) t.2.1 0
    rw [e0] at this
    refine Iff.trans this ?_
    constructor
    ·rintro ⟨k1,k2,k3,k4,k5,k6⟩
     exact ⟨c,by omega,by omega,fun i hi=>by have:=k1 i hi; rwa [Nat.zero_add] at this,k2,k3,k4,k5,k6⟩
    ·intro h
     exact ⟨fun i hi=>by have:=h.cols i hi; rwa [Nat.zero_add],h.uniq,h.refs,h.key,h.nn,h.chk⟩
 ·rw [c,if_pos (by rfl)]
  exact ⟨fun h=>(by cases h),fun h=>by rw [h.name] at c; cases c⟩
end Cad
