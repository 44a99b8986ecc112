/- Copies of tables with rows. Copies of tables with rows: what they answer. Rows: sorted. Bases: a table as it would be. Bases: insert. schema.copied is its argument, of what is not too deep (its other name). A call that only reads a variable to which a pointer leads: the variable is lent. The table of a statement: places. The table of a statement. Bases: create. Bases: a statement is done. The chapter's examples. The law BaseSelects. Few of anything: always an answer, and a short one. The law BaseSelects holds. Rows: insertion sort, ranges and blocks that change places: they end, and what lies then are the same rows. Rows: merged: it ends, and what lies then are the same rows. Rows: merged, sorted: it ends, and what lies then are the same rows. Rows, sorted: what lies then are the same rows, in the same order if they rose. Few tables: their checks are not deep. -/
import Derived.Test.YtiefilkilbdpgaaGreatDoorL13
import Derived.Test.YtiefilkilbdpgaaGreatDoorL16
import Derived.Test.YtiefilkilbdpgaaGreatDoorL11
import Derived.Test.YtiefilkilbdpgaaGreatDoorL14
import Derived.Test.YtiefilkilbdpgaaGreatDoorL12
namespace Cad
open Go Go.Proofs
open List (getD)
open List (length)
noncomputable section
set_option maxHeartbeats 4000000

abbrev M3:Nat→zY:=fun j=>if j=7 then { slots:=[1,2,34,35] } else { }
inductive Jn where
 | h7 (i34:Int) (i35:Int) (ja0:Sem Sh.str) (ja2:Sem zg) (ja5:zl) (ja6:Int) (ja7:Int) (ja8:zl) (ja9:zl) (ja10:List (Sem Sh.expr)) (jb0:List UInt8) (jb2:Int) (jb5:List UInt8) (jb6:Int) (jb7:Int) (jb8:List UInt8) (jb9:List UInt8) (lh_2:List (Sem zi)) (lh_3:List (Sem zg)) (lh_4:List (Sem zq)) (lh_5:List (Sem zf.sl))
abbrev Lp:Jn→Nat×St
 | .h7 i34 i35 ja0 ja2 ja5 ja6 ja7 ja8 ja9 ja10 jb0 jb2 jb5 jb6 jb7 jb8 jb9 lh_2 lh_3 lh_4 lh_5=>(7,⟨tm 50 [(1,AV.ptr 0 0),(2,AV.ptr 1 0),(34,AV.int .i64 i34),(35,AV.int .i64 i35)],[AO.box [AV.str ja0,AV.vec 2,AV.int .i64 ja2,AV.vec 3,AV.vec 4,AV.str ja5,AV.int .i64 ja6,AV.int .i64 ja7,AV.str ja8,AV.str ja9,AV.sl Sh.expr ja10,AV.vec 5],AO.box [AV.str jb0,AV.nils,AV.int .i64 jb2,AV.nils,AV.nils,AV.str jb5,AV.int .i64 jb6,AV.int .i64 jb7,AV.str jb8,AV.str jb9,AV.nils,AV.nils],AO.vec zi lh_2,AO.vec zg lh_3,AO.vec zq lh_4,AO.vec zf.sl lh_5]⟩)
theorem ze8:zA DS.P 131 Tryz.f131 1:=aL (by kernel_rfl)
def QW (x0:Sem zh):Tr (Jn ⊕ zV):=
 Tr.chk (decide (length x0.1.2.1≤1073741824))
 (Tr.chk (decide (length x0.1.2.2.2.1≤1073741824))
  (Tr.chk (decide (length x0.1.2.2.2.2.1≤1073741824)) (Tr.chk (lM 16 (zB x0.1.2.2.2.2.2)) (Tr.chk (decide (length x0.2≤1073741824)) (Tr.to (Jn.h7 (↑(length x0.2):Int) 0 x0.1.1 x0.1.2.2.1 (ze.op x0.1.2.2.2.2.2) (ze.v x0.1.2.2.2.2.2).1 (ze.v x0.1.2.2.2.2.2).2.1 (ze.v x0.1.2.2.2.2.2).2.2
  (ze.s x0.1.2.2.2.2.2) (ze.l x0.1.2.2.2.2.2) [] 0 [] 0 0 [] [] x0.1.2.1 x0.1.2.2.2.1 x0.1.2.2.2.2.1 x0.2))))))
theorem zdf (x0:Sem zh):rn DS 0 M3 Tryz.f131 [zz zh x0] []=(QW x0).map (lf Tryz.f131 Lp):=by kernel_rfl
def Kx:Jn→Tr (Jn ⊕ zV)
 | .h7 i34 i35 ja0 ja2 ja5 ja6 ja7 ja8 ja9 ja10 jb0 jb2 jb5 jb6 jb7 jb8 jb9 lh_2 lh_3 lh_4 lh_5=>
  let a0:=decide (i35.toNat < lh_5.length)
  let a1:=lh_5.getD i35.toNat (zj zf.sl)
  Tr.br (decide (i35 < i34))
  (Tr.chk (zF i35 lh_5.length)
   (Tr.chk a0 (Tr.chk (decide (length a1≤1073741824)) (Tr.chk (zF i35 lh_5.length) (Tr.chk a0 (Tr.to (Jn.h7 i34 (IntKind.i64.wrap (i35+1)) ja0 ja2 ja5 ja6 ja7 ja8 ja9 ja10 jb0 jb2 jb5 jb6 jb7 jb8 jb9 lh_2 lh_3 lh_4 (lh_5.set i35.toNat a1))))))))
  (Tr.re
   (AV.agg [AV.str ja0,AV.vec 0,AV.int .i64 ja2,AV.vec 1,AV.vec 2,AV.str ja5,AV.int .i64 ja6,AV.int .i64 ja7,AV.str ja8,AV.str ja9,AV.sl Sh.expr ja10,AV.vec 3])
   [AO.vec zi lh_2,AO.vec zg lh_3,AO.vec zq lh_4,AO.vec zf.sl lh_5])
theorem zfF:∀ s,run DS 0 M3 (Func.results Tryz.f131).toList 400 (zy Tryz.f131 (Lp s).1) (Lp s).2=(Kx s).map (lf Tryz.f131 Lp)
 | .h7 i34 i35 ja0 ja2 ja5 ja6 ja7 ja8 ja9 ja10 jb0 jb2 jb5 jb6 jb7 jb8 jb9 lh_2 lh_3 lh_4 lh_5=>by kernel_rfl
end

def YN (ks:List Sh) (c:zx (ks.map some)→Bool) (g:zx (ks.map some)→zV):cz (ks.map some):=fun x h=>match h with
 | []=>.chk (c x) (.ok (g x))
 | _=>.err

theorem Wr {P:Program} {gl:Nat→AV} {σ:Type} {E:bq} {k:FuncId} {f:Func} {ks:List Sh} {keep:Nat→zY} {gas n:Nat} {e:σ→Nat×St} {t:σ→Tr (σ ⊕ zV)} {i:zx (ks.map some)→Tr (σ ⊕ zV)} {c:zx (ks.map some)→Bool} {g:zx (ks.map some)→zV}
  (hE:zm E) (hf:zA E.P k f ks.length) (hgo:∀ x,run E 0 keep f.results.toList gas (aA f) (af f.ntmps (gm (ks.map some) x) [])=(i x).map (lf f e))
  (hon:∀ s,run E 0 keep f.results.toList gas (zy f (e s).1) (e s).2=(t s).map (lf f e))
  (hg:∀ x,c x=true→bW t n (i x)=some (g x)) (qp:E.P=P:=by rfl) (qg:E.gl=gl:=by rfl):lL P gl k (zS (ks.map some) (YN ks c g)):=by
 subst qp qg
 refine bt (by simpa using hf) fun x h0 res hx C hC=>?_
 unfold YN at hx
 split at hx
 ·simp only [Tr.val] at hx
  split at hx
  ·rename_i hc
   simp only [aq] at hx
   subst hx
   exact km (n0:=0) hE (by simpa using hf) (fun id _=>hC id (aE _)) (n+1) _ _ _ (by rw [jd hon (hgo x)]; exact hg x hc) rfl
  ·cases hx
 ·simp at hx

def FB (x:Sem zh):zV:=(AV.agg [AV.str x.1.1,AV.vec 0,AV.int .i64 x.1.2.2.1,AV.vec 1,AV.vec 2,AV.str (ze.op x.1.2.2.2.2.2),AV.int .i64 (ze.v x.1.2.2.2.2.2).1,AV.int .i64 (ze.v x.1.2.2.2.2.2).2.1,AV.str (ze.v x.1.2.2.2.2.2).2.2,AV.str (ze.s x.1.2.2.2.2.2),AV.sl Sh.expr (ze.l x.1.2.2.2.2.2),AV.vec 3],
 [AO.vec zi x.1.2.1,AO.vec zg x.1.2.2.2.1,AO.vec zq x.1.2.2.2.2.1,AO.vec zf.sl x.2])

def FA (x:Sem zh):Bool:=decide (length x.1.2.1≤1000000)&&decide (length x.1.2.2.2.1≤1000000)&&decide (length x.1.2.2.2.2.1≤1000000)&&lM 16 x.1.2.2.2.2.2&&decide (length x.2≤1000000)&&List.all x.2 (fun r=>decide (length r≤1000000))

theorem OB {α:Type} (l:List α) (d:α) (i:Nat) (h:i < l.length):l.set i (l.getD i d)=l:=by
 rw [aD,zI h,bz]
 exact List.set_getElem_self h

theorem Qx (x:Sem zh) (hc:FA x=true):bW Kx 100000000 (QW x)=some (FB x):=by
 unfold FA at hc
 simp only [aG,zW,cL] at hc
 obtain ⟨⟨⟨⟨⟨h1,h2⟩,h3⟩,h4⟩,h5⟩,h6⟩:=hc
 have hl:=kq (t:=Kx) (β:=Unit) (length x.2) (fun _ i=>.h7 (length x.2:Int) (i:Int) x.1.1 x.1.2.2.1 (ze.op x.1.2.2.2.2.2) (ze.v x.1.2.2.2.2.2).1 (ze.v x.1.2.2.2.2.2).2.1 (ze.v x.1.2.2.2.2.2).2.2
   (ze.s x.1.2.2.2.2.2) (ze.l x.1.2.2.2.2.2) [] 0 [] 0 0 [] [] x.1.2.1 x.1.2.2.2.1 x.1.2.2.2.2.1 x.2) (fun _ _=>True) (fun r=>r=FB x) 1 (by
   intro b i hi _
   have hrow:length (getD x.2 i (zj zf.sl))≤1000000:=h6 _ (by rw [aD,zI hi,bz]; exact ce hi)
   simp only [Kx,Tr.val,zX hi,zG hi,if_true,be,ba hi,OB _ _ _ hi]
   rw [zH i (by unfold zE; omega),if_pos (ba (by omega))]
   exact Or.inl ⟨(),trivial,rfl⟩) (by
   intro b n _ hn
   obtain ⟨n,rfl⟩:∃ k,n=k+1:=⟨n - 1,by omega⟩
   rw [ko]
   simp only [Kx,Tr.val,ag]
   exact ⟨_,rfl,rfl⟩) (length x.2) 0 () 100000000 rfl (aE _) trivial (by omega)
 obtain ⟨r,hr,rfl⟩:=hl
 unfold bW
 have e1:decide (length x.1.2.1≤1073741824)=true:=ba (by omega)
 have e2:decide (length x.1.2.2.2.1≤1073741824)=true:=ba (by omega)
 have e3:decide (length x.1.2.2.2.2.1≤1073741824)=true:=ba (by omega)
 have e5:decide (length x.2≤1073741824)=true:=ba (by omega)
 simp only [QW,Tr.val,e1,e2,e3,e5,zn,h4,if_true]
 exact hr

noncomputable def zal:zD:=zS ([zh].map some) (YN [zh] (fun x=>FA x.1) (fun x=>FB x.1))
theorem VQ:FK 131 zal:=Wr (ks:=[zh]) (keep:=M3) (gas:=400) (n:=100000000) (e:=Lp) (t:=Kx) (i:=fun x=>QW x.1) rb ze8 (fun x=>zdf x.1) zfF (fun x hc=>Qx x.1 hc)
noncomputable section
def LQ:=LP.add 131 zal
theorem vA:zm LQ:=FR.add VQ

def Xu (x0:Sem zh):Tr (Empty ⊕ zV):=
 let a0:=(x0.1.1,x0.1.2.1,x0.1.2.2.1,x0.1.2.2.2.1,x0.1.2.2.2.2.1,zB x0.1.2.2.2.2.2)
 let a1:=rP x0.2 (-1)
 let a2:=rP x0.2 x0.1.2.2.1
 Tr.chk (FA (a0,x0.2))
 (Tr.br (!iK a0)
  (Tr.chk a1.isSome (Tr.re (AV.agg [AV.str x0.1.1,AV.vec 0,AV.int .i64 x0.1.2.2.1,AV.vec 1,AV.vec 2,AV.str (ze.op x0.1.2.2.2.2.2),AV.int .i64 (ze.v x0.1.2.2.2.2.2).1,AV.int .i64 (ze.v x0.1.2.2.2.2.2).2.1,AV.str (ze.v x0.1.2.2.2.2.2).2.2,AV.str (ze.s x0.1.2.2.2.2.2),AV.sl Sh.expr (ze.l x0.1.2.2.2.2.2),AV.vec 3]) [AO.vec zi x0.1.2.1,AO.vec zg x0.1.2.2.2.1,
  AO.vec zq x0.1.2.2.2.2.1,AO.vec zf.sl (a1.getD [])]))
  (Tr.chk a2.isSome (Tr.re (AV.agg [AV.str x0.1.1,AV.vec 0,AV.int .i64 x0.1.2.2.1,AV.vec 1,AV.vec 2,AV.str (ze.op x0.1.2.2.2.2.2),AV.int .i64 (ze.v x0.1.2.2.2.2.2).1,AV.int .i64 (ze.v x0.1.2.2.2.2.2).2.1,AV.str (ze.v x0.1.2.2.2.2.2).2.2,AV.str (ze.s x0.1.2.2.2.2.2),AV.sl Sh.expr (ze.l x0.1.2.2.2.2.2),AV.vec 3]) [AO.vec zi x0.1.2.1,AO.vec zg x0.1.2.2.2.1,
  AO.vec zq x0.1.2.2.2.2.1,AO.vec zf.sl (a2.getD [])])))
def Cz (x0:Sem zh):=zT [zh] t0 100000000 (Xu x0)
def G0 (x0:Sem zh):=(Cz x0).isSome
def Ol (x0:Sem zh):=o1 (Cz x0)
def zaG:=FT [zh] [zh] fun x=>Cz x.1
theorem We:FK 81 zaG:=vA.T1 (f:=Tryz.f81) (keep:=k0) (e:=e0)

def LR:=LQ.add 81 zaG
theorem vB:zm LR:=vA.add We
end

noncomputable def Xs (x0:Sem aX) (x1:Sem zh) (x2:Sem zg):Tr (Empty ⊕ zV):=
 let a0:=((x1.1.1,x1.1.2.1,x1.1.2.2.1,x1.1.2.2.2.1,x1.1.2.2.2.2.1,zB x1.1.2.2.2.2.2),x1.2)
 let a1:=Ol a0
 let a2:=((a1.1.1,a1.1.2.1,a1.1.2.2.1,a1.1.2.2.2.1,a1.1.2.2.2.2.1,zB a1.1.2.2.2.2.2),a1.2)
 let a3:=rF a2
 let a4:=cU a3
 let a5:=ly x0.1 a2
 let a6:=si a5 x2
 Tr.chk (G0 a0)
 (Tr.chk (np a2)
  (Tr.br (a3 != 0) (Tr.chk (uK a3) (Tr.re (AV.tup [AV.sl zh a4.1,AV.agg [AV.int .i64 a4.2.1,AV.int .i64 a4.2.2.1,AV.sl zf.sl a4.2.2.2]]) [])) (Tr.chk (kP x0.1 a2) (Tr.chk (mb a5 x2) (Tr.re (AV.tup [AV.sl zh a6.1,AV.agg [AV.int .i64 a6.2.1,AV.int .i64 a6.2.2.1,AV.sl zf.sl a6.2.2.2]]) [])))))
noncomputable def kd (x0:Sem aX) (x1:Sem zh) (x2:Sem zg):=zT [zh.sl,c5] t0 100000000 (Xs x0 x1 x2)
noncomputable def uH (x0:Sem aX) (x1:Sem zh) (x2:Sem zg):=(kd x0 x1 x2).isSome
noncomputable def Bs (x0:Sem aX) (x1:Sem zh) (x2:Sem zg):=o2 (kd x0 x1 x2)
noncomputable def zae:=FT [aX,zh,zg] [zh.sl,c5] fun x=>kd x.1 x.2.1 x.2.2.1
theorem VI:FK 45 zae:=vB.T1 (f:=Tryz.f45) (keep:=k0) (e:=e0)

noncomputable def LU:=LR.add 45 zae
theorem vC:zm LU:=vB.add VI

noncomputable def Xn (x0:Sem aX):Tr (Empty ⊕ zV):=
 let a0:=aj x0.1 x0.2.2.1
 let a1:=getD x0.1 (Int.toNat a0) (zj zh)
 let a2:=[x0.2.2.2.2.2.2.2.2.2.2.1]
 let a3:=(x0.1,x0.2.1,x0.2.2.1,x0.2.2.2.1,x0.2.2.2.2.1,x0.2.2.2.2.2.1,x0.2.2.2.2.2.2.1,x0.2.2.2.2.2.2.2.1,x0.2.2.2.2.2.2.2.2.1,zB x0.2.2.2.2.2.2.2.2.2.1,x0.2.2.2.2.2.2.2.2.2.2.1,x0.2.2.2.2.2.2.2.2.2.2.2.1,zB x0.2.2.2.2.2.2.2.2.2.2.2.2.1,x0.2.2.2.2.2.2.2.2.2.2.2.2.2)
 let a4:=((a1.1.1,a1.1.2.1,a1.1.2.2.1,a1.1.2.2.2.1,a1.1.2.2.2.2.1,zB a1.1.2.2.2.2.2),a1.2++a2)
 let a5:=Bs a3 a4 1
 Tr.br (decide (a0 < 0))
 (Tr.chk true
  (Tr.re (AV.tup [AV.sl zh (cU 6).1,AV.agg [AV.int .i64 (cU 6).2.1,AV.int .i64 (cU 6).2.2.1,AV.sl zf.sl (cU 6).2.2.2]]) []))
 (Tr.chk (zF a0 (length x0.1))
  (Tr.chk (decide (length a1.2≤1073741824)) (Tr.chk (decide (length x0.2.2.2.2.2.2.2.2.2.2.1≤1073741824)) (Tr.chk (decide (length a1.2+a2.length≤1073741824)) (Tr.chk (uH a3 a4 1) (Tr.re (AV.tup [AV.sl zh a5.1,AV.agg [AV.int .i64 a5.2.1,AV.int .i64 a5.2.2.1,AV.sl zf.sl a5.2.2.2]]) []))))))
noncomputable def gL (x0:Sem aX):=zT [zh.sl,c5] t0 100000000 (Xn x0)
noncomputable def uM (x0:Sem aX):=(gL x0).isSome
noncomputable def Bu (x0:Sem aX):=o2 (gL x0)
noncomputable def ZT:=FT [aX] [zh.sl,c5] fun x=>gL x.1
theorem Vk:FK 19 ZT:=vC.T1 (f:=Tryz.f19) (keep:=k0) (e:=e0)

noncomputable def LW:=LU.add 19 ZT
theorem FS:zm LW:=vC.add Vk

def C4 (c:ze→Bool):zD:=zC [.expr] [.expr] (fun x=>c x.1) fun x=>(x.1,())
noncomputable def yK (c:ze→Bool):bq:=QG.add 72 (C4 c)
theorem qP {c:ze→Bool} (hg:FK 72 (C4 c)):zm (yK c):=vl.add hg
abbrev T4:Nat→zY:=fun j=>if j=3 then { slots:=[1,2,10,11] } else { }
abbrev CC (i10:Int) (i11:Int) (ja0:zl) (ja1:Int) (ja2:Int) (ja3:zl) (ja4:zl) (lh_2:List (Sem Sh.expr)):St:={
 tmps:=
  (tm 26 [(1,AV.ptr 0 0),(2,AV.ptr 1 0),(10,AV.int .i64 i10),(11,AV.int .i64 i11)]),
 heap:=
  [AO.box [AV.str ja0,AV.int .i64 ja1,AV.int .i64 ja2,AV.str ja3,AV.str ja4,AV.vec 2],
   AO.box [AV.str [],AV.int .i64 0,AV.int .i64 0,AV.str [],AV.str [],AV.nils],AO.vec Sh.expr lh_2] }
theorem wq (c:ze→Bool):zA (yK c).P 72 Tryz.f72 1:=aL (by kernel_rfl)
theorem zc8 (c:ze→Bool) (op:zl) (v:V) (s:zl) (l:List ze):rn (yK c) 0 T4 Tryz.f72 [zz Sh.expr (ze.mk op v s l)] []=
 Tr.chk (decide (l.length≤1073741824)) (Tr.ok (zt.head 3 (zy Tryz.f72 3) (CC (↑l.length:Int) 0 op v.1 v.2.1 v.2.2 s l))):=by kernel_rfl
theorem In (c:ze→Bool) (i10:Int) (i11:Int) (ja0:zl) (ja1:Int) (ja2:Int) (ja3:zl) (ja4:zl) (lh_2:List (Sem Sh.expr)):rh (yK c) 0 T4 Tryz.f72 3 (CC i10 i11 ja0 ja1 ja2 ja3 ja4 lh_2)=
 Tr.br (decide (i11 < i10))
 (Tr.chk (zF i11 lh_2.length)
  (Tr.chk (decide (i11.toNat < lh_2.length))
   (Tr.chk (c (zB (lh_2.getD i11.toNat (zj Sh.expr))))
    (Tr.chk (zF i11 lh_2.length)
     (Tr.chk (decide (i11.toNat < lh_2.length))
      (Tr.ok
       (zt.head 3 (zy Tryz.f72 3)
        (CC i10 (IntKind.i64.wrap (i11+1)) ja0 ja1 ja2 ja3 ja4
         (lh_2.set i11.toNat
          (zB (lh_2.getD i11.toNat (zj Sh.expr))))))))))))
 (Tr.ok
  (zt.ret (AV.agg [AV.str ja0,AV.int .i64 ja1,AV.int .i64 ja2,AV.str ja3,AV.str ja4,AV.vec 0]) [AO.vec Sh.expr lh_2])):=by kernel_rfl

theorem zcu {c:ze→Bool} (hg:FK 72 (C4 c)) {C:cr} (hC:∀ id,C.ρ0 id=none) (op:zl) (v:V) (s:zl) (l:List ze) (hl:l.length≤1073741824) (hcl:l.all c=true):
  ∀ (k i:Nat),l.length - i=k→i≤l.length→Reach (yK c) C 72 (zy Tryz.f72 3) (CC l.length i op v.1 v.2.1 v.2.2 s l) (fun r h=>ae h [.expr] r=some (ze.mk op v s l,())):=by
 intro k
 induction k with
 | zero=>
  intro i hk hi
  obtain rfl:i=l.length:=by omega
  refine zk (n0:=0) (qP hg) (wq c) (fun id _=>hC id) (In c _ _ _ _ _ _ _ _) ?_
  simp only [ag,Tr.val_brF]
  rfl
 | succ k IH=>
  intro i hk hi
  have hlt:i < l.length:=by omega
  refine zk (n0:=0) (qP hg) (wq c) (fun id _=>hC id) (In c _ _ _ _ _ _ _ _) ?_
  have h1:c l[i]=true:=cL.1 hcl _ (ce hlt)
  have h2:decide ((i:Int).toNat < l.length)=true:=by simpa using hlt
  have h3:l.set (i:Int).toNat l[i]=l:=by simp
  simp only [zX hlt,zG hlt,ac l _ hlt,ze.eta,Tr.val_brT,Tr.val_chkT,h1,h2,h3,zH i (by unfold zE; omega)]
  exact IH (i+1) (by omega) (by omega)

theorem A6:∀ n,FK 72 (C4 (lM n))
 | 0=>cQ ⟨Tryz.f72,(wq (fun _=>false)).1,(wq (fun _=>false)).2.1,(wq (fun _=>false)).2.2.1⟩ (fun _=>rfl)
 | n+1=>by
  refine zM (E:=yK (lM n)) (wq _) fun x hc C hC=>?_
  obtain ⟨⟨op,v,s,l⟩,u⟩:=x
  have hc:(decide (l.length≤1073741824)&&l.all (lM n))=true:=hc
  simp only [aG,zW] at hc
  refine zk (n0:=0) (qP (A6 n)) (wq _) (fun id _=>hC id) (zc8 _ op v s l) ?_
  refine cP (by simpa using hc.1) ?_
  exact zcu (A6 n) hC op v s l hc.1 hc.2 _ 0 rfl (aE _)
def Z5:zD:=C4 (lM 16)
theorem Vy:FK 72 Z5:=A6 16
open Go

def CK:AO→Bool
 | .box cs=>cs.all lg
 | _=>false

def Nb (pos:Nat) (s:Sh) (F:zD):zD:=fun args hp n=>match args[pos]? with
 | some (.ptr t 0)=>match hp t with
  | .box cs=>match bX hp s cs with
   | some (x,[])=>
    let az:=args.set pos (.eptr (zo s x) 0)
    let z:=t::cs.flatMap bp
    if (AV.idsL az).all (fun i=>(AV.idsL args).contains i&&(hp i).ids.isEmpty && !z.contains i)&&(cs.flatMap bp).all (fun i=>(hp t).ids.contains i) then
     (F az hp n).bind fun f=>if nB f.val&&f.nw.isEmpty&&f.wr.all (fun p=>CK p.2) then .ok { f with val:=f.val.ren fun i=>i } else .err
    else .err
   | _=>.err
  | _=>.err
 | _=>.err

theorem KX {P:Program} {gl:Nat→AV} {k:FuncId} {pos:Nat} {s:Sh} {F:zD} (h:lL P gl k F):lL P gl k (Nb pos s F):=by
  refine ⟨h.fn,?_⟩
  intro w U ρ hp n args vals f fp hv hr hub hgl hfp hin hcl hn
  unfold Nb at hv
  split at hv
  rotate_left
  · simp at hv
  rename_i t hpos
  split at hv
  rotate_left
  · simp at hv
  rename_i cs hbox
  split at hv
  rotate_left
  · simp at hv
  rename_i x himp
  dsimp only at hv
  split at hv
  rotate_left
  · simp at hv
  rename_i hcond
  simp only [aG,cL,List.contains_eq_mem,zW,Bool.not_eq_true',decide_eq_false_iff_not,List.isEmpty_iff] at hcond
  obtain ⟨hids,hvec⟩:=hcond
  rw [Tr.val_bind,eS] at hv
  obtain ⟨f0,hf0,hv⟩:=hv
  split at hv
  rotate_left
  · simp at hv
  rename_i hsc
  simp only [aG,List.isEmpty_iff,cL] at hsc
  obtain ⟨⟨hs1,hs2⟩,hs3⟩:=hsc
  simp only [Tr.val_ok,aq] at hv
  subst hv
  have hposl:pos < args.length:=(bP.1 hpos).1
  have htfp:t∈fp:=hin t (fh (ig hpos) (by simp [AV.ids]))
  have hvfp:∀ i∈cs.flatMap bp,i∈fp:=fun i hi=>hcl t htfp i (hvec i hi)
  have hzfp:∀ i∈t::cs.flatMap bp,i∈fp:=by
    intro i hi
    rcases dT.1 hi with rfl | hi
    · exact htfp
    · exact hvfp i hi
  generalize hz:t::cs.flatMap bp=z at hids hzfp
  generalize hU1:(fun b=>U b∧¬ ∃ j∈z,zO ρ j (hp j) b)=U1
  have hsub:∀ b,U1 b→U b:=by intro b hb; rw [← hU1] at hb; exact hb.1
  have hzU:∀ j∈z,∀ b,zO ρ j (hp j) b→¬ U1 b:=fun j hj b ho hb=>by rw [← hU1] at hb; exact hb.2 ⟨j,hj,ho⟩
  have hto:=hfp.ob t htfp
  rw [hbox] at hto
  obtain ⟨b,T,cells,e1,e2,e3,e4,e5⟩:=hto
  have htz:t∈z:=by rw [← hz]; exact yB
  have hbU:¬ U1 b:=hzU t htz b ⟨by rw [hbox]; rfl,_,e1,rfl⟩
  obtain ⟨i1,_,i3⟩:=gz (w:=w) (U:=U) (U':=U1) (ρ:=ρ) (hp:=hp) hsub s cs x [] (fun j=>(cells.toList[j]?).getD undef) himp
    (fun j c hj=>by
      have hlt:j < cells.toList.length:=by rw [← e4.len]; exact (bP.1 hj).1
      exact e4.rv j c _ hj (by simp [zI hlt]))
    (fun id hid=>⟨hfp.ob id (hvfp id hid),fun b hb=>hzU id (by rw [← hz]; exact lV _ hid) b hb⟩)
  have hlen:(zo s x).length=cells.toList.length:=by rw [zL,← e4.len]; simpa using i1.symm
  have heptr:Rv w U1 ρ (.eptr (zo s x) 0) (.pointer (some ⟨b,0,none⟩)):=by
    refine .eptr (zo s x) 0 b 0 (fun j=>(cells.toList[j]?).getD undef) (hub b e2) hbU (fun j hj=>?_) (fun j hj=>?_) i3
    · rw [hlen] at hj
      unfold World.cell?
      simp only [ii,e3]
      rw [zI hj]
      simp [ip (show j < cells.size by simpa using hj)]
    · rw [hlen] at hj
      rw [zI hj]
      exact e5 _ (ce hj)
  have hptr:∀ v,vals[pos]?=some v→v=.pointer (some ⟨b,0,none⟩):=by
    intro v hv'
    have:=hr.rv pos _ v hpos hv'
    cases this with
    | ptr _ _ b' h'=>
      rw [e1] at h'
      cases h'
      rfl
  have hr1:cu w U1 ρ (args.set pos (.eptr (zo s x) 0)) vals:=by
    refine ⟨by simp [hr.len],fun j c v hc hv'=>?_⟩
    rw [jq] at hc
    by_cases hj:pos=j
    · subst hj
      rw [if_pos rfl,if_pos hposl] at hc
      cases hc
      rw [hptr v hv']
      exact heptr
    · rw [if_neg hj] at hc
      exact (hr.rv j c v hc hv').weak hsub
  have hown1:∀ i∈AV.idsL (args.set pos (.eptr (zo s x) 0)),∀ b,zO ρ i (hp i) b→U1 b:=by
    intro i hi b' ho
    obtain ⟨⟨hi1,_⟩,hi3⟩:=hids i hi
    have hifp:=hin i hi1
    rw [← hU1]
    refine ⟨((hfp.ob i hifp).inU ho).1,fun ⟨j,hj,ho'⟩=>?_⟩
    have:=hfp.inj i hifp j (hzfp j hj) b' ho ho'
    exact hi3 (this▸hj)
  obtain ⟨hc,hwr⟩:=h.calls w U1 ρ hp n _ vals f0 (AV.idsL (args.set pos (.eptr (zo s x) 0))) hf0 hr1 (fun b hb=>hub b (hsub b hb)) (fun g=>(hgl g).weak hsub)
    ⟨fun id hid=>(hfp.ob id (hin id (hids id hid).1.1)).mono (aU _) (fun _ _ _=>rfl) (fun b _ hb=>hsub b hb) (fun _ _ h=>h) (fun b ho=>⟨rfl,hown1 id hid b ho⟩),
     fun id1 h1 id2 h2 b o1 o2=>hfp.inj id1 (hin id1 (hids id1 h1).1.1) id2 (hin id2 (hids id2 h2).1.1) b o1 o2⟩ (fun _ h=>h)
    (fun id hid j hj=>by rw [(hids id hid).1.2] at hj; simp at hj) (fun j hj=>by rw [hs2] at hj; simp at hj)
  refine ⟨hc.mono ?_,fun id o hio=>hin id (hids id (hwr id o hio)).1.1⟩
  rintro e w' ⟨v,U1',ρ',rfl,hE⟩
  refine ⟨v,fun b=>U1' b∨(b < w.heap.size∧U b∧∃ j∈z,zO ρ j (hp j) b),ρ',rfl,⟨hE.ext,xu hs1 hE.val,fun id o hio=>?_,?_,hE.rho,hE.rhon,hE.same,?_,?_,?_,hE.own,hE.inj⟩⟩
  · have ho:=hE.wr id o hio
    have hsco:=hs3 _ hio
    cases o with
    | box cs'=>
      obtain ⟨b',T',vals',q1,q2,q3,q4,q5⟩:=ho
      refine ⟨b',T',vals',q1,.inl q2,q3,⟨q4.len,fun j c v' hc' hv''=>?_⟩,q5⟩
      have hcs:lg c=true:=by
        simp only [CK,cL] at hsco
        exact hsco c (ig hc')
      have h0:=q4.rv j c v' hc' hv''
      cases h0 <;> simp [lg] at hcs
      · exact .kb _
      · exact .bool _
      · exact .int _ _ ‹_›
      · exact .str _ ‹_›
      · exact .ifcN
      · exact .ifcS _ _
    | _=>simp [CK] at hsco
  · intro j o hj
    rw [hs2] at hj
    simp at hj
  · rintro b' (hb' | hb')
    · exact hE.ub b' hb'
    · exact ls hb'.1 hE.ext.sz
  · rintro b' hlt (hb' | hb')
    · exact hsub b' (hE.u1 b' hlt hb')
    · exact hb'.2.1
  · intro b' hlt hb' hno
    by_cases hl:∃ j∈z,zO ρ j (hp j) b'
    · exact .inr ⟨hlt,hb',hl⟩
    · exact .inl (hE.u2 b' hlt (by rw [← hU1]; exact ⟨hb',hl⟩) hno)

noncomputable def BL:=LW.add 72 Z5
theorem sk:zm BL:=FS.add Vy
noncomputable def zax:zD:=zS (List.replicate 3 none) (bU BL Tryz.f74 (List.replicate 3 none))
theorem V4:FK 74 zax:=ap _ sk (aL (by kernel_rfl))
noncomputable def zaw:zD:=Nb 1 zw zax
theorem V3:FK 74 zaw:=KX V4

noncomputable def LY:=BL.add 74 zaw
theorem vD:zm LY:=sk.add V3
noncomputable section

abbrev zef:Nat→zY:=fun j=>if j=5 then { slots:=[1,2,4,32,33,34] } else if j=14 then { slots:=[1,2,4,7,8,54,55,56],prom:=[(4,some 3,.int .i64)] } else if j=19 then { slots:=[2,4,7,8,70,71,72],prom:=[(4,some 4,zq)] } else { }
inductive qI where
 | h5 (i33:Int) (i34:Int) (z0:zu [CP.d zp]) (jb0:List UInt8) (jb2:Int) (jb5:List UInt8) (jb6:Int) (jb7:Int) (jb8:List UInt8) (jb9:List UInt8) (jc0:Sem Sh.str) (jc2:Int) (jc5:zl) (jc6:Int) (jc7:Int) (jc8:zl) (jc9:zl) (jc10:List (Sem Sh.expr)) (lh_3:List (Sem zi))
 | h14 (l54:List (Sem Sh.str)) (i55:Int) (i56:Int) (z0:zu [CP.d zp]) (jb0:List UInt8) (jb2:Int) (jb5:List UInt8) (jb6:Int) (jb7:Int) (jb8:List UInt8) (jb9:List UInt8) (jc0:Sem Sh.str) (jc2:Sem zg) (jc5:zl) (jc6:Int) (jc7:Int) (jc8:zl) (jc9:zl) (jc10:List (Sem Sh.expr)) (jd0:Int) (lh_4:List (Sem zi)) (lh_5:List (Sem zg))
 | h19 (l70:List (Sem (Sh.str.pr Sh.str))) (i71:Int) (i72:Int) (ja0:List UInt8) (ja2:Int) (ja5:List UInt8) (ja6:Int) (ja7:Int) (ja8:List UInt8) (ja9:List UInt8) (jb0:Sem Sh.str) (jb2:Sem zg) (jb5:zl) (jb6:Int) (jb7:Int) (jb8:zl) (jb9:zl) (jb10:List (Sem Sh.expr)) (jc0:Int) (lh_3:List (Sem zi)) (lh_4:List (Sem zg)) (lh_5:List (Sem zq))
abbrev zgG:qI→Nat×St
 | .h5 i33 i34 z0 jb0 jb2 jb5 jb6 jb7 jb8 jb9 jc0 jc2 jc5 jc6 jc7 jc8 jc9 jc10 lh_3=>(5,⟨tm 107 [(1,AV.ptr 0 0),(2,AV.ptr 1 0),(4,AV.ptr 2 0),(32,AV.vec 3),(33,AV.int .i64 i33),(34,AV.int .i64 i34)],[AO.box (bh [] [CP.d zp] z0),AO.box [AV.str jb0,AV.nils,AV.int .i64 jb2,AV.nils,AV.nils,AV.str jb5,AV.int .i64 jb6,AV.int .i64 jb7,AV.str jb8,AV.str jb9,AV.nils],AO.box [AV.str jc0,AV.vec 3,AV.int .i64 jc2,AV.nils,AV.nils,AV.str jc5,AV.int .i64 jc6,AV.int .i64 jc7,AV.str jc8,AV.str jc9,AV.sl Sh.expr jc10],AO.vec zi lh_3]⟩)
 | .h14 l54 i55 i56 z0 jb0 jb2 jb5 jb6 jb7 jb8 jb9 jc0 jc2 jc5 jc6 jc7 jc8 jc9 jc10 jd0 lh_4 lh_5=>(14,⟨tm 107 [(1,AV.ptr 0 0),(2,AV.ptr 1 0),(4,AV.ptr 2 0),(7,AV.ptr 3 0),(8,AV.clo (Fn.func 74) [] [AV.ptr 2 0,AV.ptr 3 0]),(54,AV.sl Sh.str l54),(55,AV.int .i64 i55),(56,AV.int .i64 i56)],[AO.box (bh [] [CP.d zp] z0),AO.box [AV.str jb0,AV.nils,AV.int .i64 jb2,AV.nils,AV.nils,AV.str jb5,AV.int .i64 jb6,AV.int .i64 jb7,AV.str jb8,AV.str jb9,AV.nils],AO.box [AV.str jc0,AV.vec 4,AV.int .i64 jc2,AV.vec 5,AV.nils,AV.str jc5,AV.int .i64 jc6,AV.int .i64 jc7,AV.str jc8,AV.str jc9,AV.sl Sh.expr jc10],AO.box [AV.int .i64 jd0],AO.vec zi lh_4,AO.vec zg lh_5]⟩)
 | .h19 l70 i71 i72 ja0 ja2 ja5 ja6 ja7 ja8 ja9 jb0 jb2 jb5 jb6 jb7 jb8 jb9 jb10 jc0 lh_3 lh_4 lh_5=>(19,⟨tm 107 [(2,AV.ptr 0 0),(4,AV.ptr 1 0),(7,AV.ptr 2 0),(8,AV.clo (Fn.func 74) [] [AV.ptr 1 0,AV.ptr 2 0]),(70,AV.sl (Sh.str.pr Sh.str) l70),(71,AV.int .i64 i71),(72,AV.int .i64 i72)],[AO.box [AV.str ja0,AV.nils,AV.int .i64 ja2,AV.nils,AV.nils,AV.str ja5,AV.int .i64 ja6,AV.int .i64 ja7,AV.str ja8,AV.str ja9,AV.nils],AO.box [AV.str jb0,AV.vec 3,AV.int .i64 jb2,AV.vec 4,AV.vec 5,AV.str jb5,AV.int .i64 jb6,AV.int .i64 jb7,AV.str jb8,AV.str jb9,AV.sl Sh.expr jb10],AO.box [AV.int .i64 jc0],AO.vec zi lh_3,AO.vec zg lh_4,AO.vec zq lh_5]⟩)
def zh3 (x0:Sem zp):Tr (qI ⊕ zV):=
 let a0 := !x0.1==[99,114,101,97,116,101]
 let a1:=zB x0.2.2.2.2.2.2.2.2.1
 let a2:=(x0.1,x0.2.1,x0.2.2.1,x0.2.2.2.1,x0.2.2.2.2.1,x0.2.2.2.2.2.1,x0.2.2.2.2.2.2.1,x0.2.2.2.2.2.2.2.1,a1,x0.2.2.2.2.2.2.2.2.2.1,x0.2.2.2.2.2.2.2.2.2.2.1,zB x0.2.2.2.2.2.2.2.2.2.2.2.1,x0.2.2.2.2.2.2.2.2.2.2.2.2)
 Tr.chk (bif a0 then true else oX a2)
 (Tr.br (bif a0 then true else !fj a2)
  (Tr.re (AV.tup [AV.agg [AV.str [],AV.nils,AV.int .i64 0,AV.nils,AV.nils,AV.str [],AV.int .i64 0,AV.int .i64 0,AV.str [],AV.str [],AV.nils],AV.int .i64 1]) [])
  (Tr.chk (decide (length x0.2.2.2.2.1≤1073741824)) (Tr.chk (lM 16 a1) (Tr.to (qI.h5 (↑(length x0.2.2.2.2.1):Int) 0 (x0,()) [] 0 [] 0 0 [] [] x0.2.1 0 (ze.op x0.2.2.2.2.2.2.2.2.1) (ze.v x0.2.2.2.2.2.2.2.2.1).1 (ze.v x0.2.2.2.2.2.2.2.2.1).2.1 (ze.v x0.2.2.2.2.2.2.2.2.1).2.2 (ze.s x0.2.2.2.2.2.2.2.2.1) (ze.l x0.2.2.2.2.2.2.2.2.1) x0.2.2.2.2.1)))))
def ziL:qI→Tr (qI ⊕ zV)
 | .h5 i33 i34 z0 jb0 jb2 jb5 jb6 jb7 jb8 jb9 jc0 jc2 jc5 jc6 jc7 jc8 jc9 jc10 lh_3=>
  let a0:=(jc0,lh_3,jc2,[],[],ze.mk jc5 (jc6,jc7,jc8) jc9 jc10)
  let a1:=lh_3.getD i34.toNat (zj zi)
  let a2:=jV a0 z0.1.2.2.2.2.2.1
  let a3:=(↑(length z0.1.2.2.2.2.2.2.1):Int)
  Tr.br (decide (i34 < i33))
  (Tr.chk (zF i34 lh_3.length) (Tr.chk (decide (i34.toNat < lh_3.length)) (Tr.br (jV a0 a1.1 != i34) (Tr.re (AV.tup [AV.agg [AV.str [],AV.nils,AV.int .i64 0,AV.nils,AV.nils,AV.str [],AV.int .i64 0,AV.int .i64 0,AV.str [],AV.str [],AV.nils],AV.int .i64 7]) []) (Tr.to
  (qI.h5 i33 (IntKind.i64.wrap (i34+1)) z0 jb0 jb2 jb5 jb6 jb7 jb8 jb9 jc0 jc2 jc5 jc6 jc7 jc8 jc9 jc10 lh_3)))))
  (Tr.br (decide (a2 < 0)) (Tr.to (qI.h14 z0.1.2.2.2.2.2.2.1 a3 0 z0 jb0 jb2 jb5 jb6 jb7 jb8 jb9 jc0 a2 jc5 jc6 jc7 jc8 jc9 jc10 4 lh_3 [])) (Tr.to (qI.h14 z0.1.2.2.2.2.2.2.1 a3 0 z0 jb0 jb2 jb5 jb6 jb7 jb8 jb9 jc0 a2 jc5 jc6 jc7 jc8 jc9 jc10 0 lh_3 [])))
 | .h14 l54 i55 i56 z0 jb0 jb2 jb5 jb6 jb7 jb8 jb9 jc0 jc2 jc5 jc6 jc7 jc8 jc9 jc10 jd0 lh_4 lh_5=>
  let a0:=jV (jc0,lh_4,jc2,lh_5,[],ze.mk jc5 (jc6,jc7,jc8) jc9 jc10) (l54.getD i56.toNat (zj Sh.str))
  let a1:=[a0]
  let a2:=decide (lh_5.length+a1.length≤1073741824)
  let a3:=IntKind.i64.wrap (i56+1)
  let a4:=lh_5++a1
  Tr.br (decide (i56 < i55))
  (Tr.chk (zF i56 l54.length) (Tr.br (decide (a0 < 0)) (Tr.chk a2 (Tr.to (qI.h14 l54 i55 a3 z0 jb0 jb2 jb5 jb6 jb7 jb8 jb9 jc0 jc2 jc5 jc6 jc7 jc8 jc9 jc10 4 lh_4 a4))) (Tr.chk a2 (Tr.to (qI.h14 l54 i55 a3 z0 jb0 jb2 jb5 jb6 jb7 jb8 jb9 jc0 jc2 jc5 jc6 jc7 jc8 jc9 jc10 jd0 lh_4 a4)))))
  (Tr.to (qI.h19 z0.1.2.2.2.2.2.2.2.1 (↑(length z0.1.2.2.2.2.2.2.2.1):Int) 0 jb0 jb2 jb5 jb6 jb7 jb8 jb9 jc0 jc2 jc5 jc6 jc7 jc8 jc9 jc10 jd0 lh_4 lh_5 []))
 | .h19 l70 i71 i72 ja0 ja2 ja5 ja6 ja7 ja8 ja9 jb0 jb2 jb5 jb6 jb7 jb8 jb9 jb10 jc0 lh_3 lh_4 lh_5=>
  let a0:=ze.mk jb5 (jb6,jb7,jb8) jb9 jb10
  let a1:=l70.getD i72.toNat (zj (Sh.str.pr Sh.str))
  let a2:=jV (jb0,lh_3,jb2,lh_4,lh_5,a0) a1.1
  let a3:=[(a2,a1.2)]
  let a4:=decide (lh_5.length+a3.length≤1073741824)
  let a5:=IntKind.i64.wrap (i72+1)
  let a6:=lh_5++a3
  let a7:=oV a0 lh_3
  let a8:=lh_3.getD (Int.toNat jb2) (zj zi)
  Tr.br (decide (i72 < i71))
  (Tr.chk (zF i72 l70.length) (Tr.br (decide (a2 < 0)) (Tr.chk a4 (Tr.to (qI.h19 l70 i71 a5 ja0 ja2 ja5 ja6 ja7 ja8 ja9 jb0 jb2 jb5 jb6 jb7 jb8 jb9 jb10 4 lh_3 lh_4 a6))) (Tr.chk a4 (Tr.to (qI.h19 l70 i71 a5 ja0 ja2 ja5 ja6 ja7 ja8 ja9 jb0 jb2 jb5 jb6 jb7 jb8 jb9 jb10 jc0 lh_3 lh_4 a6)))))
  (Tr.br (jc0==0) (Tr.br (a7 != 0) (Tr.re (AV.tup [AV.agg [AV.str [],AV.nils,AV.int .i64 0,AV.nils,AV.nils,AV.str [],AV.int .i64 0,AV.int .i64 0,AV.str [],AV.str [],AV.nils],AV.int .i64 a7]) []) (Tr.chk (zF jb2 lh_3.length) (Tr.chk (decide (Int.toNat jb2 < lh_3.length)) (Tr.re (AV.tup [AV.agg
  [AV.str jb0,AV.vec 0,AV.int .i64 jb2,AV.vec 1,AV.vec 2,AV.str jb5,AV.int .i64 jb6,AV.int .i64 jb7,AV.str jb8,AV.str jb9,AV.sl Sh.expr jb10],AV.int .i64 0]) [AO.vec zi (lh_3.set (Int.toNat jb2) (a8.1,a8.2.1,true)),AO.vec zg lh_4,AO.vec zq lh_5])))) (Tr.br (jc0 != 0) (Tr.re (AV.tup [AV.agg
  [AV.str [],AV.nils,AV.int .i64 0,AV.nils,AV.nils,AV.str [],AV.int .i64 0,AV.int .i64 0,AV.str [],AV.str [],AV.nils],AV.int .i64 jc0]) []) (Tr.chk (zF jb2 lh_3.length) (Tr.chk (decide (Int.toNat jb2 < lh_3.length)) (Tr.re (AV.tup [AV.agg [AV.str jb0,AV.vec 0,AV.int .i64 jb2,AV.vec 1,AV.vec 2,AV.str jb5,AV.int .i64 jb6,AV.int .i64 jb7,
  AV.str jb8,AV.str jb9,AV.sl Sh.expr jb10],AV.int .i64 0]) [AO.vec zi (lh_3.set (Int.toNat jb2) (a8.1,a8.2.1,true)),AO.vec zg lh_4,AO.vec zq lh_5])))))
def YT (x0:Sem zp):=zT [zw,zg] ziL 100000000 (zh3 x0)
def ziG (x0:Sem zp):=(YT x0).isSome
def sOf (x0:Sem zp):=o2 (YT x0)
def Z8:=FT [zp] [zw,zg] fun x=>YT x.1
theorem VC:FK 38 Z8:=vD.T1 (f:=Tryz.f38) (keep:=zef) (e:=zgG)

def LZ:=LY.add 38 Z8
theorem vE:zm LZ:=vD.add VC
end

noncomputable def zh0 (x0:Sem aX):Tr (Empty ⊕ zV):=
 let a0:=(x0.2.1,x0.2.2.1,x0.2.2.2.1,x0.2.2.2.2.1,x0.2.2.2.2.2.1,x0.2.2.2.2.2.2.1,x0.2.2.2.2.2.2.2.1,x0.2.2.2.2.2.2.2.2.1,zB x0.2.2.2.2.2.2.2.2.2.1,x0.2.2.2.2.2.2.2.2.2.2.1,x0.2.2.2.2.2.2.2.2.2.2.2.1,zB x0.2.2.2.2.2.2.2.2.2.2.2.2.1,x0.2.2.2.2.2.2.2.2.2.2.2.2.2)
 let a1:=sOf a0
 let a2:=cU a1.2
 let a3:=aj x0.1 a1.1.1
 let a4:=((a1.1.1,a1.1.2.1,a1.1.2.2.1,a1.1.2.2.2.1,a1.1.2.2.2.2.1,zB a1.1.2.2.2.2.2),[])
 let a5:=ly x0.1 a4
 let a6:=si a5 1
 Tr.chk (ziG a0)
 (Tr.br (a1.2 != 0)
  (Tr.chk (uK a1.2) (Tr.re (AV.tup [AV.sl zh a2.1,AV.agg [AV.int .i64 a2.2.1,AV.int .i64 a2.2.2.1,AV.sl zf.sl a2.2.2.2]]) []))
  (Tr.br (decide (a3 ≥ 0)) (Tr.chk true (Tr.re (AV.tup [AV.sl zh (cU 7).1,AV.agg [AV.int .i64 (cU 7).2.1,AV.int .i64 (cU 7).2.2.1,AV.sl zf.sl (cU 7).2.2.2]]) [])) (Tr.br (decide ((↑(length x0.1):Int) ≥ 12)) (Tr.chk true (Tr.re (AV.tup [AV.sl zh (cU 13).1,AV.agg [AV.int .i64 (cU 13).2.1,AV.int .i64 (cU 13).2.2.1,AV.sl zf.sl (cU 13).2.2.2]]) []))
  (Tr.chk (kP x0.1 a4) (Tr.chk (mb a5 1) (Tr.re (AV.tup [AV.sl zh a6.1,AV.agg [AV.int .i64 a6.2.1,AV.int .i64 a6.2.2.1,AV.sl zf.sl a6.2.2.2]]) []))))))
noncomputable def uJ (x0:Sem aX):=zT [zh.sl,c5] t0 100000000 (zh0 x0)
noncomputable def Li (x0:Sem aX):=(uJ x0).isSome
noncomputable def QB (x0:Sem aX):=o2 (uJ x0)
noncomputable def ZR:=FT [aX] [zh.sl,c5] fun x=>uJ x.1
theorem Vi:FK 17 ZR:=vE.T1 (f:=Tryz.f17) (keep:=k0) (e:=e0)

noncomputable def L0:=LZ.add 17 ZR
theorem vF:zm L0:=vE.add Vi

noncomputable def Y8 (x0:Sem zh.sl) (x1:Sem zp):Tr (Empty ⊕ zV):=
 let a0:=(x1.1,x1.2.1,x1.2.2.1,x1.2.2.2.1,x1.2.2.2.2.1,x1.2.2.2.2.2.1,x1.2.2.2.2.2.2.1,x1.2.2.2.2.2.2.2.1,zB x1.2.2.2.2.2.2.2.2.1,x1.2.2.2.2.2.2.2.2.2.1,x1.2.2.2.2.2.2.2.2.2.2.1,zB x1.2.2.2.2.2.2.2.2.2.2.2.1,x1.2.2.2.2.2.2.2.2.2.2.2.2)
 let a1 := !fj a0
 let a2:=oX a0&&bif a1 then true else td x0
 let a3:=bif a1 then true else lZ x0 != 0
 let a4:=(x0,a0)
 let a5:=QB a4
 let a6:=Bu a4
 let a7:=Bw a4
 let a8:=Bt a4
 Tr.chk true
 (Tr.chk true
  (Tr.chk true (Tr.chk true (Tr.chk true (Tr.chk true (Tr.br (x1.1==[99,114,101,97,116,101]) (Tr.chk a2 (Tr.br a3 (Tr.re (AV.tup [AV.sl zh x0,AV.agg [AV.int .i64 1,AV.int .i64 0,AV.nils]]) []) (Tr.chk (Li a4) (Tr.br (a5.2.1 != 0) (Tr.re (AV.tup [AV.sl zh x0,AV.agg [AV.int .i64 a5.2.1,AV.int .i64 a5.2.2.1,AV.sl zf.sl a5.2.2.2]]) []) (Tr.re (AV.tup [AV.sl zh a5.1,
  AV.agg [AV.int .i64 a5.2.1,AV.int .i64 a5.2.2.1,AV.sl zf.sl a5.2.2.2]]) []))))) (Tr.br (x1.1==[100,114,111,112]) (Tr.chk a2 (Tr.br a3 (Tr.re (AV.tup [AV.sl zh x0,AV.agg [AV.int .i64 1,AV.int .i64 0,AV.nils]]) []) Tr.err)) (Tr.br (x1.1==[105,110,115,101,114,116]) (Tr.chk a2 (Tr.br a3 (Tr.re (AV.tup [AV.sl zh x0,AV.agg [AV.int .i64 1,AV.int .i64 0,AV.nils]]) [])
  (Tr.chk (uM a4) (Tr.br (a6.2.1 != 0) (Tr.re (AV.tup [AV.sl zh x0,AV.agg [AV.int .i64 a6.2.1,AV.int .i64 a6.2.2.1,AV.sl zf.sl a6.2.2.2]]) []) (Tr.re (AV.tup [AV.sl zh a6.1,AV.agg [AV.int .i64 a6.2.1,AV.int .i64 a6.2.2.1,AV.sl zf.sl a6.2.2.2]]) []))))) (Tr.br (x1.1==[117,112,100,97,116,101]) (Tr.chk a2 (Tr.br a3 (Tr.re (AV.tup [AV.sl zh x0,
  AV.agg [AV.int .i64 1,AV.int .i64 0,AV.nils]]) []) Tr.err)) (Tr.br (x1.1==[100,101,108,101,116,101]) (Tr.chk a2 (Tr.br a3 (Tr.re (AV.tup [AV.sl zh x0,AV.agg [AV.int .i64 1,AV.int .i64 0,AV.nils]]) []) (Tr.chk (uO a4) (Tr.br (a7.2.1 != 0) (Tr.re (AV.tup [AV.sl zh x0,AV.agg [AV.int .i64 a7.2.1,AV.int .i64 a7.2.2.1,AV.sl zf.sl a7.2.2.2]]) []) (Tr.re (AV.tup [AV.sl
  zh a7.1,AV.agg [AV.int .i64 a7.2.1,AV.int .i64 a7.2.2.1,AV.sl zf.sl a7.2.2.2]]) []))))) (Tr.br (x1.1==[115,101,108,101,99,116]) (Tr.chk a2 (Tr.br a3 (Tr.re (AV.tup [AV.sl zh x0,AV.agg [AV.int .i64 1,AV.int .i64 0,AV.nils]]) []) (Tr.chk (uI a4) (Tr.br (a8.2.1 != 0) (Tr.re (AV.tup [AV.sl zh x0,AV.agg [AV.int .i64 a8.2.1,AV.int .i64 a8.2.2.1,
  AV.sl zf.sl a8.2.2.2]]) []) (Tr.re (AV.tup [AV.sl zh a8.1,AV.agg [AV.int .i64 a8.2.1,AV.int .i64 a8.2.2.1,AV.sl zf.sl a8.2.2.2]]) []))))) (Tr.re (AV.tup [AV.sl zh x0,AV.agg [AV.int .i64 1,AV.int .i64 0,AV.nils]]) []))))))))))))
noncomputable def pm (x0:Sem zh.sl) (x1:Sem zp):=zT [zh.sl,c5] t0 100000000 (Y8 x0 x1)
noncomputable def K9 (x0:Sem zh.sl) (x1:Sem zp):=(pm x0 x1).isSome
noncomputable def bDo (x0:Sem zh.sl) (x1:Sem zp):=o2 (pm x0 x1)
noncomputable def F9w:=FT [zh.sl,zp] [zh.sl,c5] fun x=>pm x.1 x.2.1
theorem zb9:FK 9 F9w:=vF.T1 (f:=Tryz.f9) (keep:=k0) (e:=e0)

noncomputable def L1:=L0.add 9 F9w
theorem FU:zm L1:=vF.add zb9
noncomputable section
def L4:=L1.add 32 UA
theorem vI:zm L4:=FU.add KP

def zhZ:Tr (Empty ⊕ zV):=
 Tr.chk true
 (Tr.chk true
  (Tr.chk true (Tr.chk true (Tr.chk true (Tr.chk true (Tr.chk true (Tr.chk true (Tr.chk true (Tr.chk true (Tr.chk true (Tr.chk true (Tr.chk true (Tr.chk true (Tr.re (AV.bool true) []))))))))))))))
def Bj:=zT [Sh.bool] t0 100000000 (zhZ)
def Bi:=(Bj).isSome
def uy:=o1 (Bj)
def ZM:=FT [] [Sh.bool] fun _=>Bj
theorem Vd:FK 13 ZM:=vI.T1 (f:=Tryz.f13) (keep:=k0) (e:=e0)

def TH:=L4.add 13 ZM
theorem Aj:zm TH:=vI.add Vd
end
noncomputable section
end

theorem lm {a0 a1 a2 a3 a4 a5 a6 a7 a8 a9 b0 b1 b2 b3 b4 b5 b6 d0 d1 d2 d3 d4 d5 d6 d7 d8 d9}:∀ (l:List (Sem zq)) (i:Int) (acc:List (Sem zq)),(acc.length:Int)≤i→acc.length≤10→
  (eB a0 a1 a2 a3 a4 a5 a6 a7 a8 a9 b0 b1 b2 b3 b4 b5 b6 d0 d1 d2 d3 d4 d5 d6 d7 d8 d9 l i acc).2.2.2.1=d9∧length (eB a0 a1 a2 a3 a4 a5 a6 a7 a8 a9 b0 b1 b2 b3 b4 b5 b6 d0 d1 d2 d3 d4 d5 d6 d7 d8 d9 l i acc).2.2.2.2.1≤10
 | [],_,_,_,ha=>⟨rfl,ha⟩
 | x::r,i,acc,h,ha=>by
  rw [eB]
  split
  ·rename_i hi
   simp only [zW] at hi
   exact lm r (i+1) _ (by simp; omega) (by simp; omega)
  ·exact ⟨rfl,ha⟩
theorem qv {a0 a1 a2 a3 a4 a5 a6 a7 a8 a9 b0 b1 b2 b3 b4 b5 b6 d0 d1 d2 d3 d4 d5 d6 d7 d8 d9}:∀ (l:List (Sem zg)) (i:Int) (acc:List (Sem zg)),(acc.length:Int)≤i→acc.length≤10→
  length (dR a0 a1 a2 a3 a4 a5 a6 a7 a8 a9 b0 b1 b2 b3 b4 b5 b6 d0 d1 d2 d3 d4 d5 d6 d7 d8 d9 l i acc).2.2.2.1≤10∧length (dR a0 a1 a2 a3 a4 a5 a6 a7 a8 a9 b0 b1 b2 b3 b4 b5 b6 d0 d1 d2 d3 d4 d5 d6 d7 d8 d9 l i acc).2.2.2.2.1≤10
 | [],i,acc,h,ha=>by
  rw [dR]
  obtain ⟨h1,h2⟩:=lm (a0:=a0) (a1:=a1) (a2:=a2) (a3:=d9) (a4:=a4) (a5:=a5) (a6:=a6) (a7:=a7) (a8:=a8) (a9:=a9) (b0:=b0) (b1:=b1) (b2:=b2) (b3:=b3) (b4:=b4) (b5:=b5) (b6:=b6) (d0:=d0) (d1:=d1) (d2:=d2) (d3:=d3) (d4:=d4) (d5:=d5) (d6:=d6) (d7:=d7) (d8:=d8) (d9:=acc) a3 0 [] (by simp) (by simp)
  rw [h1]
  exact ⟨ha,h2⟩
 | x::r,i,acc,h,ha=>by
  rw [dR]
  split
  ·rename_i hi
   simp only [zW] at hi
   exact qv r (i+1) _ (by simp; omega) (by simp; omega)
  ·obtain ⟨h1,h2⟩:=lm (a0:=a0) (a1:=a1) (a2:=a2) (a3:=d9) (a4:=a4) (a5:=a5) (a6:=a6) (a7:=a7) (a8:=a8) (a9:=a9) (b0:=b0) (b1:=b1) (b2:=b2) (b3:=b3) (b4:=b4) (b5:=b5) (b6:=b6) (d0:=d0) (d1:=d1) (d2:=d2) (d3:=d3) (d4:=d4) (d5:=d5) (d6:=d6) (d7:=d7) (d8:=d8) (d9:=acc) a3 0 [] (by simp) (by simp)
   rw [h1]
   exact ⟨ha,h2⟩
theorem He (t:Sem zw):length (iH t).2.2.2.1≤10∧length (iH t).2.2.2.2.1≤10:=by
 unfold iH
 exact qv _ _ _ (by simp) (by simp)

def A9 (l rows:List (Sem (.sl zf))):Prop:=rows.length≤201∧∀ r∈rows,∃ r0∈l,r=jB r0
theorem zgU (n:Nat) (i4:Int) (hi4:i4≤201) (h0:0≤i4) (z0:zu cpR) (z1:zu WP) (t:Sem zw) (hn:300≤n):∃ rows:List (Sem (.sl zf)),A9 z0.1.2 rows∧∃ r,bJ Ku n (.h6 i4 0 z0 z1 (t,[],()))=some r∧ae r.2 [zh] r.1=some (((t,rows):Sem zh),()):=by
 obtain ⟨N,hN⟩:∃ N:Nat,i4=(N:Int):=⟨Int.toNat i4,by omega⟩
 have h:=kq (t:=Ku) (β:=List (Sem (.sl zf))) (min N (length z0.1.2)) (fun b i=>.h6 i4 (i:Int) z0 z1 (t,b,())) (fun b i=>b.length=i∧∀ r∈b,∃ r0∈z0.1.2,r=jB r0) (fun r=>∃ rows:List (Sem (.sl zf)),A9 z0.1.2 rows∧ae r.2 [zh] r.1=some (((t,rows):Sem zh),())) 1 (by
   intro b i hi hb
   have h1:(i:Int) < (length z0.1.2:Int):=by omega
   have h2:(i:Int) < i4:=by omega
   have h3:zF (i:Int) (length z0.1.2)=true:=zG (by omega)
   refine Or.inl ⟨b++[jB (getD z0.1.2 (i:Int).toNat (zj zf.sl))],⟨by simp [hb.1],fun r hr=>?_⟩,?_⟩
   ·rcases aZ.1 hr with hr | hr
    ·exact hb.2 r hr
    ·rw [bd] at hr
     refine ⟨_,?_,hr⟩
     rw [be,aD,zI (by omega),bz]
     exact ce _
   simp only [Ku,Tr.val,ba h1,ba h2,bA,if_true,h3]
   rw [zH i (by unfold zE; omega),if_pos (by simp; omega)]) (by
   intro b n hb hn
   obtain ⟨n,rfl⟩:∃ k,n=k+1:=⟨n - 1,by omega⟩
   rw [ko]
   have hf:(bif decide (((min N (length z0.1.2):Nat):Int) < (length z0.1.2:Int)) then decide (((min N (length z0.1.2):Nat):Int) < i4) else false)=false:=by
    by_cases h:N≤length z0.1.2
    ·rw [Nat.min_eq_left h,hN]
     simp
    ·rw [Nat.min_eq_right (by omega)]
     simp
   simp only [Ku,Tr.val,hf]
   refine ⟨_,rfl,b,⟨by have:=hb.1; omega,hb.2⟩,?_⟩
   obtain ⟨t0,t1,t2,t3,t4,t5⟩:=t
   cases t5
   rfl) (min N (length z0.1.2)) 0 [] n rfl (aE _) ⟨rfl,by simp⟩ (by omega)
 obtain ⟨r,h1,rows,h2,h3⟩:=h
 exact ⟨rows,h2,r,h1,h3⟩

theorem mq (x:Sem zh):∃ rows:List (Sem (.sl zf)),A9 x.2 rows∧v7 x=some (((iH x.1,rows):Sem zh),()):=by
 have e:iH (x.1.1,x.1.2.1,x.1.2.2.1,x.1.2.2.2.1,x.1.2.2.2.2.1,zB x.1.2.2.2.2.2)=iH x.1:=by rw [zn]
 have hv:∃ k:Int,0≤k∧k≤201∧(Xo x).val=some (.inl (.h6 k 0 (x,()) ([],0,[],0,0,[],[],()) (iH x.1,[],()))):=by
  simp only [Xo,Tr.val,e]
  split
  ·exact ⟨201,by omega,by omega,rfl⟩
  ·exact ⟨40,by omega,by omega,rfl⟩
 obtain ⟨k,k1,k2,hv⟩:=hv
 obtain ⟨rows,h1,r,h2,h3⟩:=zgU 100000000 k k2 k1 (x,()) ([],0,[],0,0,[],[],()) (iH x.1) (by omega)
 refine ⟨rows,h1,?_⟩
 unfold v7 zT bW
 rw [hv]
 show (bJ Ku 100000000 _).bind _=_
 rw [h2]
 exact h3

theorem Eg (x:Sem zh):c8 (gR x):=by
 obtain ⟨rows,h1,h2⟩:=mq x
 have h3:gR x=(iH x.1,rows):=by unfold gR; rw [h2]; rfl
 rw [h3]
 obtain ⟨k1,k2⟩:=He x.1
 exact ⟨by show length (iH x.1).2.2.2.1≤_; omega,by show length (iH x.1).2.2.2.2.1≤_; omega,by show rows.length≤_; have:=h1.1; omega⟩
theorem Ee (x:Sem zh):Gt x=true:=by
 obtain ⟨rows,h1,h2⟩:=mq x
 unfold Gt
 rw [h2]; rfl

theorem M6 (db:List (Sem zh)):∃ db':List (Sem zh),v8 db=some (db',())∧db'.length≤13∧∀ x∈db',∃ y∈db,x=gR y:=by
 have h:=kq (t:=t7p) (β:=List (Sem zh)) (min 13 db.length) (fun b i=>.h3 db (i:Int) b) (fun b i=>b.length=i∧∀ x∈b,∃ y∈db,x=gR y) (fun r=>∃ db':List (Sem zh),ae r.2 [zh.sl] r.1=some (db',())∧db'.length≤13∧∀ x∈db',∃ y∈db,x=gR y) 1 (by
   intro b i hi hb
   have h1:(i:Int) < (db.length:Int):=by omega
   have h2:(i:Int) < 13:=by omega
   have h3:zF (i:Int) db.length=true:=zG (by omega)
   refine Or.inl ⟨b++[gR (db.getD (i:Int).toNat (zj zh))],⟨by simp [hb.1],?_⟩,?_⟩
   ·intro x hx
    rcases aZ.1 hx with hx | hx
    ·exact hb.2 x hx
    ·rw [bd] at hx
     refine ⟨_,?_,hx⟩
     rw [be,aD,zI (by omega),bz]
     exact ce _
   ·simp only [t7p,Tr.val,ba h1,ba h2,bA,if_true,h3,zn,Prod.eta,Ee]
    rw [zH i (by unfold zE; omega),if_pos (by simp; omega)]) (by
   intro b n hb hn
   obtain ⟨n,rfl⟩:∃ k,n=k+1:=⟨n - 1,by omega⟩
   rw [ko]
   have hf:(bif decide (((min 13 db.length:Nat):Int) < (db.length:Int)) then decide (((min 13 db.length:Nat):Int) < 13) else false)=false:=by
    by_cases h:13≤db.length
    ·rw [Nat.min_eq_left h]
     simp
    ·rw [Nat.min_eq_right (by omega)]
     simp
   simp only [t7p,Tr.val,hf]
   exact ⟨_,rfl,b,rfl,by omega,hb.2⟩) (min 13 db.length) 0 [] 100000000 rfl (aE _) ⟨rfl,by simp⟩ (by omega)
 obtain ⟨r,h1,db',h2,h3,h4⟩:=h
 refine ⟨db',?_,h3,h4⟩
 unfold v8 zT bW
 simp only [i7p,Tr.val]
 have h1':bJ t7p 100000000 (.h3 db 0 [])=some r:=h1
 rw [h1']
 exact h2

theorem iz (s:zl):dU s=true:=by
 unfold dU
 split
 ·rename_i h
  have:20 < s.length:=by simp at h; omega
  rw [if_pos (by simp; omega)]
 ·rfl
theorem dF (s:zl):(bl s).length≤20:=by
 unfold bl
 split
 ·simp; omega
 ·rename_i h
  have:¬ 20 < s.length:=by simp at h; omega
  omega
theorem lE:∀ (l:List zl) (i:Int) (acc:List zl),(acc.length:Int)≤i→ex l i acc=true
 | [],_,_,_=>rfl
 | x::r,i,acc,h=>by
  rw [ex]
  split
  ·rename_i hi
   simp only [zW] at hi
   rw [if_pos (iz x),if_pos (by simp; omega)]
   exact lE r (i+1) _ (by simp; omega)
  ·rfl
theorem x9 (l:List zl):mo l=true:=lE l 0 [] (by simp)
theorem n5:∀ (l:List zl) (i:Int) (acc:List zl),(acc.length:Int)≤i→acc.length≤10→(∀ x∈acc,length x≤20)→length (dp l i acc)≤10∧∀ x∈dp l i acc,length x≤20
 | [],_,acc,_,h,ha=>⟨h,ha⟩
 | x::r,i,acc,h,hl,ha=>by
  rw [dp]
  split
  ·rename_i hi
   simp only [zW] at hi
   refine n5 r (i+1) _ (by simp; omega) (by simp; omega) (fun y hy=>?_)
   rcases aZ.1 hy with hy | hy
   ·exact ha y hy
   ·rw [bd] at hy
    rw [hy]; exact dF x
  ·exact ⟨hl,ha⟩
theorem sw (l:List zl):length (fO l)≤10∧∀ x∈fO l,length x≤20:=n5 l 0 [] (by simp) (by simp) (by simp)
theorem ms:∀ (l:List (Sem zi)) (i:Int) (acc:List (Sem zi)),(acc.length:Int)≤i→acc.length≤10→(∀ x∈acc,length x.1≤20)→length (eL l i acc)≤10∧∀ x∈eL l i acc,length x.1≤20
 | [],_,acc,_,h,ha=>⟨h,ha⟩
 | x :: r,i,acc,h,hl,ha=>by
  rw [eL]
  split
  ·rename_i hi
   simp only [zW] at hi
   split
   ·refine ms r (i+1) _ (by simp; omega) (by simp; omega) (fun y hy=>?_)
    rcases aZ.1 hy with hy | hy
    ·exact ha y hy
    ·rw [bd] at hy
     rw [hy]; simp; omega
   ·rename_i hx
    have hx:¬ 20 < length x.1:=by simp at hx; omega
    refine ms r (i+1) _ (by simp; omega) (by simp; omega) (fun y hy=>?_)
    rcases aZ.1 hy with hy | hy
    ·exact ha y hy
    ·rw [bd] at hy
     rw [hy]; omega
  ·exact ⟨hl,ha⟩
theorem J2 (l:List (Sem zi)):length (mr l)≤10∧∀ x∈mr l,length x.1≤20:=ms l 0 [] (by simp) (by simp) (by simp)
theorem sx:∀ (l:List (Sem zf)) (i:Int) (acc:List (Sem zf)),(acc.length:Int)≤i→acc.length≤14→length (gF l i acc)≤14
 | [],_,acc,_,h=>h
 | x::r,i,acc,h,hl=>by
  rw [gF]
  split
  ·rename_i hi
   simp only [zW] at hi
   exact sx r (i+1) _ (by simp; omega) (by simp; omega)
  ·exact hl
theorem Ax (l:List (Sem zf)):length (jB l)≤14:=sx l 0 [] (by simp) (by simp)

theorem HP {g:Sem Sh.expr→Sem zg→Sem zg→Sem Sh.expr×Sem zg} {c:Sem Sh.expr→Sem zg→Sem zg→Bool} {i1:Int} {N:Nat} (h:∀ x n,0 < i1→lM N (g x (IntKind.i64.wrap (i1 - 1)) n).1=true) {a0 a1 a2 a3 a4 b0 b1 b2 b3 b4 d0 d1 d2 d3 d4}:
  ∀ (l:List (Sem Sh.expr)) (i n:Int) (acc:List (Sem Sh.expr)),(acc.length:Int)≤i→acc.length≤3→(∀ x∈acc,lM N x=true)→lM (N+1) (bI g c i1 a0 a1 a2 a3 a4 b0 b1 b2 b3 b4 d0 d1 d2 d3 d4 l i n acc).1=true
 | [],_,_,acc,_,hl,ha=>by
  rw [bI]
  show (decide (acc.length≤1073741824)&&acc.all (lM N))=true
  rw [cL.2 ha]
  simp; omega
 | x::r,i,n,acc,hi,hl,ha=>by
  rw [bI]
  split
  ·rename_i hk
   have h3:i < 3∧i1 > 0:=by
    cases h1:decide (i < 3) <;> cases h2:decide (i1 > 0) <;> simp_all
   refine HP h r (i+1) _ _ (by simp; omega) (by simp; omega) (fun y hy=>?_)
   rcases aZ.1 hy with hy | hy
   ·exact ha y hy
   ·rw [bd] at hy
    rw [hy]; exact h x n h3.2
  ·show (decide (acc.length≤1073741824)&&acc.all (lM N))=true
   rw [cL.2 ha]
   simp; omega
theorem QM {g:Sem Sh.expr→Sem zg→Sem zg→Sem Sh.expr×Sem zg} {c:Sem Sh.expr→Sem zg→Sem zg→Bool} {i1:Int} {N:Nat} (h:∀ x n,0 < i1→lM N (g x (IntKind.i64.wrap (i1 - 1)) n).1=true) (e:ze) (n:Int):lM (N+1) (D4 g c e i1 n).1=true:=by
 unfold D4
 repeat' split
 all_goals exact HP h _ _ _ _ (by simp) (by simp) (by simp)
theorem HR:∀ (N:Nat) (e:ze) (d n:Int),0≤d→d < N→N≤100→lM N (jo N e d n).1=true
 | 0,_,_,_,h1,h2,_=>by omega
 | N+1,e,d,n,h1,h2,h3=>by
  rw [jo]
  refine QM (fun x m hd=>?_) e n
  rw [lq _ (by omega) (by omega)]
  exact HR N x (d - 1) m (by omega) (by omega) (by omega)
theorem HD (e:ze):lM 16 (cA e)=true:=by
 have h:=HR 16 e 14 80 (by omega) (by omega) (by omega)
 unfold cA
 rw [ze.eta]
 exact h

structure zca (s:Sem zp):Prop where
 sh:c9 s
 cp:lM 16 s.2.2.2.2.2.2.2.2.1=true

abbrev Gb (s:Sem zp):zl×zl×zl×List zl×List (Sem zi)×zl×List zl:=(bl s.1,bl s.2.1,bl s.2.2.1,fO s.2.2.2.1,mr s.2.2.2.2.1,bl s.2.2.2.2.2.1,fO s.2.2.2.2.2.2.1)

def F3I (z0:zu lQ) (i:Nat) (z:zu Le):Prop:=z.1.length≤20∧z.2.1.length≤20∧z.2.2.1.length≤20∧(length z.2.2.2.1≤10∧∀ x∈z.2.2.2.1,length x≤20)∧(length z.2.2.2.2.1≤10∧∀ x∈z.2.2.2.2.1,length x.1≤20)∧z.2.2.2.2.2.1.length≤20∧
 (length z.2.2.2.2.2.2.1≤10∧∀ x∈z.2.2.2.2.2.2.1,length x≤20)∧(length z.2.2.2.2.2.2.2.1=i∧∀ x∈z.2.2.2.2.2.2.2.1,length x.1≤20∧length x.2≤20)∧lM 16 z.2.2.2.2.2.2.2.2.1=true∧length z.2.2.2.2.2.2.2.2.2.1≤14∧z.2.2.2.2.2.2.2.2.2.2.2.1.length≤20∧
 z.2.2.2.2.2.2.2.2.1=cA z0.1.2.2.2.2.2.2.2.2.1∧z.2.2.2.2.2.2.2.2.2.1=jB z0.1.2.2.2.2.2.2.2.2.2.1∧z.2.2.2.2.2.2.2.2.2.2.1=cA z0.1.2.2.2.2.2.2.2.2.2.2.2.1∧(z.1,z.2.1,z.2.2.1,z.2.2.2.1,z.2.2.2.2.1,z.2.2.2.2.2.1,z.2.2.2.2.2.2.1)=Gb z0.1

def F7I (z0:zu lQ) (i:Nat) (z:zu Lf):Prop:=z.1.length≤20∧z.2.1.length≤20∧z.2.2.1.length≤20∧(length z.2.2.2.1≤10∧∀ x∈z.2.2.2.1,length x≤20)∧(length z.2.2.2.2.1≤10∧∀ x∈z.2.2.2.2.1,length x.1≤20)∧z.2.2.2.2.2.1.length≤20∧
 (length z.2.2.2.2.2.2.1≤10∧∀ x∈z.2.2.2.2.2.2.1,length x≤20)∧(length z.2.2.2.2.2.2.2.1≤10∧∀ x∈z.2.2.2.2.2.2.2.1,length x.1≤20∧length x.2≤20)∧lM 16 z.2.2.2.2.2.2.2.2.1=true∧length z.2.2.2.2.2.2.2.2.2.1≤14∧
 (length z.2.2.2.2.2.2.2.2.2.2.1=i∧∀ x∈z.2.2.2.2.2.2.2.2.2.2.1,length x.1≤20∧∃ y∈z0.1.2.2.2.2.2.2.2.2.2.2.1,x.2=cA y.2)∧z.2.2.2.2.2.2.2.2.2.2.2.2.1.length≤20∧
 z.2.2.2.2.2.2.2.2.1=cA z0.1.2.2.2.2.2.2.2.2.1∧z.2.2.2.2.2.2.2.2.2.1=jB z0.1.2.2.2.2.2.2.2.2.2.1∧z.2.2.2.2.2.2.2.2.2.2.2.1=cA z0.1.2.2.2.2.2.2.2.2.2.2.2.1∧(z.1,z.2.1,z.2.2.1,z.2.2.2.1,z.2.2.2.2.1,z.2.2.2.2.2.1,z.2.2.2.2.2.2.1)=Gb z0.1

structure S7 (s0 s:Sem zp):Prop where
 chk:s.2.2.2.2.2.2.2.2.1=cA s0.2.2.2.2.2.2.2.2.1
 row:s.2.2.2.2.2.2.2.2.2.1=jB s0.2.2.2.2.2.2.2.2.2.1
 whr:s.2.2.2.2.2.2.2.2.2.2.2.1=cA s0.2.2.2.2.2.2.2.2.2.2.2.1
 sets:∀ x∈s.2.2.2.2.2.2.2.2.2.2.1,∃ y∈s0.2.2.2.2.2.2.2.2.2.2.1,(x:Sem aK).2=cA (y:Sem aK).2
 fr:(s.1,s.2.1,s.2.2.1,s.2.2.2.1,s.2.2.2.2.1,s.2.2.2.2.2.1,s.2.2.2.2.2.2.1)=Gb s0

def P4 (s0:Sem zp) (r:zV):Prop:=∃ s:Sem zp,ae r.2 [zp] r.1=some (s,())∧zca s∧S7 s0 s

theorem fs7 (z0:zu lQ) (z1:zu eJ) (z:zu Lf) (hz:F7I z0 0 z) (n:Nat) (hn:20≤n):∃ r,bJ RF n (.h7 0 z0 z1 z)=some r∧P4 z0.1 r:=by
 refine kq (t:=RF) (β:=zu Lf) (min 10 (length z0.1.2.2.2.2.2.2.2.2.2.2.1)) (fun z i=>.h7 (i:Int) z0 z1 z) (fun z i=>F7I z0 i z) (P4 z0.1) 1 ?_ ?_ (min 10 (length z0.1.2.2.2.2.2.2.2.2.2.2.1)) 0 z n rfl (aE _) hz (by omega)
 ·intro z i hi hb
  obtain ⟨h0,h1,h2,h3,h4,h5,h6,h7,h8,h9,h10,h11,h12⟩:=hb
  have k1:(i:Int) < (length z0.1.2.2.2.2.2.2.2.2.2.2.1:Int):=by omega
  have k2:(i:Int) < 10:=by omega
  have k3:zF (i:Int) (length z0.1.2.2.2.2.2.2.2.2.2.2.1)=true:=zG (by omega)
  refine Or.inl ⟨(z.1,z.2.1,z.2.2.1,z.2.2.2.1,z.2.2.2.2.1,z.2.2.2.2.2.1,z.2.2.2.2.2.2.1,z.2.2.2.2.2.2.2.1,z.2.2.2.2.2.2.2.2.1,z.2.2.2.2.2.2.2.2.2.1,z.2.2.2.2.2.2.2.2.2.2.1++[(bl (getD z0.1.2.2.2.2.2.2.2.2.2.2.1 (i:Int).toNat (zj aK)).1,zB (cA (zB (getD z0.1.2.2.2.2.2.2.2.2.2.2.1 (i:Int).toNat (zj aK)).2)))],z.2.2.2.2.2.2.2.2.2.2.2),⟨h0,h1,h2,h3,h4,h5,h6,h7,h8,h9,?_,h11,h12⟩,?_⟩
  rotate_left 1
  ·simp only [RF,Tr.val,ba k1,ba k2,bA,if_true,k3,iz]
   rw [zH i (by unfold zE; omega),if_pos (by have:=h10.1; simp; omega)]
  ·refine ⟨?_,fun x hx=>?_⟩
   ·simp [h10.1]
   ·rcases aZ.1 hx with hx | hx
    ·exact h10.2 x hx
    ·rw [bd] at hx
     rw [hx]; exact ⟨dF _,_,D8 _ (zj aK) (by simpa using (show i < _ by omega)),by simp only [zn,be]⟩
 ·intro z n hb hn
  obtain ⟨n,rfl⟩:∃ k,n=k+1:=⟨n - 1,by omega⟩
  obtain ⟨h0,h1,h2,h3,h4,h5,h6,h7,h8,h9,h10,h11,h12⟩:=hb
  rw [ko]
  have hf:(bif decide (((min 10 (length z0.1.2.2.2.2.2.2.2.2.2.2.1):Nat):Int) < (length z0.1.2.2.2.2.2.2.2.2.2.2.1:Int)) then decide (((min 10 (length z0.1.2.2.2.2.2.2.2.2.2.2.1):Nat):Int) < 10) else false)=false:=by
   by_cases h:10≤length z0.1.2.2.2.2.2.2.2.2.2.2.1
   ·rw [Nat.min_eq_left h]
    simp
   ·rw [Nat.min_eq_right (by omega)]
    simp
  simp only [RF,Tr.val,hf]
  refine ⟨_,rfl,(z.1,z.2.1,z.2.2.1,z.2.2.2.1,z.2.2.2.2.1,z.2.2.2.2.2.1,z.2.2.2.2.2.2.1,z.2.2.2.2.2.2.2.1,z.2.2.2.2.2.2.2.2.1,z.2.2.2.2.2.2.2.2.2.1,z.2.2.2.2.2.2.2.2.2.2.1,z.2.2.2.2.2.2.2.2.2.2.2.1,z.2.2.2.2.2.2.2.2.2.2.2.2.1),?_,⟨?_,h8⟩,⟨h12.1,h12.2.1,h12.2.2.1,fun x hx=>(h10.2 x hx).2,h12.2.2.2⟩⟩
  ·obtain ⟨z0,z1,z2,z3,z4,z5,z6,z7,z8,z9,z10,z11,z12,z13⟩:=z
   cases z8
   cases z11
   rfl
  ·refine ⟨by show z.1.length≤_; omega,by show z.2.1.length≤_; omega,by show z.2.2.1.length≤_; omega,⟨by have:=h3.1; show length z.2.2.2.1≤_; omega,fun x hx=>by have:=h3.2 x hx; omega⟩,⟨by have:=h4.1; show length z.2.2.2.2.1≤_; omega,fun x hx=>by have:=h4.2 x hx; omega⟩,by show z.2.2.2.2.2.1.length≤_; omega,⟨by have:=h6.1; show length z.2.2.2.2.2.2.1≤_; omega,fun x hx=>by have:=h6.2 x hx; omega⟩,⟨by have:=h7.1; show length z.2.2.2.2.2.2.2.1≤_; omega,fun x hx=>by have:=h7.2 x hx; omega⟩,by show length z.2.2.2.2.2.2.2.2.2.1≤_; omega,⟨by have:=h10.1; show length z.2.2.2.2.2.2.2.2.2.2.1≤_; omega,fun x hx=>by have:=(h10.2 x hx).1; omega⟩,by show z.2.2.2.2.2.2.2.2.2.2.2.2.1.length≤_; omega⟩

theorem fs3 (z0:zu lQ) (z1:zu eJ) (z:zu Le) (hz:F3I z0 0 z) (n:Nat) (hn:40≤n):∃ r,bJ RF n (.h3 0 z0 z1 z)=some r∧P4 z0.1 r:=by
 refine kq (t:=RF) (β:=zu Le) (min 10 (length z0.1.2.2.2.2.2.2.2.1)) (fun z i=>.h3 (i:Int) z0 z1 z) (fun z i=>F3I z0 i z) (P4 z0.1) 21 ?_ ?_ (min 10 (length z0.1.2.2.2.2.2.2.2.1)) 0 z n rfl (aE _) hz (by omega)
 ·intro z i hi hb
  obtain ⟨h0,h1,h2,h3,h4,h5,h6,h7,h8⟩:=hb
  have k1:(i:Int) < (length z0.1.2.2.2.2.2.2.2.1:Int):=by omega
  have k2:(i:Int) < 10:=by omega
  have k3:zF (i:Int) (length z0.1.2.2.2.2.2.2.2.1)=true:=zG (by omega)
  refine Or.inl ⟨(z.1,z.2.1,z.2.2.1,z.2.2.2.1,z.2.2.2.2.1,z.2.2.2.2.2.1,z.2.2.2.2.2.2.1,z.2.2.2.2.2.2.2.1++[(bl (getD z0.1.2.2.2.2.2.2.2.1 (i:Int).toNat (zj bG)).1,bl (getD z0.1.2.2.2.2.2.2.2.1 (i:Int).toNat (zj bG)).2)],z.2.2.2.2.2.2.2.2),⟨h0,h1,h2,h3,h4,h5,h6,?_,h8⟩,?_⟩
  rotate_left 1
  ·simp only [RF,Tr.val,ba k1,ba k2,bA,if_true,k3,iz]
   rw [zH i (by unfold zE; omega),if_pos (by have:=h7.1; simp; omega)]
  ·refine ⟨?_,fun x hx=>?_⟩
   ·simp [h7.1]
   ·rcases aZ.1 hx with hx | hx
    ·exact h7.2 x hx
    ·rw [bd] at hx
     rw [hx]; exact ⟨dF _,dF _⟩
 ·intro z n hb hn
  obtain ⟨n,rfl⟩:∃ k,n=k+1:=⟨n - 1,by omega⟩
  obtain ⟨h0,h1,h2,h3,h4,h5,h6,h7,h8,h9,h10,h11⟩:=hb
  rw [ko]
  have hf:(bif decide (((min 10 (length z0.1.2.2.2.2.2.2.2.1):Nat):Int) < (length z0.1.2.2.2.2.2.2.2.1:Int)) then decide (((min 10 (length z0.1.2.2.2.2.2.2.2.1):Nat):Int) < 10) else false)=false:=by
   by_cases h:10≤length z0.1.2.2.2.2.2.2.2.1
   ·rw [Nat.min_eq_left h]
    simp
   ·rw [Nat.min_eq_right (by omega)]
    simp
  simp only [RF,Tr.val,hf]
  exact fs7 z0 z1 _ ⟨h0,h1,h2,h3,h4,h5,h6,⟨by have:=h7.1; show length z.2.2.2.2.2.2.2.1≤_; omega,h7.2⟩,h8,h9,⟨rfl,by simp⟩,h10,h11⟩ n (by omega)

theorem Gr (s:Sem zp):∃ s':Sem zp,oK s=some (s',())∧zca s'∧S7 s s':=by
 unfold oK zT bW
 simp only [i8p,Tr.val,iz,x9,if_true]
 obtain ⟨r,h1,s',h2,h3⟩:=fs3 (s,()) ([],[],[],[],[],0,0,[],[],[],0,0,[],[],[],()) (bl s.1,bl s.2.1,bl s.2.2.1,fO s.2.2.2.1,mr s.2.2.2.2.1,
  bl s.2.2.2.2.2.1,fO s.2.2.2.2.2.2.1,[],cA (zB s.2.2.2.2.2.2.2.2.1),jB s.2.2.2.2.2.2.2.2.2.1,cA (zB s.2.2.2.2.2.2.2.2.2.2.2.1),bl s.2.2.2.2.2.2.2.2.2.2.2.2,())
  ⟨dF _,dF _,dF _,sw _,J2 _,dF _,sw _,⟨rfl,by simp⟩,HD _,Ax _,dF _,by simp only [zn],rfl,by simp only [zn],rfl⟩ 100000000 (by omega)
 refine ⟨s',?_,h3⟩
 rw [h1]
 exact h2

theorem uA:Bj=some (true,()):=by kernel_rfl
theorem uz:Bi=true:=by unfold Bi; rw [uA]; rfl
theorem Bk:uy=true:=by unfold uy; rw [uA]; rfl

theorem Qk {db:List (Sem zh)} {s:Sem zp} (hs:c9 s) (hr:∀ x∈db,c8 x) (h:¬ (fj s=true∧cC db)):pm db s=some (db,j7 1,()):=by
 have h1:=jH hs
 have h2:=ir hr
 have h3:(bif !fj s then true else lZ db != 0)=true:=by
  cases hm:fj s with
  | false=>rfl
  | true=>
   have:lZ db≠(0:Int):=fun e=>h ⟨hm,(mU hr).1 e⟩
   simpa using this
 have h4:(oX s&&bif !fj s then true else td db)=true:=by
  rw [h1,h2]
  cases fj s <;> rfl
 have hv:(Y8 db s).val=some (.inr (AV.tup [AV.sl zh db,AV.agg [AV.int .i64 1,AV.int .i64 0,AV.nils]],[])):=by
  simp only [Y8,Tr.val,zn,Prod.eta,h3,h4,if_true,ite_self]
 exact gT hv rfl

theorem Qm {db:List (Sem zh)} {s:Sem zp} {n:List (Sem zh)} {a:Sem c5} (hs:c9 s) (hr:∀ x∈db,c8 x) (hm:fj s=true) (hB:cC db) (ho:s.1=jQ) (hc:ke (db,s)=some (n,a,())):
  pm db s=some (if a.1=0 then n else db,a,()):=by
 have h1:=jH hs
 have h2:=ir hr
 have h5:lZ db=(0:Int):=(mU hr).2 hB
 have q0:(s.1==[99,114,101,97,116,101])=false:=by rw [ho]; rfl
 have q1:(s.1==[100,114,111,112])=false:=by rw [ho]; rfl
 have q2:(s.1==[105,110,115,101,114,116])=false:=by rw [ho]; rfl
 have q3:(s.1==[117,112,100,97,116,101])=false:=by rw [ho]; rfl
 have q4:(s.1==[100,101,108,101,116,101])=false:=by rw [ho]; rfl
 have q5:(s.1==[115,101,108,101,99,116])=true:=by rw [ho]; rfl
 have hcc:uI (db,s)=true:=by unfold uI; rw [hc]; rfl
 have hcv:Bt (db,s)=(n,a):=by unfold Bt; rw [hc]; rfl
 unfold pm zT bW
 simp only [Y8,Tr.val,zn,Prod.eta,hm,h1,h2,h5,hcc,hcv,q0,q1,q2,q3,q4,q5,iW,bQ,pe,nQ,zN,if_true,if_false]
 by_cases h:a.1=0
 ·have h':(a.1 != 0)=false:=by simpa using h
  simp only [h',zN,if_false,if_pos h]
  rfl
 ·have h':(a.1 != 0)=true:=by simpa using h
  simp only [h',if_true,if_neg h]
  rfl
theorem Ql {db:List (Sem zh)} {s:Sem zp} {n:List (Sem zh)} {a:Sem c5} (hs:c9 s) (hr:∀ x∈db,c8 x) (hm:fj s=true) (hB:cC db) (ho:s.1=sU) (hc:kf (db,s)=some (n,a,())):
  pm db s=some (if a.1=0 then n else db,a,()):=by
 have h1:=jH hs
 have h2:=ir hr
 have h5:lZ db=(0:Int):=(mU hr).2 hB
 have q0:(s.1==[99,114,101,97,116,101])=false:=by rw [ho]; rfl
 have q1:(s.1==[100,114,111,112])=false:=by rw [ho]; rfl
 have q2:(s.1==[105,110,115,101,114,116])=false:=by rw [ho]; rfl
 have q3:(s.1==[117,112,100,97,116,101])=false:=by rw [ho]; rfl
 have q4:(s.1==[100,101,108,101,116,101])=true:=by rw [ho]; rfl
 have hcc:uO (db,s)=true:=by unfold uO; rw [hc]; rfl
 have hcv:Bw (db,s)=(n,a):=by unfold Bw; rw [hc]; rfl
 unfold pm zT bW
 simp only [Y8,Tr.val,zn,Prod.eta,hm,h1,h2,h5,hcc,hcv,q0,q1,q2,q3,q4,iW,bQ,pe,nQ,zN,if_true,if_false]
 by_cases h:a.1=0
 ·have h':(a.1 != 0)=false:=by simpa using h
  simp only [h',zN,if_false,if_pos h]
  rfl
 ·have h':(a.1 != 0)=true:=by simpa using h
  simp only [h',if_true,if_neg h]
  rfl
theorem Ll {db:List (Sem zh)} {s:Sem zp} {n:List (Sem zh)} {a:Sem c5} (h:pm db s=some (n,a,())):K9 db s=true∧bDo db s=(n,a):=by
 unfold K9 bDo
 rw [h]
 exact ⟨rfl,rfl⟩
set_option maxHeartbeats 2000000

theorem wI (x:Int) (h1:-4000000000≤x) (h2:x≤4000000000):IntKind.i64.wrap x=x:=by
 rw [ul]; omega
theorem wU (x:Int) (h1:0≤x) (h2:x≤4000000000):IntKind.u64.wrap x=x:=by
 simp only [IntKind.wrap,IntKind.bits,IntKind.signed]
 simp
 omega

def jS (k:Int) (r:List (Sem zf)):Sem zf:=bif (bif decide (k < 0) then true else decide (k ≥ (↑(length r):Int))) then (0,0,[]) else getD r k.toNat (zj zf)
def CG (k:Int) (a b:List (Sem zf)):Prop:=KI (jS k a) (jS k b)
theorem Ks {k:Int} {a b:List (Sem zf)} (h:CG k a b):¬ CG k b a:=fun g=>o6 (nF h g)
def Kp (k:Int) (l0 l:List (List (Sem zf))):Prop:=l.Perm l0∧(l0.Pairwise (CG k)→l=l0)
theorem Kp.refl {k:Int} {l:List (List (Sem zf))}:Kp k l l:=⟨.refl l,fun _=>rfl⟩
theorem Kp.len {k:Int} {l0 l:List (List (Sem zf))} (h:Kp k l0 l):l.length=l0.length:=h.1.length_eq
theorem Kp.trans {k:Int} {l0 l l':List (List (Sem zf))} (h:Kp k l0 l) (g:Kp k l l'):Kp k l0 l':=⟨g.1.trans h.1,fun hr=>by
 have e:=h.2 hr
 subst e
 exact g.2 hr⟩
theorem Kp.perm {k:Int} {l l':List (List (Sem zf))} (hp:l'.Perm l) (hn:¬ l.Pairwise (CG k)):Kp k l l':=⟨hp,fun hr=>absurd hr hn⟩
theorem nC {α:Type} {l:List α} {i j:Nat} (hi:i < l.length) (hj:j < l.length) (d:α):((l.set j (l.getD i d)).set i (l.getD j d)).Perm l:=by
 have e:((l.set j l[i]).set i l[j]).Perm l:=List.set_set_perm hj hi
 rwa [aD,aD,zI hj,zI hi]
theorem NU {k:Int} {l:List (List (Sem zf))} (h:l.Pairwise (CG k)) {i j:Nat} (hij:i < j) (hj:j < l.length) (d:List (Sem zf)):CG k (l.getD i d) (l.getD j d):=by
 have:=List.pairwise_iff_getElem.1 h i j (by omega) hj hij
 rwa [aD,aD,zI (by omega),zI hj]
theorem tp {k:Int} {l:List (List (Sem zf))} {i j:Nat} (hij:i < j) (hj:j < l.length) (d:List (Sem zf)) (hc:CG k (l.getD j d) (l.getD i d)):¬ l.Pairwise (CG k):=fun hr=>Ks hc (NU hr hij hj d)

theorem Ge {i j:Nat} (h:j < i):decide ((i:Int) > (j:Int))=true:=by simpa using h
theorem QR (n:Nat):decide ((n:Int) > (n:Int))=false:=by simp
theorem iA {i j:Nat} (h:¬ i < j):decide ((i:Int) < (j:Int))=false:=by simpa using h
theorem mu (k:Int) (x y:List (Sem zf)):
  (bif (bif decide (k < 0) then true else decide (k ≥ (↑(length x):Int))) then bif (bif decide (k < 0) then true else decide (k ≥ (↑(length y):Int))) then aS (0,0,[]) (0,0,[]) else aS (0,0,[]) (getD y k.toNat (zj zf))
   else bif (bif decide (k < 0) then true else decide (k ≥ (↑(length y):Int))) then aS (getD x k.toNat (zj zf)) (0,0,[]) else aS (getD x k.toNat (zj zf)) (getD y k.toNat (zj zf)))=aS (jS k x) (jS k y):=by
 unfold jS
 cases (bif decide (k < 0) then true else decide (k ≥ (↑(length x):Int))) <;> cases (bif decide (k < 0) then true else decide (k ≥ (↑(length y):Int))) <;> rfl
theorem MK (k:Int) (x:List (Sem zf)):(bif (bif decide (k < 0) then true else decide (k ≥ (↑(length x):Int))) then true else zF k (length x))=true:=by
 cases h:(bif decide (k < 0) then true else decide (k ≥ (↑(length x):Int))) with
 | true=>rfl
 | false=>
  cases h1:decide (k < 0) with
  | true=>rw [h1] at h; cases h
  | false=>
   rw [h1] at h
   simp only [bQ,decide_eq_false_iff_not] at h h1
   simp only [bQ,zF,aG,zW]
   omega
theorem jz (k:Int) (x y:List (Sem zf)):(bif (bif decide (k < 0) then true else decide (k ≥ (↑(length x):Int))) then (bif (bif decide (k < 0) then true else decide (k ≥ (↑(length y):Int))) then true else zF k (length y))
  else zF k (length x)&&(bif (bif decide (k < 0) then true else decide (k ≥ (↑(length y):Int))) then true else zF k (length y)))=true:=by
 have h1:=MK k x
 rw [MK k y]
 cases h:(bif decide (k < 0) then true else decide (k ≥ (↑(length x):Int))) with
 | true=>rfl
 | false=>
  rw [h] at h1
  simp only [bQ] at h1 ⊢
  rw [h1]
  rfl

theorem MA (l0:List (List (Sem zf))) (a b i:Nat) (k:Int) (hn:l0.length≤1000) (hi:i < 1000):∀ (m j:Nat) (l:List (List (Sem zf))),j=a+m→j < l.length→Kp k l0 l→
  ∃ l',Kp k l0 l'∧aQ n9 (m+1) (.h4 (a:Int) (b:Int) k (i:Int) (j:Int) l) (.h1 (a:Int) (b:Int) k ((i+1:Nat):Int) l'):=by
 intro m
 induction m with
 | zero=>
  intro j l hj hl hk
  refine ⟨l,hk,aQ.of ?_⟩
  obtain rfl:j=a:=by omega
  simp only [n9,Tr.val,QR,bQ,zN,if_false,if_true,zH i (by unfold zE; omega)]
 | succ m IH=>
  intro j l hj hl hk
  obtain ⟨j,rfl⟩:∃ j',j=j'+1:=⟨j - 1,by omega⟩
  have hlen:=hk.len
  have e1:decide (((j+1:Nat):Int) > (a:Int))=true:=Ge (by omega)
  have e2:zF ((j+1:Nat):Int) l.length=true:=zG hl
  have e3:decide (j+1 < l.length)=true:=by simpa using hl
  have e4:IntKind.i64.wrap (((j+1:Nat):Int) - 1)=(j:Int):=qE j (by unfold zE; omega)
  have e5:zF (j:Int) l.length=true:=zG (by omega)
  have e6:decide (j < l.length)=true:=by simp; omega
  have e8:zF (j:Int) (l.set (j+1) (l.getD j (zj zf.sl))).length=true:=by rw [j4]; exact e5
  have e9:decide (j < (l.set (j+1) (l.getD j (zj zf.sl))).length)=true:=by rw [j4]; exact e6
  by_cases hc:CG k (l.getD (j+1) (zj zf.sl)) (l.getD j (zj zf.sl))
  ·have hsw:Kp k l ((l.set (j+1) (l.getD j (zj zf.sl))).set j (l.getD (j+1) (zj zf.sl))):=Kp.perm (nC (by omega) hl _) (tp (i:=j) (j:=j+1) (by omega) hl _ hc)
   obtain ⟨l',h1,h2⟩:=IH j _ (by omega) (by simp; omega) (hk.trans hsw)
   refine ⟨l',h1,((aQ.of ?_).trans h2).mono (by omega)⟩
   have e7:decide (LT.lt (α:=Int) (aS (jS k (l.getD (j+1) (zj zf.sl))) (jS k (l.getD j (zj zf.sl)))) 0)=true:=ba hc
   simp only [n9,Tr.val,e4,be]
   rw [jz,mu]
   simp only [e1,e2,e3,e5,e6,e7,e8,e9,bA,nQ,if_true]
  ·refine ⟨l,hk,(aQ.of ?_).mono (by omega)⟩
   have e7:decide (LT.lt (α:=Int) (aS (jS k (l.getD (j+1) (zj zf.sl))) (jS k (l.getD j (zj zf.sl)))) 0)=false:=ei hc
   simp only [n9,Tr.val,e4,be]
   rw [jz,mu]
   simp only [e1,e2,e3,e5,e6,e7,e8,e9,bA,nQ,if_true,zN,if_false,zH i (by unfold zE; omega)]

theorem Mz (l0:List (List (Sem zf))) (a b:Nat) (k:Int) (hn:l0.length≤1000) (hb:b≤l0.length):∀ (m i:Nat) (l:List (List (Sem zf))),b - i=m→a≤i→Kp k l0 l→
  ∃ l',Kp k l0 l'∧bS n9 (m * 1002+1) (.h1 (a:Int) (b:Int) k (i:Int) l) (.tup [],[.vec zf.sl l']):=by
 intro m
 induction m with
 | zero=>
  intro i l hm hi hk
  refine ⟨l,hk,(bS.of ?_).mono (by omega)⟩
  simp only [n9,Tr.val,iA (show ¬ i < b by omega),zN,if_false]
 | succ m IH=>
  intro i l hm hi hk
  have hlen:=hk.len
  obtain ⟨l1,h1,h2⟩:=MA l0 a b i k hn (by omega) (i - a) i l (by omega) (by omega) hk
  obtain ⟨l',h3,h4⟩:=IH (i+1) l1 (by omega) (by omega) h1
  refine ⟨l',h3,((aQ.of ?_).trans h2 |>.ends h4).mono (by omega)⟩
  simp only [n9,Tr.val,zX (show i < b by omega),if_true]
theorem vY (l:List (List (Sem zf))) (a b:Nat) (k:Int) (hn:l.length≤1000) (ha:a≤l.length) (hb:b≤l.length):∃ l',rq l a b k=some l'∧Kp k l l':=by
 obtain ⟨l',h1,h2⟩:=Mz l a b k hn hb (b - (a+1)) (a+1) l rfl (by omega) Kp.refl
 refine ⟨l',?_,h1⟩
 have:Gj l a b k=some (.tup [],[.vec zf.sl l']):=by
  unfold Gj bW HW
  rw [zH a (by unfold zE; omega)]
  have h9:b - (a+1)≤1000:=by omega
  exact h2 100000000 (cM (Nat.succ_le_succ (eT 1002 h9)) (by decide))
 unfold rq
 rw [this]
 rfl

theorem YY (l0:List (List (Sem zf))) (a b n:Nat) (hn:l0.length≤1000) (ha:a+n≤l0.length) (hb:b+n≤l0.length):∀ (m i:Nat) (l:List (List (Sem zf))),n - i=m→i≤n→l.Perm l0→
  ∃ l',l'.Perm l0∧bS A0 (m+1) (.h1 (a:Int) (b:Int) (n:Int) (i:Int) l) (.tup [],[.vec zf.sl l']):=by
 intro m
 induction m with
 | zero=>
  intro i l hm hi hp
  obtain rfl:i=n:=by omega
  refine ⟨l,hp,bS.of ?_⟩
  simp only [A0,Tr.val,ag,zN,if_false]
 | succ m IH=>
  intro i l hm hi hp
  have hlen:=hp.length_eq
  have e0:IntKind.i64.wrap ((b:Int)+(i:Int))=((b+i:Nat):Int):=by rw [wI _ (by omega) (by omega)]; omega
  have e1:IntKind.i64.wrap ((a:Int)+(i:Int))=((a+i:Nat):Int):=by rw [wI _ (by omega) (by omega)]; omega
  have e2:zF ((a+i:Nat):Int) l.length=true:=zG (by omega)
  have e3:zF ((b+i:Nat):Int) l.length=true:=zG (by omega)
  have e4:decide (a+i < l.length)=true:=by simp; omega
  have e5:decide (b+i < l.length)=true:=by simp; omega
  obtain ⟨l',h1,h2⟩:=IH (i+1) ((l.set (a+i) (l.getD (b+i) (zj zf.sl))).set (b+i) (l.getD (a+i) (zj zf.sl))) (by omega) (by omega) ((nC (i:=b+i) (j:=a+i) (by omega) (by omega) _).trans hp)
  refine ⟨l',h1,((aQ.of ?_).ends h2).mono (by omega)⟩
  simp only [A0,Tr.val,zX (show i < n by omega),e0,e1,e2,e3,e4,e5,be,j4,if_true,zH i (by unfold zE; omega)]
theorem Ha (l:List (List (Sem zf))) (a b n:Nat) (k:Int) (hn:l.length≤1000) (ha:a+n≤l.length) (hb:b+n≤l.length):∃ l',G9 l a b n k=some l'∧l'.Perm l:=by
 obtain ⟨l',h1,h2⟩:=YY l a b n hn ha hb n 0 l rfl (by omega) (.refl l)
 refine ⟨l',?_,h1⟩
 have:zfY l a b n k=some (.tup [],[.vec zf.sl l']):=h2 100000000 (by omega)
 unfold G9
 rw [this]
 rfl

theorem YQ (l0:List (List (Sem zf))) (m:Nat) (k:Int) (hn:l0.length≤1000):∀ (s i j:Nat) (l:List (List (Sem zf))),i+j≤s→1≤i→1≤j→i≤m→m+j≤l0.length→l.Perm l0→
  ∃ l',l'.Perm l0∧bS xC (s+1) (.h2 (m:Int) k (i:Int) (j:Int) l) (.tup [],[.vec zf.sl l']):=by
 intro s
 induction s with
 | zero=>intro i j l h h1; omega
 | succ s IH=>
  intro i j l hs h1 h2 h3 h4 hp
  have hlen:=hp.length_eq
  have e0:IntKind.i64.wrap ((m:Int) - (i:Int))=((m - i:Nat):Int):=by rw [wI _ (by omega) (by omega)]; omega
  rcases Nat.lt_trichotomy i j with h | h | h
  ·obtain ⟨l1,q1,q2⟩:=Ha l (m - i) (m+j - i) i k (by omega) (by omega) (by omega)
   obtain ⟨l',q3,q4⟩:=IH i (j - i) l1 (by omega) h1 (by omega) h3 (by omega) (q2.trans hp)
   refine ⟨l',q3,((aQ.of ?_).ends q4).mono (by omega)⟩
   have c1:((i:Int) != (j:Int))=true:=by simp; omega
   have c2:decide ((i:Int) > (j:Int))=false:=by simp; omega
   have c3:IntKind.i64.wrap (IntKind.i64.wrap ((m:Int)+(j:Int)) - (i:Int))=((m+j - i:Nat):Int):=by rw [wI ((m:Int)+(j:Int)) (by omega) (by omega),wI _ (by omega) (by omega)]; omega
   have c4:IntKind.i64.wrap ((j:Int) - (i:Int))=((j - i:Nat):Int):=by rw [wI _ (by omega) (by omega)]; omega
   simp only [xC,Tr.val,e0,c1,c2,c3,c4,q1,eh,bz,if_true,zN,if_false]
  ·subst h
   obtain ⟨l1,q1,q2⟩:=Ha l (m - i) m i k (by omega) (by omega) (by omega)
   refine ⟨l1,q2.trans hp,(bS.of ?_).mono (by omega)⟩
   simp only [xC,Tr.val,e0,pe,q1,eh,bz,if_true,zN,if_false]
  ·obtain ⟨l1,q1,q2⟩:=Ha l (m - i) m j k (by omega) (by omega) (by omega)
   obtain ⟨l',q3,q4⟩:=IH (i - j) j l1 (by omega) (by omega) h2 (by omega) h4 (q2.trans hp)
   refine ⟨l',q3,((aQ.of ?_).ends q4).mono (by omega)⟩
   have c1:((i:Int) != (j:Int))=true:=by simp; omega
   have c2:decide ((i:Int) > (j:Int))=true:=by simp; omega
   have c4:IntKind.i64.wrap ((i:Int) - (j:Int))=((i - j:Nat):Int):=by rw [wI _ (by omega) (by omega)]; omega
   simp only [xC,Tr.val,e0,c1,c2,c4,q1,eh,bz,if_true]
theorem YR (l:List (List (Sem zf))) (a m b:Nat) (k:Int) (hn:l.length≤1000) (ha:a < m) (hm:m < b) (hb:b≤l.length):∃ l',Kq l a m b k=some l'∧l'.Perm l:=by
 obtain ⟨l',h1,h2⟩:=YQ l m k hn ((m - a)+(b - m)) (m - a) (b - m) l (aU _) (by omega) (by omega) (by omega) (by omega) (.refl l)
 refine ⟨l',?_,h1⟩
 have:YP l a m b k=some (.tup [],[.vec zf.sl l']):=by
  unfold YP bW HX
  rw [show IntKind.i64.wrap ((m:Int) - (a:Int))=((m - a:Nat):Int) by rw [wI _ (by omega) (by omega)]; omega,show IntKind.i64.wrap ((b:Int) - (m:Int))=((b - m:Nat):Int) by rw [wI _ (by omega) (by omega)]; omega]
  exact h2 100000000 (by omega)
 unfold Kq
 rw [this]
 rfl

theorem tn (i j:Nat) (h:i+j≤4000000):IntKind.i64.wrap (IntKind.u64.wrap (IntKind.i64.wrap ((i:Int)+(j:Int))) / 2)=(((i+j) / 2:Nat):Int):=by
 rw [wI ((i:Int)+(j:Int)) (by omega) (by omega),wU _ (by omega) (by omega),wI _ (by omega) (by omega)]
 omega

section
variable (o:SM) (k:Int)

theorem zfV (l:List (List (Sem zf))) (a m b:Nat) (hn:l.length≤1000) (ha:a < m) (hb:b≤l.length):∀ (s i j:Nat),j - i≤s→m≤i→i≤j→j≤b→(i=m∨¬ l.Pairwise (CG k))→
  ∃ i',m≤i'∧i'≤b∧(i'=m∨¬ l.Pairwise (CG k))∧aQ (du o) (s+1) (.h3 (a:Int) k (i:Int) (j:Int) l) (.h9 (i':Int) (a:Int) l):=by
 intro s
 induction s with
 | zero=>
  intro i j h1 h2 h3 h4 h5
  refine ⟨i,h2,by omega,h5,aQ.of ?_⟩
  simp only [du,Tr.val,iA (show ¬ i < j by omega),zN,if_false]
 | succ s IH=>
  intro i j h1 h2 h3 h4 h5
  by_cases hij:i < j
  case neg=>
   refine ⟨i,h2,by omega,h5,(aQ.of ?_).mono (by omega)⟩
   simp only [du,Tr.val,iA hij,zN,if_false]
  have e0:=tn i j (by omega)
  have hh:i≤(i+j) / 2∧(i+j) / 2 < j:=by omega
  generalize (i+j) / 2=h at e0 hh
  have e1:zF ((h:Nat):Int) l.length=true:=zG (by omega)
  have e2:decide (h < l.length)=true:=by simp; omega
  have e3:zF ((a:Nat):Int) l.length=true:=zG (by omega)
  have e4:decide (a < l.length)=true:=by simp; omega
  by_cases hc:CG k (l.getD h (zj zf.sl)) (l.getD a (zj zf.sl))
  ·obtain ⟨i',q1,q2,q3,q4⟩:=IH (h+1) j (by omega) (by omega) (by omega) h4 (.inr (tp (i:=a) (j:=h) (by omega) (by omega) _ hc))
   refine ⟨i',q1,q2,q3,((aQ.of ?_).trans q4).mono (by omega)⟩
   have e7:decide (LT.lt (α:=Int) (aS (jS k (l.getD h (zj zf.sl))) (jS k (l.getD a (zj zf.sl)))) 0)=true:=ba hc
   simp only [du,Tr.val,e0,be]
   rw [jz,mu]
   simp only [zX hij,e1,e2,e3,e4,e7,if_true,zH h (by unfold zE; omega)]
  ·obtain ⟨i',q1,q2,q3,q4⟩:=IH i h (by omega) h2 (by omega) (by omega) h5
   refine ⟨i',q1,q2,q3,((aQ.of ?_).trans q4).mono (by omega)⟩
   have e7:decide (LT.lt (α:=Int) (aS (jS k (l.getD h (zj zf.sl))) (jS k (l.getD a (zj zf.sl)))) 0)=false:=ei hc
   simp only [du,Tr.val,e0,be]
   rw [jz,mu]
   simp only [zX hij,e1,e2,e3,e4,e7,if_true,zN,if_false]

theorem zfW (l0:List (List (Sem zf))) (i:Nat) (hn:l0.length≤1000) (hi:i≤l0.length):∀ (s c:Nat) (l:List (List (Sem zf))),i - c≤s→l.Perm l0→
  ∃ l',l'.Perm l0∧((i≤c+1)→l'=l)∧bS (du o) (s+1) (.h9 (i:Int) (c:Int) l) (.tup [],[.vec zf.sl l']):=by
 intro s
 induction s with
 | zero=>
  intro c l h1 hp
  refine ⟨l,hp,fun _=>rfl,bS.of ?_⟩
  have e0:decide ((c:Int) < IntKind.i64.wrap ((i:Int) - 1))=false:=by
   by_cases h0:i=0
   ·subst h0
    rw [wI _ (by omega) (by omega)]
    simp only [decide_eq_false_iff_not]; omega
   ·rw [wI _ (by omega) (by omega)]
    simp only [decide_eq_false_iff_not]; omega
  simp only [du,Tr.val,e0,zN,if_false]
 | succ s IH=>
  intro c l h1 hp
  have hlen:=hp.length_eq
  by_cases hc:c+1 < i
  case neg=>
   refine ⟨l,hp,fun _=>rfl,(bS.of ?_).mono (by omega)⟩
   have e0:decide ((c:Int) < IntKind.i64.wrap ((i:Int) - 1))=false:=by
    rw [wI _ (by omega) (by omega)]
    simp only [decide_eq_false_iff_not]; omega
   simp only [du,Tr.val,e0,zN,if_false]
  have e0:decide ((c:Int) < IntKind.i64.wrap ((i:Int) - 1))=true:=by
   rw [wI _ (by omega) (by omega)]
   simp only [zW]; omega
  have e1:zF ((c+1:Nat):Int) l.length=true:=zG (by omega)
  have e2:zF ((c:Nat):Int) l.length=true:=zG (by omega)
  have e3:decide (c+1 < l.length)=true:=by simp; omega
  have e4:decide (c < l.length)=true:=by simp; omega
  obtain ⟨l',q1,_,q3⟩:=IH (c+1) ((l.set c (l.getD (c+1) (zj zf.sl))).set (c+1) (l.getD c (zj zf.sl))) (by omega) ((nC (i:=c+1) (j:=c) (by omega) (by omega) _).trans hp)
  refine ⟨l',q1,fun h=>by omega,((aQ.of ?_).ends q3).mono (by omega)⟩
  simp only [du,Tr.val,e0,zH c (by unfold zE; omega),e1,e2,e3,e4,be,j4,if_true]

theorem YV (l:List (List (Sem zf))) (a m:Nat) (hn:l.length≤1000) (hm:m < l.length):∀ (s i j:Nat),j - i≤s→a≤i→i≤j→j≤m→(j=m∨¬ l.Pairwise (CG k))→
  ∃ i',a≤i'∧i'≤m∧(i'=m∨¬ l.Pairwise (CG k))∧aQ (du o) (s+1) (.h15 (m:Int) k (i:Int) (j:Int) l) (.h21 (i':Int) (m:Int) l):=by
 intro s
 induction s with
 | zero=>
  intro i j h1 h2 h3 h4 h5
  refine ⟨i,h2,by omega,h5.imp (fun h=>by omega) id,aQ.of ?_⟩
  simp only [du,Tr.val,iA (show ¬ i < j by omega),zN,if_false]
 | succ s IH=>
  intro i j h1 h2 h3 h4 h5
  by_cases hij:i < j
  case neg=>
   refine ⟨i,h2,by omega,h5.imp (fun h=>by omega) id,(aQ.of ?_).mono (by omega)⟩
   simp only [du,Tr.val,iA hij,zN,if_false]
  have e0:=tn i j (by omega)
  have hh:i≤(i+j) / 2∧(i+j) / 2 < j:=by omega
  generalize (i+j) / 2=h at e0 hh
  have e1:zF ((h:Nat):Int) l.length=true:=zG (by omega)
  have e2:decide (h < l.length)=true:=by simp; omega
  have e3:zF ((m:Nat):Int) l.length=true:=zG (by omega)
  have e4:decide (m < l.length)=true:=by simp; omega
  by_cases hc:CG k (l.getD m (zj zf.sl)) (l.getD h (zj zf.sl))
  ·obtain ⟨i',q1,q2,q3,q4⟩:=IH i h (by omega) h2 (by omega) (by omega) (.inr (tp (i:=h) (j:=m) (by omega) (by omega) _ hc))
   refine ⟨i',q1,q2,q3,((aQ.of ?_).trans q4).mono (by omega)⟩
   have e7:decide (LT.lt (α:=Int) (aS (jS k (l.getD m (zj zf.sl))) (jS k (l.getD h (zj zf.sl)))) 0)=true:=ba hc
   simp only [du,Tr.val,e0,be]
   rw [jz,mu]
   simp only [zX hij,e1,e2,e3,e4,e7,if_true,iW,zN,if_false]
  ·obtain ⟨i',q1,q2,q3,q4⟩:=IH (h+1) j (by omega) (by omega) (by omega) h4 h5
   refine ⟨i',q1,q2,q3,((aQ.of ?_).trans q4).mono (by omega)⟩
   have e7:decide (LT.lt (α:=Int) (aS (jS k (l.getD m (zj zf.sl))) (jS k (l.getD h (zj zf.sl)))) 0)=false:=ei hc
   simp only [du,Tr.val,e0,be]
   rw [jz,mu]
   simp only [zX hij,e1,e2,e3,e4,e7,if_true,Bool.not_false,zH h (by unfold zE; omega)]

theorem YW (l0:List (List (Sem zf))) (i:Nat) (hn:l0.length≤1000):∀ (s c:Nat) (l:List (List (Sem zf))),c - i≤s→c < l0.length→l.Perm l0→
  ∃ l',l'.Perm l0∧(c≤i→l'=l)∧bS (du o) (s+1) (.h21 (i:Int) (c:Int) l) (.tup [],[.vec zf.sl l']):=by
 intro s
 induction s with
 | zero=>
  intro c l h1 hcl hp
  refine ⟨l,hp,fun _=>rfl,bS.of ?_⟩
  have e0:decide ((c:Int) > (i:Int))=false:=by simp; omega
  simp only [du,Tr.val,e0,zN,if_false]
 | succ s IH=>
  intro c l h1 hcl hp
  have hlen:=hp.length_eq
  by_cases hc:i < c
  case neg=>
   refine ⟨l,hp,fun _=>rfl,(bS.of ?_).mono (by omega)⟩
   have e0:decide ((c:Int) > (i:Int))=false:=by simp; omega
   simp only [du,Tr.val,e0,zN,if_false]
  obtain ⟨c,rfl⟩:∃ c',c=c'+1:=⟨c - 1,by omega⟩
  have e0:decide (((c+1:Nat):Int) > (i:Int))=true:=Ge hc
  have e1:zF ((c+1:Nat):Int) l.length=true:=zG (by omega)
  have e2:zF ((c:Nat):Int) l.length=true:=zG (by omega)
  have e3:decide (c+1 < l.length)=true:=by simp; omega
  have e4:decide (c < l.length)=true:=by simp; omega
  have e5:IntKind.i64.wrap (((c+1:Nat):Int) - 1)=(c:Int):=qE c (by unfold zE; omega)
  obtain ⟨l',q1,_,q3⟩:=IH c ((l.set (c+1) (l.getD c (zj zf.sl))).set c (l.getD (c+1) (zj zf.sl))) (by omega) (by omega) ((nC (i:=c) (j:=c+1) (by omega) (by omega) _).trans hp)
  refine ⟨l',q1,fun h=>by omega,((aQ.of ?_).ends q3).mono (by omega)⟩
  simp only [du,Tr.val,e0,e5,e1,e2,e3,e4,be,j4,if_true]
end

section
variable (o:SM) (k:Int)

theorem OF (l:List (List (Sem zf))) (a m b mid n p lo r0:Nat) (hn:l.length≤1000) (hr0:r0≤1000) (hp:p≤2000) (hB:∀ c,lo≤c→c < r0→c+c < p∧p < l.length+c):∀ (s i j:Nat),j - i≤s→lo≤i→i≤j→j≤r0→(j=r0∨¬ l.Pairwise (CG k))→
  ∃ i',lo≤i'∧i'≤r0∧(i'=r0∨¬ l.Pairwise (CG k))∧aQ (du o) s (.h33 (a:Int) (m:Int) (b:Int) k (mid:Int) (n:Int) (i:Int) (j:Int) (p:Int) l) (.h33 (a:Int) (m:Int) (b:Int) k (mid:Int) (n:Int) (i':Int) (i':Int) (p:Int) l):=by
 intro s
 induction s with
 | zero=>
  intro i j h1 h2 h3 h4 h5
  obtain rfl:i=j:=by omega
  exact ⟨i,h2,h4,h5,aQ.refl _⟩
 | succ s IH=>
  intro i j h1 h2 h3 h4 h5
  by_cases hij:i < j
  case neg=>
   obtain rfl:i=j:=by omega
   exact ⟨i,h2,h4,h5,(aQ.refl _).mono (by omega)⟩
  have e0:=tn i j (by omega)
  have hh:i≤(i+j) / 2∧(i+j) / 2 < j:=by omega
  generalize (i+j) / 2=h at e0 hh
  obtain ⟨b1,b2⟩:=hB h (by omega) (by omega)
  have e5:IntKind.i64.wrap ((p:Int) - (h:Int))=((p - h:Nat):Int):=by rw [wI _ (by omega) (by omega)]; omega
  have e1:zF ((h:Nat):Int) l.length=true:=zG (by omega)
  have e2:decide (h < l.length)=true:=by simp; omega
  have e3:zF ((p - h:Nat):Int) l.length=true:=zG (by omega)
  have e4:decide (p - h < l.length)=true:=by simp; omega
  by_cases hc:CG k (l.getD (p - h) (zj zf.sl)) (l.getD h (zj zf.sl))
  ·obtain ⟨i',q1,q2,q3,q4⟩:=IH i h (by omega) h2 (by omega) (by omega) (.inr (tp (i:=h) (j:=p - h) (by omega) (by omega) _ hc))
   refine ⟨i',q1,q2,q3,((aQ.of ?_).trans q4).mono (by omega)⟩
   have e7:decide (LT.lt (α:=Int) (aS (jS k (l.getD (p - h) (zj zf.sl))) (jS k (l.getD h (zj zf.sl)))) 0)=true:=ba hc
   simp only [du,Tr.val,e0,e5,be]
   rw [jz,mu]
   simp only [zX hij,e1,e2,e3,e4,e7,if_true,iW,zN,if_false]
  ·obtain ⟨i',q1,q2,q3,q4⟩:=IH (h+1) j (by omega) (by omega) (by omega) h4 h5
   refine ⟨i',q1,q2,q3,((aQ.of ?_).trans q4).mono (by omega)⟩
   have e7:decide (LT.lt (α:=Int) (aS (jS k (l.getD (p - h) (zj zf.sl))) (jS k (l.getD h (zj zf.sl)))) 0)=false:=ei hc
   simp only [du,Tr.val,e0,e5,be]
   rw [jz,mu]
   simp only [zX hij,e1,e2,e3,e4,e7,if_true,Bool.not_false,zH h (by unfold zE; omega)]

theorem Qo {a b c d:Nat}:(bif decide ((a:Int) < (b:Int)) then decide ((c:Int) < (d:Int)) else false)=decide (a < b∧c < d):=by
 by_cases h:a < b
 ·have:decide ((a:Int) < (b:Int))=true:=by simpa using h
  rw [this]
  simp [h]
 ·have:decide ((a:Int) < (b:Int))=false:=by simpa using h
  rw [this]
  simp [h]

theorem OE {D:Nat} (hO:∀ (l:List (List (Sem zf))) (a m b:Nat),l.length≤1000→a < m→m < b→b≤l.length→b - a≤D→∃ l',o l a m b k=some l'∧Kp k l l') (l:List (List (Sem zf))) (a m b mid n st en:Nat) (p:Int) (hn:l.length≤1000) (hb:b≤l.length) (he:n=st+en) (_:n≤2000)
  (_:a≤st) (h2:en≤b) (h3:mid - a≤D) (h4:b - mid≤D) (hmb:mid≤b) (hr:st < m→m < en→¬ l.Pairwise (CG k)):
  ∃ l',Kp k l l'∧(du o (.h33 (a:Int) (m:Int) (b:Int) k (mid:Int) (n:Int) (st:Int) (st:Int) p l)).val=some (.inr (.tup [],[.vec zf.sl l'])):=by
 have e0:IntKind.i64.wrap ((n:Int) - (st:Int))=(en:Int):=by rw [wI _ (by omega) (by omega)]; omega
 have e1:decide ((st:Int) < (st:Int))=false:=by simp
 obtain ⟨l1,p1,p2⟩:∃ l1,Kp k l l1∧(if st < m∧m < en then Kq l st m en k=some l1 else l1=l):=by
  by_cases h:st < m∧m < en
  ·obtain ⟨l1,q1,q2⟩:=YR l st m en k hn h.1 h.2 (by omega)
   exact ⟨l1,Kp.perm q2 (hr h.1 h.2),by rw [if_pos h]; exact q1⟩
  ·exact ⟨l,Kp.refl,by rw [if_neg h]⟩
 obtain ⟨l2,p3,p4⟩:∃ l2,Kp k l1 l2∧(if a < st∧st < mid then o l1 a st mid k=some l2 else l2=l1):=by
  by_cases h:a < st∧st < mid
  ·obtain ⟨l2,q1,q2⟩:=hO l1 a st mid (by rw [p1.len]; exact hn) h.1 h.2 (by rw [p1.len]; omega) h3
   exact ⟨l2,q2,by rw [if_pos h]; exact q1⟩
  ·exact ⟨l1,Kp.refl,by rw [if_neg h]⟩
 obtain ⟨l3,p5,p6⟩:∃ l3,Kp k l2 l3∧(if mid < en∧en < b then o l2 mid en b k=some l3 else l3=l2):=by
  by_cases h:mid < en∧en < b
  ·obtain ⟨l3,q1,q2⟩:=hO l2 mid en b (by rw [p3.len,p1.len]; exact hn) h.1 h.2 (by rw [p3.len,p1.len]; omega) h4
   exact ⟨l3,q2,by rw [if_pos h]; exact q1⟩
  ·exact ⟨l2,Kp.refl,by rw [if_neg h]⟩
 refine ⟨l3,(p1.trans p3).trans p5,?_⟩
 simp only [du,Tr.val,e0,e1,Qo,zN,if_false]
 by_cases c1:st < m∧m < en
 ·rw [if_pos c1] at p2
  by_cases c2:a < st∧st < mid
  ·rw [if_pos c2] at p4
   by_cases c3:mid < en∧en < b
   ·rw [if_pos c3] at p6
    simp only [ba c1,ba c2,ba c3,p2,p4,p6,eh,bz,if_true]
   ·rw [if_neg c3] at p6
    subst p6
    simp only [ba c1,ba c2,ei c3,p2,p4,eh,bz,if_true,zN,if_false]
  ·rw [if_neg c2] at p4
   subst p4
   by_cases c3:mid < en∧en < b
   ·rw [if_pos c3] at p6
    simp only [ba c1,ei c2,ba c3,p2,p6,eh,bz,if_true,zN,if_false]
   ·rw [if_neg c3] at p6
    subst p6
    simp only [ba c1,ei c2,ei c3,p2,eh,bz,if_true,zN,if_false]
 ·rw [if_neg c1] at p2
  subst p2
  by_cases c2:a < st∧st < mid
  ·rw [if_pos c2] at p4
   by_cases c3:mid < en∧en < b
   ·rw [if_pos c3] at p6
    simp only [ei c1,ba c2,ba c3,p4,p6,eh,bz,if_true,zN,if_false]
   ·rw [if_neg c3] at p6
    subst p6
    simp only [ei c1,ba c2,ei c3,p4,eh,bz,if_true,zN,if_false]
  ·rw [if_neg c2] at p4
   subst p4
   by_cases c3:mid < en∧en < b
   ·rw [if_pos c3] at p6
    simp only [ei c1,ei c2,ba c3,p6,eh,bz,if_true,zN,if_false]
   ·rw [if_neg c3] at p6
    subst p6
    simp only [ei c1,ei c2,ei c3,zN,if_false]
end

theorem CN {o:SM} {l l':List (List (Sem zf))} {a m b k:Int} (h:bW (du o) 100000000 (su o l a m b k)=some (.tup [],[.vec zf.sl l'])):smS o l a m b k=some l':=by
 unfold smS
 rw [h]
 rfl

theorem OG (k:Int):∀ (N:Nat) (l:List (List (Sem zf))) (a m b:Nat),l.length≤1000→a < m→m < b→b≤l.length→b - a≤2 ^ N→∃ l',xz N l a m b k=some l'∧Kp k l l'
 | 0,_,a,m,b,_,h1,h2,_,h4=>by simp at h4; omega
 | N+1,l,a,m,b,hn,h1,h2,h3,h4=>by
  have hO:=OG k N
  have e0:IntKind.i64.wrap ((m:Int) - (a:Int))=((m - a:Nat):Int):=by rw [wI _ (by omega) (by omega)]; omega
  have e1:IntKind.i64.wrap ((b:Int) - (m:Int))=((b - m:Nat):Int):=by rw [wI _ (by omega) (by omega)]; omega
  by_cases c1:m - a=1
  ·obtain ⟨i',q1,q2,q3,q4⟩:=zfV (xz N) k l a m b hn h1 h3 (b - m) m b (aU _) (aU _) (by omega) (aU _) (.inl rfl)
   obtain ⟨l',r1,r2,r3⟩:=zfW (xz N) l i' hn (by omega) (i' - a) a l (aU _) (.refl l)
   refine ⟨l',CN ?_,?_⟩
   ·have c1':(((m - a:Nat):Int)==1)=true:=by rw [c1]; rfl
    unfold bW
    simp only [su,Tr.val,e0,c1',if_true]
    exact (q4.ends r3) 100000000 (by omega)
   ·rcases q3 with rfl | q3
    ·rw [r2 (by omega)]; exact Kp.refl
    ·exact Kp.perm r1 q3
  have c1':(((m - a:Nat):Int)==1)=false:=by simp; omega
  by_cases c2:b - m=1
  ·obtain ⟨i',q1,q2,q3,q4⟩:=YV (xz N) k l a m hn (by omega) (m - a) a m (aU _) (aU _) (by omega) (aU _) (.inl rfl)
   obtain ⟨l',r1,r2,r3⟩:=YW (xz N) l i' hn (m - i') m l (aU _) (by omega) (.refl l)
   refine ⟨l',CN ?_,?_⟩
   ·have c2':(((b - m:Nat):Int)==1)=true:=by rw [c2]; rfl
    unfold bW
    simp only [su,Tr.val,e0,e1,c1',c2',if_true,zN,if_false]
    exact (q4.ends r3) 100000000 (by omega)
   ·rcases q3 with rfl | q3
    ·rw [r2 (aU _)]; exact Kp.refl
    ·exact Kp.perm r1 q3
  have c2':(((b - m:Nat):Int)==1)=false:=by simp; omega
  have e2:=tn a b (by omega)
  have hmid:a≤(a+b) / 2∧(a+b) / 2≤b∧2 * ((a+b) / 2)≤a+b∧a+b≤2 * ((a+b) / 2)+1:=by omega
  generalize (a+b) / 2=mid at e2 hmid
  obtain ⟨g1,g2,g3,g4⟩:=hmid
  have hD:mid - a≤2 ^ N∧b - mid≤2 ^ N:=by rw [Nat.pow_succ] at h4; omega
  have e3:IntKind.i64.wrap ((mid:Int)+(m:Int))=((mid+m:Nat):Int):=by rw [wI _ (by omega) (by omega)]; omega
  have e4:IntKind.i64.wrap (((mid+m:Nat):Int) - 1)=((mid+m - 1:Nat):Int):=by rw [wI _ (by omega) (by omega)]; omega
  by_cases c3:mid < m
  ·
   have e5:IntKind.i64.wrap (((mid+m:Nat):Int) - (b:Int))=((mid+m - b:Nat):Int):=by rw [wI _ (by omega) (by omega)]; omega
   have c3':decide ((m:Int) > (mid:Int))=true:=Ge c3
   obtain ⟨st,q1,q2,q3,q4⟩:=OF (xz N) k l a m b mid (mid+m) (mid+m - 1) (mid+m - b) mid hn (by omega) (by omega) (fun c u1 u2=>by omega) (mid - (mid+m - b)) (mid+m - b) mid (aU _) (aU _) (by omega) (aU _) (.inl rfl)
   obtain ⟨l',r1,r2⟩:=OE (xz N) k hO l a m b mid (mid+m) st (mid+m - st) ((mid+m - 1:Nat):Int) hn h3 (by omega) (by omega) (by omega) (by omega) hD.1 hD.2 g2 (fun u1 u2=>by
    rcases q3 with rfl | q3
    ·omega
    ·exact q3)
   refine ⟨l',CN ?_,r1⟩
   unfold bW
   simp only [su,Tr.val,e0,e1,e2,e3,e4,e5,c1',c2',c3',if_true,zN,if_false]
   exact (q4.ends (bS.of r2)) 100000000 (by omega)
  ·have c3':decide ((m:Int) > (mid:Int))=false:=by simp; omega
   obtain ⟨st,q1,q2,q3,q4⟩:=OF (xz N) k l a m b mid (mid+m) (mid+m - 1) a m hn (by omega) (by omega) (fun c u1 u2=>by omega) (m - a) a m (aU _) (aU _) (by omega) (aU _) (.inl rfl)
   obtain ⟨l',r1,r2⟩:=OE (xz N) k hO l a m b mid (mid+m) st (mid+m - st) ((mid+m - 1:Nat):Int) hn h3 (by omega) (by omega) (by omega) (by omega) hD.1 hD.2 g2 (fun u1 u2=>by
    rcases q3 with rfl | q3
    ·omega
    ·exact q3)
   refine ⟨l',CN ?_,r1⟩
   unfold bW
   simp only [su,Tr.val,e0,e1,e2,e3,e4,c1',c2',c3',if_true,zN,if_false]
   exact (q4.ends (bS.of r2)) 100000000 (by omega)

theorem ziK (k:Int) (l0:List (List (Sem zf))) (bs:Nat) (hn:l0.length≤1000) (hb:1≤bs) (hb2:bs≤1000):∀ (s a:Nat) (l:List (List (Sem zf))),l0.length - a≤s→a≤l0.length→Kp k l0 l→
  ∃ l',Kp k l0 l'∧aQ im (s+1) (.h9 (l0.length:Int) k (bs:Int) (a:Int) ((a+2 * bs:Nat):Int) l) (.h7 (l0.length:Int) k ((2 * bs:Nat):Int) l'):=by
 intro s
 induction s with
 | zero=>
  intro a l hs ha hk
  refine ⟨l,hk,aQ.of ?_⟩
  have e0:IntKind.i64.wrap ((a:Int)+(bs:Int))=((a+bs:Nat):Int):=by rw [wI _ (by omega) (by omega)]; omega
  have e1:IntKind.i64.wrap ((bs:Int) * 2)=((2 * bs:Nat):Int):=by rw [wI _ (by omega) (by omega)]; omega
  have e2:decide (((a+2 * bs:Nat):Int)≤(l0.length:Int))=false:=by simp; omega
  simp only [im,Tr.val,e0,e1,e2,iA (show ¬ a+bs < l0.length by omega),zN,if_false]
 | succ s IH=>
  intro a l hs ha hk
  have hlen:=hk.len
  have e0:IntKind.i64.wrap ((a:Int)+(bs:Int))=((a+bs:Nat):Int):=by rw [wI _ (by omega) (by omega)]; omega
  have e1:IntKind.i64.wrap ((bs:Int) * 2)=((2 * bs:Nat):Int):=by rw [wI _ (by omega) (by omega)]; omega
  have e3:IntKind.i64.wrap (((a+2 * bs:Nat):Int)+IntKind.i64.wrap (2 * (bs:Int)))=((a+2 * bs+2 * bs:Nat):Int):=by rw [wI (2 * (bs:Int)) (by omega) (by omega),wI _ (by omega) (by omega)]; omega
  by_cases c1:a+2 * bs≤l0.length
  ·obtain ⟨l1,q1,q2⟩:=OG k 16 l a (a+bs) (a+2 * bs) (by omega) (by omega) (by omega) (by omega) (by simp; omega)
   obtain ⟨l',q3,q4⟩:=IH (a+2 * bs) l1 (by omega) c1 (hk.trans q2)
   refine ⟨l',q3,((aQ.of ?_).trans q4).mono (by omega)⟩
   have e2:decide (((a+2 * bs:Nat):Int)≤(l0.length:Int))=true:=by simp; omega
   simp only [im,Tr.val,e0,e2,e3,q1,eh,bz,if_true]
  ·have e2:decide (((a+2 * bs:Nat):Int)≤(l0.length:Int))=false:=by simp; omega
   by_cases c2:a+bs < l0.length
   ·obtain ⟨l1,q1,q2⟩:=OG k 16 l a (a+bs) l0.length (by omega) (by omega) c2 (by omega) (by simp; omega)
    refine ⟨l1,hk.trans q2,(aQ.of ?_).mono (by omega)⟩
    simp only [im,Tr.val,e0,e1,e2,zX c2,q1,eh,bz,if_true,zN,if_false]
   ·refine ⟨l,hk,(aQ.of ?_).mono (by omega)⟩
    simp only [im,Tr.val,e0,e1,e2,iA c2,zN,if_false]

theorem ziJ (k:Int) (l0:List (List (Sem zf))) (hn:l0.length≤1000):∀ (s bs:Nat) (l:List (List (Sem zf))),l0.length - bs≤s→1≤bs→Kp k l0 l→
  ∃ l',Kp k l0 l'∧bS im (s * 1002+1) (.h7 (l0.length:Int) k (bs:Int) l) (.tup [],[.vec zf.sl l']):=by
 intro s
 induction s with
 | zero=>
  intro bs l hs hb hk
  refine ⟨l,hk,(bS.of ?_).mono (by omega)⟩
  simp only [im,Tr.val,iA (show ¬ bs < l0.length by omega),zN,if_false]
 | succ s IH=>
  intro bs l hs hb hk
  by_cases c:bs < l0.length
  case neg=>
   refine ⟨l,hk,(bS.of ?_).mono (by omega)⟩
   simp only [im,Tr.val,iA c,zN,if_false]
  obtain ⟨l1,q1,q2⟩:=ziK k l0 bs hn hb (by omega) l0.length 0 l (by omega) (by omega) hk
  obtain ⟨l',q3,q4⟩:=IH (2 * bs) l1 (by omega) (by omega) q1
  refine ⟨l',q3,(((aQ.of ?_).trans q2).ends q4).mono (by omega)⟩
  have e1:IntKind.i64.wrap (2 * (bs:Int))=((0+2 * bs:Nat):Int):=by rw [wI _ (by omega) (by omega)]; omega
  simp only [im,Tr.val,zX c,e1,if_true]
  rfl

theorem ziI (k:Int) (l0:List (List (Sem zf))) (hn:l0.length≤1000):∀ (s a:Nat) (l:List (List (Sem zf))),l0.length - a≤s→a≤l0.length→Kp k l0 l→
  ∃ l',Kp k l0 l'∧aQ im (s+1) (.h2 (l0.length:Int) k 20 (a:Int) ((a+20:Nat):Int) l) (.h7 (l0.length:Int) k 20 l'):=by
 intro s
 induction s with
 | zero=>
  intro a l hs ha hk
  have hlen:=hk.len
  obtain ⟨l1,q1,q2⟩:=vY l a l0.length k (by omega) (by omega) (by omega)
  refine ⟨l1,hk.trans q2,aQ.of ?_⟩
  have e2:decide (((a+20:Nat):Int)≤(l0.length:Int))=false:=by simp; omega
  simp only [im,Tr.val,e2,q1,eh,bz,if_true,zN,if_false]
 | succ s IH=>
  intro a l hs ha hk
  have hlen:=hk.len
  by_cases c:a+20≤l0.length
  ·obtain ⟨l1,q1,q2⟩:=vY l a (a+20) k (by omega) (by omega) (by omega)
   obtain ⟨l',q3,q4⟩:=IH (a+20) l1 (by omega) c (hk.trans q2)
   refine ⟨l',q3,((aQ.of ?_).trans q4).mono (by omega)⟩
   have e2:decide (((a+20:Nat):Int)≤(l0.length:Int))=true:=by simp; omega
   have e3:IntKind.i64.wrap (((a+20:Nat):Int)+20)=((a+20+20:Nat):Int):=by rw [wI _ (by omega) (by omega)]; omega
   simp only [im,Tr.val,e2,e3,q1,eh,bz,if_true]
  ·obtain ⟨l1,q1,q2⟩:=vY l a l0.length k (by omega) (by omega) (by omega)
   refine ⟨l1,hk.trans q2,(aQ.of ?_).mono (by omega)⟩
   have e2:decide (((a+20:Nat):Int)≤(l0.length:Int))=false:=by simp; omega
   simp only [im,Tr.val,e2,q1,eh,bz,if_true,zN,if_false]

theorem Rx (k:Int) (l:List (List (Sem zf))) (hn:l.length≤1000):∃ l',Fa l (l.length:Int) k=some l'∧Kp k l l':=by
 obtain ⟨l1,q1,q2⟩:=ziI k l hn l.length 0 l (by omega) (by omega) Kp.refl
 obtain ⟨l',q3,q4⟩:=ziJ k l hn l.length 20 l1 (by omega) (by omega) q1
 refine ⟨l',?_,q3⟩
 have:Ux l (l.length:Int) k=some (.tup [],[.vec zf.sl l']):=by
  have h9:=eT 1002 hn
  exact (q2.ends q4) 100000000 (by
   refine cM (Nat.add_le_add (Nat.succ_le_succ h9) (Nat.succ_le_succ hn)) (by decide))
 unfold Fa
 rw [this]
 rfl
theorem E8 (k:Int) (l:List (List (Sem zf))) (hn:l.length≤1000):∃ l',rP l k=some l'∧Kp k l l':=by
 obtain ⟨l',q1,q2⟩:=Rx k l hn
 refine ⟨l',?_,q2⟩
 have:G6 l k=some (.tup [],[.vec zf.sl l']):=by
  unfold G6 bW
  simp only [HV,Tr.val,q1,eh,bz,if_true]
 unfold rP
 rw [this]
 rfl

theorem Om {x:Sem zh} (hc:FA x=true) (hn:x.2.length≤1000):∃ l',Cz x=some ((x.1,l'),())∧l'.Perm x.2∧(iK x.1=true→Kp x.1.2.2.1 x.2 l'):=by
 have fin:∀ l':List (List (Sem zf)),ae [AO.vec zi x.1.2.1,AO.vec zg x.1.2.2.2.1,AO.vec zq x.1.2.2.2.2.1,AO.vec zf.sl l'] [zh] (AV.agg [AV.str x.1.1,AV.vec 0,AV.int .i64 x.1.2.2.1,AV.vec 1,AV.vec 2,AV.str (ze.op x.1.2.2.2.2.2),AV.int .i64 (ze.v x.1.2.2.2.2.2).1,AV.int .i64 (ze.v x.1.2.2.2.2.2).2.1,AV.str (ze.v x.1.2.2.2.2.2).2.2,AV.str (ze.s x.1.2.2.2.2.2),AV.sl Sh.expr (ze.l x.1.2.2.2.2.2),AV.vec 3])=some (((x.1,l'):Sem zh),()):=by
  intro l'
  obtain ⟨⟨a,b,c,d,e,f⟩,r⟩:=x
  cases f
  rfl
 cases hm:iK x.1 with
 | true=>
  obtain ⟨l',q1,q2⟩:=E8 x.1.2.2.1 x.2 hn
  refine ⟨l',gT (r:=(_,_)) ?_ (fin l'),q2.1,fun _=>q2⟩
  simp only [Xu,Tr.val,zn,Prod.eta,hc,hm,q1,eh,bz,iW,zN,if_true,if_false]
 | false=>
  obtain ⟨l',q1,q2⟩:=E8 (-1) x.2 hn
  refine ⟨l',gT (r:=(_,_)) ?_ (fin l'),q2.1,fun h=>(by cases h)⟩
  simp only [Xu,Tr.val,zn,Prod.eta,hc,hm,q1,eh,bz,Bool.not_false,if_true]

theorem o5 {a0 a1 a2 a3 a4 a5 a6 a7 a8 a9 b0 b1 b2 b3 b4 b5 b6 d0 d1 d2 d3 d4 d5 d6 d7 d8 d9}:∀ (l:List (Sem zq)) (i:Int) (acc:List (Sem zq)),
  (eB a0 a1 a2 a3 a4 a5 a6 a7 a8 a9 b0 b1 b2 b3 b4 b5 b6 d0 d1 d2 d3 d4 d5 d6 d7 d8 d9 l i acc).2.2.2.2.2=ze.mk d3 (d4,d5,d6) d7 d8
 | [],_,_=>rfl
 | x::r,i,acc=>by
  rw [eB]
  split
  ·exact o5 r (i+1) _
  ·rfl
theorem xD {a0 a1 a2 a3 a4 a5 a6 a7 a8 a9 b0 b1 b2 b3 b4 b5 b6 d0 d1 d2 d3 d4 d5 d6 d7 d8 d9}:∀ (l:List (Sem zg)) (i:Int) (acc:List (Sem zg)),
  (dR a0 a1 a2 a3 a4 a5 a6 a7 a8 a9 b0 b1 b2 b3 b4 b5 b6 d0 d1 d2 d3 d4 d5 d6 d7 d8 d9 l i acc).2.2.2.2.2=ze.mk d3 (d4,d5,d6) d7 d8
 | [],i,acc=>by
  rw [dR]
  exact o5 _ _ _
 | x::r,i,acc=>by
  rw [dR]
  split
  ·exact xD r (i+1) _
  ·exact o5 _ _ _
theorem RG (t:Sem zw):lM 16 (iH t).2.2.2.2.2=true:=by
 have h:(iH t).2.2.2.2.2=cA t.2.2.2.2.2:=by
  unfold iH
  rw [xD]
  exact ze.eta _
 rw [h]
 exact HD _

structure g8 (x:Sem zh):Prop where
 sh:c8 x
 cp:lM 16 x.1.2.2.2.2.2=true

theorem pM (x:Sem zh):g8 (gR x):=by
 refine ⟨Eg x,?_⟩
 obtain ⟨rows,h1,h2⟩:=mq x
 have h3:gR x=(iH x.1,rows):=by unfold gR; rw [h2]; rfl
 rw [h3]
 exact RG x.1

end Cad
