/- Few tables, few statements. Few bases. The document's reader: letters, words. The document's values; names' places; expressions, counted, held against one another. -/
import Derived.Test.YtiefilkilbdpgaaGreatDoorS12
namespace Cad
open Go Go.Proofs
open Int (toNat)
open List (getD)
open List (length)
noncomputable section
set_option maxHeartbeats 4000000
abbrev cpR:List CP:=[.d zh]
abbrev zbN:List CP:=[.d .str,.nil,.d zg,.nil,.nil,.d .str,.d zg,.d zg,.d .str,.d .str,.nil,.nil]
abbrev zbM:List CP:=[.d zx,.vec (.sl zf)]
abbrev mi:List CP:=[.d zm]
abbrev eK:List CP:=[.d .str,.d .str,.d .str,.nil,.nil,.d .str,.nil,.nil,.d .str,.d zg,.d zg,.d .str,.d .str,.nil,.nil,.nil,.d .str,.d zg,.d zg,.d .str,.d .str,.nil,.d .str]
abbrev Kk:List CP:=[.d .str,.d .str,.d .str,.d (.sl .str),.d (.sl zi),.d .str,.d (.sl .str),.vec bI,.d .expr,.d (.sl zf),.nil,.d .expr,.d .str]
abbrev Kl:List CP:=[.d .str,.d .str,.d .str,.d (.sl .str),.d (.sl zi),.d .str,.d (.sl .str),.vec bI,.d .expr,.d (.sl zf),.vec aN,.d .expr,.d .str]

abbrev zdo:Nat→ah:=fun j=>if j=6 then { slots:=[1,2,3,4,5],prom:=[(3,some 11,.sl zf)] } else { }
inductive Em where
 | h6 (i4:Int) (i5:Int) (z0:zu cpR) (z1:zu zbN) (z2:zu zbM)
abbrev zfV:Em→Nat×St
 | .h6 i4 i5 z0 z1 z2=>(6,⟨tm 38 [(1,AV.ptr 0 0),(2,AV.ptr 1 0),(3,AV.ptr 2 0),(4,AV.int .i64 i4),(5,AV.int .i64 i5)],[AO.box (bJ [] cpR z0),AO.box (bJ [] zbN z1),AO.box (bJ [3] zbM z2),AO.vec zf.sl z2.2.1]⟩)
def zhe (x0:Sem zh):Tr (Em ⊕ aj):=
 let a0:=(N0 (x0.1.1,x0.1.2.1,x0.1.2.2.1,x0.1.2.2.2.1,x0.1.2.2.2.2.1,zE x0.1.2.2.2.2.2),[],())
 Tr.br (decide ((↑(length x0.2):Int) > 200)) (Tr.to (Em.h6 201 0 (x0,()) ([],0,[],0,0,[],[],()) a0))
 (Tr.to (Em.h6 40 0 (x0,()) ([],0,[],0,0,[],[],()) a0))
def zhW:Em→Tr (Em ⊕ aj)
 | .h6 i4 i5 z0 z1 z2=>
  let a0:=(↑(length z0.1.2):Int)
  let a1:=[oz (getD z0.1.2 i5.toNat (zj zf.sl))]
  Tr.br (bif decide (i5 < a0) then decide (i5 < i4) else false)
  (Tr.chk (zI i5 (length z0.1.2))
   (Tr.chk (decide (z2.2.1.length+a1.length≤1073741824)) (Tr.to (Em.h6 i4 (IntKind.i64.wrap (i5+1)) z0 z1 (z2.1,z2.2.1++a1,())))))
  (Tr.re
   (AV.agg [AV.str z2.1.1,AV.sl zi z2.1.2.1,AV.int .i64 z2.1.2.2.1,AV.sl zg z2.1.2.2.2.1,AV.sl zq z2.1.2.2.2.2.1,AV.str (ze.op z2.1.2.2.2.2.2),AV.int .i64 (ze.v z2.1.2.2.2.2.2).1,AV.int .i64 (ze.v z2.1.2.2.2.2.2).2.1,AV.str (ze.v z2.1.2.2.2.2.2).2.2,AV.str (ze.s z2.1.2.2.2.2.2),AV.sl Sh.expr (ze.l z2.1.2.2.2.2.2),AV.vec 0])
   [AO.vec zf.sl z2.2.1])
def Fu (x0:Sem zh):=zW [zh] zhW 100000000 (zhe x0)
def WT (x0:Sem zh):=(Fu x0).isSome
def zdN (x0:Sem zh):=o1 (Fu x0)
def Y4:=FT [zh] [zh] fun x=>Fu x.1
theorem T6:FK 33 Y4:=bX.T1 (f:=Tryz.f33) (keep:=zdo) (e:=zfV)

abbrev zhJ:Nat→ah:=fun j=>if j=3 then { slots:=[1,2,3,4],prom:=[(3,some 7,bI)] } else if j=7 then { slots:=[1,2,3,5],prom:=[(3,some 15,aN)] } else { }
inductive R3 where
 | h3 (i4:Int) (z0:zu mi) (z1:zu eK) (z2:zu Kk)
 | h7 (i5:Int) (z0:zu mi) (z1:zu eK) (z2:zu Kl)
abbrev e8p:R3→Nat×St
 | .h3 i4 z0 z1 z2=>(3,⟨tm 103 [(1,AV.ptr 0 0),(2,AV.ptr 1 0),(3,AV.ptr 2 0),(4,AV.int .i64 i4)],[AO.box (bJ [] mi z0),AO.box (bJ [] eK z1),AO.box (bJ [3] Kk z2),AO.vec (Sh.str.pr Sh.str) z2.2.2.2.2.2.2.2.1]⟩)
 | .h7 i5 z0 z1 z2=>(7,⟨tm 103 [(1,AV.ptr 0 0),(2,AV.ptr 1 0),(3,AV.ptr 2 0),(5,AV.int .i64 i5)],[AO.box (bJ [] mi z0),AO.box (bJ [] eK z1),AO.box (bJ [3,4] Kl z2),AO.vec (Sh.str.pr Sh.str) z2.2.2.2.2.2.2.2.1,AO.vec (Sh.str.pr Sh.expr) z2.2.2.2.2.2.2.2.2.2.2.1]⟩)
def i8p (x0:Sem zm):Tr (R3 ⊕ aj):=
 Tr.chk (ef x0.1)
 (Tr.chk (ef x0.2.1)
  (Tr.chk (ef x0.2.2.1) (Tr.chk (ef x0.2.2.2.2.2.1) (Tr.chk (ef x0.2.2.2.2.2.2.2.2.2.2.2.2) (Tr.chk (mI x0.2.2.2.1) (Tr.chk (mI x0.2.2.2.2.2.2.1) (Tr.to (R3.h3 0 (x0,()) ([],[],[],[],[],0,0,[],[],[],0,0,[],[],[],()) (bu x0.1,bu x0.2.1,bu x0.2.2.1,fU x0.2.2.2.1,mJ x0.2.2.2.2.1,
  bu x0.2.2.2.2.2.1,fU x0.2.2.2.2.2.2.1,[],dX (zE x0.2.2.2.2.2.2.2.2.1),oz x0.2.2.2.2.2.2.2.2.2.1,dX (zE x0.2.2.2.2.2.2.2.2.2.2.2.1),bu x0.2.2.2.2.2.2.2.2.2.2.2.2,())))))))))
def QF:R3→Tr (R3 ⊕ aj)
 | .h3 i4 z0 z1 z2=>
  let a0:=(↑(length z0.1.2.2.2.2.2.2.2.1):Int)
  let a1:=zI i4 (length z0.1.2.2.2.2.2.2.2.1)
  let a2:=getD z0.1.2.2.2.2.2.2.2.1 i4.toNat (zj bI)
  let a3:=[(bu a2.1,bu a2.2)]
  Tr.br (bif decide (i4 < a0) then decide (i4 < 10) else false)
  (Tr.chk a1
   (Tr.chk (ef a2.1) (Tr.chk a1 (Tr.chk (ef a2.2) (Tr.chk (decide (z2.2.2.2.2.2.2.2.1.length+a3.length≤1073741824)) (Tr.to (R3.h3 (IntKind.i64.wrap (i4+1)) z0 z1 (z2.1,z2.2.1,z2.2.2.1,z2.2.2.2.1,z2.2.2.2.2.1,z2.2.2.2.2.2.1,z2.2.2.2.2.2.2.1,z2.2.2.2.2.2.2.2.1++a3,z2.2.2.2.2.2.2.2.2))))))))
  (Tr.to
   (R3.h7 0 z0 z1 (z2.1,z2.2.1,z2.2.2.1,z2.2.2.2.1,z2.2.2.2.2.1,z2.2.2.2.2.2.1,z2.2.2.2.2.2.2.1,z2.2.2.2.2.2.2.2.1,z2.2.2.2.2.2.2.2.2.1,z2.2.2.2.2.2.2.2.2.2.1,[],z2.2.2.2.2.2.2.2.2.2.2)))
 | .h7 i5 z0 z1 z2=>
  let a0:=(↑(length z0.1.2.2.2.2.2.2.2.2.2.2.1):Int)
  let a1:=zI i5 (length z0.1.2.2.2.2.2.2.2.2.2.2.1)
  let a2:=getD z0.1.2.2.2.2.2.2.2.2.2.2.1 i5.toNat (zj aN)
  let a3:=[(bu a2.1,zE (dX (zE a2.2)))]
  Tr.br (bif decide (i5 < a0) then decide (i5 < 10) else false)
  (Tr.chk a1
   (Tr.chk (ef a2.1) (Tr.chk a1 (Tr.chk (decide (z2.2.2.2.2.2.2.2.2.2.2.1.length+a3.length≤1073741824)) (Tr.to (R3.h7 (IntKind.i64.wrap (i5+1)) z0 z1 (z2.1,z2.2.1,z2.2.2.1,z2.2.2.2.1,z2.2.2.2.2.1,z2.2.2.2.2.2.1,z2.2.2.2.2.2.2.1,z2.2.2.2.2.2.2.2.1,z2.2.2.2.2.2.2.2.2.1,z2.2.2.2.2.2.2.2.2.2.1,z2.2.2.2.2.2.2.2.2.2.2.1++a3,z2.2.2.2.2.2.2.2.2.2.2.2)))))))
  (Tr.re
   (AV.agg [AV.str z2.1,AV.str z2.2.1,AV.str z2.2.2.1,AV.sl Sh.str z2.2.2.2.1,AV.sl zi z2.2.2.2.2.1,AV.str z2.2.2.2.2.2.1,AV.sl Sh.str z2.2.2.2.2.2.2.1,AV.vec 0,AV.str (ze.op z2.2.2.2.2.2.2.2.2.1),AV.int .i64 (ze.v z2.2.2.2.2.2.2.2.2.1).1,AV.int .i64 (ze.v z2.2.2.2.2.2.2.2.2.1).2.1,AV.str (ze.v z2.2.2.2.2.2.2.2.2.1).2.2,AV.str (ze.s z2.2.2.2.2.2.2.2.2.1),
   AV.sl Sh.expr (ze.l z2.2.2.2.2.2.2.2.2.1),AV.sl zf z2.2.2.2.2.2.2.2.2.2.1,AV.vec 1,AV.str (ze.op z2.2.2.2.2.2.2.2.2.2.2.2.1),AV.int .i64 (ze.v z2.2.2.2.2.2.2.2.2.2.2.2.1).1,AV.int .i64 (ze.v z2.2.2.2.2.2.2.2.2.2.2.2.1).2.1,AV.str (ze.v z2.2.2.2.2.2.2.2.2.2.2.2.1).2.2,AV.str (ze.s z2.2.2.2.2.2.2.2.2.2.2.2.1),
   AV.sl Sh.expr (ze.l z2.2.2.2.2.2.2.2.2.2.2.2.1),AV.str z2.2.2.2.2.2.2.2.2.2.2.2.2.1])
   [AO.vec (Sh.str.pr Sh.str) z2.2.2.2.2.2.2.2.1,AO.vec (Sh.str.pr Sh.expr) z2.2.2.2.2.2.2.2.2.2.2.1])
def vV (x0:Sem zm):=zW [zm] QF 100000000 (i8p x0)
def vU (x0:Sem zm):=(vV x0).isSome
def fg (x0:Sem zm):=o1 (vV x0)
def F8p:=FT [zm] [zm] fun x=>vV x.1
theorem RU:FK 10 F8p:=bX.T1 (f:=Tryz.f10) (keep:=zhJ) (e:=e8p)

def Sg:=fS.addL [(33,Y4),(10,F8p)]
theorem yB:zl Sg:=bX.addL <| fc T6 <| fc RU jf
end
noncomputable section

abbrev zhC:Nat→ah:=fun j=>if j=3 then { slots:=[0,3,4],prom:=[(3,none,zh)] } else { }
inductive Yc where
 | h3 (l0:List (Sem zh)) (i4:Int) (lh_0:List (Sem zh))
abbrev e7p:Yc→Nat×St
 | .h3 l0 i4 lh_0=>(3,⟨tm 24 [(0,AV.sl zh l0),(3,AV.vec 0),(4,AV.int .i64 i4)],[AO.vec zh lh_0]⟩)
def i7p (x0:Sem zh.sl):Tr (Yc ⊕ aj):=
 Tr.to (Yc.h3 x0 0 [])
def t7p:Yc→Tr (Yc ⊕ aj)
 | .h3 l0 i4 lh_0=>
  let a0:=l0.getD i4.toNat (zj zh)
  let a1:=((a0.1.1,a0.1.2.1,a0.1.2.2.1,a0.1.2.2.2.1,a0.1.2.2.2.2.1,zE a0.1.2.2.2.2.2),a0.2)
  let a2:=zdN a1
  let a3:=[((a2.1.1,a2.1.2.1,a2.1.2.2.1,a2.1.2.2.2.1,a2.1.2.2.2.2.1,zE a2.1.2.2.2.2.2),a2.2)]
  Tr.br (bif decide (i4 < (↑l0.length:Int)) then decide (i4 < 13) else false)
  (Tr.chk (zI i4 l0.length)
   (Tr.chk (WT a1) (Tr.chk (decide (lh_0.length+a3.length≤1073741824)) (Tr.to (Yc.h3 l0 (IntKind.i64.wrap (i4+1)) (lh_0++a3))))))
  (Tr.re (AV.vec 0)
   [AO.vec zh lh_0])
def WU (x0:Sem zh.sl):=zW [zh.sl] t7p 100000000 (i7p x0)
def F7p:=FT [zh.sl] [zh.sl] fun x=>WU x.1
theorem RT:FK 14 F7p:=yB.T1 (f:=Tryz.f14) (keep:=zhC) (e:=e7p)

def GR:=Sg.add 14 F7p
theorem nl:zl GR:=yB.add RT
end
noncomputable section
abbrev zK:List CP:=[.d (.sl zq),.d zg,.d .bool]

def zcU (x0:Sem (Sh.int IntKind.u8)):Tr (Empty ⊕ aj):=
 let a0:=bif decide (97≤x0) then decide (x0≤122) else false
 Tr.re (AV.bool (bif decide (65≤x0) then bif decide (x0≤90) then true else a0 else a0)) []
def rG (x0:Sem (Sh.int IntKind.u8)):=zW [Sh.bool] t0 100000000 (zcU x0)
def kL (x0:Sem (Sh.int IntKind.u8)):=(rG x0).isSome
def qe (x0:Sem (Sh.int IntKind.u8)):=o1 (rG x0)
def Rd:=FT [Sh.int IntKind.u8] [Sh.bool] fun x=>rG x.1
theorem OF:FK 177 Rd:=nl.T1 (f:=Tryz.f177) (keep:=k0) (e:=e0)

def zcW (x0:Sem (Sh.int IntKind.u8)):Tr (Empty ⊕ aj):=
 Tr.re (AV.bool (bif decide (48≤x0) then decide (x0≤57) else false)) []
def wy (x0:Sem (Sh.int IntKind.u8)):=zW [Sh.bool] t0 100000000 (zcW x0)
def f6 (x0:Sem (Sh.int IntKind.u8)):=(wy x0).isSome
def iT (x0:Sem (Sh.int IntKind.u8)):=o1 (wy x0)
def Rh:=FT [Sh.int IntKind.u8] [Sh.bool] fun x=>wy x.1
theorem OJ:FK 179 Rh:=nl.T1 (f:=Tryz.f179) (keep:=k0) (e:=e0)

abbrev Mb:Nat→ah:=fun _=>{ }
theorem W8:zA GR.P 113 Tryz.f113 2:=aQ (by kernel_rfl)
def Lw (y:zu zK) (x0:TS):Tr (Empty ⊕ aj):=
 let a0:=decide (y.2.1 < (↑(length y.1):Int))
 let a1:=zI y.2.1 (length y.1)
 let a2:=getD y.1 (toNat y.2.1) (zj zq)
 let a3:=a2.1==1
 let a4:=a2.1==4
 let a5:=a2.2==x0
 Tr.chk (bif a0 then a1&&bif a3 then a1 else a1&&bif a4 then a1 else true else true)
 (Tr.re (AV.bool (bif a0 then bif a3 then a5 else bif a4 then a5 else false else false)) (cg zK y))
theorem VO (y:zu zK) (x0:TS):rn GR 1 Mb Tryz.f113 [AV.ptr 0 0,zz Sh.str x0] (cg zK y)=(Lw y x0).map (lf Tryz.f113 e0):=by kernel_rfl
def Ny (y:zu zK) (x0:TS):Option (zw (List.map some [Sh.bool])×zu zK):=xN [Sh.bool] zK t0 100000000 (Lw y x0)
def ka (y:zu zK) (x0:TS):Bool:=(Ny y x0).isSome
def mW (y:zu zK) (x0:TS):(Sem Sh.bool)×zu zK:=(fun r:zw (List.map some [Sh.bool])×zu zK=>(r.1.1,r.2)) ((Ny y x0).getD (ck [Sh.bool],fR zK))
def QY:zF:=xx zK [Sh.str] [Sh.bool] zK (fun y x=>ka y x.1) fun y x=>(((mW y x.1).1,()),(mW y x.1).2)
theorem On:FK 113 QY:=qI (ps:=zK) (ks:=[Sh.str]) (outs:=[Sh.bool]) (keep:=Mb) (gas:=400) (n:=100000000) (e:=e0) (t:=t0) (i:=fun y x=>Lw y x.1) nl W8 (fun y x=>VO y x.1) (JN _ _ _ _ _) (fun _ _=>by kernel_rfl) (fun _ _=>by kernel_rfl)

def mz:=GR.addL [(177,Rd),(179,Rh),(113,QY)]
theorem gJ:zl mz:=nl.addL <| fc OF <| fc OJ <| fc On jf
end
noncomputable section

abbrev WB:=lz [(2,[1,3])]
inductive xS where
 | h2 (i3:Int) (z0:zu [CP.d zf])
abbrev zbU:xS→Nat×St
 | .h2 i3 z0=>(2,⟨tm 66 [(1,AV.ptr 0 0),(3,AV.int .i64 i3)],[AO.box (bJ [] [CP.d zf] z0)]⟩)
def zcK (x0:Sem zf):Tr (xS ⊕ aj):=
 Tr.to (xS.h2 0 (x0,()))
def zfg:xS→Tr (xS ⊕ aj)
 | .h2 i3 z0=>
  let a0:=(↑(length z0.1.2.2):Int)
  let a1:=zI i3 (length z0.1.2.2)
  let a2:=(↑(getD z0.1.2.2 i3.toNat 0).toNat:Int)
  let a3:=decide (a2 < 32)
  let a4:=z0.1.2.1==0
  let a5:=z0.1.2.2==[]
  Tr.br (decide (i3 < a0))
  (Tr.chk (a1&&bif a3 then true else a1)
   (Tr.br (bif a3 then true else decide (a2 > 126)) (Tr.re (AV.kb false) []) (Tr.to (xS.h2 (IntKind.i64.wrap (i3+1)) z0))))
  (Tr.br (z0.1.1==0) (Tr.re (AV.bool (bif a4 then a5 else false)) [])
   (Tr.br (z0.1.1==1) (Tr.re (AV.bool a5) []) (Tr.br (z0.1.1==2) (Tr.re (AV.bool (bif a4 then decide (a0≤40) else false)) []) (Tr.br (z0.1.1==3) (Tr.re (AV.bool (bif a4 then a5 else bif z0.1.2.1==1 then a5 else false)) []) (Tr.re (AV.kb false) [])))))
def FG (x0:Sem zf):=zW [Sh.bool] zfg 100000000 (zcK x0)
def wo (x0:Sem zf):=(FG x0).isSome
def DF (x0:Sem zf):=o1 (FG x0)
def QO:=FT [zf] [Sh.bool] fun x=>FG x.1
theorem Od:FK 121 QO:=gJ.T1 (f:=Tryz.f121) (keep:=WB) (e:=zbU)

def zcY (x0:Sem Sh.bool):Tr (Empty ⊕ aj):=
 Tr.br x0 (Tr.re (AV.agg [AV.int .i64 3,AV.int .i64 1,AV.str []]) []) (Tr.re (AV.agg [AV.int .i64 3,AV.int .i64 0,AV.str []]) [])
def wt (x0:Sem Sh.bool):=zW [zf] t0 100000000 (zcY x0)
def ws (x0:Sem Sh.bool):=(wt x0).isSome
def bG (x0:Sem Sh.bool):=o1 (wt x0)
def Rl:=FT [Sh.bool] [zf] fun x=>wt x.1
theorem ON:FK 188 Rl:=gJ.T1 (f:=Tryz.f188) (keep:=k0) (e:=e0)

abbrev Mg:Nat→ah:=fun _=>{ }
theorem Xg:zA mz.P 276 Tryz.f276 1:=aQ (by kernel_rfl)
def LG (x0:TS):Tr (Empty ⊕ aj):=
 Tr.re
 (AV.bool
  (bif x0==[97,110,100] then true
  else bif x0==[111,114] then true else bif x0==[61] then true else bif x0==[60] then true else bif x0==[43] then true else x0==[45]))
 []
theorem V0 (x0:TS):rn mz 0 Mg Tryz.f276 [zz Sh.str x0] []=(LG x0).map (lf Tryz.f276 e0):=by kernel_rfl
def Ni (x0:TS):Option (zw (List.map some [Sh.bool])):=zW [Sh.bool] t0 100000000 (LG x0)
def Nh (x0:TS):Bool:=(Ni x0).isSome
def S8 (x0:TS):Sem Sh.bool:=(fun r:zw (List.map some [Sh.bool])=>r.1) ((Ni x0).getD (ck [Sh.bool]))
def Rw:zF:=zG [Sh.str] [Sh.bool] (fun x=>Nh x.1) fun x=>(S8 x.1,())
theorem OX:FK 276 Rw:=ji (ks:=[Sh.str]) (outs:=[Sh.bool]) (keep:=Mg) (gas:=400) (n:=100000000) (e:=e0) (t:=t0) (i:=fun x=>LG x.1) gJ Xg (fun x=>V0 x.1) (JN _ _ _ _ _) (fun _=>by kernel_rfl) (fun _=>by kernel_rfl)

abbrev Mm:Nat→ah:=fun j=>if j=2 then { slots:=[0,1,5] } else { }
inductive Cj where
 | h2 (l0:LC) (s1:TS) (i5:Int)
abbrev KA:Cj→Nat×St
 | .h2 l0 s1 i5=>(2,⟨tm 20 [(0,AV.sl zi l0),(1,AV.str s1),(5,AV.int .i64 i5)],[]⟩)
theorem zea:zA mz.P 119 Tryz.f119 2:=aQ (by kernel_rfl)
def Wj (x0:Sem zi.sl) (x1:TS):Tr (Cj ⊕ aj):=
 Tr.to (Cj.h2 x0 x1 0)
def QD (l0:LC) (s1:TS) (i5:Int) (a0:Sem zi):Tr (Cj ⊕ aj):=
 Tr.br (decide (i5 < (↑l0.length:Int)))
 (Tr.chk (zI i5 l0.length) (Tr.br (a0.1==s1) (Tr.re (AV.int .i64 i5) []) (Tr.to (Cj.h2 l0 s1 (IntKind.i64.wrap (i5+1))))))
 (Tr.re (AV.int .i64 (-1)) [])
def X4 (l0:LC) (s1:TS) (i5:Int):Tr (Cj ⊕ aj):=
 let a0:=l0.getD i5.toNat (zj zi)
 QD l0 s1 i5 a0
theorem zcp (x0:Sem zi.sl) (x1:TS):rn mz 0 Mm Tryz.f119 [zz zi.sl x0,zz Sh.str x1] []=(Wj x0 x1).map (lf Tryz.f119 KA):=by kernel_rfl
def X3:Cj→Tr (Cj ⊕ aj)
 | .h2 l0 s1 i5=>X4 l0 s1 i5
theorem zeR:∀ s,run mz 0 Mm (Func.results Tryz.f119).toList 400 (zy Tryz.f119 (KA s).1) (KA s).2=(X3 s).map (lf Tryz.f119 KA)
 | .h2 l0 s1 i5=>by kernel_rfl
def DJ (x0:Sem zi.sl) (x1:TS):Option (zw (List.map some [zg])):=zW [zg] X3 100000000 (Wj x0 x1)
def Nk (x0:Sem zi.sl) (x1:TS):Bool:=(DJ x0 x1).isSome
def Qs (x0:Sem zi.sl) (x1:TS):Sem zg:=(fun r:zw (List.map some [zg])=>r.1) ((DJ x0 x1).getD (ck [zg]))
def Zn:zF:=zG [zi.sl,Sh.str] [zg] (fun x=>Nk x.1 x.2.1) fun x=>(Qs x.1 x.2.1,())
theorem Us:FK 119 Zn:=ji (ks:=[zi.sl,Sh.str]) (outs:=[zg]) (keep:=Mm) (gas:=400) (n:=100000000) (e:=KA) (t:=X3) (i:=fun x=>Wj x.1 x.2.1) gJ zea (fun x=>zcp x.1 x.2.1) zeR (fun _=>by kernel_rfl) (fun _=>by kernel_rfl)

def CS (g:Sem Sh.expr→Sem Sh.expr→Sem Sh.bool) (c:Sem Sh.expr→Sem Sh.expr→Bool):bt:=mz.add 103 (zG [Sh.expr,Sh.expr] [Sh.bool] (fun x=>c x.1 x.2.1) fun x=>(g x.1 x.2.1,()))
theorem IC {g:Sem Sh.expr→Sem Sh.expr→Sem Sh.bool} {c:Sem Sh.expr→Sem Sh.expr→Bool} (hg:FK 103 (zG [Sh.expr,Sh.expr] [Sh.bool] (fun x=>c x.1 x.2.1) fun x=>(g x.1 x.2.1,()))):zl (CS g c):=gJ.add hg
abbrev Mo:Nat→ah:=fun j=>if j=4 then { slots:=[2,3,5] } else { }
inductive Cl where
 | h4 (i5:Int) (z0:zu [CP.d Sh.expr]) (z1:zu [CP.d Sh.expr])
abbrev KE:Cl→Nat×St
 | .h4 i5 z0 z1=>(4,⟨tm 53 [(2,AV.ptr 0 0),(3,AV.ptr 1 0),(5,AV.int .i64 i5)],[AO.box (bJ [] [CP.d Sh.expr] z0),AO.box (bJ [] [CP.d Sh.expr] z1)]⟩)
theorem zex (g:Sem Sh.expr→Sem Sh.expr→Sem Sh.bool) (c:Sem Sh.expr→Sem Sh.expr→Bool):zA (CS g c).P 103 Tryz.f103 2:=aQ (by kernel_rfl)
def I0 (_:Sem Sh.expr→Sem Sh.expr→Sem Sh.bool) (_:Sem Sh.expr→Sem Sh.expr→Bool) (x0:Sem Sh.expr) (x1:Sem Sh.expr):Tr (Cl ⊕ aj):=
 Tr.br
 (bif !ze.op x0==ze.op x1 then true
 else
  bif !((ze.v x0).1==(ze.v x1).1&&((ze.v x0).2.1==(ze.v x1).2.1&&((ze.v x0).2.2==(ze.v x1).2.2&&true))) then true
  else bif !ze.s x0==ze.s x1 then true else (↑(ze.l x0).length:Int) != (↑(ze.l x1).length:Int))
 (Tr.re (AV.kb false) []) (Tr.to (Cl.h4 0 (x0,()) (x1,())))
def BX (g:Sem Sh.expr→Sem Sh.expr→Sem Sh.bool) (c:Sem Sh.expr→Sem Sh.expr→Bool) (i5:Int) (z0:zu [CP.d Sh.expr]) (z1:zu [CP.d Sh.expr]) (a0:Int) (a1:ze) (a2:ze):Tr (Cl ⊕ aj):=
 Tr.br (decide (i5 < a0))
 (Tr.chk (zI i5 (ze.l z0.1).length)
  (Tr.chk (zI i5 (ze.l z1.1).length) (Tr.chk (c a1 a2) (Tr.br (!g a1 a2) (Tr.re (AV.kb false) []) (Tr.to (Cl.h4 (IntKind.i64.wrap (i5+1)) z0 z1))))))
 (Tr.re (AV.kb true) [])
def Gf (g:Sem Sh.expr→Sem Sh.expr→Sem Sh.bool) (c:Sem Sh.expr→Sem Sh.expr→Bool) (i5:Int) (z0:zu [CP.d Sh.expr]) (z1:zu [CP.d Sh.expr]):Tr (Cl ⊕ aj):=
 let a0:=(↑(ze.l z0.1).length:Int)
 let a1:=zE ((ze.l z0.1).getD i5.toNat (zj Sh.expr))
 let a2:=zE ((ze.l z1.1).getD i5.toNat (zj Sh.expr))
 BX g c i5 z0 z1 a0 a1 a2
theorem zcz (g:Sem Sh.expr→Sem Sh.expr→Sem Sh.bool) (c:Sem Sh.expr→Sem Sh.expr→Bool) (x0:Sem Sh.expr) (x1:Sem Sh.expr):rn (CS g c) 0 Mo Tryz.f103 [zz Sh.expr x0,zz Sh.expr x1] []=(I0 g c x0 x1).map (lf Tryz.f103 KE):=by kernel_rfl
def Ea (g:Sem Sh.expr→Sem Sh.expr→Sem Sh.bool) (c:Sem Sh.expr→Sem Sh.expr→Bool):Cl→Tr (Cl ⊕ aj)
 | .h4 i5 z0 z1=>Gf g c i5 z0 z1
theorem zeZ (g:Sem Sh.expr→Sem Sh.expr→Sem Sh.bool) (c:Sem Sh.expr→Sem Sh.expr→Bool):∀ s,run (CS g c) 0 Mo (Func.results Tryz.f103).toList 400 (zy Tryz.f103 (KE s).1) (KE s).2=(Ea g c s).map (lf Tryz.f103 KE)
 | .h4 i5 z0 z1=>by kernel_rfl
def ft (o:Option (zw (List.map some [Sh.bool]))):Sem Sh.bool:=(fun r:zw (List.map some [Sh.bool])=>r.1) (o.getD (ck [Sh.bool]))
def HF (g:Sem Sh.expr→Sem Sh.expr→Sem Sh.bool) (c:Sem Sh.expr→Sem Sh.expr→Bool) (x0:Sem Sh.expr) (x1:Sem Sh.expr):Option (zw (List.map some [Sh.bool])):=zW [Sh.bool] (Ea g c) 3000000000 (I0 g c x0 x1)
def bH:Nat→Sem Sh.expr→Sem Sh.expr→Option (zw (List.map some [Sh.bool]))
 | 0=>fun _ _=>none
 | n+1=>HF (fun x0 x1=>ft (bH n x0 x1)) fun x0 x1=>(bH n x0 x1).isSome
theorem Ww:zA mz.P 103 Tryz.f103 2:=aQ (by kernel_rfl)
theorem Gr:∀ n,FK 103 (zG [Sh.expr,Sh.expr] [Sh.bool] (fun x=>(bH n x.1 x.2.1).isSome) fun x=>(ft (bH n x.1 x.2.1),()))
 | 0=>dv ⟨Tryz.f103,Ww.1,Ww.2.1,Ww.2.2.1⟩ (fun _=>rfl)
 | n+1=>ji (E:=CS (fun x0 x1=>ft (bH n x0 x1)) (fun x0 x1=>(bH n x0 x1).isSome)) (ks:=[Sh.expr,Sh.expr]) (outs:=[Sh.bool]) (keep:=Mo) (gas:=400) (n:=3000000000) (e:=KE) (t:=Ea (fun x0 x1=>ft (bH n x0 x1)) (fun x0 x1=>(bH n x0 x1).isSome)) (i:=fun x=>I0 (fun x0 x1=>ft (bH n x0 x1)) (fun x0 x1=>(bH n x0 x1).isSome) x.1 x.2.1) (IC (Gr n)) (zex _ _) (fun x=>zcz _ _ x.1 x.2.1) (zeZ _ _) (fun _=>by kernel_rfl) (fun _=>by kernel_rfl)
def Bs (x0:Sem Sh.expr) (x1:Sem Sh.expr):Option (zw (List.map some [Sh.bool])):=bH 16 x0 x1
def iP (x0:Sem Sh.expr) (x1:Sem Sh.expr):Bool:=(Bs x0 x1).isSome
def gM (x0:Sem Sh.expr) (x1:Sem Sh.expr):Sem Sh.bool:=ft (Bs x0 x1)
def ZG:zF:=zG [Sh.expr,Sh.expr] [Sh.bool] (fun x=>iP x.1 x.2.1) fun x=>(gM x.1 x.2.1,())
theorem UN:FK 103 ZG:=Gr 16

def uI (g:Sem Sh.expr→Sem zg) (c:Sem Sh.expr→Bool):bt:=mz.add 245 (zG [Sh.expr] [zg] (fun x=>c x.1) fun x=>(g x.1,()))
theorem EQ {g:Sem Sh.expr→Sem zg} {c:Sem Sh.expr→Bool} (hg:FK 245 (zG [Sh.expr] [zg] (fun x=>c x.1) fun x=>(g x.1,()))):zl (uI g c):=gJ.add hg
abbrev Fr:Nat→ah:=fun j=>if j=3 then { slots:=[1,3,4] } else { }
inductive rR where
 | h3 (i3:Int) (i4:Int) (z0:zu [CP.d Sh.expr])
abbrev CI:rR→Nat×St
 | .h3 i3 i4 z0=>(3,⟨tm 21 [(1,AV.ptr 0 0),(3,AV.int .i64 i3),(4,AV.int .i64 i4)],[AO.box (bJ [] [CP.d Sh.expr] z0)]⟩)
theorem Xf (g:Sem Sh.expr→Sem zg) (c:Sem Sh.expr→Bool):zA (uI g c).P 245 Tryz.f245 1:=aQ (by kernel_rfl)
def LB (_:Sem Sh.expr→Sem zg) (_:Sem Sh.expr→Bool) (x0:Sem Sh.expr):Tr (rR ⊕ aj):=
 Tr.to (rR.h3 1 0 (x0,()))
def NX (g:Sem Sh.expr→Sem zg) (c:Sem Sh.expr→Bool) (i3:Int) (i4:Int) (z0:zu [CP.d Sh.expr]) (a0:Int) (a1:ze):Tr (rR ⊕ aj):=
 Tr.br (decide (i4 < a0))
 (Tr.chk (zI i4 (ze.l z0.1).length) (Tr.chk (c a1) (Tr.to (rR.h3 (IntKind.i64.wrap (i3+g a1)) (IntKind.i64.wrap (i4+1)) z0))))
 (Tr.re (AV.int .i64 i3) [])
def QB (g:Sem Sh.expr→Sem zg) (c:Sem Sh.expr→Bool) (i3:Int) (i4:Int) (z0:zu [CP.d Sh.expr]):Tr (rR ⊕ aj):=
 let a0:=(↑(ze.l z0.1).length:Int)
 let a1:=zE ((ze.l z0.1).getD i4.toNat (zj Sh.expr))
 NX g c i3 i4 z0 a0 a1
theorem VX (g:Sem Sh.expr→Sem zg) (c:Sem Sh.expr→Bool) (x0:Sem Sh.expr):rn (uI g c) 0 Fr Tryz.f245 [zz Sh.expr x0] []=(LB g c x0).map (lf Tryz.f245 CI):=by kernel_rfl
def NW (g:Sem Sh.expr→Sem zg) (c:Sem Sh.expr→Bool):rR→Tr (rR ⊕ aj)
 | .h3 i3 i4 z0=>QB g c i3 i4 z0
theorem Xq (g:Sem Sh.expr→Sem zg) (c:Sem Sh.expr→Bool):∀ s,run (uI g c) 0 Fr (Func.results Tryz.f245).toList 400 (zy Tryz.f245 (CI s).1) (CI s).2=(NW g c s).map (lf Tryz.f245 CI)
 | .h3 i3 i4 z0=>by kernel_rfl
def kK (o:Option (zw (List.map some [zg]))):Sem zg:=(fun r:zw (List.map some [zg])=>r.1) (o.getD (ck [zg]))
def Ng (g:Sem Sh.expr→Sem zg) (c:Sem Sh.expr→Bool) (x0:Sem Sh.expr):Option (zw (List.map some [zg])):=zW [zg] (NW g c) 100000000 (LB g c x0)
def eG:Nat→Sem Sh.expr→Option (zw (List.map some [zg]))
 | 0=>fun _=>none
 | n+1=>Ng (fun x0=>kK (eG n x0)) fun x0=>(eG n x0).isSome
theorem L2:zA mz.P 245 Tryz.f245 1:=aQ (by kernel_rfl)
theorem Cg:∀ n,FK 245 (zG [Sh.expr] [zg] (fun x=>(eG n x.1).isSome) fun x=>(kK (eG n x.1),()))
 | 0=>dv ⟨Tryz.f245,L2.1,L2.2.1,L2.2.2.1⟩ (fun _=>rfl)
 | n+1=>ji (E:=uI (fun x0=>kK (eG n x0)) (fun x0=>(eG n x0).isSome)) (ks:=[Sh.expr]) (outs:=[zg]) (keep:=Fr) (gas:=400) (n:=100000000) (e:=CI) (t:=NW (fun x0=>kK (eG n x0)) (fun x0=>(eG n x0).isSome)) (i:=fun x=>LB (fun x0=>kK (eG n x0)) (fun x0=>(eG n x0).isSome) x.1) (EQ (Cg n)) (Xf _ _) (fun x=>VX _ _ x.1) (Xq _ _) (fun _=>by kernel_rfl) (fun _=>by kernel_rfl)
def DI (x0:Sem Sh.expr):Option (zw (List.map some [zg])):=eG 16 x0
def DH (x0:Sem Sh.expr):Bool:=(DI x0).isSome
def HK (x0:Sem Sh.expr):Sem zg:=kK (DI x0)
def Rk:zF:=zG [Sh.expr] [zg] (fun x=>DH x.1) fun x=>(HK x.1,())
theorem OM:FK 245 Rk:=Cg 16

def A1:=mz.addL [(121,QO),(188,Rl),(276,Rw),(119,Zn),(103,ZG),(245,Rk)]
theorem jo:zl A1:=gJ.addL <| fc Od <| fc ON <| fc OX <| fc Us <| fc UN <| fc OM jf
end
noncomputable section

def zcV (x0:Sem (Sh.int IntKind.u8)):Tr (Empty ⊕ aj):=
 Tr.chk (f6 x0&&bif iT x0 then true else kL x0) (Tr.re (AV.bool (bif iT x0 then true else bif qe x0 then true else x0==95)) [])
def Bv (x0:Sem (Sh.int IntKind.u8)):=zW [Sh.bool] t0 100000000 (zcV x0)
def tC (x0:Sem (Sh.int IntKind.u8)):=(Bv x0).isSome
def FR (x0:Sem (Sh.int IntKind.u8)):=o1 (Bv x0)
def Rf:=FT [Sh.int IntKind.u8] [Sh.bool] fun x=>Bv x.1
theorem OH:FK 178 Rf:=jo.T1 (f:=Tryz.f178) (keep:=k0) (e:=e0)

abbrev WK:=lz [(3,[0,3,4])]
inductive xU where
 | h3 (s0:TS) (l3:LS) (i4:Int)
abbrev zb1:xU→Nat×St
 | .h3 s0 l3 i4=>(3,⟨tm 18 [(0,AV.str s0),(3,AV.sl Sh.str l3),(4,AV.int .i64 i4)],[]⟩)
def zcT (x0:TS):Tr (xU ⊕ aj):=
 Tr.to
 (xU.h3 x0
  [[65,78,68],[79,82],[78,79,84],[73,83],[78,85,76,76],[84,82,85,69],[70,65,76,83,69],[67,82,69,65,84,69],[84,65,66,76,69],[75,69,89],[85,78,73,81,85,69],[82,69,70,69,82,69,78,67,69,83],[67,72,69,67,75],[68,82,79,80],[73,78,83,69,82,84],
  [73,78,84,79],[86,65,76,85,69,83],[85,80,68,65,84,69],[83,69,84],[87,72,69,82,69],[68,69,76,69,84,69],[70,82,79,77],[83,69,76,69,67,84],[71,82,65,78,84],[82,69,86,79,75,69],[82,69,65,68],[87,82,73,84,69],[79,78],[84,79],
  [77,73,71,82,65,84,69],[67,79,80,89],[74,79,73,78],[71,82,79,85,80],[66,89],[83,85,77],[73,78,84],[84,69,88,84],[66,79,79,76]]
  0)
def zfl:xU→Tr (xU ⊕ aj)
 | .h3 s0 l3 i4=>
  Tr.br (decide (i4 < (↑l3.length:Int)))
  (Tr.chk (zI i4 l3.length) (Tr.br (l3.getD i4.toNat (zj Sh.str)==s0) (Tr.re (AV.kb true) []) (Tr.to (xU.h3 s0 l3 (IntKind.i64.wrap (i4+1))))))
  (Tr.re (AV.kb false) [])
def FU (x0:TS):=zW [Sh.bool] zfl 100000000 (zcT x0)
def FS (x0:TS):=(FU x0).isSome
def Nn (x0:TS):=o1 (FU x0)
def Rb:=FT [Sh.str] [Sh.bool] fun x=>FU x.1
theorem OD:FK 181 Rb:=jo.T1 (f:=Tryz.f181) (keep:=WK) (e:=zb1)

abbrev L6:Nat→ah:=fun _=>{ }
theorem WZ:zA A1.P 106 Tryz.f106 2:=aQ (by kernel_rfl)
def Lq (y:zu zK) (x0:TS):Tr (Empty ⊕ aj):=
 let a0:=(y.1,y.2.1,y.2.2.1,())
 let a1:=mW a0 x0
 Tr.chk (ka a0 x0)
 (Tr.br a1.1 (Tr.re (AV.kb true) (cg zK (a1.2.1,IntKind.i64.wrap (a1.2.2.1+1),a1.2.2.2)))
  (Tr.re (AV.kb false) (cg zK a1.2)))
theorem VI (y:zu zK) (x0:TS):rn A1 1 L6 Tryz.f106 [AV.ptr 0 0,zz Sh.str x0] (cg zK y)=(Lq y x0).map (lf Tryz.f106 e0):=by kernel_rfl
def HP (y:zu zK) (x0:TS):Option (zw (List.map some [Sh.bool])×zu zK):=xN [Sh.bool] zK t0 100000000 (Lq y x0)
def aS (y:zu zK) (x0:TS):Bool:=(HP y x0).isSome
def bj (y:zu zK) (x0:TS):(Sem Sh.bool)×zu zK:=(fun r:zw (List.map some [Sh.bool])×zu zK=>(r.1.1,r.2)) ((HP y x0).getD (ck [Sh.bool],fR zK))
def QS:zF:=xx zK [Sh.str] [Sh.bool] zK (fun y x=>aS y x.1) fun y x=>(((bj y x.1).1,()),(bj y x.1).2)
theorem Oh:FK 106 QS:=qI (ps:=zK) (ks:=[Sh.str]) (outs:=[Sh.bool]) (keep:=L6) (gas:=400) (n:=100000000) (e:=e0) (t:=t0) (i:=fun y x=>Lq y x.1) jo WZ (fun y x=>VI y x.1) (JN _ _ _ _ _) (fun _ _=>by kernel_rfl) (fun _ _=>by kernel_rfl)

abbrev zdI:=lz [(6,[2,3,5]),(11,[2,3,6]),(16,[2,3,7]),(21,[2,3,8]),(26,[2,3,9]),(31,[2,3,10])]
inductive nZ where
 | h6 (i5:Int) (z0:zu mi) (z1:zu mi)
 | h11 (i6:Int) (z0:zu mi) (z1:zu mi)
 | h16 (i7:Int) (z0:zu mi) (z1:zu mi)
 | h21 (i8:Int) (z0:zu mi) (z1:zu mi)
 | h26 (i9:Int) (z0:zu mi) (z1:zu mi)
 | h31 (i10:Int) (z0:zu mi) (z1:zu mi)
abbrev zf6:nZ→Nat×St
 | .h6 i5 z0 z1=>(6,⟨tm 238 [(2,AV.ptr 0 0),(3,AV.ptr 1 0),(5,AV.int .i64 i5)],[AO.box (bJ [] mi z0),AO.box (bJ [] mi z1)]⟩)
 | .h11 i6 z0 z1=>(11,⟨tm 238 [(2,AV.ptr 0 0),(3,AV.ptr 1 0),(6,AV.int .i64 i6)],[AO.box (bJ [] mi z0),AO.box (bJ [] mi z1)]⟩)
 | .h16 i7 z0 z1=>(16,⟨tm 238 [(2,AV.ptr 0 0),(3,AV.ptr 1 0),(7,AV.int .i64 i7)],[AO.box (bJ [] mi z0),AO.box (bJ [] mi z1)]⟩)
 | .h21 i8 z0 z1=>(21,⟨tm 238 [(2,AV.ptr 0 0),(3,AV.ptr 1 0),(8,AV.int .i64 i8)],[AO.box (bJ [] mi z0),AO.box (bJ [] mi z1)]⟩)
 | .h26 i9 z0 z1=>(26,⟨tm 238 [(2,AV.ptr 0 0),(3,AV.ptr 1 0),(9,AV.int .i64 i9)],[AO.box (bJ [] mi z0),AO.box (bJ [] mi z1)]⟩)
 | .h31 i10 z0 z1=>(31,⟨tm 238 [(2,AV.ptr 0 0),(3,AV.ptr 1 0),(10,AV.int .i64 i10)],[AO.box (bJ [] mi z0),AO.box (bJ [] mi z1)]⟩)
def zho (x0:Sem zm) (x1:Sem zm):Tr (nZ ⊕ aj):=
 let a0 := !x0.1==x1.1
 let a1 := !x0.2.1==x1.2.1
 let a2 := !x0.2.2.1==x1.2.2.1
 let a3 := !x0.2.2.2.2.2.1==x1.2.2.2.2.2.1
 let a4 := !x0.2.2.2.2.2.2.2.2.2.2.2.2==x1.2.2.2.2.2.2.2.2.2.2.2.2
 let a5:=zE x0.2.2.2.2.2.2.2.2.1
 let a6:=zE x1.2.2.2.2.2.2.2.2.1
 let a7 := !gM a5 a6
 let a8:=zE x0.2.2.2.2.2.2.2.2.2.2.2.1
 let a9:=zE x1.2.2.2.2.2.2.2.2.2.2.2.1
 Tr.chk
 (bif a0 then true
 else bif a1 then true else bif a2 then true else bif a3 then true else bif a4 then true else iP a5 a6&&bif a7 then true else iP a8 a9)
 (Tr.br (bif a0 then true else bif a1 then true else bif a2 then true else bif a3 then true else bif a4 then true else bif a7 then true else !gM a8 a9)
  (Tr.re (AV.kb false) [])
  (Tr.br (bif (↑(length x0.2.2.2.1):Int) != (↑(length x1.2.2.2.1):Int) then true else bif (↑(length x0.2.2.2.2.1):Int) != (↑(length x1.2.2.2.2.1):Int) then true else bif (↑(length x0.2.2.2.2.2.2.1):Int) != (↑(length x1.2.2.2.2.2.2.1):Int) then true else bif (↑(length x0.2.2.2.2.2.2.2.1):Int) != (↑(length x1.2.2.2.2.2.2.2.1):Int) then true
  else bif (↑(length x0.2.2.2.2.2.2.2.2.2.1):Int) != (↑(length x1.2.2.2.2.2.2.2.2.2.1):Int) then true else (↑(length x0.2.2.2.2.2.2.2.2.2.2.1):Int) != (↑(length x1.2.2.2.2.2.2.2.2.2.2.1):Int)) (Tr.re (AV.kb false) []) (Tr.to (nZ.h6 0 (x0,()) (x1,())))))
def zhZ:nZ→Tr (nZ ⊕ aj)
 | .h6 i5 z0 z1=>
  let a0:=(↑(length z0.1.2.2.2.1):Int)
  Tr.br (decide (i5 < a0))
  (Tr.chk (zI i5 (length z0.1.2.2.2.1))
   (Tr.chk (zI i5 (length z1.1.2.2.2.1)) (Tr.br (!getD z0.1.2.2.2.1 i5.toNat (zj Sh.str)==getD z1.1.2.2.2.1 i5.toNat (zj Sh.str)) (Tr.re (AV.kb false) []) (Tr.to (nZ.h6 (IntKind.i64.wrap (i5+1)) z0 z1)))))
  (Tr.to (nZ.h11 0 z0 z1))
 | .h11 i6 z0 z1=>
  let a0:=(↑(length z0.1.2.2.2.2.1):Int)
  let a1:=getD z0.1.2.2.2.2.1 i6.toNat (zj zi)
  let a2:=getD z1.1.2.2.2.2.1 i6.toNat (zj zi)
  Tr.br (decide (i6 < a0))
  (Tr.chk (zI i6 (length z0.1.2.2.2.2.1))
   (Tr.chk (zI i6 (length z1.1.2.2.2.2.1)) (Tr.br (!(a1.1==a2.1&&(a1.2.1==a2.2.1&&(a1.2.2==a2.2.2&&true)))) (Tr.re (AV.kb false) []) (Tr.to (nZ.h11 (IntKind.i64.wrap (i6+1)) z0 z1)))))
  (Tr.to (nZ.h16 0 z0 z1))
 | .h16 i7 z0 z1=>
  let a0:=(↑(length z0.1.2.2.2.2.2.2.1):Int)
  Tr.br (decide (i7 < a0))
  (Tr.chk (zI i7 (length z0.1.2.2.2.2.2.2.1))
   (Tr.chk (zI i7 (length z1.1.2.2.2.2.2.2.1)) (Tr.br (!getD z0.1.2.2.2.2.2.2.1 i7.toNat (zj Sh.str)==getD z1.1.2.2.2.2.2.2.1 i7.toNat (zj Sh.str)) (Tr.re (AV.kb false) []) (Tr.to (nZ.h16 (IntKind.i64.wrap (i7+1)) z0 z1)))))
  (Tr.to (nZ.h21 0 z0 z1))
 | .h21 i8 z0 z1=>
  let a0:=(↑(length z0.1.2.2.2.2.2.2.2.1):Int)
  let a1:=getD z0.1.2.2.2.2.2.2.2.1 i8.toNat (zj bI)
  let a2:=getD z1.1.2.2.2.2.2.2.2.1 i8.toNat (zj bI)
  Tr.br (decide (i8 < a0))
  (Tr.chk (zI i8 (length z0.1.2.2.2.2.2.2.2.1))
   (Tr.chk (zI i8 (length z1.1.2.2.2.2.2.2.2.1)) (Tr.br (!(a1.1==a2.1&&(a1.2==a2.2&&true))) (Tr.re (AV.kb false) []) (Tr.to (nZ.h21 (IntKind.i64.wrap (i8+1)) z0 z1)))))
  (Tr.to (nZ.h26 0 z0 z1))
 | .h26 i9 z0 z1=>
  let a0:=(↑(length z0.1.2.2.2.2.2.2.2.2.2.1):Int)
  let a1:=getD z0.1.2.2.2.2.2.2.2.2.2.1 i9.toNat (zj zf)
  let a2:=getD z1.1.2.2.2.2.2.2.2.2.2.1 i9.toNat (zj zf)
  Tr.br (decide (i9 < a0))
  (Tr.chk (zI i9 (length z0.1.2.2.2.2.2.2.2.2.2.1))
   (Tr.chk (zI i9 (length z1.1.2.2.2.2.2.2.2.2.2.1)) (Tr.br (!(a1.1==a2.1&&(a1.2.1==a2.2.1&&(a1.2.2==a2.2.2&&true)))) (Tr.re (AV.kb false) []) (Tr.to (nZ.h26 (IntKind.i64.wrap (i9+1)) z0 z1)))))
  (Tr.to (nZ.h31 0 z0 z1))
 | .h31 i10 z0 z1=>
  let a0:=(↑(length z0.1.2.2.2.2.2.2.2.2.2.2.1):Int)
  let a1:=zI i10 (length z0.1.2.2.2.2.2.2.2.2.2.2.1)
  let a2:=zI i10 (length z1.1.2.2.2.2.2.2.2.2.2.2.1)
  let a3:=getD z0.1.2.2.2.2.2.2.2.2.2.2.1 i10.toNat (zj aN)
  let a4:=getD z1.1.2.2.2.2.2.2.2.2.2.2.1 i10.toNat (zj aN)
  let a5 := !a3.1==a4.1
  let a6:=zE a3.2
  let a7:=zE a4.2
  Tr.br (decide (i10 < a0))
  (Tr.chk (a1&&(a2&&bif a5 then true else a1&&(a2&&iP a6 a7)))
   (Tr.br (bif a5 then true else !gM a6 a7) (Tr.re (AV.kb false) []) (Tr.to (nZ.h31 (IntKind.i64.wrap (i10+1)) z0 z1))))
  (Tr.re (AV.kb true) [])
def Bz (x0:Sem zm) (x1:Sem zm):=zW [Sh.bool] zhZ 100000000 (zho x0 x1)
def Qu (x0:Sem zm) (x1:Sem zm):=(Bz x0 x1).isSome
def XP (x0:Sem zm) (x1:Sem zm):=o1 (Bz x0 x1)
def ZM:=FT [zm,zm] [Sh.bool] fun x=>Bz x.1 x.2.1
theorem UU:FK 184 ZM:=jo.T1 (f:=Tryz.f184) (keep:=zdI) (e:=zf6)

def yC:=A1.addL [(178,Rf),(181,Rb),(106,QS),(184,ZM)]
theorem np:zl yC:=jo.addL <| fc OH <| fc OD <| fc Oh <| fc UU jf
end
noncomputable section

abbrev WI:=lz [(2,[0,3])]
inductive tV where
 | h2 (s0:TS) (i3:Int)
abbrev zb0:tV→Nat×St
 | .h2 s0 i3=>(2,⟨tm 28 [(0,AV.str s0),(3,AV.int .i64 i3)],[]⟩)
def zcS (x0:TS):Tr (tV ⊕ aj):=
 Tr.to (tV.h2 x0 0)
def zfk:tV→Tr (tV ⊕ aj)
 | .h2 s0 i3=>
  let a0:=(↑(getD s0 i3.toNat 0).toNat:Int)
  let a1:=decide (1≤(↑(length s0):Int))
  let a2:=decide ((↑(length s0):Int)≤16)
  let a3:=(↑(getD s0 (toNat 0) 0).toNat:Int)
  Tr.br (decide (i3 < (↑(length s0):Int)))
  (Tr.chk (zI i3 (length s0)) (Tr.chk (tC a0) (Tr.br (!FR a0) (Tr.re (AV.kb false) []) (Tr.to (tV.h2 s0 (IntKind.i64.wrap (i3+1)))))))
  (Tr.chk (bif a1 then bif a2 then zI 0 (length s0)&&kL a3 else true else true)
   (Tr.re (AV.bool (bif a1 then bif a2 then qe a3 else false else false)) []))
def Bu (x0:TS):=zW [Sh.bool] zfk 100000000 (zcS x0)
def tz (x0:TS):=(Bu x0).isSome
def wx (x0:TS):=o1 (Bu x0)
def Q9:=FT [Sh.str] [Sh.bool] fun x=>Bu x.1
theorem OB:FK 185 Q9:=np.T1 (f:=Tryz.f185) (keep:=WI) (e:=zb0)

abbrev L7:Nat→ah:=fun _=>{ }
theorem W0:zA yC.P 108 Tryz.f108 2:=aQ (by kernel_rfl)
def Lr (y:zu zK) (x0:TS):Tr (Empty ⊕ aj):=
 let a0:=(y.1,y.2.1,y.2.2.1,())
 let a1:=bj a0 x0
 Tr.chk (aS a0 x0)
 (Tr.br (!a1.1) (Tr.re (AV.tup []) [AO.box [AV.sl zq a1.2.1,AV.int .i64 a1.2.2.1,AV.kb false]])
  (Tr.re (AV.tup []) (cg zK a1.2)))
theorem VJ (y:zu zK) (x0:TS):rn yC 1 L7 Tryz.f108 [AV.ptr 0 0,zz Sh.str x0] (cg zK y)=(Lr y x0).map (lf Tryz.f108 e0):=by kernel_rfl
def HN (y:zu zK) (x0:TS):Option (zw (List.map some [])×zu zK):=xN [] zK t0 100000000 (Lr y x0)
def zP (y:zu zK) (x0:TS):Bool:=(HN y x0).isSome
def zZ (y:zu zK) (x0:TS):zu zK:=(fun r:zw (List.map some [])×zu zK=>r.2) ((HN y x0).getD (ck [],fR zK))
def QT:zF:=xx zK [Sh.str] [] zK (fun y x=>zP y x.1) fun y x=>((),zZ y x.1)
theorem Oi:FK 108 QT:=qI (ps:=zK) (ks:=[Sh.str]) (outs:=[]) (keep:=L7) (gas:=400) (n:=100000000) (e:=e0) (t:=t0) (i:=fun y x=>Lr y x.1) np W0 (fun y x=>VJ y x.1) (JN _ _ _ _ _) (fun _ _=>by kernel_rfl) (fun _ _=>by kernel_rfl)

abbrev L8:Nat→ah:=fun _=>{ }
theorem W5:zA yC.P 109 Tryz.f109 1:=aQ (by kernel_rfl)
def Lt (y:zu zK):Tr (Empty ⊕ aj):=
 let a0:=decide (y.2.1 < (↑(length y.1):Int))
 let a1:=zI y.2.1 (length y.1)
 let a2:=getD y.1 (toNat y.2.1) (zj zq)
 let a3:=a2.1==1
 let a4:=IntKind.i64.wrap (y.2.1+1)
 let a5:=IntKind.i64.wrap (a4 - 1)
 let a6:=getD y.1 a5.toNat (zj zq)
 Tr.chk (bif a0 then a1&&bif a3 then a1&&FS a2.2 else true else true)
 (Tr.br (bif a0 then bif a3 then !Nn a2.2 else false else false)
  (Tr.chk (zI a5 (length y.1)) (Tr.re (AV.str a6.2) (cg zK (y.1,a4,y.2.2))))
  (Tr.re (AV.str []) [AO.box [AV.sl zq y.1,AV.int .i64 y.2.1,AV.kb false]]))
theorem VL (y:zu zK):rn yC 1 L8 Tryz.f109 [AV.ptr 0 0] (cg zK y)=(Lt y).map (lf Tryz.f109 e0):=by kernel_rfl
def HO (y:zu zK):Option (zw (List.map some [Sh.str])×zu zK):=xN [Sh.str] zK t0 100000000 (Lt y)
def ar (y:zu zK):Bool:=(HO y).isSome
def aO (y:zu zK):(Sem Sh.str)×zu zK:=(fun r:zw (List.map some [Sh.str])×zu zK=>(r.1.1,r.2)) ((HO y).getD (ck [Sh.str],fR zK))
def QV:zF:=xx zK [] [Sh.str] zK (fun y _=>ar y) fun y _=>(((aO y).1,()),(aO y).2)
theorem Ok:FK 109 QV:=qI (ps:=zK) (ks:=[]) (outs:=[Sh.str]) (keep:=L8) (gas:=400) (n:=100000000) (e:=e0) (t:=t0) (i:=fun y x=>Lt y) np W5 (fun y x=>VL y) (JN _ _ _ _ _) (fun _ _=>by kernel_rfl) (fun _ _=>by kernel_rfl)

def yD:=yC.addL [(185,Q9),(108,QT),(109,QV)]
theorem je:zl yD:=np.addL <| fc OB <| fc Oi <| fc Ok jf
end
noncomputable section

def zcM (x0:Sem zf):Tr (Empty ⊕ aj):=
 Tr.chk (wo x0)
 (Tr.br (DF x0) (Tr.re (AV.agg [AV.int .i64 x0.1,AV.int .i64 x0.2.1,AV.str x0.2.2]) [])
  (Tr.re (AV.agg [AV.int .i64 0,AV.int .i64 0,AV.str []]) []))
def Br (x0:Sem zf):=zW [zf] t0 100000000 (zcM x0)
def tp (x0:Sem zf):=(Br x0).isSome
def eX (x0:Sem zf):=o1 (Br x0)
def QQ:=FT [zf] [zf] fun x=>Br x.1
theorem Of:FK 124 QQ:=je.T1 (f:=Tryz.f124) (keep:=k0) (e:=e0)

def zcL (x0:Sem zf) (x1:Sem Sh.bool):Tr (Empty ⊕ aj):=
 Tr.chk (ws x1) (Tr.re (AV.bool (x0.1==(bG x1).1&&(x0.2.1==(bG x1).2.1&&(x0.2.2==(bG x1).2.2&&true)))) [])
def M9 (x0:Sem zf) (x1:Sem Sh.bool):=zW [Sh.bool] t0 100000000 (zcL x0 x1)
def mS (x0:Sem zf) (x1:Sem Sh.bool):=(M9 x0 x1).isSome
def p9 (x0:Sem zf) (x1:Sem Sh.bool):=o1 (M9 x0 x1)
def QP:=FT [zf,Sh.bool] [Sh.bool] fun x=>M9 x.1 x.2.1
theorem Oe:FK 122 QP:=je.T1 (f:=Tryz.f122) (keep:=k0) (e:=e0)

def AY (g:Sem Sh.expr→Sem zg→Sem Sh.bool) (c:Sem Sh.expr→Sem zg→Bool):bt:=yD.add 244 (zG [Sh.expr,zg] [Sh.bool] (fun x=>c x.1 x.2.1) fun x=>(g x.1 x.2.1,()))
theorem EP {g:Sem Sh.expr→Sem zg→Sem Sh.bool} {c:Sem Sh.expr→Sem zg→Bool} (hg:FK 244 (zG [Sh.expr,zg] [Sh.bool] (fun x=>c x.1 x.2.1) fun x=>(g x.1 x.2.1,()))):zl (AY g c):=je.add hg
abbrev Mf:Nat→ah:=fun _=>{ }
theorem Xe (g:Sem Sh.expr→Sem zg→Sem Sh.bool) (c:Sem Sh.expr→Sem zg→Bool):zA (AY g c).P 244 Tryz.f244 2:=aQ (by kernel_rfl)
def LA (g:Sem Sh.expr→Sem zg→Sem Sh.bool) (c:Sem Sh.expr→Sem zg→Bool) (x0:Sem Sh.expr) (x1:Sem zg):Tr (Empty ⊕ aj):=
 let a0:=(↑(ze.l x0).length:Int)==0
 let a1:=(ze.v x0).1==0&&((ze.v x0).2.1==0&&((ze.v x0).2.2==[]&&true))
 let a2:=(↑(ze.l x0).length:Int)==1
 let a3:=zI 0 (ze.l x0).length
 let a4:=zE ((ze.l x0).getD (toNat 0) (zj Sh.expr))
 let a5:=IntKind.i64.wrap (x1 - 1)
 let a6:=c a4 a5
 let a7:=g a4 a5
 let a8:=(↑(ze.l x0).length:Int)==2
 let a9:=zE ((ze.l x0).getD (toNat 1) (zj Sh.expr))
 Tr.br (x1==0) (Tr.re (AV.kb false) [])
 (Tr.br (ze.op x0==[108,105,116])
  (Tr.chk (wo (ze.v x0)) (Tr.re (AV.bool (bif DF (ze.v x0) then bif ze.s x0==[] then a0 else false else false)) []))
  (Tr.br (ze.op x0==[99,111,108]) (Tr.chk (bif a1 then tz (ze.s x0)&&bif wx (ze.s x0) then FS (ze.s x0) else true else true) (Tr.re (AV.bool (bif a1 then bif wx (ze.s x0) then bif !Nn (ze.s x0) then a0 else false else false else false)) [])) (Tr.br (bif ze.op x0==[110,111,116] then true else ze.op x0==[110,117,108,108])
  (Tr.chk (bif a1 then bif ze.s x0==[] then bif a2 then a3&&a6 else true else true else true) (Tr.re (AV.bool (bif a1 then bif ze.s x0==[] then bif a2 then a7 else false else false else false)) [])) (Tr.chk (Nh (ze.op x0)) (Tr.br (S8 (ze.op x0)) (Tr.chk
  (bif a1 then bif ze.s x0==[] then bif a8 then a3&&(a6&&bif a7 then zI 1 (ze.l x0).length&&c a9 a5 else true) else true else true else true) (Tr.re (AV.bool (bif a1 then bif ze.s x0==[] then bif a8 then bif a7 then g a9 a5 else false else false else false else false)) [])) (Tr.re (AV.kb false) []))))))
theorem VW (g:Sem Sh.expr→Sem zg→Sem Sh.bool) (c:Sem Sh.expr→Sem zg→Bool) (x0:Sem Sh.expr) (x1:Sem zg):rn (AY g c) 0 Mf Tryz.f244 [zz Sh.expr x0,zz zg x1] []=(LA g c x0 x1).map (lf Tryz.f244 e0):=by kernel_rfl
def qc (o:Option (zw (List.map some [Sh.bool]))):Sem Sh.bool:=(fun r:zw (List.map some [Sh.bool])=>r.1) (o.getD (ck [Sh.bool]))
def Qr (g:Sem Sh.expr→Sem zg→Sem Sh.bool) (c:Sem Sh.expr→Sem zg→Bool) (x0:Sem Sh.expr) (x1:Sem zg):Option (zw (List.map some [Sh.bool])):=zW [Sh.bool] t0 100000000 (LA g c x0 x1)
def iR:Nat→Sem Sh.expr→Sem zg→Option (zw (List.map some [Sh.bool]))
 | 0=>fun _ _=>none
 | n+1=>Qr (fun x0 x1=>qc (iR n x0 x1)) fun x0 x1=>(iR n x0 x1).isSome
theorem L1:zA yD.P 244 Tryz.f244 2:=aQ (by kernel_rfl)
theorem Cf:∀ n,FK 244 (zG [Sh.expr,zg] [Sh.bool] (fun x=>(iR n x.1 x.2.1).isSome) fun x=>(qc (iR n x.1 x.2.1),()))
 | 0=>dv ⟨Tryz.f244,L1.1,L1.2.1,L1.2.2.1⟩ (fun _=>rfl)
 | n+1=>ji (E:=AY (fun x0 x1=>qc (iR n x0 x1)) (fun x0 x1=>(iR n x0 x1).isSome)) (ks:=[Sh.expr,zg]) (outs:=[Sh.bool]) (keep:=Mf) (gas:=400) (n:=100000000) (e:=e0) (t:=t0) (i:=fun x=>LA (fun x0 x1=>qc (iR n x0 x1)) (fun x0 x1=>(iR n x0 x1).isSome) x.1 x.2.1) (EP (Cf n)) (Xe _ _) (fun x=>VW _ _ x.1 x.2.1) (JN _ _ _ _ _) (fun _=>by kernel_rfl) (fun _=>by kernel_rfl)
def HJ (x0:Sem Sh.expr) (x1:Sem zg):Option (zw (List.map some [Sh.bool])):=iR 16 x0 x1
def HI (x0:Sem Sh.expr) (x1:Sem zg):Bool:=(HJ x0 x1).isSome
def Nf (x0:Sem Sh.expr) (x1:Sem zg):Sem Sh.bool:=qc (HJ x0 x1)
def Rj:zF:=zG [Sh.expr,zg] [Sh.bool] (fun x=>HI x.1 x.2.1) fun x=>(Nf x.1 x.2.1,())
theorem OL:FK 244 Rj:=Cf 16

def CT (g:Sem Sh.expr→Sem (Sh.sl zi)→Sem zg×Sem zg) (c:Sem Sh.expr→Sem (Sh.sl zi)→Bool):bt:=yD.add 187 (zG [Sh.expr,Sh.sl zi] [zg,zg] (fun x=>c x.1 x.2.1) fun x=>((g x.1 x.2.1).1,(g x.1 x.2.1).2,()))
theorem ID {g:Sem Sh.expr→Sem (Sh.sl zi)→Sem zg×Sem zg} {c:Sem Sh.expr→Sem (Sh.sl zi)→Bool} (hg:FK 187 (zG [Sh.expr,Sh.sl zi] [zg,zg] (fun x=>c x.1 x.2.1) fun x=>((g x.1 x.2.1).1,(g x.1 x.2.1).2,()))):zl (CT g c):=je.add hg
abbrev Mp:Nat→ah:=fun j=>if j=5 then { slots:=[1,2,6] } else { }
inductive Ih where
 | h5 (l1:LC) (i6:Int) (z0:zu [CP.d Sh.expr])
abbrev KG:Ih→Nat×St
 | .h5 l1 i6 z0=>(5,⟨tm 116 [(1,AV.sl zi l1),(2,AV.ptr 0 0),(6,AV.int .i64 i6)],[AO.box (bJ [] [CP.d Sh.expr] z0)]⟩)
theorem zeD (g:Sem Sh.expr→Sem zi.sl→Sem zg×Sem zg) (c:Sem Sh.expr→Sem zi.sl→Bool):zA (CT g c).P 187 Tryz.f187 2:=aQ (by kernel_rfl)
def Wo (g:Sem Sh.expr→Sem zi.sl→Sem zg×Sem zg) (c:Sem Sh.expr→Sem zi.sl→Bool) (x0:Sem Sh.expr) (x1:Sem zi.sl):Tr (Ih ⊕ aj):=
 let a0:=zE ((ze.l x0).getD (toNat 0) (zj Sh.expr))
 let a1:=g a0 x1
 let a2:=zE ((ze.l x0).getD (toNat 1) (zj Sh.expr))
 let a3:=g a2 x1
 let a4:=ze.op x0==[110,117,108,108]
 let a5:=ze.op x0==[61]
 let a6:=a1.1 != 0
 let a7:=a3.1 != 0
 let a8:=ze.op x0==[60]
 let a9:=ze.op x0==[43]
 let a10:=a1.1 != 1
 let a11:=bif a7 then a3.1 != 1 else false
 let a12:=ze.op x0==[45]
 let a13:=a1.1 != 3
 let a14:=bif a7 then a3.1 != 3 else false
 let a15:=bif a6 then a10 else false
 let a16:=bif a6 then a13 else false
 Tr.br (ze.op x0==[108,105,116]) (Tr.re (AV.tup [AV.int .i64 (ze.v x0).1,AV.int .i64 0]) [])
 (Tr.br (ze.op x0==[99,111,108]) (Tr.to (Ih.h5 x1 0 (x0,())))
  (Tr.chk (zI 0 (ze.l x0).length) (Tr.chk (c a0 x1) (Tr.br (a1.2 != 0) (Tr.re (AV.tup [AV.int .i64 0,AV.int .i64 a1.2]) []) (Tr.br ((↑(ze.l x0).length:Int)==2) (Tr.chk (zI 1 (ze.l x0).length) (Tr.chk (c a2 x1) (Tr.br (a3.2 != 0) (Tr.re (AV.tup [AV.int .i64 0,AV.int .i64 a3.2]) []) (Tr.br a4 (Tr.re (AV.tup [AV.int .i64 3,AV.int .i64 0]) []) (Tr.br a5
  (Tr.br (bif a6 then bif a7 then a1.1 != a3.1 else false else false) (Tr.re (AV.tup [AV.int .i64 0,AV.int .i64 5]) []) (Tr.re (AV.tup [AV.int .i64 3,AV.int .i64 0]) [])) (Tr.br a8 (Tr.br (bif a6 then bif a7 then a1.1 != a3.1 else false else false) (Tr.re (AV.tup [AV.int .i64 0,AV.int .i64 5]) []) (Tr.re (AV.tup [AV.int .i64 3,AV.int .i64 0]) [])) (Tr.br a9
  (Tr.br (bif a6 then bif a10 then true else a11 else a11) (Tr.re (AV.tup [AV.int .i64 0,AV.int .i64 5]) []) (Tr.re (AV.tup [AV.int .i64 1,AV.int .i64 0]) [])) (Tr.br a12 (Tr.br (bif a6 then bif a10 then true else a11 else a11) (Tr.re (AV.tup [AV.int .i64 0,AV.int .i64 5]) []) (Tr.re (AV.tup [AV.int .i64 1,AV.int .i64 0]) []))
  (Tr.br (bif a6 then bif a13 then true else a14 else a14) (Tr.re (AV.tup [AV.int .i64 0,AV.int .i64 5]) []) (Tr.re (AV.tup [AV.int .i64 3,AV.int .i64 0]) [])))))))))) (Tr.br a4 (Tr.re (AV.tup [AV.int .i64 3,AV.int .i64 0]) []) (Tr.br a5 (Tr.br (bif a6 then bif a6 then a1.1 != a1.1 else false else false) (Tr.re (AV.tup [AV.int .i64 0,AV.int .i64 5]) [])
  (Tr.re (AV.tup [AV.int .i64 3,AV.int .i64 0]) [])) (Tr.br a8 (Tr.br (bif a6 then bif a6 then a1.1 != a1.1 else false else false) (Tr.re (AV.tup [AV.int .i64 0,AV.int .i64 5]) []) (Tr.re (AV.tup [AV.int .i64 3,AV.int .i64 0]) [])) (Tr.br a9 (Tr.br (bif a6 then bif a10 then true else a15 else a15) (Tr.re (AV.tup [AV.int .i64 0,AV.int .i64 5]) [])
  (Tr.re (AV.tup [AV.int .i64 1,AV.int .i64 0]) [])) (Tr.br a12 (Tr.br (bif a6 then bif a10 then true else a15 else a15) (Tr.re (AV.tup [AV.int .i64 0,AV.int .i64 5]) []) (Tr.re (AV.tup [AV.int .i64 1,AV.int .i64 0]) [])) (Tr.br (bif a6 then bif a13 then true else a16 else a16) (Tr.re (AV.tup [AV.int .i64 0,AV.int .i64 5]) []) (Tr.re (AV.tup [AV.int .i64 3,AV.int .i64 0]) []))))))))))))
theorem zcC (g:Sem Sh.expr→Sem zi.sl→Sem zg×Sem zg) (c:Sem Sh.expr→Sem zi.sl→Bool) (x0:Sem Sh.expr) (x1:Sem zi.sl):rn (CT g c) 0 Mp Tryz.f187 [zz Sh.expr x0,zz zi.sl x1] []=(Wo g c x0 x1).map (lf Tryz.f187 KG):=by kernel_rfl
def X5 (_:Sem Sh.expr→Sem zi.sl→Sem zg×Sem zg) (_:Sem Sh.expr→Sem zi.sl→Bool):Ih→Tr (Ih ⊕ aj)
 | .h5 l1 i6 z0=>
  let a0:=l1.getD i6.toNat (zj zi)
  Tr.br (decide (i6 < (↑l1.length:Int)))
  (Tr.chk (zI i6 l1.length)
   (Tr.br (a0.1==ze.s z0.1) (Tr.chk (zI i6 l1.length) (Tr.re (AV.tup [AV.int .i64 a0.2.1,AV.int .i64 0]) [])) (Tr.to (Ih.h5 l1 (IntKind.i64.wrap (i6+1)) z0))))
  (Tr.re (AV.tup [AV.int .i64 0,AV.int .i64 4]) [])
theorem ze1 (g:Sem Sh.expr→Sem zi.sl→Sem zg×Sem zg) (c:Sem Sh.expr→Sem zi.sl→Bool):∀ s,run (CT g c) 0 Mp (Func.results Tryz.f187).toList 400 (zy Tryz.f187 (KG s).1) (KG s).2=(X5 g c s).map (lf Tryz.f187 KG)
 | .h5 l1 i6 z0=>by kernel_rfl
def lB (o:Option (zw (List.map some [zg,zg]))):Sem zg×Sem zg:=(fun r:zw (List.map some [zg,zg])=>(r.1,r.2.1)) (o.getD (ck [zg,zg]))
def Qq (g:Sem Sh.expr→Sem zi.sl→Sem zg×Sem zg) (c:Sem Sh.expr→Sem zi.sl→Bool) (x0:Sem Sh.expr) (x1:Sem zi.sl):Option (zw (List.map some [zg,zg])):=zW [zg,zg] (X5 g c) 100000000 (Wo g c x0 x1)
def fu:Nat→Sem Sh.expr→Sem zi.sl→Option (zw (List.map some [zg,zg]))
 | 0=>fun _ _=>none
 | n+1=>Qq (fun x0 x1=>lB (fu n x0 x1)) fun x0 x1=>(fu n x0 x1).isSome
theorem Wx:zA yD.P 187 Tryz.f187 2:=aQ (by kernel_rfl)
theorem Gt:∀ n,FK 187 (zG [Sh.expr,zi.sl] [zg,zg] (fun x=>(fu n x.1 x.2.1).isSome) fun x=>((lB (fu n x.1 x.2.1)).1,(lB (fu n x.1 x.2.1)).2,()))
 | 0=>dv ⟨Tryz.f187,Wx.1,Wx.2.1,Wx.2.2.1⟩ (fun _=>rfl)
 | n+1=>ji (E:=CT (fun x0 x1=>lB (fu n x0 x1)) (fun x0 x1=>(fu n x0 x1).isSome)) (ks:=[Sh.expr,zi.sl]) (outs:=[zg,zg]) (keep:=Mp) (gas:=400) (n:=100000000) (e:=KG) (t:=X5 (fun x0 x1=>lB (fu n x0 x1)) (fun x0 x1=>(fu n x0 x1).isSome)) (i:=fun x=>Wo (fun x0 x1=>lB (fu n x0 x1)) (fun x0 x1=>(fu n x0 x1).isSome) x.1 x.2.1) (ID (Gt n)) (zeD _ _) (fun x=>zcC _ _ x.1 x.2.1) (ze1 _ _) (fun _=>by kernel_rfl) (fun _=>by kernel_rfl)
def HH (x0:Sem Sh.expr) (x1:Sem zi.sl):Option (zw (List.map some [zg,zg])):=fu 16 x0 x1
def Qp (x0:Sem Sh.expr) (x1:Sem zi.sl):Bool:=(HH x0 x1).isSome
def Nd (x0:Sem Sh.expr) (x1:Sem zi.sl):Sem zg×Sem zg:=lB (HH x0 x1)
def ZS:zF:=zG [Sh.expr,zi.sl] [zg,zg] (fun x=>Qp x.1 x.2.1) fun x=>((Nd x.1 x.2.1).1,(Nd x.1 x.2.1).2,())
theorem U3:FK 187 ZS:=Gt 16

abbrev zdt:=lz [(4,[2,3,5]),(9,[2,3,6]),(14,[2,3,7])]
inductive tX where
 | h4 (i5:Int) (z0:zu [CP.d zx]) (z1:zu [CP.d zx])
 | h9 (i6:Int) (z0:zu [CP.d zx]) (z1:zu [CP.d zx])
 | h14 (i7:Int) (z0:zu [CP.d zx]) (z1:zu [CP.d zx])
abbrev zfX:tX→Nat×St
 | .h4 i5 z0 z1=>(4,⟨tm 106 [(2,AV.ptr 0 0),(3,AV.ptr 1 0),(5,AV.int .i64 i5)],[AO.box (bJ [] [CP.d zx] z0),AO.box (bJ [] [CP.d zx] z1)]⟩)
 | .h9 i6 z0 z1=>(9,⟨tm 106 [(2,AV.ptr 0 0),(3,AV.ptr 1 0),(6,AV.int .i64 i6)],[AO.box (bJ [] [CP.d zx] z0),AO.box (bJ [] [CP.d zx] z1)]⟩)
 | .h14 i7 z0 z1=>(14,⟨tm 106 [(2,AV.ptr 0 0),(3,AV.ptr 1 0),(7,AV.int .i64 i7)],[AO.box (bJ [] [CP.d zx] z0),AO.box (bJ [] [CP.d zx] z1)]⟩)
def Wg (x0:Sem zx) (x1:Sem zx):Tr (tX ⊕ aj):=
 Tr.br
 (bif !x0.1==x1.1 then true
 else
  bif x0.2.2.1 != x1.2.2.1 then true
  else bif (↑(length x0.2.1):Int) != (↑(length x1.2.1):Int) then true else bif (↑(length x0.2.2.2.1):Int) != (↑(length x1.2.2.2.1):Int) then true else (↑(length x0.2.2.2.2.1):Int) != (↑(length x1.2.2.2.2.1):Int))
 (Tr.re (AV.kb false) []) (Tr.to (tX.h4 0 (x0,()) (x1,())))
def Ge:tX→Tr (tX ⊕ aj)
 | .h4 i5 z0 z1=>
  let a0:=(↑(length z0.1.2.1):Int)
  let a1:=getD z0.1.2.1 i5.toNat (zj zi)
  let a2:=getD z1.1.2.1 i5.toNat (zj zi)
  Tr.br (decide (i5 < a0))
  (Tr.chk (zI i5 (length z0.1.2.1))
   (Tr.chk (zI i5 (length z1.1.2.1)) (Tr.br (!(a1.1==a2.1&&(a1.2.1==a2.2.1&&(a1.2.2==a2.2.2&&true)))) (Tr.re (AV.kb false) []) (Tr.to (tX.h4 (IntKind.i64.wrap (i5+1)) z0 z1)))))
  (Tr.to (tX.h9 0 z0 z1))
 | .h9 i6 z0 z1=>
  let a0:=(↑(length z0.1.2.2.2.1):Int)
  Tr.br (decide (i6 < a0))
  (Tr.chk (zI i6 (length z0.1.2.2.2.1))
   (Tr.chk (zI i6 (length z1.1.2.2.2.1)) (Tr.br (getD z0.1.2.2.2.1 i6.toNat (zj zg) != getD z1.1.2.2.2.1 i6.toNat (zj zg)) (Tr.re (AV.kb false) []) (Tr.to (tX.h9 (IntKind.i64.wrap (i6+1)) z0 z1)))))
  (Tr.to (tX.h14 0 z0 z1))
 | .h14 i7 z0 z1=>
  let a0:=(↑(length z0.1.2.2.2.2.1):Int)
  let a1:=getD z0.1.2.2.2.2.1 i7.toNat (zj zq)
  let a2:=getD z1.1.2.2.2.2.1 i7.toNat (zj zq)
  let a3:=zE z0.1.2.2.2.2.2
  let a4:=zE z1.1.2.2.2.2.2
  Tr.br (decide (i7 < a0))
  (Tr.chk (zI i7 (length z0.1.2.2.2.2.1))
   (Tr.chk (zI i7 (length z1.1.2.2.2.2.1)) (Tr.br (!(a1.1==a2.1&&(a1.2==a2.2&&true))) (Tr.re (AV.kb false) []) (Tr.to (tX.h14 (IntKind.i64.wrap (i7+1)) z0 z1)))))
  (Tr.chk (iP a3 a4) (Tr.re (AV.bool (gM a3 a4)) []))
def qd (x0:Sem zx) (x1:Sem zx):=zW [Sh.bool] Ge 100000000 (Wg x0 x1)
def tr (x0:Sem zx) (x1:Sem zx):=(qd x0 x1).isSome
def lC (x0:Sem zx) (x1:Sem zx):=o1 (qd x0 x1)
def Tf:=FT [zx,zx] [Sh.bool] fun x=>qd x.1 x.2.1
theorem JX:FK 60 Tf:=je.T1 (f:=Tryz.f60) (keep:=zdt) (e:=zfX)

def KK:=yD.addL [(124,QQ),(122,QP),(244,Rj),(187,ZS),(60,Tf)]
theorem fy:zl KK:=je.addL <| fc Of <| fc Oe <| fc OL <| fc U3 <| fc JX jf
end
noncomputable section

def zhk (x0:Sem zf) (x1:Sem zf):Tr (Empty ⊕ aj):=
 let a0:=(eX x0).1==(eX x1).1
 let a1:=(eX x0).2.1==(eX x1).2.1
 Tr.chk (tp x0)
 (Tr.chk (tp x1)
  (Tr.br (a0&&(a1&&((eX x0).2.2==(eX x1).2.2&&true))) (Tr.re (AV.int .i64 0) []) (Tr.br (bif decide ((eX x0).1 < (eX x1).1) then true else bif a0 then bif decide ((eX x0).2.1 < (eX x1).2.1) then true else bif a1 then Op.bytesLess (eX x0).2.2 (eX x1).2.2 else false else false) (Tr.re (AV.int .i64 (-1)) []) (Tr.re (AV.int .i64 1) []))))
def Na (x0:Sem zf) (x1:Sem zf):=zW [zg] t0 100000000 (zhk x0 x1)
def Zz:=FT [zf,zf] [zg] fun x=>Na x.1 x.2.1
theorem UF:FK 67 Zz:=fy.T1 (f:=Tryz.f67) (keep:=k0) (e:=e0)

def zc3 (x0:Sem zf) (x1:Sem zf):Tr (Empty ⊕ aj):=
 Tr.chk (tp x0)
 (Tr.chk (tp x1)
  (Tr.re (AV.bool (bif (eX x0).1==0 then true else bif (eX x1).1==0 then true else (eX x0).1 != (eX x1).1)) []))
def Nb (x0:Sem zf) (x1:Sem zf):=zW [Sh.bool] t0 100000000 (zc3 x0 x1)
def Rx:=FT [zf,zf] [Sh.bool] fun x=>Nb x.1 x.2.1
theorem OY:FK 246 Rx:=fy.T1 (f:=Tryz.f246) (keep:=k0) (e:=e0)

def Sz (x0:Sem zf) (x1:Sem zf):Tr (Empty ⊕ aj):=
 Tr.chk (mS x0 false&&bif p9 x0 false then true else mS x1 false)
 (Tr.br (bif p9 x0 false then true else p9 x1 false)
  (Tr.chk true (Tr.re (AV.agg [AV.int .i64 (bG false).1,AV.int .i64 (bG false).2.1,AV.str (bG false).2.2]) []))
  (Tr.chk (mS x0 true&&bif p9 x0 true then mS x1 true else true) (Tr.br (bif p9 x0 true then p9 x1 true else false) (Tr.chk true (Tr.re (AV.agg [AV.int .i64 (bG true).1,AV.int .i64 (bG true).2.1,AV.str (bG true).2.2]) [])) (Tr.re (AV.agg [AV.int .i64 0,AV.int .i64 0,AV.str []]) []))))
def FF (x0:Sem zf) (x1:Sem zf):=zW [zf] t0 100000000 (Sz x0 x1)
def XM (x0:Sem zf) (x1:Sem zf):=(FF x0 x1).isSome
def ze8 (x0:Sem zf) (x1:Sem zf):=o1 (FF x0 x1)
def Rn:=FT [zf,zf] [zf] fun x=>FF x.1 x.2.1
theorem OP:FK 190 Rn:=fy.T1 (f:=Tryz.f190) (keep:=k0) (e:=e0)

def zc0 (x0:Sem zf) (x1:Sem zf):Tr (Empty ⊕ aj):=
 Tr.chk (mS x0 true&&bif p9 x0 true then true else mS x1 true)
 (Tr.br (bif p9 x0 true then true else p9 x1 true)
  (Tr.chk true (Tr.re (AV.agg [AV.int .i64 (bG true).1,AV.int .i64 (bG true).2.1,AV.str (bG true).2.2]) []))
  (Tr.chk (mS x0 false&&bif p9 x0 false then mS x1 false else true) (Tr.br (bif p9 x0 false then p9 x1 false else false) (Tr.chk true (Tr.re (AV.agg [AV.int .i64 (bG false).1,AV.int .i64 (bG false).2.1,AV.str (bG false).2.2]) [])) (Tr.re (AV.agg [AV.int .i64 0,AV.int .i64 0,AV.str []]) []))))
def ze9 (x0:Sem zf) (x1:Sem zf):=zW [zf] t0 100000000 (zc0 x0 x1)
def Ro:=FT [zf,zf] [zf] fun x=>ze9 x.1 x.2.1
theorem OQ:FK 191 Ro:=fy.T1 (f:=Tryz.f191) (keep:=k0) (e:=e0)

def zcZ (x0:Sem zf):Tr (Empty ⊕ aj):=
 Tr.chk (mS x0 true)
 (Tr.br (p9 x0 true)
  (Tr.chk true (Tr.re (AV.agg [AV.int .i64 (bG false).1,AV.int .i64 (bG false).2.1,AV.str (bG false).2.2]) []))
  (Tr.chk (mS x0 false) (Tr.br (p9 x0 false) (Tr.chk true (Tr.re (AV.agg [AV.int .i64 (bG true).1,AV.int .i64 (bG true).2.1,AV.str (bG true).2.2]) [])) (Tr.re (AV.agg [AV.int .i64 0,AV.int .i64 0,AV.str []]) []))))
def XO (x0:Sem zf):=zW [zf] t0 100000000 (zcZ x0)
def Rm:=FT [zf] [zf] fun x=>XO x.1
theorem OO:FK 189 Rm:=fy.T1 (f:=Tryz.f189) (keep:=k0) (e:=e0)

def zhq (x0:Sem Sh.expr):Tr (Empty ⊕ aj):=
 let a0:=Nf (zE x0) 12
 Tr.chk (HI (zE x0) 12&&bif a0 then DH (zE x0) else true) (Tr.re (AV.bool (bif a0 then decide (HK (zE x0)≤60) else false)) [])
def FI (x0:Sem Sh.expr):=zW [Sh.bool] t0 100000000 (zhq x0)
def FH (x0:Sem Sh.expr):=(FI x0).isSome
def Nc (x0:Sem Sh.expr):=o1 (FI x0)
def ZR:=FT [Sh.expr] [Sh.bool] fun x=>FI x.1
theorem UZ:FK 186 ZR:=fy.T1 (f:=Tryz.f186) (keep:=k0) (e:=e0)

def KL:=KK.addL [(67,Zz),(246,Rx),(190,Rn),(191,Ro),(189,Rm),(186,ZR)]
theorem uR:zl KL:=fy.addL <| fc UF <| fc OY <| fc OP <| fc OQ <| fc OO <| fc UZ <| jf
end
noncomputable section

abbrev WP:=lz [(2,[0,3])]
inductive xX where
 | h2 (i0:Sem zg) (s3:List UInt8)
abbrev zb4:xX→Nat×St
 | .h2 i0 s3=>(2,⟨tm 21 [(0,AV.int .i64 i0),(3,AV.str s3)],[]⟩)
def zc2 (x0:Sem zg):Tr (xX ⊕ aj):=
 Tr.to (xX.h2 x0 [])
def zfn:xX→Tr (xX ⊕ aj)
 | .h2 i0 s3=>
  let a0:=iy [IntKind.u8.wrap (IntKind.i64.wrap (48 - IntKind.i64.wrap (Int.tmod i0 10)))]
  Tr.br (bif decide (i0 < 0) then true else s3==[])
  (Tr.chk true (Tr.chk (decide (length a0+s3.length≤1099511627776)) (Tr.chk true (Tr.to (xX.h2 (IntKind.i64.wrap (Int.tdiv i0 10)) (a0++s3))))))
  (Tr.re (AV.str s3) [])
def rC (x0:Sem zg):=zW [Sh.str] zfn 100000000 (zc2 x0)
def Ad (x0:Sem zg):=(rC x0).isSome
def wu (x0:Sem zg):=o1 (rC x0)
def Ru:=FT [zg] [Sh.str] fun x=>rC x.1
theorem OW:FK 275 Ru:=uR.T1 (f:=Tryz.f275) (keep:=WP) (e:=zb4)

def KM:=KL.add 275 Ru
theorem uS:zl KM:=uR.add OW
end
noncomputable section

abbrev WG:=lz [(13,[1,3,4])]
inductive tT where
 | h13 (s3:List UInt8) (i4:Int) (z0:zu [CP.d zf])
abbrev zbY:tT→Nat×St
 | .h13 s3 i4 z0=>(13,⟨tm 54 [(1,AV.ptr 0 0),(3,AV.str s3),(4,AV.int .i64 i4)],[AO.box (bJ [] [CP.d zf] z0)]⟩)
def zcQ (x0:Sem zf):Tr (tT ⊕ aj):=
 let a0:=IntKind.i64.wrap (0 - x0.2.1)
 Tr.chk (wo x0)
 (Tr.br (!DF x0) (Tr.re (AV.str []) [])
  (Tr.br (x0.1==0) (Tr.re (AV.str [78,85,76,76]) []) (Tr.br (x0.1==1) (Tr.br (decide (x0.2.1 < 0)) (Tr.chk (Ad x0.2.1) (Tr.chk (decide ([45].length+length (wu x0.2.1)≤1099511627776)) (Tr.re (AV.str ([45]++wu x0.2.1)) []))) (Tr.chk (Ad a0) (Tr.re (AV.str (wu a0)) []))) (Tr.br (x0.1==2) (Tr.to (tT.h13 [39] 0 (x0,())))
  (Tr.br (x0.2.1==1) (Tr.re (AV.str [84,82,85,69]) []) (Tr.re (AV.str [70,65,76,83,69]) []))))))
def zfi:tT→Tr (tT ⊕ aj)
 | .h13 s3 i4 z0=>
  let a0:=(↑(length z0.1.2.2):Int)
  let a1:=IntKind.i64.wrap (i4+1)
  let a2:=List.take (a1.toNat - i4.toNat) (List.drop i4.toNat z0.1.2.2)
  let a3:=s3++a2
  Tr.br (decide (i4 < a0))
  (Tr.chk (decide (0≤i4)&&decide (i4≤a1)&&decide (a1≤a0))
   (Tr.chk (decide (s3.length+a2.length≤1099511627776)) (Tr.chk (zI i4 (length z0.1.2.2)) (Tr.br ((↑(getD z0.1.2.2 i4.toNat 0).toNat:Int)==39) (Tr.chk (decide (length a3+[39].length≤1099511627776)) (Tr.to (tT.h13 (a3++[39]) a1 z0))) (Tr.to (tT.h13 a3 a1 z0))))))
  (Tr.chk (decide (s3.length+[39].length≤1099511627776)) (Tr.re (AV.str (s3++[39])) []))
def Bq (x0:Sem zf):=zW [Sh.str] zfi 100000000 (zcQ x0)
def nF (x0:Sem zf):=(Bq x0).isSome
def rB (x0:Sem zf):=o1 (Bq x0)
def Q6:=FT [zf] [Sh.str] fun x=>Bq x.1
theorem Oy:FK 241 Q6:=uS.T1 (f:=Tryz.f241) (keep:=WG) (e:=zbY)

def A2:=KM.add 241 Q6
theorem uU:zl A2:=uS.add Oy
end
noncomputable section

def AX (g:Sem Sh.expr→Sem Sh.str) (c:Sem Sh.expr→Bool):bt:=A2.add 242 (zG [Sh.expr] [Sh.str] (fun x=>c x.1) fun x=>(g x.1,()))
theorem EO {g:Sem Sh.expr→Sem Sh.str} {c:Sem Sh.expr→Bool} (hg:FK 242 (zG [Sh.expr] [Sh.str] (fun x=>c x.1) fun x=>(g x.1,()))):zl (AX g c):=uU.add hg
abbrev Me:Nat→ah:=fun _=>{ }
theorem Xc (g:Sem Sh.expr→Sem Sh.str) (c:Sem Sh.expr→Bool):zA (AX g c).P 242 Tryz.f242 1:=aQ (by kernel_rfl)
def Lz (g:Sem Sh.expr→Sem Sh.str) (c:Sem Sh.expr→Bool) (x0:Sem Sh.expr):Tr (Empty ⊕ aj):=
 let a0:=zI 0 (ze.l x0).length
 let a1:=zE ((ze.l x0).getD (toNat 0) (zj Sh.expr))
 let a2:=c a1
 let a3:=g a1
 let a4:=[40,78,79,84,32]++a3
 let a5:=decide ([40].length+length a3≤1099511627776)
 let a6:=[40]++a3
 let a7:=zI 1 (ze.l x0).length
 let a8:=zE ((ze.l x0).getD (toNat 1) (zj Sh.expr))
 let a9:=c a8
 let a10:=a6++[32,65,78,68,32]
 let a11:=g a8
 let a12:=a10++a11
 let a13:=a6++[32,79,82,32]
 let a14:=a13++a11
 let a15:=a6++[32]
 let a16:=a15++ze.op x0
 let a17:=a16++[32]
 let a18:=a17++a11
 Tr.br (ze.op x0==[108,105,116]) (Tr.chk (nF (ze.v x0)) (Tr.re (AV.str (rB (ze.v x0))) []))
 (Tr.br (ze.op x0==[99,111,108]) (Tr.re (AV.str (ze.s x0)) [])
  (Tr.br (ze.op x0==[110,111,116]) (Tr.chk a0 (Tr.chk a2 (Tr.chk (decide ([40,78,79,84,32].length+length a3≤1099511627776)) (Tr.chk (decide (length a4+[41].length≤1099511627776)) (Tr.re (AV.str (a4++[41])) []))))) (Tr.br (ze.op x0==[110,117,108,108]) (Tr.chk a0 (Tr.chk a2 (Tr.chk a5
  (Tr.chk (decide (length a6+[32,73,83,32,78,85,76,76,41].length≤1099511627776)) (Tr.re (AV.str (a6++[32,73,83,32,78,85,76,76,41])) []))))) (Tr.br (ze.op x0==[97,110,100]) (Tr.chk a0 (Tr.chk a2 (Tr.chk a5 (Tr.chk (decide (length a6+[32,65,78,68,32].length≤1099511627776)) (Tr.chk a7 (Tr.chk a9
  (Tr.chk (decide (length a10+length a11≤1099511627776)) (Tr.chk (decide (length a12+[41].length≤1099511627776)) (Tr.re (AV.str (a12++[41])) []))))))))) (Tr.br (ze.op x0==[111,114]) (Tr.chk a0 (Tr.chk a2 (Tr.chk a5 (Tr.chk (decide (length a6+[32,79,82,32].length≤1099511627776)) (Tr.chk a7 (Tr.chk a9
  (Tr.chk (decide (length a13+length a11≤1099511627776)) (Tr.chk (decide (length a14+[41].length≤1099511627776)) (Tr.re (AV.str (a14++[41])) []))))))))) (Tr.chk a0 (Tr.chk a2 (Tr.chk a5 (Tr.chk (decide (length a6+[32].length≤1099511627776)) (Tr.chk (decide (length a15+length (ze.op x0)≤1099511627776))
  (Tr.chk (decide (length a16+[32].length≤1099511627776)) (Tr.chk a7 (Tr.chk a9 (Tr.chk (decide (length a17+length a11≤1099511627776)) (Tr.chk (decide (length a18+[41].length≤1099511627776)) (Tr.re (AV.str (a18++[41])) []))))))))))))))))
theorem VU (g:Sem Sh.expr→Sem Sh.str) (c:Sem Sh.expr→Bool) (x0:Sem Sh.expr):rn (AX g c) 0 Me Tryz.f242 [zz Sh.expr x0] []=(Lz g c x0).map (lf Tryz.f242 e0):=by kernel_rfl
def qb (o:Option (zw (List.map some [Sh.str]))):Sem Sh.str:=(fun r:zw (List.map some [Sh.str])=>r.1) (o.getD (ck [Sh.str]))
def Qo (g:Sem Sh.expr→Sem Sh.str) (c:Sem Sh.expr→Bool) (x0:Sem Sh.expr):Option (zw (List.map some [Sh.str])):=zW [Sh.str] t0 100000000 (Lz g c x0)
def iQ:Nat→Sem Sh.expr→Option (zw (List.map some [Sh.str]))
 | 0=>fun _=>none
 | n+1=>Qo (fun x0=>qb (iQ n x0)) fun x0=>(iQ n x0).isSome
theorem L0:zA A2.P 242 Tryz.f242 1:=aQ (by kernel_rfl)
theorem Ce:∀ n,FK 242 (zG [Sh.expr] [Sh.str] (fun x=>(iQ n x.1).isSome) fun x=>(qb (iQ n x.1),()))
 | 0=>dv ⟨Tryz.f242,L0.1,L0.2.1,L0.2.2.1⟩ (fun _=>rfl)
 | n+1=>ji (E:=AX (fun x0=>qb (iQ n x0)) (fun x0=>(iQ n x0).isSome)) (ks:=[Sh.expr]) (outs:=[Sh.str]) (keep:=Me) (gas:=400) (n:=100000000) (e:=e0) (t:=t0) (i:=fun x=>Lz (fun x0=>qb (iQ n x0)) (fun x0=>(iQ n x0).isSome) x.1) (EO (Ce n)) (Xc _ _) (fun x=>VU _ _ x.1) (JN _ _ _ _ _) (fun _=>by kernel_rfl) (fun _=>by kernel_rfl)
def HG (x0:Sem Sh.expr):Option (zw (List.map some [Sh.str])):=iQ 16 x0
def tq (x0:Sem Sh.expr):Bool:=(HG x0).isSome
def rD (x0:Sem Sh.expr):Sem Sh.str:=qb (HG x0)
def Q7:zF:=zG [Sh.expr] [Sh.str] (fun x=>tq x.1) fun x=>(rD x.1,())
theorem Oz:FK 242 Q7:=Ce 16

def A3:=A2.add 242 Q7
theorem ln:zl A3:=uU.add Oz
end
noncomputable section

abbrev WM:=lz [(6,[1,3])]
inductive xW where
 | h6 (i3:Int) (z0:zu [CP.d zq])
abbrev zb3:xW→Nat×St
 | .h6 i3 z0=>(6,⟨tm 82 [(1,AV.ptr 0 0),(3,AV.int .i64 i3)],[AO.box (bJ [] [CP.d zq] z0)]⟩)
def zcX (x0:Sem zq):Tr (xW ⊕ aj):=
 let a0:=(2,0,x0.2)
 Tr.br (x0.1==1) (Tr.chk (tz x0.2) (Tr.re (AV.bool (wx x0.2)) []))
 (Tr.br (x0.1==2) (Tr.to (xW.h6 0 (x0,())))
  (Tr.br (x0.1==3) (Tr.chk (wo a0) (Tr.re (AV.bool (DF a0)) [])) (Tr.br (x0.1==4) (Tr.re (AV.bool (bif x0.2==[40] then true else bif x0.2==[41] then true else bif x0.2==[44] then true else bif x0.2==[61] then true else bif x0.2==[60] then true else bif x0.2==[43] then true else bif x0.2==[45] then true else x0.2==[42])) []) (Tr.re (AV.kb false) []))))
def zfm:xW→Tr (xW ⊕ aj)
 | .h6 i3 z0=>
  let a0:=(↑(length z0.1.2):Int)
  let a1:=(↑(getD z0.1.2 i3.toNat 0).toNat:Int)
  Tr.br (decide (i3 < a0))
  (Tr.chk (zI i3 (length z0.1.2))
   (Tr.chk (f6 a1) (Tr.br (!iT a1) (Tr.re (AV.kb false) []) (Tr.to (xW.h6 (IntKind.i64.wrap (i3+1)) z0)))))
  (Tr.re (AV.bool (bif decide (1≤a0) then decide (a0≤19) else false)) [])
def FP (x0:Sem zq):=zW [Sh.bool] zfm 100000000 (zcX x0)
def mT (x0:Sem zq):=(FP x0).isSome
def sy (x0:Sem zq):=o1 (FP x0)
def Ri:=FT [zq] [Sh.bool] fun x=>FP x.1
theorem OK:FK 180 Ri:=ln.T1 (f:=Tryz.f180) (keep:=WM) (e:=zb3)

abbrev Ma:Nat→ah:=fun _=>{ }
theorem W7:zA A3.P 112 Tryz.f112 2:=aQ (by kernel_rfl)
def Lv (y:zu zK) (x0:TS):Tr (Empty ⊕ aj):=
 let a0:=(y.1,y.2.1,y.2.2.1,())
 let a1:=bj a0 x0
 Tr.chk (aS a0 x0)
 (Tr.br (!a1.1) (Tr.re (AV.agg [AV.str [],AV.int .i64 0,AV.int .i64 0,AV.str [],AV.str [],AV.nils]) (cg zK a1.2))
  (Tr.br (x0==[87,72,69,82,69]) Tr.err (Tr.chk (zP (a1.2.1,a1.2.2.1,a1.2.2.2.1,()) [40]) Tr.err)))
theorem VN (y:zu zK) (x0:TS):rn A3 1 Ma Tryz.f112 [AV.ptr 0 0,zz Sh.str x0] (cg zK y)=(Lv y x0).map (lf Tryz.f112 e0):=by kernel_rfl
def HM (y:zu zK) (x0:TS):Option (zw (List.map some [Sh.expr])×zu zK):=xN [Sh.expr] zK t0 100000000 (Lv y x0)
def cA (y:zu zK) (x0:TS):Bool:=(HM y x0).isSome
def dq (y:zu zK) (x0:TS):(Sem Sh.expr)×zu zK:=(fun r:zw (List.map some [Sh.expr])×zu zK=>(r.1.1,r.2)) ((HM y x0).getD (ck [Sh.expr],fR zK))
def QX:zF:=xx zK [Sh.str] [Sh.expr] zK (fun y x=>cA y x.1) fun y x=>(((dq y x.1).1,()),(dq y x.1).2)
theorem Om:FK 112 QX:=qI (ps:=zK) (ks:=[Sh.str]) (outs:=[Sh.expr]) (keep:=Ma) (gas:=400) (n:=100000000) (e:=e0) (t:=t0) (i:=fun y x=>Lv y x.1) ln W7 (fun y x=>VN y x.1) (JN _ _ _ _ _) (fun _ _=>by kernel_rfl) (fun _ _=>by kernel_rfl)

def zhn (x0:TS):Tr (Empty ⊕ aj):=
 Tr.chk (tz x0&&bif wx x0 then FS x0 else true) (Tr.re (AV.bool (bif wx x0 then !Nn x0 else false)) [])
def By (x0:TS):=zW [Sh.bool] t0 100000000 (zhn x0)
def eP (x0:TS):=(By x0).isSome
def gO (x0:TS):=o1 (By x0)
def ZK:=FT [Sh.str] [Sh.bool] fun x=>By x.1
theorem US:FK 118 ZK:=ln.T1 (f:=Tryz.f118) (keep:=k0) (e:=e0)

def Si:=A3.addL [(180,Ri),(112,QX),(118,ZK)]
theorem nq:zl Si:=ln.addL <| fc OK <| fc Om <| fc US jf
end
noncomputable section

abbrev zdJ:=lz [(3,[0,4,5]),(11,[0,4,5,6,7,8]),(15,[0,4,5,6,7,8]),(20,[0,4,5,8])]
inductive ex where
 | h3 (s0:TS) (i5:Int)
 | h11 (s0:TS) (i5:Int) (i6:Int) (i7:Int) (z0:zu [CP.d zq])
 | h15 (s0:TS) (i5:Int) (i6:Int) (i7:Int) (z0:zu [CP.d zq])
 | h20 (s0:TS) (i5:Int) (z0:zu [CP.d zq])
 | h3b (s0:TS) (i5:Int) (lh_0:LF)
 | h11b (s0:TS) (i5:Int) (i6:Int) (i7:Int) (z1:zu [CP.d zq]) (lh_0:LF)
 | h15b (s0:TS) (i5:Int) (i6:Int) (i7:Int) (z1:zu [CP.d zq]) (lh_0:LF)
 | h20b (s0:TS) (i5:Int) (z1:zu [CP.d zq]) (lh_0:LF)
abbrev zf7:ex→Nat×St
 | .h3 s0 i5=>(3,⟨tm 131 [(0,AV.str s0),(4,AV.nils),(5,AV.int .i64 i5)],[]⟩)
 | .h11 s0 i5 i6 i7 z0=>(11,⟨tm 131 [(0,AV.str s0),(4,AV.nils),(5,AV.int .i64 i5),(6,AV.int IntKind.u8 i6),(7,AV.int .i64 i7),(8,AV.ptr 0 0)],[AO.box (bJ [] [CP.d zq] z0)]⟩)
 | .h15 s0 i5 i6 i7 z0=>(15,⟨tm 131 [(0,AV.str s0),(4,AV.nils),(5,AV.int .i64 i5),(6,AV.int IntKind.u8 i6),(7,AV.int .i64 i7),(8,AV.ptr 0 0)],[AO.box (bJ [] [CP.d zq] z0)]⟩)
 | .h20 s0 i5 z0=>(20,⟨tm 131 [(0,AV.str s0),(4,AV.nils),(5,AV.int .i64 i5),(8,AV.ptr 0 0)],[AO.box (bJ [] [CP.d zq] z0)]⟩)
 | .h3b s0 i5 lh_0=>(3,⟨tm 131 [(0,AV.str s0),(4,AV.vec 0),(5,AV.int .i64 i5)],[AO.vec zq lh_0]⟩)
 | .h11b s0 i5 i6 i7 z1 lh_0=>(11,⟨tm 131 [(0,AV.str s0),(4,AV.vec 0),(5,AV.int .i64 i5),(6,AV.int IntKind.u8 i6),(7,AV.int .i64 i7),(8,AV.ptr 1 0)],[AO.vec zq lh_0,AO.box (bJ [] [CP.d zq] z1)]⟩)
 | .h15b s0 i5 i6 i7 z1 lh_0=>(15,⟨tm 131 [(0,AV.str s0),(4,AV.vec 0),(5,AV.int .i64 i5),(6,AV.int IntKind.u8 i6),(7,AV.int .i64 i7),(8,AV.ptr 1 0)],[AO.vec zq lh_0,AO.box (bJ [] [CP.d zq] z1)]⟩)
 | .h20b s0 i5 z1 lh_0=>(20,⟨tm 131 [(0,AV.str s0),(4,AV.vec 0),(5,AV.int .i64 i5),(8,AV.ptr 1 0)],[AO.vec zq lh_0,AO.box (bJ [] [CP.d zq] z1)]⟩)
def zhp (x0:TS):Tr (ex ⊕ aj):=
 Tr.to (ex.h3 x0 0)
def zh0:ex→Tr (ex ⊕ aj)
 | .h3 s0 i5=>
  let a0:=(↑(getD s0 i5.toNat 0).toNat:Int)
  let a1:=IntKind.i64.wrap (i5+1)
  let a2:=List.take (a1.toNat - i5.toNat) (List.drop i5.toNat s0)
  let a3:=((4,a2),())
  let a4:=(4,a2)
  let a5:=[a4]
  Tr.br (decide (i5 < (↑(length s0):Int)))
  (Tr.chk (zI i5 (length s0))
   (Tr.br (bif a0==32 then true else a0==10) (Tr.to (ex.h3 s0 a1)) (Tr.chk (decide (0≤i5)&&decide (i5≤a1)&&decide (a1≤(↑(length s0):Int))) (Tr.chk (kL a0) (Tr.br (qe a0) (Tr.to (ex.h11 s0 a1 a0 i5 a3)) (Tr.chk (f6 a0) (Tr.br (iT a0) (Tr.to (ex.h15 s0 a1 a0 i5 a3)) (Tr.br (a0==39) (Tr.to (ex.h20 s0 a1 ((3,[]),()))) (Tr.chk (mT a4)
   (Tr.br (!sy a4) (Tr.re (AV.tup [AV.nils,AV.kb false]) []) (Tr.chk (decide (a5.length≤1073741824)) (Tr.to (ex.h3b s0 a1 a5)))))))))))))
  (Tr.re (AV.tup [AV.nils,AV.bool true]) [])
 | .h11 s0 i5 i6 i7 z0=>
  let a0:=decide (i5 < (↑(length s0):Int))
  let a1:=(↑(getD s0 i5.toNat 0).toNat:Int)
  let a2:=List.take (i5.toNat - i7.toNat) (List.drop i7.toNat s0)
  let a3:=(1,a2)
  let a4:=[a3]
  Tr.chk (bif a0 then zI i5 (length s0)&&tC a1 else true)
  (Tr.br (bif a0 then FR a1 else false) (Tr.to (ex.h11 s0 (IntKind.i64.wrap (i5+1)) i6 i7 z0))
   (Tr.chk (decide (0≤i7)&&decide (i7≤i5)&&decide (i5≤(↑(length s0):Int))) (Tr.chk (f6 i6) (Tr.br (iT i6) (Tr.to (ex.h15 s0 i5 i6 i7 ((1,a2),()))) (Tr.br (i6==39) (Tr.to (ex.h20 s0 i5 ((3,[]),()))) (Tr.chk (mT a3) (Tr.br (!sy a3) (Tr.re (AV.tup [AV.nils,AV.kb false]) []) (Tr.chk (decide (a4.length≤1073741824)) (Tr.to (ex.h3b s0 i5 a4))))))))))
 | .h15 s0 i5 i6 i7 z0=>
  let a0:=decide (i5 < (↑(length s0):Int))
  let a1:=(↑(getD s0 i5.toNat 0).toNat:Int)
  let a2:=(2,List.take (i5.toNat - i7.toNat) (List.drop i7.toNat s0))
  let a3:=[a2]
  Tr.chk (bif a0 then zI i5 (length s0)&&f6 a1 else true)
  (Tr.br (bif a0 then iT a1 else false) (Tr.to (ex.h15 s0 (IntKind.i64.wrap (i5+1)) i6 i7 z0))
   (Tr.chk (decide (0≤i7)&&decide (i7≤i5)&&decide (i5≤(↑(length s0):Int))) (Tr.br (i6==39) (Tr.to (ex.h20 s0 i5 ((3,[]),()))) (Tr.chk (mT a2) (Tr.br (!sy a2) (Tr.re (AV.tup [AV.nils,AV.kb false]) []) (Tr.chk (decide (a3.length≤1073741824)) (Tr.to (ex.h3b s0 i5 a3))))))))
 | .h20 s0 i5 z0=>
  let a0:=decide (i5 < (↑(length s0):Int))
  let a1:=(↑(getD s0 i5.toNat 0).toNat:Int)
  let a2:=a1 != 39
  let a3:=IntKind.i64.wrap (i5+1)
  let a4:=decide (a3 < (↑(length s0):Int))
  let a5:=List.take (a3.toNat - i5.toNat) (List.drop i5.toNat s0)
  let a6:=((z0.1.1,z0.1.2++a5),())
  Tr.chk (bif a0 then zI i5 (length s0)&&bif a2 then true else bif a4 then zI a3 (length s0) else true else true)
  (Tr.br (bif a0 then bif a2 then true else bif a4 then (↑(getD s0 a3.toNat 0).toNat:Int)==39 else false else false)
   (Tr.chk (decide (0≤i5)&&decide (i5≤a3)&&decide (a3≤(↑(length s0):Int))) (Tr.chk (decide (length z0.1.2+a5.length≤1099511627776)) (Tr.chk (zI i5 (length s0)) (Tr.br (a1==39) (Tr.to (ex.h20 s0 (IntKind.i64.wrap (a3+1)) a6)) (Tr.to (ex.h20 s0 a3 a6))))))
   (Tr.br (decide (i5 ≥ (↑(length s0):Int))) (Tr.re (AV.tup [AV.nils,AV.kb false]) []) (Tr.chk (mT z0.1) (Tr.br (!sy z0.1) (Tr.re (AV.tup [AV.nils,AV.kb false]) []) (Tr.chk (decide ([z0.1].length≤1073741824)) (Tr.to (ex.h3b s0 a3 [z0.1])))))))
 | .h3b s0 i5 lh_0=>
  let a0:=(↑(getD s0 i5.toNat 0).toNat:Int)
  let a1:=IntKind.i64.wrap (i5+1)
  let a2:=List.take (a1.toNat - i5.toNat) (List.drop i5.toNat s0)
  let a3:=((4,a2),())
  let a4:=(4,a2)
  let a5:=[a4]
  Tr.br (decide (i5 < (↑(length s0):Int)))
  (Tr.chk (zI i5 (length s0))
   (Tr.br (bif a0==32 then true else a0==10) (Tr.to (ex.h3b s0 a1 lh_0)) (Tr.chk (decide (0≤i5)&&decide (i5≤a1)&&decide (a1≤(↑(length s0):Int))) (Tr.chk (kL a0) (Tr.br (qe a0) (Tr.to (ex.h11b s0 a1 a0 i5 a3 lh_0)) (Tr.chk (f6 a0) (Tr.br (iT a0) (Tr.to (ex.h15b s0 a1 a0 i5 a3 lh_0)) (Tr.br (a0==39) (Tr.to (ex.h20b s0 a1 ((3,[]),()) lh_0))
   (Tr.chk (mT a4) (Tr.br (!sy a4) (Tr.re (AV.tup [AV.nils,AV.kb false]) []) (Tr.chk (decide (lh_0.length+a5.length≤1073741824)) (Tr.to (ex.h3b s0 a1 (lh_0++a5))))))))))))))
  (Tr.re (AV.tup [AV.vec 0,AV.bool (decide ((↑lh_0.length:Int)≤400))]) [AO.vec zq lh_0])
 | .h11b s0 i5 i6 i7 z1 lh_0=>
  let a0:=decide (i5 < (↑(length s0):Int))
  let a1:=(↑(getD s0 i5.toNat 0).toNat:Int)
  let a2:=List.take (i5.toNat - i7.toNat) (List.drop i7.toNat s0)
  let a3:=(1,a2)
  let a4:=[a3]
  Tr.chk (bif a0 then zI i5 (length s0)&&tC a1 else true)
  (Tr.br (bif a0 then FR a1 else false) (Tr.to (ex.h11b s0 (IntKind.i64.wrap (i5+1)) i6 i7 z1 lh_0))
   (Tr.chk (decide (0≤i7)&&decide (i7≤i5)&&decide (i5≤(↑(length s0):Int))) (Tr.chk (f6 i6) (Tr.br (iT i6) (Tr.to (ex.h15b s0 i5 i6 i7 ((1,a2),()) lh_0)) (Tr.br (i6==39) (Tr.to (ex.h20b s0 i5 ((3,[]),()) lh_0)) (Tr.chk (mT a3) (Tr.br (!sy a3) (Tr.re (AV.tup [AV.nils,AV.kb false]) [])
   (Tr.chk (decide (lh_0.length+a4.length≤1073741824)) (Tr.to (ex.h3b s0 i5 (lh_0++a4)))))))))))
 | .h15b s0 i5 i6 i7 z1 lh_0=>
  let a0:=decide (i5 < (↑(length s0):Int))
  let a1:=(↑(getD s0 i5.toNat 0).toNat:Int)
  let a2:=(2,List.take (i5.toNat - i7.toNat) (List.drop i7.toNat s0))
  let a3:=[a2]
  Tr.chk (bif a0 then zI i5 (length s0)&&f6 a1 else true)
  (Tr.br (bif a0 then iT a1 else false) (Tr.to (ex.h15b s0 (IntKind.i64.wrap (i5+1)) i6 i7 z1 lh_0))
   (Tr.chk (decide (0≤i7)&&decide (i7≤i5)&&decide (i5≤(↑(length s0):Int))) (Tr.br (i6==39) (Tr.to (ex.h20b s0 i5 ((3,[]),()) lh_0)) (Tr.chk (mT a2) (Tr.br (!sy a2) (Tr.re (AV.tup [AV.nils,AV.kb false]) []) (Tr.chk (decide (lh_0.length+a3.length≤1073741824)) (Tr.to (ex.h3b s0 i5 (lh_0++a3)))))))))
 | .h20b s0 i5 z1 lh_0=>
  let a0:=decide (i5 < (↑(length s0):Int))
  let a1:=(↑(getD s0 i5.toNat 0).toNat:Int)
  let a2:=a1 != 39
  let a3:=IntKind.i64.wrap (i5+1)
  let a4:=decide (a3 < (↑(length s0):Int))
  let a5:=List.take (a3.toNat - i5.toNat) (List.drop i5.toNat s0)
  let a6:=((z1.1.1,z1.1.2++a5),())
  Tr.chk (bif a0 then zI i5 (length s0)&&bif a2 then true else bif a4 then zI a3 (length s0) else true else true)
  (Tr.br (bif a0 then bif a2 then true else bif a4 then (↑(getD s0 a3.toNat 0).toNat:Int)==39 else false else false)
   (Tr.chk (decide (0≤i5)&&decide (i5≤a3)&&decide (a3≤(↑(length s0):Int))) (Tr.chk (decide (length z1.1.2+a5.length≤1099511627776)) (Tr.chk (zI i5 (length s0)) (Tr.br (a1==39) (Tr.to (ex.h20b s0 (IntKind.i64.wrap (a3+1)) a6 lh_0)) (Tr.to (ex.h20b s0 a3 a6 lh_0))))))
   (Tr.br (decide (i5 ≥ (↑(length s0):Int))) (Tr.re (AV.tup [AV.nils,AV.kb false]) []) (Tr.chk (mT z1.1) (Tr.br (!sy z1.1) (Tr.re (AV.tup [AV.nils,AV.kb false]) []) (Tr.chk (decide (lh_0.length+[z1.1].length≤1073741824)) (Tr.to (ex.h3b s0 a3 (lh_0++[z1.1]))))))))
def FO (x0:TS):=zW [zq.sl,Sh.bool] zh0 100000000 (zhp x0)
def Nl (x0:TS):=(FO x0).isSome
def Ae (x0:TS):=o2 (FO x0)
def ZO:=FT [Sh.str] [zq.sl,Sh.bool] fun x=>FO x.1
theorem UW:FK 105 ZO:=nq.T1 (f:=Tryz.f105) (keep:=zdJ) (e:=zf7)

def zcO (x0:Sem Sh.expr) (x1:TS):Tr (Empty ⊕ aj):=
 let a0:=x1++[32,67,72,69,67,75,32,40,32]
 let a1:=a0++rD (zE x0)
 Tr.br (ze.op x0==[])
 (Tr.chk (iP (zE x0) (ze.mk [] (0,0,[]) [] [])) (Tr.re (AV.tup [AV.str [],AV.bool (gM (zE x0) (ze.mk [] (0,0,[]) [] []))]) []))
 (Tr.chk (FH (zE x0))
  (Tr.br (!Nc (zE x0)) (Tr.re (AV.tup [AV.str [],AV.kb false]) []) (Tr.br (x1==[87,72,69,82,69]) (Tr.chk (tq (zE x0)) (Tr.chk (decide ([32,87,72,69,82,69,32].length+length (rD (zE x0))≤1099511627776)) (Tr.re (AV.tup [AV.str ([32,87,72,69,82,69,32]++rD (zE x0)),AV.kb true]) [])))
  (Tr.chk (decide (length x1+[32,67,72,69,67,75,32,40,32].length≤1099511627776)) (Tr.chk (tq (zE x0)) (Tr.chk (decide (length a0+length (rD (zE x0))≤1099511627776)) (Tr.chk (decide (length a1+[32,41].length≤1099511627776)) (Tr.re (AV.tup [AV.str (a1++[32,41]),AV.kb true]) []))))))))
def BC (x0:Sem Sh.expr) (x1:TS):=zW [Sh.str,Sh.bool] t0 100000000 (zcO x0 x1)
def BB (x0:Sem Sh.expr) (x1:TS):=(BC x0 x1).isSome
def FW (x0:Sem Sh.expr) (x1:TS):=o2 (BC x0 x1)
def Q4:=FT [Sh.expr,Sh.str] [Sh.str,Sh.bool] fun x=>BC x.1 x.2.1
theorem Ow:FK 239 Q4:=nq.T1 (f:=Tryz.f239) (keep:=k0) (e:=e0)

abbrev WH:=lz [(3,[0,4,5])]
inductive tU where
 | h3 (l0:LS) (s4:List UInt8) (i5:Int)
abbrev zbZ:tU→Nat×St
 | .h3 l0 s4 i5=>(3,⟨tm 37 [(0,AV.sl Sh.str l0),(4,AV.str s4),(5,AV.int .i64 i5)],[]⟩)
def zcR (x0:Sem Sh.str.sl):Tr (tU ⊕ aj):=
 Tr.to (tU.h3 x0 [] 0)
def zfj:tU→Tr (tU ⊕ aj)
 | .h3 l0 s4 i5=>
  let a0:=l0.getD i5.toNat (zj Sh.str)
  let a1:=s4++[32,44,32]
  let a2:=IntKind.i64.wrap (i5+1)
  let a3:=decide (1≤(↑l0.length:Int))
  Tr.br (decide (i5 < (↑l0.length:Int)))
  (Tr.chk (zI i5 l0.length)
   (Tr.chk (eP a0) (Tr.br (!gO a0) (Tr.re (AV.tup [AV.str [],AV.kb false]) []) (Tr.br (decide (i5 > 0)) (Tr.chk (decide (s4.length+[32,44,32].length≤1099511627776)) (Tr.chk (zI i5 l0.length) (Tr.chk (decide (length a1+length a0≤1099511627776)) (Tr.to (tU.h3 l0 (a1++a0) a2)))))
   (Tr.chk (zI i5 l0.length) (Tr.chk (decide (s4.length+length a0≤1099511627776)) (Tr.to (tU.h3 l0 (s4++a0) a2))))))))
  (Tr.re (AV.tup [AV.str (bif a3 then s4 else s4),AV.bool (bif a3 then decide ((↑l0.length:Int)≤8) else false)]) [])
def wB (x0:Sem Sh.str.sl):=zW [Sh.str,Sh.bool] zfj 100000000 (zcR x0)
def Ns (x0:Sem Sh.str.sl):=(wB x0).isSome
def Qv (x0:Sem Sh.str.sl):=o2 (wB x0)
def Q8:=FT [Sh.str.sl] [Sh.str,Sh.bool] fun x=>wB x.1
theorem OA:FK 243 Q8:=nq.T1 (f:=Tryz.f243) (keep:=WH) (e:=zbZ)

def Sj:=Si.addL [(105,ZO),(239,Q4),(243,Q8)]
theorem yE:zl Sj:=nq.addL <| fc UW <| fc Ow <| fc OA jf
end
noncomputable section

abbrev WF:=lz [(4,[1,4,5,6]),(15,[1,4,5,8]),(20,[1,4,5,9])]
inductive ml where
 | h4 (b4:Bool) (s5:zo) (i6:Int) (z0:zu [CP.d zm])
 | h15 (b4:Bool) (s5:zo) (i8:Int) (z0:zu [CP.d zm])
 | h20 (b4:Bool) (s5:zo) (i9:Int) (z0:zu [CP.d zm])
abbrev zbX:ml→Nat×St
 | .h4 b4 s5 i6 z0=>(4,⟨tm 174 [(1,AV.ptr 0 0),(4,AV.bool b4),(5,AV.str s5),(6,AV.int .i64 i6)],[AO.box (bJ [] [CP.d zm] z0)]⟩)
 | .h15 b4 s5 i8 z0=>(15,⟨tm 174 [(1,AV.ptr 0 0),(4,AV.bool b4),(5,AV.str s5),(8,AV.int .i64 i8)],[AO.box (bJ [] [CP.d zm] z0)]⟩)
 | .h20 b4 s5 i9 z0=>(20,⟨tm 174 [(1,AV.ptr 0 0),(4,AV.bool b4),(5,AV.str s5),(9,AV.int .i64 i9)],[AO.box (bJ [] [CP.d zm] z0)]⟩)
def zcP (x0:Sem zm):Tr (ml ⊕ aj):=
 let a0:=[67,82,69,65,84,69,32,84,65,66,76,69,32]++x0.2.1
 let a1:=(↑(length x0.2.2.2.2.1):Int)
 let a2:=(↑(length x0.2.2.2.2.2.2.1):Int)
 let a3:=(↑(length x0.2.2.2.2.2.2.2.1):Int)
 Tr.chk (eP x0.2.2.2.2.2.1)
 (Tr.chk (decide ([67,82,69,65,84,69,32,84,65,66,76,69,32].length+length x0.2.1≤1099511627776))
  (Tr.chk (decide (length a0+[32,40,32].length≤1099511627776)) (Tr.to (ml.h4 (bif gO x0.2.2.2.2.2.1 then bif decide (1≤a1) then bif decide (a1≤8) then bif decide (a2≤8) then decide (a3≤8) else false else false else false else false) (a0++[32,40,32]) 0 (x0,())))))
def zfh:ml→Tr (ml ⊕ aj)
 | .h4 b4 s5 i6 z0=>
  let a0:=(↑(length z0.1.2.2.2.2.1):Int)
  let a1:=getD z0.1.2.2.2.2.1 i6.toNat (zj zi)
  let a2:=a1.1++[32]
  let a3:=[[],[73,78,84],[84,69,88,84],[66,79,79,76]].getD (toNat a1.2.1) (zj Sh.str)
  let a4:=a2++a3
  let a5:=s5++a4
  let a6:=a5++[32,78,79,84,32,78,85,76,76]
  let a7:=IntKind.i64.wrap (i6+1)
  let a8:=[75,69,89,32,40,32]++z0.1.2.2.2.2.2.1
  let a9:=a8++[32,41]
  Tr.br (decide (i6 < a0))
  (Tr.chk (zI i6 (length z0.1.2.2.2.2.1))
   (Tr.chk (eP a1.1) (Tr.br (bif !gO a1.1 then true else bif decide (a1.2.1 < 1) then true else decide (a1.2.1 > 3)) (Tr.re (AV.tup [AV.str [],AV.kb false]) []) (Tr.chk (decide (length a1.1+[32].length≤1099511627776)) (Tr.chk (zI a1.2.1 [[],[73,78,84],[84,69,88,84],[66,79,79,76]].length) (Tr.chk (decide (length a2+length a3≤1099511627776))
   (Tr.chk (decide (length s5+length a4≤1099511627776)) (Tr.br a1.2.2 (Tr.chk (decide (length a5+[32,78,79,84,32,78,85,76,76].length≤1099511627776)) (Tr.chk (decide (length a6+[32,44,32].length≤1099511627776)) (Tr.to (ml.h4 b4 (a6++[32,44,32]) a7 z0))))
   (Tr.chk (decide (length a5+[32,44,32].length≤1099511627776)) (Tr.to (ml.h4 b4 (a5++[32,44,32]) a7 z0)))))))))))
  (Tr.chk (decide ([75,69,89,32,40,32].length+length z0.1.2.2.2.2.2.1≤1099511627776))
   (Tr.chk (decide (length a8+[32,41].length≤1099511627776)) (Tr.chk (decide (length s5+length a9≤1099511627776)) (Tr.to (ml.h15 b4 (s5++a9) 0 z0)))))
 | .h15 b4 s5 i8 z0=>
  let a0:=(↑(length z0.1.2.2.2.2.2.2.1):Int)
  let a1:=zI i8 (length z0.1.2.2.2.2.2.2.1)
  let a2:=getD z0.1.2.2.2.2.2.2.1 i8.toNat (zj Sh.str)
  let a3:=[32,44,32,85,78,73,81,85,69,32,40,32]++a2
  let a4:=a3++[32,41]
  Tr.br (decide (i8 < a0))
  (Tr.chk (bif b4 then a1&&eP a2 else true)
   (Tr.chk a1 (Tr.chk (decide ([32,44,32,85,78,73,81,85,69,32,40,32].length+length a2≤1099511627776)) (Tr.chk (decide (length a3+[32,41].length≤1099511627776)) (Tr.chk (decide (length s5+length a4≤1099511627776)) (Tr.to (ml.h15 (bif b4 then gO a2 else false) (s5++a4) (IntKind.i64.wrap (i8+1)) z0)))))))
  (Tr.to (ml.h20 b4 s5 0 z0))
 | .h20 b4 s5 i9 z0=>
  let a0:=(↑(length z0.1.2.2.2.2.2.2.2.1):Int)
  let a1:=zI i9 (length z0.1.2.2.2.2.2.2.2.1)
  let a2:=getD z0.1.2.2.2.2.2.2.2.1 i9.toNat (zj bI)
  let a3:=gO a2.1
  let a4:=[32,44,32,82,69,70,69,82,69,78,67,69,83,32,40,32]++a2.1
  let a5:=a4++[32,41,32]
  let a6:=a5++a2.2
  let a7:=zE z0.1.2.2.2.2.2.2.2.2.1
  let a8:=FW a7 [32,44]
  let a9:=s5++a8.1
  let a10:=a9++[32,41]
  Tr.br (decide (i9 < a0))
  (Tr.chk (bif b4 then a1&&(eP a2.1&&bif a3 then a1&&eP a2.2 else true) else true)
   (Tr.chk a1 (Tr.chk (decide ([32,44,32,82,69,70,69,82,69,78,67,69,83,32,40,32].length+length a2.1≤1099511627776)) (Tr.chk (decide (length a4+[32,41,32].length≤1099511627776)) (Tr.chk a1 (Tr.chk (decide (length a5+length a2.2≤1099511627776)) (Tr.chk (decide (length s5+length a6≤1099511627776))
   (Tr.to (ml.h20 (bif b4 then bif a3 then gO a2.2 else false else false) (s5++a6) (IntKind.i64.wrap (i9+1)) z0)))))))))
  (Tr.chk (BB a7 [32,44])
   (Tr.chk (decide (length s5+length a8.1≤1099511627776)&&decide (length a9+[32,41].length≤1099511627776)) (Tr.re (AV.tup [AV.str (bif b4 then a10 else a10),AV.bool (bif b4 then a8.2 else false)]) [])))
def rE (x0:Sem zm):=zW [Sh.str,Sh.bool] zfh 100000000 (zcP x0)
def Jl (x0:Sem zm):=(rE x0).isSome
def Nj (x0:Sem zm):=o2 (rE x0)
def Q5:=FT [zm] [Sh.str,Sh.bool] fun x=>rE x.1
theorem Ox:FK 240 Q5:=yE.T1 (f:=Tryz.f240) (keep:=WF) (e:=zbX)

def KN:=Sj.addL [(240,Q5)]
theorem uT:zl KN:=yE.addL <| fc Ox <| jf
end
end Cad
