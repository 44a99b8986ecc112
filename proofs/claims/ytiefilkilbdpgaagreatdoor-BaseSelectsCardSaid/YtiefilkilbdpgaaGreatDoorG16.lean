/- The document's reader: expressions. The document's reader: expressions, values. Functions on two variables to which pointers lead. The document's reader: values. The document's reader: CREATE. The document's reader: MIGRATE. The document's parser. Statements of texts. Rows: the sorter. Rows: the sorter compares. Rows: insertion sort. Rows: insertion sort: its contract. Rows: ranges change places. Rows: blocks change places. Rows: merged. Rows: stable sort. Rows: slices.SortStableFunc. Copies of tables with rows. -/
import Derived.Test.YtiefilkilbdpgaaGreatDoorG15
import Derived.Test.YtiefilkilbdpgaaGreatDoorG12
import Derived.Test.YtiefilkilbdpgaaGreatDoorG13
namespace Cad
open Go Go.Proofs
open List (getD)
open List (length)
noncomputable section
set_option maxHeartbeats 4000000

def sg (g:Sem zr.sl→Sem zg→Sem zg→Sem Sh.expr×Sem zg) (c:Sem zr.sl→Sem zg→Sem zg→Bool):ba:=Du.add 238 (zA [zr.sl,zg,zg] [Sh.expr,zg] (fun x=>c x.1 x.2.1 x.2.2.1) fun x=>((g x.1 x.2.1 x.2.2.1).1,(g x.1 x.2.1 x.2.2.1).2,()))
theorem BW {g:Sem zr.sl→Sem zg→Sem zg→Sem Sh.expr×Sem zg} {c:Sem zr.sl→Sem zg→Sem zg→Bool} (hg:FK 238 (zA [zr.sl,zg,zg] [Sh.expr,zg] (fun x=>c x.1 x.2.1 x.2.2.1) fun x=>((g x.1 x.2.1 x.2.2.1).1,(g x.1 x.2.1 x.2.2.1).2,()))):zm (sg g c):=wd.add hg
abbrev Cq:=my [(22,[0,2,6,15,16])]
inductive iW where
 | h22 (l0:List (Sem zr)) (i2:Sem zg) (i16:Sem zg) (z1:zu [CP.d Sh.expr]) (ja0:List UInt8) (ja1:Int) (ja2:Int) (ja3:List UInt8) (ja4:List UInt8)
abbrev Af:iW→Nat×St
 | .h22 l0 i2 i16 z1 ja0 ja1 ja2 ja3 ja4=>(22,⟨tm 157 [(0,AV.sl zr l0),(2,AV.int .i64 i2),(6,AV.ptr 0 0),(15,AV.ptr 1 0),(16,AV.int .i64 i16)],[AO.box [AV.str ja0,AV.int .i64 ja1,AV.int .i64 ja2,AV.str ja3,AV.str ja4,AV.nils],AO.box (bn [] [CP.d Sh.expr] z1)]⟩)
theorem RU (g:Sem zr.sl→Sem zg→Sem zg→Sem Sh.expr×Sem zg) (c:Sem zr.sl→Sem zg→Sem zg→Bool):zz (sg g c).P 238 Tryz.f238 3:=aG (by kernel_rfl)
def Hp (g:Sem zr.sl→Sem zg→Sem zg→Sem Sh.expr×Sem zg) (c:Sem zr.sl→Sem zg→Sem zg→Bool) (x0:Sem zr.sl) (x1:Sem zg) (x2:Sem zg):Tr (iW ⊕ au):=
 let a0:=IntKind.i64.wrap (x1+1)
 let a1:=g x0 a0 2
 let a2:=g x0 x1 3
 let a3:=oe x0 a2.2 [61]
 let a4:=IntKind.i64.wrap (a2.2+1)
 let a5:=getD x0 (Int.toNat a2.2) (zj zr)
 let a6:=zC a2.1
 let a7:=g x0 a4 3
 let a8:=IntKind.i64.wrap (x2+1)
 let a9:=g x0 x1 a8
 Tr.br (decide (x1 < 0))
 (Tr.re (AV.tup [AV.agg [AV.str [],AV.int .i64 0,AV.int .i64 0,AV.str [],AV.str [],AV.nils],AV.int .i64 (-1)]) [])
 (Tr.br (x2==4)
  (Tr.chk (L8 x0 x1) (Tr.re (AV.tup [AV.agg [AV.str (ze.op (nb x0 x1).1),AV.int .i64 (ze.v (nb x0 x1).1).1,AV.int .i64 (ze.v (nb x0 x1).1).2.1,AV.str (ze.v (nb x0 x1).1).2.2,AV.str (ze.s (nb x0 x1).1),AV.sl Sh.expr (ze.l (nb x0 x1).1)],AV.int .i64 (nb x0 x1).2]) []))
  (Tr.br (x2==2) (Tr.chk (iD x0 x1 [78,79,84]) (Tr.br (oe x0 x1 [78,79,84]) (Tr.chk (c x0 a0 2) (Tr.re (AV.tup [AV.agg [AV.str [110,111,116],AV.int .i64 0,AV.int .i64 0,AV.str [],AV.str [],AV.sl Sh.expr [zC a1.1]],AV.int .i64 a1.2]) [])) (Tr.chk (c x0 x1 3) (Tr.br (decide (a2.2 < 0))
  (Tr.re (AV.tup [AV.agg [AV.str [],AV.int .i64 0,AV.int .i64 0,AV.str [],AV.str [],AV.nils],AV.int .i64 (-1)]) []) (Tr.chk (iD x0 a2.2 [61]&&bif a3 then true else iD x0 a2.2 [60]) (Tr.br (bif a3 then true else oe x0 a2.2 [60]) (Tr.chk (zH a2.2 (length x0)) (Tr.chk (c x0 a4 3) (Tr.re (AV.tup
  [AV.agg [AV.str a5.2,AV.int .i64 0,AV.int .i64 0,AV.str [],AV.str [],AV.sl Sh.expr [a6,zC a7.1]],AV.int .i64 a7.2]) []))) (Tr.chk (iD x0 a2.2 [73,83]) (Tr.br (oe x0 a2.2 [73,83]) (Tr.chk (iD x0 a4 [78,85,76,76]) (Tr.br (!oe x0 a4 [78,85,76,76]) (Tr.re (AV.tup [AV.agg [AV.str [],AV.int .i64 0,AV.int .i64 0,AV.str [],AV.str [],AV.nils],AV.int .i64 (-1)]) [])
  (Tr.re (AV.tup [AV.agg [AV.str [110,117,108,108],AV.int .i64 0,AV.int .i64 0,AV.str [],AV.str [],AV.sl Sh.expr [a6]],AV.int .i64 (IntKind.i64.wrap (a2.2+2))]) []))) (Tr.re (AV.tup [AV.agg [AV.str (ze.op a2.1),AV.int .i64 (ze.v a2.1).1,AV.int .i64 (ze.v a2.1).2.1,AV.str (ze.v a2.1).2.2,AV.str (ze.s a2.1),AV.sl Sh.expr (ze.l a2.1)],AV.int .i64 a2.2])
  []))))))))) (Tr.chk (c x0 x1 a8) (Tr.to (iW.h22 x0 x2 a9.2 (a9.1,()) [] 0 0 [] [])))))
theorem QU (g:Sem zr.sl→Sem zg→Sem zg→Sem Sh.expr×Sem zg) (c:Sem zr.sl→Sem zg→Sem zg→Bool) (x0:Sem zr.sl) (x1:Sem zg) (x2:Sem zg):rn (sg g c) 0 Cq Tryz.f238 [zy zr.sl x0,zy zg x1,zy zg x2] []=(Hp g c x0 x1 x2).map (lf Tryz.f238 Af):=by kernel_rfl
def Jw (g:Sem zr.sl→Sem zg→Sem zg→Sem Sh.expr×Sem zg) (c:Sem zr.sl→Sem zg→Sem zg→Bool):iW→Tr (iW ⊕ au)
 | .h22 l0 i2 i16 z1 ja0 ja1 ja2 ja3 ja4=>
  let a0:=bif i2==1 then iD l0 i16 [65,78,68] else true
  let a1:=bif i2==1 then oe l0 i16 [65,78,68] else false
  let a2:=oe l0 i16 [43]
  let a3:=bif i2==3 then iD l0 i16 [43]&&bif a2 then true else iD l0 i16 [45] else true
  let a4:=bif i2==3 then bif a2 then true else oe l0 i16 [45] else false
  let a5:=l0.getD (Int.toNat i16) (zj zr)
  let a6:=IntKind.i64.wrap (i16+1)
  let a7:=IntKind.i64.wrap (i2+1)
  let a8:=c l0 a6 a7
  let a9:=g l0 a6 a7
  let a10:=[zC z1.1,zC a9.1]
  Tr.br (decide (i16 ≥ 0))
  (Tr.chk (bif i2==0 then iD l0 i16 [79,82] else true) (Tr.br (bif i2==0 then oe l0 i16 [79,82] else false) (Tr.chk a0 (Tr.br a1 (Tr.chk a3 (Tr.br a4 (Tr.chk (zH i16 l0.length) (Tr.br (a5.2==[]) (Tr.re (AV.tup [AV.agg [AV.str (ze.op z1.1),AV.int .i64 (ze.v z1.1).1,AV.int .i64 (ze.v z1.1).2.1,
  AV.str (ze.v z1.1).2.2,AV.str (ze.s z1.1),AV.sl Sh.expr (ze.l z1.1)],AV.int .i64 i16]) []) (Tr.chk a8 (Tr.to (iW.h22 l0 i2 a9.2 (ze.mk a5.2 (0,0,[]) [] a10,()) ja0 ja1 ja2 ja3 ja4))))) (Tr.br false (Tr.re (AV.tup [AV.agg [AV.str (ze.op z1.1),AV.int .i64 (ze.v z1.1).1,AV.int .i64 (ze.v z1.1).2.1,
  AV.str (ze.v z1.1).2.2,AV.str (ze.s z1.1),AV.sl Sh.expr (ze.l z1.1)],AV.int .i64 i16]) []) (Tr.chk a8 (Tr.to (iW.h22 l0 i2 a9.2 (ze.mk [97,110,100] (0,0,[]) [] a10,()) ja0 ja1 ja2 ja3 ja4)))))) (Tr.chk a3 (Tr.br a4 (Tr.chk (zH i16 l0.length) (Tr.br (a5.2==[]) (Tr.re (AV.tup [AV.agg
  [AV.str (ze.op z1.1),AV.int .i64 (ze.v z1.1).1,AV.int .i64 (ze.v z1.1).2.1,AV.str (ze.v z1.1).2.2,AV.str (ze.s z1.1),AV.sl Sh.expr (ze.l z1.1)],AV.int .i64 i16]) []) (Tr.chk a8 (Tr.to (iW.h22 l0 i2 a9.2 (ze.mk a5.2 (0,0,[]) [] a10,()) ja0 ja1 ja2 ja3 ja4))))) (Tr.br false (Tr.re (AV.tup [AV.agg
  [AV.str (ze.op z1.1),AV.int .i64 (ze.v z1.1).1,AV.int .i64 (ze.v z1.1).2.1,AV.str (ze.v z1.1).2.2,AV.str (ze.s z1.1),AV.sl Sh.expr (ze.l z1.1)],AV.int .i64 i16]) []) (Tr.chk a8 (Tr.to (iW.h22 l0 i2 a9.2 (ze.mk [111,114] (0,0,[]) [] a10,()) ja0 ja1 ja2 ja3 ja4)))))))) (Tr.chk a0 (Tr.br a1 (Tr.chk a3 (Tr.br a4 (Tr.chk (zH i16 l0.length)
  (Tr.br (a5.2==[]) (Tr.re (AV.tup [AV.agg [AV.str (ze.op z1.1),AV.int .i64 (ze.v z1.1).1,AV.int .i64 (ze.v z1.1).2.1,AV.str (ze.v z1.1).2.2,AV.str (ze.s z1.1),AV.sl Sh.expr (ze.l z1.1)],AV.int .i64 i16]) []) (Tr.chk a8 (Tr.to (iW.h22 l0 i2 a9.2 (ze.mk a5.2 (0,0,[]) [] a10,()) ja0 ja1 ja2 ja3 ja4))))) (Tr.br false (Tr.re (AV.tup [AV.agg
  [AV.str (ze.op z1.1),AV.int .i64 (ze.v z1.1).1,AV.int .i64 (ze.v z1.1).2.1,AV.str (ze.v z1.1).2.2,AV.str (ze.s z1.1),AV.sl Sh.expr (ze.l z1.1)],AV.int .i64 i16]) []) (Tr.chk a8 (Tr.to (iW.h22 l0 i2 a9.2 (ze.mk [97,110,100] (0,0,[]) [] a10,()) ja0 ja1 ja2 ja3 ja4)))))) (Tr.chk a3 (Tr.br a4 (Tr.chk (zH i16 l0.length) (Tr.br (a5.2==[]) (Tr.re
  (AV.tup [AV.agg [AV.str (ze.op z1.1),AV.int .i64 (ze.v z1.1).1,AV.int .i64 (ze.v z1.1).2.1,AV.str (ze.v z1.1).2.2,AV.str (ze.s z1.1),AV.sl Sh.expr (ze.l z1.1)],AV.int .i64 i16]) []) (Tr.chk a8 (Tr.to (iW.h22 l0 i2 a9.2 (ze.mk a5.2 (0,0,[]) [] a10,()) ja0 ja1 ja2 ja3 ja4))))) (Tr.br true (Tr.re (AV.tup [AV.agg
  [AV.str (ze.op z1.1),AV.int .i64 (ze.v z1.1).1,AV.int .i64 (ze.v z1.1).2.1,AV.str (ze.v z1.1).2.2,AV.str (ze.s z1.1),AV.sl Sh.expr (ze.l z1.1)],AV.int .i64 i16]) []) (Tr.chk a8 (Tr.to (iW.h22 l0 i2 a9.2 (ze.mk [] (0,0,[]) [] a10,()) ja0 ja1 ja2 ja3 ja4))))))))))
  (Tr.re (AV.tup [AV.agg [AV.str (ze.op z1.1),AV.int .i64 (ze.v z1.1).1,AV.int .i64 (ze.v z1.1).2.1,AV.str (ze.v z1.1).2.2,AV.str (ze.s z1.1),AV.sl Sh.expr (ze.l z1.1)],AV.int .i64 i16]) [])
theorem R4 (g:Sem zr.sl→Sem zg→Sem zg→Sem Sh.expr×Sem zg) (c:Sem zr.sl→Sem zg→Sem zg→Bool):∀ s,run (sg g c) 0 Cq (Func.results Tryz.f238).toList 400 (zx Tryz.f238 (Af s).1) (Af s).2=(Jw g c s).map (lf Tryz.f238 Af):=by intro s; cases s <;> kernel_rfl
def ib (o:Option (zw (List.map some [Sh.expr,zg]))):Sem Sh.expr×Sem zg:=(fun r:zw (List.map some [Sh.expr,zg])=>(r.1,r.2.1)) (o.getD (bD [Sh.expr,zg]))
def I3 (g:Sem zr.sl→Sem zg→Sem zg→Sem Sh.expr×Sem zg) (c:Sem zr.sl→Sem zg→Sem zg→Bool) (x0:Sem zr.sl) (x1:Sem zg) (x2:Sem zg):Option (zw (List.map some [Sh.expr,zg])):=aq [Sh.expr,zg] (Jw g c) 100000000 (Hp g c x0 x1 x2)
def dg:Nat→Sem zr.sl→Sem zg→Sem zg→Option (zw (List.map some [Sh.expr,zg]))
 | 0=>fun _ _ _=>none
 | n+1=>I3 (fun x0 x1 x2=>ib (dg n x0 x1 x2)) fun x0 x1 x2=>(dg n x0 x1 x2).isSome
theorem HD:zz Du.P 238 Tryz.f238 3:=aG (by kernel_rfl)
theorem yM:∀ n,FK 238 (zA [zr.sl,zg,zg] [Sh.expr,zg] (fun x=>(dg n x.1 x.2.1 x.2.2.1).isSome) fun x=>((ib (dg n x.1 x.2.1 x.2.2.1)).1,(ib (dg n x.1 x.2.1 x.2.2.1)).2,()))
 | 0=>cO ⟨Tryz.f238,HD.1,HD.2.1,HD.2.2.1⟩ (fun _=>rfl)
 | n+1=>g5 (E:=sg (fun x0 x1 x2=>ib (dg n x0 x1 x2)) (fun x0 x1 x2=>(dg n x0 x1 x2).isSome)) (ks:=[zr.sl,zg,zg]) (outs:=[Sh.expr,zg]) (keep:=Cq) (gas:=400) (n:=100000000) (e:=Af) (t:=Jw (fun x0 x1 x2=>ib (dg n x0 x1 x2)) (fun x0 x1 x2=>(dg n x0 x1 x2).isSome)) (i:=fun x=>Hp (fun x0 x1 x2=>ib (dg n x0 x1 x2)) (fun x0 x1 x2=>(dg n x0 x1 x2).isSome) x.1 x.2.1 x.2.2.1) (BW (yM n)) (RU _ _) (fun x=>QU _ _ x.1 x.2.1 x.2.2.1) (R4 _ _) (fun _=>by kernel_rfl) (fun _=>by kernel_rfl)
def Bd (x0:Sem zr.sl) (x1:Sem zg) (x2:Sem zg):Option (zw (List.map some [Sh.expr,zg])):=dg 16 x0 x1 x2
def Bc (x0:Sem zr.sl) (x1:Sem zg) (x2:Sem zg):Bool:=(Bd x0 x1 x2).isSome
def xZ (x0:Sem zr.sl) (x1:Sem zg) (x2:Sem zg):Sem Sh.expr×Sem zg:=ib (Bd x0 x1 x2)
def M9:zB:=zA [zr.sl,zg,zg] [Sh.expr,zg] (fun x=>Bc x.1 x.2.1 x.2.2.1) fun x=>((xZ x.1 x.2.1 x.2.2.1).1,(xZ x.1 x.2.1 x.2.2.1).2,())
theorem Ky:FK 238 M9:=yM 16

def NS:=Du.add 238 M9
theorem we:zm NS:=wd.add Ky
end

noncomputable def Xk (x0:Sem zr.sl):Tr (Empty ⊕ au):=
 let a0:=xZ x0 0 0
 let a1:=decide (a0.2 < 0)
 let a2:=zC a0.1
 Tr.chk (Bc x0 0 0)
 (Tr.chk (bif a1 then true else CF a2)
  (Tr.br (bif a1 then true else !IR a2) (Tr.re (AV.tup [AV.agg [AV.str [],AV.int .i64 0,AV.int .i64 0,AV.str [],AV.str [],AV.nils],AV.int .i64 0,AV.kb false]) []) (Tr.re (AV.tup [AV.agg [AV.str (ze.op a0.1),AV.int .i64 (ze.v a0.1).1,AV.int .i64 (ze.v a0.1).2.1,AV.str (ze.v a0.1).2.2,AV.str (ze.s a0.1),AV.sl Sh.expr (ze.l a0.1)],AV.int .i64 a0.2,AV.kb true])
  [])))
noncomputable def tQ (x0:Sem zr.sl):=aq [Sh.expr,zg,Sh.bool] t0 100000000 (Xk x0)
noncomputable def Bb (x0:Sem zr.sl):=(tQ x0).isSome
noncomputable def Ed (x0:Sem zr.sl):=o3 (tQ x0)
noncomputable def M2:=FT [zr.sl] [Sh.expr,zg,Sh.bool] fun x=>tQ x.1
theorem Kr:FK 182 M2:=we.T1 (f:=Tryz.f182) (keep:=k0) (e:=e0)

noncomputable def Dv:=NS.add 182 M2
theorem wg:zm Dv:=we.add Kr
open Go

theorem fK.cells {C:bW} {w:World} {U:Nat→Prop} {ρ:Nat→Option Value} {hp:Nat→AO} {k:Nat} {cs cs':List AV} (hH:fK C w U ρ hp) (hk:hp k=.box cs)
  (hr:∀ vals,bY w U ρ cs vals→bY w U ρ cs' vals):fK C w U ρ (fun j=>if j=k then .box cs' else hp j):=by
 have hown:∀ id b,zM ρ id (if id=k then .box cs' else hp id) b→zM ρ id (hp id) b:=by
  intro id b ho
  by_cases hid:id=k
  ·subst hid
   rw [if_pos rfl] at ho
   rw [hk]
   obtain ⟨_,v,hv,hb⟩:=ho
   exact ⟨rfl,v,hv,hb⟩
  ·rw [if_neg hid] at ho; exact ho
 refine ⟨fun id=>?_,fun id1 id2 b o1 o2=>hH.inj id1 id2 b (hown _ _ o1) (hown _ _ o2),fun id b o=>hH.blk id b (hown _ _ o)⟩
 by_cases hid:id=k
 ·subst hid
  have h0:=hH.ob id
  rw [hk] at h0
  obtain ⟨b,T,vals,h1,h2,h3,h4,h5⟩:=h0
  simp only [if_true]
  exact ⟨b,T,vals,h1,h2,h3,hr _ h4,h5⟩
 ·simp only [if_neg hid]
  exact hH.ob id

def aL (ps qs:List CP) (y:zu ps) (z:zu qs):List AO:=.box (eQ 2 ps y)::.box (eQ (2+ao ps) qs z)::(eR ps y++eR qs z)

theorem kI (ps qs:List CP) (y:zu ps) (z:zu qs):(aL ps qs y z).length=ao ps+ao qs+2:=by
 simp [aL,bd]

theorem fK.box2 {C:bW} {w:World} {U:Nat→Prop} {ρ:Nat→Option Value} {cs ds:List AV} {os:List AO} {ps qs:List CP} {y:zu ps} {z:zu qs} (hH:fK C w U ρ (fun j=>((AO.box cs::AO.box ds::os).getD j .dead))) (hl:os.length=ao ps+ao qs)
  (hm:bN (gE (.box cs::.box ds::os)) 2 ps cs=some y) (hm2:bN (gE (.box cs::.box ds::os)) (2+ao ps) qs ds=some z):fK C w U ρ (fun j=>(aL ps qs y z).getD j .dead):=by
 have h1:=hH.cells (k:=0) (cs:=cs) (cs':=eQ 2 ps y) rfl (fun vals h=>(dB ps 2 cs y vals hm h).1)
 have h2:=h1.cells (k:=1) (cs:=ds) (cs':=eQ (2+ao ps) qs z) rfl (fun vals h=>(dB qs _ ds z vals hm2 h).1)
 obtain ⟨b0,T0,v0,_,_,_,r0,_⟩:=hH.ob 0
 obtain ⟨b1,T1,v1,_,_,_,r1,_⟩:=hH.ob 1
 have k1:=(dB ps 2 cs y v0.toList hm r0).2
 have k2:=(dB qs _ ds z v1.toList hm2 r1).2
 have e:(fun j=>(aL ps qs y z).getD j .dead)=fun j=>if j=1 then .box (eQ (2+ao ps) qs z) else if j=0 then .box (eQ 2 ps y) else (AO.box cs::AO.box ds::os).getD j .dead:=by
  funext j
  match j with
  | 0=>rfl
  | 1=>rfl
  | j+2=>
   rw [if_neg (by omega),if_neg (by omega)]
   simp only [aL,vo]
   by_cases hj:j < ao ps
   ·have hj':j < (eR ps y).length:=by rw [bd]; exact hj
    have:=k1 j _ (zJ hj')
    simp only [gE,nr 2 j,vo] at this
    rw [this,aJ,iK hj',zJ hj']
    rfl
   ·by_cases hj2:j < ao ps+ao qs
    ·have hj':j - ao ps < (eR qs z).length:=by rw [bd]; omega
     have:=k2 (j - ao ps) _ (zJ hj')
     rw [show 2+ao ps+(j - ao ps)=j+2 by omega] at this
     simp only [gE,vo] at this
     rw [this,aJ,jG (by rw [bd]; omega),bd,zJ hj']
     rfl
    ·rw [aJ,aJ,dn (by simp [bd]; omega),dn (by omega)]
 rw [e]
 exact h2

def qM (ps qs:List CP) (outs:List Sh) (r:AV) (h:List AO):Option (zw (outs.map some)×zu ps×zu qs):=match h with
 | .box cs::.box ds::os=>if os.length=ao ps+ao qs then match zX [] outs r,bN (gE (.box cs::.box ds::os)) 2 ps cs,bN (gE (.box cs::.box ds::os)) (2+ao ps) qs ds with
   | some a,some y,some z=>some (a,y,z)
   | _,_,_=>none
  else none
 | _=>none

def NC (ps qs:List CP) (ks outs:List Sh) (ps' qs':List CP) (c:zu ps→zu qs→zw (ks.map some)→Bool) (g:zu ps→zu qs→zw (ks.map some)→zw (outs.map some)×zu ps'×zu qs'):b7 (none::none::ks.map some):=fun x h=>match x.1,x.2.1,h with
 | .ptr 0 0,.ptr 1 0,.box cs::.box ds::os=>if os.length=ao ps+ao qs then match bN (gE (.box cs::.box ds::os)) 2 ps cs,bN (gE (.box cs::.box ds::os)) (2+ao ps) qs ds with
   | some y,some z=>.chk (c y z x.2.2) (.ok (qo outs (g y z x.2.2).1,aL ps' qs' (g y z x.2.2).2.1 (g y z x.2.2).2.2))
   | _,_=>.err
  else .err
 | _,_,_=>.err

def Dj (ps qs:List CP) (ks outs:List Sh) (ps' qs':List CP) (c:zu ps→zu qs→zw (ks.map some)→Bool) (g:zu ps→zu qs→zw (ks.map some)→zw (outs.map some)×zu ps'×zu qs'):zB:=zP (none::none::ks.map some) (NC ps qs ks outs ps' qs' c g)

theorem F0 {P:Program} {gl:Nat→AV} {E:ba} {k:FuncId} {f:Func} {ps qs:List CP} {ks outs:List Sh} {ps' qs':List CP} {c:zu ps→zu qs→zw (ks.map some)→Bool} {g:zu ps→zu qs→zw (ks.map some)→zw (outs.map some)×zu ps'×zu qs'} (hf:zz E.P k f (ks.length+2))
  (h:∀ y z x,c y z x=true→∀ C:bW,(∀ id,ao ps+ao qs+2≤id→C.ρ0 id=none)→Reach E C k (ah f) (zU f.ntmps (.ptr 0 0::.ptr 1 0::fm (ks.map some) x) (aL ps qs y z)) (fun r h=>qM ps' qs' outs r h=some (g y z x))) (qp:E.P=P:=by rfl) (qg:E.gl=gl:=by rfl):
  kx P gl k (Dj ps qs ks outs ps' qs' c g):=by
 subst qp qg
 refine bb (by simpa using hf) fun x h0 res hx C hC=>?_
 obtain ⟨x0,x1,x⟩:=x
 unfold NC at hx
 simp only at hx
 split at hx
 ·rename_i cs ds os
  split at hx
  ·rename_i hos
   split at hx
   ·rename_i y z hy hz
    simp only [Tr.val] at hx
    split at hx
    ·rename_i hc
     simp only [zZ] at hx
     subst hx
     have hR:=h y z x hc C (fun id hid=>hC id (by simpa [hos] using hid))
     intro b cs' a w U ρ h1 h2 hcn hW
     have hH:fK C w U ρ (fun j=>((AO.box cs::AO.box ds::os).getD j .dead)):=hcn.hp
     have hcn':Cn C (zU f.ntmps (.ptr 0 0::.ptr 1 0::fm (ks.map some) x) (aL ps qs y z)) a w U ρ:=
      ⟨hcn.tm,hH.box2 hos hy hz,fun id hid=>hcn.new id (by have hid:(aL ps qs y z).length≤id:=hid; rw [kI] at hid; simpa [zU,hos] using hid),hcn.df,hcn.r0⟩
     obtain ⟨e,w',fr,⟨v,r,h',U',ρ',he,hq,hrv,hH',hnew,hr0,hWd⟩,hcm,hf',hl⟩:=hR b cs' a w U ρ h1 h2 hcn' hW
     unfold qM at hq
     split at hq
     ·rename_i cs2 ds2 os2
      split at hq
      ·rename_i hos2
       split at hq
       ·rename_i a' y' z' ha' hy' hz'
        simp only [zZ] at hq
        refine ⟨e,w',fr,⟨v,_,_,U',ρ',he,by rw [← hq],wF ha' hrv,hH'.box2 hos2 hy' hz',fun id hid=>hnew id (by rw [kI] at hid; simpa [hos2] using hid),hr0,hWd⟩,hcm,hf',hl⟩
       ·cases hq
      ·cases hq
     ·cases hq
    ·simp at hx
   ·simp at hx
  ·simp at hx
 ·simp at hx

def A2 {σ:Type} (outs:List Sh) (ps' qs':List CP) (t:σ→Tr (σ ⊕ au)) (n:Nat) (i:Tr (σ ⊕ au)):Option (zw (outs.map some)×zu ps'×zu qs'):=(cM t n i).bind fun r=>qM ps' qs' outs r.1 r.2

theorem FZ {P:Program} {gl:Nat→AV} {σ:Type} {E:ba} {k:FuncId} {f:Func} {ps qs:List CP} {ks outs:List Sh} {ps' qs':List CP} {keep:Nat→zS} {gas n:Nat} {e:σ→Nat×St} {t:σ→Tr (σ ⊕ au)} {i:zu ps→zu qs→zw (ks.map some)→Tr (σ ⊕ au)} {c:zu ps→zu qs→zw (ks.map some)→Bool} {g:zu ps→zu qs→zw (ks.map some)→zw (outs.map some)×zu ps'×zu qs'}
  (hE:zm E) (hf:zz E.P k f (ks.length+2)) (hgo:∀ y z x,run E (ao ps+ao qs+2) keep f.results.toList gas (ah f) (zU f.ntmps (.ptr 0 0::.ptr 1 0::fm (ks.map some) x) (aL ps qs y z))=(i y z x).map (lf f e))
  (hon:∀ s,run E (ao ps+ao qs+2) keep f.results.toList gas (zx f (e s).1) (e s).2=(t s).map (lf f e))
  (hc:∀ y z x,c y z x=(A2 outs ps' qs' t n (i y z x)).isSome) (hg:∀ y z x,g y z x=(A2 outs ps' qs' t n (i y z x)).getD (bD outs,eS ps',eS qs')) (qp:E.P=P:=by rfl) (qg:E.gl=gl:=by rfl):kx P gl k (Dj ps qs ks outs ps' qs' c g):=by
 subst qp qg
 refine F0 hf fun y z x hcx C hC=>?_
 rw [hc,Option.isSome_iff_exists] at hcx
 obtain ⟨u,hu⟩:=hcx
 rw [hg,hu]
 unfold A2 at hu
 rw [dT] at hu
 obtain ⟨r,h1,h2⟩:=hu
 exact jm (Q:=fun r h=>qM ps' qs' outs r h=some u) hE hf hC (n+1) _ _ r (by rw [hZ hon (hgo y z x)]; exact h1) h2


abbrev HI:=my []
theorem RH:zz Dv.P 110 Tryz.f110 1:=aG (by kernel_rfl)
noncomputable def Hf (y:zu zF):Tr (Empty ⊕ au):=
 let a0:=(y.1,y.2.1,y.2.2.1,())
 let a1:=lh a0 [45]
 let a2:=IntKind.i64.wrap (a1.2.2.1+2)
 let a3:=(↑(length a1.2.1):Int)
 let a4:=decide (0≤a1.2.2.1)
 let a5:=List.drop (Int.toNat a1.2.2.1) a1.2.1
 let a6:=List.take (a2.toNat - Int.toNat a1.2.2.1) a5
 let a7:=Ed a6
 let a8:=IntKind.i64.wrap (a1.2.2.1+1)
 let a9:=List.take (a8.toNat - Int.toNat a1.2.2.1) a5
 let a10:=Ed a9
 Tr.chk (iP a0 [45])
 (Tr.br a1.1
  (Tr.br (decide (a2 > a3)) (Tr.re (AV.agg [AV.int .i64 0,AV.int .i64 0,AV.str []]) [AO.box [AV.sl zr a1.2.1,AV.int .i64 a1.2.2.1,AV.kb false]]) (Tr.chk (a4&&decide (a1.2.2.1≤a2)&&decide (a2≤a3)) (Tr.chk (Bb a6) (Tr.br (bif !a7.2.2 then true else bif a7.2.1 != 2 then true else !ze.op a7.1==[108,105,116])
  (Tr.re (AV.agg [AV.int .i64 (ze.v a7.1).1,AV.int .i64 (ze.v a7.1).2.1,AV.str (ze.v a7.1).2.2]) [AO.box [AV.sl zr a1.2.1,AV.int .i64 a2,AV.kb false]]) (Tr.re (AV.agg [AV.int .i64 (ze.v a7.1).1,AV.int .i64 (ze.v a7.1).2.1,AV.str (ze.v a7.1).2.2]) (bx zF (a1.2.1,a2,a1.2.2.2)))))))
  (Tr.br (decide (a8 > a3)) (Tr.re (AV.agg [AV.int .i64 0,AV.int .i64 0,AV.str []]) [AO.box [AV.sl zr a1.2.1,AV.int .i64 a1.2.2.1,AV.kb false]]) (Tr.chk (a4&&decide (a1.2.2.1≤a8)&&decide (a8≤a3)) (Tr.chk (Bb a9) (Tr.br (bif !a10.2.2 then true else bif a10.2.1 != 1 then true else !ze.op a10.1==[108,105,116])
  (Tr.re (AV.agg [AV.int .i64 (ze.v a10.1).1,AV.int .i64 (ze.v a10.1).2.1,AV.str (ze.v a10.1).2.2]) [AO.box [AV.sl zr a1.2.1,AV.int .i64 a8,AV.kb false]]) (Tr.re (AV.agg [AV.int .i64 (ze.v a10.1).1,AV.int .i64 (ze.v a10.1).2.1,AV.str (ze.v a10.1).2.2]) (bx zF (a1.2.1,a8,a1.2.2.2))))))))
theorem QF (y:zu zF):rn Dv 1 HI Tryz.f110 [AV.ptr 0 0] (bx zF y)=(Hf y).map (lf Tryz.f110 e0):=by kernel_rfl
noncomputable def Ja (y:zu zF):Option (zw (List.map some [zf])×zu zF):=uT [zf] zF t0 100000000 (Hf y)
noncomputable def CR (y:zu zF):Bool:=(Ja y).isSome
noncomputable def Ej (y:zu zF):(Sem zf)×zu zF:=(fun r:zw (List.map some [zf])×zu zF=>(r.1.1,r.2)) ((Ja y).getD (bD [zf],eS zF))
noncomputable def Mw:zB:=uG zF [] [zf] zF (fun y _=>CR y) fun y _=>(((Ej y).1,()),(Ej y).2)
theorem JV:FK 110 Mw:=oM (ps:=zF) (ks:=[]) (outs:=[zf]) (keep:=HI) (gas:=400) (n:=100000000) (e:=e0) (t:=t0) (i:=fun y x=>Hf y) wg RH (fun y x=>QF y) (FO _ _ _ _ _) (fun _ _=>by kernel_rfl) (fun _ _=>by kernel_rfl)

noncomputable def AC:=Dv.add 110 Mw
theorem wh:zm AC:=wg.add JV
noncomputable section
abbrev K8:List CP:=[.d .str,.d .str,.d .str,.nil,.vec zi,.d .str,.nil,.nil,.d .str,.d zg,.d zg,.d .str,.d .str,.nil,.nil,.nil,.d .str,.d zg,.d zg,.d .str,.d .str,.nil,.d .str]
abbrev mg:List CP:=[.d .str,.d .str,.d .str,.nil,.vec zi,.d .str,.vec .str,.vec bu,.d .str,.d zg,.d zg,.d .str,.d .str,.nil,.nil,.nil,.d .str,.d zg,.d zg,.d .str,.d .str,.nil,.d .str]
abbrev fh:List CP:=[.d .str,.d .str,.d .str,.nil,.vec zi,.d .str,.vec .str,.vec bu,.d .expr,.nil,.nil,.d .str,.d zg,.d zg,.d .str,.d .str,.nil,.d .str]

abbrev Cm:Nat→zS:=fun j=>if j=4 then { slots:=[0,1],prom:=[(1,some 4,zi)] } else if j=23 then { slots:=[0,1,5],prom:=[(1,some 6,.str),(1,some 7,bu)] } else if j=500013 then { slots:=[0,1,4,47],cut:=true } else if j=500025 then { slots:=[0,1,5,85],cut:=true } else if j=500029 then { slots:=[0,1,5,107],cut:=true } else if j=500035 then { slots:=[0,1,5,133],cut:=true } else if j=1000000 then { prom:=[(1,some 4,zi),(1,some 6,.str),(1,some 7,bu),(1,some 13,.expr)],sett:=[(1,13)] } else { }
inductive bc where
 | h4 (z0:zu zF) (z1:zu K8)
 | h500013 (b47:Sem Sh.bool) (z0:zu zF) (z1:zu K8) (jc0:Sem Sh.str) (jc1:Int)
 | h23 (i5:Int) (z1:zu mg) (ja0:List (Sem zr)) (ja1:Sem zg) (bh_0_2:Sem Sh.bool)
 | h500025 (i5:Int) (b85:Sem Sh.bool) (z0:zu zF) (z1:zu mg)
 | h500025b (i5:Int) (z0:zu zF) (z1:zu mg)
 | h500029 (i5:Int) (b107:Sem Sh.bool) (z0:zu zF) (z1:zu mg)
 | h500029b (i5:Int) (z0:zu zF) (z1:zu mg)
 | h500035 (i5:Int) (b133:Sem Sh.bool) (z0:zu zF) (z1:zu mg)
 | h500035b (i5:Int) (z0:zu zF) (z1:zu mg)
 | h23b (i5:Int) (z1:zu fh) (ja0:List (Sem zr)) (ja1:Sem zg) (bh_0_2:Sem Sh.bool)
 | h23bb (i5:Int) (z1:zu mg) (ja0:List (Sem zr)) (ja1:Sem zg)
 | h500025bb (i5:Int) (b85:Sem Sh.bool) (z0:zu zF) (z1:zu fh)
 | h500025bbb (i5:Int) (z0:zu zF) (z1:zu fh)
 | h500029bb (i5:Int) (b107:Sem Sh.bool) (z0:zu zF) (z1:zu fh)
 | h500029bbb (i5:Int) (z0:zu zF) (z1:zu fh)
 | h500035bb (i5:Int) (b133:Sem Sh.bool) (z0:zu zF) (z1:zu fh)
 | h500035bbb (i5:Int) (z0:zu zF) (z1:zu fh)
 | h23bbb (i5:Int) (z1:zu fh) (ja0:List (Sem zr)) (ja1:Sem zg)
abbrev Ab:bc→Nat×St
 | .h4 z0 z1=>(4,⟨tm 147 [(0,AV.ptr 0 0),(1,AV.ptr 1 0)],[AO.box (bn [] zF z0),AO.box (bn [2] K8 z1),AO.vec zi z1.2.2.2.1]⟩)
 | .h500013 b47 z0 z1 jc0 jc1=>(500013,⟨tm 147 [(0,AV.ptr 0 0),(1,AV.ptr 1 0),(4,AV.ptr 2 0),(47,AV.bool b47)],[AO.box (bn [] zF z0),AO.box (bn [3] K8 z1),AO.box [AV.str jc0,AV.int .i64 jc1,AV.kb false],AO.vec zi z1.2.2.2.1]⟩)
 | .h23 i5 z1 ja0 ja1 bh_0_2=>(23,⟨tm 147 [(0,AV.ptr 0 0),(1,AV.ptr 1 0),(5,AV.int .i64 i5)],[AO.box [AV.sl zr ja0,AV.int .i64 ja1,AV.bool bh_0_2],AO.box (bn [2,3,4] mg z1),AO.vec zi z1.2.2.2.1,AO.vec Sh.str z1.2.2.2.2.2.1,AO.vec (Sh.str.pr Sh.str) z1.2.2.2.2.2.2.1]⟩)
 | .h500025 i5 b85 z0 z1=>(500025,⟨tm 147 [(0,AV.ptr 0 0),(1,AV.ptr 1 0),(5,AV.int .i64 i5),(85,AV.bool b85)],[AO.box (bn [] zF z0),AO.box (bn [2,3,4] mg z1),AO.vec zi z1.2.2.2.1,AO.vec Sh.str z1.2.2.2.2.2.1,AO.vec (Sh.str.pr Sh.str) z1.2.2.2.2.2.2.1]⟩)
 | .h500025b i5 z0 z1=>(500025,⟨tm 147 [(0,AV.ptr 0 0),(1,AV.ptr 1 0),(5,AV.int .i64 i5),(85,AV.kb false)],[AO.box (bn [] zF z0),AO.box (bn [2,3,4] mg z1),AO.vec zi z1.2.2.2.1,AO.vec Sh.str z1.2.2.2.2.2.1,AO.vec (Sh.str.pr Sh.str) z1.2.2.2.2.2.2.1]⟩)
 | .h500029 i5 b107 z0 z1=>(500029,⟨tm 147 [(0,AV.ptr 0 0),(1,AV.ptr 1 0),(5,AV.int .i64 i5),(107,AV.bool b107)],[AO.box (bn [] zF z0),AO.box (bn [2,3,4] mg z1),AO.vec zi z1.2.2.2.1,AO.vec Sh.str z1.2.2.2.2.2.1,AO.vec (Sh.str.pr Sh.str) z1.2.2.2.2.2.2.1]⟩)
 | .h500029b i5 z0 z1=>(500029,⟨tm 147 [(0,AV.ptr 0 0),(1,AV.ptr 1 0),(5,AV.int .i64 i5),(107,AV.kb false)],[AO.box (bn [] zF z0),AO.box (bn [2,3,4] mg z1),AO.vec zi z1.2.2.2.1,AO.vec Sh.str z1.2.2.2.2.2.1,AO.vec (Sh.str.pr Sh.str) z1.2.2.2.2.2.2.1]⟩)
 | .h500035 i5 b133 z0 z1=>(500035,⟨tm 147 [(0,AV.ptr 0 0),(1,AV.ptr 1 0),(5,AV.int .i64 i5),(133,AV.bool b133)],[AO.box (bn [] zF z0),AO.box (bn [2,3,4] mg z1),AO.vec zi z1.2.2.2.1,AO.vec Sh.str z1.2.2.2.2.2.1,AO.vec (Sh.str.pr Sh.str) z1.2.2.2.2.2.2.1]⟩)
 | .h500035b i5 z0 z1=>(500035,⟨tm 147 [(0,AV.ptr 0 0),(1,AV.ptr 1 0),(5,AV.int .i64 i5),(133,AV.kb false)],[AO.box (bn [] zF z0),AO.box (bn [2,3,4] mg z1),AO.vec zi z1.2.2.2.1,AO.vec Sh.str z1.2.2.2.2.2.1,AO.vec (Sh.str.pr Sh.str) z1.2.2.2.2.2.2.1]⟩)
 | .h23b i5 z1 ja0 ja1 bh_0_2=>(23,⟨tm 147 [(0,AV.ptr 0 0),(1,AV.ptr 1 0),(5,AV.int .i64 i5)],[AO.box [AV.sl zr ja0,AV.int .i64 ja1,AV.bool bh_0_2],AO.box (bn [2,3,4] fh z1),AO.vec zi z1.2.2.2.1,AO.vec Sh.str z1.2.2.2.2.2.1,AO.vec (Sh.str.pr Sh.str) z1.2.2.2.2.2.2.1]⟩)
 | .h23bb i5 z1 ja0 ja1=>(23,⟨tm 147 [(0,AV.ptr 0 0),(1,AV.ptr 1 0),(5,AV.int .i64 i5)],[AO.box [AV.sl zr ja0,AV.int .i64 ja1,AV.kb false],AO.box (bn [2,3,4] mg z1),AO.vec zi z1.2.2.2.1,AO.vec Sh.str z1.2.2.2.2.2.1,AO.vec (Sh.str.pr Sh.str) z1.2.2.2.2.2.2.1]⟩)
 | .h500025bb i5 b85 z0 z1=>(500025,⟨tm 147 [(0,AV.ptr 0 0),(1,AV.ptr 1 0),(5,AV.int .i64 i5),(85,AV.bool b85)],[AO.box (bn [] zF z0),AO.box (bn [2,3,4] fh z1),AO.vec zi z1.2.2.2.1,AO.vec Sh.str z1.2.2.2.2.2.1,AO.vec (Sh.str.pr Sh.str) z1.2.2.2.2.2.2.1]⟩)
 | .h500025bbb i5 z0 z1=>(500025,⟨tm 147 [(0,AV.ptr 0 0),(1,AV.ptr 1 0),(5,AV.int .i64 i5),(85,AV.kb false)],[AO.box (bn [] zF z0),AO.box (bn [2,3,4] fh z1),AO.vec zi z1.2.2.2.1,AO.vec Sh.str z1.2.2.2.2.2.1,AO.vec (Sh.str.pr Sh.str) z1.2.2.2.2.2.2.1]⟩)
 | .h500029bb i5 b107 z0 z1=>(500029,⟨tm 147 [(0,AV.ptr 0 0),(1,AV.ptr 1 0),(5,AV.int .i64 i5),(107,AV.bool b107)],[AO.box (bn [] zF z0),AO.box (bn [2,3,4] fh z1),AO.vec zi z1.2.2.2.1,AO.vec Sh.str z1.2.2.2.2.2.1,AO.vec (Sh.str.pr Sh.str) z1.2.2.2.2.2.2.1]⟩)
 | .h500029bbb i5 z0 z1=>(500029,⟨tm 147 [(0,AV.ptr 0 0),(1,AV.ptr 1 0),(5,AV.int .i64 i5),(107,AV.kb false)],[AO.box (bn [] zF z0),AO.box (bn [2,3,4] fh z1),AO.vec zi z1.2.2.2.1,AO.vec Sh.str z1.2.2.2.2.2.1,AO.vec (Sh.str.pr Sh.str) z1.2.2.2.2.2.2.1]⟩)
 | .h500035bb i5 b133 z0 z1=>(500035,⟨tm 147 [(0,AV.ptr 0 0),(1,AV.ptr 1 0),(5,AV.int .i64 i5),(133,AV.bool b133)],[AO.box (bn [] zF z0),AO.box (bn [2,3,4] fh z1),AO.vec zi z1.2.2.2.1,AO.vec Sh.str z1.2.2.2.2.2.1,AO.vec (Sh.str.pr Sh.str) z1.2.2.2.2.2.2.1]⟩)
 | .h500035bbb i5 z0 z1=>(500035,⟨tm 147 [(0,AV.ptr 0 0),(1,AV.ptr 1 0),(5,AV.int .i64 i5),(133,AV.kb false)],[AO.box (bn [] zF z0),AO.box (bn [2,3,4] fh z1),AO.vec zi z1.2.2.2.1,AO.vec Sh.str z1.2.2.2.2.2.1,AO.vec (Sh.str.pr Sh.str) z1.2.2.2.2.2.2.1]⟩)
 | .h23bbb i5 z1 ja0 ja1=>(23,⟨tm 147 [(0,AV.ptr 0 0),(1,AV.ptr 1 0),(5,AV.int .i64 i5)],[AO.box [AV.sl zr ja0,AV.int .i64 ja1,AV.kb false],AO.box (bn [2,3,4] fh z1),AO.vec zi z1.2.2.2.1,AO.vec Sh.str z1.2.2.2.2.2.1,AO.vec (Sh.str.pr Sh.str) z1.2.2.2.2.2.2.1]⟩)
theorem RF:zz AC.P 107 Tryz.f107 2:=aG (by kernel_rfl)
def Hd (y:zu zF) (z:zu dM):Tr (bc ⊕ au):=
 let a0:=(y.1,y.2.1,y.2.2.1,())
 let a1:=zR a0 [84,65,66,76,69]
 let a2:=(a1.1,a1.2.1,a1.2.2.1,())
 let a3:=ay a2
 let a4:=(a3.2.1,a3.2.2.1,a3.2.2.2.1,())
 Tr.chk (zI a0 [84,65,66,76,69])
 (Tr.chk (zV a2) (Tr.chk (zI a4 [40]) (Tr.to (bc.h4 (zR a4 [40]) ([99,114,101,97,116,101],a3.1,z.2.2.1,[],z.2.2.2)))))
theorem QD (y:zu zF) (z:zu dM):rn AC 2 Cm Tryz.f107 [AV.ptr 0 0,AV.ptr 1 0] (aL zF dM y z)=(Hd y z).map (lf Tryz.f107 Ab):=by kernel_rfl
def Jr:bc→Tr (bc ⊕ au)
 | .h4 z0 z1=>
  let a0:=(z0.1,z0.2.1,z0.2.2.1,())
  let a1:=lh a0 [75,69,89]
  let a2:=(a1.2.1,a1.2.2.1,a1.2.2.2.1,())
  let a3:=ay a2
  let a4:=(a3.2.1,a3.2.2.1,a3.2.2.2.1,())
  let a5:=aV a4 [73,78,84]
  let a6:=(a5.2.1,a5.2.2.1,a5.2.2.2.1,())
  let a7:=aV a6 [78,79,84]
  let a8:=aV a6 [84,69,88,84]
  let a9:=(a8.2.1,a8.2.2.1,a8.2.2.2.1,())
  let a10:=aV a9 [78,79,84]
  let a11:=aV a9 [66,79,79,76]
  let a12:=(a11.2.1,a11.2.2.1,a11.2.2.2.1,())
  let a13:=aV a12 [78,79,84]
  let a14:=(a11.2.1,a11.2.2.1,false,())
  let a15:=aV a14 [78,79,84]
  let a16:=zR a2 [75,69,89]
  let a17:=(a16.1,a16.2.1,a16.2.2.1,())
  let a18:=zR a17 [40]
  let a19:=(a18.1,a18.2.1,a18.2.2.1,())
  let a20:=ay a19
  let a21:=(a20.2.1,a20.2.2.1,a20.2.2.2.1,())
  let a22:=([],[],z1.2.2.2.2.2)
  let a23:=zR a21 [41]
  let a24:=zR a0 [75,69,89]
  let a25:=(a24.1,a24.2.1,a24.2.2.1,())
  let a26:=zR a25 [40]
  let a27:=(a26.1,a26.2.1,a26.2.2.1,())
  let a28:=ay a27
  let a29:=(a28.2.1,a28.2.2.1,a28.2.2.2.1,())
  let a30:=zR a29 [41]
  Tr.br z0.2.2.1
  (Tr.chk (iP a0 [75,69,89]) (Tr.br (!a1.1) (Tr.chk (zV a2) (Tr.chk (aD a4 [73,78,84]) (Tr.br a5.1 (Tr.chk (aD a6 [78,79,84]) (Tr.to (bc.h500013 a7.1 a7.2 z1 a3.1 1))) (Tr.chk (aD a6 [84,69,88,84]) (Tr.br a8.1 (Tr.chk (aD a9 [78,79,84]) (Tr.to (bc.h500013 a10.1 a10.2 z1 a3.1 2))) (Tr.chk (aD a9 [66,79,79,76])
  (Tr.br a11.1 (Tr.chk (aD a12 [78,79,84]) (Tr.to (bc.h500013 a13.1 a13.2 z1 a3.1 3))) (Tr.chk (aD a14 [78,79,84]) (Tr.to (bc.h500013 a15.1 a15.2 z1 a3.1 0)))))))))) (Tr.chk (zI a2 [75,69,89]) (Tr.chk (zI a17 [40]) (Tr.chk (zV a19) (Tr.chk (zI a21 [41]) (Tr.to (bc.h23 0 (z1.1,z1.2.1,z1.2.2.1,z1.2.2.2.1,a20.1,a22) a23.1 a23.2.1 a23.2.2.1))))))))
  (Tr.chk (zI a0 [75,69,89]) (Tr.chk (zI a25 [40]) (Tr.chk (zV a27) (Tr.chk (zI a29 [41]) (Tr.to (bc.h23 0 (z1.1,z1.2.1,z1.2.2.1,z1.2.2.2.1,a28.1,a22) a30.1 a30.2.1 a30.2.2.1))))))
 | .h500013 b47 z0 z1 jc0 jc1=>
  let a0:=(z0.1,z0.2.1,z0.2.2.1,())
  let a1:=[(jc0,jc1,true)]
  let a2:=zR a0 [78,85,76,76]
  let a3:=(a2.1,a2.2.1,a2.2.2.1,())
  let a4:=[(jc0,jc1,false)]
  Tr.br b47
  (Tr.chk (zI a0 [78,85,76,76]) (Tr.chk (decide (z1.2.2.2.1.length+a1.length≤1073741824)) (Tr.chk (zI a3 [44]) (Tr.to (bc.h4 (zR a3 [44]) (z1.1,z1.2.1,z1.2.2.1,z1.2.2.2.1++a1,z1.2.2.2.2))))))
  (Tr.chk (decide (z1.2.2.2.1.length+a4.length≤1073741824)) (Tr.chk (zI a0 [44]) (Tr.to (bc.h4 (zR a0 [44]) (z1.1,z1.2.1,z1.2.2.1,z1.2.2.2.1++a4,z1.2.2.2.2)))))
 | .h23 i5 z1 ja0 ja1 bh_0_2=>
  let a0:=(ja0,ja1,bh_0_2,())
  let a1:=aV a0 [44]
  let a2:=(a1.2.1,a1.2.2.1,a1.2.2.2.1,())
  let a3:=aV a2 [85,78,73,81,85,69]
  let a4:=(z1.1,z1.2.1,z1.2.2.1,z1.2.2.2.1,z1.2.2.2.2.1,z1.2.2.2.2.2.1,z1.2.2.2.2.2.2.1,ze.mk z1.2.2.2.2.2.2.2.1 (z1.2.2.2.2.2.2.2.2.1,z1.2.2.2.2.2.2.2.2.2.1,z1.2.2.2.2.2.2.2.2.2.2.1) z1.2.2.2.2.2.2.2.2.2.2.2.1 [],z1.2.2.2.2.2.2.2.2.2.2.2.2)
  Tr.br bh_0_2
  (Tr.chk (aD a0 [44]) (Tr.br a1.1 (Tr.br (i5==0) (Tr.chk (aD a2 [85,78,73,81,85,69]) (Tr.to (bc.h500025 i5 a3.1 a3.2 z1))) (Tr.to (bc.h500025b i5 a1.2 z1))) (Tr.chk (zI a2 [41]) (Tr.re (AV.tup []) (aL zF fh (zR a2 [41]) a4)))))
  (Tr.chk (zI a0 [41]) (Tr.re (AV.tup []) (aL zF fh (zR a0 [41]) a4)))
 | .h500025 i5 b85 z0 z1=>
  let a0:=(z0.1,z0.2.1,z0.2.2.1,())
  let a1:=zR a0 [40]
  let a2:=(a1.1,a1.2.1,a1.2.2.1,())
  let a3:=ay a2
  let a4:=[a3.1]
  let a5:=(a3.2.1,a3.2.2.1,a3.2.2.2.1,())
  let a6:=zR a5 [41]
  let a7:=aV a0 [82,69,70,69,82,69,78,67,69,83]
  Tr.br b85
  (Tr.chk (zI a0 [40]) (Tr.chk (zV a2) (Tr.chk (decide (z1.2.2.2.2.2.1.length+a4.length≤1073741824)) (Tr.chk (zI a5 [41]) (Tr.to (bc.h23 i5 (z1.1,z1.2.1,z1.2.2.1,z1.2.2.2.1,z1.2.2.2.2.1,z1.2.2.2.2.2.1++a4,z1.2.2.2.2.2.2) a6.1 a6.2.1 a6.2.2.1))))))
  (Tr.br (decide (i5≤1)) (Tr.chk (aD a0 [82,69,70,69,82,69,78,67,69,83]) (Tr.to (bc.h500029 i5 a7.1 a7.2 z1))) (Tr.to (bc.h500029b i5 z0 z1)))
 | .h500025b i5 z0 z1=>
  let a0:=(z0.1,z0.2.1,z0.2.2.1,())
  let a1:=aV a0 [82,69,70,69,82,69,78,67,69,83]
  Tr.br (decide (i5≤1)) (Tr.chk (aD a0 [82,69,70,69,82,69,78,67,69,83]) (Tr.to (bc.h500029 i5 a1.1 a1.2 z1)))
  (Tr.to (bc.h500029b i5 z0 z1))
 | .h500029 i5 b107 z0 z1=>
  let a0:=(z0.1,z0.2.1,z0.2.2.1,())
  let a1:=zR a0 [40]
  let a2:=(a1.1,a1.2.1,a1.2.2.1,())
  let a3:=ay a2
  let a4:=(a3.2.1,a3.2.2.1,a3.2.2.2.1,())
  let a5:=zR a4 [41]
  let a6:=(a5.1,a5.2.1,a5.2.2.1,())
  let a7:=ay a6
  let a8:=[(a3.1,a7.1)]
  let a9:=lh a0 [67,72,69,67,75]
  Tr.br b107
  (Tr.chk (zI a0 [40]) (Tr.chk (zV a2) (Tr.chk (zI a4 [41]) (Tr.chk (zV a6) (Tr.chk (decide (z1.2.2.2.2.2.2.1.length+a8.length≤1073741824)) (Tr.to (bc.h23 1 (z1.1,z1.2.1,z1.2.2.1,z1.2.2.2.1,z1.2.2.2.2.1,z1.2.2.2.2.2.1,z1.2.2.2.2.2.2.1++a8,z1.2.2.2.2.2.2.2) a7.2.1 a7.2.2.1 a7.2.2.2.1)))))))
  (Tr.br (decide (i5≤2)) (Tr.chk (iP a0 [67,72,69,67,75]) (Tr.to (bc.h500035 i5 a9.1 a9.2 z1))) (Tr.to (bc.h500035b i5 z0 z1)))
 | .h500029b i5 z0 z1=>
  let a0:=(z0.1,z0.2.1,z0.2.2.1,())
  let a1:=lh a0 [67,72,69,67,75]
  Tr.br (decide (i5≤2)) (Tr.chk (iP a0 [67,72,69,67,75]) (Tr.to (bc.h500035 i5 a1.1 a1.2 z1))) (Tr.to (bc.h500035b i5 z0 z1))
 | .h500035 i5 b133 z0 z1=>
  let a0:=(z0.1,z0.2.1,z0.2.2.1,())
  let a1:=cF a0 [67,72,69,67,75]
  Tr.br b133
  (Tr.chk (bR a0 [67,72,69,67,75]) (Tr.to (bc.h23b 3 (z1.1,z1.2.1,z1.2.2.1,z1.2.2.2.1,z1.2.2.2.2.1,z1.2.2.2.2.2.1,z1.2.2.2.2.2.2.1,a1.1,z1.2.2.2.2.2.2.2.2.2.2.2.2) a1.2.1 a1.2.2.1 a1.2.2.2.1)))
  (Tr.to (bc.h23bb i5 z1 z0.1 z0.2.1))
 | .h500035b i5 z0 z1=>
  Tr.to (bc.h23bb i5 z1 z0.1 z0.2.1)
 | .h23b i5 z1 ja0 ja1 bh_0_2=>
  let a0:=(ja0,ja1,bh_0_2,())
  let a1:=aV a0 [44]
  let a2:=(a1.2.1,a1.2.2.1,a1.2.2.2.1,())
  let a3:=aV a2 [85,78,73,81,85,69]
  Tr.br bh_0_2
  (Tr.chk (aD a0 [44]) (Tr.br a1.1 (Tr.br (i5==0) (Tr.chk (aD a2 [85,78,73,81,85,69]) (Tr.to (bc.h500025bb i5 a3.1 a3.2 z1))) (Tr.to (bc.h500025bbb i5 a1.2 z1))) (Tr.chk (zI a2 [41]) (Tr.re (AV.tup []) (aL zF fh (zR a2 [41]) z1)))))
  (Tr.chk (zI a0 [41]) (Tr.re (AV.tup []) (aL zF fh (zR a0 [41]) z1)))
 | .h23bb _ z1 ja0 ja1=>
  let a0:=(ja0,ja1,false,())
  Tr.chk (zI a0 [41])
  (Tr.re (AV.tup []) (aL zF fh (zR a0 [41]) (z1.1,z1.2.1,z1.2.2.1,z1.2.2.2.1,z1.2.2.2.2.1,z1.2.2.2.2.2.1,z1.2.2.2.2.2.2.1,ze.mk z1.2.2.2.2.2.2.2.1 (z1.2.2.2.2.2.2.2.2.1,z1.2.2.2.2.2.2.2.2.2.1,z1.2.2.2.2.2.2.2.2.2.2.1) z1.2.2.2.2.2.2.2.2.2.2.2.1 [],z1.2.2.2.2.2.2.2.2.2.2.2.2)))
 | .h500025bb i5 b85 z0 z1=>
  let a0:=(z0.1,z0.2.1,z0.2.2.1,())
  let a1:=zR a0 [40]
  let a2:=(a1.1,a1.2.1,a1.2.2.1,())
  let a3:=ay a2
  let a4:=[a3.1]
  let a5:=(a3.2.1,a3.2.2.1,a3.2.2.2.1,())
  let a6:=zR a5 [41]
  let a7:=aV a0 [82,69,70,69,82,69,78,67,69,83]
  Tr.br b85
  (Tr.chk (zI a0 [40]) (Tr.chk (zV a2) (Tr.chk (decide (z1.2.2.2.2.2.1.length+a4.length≤1073741824)) (Tr.chk (zI a5 [41]) (Tr.to (bc.h23b i5 (z1.1,z1.2.1,z1.2.2.1,z1.2.2.2.1,z1.2.2.2.2.1,z1.2.2.2.2.2.1++a4,z1.2.2.2.2.2.2) a6.1 a6.2.1 a6.2.2.1))))))
  (Tr.br (decide (i5≤1)) (Tr.chk (aD a0 [82,69,70,69,82,69,78,67,69,83]) (Tr.to (bc.h500029bb i5 a7.1 a7.2 z1))) (Tr.to (bc.h500029bbb i5 z0 z1)))
 | .h500025bbb i5 z0 z1=>
  let a0:=(z0.1,z0.2.1,z0.2.2.1,())
  let a1:=aV a0 [82,69,70,69,82,69,78,67,69,83]
  Tr.br (decide (i5≤1)) (Tr.chk (aD a0 [82,69,70,69,82,69,78,67,69,83]) (Tr.to (bc.h500029bb i5 a1.1 a1.2 z1)))
  (Tr.to (bc.h500029bbb i5 z0 z1))
 | .h500029bb i5 b107 z0 z1=>
  let a0:=(z0.1,z0.2.1,z0.2.2.1,())
  let a1:=zR a0 [40]
  let a2:=(a1.1,a1.2.1,a1.2.2.1,())
  let a3:=ay a2
  let a4:=(a3.2.1,a3.2.2.1,a3.2.2.2.1,())
  let a5:=zR a4 [41]
  let a6:=(a5.1,a5.2.1,a5.2.2.1,())
  let a7:=ay a6
  let a8:=[(a3.1,a7.1)]
  let a9:=lh a0 [67,72,69,67,75]
  Tr.br b107
  (Tr.chk (zI a0 [40]) (Tr.chk (zV a2) (Tr.chk (zI a4 [41]) (Tr.chk (zV a6) (Tr.chk (decide (z1.2.2.2.2.2.2.1.length+a8.length≤1073741824)) (Tr.to (bc.h23b 1 (z1.1,z1.2.1,z1.2.2.1,z1.2.2.2.1,z1.2.2.2.2.1,z1.2.2.2.2.2.1,z1.2.2.2.2.2.2.1++a8,z1.2.2.2.2.2.2.2) a7.2.1 a7.2.2.1 a7.2.2.2.1)))))))
  (Tr.br (decide (i5≤2)) (Tr.chk (iP a0 [67,72,69,67,75]) (Tr.to (bc.h500035bb i5 a9.1 a9.2 z1))) (Tr.to (bc.h500035bbb i5 z0 z1)))
 | .h500029bbb i5 z0 z1=>
  let a0:=(z0.1,z0.2.1,z0.2.2.1,())
  let a1:=lh a0 [67,72,69,67,75]
  Tr.br (decide (i5≤2)) (Tr.chk (iP a0 [67,72,69,67,75]) (Tr.to (bc.h500035bb i5 a1.1 a1.2 z1))) (Tr.to (bc.h500035bbb i5 z0 z1))
 | .h500035bb i5 b133 z0 z1=>
  let a0:=(z0.1,z0.2.1,z0.2.2.1,())
  let a1:=cF a0 [67,72,69,67,75]
  Tr.br b133
  (Tr.chk (bR a0 [67,72,69,67,75]) (Tr.to (bc.h23b 3 (z1.1,z1.2.1,z1.2.2.1,z1.2.2.2.1,z1.2.2.2.2.1,z1.2.2.2.2.2.1,z1.2.2.2.2.2.2.1,a1.1,z1.2.2.2.2.2.2.2.2) a1.2.1 a1.2.2.1 a1.2.2.2.1)))
  (Tr.to (bc.h23bbb i5 z1 z0.1 z0.2.1))
 | .h500035bbb i5 z0 z1=>
  Tr.to (bc.h23bbb i5 z1 z0.1 z0.2.1)
 | .h23bbb _ z1 ja0 ja1=>
  let a0:=(ja0,ja1,false,())
  Tr.chk (zI a0 [41]) (Tr.re (AV.tup []) (aL zF fh (zR a0 [41]) z1))
theorem R0:∀ s,run AC 2 Cm (Func.results Tryz.f107).toList 400 (zx Tryz.f107 (Ab s).1) (Ab s).2=(Jr s).map (lf Tryz.f107 Ab):=by intro s; cases s <;> kernel_rfl
def wD (y:zu zF) (z:zu dM):Option (zw (List.map some [])×zu zF×zu fh):=A2 [] zF fh Jr 100000000 (Hd y z)
def wC (y:zu zF) (z:zu dM):Bool:=(wD y z).isSome
def Bg (y:zu zF) (z:zu dM):zu zF×zu fh:=(fun r:zw (List.map some [])×zu zF×zu fh=>r.2) ((wD y z).getD (bD [],eS zF,eS fh))
def Mu:zB:=Dj zF dM [] [] zF fh (fun y z _=>wC y z) fun y z _=>((),Bg y z)
theorem JT:FK 107 Mu:=FZ (ps:=zF) (qs:=dM) (ks:=[]) (outs:=[]) (keep:=Cm) (gas:=400) (n:=100000000) (e:=Ab) (t:=Jr) (i:=fun y z x=>Hd y z) wh RF (fun y z x=>QD y z) R0 (fun _ _ _=>by kernel_rfl) (fun _ _ _=>by kernel_rfl)

def NT:=AC.add 107 Mu
theorem E8:zm NT:=wh.add JT
end
noncomputable section
abbrev jc:List CP:=[.d .str,.d .str,.d .str,.vec .str,.nil,.d .str,.nil,.nil,.d .expr,.nil,.nil,.d .str,.d zg,.d zg,.d .str,.d .str,.nil,.d .str]
abbrev K9:List CP:=[.d .str,.d .str,.d .str,.vec .str,.nil,.d .str,.nil,.nil,.d .str,.d zg,.d zg,.d .str,.d .str,.nil,.nil,.nil,.d .str,.d zg,.d zg,.d .str,.d .str,.nil,.d .str]

abbrev Co:Nat→zS:=fun j=>if j=14 then { slots:=[0,1,4],prom:=[(1,some 3,.str)] } else if j=1000000 then { prom:=[(1,some 3,.str)] } else { }
inductive mj where
 | h14 (z0:zu zF) (z1:zu K9)
 | h14b (b4:Sem Sh.bool) (z0:zu zF) (z1:zu K9)
abbrev Ac:mj→Nat×St
 | .h14 z0 z1=>(14,⟨tm 117 [(0,AV.ptr 0 0),(1,AV.ptr 1 0),(4,AV.kb true)],[AO.box (bn [] zF z0),AO.box (bn [2] K9 z1),AO.vec Sh.str z1.2.2.2.1]⟩)
 | .h14b b4 z0 z1=>(14,⟨tm 117 [(0,AV.ptr 0 0),(1,AV.ptr 1 0),(4,AV.bool b4)],[AO.box (bn [] zF z0),AO.box (bn [2] K9 z1),AO.vec Sh.str z1.2.2.2.1]⟩)
theorem RK:zz At.P 115 Tryz.f115 2:=aG (by kernel_rfl)
def Hi (y:zu zF) (z:zu dM):Tr (mj ⊕ au):=
 let a0:=(y.1,y.2.1,y.2.2.1,())
 let a1:=aV a0 [67,79,80,89]
 let a2:=(a1.2.1,a1.2.2.1,a1.2.2.2.1,())
 let a3:=ay a2
 let a4:=(a3.2.1,a3.2.2.1,a3.2.2.2.1,())
 let a5:=zR a4 [70,82,79,77]
 let a6:=(a5.1,a5.2.1,a5.2.2.1,())
 let a7:=ay a6
 let a8:=(a7.2.1,a7.2.2.1,a7.2.2.2.1,())
 let a9:=([],z.2.2.2)
 let a10:=zR a8 [44]
 let a11:=(a10.1,a10.2.1,a10.2.2.1,())
 let a12:=ay a11
 let a13:=(a12.2.1,a12.2.2.1,a12.2.2.2.1,())
 let a14:=zR a13 [79,78]
 let a15:=(a14.1,a14.2.1,a14.2.2.1,())
 let a16:=ay a15
 let a17:=(a16.2.1,a16.2.2.1,a16.2.2.2.1,())
 let a18:=cF a17 [67,72,69,67,75]
 let a19:=zR a8 [66,89]
 let a20:=(a19.1,a19.2.1,a19.2.2.1,())
 let a21:=ay a20
 let a22:=[a21.1]
 let a23:=(a21.2.1,a21.2.2.1,a21.2.2.2.1,())
 let a24:=zR a23 [83,85,77]
 let a25:=(a24.1,a24.2.1,a24.2.2.1,())
 let a26:=ay a25
 let a27:=[a26.1]
 let a28:=(a26.2.1,a26.2.2.1,a26.2.2.2.1,())
 let a29:=cF a28 [67,72,69,67,75]
 let a30:=cF a8 [67,72,69,67,75]
 let a31:=aV a2 [74,79,73,78]
 let a32:=(a31.2.1,a31.2.2.1,a31.2.2.2.1,())
 let a33:=ay a32
 let a34:=(a33.2.1,a33.2.2.1,a33.2.2.2.1,())
 let a35:=zR a34 [70,82,79,77]
 let a36:=(a35.1,a35.2.1,a35.2.2.1,())
 let a37:=ay a36
 let a38:=(a37.2.1,a37.2.2.1,a37.2.2.2.1,())
 let a39:=zR a38 [44]
 let a40:=(a39.1,a39.2.1,a39.2.2.1,())
 let a41:=ay a40
 let a42:=(a41.2.1,a41.2.2.1,a41.2.2.2.1,())
 let a43:=zR a42 [79,78]
 let a44:=(a43.1,a43.2.1,a43.2.2.1,())
 let a45:=ay a44
 let a46:=(a45.2.1,a45.2.2.1,a45.2.2.2.1,())
 let a47:=cF a46 [67,72,69,67,75]
 let a48:=zR a38 [66,89]
 let a49:=(a48.1,a48.2.1,a48.2.2.1,())
 let a50:=ay a49
 let a51:=[a50.1]
 let a52:=(a50.2.1,a50.2.2.1,a50.2.2.2.1,())
 let a53:=zR a52 [83,85,77]
 let a54:=(a53.1,a53.2.1,a53.2.2.1,())
 let a55:=ay a54
 let a56:=[a55.1]
 let a57:=(a55.2.1,a55.2.2.1,a55.2.2.2.1,())
 let a58:=cF a57 [67,72,69,67,75]
 let a59:=cF a38 [67,72,69,67,75]
 let a60:=aV a32 [71,82,79,85,80]
 let a61:=(a60.2.1,a60.2.2.1,a60.2.2.2.1,())
 let a62:=ay a61
 let a63:=(a62.2.1,a62.2.2.1,a62.2.2.2.1,())
 let a64:=zR a63 [70,82,79,77]
 let a65:=(a64.1,a64.2.1,a64.2.2.1,())
 let a66:=ay a65
 let a67:=(a66.2.1,a66.2.2.1,a66.2.2.2.1,())
 let a68:=zR a67 [44]
 let a69:=(a68.1,a68.2.1,a68.2.2.1,())
 let a70:=ay a69
 let a71:=(a70.2.1,a70.2.2.1,a70.2.2.2.1,())
 let a72:=zR a71 [79,78]
 let a73:=(a72.1,a72.2.1,a72.2.2.1,())
 let a74:=ay a73
 let a75:=(a74.2.1,a74.2.2.1,a74.2.2.2.1,())
 let a76:=cF a75 [67,72,69,67,75]
 let a77:=zR a67 [66,89]
 let a78:=(a77.1,a77.2.1,a77.2.2.1,())
 let a79:=ay a78
 let a80:=[a79.1]
 let a81:=(a79.2.1,a79.2.2.1,a79.2.2.2.1,())
 let a82:=zR a81 [83,85,77]
 let a83:=(a82.1,a82.2.1,a82.2.2.1,())
 let a84:=ay a83
 let a85:=[a84.1]
 let a86:=(a84.2.1,a84.2.2.1,a84.2.2.2.1,())
 let a87:=cF a86 [67,72,69,67,75]
 let a88:=cF a67 [67,72,69,67,75]
 let a89:=(a60.2.1,a60.2.2.1,false,())
 let a90:=ay a89
 let a91:=(a90.2.1,a90.2.2.1,a90.2.2.2.1,())
 let a92:=zR a91 [70,82,79,77]
 let a93:=(a92.1,a92.2.1,a92.2.2.1,())
 let a94:=ay a93
 let a95:=(a94.2.1,a94.2.2.1,a94.2.2.2.1,())
 let a96:=zR a95 [44]
 let a97:=(a96.1,a96.2.1,a96.2.2.1,())
 let a98:=ay a97
 let a99:=(a98.2.1,a98.2.2.1,a98.2.2.2.1,())
 let a100:=zR a99 [79,78]
 let a101:=(a100.1,a100.2.1,a100.2.2.1,())
 let a102:=ay a101
 let a103:=(a102.2.1,a102.2.2.1,a102.2.2.2.1,())
 let a104:=cF a103 [67,72,69,67,75]
 let a105:=zR a95 [66,89]
 let a106:=(a105.1,a105.2.1,a105.2.2.1,())
 let a107:=ay a106
 let a108:=[a107.1]
 let a109:=(a107.2.1,a107.2.2.1,a107.2.2.2.1,())
 let a110:=zR a109 [83,85,77]
 let a111:=(a110.1,a110.2.1,a110.2.2.1,())
 let a112:=ay a111
 let a113:=[a112.1]
 let a114:=(a112.2.1,a112.2.2.1,a112.2.2.2.1,())
 let a115:=cF a114 [67,72,69,67,75]
 let a116:=cF a95 [67,72,69,67,75]
 Tr.chk (aD a0 [67,79,80,89])
 (Tr.br a1.1
  (Tr.chk (zV a2) (Tr.chk (zI a4 [70,82,79,77]) (Tr.chk (zV a6) (Tr.br true (Tr.chk (zI a8 [40]) (Tr.to (mj.h14 (zR a8 [40]) ([99,111,112,121],a3.1,a7.1,a9)))) (Tr.br false (Tr.chk (zI a8 [44]) (Tr.chk (zV a11) (Tr.chk (zI a13 [79,78]) (Tr.chk (zV a15) (Tr.chk (bR a17 [67,72,69,67,75]) (Tr.re (AV.tup []) (aL zF jc a18.2
  ([99,111,112,121],a3.1,a7.1,[],a16.1,a18.1,z.2.2.2.2.2.2.2.2.2.1,z.2.2.2.2.2.2.2.2.2.2.1,z.2.2.2.2.2.2.2.2.2.2.2.1,z.2.2.2.2.2.2.2.2.2.2.2.2.1,z.2.2.2.2.2.2.2.2.2.2.2.2.2.1,a12.1,())))))))) (Tr.br false (Tr.chk (zI a8 [66,89]) (Tr.chk (zV a20) (Tr.chk (decide (a22.length≤1073741824)) (Tr.chk (zI a23 [83,85,77]) (Tr.chk (zV a25)
  (Tr.chk (decide (a22.length+a27.length≤1073741824)) (Tr.chk (bR a28 [67,72,69,67,75]) (Tr.re (AV.tup []) (aL zF jc a29.2 ([99,111,112,121],a3.1,a7.1,a22++a27,z.2.2.2.1,a29.1,z.2.2.2.2.2.2.2.2.2)))))))))) (Tr.chk (bR a8 [67,72,69,67,75]) (Tr.re (AV.tup []) (aL zF jc a30.2
  ([99,111,112,121],a3.1,a7.1,[],z.2.2.2.1,a30.1,z.2.2.2.2.2.2.2.2.2))))))))))
  (Tr.chk (aD a2 [74,79,73,78]) (Tr.br a31.1 (Tr.chk (zV a32) (Tr.chk (zI a34 [70,82,79,77]) (Tr.chk (zV a36) (Tr.br false (Tr.chk (zI a38 [40]) (Tr.to (mj.h14 (zR a38 [40]) ([106,111,105,110],a33.1,a37.1,a9)))) (Tr.br true (Tr.chk (zI a38 [44]) (Tr.chk (zV a40) (Tr.chk (zI a42 [79,78]) (Tr.chk (zV a44)
  (Tr.chk (bR a46 [67,72,69,67,75]) (Tr.re (AV.tup []) (aL zF jc a47.2 ([106,111,105,110],a33.1,a37.1,[],a45.1,a47.1,z.2.2.2.2.2.2.2.2.2.1,z.2.2.2.2.2.2.2.2.2.2.1,z.2.2.2.2.2.2.2.2.2.2.2.1,z.2.2.2.2.2.2.2.2.2.2.2.2.1,z.2.2.2.2.2.2.2.2.2.2.2.2.2.1,a41.1,())))))))) (Tr.br false (Tr.chk (zI a38 [66,89]) (Tr.chk (zV a49)
  (Tr.chk (decide (a51.length≤1073741824)) (Tr.chk (zI a52 [83,85,77]) (Tr.chk (zV a54) (Tr.chk (decide (a51.length+a56.length≤1073741824)) (Tr.chk (bR a57 [67,72,69,67,75]) (Tr.re (AV.tup []) (aL zF jc a58.2 ([106,111,105,110],a33.1,a37.1,a51++a56,z.2.2.2.1,a58.1,z.2.2.2.2.2.2.2.2.2)))))))))) (Tr.chk (bR a38 [67,72,69,67,75])
  (Tr.re (AV.tup []) (aL zF jc a59.2 ([106,111,105,110],a33.1,a37.1,[],z.2.2.2.1,a59.1,z.2.2.2.2.2.2.2.2.2)))))))))) (Tr.chk (aD a32 [71,82,79,85,80]) (Tr.br a60.1 (Tr.chk (zV a61) (Tr.chk (zI a63 [70,82,79,77]) (Tr.chk (zV a65) (Tr.br false (Tr.chk (zI a67 [40]) (Tr.to (mj.h14 (zR a67 [40]) ([103,114,111,117,112],a62.1,a66.1,a9))))
  (Tr.br false (Tr.chk (zI a67 [44]) (Tr.chk (zV a69) (Tr.chk (zI a71 [79,78]) (Tr.chk (zV a73) (Tr.chk (bR a75 [67,72,69,67,75]) (Tr.re (AV.tup []) (aL zF jc a76.2 ([103,114,111,117,112],a62.1,a66.1,[],a74.1,a76.1,z.2.2.2.2.2.2.2.2.2.1,z.2.2.2.2.2.2.2.2.2.2.1,z.2.2.2.2.2.2.2.2.2.2.2.1,
  z.2.2.2.2.2.2.2.2.2.2.2.2.1,z.2.2.2.2.2.2.2.2.2.2.2.2.2.1,a70.1,())))))))) (Tr.br true (Tr.chk (zI a67 [66,89]) (Tr.chk (zV a78) (Tr.chk (decide (a80.length≤1073741824)) (Tr.chk (zI a81 [83,85,77]) (Tr.chk (zV a83) (Tr.chk (decide (a80.length+a85.length≤1073741824)) (Tr.chk (bR a86 [67,72,69,67,75]) (Tr.re (AV.tup []) (aL zF jc a87.2
  ([103,114,111,117,112],a62.1,a66.1,a80++a85,z.2.2.2.1,a87.1,z.2.2.2.2.2.2.2.2.2)))))))))) (Tr.chk (bR a67 [67,72,69,67,75]) (Tr.re (AV.tup []) (aL zF jc a88.2 ([103,114,111,117,112],a62.1,a66.1,[],z.2.2.2.1,a88.1,z.2.2.2.2.2.2.2.2.2)))))))))) (Tr.chk (zV a89) (Tr.chk (zI a91 [70,82,79,77]) (Tr.chk (zV a93)
  (Tr.br (z.1==[99,111,112,121]) (Tr.chk (zI a95 [40]) (Tr.to (mj.h14 (zR a95 [40]) (z.1,a90.1,a94.1,a9)))) (Tr.br (z.1==[106,111,105,110]) (Tr.chk (zI a95 [44]) (Tr.chk (zV a97) (Tr.chk (zI a99 [79,78]) (Tr.chk (zV a101) (Tr.chk (bR a103 [67,72,69,67,75]) (Tr.re (AV.tup []) (aL zF jc a104.2
  (z.1,a90.1,a94.1,[],a102.1,a104.1,z.2.2.2.2.2.2.2.2.2.1,z.2.2.2.2.2.2.2.2.2.2.1,z.2.2.2.2.2.2.2.2.2.2.2.1,z.2.2.2.2.2.2.2.2.2.2.2.2.1,z.2.2.2.2.2.2.2.2.2.2.2.2.2.1,a98.1,())))))))) (Tr.br (z.1==[103,114,111,117,112]) (Tr.chk (zI a95 [66,89]) (Tr.chk (zV a106) (Tr.chk (decide (a108.length≤1073741824)) (Tr.chk (zI a109 [83,85,77]) (Tr.chk (zV a111)
  (Tr.chk (decide (a108.length+a113.length≤1073741824)) (Tr.chk (bR a114 [67,72,69,67,75]) (Tr.re (AV.tup []) (aL zF jc a115.2 (z.1,a90.1,a94.1,a108++a113,z.2.2.2.1,a115.1,z.2.2.2.2.2.2.2.2.2)))))))))) (Tr.chk (bR a95 [67,72,69,67,75]) (Tr.re (AV.tup []) (aL zF jc a116.2 (z.1,a90.1,a94.1,[],z.2.2.2.1,a116.1,z.2.2.2.2.2.2.2.2.2)))))))))))))))
theorem QI (y:zu zF) (z:zu dM):rn At 2 Co Tryz.f115 [AV.ptr 0 0,AV.ptr 1 0] (aL zF dM y z)=(Hi y z).map (lf Tryz.f115 Ac):=by kernel_rfl
def Js:mj→Tr (mj ⊕ au)
 | .h14 z0 z1=>
  let a0:=(z0.1,z0.2.1,z0.2.2.1,())
  let a1:=ay a0
  let a2:=[a1.1]
  let a3:=(a1.2.1,a1.2.2.1,a1.2.2.2.1,())
  let a4:=aV a3 [44]
  let a5:=zR a0 [41]
  let a6:=(a5.1,a5.2.1,a5.2.2.1,())
  let a7:=cF a6 [67,72,69,67,75]
  Tr.br z0.2.2.1
  (Tr.chk (zV a0)
   (Tr.chk (decide (z1.2.2.2.1.length+a2.length≤1073741824)) (Tr.chk (aD a3 [44]) (Tr.to (mj.h14b a4.1 a4.2 (z1.1,z1.2.1,z1.2.2.1,z1.2.2.2.1++a2,z1.2.2.2.2))))))
  (Tr.chk (zI a0 [41])
   (Tr.chk (bR a6 [67,72,69,67,75]) (Tr.re (AV.tup []) (aL zF jc a7.2 (z1.1,z1.2.1,z1.2.2.1,z1.2.2.2.1,z1.2.2.2.2.1,a7.1,z1.2.2.2.2.2.2.2.2.2.2)))))
 | .h14b b4 z0 z1=>
  let a0:=(z0.1,z0.2.1,z0.2.2.1,())
  let a1:=ay a0
  let a2:=[a1.1]
  let a3:=(a1.2.1,a1.2.2.1,a1.2.2.2.1,())
  let a4:=aV a3 [44]
  let a5:=zR a0 [41]
  let a6:=(a5.1,a5.2.1,a5.2.2.1,())
  let a7:=cF a6 [67,72,69,67,75]
  Tr.br (bif b4 then z0.2.2.1 else false)
  (Tr.chk (zV a0)
   (Tr.chk (decide (z1.2.2.2.1.length+a2.length≤1073741824)) (Tr.chk (aD a3 [44]) (Tr.to (mj.h14b a4.1 a4.2 (z1.1,z1.2.1,z1.2.2.1,z1.2.2.2.1++a2,z1.2.2.2.2))))))
  (Tr.chk (zI a0 [41])
   (Tr.chk (bR a6 [67,72,69,67,75]) (Tr.re (AV.tup []) (aL zF jc a7.2 (z1.1,z1.2.1,z1.2.2.1,z1.2.2.2.1,z1.2.2.2.2.1,a7.1,z1.2.2.2.2.2.2.2.2.2.2)))))
theorem R1:∀ s,run At 2 Co (Func.results Tryz.f115).toList 400 (zx Tryz.f115 (Ac s).1) (Ac s).2=(Js s).map (lf Tryz.f115 Ac)
 | .h14 z0 z1=>by kernel_rfl
 | .h14b b4 z0 z1=>by kernel_rfl
def I8 (y:zu zF) (z:zu dM):Option (zw (List.map some [])×zu zF×zu jc):=A2 [] zF jc Js 100000000 (Hi y z)
def I7 (y:zu zF) (z:zu dM):Bool:=(I8 y z).isSome
def Ou (y:zu zF) (z:zu dM):zu zF×zu jc:=(fun r:zw (List.map some [])×zu zF×zu jc=>r.2) ((I8 y z).getD (bD [],eS zF,eS jc))
def Mz:zB:=Dj zF dM [] [] zF jc (fun y z _=>I7 y z) fun y z _=>((),Ou y z)
theorem JY:FK 115 Mz:=FZ (ps:=zF) (qs:=dM) (ks:=[]) (outs:=[]) (keep:=Co) (gas:=400) (n:=100000000) (e:=Ac) (t:=Js) (i:=fun y z x=>Hi y z) lE RK (fun y z x=>QI y z) R1 (fun _ _ _=>by kernel_rfl) (fun _ _ _=>by kernel_rfl)

end
noncomputable section
def G0:=NT.add 115 Mz
theorem sP:zm G0:=E8.add JY

abbrev XQ:Nat→zS:=fun j=>if j=17 then { slots:=[2,4,6,7,8],prom:=[(7,some 14,zf)] } else if j=25 then { slots:=[2,4,6,7,9] } else { }
inductive yP where
 | h17 (l4:List (Sem zr)) (z0:zu dM) (z1:zu zF) (jc0:List UInt8) (jc1:Sem Sh.str) (jc2:List UInt8) (jc5:List UInt8) (jc8:List UInt8) (jc9:Int) (jc10:Int) (jc11:List UInt8) (jc12:List UInt8) (jc16:List UInt8) (jc17:Int) (jc18:Int) (jc19:List UInt8) (jc20:List UInt8) (jc22:List UInt8) (lh_3:List (Sem zf))
 | h25 (l4:List (Sem zr)) (z0:zu dM) (z1:zu zF) (z2:zu dM)
 | h17b (l4:List (Sem zr)) (b8:Sem Sh.bool) (z0:zu dM) (z1:zu zF) (jc0:List UInt8) (jc1:Sem Sh.str) (jc2:List UInt8) (jc5:List UInt8) (jc8:List UInt8) (jc9:Int) (jc10:Int) (jc11:List UInt8) (jc12:List UInt8) (jc16:List UInt8) (jc17:Int) (jc18:Int) (jc19:List UInt8) (jc20:List UInt8) (jc22:List UInt8) (lh_3:List (Sem zf))
abbrev Z3:yP→Nat×St
 | .h17 l4 z0 z1 jc0 jc1 jc2 jc5 jc8 jc9 jc10 jc11 jc12 jc16 jc17 jc18 jc19 jc20 jc22 lh_3=>(17,⟨tm 172 [(2,AV.ptr 0 0),(4,AV.sl zr l4),(6,AV.ptr 1 0),(7,AV.ptr 2 0),(8,AV.kb true)],[AO.box (bn [] dM z0),AO.box (bn [] zF z1),AO.box [AV.str jc0,AV.str jc1,AV.str jc2,AV.nils,AV.nils,AV.str jc5,AV.nils,AV.nils,AV.str jc8,AV.int .i64 jc9,AV.int .i64 jc10,AV.str jc11,AV.str jc12,AV.nils,AV.vec 3,AV.nils,AV.str jc16,AV.int .i64 jc17,AV.int .i64 jc18,AV.str jc19,AV.str jc20,AV.nils,AV.str jc22],AO.vec zf lh_3]⟩)
 | .h25 l4 z0 z1 z2=>(25,⟨tm 172 [(2,AV.ptr 0 0),(4,AV.sl zr l4),(6,AV.ptr 1 0),(7,AV.ptr 2 0),(9,AV.kb true)],[AO.box (bn [] dM z0),AO.box (bn [] zF z1),AO.box (bn [] dM z2)]⟩)
 | .h17b l4 b8 z0 z1 jc0 jc1 jc2 jc5 jc8 jc9 jc10 jc11 jc12 jc16 jc17 jc18 jc19 jc20 jc22 lh_3=>(17,⟨tm 172 [(2,AV.ptr 0 0),(4,AV.sl zr l4),(6,AV.ptr 1 0),(7,AV.ptr 2 0),(8,AV.bool b8)],[AO.box (bn [] dM z0),AO.box (bn [] zF z1),AO.box [AV.str jc0,AV.str jc1,AV.str jc2,AV.nils,AV.nils,AV.str jc5,AV.nils,AV.nils,AV.str jc8,AV.int .i64 jc9,AV.int .i64 jc10,AV.str jc11,AV.str jc12,AV.nils,AV.vec 3,AV.nils,AV.str jc16,AV.int .i64 jc17,AV.int .i64 jc18,AV.str jc19,AV.str jc20,AV.nils,AV.str jc22],AO.vec zf lh_3]⟩)
def zbo (x0:Sem Sh.str):Tr (yP ⊕ au):=
 let a0:=((wA x0).1,0,true,())
 let a1:=aV a0 [67,82,69,65,84,69]
 let a2:=(a1.2.1,a1.2.2.1,a1.2.2.2.1,())
 let a3:=Bg a2 ([],[],[],[],[],0,0,[],[],[],0,0,[],[],[],())
 let a4:=(↑(length (wA x0).1):Int)
 let a5:=(a3.2.1,a3.2.2.1,a3.2.2.2.1,[],a3.2.2.2.2.1,a3.2.2.2.2.2.1,a3.2.2.2.2.2.2.1,a3.2.2.2.2.2.2.2.1,zC a3.2.2.2.2.2.2.2.2.1,[],[],ze.mk a3.2.2.2.2.2.2.2.2.2.1 (a3.2.2.2.2.2.2.2.2.2.2.1,a3.2.2.2.2.2.2.2.2.2.2.2.1,a3.2.2.2.2.2.2.2.2.2.2.2.2.1) a3.2.2.2.2.2.2.2.2.2.2.2.2.2.1 [],a3.2.2.2.2.2.2.2.2.2.2.2.2.2.2.1)
 let a6:=lg a5
 let a7:=aV a2 [68,82,79,80]
 let a8:=(a7.2.1,a7.2.2.1,a7.2.2.2.1,())
 let a9:=zR a8 [84,65,66,76,69]
 let a10:=(a9.1,a9.2.1,a9.2.2.1,())
 let a11:=ay a10
 let a12:=([100,114,111,112],a11.1,[],[],[],[],[],[],ze.mk [] (0,0,[]) [] [],[],[],ze.mk [] (0,0,[]) [] [],[])
 let a13:=lg a12
 let a14:=aV a8 [73,78,83,69,82,84]
 let a15:=(a14.2.1,a14.2.2.1,a14.2.2.2.1,())
 let a16:=zR a15 [73,78,84,79]
 let a17:=(a16.1,a16.2.1,a16.2.2.1,())
 let a18:=ay a17
 let a19:=(a18.2.1,a18.2.2.1,a18.2.2.2.1,())
 let a20:=zR a19 [86,65,76,85,69,83]
 let a21:=(a20.1,a20.2.1,a20.2.2.1,())
 let a22:=aV a15 [85,80,68,65,84,69]
 let a23:=(a22.2.1,a22.2.2.1,a22.2.2.2.1,())
 let a24:=ay a23
 let a25:=(a24.2.1,a24.2.2.1,a24.2.2.2.1,())
 let a26:=aV a23 [68,69,76,69,84,69]
 let a27:=(a26.2.1,a26.2.2.1,a26.2.2.2.1,())
 let a28:=zR a27 [70,82,79,77]
 let a29:=(a28.1,a28.2.1,a28.2.2.1,())
 let a30:=ay a29
 let a31:=(a30.2.1,a30.2.2.1,a30.2.2.2.1,())
 let a32:=cF a31 [87,72,69,82,69]
 let a33:=([100,101,108,101,116,101],a30.1,[],[],[],[],[],[],ze.mk [] (0,0,[]) [] [],[],[],zC a32.1,[])
 let a34:=lg a33
 let a35:=aV a27 [83,69,76,69,67,84]
 let a36:=(a35.2.1,a35.2.2.1,a35.2.2.2.1,())
 let a37:=zR a36 [42]
 let a38:=(a37.1,a37.2.1,a37.2.2.1,())
 let a39:=zR a38 [70,82,79,77]
 let a40:=(a39.1,a39.2.1,a39.2.2.1,())
 let a41:=ay a40
 let a42:=(a41.2.1,a41.2.2.1,a41.2.2.2.1,())
 let a43:=cF a42 [87,72,69,82,69]
 let a44:=([115,101,108,101,99,116],a41.1,[],[],[],[],[],[],ze.mk [] (0,0,[]) [] [],[],[],zC a43.1,[])
 let a45:=lg a44
 let a46:=aV a36 [71,82,65,78,84]
 let a47:=(a46.2.1,a46.2.2.1,a46.2.2.2.1,())
 let a48:=lh a47 [82,69,65,68]
 let a49:=aV a47 [82,69,86,79,75,69]
 let a50:=(a49.2.1,a49.2.2.1,a49.2.2.2.1,())
 let a51:=lh a50 [82,69,65,68]
 let a52:=aV a50 [77,73,71,82,65,84,69]
 let a53:=(a52.2.1,a52.2.2.1,a52.2.2.2.1,())
 let a54:=Ou a53 ([],[],[],[],[],0,0,[],[],[],0,0,[],[],[],())
 let a55:=(a54.2.1,a54.2.2.1,a54.2.2.2.1,a54.2.2.2.2.1,[],a54.2.2.2.2.2.1,[],[],zC a54.2.2.2.2.2.2.1,[],[],ze.mk a54.2.2.2.2.2.2.2.1 (a54.2.2.2.2.2.2.2.2.1,a54.2.2.2.2.2.2.2.2.2.1,a54.2.2.2.2.2.2.2.2.2.2.1) a54.2.2.2.2.2.2.2.2.2.2.2.1 [],a54.2.2.2.2.2.2.2.2.2.2.2.2.1)
 let a56:=lg a55
 Tr.chk (IZ x0)
 (Tr.br (!(wA x0).2)
  (Tr.re (AV.tup [AV.agg [AV.str [],AV.str [],AV.str [],AV.nils,AV.nils,AV.str [],AV.nils,AV.nils,AV.str [],AV.int .i64 0,AV.int .i64 0,AV.str [],AV.str [],AV.nils,AV.nils,AV.nils,AV.str [],AV.int .i64 0,AV.int .i64 0,AV.str [],AV.str [],AV.nils,AV.str []],AV.kb false]) [])
  (Tr.chk (aD a0 [67,82,69,65,84,69]) (Tr.br a1.1 (Tr.chk (wC a2 ([],[],[],[],[],0,0,[],[],[],0,0,[],[],[],())) (Tr.br (bif !a3.1.2.2.1 then true else a3.1.2.1 != a4) (Tr.re (AV.tup [AV.agg [AV.str [],AV.str [],AV.str [],AV.nils,AV.nils,AV.str [],AV.nils,AV.nils,AV.str [],AV.int .i64 0,AV.int .i64 0,
  AV.str [],AV.str [],AV.nils,AV.nils,AV.nils,AV.str [],AV.int .i64 0,AV.int .i64 0,AV.str [],AV.str [],AV.nils,AV.str []],AV.kb false]) []) (Tr.chk (iE a5) (Tr.br (!a6.2) (Tr.re (AV.tup [AV.agg [AV.str [],AV.str [],AV.str [],AV.nils,AV.nils,AV.str [],AV.nils,AV.nils,AV.str [],AV.int .i64 0,AV.int .i64 0,
  AV.str [],AV.str [],AV.nils,AV.nils,AV.nils,AV.str [],AV.int .i64 0,AV.int .i64 0,AV.str [],AV.str [],AV.nils,AV.str []],AV.kb false]) []) (Tr.re (AV.tup [AV.agg [AV.str a3.2.1,AV.str a3.2.2.1,AV.str a3.2.2.2.1,AV.nils,AV.vec 0,AV.str a3.2.2.2.2.2.1,AV.vec 1,AV.vec 2,AV.str (ze.op a3.2.2.2.2.2.2.2.2.1),AV.int .i64 (ze.v a3.2.2.2.2.2.2.2.2.1).1,
  AV.int .i64 (ze.v a3.2.2.2.2.2.2.2.2.1).2.1,AV.str (ze.v a3.2.2.2.2.2.2.2.2.1).2.2,AV.str (ze.s a3.2.2.2.2.2.2.2.2.1),AV.sl Sh.expr (ze.l a3.2.2.2.2.2.2.2.2.1),AV.nils,AV.nils,AV.str a3.2.2.2.2.2.2.2.2.2.1,AV.int .i64 a3.2.2.2.2.2.2.2.2.2.2.1,AV.int .i64 a3.2.2.2.2.2.2.2.2.2.2.2.1,AV.str a3.2.2.2.2.2.2.2.2.2.2.2.2.1,AV.str a3.2.2.2.2.2.2.2.2.2.2.2.2.2.1,AV.nils,
  AV.str a3.2.2.2.2.2.2.2.2.2.2.2.2.2.2.1],AV.kb true]) [AO.vec zi a3.2.2.2.2.1,AO.vec Sh.str a3.2.2.2.2.2.2.1,AO.vec (Sh.str.pr Sh.str) a3.2.2.2.2.2.2.2.1]))))) (Tr.chk (aD a2 [68,82,79,80]) (Tr.br a7.1 (Tr.chk (zI a8 [84,65,66,76,69]) (Tr.chk (zV a10) (Tr.br (bif !a11.2.2.2.1 then true else a11.2.2.1 != a4) (Tr.re (AV.tup [AV.agg
  [AV.str [],AV.str [],AV.str [],AV.nils,AV.nils,AV.str [],AV.nils,AV.nils,AV.str [],AV.int .i64 0,AV.int .i64 0,AV.str [],AV.str [],AV.nils,AV.nils,AV.nils,AV.str [],AV.int .i64 0,AV.int .i64 0,AV.str [],AV.str [],AV.nils,AV.str []],AV.kb false]) []) (Tr.chk (iE a12) (Tr.br (!a13.2) (Tr.re (AV.tup [AV.agg
  [AV.str [],AV.str [],AV.str [],AV.nils,AV.nils,AV.str [],AV.nils,AV.nils,AV.str [],AV.int .i64 0,AV.int .i64 0,AV.str [],AV.str [],AV.nils,AV.nils,AV.nils,AV.str [],AV.int .i64 0,AV.int .i64 0,AV.str [],AV.str [],AV.nils,AV.str []],AV.kb false]) []) (Tr.re (AV.tup [AV.agg
  [AV.str [100,114,111,112],AV.str a11.1,AV.str [],AV.nils,AV.nils,AV.str [],AV.nils,AV.nils,AV.str [],AV.int .i64 0,AV.int .i64 0,AV.str [],AV.str [],AV.nils,AV.nils,AV.nils,AV.str [],AV.int .i64 0,AV.int .i64 0,AV.str [],AV.str [],AV.nils,AV.str []],AV.kb true]) [])))))) (Tr.chk (aD a8 [73,78,83,69,82,84]) (Tr.br a14.1 (Tr.chk (zI a15 [73,78,84,79])
  (Tr.chk (zV a17) (Tr.chk (zI a19 [86,65,76,85,69,83]) (Tr.chk (zI a21 [40]) (Tr.to (yP.h17 (wA x0).1 ([],[],[],[],[],0,0,[],[],[],0,0,[],[],[],()) (zR a21 [40]) [105,110,115,101,114,116] a18.1 [] [] [] 0 0 [] [] [] 0 0 [] [] [] [])))))) (Tr.chk (aD a15 [85,80,68,65,84,69]) (Tr.br a22.1 (Tr.chk (zV a23)
  (Tr.chk (zI a25 [83,69,84]) (Tr.to (yP.h25 (wA x0).1 ([],[],[],[],[],0,0,[],[],[],0,0,[],[],[],()) (zR a25 [83,69,84]) ([117,112,100,97,116,101],a24.1,[],[],[],0,0,[],[],[],0,0,[],[],[],()))))) (Tr.chk (aD a23 [68,69,76,69,84,69]) (Tr.br a26.1 (Tr.chk (zI a27 [70,82,79,77]) (Tr.chk (zV a29)
  (Tr.chk (bR a31 [87,72,69,82,69]) (Tr.br (bif !a32.2.2.2.1 then true else a32.2.2.1 != a4) (Tr.re (AV.tup [AV.agg [AV.str [],AV.str [],AV.str [],AV.nils,AV.nils,AV.str [],AV.nils,AV.nils,AV.str [],AV.int .i64 0,AV.int .i64 0,AV.str [],AV.str [],AV.nils,AV.nils,AV.nils,AV.str [],AV.int .i64 0,AV.int .i64 0,AV.str [],AV.str [],AV.nils,AV.str []],AV.kb false]) [])
  (Tr.chk (iE a33) (Tr.br (!a34.2) (Tr.re (AV.tup [AV.agg [AV.str [],AV.str [],AV.str [],AV.nils,AV.nils,AV.str [],AV.nils,AV.nils,AV.str [],AV.int .i64 0,AV.int .i64 0,AV.str [],AV.str [],AV.nils,AV.nils,AV.nils,AV.str [],AV.int .i64 0,AV.int .i64 0,AV.str [],AV.str [],AV.nils,AV.str []],AV.kb false]) []) (Tr.re (AV.tup [AV.agg
  [AV.str [100,101,108,101,116,101],AV.str a30.1,AV.str [],AV.nils,AV.nils,AV.str [],AV.nils,AV.nils,AV.str [],AV.int .i64 0,AV.int .i64 0,AV.str [],AV.str [],AV.nils,AV.nils,AV.nils,AV.str (ze.op a32.1),AV.int .i64 (ze.v a32.1).1,AV.int .i64 (ze.v a32.1).2.1,AV.str (ze.v a32.1).2.2,AV.str (ze.s a32.1),AV.sl Sh.expr (ze.l a32.1),AV.str []],
  AV.kb true]) []))))))) (Tr.chk (aD a27 [83,69,76,69,67,84]) (Tr.br a35.1 (Tr.chk (zI a36 [42]) (Tr.chk (zI a38 [70,82,79,77]) (Tr.chk (zV a40) (Tr.chk (bR a42 [87,72,69,82,69]) (Tr.br (bif !a43.2.2.2.1 then true else a43.2.2.1 != a4) (Tr.re (AV.tup [AV.agg
  [AV.str [],AV.str [],AV.str [],AV.nils,AV.nils,AV.str [],AV.nils,AV.nils,AV.str [],AV.int .i64 0,AV.int .i64 0,AV.str [],AV.str [],AV.nils,AV.nils,AV.nils,AV.str [],AV.int .i64 0,AV.int .i64 0,AV.str [],AV.str [],AV.nils,AV.str []],AV.kb false]) []) (Tr.chk (iE a44) (Tr.br (!a45.2) (Tr.re (AV.tup [AV.agg
  [AV.str [],AV.str [],AV.str [],AV.nils,AV.nils,AV.str [],AV.nils,AV.nils,AV.str [],AV.int .i64 0,AV.int .i64 0,AV.str [],AV.str [],AV.nils,AV.nils,AV.nils,AV.str [],AV.int .i64 0,AV.int .i64 0,AV.str [],AV.str [],AV.nils,AV.str []],AV.kb false]) []) (Tr.re (AV.tup [AV.agg
  [AV.str [115,101,108,101,99,116],AV.str a41.1,AV.str [],AV.nils,AV.nils,AV.str [],AV.nils,AV.nils,AV.str [],AV.int .i64 0,AV.int .i64 0,AV.str [],AV.str [],AV.nils,AV.nils,AV.nils,AV.str (ze.op a43.1),AV.int .i64 (ze.v a43.1).1,AV.int .i64 (ze.v a43.1).2.1,AV.str (ze.v a43.1).2.2,AV.str (ze.s a43.1),AV.sl Sh.expr (ze.l a43.1),AV.str []],
  AV.kb true]) [])))))))) (Tr.chk (aD a36 [71,82,65,78,84]) (Tr.br a46.1 (Tr.chk (iP a47 [82,69,65,68]) (Tr.br a48.1 Tr.err Tr.err)) (Tr.chk (aD a47 [82,69,86,79,75,69]) (Tr.br a49.1 (Tr.chk (iP a50 [82,69,65,68]) (Tr.br a51.1 Tr.err Tr.err)) (Tr.chk (aD a50 [77,73,71,82,65,84,69]) (Tr.br a52.1
  (Tr.chk (I7 a53 ([],[],[],[],[],0,0,[],[],[],0,0,[],[],[],())) (Tr.br (bif !a54.1.2.2.1 then true else a54.1.2.1 != a4) (Tr.re (AV.tup [AV.agg [AV.str [],AV.str [],AV.str [],AV.nils,AV.nils,AV.str [],AV.nils,AV.nils,AV.str [],AV.int .i64 0,AV.int .i64 0,AV.str [],AV.str [],AV.nils,AV.nils,AV.nils,AV.str [],
  AV.int .i64 0,AV.int .i64 0,AV.str [],AV.str [],AV.nils,AV.str []],AV.kb false]) []) (Tr.chk (iE a55) (Tr.br (!a56.2) (Tr.re (AV.tup [AV.agg [AV.str [],AV.str [],AV.str [],AV.nils,AV.nils,AV.str [],AV.nils,AV.nils,AV.str [],AV.int .i64 0,AV.int .i64 0,AV.str [],AV.str [],AV.nils,AV.nils,AV.nils,
  AV.str [],AV.int .i64 0,AV.int .i64 0,AV.str [],AV.str [],AV.nils,AV.str []],AV.kb false]) []) (Tr.re (AV.tup [AV.agg [AV.str a54.2.1,AV.str a54.2.2.1,AV.str a54.2.2.2.1,AV.vec 0,AV.nils,AV.str a54.2.2.2.2.2.1,AV.nils,AV.nils,AV.str (ze.op a54.2.2.2.2.2.2.1),AV.int .i64 (ze.v a54.2.2.2.2.2.2.1).1,AV.int .i64 (ze.v a54.2.2.2.2.2.2.1).2.1,
  AV.str (ze.v a54.2.2.2.2.2.2.1).2.2,AV.str (ze.s a54.2.2.2.2.2.2.1),AV.sl Sh.expr (ze.l a54.2.2.2.2.2.2.1),AV.nils,AV.nils,AV.str a54.2.2.2.2.2.2.2.1,AV.int .i64 a54.2.2.2.2.2.2.2.2.1,AV.int .i64 a54.2.2.2.2.2.2.2.2.2.1,AV.str a54.2.2.2.2.2.2.2.2.2.2.1,AV.str a54.2.2.2.2.2.2.2.2.2.2.2.1,AV.nils,AV.str a54.2.2.2.2.2.2.2.2.2.2.2.2.1],AV.kb true])
  [AO.vec Sh.str a54.2.2.2.2.1]))))) (Tr.br (bif !a52.2.2.2.1 then true else a52.2.2.1 != a4) (Tr.re (AV.tup [AV.agg [AV.str [],AV.str [],AV.str [],AV.nils,AV.nils,AV.str [],AV.nils,AV.nils,AV.str [],AV.int .i64 0,AV.int .i64 0,AV.str [],AV.str [],AV.nils,AV.nils,AV.nils,AV.str [],AV.int .i64 0,AV.int .i64 0,AV.str [],AV.str [],AV.nils,AV.str []],AV.kb false]) [])
  (Tr.chk true (Tr.br true (Tr.re (AV.tup [AV.agg [AV.str [],AV.str [],AV.str [],AV.nils,AV.nils,AV.str [],AV.nils,AV.nils,AV.str [],AV.int .i64 0,AV.int .i64 0,AV.str [],AV.str [],AV.nils,AV.nils,AV.nils,AV.str [],AV.int .i64 0,AV.int .i64 0,AV.str [],AV.str [],AV.nils,AV.str []],AV.kb false]) []) (Tr.re (AV.tup [AV.agg
  [AV.str [],AV.str [],AV.str [],AV.nils,AV.nils,AV.str [],AV.nils,AV.nils,AV.str [],AV.int .i64 0,AV.int .i64 0,AV.str [],AV.str [],AV.nils,AV.nils,AV.nils,AV.str [],AV.int .i64 0,AV.int .i64 0,AV.str [],AV.str [],AV.nils,AV.str []],AV.kb true]) [])))))))))))))))))))))))
def zbY:yP→Tr (yP ⊕ au)
 | .h17 l4 z0 z1 jc0 jc1 jc2 jc5 jc8 jc9 jc10 jc11 jc12 jc16 jc17 jc18 jc19 jc20 jc22 lh_3=>
  let a0:=(z1.1,z1.2.1,z1.2.2.1,())
  let a1:=Ej a0
  let a2:=[a1.1]
  let a3:=(a1.2.1,a1.2.2.1,a1.2.2.2.1,())
  let a4:=aV a3 [44]
  let a5:=zR a0 [41]
  let a6:=(jc0,jc1,jc2,[],[],jc5,[],[],ze.mk jc8 (jc9,jc10,jc11) jc12 [],lh_3,[],ze.mk jc16 (jc17,jc18,jc19) jc20 [],jc22)
  let a7:=lg a6
  Tr.br z1.2.2.1
  (Tr.chk (CR a0) (Tr.chk (decide (lh_3.length+a2.length≤1073741824)) (Tr.chk (aD a3 [44]) (Tr.to (yP.h17b l4 a4.1 z0 a4.2 jc0 jc1 jc2 jc5 jc8 jc9 jc10 jc11 jc12 jc16 jc17 jc18 jc19 jc20 jc22 (lh_3++a2))))))
  (Tr.chk (zI a0 [41]) (Tr.br (bif !a5.2.2.1 then true else a5.2.1 != (↑l4.length:Int)) (Tr.re (AV.tup [AV.agg [AV.str [],AV.str [],AV.str [],AV.nils,AV.nils,AV.str [],AV.nils,AV.nils,AV.str [],AV.int .i64 0,AV.int .i64 0,AV.str [],AV.str [],AV.nils,AV.nils,AV.nils,AV.str [],AV.int .i64 0,AV.int .i64 0,AV.str [],AV.str [],AV.nils,AV.str []],AV.kb false]) [])
  (Tr.chk (iE a6) (Tr.br (!a7.2) (Tr.re (AV.tup [AV.agg [AV.str [],AV.str [],AV.str [],AV.nils,AV.nils,AV.str [],AV.nils,AV.nils,AV.str [],AV.int .i64 0,AV.int .i64 0,AV.str [],AV.str [],AV.nils,AV.nils,AV.nils,AV.str [],AV.int .i64 0,AV.int .i64 0,AV.str [],AV.str [],AV.nils,AV.str []],AV.kb false]) []) (Tr.re (AV.tup [AV.agg
  [AV.str jc0,AV.str jc1,AV.str jc2,AV.nils,AV.nils,AV.str jc5,AV.nils,AV.nils,AV.str jc8,AV.int .i64 jc9,AV.int .i64 jc10,AV.str jc11,AV.str jc12,AV.nils,AV.vec 0,AV.nils,AV.str jc16,AV.int .i64 jc17,AV.int .i64 jc18,AV.str jc19,AV.str jc20,AV.nils,AV.str jc22],AV.kb true]) [AO.vec zf lh_3])))))
 | .h25 l4 _ z1 z2=>
  let a0:=(z1.1,z1.2.1,z1.2.2.1,())
  let a1:=ay a0
  let a2:=cF a0 [87,72,69,82,69]
  let a3:=(z2.1,z2.2.1,z2.2.2.1,[],[],z2.2.2.2.1,[],[],ze.mk z2.2.2.2.2.1 (z2.2.2.2.2.2.1,z2.2.2.2.2.2.2.1,z2.2.2.2.2.2.2.2.1) z2.2.2.2.2.2.2.2.2.1 [],[],[],zC a2.1,z2.2.2.2.2.2.2.2.2.2.2.2.2.2.2.1)
  let a4:=lg a3
  Tr.br z1.2.2.1 (Tr.chk (zV a0) (Tr.chk (zI (a1.2.1,a1.2.2.1,a1.2.2.2.1,()) [61]) Tr.err))
  (Tr.chk (bR a0 [87,72,69,82,69]) (Tr.br (bif !a2.2.2.2.1 then true else a2.2.2.1 != (↑l4.length:Int)) (Tr.re (AV.tup [AV.agg [AV.str [],AV.str [],AV.str [],AV.nils,AV.nils,AV.str [],AV.nils,AV.nils,AV.str [],AV.int .i64 0,AV.int .i64 0,AV.str [],AV.str [],AV.nils,AV.nils,AV.nils,AV.str [],AV.int .i64 0,AV.int .i64 0,AV.str [],AV.str [],AV.nils,AV.str []],
  AV.kb false]) []) (Tr.chk (iE a3) (Tr.br (!a4.2) (Tr.re (AV.tup [AV.agg [AV.str [],AV.str [],AV.str [],AV.nils,AV.nils,AV.str [],AV.nils,AV.nils,AV.str [],AV.int .i64 0,AV.int .i64 0,AV.str [],AV.str [],AV.nils,AV.nils,AV.nils,AV.str [],AV.int .i64 0,AV.int .i64 0,AV.str [],AV.str [],AV.nils,AV.str []],AV.kb false]) []) (Tr.re (AV.tup [AV.agg
  [AV.str z2.1,AV.str z2.2.1,AV.str z2.2.2.1,AV.nils,AV.nils,AV.str z2.2.2.2.1,AV.nils,AV.nils,AV.str z2.2.2.2.2.1,AV.int .i64 z2.2.2.2.2.2.1,AV.int .i64 z2.2.2.2.2.2.2.1,AV.str z2.2.2.2.2.2.2.2.1,AV.str z2.2.2.2.2.2.2.2.2.1,AV.nils,AV.nils,AV.nils,AV.str (ze.op a2.1),AV.int .i64 (ze.v a2.1).1,AV.int .i64 (ze.v a2.1).2.1,
  AV.str (ze.v a2.1).2.2,AV.str (ze.s a2.1),AV.sl Sh.expr (ze.l a2.1),AV.str z2.2.2.2.2.2.2.2.2.2.2.2.2.2.2.1],AV.kb true]) [])))))
 | .h17b l4 b8 z0 z1 jc0 jc1 jc2 jc5 jc8 jc9 jc10 jc11 jc12 jc16 jc17 jc18 jc19 jc20 jc22 lh_3=>
  let a0:=(z1.1,z1.2.1,z1.2.2.1,())
  let a1:=Ej a0
  let a2:=[a1.1]
  let a3:=(a1.2.1,a1.2.2.1,a1.2.2.2.1,())
  let a4:=aV a3 [44]
  let a5:=zR a0 [41]
  let a6:=(jc0,jc1,jc2,[],[],jc5,[],[],ze.mk jc8 (jc9,jc10,jc11) jc12 [],lh_3,[],ze.mk jc16 (jc17,jc18,jc19) jc20 [],jc22)
  let a7:=lg a6
  Tr.br (bif b8 then z1.2.2.1 else false)
  (Tr.chk (CR a0) (Tr.chk (decide (lh_3.length+a2.length≤1073741824)) (Tr.chk (aD a3 [44]) (Tr.to (yP.h17b l4 a4.1 z0 a4.2 jc0 jc1 jc2 jc5 jc8 jc9 jc10 jc11 jc12 jc16 jc17 jc18 jc19 jc20 jc22 (lh_3++a2))))))
  (Tr.chk (zI a0 [41]) (Tr.br (bif !a5.2.2.1 then true else a5.2.1 != (↑l4.length:Int)) (Tr.re (AV.tup [AV.agg [AV.str [],AV.str [],AV.str [],AV.nils,AV.nils,AV.str [],AV.nils,AV.nils,AV.str [],AV.int .i64 0,AV.int .i64 0,AV.str [],AV.str [],AV.nils,AV.nils,AV.nils,AV.str [],AV.int .i64 0,AV.int .i64 0,AV.str [],AV.str [],AV.nils,AV.str []],AV.kb false]) [])
  (Tr.chk (iE a6) (Tr.br (!a7.2) (Tr.re (AV.tup [AV.agg [AV.str [],AV.str [],AV.str [],AV.nils,AV.nils,AV.str [],AV.nils,AV.nils,AV.str [],AV.int .i64 0,AV.int .i64 0,AV.str [],AV.str [],AV.nils,AV.nils,AV.nils,AV.str [],AV.int .i64 0,AV.int .i64 0,AV.str [],AV.str [],AV.nils,AV.str []],AV.kb false]) []) (Tr.re (AV.tup [AV.agg
  [AV.str jc0,AV.str jc1,AV.str jc2,AV.nils,AV.nils,AV.str jc5,AV.nils,AV.nils,AV.str jc8,AV.int .i64 jc9,AV.int .i64 jc10,AV.str jc11,AV.str jc12,AV.nils,AV.vec 0,AV.nils,AV.str jc16,AV.int .i64 jc17,AV.int .i64 jc18,AV.str jc19,AV.str jc20,AV.nils,AV.str jc22],AV.kb true]) [AO.vec zf lh_3])))))
def tR (x0:Sem Sh.str):=aq [zq,Sh.bool] zbY 100000000 (zbo x0)
def I4 (x0:Sem Sh.str):=(tR x0).isSome
def bt (x0:Sem Sh.str):=o2 (tR x0)
def T3:=FT [Sh.str] [zq,Sh.bool] fun x=>tR x.1
theorem PL:FK 62 T3:=sP.T1 (f:=Tryz.f62) (keep:=XQ) (e:=Z3)

def Ww:=G0.add 62 T3
theorem E9:zm Ww:=sP.add PL
end

noncomputable def zbh (x0:Sem Sh.str):Tr (Empty ⊕ au):=
 Tr.chk (I4 x0)
 (Tr.re
  (AV.agg [AV.str (bt x0).1.1,AV.str (bt x0).1.2.1,AV.str (bt x0).1.2.2.1,AV.sl Sh.str (bt x0).1.2.2.2.1,AV.sl zi (bt x0).1.2.2.2.2.1,AV.str (bt x0).1.2.2.2.2.2.1,AV.sl Sh.str (bt x0).1.2.2.2.2.2.2.1,AV.sl (Sh.str.pr Sh.str) (bt x0).1.2.2.2.2.2.2.2.1,AV.str (ze.op (bt x0).1.2.2.2.2.2.2.2.2.1),
  AV.int .i64 (ze.v (bt x0).1.2.2.2.2.2.2.2.2.1).1,AV.int .i64 (ze.v (bt x0).1.2.2.2.2.2.2.2.2.1).2.1,AV.str (ze.v (bt x0).1.2.2.2.2.2.2.2.2.1).2.2,AV.str (ze.s (bt x0).1.2.2.2.2.2.2.2.2.1),AV.sl Sh.expr (ze.l (bt x0).1.2.2.2.2.2.2.2.2.1),AV.sl zf (bt x0).1.2.2.2.2.2.2.2.2.2.1,AV.sl (Sh.str.pr Sh.expr) (bt x0).1.2.2.2.2.2.2.2.2.2.2.1,
  AV.str (ze.op (bt x0).1.2.2.2.2.2.2.2.2.2.2.2.1),AV.int .i64 (ze.v (bt x0).1.2.2.2.2.2.2.2.2.2.2.2.1).1,AV.int .i64 (ze.v (bt x0).1.2.2.2.2.2.2.2.2.2.2.2.1).2.1,AV.str (ze.v (bt x0).1.2.2.2.2.2.2.2.2.2.2.2.1).2.2,AV.str (ze.s (bt x0).1.2.2.2.2.2.2.2.2.2.2.2.1),AV.sl Sh.expr (ze.l (bt x0).1.2.2.2.2.2.2.2.2.2.2.2.1),
  AV.str (bt x0).1.2.2.2.2.2.2.2.2.2.2.2.2])
  [])
noncomputable def X2 (x0:Sem Sh.str):=aq [zq] t0 100000000 (zbh x0)
noncomputable def TG:=FT [Sh.str] [zq] fun x=>X2 x.1
theorem Pp:FK 32 TG:=E9.T1 (f:=Tryz.f32) (keep:=k0) (e:=e0)


noncomputable def MM:zB:=zP (List.replicate 1 none) (bA xv Tryz.f133 (List.replicate 1 none))
theorem Kb:FK 133 MM:=zY _ mU (aG (by kernel_rfl))

noncomputable def M7:zB:=zP (List.replicate 2 none) (bA xv Tryz.f202 (List.replicate 2 none))
theorem Kw:FK 202 M7:=zY _ mU (aG (by kernel_rfl))

noncomputable def BY:=xv.addL [(133,MM),(202,M7)]
theorem sC:zm BY:=mU.addL <| fc Kb <| fc Kw <|  gX

noncomputable def MO:zB:=zP (List.replicate 3 none) (bA BY Tryz.f134 (List.replicate 3 none))
theorem Kd:FK 134 MO:=zY _ sC (aG (by kernel_rfl))

noncomputable def sD:=BY.add 134 MO
theorem sE:zm sD:=sC.add Kd

abbrev HR:=my [(1,[0,1,2,3,8]),(4,[0,1,2,3,8,9])]
inductive pP where
 | h1 (i1:Int) (i2:Int) (i3f_0_0:Int) (i8:Int) (lh_0:List (Sem zf.sl))
 | h4 (i1:Int) (i2:Int) (i3f_0_0:Int) (i8:Int) (i9:Int) (lh_0:List (Sem zf.sl))
abbrev Ag:pP→Nat×St
 | .h1 i1 i2 i3f_0_0 i8 lh_0=>(1,⟨tm 53 [(0,AV.vec 0),(1,AV.int .i64 i1),(2,AV.int .i64 i2),(3,AV.clo (Fn.func 134) [AV.agg [AV.int .i64 i3f_0_0]] []),(8,AV.int .i64 i8)],[AO.vec zf.sl lh_0]⟩)
 | .h4 i1 i2 i3f_0_0 i8 i9 lh_0=>(4,⟨tm 53 [(0,AV.vec 0),(1,AV.int .i64 i1),(2,AV.int .i64 i2),(3,AV.clo (Fn.func 134) [AV.agg [AV.int .i64 i3f_0_0]] []),(8,AV.int .i64 i8),(9,AV.int .i64 i9)],[AO.vec zf.sl lh_0]⟩)
theorem RV:zz sD.P 248 Tryz.f248 4:=aG (by kernel_rfl)
noncomputable def Hq (l:List (List (Sem zf))) (a:Int) (b:Int) (k:Int):Tr (pP ⊕ au):=
 Tr.to (pP.h1 a b k (IntKind.i64.wrap (a+1)) l)
theorem QV (l:List (List (Sem zf))) (a:Int) (b:Int) (k:Int):rn sD 1 HR Tryz.f248 [AV.vec 0,AV.int .i64 a,AV.int .i64 b,AV.clo (Fn.func 134) [AV.agg [AV.int .i64 k]] []] [AO.vec (Sh.sl zf) l]=(Hq l a b k).map (lf Tryz.f248 Ag):=by kernel_rfl
noncomputable def Jx:pP→Tr (pP ⊕ au)
 | .h1 i1 i2 i3f_0_0 i8 lh_0=>
  Tr.br (decide (i8 < i2)) (Tr.to (pP.h4 i1 i2 i3f_0_0 i8 i8 lh_0))
  (Tr.re (AV.tup []) [AO.vec zf.sl lh_0])
 | .h4 i1 i2 i3f_0_0 i8 i9 lh_0=>
  let a0:=decide (i9.toNat < lh_0.length)
  let a1:=IntKind.i64.wrap (i9 - 1)
  let a2:=zH a1 lh_0.length
  let a3:=decide (a1.toNat < lh_0.length)
  let a4:=decide (i3f_0_0 < 0)
  let a5:=lh_0.getD i9.toNat (zj zf.sl)
  let a6:=(↑(length a5):Int)
  let a7:=bif a4 then true else decide (i3f_0_0 ≥ a6)
  let a8:=lh_0.getD a1.toNat (zj zf.sl)
  let a9:=(↑(length a8):Int)
  let a10:=bif a4 then true else decide (i3f_0_0 ≥ a9)
  let a11:=bif a10 then true else zH i3f_0_0 (length a8)
  let a12:=getD a8 i3f_0_0.toNat (zj zf)
  let a13:=getD a5 i3f_0_0.toNat (zj zf)
  let a14:=bif a7 then bif a10 then bM (0,0,[]) (0,0,[]) else bM (0,0,[]) a12 else bif a10 then bM a13 (0,0,[]) else bM a13 a12
  let a15:=lh_0.set i9.toNat a8
  Tr.chk (bif decide (i9 > i1) then zH i9 lh_0.length&&(a0&&(a2&&(a3&&bif a7 then a11 else zH i3f_0_0 (length a5)&&a11))) else true)
  (Tr.br (bif decide (i9 > i1) then decide (a14 < 0) else false) (Tr.chk a2 (Tr.chk a3 (Tr.chk (zH i9 lh_0.length) (Tr.chk a0 (Tr.chk (zH i9 lh_0.length) (Tr.chk a0 (Tr.chk (zH a1 a15.length) (Tr.chk (decide (a1.toNat < a15.length)) (Tr.to (pP.h4 i1 i2 i3f_0_0 i8 a1 (a15.set a1.toNat a5))))))))))) (Tr.to (pP.h1 i1 i2 i3f_0_0 (IntKind.i64.wrap (i8+1)) lh_0)))
theorem R5:∀ s,run sD 1 HR (Func.results Tryz.f248).toList 400 (zx Tryz.f248 (Ag s).1) (Ag s).2=(Jx s).map (lf Tryz.f248 Ag):=by intro s; cases s <;> kernel_rfl
noncomputable def Ra (l:List (List (Sem zf))) (a:Int) (b:Int) (k:Int):=cM Jx 100000000 (Hq l a b k)


def yF (r:Option au):Option (List (List (Sem zf))):=match r with
 | some (.tup [],[.vec (.sl tF) l])=>some l
 | _=>none
theorem mc {r:Option au} (h:(yF r).isSome=true):r=some (.tup [],[.vec (.sl zf) ((yF r).getD [])]):=by
 unfold yF at h ⊢
 split at h
 ·rfl
 ·cases h
noncomputable def xL (l:List (List (Sem zf))) (a b k:Int):=yF (Ra l a b k)
noncomputable def Ny:b7 [none,none,none,none]:=fun x h=>match x,h with
 | (.vec 0,.int .i64 a,.int .i64 b,.clo (.func 134) [.agg [.int .i64 k]] [],_),[.vec (.sl tF) l]=>.chk ((xL l a b k).isSome) (.ok (.tup [],[.vec (.sl zf) ((xL l a b k).getD [])]))
 | _,_=>.err
noncomputable def Na:zB:=zP [none,none,none,none] Ny
theorem Kz:FK 248 Na:=by
 refine fG (ι:=List (List (Sem zf))×Int×Int×Int) (args:=fun y=>[AV.vec 0,AV.int .i64 y.2.1,AV.int .i64 y.2.2.1,AV.clo (Fn.func 134) [AV.agg [AV.int .i64 y.2.2.2]] []]) (heap:=fun y=>[AO.vec zf.sl y.1]) (i:=fun y=>Hq y.1 y.2.1 y.2.2.1 y.2.2.2) (t:=Jx) (e:=Ag) (n:=100000000) (n0:=1) sE RV (fun _=>rfl) (fun y=>QV _ _ _ _) R5 (fun x h res hv=>?_)
 unfold Ny at hv
 split at hv
 ·rename_i a b k u l
  simp only [Tr.val] at hv
  split at hv
  ·rename_i h1
   simp only [zZ] at hv
   subst hv
   exact ⟨(l,a,b,k),rfl,rfl,mc h1⟩
  ·cases hv
 ·simp at hv

noncomputable def sF:=sD.add 248 Na
theorem sG:zm sF:=sE.add Kz
noncomputable section

abbrev HU:=my [(1,[0,1,2,3,10])]
inductive vd where
 | h1 (i1:Int) (i2:Int) (i3:Int) (i10:Int) (lh_0:List (Sem zf.sl))
abbrev Aj:vd→Nat×St
 | .h1 i1 i2 i3 i10 lh_0=>(1,⟨tm 38 [(0,AV.vec 0),(1,AV.int .i64 i1),(2,AV.int .i64 i2),(3,AV.int .i64 i3),(10,AV.int .i64 i10)],[AO.vec zf.sl lh_0]⟩)
theorem RX:zz sF.P 293 Tryz.f293 5:=aG (by kernel_rfl)
def Ht (l:List (List (Sem zf))) (a:Int) (b:Int) (n:Int) (_:Int):Tr (vd ⊕ au):=
 Tr.to (vd.h1 a b n 0 l)
theorem Q1 (l:List (List (Sem zf))) (a:Int) (b:Int) (n:Int) (k:Int):rn sF 1 HU Tryz.f293 [AV.vec 0,AV.int .i64 a,AV.int .i64 b,AV.int .i64 n,AV.clo (Fn.func 134) [AV.agg [AV.int .i64 k]] []] [AO.vec (Sh.sl zf) l]=(Ht l a b n k).map (lf Tryz.f293 Aj):=by kernel_rfl
def JA:vd→Tr (vd ⊕ au)
 | .h1 i1 i2 i3 i10 lh_0=>
  let a0:=IntKind.i64.wrap (i2+i10)
  let a1:=IntKind.i64.wrap (i1+i10)
  let a2:=zH a1 lh_0.length
  let a3:=decide (a1.toNat < lh_0.length)
  let a4:=lh_0.set a1.toNat (lh_0.getD a0.toNat (zj zf.sl))
  Tr.br (decide (i10 < i3))
  (Tr.chk (zH a0 lh_0.length) (Tr.chk (decide (a0.toNat < lh_0.length)) (Tr.chk a2 (Tr.chk a3 (Tr.chk a2 (Tr.chk a3 (Tr.chk (zH a0 a4.length) (Tr.chk (decide (a0.toNat < a4.length)) (Tr.to (vd.h1 i1 i2 i3 (IntKind.i64.wrap (i10+1)) (a4.set a0.toNat (lh_0.getD a1.toNat (zj zf.sl)))))))))))))
  (Tr.re (AV.tup []) [AO.vec zf.sl lh_0])
theorem R8:∀ s,run sF 1 HU (Func.results Tryz.f293).toList 400 (zx Tryz.f293 (Aj s).1) (Aj s).2=(JA s).map (lf Tryz.f293 Aj):=by intro s; cases s <;> kernel_rfl
def zbV (l:List (List (Sem zf))) (a:Int) (b:Int) (n:Int) (k:Int):=cM JA 100000000 (Ht l a b n k)

def Jq (l:List (List (Sem zf))) (a b n k:Int):=yF (zbV l a b n k)
def NA:b7 [none,none,none,none,none]:=fun x h=>match x,h with
 | (.vec 0,.int .i64 a,.int .i64 b,.int .i64 n,.clo (.func 134) [.agg [.int .i64 k]] [],_),[.vec (.sl tF) l]=>.chk ((Jq l a b n k).isSome) (.ok (.tup [],[.vec (.sl zf) ((Jq l a b n k).getD [])]))
 | _,_=>.err
def Ni:zB:=zP [none,none,none,none,none] NA
theorem KG:FK 293 Ni:=by
 refine fG (ι:=List (List (Sem zf))×Int×Int×Int×Int) (args:=fun y=>[AV.vec 0,AV.int .i64 y.2.1,AV.int .i64 y.2.2.1,AV.int .i64 y.2.2.2.1,AV.clo (Fn.func 134) [AV.agg [AV.int .i64 y.2.2.2.2]] []]) (heap:=fun y=>[AO.vec zf.sl y.1]) (i:=fun y=>Ht y.1 y.2.1 y.2.2.1 y.2.2.2.1 y.2.2.2.2) (t:=JA) (e:=Aj) (n:=100000000) (n0:=1) sG RX (fun _=>rfl) (fun y=>Q1 _ _ _ _ _) R8 (fun x h res hv=>?_)
 unfold NA at hv
 split at hv
 ·rename_i a b n k u l
  simp only [Tr.val] at hv
  split at hv
  ·rename_i h1
   simp only [zZ] at hv
   subst hv
   exact ⟨(l,a,b,n,k),rfl,rfl,mc h1⟩
  ·cases hv
 ·simp at hv

def AA:=sF.add 293 Ni
theorem v7:zm AA:=sG.add KG
end
noncomputable section

abbrev HT:=my [(2,[0,2,4,10,11])]
inductive rt where
 | h2 (i2:Int) (i4f_0_0:Int) (i10:Int) (i11:Int) (lh_0:List (Sem zf.sl))
abbrev Ai:rt→Nat×St
 | .h2 i2 i4f_0_0 i10 i11 lh_0=>(2,⟨tm 58 [(0,AV.vec 0),(2,AV.int .i64 i2),(4,AV.clo (Fn.func 134) [AV.agg [AV.int .i64 i4f_0_0]] []),(10,AV.int .i64 i10),(11,AV.int .i64 i11)],[AO.vec zf.sl lh_0]⟩)
theorem RW:zz AA.P 277 Tryz.f277 5:=aG (by kernel_rfl)
def Hs (l:List (List (Sem zf))) (a:Int) (m:Int) (b:Int) (k:Int):Tr (rt ⊕ au):=
 Tr.to (rt.h2 m k (IntKind.i64.wrap (m - a)) (IntKind.i64.wrap (b - m)) l)
theorem Q0 (l:List (List (Sem zf))) (a:Int) (m:Int) (b:Int) (k:Int):rn AA 1 HT Tryz.f277 [AV.vec 0,AV.int .i64 a,AV.int .i64 m,AV.int .i64 b,AV.clo (Fn.func 134) [AV.agg [AV.int .i64 k]] []] [AO.vec (Sh.sl zf) l]=(Hs l a m b k).map (lf Tryz.f277 Ai):=by kernel_rfl
def Jz:rt→Tr (rt ⊕ au)
 | .h2 i2 i4f_0_0 i10 i11 lh_0=>
  let a0:=IntKind.i64.wrap (i2 - i10)
  let a1:=Jq lh_0 a0 i2 i11 i4f_0_0
  let a2:=Jq lh_0 a0 (IntKind.i64.wrap (IntKind.i64.wrap (i2+i11) - i10)) i10 i4f_0_0
  let a3:=Jq lh_0 a0 i2 i10 i4f_0_0
  Tr.br (i10 != i11)
  (Tr.br (decide (i10 > i11)) (Tr.chk a1.isSome (Tr.to (rt.h2 i2 i4f_0_0 (IntKind.i64.wrap (i10 - i11)) i11 (a1.getD [])))) (Tr.chk a2.isSome (Tr.to (rt.h2 i2 i4f_0_0 i10 (IntKind.i64.wrap (i11 - i10)) (a2.getD [])))))
  (Tr.chk a3.isSome (Tr.re (AV.tup []) [AO.vec zf.sl (a3.getD [])]))
theorem R7:∀ s,run AA 1 HT (Func.results Tryz.f277).toList 400 (zx Tryz.f277 (Ai s).1) (Ai s).2=(Jz s).map (lf Tryz.f277 Ai):=by intro s; cases s <;> kernel_rfl
def zbT (l:List (List (Sem zf))) (a:Int) (m:Int) (b:Int) (k:Int):=cM Jz 100000000 (Hs l a m b k)

def Sw (l:List (List (Sem zf))) (a m b k:Int):=yF (zbT l a m b k)
def Nz:b7 [none,none,none,none,none]:=fun x h=>match x,h with
 | (.vec 0,.int .i64 a,.int .i64 m,.int .i64 b,.clo (.func 134) [.agg [.int .i64 k]] [],_),[.vec (.sl tF) l]=>.chk ((Sw l a m b k).isSome) (.ok (.tup [],[.vec (.sl zf) ((Sw l a m b k).getD [])]))
 | _,_=>.err
def Nf:zB:=zP [none,none,none,none,none] Nz
theorem KD:FK 277 Nf:=by
 refine fG (ι:=List (List (Sem zf))×Int×Int×Int×Int) (args:=fun y=>[AV.vec 0,AV.int .i64 y.2.1,AV.int .i64 y.2.2.1,AV.int .i64 y.2.2.2.1,AV.clo (Fn.func 134) [AV.agg [AV.int .i64 y.2.2.2.2]] []]) (heap:=fun y=>[AO.vec zf.sl y.1]) (i:=fun y=>Hs y.1 y.2.1 y.2.2.1 y.2.2.2.1 y.2.2.2.2) (t:=Jz) (e:=Ai) (n:=100000000) (n0:=1) v7 RW (fun _=>rfl) (fun y=>Q0 _ _ _ _ _) R7 (fun x h res hv=>?_)
 unfold Nz at hv
 split at hv
 ·rename_i a m b k u l
  simp only [Tr.val] at hv
  split at hv
  ·rename_i h1
   simp only [zZ] at hv
   subst hv
   exact ⟨(l,a,m,b,k),rfl,rfl,mc h1⟩
  ·cases hv
 ·simp at hv

def Dt:=AA.add 277 Nf
theorem v8:zm Dt:=v7.add KD
end
noncomputable section
abbrev SM:=List (List (Sem zf))→Int→Int→Int→Int→Option (List (List (Sem zf)))
def ZR (o:SM):b7 [none,none,none,none,none]:=fun x h=>match x,h with
 | (.vec 0,.int .i64 a,.int .i64 m,.int .i64 b,.clo (.func 134) [.agg [.int .i64 k]] [],_),[.vec (.sl tF) l]=>.chk ((o l a m b k).isSome) (.ok (.tup [],[.vec (.sl zf) ((o l a m b k).getD [])]))
 | _,_=>.err
def ZC (o:SM):zB:=zP [none,none,none,none,none] (ZR o)
def si (o:SM):ba:=Dt.add 249 (ZC o)
theorem BX {o:SM} (h:FK 249 (ZC o)):zm (si o):=v8.add h

abbrev HS:=my [(3,[0,1,4,10,11]),(9,[0,10,13]),(15,[0,2,4,14,15]),(21,[0,14,17]),(33,[0,1,2,3,4,18,19,20,21,22])]
inductive fi where
 | h3 (i1:Int) (i4f_0_0:Int) (i10:Int) (i11:Int) (lh_0:List (Sem zf.sl))
 | h15 (i2:Int) (i4f_0_0:Int) (i14:Int) (i15:Int) (lh_0:List (Sem zf.sl))
 | h33 (i1:Int) (i2:Int) (i3:Int) (i4f_0_0:Int) (i18:Int) (i19:Int) (i20:Int) (i21:Int) (i22:Int) (lh_0:List (Sem zf.sl))
 | h9 (i10:Int) (i13:Int) (lh_0:List (Sem zf.sl))
 | h21 (i14:Int) (i17:Int) (lh_0:List (Sem zf.sl))
abbrev Ah:fi→Nat×St
 | .h3 i1 i4f_0_0 i10 i11 lh_0=>(3,⟨tm 220 [(0,AV.vec 0),(1,AV.int .i64 i1),(4,AV.clo (Fn.func 134) [AV.agg [AV.int .i64 i4f_0_0]] []),(10,AV.int .i64 i10),(11,AV.int .i64 i11)],[AO.vec zf.sl lh_0]⟩)
 | .h15 i2 i4f_0_0 i14 i15 lh_0=>(15,⟨tm 220 [(0,AV.vec 0),(2,AV.int .i64 i2),(4,AV.clo (Fn.func 134) [AV.agg [AV.int .i64 i4f_0_0]] []),(14,AV.int .i64 i14),(15,AV.int .i64 i15)],[AO.vec zf.sl lh_0]⟩)
 | .h33 i1 i2 i3 i4f_0_0 i18 i19 i20 i21 i22 lh_0=>(33,⟨tm 220 [(0,AV.vec 0),(1,AV.int .i64 i1),(2,AV.int .i64 i2),(3,AV.int .i64 i3),(4,AV.clo (Fn.func 134) [AV.agg [AV.int .i64 i4f_0_0]] []),(18,AV.int .i64 i18),(19,AV.int .i64 i19),(20,AV.int .i64 i20),(21,AV.int .i64 i21),(22,AV.int .i64 i22)],[AO.vec zf.sl lh_0]⟩)
 | .h9 i10 i13 lh_0=>(9,⟨tm 220 [(0,AV.vec 0),(10,AV.int .i64 i10),(13,AV.int .i64 i13)],[AO.vec zf.sl lh_0]⟩)
 | .h21 i14 i17 lh_0=>(21,⟨tm 220 [(0,AV.vec 0),(14,AV.int .i64 i14),(17,AV.int .i64 i17)],[AO.vec zf.sl lh_0]⟩)
theorem xQ (o:SM):zz (si o).P 249 Tryz.f249 5:=aG (by kernel_rfl)
def Hr (_:SM) (l:List (List (Sem zf))) (a:Int) (m:Int) (b:Int) (k:Int):Tr (fi ⊕ au):=
 let a0:=IntKind.i64.wrap (IntKind.u64.wrap (IntKind.i64.wrap (a+b)) / 2)
 let a1:=IntKind.i64.wrap (a0+m)
 let a2:=IntKind.i64.wrap (a1 - 1)
 Tr.br (IntKind.i64.wrap (m - a)==1) (Tr.to (fi.h3 a k m b l))
 (Tr.br (IntKind.i64.wrap (b - m)==1) (Tr.to (fi.h15 m k a m l))
  (Tr.chk true (Tr.br (decide (m > a0)) (Tr.to (fi.h33 a m b k a0 a1 (IntKind.i64.wrap (a1 - b)) a0 a2 l)) (Tr.to (fi.h33 a m b k a0 a1 a m a2 l)))))
theorem QW (o:SM) (l:List (List (Sem zf))) (a:Int) (m:Int) (b:Int) (k:Int):rn (si o) 1 HS Tryz.f249 [AV.vec 0,AV.int .i64 a,AV.int .i64 m,AV.int .i64 b,AV.clo (Fn.func 134) [AV.agg [AV.int .i64 k]] []] [AO.vec (Sh.sl zf) l]=(Hr o l a m b k).map (lf Tryz.f249 Ah):=by kernel_rfl
def Jy (o:SM):fi→Tr (fi ⊕ au)
 | .h3 i1 i4f_0_0 i10 i11 lh_0=>
  let a0:=IntKind.i64.wrap (IntKind.u64.wrap (IntKind.i64.wrap (i10+i11)) / 2)
  let a1:=decide (i4f_0_0 < 0)
  let a2:=lh_0.getD a0.toNat (zj zf.sl)
  let a3:=(↑(length a2):Int)
  let a4:=bif a1 then true else decide (i4f_0_0 ≥ a3)
  let a5:=lh_0.getD i1.toNat (zj zf.sl)
  let a6:=(↑(length a5):Int)
  let a7:=bif a1 then true else decide (i4f_0_0 ≥ a6)
  let a8:=bif a7 then true else zH i4f_0_0 (length a5)
  let a9:=getD a5 i4f_0_0.toNat (zj zf)
  let a10:=getD a2 i4f_0_0.toNat (zj zf)
  let a11:=bif a4 then bif a7 then bM (0,0,[]) (0,0,[]) else bM (0,0,[]) a9 else bif a7 then bM a10 (0,0,[]) else bM a10 a9
  Tr.br (decide (i10 < i11))
  (Tr.chk true (Tr.chk (zH a0 lh_0.length) (Tr.chk (decide (a0.toNat < lh_0.length)) (Tr.chk (zH i1 lh_0.length) (Tr.chk (decide (i1.toNat < lh_0.length)) (Tr.chk (bif a4 then a8 else zH i4f_0_0 (length a2)&&a8) (Tr.br (decide (a11 < 0)) (Tr.to (fi.h3 i1 i4f_0_0 (IntKind.i64.wrap (a0+1)) i11 lh_0)) (Tr.to (fi.h3 i1 i4f_0_0 i10 a0 lh_0)))))))))
  (Tr.to (fi.h9 i10 i1 lh_0))
 | .h15 i2 i4f_0_0 i14 i15 lh_0=>
  let a0:=IntKind.i64.wrap (IntKind.u64.wrap (IntKind.i64.wrap (i14+i15)) / 2)
  let a1:=decide (i4f_0_0 < 0)
  let a2:=lh_0.getD i2.toNat (zj zf.sl)
  let a3:=(↑(length a2):Int)
  let a4:=bif a1 then true else decide (i4f_0_0 ≥ a3)
  let a5:=lh_0.getD a0.toNat (zj zf.sl)
  let a6:=(↑(length a5):Int)
  let a7:=bif a1 then true else decide (i4f_0_0 ≥ a6)
  let a8:=bif a7 then true else zH i4f_0_0 (length a5)
  let a9:=getD a5 i4f_0_0.toNat (zj zf)
  let a10:=getD a2 i4f_0_0.toNat (zj zf)
  let a11:=bif a4 then bif a7 then bM (0,0,[]) (0,0,[]) else bM (0,0,[]) a9 else bif a7 then bM a10 (0,0,[]) else bM a10 a9
  Tr.br (decide (i14 < i15))
  (Tr.chk true (Tr.chk (zH i2 lh_0.length) (Tr.chk (decide (i2.toNat < lh_0.length)) (Tr.chk (zH a0 lh_0.length) (Tr.chk (decide (a0.toNat < lh_0.length)) (Tr.chk (bif a4 then a8 else zH i4f_0_0 (length a2)&&a8) (Tr.br (!decide (a11 < 0)) (Tr.to (fi.h15 i2 i4f_0_0 (IntKind.i64.wrap (a0+1)) i15 lh_0)) (Tr.to (fi.h15 i2 i4f_0_0 i14 a0 lh_0)))))))))
  (Tr.to (fi.h21 i14 i2 lh_0))
 | .h33 i1 i2 i3 i4f_0_0 i18 i19 i20 i21 i22 lh_0=>
  let a0:=IntKind.i64.wrap (IntKind.u64.wrap (IntKind.i64.wrap (i20+i21)) / 2)
  let a1:=IntKind.i64.wrap (i22 - a0)
  let a2:=decide (i4f_0_0 < 0)
  let a3:=lh_0.getD a1.toNat (zj zf.sl)
  let a4:=(↑(length a3):Int)
  let a5:=bif a2 then true else decide (i4f_0_0 ≥ a4)
  let a6:=lh_0.getD a0.toNat (zj zf.sl)
  let a7:=(↑(length a6):Int)
  let a8:=bif a2 then true else decide (i4f_0_0 ≥ a7)
  let a9:=bif a8 then true else zH i4f_0_0 (length a6)
  let a10:=getD a6 i4f_0_0.toNat (zj zf)
  let a11:=getD a3 i4f_0_0.toNat (zj zf)
  let a12:=bif a5 then bif a8 then bM (0,0,[]) (0,0,[]) else bM (0,0,[]) a10 else bif a8 then bM a11 (0,0,[]) else bM a11 a10
  let a13:=IntKind.i64.wrap (i19 - i20)
  let a14:=Sw lh_0 i20 i2 a13 i4f_0_0
  let a15:=bif decide (i1 < i20) then decide (i20 < i18) else false
  let a16:=a14.getD []
  let a17:=o a16 i1 i20 i18 i4f_0_0
  let a18:=bif decide (i18 < a13) then decide (a13 < i3) else false
  let a19:=a17.getD []
  let a20:=o a19 i18 a13 i3 i4f_0_0
  let a21:=o a16 i18 a13 i3 i4f_0_0
  let a22:=o lh_0 i1 i20 i18 i4f_0_0
  let a23:=a22.getD []
  let a24:=o a23 i18 a13 i3 i4f_0_0
  let a25:=o lh_0 i18 a13 i3 i4f_0_0
  Tr.br (decide (i20 < i21))
  (Tr.chk true (Tr.chk (zH a1 lh_0.length) (Tr.chk (decide (a1.toNat < lh_0.length)) (Tr.chk (zH a0 lh_0.length) (Tr.chk (decide (a0.toNat < lh_0.length)) (Tr.chk (bif a5 then a9 else zH i4f_0_0 (length a3)&&a9) (Tr.br (!decide (a12 < 0)) (Tr.to (fi.h33 i1 i2 i3 i4f_0_0 i18 i19 (IntKind.i64.wrap (a0+1)) i21 i22 lh_0))
  (Tr.to (fi.h33 i1 i2 i3 i4f_0_0 i18 i19 i20 a0 i22 lh_0)))))))))
  (Tr.br (bif decide (i20 < i2) then decide (i2 < a13) else false) (Tr.chk a14.isSome (Tr.br a15 (Tr.chk a17.isSome (Tr.br a18 (Tr.chk a20.isSome (Tr.re (AV.tup []) [AO.vec zf.sl (a20.getD [])])) (Tr.re (AV.tup []) [AO.vec zf.sl a19]))) (Tr.br a18 (Tr.chk a21.isSome (Tr.re (AV.tup []) [AO.vec zf.sl (a21.getD [])])) (Tr.re (AV.tup []) [AO.vec zf.sl a16])))) (Tr.br a15
  (Tr.chk a22.isSome (Tr.br a18 (Tr.chk a24.isSome (Tr.re (AV.tup []) [AO.vec zf.sl (a24.getD [])])) (Tr.re (AV.tup []) [AO.vec zf.sl a23]))) (Tr.br a18 (Tr.chk a25.isSome (Tr.re (AV.tup []) [AO.vec zf.sl (a25.getD [])])) (Tr.re (AV.tup []) [AO.vec zf.sl lh_0]))))
 | .h9 i10 i13 lh_0=>
  let a0:=IntKind.i64.wrap (i10 - 1)
  let a1:=IntKind.i64.wrap (i13+1)
  let a2:=decide (i13.toNat < lh_0.length)
  let a3:=lh_0.set i13.toNat (lh_0.getD a1.toNat (zj zf.sl))
  Tr.br (decide (i13 < a0))
  (Tr.chk (zH a1 lh_0.length) (Tr.chk (decide (a1.toNat < lh_0.length)) (Tr.chk (zH i13 lh_0.length) (Tr.chk a2 (Tr.chk (zH i13 lh_0.length) (Tr.chk a2 (Tr.chk (zH a1 a3.length) (Tr.chk (decide (a1.toNat < a3.length)) (Tr.to (fi.h9 i10 a1 (a3.set a1.toNat (lh_0.getD i13.toNat (zj zf.sl)))))))))))))
  (Tr.re (AV.tup []) [AO.vec zf.sl lh_0])
 | .h21 i14 i17 lh_0=>
  let a0:=IntKind.i64.wrap (i17 - 1)
  let a1:=decide (i17.toNat < lh_0.length)
  let a2:=lh_0.set i17.toNat (lh_0.getD a0.toNat (zj zf.sl))
  Tr.br (decide (i17 > i14))
  (Tr.chk (zH a0 lh_0.length) (Tr.chk (decide (a0.toNat < lh_0.length)) (Tr.chk (zH i17 lh_0.length) (Tr.chk a1 (Tr.chk (zH i17 lh_0.length) (Tr.chk a1 (Tr.chk (zH a0 a2.length) (Tr.chk (decide (a0.toNat < a2.length)) (Tr.to (fi.h21 i14 a0 (a2.set a0.toNat (lh_0.getD i17.toNat (zj zf.sl)))))))))))))
  (Tr.re (AV.tup []) [AO.vec zf.sl lh_0])
theorem R6 (o:SM):∀ s,run (si o) 1 HS (Func.results Tryz.f249).toList 400 (zx Tryz.f249 (Ah s).1) (Ah s).2=(Jy o s).map (lf Tryz.f249 Ah):=by intro s; cases s <;> kernel_rfl

def smS (o:SM):SM:=fun l a m b k=>yF (cM (Jy o) 100000000 (Hr o l a m b k))
def Er:Nat→SM
 | 0=>fun _ _ _ _ _=>none
 | n+1=>smS (Er n)
theorem C8:∀ n,FK 249 (ZC (Er n))
 | 0=>eB (E:=Dt) ⟨Tryz.f249,(xQ (Er 0)).1,(xQ (Er 0)).2.1,(xQ (Er 0)).2.2.1⟩ fun x h0 res h=>by
  exfalso
  unfold ZR at h
  split at h
  ·simp [Er,Tr.val] at h
  ·simp at h
 | n+1=>by
  refine fG (E:=si (Er n)) (ι:=List (List (Sem zf))×Int×Int×Int×Int) (args:=fun y=>[AV.vec 0,AV.int .i64 y.2.1,AV.int .i64 y.2.2.1,AV.int .i64 y.2.2.2.1,AV.clo (Fn.func 134) [AV.agg [AV.int .i64 y.2.2.2.2]] []]) (heap:=fun y=>[AO.vec zf.sl y.1]) (i:=fun y=>Hr (Er n) y.1 y.2.1 y.2.2.1 y.2.2.2.1 y.2.2.2.2) (t:=Jy (Er n)) (e:=Ah) (n:=100000000) (n0:=1) (BX (C8 n)) (xQ (Er n)) (fun _=>rfl) (fun y=>QW _ _ _ _ _ _) (R6 (Er n)) (fun x h res hv=>?_)
  unfold ZR at hv
  split at hv
  ·rename_i a m b k u l
   simp only [Tr.val] at hv
   split at hv
   ·rename_i h1
    simp only [zZ] at hv
    subst hv
    exact ⟨(l,a,m,b,k),rfl,rfl,mc h1⟩
   ·cases hv
  ·simp at hv
def Nb:zB:=ZC (Er 16)
theorem KA:FK 249 Nb:=C8 16

def AB:=Dt.add 249 Nb
theorem wa:zm AB:=v8.add KA
end
noncomputable section

abbrev HQ:=my [(2,[0,1,2,6,7,8]),(7,[0,1,2,6]),(9,[0,1,2,6,7,8])]
inductive kD where
 | h2 (i1:Int) (i2f_0_0:Int) (i6:Int) (i7:Int) (i8:Int) (lh_0:List (Sem zf.sl))
 | h7 (i1:Int) (i2f_0_0:Int) (i6:Int) (lh_0:List (Sem zf.sl))
 | h9 (i1:Int) (i2f_0_0:Int) (i6:Int) (i7:Int) (i8:Int) (lh_0:List (Sem zf.sl))
abbrev Ae:kD→Nat×St
 | .h2 i1 i2f_0_0 i6 i7 i8 lh_0=>(2,⟨tm 63 [(0,AV.vec 0),(1,AV.int .i64 i1),(2,AV.clo (Fn.func 134) [AV.agg [AV.int .i64 i2f_0_0]] []),(6,AV.int .i64 i6),(7,AV.int .i64 i7),(8,AV.int .i64 i8)],[AO.vec zf.sl lh_0]⟩)
 | .h7 i1 i2f_0_0 i6 lh_0=>(7,⟨tm 63 [(0,AV.vec 0),(1,AV.int .i64 i1),(2,AV.clo (Fn.func 134) [AV.agg [AV.int .i64 i2f_0_0]] []),(6,AV.int .i64 i6)],[AO.vec zf.sl lh_0]⟩)
 | .h9 i1 i2f_0_0 i6 i7 i8 lh_0=>(9,⟨tm 63 [(0,AV.vec 0),(1,AV.int .i64 i1),(2,AV.clo (Fn.func 134) [AV.agg [AV.int .i64 i2f_0_0]] []),(6,AV.int .i64 i6),(7,AV.int .i64 i7),(8,AV.int .i64 i8)],[AO.vec zf.sl lh_0]⟩)
theorem RT:zz AB.P 201 Tryz.f201 3:=aG (by kernel_rfl)
def Ho (l:List (List (Sem zf))) (n:Int) (k:Int):Tr (kD ⊕ au):=
 Tr.to (kD.h2 n k 20 0 20 l)
theorem QT (l:List (List (Sem zf))) (n:Int) (k:Int):rn AB 1 HQ Tryz.f201 [AV.vec 0,AV.int .i64 n,AV.clo (Fn.func 134) [AV.agg [AV.int .i64 k]] []] [AO.vec (Sh.sl zf) l]=(Ho l n k).map (lf Tryz.f201 Ae):=by kernel_rfl
def Jv:kD→Tr (kD ⊕ au)
 | .h2 i1 i2f_0_0 i6 i7 i8 lh_0=>
  let a0:=xL lh_0 i7 i8 i2f_0_0
  let a1:=xL lh_0 i7 i1 i2f_0_0
  Tr.br (decide (i8≤i1)) (Tr.chk a0.isSome (Tr.to (kD.h2 i1 i2f_0_0 i6 i8 (IntKind.i64.wrap (i8+i6)) (a0.getD []))))
  (Tr.chk a1.isSome (Tr.to (kD.h7 i1 i2f_0_0 i6 (a1.getD []))))
 | .h7 i1 i2f_0_0 i6 lh_0=>
  Tr.br (decide (i6 < i1)) (Tr.to (kD.h9 i1 i2f_0_0 i6 0 (IntKind.i64.wrap (2 * i6)) lh_0))
  (Tr.re (AV.tup []) [AO.vec zf.sl lh_0])
 | .h9 i1 i2f_0_0 i6 i7 i8 lh_0=>
  let a0:=IntKind.i64.wrap (i7+i6)
  let a1:=Er 16 lh_0 i7 a0 i8 i2f_0_0
  let a2:=Er 16 lh_0 i7 a0 i1 i2f_0_0
  let a3:=IntKind.i64.wrap (i6 * 2)
  Tr.br (decide (i8≤i1)) (Tr.chk a1.isSome (Tr.to (kD.h9 i1 i2f_0_0 i6 i8 (IntKind.i64.wrap (i8+IntKind.i64.wrap (2 * i6))) (a1.getD []))))
  (Tr.br (decide (a0 < i1)) (Tr.chk a2.isSome (Tr.to (kD.h7 i1 i2f_0_0 a3 (a2.getD [])))) (Tr.to (kD.h7 i1 i2f_0_0 a3 lh_0)))
theorem R3:∀ s,run AB 1 HQ (Func.results Tryz.f201).toList 400 (zx Tryz.f201 (Ae s).1) (Ae s).2=(Jv s).map (lf Tryz.f201 Ae):=by intro s; cases s <;> kernel_rfl
def Zn (l:List (List (Sem zf))) (n:Int) (k:Int):=cM Jv 100000000 (Ho l n k)

def Jp (l:List (List (Sem zf))) (n k:Int):=yF (Zn l n k)
def Nw:b7 [none,none,none]:=fun x h=>match x,h with
 | (.vec 0,.int .i64 n,.clo (.func 134) [.agg [.int .i64 k]] [],_),[.vec (.sl tF) l]=>.chk ((Jp l n k).isSome) (.ok (.tup [],[.vec (.sl zf) ((Jp l n k).getD [])]))
 | _,_=>.err
def M6:zB:=zP [none,none,none] Nw
theorem Kv:FK 201 M6:=by
 refine fG (ι:=List (List (Sem zf))×Int×Int) (args:=fun y=>[AV.vec 0,AV.int .i64 y.2.1,AV.clo (Fn.func 134) [AV.agg [AV.int .i64 y.2.2]] []]) (heap:=fun y=>[AO.vec zf.sl y.1]) (i:=fun y=>Ho y.1 y.2.1 y.2.2) (t:=Jv) (e:=Ae) (n:=100000000) (n0:=1) wa RT (fun _=>rfl) (fun y=>QT _ _ _) R3 (fun x h res hv=>?_)
 unfold Nw at hv
 split at hv
 ·rename_i n k u l
  simp only [Tr.val] at hv
  split at hv
  ·rename_i h1
   simp only [zZ] at hv
   subst hv
   exact ⟨(l,n,k),rfl,rfl,mc h1⟩
  ·cases hv
 ·simp at hv

def xw:=AB.add 201 M6
theorem sH:zm xw:=wa.add Kv
end

abbrev Ro:=my []
theorem RO:zz xw.P 132 Tryz.f132 2:=aG (by kernel_rfl)
noncomputable def Hk (l:List (List (Sem zf))) (k:Int):Tr (Empty ⊕ au):=
 let a0:=Jp l (↑l.length:Int) k
 Tr.chk a0.isSome (Tr.re (AV.tup []) [AO.vec zf.sl (a0.getD [])])
theorem QN (l:List (List (Sem zf))) (k:Int):rn xw 1 Ro Tryz.f132 [AV.vec 0,AV.clo (Fn.func 134) [AV.agg [AV.int .i64 k]] []] [AO.vec (Sh.sl zf) l]=(Hk l k).map (lf Tryz.f132 e0):=by kernel_rfl
noncomputable def SA (l:List (List (Sem zf))) (k:Int):=cM t0 100000000 (Hk l k)

noncomputable def yr (l:List (List (Sem zf))) (k:Int):=yF (SA l k)
noncomputable def Nv:b7 [none,none]:=fun x h=>match x,h with
 | (.vec 0,.clo (.func 134) [.agg [.int .i64 k]] [],_),[.vec (.sl tF) l]=>.chk ((yr l k).isSome) (.ok (.tup [],[.vec (.sl zf) ((yr l k).getD [])]))
 | _,_=>.err
noncomputable def MK:zB:=zP [none,none] Nv
theorem J9:FK 132 MK:=by
 refine fG (ι:=List (List (Sem zf))×Int) (args:=fun y=>[AV.vec 0,AV.clo (Fn.func 134) [AV.agg [AV.int .i64 y.2]] []]) (heap:=fun y=>[AO.vec zf.sl y.1]) (i:=fun y=>Hk y.1 y.2) (t:=t0) (e:=e0) (n:=100000000) (n0:=1) sH RO (fun _=>rfl) (fun y=>QN _ _) (FO _ _ _ _ _) (fun x h res hv=>?_)
 unfold Nv at hv
 split at hv
 ·rename_i k u l
  simp only [Tr.val] at hv
  split at hv
  ·rename_i h1
   simp only [zZ] at hv
   subst hv
   exact ⟨(l,k),rfl,rfl,mc h1⟩
  ·cases hv
 ·simp at hv

noncomputable def GR:=xw.add 132 MK
theorem BZ:zm GR:=sH.add J9
noncomputable section

abbrev HW:Nat→zS:=fun j=>if j=7 then { slots:=[1,2,34,35] } else { }
inductive EE where
 | h7 (i34:Int) (i35:Int) (ja0:Sem Sh.str) (ja2:Sem zg) (ja5:zn) (ja6:Int) (ja7:Int) (ja8:zn) (ja9:zn) (ja10:List (Sem Sh.expr)) (jb0:List UInt8) (jb2:Int) (jb5:List UInt8) (jb6:Int) (jb7:Int) (jb8:List UInt8) (jb9:List UInt8) (lh_2:List (Sem zi)) (lh_3:List (Sem zg)) (lh_4:List (Sem zr)) (lh_5:List (Sem zf.sl))
abbrev Gx:EE→Nat×St
 | .h7 i34 i35 ja0 ja2 ja5 ja6 ja7 ja8 ja9 ja10 jb0 jb2 jb5 jb6 jb7 jb8 jb9 lh_2 lh_3 lh_4 lh_5=>(7,⟨tm 50 [(1,AV.ptr 0 0),(2,AV.ptr 1 0),(34,AV.int .i64 i34),(35,AV.int .i64 i35)],[AO.box [AV.str ja0,AV.vec 2,AV.int .i64 ja2,AV.vec 3,AV.vec 4,AV.str ja5,AV.int .i64 ja6,AV.int .i64 ja7,AV.str ja8,AV.str ja9,AV.sl Sh.expr ja10,AV.vec 5],AO.box [AV.str jb0,AV.nils,AV.int .i64 jb2,AV.nils,AV.nils,AV.str jb5,AV.int .i64 jb6,AV.int .i64 jb7,AV.str jb8,AV.str jb9,AV.nils,AV.nils],AO.vec zi lh_2,AO.vec zg lh_3,AO.vec zr lh_4,AO.vec zf.sl lh_5]⟩)
theorem Yz:zz Av.P 131 Tryz.f131 1:=aG (by kernel_rfl)
def LB (x0:Sem zh):Tr (EE ⊕ au):=
 Tr.chk (decide (length x0.1.2.1≤1073741824))
 (Tr.chk (decide (length x0.1.2.2.2.1≤1073741824))
  (Tr.chk (decide (length x0.1.2.2.2.2.1≤1073741824)) (Tr.chk (nD 16 (zC x0.1.2.2.2.2.2)) (Tr.chk (decide (length x0.2≤1073741824)) (Tr.to (EE.h7 (↑(length x0.2):Int) 0 x0.1.1 x0.1.2.2.1 (ze.op x0.1.2.2.2.2.2) (ze.v x0.1.2.2.2.2.2).1 (ze.v x0.1.2.2.2.2.2).2.1 (ze.v x0.1.2.2.2.2.2).2.2
  (ze.s x0.1.2.2.2.2.2) (ze.l x0.1.2.2.2.2.2) [] 0 [] 0 0 [] [] x0.1.2.1 x0.1.2.2.2.1 x0.1.2.2.2.2.1 x0.2))))))
theorem WQ (x0:Sem zh):rn Av 0 HW Tryz.f131 [zy zh x0] []=(LB x0).map (lf Tryz.f131 Gx):=by kernel_rfl
def FH:EE→Tr (EE ⊕ au)
 | .h7 i34 i35 ja0 ja2 ja5 ja6 ja7 ja8 ja9 ja10 jb0 jb2 jb5 jb6 jb7 jb8 jb9 lh_2 lh_3 lh_4 lh_5=>
  let a0:=decide (i35.toNat < lh_5.length)
  let a1:=lh_5.getD i35.toNat (zj zf.sl)
  Tr.br (decide (i35 < i34))
  (Tr.chk (zH i35 lh_5.length)
   (Tr.chk a0 (Tr.chk (decide (length a1≤1073741824)) (Tr.chk (zH i35 lh_5.length) (Tr.chk a0 (Tr.to (EE.h7 i34 (IntKind.i64.wrap (i35+1)) ja0 ja2 ja5 ja6 ja7 ja8 ja9 ja10 jb0 jb2 jb5 jb6 jb7 jb8 jb9 lh_2 lh_3 lh_4 (lh_5.set i35.toNat a1))))))))
  (Tr.re
   (AV.agg [AV.str ja0,AV.vec 0,AV.int .i64 ja2,AV.vec 1,AV.vec 2,AV.str ja5,AV.int .i64 ja6,AV.int .i64 ja7,AV.str ja8,AV.str ja9,AV.sl Sh.expr ja10,AV.vec 3])
   [AO.vec zi lh_2,AO.vec zg lh_3,AO.vec zr lh_4,AO.vec zf.sl lh_5])
theorem Y6:∀ s,run Av 0 HW (Func.results Tryz.f131).toList 400 (zx Tryz.f131 (Gx s).1) (Gx s).2=(FH s).map (lf Tryz.f131 Gx)
 | .h7 i34 i35 ja0 ja2 ja5 ja6 ja7 ja8 ja9 ja10 jb0 jb2 jb5 jb6 jb7 jb8 jb9 lh_2 lh_3 lh_4 lh_5=>by kernel_rfl
end
end Cad
