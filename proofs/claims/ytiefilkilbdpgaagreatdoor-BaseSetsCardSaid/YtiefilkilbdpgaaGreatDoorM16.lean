/- The document's reader: expressions. The document's reader: expressions, values. Functions on two variables to which pointers lead. The document's reader: values. The document's reader: CREATE. The document's reader: MIGRATE. The document's parser. Statements of texts. The document's comparisons and sums; checks. The document's expressions: values; tables that may be. What ends: a function's trees give an answer (which one is left open). -/
import Derived.Test.YtiefilkilbdpgaaGreatDoorM15
import Derived.Test.YtiefilkilbdpgaaGreatDoorM12
namespace Cad
open Go Go.Proofs
open Int (toNat)
open List (length)
noncomputable section
set_option maxHeartbeats 4000000

def uM (g:Sem zp.sl→Sem zg→Sem zg→Sem Sh.expr×Sem zg) (c:Sem zp.sl→Sem zg→Sem zg→Bool):bf:=HK.add 238 (zC [zp.sl,zg,zg] [Sh.expr,zg] (fun x=>c x.1 x.2.1 x.2.2.1) fun x=>((g x.1 x.2.1 x.2.2.1).1,(g x.1 x.2.1 x.2.2.1).2,()))
theorem FL {g:Sem zp.sl→Sem zg→Sem zg→Sem Sh.expr×Sem zg} {c:Sem zp.sl→Sem zg→Sem zg→Bool} (hg:FK 238 (zC [zp.sl,zg,zg] [Sh.expr,zg] (fun x=>c x.1 x.2.1 x.2.2.1) fun x=>((g x.1 x.2.1 x.2.2.1).1,(g x.1 x.2.1 x.2.2.1).2,()))):zm (uM g c):=y6.add hg
abbrev Gn:=jJ [(22,[0,2,6,15,16])]
inductive jT where
 | h22 (l0:List (Sem zp)) (i2:Sem zg) (i16:Sem zg) (z1:zu [CP.d Sh.expr]) (ja0:List UInt8) (ja1:Int) (ja2:Int) (ja3:List UInt8) (ja4:List UInt8)
abbrev Dy:jT→Nat×St
 | .h22 l0 i2 i16 z1 ja0 ja1 ja2 ja3 ja4=>(22,⟨tm 157 [(0,AV.sl zp l0),(2,AV.int .i64 i2),(6,AV.ptr 0 0),(15,AV.ptr 1 0),(16,AV.int .i64 i16)],[AO.box [AV.str ja0,AV.int .i64 ja1,AV.int .i64 ja2,AV.str ja3,AV.str ja4,AV.nils],AO.box (bb [] [CP.d Sh.expr] z1)]⟩)
theorem YK (g:Sem zp.sl→Sem zg→Sem zg→Sem Sh.expr×Sem zg) (c:Sem zp.sl→Sem zg→Sem zg→Bool):zA (uM g c).P 238 Tryz.f238 3:=aJ (by kernel_rfl)
def MJ (g:Sem zp.sl→Sem zg→Sem zg→Sem Sh.expr×Sem zg) (c:Sem zp.sl→Sem zg→Sem zg→Bool) (x0:Sem zp.sl) (x1:Sem zg) (x2:Sem zg):Tr (jT ⊕ zV):=
 let a0:=IntKind.i64.wrap (x1+1)
 let a1:=g x0 a0 2
 let a2:=g x0 x1 3
 let a3:=pK x0 a2.2 [61]
 let a4:=IntKind.i64.wrap (a2.2+1)
 let a5:=List.getD x0 (toNat a2.2) (zj zp)
 let a6:=zB a2.1
 let a7:=g x0 a4 3
 let a8:=IntKind.i64.wrap (x2+1)
 let a9:=g x0 x1 a8
 Tr.br (decide (x1 < 0))
 (Tr.re (AV.tup [AV.agg [AV.str [],AV.int .i64 0,AV.int .i64 0,AV.str [],AV.str [],AV.nils],AV.int .i64 (-1)]) [])
 (Tr.br (x2==4)
  (Tr.chk (RP x0 x1) (Tr.re (AV.tup [AV.agg [AV.str (ze.op (oE x0 x1).1),AV.int .i64 (ze.v (oE x0 x1).1).1,AV.int .i64 (ze.v (oE x0 x1).1).2.1,AV.str (ze.v (oE x0 x1).1).2.2,AV.str (ze.s (oE x0 x1).1),AV.sl Sh.expr (ze.l (oE x0 x1).1)],AV.int .i64 (oE x0 x1).2]) []))
  (Tr.br (x2==2) (Tr.chk (jA x0 x1 [78,79,84]) (Tr.br (pK x0 x1 [78,79,84]) (Tr.chk (c x0 a0 2) (Tr.re (AV.tup [AV.agg [AV.str [110,111,116],AV.int .i64 0,AV.int .i64 0,AV.str [],AV.str [],AV.sl Sh.expr [zB a1.1]],AV.int .i64 a1.2]) [])) (Tr.chk (c x0 x1 3) (Tr.br (decide (a2.2 < 0))
  (Tr.re (AV.tup [AV.agg [AV.str [],AV.int .i64 0,AV.int .i64 0,AV.str [],AV.str [],AV.nils],AV.int .i64 (-1)]) []) (Tr.chk (jA x0 a2.2 [61]&&bif a3 then true else jA x0 a2.2 [60]) (Tr.br (bif a3 then true else pK x0 a2.2 [60]) (Tr.chk (zE a2.2 (length x0)) (Tr.chk (c x0 a4 3) (Tr.re (AV.tup
  [AV.agg [AV.str a5.2,AV.int .i64 0,AV.int .i64 0,AV.str [],AV.str [],AV.sl Sh.expr [a6,zB a7.1]],AV.int .i64 a7.2]) []))) (Tr.chk (jA x0 a2.2 [73,83]) (Tr.br (pK x0 a2.2 [73,83]) (Tr.chk (jA x0 a4 [78,85,76,76]) (Tr.br (!pK x0 a4 [78,85,76,76]) (Tr.re (AV.tup [AV.agg [AV.str [],AV.int .i64 0,AV.int .i64 0,AV.str [],AV.str [],AV.nils],AV.int .i64 (-1)]) [])
  (Tr.re (AV.tup [AV.agg [AV.str [110,117,108,108],AV.int .i64 0,AV.int .i64 0,AV.str [],AV.str [],AV.sl Sh.expr [a6]],AV.int .i64 (IntKind.i64.wrap (a2.2+2))]) []))) (Tr.re (AV.tup [AV.agg [AV.str (ze.op a2.1),AV.int .i64 (ze.v a2.1).1,AV.int .i64 (ze.v a2.1).2.1,AV.str (ze.v a2.1).2.2,AV.str (ze.s a2.1),AV.sl Sh.expr (ze.l a2.1)],AV.int .i64 a2.2])
  []))))))))) (Tr.chk (c x0 x1 a8) (Tr.to (jT.h22 x0 x2 a9.2 (a9.1,()) [] 0 0 [] [])))))
theorem XJ (g:Sem zp.sl→Sem zg→Sem zg→Sem Sh.expr×Sem zg) (c:Sem zp.sl→Sem zg→Sem zg→Bool) (x0:Sem zp.sl) (x1:Sem zg) (x2:Sem zg):rn (uM g c) 0 Gn Tryz.f238 [zz zp.sl x0,zz zg x1,zz zg x2] []=(MJ g c x0 x1 x2).map (lf Tryz.f238 Dy):=by kernel_rfl
def O3 (g:Sem zp.sl→Sem zg→Sem zg→Sem Sh.expr×Sem zg) (c:Sem zp.sl→Sem zg→Sem zg→Bool):jT→Tr (jT ⊕ zV)
 | .h22 l0 i2 i16 z1 ja0 ja1 ja2 ja3 ja4=>
  let a0:=bif i2==1 then jA l0 i16 [65,78,68] else true
  let a1:=bif i2==1 then pK l0 i16 [65,78,68] else false
  let a2:=pK l0 i16 [43]
  let a3:=bif i2==3 then jA l0 i16 [43]&&bif a2 then true else jA l0 i16 [45] else true
  let a4:=bif i2==3 then bif a2 then true else pK l0 i16 [45] else false
  let a5:=l0.getD (toNat i16) (zj zp)
  let a6:=IntKind.i64.wrap (i16+1)
  let a7:=IntKind.i64.wrap (i2+1)
  let a8:=c l0 a6 a7
  let a9:=g l0 a6 a7
  let a10:=[zB z1.1,zB a9.1]
  Tr.br (decide (i16 ≥ 0))
  (Tr.chk (bif i2==0 then jA l0 i16 [79,82] else true) (Tr.br (bif i2==0 then pK l0 i16 [79,82] else false) (Tr.chk a0 (Tr.br a1 (Tr.chk a3 (Tr.br a4 (Tr.chk (zE i16 l0.length) (Tr.br (a5.2==[]) (Tr.re (AV.tup [AV.agg [AV.str (ze.op z1.1),AV.int .i64 (ze.v z1.1).1,AV.int .i64 (ze.v z1.1).2.1,
  AV.str (ze.v z1.1).2.2,AV.str (ze.s z1.1),AV.sl Sh.expr (ze.l z1.1)],AV.int .i64 i16]) []) (Tr.chk a8 (Tr.to (jT.h22 l0 i2 a9.2 (ze.mk a5.2 (0,0,[]) [] a10,()) ja0 ja1 ja2 ja3 ja4))))) (Tr.br false (Tr.re (AV.tup [AV.agg [AV.str (ze.op z1.1),AV.int .i64 (ze.v z1.1).1,AV.int .i64 (ze.v z1.1).2.1,
  AV.str (ze.v z1.1).2.2,AV.str (ze.s z1.1),AV.sl Sh.expr (ze.l z1.1)],AV.int .i64 i16]) []) (Tr.chk a8 (Tr.to (jT.h22 l0 i2 a9.2 (ze.mk [97,110,100] (0,0,[]) [] a10,()) ja0 ja1 ja2 ja3 ja4)))))) (Tr.chk a3 (Tr.br a4 (Tr.chk (zE i16 l0.length) (Tr.br (a5.2==[]) (Tr.re (AV.tup [AV.agg
  [AV.str (ze.op z1.1),AV.int .i64 (ze.v z1.1).1,AV.int .i64 (ze.v z1.1).2.1,AV.str (ze.v z1.1).2.2,AV.str (ze.s z1.1),AV.sl Sh.expr (ze.l z1.1)],AV.int .i64 i16]) []) (Tr.chk a8 (Tr.to (jT.h22 l0 i2 a9.2 (ze.mk a5.2 (0,0,[]) [] a10,()) ja0 ja1 ja2 ja3 ja4))))) (Tr.br false (Tr.re (AV.tup [AV.agg
  [AV.str (ze.op z1.1),AV.int .i64 (ze.v z1.1).1,AV.int .i64 (ze.v z1.1).2.1,AV.str (ze.v z1.1).2.2,AV.str (ze.s z1.1),AV.sl Sh.expr (ze.l z1.1)],AV.int .i64 i16]) []) (Tr.chk a8 (Tr.to (jT.h22 l0 i2 a9.2 (ze.mk [111,114] (0,0,[]) [] a10,()) ja0 ja1 ja2 ja3 ja4)))))))) (Tr.chk a0 (Tr.br a1 (Tr.chk a3 (Tr.br a4 (Tr.chk (zE i16 l0.length)
  (Tr.br (a5.2==[]) (Tr.re (AV.tup [AV.agg [AV.str (ze.op z1.1),AV.int .i64 (ze.v z1.1).1,AV.int .i64 (ze.v z1.1).2.1,AV.str (ze.v z1.1).2.2,AV.str (ze.s z1.1),AV.sl Sh.expr (ze.l z1.1)],AV.int .i64 i16]) []) (Tr.chk a8 (Tr.to (jT.h22 l0 i2 a9.2 (ze.mk a5.2 (0,0,[]) [] a10,()) ja0 ja1 ja2 ja3 ja4))))) (Tr.br false (Tr.re (AV.tup [AV.agg
  [AV.str (ze.op z1.1),AV.int .i64 (ze.v z1.1).1,AV.int .i64 (ze.v z1.1).2.1,AV.str (ze.v z1.1).2.2,AV.str (ze.s z1.1),AV.sl Sh.expr (ze.l z1.1)],AV.int .i64 i16]) []) (Tr.chk a8 (Tr.to (jT.h22 l0 i2 a9.2 (ze.mk [97,110,100] (0,0,[]) [] a10,()) ja0 ja1 ja2 ja3 ja4)))))) (Tr.chk a3 (Tr.br a4 (Tr.chk (zE i16 l0.length) (Tr.br (a5.2==[]) (Tr.re
  (AV.tup [AV.agg [AV.str (ze.op z1.1),AV.int .i64 (ze.v z1.1).1,AV.int .i64 (ze.v z1.1).2.1,AV.str (ze.v z1.1).2.2,AV.str (ze.s z1.1),AV.sl Sh.expr (ze.l z1.1)],AV.int .i64 i16]) []) (Tr.chk a8 (Tr.to (jT.h22 l0 i2 a9.2 (ze.mk a5.2 (0,0,[]) [] a10,()) ja0 ja1 ja2 ja3 ja4))))) (Tr.br true (Tr.re (AV.tup [AV.agg
  [AV.str (ze.op z1.1),AV.int .i64 (ze.v z1.1).1,AV.int .i64 (ze.v z1.1).2.1,AV.str (ze.v z1.1).2.2,AV.str (ze.s z1.1),AV.sl Sh.expr (ze.l z1.1)],AV.int .i64 i16]) []) (Tr.chk a8 (Tr.to (jT.h22 l0 i2 a9.2 (ze.mk [] (0,0,[]) [] a10,()) ja0 ja1 ja2 ja3 ja4))))))))))
  (Tr.re (AV.tup [AV.agg [AV.str (ze.op z1.1),AV.int .i64 (ze.v z1.1).1,AV.int .i64 (ze.v z1.1).2.1,AV.str (ze.v z1.1).2.2,AV.str (ze.s z1.1),AV.sl Sh.expr (ze.l z1.1)],AV.int .i64 i16]) [])
theorem YV (g:Sem zp.sl→Sem zg→Sem zg→Sem Sh.expr×Sem zg) (c:Sem zp.sl→Sem zg→Sem zg→Bool):∀ s,run (uM g c) 0 Gn (Func.results Tryz.f238).toList 400 (zx Tryz.f238 (Dy s).1) (Dy s).2=(O3 g c s).map (lf Tryz.f238 Dy):=by intro s; cases s <;> kernel_rfl
def jd (o:Option (zw (List.map some [Sh.expr,zg]))):Sem Sh.expr×Sem zg:=(fun r:zw (List.map some [Sh.expr,zg])=>(r.1,r.2.1)) (o.getD (bT [Sh.expr,zg]))
def OB (g:Sem zp.sl→Sem zg→Sem zg→Sem Sh.expr×Sem zg) (c:Sem zp.sl→Sem zg→Sem zg→Bool) (x0:Sem zp.sl) (x1:Sem zg) (x2:Sem zg):Option (zw (List.map some [Sh.expr,zg])):=zT [Sh.expr,zg] (O3 g c) 100000000 (MJ g c x0 x1 x2)
def dJ:Nat→Sem zp.sl→Sem zg→Sem zg→Option (zw (List.map some [Sh.expr,zg]))
 | 0=>fun _ _ _=>none
 | n+1=>OB (fun x0 x1 x2=>jd (dJ n x0 x1 x2)) fun x0 x1 x2=>(dJ n x0 x1 x2).isSome
theorem MZ:zA HK.P 238 Tryz.f238 3:=aJ (by kernel_rfl)
theorem C7:∀ n,FK 238 (zC [zp.sl,zg,zg] [Sh.expr,zg] (fun x=>(dJ n x.1 x.2.1 x.2.2.1).isSome) fun x=>((jd (dJ n x.1 x.2.1 x.2.2.1)).1,(jd (dJ n x.1 x.2.1 x.2.2.1)).2,()))
 | 0=>cP ⟨Tryz.f238,MZ.1,MZ.2.1,MZ.2.2.1⟩ (fun _=>rfl)
 | n+1=>gX (E:=uM (fun x0 x1 x2=>jd (dJ n x0 x1 x2)) (fun x0 x1 x2=>(dJ n x0 x1 x2).isSome)) (ks:=[zp.sl,zg,zg]) (outs:=[Sh.expr,zg]) (keep:=Gn) (gas:=400) (n:=100000000) (e:=Dy) (t:=O3 (fun x0 x1 x2=>jd (dJ n x0 x1 x2)) (fun x0 x1 x2=>(dJ n x0 x1 x2).isSome)) (i:=fun x=>MJ (fun x0 x1 x2=>jd (dJ n x0 x1 x2)) (fun x0 x1 x2=>(dJ n x0 x1 x2).isSome) x.1 x.2.1 x.2.2.1) (FL (C7 n)) (YK _ _) (fun x=>XJ _ _ x.1 x.2.1 x.2.2.1) (YV _ _) (fun _=>by kernel_rfl) (fun _=>by kernel_rfl)
def EM (x0:Sem zp.sl) (x1:Sem zg) (x2:Sem zg):Option (zw (List.map some [Sh.expr,zg])):=dJ 16 x0 x1 x2
def EL (x0:Sem zp.sl) (x1:Sem zg) (x2:Sem zg):Bool:=(EM x0 x1 x2).isSome
def Cj (x0:Sem zp.sl) (x1:Sem zg) (x2:Sem zg):Sem Sh.expr×Sem zg:=jd (EM x0 x1 x2)
def S9:zD:=zC [zp.sl,zg,zg] [Sh.expr,zg] (fun x=>EL x.1 x.2.1 x.2.2.1) fun x=>((Cj x.1 x.2.1 x.2.2.1).1,(Cj x.1 x.2.1 x.2.2.1).2,())
theorem Qe:FK 238 S9:=C7 16

def TZ:=HK.add 238 S9
theorem y7:zm TZ:=y6.add Qe
end

noncomputable def zec (x0:Sem zp.sl):Tr (Empty ⊕ zV):=
 let a0:=Cj x0 0 0
 let a1:=decide (a0.2 < 0)
 let a2:=zB a0.1
 Tr.chk (EL x0 0 0)
 (Tr.chk (bif a1 then true else wx a2)
  (Tr.br (bif a1 then true else !EA a2) (Tr.re (AV.tup [AV.agg [AV.str [],AV.int .i64 0,AV.int .i64 0,AV.str [],AV.str [],AV.nils],AV.int .i64 0,AV.kb false]) []) (Tr.re (AV.tup [AV.agg [AV.str (ze.op a0.1),AV.int .i64 (ze.v a0.1).1,AV.int .i64 (ze.v a0.1).2.1,AV.str (ze.v a0.1).2.2,AV.str (ze.s a0.1),AV.sl Sh.expr (ze.l a0.1)],AV.int .i64 a0.2,AV.kb true])
  [])))
noncomputable def wM (x0:Sem zp.sl):=zT [Sh.expr,zg,Sh.bool] t0 100000000 (zec x0)
noncomputable def EK (x0:Sem zp.sl):=(wM x0).isSome
noncomputable def IW (x0:Sem zp.sl):=o3 (wM x0)
noncomputable def S2:=FT [zp.sl] [Sh.expr,zg,Sh.bool] fun x=>wM x.1
theorem P7:FK 182 S2:=y7.T1 (f:=Tryz.f182) (keep:=k0) (e:=e0)

noncomputable def HL:=TZ.add 182 S2
theorem y8:zm HL:=y7.add P7
open Go

theorem gD.cells {C:cq} {w:World} {U:Nat→Prop} {ρ:Nat→Option Value} {hp:Nat→AO} {k:Nat} {cs cs':List AV} (hH:gD C w U ρ hp) (hk:hp k=.box cs)
  (hr:∀ vals,cr w U ρ cs vals→cr w U ρ cs' vals):gD C w U ρ (fun j=>if j=k then .box cs' else hp j):=by
 have hown:∀ id b,zM ρ id (if id=k then .box cs' else hp id) b→zM ρ id (hp id) b:=by
  intro id b ho
  by_cases hid:id=k
  ·subst hid
   rw [if_pos rfl] at ho
   rw [hk]
   obtain ⟨_,v,hv,hb⟩:=ho
   exact ⟨rfl,v,hv,hb⟩
  ·rw [if_neg hid] at ho; exact ho
 refine ⟨fun id=>?_,fun id1 id2 b o1 o2=>hH.inj id1 id2 b (hown _ _ o1) (hown _ _ o2),fun id b o=>hH.blk id b (hown _ _ o)⟩
 by_cases hid:id=k
 ·subst hid
  have h0:=hH.ob id
  rw [hk] at h0
  obtain ⟨b,T,vals,h1,h2,h3,h4,h5⟩:=h0
  simp only [if_true]
  exact ⟨b,T,vals,h1,h2,h3,hr _ h4,h5⟩
 ·simp only [if_neg hid]
  exact hH.ob id

def aN (ps qs:List CP) (y:zu ps) (z:zu qs):List AO:=.box (fF 2 ps y)::.box (fF (2+ay ps) qs z)::(fG ps y++fG qs z)

theorem lS (ps qs:List CP) (y:zu ps) (z:zu qs):(aN ps qs y z).length=ay ps+ay qs+2:=by
 simp [aN,bw]

theorem gD.box2 {C:cq} {w:World} {U:Nat→Prop} {ρ:Nat→Option Value} {cs ds:List AV} {os:List AO} {ps qs:List CP} {y:zu ps} {z:zu qs} (hH:gD C w U ρ (fun j=>((AO.box cs::AO.box ds::os).getD j .dead))) (hl:os.length=ay ps+ay qs)
  (hm:ce (iu (.box cs::.box ds::os)) 2 ps cs=some y) (hm2:ce (iu (.box cs::.box ds::os)) (2+ay ps) qs ds=some z):gD C w U ρ (fun j=>(aN ps qs y z).getD j .dead):=by
 have h1:=hH.cells (k:=0) (cs:=cs) (cs':=fF 2 ps y) rfl (fun vals h=>(ew ps 2 cs y vals hm h).1)
 have h2:=h1.cells (k:=1) (cs:=ds) (cs':=fF (2+ay ps) qs z) rfl (fun vals h=>(ew qs _ ds z vals hm2 h).1)
 obtain ⟨b0,T0,v0,_,_,_,r0,_⟩:=hH.ob 0
 obtain ⟨b1,T1,v1,_,_,_,r1,_⟩:=hH.ob 1
 have k1:=(ew ps 2 cs y v0.toList hm r0).2
 have k2:=(ew qs _ ds z v1.toList hm2 r1).2
 have e:(fun j=>(aN ps qs y z).getD j .dead)=fun j=>if j=1 then .box (fF (2+ay ps) qs z) else if j=0 then .box (fF 2 ps y) else (AO.box cs::AO.box ds::os).getD j .dead:=by
  funext j
  match j with
  | 0=>rfl
  | 1=>rfl
  | j+2=>
   rw [if_neg (by omega),if_neg (by omega)]
   simp only [aN,yl]
   by_cases hj:j < ay ps
   ·have hj':j < (fG ps y).length:=by rw [bw]; exact hj
    have:=k1 j _ (zI hj')
    simp only [iu,oT 2 j,yl] at this
    rw [this,aB,jG hj',zI hj']
    rfl
   ·by_cases hj2:j < ay ps+ay qs
    ·have hj':j - ay ps < (fG qs z).length:=by rw [bw]; omega
     have:=k2 (j - ay ps) _ (zI hj')
     rw [show 2+ay ps+(j - ay ps)=j+2 by omega] at this
     simp only [iu,yl] at this
     rw [this,aB,kF (by rw [bw]; omega),bw,zI hj']
     rfl
    ·rw [aB,aB,dd (by simp [bw]; omega),dd (by omega)]
 rw [e]
 exact h2

def sS (ps qs:List CP) (outs:List Sh) (r:AV) (h:List AO):Option (zw (outs.map some)×zu ps×zu qs):=match h with
 | .box cs::.box ds::os=>if os.length=ay ps+ay qs then match ae [] outs r,ce (iu (.box cs::.box ds::os)) 2 ps cs,ce (iu (.box cs::.box ds::os)) (2+ay ps) qs ds with
   | some a,some y,some z=>some (a,y,z)
   | _,_,_=>none
  else none
 | _=>none

def TD (ps qs:List CP) (ks outs:List Sh) (ps' qs':List CP) (c:zu ps→zu qs→zw (ks.map some)→Bool) (g:zu ps→zu qs→zw (ks.map some)→zw (outs.map some)×zu ps'×zu qs'):cy (none::none::ks.map some):=fun x h=>match x.1,x.2.1,h with
 | .ptr 0 0,.ptr 1 0,.box cs::.box ds::os=>if os.length=ay ps+ay qs then match ce (iu (.box cs::.box ds::os)) 2 ps cs,ce (iu (.box cs::.box ds::os)) (2+ay ps) qs ds with
   | some y,some z=>.chk (c y z x.2.2) (.ok (sn outs (g y z x.2.2).1,aN ps' qs' (g y z x.2.2).2.1 (g y z x.2.2).2.2))
   | _,_=>.err
  else .err
 | _,_,_=>.err

def Hx (ps qs:List CP) (ks outs:List Sh) (ps' qs':List CP) (c:zu ps→zu qs→zw (ks.map some)→Bool) (g:zu ps→zu qs→zw (ks.map some)→zw (outs.map some)×zu ps'×zu qs'):zD:=zR (none::none::ks.map some) (TD ps qs ks outs ps' qs' c g)

theorem K3 {P:Program} {gl:Nat→AV} {E:bf} {k:FuncId} {f:Func} {ps qs:List CP} {ks outs:List Sh} {ps' qs':List CP} {c:zu ps→zu qs→zw (ks.map some)→Bool} {g:zu ps→zu qs→zw (ks.map some)→zw (outs.map some)×zu ps'×zu qs'} (hf:zA E.P k f (ks.length+2))
  (h:∀ y z x,c y z x=true→∀ C:cq,(∀ id,ay ps+ay qs+2≤id→C.ρ0 id=none)→Reach E C k (au f) (z7 f.ntmps (.ptr 0 0::.ptr 1 0::f6 (ks.map some) x) (aN ps qs y z)) (fun r h=>sS ps' qs' outs r h=some (g y z x))) (qp:E.P=P:=by rfl) (qg:E.gl=gl:=by rfl):
  lF P gl k (Hx ps qs ks outs ps' qs' c g):=by
 subst qp qg
 refine bq (by simpa using hf) fun x h0 res hx C hC=>?_
 obtain ⟨x0,x1,x⟩:=x
 unfold TD at hx
 simp only at hx
 split at hx
 ·rename_i cs ds os
  split at hx
  ·rename_i hos
   split at hx
   ·rename_i y z hy hz
    simp only [Tr.val] at hx
    split at hx
    ·rename_i hc
     simp only [ag] at hx
     subst hx
     have hR:=h y z x hc C (fun id hid=>hC id (by simpa [hos] using hid))
     intro b cs' a w U ρ h1 h2 hcn hW
     have hH:gD C w U ρ (fun j=>((AO.box cs::AO.box ds::os).getD j .dead)):=hcn.hp
     have hcn':Cn C (z7 f.ntmps (.ptr 0 0::.ptr 1 0::f6 (ks.map some) x) (aN ps qs y z)) a w U ρ:=
      ⟨hcn.tm,hH.box2 hos hy hz,fun id hid=>hcn.new id (by have hid:(aN ps qs y z).length≤id:=hid; rw [lS] at hid; simpa [z7,hos] using hid),hcn.df,hcn.r0⟩
     obtain ⟨e,w',fr,⟨v,r,h',U',ρ',he,hq,hrv,hH',hnew,hr0,hWd⟩,hcm,hf',hl⟩:=hR b cs' a w U ρ h1 h2 hcn' hW
     unfold sS at hq
     split at hq
     ·rename_i cs2 ds2 os2
      split at hq
      ·rename_i hos2
       split at hq
       ·rename_i a' y' z' ha' hy' hz'
        simp only [ag] at hq
        refine ⟨e,w',fr,⟨v,_,_,U',ρ',he,by rw [← hq],AF ha' hrv,hH'.box2 hos2 hy' hz',fun id hid=>hnew id (by rw [lS] at hid; simpa [hos2] using hid),hr0,hWd⟩,hcm,hf',hl⟩
       ·cases hq
      ·cases hq
     ·cases hq
    ·simp at hx
   ·simp at hx
  ·simp at hx
 ·simp at hx

def Ep {σ:Type} (outs:List Sh) (ps' qs':List CP) (t:σ→Tr (σ ⊕ zV)) (n:Nat) (i:Tr (σ ⊕ zV)):Option (zw (outs.map some)×zu ps'×zu qs'):=(cd t n i).bind fun r=>sS ps' qs' outs r.1 r.2

theorem K2 {P:Program} {gl:Nat→AV} {σ:Type} {E:bf} {k:FuncId} {f:Func} {ps qs:List CP} {ks outs:List Sh} {ps' qs':List CP} {keep:Nat→zX} {gas n:Nat} {e:σ→Nat×St} {t:σ→Tr (σ ⊕ zV)} {i:zu ps→zu qs→zw (ks.map some)→Tr (σ ⊕ zV)} {c:zu ps→zu qs→zw (ks.map some)→Bool} {g:zu ps→zu qs→zw (ks.map some)→zw (outs.map some)×zu ps'×zu qs'}
  (hE:zm E) (hf:zA E.P k f (ks.length+2)) (hgo:∀ y z x,run E (ay ps+ay qs+2) keep f.results.toList gas (au f) (z7 f.ntmps (.ptr 0 0::.ptr 1 0::f6 (ks.map some) x) (aN ps qs y z))=(i y z x).map (lf f e))
  (hon:∀ s,run E (ay ps+ay qs+2) keep f.results.toList gas (zx f (e s).1) (e s).2=(t s).map (lf f e))
  (hc:∀ y z x,c y z x=(Ep outs ps' qs' t n (i y z x)).isSome) (hg:∀ y z x,g y z x=(Ep outs ps' qs' t n (i y z x)).getD (bT outs,fH ps',fH qs')) (qp:E.P=P:=by rfl) (qg:E.gl=gl:=by rfl):lF P gl k (Hx ps qs ks outs ps' qs' c g):=by
 subst qp qg
 refine K3 hf fun y z x hcx C hC=>?_
 rw [hc,Option.isSome_iff_exists] at hcx
 obtain ⟨u,hu⟩:=hcx
 rw [hg,hu]
 unfold Ep at hu
 rw [eO] at hu
 obtain ⟨r,h1,h2⟩:=hu
 exact kh (Q:=fun r h=>sS ps' qs' outs r h=some u) hE hf hC (n+1) _ _ r (by rw [ja hon (hgo y z x)]; exact h1) h2


abbrev M6:=jJ []
theorem Yy:zA HL.P 110 Tryz.f110 1:=aJ (by kernel_rfl)
noncomputable def MB (y:zu zJ):Tr (Empty ⊕ zV):=
 let a0:=(y.1,y.2.1,y.2.2.1,())
 let a1:=mt a0 [45]
 let a2:=IntKind.i64.wrap (a1.2.2.1+2)
 let a3:=(↑(length a1.2.1):Int)
 let a4:=decide (0≤a1.2.2.1)
 let a5:=List.drop (toNat a1.2.2.1) a1.2.1
 let a6:=List.take (a2.toNat - toNat a1.2.2.1) a5
 let a7:=IW a6
 let a8:=IntKind.i64.wrap (a1.2.2.1+1)
 let a9:=List.take (a8.toNat - toNat a1.2.2.1) a5
 let a10:=IW a9
 Tr.chk (jN a0 [45])
 (Tr.br a1.1
  (Tr.br (decide (a2 > a3)) (Tr.re (AV.agg [AV.int .i64 0,AV.int .i64 0,AV.str []]) [AO.box [AV.sl zp a1.2.1,AV.int .i64 a1.2.2.1,AV.kb false]]) (Tr.chk (a4&&decide (a1.2.2.1≤a2)&&decide (a2≤a3)) (Tr.chk (EK a6) (Tr.br (bif !a7.2.2 then true else bif a7.2.1 != 2 then true else !ze.op a7.1==[108,105,116])
  (Tr.re (AV.agg [AV.int .i64 (ze.v a7.1).1,AV.int .i64 (ze.v a7.1).2.1,AV.str (ze.v a7.1).2.2]) [AO.box [AV.sl zp a1.2.1,AV.int .i64 a2,AV.kb false]]) (Tr.re (AV.agg [AV.int .i64 (ze.v a7.1).1,AV.int .i64 (ze.v a7.1).2.1,AV.str (ze.v a7.1).2.2]) (bQ zJ (a1.2.1,a2,a1.2.2.2)))))))
  (Tr.br (decide (a8 > a3)) (Tr.re (AV.agg [AV.int .i64 0,AV.int .i64 0,AV.str []]) [AO.box [AV.sl zp a1.2.1,AV.int .i64 a1.2.2.1,AV.kb false]]) (Tr.chk (a4&&decide (a1.2.2.1≤a8)&&decide (a8≤a3)) (Tr.chk (EK a9) (Tr.br (bif !a10.2.2 then true else bif a10.2.1 != 1 then true else !ze.op a10.1==[108,105,116])
  (Tr.re (AV.agg [AV.int .i64 (ze.v a10.1).1,AV.int .i64 (ze.v a10.1).2.1,AV.str (ze.v a10.1).2.2]) [AO.box [AV.sl zp a1.2.1,AV.int .i64 a8,AV.kb false]]) (Tr.re (AV.agg [AV.int .i64 (ze.v a10.1).1,AV.int .i64 (ze.v a10.1).2.1,AV.str (ze.v a10.1).2.2]) (bQ zJ (a1.2.1,a8,a1.2.2.2))))))))
theorem Xu (y:zu zJ):rn HL 1 M6 Tryz.f110 [AV.ptr 0 0] (bQ zJ y)=(MB y).map (lf Tryz.f110 e0):=by kernel_rfl
noncomputable def OK (y:zu zJ):Option (zw (List.map some [zf])×zu zJ):=xZ [zf] zJ t0 100000000 (MB y)
noncomputable def G0 (y:zu zJ):Bool:=(OK y).isSome
noncomputable def I2 (y:zu zJ):(Sem zf)×zu zJ:=(fun r:zw (List.map some [zf])×zu zJ=>(r.1.1,r.2)) ((OK y).getD (bT [zf],fH zJ))
noncomputable def Sp:zD:=xM zJ [] [zf] zJ (fun y _=>G0 y) fun y _=>(((I2 y).1,()),(I2 y).2)
theorem Pw:FK 110 Sp:=qi (ps:=zJ) (ks:=[]) (outs:=[zf]) (keep:=M6) (gas:=400) (n:=100000000) (e:=e0) (t:=t0) (i:=fun y x=>MB y) y8 Yy (fun y x=>Xu y) (KO _ _ _ _ _) (fun _ _=>by kernel_rfl) (fun _ _=>by kernel_rfl)

noncomputable def DV:=HL.add 110 Sp
theorem y9:zm DV:=y8.add Pw
noncomputable section
abbrev QR:List CP:=[.d .str,.d .str,.d .str,.nil,.vec zi,.d .str,.nil,.nil,.d .str,.d zg,.d zg,.d .str,.d .str,.nil,.nil,.nil,.d .str,.d zg,.d zg,.d .str,.d .str,.nil,.d .str]
abbrev nu:List CP:=[.d .str,.d .str,.d .str,.nil,.vec zi,.d .str,.vec .str,.vec b7,.d .str,.d zg,.d zg,.d .str,.d .str,.nil,.nil,.nil,.d .str,.d zg,.d zg,.d .str,.d .str,.nil,.d .str]
abbrev fY:List CP:=[.d .str,.d .str,.d .str,.nil,.vec zi,.d .str,.vec .str,.vec b7,.d .expr,.nil,.nil,.d .str,.d zg,.d zg,.d .str,.d .str,.nil,.d .str]

abbrev Gk:Nat→zX:=fun j=>if j=4 then { slots:=[0,1],prom:=[(1,some 4,zi)] } else if j=23 then { slots:=[0,1,5],prom:=[(1,some 6,.str),(1,some 7,b7)] } else if j=500013 then { slots:=[0,1,4,47],cut:=true } else if j=500025 then { slots:=[0,1,5,85],cut:=true } else if j=500029 then { slots:=[0,1,5,107],cut:=true } else if j=500035 then { slots:=[0,1,5,133],cut:=true } else if j=1000000 then { prom:=[(1,some 4,zi),(1,some 6,.str),(1,some 7,b7),(1,some 13,.expr)],sett:=[(1,13)] } else { }
inductive bt where
 | h4 (z0:zu zJ) (z1:zu QR)
 | h500013 (b47:Sem Sh.bool) (z0:zu zJ) (z1:zu QR) (jc0:Sem Sh.str) (jc1:Int)
 | h23 (i5:Int) (z1:zu nu) (ja0:List (Sem zp)) (ja1:Sem zg) (bh_0_2:Sem Sh.bool)
 | h500025 (i5:Int) (b85:Sem Sh.bool) (z0:zu zJ) (z1:zu nu)
 | h500025b (i5:Int) (z0:zu zJ) (z1:zu nu)
 | h500029 (i5:Int) (b107:Sem Sh.bool) (z0:zu zJ) (z1:zu nu)
 | h500029b (i5:Int) (z0:zu zJ) (z1:zu nu)
 | h500035 (i5:Int) (b133:Sem Sh.bool) (z0:zu zJ) (z1:zu nu)
 | h500035b (i5:Int) (z0:zu zJ) (z1:zu nu)
 | h23b (i5:Int) (z1:zu fY) (ja0:List (Sem zp)) (ja1:Sem zg) (bh_0_2:Sem Sh.bool)
 | h23bb (i5:Int) (z1:zu nu) (ja0:List (Sem zp)) (ja1:Sem zg)
 | h500025bb (i5:Int) (b85:Sem Sh.bool) (z0:zu zJ) (z1:zu fY)
 | h500025bbb (i5:Int) (z0:zu zJ) (z1:zu fY)
 | h500029bb (i5:Int) (b107:Sem Sh.bool) (z0:zu zJ) (z1:zu fY)
 | h500029bbb (i5:Int) (z0:zu zJ) (z1:zu fY)
 | h500035bb (i5:Int) (b133:Sem Sh.bool) (z0:zu zJ) (z1:zu fY)
 | h500035bbb (i5:Int) (z0:zu zJ) (z1:zu fY)
 | h23bbb (i5:Int) (z1:zu fY) (ja0:List (Sem zp)) (ja1:Sem zg)
abbrev Du:bt→Nat×St
 | .h4 z0 z1=>(4,⟨tm 147 [(0,AV.ptr 0 0),(1,AV.ptr 1 0)],[AO.box (bb [] zJ z0),AO.box (bb [2] QR z1),AO.vec zi z1.2.2.2.1]⟩)
 | .h500013 b47 z0 z1 jc0 jc1=>(500013,⟨tm 147 [(0,AV.ptr 0 0),(1,AV.ptr 1 0),(4,AV.ptr 2 0),(47,AV.bool b47)],[AO.box (bb [] zJ z0),AO.box (bb [3] QR z1),AO.box [AV.str jc0,AV.int .i64 jc1,AV.kb false],AO.vec zi z1.2.2.2.1]⟩)
 | .h23 i5 z1 ja0 ja1 bh_0_2=>(23,⟨tm 147 [(0,AV.ptr 0 0),(1,AV.ptr 1 0),(5,AV.int .i64 i5)],[AO.box [AV.sl zp ja0,AV.int .i64 ja1,AV.bool bh_0_2],AO.box (bb [2,3,4] nu z1),AO.vec zi z1.2.2.2.1,AO.vec Sh.str z1.2.2.2.2.2.1,AO.vec (Sh.str.pr Sh.str) z1.2.2.2.2.2.2.1]⟩)
 | .h500025 i5 b85 z0 z1=>(500025,⟨tm 147 [(0,AV.ptr 0 0),(1,AV.ptr 1 0),(5,AV.int .i64 i5),(85,AV.bool b85)],[AO.box (bb [] zJ z0),AO.box (bb [2,3,4] nu z1),AO.vec zi z1.2.2.2.1,AO.vec Sh.str z1.2.2.2.2.2.1,AO.vec (Sh.str.pr Sh.str) z1.2.2.2.2.2.2.1]⟩)
 | .h500025b i5 z0 z1=>(500025,⟨tm 147 [(0,AV.ptr 0 0),(1,AV.ptr 1 0),(5,AV.int .i64 i5),(85,AV.kb false)],[AO.box (bb [] zJ z0),AO.box (bb [2,3,4] nu z1),AO.vec zi z1.2.2.2.1,AO.vec Sh.str z1.2.2.2.2.2.1,AO.vec (Sh.str.pr Sh.str) z1.2.2.2.2.2.2.1]⟩)
 | .h500029 i5 b107 z0 z1=>(500029,⟨tm 147 [(0,AV.ptr 0 0),(1,AV.ptr 1 0),(5,AV.int .i64 i5),(107,AV.bool b107)],[AO.box (bb [] zJ z0),AO.box (bb [2,3,4] nu z1),AO.vec zi z1.2.2.2.1,AO.vec Sh.str z1.2.2.2.2.2.1,AO.vec (Sh.str.pr Sh.str) z1.2.2.2.2.2.2.1]⟩)
 | .h500029b i5 z0 z1=>(500029,⟨tm 147 [(0,AV.ptr 0 0),(1,AV.ptr 1 0),(5,AV.int .i64 i5),(107,AV.kb false)],[AO.box (bb [] zJ z0),AO.box (bb [2,3,4] nu z1),AO.vec zi z1.2.2.2.1,AO.vec Sh.str z1.2.2.2.2.2.1,AO.vec (Sh.str.pr Sh.str) z1.2.2.2.2.2.2.1]⟩)
 | .h500035 i5 b133 z0 z1=>(500035,⟨tm 147 [(0,AV.ptr 0 0),(1,AV.ptr 1 0),(5,AV.int .i64 i5),(133,AV.bool b133)],[AO.box (bb [] zJ z0),AO.box (bb [2,3,4] nu z1),AO.vec zi z1.2.2.2.1,AO.vec Sh.str z1.2.2.2.2.2.1,AO.vec (Sh.str.pr Sh.str) z1.2.2.2.2.2.2.1]⟩)
 | .h500035b i5 z0 z1=>(500035,⟨tm 147 [(0,AV.ptr 0 0),(1,AV.ptr 1 0),(5,AV.int .i64 i5),(133,AV.kb false)],[AO.box (bb [] zJ z0),AO.box (bb [2,3,4] nu z1),AO.vec zi z1.2.2.2.1,AO.vec Sh.str z1.2.2.2.2.2.1,AO.vec (Sh.str.pr Sh.str) z1.2.2.2.2.2.2.1]⟩)
 | .h23b i5 z1 ja0 ja1 bh_0_2=>(23,⟨tm 147 [(0,AV.ptr 0 0),(1,AV.ptr 1 0),(5,AV.int .i64 i5)],[AO.box [AV.sl zp ja0,AV.int .i64 ja1,AV.bool bh_0_2],AO.box (bb [2,3,4] fY z1),AO.vec zi z1.2.2.2.1,AO.vec Sh.str z1.2.2.2.2.2.1,AO.vec (Sh.str.pr Sh.str) z1.2.2.2.2.2.2.1]⟩)
 | .h23bb i5 z1 ja0 ja1=>(23,⟨tm 147 [(0,AV.ptr 0 0),(1,AV.ptr 1 0),(5,AV.int .i64 i5)],[AO.box [AV.sl zp ja0,AV.int .i64 ja1,AV.kb false],AO.box (bb [2,3,4] nu z1),AO.vec zi z1.2.2.2.1,AO.vec Sh.str z1.2.2.2.2.2.1,AO.vec (Sh.str.pr Sh.str) z1.2.2.2.2.2.2.1]⟩)
 | .h500025bb i5 b85 z0 z1=>(500025,⟨tm 147 [(0,AV.ptr 0 0),(1,AV.ptr 1 0),(5,AV.int .i64 i5),(85,AV.bool b85)],[AO.box (bb [] zJ z0),AO.box (bb [2,3,4] fY z1),AO.vec zi z1.2.2.2.1,AO.vec Sh.str z1.2.2.2.2.2.1,AO.vec (Sh.str.pr Sh.str) z1.2.2.2.2.2.2.1]⟩)
 | .h500025bbb i5 z0 z1=>(500025,⟨tm 147 [(0,AV.ptr 0 0),(1,AV.ptr 1 0),(5,AV.int .i64 i5),(85,AV.kb false)],[AO.box (bb [] zJ z0),AO.box (bb [2,3,4] fY z1),AO.vec zi z1.2.2.2.1,AO.vec Sh.str z1.2.2.2.2.2.1,AO.vec (Sh.str.pr Sh.str) z1.2.2.2.2.2.2.1]⟩)
 | .h500029bb i5 b107 z0 z1=>(500029,⟨tm 147 [(0,AV.ptr 0 0),(1,AV.ptr 1 0),(5,AV.int .i64 i5),(107,AV.bool b107)],[AO.box (bb [] zJ z0),AO.box (bb [2,3,4] fY z1),AO.vec zi z1.2.2.2.1,AO.vec Sh.str z1.2.2.2.2.2.1,AO.vec (Sh.str.pr Sh.str) z1.2.2.2.2.2.2.1]⟩)
 | .h500029bbb i5 z0 z1=>(500029,⟨tm 147 [(0,AV.ptr 0 0),(1,AV.ptr 1 0),(5,AV.int .i64 i5),(107,AV.kb false)],[AO.box (bb [] zJ z0),AO.box (bb [2,3,4] fY z1),AO.vec zi z1.2.2.2.1,AO.vec Sh.str z1.2.2.2.2.2.1,AO.vec (Sh.str.pr Sh.str) z1.2.2.2.2.2.2.1]⟩)
 | .h500035bb i5 b133 z0 z1=>(500035,⟨tm 147 [(0,AV.ptr 0 0),(1,AV.ptr 1 0),(5,AV.int .i64 i5),(133,AV.bool b133)],[AO.box (bb [] zJ z0),AO.box (bb [2,3,4] fY z1),AO.vec zi z1.2.2.2.1,AO.vec Sh.str z1.2.2.2.2.2.1,AO.vec (Sh.str.pr Sh.str) z1.2.2.2.2.2.2.1]⟩)
 | .h500035bbb i5 z0 z1=>(500035,⟨tm 147 [(0,AV.ptr 0 0),(1,AV.ptr 1 0),(5,AV.int .i64 i5),(133,AV.kb false)],[AO.box (bb [] zJ z0),AO.box (bb [2,3,4] fY z1),AO.vec zi z1.2.2.2.1,AO.vec Sh.str z1.2.2.2.2.2.1,AO.vec (Sh.str.pr Sh.str) z1.2.2.2.2.2.2.1]⟩)
 | .h23bbb i5 z1 ja0 ja1=>(23,⟨tm 147 [(0,AV.ptr 0 0),(1,AV.ptr 1 0),(5,AV.int .i64 i5)],[AO.box [AV.sl zp ja0,AV.int .i64 ja1,AV.kb false],AO.box (bb [2,3,4] fY z1),AO.vec zi z1.2.2.2.1,AO.vec Sh.str z1.2.2.2.2.2.1,AO.vec (Sh.str.pr Sh.str) z1.2.2.2.2.2.2.1]⟩)
theorem Yw:zA DV.P 107 Tryz.f107 2:=aJ (by kernel_rfl)
def Mz (y:zu zJ) (z:zu eX):Tr (bt ⊕ zV):=
 let a0:=(y.1,y.2.1,y.2.2.1,())
 let a1:=zU a0 [84,65,66,76,69]
 let a2:=(a1.1,a1.2.1,a1.2.2.1,())
 let a3:=aH a2
 let a4:=(a3.2.1,a3.2.2.1,a3.2.2.2.1,())
 Tr.chk (zK a0 [84,65,66,76,69])
 (Tr.chk (ac a2) (Tr.chk (zK a4 [40]) (Tr.to (bt.h4 (zU a4 [40]) ([99,114,101,97,116,101],a3.1,z.2.2.1,[],z.2.2.2)))))
theorem Xs (y:zu zJ) (z:zu eX):rn DV 2 Gk Tryz.f107 [AV.ptr 0 0,AV.ptr 1 0] (aN zJ eX y z)=(Mz y z).map (lf Tryz.f107 Du):=by kernel_rfl
def O0:bt→Tr (bt ⊕ zV)
 | .h4 z0 z1=>
  let a0:=(z0.1,z0.2.1,z0.2.2.1,())
  let a1:=mt a0 [75,69,89]
  let a2:=(a1.2.1,a1.2.2.1,a1.2.2.2.1,())
  let a3:=aH a2
  let a4:=(a3.2.1,a3.2.2.1,a3.2.2.2.1,())
  let a5:=aY a4 [73,78,84]
  let a6:=(a5.2.1,a5.2.2.1,a5.2.2.2.1,())
  let a7:=aY a6 [78,79,84]
  let a8:=aY a6 [84,69,88,84]
  let a9:=(a8.2.1,a8.2.2.1,a8.2.2.2.1,())
  let a10:=aY a9 [78,79,84]
  let a11:=aY a9 [66,79,79,76]
  let a12:=(a11.2.1,a11.2.2.1,a11.2.2.2.1,())
  let a13:=aY a12 [78,79,84]
  let a14:=(a11.2.1,a11.2.2.1,false,())
  let a15:=aY a14 [78,79,84]
  let a16:=zU a2 [75,69,89]
  let a17:=(a16.1,a16.2.1,a16.2.2.1,())
  let a18:=zU a17 [40]
  let a19:=(a18.1,a18.2.1,a18.2.2.1,())
  let a20:=aH a19
  let a21:=(a20.2.1,a20.2.2.1,a20.2.2.2.1,())
  let a22:=([],[],z1.2.2.2.2.2)
  let a23:=zU a21 [41]
  let a24:=zU a0 [75,69,89]
  let a25:=(a24.1,a24.2.1,a24.2.2.1,())
  let a26:=zU a25 [40]
  let a27:=(a26.1,a26.2.1,a26.2.2.1,())
  let a28:=aH a27
  let a29:=(a28.2.1,a28.2.2.1,a28.2.2.2.1,())
  let a30:=zU a29 [41]
  Tr.br z0.2.2.1
  (Tr.chk (jN a0 [75,69,89]) (Tr.br (!a1.1) (Tr.chk (ac a2) (Tr.chk (aL a4 [73,78,84]) (Tr.br a5.1 (Tr.chk (aL a6 [78,79,84]) (Tr.to (bt.h500013 a7.1 a7.2 z1 a3.1 1))) (Tr.chk (aL a6 [84,69,88,84]) (Tr.br a8.1 (Tr.chk (aL a9 [78,79,84]) (Tr.to (bt.h500013 a10.1 a10.2 z1 a3.1 2))) (Tr.chk (aL a9 [66,79,79,76])
  (Tr.br a11.1 (Tr.chk (aL a12 [78,79,84]) (Tr.to (bt.h500013 a13.1 a13.2 z1 a3.1 3))) (Tr.chk (aL a14 [78,79,84]) (Tr.to (bt.h500013 a15.1 a15.2 z1 a3.1 0)))))))))) (Tr.chk (zK a2 [75,69,89]) (Tr.chk (zK a17 [40]) (Tr.chk (ac a19) (Tr.chk (zK a21 [41]) (Tr.to (bt.h23 0 (z1.1,z1.2.1,z1.2.2.1,z1.2.2.2.1,a20.1,a22) a23.1 a23.2.1 a23.2.2.1))))))))
  (Tr.chk (zK a0 [75,69,89]) (Tr.chk (zK a25 [40]) (Tr.chk (ac a27) (Tr.chk (zK a29 [41]) (Tr.to (bt.h23 0 (z1.1,z1.2.1,z1.2.2.1,z1.2.2.2.1,a28.1,a22) a30.1 a30.2.1 a30.2.2.1))))))
 | .h500013 b47 z0 z1 jc0 jc1=>
  let a0:=(z0.1,z0.2.1,z0.2.2.1,())
  let a1:=[(jc0,jc1,true)]
  let a2:=zU a0 [78,85,76,76]
  let a3:=(a2.1,a2.2.1,a2.2.2.1,())
  let a4:=[(jc0,jc1,false)]
  Tr.br b47
  (Tr.chk (zK a0 [78,85,76,76]) (Tr.chk (decide (z1.2.2.2.1.length+a1.length≤1073741824)) (Tr.chk (zK a3 [44]) (Tr.to (bt.h4 (zU a3 [44]) (z1.1,z1.2.1,z1.2.2.1,z1.2.2.2.1++a1,z1.2.2.2.2))))))
  (Tr.chk (decide (z1.2.2.2.1.length+a4.length≤1073741824)) (Tr.chk (zK a0 [44]) (Tr.to (bt.h4 (zU a0 [44]) (z1.1,z1.2.1,z1.2.2.1,z1.2.2.2.1++a4,z1.2.2.2.2)))))
 | .h23 i5 z1 ja0 ja1 bh_0_2=>
  let a0:=(ja0,ja1,bh_0_2,())
  let a1:=aY a0 [44]
  let a2:=(a1.2.1,a1.2.2.1,a1.2.2.2.1,())
  let a3:=aY a2 [85,78,73,81,85,69]
  let a4:=(z1.1,z1.2.1,z1.2.2.1,z1.2.2.2.1,z1.2.2.2.2.1,z1.2.2.2.2.2.1,z1.2.2.2.2.2.2.1,ze.mk z1.2.2.2.2.2.2.2.1 (z1.2.2.2.2.2.2.2.2.1,z1.2.2.2.2.2.2.2.2.2.1,z1.2.2.2.2.2.2.2.2.2.2.1) z1.2.2.2.2.2.2.2.2.2.2.2.1 [],z1.2.2.2.2.2.2.2.2.2.2.2.2)
  Tr.br bh_0_2
  (Tr.chk (aL a0 [44]) (Tr.br a1.1 (Tr.br (i5==0) (Tr.chk (aL a2 [85,78,73,81,85,69]) (Tr.to (bt.h500025 i5 a3.1 a3.2 z1))) (Tr.to (bt.h500025b i5 a1.2 z1))) (Tr.chk (zK a2 [41]) (Tr.re (AV.tup []) (aN zJ fY (zU a2 [41]) a4)))))
  (Tr.chk (zK a0 [41]) (Tr.re (AV.tup []) (aN zJ fY (zU a0 [41]) a4)))
 | .h500025 i5 b85 z0 z1=>
  let a0:=(z0.1,z0.2.1,z0.2.2.1,())
  let a1:=zU a0 [40]
  let a2:=(a1.1,a1.2.1,a1.2.2.1,())
  let a3:=aH a2
  let a4:=[a3.1]
  let a5:=(a3.2.1,a3.2.2.1,a3.2.2.2.1,())
  let a6:=zU a5 [41]
  let a7:=aY a0 [82,69,70,69,82,69,78,67,69,83]
  Tr.br b85
  (Tr.chk (zK a0 [40]) (Tr.chk (ac a2) (Tr.chk (decide (z1.2.2.2.2.2.1.length+a4.length≤1073741824)) (Tr.chk (zK a5 [41]) (Tr.to (bt.h23 i5 (z1.1,z1.2.1,z1.2.2.1,z1.2.2.2.1,z1.2.2.2.2.1,z1.2.2.2.2.2.1++a4,z1.2.2.2.2.2.2) a6.1 a6.2.1 a6.2.2.1))))))
  (Tr.br (decide (i5≤1)) (Tr.chk (aL a0 [82,69,70,69,82,69,78,67,69,83]) (Tr.to (bt.h500029 i5 a7.1 a7.2 z1))) (Tr.to (bt.h500029b i5 z0 z1)))
 | .h500025b i5 z0 z1=>
  let a0:=(z0.1,z0.2.1,z0.2.2.1,())
  let a1:=aY a0 [82,69,70,69,82,69,78,67,69,83]
  Tr.br (decide (i5≤1)) (Tr.chk (aL a0 [82,69,70,69,82,69,78,67,69,83]) (Tr.to (bt.h500029 i5 a1.1 a1.2 z1)))
  (Tr.to (bt.h500029b i5 z0 z1))
 | .h500029 i5 b107 z0 z1=>
  let a0:=(z0.1,z0.2.1,z0.2.2.1,())
  let a1:=zU a0 [40]
  let a2:=(a1.1,a1.2.1,a1.2.2.1,())
  let a3:=aH a2
  let a4:=(a3.2.1,a3.2.2.1,a3.2.2.2.1,())
  let a5:=zU a4 [41]
  let a6:=(a5.1,a5.2.1,a5.2.2.1,())
  let a7:=aH a6
  let a8:=[(a3.1,a7.1)]
  let a9:=mt a0 [67,72,69,67,75]
  Tr.br b107
  (Tr.chk (zK a0 [40]) (Tr.chk (ac a2) (Tr.chk (zK a4 [41]) (Tr.chk (ac a6) (Tr.chk (decide (z1.2.2.2.2.2.2.1.length+a8.length≤1073741824)) (Tr.to (bt.h23 1 (z1.1,z1.2.1,z1.2.2.1,z1.2.2.2.1,z1.2.2.2.2.1,z1.2.2.2.2.2.1,z1.2.2.2.2.2.2.1++a8,z1.2.2.2.2.2.2.2) a7.2.1 a7.2.2.1 a7.2.2.2.1)))))))
  (Tr.br (decide (i5≤2)) (Tr.chk (jN a0 [67,72,69,67,75]) (Tr.to (bt.h500035 i5 a9.1 a9.2 z1))) (Tr.to (bt.h500035b i5 z0 z1)))
 | .h500029b i5 z0 z1=>
  let a0:=(z0.1,z0.2.1,z0.2.2.1,())
  let a1:=mt a0 [67,72,69,67,75]
  Tr.br (decide (i5≤2)) (Tr.chk (jN a0 [67,72,69,67,75]) (Tr.to (bt.h500035 i5 a1.1 a1.2 z1))) (Tr.to (bt.h500035b i5 z0 z1))
 | .h500035 i5 b133 z0 z1=>
  let a0:=(z0.1,z0.2.1,z0.2.2.1,())
  let a1:=c7 a0 [67,72,69,67,75]
  Tr.br b133
  (Tr.chk (cj a0 [67,72,69,67,75]) (Tr.to (bt.h23b 3 (z1.1,z1.2.1,z1.2.2.1,z1.2.2.2.1,z1.2.2.2.2.1,z1.2.2.2.2.2.1,z1.2.2.2.2.2.2.1,a1.1,z1.2.2.2.2.2.2.2.2.2.2.2.2) a1.2.1 a1.2.2.1 a1.2.2.2.1)))
  (Tr.to (bt.h23bb i5 z1 z0.1 z0.2.1))
 | .h500035b i5 z0 z1=>
  Tr.to (bt.h23bb i5 z1 z0.1 z0.2.1)
 | .h23b i5 z1 ja0 ja1 bh_0_2=>
  let a0:=(ja0,ja1,bh_0_2,())
  let a1:=aY a0 [44]
  let a2:=(a1.2.1,a1.2.2.1,a1.2.2.2.1,())
  let a3:=aY a2 [85,78,73,81,85,69]
  Tr.br bh_0_2
  (Tr.chk (aL a0 [44]) (Tr.br a1.1 (Tr.br (i5==0) (Tr.chk (aL a2 [85,78,73,81,85,69]) (Tr.to (bt.h500025bb i5 a3.1 a3.2 z1))) (Tr.to (bt.h500025bbb i5 a1.2 z1))) (Tr.chk (zK a2 [41]) (Tr.re (AV.tup []) (aN zJ fY (zU a2 [41]) z1)))))
  (Tr.chk (zK a0 [41]) (Tr.re (AV.tup []) (aN zJ fY (zU a0 [41]) z1)))
 | .h23bb _ z1 ja0 ja1=>
  let a0:=(ja0,ja1,false,())
  Tr.chk (zK a0 [41])
  (Tr.re (AV.tup []) (aN zJ fY (zU a0 [41]) (z1.1,z1.2.1,z1.2.2.1,z1.2.2.2.1,z1.2.2.2.2.1,z1.2.2.2.2.2.1,z1.2.2.2.2.2.2.1,ze.mk z1.2.2.2.2.2.2.2.1 (z1.2.2.2.2.2.2.2.2.1,z1.2.2.2.2.2.2.2.2.2.1,z1.2.2.2.2.2.2.2.2.2.2.1) z1.2.2.2.2.2.2.2.2.2.2.2.1 [],z1.2.2.2.2.2.2.2.2.2.2.2.2)))
 | .h500025bb i5 b85 z0 z1=>
  let a0:=(z0.1,z0.2.1,z0.2.2.1,())
  let a1:=zU a0 [40]
  let a2:=(a1.1,a1.2.1,a1.2.2.1,())
  let a3:=aH a2
  let a4:=[a3.1]
  let a5:=(a3.2.1,a3.2.2.1,a3.2.2.2.1,())
  let a6:=zU a5 [41]
  let a7:=aY a0 [82,69,70,69,82,69,78,67,69,83]
  Tr.br b85
  (Tr.chk (zK a0 [40]) (Tr.chk (ac a2) (Tr.chk (decide (z1.2.2.2.2.2.1.length+a4.length≤1073741824)) (Tr.chk (zK a5 [41]) (Tr.to (bt.h23b i5 (z1.1,z1.2.1,z1.2.2.1,z1.2.2.2.1,z1.2.2.2.2.1,z1.2.2.2.2.2.1++a4,z1.2.2.2.2.2.2) a6.1 a6.2.1 a6.2.2.1))))))
  (Tr.br (decide (i5≤1)) (Tr.chk (aL a0 [82,69,70,69,82,69,78,67,69,83]) (Tr.to (bt.h500029bb i5 a7.1 a7.2 z1))) (Tr.to (bt.h500029bbb i5 z0 z1)))
 | .h500025bbb i5 z0 z1=>
  let a0:=(z0.1,z0.2.1,z0.2.2.1,())
  let a1:=aY a0 [82,69,70,69,82,69,78,67,69,83]
  Tr.br (decide (i5≤1)) (Tr.chk (aL a0 [82,69,70,69,82,69,78,67,69,83]) (Tr.to (bt.h500029bb i5 a1.1 a1.2 z1)))
  (Tr.to (bt.h500029bbb i5 z0 z1))
 | .h500029bb i5 b107 z0 z1=>
  let a0:=(z0.1,z0.2.1,z0.2.2.1,())
  let a1:=zU a0 [40]
  let a2:=(a1.1,a1.2.1,a1.2.2.1,())
  let a3:=aH a2
  let a4:=(a3.2.1,a3.2.2.1,a3.2.2.2.1,())
  let a5:=zU a4 [41]
  let a6:=(a5.1,a5.2.1,a5.2.2.1,())
  let a7:=aH a6
  let a8:=[(a3.1,a7.1)]
  let a9:=mt a0 [67,72,69,67,75]
  Tr.br b107
  (Tr.chk (zK a0 [40]) (Tr.chk (ac a2) (Tr.chk (zK a4 [41]) (Tr.chk (ac a6) (Tr.chk (decide (z1.2.2.2.2.2.2.1.length+a8.length≤1073741824)) (Tr.to (bt.h23b 1 (z1.1,z1.2.1,z1.2.2.1,z1.2.2.2.1,z1.2.2.2.2.1,z1.2.2.2.2.2.1,z1.2.2.2.2.2.2.1++a8,z1.2.2.2.2.2.2.2) a7.2.1 a7.2.2.1 a7.2.2.2.1)))))))
  (Tr.br (decide (i5≤2)) (Tr.chk (jN a0 [67,72,69,67,75]) (Tr.to (bt.h500035bb i5 a9.1 a9.2 z1))) (Tr.to (bt.h500035bbb i5 z0 z1)))
 | .h500029bbb i5 z0 z1=>
  let a0:=(z0.1,z0.2.1,z0.2.2.1,())
  let a1:=mt a0 [67,72,69,67,75]
  Tr.br (decide (i5≤2)) (Tr.chk (jN a0 [67,72,69,67,75]) (Tr.to (bt.h500035bb i5 a1.1 a1.2 z1))) (Tr.to (bt.h500035bbb i5 z0 z1))
 | .h500035bb i5 b133 z0 z1=>
  let a0:=(z0.1,z0.2.1,z0.2.2.1,())
  let a1:=c7 a0 [67,72,69,67,75]
  Tr.br b133
  (Tr.chk (cj a0 [67,72,69,67,75]) (Tr.to (bt.h23b 3 (z1.1,z1.2.1,z1.2.2.1,z1.2.2.2.1,z1.2.2.2.2.1,z1.2.2.2.2.2.1,z1.2.2.2.2.2.2.1,a1.1,z1.2.2.2.2.2.2.2.2) a1.2.1 a1.2.2.1 a1.2.2.2.1)))
  (Tr.to (bt.h23bbb i5 z1 z0.1 z0.2.1))
 | .h500035bbb i5 z0 z1=>
  Tr.to (bt.h23bbb i5 z1 z0.1 z0.2.1)
 | .h23bbb _ z1 ja0 ja1=>
  let a0:=(ja0,ja1,false,())
  Tr.chk (zK a0 [41]) (Tr.re (AV.tup []) (aN zJ fY (zU a0 [41]) z1))
theorem YR:∀ s,run DV 2 Gk (Func.results Tryz.f107).toList 400 (zx Tryz.f107 (Du s).1) (Du s).2=(O0 s).map (lf Tryz.f107 Du):=by intro s; cases s <;> kernel_rfl
def AC (y:zu zJ) (z:zu eX):Option (zw (List.map some [])×zu zJ×zu fY):=Ep [] zJ fY O0 100000000 (Mz y z)
def AB (y:zu zJ) (z:zu eX):Bool:=(AC y z).isSome
def EP (y:zu zJ) (z:zu eX):zu zJ×zu fY:=(fun r:zw (List.map some [])×zu zJ×zu fY=>r.2) ((AC y z).getD (bT [],fH zJ,fH fY))
def Sn:zD:=Hx zJ eX [] [] zJ fY (fun y z _=>AB y z) fun y z _=>((),EP y z)
theorem Pu:FK 107 Sn:=K2 (ps:=zJ) (qs:=eX) (ks:=[]) (outs:=[]) (keep:=Gk) (gas:=400) (n:=100000000) (e:=Du) (t:=O0) (i:=fun y z x=>Mz y z) y9 Yw (fun y z x=>Xs y z) YR (fun _ _ _=>by kernel_rfl) (fun _ _ _=>by kernel_rfl)

def T2:=DV.add 107 Sn
theorem JV:zm T2:=y9.add Pu
end
noncomputable section
abbrev jZ:List CP:=[.d .str,.d .str,.d .str,.vec .str,.nil,.d .str,.nil,.nil,.d .expr,.nil,.nil,.d .str,.d zg,.d zg,.d .str,.d .str,.nil,.d .str]
abbrev QS:List CP:=[.d .str,.d .str,.d .str,.vec .str,.nil,.d .str,.nil,.nil,.d .str,.d zg,.d zg,.d .str,.d .str,.nil,.nil,.nil,.d .str,.d zg,.d zg,.d .str,.d .str,.nil,.d .str]

abbrev Gl:Nat→zX:=fun j=>if j=14 then { slots:=[0,1,4],prom:=[(1,some 3,.str)] } else if j=1000000 then { prom:=[(1,some 3,.str)] } else { }
inductive nz where
 | h14 (z0:zu zJ) (z1:zu QS)
 | h14b (b4:Sem Sh.bool) (z0:zu zJ) (z1:zu QS)
abbrev Dv:nz→Nat×St
 | .h14 z0 z1=>(14,⟨tm 117 [(0,AV.ptr 0 0),(1,AV.ptr 1 0),(4,AV.kb true)],[AO.box (bb [] zJ z0),AO.box (bb [2] QS z1),AO.vec Sh.str z1.2.2.2.1]⟩)
 | .h14b b4 z0 z1=>(14,⟨tm 117 [(0,AV.ptr 0 0),(1,AV.ptr 1 0),(4,AV.bool b4)],[AO.box (bb [] zJ z0),AO.box (bb [2] QS z1),AO.vec Sh.str z1.2.2.2.1]⟩)
theorem YB:zA DM.P 115 Tryz.f115 2:=aJ (by kernel_rfl)
def ME (y:zu zJ) (z:zu eX):Tr (nz ⊕ zV):=
 let a0:=(y.1,y.2.1,y.2.2.1,())
 let a1:=aY a0 [67,79,80,89]
 let a2:=(a1.2.1,a1.2.2.1,a1.2.2.2.1,())
 let a3:=aH a2
 let a4:=(a3.2.1,a3.2.2.1,a3.2.2.2.1,())
 let a5:=zU a4 [70,82,79,77]
 let a6:=(a5.1,a5.2.1,a5.2.2.1,())
 let a7:=aH a6
 let a8:=(a7.2.1,a7.2.2.1,a7.2.2.2.1,())
 let a9:=([],z.2.2.2)
 let a10:=zU a8 [44]
 let a11:=(a10.1,a10.2.1,a10.2.2.1,())
 let a12:=aH a11
 let a13:=(a12.2.1,a12.2.2.1,a12.2.2.2.1,())
 let a14:=zU a13 [79,78]
 let a15:=(a14.1,a14.2.1,a14.2.2.1,())
 let a16:=aH a15
 let a17:=(a16.2.1,a16.2.2.1,a16.2.2.2.1,())
 let a18:=c7 a17 [67,72,69,67,75]
 let a19:=zU a8 [66,89]
 let a20:=(a19.1,a19.2.1,a19.2.2.1,())
 let a21:=aH a20
 let a22:=[a21.1]
 let a23:=(a21.2.1,a21.2.2.1,a21.2.2.2.1,())
 let a24:=zU a23 [83,85,77]
 let a25:=(a24.1,a24.2.1,a24.2.2.1,())
 let a26:=aH a25
 let a27:=[a26.1]
 let a28:=(a26.2.1,a26.2.2.1,a26.2.2.2.1,())
 let a29:=c7 a28 [67,72,69,67,75]
 let a30:=c7 a8 [67,72,69,67,75]
 let a31:=aY a2 [74,79,73,78]
 let a32:=(a31.2.1,a31.2.2.1,a31.2.2.2.1,())
 let a33:=aH a32
 let a34:=(a33.2.1,a33.2.2.1,a33.2.2.2.1,())
 let a35:=zU a34 [70,82,79,77]
 let a36:=(a35.1,a35.2.1,a35.2.2.1,())
 let a37:=aH a36
 let a38:=(a37.2.1,a37.2.2.1,a37.2.2.2.1,())
 let a39:=zU a38 [44]
 let a40:=(a39.1,a39.2.1,a39.2.2.1,())
 let a41:=aH a40
 let a42:=(a41.2.1,a41.2.2.1,a41.2.2.2.1,())
 let a43:=zU a42 [79,78]
 let a44:=(a43.1,a43.2.1,a43.2.2.1,())
 let a45:=aH a44
 let a46:=(a45.2.1,a45.2.2.1,a45.2.2.2.1,())
 let a47:=c7 a46 [67,72,69,67,75]
 let a48:=zU a38 [66,89]
 let a49:=(a48.1,a48.2.1,a48.2.2.1,())
 let a50:=aH a49
 let a51:=[a50.1]
 let a52:=(a50.2.1,a50.2.2.1,a50.2.2.2.1,())
 let a53:=zU a52 [83,85,77]
 let a54:=(a53.1,a53.2.1,a53.2.2.1,())
 let a55:=aH a54
 let a56:=[a55.1]
 let a57:=(a55.2.1,a55.2.2.1,a55.2.2.2.1,())
 let a58:=c7 a57 [67,72,69,67,75]
 let a59:=c7 a38 [67,72,69,67,75]
 let a60:=aY a32 [71,82,79,85,80]
 let a61:=(a60.2.1,a60.2.2.1,a60.2.2.2.1,())
 let a62:=aH a61
 let a63:=(a62.2.1,a62.2.2.1,a62.2.2.2.1,())
 let a64:=zU a63 [70,82,79,77]
 let a65:=(a64.1,a64.2.1,a64.2.2.1,())
 let a66:=aH a65
 let a67:=(a66.2.1,a66.2.2.1,a66.2.2.2.1,())
 let a68:=zU a67 [44]
 let a69:=(a68.1,a68.2.1,a68.2.2.1,())
 let a70:=aH a69
 let a71:=(a70.2.1,a70.2.2.1,a70.2.2.2.1,())
 let a72:=zU a71 [79,78]
 let a73:=(a72.1,a72.2.1,a72.2.2.1,())
 let a74:=aH a73
 let a75:=(a74.2.1,a74.2.2.1,a74.2.2.2.1,())
 let a76:=c7 a75 [67,72,69,67,75]
 let a77:=zU a67 [66,89]
 let a78:=(a77.1,a77.2.1,a77.2.2.1,())
 let a79:=aH a78
 let a80:=[a79.1]
 let a81:=(a79.2.1,a79.2.2.1,a79.2.2.2.1,())
 let a82:=zU a81 [83,85,77]
 let a83:=(a82.1,a82.2.1,a82.2.2.1,())
 let a84:=aH a83
 let a85:=[a84.1]
 let a86:=(a84.2.1,a84.2.2.1,a84.2.2.2.1,())
 let a87:=c7 a86 [67,72,69,67,75]
 let a88:=c7 a67 [67,72,69,67,75]
 let a89:=(a60.2.1,a60.2.2.1,false,())
 let a90:=aH a89
 let a91:=(a90.2.1,a90.2.2.1,a90.2.2.2.1,())
 let a92:=zU a91 [70,82,79,77]
 let a93:=(a92.1,a92.2.1,a92.2.2.1,())
 let a94:=aH a93
 let a95:=(a94.2.1,a94.2.2.1,a94.2.2.2.1,())
 let a96:=zU a95 [44]
 let a97:=(a96.1,a96.2.1,a96.2.2.1,())
 let a98:=aH a97
 let a99:=(a98.2.1,a98.2.2.1,a98.2.2.2.1,())
 let a100:=zU a99 [79,78]
 let a101:=(a100.1,a100.2.1,a100.2.2.1,())
 let a102:=aH a101
 let a103:=(a102.2.1,a102.2.2.1,a102.2.2.2.1,())
 let a104:=c7 a103 [67,72,69,67,75]
 let a105:=zU a95 [66,89]
 let a106:=(a105.1,a105.2.1,a105.2.2.1,())
 let a107:=aH a106
 let a108:=[a107.1]
 let a109:=(a107.2.1,a107.2.2.1,a107.2.2.2.1,())
 let a110:=zU a109 [83,85,77]
 let a111:=(a110.1,a110.2.1,a110.2.2.1,())
 let a112:=aH a111
 let a113:=[a112.1]
 let a114:=(a112.2.1,a112.2.2.1,a112.2.2.2.1,())
 let a115:=c7 a114 [67,72,69,67,75]
 let a116:=c7 a95 [67,72,69,67,75]
 Tr.chk (aL a0 [67,79,80,89])
 (Tr.br a1.1
  (Tr.chk (ac a2) (Tr.chk (zK a4 [70,82,79,77]) (Tr.chk (ac a6) (Tr.br true (Tr.chk (zK a8 [40]) (Tr.to (nz.h14 (zU a8 [40]) ([99,111,112,121],a3.1,a7.1,a9)))) (Tr.br false (Tr.chk (zK a8 [44]) (Tr.chk (ac a11) (Tr.chk (zK a13 [79,78]) (Tr.chk (ac a15) (Tr.chk (cj a17 [67,72,69,67,75]) (Tr.re (AV.tup []) (aN zJ jZ a18.2
  ([99,111,112,121],a3.1,a7.1,[],a16.1,a18.1,z.2.2.2.2.2.2.2.2.2.1,z.2.2.2.2.2.2.2.2.2.2.1,z.2.2.2.2.2.2.2.2.2.2.2.1,z.2.2.2.2.2.2.2.2.2.2.2.2.1,z.2.2.2.2.2.2.2.2.2.2.2.2.2.1,a12.1,())))))))) (Tr.br false (Tr.chk (zK a8 [66,89]) (Tr.chk (ac a20) (Tr.chk (decide (a22.length≤1073741824)) (Tr.chk (zK a23 [83,85,77]) (Tr.chk (ac a25)
  (Tr.chk (decide (a22.length+a27.length≤1073741824)) (Tr.chk (cj a28 [67,72,69,67,75]) (Tr.re (AV.tup []) (aN zJ jZ a29.2 ([99,111,112,121],a3.1,a7.1,a22++a27,z.2.2.2.1,a29.1,z.2.2.2.2.2.2.2.2.2)))))))))) (Tr.chk (cj a8 [67,72,69,67,75]) (Tr.re (AV.tup []) (aN zJ jZ a30.2
  ([99,111,112,121],a3.1,a7.1,[],z.2.2.2.1,a30.1,z.2.2.2.2.2.2.2.2.2))))))))))
  (Tr.chk (aL a2 [74,79,73,78]) (Tr.br a31.1 (Tr.chk (ac a32) (Tr.chk (zK a34 [70,82,79,77]) (Tr.chk (ac a36) (Tr.br false (Tr.chk (zK a38 [40]) (Tr.to (nz.h14 (zU a38 [40]) ([106,111,105,110],a33.1,a37.1,a9)))) (Tr.br true (Tr.chk (zK a38 [44]) (Tr.chk (ac a40) (Tr.chk (zK a42 [79,78]) (Tr.chk (ac a44)
  (Tr.chk (cj a46 [67,72,69,67,75]) (Tr.re (AV.tup []) (aN zJ jZ a47.2 ([106,111,105,110],a33.1,a37.1,[],a45.1,a47.1,z.2.2.2.2.2.2.2.2.2.1,z.2.2.2.2.2.2.2.2.2.2.1,z.2.2.2.2.2.2.2.2.2.2.2.1,z.2.2.2.2.2.2.2.2.2.2.2.2.1,z.2.2.2.2.2.2.2.2.2.2.2.2.2.1,a41.1,())))))))) (Tr.br false (Tr.chk (zK a38 [66,89]) (Tr.chk (ac a49)
  (Tr.chk (decide (a51.length≤1073741824)) (Tr.chk (zK a52 [83,85,77]) (Tr.chk (ac a54) (Tr.chk (decide (a51.length+a56.length≤1073741824)) (Tr.chk (cj a57 [67,72,69,67,75]) (Tr.re (AV.tup []) (aN zJ jZ a58.2 ([106,111,105,110],a33.1,a37.1,a51++a56,z.2.2.2.1,a58.1,z.2.2.2.2.2.2.2.2.2)))))))))) (Tr.chk (cj a38 [67,72,69,67,75])
  (Tr.re (AV.tup []) (aN zJ jZ a59.2 ([106,111,105,110],a33.1,a37.1,[],z.2.2.2.1,a59.1,z.2.2.2.2.2.2.2.2.2)))))))))) (Tr.chk (aL a32 [71,82,79,85,80]) (Tr.br a60.1 (Tr.chk (ac a61) (Tr.chk (zK a63 [70,82,79,77]) (Tr.chk (ac a65) (Tr.br false (Tr.chk (zK a67 [40]) (Tr.to (nz.h14 (zU a67 [40]) ([103,114,111,117,112],a62.1,a66.1,a9))))
  (Tr.br false (Tr.chk (zK a67 [44]) (Tr.chk (ac a69) (Tr.chk (zK a71 [79,78]) (Tr.chk (ac a73) (Tr.chk (cj a75 [67,72,69,67,75]) (Tr.re (AV.tup []) (aN zJ jZ a76.2 ([103,114,111,117,112],a62.1,a66.1,[],a74.1,a76.1,z.2.2.2.2.2.2.2.2.2.1,z.2.2.2.2.2.2.2.2.2.2.1,z.2.2.2.2.2.2.2.2.2.2.2.1,
  z.2.2.2.2.2.2.2.2.2.2.2.2.1,z.2.2.2.2.2.2.2.2.2.2.2.2.2.1,a70.1,())))))))) (Tr.br true (Tr.chk (zK a67 [66,89]) (Tr.chk (ac a78) (Tr.chk (decide (a80.length≤1073741824)) (Tr.chk (zK a81 [83,85,77]) (Tr.chk (ac a83) (Tr.chk (decide (a80.length+a85.length≤1073741824)) (Tr.chk (cj a86 [67,72,69,67,75]) (Tr.re (AV.tup []) (aN zJ jZ a87.2
  ([103,114,111,117,112],a62.1,a66.1,a80++a85,z.2.2.2.1,a87.1,z.2.2.2.2.2.2.2.2.2)))))))))) (Tr.chk (cj a67 [67,72,69,67,75]) (Tr.re (AV.tup []) (aN zJ jZ a88.2 ([103,114,111,117,112],a62.1,a66.1,[],z.2.2.2.1,a88.1,z.2.2.2.2.2.2.2.2.2)))))))))) (Tr.chk (ac a89) (Tr.chk (zK a91 [70,82,79,77]) (Tr.chk (ac a93)
  (Tr.br (z.1==[99,111,112,121]) (Tr.chk (zK a95 [40]) (Tr.to (nz.h14 (zU a95 [40]) (z.1,a90.1,a94.1,a9)))) (Tr.br (z.1==[106,111,105,110]) (Tr.chk (zK a95 [44]) (Tr.chk (ac a97) (Tr.chk (zK a99 [79,78]) (Tr.chk (ac a101) (Tr.chk (cj a103 [67,72,69,67,75]) (Tr.re (AV.tup []) (aN zJ jZ a104.2
  (z.1,a90.1,a94.1,[],a102.1,a104.1,z.2.2.2.2.2.2.2.2.2.1,z.2.2.2.2.2.2.2.2.2.2.1,z.2.2.2.2.2.2.2.2.2.2.2.1,z.2.2.2.2.2.2.2.2.2.2.2.2.1,z.2.2.2.2.2.2.2.2.2.2.2.2.2.1,a98.1,())))))))) (Tr.br (z.1==[103,114,111,117,112]) (Tr.chk (zK a95 [66,89]) (Tr.chk (ac a106) (Tr.chk (decide (a108.length≤1073741824)) (Tr.chk (zK a109 [83,85,77]) (Tr.chk (ac a111)
  (Tr.chk (decide (a108.length+a113.length≤1073741824)) (Tr.chk (cj a114 [67,72,69,67,75]) (Tr.re (AV.tup []) (aN zJ jZ a115.2 (z.1,a90.1,a94.1,a108++a113,z.2.2.2.1,a115.1,z.2.2.2.2.2.2.2.2.2)))))))))) (Tr.chk (cj a95 [67,72,69,67,75]) (Tr.re (AV.tup []) (aN zJ jZ a116.2 (z.1,a90.1,a94.1,[],z.2.2.2.1,a116.1,z.2.2.2.2.2.2.2.2.2)))))))))))))))
theorem Xx (y:zu zJ) (z:zu eX):rn DM 2 Gl Tryz.f115 [AV.ptr 0 0,AV.ptr 1 0] (aN zJ eX y z)=(ME y z).map (lf Tryz.f115 Dv):=by kernel_rfl
def O1:nz→Tr (nz ⊕ zV)
 | .h14 z0 z1=>
  let a0:=(z0.1,z0.2.1,z0.2.2.1,())
  let a1:=aH a0
  let a2:=[a1.1]
  let a3:=(a1.2.1,a1.2.2.1,a1.2.2.2.1,())
  let a4:=aY a3 [44]
  let a5:=zU a0 [41]
  let a6:=(a5.1,a5.2.1,a5.2.2.1,())
  let a7:=c7 a6 [67,72,69,67,75]
  Tr.br z0.2.2.1
  (Tr.chk (ac a0)
   (Tr.chk (decide (z1.2.2.2.1.length+a2.length≤1073741824)) (Tr.chk (aL a3 [44]) (Tr.to (nz.h14b a4.1 a4.2 (z1.1,z1.2.1,z1.2.2.1,z1.2.2.2.1++a2,z1.2.2.2.2))))))
  (Tr.chk (zK a0 [41])
   (Tr.chk (cj a6 [67,72,69,67,75]) (Tr.re (AV.tup []) (aN zJ jZ a7.2 (z1.1,z1.2.1,z1.2.2.1,z1.2.2.2.1,z1.2.2.2.2.1,a7.1,z1.2.2.2.2.2.2.2.2.2.2)))))
 | .h14b b4 z0 z1=>
  let a0:=(z0.1,z0.2.1,z0.2.2.1,())
  let a1:=aH a0
  let a2:=[a1.1]
  let a3:=(a1.2.1,a1.2.2.1,a1.2.2.2.1,())
  let a4:=aY a3 [44]
  let a5:=zU a0 [41]
  let a6:=(a5.1,a5.2.1,a5.2.2.1,())
  let a7:=c7 a6 [67,72,69,67,75]
  Tr.br (bif b4 then z0.2.2.1 else false)
  (Tr.chk (ac a0)
   (Tr.chk (decide (z1.2.2.2.1.length+a2.length≤1073741824)) (Tr.chk (aL a3 [44]) (Tr.to (nz.h14b a4.1 a4.2 (z1.1,z1.2.1,z1.2.2.1,z1.2.2.2.1++a2,z1.2.2.2.2))))))
  (Tr.chk (zK a0 [41])
   (Tr.chk (cj a6 [67,72,69,67,75]) (Tr.re (AV.tup []) (aN zJ jZ a7.2 (z1.1,z1.2.1,z1.2.2.1,z1.2.2.2.1,z1.2.2.2.2.1,a7.1,z1.2.2.2.2.2.2.2.2.2.2)))))
theorem YS:∀ s,run DM 2 Gl (Func.results Tryz.f115).toList 400 (zx Tryz.f115 (Dv s).1) (Dv s).2=(O1 s).map (lf Tryz.f115 Dv)
 | .h14 z0 z1=>by kernel_rfl
 | .h14b b4 z0 z1=>by kernel_rfl
def OI (y:zu zJ) (z:zu eX):Option (zw (List.map some [])×zu zJ×zu jZ):=Ep [] zJ jZ O1 100000000 (ME y z)
def OH (y:zu zJ) (z:zu eX):Bool:=(OI y z).isSome
def US (y:zu zJ) (z:zu eX):zu zJ×zu jZ:=(fun r:zw (List.map some [])×zu zJ×zu jZ=>r.2) ((OI y z).getD (bT [],fH zJ,fH jZ))
def Ss:zD:=Hx zJ eX [] [] zJ jZ (fun y z _=>OH y z) fun y z _=>((),US y z)
theorem Pz:FK 115 Ss:=K2 (ps:=zJ) (qs:=eX) (ks:=[]) (outs:=[]) (keep:=Gl) (gas:=400) (n:=100000000) (e:=Dv) (t:=O1) (i:=fun y z x=>ME y z) mN YB (fun y z x=>Xx y z) YS (fun _ _ _=>by kernel_rfl) (fun _ _ _=>by kernel_rfl)

end
noncomputable section
def Mg:=T2.add 115 Ss
theorem vw:zm Mg:=JV.add Pz

abbrev zeW:Nat→zX:=fun j=>if j=17 then { slots:=[2,4,6,7,8],prom:=[(7,some 14,zf)] } else if j=25 then { slots:=[2,4,6,7,9] } else { }
inductive C9 where
 | h17 (l4:List (Sem zp)) (z0:zu eX) (z1:zu zJ) (jc0:List UInt8) (jc1:Sem Sh.str) (jc2:List UInt8) (jc5:List UInt8) (jc8:List UInt8) (jc9:Int) (jc10:Int) (jc11:List UInt8) (jc12:List UInt8) (jc16:List UInt8) (jc17:Int) (jc18:Int) (jc19:List UInt8) (jc20:List UInt8) (jc22:List UInt8) (lh_3:List (Sem zf))
 | h25 (l4:List (Sem zp)) (z0:zu eX) (z1:zu zJ) (z2:zu eX)
 | h17b (l4:List (Sem zp)) (b8:Sem Sh.bool) (z0:zu eX) (z1:zu zJ) (jc0:List UInt8) (jc1:Sem Sh.str) (jc2:List UInt8) (jc5:List UInt8) (jc8:List UInt8) (jc9:Int) (jc10:Int) (jc11:List UInt8) (jc12:List UInt8) (jc16:List UInt8) (jc17:Int) (jc18:Int) (jc19:List UInt8) (jc20:List UInt8) (jc22:List UInt8) (lh_3:List (Sem zf))
abbrev zhp:C9→Nat×St
 | .h17 l4 z0 z1 jc0 jc1 jc2 jc5 jc8 jc9 jc10 jc11 jc12 jc16 jc17 jc18 jc19 jc20 jc22 lh_3=>(17,⟨tm 172 [(2,AV.ptr 0 0),(4,AV.sl zp l4),(6,AV.ptr 1 0),(7,AV.ptr 2 0),(8,AV.kb true)],[AO.box (bb [] eX z0),AO.box (bb [] zJ z1),AO.box [AV.str jc0,AV.str jc1,AV.str jc2,AV.nils,AV.nils,AV.str jc5,AV.nils,AV.nils,AV.str jc8,AV.int .i64 jc9,AV.int .i64 jc10,AV.str jc11,AV.str jc12,AV.nils,AV.vec 3,AV.nils,AV.str jc16,AV.int .i64 jc17,AV.int .i64 jc18,AV.str jc19,AV.str jc20,AV.nils,AV.str jc22],AO.vec zf lh_3]⟩)
 | .h25 l4 z0 z1 z2=>(25,⟨tm 172 [(2,AV.ptr 0 0),(4,AV.sl zp l4),(6,AV.ptr 1 0),(7,AV.ptr 2 0),(9,AV.kb true)],[AO.box (bb [] eX z0),AO.box (bb [] zJ z1),AO.box (bb [] eX z2)]⟩)
 | .h17b l4 b8 z0 z1 jc0 jc1 jc2 jc5 jc8 jc9 jc10 jc11 jc12 jc16 jc17 jc18 jc19 jc20 jc22 lh_3=>(17,⟨tm 172 [(2,AV.ptr 0 0),(4,AV.sl zp l4),(6,AV.ptr 1 0),(7,AV.ptr 2 0),(8,AV.bool b8)],[AO.box (bb [] eX z0),AO.box (bb [] zJ z1),AO.box [AV.str jc0,AV.str jc1,AV.str jc2,AV.nils,AV.nils,AV.str jc5,AV.nils,AV.nils,AV.str jc8,AV.int .i64 jc9,AV.int .i64 jc10,AV.str jc11,AV.str jc12,AV.nils,AV.vec 3,AV.nils,AV.str jc16,AV.int .i64 jc17,AV.int .i64 jc18,AV.str jc19,AV.str jc20,AV.nils,AV.str jc22],AO.vec zf lh_3]⟩)
def ziQ (x0:Sem Sh.str):Tr (C9 ⊕ zV):=
 let a0:=((Az x0).1,0,true,())
 let a1:=aY a0 [67,82,69,65,84,69]
 let a2:=(a1.2.1,a1.2.2.1,a1.2.2.2.1,())
 let a3:=EP a2 ([],[],[],[],[],0,0,[],[],[],0,0,[],[],[],())
 let a4:=(↑(length (Az x0).1):Int)
 let a5:=(a3.2.1,a3.2.2.1,a3.2.2.2.1,[],a3.2.2.2.2.1,a3.2.2.2.2.2.1,a3.2.2.2.2.2.2.1,a3.2.2.2.2.2.2.2.1,zB a3.2.2.2.2.2.2.2.2.1,[],[],ze.mk a3.2.2.2.2.2.2.2.2.2.1 (a3.2.2.2.2.2.2.2.2.2.2.1,a3.2.2.2.2.2.2.2.2.2.2.2.1,a3.2.2.2.2.2.2.2.2.2.2.2.2.1) a3.2.2.2.2.2.2.2.2.2.2.2.2.2.1 [],a3.2.2.2.2.2.2.2.2.2.2.2.2.2.2.1)
 let a6:=ms a5
 let a7:=aY a2 [68,82,79,80]
 let a8:=(a7.2.1,a7.2.2.1,a7.2.2.2.1,())
 let a9:=zU a8 [84,65,66,76,69]
 let a10:=(a9.1,a9.2.1,a9.2.2.1,())
 let a11:=aH a10
 let a12:=([100,114,111,112],a11.1,[],[],[],[],[],[],ze.mk [] (0,0,[]) [] [],[],[],ze.mk [] (0,0,[]) [] [],[])
 let a13:=ms a12
 let a14:=aY a8 [73,78,83,69,82,84]
 let a15:=(a14.2.1,a14.2.2.1,a14.2.2.2.1,())
 let a16:=zU a15 [73,78,84,79]
 let a17:=(a16.1,a16.2.1,a16.2.2.1,())
 let a18:=aH a17
 let a19:=(a18.2.1,a18.2.2.1,a18.2.2.2.1,())
 let a20:=zU a19 [86,65,76,85,69,83]
 let a21:=(a20.1,a20.2.1,a20.2.2.1,())
 let a22:=aY a15 [85,80,68,65,84,69]
 let a23:=(a22.2.1,a22.2.2.1,a22.2.2.2.1,())
 let a24:=aH a23
 let a25:=(a24.2.1,a24.2.2.1,a24.2.2.2.1,())
 let a26:=aY a23 [68,69,76,69,84,69]
 let a27:=(a26.2.1,a26.2.2.1,a26.2.2.2.1,())
 let a28:=zU a27 [70,82,79,77]
 let a29:=(a28.1,a28.2.1,a28.2.2.1,())
 let a30:=aH a29
 let a31:=(a30.2.1,a30.2.2.1,a30.2.2.2.1,())
 let a32:=c7 a31 [87,72,69,82,69]
 let a33:=([100,101,108,101,116,101],a30.1,[],[],[],[],[],[],ze.mk [] (0,0,[]) [] [],[],[],zB a32.1,[])
 let a34:=ms a33
 let a35:=aY a27 [83,69,76,69,67,84]
 let a36:=(a35.2.1,a35.2.2.1,a35.2.2.2.1,())
 let a37:=zU a36 [42]
 let a38:=(a37.1,a37.2.1,a37.2.2.1,())
 let a39:=zU a38 [70,82,79,77]
 let a40:=(a39.1,a39.2.1,a39.2.2.1,())
 let a41:=aH a40
 let a42:=(a41.2.1,a41.2.2.1,a41.2.2.2.1,())
 let a43:=c7 a42 [87,72,69,82,69]
 let a44:=([115,101,108,101,99,116],a41.1,[],[],[],[],[],[],ze.mk [] (0,0,[]) [] [],[],[],zB a43.1,[])
 let a45:=ms a44
 let a46:=aY a36 [71,82,65,78,84]
 let a47:=(a46.2.1,a46.2.2.1,a46.2.2.2.1,())
 let a48:=mt a47 [82,69,65,68]
 let a49:=aY a47 [82,69,86,79,75,69]
 let a50:=(a49.2.1,a49.2.2.1,a49.2.2.2.1,())
 let a51:=mt a50 [82,69,65,68]
 let a52:=aY a50 [77,73,71,82,65,84,69]
 let a53:=(a52.2.1,a52.2.2.1,a52.2.2.2.1,())
 let a54:=US a53 ([],[],[],[],[],0,0,[],[],[],0,0,[],[],[],())
 let a55:=(a54.2.1,a54.2.2.1,a54.2.2.2.1,a54.2.2.2.2.1,[],a54.2.2.2.2.2.1,[],[],zB a54.2.2.2.2.2.2.1,[],[],ze.mk a54.2.2.2.2.2.2.2.1 (a54.2.2.2.2.2.2.2.2.1,a54.2.2.2.2.2.2.2.2.2.1,a54.2.2.2.2.2.2.2.2.2.2.1) a54.2.2.2.2.2.2.2.2.2.2.2.1 [],a54.2.2.2.2.2.2.2.2.2.2.2.2.1)
 let a56:=ms a55
 Tr.chk (Ow x0)
 (Tr.br (!(Az x0).2)
  (Tr.re (AV.tup [AV.agg [AV.str [],AV.str [],AV.str [],AV.nils,AV.nils,AV.str [],AV.nils,AV.nils,AV.str [],AV.int .i64 0,AV.int .i64 0,AV.str [],AV.str [],AV.nils,AV.nils,AV.nils,AV.str [],AV.int .i64 0,AV.int .i64 0,AV.str [],AV.str [],AV.nils,AV.str []],AV.kb false]) [])
  (Tr.chk (aL a0 [67,82,69,65,84,69]) (Tr.br a1.1 (Tr.chk (AB a2 ([],[],[],[],[],0,0,[],[],[],0,0,[],[],[],())) (Tr.br (bif !a3.1.2.2.1 then true else a3.1.2.1 != a4) (Tr.re (AV.tup [AV.agg [AV.str [],AV.str [],AV.str [],AV.nils,AV.nils,AV.str [],AV.nils,AV.nils,AV.str [],AV.int .i64 0,AV.int .i64 0,
  AV.str [],AV.str [],AV.nils,AV.nils,AV.nils,AV.str [],AV.int .i64 0,AV.int .i64 0,AV.str [],AV.str [],AV.nils,AV.str []],AV.kb false]) []) (Tr.chk (jB a5) (Tr.br (!a6.2) (Tr.re (AV.tup [AV.agg [AV.str [],AV.str [],AV.str [],AV.nils,AV.nils,AV.str [],AV.nils,AV.nils,AV.str [],AV.int .i64 0,AV.int .i64 0,
  AV.str [],AV.str [],AV.nils,AV.nils,AV.nils,AV.str [],AV.int .i64 0,AV.int .i64 0,AV.str [],AV.str [],AV.nils,AV.str []],AV.kb false]) []) (Tr.re (AV.tup [AV.agg [AV.str a3.2.1,AV.str a3.2.2.1,AV.str a3.2.2.2.1,AV.nils,AV.vec 0,AV.str a3.2.2.2.2.2.1,AV.vec 1,AV.vec 2,AV.str (ze.op a3.2.2.2.2.2.2.2.2.1),AV.int .i64 (ze.v a3.2.2.2.2.2.2.2.2.1).1,
  AV.int .i64 (ze.v a3.2.2.2.2.2.2.2.2.1).2.1,AV.str (ze.v a3.2.2.2.2.2.2.2.2.1).2.2,AV.str (ze.s a3.2.2.2.2.2.2.2.2.1),AV.sl Sh.expr (ze.l a3.2.2.2.2.2.2.2.2.1),AV.nils,AV.nils,AV.str a3.2.2.2.2.2.2.2.2.2.1,AV.int .i64 a3.2.2.2.2.2.2.2.2.2.2.1,AV.int .i64 a3.2.2.2.2.2.2.2.2.2.2.2.1,AV.str a3.2.2.2.2.2.2.2.2.2.2.2.2.1,AV.str a3.2.2.2.2.2.2.2.2.2.2.2.2.2.1,AV.nils,
  AV.str a3.2.2.2.2.2.2.2.2.2.2.2.2.2.2.1],AV.kb true]) [AO.vec zi a3.2.2.2.2.1,AO.vec Sh.str a3.2.2.2.2.2.2.1,AO.vec (Sh.str.pr Sh.str) a3.2.2.2.2.2.2.2.1]))))) (Tr.chk (aL a2 [68,82,79,80]) (Tr.br a7.1 (Tr.chk (zK a8 [84,65,66,76,69]) (Tr.chk (ac a10) (Tr.br (bif !a11.2.2.2.1 then true else a11.2.2.1 != a4) (Tr.re (AV.tup [AV.agg
  [AV.str [],AV.str [],AV.str [],AV.nils,AV.nils,AV.str [],AV.nils,AV.nils,AV.str [],AV.int .i64 0,AV.int .i64 0,AV.str [],AV.str [],AV.nils,AV.nils,AV.nils,AV.str [],AV.int .i64 0,AV.int .i64 0,AV.str [],AV.str [],AV.nils,AV.str []],AV.kb false]) []) (Tr.chk (jB a12) (Tr.br (!a13.2) (Tr.re (AV.tup [AV.agg
  [AV.str [],AV.str [],AV.str [],AV.nils,AV.nils,AV.str [],AV.nils,AV.nils,AV.str [],AV.int .i64 0,AV.int .i64 0,AV.str [],AV.str [],AV.nils,AV.nils,AV.nils,AV.str [],AV.int .i64 0,AV.int .i64 0,AV.str [],AV.str [],AV.nils,AV.str []],AV.kb false]) []) (Tr.re (AV.tup [AV.agg
  [AV.str [100,114,111,112],AV.str a11.1,AV.str [],AV.nils,AV.nils,AV.str [],AV.nils,AV.nils,AV.str [],AV.int .i64 0,AV.int .i64 0,AV.str [],AV.str [],AV.nils,AV.nils,AV.nils,AV.str [],AV.int .i64 0,AV.int .i64 0,AV.str [],AV.str [],AV.nils,AV.str []],AV.kb true]) [])))))) (Tr.chk (aL a8 [73,78,83,69,82,84]) (Tr.br a14.1 (Tr.chk (zK a15 [73,78,84,79])
  (Tr.chk (ac a17) (Tr.chk (zK a19 [86,65,76,85,69,83]) (Tr.chk (zK a21 [40]) (Tr.to (C9.h17 (Az x0).1 ([],[],[],[],[],0,0,[],[],[],0,0,[],[],[],()) (zU a21 [40]) [105,110,115,101,114,116] a18.1 [] [] [] 0 0 [] [] [] 0 0 [] [] [] [])))))) (Tr.chk (aL a15 [85,80,68,65,84,69]) (Tr.br a22.1 (Tr.chk (ac a23)
  (Tr.chk (zK a25 [83,69,84]) (Tr.to (C9.h25 (Az x0).1 ([],[],[],[],[],0,0,[],[],[],0,0,[],[],[],()) (zU a25 [83,69,84]) ([117,112,100,97,116,101],a24.1,[],[],[],0,0,[],[],[],0,0,[],[],[],()))))) (Tr.chk (aL a23 [68,69,76,69,84,69]) (Tr.br a26.1 (Tr.chk (zK a27 [70,82,79,77]) (Tr.chk (ac a29)
  (Tr.chk (cj a31 [87,72,69,82,69]) (Tr.br (bif !a32.2.2.2.1 then true else a32.2.2.1 != a4) (Tr.re (AV.tup [AV.agg [AV.str [],AV.str [],AV.str [],AV.nils,AV.nils,AV.str [],AV.nils,AV.nils,AV.str [],AV.int .i64 0,AV.int .i64 0,AV.str [],AV.str [],AV.nils,AV.nils,AV.nils,AV.str [],AV.int .i64 0,AV.int .i64 0,AV.str [],AV.str [],AV.nils,AV.str []],AV.kb false]) [])
  (Tr.chk (jB a33) (Tr.br (!a34.2) (Tr.re (AV.tup [AV.agg [AV.str [],AV.str [],AV.str [],AV.nils,AV.nils,AV.str [],AV.nils,AV.nils,AV.str [],AV.int .i64 0,AV.int .i64 0,AV.str [],AV.str [],AV.nils,AV.nils,AV.nils,AV.str [],AV.int .i64 0,AV.int .i64 0,AV.str [],AV.str [],AV.nils,AV.str []],AV.kb false]) []) (Tr.re (AV.tup [AV.agg
  [AV.str [100,101,108,101,116,101],AV.str a30.1,AV.str [],AV.nils,AV.nils,AV.str [],AV.nils,AV.nils,AV.str [],AV.int .i64 0,AV.int .i64 0,AV.str [],AV.str [],AV.nils,AV.nils,AV.nils,AV.str (ze.op a32.1),AV.int .i64 (ze.v a32.1).1,AV.int .i64 (ze.v a32.1).2.1,AV.str (ze.v a32.1).2.2,AV.str (ze.s a32.1),AV.sl Sh.expr (ze.l a32.1),AV.str []],
  AV.kb true]) []))))))) (Tr.chk (aL a27 [83,69,76,69,67,84]) (Tr.br a35.1 (Tr.chk (zK a36 [42]) (Tr.chk (zK a38 [70,82,79,77]) (Tr.chk (ac a40) (Tr.chk (cj a42 [87,72,69,82,69]) (Tr.br (bif !a43.2.2.2.1 then true else a43.2.2.1 != a4) (Tr.re (AV.tup [AV.agg
  [AV.str [],AV.str [],AV.str [],AV.nils,AV.nils,AV.str [],AV.nils,AV.nils,AV.str [],AV.int .i64 0,AV.int .i64 0,AV.str [],AV.str [],AV.nils,AV.nils,AV.nils,AV.str [],AV.int .i64 0,AV.int .i64 0,AV.str [],AV.str [],AV.nils,AV.str []],AV.kb false]) []) (Tr.chk (jB a44) (Tr.br (!a45.2) (Tr.re (AV.tup [AV.agg
  [AV.str [],AV.str [],AV.str [],AV.nils,AV.nils,AV.str [],AV.nils,AV.nils,AV.str [],AV.int .i64 0,AV.int .i64 0,AV.str [],AV.str [],AV.nils,AV.nils,AV.nils,AV.str [],AV.int .i64 0,AV.int .i64 0,AV.str [],AV.str [],AV.nils,AV.str []],AV.kb false]) []) (Tr.re (AV.tup [AV.agg
  [AV.str [115,101,108,101,99,116],AV.str a41.1,AV.str [],AV.nils,AV.nils,AV.str [],AV.nils,AV.nils,AV.str [],AV.int .i64 0,AV.int .i64 0,AV.str [],AV.str [],AV.nils,AV.nils,AV.nils,AV.str (ze.op a43.1),AV.int .i64 (ze.v a43.1).1,AV.int .i64 (ze.v a43.1).2.1,AV.str (ze.v a43.1).2.2,AV.str (ze.s a43.1),AV.sl Sh.expr (ze.l a43.1),AV.str []],
  AV.kb true]) [])))))))) (Tr.chk (aL a36 [71,82,65,78,84]) (Tr.br a46.1 (Tr.chk (jN a47 [82,69,65,68]) (Tr.br a48.1 Tr.err Tr.err)) (Tr.chk (aL a47 [82,69,86,79,75,69]) (Tr.br a49.1 (Tr.chk (jN a50 [82,69,65,68]) (Tr.br a51.1 Tr.err Tr.err)) (Tr.chk (aL a50 [77,73,71,82,65,84,69]) (Tr.br a52.1
  (Tr.chk (OH a53 ([],[],[],[],[],0,0,[],[],[],0,0,[],[],[],())) (Tr.br (bif !a54.1.2.2.1 then true else a54.1.2.1 != a4) (Tr.re (AV.tup [AV.agg [AV.str [],AV.str [],AV.str [],AV.nils,AV.nils,AV.str [],AV.nils,AV.nils,AV.str [],AV.int .i64 0,AV.int .i64 0,AV.str [],AV.str [],AV.nils,AV.nils,AV.nils,AV.str [],
  AV.int .i64 0,AV.int .i64 0,AV.str [],AV.str [],AV.nils,AV.str []],AV.kb false]) []) (Tr.chk (jB a55) (Tr.br (!a56.2) (Tr.re (AV.tup [AV.agg [AV.str [],AV.str [],AV.str [],AV.nils,AV.nils,AV.str [],AV.nils,AV.nils,AV.str [],AV.int .i64 0,AV.int .i64 0,AV.str [],AV.str [],AV.nils,AV.nils,AV.nils,
  AV.str [],AV.int .i64 0,AV.int .i64 0,AV.str [],AV.str [],AV.nils,AV.str []],AV.kb false]) []) (Tr.re (AV.tup [AV.agg [AV.str a54.2.1,AV.str a54.2.2.1,AV.str a54.2.2.2.1,AV.vec 0,AV.nils,AV.str a54.2.2.2.2.2.1,AV.nils,AV.nils,AV.str (ze.op a54.2.2.2.2.2.2.1),AV.int .i64 (ze.v a54.2.2.2.2.2.2.1).1,AV.int .i64 (ze.v a54.2.2.2.2.2.2.1).2.1,
  AV.str (ze.v a54.2.2.2.2.2.2.1).2.2,AV.str (ze.s a54.2.2.2.2.2.2.1),AV.sl Sh.expr (ze.l a54.2.2.2.2.2.2.1),AV.nils,AV.nils,AV.str a54.2.2.2.2.2.2.2.1,AV.int .i64 a54.2.2.2.2.2.2.2.2.1,AV.int .i64 a54.2.2.2.2.2.2.2.2.2.1,AV.str a54.2.2.2.2.2.2.2.2.2.2.1,AV.str a54.2.2.2.2.2.2.2.2.2.2.2.1,AV.nils,AV.str a54.2.2.2.2.2.2.2.2.2.2.2.2.1],AV.kb true])
  [AO.vec Sh.str a54.2.2.2.2.1]))))) (Tr.br (bif !a52.2.2.2.1 then true else a52.2.2.1 != a4) (Tr.re (AV.tup [AV.agg [AV.str [],AV.str [],AV.str [],AV.nils,AV.nils,AV.str [],AV.nils,AV.nils,AV.str [],AV.int .i64 0,AV.int .i64 0,AV.str [],AV.str [],AV.nils,AV.nils,AV.nils,AV.str [],AV.int .i64 0,AV.int .i64 0,AV.str [],AV.str [],AV.nils,AV.str []],AV.kb false]) [])
  (Tr.chk true (Tr.br true (Tr.re (AV.tup [AV.agg [AV.str [],AV.str [],AV.str [],AV.nils,AV.nils,AV.str [],AV.nils,AV.nils,AV.str [],AV.int .i64 0,AV.int .i64 0,AV.str [],AV.str [],AV.nils,AV.nils,AV.nils,AV.str [],AV.int .i64 0,AV.int .i64 0,AV.str [],AV.str [],AV.nils,AV.str []],AV.kb false]) []) (Tr.re (AV.tup [AV.agg
  [AV.str [],AV.str [],AV.str [],AV.nils,AV.nils,AV.str [],AV.nils,AV.nils,AV.str [],AV.int .i64 0,AV.int .i64 0,AV.str [],AV.str [],AV.nils,AV.nils,AV.nils,AV.str [],AV.int .i64 0,AV.int .i64 0,AV.str [],AV.str [],AV.nils,AV.str []],AV.kb true]) [])))))))))))))))))))))))
def zjw:C9→Tr (C9 ⊕ zV)
 | .h17 l4 z0 z1 jc0 jc1 jc2 jc5 jc8 jc9 jc10 jc11 jc12 jc16 jc17 jc18 jc19 jc20 jc22 lh_3=>
  let a0:=(z1.1,z1.2.1,z1.2.2.1,())
  let a1:=I2 a0
  let a2:=[a1.1]
  let a3:=(a1.2.1,a1.2.2.1,a1.2.2.2.1,())
  let a4:=aY a3 [44]
  let a5:=zU a0 [41]
  let a6:=(jc0,jc1,jc2,[],[],jc5,[],[],ze.mk jc8 (jc9,jc10,jc11) jc12 [],lh_3,[],ze.mk jc16 (jc17,jc18,jc19) jc20 [],jc22)
  let a7:=ms a6
  Tr.br z1.2.2.1
  (Tr.chk (G0 a0) (Tr.chk (decide (lh_3.length+a2.length≤1073741824)) (Tr.chk (aL a3 [44]) (Tr.to (C9.h17b l4 a4.1 z0 a4.2 jc0 jc1 jc2 jc5 jc8 jc9 jc10 jc11 jc12 jc16 jc17 jc18 jc19 jc20 jc22 (lh_3++a2))))))
  (Tr.chk (zK a0 [41]) (Tr.br (bif !a5.2.2.1 then true else a5.2.1 != (↑l4.length:Int)) (Tr.re (AV.tup [AV.agg [AV.str [],AV.str [],AV.str [],AV.nils,AV.nils,AV.str [],AV.nils,AV.nils,AV.str [],AV.int .i64 0,AV.int .i64 0,AV.str [],AV.str [],AV.nils,AV.nils,AV.nils,AV.str [],AV.int .i64 0,AV.int .i64 0,AV.str [],AV.str [],AV.nils,AV.str []],AV.kb false]) [])
  (Tr.chk (jB a6) (Tr.br (!a7.2) (Tr.re (AV.tup [AV.agg [AV.str [],AV.str [],AV.str [],AV.nils,AV.nils,AV.str [],AV.nils,AV.nils,AV.str [],AV.int .i64 0,AV.int .i64 0,AV.str [],AV.str [],AV.nils,AV.nils,AV.nils,AV.str [],AV.int .i64 0,AV.int .i64 0,AV.str [],AV.str [],AV.nils,AV.str []],AV.kb false]) []) (Tr.re (AV.tup [AV.agg
  [AV.str jc0,AV.str jc1,AV.str jc2,AV.nils,AV.nils,AV.str jc5,AV.nils,AV.nils,AV.str jc8,AV.int .i64 jc9,AV.int .i64 jc10,AV.str jc11,AV.str jc12,AV.nils,AV.vec 0,AV.nils,AV.str jc16,AV.int .i64 jc17,AV.int .i64 jc18,AV.str jc19,AV.str jc20,AV.nils,AV.str jc22],AV.kb true]) [AO.vec zf lh_3])))))
 | .h25 l4 _ z1 z2=>
  let a0:=(z1.1,z1.2.1,z1.2.2.1,())
  let a1:=aH a0
  let a2:=c7 a0 [87,72,69,82,69]
  let a3:=(z2.1,z2.2.1,z2.2.2.1,[],[],z2.2.2.2.1,[],[],ze.mk z2.2.2.2.2.1 (z2.2.2.2.2.2.1,z2.2.2.2.2.2.2.1,z2.2.2.2.2.2.2.2.1) z2.2.2.2.2.2.2.2.2.1 [],[],[],zB a2.1,z2.2.2.2.2.2.2.2.2.2.2.2.2.2.2.1)
  let a4:=ms a3
  Tr.br z1.2.2.1 (Tr.chk (ac a0) (Tr.chk (zK (a1.2.1,a1.2.2.1,a1.2.2.2.1,()) [61]) Tr.err))
  (Tr.chk (cj a0 [87,72,69,82,69]) (Tr.br (bif !a2.2.2.2.1 then true else a2.2.2.1 != (↑l4.length:Int)) (Tr.re (AV.tup [AV.agg [AV.str [],AV.str [],AV.str [],AV.nils,AV.nils,AV.str [],AV.nils,AV.nils,AV.str [],AV.int .i64 0,AV.int .i64 0,AV.str [],AV.str [],AV.nils,AV.nils,AV.nils,AV.str [],AV.int .i64 0,AV.int .i64 0,AV.str [],AV.str [],AV.nils,AV.str []],
  AV.kb false]) []) (Tr.chk (jB a3) (Tr.br (!a4.2) (Tr.re (AV.tup [AV.agg [AV.str [],AV.str [],AV.str [],AV.nils,AV.nils,AV.str [],AV.nils,AV.nils,AV.str [],AV.int .i64 0,AV.int .i64 0,AV.str [],AV.str [],AV.nils,AV.nils,AV.nils,AV.str [],AV.int .i64 0,AV.int .i64 0,AV.str [],AV.str [],AV.nils,AV.str []],AV.kb false]) []) (Tr.re (AV.tup [AV.agg
  [AV.str z2.1,AV.str z2.2.1,AV.str z2.2.2.1,AV.nils,AV.nils,AV.str z2.2.2.2.1,AV.nils,AV.nils,AV.str z2.2.2.2.2.1,AV.int .i64 z2.2.2.2.2.2.1,AV.int .i64 z2.2.2.2.2.2.2.1,AV.str z2.2.2.2.2.2.2.2.1,AV.str z2.2.2.2.2.2.2.2.2.1,AV.nils,AV.nils,AV.nils,AV.str (ze.op a2.1),AV.int .i64 (ze.v a2.1).1,AV.int .i64 (ze.v a2.1).2.1,
  AV.str (ze.v a2.1).2.2,AV.str (ze.s a2.1),AV.sl Sh.expr (ze.l a2.1),AV.str z2.2.2.2.2.2.2.2.2.2.2.2.2.2.2.1],AV.kb true]) [])))))
 | .h17b l4 b8 z0 z1 jc0 jc1 jc2 jc5 jc8 jc9 jc10 jc11 jc12 jc16 jc17 jc18 jc19 jc20 jc22 lh_3=>
  let a0:=(z1.1,z1.2.1,z1.2.2.1,())
  let a1:=I2 a0
  let a2:=[a1.1]
  let a3:=(a1.2.1,a1.2.2.1,a1.2.2.2.1,())
  let a4:=aY a3 [44]
  let a5:=zU a0 [41]
  let a6:=(jc0,jc1,jc2,[],[],jc5,[],[],ze.mk jc8 (jc9,jc10,jc11) jc12 [],lh_3,[],ze.mk jc16 (jc17,jc18,jc19) jc20 [],jc22)
  let a7:=ms a6
  Tr.br (bif b8 then z1.2.2.1 else false)
  (Tr.chk (G0 a0) (Tr.chk (decide (lh_3.length+a2.length≤1073741824)) (Tr.chk (aL a3 [44]) (Tr.to (C9.h17b l4 a4.1 z0 a4.2 jc0 jc1 jc2 jc5 jc8 jc9 jc10 jc11 jc12 jc16 jc17 jc18 jc19 jc20 jc22 (lh_3++a2))))))
  (Tr.chk (zK a0 [41]) (Tr.br (bif !a5.2.2.1 then true else a5.2.1 != (↑l4.length:Int)) (Tr.re (AV.tup [AV.agg [AV.str [],AV.str [],AV.str [],AV.nils,AV.nils,AV.str [],AV.nils,AV.nils,AV.str [],AV.int .i64 0,AV.int .i64 0,AV.str [],AV.str [],AV.nils,AV.nils,AV.nils,AV.str [],AV.int .i64 0,AV.int .i64 0,AV.str [],AV.str [],AV.nils,AV.str []],AV.kb false]) [])
  (Tr.chk (jB a6) (Tr.br (!a7.2) (Tr.re (AV.tup [AV.agg [AV.str [],AV.str [],AV.str [],AV.nils,AV.nils,AV.str [],AV.nils,AV.nils,AV.str [],AV.int .i64 0,AV.int .i64 0,AV.str [],AV.str [],AV.nils,AV.nils,AV.nils,AV.str [],AV.int .i64 0,AV.int .i64 0,AV.str [],AV.str [],AV.nils,AV.str []],AV.kb false]) []) (Tr.re (AV.tup [AV.agg
  [AV.str jc0,AV.str jc1,AV.str jc2,AV.nils,AV.nils,AV.str jc5,AV.nils,AV.nils,AV.str jc8,AV.int .i64 jc9,AV.int .i64 jc10,AV.str jc11,AV.str jc12,AV.nils,AV.vec 0,AV.nils,AV.str jc16,AV.int .i64 jc17,AV.int .i64 jc18,AV.str jc19,AV.str jc20,AV.nils,AV.str jc22],AV.kb true]) [AO.vec zf lh_3])))))
def wO (x0:Sem Sh.str):=zT [zy,Sh.bool] zjw 100000000 (ziQ x0)
def OC (x0:Sem Sh.str):=(wO x0).isSome
def bJ (x0:Sem Sh.str):=o2 (wO x0)
def zaV:=FT [Sh.str] [zy,Sh.bool] fun x=>wO x.1
theorem Wq:FK 62 zaV:=vw.T1 (f:=Tryz.f62) (keep:=zeW) (e:=zhp)

def T3:=Mg.add 62 zaV
theorem Aa:zm T3:=vw.add Wq
end

noncomputable def ziI (x0:Sem Sh.str):Tr (Empty ⊕ zV):=
 Tr.chk (OC x0)
 (Tr.re
  (AV.agg [AV.str (bJ x0).1.1,AV.str (bJ x0).1.2.1,AV.str (bJ x0).1.2.2.1,AV.sl Sh.str (bJ x0).1.2.2.2.1,AV.sl zi (bJ x0).1.2.2.2.2.1,AV.str (bJ x0).1.2.2.2.2.2.1,AV.sl Sh.str (bJ x0).1.2.2.2.2.2.2.1,AV.sl (Sh.str.pr Sh.str) (bJ x0).1.2.2.2.2.2.2.2.1,AV.str (ze.op (bJ x0).1.2.2.2.2.2.2.2.2.1),
  AV.int .i64 (ze.v (bJ x0).1.2.2.2.2.2.2.2.2.1).1,AV.int .i64 (ze.v (bJ x0).1.2.2.2.2.2.2.2.2.1).2.1,AV.str (ze.v (bJ x0).1.2.2.2.2.2.2.2.2.1).2.2,AV.str (ze.s (bJ x0).1.2.2.2.2.2.2.2.2.1),AV.sl Sh.expr (ze.l (bJ x0).1.2.2.2.2.2.2.2.2.1),AV.sl zf (bJ x0).1.2.2.2.2.2.2.2.2.2.1,AV.sl (Sh.str.pr Sh.expr) (bJ x0).1.2.2.2.2.2.2.2.2.2.2.1,
  AV.str (ze.op (bJ x0).1.2.2.2.2.2.2.2.2.2.2.2.1),AV.int .i64 (ze.v (bJ x0).1.2.2.2.2.2.2.2.2.2.2.2.1).1,AV.int .i64 (ze.v (bJ x0).1.2.2.2.2.2.2.2.2.2.2.2.1).2.1,AV.str (ze.v (bJ x0).1.2.2.2.2.2.2.2.2.2.2.2.1).2.2,AV.str (ze.s (bJ x0).1.2.2.2.2.2.2.2.2.2.2.2.1),AV.sl Sh.expr (ze.l (bJ x0).1.2.2.2.2.2.2.2.2.2.2.2.1),
  AV.str (bJ x0).1.2.2.2.2.2.2.2.2.2.2.2.2])
  [])
noncomputable def ze9 (x0:Sem Sh.str):=zT [zy] t0 100000000 (ziI x0)
noncomputable def UZ:=FT [Sh.str] [zy] fun x=>ze9 x.1
theorem KX:FK 32 UZ:=Aa.T1 (f:=Tryz.f32) (keep:=k0) (e:=e0)

noncomputable def T5:=T3.add 32 UZ
theorem iP:zm T5:=Aa.add KX
noncomputable section

def Ue (x0:Sem zf) (x1:Sem zf):Tr (Empty ⊕ zV):=
 let a0:=x0.1==x1.1&&(x0.2.1==x1.2.1&&(x0.2.2==x1.2.2&&true))
 let a1:=aK a0
 Tr.chk (mo x0 x1)
 (Tr.br (s9 x0 x1) (Tr.re (AV.agg [AV.int .i64 0,AV.int .i64 0,AV.str []]) [])
  (Tr.chk (kl a0) (Tr.re (AV.agg [AV.int .i64 a1.1,AV.int .i64 a1.2.1,AV.str a1.2.2]) [])))
def wm (x0:Sem zf) (x1:Sem zf):=zT [zf] t0 100000000 (Ue x0 x1)
def Eu (x0:Sem zf) (x1:Sem zf):=(wm x0 x1).isSome
def IA (x0:Sem zf) (x1:Sem zf):=o1 (wm x0 x1)
def SU:=FT [zf,zf] [zf] fun x=>wm x.1 x.2.1
theorem PZ:FK 192 SU:=iP.T1 (f:=Tryz.f192) (keep:=k0) (e:=e0)

def Uf (x0:Sem zf) (x1:Sem zf):Tr (Empty ⊕ zV):=
 let a0:=Op.bytesLess x0.2.2 x1.2.2
 let a1:=aK a0
 Tr.chk (mo x0 x1)
 (Tr.br (s9 x0 x1) (Tr.re (AV.agg [AV.int .i64 0,AV.int .i64 0,AV.str []]) [])
  (Tr.br (decide (x0.2.1 < x1.2.1)) (Tr.chk true (Tr.re (AV.agg [AV.int .i64 (aK true).1,AV.int .i64 (aK true).2.1,AV.str (aK true).2.2]) [])) (Tr.chk (kl a0) (Tr.re (AV.agg [AV.int .i64 a1.1,AV.int .i64 a1.2.1,AV.str a1.2.2]) []))))
def B2 (x0:Sem zf) (x1:Sem zf):=zT [zf] t0 100000000 (Uf x0 x1)
def IB (x0:Sem zf) (x1:Sem zf):=(B2 x0 x1).isSome
def Of (x0:Sem zf) (x1:Sem zf):=o1 (B2 x0 x1)
def SV:=FT [zf,zf] [zf] fun x=>B2 x.1 x.2.1
theorem P0:FK 193 SV:=iP.T1 (f:=Tryz.f193) (keep:=k0) (e:=e0)

def Ug (x0:Sem zf) (x1:Sem zf):Tr (Empty ⊕ zV):=
 let a0:=IntKind.i64.wrap (9223372036854775807 - x1.2.1)
 let a1:=IntKind.i64.wrap (-9223372036854775808 - x1.2.1)
 let a2:=bif decide (x1.2.1 < 0) then decide (x0.2.1 < a1) else false
 Tr.chk (mo x0 x1)
 (Tr.br (bif s9 x0 x1 then true else x0.1 != 1) (Tr.re (AV.agg [AV.int .i64 0,AV.int .i64 0,AV.str []]) [])
  (Tr.br (bif decide (x1.2.1 > 0) then bif decide (x0.2.1 > a0) then true else a2 else a2) (Tr.re (AV.agg [AV.int .i64 0,AV.int .i64 0,AV.str []]) []) (Tr.re (AV.agg [AV.int .i64 1,AV.int .i64 (IntKind.i64.wrap (x0.2.1+x1.2.1)),AV.str []]) [])))
def B3 (x0:Sem zf) (x1:Sem zf):=zT [zf] t0 100000000 (Ug x0 x1)
def IF (x0:Sem zf) (x1:Sem zf):=(B3 x0 x1).isSome
def Oj (x0:Sem zf) (x1:Sem zf):=o1 (B3 x0 x1)
def SW:=FT [zf,zf] [zf] fun x=>B3 x.1 x.2.1
theorem P1:FK 194 SW:=iP.T1 (f:=Tryz.f194) (keep:=k0) (e:=e0)

def Uh (x0:Sem zf) (x1:Sem zf):Tr (Empty ⊕ zV):=
 let a0:=IntKind.i64.wrap (-9223372036854775808+x1.2.1)
 let a1:=IntKind.i64.wrap (9223372036854775807+x1.2.1)
 let a2:=bif decide (x1.2.1 < 0) then decide (x0.2.1 > a1) else false
 Tr.chk (mo x0 x1)
 (Tr.br (bif s9 x0 x1 then true else x0.1 != 1) (Tr.re (AV.agg [AV.int .i64 0,AV.int .i64 0,AV.str []]) [])
  (Tr.br (bif decide (x1.2.1 > 0) then bif decide (x0.2.1 < a0) then true else a2 else a2) (Tr.re (AV.agg [AV.int .i64 0,AV.int .i64 0,AV.str []]) []) (Tr.re (AV.agg [AV.int .i64 1,AV.int .i64 (IntKind.i64.wrap (x0.2.1 - x1.2.1)),AV.str []]) [])))
def wo (x0:Sem zf) (x1:Sem zf):=zT [zf] t0 100000000 (Uh x0 x1)
def Ew (x0:Sem zf) (x1:Sem zf):=(wo x0 x1).isSome
def IC (x0:Sem zf) (x1:Sem zf):=o1 (wo x0 x1)
def SX:=FT [zf,zf] [zf] fun x=>wo x.1 x.2.1
theorem P2:FK 195 SX:=iP.T1 (f:=Tryz.f195) (keep:=k0) (e:=e0)

def T8 (x0:Sem Sh.expr) (x1:Sem zi.sl):Tr (Empty ⊕ zV):=
 Tr.br (ze.op x0==[])
 (Tr.chk (fO (zB x0) (ze.mk [] (0,0,[]) [] []))
  (Tr.br (!fN (zB x0) (ze.mk [] (0,0,[]) [] [])) (Tr.re (AV.int .i64 1) []) (Tr.re (AV.int .i64 0) [])))
 (Tr.chk (wx (zB x0))
  (Tr.br (!EA (zB x0)) (Tr.re (AV.int .i64 1) []) (Tr.chk (IL (zB x0) x1) (Tr.br ((rg (zB x0) x1).2 != 0) (Tr.re (AV.int .i64 (rg (zB x0) x1).2) []) (Tr.br (bif (rg (zB x0) x1).1 != 0 then (rg (zB x0) x1).1 != 3 else false) (Tr.re (AV.int .i64 5) []) (Tr.re (AV.int .i64 0) []))))))
def wC (x0:Sem Sh.expr) (x1:Sem zi.sl):=zT [zg] t0 100000000 (T8 x0 x1)
def EF (x0:Sem Sh.expr) (x1:Sem zi.sl):=(wC x0 x1).isSome
def IS (x0:Sem Sh.expr) (x1:Sem zi.sl):=o1 (wC x0 x1)
def Se:=FT [Sh.expr,zi.sl] [zg] fun x=>wC x.1 x.2.1
theorem Pm:FK 120 Se:=iP.T1 (f:=Tryz.f120) (keep:=k0) (e:=e0)

def Bv:=T5.addL [(192,SU),(193,SV),(194,SW),(195,SX),(120,Se)]
theorem oh:zm Bv:=iP.addL <| fc PZ <| fc P0 <| fc P1 <| fc P2 <| fc Pm gW
end
noncomputable section

def uJ (g:Sem Sh.expr→Sem (Sh.sl zi)→Sem (Sh.sl zf)→Sem zf) (c:Sem Sh.expr→Sem (Sh.sl zi)→Sem (Sh.sl zf)→Bool):bf:=Bv.add 123 (zC [Sh.expr,Sh.sl zi,Sh.sl zf] [zf] (fun x=>c x.1 x.2.1 x.2.2.1) fun x=>(g x.1 x.2.1 x.2.2.1,()))
theorem FG {g:Sem Sh.expr→Sem (Sh.sl zi)→Sem (Sh.sl zf)→Sem zf} {c:Sem Sh.expr→Sem (Sh.sl zi)→Sem (Sh.sl zf)→Bool} (hg:FK 123 (zC [Sh.expr,Sh.sl zi,Sh.sl zf] [zf] (fun x=>c x.1 x.2.1 x.2.2.1) fun x=>(g x.1 x.2.1 x.2.2.1,()))):zm (uJ g c):=oh.add hg
abbrev Gj:Nat→zX:=fun j=>if j=6 then { slots:=[1,2,3,6,7] } else { }
inductive tL where
 | h6 (l1:LC) (l2:LV) (i7:Int) (z0:zu [CP.d Sh.expr]) (z1:zu [CP.d zf])
abbrev Dt:tL→Nat×St
 | .h6 l1 l2 i7 z0 z1=>(6,⟨tm 103 [(1,AV.sl zi l1),(2,AV.sl zf l2),(3,AV.ptr 0 0),(6,AV.ptr 1 0),(7,AV.int .i64 i7)],[AO.box (bb [] [CP.d Sh.expr] z0),AO.box (bb [] [CP.d zf] z1)]⟩)
theorem Yt (g:Sem Sh.expr→Sem zi.sl→Sem zf.sl→Sem zf) (c:Sem Sh.expr→Sem zi.sl→Sem zf.sl→Bool):zA (uJ g c).P 123 Tryz.f123 3:=aJ (by kernel_rfl)
def HW (g:Sem Sh.expr→Sem zi.sl→Sem zf.sl→Sem zf) (c:Sem Sh.expr→Sem zi.sl→Sem zf.sl→Bool) (x0:Sem Sh.expr) (x1:Sem zi.sl) (x2:Sem zf.sl):Tr (tL ⊕ zV):=
 let a0:=zB ((ze.l x0).getD (toNat 0) (zj Sh.expr))
 let a1:=g a0 x1 x2
 let a2:=UO a1
 let a3:=a1.1==0
 let a4:=aK a3
 let a5:=zB ((ze.l x0).getD (toNat 1) (zj Sh.expr))
 let a6:=g a5 x1 x2
 let a7:=UN a1 a6
 let a8:=zgr a1 a6
 let a9:=IA a1 a6
 let a10:=Of a1 a6
 let a11:=Oj a1 a6
 let a12:=IC a1 a6
 Tr.br (ze.op x0==[108,105,116])
 (Tr.re (AV.agg [AV.int .i64 (ze.v x0).1,AV.int .i64 (ze.v x0).2.1,AV.str (ze.v x0).2.2]) [])
 (Tr.br (ze.op x0==[99,111,108]) (Tr.to (tL.h6 x1 x2 0 (x0,()) ((0,0,[]),())))
  (Tr.chk (zE 0 (ze.l x0).length) (Tr.chk (c a0 x1 x2) (Tr.br (ze.op x0==[110,111,116]) (Tr.chk (Og a1) (Tr.re (AV.agg [AV.int .i64 a2.1,AV.int .i64 a2.2.1,AV.str a2.2.2]) [])) (Tr.br (ze.op x0==[110,117,108,108]) (Tr.chk (mn a1) (Tr.br (!wn a1) (Tr.chk true
  (Tr.re (AV.agg [AV.int .i64 (aK true).1,AV.int .i64 (aK true).2.1,AV.str (aK true).2.2]) [])) (Tr.chk (kl a3) (Tr.re (AV.agg [AV.int .i64 a4.1,AV.int .i64 a4.2.1,AV.str a4.2.2]) [])))) (Tr.chk (zE 1 (ze.l x0).length) (Tr.chk (c a5 x1 x2) (Tr.br (ze.op x0==[97,110,100])
  (Tr.chk (Od a1 a6) (Tr.re (AV.agg [AV.int .i64 a7.1,AV.int .i64 a7.2.1,AV.str a7.2.2]) [])) (Tr.br (ze.op x0==[111,114]) (Tr.chk (UP a1 a6) (Tr.re (AV.agg [AV.int .i64 a8.1,AV.int .i64 a8.2.1,AV.str a8.2.2]) [])) (Tr.br (ze.op x0==[61]) (Tr.chk (Eu a1 a6) (Tr.re (AV.agg [AV.int .i64 a9.1,AV.int .i64 a9.2.1,AV.str a9.2.2]) [])) (Tr.br (ze.op x0==[60])
  (Tr.chk (IB a1 a6) (Tr.re (AV.agg [AV.int .i64 a10.1,AV.int .i64 a10.2.1,AV.str a10.2.2]) [])) (Tr.br (ze.op x0==[43]) (Tr.chk (IF a1 a6) (Tr.re (AV.agg [AV.int .i64 a11.1,AV.int .i64 a11.2.1,AV.str a11.2.2]) [])) (Tr.chk (Ew a1 a6) (Tr.re (AV.agg [AV.int .i64 a12.1,AV.int .i64 a12.2.1,AV.str a12.2.2]) []))))))))))))))
theorem Xp (g:Sem Sh.expr→Sem zi.sl→Sem zf.sl→Sem zf) (c:Sem Sh.expr→Sem zi.sl→Sem zf.sl→Bool) (x0:Sem Sh.expr) (x1:Sem zi.sl) (x2:Sem zf.sl):rn (uJ g c) 0 Gj Tryz.f123 [zz Sh.expr x0,zz zi.sl x1,zz zf.sl x2] []=(HW g c x0 x1 x2).map (lf Tryz.f123 Dt):=by kernel_rfl
def Jb (_:Sem Sh.expr→Sem zi.sl→Sem zf.sl→Sem zf) (_:Sem Sh.expr→Sem zi.sl→Sem zf.sl→Bool):tL→Tr (tL ⊕ zV)
 | .h6 l1 l2 i7 z0 z1=>
  let a0:=l1.getD i7.toNat (zj zi)
  let a1:=l2.getD i7.toNat (zj zf)
  Tr.br (decide (i7 < (↑l1.length:Int)))
  (Tr.chk (zE i7 l1.length)
   (Tr.br (a0.1==ze.s z0.1) (Tr.br (decide (i7 < (↑l2.length:Int))) (Tr.chk (zE i7 l2.length) (Tr.re (AV.agg [AV.int .i64 a1.1,AV.int .i64 a1.2.1,AV.str a1.2.2]) [])) (Tr.re (AV.agg [AV.int .i64 0,AV.int .i64 0,AV.str []]) [])) (Tr.to (tL.h6 l1 l2 (IntKind.i64.wrap (i7+1)) z0 z1))))
  (Tr.re (AV.agg [AV.int .i64 0,AV.int .i64 0,AV.str []]) [])
theorem YQ (g:Sem Sh.expr→Sem zi.sl→Sem zf.sl→Sem zf) (c:Sem Sh.expr→Sem zi.sl→Sem zf.sl→Bool):∀ s,run (uJ g c) 0 Gj (Func.results Tryz.f123).toList 400 (zx Tryz.f123 (Dt s).1) (Dt s).2=(Jb g c s).map (lf Tryz.f123 Dt)
 | .h6 l1 l2 i7 z0 z1=>by kernel_rfl
def iy (o:Option (zw (List.map some [zf]))):Sem zf:=(fun r:zw (List.map some [zf])=>r.1) (o.getD (bT [zf]))
def RJ (g:Sem Sh.expr→Sem zi.sl→Sem zf.sl→Sem zf) (c:Sem Sh.expr→Sem zi.sl→Sem zf.sl→Bool) (x0:Sem Sh.expr) (x1:Sem zi.sl) (x2:Sem zf.sl):Option (zw (List.map some [zf])):=zT [zf] (Jb g c) 100000000 (HW g c x0 x1 x2)
def cV:Nat→Sem Sh.expr→Sem zi.sl→Sem zf.sl→Option (zw (List.map some [zf]))
 | 0=>fun _ _ _=>none
 | n+1=>RJ (fun x0 x1 x2=>iy (cV n x0 x1 x2)) fun x0 x1 x2=>(cV n x0 x1 x2).isSome
theorem MV:zA Bv.P 123 Tryz.f123 3:=aJ (by kernel_rfl)
theorem C3:∀ n,FK 123 (zC [Sh.expr,zi.sl,zf.sl] [zf] (fun x=>(cV n x.1 x.2.1 x.2.2.1).isSome) fun x=>(iy (cV n x.1 x.2.1 x.2.2.1),()))
 | 0=>cP ⟨Tryz.f123,MV.1,MV.2.1,MV.2.2.1⟩ (fun _=>rfl)
 | n+1=>gX (E:=uJ (fun x0 x1 x2=>iy (cV n x0 x1 x2)) (fun x0 x1 x2=>(cV n x0 x1 x2).isSome)) (ks:=[Sh.expr,zi.sl,zf.sl]) (outs:=[zf]) (keep:=Gj) (gas:=400) (n:=100000000) (e:=Dt) (t:=Jb (fun x0 x1 x2=>iy (cV n x0 x1 x2)) (fun x0 x1 x2=>(cV n x0 x1 x2).isSome)) (i:=fun x=>HW (fun x0 x1 x2=>iy (cV n x0 x1 x2)) (fun x0 x1 x2=>(cV n x0 x1 x2).isSome) x.1 x.2.1 x.2.2.1) (FG (C3 n)) (Yt _ _) (fun x=>Xp _ _ x.1 x.2.1 x.2.2.1) (YQ _ _) (fun _=>by kernel_rfl) (fun _=>by kernel_rfl)
def II (x0:Sem Sh.expr) (x1:Sem zi.sl) (x2:Sem zf.sl):Option (zw (List.map some [zf])):=cV 16 x0 x1 x2
def IG (x0:Sem Sh.expr) (x1:Sem zi.sl) (x2:Sem zf.sl):Bool:=(II x0 x1 x2).isSome
def Ok (x0:Sem Sh.expr) (x1:Sem zi.sl) (x2:Sem zf.sl):Sem zf:=iy (II x0 x1 x2)
def Si:zD:=zC [Sh.expr,zi.sl,zf.sl] [zf] (fun x=>IG x.1 x.2.1 x.2.2.1) fun x=>(Ok x.1 x.2.1 x.2.2.1,())
theorem Pp:FK 123 Si:=C3 16

abbrev zeS:=jJ [(5,[1,3,4]),(11,[1,3,6]),(16,[1,3,7])]
inductive tW where
 | h5 (i3:Int) (i4:Int) (z0:zu [CP.d zt])
 | h11 (i3:Int) (i6:Int) (z0:zu [CP.d zt])
 | h16 (i3:Int) (i7:Int) (z0:zu [CP.d zt])
abbrev zhl:tW→Nat×St
 | .h5 i3 i4 z0=>(5,⟨tm 139 [(1,AV.ptr 0 0),(3,AV.int .i64 i3),(4,AV.int .i64 i4)],[AO.box (bb [] [CP.d zt] z0)]⟩)
 | .h11 i3 i6 z0=>(11,⟨tm 139 [(1,AV.ptr 0 0),(3,AV.int .i64 i3),(6,AV.int .i64 i6)],[AO.box (bb [] [CP.d zt] z0)]⟩)
 | .h16 i3 i7 z0=>(16,⟨tm 139 [(1,AV.ptr 0 0),(3,AV.int .i64 i3),(7,AV.int .i64 i7)],[AO.box (bb [] [CP.d zt] z0)]⟩)
def ziN (x0:Sem zt):Tr (tW ⊕ zV):=
 let a0:=(↑(length x0.2.1):Int)
 let a1:=decide (a0 < 1)
 let a2:=decide (a0 > 8)
 let a3:=decide (x0.2.2.1 < 0)
 let a4:=decide (x0.2.2.1 ≥ a0)
 let a5:=List.getD x0.2.1 (toNat x0.2.2.1) (zj zi)
 Tr.chk
 (cv x0.1&&
  bif !eB x0.1 then true
  else bif a1 then true else bif a2 then true else bif a3 then true else bif a4 then true else zE x0.2.2.1 (length x0.2.1))
 (Tr.br (bif !eB x0.1 then true else bif a1 then true else bif a2 then true else bif a3 then true else bif a4 then true else !a5.2.2)
  (Tr.re (AV.kb false) []) (Tr.to (tW.h5 a0 0 (x0,()))))
def zjt:tW→Tr (tW ⊕ zV)
 | .h5 i3 i4 z0=>
  let a0:=List.getD z0.1.2.1 i4.toNat (zj zi)
  let a1 := !eB a0.1
  let a2:=decide (a0.2.1 < 1)
  let a3:=decide (a0.2.1 > 3)
  Tr.br (decide (i4 < i3))
  (Tr.chk (zE i4 (length z0.1.2.1))
   (Tr.chk (cv a0.1&&bif a1 then true else bif a2 then true else bif a3 then true else pH z0.1.2.1 a0.1) (Tr.br (bif a1 then true else bif a2 then true else bif a3 then true else IR z0.1.2.1 a0.1 != i4) (Tr.re (AV.kb false) []) (Tr.to (tW.h5 i3 (IntKind.i64.wrap (i4+1)) z0)))))
  (Tr.to (tW.h11 i3 0 z0))
 | .h11 i3 i6 z0=>
  let a0:=(↑(length z0.1.2.2.2.1):Int)
  let a1:=zE i6 (length z0.1.2.2.2.1)
  let a2:=List.getD z0.1.2.2.2.1 i6.toNat (zj zg)
  let a3:=decide (a2 < 0)
  Tr.br (decide (i6 < a0))
  (Tr.chk (a1&&bif a3 then true else a1)
   (Tr.br (bif a3 then true else decide (a2 ≥ i3)) (Tr.re (AV.kb false) []) (Tr.to (tW.h11 i3 (IntKind.i64.wrap (i6+1)) z0))))
  (Tr.to (tW.h16 i3 0 z0))
 | .h16 i3 i7 z0=>
  let a0:=(↑(length z0.1.2.2.2.2.1):Int)
  let a1:=zE i7 (length z0.1.2.2.2.2.1)
  let a2:=List.getD z0.1.2.2.2.2.1 i7.toNat (zj zp)
  let a3:=decide (a2.1 < 0)
  let a4:=decide (a2.1 ≥ i3)
  let a5:=zB z0.1.2.2.2.2.2
  Tr.br (decide (i7 < a0))
  (Tr.chk (a1&&bif a3 then true else a1&&bif a4 then true else a1&&cv a2.2)
   (Tr.br (bif a3 then true else bif a4 then true else !eB a2.2) (Tr.re (AV.kb false) []) (Tr.to (tW.h16 i3 (IntKind.i64.wrap (i7+1)) z0))))
  (Tr.chk (EF a5 z0.1.2.1) (Tr.re (AV.bool (IS a5 z0.1.2.1==0)) []))
def GJ (x0:Sem zt):=zT [Sh.bool] zjt 100000000 (ziN x0)
def wB (x0:Sem zt):=(GJ x0).isSome
def ED (x0:Sem zt):=o1 (GJ x0)
def zaQ:=FT [zt] [Sh.bool] fun x=>GJ x.1
theorem Wk:FK 64 zaQ:=oh.T1 (f:=Tryz.f64) (keep:=zeS) (e:=zhl)

def LN:=Bv.addL [(123,Si),(64,zaQ)]
theorem iW:zm LN:=oh.addL <| fc Pp <| fc Wk gW
end

section
variable {σ:Type}
def Wp (P:σ→Prop) (Q:zV→Prop):Tr (σ ⊕ zV)→Prop
 | .err=>False
 | .chk c t=>c=true∧Wp P Q t
 | .br c t f=>(c=true→Wp P Q t)∧(c=false→Wp P Q f)
 | .ok (.inl s)=>P s
 | .ok (.inr r)=>Q r
theorem Wp.got {P:σ→Prop} {Q:zV→Prop}:∀ {t:Tr (σ ⊕ zV)},Wp P Q t→(∃ s,t.val=some (.inl s)∧P s)∨∃ r,t.val=some (.inr r)∧Q r
 | .err,h=>h.elim
 | .chk c t,h=>by
  obtain ⟨h1,h2⟩:=h
  rw [Tr.val,if_pos h1]
  exact Wp.got h2
 | .br c t f,h=>by
  rw [Tr.val]
  cases c with
  | true=>exact Wp.got (h.1 rfl)
  | false=>exact Wp.got (h.2 rfl)
 | .ok (.inl s),h=>.inl ⟨s,rfl,h⟩
 | .ok (.inr r),h=>.inr ⟨r,rfl,h⟩
variable {t:σ→Tr (σ ⊕ zV)} {i:Tr (σ ⊕ zV)} (I:σ→Prop) (μ:σ→Nat)
theorem Fd {Q:zV→Prop} (ht:∀ s,I s→Wp (fun s'=>I s'∧μ s' < μ s) Q (t s)):∀ (n:Nat) (s:σ),I s→μ s < n→∃ r,bU t n s=some r∧Q r
 | 0,_,_,h=>absurd h (by omega)
 | n+1,s,hI,h=>by
  rw [bU]
  rcases (ht s hI).got with ⟨s',h1,h2,h3⟩ | ⟨r,h1,h2⟩
  ·rw [h1]
   exact Fd ht n s' h2 (by omega)
  ·rw [h1]
   exact ⟨r,rfl,h2⟩
def TB (outs:List Sh) (Q:zw (outs.map some)→Prop) (r:zV):Prop:=∃ y,ae r.2 outs r.1=some y∧Q y
theorem tot {outs:List Sh} {n:Nat} {Q:zw (outs.map some)→Prop} (hi:Wp (fun s=>I s∧μ s < n) (TB outs Q) i) (ht:∀ s,I s→Wp (fun s'=>I s'∧μ s' < μ s) (TB outs Q) (t s)):∃ y,zT outs t n i=some y∧Q y:=by
 unfold zT cd
 rcases hi.got with ⟨s,h1,h2,h3⟩ | ⟨r,h1,y,h2,h3⟩
 ·rw [h1]
  obtain ⟨r,h4,y,h5,h6⟩:=Fd I μ ht n s h2 h3
  exact ⟨y,by show (bU t n s).bind _=_; rw [h4]; exact h5,h6⟩
 ·rw [h1]
  exact ⟨y,h2,h3⟩
theorem KI {a:Sh} {n:Nat} {Q:Sem a→Prop} (hi:Wp (fun s=>I s∧μ s < n) (TB [a] fun y:zw [some a]=>Q y.1) i) (ht:∀ s,I s→Wp (fun s'=>I s'∧μ s' < μ s) (TB [a] fun y:zw [some a]=>Q y.1) (t s)):(zT [a] t n i).isSome=true∧Q (o1 (zT [a] t n i)):=by
 obtain ⟨y,h1,h2⟩:=tot (outs:=[a]) (Q:=fun y:zw [some a]=>Q y.1) I μ hi ht
 rw [h1]
 exact ⟨rfl,h2⟩
end
theorem rF {a:Sh} {n:Nat} {i:Tr (Empty ⊕ zV)} {Q:Sem a→Prop} (hi:∀ P:Empty→Prop,Wp P (TB [a] fun y:zw [some a]=>Q y.1) i):(zT [a] t0 n i).isSome=true∧Q (o1 (zT [a] t0 n i)):=
 KI (fun _=>True) (fun _=>0) (hi _) fun s=>nomatch s
theorem CQ {σ:Type} {t:σ→Tr (σ ⊕ zV)} {i:Tr (σ ⊕ zV)} {a:Sh} {n:Nat} (I:σ→Prop) (μ:σ→Nat) (hi:Wp (fun s=>I s∧μ s < n) (TB [a] fun _=>True) i) (ht:∀ s,I s→Wp (fun s'=>I s'∧μ s' < μ s) (TB [a] fun _=>True) (t s)):(zT [a] t n i).isSome=true:=(KI (Q:=fun _=>True) I μ hi ht).1
theorem sy {a:Sh} {n:Nat} {i:Tr (Empty ⊕ zV)} (hi:∀ P:Empty→Prop,Wp P (TB [a] fun _=>True) i):(zT [a] t0 n i).isSome=true:=(rF (Q:=fun _=>True) hi).1

theorem eT {i:Int} {k:Nat} (h0:0≤i) (h:i < (k:Int)):zE i k=true:=by unfold zE; simp [h0,h]
theorem xE {i:Int} (h0:LE.le (α:=Int) 0 i) (h:i < 9223372036854775807):IntKind.i64.wrap (i+1)=i+1:=by
 rw [rL]; omega
theorem Ph {i:Int} (h0:LE.le (α:=Int) 1 i) (h:i < 9223372036854775807):IntKind.i64.wrap (i - 1)=i - 1:=by
 rw [rL]; omega
theorem AN {i:Int} {n:Nat} (h0:LE.le (α:=Int) 0 i) (h:decide (LT.lt (α:=Int) i (n:Int))=true) (hn:n≤1000000):zE i n=true∧IntKind.i64.wrap (i+1)=i+1∧LT.lt (α:=Int) i (n:Int):=by
 have h:LT.lt (α:=Int) i (n:Int):=dG h
 exact ⟨by unfold zE; rw [aZ h0,aZ h]; rfl,xE h0 (by omega),h⟩

def VS (v:Sem zf):Prop:=v.2.2.length≤1000000

theorem s6 {v:Sem zf} (h:VS v):mn v=true:=by
 obtain ⟨k,n,s⟩:=v
 have h:s.length≤1000000:=h
 refine CQ (a:=Sh.bool) (fun x:tK=>match x with | .h2 i z=>LE.le (α:=Int) 0 i∧z.1.2.2=s) (fun x=>match x with | .h2 i z=>1000001 - i.toNat) ⟨⟨Int.le_refl _,rfl⟩,by simp⟩ ?_
 rintro ⟨i,z⟩ ⟨h0,hz⟩
 obtain ⟨⟨k',n',s'⟩,u⟩:=z
 have hz:s'=s:=hz
 subst hz
 refine ⟨fun hc=>?_,fun hc=>?_⟩
 ·obtain ⟨h1,h2,h3⟩:=AN h0 hc h
  have h3:LT.lt (α:=Int) i s'.length:=h3
  simp only [Wp,h1,h2,lP]
  refine ⟨by cases decide (LT.lt (α:=Int) _ 32) <;> rfl,fun _=>⟨_,rfl,trivial⟩,fun _=>⟨⟨by omega,trivial⟩,by omega⟩⟩
 ·repeat' first | exact ⟨_,rfl,trivial⟩ | intro _ | constructor
theorem pF {v:Sem zf} (h:VS v):pE v=true∧VS (eA v):=rF (a:=zf) (Q:=VS) fun _=>by
 simp only [T9,Wp,s6 h,true_and]
 exact ⟨fun _=>⟨_,rfl,h⟩,fun _=>⟨_,rfl,aD _⟩⟩
theorem Av (b:Bool):kl b=true∧VS (aK b):=rF (a:=zf) (Q:=VS) fun _=>⟨fun _=>⟨_,rfl,aD _⟩,fun _=>⟨_,rfl,aD _⟩⟩
@[simp] theorem m6 (b:Bool):kl b=true:=(Av b).1
theorem dq (b:Bool):VS ((aK b).1,(aK b).2.1,(aK b).2.2):=(Av b).2
@[simp] theorem B1 (v:Sem zf) (b:Bool):lB v b=true:=sy (a:=Sh.bool) fun _=>⟨m6 b,_,rfl,trivial⟩
theorem Iz (a b:Sem zf):Od a b=true∧VS (UN a b):=rF (a:=zf) (Q:=VS) fun _=>by
 simp only [Uc,Wp,B1,lP,Bool.cond_self,true_and]
 exact ⟨fun _=>⟨_,rfl,dq _⟩,fun _=>⟨fun _=>⟨_,rfl,dq _⟩,fun _=>⟨_,rfl,aD _⟩⟩⟩
theorem Oi (a b:Sem zf):UP a b=true∧VS (zgr a b):=rF (a:=zf) (Q:=VS) fun _=>by
 simp only [Ud,Wp,B1,lP,Bool.cond_self,true_and]
 exact ⟨fun _=>⟨_,rfl,dq _⟩,fun _=>⟨fun _=>⟨_,rfl,dq _⟩,fun _=>⟨_,rfl,aD _⟩⟩⟩
theorem ID (a:Sem zf):Og a=true∧VS (UO a):=rF (a:=zf) (Q:=VS) fun _=>by
 simp only [Ub,Wp,B1,true_and]
 exact ⟨fun _=>⟨_,rfl,dq _⟩,fun _=>⟨fun _=>⟨_,rfl,dq _⟩,fun _=>⟨_,rfl,aD _⟩⟩⟩
section
variable {a b:Sem zf} (ha:VS a) (hb:VS b)
include ha hb
theorem Kj:Ex a b=true:=sy (a:=zg) fun _=>by
 simp only [zeo,Wp,(pF ha).1,(pF hb).1,true_and]
 exact ⟨fun _=>⟨_,rfl,trivial⟩,fun _=>⟨fun _=>⟨_,rfl,trivial⟩,fun _=>⟨_,rfl,trivial⟩⟩⟩
theorem m7:mo a b=true:=sy (a:=Sh.bool) fun _=>by
 simp only [Ui,Wp,(pF ha).1,(pF hb).1,true_and]
 exact ⟨_,rfl,trivial⟩
theorem At:Eu a b=true∧VS (IA a b):=rF (a:=zf) (Q:=VS) fun _=>by
 simp only [Ue,Wp,m7 ha hb,m6,true_and]
 exact ⟨fun _=>⟨_,rfl,aD _⟩,fun _=>⟨_,rfl,dq _⟩⟩
theorem Ev:IB a b=true∧VS (Of a b):=rF (a:=zf) (Q:=VS) fun _=>by
 simp only [Uf,Wp,m7 ha hb,m6,true_and]
 exact ⟨fun _=>⟨_,rfl,aD _⟩,fun _=>⟨fun _=>⟨_,rfl,dq _⟩,fun _=>⟨_,rfl,dq _⟩⟩⟩
theorem Ez:IF a b=true∧VS (Oj a b):=rF (a:=zf) (Q:=VS) fun _=>by
 simp only [Ug,Wp,m7 ha hb,true_and]
 exact ⟨fun _=>⟨_,rfl,aD _⟩,fun _=>⟨fun _=>⟨_,rfl,aD _⟩,fun _=>⟨_,rfl,aD _⟩⟩⟩
theorem Au:Ew a b=true∧VS (IC a b):=rF (a:=zf) (Q:=VS) fun _=>by
 simp only [Uh,Wp,m7 ha hb,true_and]
 exact ⟨fun _=>⟨_,rfl,aD _⟩,fun _=>⟨fun _=>⟨_,rfl,aD _⟩,fun _=>⟨_,rfl,aD _⟩⟩⟩
end
end Cad
