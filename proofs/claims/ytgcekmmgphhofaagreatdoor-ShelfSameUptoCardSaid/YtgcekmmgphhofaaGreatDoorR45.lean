/- strings. -/
import Derived.Test.YtgcekmmgphhofaaGreatDoorR44
import Derived.Lib.BufferOwn
import Derived.Test.YtgcekmmgphhofaaGreatDoorR43
namespace Cad
open Go Go.Proofs
open List renaming length->M
open Bool renaming true->Z,false->J
open Option renaming none->Q2,some->Q1
set_option maxHeartbeats 4000000
open Tr (chk br re)
open AV (nils agg tup ptr kb str sl)
theorem OM(s h:zD):(Lib.cut s h).1.length<=M s/\(Lib.cut s h).2.1.length<=M s:=by
 unfold Lib.cut;split
 .simp;omega
 .simp
def ia(s:zD):Int×Bool:=match Lib.atoiAll s with
 |.ok v=>(v,Z)
 |.range=>(Lib.atoiSat s,J)
 | _=>(0,J)
open Go Go.Proofs Go.RowKit
set_option maxRecDepth 100000
def il(s:zD)(b:Bool):zD×zD×Bool:=
 if b=Z\/(Lib.cut s [58]).q=J\/(ia (Lib.cut s [58]).1).2=J\/(ia (Lib.cut s [58]).1).1<0\/((Lib.cut s [58]).2.1.length:Int)<(ia (Lib.cut s [58]).1).1 then([],s,Z)
 else((Lib.cut s [58]).2.1.take (ia (Lib.cut s [58]).1).1.toNat,(Lib.cut s [58]).2.1.drop (ia (Lib.cut s [58]).1).1.toNat,J)
end Cad
namespace Go.Proofs
open Cad (bx cE dR dq jg)
open Go.RowKit Go.Shelf Go.Lib
open Bool renaming false->Q5,true->Q4
open Option renaming none->Q2,some->Q1
attribute [local go_sem] Oper.semAt_some
theorem set_box{w W:World}{b:Nat}(hB:Below w.heap.size w W)(o:Nat)(v:Value):w.grownBy (W.setCell ⟨b,o,Q2⟩ v) (Q1 b):=
 ⟨hB.os,hB.tape,hB.output,by rw[Cad.kd];exact hB.size,λk hk hn=>(Cad.eW _ _ _ _ _ (λe=>hn (by rw[e]))).trans (hB.block k hk)⟩
theorem str_cut(r:Cad.zD)(i j:Nat):(⟨r.toArray⟩:ByteArray).extract i j=⟨((r.take j).drop i).toArray⟩:=by apply ByteArray.ext;rw[ByteArray.data_extract];simp[List.drop_take]
theorem Tryz.field_bad(b:Nat)(T:TypeId)(s d r:Cad.zD)(ok:Bool)(z:Int)(w:World)(hb:w.heap[b]?=Q1 (.cells #[.string ⟨s.toArray⟩,.bool Q4] T (0,0)))
  (hcut:∀W,Below w.heap.size w W->Calls Tryz.prog 63 #[.string ⟨s.toArray⟩,.string ⟨#[58]⟩] W λe W'=>e=.returned (.tuple #[.string ⟨d.toArray⟩,.string ⟨r.toArray⟩,.bool ok])/\Below W.heap.size W W')
  (hat:∀W,Below w.heap.size w W->Calls Tryz.prog 64 #[.string ⟨d.toArray⟩] W λe W'=>(∃v,True/\e=.returned (.tuple #[.int .i64 z,v]))/\Below W.heap.size W W'):
  CallsIn Fence.wide 4 Tryz.prog 29 #[.pointer (Q1 ⟨b,0,Q2⟩)] w λe w'=>e=.returned (.string ⟨#[]⟩)/\w.grownBy w' (Q1 b)/\w'.heap[b]?=Q1 (.cells #[.string ⟨s.toArray⟩,.bool Q4] T (0,0)):=by
 have hlt:b<w.heap.size:=(dq.1 hb).1;have c0:w.cell? ⟨b,0,Q2⟩=Q1 (.string ⟨s.toArray⟩):=by simp[World.cell?,hb]
 have hB0:Below w.heap.size w w:=Below.refl _ w;refine callsIn_of_wp_marks Tryz.func29 rfl trivial ?_ rfl;simp only[Tryz.ntmps29,List.size_toArray,bx,cE,Nat.reduceAdd,Nat.reduceSub,Array.replicate_succ,Array.replicate_zero,List.push_toArray,List.append_toArray,dR,List.cons_append]
 gi_upto_region 2 with(refine⟨trivial,?_⟩;refine(callsIn_wide.2 (hcut _ hB0)).mono ?_;rintro e W1 ⟨rfl,hW1⟩)
 gi_upto_region 3 with(refine⟨trivial,?_⟩;refine(callsIn_wide.2 (hat _ hW1)).mono ?_;rintro e W2 ⟨⟨v,_,rfl⟩,hW2⟩)
 have hB2:Below w.heap.size w W2:=hW1.trans (hW2.mono hW1.size);have hb2:W2.heap[b]?=Q1 (.cells #[.string ⟨s.toArray⟩,.bool Q4] T (0,0)):=(hB2.block b hlt).trans hb;have d1:W2.cell? ⟨b,1,Q2⟩=Q1 (.bool Q4):=by simp[World.cell?,hb2]
 have fz:W2.frozen? ⟨b,1,Q2⟩=Q5:=by simp[World.frozen?,hb2]
 gi_wp2
 exact⟨_,results_tmp rfl _ _ _,rfl,set_box hB2 1 _,(Cad.dH _ _ _ _ hb2).trans rfl⟩
theorem Tryz.field_cut(b:Nat)(T:TypeId)(s d r:Cad.zD)(z:Int)(w:World)(hb:w.heap[b]?=Q1 (.cells #[.string ⟨s.toArray⟩,.bool Q5] T (0,0)))
  (hcut:∀W,Below w.heap.size w W->Calls Tryz.prog 63 #[.string ⟨s.toArray⟩,.string ⟨#[58]⟩] W λe W'=>e=.returned (.tuple #[.string ⟨d.toArray⟩,.string ⟨r.toArray⟩,.bool Q5])/\Below W.heap.size W W')
  (hat:∀W,Below w.heap.size w W->Calls Tryz.prog 64 #[.string ⟨d.toArray⟩] W λe W'=>(∃v,True/\e=.returned (.tuple #[.int .i64 z,v]))/\Below W.heap.size W W'):
  CallsIn Fence.wide 4 Tryz.prog 29 #[.pointer (Q1 ⟨b,0,Q2⟩)] w λe w'=>e=.returned (.string ⟨#[]⟩)/\w.grownBy w' (Q1 b)/\w'.heap[b]?=Q1 (.cells #[.string ⟨s.toArray⟩,.bool Q4] T (0,0)):=by
 have hlt:b<w.heap.size:=(dq.1 hb).1;have c0:w.cell? ⟨b,0,Q2⟩=Q1 (.string ⟨s.toArray⟩):=by simp[World.cell?,hb]
 have hB0:Below w.heap.size w w:=Below.refl _ w;refine callsIn_of_wp_marks Tryz.func29 rfl trivial ?_ rfl;simp only[Tryz.ntmps29,List.size_toArray,bx,cE,Nat.reduceAdd,Nat.reduceSub,Array.replicate_succ,Array.replicate_zero,List.push_toArray,List.append_toArray,dR,List.cons_append]
 gi_upto_region 2 with(refine⟨trivial,?_⟩;refine(callsIn_wide.2 (hcut _ hB0)).mono ?_;rintro e W1 ⟨rfl,hW1⟩)
 gi_upto_region 3 with(refine⟨trivial,?_⟩;refine(callsIn_wide.2 (hat _ hW1)).mono ?_;rintro e W2 ⟨⟨v,_,rfl⟩,hW2⟩)
 have hB2:Below w.heap.size w W2:=hW1.trans (hW2.mono hW1.size);have hb2:W2.heap[b]?=Q1 (.cells #[.string ⟨s.toArray⟩,.bool Q5] T (0,0)):=(hB2.block b hlt).trans hb;have d1:W2.cell? ⟨b,1,Q2⟩=Q1 (.bool Q5):=by simp[World.cell?,hb2]
 have fz:W2.frozen? ⟨b,1,Q2⟩=Q5:=by simp[World.frozen?,hb2]
 gi_wp2
 exact⟨_,results_tmp rfl _ _ _,rfl,set_box hB2 1 _,(Cad.dH _ _ _ _ hb2).trans rfl⟩
theorem Tryz.field_err(b:Nat)(T:TypeId)(s d r:Cad.zD)(z:Int)(w:World)(hb:w.heap[b]?=Q1 (.cells #[.string ⟨s.toArray⟩,.bool Q5] T (0,0)))
  (hcut:∀W,Below w.heap.size w W->Calls Tryz.prog 63 #[.string ⟨s.toArray⟩,.string ⟨#[58]⟩] W λe W'=>e=.returned (.tuple #[.string ⟨d.toArray⟩,.string ⟨r.toArray⟩,.bool Q4])/\Below W.heap.size W W')
  (hat:∀W,Below w.heap.size w W->Calls Tryz.prog 64 #[.string ⟨d.toArray⟩] W λe W'=>(∃v,(∃t p,v=.iface t p)/\e=.returned (.tuple #[.int .i64 z,v]))/\Below W.heap.size W W'):
  CallsIn Fence.wide 4 Tryz.prog 29 #[.pointer (Q1 ⟨b,0,Q2⟩)] w λe w'=>e=.returned (.string ⟨#[]⟩)/\w.grownBy w' (Q1 b)/\w'.heap[b]?=Q1 (.cells #[.string ⟨s.toArray⟩,.bool Q4] T (0,0)):=by
 have hlt:b<w.heap.size:=(dq.1 hb).1;have c0:w.cell? ⟨b,0,Q2⟩=Q1 (.string ⟨s.toArray⟩):=by simp[World.cell?,hb]
 have hB0:Below w.heap.size w w:=Below.refl _ w;refine callsIn_of_wp_marks Tryz.func29 rfl trivial ?_ rfl;simp only[Tryz.ntmps29,List.size_toArray,bx,cE,Nat.reduceAdd,Nat.reduceSub,Array.replicate_succ,Array.replicate_zero,List.push_toArray,List.append_toArray,dR,List.cons_append]
 gi_upto_region 2 with(refine⟨trivial,?_⟩;refine(callsIn_wide.2 (hcut _ hB0)).mono ?_;rintro e W1 ⟨rfl,hW1⟩)
 gi_upto_region 3 with(refine⟨trivial,?_⟩;refine(callsIn_wide.2 (hat _ hW1)).mono ?_;rintro e W2 ⟨⟨v,⟨t,p,rfl⟩,rfl⟩,hW2⟩)
 have hB2:Below w.heap.size w W2:=hW1.trans (hW2.mono hW1.size);have hb2:W2.heap[b]?=Q1 (.cells #[.string ⟨s.toArray⟩,.bool Q5] T (0,0)):=(hB2.block b hlt).trans hb;have d1:W2.cell? ⟨b,1,Q2⟩=Q1 (.bool Q5):=by simp[World.cell?,hb2]
 have fz:W2.frozen? ⟨b,1,Q2⟩=Q5:=by simp[World.frozen?,hb2]
 gi_wp2
 exact⟨_,results_tmp rfl _ _ _,rfl,set_box hB2 1 _,(Cad.dH _ _ _ _ hb2).trans rfl⟩
theorem Tryz.field_neg(b:Nat)(T:TypeId)(s d r:Cad.zD)(z:Int)(w:World)(hb:w.heap[b]?=Q1 (.cells #[.string ⟨s.toArray⟩,.bool Q5] T (0,0)))
  (hcut:∀W,Below w.heap.size w W->Calls Tryz.prog 63 #[.string ⟨s.toArray⟩,.string ⟨#[58]⟩] W λe W'=>e=.returned (.tuple #[.string ⟨d.toArray⟩,.string ⟨r.toArray⟩,.bool Q4])/\Below W.heap.size W W')
  (hat:∀W,Below w.heap.size w W->Calls Tryz.prog 64 #[.string ⟨d.toArray⟩] W λe W'=>(∃v,v=.nilIface/\e=.returned (.tuple #[.int .i64 z,v]))/\Below W.heap.size W W') (hz:z<0):
  CallsIn Fence.wide 4 Tryz.prog 29 #[.pointer (Q1 ⟨b,0,Q2⟩)] w λe w'=>e=.returned (.string ⟨#[]⟩)/\w.grownBy w' (Q1 b)/\w'.heap[b]?=Q1 (.cells #[.string ⟨s.toArray⟩,.bool Q4] T (0,0)):=by
 have hlt:b<w.heap.size:=(dq.1 hb).1;have c0:w.cell? ⟨b,0,Q2⟩=Q1 (.string ⟨s.toArray⟩):=by simp[World.cell?,hb]
 have hB0:Below w.heap.size w w:=Below.refl _ w;refine callsIn_of_wp_marks Tryz.func29 rfl trivial ?_ rfl;simp only[Tryz.ntmps29,List.size_toArray,bx,cE,Nat.reduceAdd,Nat.reduceSub,Array.replicate_succ,Array.replicate_zero,List.push_toArray,List.append_toArray,dR,List.cons_append]
 gi_upto_region 2 with(refine⟨trivial,?_⟩;refine(callsIn_wide.2 (hcut _ hB0)).mono ?_;rintro e W1 ⟨rfl,hW1⟩)
 gi_upto_region 3 with(refine⟨trivial,?_⟩;refine(callsIn_wide.2 (hat _ hW1)).mono ?_;rintro e W2 ⟨⟨v,rfl,rfl⟩,hW2⟩)
 have hB2:Below w.heap.size w W2:=hW1.trans (hW2.mono hW1.size);have hb2:W2.heap[b]?=Q1 (.cells #[.string ⟨s.toArray⟩,.bool Q5] T (0,0)):=(hB2.block b hlt).trans hb;have d1:W2.cell? ⟨b,1,Q2⟩=Q1 (.bool Q5):=by simp[World.cell?,hb2]
 have fz:W2.frozen? ⟨b,1,Q2⟩=Q5:=by simp[World.frozen?,hb2]
 gi_wp2
 exact⟨_,results_tmp rfl _ _ _,rfl,set_box hB2 1 _,(Cad.dH _ _ _ _ hb2).trans rfl⟩
theorem Tryz.field_long(b:Nat)(T:TypeId)(s d r:Cad.zD)(z:Int)(w:World)(hb:w.heap[b]?=Q1 (.cells #[.string ⟨s.toArray⟩,.bool Q5] T (0,0)))
  (hcut:∀W,Below w.heap.size w W->Calls Tryz.prog 63 #[.string ⟨s.toArray⟩,.string ⟨#[58]⟩] W λe W'=>e=.returned (.tuple #[.string ⟨d.toArray⟩,.string ⟨r.toArray⟩,.bool Q4])/\Below W.heap.size W W')
  (hat:∀W,Below w.heap.size w W->Calls Tryz.prog 64 #[.string ⟨d.toArray⟩] W λe W'=>(∃v,v=.nilIface/\e=.returned (.tuple #[.int .i64 z,v]))/\Below W.heap.size W W') (h0:0<=z) (hz:(r.length:Int)<z):
  CallsIn Fence.wide 4 Tryz.prog 29 #[.pointer (Q1 ⟨b,0,Q2⟩)] w λe w'=>e=.returned (.string ⟨#[]⟩)/\w.grownBy w' (Q1 b)/\w'.heap[b]?=Q1 (.cells #[.string ⟨s.toArray⟩,.bool Q4] T (0,0)):=by
 have hlt:b<w.heap.size:=(dq.1 hb).1;have c0:w.cell? ⟨b,0,Q2⟩=Q1 (.string ⟨s.toArray⟩):=by simp[World.cell?,hb]
 have hB0:Below w.heap.size w w:=Below.refl _ w;refine callsIn_of_wp_marks Tryz.func29 rfl trivial ?_ rfl;simp only[Tryz.ntmps29,List.size_toArray,bx,cE,Nat.reduceAdd,Nat.reduceSub,Array.replicate_succ,Array.replicate_zero,List.push_toArray,List.append_toArray,dR,List.cons_append]
 gi_upto_region 2 with(refine⟨trivial,?_⟩;refine(callsIn_wide.2 (hcut _ hB0)).mono ?_;rintro e W1 ⟨rfl,hW1⟩)
 gi_upto_region 3 with(refine⟨trivial,?_⟩;refine(callsIn_wide.2 (hat _ hW1)).mono ?_;rintro e W2 ⟨⟨v,rfl,rfl⟩,hW2⟩)
 have hB2:Below w.heap.size w W2:=hW1.trans (hW2.mono hW1.size);have hb2:W2.heap[b]?=Q1 (.cells #[.string ⟨s.toArray⟩,.bool Q5] T (0,0)):=(hB2.block b hlt).trans hb;have d1:W2.cell? ⟨b,1,Q2⟩=Q1 (.bool Q5):=by simp[World.cell?,hb2]
 have fz:W2.frozen? ⟨b,1,Q2⟩=Q5:=by simp[World.frozen?,hb2]
 gi_wp2
 exact⟨_,results_tmp rfl _ _ _,rfl,set_box hB2 1 _,(Cad.dH _ _ _ _ hb2).trans rfl⟩
theorem Tryz.field_good(b:Nat)(T:TypeId)(s d r:Cad.zD)(z:Int)(w:World)(hb:w.heap[b]?=Q1 (.cells #[.string ⟨s.toArray⟩,.bool Q5] T (0,0)))
  (hcut:∀W,Below w.heap.size w W->Calls Tryz.prog 63 #[.string ⟨s.toArray⟩,.string ⟨#[58]⟩] W λe W'=>e=.returned (.tuple #[.string ⟨d.toArray⟩,.string ⟨r.toArray⟩,.bool Q4])/\Below W.heap.size W W')
  (hat:∀W,Below w.heap.size w W->Calls Tryz.prog 64 #[.string ⟨d.toArray⟩] W λe W'=>(∃v,v=.nilIface/\e=.returned (.tuple #[.int .i64 z,v]))/\Below W.heap.size W W') (h0:0<=z) (hz:z<=(r.length:Int)) (_:r.length<=4294967280):
  CallsIn Fence.wide 4 Tryz.prog 29 #[.pointer (Q1 ⟨b,0,Q2⟩)] w λe w'=>e=.returned (.string ⟨(r.take z.toNat).toArray⟩)/\w.grownBy w' (Q1 b)/\w'.heap[b]?=Q1 (.cells #[.string ⟨(r.drop z.toNat).toArray⟩,.bool Q5] T (0,0)):=by
 have hlt:b<w.heap.size:=(dq.1 hb).1;have c0:w.cell? ⟨b,0,Q2⟩=Q1 (.string ⟨s.toArray⟩):=by simp[World.cell?,hb]
 have hB0:Below w.heap.size w w:=Below.refl _ w;refine callsIn_of_wp_marks Tryz.func29 rfl trivial ?_ rfl;simp only[Tryz.ntmps29,List.size_toArray,bx,cE,Nat.reduceAdd,Nat.reduceSub,Array.replicate_succ,Array.replicate_zero,List.push_toArray,List.append_toArray,dR,List.cons_append]
 gi_upto_region 2 with(refine⟨trivial,?_⟩;refine(callsIn_wide.2 (hcut _ hB0)).mono ?_;rintro e W1 ⟨rfl,hW1⟩)
 gi_upto_region 3 with(refine⟨trivial,?_⟩;refine(callsIn_wide.2 (hat _ hW1)).mono ?_;rintro e W2 ⟨⟨v,rfl,rfl⟩,hW2⟩)
 have hB2:Below w.heap.size w W2:=hW1.trans (hW2.mono hW1.size);have hb2:W2.heap[b]?=Q1 (.cells #[.string ⟨s.toArray⟩,.bool Q5] T (0,0)):=(hB2.block b hlt).trans hb;have d1:W2.cell? ⟨b,1,Q2⟩=Q1 (.bool Q5):=by simp[World.cell?,hb2]
 have fz:W2.frozen? ⟨b,1,Q2⟩=Q5:=by simp[World.frozen?,hb2]
 have d0:W2.cell? ⟨b,0,Q2⟩=Q1 (.string ⟨s.toArray⟩):=by simp[World.cell?,hb2]
 have fz0:W2.frozen? ⟨b,0,Q2⟩=Q5:=by simp[World.frozen?,hb2]
 gi_wp2
 refine⟨_,results_tmp rfl _ _ _,?_,set_box hB2 0 _,(Cad.dH _ _ _ _ hb2).trans ?_⟩
 .exact congrArg (λx=>Ending.returned (Value.string x)) (str_cut r 0 z.toNat)
 .rw[str_cut,jg];rfl
open Cad (aB bx cE cM dR dq)
attribute [local go_sem] Oper.semAt_some
variable {w:World}
theorem grown_below{W1 W2:World}{b:Nat}(h:w.grownBy W1 (Q1 b))(h2:Below W1.heap.size W1 W2):w.grownBy W2 (Q1 b):=
 ⟨h2.os.trans h.os,h2.tape.trans h.tape,h2.output.trans h.output,aB h.size h2.size,λk hk hn=>(h2.block k (cM hk h.size)).trans (h.block k hk hn)⟩
theorem grown_cell{W:World}{b:Nat}(h:w.grownBy W (Q1 b))(o:Nat)(v:Value):w.grownBy (W.setCell ⟨b,o,Q2⟩ v) (Q1 b):=
 ⟨h.os,h.tape,h.output,by rw[Cad.kd];exact h.size,λk hk hn=>(Cad.eW _ _ _ _ _ (λe=>hn (by rw[e]))).trans (h.block k hk hn)⟩
theorem Tryz.number_err(b:Nat)(T:TypeId)(f s:Cad.zD)(bd:Bool)(z:Int)(w:World)
  (hf:Calls Tryz.prog 29 #[.pointer (Q1 ⟨b,0,Q2⟩)] w λe W'=>e=.returned (.string ⟨f.toArray⟩)/\w.grownBy W' (Q1 b)/\W'.heap[b]?=Q1 (.cells #[.string ⟨s.toArray⟩,.bool bd] T (0,0)))
  (hat:∀W,w.grownBy W (Q1 b)->Calls Tryz.prog 64 #[.string ⟨f.toArray⟩] W λe W'=>(∃v,(∃t p,v=.iface t p)/\e=.returned (.tuple #[.int .i64 z,v]))/\Below W.heap.size W W'):
  CallsIn Fence.wide 4 Tryz.prog 62 #[.pointer (Q1 ⟨b,0,Q2⟩)] w λe w'=>e=.returned (.int .i64 0)/\w.grownBy w' (Q1 b)/\w'.heap[b]?=Q1 (.cells #[.string ⟨s.toArray⟩,.bool Q4] T (0,0)):=by
 refine callsIn_of_wp_marks Tryz.func62 rfl trivial ?_ rfl;simp only[Tryz.ntmps62,List.size_toArray,bx,cE,Nat.reduceAdd,Nat.reduceSub,Array.replicate_succ,Array.replicate_zero,List.push_toArray,List.append_toArray,dR,List.cons_append]
 gi_upto_region 2 with(first
  |(refine⟨trivial,?_⟩;refine(callsIn_wide.2 hf).mono ?_;rintro e W1 ⟨rfl,hW1,hb1⟩)
  |(refine⟨trivial,?_⟩;refine(callsIn_wide.2 (hat _ hW1)).mono ?_;rintro e W2 ⟨⟨v,⟨t,p,rfl⟩,rfl⟩,hW2⟩))
 have hG:=grown_below hW1 hW2;have hb2:W2.heap[b]?=Q1 (.cells #[.string ⟨s.toArray⟩,.bool bd] T (0,0)):=(hW2.block b (dq.1 hb1).1).trans hb1;have d1:W2.cell? ⟨b,1,Q2⟩=Q1 (.bool bd):=by simp[World.cell?,hb2]
 have fz:W2.frozen? ⟨b,1,Q2⟩=Q5:=by simp[World.frozen?,hb2]
 gi_wp2
 exact⟨_,results_tmp rfl _ _ _,rfl,grown_cell hG 1 _,(Cad.dH _ _ _ _ hb2).trans rfl⟩
theorem Tryz.number_ok(b:Nat)(T:TypeId)(f s:Cad.zD)(bd:Bool)(z:Int)(w:World)
  (hf:Calls Tryz.prog 29 #[.pointer (Q1 ⟨b,0,Q2⟩)] w λe W'=>e=.returned (.string ⟨f.toArray⟩)/\w.grownBy W' (Q1 b)/\W'.heap[b]?=Q1 (.cells #[.string ⟨s.toArray⟩,.bool bd] T (0,0)))
  (hat:∀W,w.grownBy W (Q1 b)->Calls Tryz.prog 64 #[.string ⟨f.toArray⟩] W λe W'=>(∃v,v=.nilIface/\e=.returned (.tuple #[.int .i64 z,v]))/\Below W.heap.size W W'):
  CallsIn Fence.wide 4 Tryz.prog 62 #[.pointer (Q1 ⟨b,0,Q2⟩)] w λe w'=>e=.returned (.int .i64 z)/\w.grownBy w' (Q1 b)/\w'.heap[b]?=Q1 (.cells #[.string ⟨s.toArray⟩,.bool bd] T (0,0)):=by
 refine callsIn_of_wp_marks Tryz.func62 rfl trivial ?_ rfl;simp only[Tryz.ntmps62,List.size_toArray,bx,cE,Nat.reduceAdd,Nat.reduceSub,Array.replicate_succ,Array.replicate_zero,List.push_toArray,List.append_toArray,dR,List.cons_append]
 gi_upto_region 2 with(first
  |(refine⟨trivial,?_⟩;refine(callsIn_wide.2 hf).mono ?_;rintro e W1 ⟨rfl,hW1,hb1⟩)
  |(refine⟨trivial,?_⟩;refine(callsIn_wide.2 (hat _ hW1)).mono ?_;rintro e W2 ⟨⟨v,rfl,rfl⟩,hW2⟩))
 have hG:=grown_below hW1 hW2;have hb2:W2.heap[b]?=Q1 (.cells #[.string ⟨s.toArray⟩,.bool bd] T (0,0)):=(hW2.block b (dq.1 hb1).1).trans hb1
 gi_wp2
 exact⟨_,results_tmp rfl _ _ _,rfl,hG,hb2⟩
end Go.Proofs
namespace Cad
open Go Go.Proofs Go.RowKit Go.Lib Tryz
open List renaming length->M
open Bool renaming false->J,true->Z
open Option renaming none->Q2,some->Y
open Cad renaming ow->S
set_option maxHeartbeats 4000000
open Tr (chk br re)
open AV (nils agg tup ptr kb str sl)
structure Is (w:World):Prop where
 g0:∃m,w.cell? ⟨0,0,Q2⟩=Y (.int .i64 m)
 g1:∃t p,w.cell? ⟨1,0,Q2⟩=Y (.iface t p)
 g2:∃t p,w.cell? ⟨2,0,Q2⟩=Y (.iface t p)
variable {w W:World}
theorem Is.of(h:Is w)(x:∀k,k<3->W.heap[k]?=w.heap[k]?):Is W:=by obtain⟨⟨m,a⟩,⟨t,p,b⟩,⟨t',d,c⟩⟩:=h;exact⟨⟨m,(World.cell?_of_block (x 0 (by decide))).trans a⟩,⟨t,p,(World.cell?_of_block (x 1 (by decide))).trans b⟩,⟨t',d,(World.cell?_of_block (x 2 (by decide))).trans c⟩⟩
theorem zgV{U:Nat->Prop}(h:lR q9.gl w U):Is w/\∀b,U b->b≠0/\b≠1/\b≠2:=by
 have i:Rv w U (λ_=>Q2) .gint (.pointer (Y ⟨0,0,Q2⟩)):=h 0;have e:∀g,Rv w U (λ_=>Q2) (.eptr [.ifc J] 0) (.pointer (Y ⟨g,0,Q2⟩))->(∃t p,w.cell? ⟨g,0,Q2⟩=Y (.iface t p))/\¬U g:=λg y=>by
  cases y with
  |eptr _ _ _ o v k j c C z=>
  have i:=c 0 sw;have l:=z 0 _ rfl;generalize v 0=x at i l;cases l with
  |ifcS t p=>exact⟨⟨t,p,by simpa using i⟩,j⟩
 have⟨n,s⟩:=e 1 (h 1);have⟨q,u⟩:=e 2 (h 2);cases i with
 |gint m _ a A D k j=>
 exact⟨⟨⟨m,by unfold World.cell?;rw[k];rfl⟩,n,q⟩,λb d=>⟨λe=>j (e▸d),λe=>s (e▸d),λe=>u (e▸d)⟩⟩
theorem D6(h:Is w)(s:zD)(i:M s<=281474976710656):Calls prog 64 #[.string ⟨s.toArray⟩] w λe b=>(∃v,(if(ia s).2 then v=.nilIface else∃t p,v=.iface t p)/\e=.returned (.tuple #[.int .i64 (ia s).1,v]))/\Below w.heap.size w b:=by
 have g:∀b,(b=w\/∃t,b=Lib.bytesWorld w 5 t)->Below w.heap.size w b:=λb h=>by
  rcases h with rfl|⟨t,rfl⟩
  .exact Below.refl _ _
  .exact Lib.bytesWorld_below _ _ _
 cases c:Lib.atoiAll s with
 | ok v=>
  have e:ia s=(v,Z):=by unfold ia;rw[c]
  rw[e];refine(Tryz.strconv_Atoi_ok ⟨s.toArray⟩ (by show s.toArray.size<=_;simp;omega) v c w).mono ?_;rintro e b ⟨rfl,h⟩;exact⟨⟨_,rfl,rfl⟩,g _ h⟩
 | range=>
  have e:ia s=(Lib.atoiSat s,J):=by unfold ia;rw[c]
  rw[e];obtain⟨t,p,a⟩:=h.g2;refine(Tryz.strconv_Atoi_range ⟨s.toArray⟩ (by show s.toArray.size<=_;simp;omega) c _ w a (.inr ⟨t,p,rfl⟩)).mono ?_;rintro e b ⟨x,rfl,_,_,d⟩;exact⟨⟨_,sw,rfl⟩,d⟩
 | _=>
  have e:ia s=(0,J):=by unfold ia;rw[c]
  rw[e];obtain⟨t,p,a⟩:=h.g1;refine(Tryz.strconv_Atoi_syntax ⟨s.toArray⟩ (by show s.toArray.size<=_;simp;omega) (c.trans (by kernel_rfl)) _ w a (.inr ⟨t,p,rfl⟩)).mono ?_;rintro e b ⟨x,rfl,_,_,d⟩;exact⟨⟨_,sw,rfl⟩,d⟩
theorem Uy(h:Is w)(s:zD)(b:M s<=4294967280):Calls prog 63 #[.string ⟨s.toArray⟩,.string ⟨#[58]⟩] w λe x=>e=.returned (.tuple #[.string ⟨(Lib.cut s [58]).1.toArray⟩,.string ⟨(Lib.cut s [58]).2.1.toArray⟩,.bool (Lib.cut s [58]).q])/\Below w.heap.size w x:=by have⟨m,a⟩:=h.g0;refine(Tryz.strings_Cut ⟨s.toArray⟩ ⟨#[58]⟩ m w (by show s.toArray.size<_;simp;omega) a).mono ?_;rintro e x ⟨rfl,k,rfl⟩;exact⟨rfl,rfl,rfl,rfl,zK _,λ_ _=>rfl⟩
variable {b:Nat}{h:TypeId}
theorem MS(x:Is w)(_:b≠0/\b≠1/\b≠2)(s:zD)(j:Bool)(F:M s<=4294967280)(t:w.heap[b]?=Y (.cells #[.string ⟨s.toArray⟩,.bool j] h (0,0))):
  Calls prog 29 #[.pointer (Y ⟨b,0,Q2⟩)] w λe D=>e=.returned (.string ⟨(il s j).1.toArray⟩)/\w.grownBy D (Y b)/\D.heap[b]?=Y (.cells #[.string ⟨(il s j).2.1.toArray⟩,.bool (il s j).2.2] h (0,0)):=by
 have C:3<=w.heap.size:=by
  obtain⟨_,_,m⟩:=x.g2;exact gE m
 have A:∀c,Below w.heap.size w c->Is c:=λc i=>x.of λk H=>i.block k S
 have g:=λc i=>Uy (A c i) s F
 obtain⟨P,U⟩:=OM s [58];have n:=λc i=>D6 (A c i) (Lib.cut s [58]).1 S
 unfold il;cases j with
 | true=>
  rw[zf (.inl rfl)];refine callsIn_wide.1 (Tryz.field_bad b h s _ _ _ (ia (Lib.cut s [58]).1).1 w t g λc i=>(n c i).mono ?_);rintro e u ⟨⟨v,_,m⟩,p⟩;exact⟨⟨v,trivial,m⟩,p⟩
 |false=>
 generalize Lib.cut s [58]=k at*;obtain⟨d,r,G⟩:=k;cases G with
 | false=>
  rw[zf (.inr (.inl rfl))];refine callsIn_wide.1 (Tryz.field_cut b h s d r (ia d).1 w t g λc i=>(n c i).mono ?_);rintro e u ⟨⟨v,_,m⟩,p⟩;exact⟨⟨v,trivial,m⟩,p⟩
 |true=>
 dsimp only at*
 generalize ia d=a at*;obtain⟨z,o⟩:=a;cases o with
 | false=>
  rw[zf (.inr (.inr (.inl rfl)))];refine callsIn_wide.1 (Tryz.field_err b h s d r z w t g λc i=>(n c i).mono ?_);rintro e u ⟨⟨v,q,m⟩,p⟩;exact⟨⟨v,by simpa using q,m⟩,p⟩
 |true=>
 have l:∀c,Below w.heap.size w c->Calls prog 64 #[.string ⟨d.toArray⟩] c λe u=>(∃v,v=.nilIface/\e=.returned (.tuple #[.int .i64 z,v]))/\Below c.heap.size c u:=λc i=>(n c i).mono (by
  rintro e u ⟨⟨v,q,m⟩,p⟩;exact⟨⟨v,by simpa using q,m⟩,p⟩)
 dsimp only at*
 by_cases y:z<0
 .rw[zf (.inr (.inr (.inr (.inl y))))];exact callsIn_wide.1 (Tryz.field_neg b h s d r z w t g l y)
 by_cases q:(M r:Int)<z
 .rw[zf (.inr (.inr (.inr (.inr q))))];exact callsIn_wide.1 (Tryz.field_long b h s d r z w t g l S q)
 rw[zh sg];exact callsIn_wide.1 (Tryz.field_good b h s d r z w t g l S S S)
theorem MR(s:zD)(b:Bool):(il s b).1.length<=M s/\(il s b).2.1.length<=M s:=by
 have⟨l,h⟩:=OM s [58];unfold il;split
 .simp
 .simp;omega
def cH(s:zD)(b:Bool):Int×zD×Bool:=
 if(ia (il s b).1).2 then((ia (il s b).1).1,(il s b).2.1,(il s b).q)else(0,(il s b).2.1,Z)
theorem Is.grown(h:Is w)(c:b≠0/\b≠1/\b≠2)(d:w.grownBy W (Y b)):Is W:=by
 have x:3<=w.heap.size:=by
  have⟨_,_,a⟩:=h.g2;exact gE a
 refine h.of λk g=>d.block k S λe=>?_
 cases e;omega
theorem Kz(x:Is w)(j:b≠0/\b≠1/\b≠2)(s:zD)(d:Bool)(C:M s<=4294967280)(A:w.heap[b]?=Y (.cells #[.string ⟨s.toArray⟩,.bool d] h (0,0))):
  Calls prog 62 #[.pointer (Y ⟨b,0,Q2⟩)] w λe u=>e=.returned (.int .i64 (cH s d).1)/\w.grownBy u (Y b)/\u.heap[b]?=Y (.cells #[.string ⟨(cH s d).2.1.toArray⟩,.bool (cH s d).2.2] h (0,0)):=by
 have q:=MS x j s d C A;obtain⟨D,E⟩:=MR s d;have i:=λc g=>D6 (x.grown j (W:=c) g) (il s d).1 S
 unfold cH;generalize il s d=k at*;obtain⟨f,t,p⟩:=k
 dsimp only at*
 generalize ia f=a at*;obtain⟨z,o⟩:=a;cases o with
 | false=>
  rw[zh sw];refine callsIn_wide.1 (Tryz.number_err b h f t p z w q λc g=>(i c g).mono ?_);rintro e y ⟨⟨v,l,m⟩,n⟩;exact⟨⟨v,by simpa using l,m⟩,n⟩
 | true=>
  rw[zf rfl];refine callsIn_wide.1 (Tryz.number_ok b h f t p z w q λc g=>(i c g).mono ?_);rintro e y ⟨⟨v,l,m⟩,n⟩;exact⟨⟨v,by simpa using l,m⟩,n⟩
end Cad
namespace Go.Proofs
open Cad (aB bx cE cM dR dq zK zf zh)
open Go.RowKit Go.Shelf Go.Lib
open Bool renaming false->Q5,true->Q4
open Option renaming none->Q2,some->Q1
attribute [local go_sem] Oper.semAt_some
theorem Tryz.take57_none(b:Nat)(T:TypeId)(s:Cad.zD)(bd:Bool)(n:Int)(cl:Value)(w:World)
  (hf:Calls Tryz.prog 62 #[.pointer (Q1 ⟨b,0,Q2⟩)] w λe W'=>e=.returned (.int .i64 n)/\w.grownBy W' (Q1 b)/\W'.heap[b]?=Q1 (.cells #[.string ⟨s.toArray⟩,.bool bd] T (0,0))) (hn:n<=0):
  CallsIn Fence.wide 4 Tryz.prog 57 #[.pointer (Q1 ⟨b,0,Q2⟩),cl] w λe w'=>e=.returned (.slice Q2 0 0)/\w.grownBy w' (Q1 b)/\w'.heap[b]?=Q1 (.cells #[.string ⟨s.toArray⟩,.bool bd] T (0,0)):=by
 refine callsIn_of_wp_marks Tryz.func57 rfl trivial ?_ rfl;simp only[Tryz.ntmps57,List.size_toArray,bx,cE,Nat.reduceAdd,Nat.reduceSub,Array.replicate_succ,Array.replicate_zero,List.push_toArray,List.append_toArray,dR,List.cons_append]
 gi_upto_region 3 with(refine⟨trivial,?_⟩;refine(callsIn_wide.2 hf).mono ?_;rintro e W1 ⟨rfl,hW1,hb1⟩)
 have hlt:¬(0:Int)<n:=by omega
 gi_wp2
 refine wpIn_loop_once ?_
 gi_wp2
 exact⟨_,results_tmp rfl _ _ _,rfl,hW1,hb1⟩
theorem Tryz.take27_none(b:Nat)(T:TypeId)(s:Cad.zD)(bd:Bool)(n:Int)(cl:Value)(w:World)
  (hf:Calls Tryz.prog 62 #[.pointer (Q1 ⟨b,0,Q2⟩)] w λe W'=>e=.returned (.int .i64 n)/\w.grownBy W' (Q1 b)/\W'.heap[b]?=Q1 (.cells #[.string ⟨s.toArray⟩,.bool bd] T (0,0))) (hn:n<=0):
  CallsIn Fence.wide 4 Tryz.prog 27 #[.pointer (Q1 ⟨b,0,Q2⟩),cl] w λe w'=>e=.returned (.slice Q2 0 0)/\w.grownBy w' (Q1 b)/\w'.heap[b]?=Q1 (.cells #[.string ⟨s.toArray⟩,.bool bd] T (0,0)):=by
 refine callsIn_of_wp_marks Tryz.func27 rfl trivial ?_ rfl;simp only[Tryz.ntmps27,List.size_toArray,bx,cE,Nat.reduceAdd,Nat.reduceSub,Array.replicate_succ,Array.replicate_zero,List.push_toArray,List.append_toArray,dR,List.cons_append]
 gi_upto_region 3 with(refine⟨trivial,?_⟩;refine(callsIn_wide.2 hf).mono ?_;rintro e W1 ⟨rfl,hW1,hb1⟩)
 have hlt:¬(0:Int)<n:=by omega
 gi_wp2
 refine wpIn_loop_once ?_
 gi_wp2
 exact⟨_,results_tmp rfl _ _ _,rfl,hW1,hb1⟩
theorem Tryz.take31_none(b:Nat)(T:TypeId)(s:Cad.zD)(bd:Bool)(n:Int)(cl:Value)(w:World)
  (hf:Calls Tryz.prog 62 #[.pointer (Q1 ⟨b,0,Q2⟩)] w λe W'=>e=.returned (.int .i64 n)/\w.grownBy W' (Q1 b)/\W'.heap[b]?=Q1 (.cells #[.string ⟨s.toArray⟩,.bool bd] T (0,0))) (hn:n<=0):
  CallsIn Fence.wide 4 Tryz.prog 31 #[.pointer (Q1 ⟨b,0,Q2⟩),cl] w λe w'=>e=.returned (.slice Q2 0 0)/\w.grownBy w' (Q1 b)/\w'.heap[b]?=Q1 (.cells #[.string ⟨s.toArray⟩,.bool bd] T (0,0)):=by
 refine callsIn_of_wp_marks Tryz.func31 rfl trivial ?_ rfl;simp only[Tryz.ntmps31,List.size_toArray,bx,cE,Nat.reduceAdd,Nat.reduceSub,Array.replicate_succ,Array.replicate_zero,List.push_toArray,List.append_toArray,dR,List.cons_append]
 gi_upto_region 3 with(refine⟨trivial,?_⟩;refine(callsIn_wide.2 hf).mono ?_;rintro e W1 ⟨rfl,hW1,hb1⟩)
 have hlt:¬(0:Int)<n:=by omega
 gi_wp2
 refine wpIn_loop_once ?_
 gi_wp2
 exact⟨_,results_tmp rfl _ _ _,rfl,hW1,hb1⟩
variable {w:World}
theorem setCell_same{b o:Nat}{arr:Array Value}{T:TypeId}{fz:Nat×Nat}{v:Value}(h:w.heap[b]?=Q1 (.cells arr T fz))(hv:arr[o]?=Q1 v):w.setCell ⟨b,o,Q2⟩ v=w:=by
 have h2:arr.setIfInBounds o v=arr:=by
  apply Array.ext_getElem?;intro j;rw[Array.getElem?_setIfInBounds];split
  next e=>subst e;rw[hv];simp[(dq.1 hv).1]
  .rfl
 have e:(w.setCell ⟨b,o,Q2⟩ v).heap=w.heap:=by
  apply Array.ext_getElem?;intro i;by_cases hi:i=b
  .subst hi;rw[Cad.dH _ _ _ _ h,h,h2]
  .exact Cad.eW _ _ _ _ _ hi
 have e2:w.setCell ⟨b,o,Q2⟩ v={w with heap:=(w.setCell ⟨b,o,Q2⟩ v).heap}:=rfl;rw[e2,e]
theorem Tryz.tables_none(b:Nat)(T:TypeId)(s s':Cad.zD)(bad bd:Bool)(w:World)(hb:w.heap[b]?=Q1 (.cells #[.string ⟨s.toArray⟩,.bool bad] T (0,0)))
  (hf:∀W cl,Below w.heap.size w W->Calls Tryz.prog 57 #[.pointer (Q1 ⟨b,0,Q2⟩),cl] W λe W'=>e=.returned (.slice Q2 0 0)/\W.grownBy W' (Q1 b)/\W'.heap[b]?=Q1 (.cells #[.string ⟨s'.toArray⟩,.bool bd] T (0,0))):
  CallsIn Fence.wide 4 Tryz.prog 26 #[.pointer (Q1 ⟨b,0,Q2⟩)] w λe w'=>e=.returned (.slice Q2 0 0)/\w.grownBy w' (Q1 b)/\w'.heap[b]?=Q1 (.cells #[.string ⟨s'.toArray⟩,.bool bd] T (0,0)):=by
 have hlt:b<w.heap.size:=(dq.1 hb).1;refine callsIn_of_wp_marks Tryz.func26 rfl trivial ?_ rfl;simp only[Tryz.ntmps26,List.size_toArray,bx,cE,Nat.reduceAdd,Nat.reduceSub,Array.replicate_succ,Array.replicate_zero,List.push_toArray,List.append_toArray,dR,List.cons_append];have hA:Below w.heap.size w (w.alloc (.cells #[.pointer (Q1 ⟨b,0,Q2⟩)] 80)):=(Below.refl _ w).alloc (zK _) _
 gi_wp2_with (refine⟨trivial,?_⟩;refine(callsIn_wide.2 (hf _ _ hA)).mono ?_;rintro e W1 ⟨rfl,hW1,hb1⟩)
 refine⟨_,results_tmp rfl _ _ _,rfl,⟨hW1.os.trans hA.os,hW1.tape.trans hA.tape,hW1.output.trans hA.output,aB hA.size hW1.size,λk hk hn=>(hW1.block k (cM hk hA.size) hn).trans (hA.block k hk)⟩,hb1⟩
theorem parse_world(w:World)(v:Value):let W0:=((((w.alloc (.cells #[.slice Q2 0 0,.slice Q2 0 0,.slice Q2 0 0] 26)).alloc (.cells #[v,.bool Q5] 82)).alloc (.cells #[.pointer (Q1 ⟨w.heap.size+1,0,Q2⟩)] 80)).alloc (.cells #[.slice Q2 0 0,.slice Q2 0 0,.slice Q2 0 0] 26))
  Below w.heap.size w W0/\W0.heap[w.heap.size]?=Q1 (.cells #[.slice Q2 0 0,.slice Q2 0 0,.slice Q2 0 0] 26 (0,0))/\W0.heap[w.heap.size+1]?=Q1 (.cells #[v,.bool Q5] 82 (0,0))/\W0.heap[w.heap.size+1+1]?=Q1 (.cells #[.pointer (Q1 ⟨w.heap.size+1,0,Q2⟩)] 80 (0,0))/\W0.heap[w.heap.size+1+1+1]?=Q1 (.cells #[.slice Q2 0 0,.slice Q2 0 0,.slice Q2 0 0] 26 (0,0)):=by refine⟨((((Below.refl _ w).alloc (zK _) _).alloc (by simp) _).alloc (by simp;omega) _).alloc (by simp;omega) _,?_,?_,?_,?_⟩<;>show((((w.heap.push _).push _).push _).push _)[_]?=_<;>simp only[Array.getElem?_push,Array.size_push]<;>(repeat (first|rw[zf (by omega)]|rw[zh (by omega)]))<;>rw[zf trivial]
theorem parse_res{tmps:Array Value}{g:Nat}{e:Int}(hp:tmps.getD 2 undef=.pointer (Q1 ⟨g,0,Q2⟩))(he:tmps.getD 3 undef=.int .i64 e)(hg:w.heap[g]?=Q1 (.cells #[.slice Q2 0 0,.slice Q2 0 0,.slice Q2 0 0] 26 (0,0))):
  (results Tryz.f9 tmps).run Tryz.prog w=.ok (.tuple #[.agg #[.slice Q2 0 0,.slice Q2 0 0,.slice Q2 0 0],.int .i64 e]) w:=by have h:=run_loadVar_row (P:=Tryz.prog) w g 26 26 _ _ _ hg Tryz.underlying26 rfl (by kernel_rfl);rw[results_cell_tmp rfl,hp,he];simp[asAddr,h,Result.andThen]
theorem nil3_cells{g:Nat}(h:w.heap[g]?=Q1 (.cells #[.slice Q2 0 0,.slice Q2 0 0,.slice Q2 0 0] 26 (0,0))):(w.cell? ⟨g,0,Q2⟩=Q1 (.slice Q2 0 0)/\w.cell? ⟨g,1,Q2⟩=Q1 (.slice Q2 0 0)/\w.cell? ⟨g,2,Q2⟩=Q1 (.slice Q2 0 0))/\w.frozen? ⟨g,0,Q2⟩=Q5/\w.frozen? ⟨g,1,Q2⟩=Q5/\w.frozen? ⟨g,2,Q2⟩=Q5:=by unfold World.cell? World.frozen?;rw[h];exact⟨⟨rfl,rfl,rfl⟩,by simp,by simp,by simp⟩
variable {W:World}
theorem keep_o{r k:Nat}{o:Obj}(h:w.grownBy W (Q1 r))(hk:k≠r)(ho:w.heap[k]?=Q1 o):W.heap[k]?=Q1 o:=
 (h.block k (dq.1 ho).1 (λe=>by cases e;exact hk rfl)).trans ho
theorem keep3{r k0 k2 k3:Nat}{p:Value}{T2:TypeId}(n0:k0≠r)(n2:k2≠r)(n3:k3≠r)(h:w.grownBy W (Q1 r))(a0:w.heap[k0]?=Q1 (.cells #[.slice Q2 0 0,.slice Q2 0 0,.slice Q2 0 0] 26 (0,0)))(a2:w.heap[k2]?=Q1 (.cells #[p] T2 (0,0)))(a3:w.heap[k3]?=Q1 (.cells #[.slice Q2 0 0,.slice Q2 0 0,.slice Q2 0 0] 26 (0,0)))(i:Nat)(hi:i<3):
  W.heap[k0]?=Q1 (.cells #[.slice Q2 0 0,.slice Q2 0 0,.slice Q2 0 0] 26 (0,0))/\W.heap[k2]?=Q1 (.cells #[p] T2 (0,0))/\W.heap[k3]?=Q1 (.cells #[.slice Q2 0 0,.slice Q2 0 0,.slice Q2 0 0] 26 (0,0))/\W.cell? ⟨k2,0,Q2⟩=Q1 p/\W.cell? ⟨k3,i,Q2⟩=Q1 (.slice Q2 0 0)/\W.frozen? ⟨k3,i,Q2⟩=Q5:=by
 have b0:=keep_o h n0 a0;have b2:=keep_o h n2 a2;have b3:=keep_o h n3 a3;refine⟨b0,b2,b3,?_,?_,?_⟩
 .unfold World.cell?;rw[b2];rfl
 .unfold World.cell?;rw[b3]
  match i,hi with
  |0,_=>rfl
  |1,_=>rfl
  |2,_=>rfl
 .unfold World.frozen?;rw[b3];simp
theorem Tryz.parse_bad(s s1 s2 s3:Cad.zD)(b1 b2:Bool)(w:World)
  (h1:∀W b,Below w.heap.size w W->w.heap.size<=b->W.heap[b]?=Q1 (.cells #[.string ⟨s.toArray⟩,.bool Q5] 82 (0,0))->Calls Tryz.prog 26 #[.pointer (Q1 ⟨b,0,Q2⟩)] W λe W'=>e=.returned (.slice Q2 0 0)/\W.grownBy W' (Q1 b)/\W'.heap[b]?=Q1 (.cells #[.string ⟨s1.toArray⟩,.bool b1] 82 (0,0)))
  (h2:∀W b cl,Below w.heap.size w W->w.heap.size<=b->W.heap[b]?=Q1 (.cells #[.string ⟨s1.toArray⟩,.bool b1] 82 (0,0))->Calls Tryz.prog 27 #[.pointer (Q1 ⟨b,0,Q2⟩),cl] W λe W'=>e=.returned (.slice Q2 0 0)/\W.grownBy W' (Q1 b)/\W'.heap[b]?=Q1 (.cells #[.string ⟨s2.toArray⟩,.bool b2] 82 (0,0)))
  (h3:∀W b cl,Below w.heap.size w W->w.heap.size<=b->W.heap[b]?=Q1 (.cells #[.string ⟨s2.toArray⟩,.bool b2] 82 (0,0))->Calls Tryz.prog 31 #[.pointer (Q1 ⟨b,0,Q2⟩),cl] W λe W'=>e=.returned (.slice Q2 0 0)/\W.grownBy W' (Q1 b)/\W'.heap[b]?=Q1 (.cells #[.string ⟨s3.toArray⟩,.bool Q4] 82 (0,0))):
  CallsIn Fence.wide 4 Tryz.prog 9 #[.string ⟨s.toArray⟩] w λe w'=>e=.returned (.tuple #[.agg #[.slice Q2 0 0,.slice Q2 0 0,.slice Q2 0 0],.int .i64 3])/\Below w.heap.size w w':=by
 refine callsIn_of_wp_marks Tryz.func9 rfl trivial ?_ rfl;simp only[Tryz.ntmps9,List.size_toArray,bx,cE,Nat.reduceAdd,Nat.reduceSub,Array.replicate_succ,Array.replicate_zero,List.push_toArray,List.append_toArray,dR,List.cons_append]
 gi_upto_region 3 with fail
 obtain⟨hB0,a0,a1,a2,a3⟩:=parse_world w (.string ⟨s.toArray⟩);generalize((((w.alloc (.cells #[.slice Q2 0 0,.slice Q2 0 0,.slice Q2 0 0] 26)).alloc (.cells #[.string ⟨s.toArray⟩,.bool Q5] 82)).alloc (.cells #[.pointer (Q1 ⟨w.heap.size+1,0,Q2⟩)] 80)).alloc (.cells #[.slice Q2 0 0,.slice Q2 0 0,.slice Q2 0 0] 26))=W0 at hB0 a0 a1 a2 a3|-;have n2:w.heap.size+1+1≠w.heap.size+1:=by omega
 have n3:w.heap.size+1+1+1≠w.heap.size+1:=by omega
 have n0:w.heap.size≠w.heap.size+1:=by omega
 have c2:W0.cell? ⟨w.heap.size+1+1,0,Q2⟩=Q1 (.pointer (Q1 ⟨w.heap.size+1,0,Q2⟩)):=by unfold World.cell?;rw[a2];rfl
 gi_upto_region 4 with(refine⟨trivial,?_⟩;refine(callsIn_wide.2 (h1 _ _ hB0 (by omega) a1)).mono ?_;rintro e W1 ⟨rfl,hW1,r1⟩;obtain⟨z0,z2,z3,x2,x3,y3⟩:=keep3 n0 n2 n3 hW1 a0 a2 a3 0 (by decide))
 rw[setCell_same z3 rfl];have hB1:=hB0.grown hW1 (by have:=hB0.size;omega) (by rintro j ⟨⟩;omega)
 gi_upto_region 5 with(refine⟨trivial,?_⟩;refine(callsIn_wide.2 (h2 _ _ _ hB1 (by omega) r1)).mono ?_;rintro e W2 ⟨rfl,hW2,r2⟩;obtain⟨z0',z2',z3',x2',x3',y3'⟩:=keep3 n0 n2 n3 hW2 z0 z2 z3 1 (by decide))
 rw[setCell_same z3' rfl];have hB2:=hB1.grown hW2 (by have:=hB1.size;omega) (by rintro j ⟨⟩;omega)
 gi_upto_region 6 with(refine⟨trivial,?_⟩;refine(callsIn_wide.2 (h3 _ _ _ hB2 (by omega) r2)).mono ?_;rintro e W3 ⟨rfl,hW3,r3⟩;obtain⟨v0,v2,v3,x2'',x3'',y3''⟩:=keep3 n0 n2 n3 hW3 z0' z2' z3' 2 (by decide))
 rw[setCell_same v3 rfl];have hB3:=hB2.grown hW3 (by have:=hB2.size;omega) (by rintro j ⟨⟩;omega);obtain⟨⟨p0,p1,p2⟩,q0,q1,q2⟩:=nil3_cells v0;have u1:W3.cell? ⟨w.heap.size+1,1,Q2⟩=Q1 (.bool Q4):=by unfold World.cell?;rw[r3];rfl
 gi_wp2
 rw[setCell_same v0 rfl,setCell_same v0 rfl,setCell_same v0 rfl];exact⟨_,parse_res rfl rfl v0,rfl,hB3⟩
theorem Tryz.parse_good(s s1 s2 s3:Cad.zD)(b1 b2:Bool)(w:World)
  (h1:∀W b,Below w.heap.size w W->w.heap.size<=b->W.heap[b]?=Q1 (.cells #[.string ⟨s.toArray⟩,.bool Q5] 82 (0,0))->Calls Tryz.prog 26 #[.pointer (Q1 ⟨b,0,Q2⟩)] W λe W'=>e=.returned (.slice Q2 0 0)/\W.grownBy W' (Q1 b)/\W'.heap[b]?=Q1 (.cells #[.string ⟨s1.toArray⟩,.bool b1] 82 (0,0)))
  (h2:∀W b cl,Below w.heap.size w W->w.heap.size<=b->W.heap[b]?=Q1 (.cells #[.string ⟨s1.toArray⟩,.bool b1] 82 (0,0))->Calls Tryz.prog 27 #[.pointer (Q1 ⟨b,0,Q2⟩),cl] W λe W'=>e=.returned (.slice Q2 0 0)/\W.grownBy W' (Q1 b)/\W'.heap[b]?=Q1 (.cells #[.string ⟨s2.toArray⟩,.bool b2] 82 (0,0)))
  (h3:∀W b cl,Below w.heap.size w W->w.heap.size<=b->W.heap[b]?=Q1 (.cells #[.string ⟨s2.toArray⟩,.bool b2] 82 (0,0))->Calls Tryz.prog 31 #[.pointer (Q1 ⟨b,0,Q2⟩),cl] W λe W'=>e=.returned (.slice Q2 0 0)/\W.grownBy W' (Q1 b)/\W'.heap[b]?=Q1 (.cells #[.string ⟨s3.toArray⟩,.bool Q5] 82 (0,0))) (ht:∀W,Below w.heap.size w W->Calls Tryz.prog 6 #[.agg #[.slice Q2 0 0,.slice Q2 0 0,.slice Q2 0 0]] W λe W2=>e=.returned (.tuple #[.string ⟨s.toArray⟩,.int .i64 0])/\Below W.heap.size W W2):
  CallsIn Fence.wide 4 Tryz.prog 9 #[.string ⟨s.toArray⟩] w λe w'=>e=.returned (.tuple #[.agg #[.slice Q2 0 0,.slice Q2 0 0,.slice Q2 0 0],.int .i64 0])/\Below w.heap.size w w':=by
 refine callsIn_of_wp_marks Tryz.func9 rfl trivial ?_ rfl;simp only[Tryz.ntmps9,List.size_toArray,bx,cE,Nat.reduceAdd,Nat.reduceSub,Array.replicate_succ,Array.replicate_zero,List.push_toArray,List.append_toArray,dR,List.cons_append]
 gi_upto_region 3 with fail
 obtain⟨hB0,a0,a1,a2,a3⟩:=parse_world w (.string ⟨s.toArray⟩);generalize((((w.alloc (.cells #[.slice Q2 0 0,.slice Q2 0 0,.slice Q2 0 0] 26)).alloc (.cells #[.string ⟨s.toArray⟩,.bool Q5] 82)).alloc (.cells #[.pointer (Q1 ⟨w.heap.size+1,0,Q2⟩)] 80)).alloc (.cells #[.slice Q2 0 0,.slice Q2 0 0,.slice Q2 0 0] 26))=W0 at hB0 a0 a1 a2 a3|-;have n2:w.heap.size+1+1≠w.heap.size+1:=by omega
 have n3:w.heap.size+1+1+1≠w.heap.size+1:=by omega
 have n0:w.heap.size≠w.heap.size+1:=by omega
 have c2:W0.cell? ⟨w.heap.size+1+1,0,Q2⟩=Q1 (.pointer (Q1 ⟨w.heap.size+1,0,Q2⟩)):=by unfold World.cell?;rw[a2];rfl
 gi_upto_region 4 with(refine⟨trivial,?_⟩;refine(callsIn_wide.2 (h1 _ _ hB0 (by omega) a1)).mono ?_;rintro e W1 ⟨rfl,hW1,r1⟩;obtain⟨z0,z2,z3,x2,x3,y3⟩:=keep3 n0 n2 n3 hW1 a0 a2 a3 0 (by decide))
 rw[setCell_same z3 rfl];have hB1:=hB0.grown hW1 (by have:=hB0.size;omega) (by rintro j ⟨⟩;omega)
 gi_upto_region 5 with(refine⟨trivial,?_⟩;refine(callsIn_wide.2 (h2 _ _ _ hB1 (by omega) r1)).mono ?_;rintro e W2 ⟨rfl,hW2,r2⟩;obtain⟨z0',z2',z3',x2',x3',y3'⟩:=keep3 n0 n2 n3 hW2 z0 z2 z3 1 (by decide))
 rw[setCell_same z3' rfl];have hB2:=hB1.grown hW2 (by have:=hB1.size;omega) (by rintro j ⟨⟩;omega)
 gi_upto_region 6 with(refine⟨trivial,?_⟩;refine(callsIn_wide.2 (h3 _ _ _ hB2 (by omega) r2)).mono ?_;rintro e W3 ⟨rfl,hW3,r3⟩;obtain⟨v0,v2,v3,x2'',x3'',y3''⟩:=keep3 n0 n2 n3 hW3 z0' z2' z3' 2 (by decide))
 rw[setCell_same v3 rfl];have hB3:=hB2.grown hW3 (by have:=hB2.size;omega) (by rintro j ⟨⟩;omega);obtain⟨⟨p0,p1,p2⟩,q0,q1,q2⟩:=nil3_cells v0;have u1:W3.cell? ⟨w.heap.size+1,1,Q2⟩=Q1 (.bool Q5):=by unfold World.cell?;rw[r3];rfl
 obtain⟨⟨l0,l1,l2⟩,_⟩:=nil3_cells v3
 gi_upto_region 9 with(refine⟨trivial,?_⟩;refine(callsIn_wide.2 (ht _ hB3)).mono ?_;rintro e W4 ⟨rfl,hW4⟩)
 have hB4:=hB3.trans (hW4.mono hB3.size);have v0':=(hW4.block _ (dq.1 v0).1).trans v0;have v3':=(hW4.block _ (dq.1 v3).1).trans v3;obtain⟨⟨p0',p1',p2'⟩,q0',q1',q2'⟩:=nil3_cells v0';obtain⟨⟨l0',l1',l2'⟩,_⟩:=nil3_cells v3'
 gi_wp2
 rw[setCell_same v0' rfl,setCell_same v0' rfl,setCell_same v0' rfl];exact⟨_,parse_res rfl rfl v0',rfl,hB4⟩
end Go.Proofs
namespace Cad
open Go Go.Proofs Go.RowKit Tryz
open List renaming length->M
open Bool renaming false->J,true->Z
open Option renaming none->Q2,some->Y
open Cad renaming ai->I,ow->S
set_option maxHeartbeats 4000000
set_option maxRecDepth 100000
open Tr (chk br re)
open AV (nils agg tup ptr kb str sl)
abbrev noL:bu:=([],[],[])
abbrev noT:zD:=[49,58,48,49,58,48,49,58,48]
theorem Lo:(F6j [zI bL noL] (λ_=>.dead) 0).val=Y {val:=.tup [.str noT,I 0]}:=kw
abbrev YC:Value:=.agg #[.slice Q2 0 0,.slice Q2 0 0,.slice Q2 0 0]
variable {w:World}{U:Nat->Prop}
theorem zh2{a:Nat->Option Value}:Rv w U a (zI bL noL) YC:=
 .agg _ [.slice Q2 0 0,.slice Q2 0 0,.slice Q2 0 0] rfl (by simp[Value.oneCell']) λj c v h x=>by
  match j,h,x with
  |0,h,x=>cases h;cases x;exact .sl0 _ _ _
  |1,h,x=>cases h;cases x;exact .sl0 _ _ _
  |2,h,x=>cases h;cases x;exact .sl0 _ _ _
theorem zbt(m:lR MV w U)(o:∀b,U b->b<w.heap.size)(x:World)(k:Below w.heap.size w x):
  Calls prog 6 #[YC] x λe q=>e=.returned (.tuple #[.string ⟨noT.toArray⟩,.int .i64 0])/\Below x.heap.size x q:=by
 have n:cu x U (λ_=>Q2) [zI bL noL] [YC]:=⟨rfl,λj c v l i=>by
  cases j with
  |zero=>simp at l i;subst l;subst i;exact zh2
  |succ j=>simp at l⟩
 refine(zco.calls x U (λ_=>Q2) (λ_=>.dead) 0 _ [YC] _ [] Lo n (λb d=>cM (o b d) k.size) (λg=>(m g).mono k.size (λb d _=>k.block b d) (λ_ _ h=>h) (λ_ _ h=>h)) ⟨sw,sw⟩ (by have e:AV.idsL [zI bL noL]=[]:=rfl;rw[e];simp) sw sw).1.mono ?_;rintro e q ⟨v,C,D,rfl,a⟩;have i:=a.val;refine⟨?_,⟨a.ext.os,a.ext.tape,a.ext.out,a.ext.sz,λb d=>a.same b d sw⟩⟩;cases i with
 |tup _ A s p=>
 match A,s with
 |[y,z],_=>
 have t:=p 0 (.str noT) y rfl rfl;have u:=p 1 (.int .i64 0) z rfl rfl;cases t;cases u;rfl
theorem Ag(w:World)(i:Is w)(b:Nat)(a:b≠0/\b≠1/\b≠2)(s:zD)(h:Bool)(k:M s<=100)(g:(cH s h).1<=0)(j:w.heap[b]?=Y (.cells #[.string ⟨s.toArray⟩,.bool h] 82 (0,0)))(c:Value):
  (Calls prog 57 #[.pointer (Y ⟨b,0,Q2⟩),c] w λe x=>e=.returned (.slice Q2 0 0)/\w.grownBy x (Y b)/\x.heap[b]?=Y (.cells #[.string ⟨(cH s h).2.1.toArray⟩,.bool (cH s h).q] 82 (0,0)))/\
  (Calls prog 27 #[.pointer (Y ⟨b,0,Q2⟩),c] w λe x=>e=.returned (.slice Q2 0 0)/\w.grownBy x (Y b)/\x.heap[b]?=Y (.cells #[.string ⟨(cH s h).2.1.toArray⟩,.bool (cH s h).q] 82 (0,0)))/\
  (Calls prog 31 #[.pointer (Y ⟨b,0,Q2⟩),c] w λe x=>e=.returned (.slice Q2 0 0)/\w.grownBy x (Y b)/\x.heap[b]?=Y (.cells #[.string ⟨(cH s h).2.1.toArray⟩,.bool (cH s h).q] 82 (0,0))):=by have d:=Kz i a s h S j;exact⟨callsIn_wide.1 (Tryz.take57_none b 82 _ _ _ c w d g),callsIn_wide.1 (Tryz.take27_none b 82 _ _ _ c w d g),callsIn_wide.1 (Tryz.take31_none b 82 _ _ _ c w d g)⟩
theorem Tf(w:World)(g:Is w)(b:Nat)(c:b≠0/\b≠1/\b≠2)(s:zD)(x:Bool)(o:M s<=100)(n:(cH s x).1<=0)(a:w.heap[b]?=Y (.cells #[.string ⟨s.toArray⟩,.bool x] 82 (0,0))):
  Calls prog 26 #[.pointer (Y ⟨b,0,Q2⟩)] w λe d=>e=.returned (.slice Q2 0 0)/\w.grownBy d (Y b)/\d.heap[b]?=Y (.cells #[.string ⟨(cH s x).2.1.toArray⟩,.bool (cH s x).q] 82 (0,0)):=by
 have j:3<=w.heap.size:=by
  have⟨_,_,m⟩:=g.g2;exact gE m
 exact callsIn_wide.1 (Tryz.tables_none b 82 s _ x _ w a λh l i=>(Ag h (g.of λk p=>i.block k S) b c s x o n ((i.block b (dq.1 a).1).trans a) l).1)
theorem KJ(C:Is w)(s i c q:zD)(j d:Bool)(F:M s<=100)(v:M i<=100)(p:M c<=100)
  (z:cH s J=(0,i,j)) (A:cH i j=(0,c,d)):
  (cH c d=(0,q,Z)->Calls prog 9 #[.string ⟨s.toArray⟩] w λe y=>e=.returned (.tuple #[YC,.int .i64 3])/\Below w.heap.size w y)/\
  (cH c d=(0,q,J)->(∀h,Below w.heap.size w h->Calls prog 6 #[YC] h λe E=>e=.returned (.tuple #[.string ⟨s.toArray⟩,.int .i64 0])/\Below h.heap.size h E)->Calls prog 9 #[.string ⟨s.toArray⟩] w λe y=>e=.returned (.tuple #[YC,.int .i64 0])/\Below w.heap.size w y):=by
 have D:3<=w.heap.size:=by
  obtain⟨_,_,n⟩:=C.g2;exact gE n
 have x:∀h,Below w.heap.size w h->Is h:=λh a=>C.of λk H=>a.block k S
 have t:=λh b(a:Below w.heap.size w h)(u:w.heap.size<=b) g=>Tf h (x h a) b S s J F (by rw[z];exact Int.le_refl 0) g
 have n:=λh b l(a:Below w.heap.size w h)(u:w.heap.size<=b) g=>(Ag h (x h a) b S i j v (by rw[A];exact Int.le_refl 0) g l).2.1
 rw[z]at t;rw[A]at n;constructor
 .intro m;have o:=λh b l(a:Below w.heap.size w h)(u:w.heap.size<=b) g=>(Ag h (x h a) b S c d p (by rw[m];exact Int.le_refl 0) g l).2.2
  rw[m]at o;exact callsIn_wide.1 (Tryz.parse_bad s i c q j d w t n o)
 .intro m G;have o:=λh b l(a:Below w.heap.size w h)(u:w.heap.size<=b) g=>(Ag h (x h a) b S c d p (by rw[m];exact Int.le_refl 0) g l).2.2
  rw[m]at o;exact callsIn_wide.1 (Tryz.parse_good s i c q j d w t n o G)
end Cad
namespace Go.Proofs
open Cad (aB bx cE dR)
open Go.RowKit Go.Shelf Go.Lib
open Bool renaming false->Q5,true->Q4
open Option renaming none->Q2,some->Q1
attribute [local go_sem] Oper.semAt_some
theorem Tryz.awake_true(w:World)
  (ht:∀W,Below w.heap.size w W->Calls Tryz.prog 6 #[Cad.YC] W λe W2=>e=.returned (.tuple #[.string ⟨Cad.noT.toArray⟩,.int .i64 0])/\Below W.heap.size W W2)
  (h1:∀W,Below w.heap.size w W->Calls Tryz.prog 9 #[.string ⟨#[49,58,48]⟩] W λe w'=>e=.returned (.tuple #[Cad.YC,.int .i64 3])/\Below W.heap.size W w')
  (h2:∀W,Below w.heap.size w W->Calls Tryz.prog 9 #[.string ⟨Cad.noT.toArray⟩] W λe w'=>e=.returned (.tuple #[Cad.YC,.int .i64 0])/\Below W.heap.size W w'):
  CallsIn Fence.wide 4 Tryz.prog 8 #[] w λe w'=>e=.returned (.bool Q4)/\Below w.heap.size w w':=by
 refine callsIn_of_wp_marks Tryz.func8 rfl trivial ?_ rfl;simp only[Tryz.ntmps8,List.size_toArray,cE,Nat.reduceSub,Array.replicate_succ,Array.replicate_zero,List.push_toArray,List.append_toArray,dR,List.cons_append];have hB0:Below w.heap.size w w:=Below.refl _ w
 gi_upto_region 2 with(refine⟨trivial,?_⟩;refine(callsIn_wide.2 (ht _ hB0)).mono ?_;rintro e W1 ⟨rfl,hW1⟩)
 gi_upto_region 3 with(refine⟨trivial,?_⟩;refine(callsIn_wide.2 (h1 _ hW1)).mono ?_;rintro e W2 ⟨rfl,hW2⟩)
 have hB2:Below w.heap.size w (W2.alloc (.cells #[.slice Q2 0 0,.slice Q2 0 0,.slice Q2 0 0] 26)):=(hW1.trans (hW2.mono hW1.size)).alloc (aB hW1.size hW2.size) _
 gi_upto_region 4 with(refine⟨trivial,?_⟩;refine(callsIn_wide.2 (h2 _ hB2)).mono ?_;rintro e W3 ⟨rfl,hW3⟩)
 have hB3:Below w.heap.size w (W3.alloc (.cells #[.slice Q2 0 0,.slice Q2 0 0,.slice Q2 0 0] 26)):=(hB2.trans (hW3.mono hB2.size)).alloc (aB hB2.size hW3.size) _
 gi_wp2
 exact⟨_,results_tmp rfl _ _ _,rfl,hB3⟩
end Go.Proofs
namespace Cad
open Go Go.Proofs Go.RowKit Tryz
open List renaming length->Io
open Bool renaming false->J,true->Z
open Option renaming none->Q2,some->Q1
open Cad renaming ow->S,Tr->K
noncomputable section
theorem zpa:cH [49,58,48] J=(0,[],J):=kw
theorem zt5:cH [] J=(0,[],Z):=kw
theorem zt6:cH [] Z=(0,[],Z):=kw
theorem zt7:cH noT J=(0,[49,58,48,49,58,48],J):=kw
theorem zt8:cH [49,58,48,49,58,48] J=(0,[49,58,48],J):=kw
def F8j:zV:=ae [] [.bool] (λ_=>Z) λ_=>(Z,())
theorem zma:FK 8 F8j:=by
 refine cY (E:=q9) ⟨f8,kw,kw,kw⟩ λx y u d=>?_
 unfold dJ at d;split at d;rotate_left
 .simp at d
 simp only[Tr.val,zj,ax]at d;subst d;intro C w U D v _ t q c j g;obtain rfl:v=[]:=List.length_eq_zero_iff.1 (by rw[<-t.len];rfl);have⟨l,_⟩:=zgV g.gl;have m:3<=w.heap.size:=by
  have⟨_,_,p⟩:=l.g2;exact gE p
 have b:∀h,Below w.heap.size w h->Is h:=λh a=>l.of λk z=>a.block k S
 have n:=zbt g.gl g.ub;refine(callsIn_wide.1 (Tryz.awake_true w n (λh a=>(KJ (b h a) [49,58,48] [] [] [] J Z (by decide) (by decide) (by decide) zpa zt5).1 zt6) λh a=>(KJ (b h a) noT _ _ [] J J (by decide) (by decide) (by decide) zt7 zt8).2 zpa λo i=>n o (a.trans (i.mono a.size)))).mono ?_;rintro e A ⟨rfl,s⟩;exact cI (r:=.bool Z) q c j g s (.bool _)
def zm9:=zdl.add 8 F8j
theorem R2:zm zm9:=R1.add zma
open Go Go.Proofs
set_option maxHeartbeats 4000000
open Tr (chk br re)
open AV (nils agg tup ptr kb str sl)
def i3j(x h:bu):K (Empty⊕ac):=
 let a:=(lZ (iv x)).2!=0
 let b:=(lZ (iv h)).2!=0
 let c:=((lZ (iv x)).1==(lZ (iv h)).1)==Ht (iv x) (iv h)
 chk (qk x)
 (chk (qk h)
  (chk (uk (iv x)) (chk (uk (iv h)) (chk (cond a Z (cond b Z (KT (iv x) (iv h)&&bif c then Z else Z))) (re (AV.bool (cond a Z (cond b Z (cond c Z J)))) [])))))
def GQ(x h:bu):=aA [Sh.bool] t0 100000000 (i3j x h)
def F3j:=FT [bL,bL] [Sh.bool] λx=>GQ x.1 x.2.1
theorem zls:FK 3 F3j:=R2.T1 (f:=f3) (keep:=k0) (e:=e0)
end
end Cad
