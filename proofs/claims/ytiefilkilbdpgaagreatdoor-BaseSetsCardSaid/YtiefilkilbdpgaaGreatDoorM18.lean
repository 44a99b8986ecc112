/- Bases: a table as it would be. Bases: insert. schema.copied is its argument, of what is not too deep (its other name). A call that only reads a variable to which a pointer leads: the variable is lent. The table of a statement: places. The table of a statement. Bases: create. Numbers in a list. Is a number in a list? Bases: the columns that an UPDATE sets. Bases: update. Bases: a statement is done. The chapter's examples. The law BaseSelects. The law BaseSelects holds. Rows: insertion sort, ranges and blocks that change places: they end, and what lies then are the same rows. Rows: merged: it ends, and what lies then are the same rows. Rows: merged, sorted: it ends, and what lies then are the same rows. Rows, sorted: what lies then are the same rows, in the same order if they rose. Few tables: their checks are not deep. Rows that are put in, in one order or another: the law. Bases: what an INSERT answers. An UPDATE that sets a column to itself: it may be where the SELECT of the same may be. A row by its key: what a condition on the key meets. -/
import Derived.Test.YtiefilkilbdpgaaGreatDoorM17
import Derived.Test.YtiefilkilbdpgaaGreatDoorM11
import Derived.Test.YtiefilkilbdpgaaGreatDoorM16
import Derived.Test.YtiefilkilbdpgaaGreatDoorM14
import Derived.Test.YtiefilkilbdpgaaGreatDoorM12
namespace Cad
open Go Go.Proofs
open Int (toNat)
open List (getD)
open List (length)
set_option maxHeartbeats 4000000

noncomputable def XW (x0:Sem ah) (x1:Sem zh) (x2:Sem zg):Tr (Empty ⊕ zV):=
 let a0:=((x1.1.1,x1.1.2.1,x1.1.2.2.1,x1.1.2.2.2.1,x1.1.2.2.2.2.1,zB x1.1.2.2.2.2.2),x1.2)
 let a1:=OF a0
 let a2:=((a1.1.1,a1.1.2.1,a1.1.2.2.1,a1.1.2.2.2.1,a1.1.2.2.2.2.1,zB a1.1.2.2.2.2.2),a1.2)
 let a3:=rp a2
 let a4:=bY a3
 let a5:=yB x0.1 a2
 let a6:=yA a5 x2
 Tr.chk (GZ a0)
 (Tr.chk (m8 a2)
  (Tr.br (a3 != 0) (Tr.chk (n8 a3) (Tr.re (AV.tup [AV.sl zh a4.1,AV.agg [AV.int .i64 a4.2.1,AV.int .i64 a4.2.2.1,AV.sl zf.sl a4.2.2.2]]) [])) (Tr.chk (qv x0.1 a2) (Tr.chk (qu a5 x2) (Tr.re (AV.tup [AV.sl zh a6.1,AV.agg [AV.int .i64 a6.2.1,AV.int .i64 a6.2.2.1,AV.sl zf.sl a6.2.2.2]]) [])))))
noncomputable def gG (x0:Sem ah) (x1:Sem zh) (x2:Sem zg):=zT [zh.sl,eE] t0 100000000 (XW x0 x1 x2)
noncomputable def uw (x0:Sem ah) (x1:Sem zh) (x2:Sem zg):=(gG x0 x1 x2).isSome
noncomputable def Bi (x0:Sem ah) (x1:Sem zh) (x2:Sem zg):=o2 (gG x0 x1 x2)
noncomputable def zaH:=FT [ah,zh,zg] [zh.sl,eE] fun x=>gG x.1 x.2.1 x.2.2.1
theorem V9:FK 45 zaH:=vg.T1 (f:=Tryz.f45) (keep:=k0) (e:=e0)

noncomputable def L6:=L5.add 45 zaH
theorem vj:zm L6:=vg.add V9

noncomputable def ziF (x0:Sem ah):Tr (Empty ⊕ zV):=
 let a0:=aF x0.1 x0.2.2.1
 let a1:=getD x0.1 (toNat a0) (zj zh)
 let a2:=[x0.2.2.2.2.2.2.2.2.2.2.1]
 let a3:=(x0.1,x0.2.1,x0.2.2.1,x0.2.2.2.1,x0.2.2.2.2.1,x0.2.2.2.2.2.1,x0.2.2.2.2.2.2.1,x0.2.2.2.2.2.2.2.1,x0.2.2.2.2.2.2.2.2.1,zB x0.2.2.2.2.2.2.2.2.2.1,x0.2.2.2.2.2.2.2.2.2.2.1,x0.2.2.2.2.2.2.2.2.2.2.2.1,zB x0.2.2.2.2.2.2.2.2.2.2.2.2.1,x0.2.2.2.2.2.2.2.2.2.2.2.2.2)
 let a4:=((a1.1.1,a1.1.2.1,a1.1.2.2.1,a1.1.2.2.2.1,a1.1.2.2.2.2.1,zB a1.1.2.2.2.2.2),a1.2++a2)
 let a5:=Bi a3 a4 1
 Tr.br (decide (a0 < 0))
 (Tr.chk true
  (Tr.re (AV.tup [AV.sl zh (bY 6).1,AV.agg [AV.int .i64 (bY 6).2.1,AV.int .i64 (bY 6).2.2.1,AV.sl zf.sl (bY 6).2.2.2]]) []))
 (Tr.chk (zE a0 (length x0.1))
  (Tr.chk (decide (length a1.2≤1073741824)) (Tr.chk (decide (length x0.2.2.2.2.2.2.2.2.2.2.1≤1073741824)) (Tr.chk (decide (length a1.2+a2.length≤1073741824)) (Tr.chk (uw a3 a4 1) (Tr.re (AV.tup [AV.sl zh a5.1,AV.agg [AV.int .i64 a5.2.1,AV.int .i64 a5.2.2.1,AV.sl zf.sl a5.2.2.2]]) []))))))
noncomputable def uA (x0:Sem ah):=zT [zh.sl,eE] t0 100000000 (ziF x0)
noncomputable def Lo (x0:Sem ah):=(uA x0).isSome
noncomputable def QV (x0:Sem ah):=o2 (uA x0)
noncomputable def zal:=FT [ah] [zh.sl,eE] fun x=>uA x.1
theorem VJ:FK 19 zal:=vj.T1 (f:=Tryz.f19) (keep:=k0) (e:=e0)

noncomputable def L7:=L6.add 19 zal
theorem FQ:zm L7:=vj.add VJ

def C2 (c:ze→Bool):zD:=zC [.expr] [.expr] (fun x=>c x.1) fun x=>(x.1,())
noncomputable def yC (c:ze→Bool):bf:=Q3.add 72 (C2 c)
theorem qA {c:ze→Bool} (hg:FK 72 (C2 c)):zm (yC c):=uZ.add hg
abbrev Uq:Nat→zX:=fun j=>if j=3 then { slots:=[1,2,10,11] } else { }
abbrev Cv (i10:Int) (i11:Int) (ja0:zn) (ja1:Int) (ja2:Int) (ja3:zn) (ja4:zn) (lh_2:List (Sem Sh.expr)):St:={
 tmps:=
  (tm 26 [(1,AV.ptr 0 0),(2,AV.ptr 1 0),(10,AV.int .i64 i10),(11,AV.int .i64 i11)]),
 heap:=
  [AO.box [AV.str ja0,AV.int .i64 ja1,AV.int .i64 ja2,AV.str ja3,AV.str ja4,AV.vec 2],
   AO.box [AV.str [],AV.int .i64 0,AV.int .i64 0,AV.str [],AV.str [],AV.nils],AO.vec Sh.expr lh_2] }
theorem wb (c:ze→Bool):zA (yC c).P 72 Tryz.f72 1:=aJ (by kernel_rfl)
theorem zdD (c:ze→Bool) (op:zn) (v:V) (s:zn) (l:List ze):rn (yC c) 0 Uq Tryz.f72 [zz Sh.expr (ze.mk op v s l)] []=
 Tr.chk (decide (l.length≤1073741824)) (Tr.ok (zr.head 3 (zx Tryz.f72 3) (Cv (↑l.length:Int) 0 op v.1 v.2.1 v.2.2 s l))):=by kernel_rfl
theorem Ir (c:ze→Bool) (i10:Int) (i11:Int) (ja0:zn) (ja1:Int) (ja2:Int) (ja3:zn) (ja4:zn) (lh_2:List (Sem Sh.expr)):rh (yC c) 0 Uq Tryz.f72 3 (Cv i10 i11 ja0 ja1 ja2 ja3 ja4 lh_2)=
 Tr.br (decide (i11 < i10))
 (Tr.chk (zE i11 lh_2.length)
  (Tr.chk (decide (i11.toNat < lh_2.length))
   (Tr.chk (c (zB (lh_2.getD i11.toNat (zj Sh.expr))))
    (Tr.chk (zE i11 lh_2.length)
     (Tr.chk (decide (i11.toNat < lh_2.length))
      (Tr.ok
       (zr.head 3 (zx Tryz.f72 3)
        (Cv i10 (IntKind.i64.wrap (i11+1)) ja0 ja1 ja2 ja3 ja4
         (lh_2.set i11.toNat
          (zB (lh_2.getD i11.toNat (zj Sh.expr))))))))))))
 (Tr.ok
  (zr.ret (AV.agg [AV.str ja0,AV.int .i64 ja1,AV.int .i64 ja2,AV.str ja3,AV.str ja4,AV.vec 0]) [AO.vec Sh.expr lh_2])):=by kernel_rfl

theorem zcY {c:ze→Bool} (hg:FK 72 (C2 c)) {C:cq} (hC:∀ id,C.ρ0 id=none) (op:zn) (v:V) (s:zn) (l:List ze) (hl:l.length≤1073741824) (hcl:l.all c=true):
  ∀ (k i:Nat),l.length - i=k→i≤l.length→Reach (yC c) C 72 (zx Tryz.f72 3) (Cv l.length i op v.1 v.2.1 v.2.2 s l) (fun r h=>ae h [.expr] r=some (ze.mk op v s l,())):=by
 intro k
 induction k with
 | zero=>
  intro i hk hi
  obtain rfl:i=l.length:=by omega
  refine zk (n0:=0) (qA hg) (wb c) (fun id _=>hC id) (Ir c _ _ _ _ _ _ _ _) ?_
  simp only [z8,Tr.val_brF]
  rfl
 | succ k IH=>
  intro i hk hi
  have hlt:i < l.length:=by omega
  refine zk (n0:=0) (qA hg) (wb c) (fun id _=>hC id) (Ir c _ _ _ _ _ _ _ _) ?_
  have h1:c l[i]=true:=cR.1 hcl _ (cx hlt)
  have h2:decide ((i:Int).toNat < l.length)=true:=by simpa using hlt
  have h3:l.set (i:Int).toNat l[i]=l:=by simp
  simp only [zW hlt,zG hlt,zY l _ hlt,ze.eta,Tr.val_brT,Tr.val_chkT,h1,h2,h3,zH i (by unfold zF; omega)]
  exact IH (i+1) (by omega) (by omega)

theorem AW:∀ n,FK 72 (C2 (lR n))
 | 0=>cP ⟨Tryz.f72,(wb (fun _=>false)).1,(wb (fun _=>false)).2.1,(wb (fun _=>false)).2.2.1⟩ (fun _=>rfl)
 | n+1=>by
  refine zN (E:=yC (lR n)) (wb _) fun x hc C hC=>?_
  obtain ⟨⟨op,v,s,l⟩,u⟩:=x
  have hc:(decide (l.length≤1073741824)&&l.all (lR n))=true:=hc
  simp only [aE,zZ] at hc
  refine zk (n0:=0) (qA (AW n)) (wb _) (fun id _=>hC id) (zdD _ op v s l) ?_
  refine cO (by simpa using hc.1) ?_
  exact zcY (AW n) hC op v s l hc.1 hc.2 _ 0 rfl (aD _)
def zay:zD:=C2 (lR 16)
theorem VZ:FK 72 zay:=AW 16
open Go

def CC:AO→Bool
 | .box cs=>cs.all kZ
 | _=>false

def Nu (pos:Nat) (s:Sh) (F:zD):zD:=fun args hp n=>match args[pos]? with
 | some (.ptr t 0)=>match hp t with
  | .box cs=>match bW hp s cs with
   | some (x,[])=>
    let az:=args.set pos (.eptr (zl s x) 0)
    let z:=t::cs.flatMap bj
    if (AV.idsL az).all (fun i=>(AV.idsL args).contains i&&(hp i).ids.isEmpty && !z.contains i)&&(cs.flatMap bj).all (fun i=>(hp t).ids.contains i) then
     (F az hp n).bind fun f=>if ni f.val&&f.nw.isEmpty&&f.wr.all (fun p=>CC p.2) then .ok { f with val:=f.val.ren fun i=>i } else .err
    else .err
   | _=>.err
  | _=>.err
 | _=>.err

theorem K5 {P:Program} {gl:Nat→AV} {k:FuncId} {pos:Nat} {s:Sh} {F:zD} (h:lF P gl k F):lF P gl k (Nu pos s F):=by
  refine ⟨h.fn,?_⟩
  intro w U ρ hp n args vals f fp hv hr hub hgl hfp hin hcl hn
  unfold Nu at hv
  split at hv
  rotate_left
  · simp at hv
  rename_i t hpos
  split at hv
  rotate_left
  · simp at hv
  rename_i cs hbox
  split at hv
  rotate_left
  · simp at hv
  rename_i x himp
  dsimp only at hv
  split at hv
  rotate_left
  · simp at hv
  rename_i hcond
  simp only [aE,cR,List.contains_eq_mem,zZ,Bool.not_eq_true',decide_eq_false_iff_not,List.isEmpty_iff] at hcond
  obtain ⟨hids,hvec⟩:=hcond
  rw [Tr.val_bind,eO] at hv
  obtain ⟨f0,hf0,hv⟩:=hv
  split at hv
  rotate_left
  · simp at hv
  rename_i hsc
  simp only [aE,List.isEmpty_iff,cR] at hsc
  obtain ⟨⟨hs1,hs2⟩,hs3⟩:=hsc
  simp only [Tr.val_ok,ag] at hv
  subst hv
  have hposl:pos < args.length:=(bG.1 hpos).1
  have htfp:t∈fp:=hin t (eY (ig hpos) (by simp [AV.ids]))
  have hvfp:∀ i∈cs.flatMap bj,i∈fp:=fun i hi=>hcl t htfp i (hvec i hi)
  have hzfp:∀ i∈t::cs.flatMap bj,i∈fp:=by
    intro i hi
    rcases dW.1 hi with rfl | hi
    · exact htfp
    · exact hvfp i hi
  generalize hz:t::cs.flatMap bj=z at hids hzfp
  generalize hU1:(fun b=>U b∧¬ ∃ j∈z,zM ρ j (hp j) b)=U1
  have hsub:∀ b,U1 b→U b:=by intro b hb; rw [← hU1] at hb; exact hb.1
  have hzU:∀ j∈z,∀ b,zM ρ j (hp j) b→¬ U1 b:=fun j hj b ho hb=>by rw [← hU1] at hb; exact hb.2 ⟨j,hj,ho⟩
  have hto:=hfp.ob t htfp
  rw [hbox] at hto
  obtain ⟨b,T,cells,e1,e2,e3,e4,e5⟩:=hto
  have htz:t∈z:=by rw [← hz]; exact uc
  have hbU:¬ U1 b:=hzU t htz b ⟨by rw [hbox]; rfl,_,e1,rfl⟩
  obtain ⟨i1,_,i3⟩:=gr (w:=w) (U:=U) (U':=U1) (ρ:=ρ) (hp:=hp) hsub s cs x [] (fun j=>(cells.toList[j]?).getD undef) himp
    (fun j c hj=>by
      have hlt:j < cells.toList.length:=by rw [← e4.len]; exact (bG.1 hj).1
      exact e4.rv j c _ hj (by simp [zI hlt]))
    (fun id hid=>⟨hfp.ob id (hvfp id hid),fun b hb=>hzU id (by rw [← hz]; exact lO _ hid) b hb⟩)
  have hlen:(zl s x).length=cells.toList.length:=by rw [zL,← e4.len]; simpa using i1.symm
  have heptr:Rv w U1 ρ (.eptr (zl s x) 0) (.pointer (some ⟨b,0,none⟩)):=by
    refine .eptr (zl s x) 0 b 0 (fun j=>(cells.toList[j]?).getD undef) (hub b e2) hbU (fun j hj=>?_) (fun j hj=>?_) i3
    · rw [hlen] at hj
      unfold World.cell?
      simp only [iU,e3]
      rw [zI hj]
      simp [im (show j < cells.size by simpa using hj)]
    · rw [hlen] at hj
      rw [zI hj]
      exact e5 _ (cx hj)
  have hptr:∀ v,vals[pos]?=some v→v=.pointer (some ⟨b,0,none⟩):=by
    intro v hv'
    have:=hr.rv pos _ v hpos hv'
    cases this with
    | ptr _ _ b' h'=>
      rw [e1] at h'
      cases h'
      rfl
  have hr1:cr w U1 ρ (args.set pos (.eptr (zl s x) 0)) vals:=by
    refine ⟨by simp [hr.len],fun j c v hc hv'=>?_⟩
    rw [jq] at hc
    by_cases hj:pos=j
    · subst hj
      rw [if_pos rfl,if_pos hposl] at hc
      cases hc
      rw [hptr v hv']
      exact heptr
    · rw [if_neg hj] at hc
      exact (hr.rv j c v hc hv').weak hsub
  have hown1:∀ i∈AV.idsL (args.set pos (.eptr (zl s x) 0)),∀ b,zM ρ i (hp i) b→U1 b:=by
    intro i hi b' ho
    obtain ⟨⟨hi1,_⟩,hi3⟩:=hids i hi
    have hifp:=hin i hi1
    rw [← hU1]
    refine ⟨((hfp.ob i hifp).inU ho).1,fun ⟨j,hj,ho'⟩=>?_⟩
    have:=hfp.inj i hifp j (hzfp j hj) b' ho ho'
    exact hi3 (this▸hj)
  obtain ⟨hc,hwr⟩:=h.calls w U1 ρ hp n _ vals f0 (AV.idsL (args.set pos (.eptr (zl s x) 0))) hf0 hr1 (fun b hb=>hub b (hsub b hb)) (fun g=>(hgl g).weak hsub)
    ⟨fun id hid=>(hfp.ob id (hin id (hids id hid).1.1)).mono (aM _) (fun _ _ _=>rfl) (fun b _ hb=>hsub b hb) (fun _ _ h=>h) (fun b ho=>⟨rfl,hown1 id hid b ho⟩),
     fun id1 h1 id2 h2 b o1 o2=>hfp.inj id1 (hin id1 (hids id1 h1).1.1) id2 (hin id2 (hids id2 h2).1.1) b o1 o2⟩ (fun _ h=>h)
    (fun id hid j hj=>by rw [(hids id hid).1.2] at hj; simp at hj) (fun j hj=>by rw [hs2] at hj; simp at hj)
  refine ⟨hc.mono ?_,fun id o hio=>hin id (hids id (hwr id o hio)).1.1⟩
  rintro e w' ⟨v,U1',ρ',rfl,hE⟩
  refine ⟨v,fun b=>U1' b∨(b < w.heap.size∧U b∧∃ j∈z,zM ρ j (hp j) b),ρ',rfl,⟨hE.ext,xh hs1 hE.val,fun id o hio=>?_,?_,hE.rho,hE.rhon,hE.same,?_,?_,?_,hE.own,hE.inj⟩⟩
  · have ho:=hE.wr id o hio
    have hsco:=hs3 _ hio
    cases o with
    | box cs'=>
      obtain ⟨b',T',vals',q1,q2,q3,q4,q5⟩:=ho
      refine ⟨b',T',vals',q1,.inl q2,q3,⟨q4.len,fun j c v' hc' hv''=>?_⟩,q5⟩
      have hcs:kZ c=true:=by
        simp only [CC,cR] at hsco
        exact hsco c (ig hc')
      have h0:=q4.rv j c v' hc' hv''
      cases h0 <;> simp [kZ] at hcs
      · exact .kb _
      · exact .bool _
      · exact .int _ _ ‹_›
      · exact .str _ ‹_›
      · exact .ifcN
      · exact .ifcS _ _
    | _=>simp [CC] at hsco
  · intro j o hj
    rw [hs2] at hj
    simp at hj
  · rintro b' (hb' | hb')
    · exact hE.ub b' hb'
    · exact ln hb'.1 hE.ext.sz
  · rintro b' hlt (hb' | hb')
    · exact hsub b' (hE.u1 b' hlt hb')
    · exact hb'.2.1
  · intro b' hlt hb' hno
    by_cases hl:∃ j∈z,zM ρ j (hp j) b'
    · exact .inr ⟨hlt,hb',hl⟩
    · exact .inl (hE.u2 b' hlt (by rw [← hU1]; exact ⟨hb',hl⟩) hno)

noncomputable def BA:=L7.add 72 zay
theorem r5:zm BA:=FQ.add VZ
noncomputable def za1:zD:=zR (List.replicate 3 none) (bS BA Tryz.f74 (List.replicate 3 none))
theorem Wx:FK 74 za1:=aj _ r5 (aJ (by kernel_rfl))
noncomputable def za0:zD:=Nu 1 zt za1
theorem Ww:FK 74 za0:=K5 Wx

noncomputable def L8:=BA.add 74 za0
theorem vl:zm L8:=r5.add Ww
noncomputable section

abbrev zeM:Nat→zX:=fun j=>if j=5 then { slots:=[1,2,4,32,33,34] } else if j=14 then { slots:=[1,2,4,7,8,54,55,56],prom:=[(4,some 3,.int .i64)] } else if j=19 then { slots:=[2,4,7,8,70,71,72],prom:=[(4,some 4,zp)] } else { }
inductive qk where
 | h5 (i33:Int) (i34:Int) (z0:zu [CP.d zy]) (jb0:List UInt8) (jb2:Int) (jb5:List UInt8) (jb6:Int) (jb7:Int) (jb8:List UInt8) (jb9:List UInt8) (jc0:Sem Sh.str) (jc2:Int) (jc5:zn) (jc6:Int) (jc7:Int) (jc8:zn) (jc9:zn) (jc10:List (Sem Sh.expr)) (lh_3:List (Sem zi))
 | h14 (l54:List (Sem Sh.str)) (i55:Int) (i56:Int) (z0:zu [CP.d zy]) (jb0:List UInt8) (jb2:Int) (jb5:List UInt8) (jb6:Int) (jb7:Int) (jb8:List UInt8) (jb9:List UInt8) (jc0:Sem Sh.str) (jc2:Sem zg) (jc5:zn) (jc6:Int) (jc7:Int) (jc8:zn) (jc9:zn) (jc10:List (Sem Sh.expr)) (jd0:Int) (lh_4:List (Sem zi)) (lh_5:List (Sem zg))
 | h19 (l70:List (Sem (Sh.str.pr Sh.str))) (i71:Int) (i72:Int) (ja0:List UInt8) (ja2:Int) (ja5:List UInt8) (ja6:Int) (ja7:Int) (ja8:List UInt8) (ja9:List UInt8) (jb0:Sem Sh.str) (jb2:Sem zg) (jb5:zn) (jb6:Int) (jb7:Int) (jb8:zn) (jb9:zn) (jb10:List (Sem Sh.expr)) (jc0:Int) (lh_3:List (Sem zi)) (lh_4:List (Sem zg)) (lh_5:List (Sem zp))
abbrev zhi:qk→Nat×St
 | .h5 i33 i34 z0 jb0 jb2 jb5 jb6 jb7 jb8 jb9 jc0 jc2 jc5 jc6 jc7 jc8 jc9 jc10 lh_3=>(5,⟨tm 107 [(1,AV.ptr 0 0),(2,AV.ptr 1 0),(4,AV.ptr 2 0),(32,AV.vec 3),(33,AV.int .i64 i33),(34,AV.int .i64 i34)],[AO.box (bb [] [CP.d zy] z0),AO.box [AV.str jb0,AV.nils,AV.int .i64 jb2,AV.nils,AV.nils,AV.str jb5,AV.int .i64 jb6,AV.int .i64 jb7,AV.str jb8,AV.str jb9,AV.nils],AO.box [AV.str jc0,AV.vec 3,AV.int .i64 jc2,AV.nils,AV.nils,AV.str jc5,AV.int .i64 jc6,AV.int .i64 jc7,AV.str jc8,AV.str jc9,AV.sl Sh.expr jc10],AO.vec zi lh_3]⟩)
 | .h14 l54 i55 i56 z0 jb0 jb2 jb5 jb6 jb7 jb8 jb9 jc0 jc2 jc5 jc6 jc7 jc8 jc9 jc10 jd0 lh_4 lh_5=>(14,⟨tm 107 [(1,AV.ptr 0 0),(2,AV.ptr 1 0),(4,AV.ptr 2 0),(7,AV.ptr 3 0),(8,AV.clo (Fn.func 74) [] [AV.ptr 2 0,AV.ptr 3 0]),(54,AV.sl Sh.str l54),(55,AV.int .i64 i55),(56,AV.int .i64 i56)],[AO.box (bb [] [CP.d zy] z0),AO.box [AV.str jb0,AV.nils,AV.int .i64 jb2,AV.nils,AV.nils,AV.str jb5,AV.int .i64 jb6,AV.int .i64 jb7,AV.str jb8,AV.str jb9,AV.nils],AO.box [AV.str jc0,AV.vec 4,AV.int .i64 jc2,AV.vec 5,AV.nils,AV.str jc5,AV.int .i64 jc6,AV.int .i64 jc7,AV.str jc8,AV.str jc9,AV.sl Sh.expr jc10],AO.box [AV.int .i64 jd0],AO.vec zi lh_4,AO.vec zg lh_5]⟩)
 | .h19 l70 i71 i72 ja0 ja2 ja5 ja6 ja7 ja8 ja9 jb0 jb2 jb5 jb6 jb7 jb8 jb9 jb10 jc0 lh_3 lh_4 lh_5=>(19,⟨tm 107 [(2,AV.ptr 0 0),(4,AV.ptr 1 0),(7,AV.ptr 2 0),(8,AV.clo (Fn.func 74) [] [AV.ptr 1 0,AV.ptr 2 0]),(70,AV.sl (Sh.str.pr Sh.str) l70),(71,AV.int .i64 i71),(72,AV.int .i64 i72)],[AO.box [AV.str ja0,AV.nils,AV.int .i64 ja2,AV.nils,AV.nils,AV.str ja5,AV.int .i64 ja6,AV.int .i64 ja7,AV.str ja8,AV.str ja9,AV.nils],AO.box [AV.str jb0,AV.vec 3,AV.int .i64 jb2,AV.vec 4,AV.vec 5,AV.str jb5,AV.int .i64 jb6,AV.int .i64 jb7,AV.str jb8,AV.str jb9,AV.sl Sh.expr jb10],AO.box [AV.int .i64 jc0],AO.vec zi lh_3,AO.vec zg lh_4,AO.vec zp lh_5]⟩)
def ziJ (x0:Sem zy):Tr (qk ⊕ zV):=
 let a0 := !x0.1==[99,114,101,97,116,101]
 let a1:=zB x0.2.2.2.2.2.2.2.2.1
 let a2:=(x0.1,x0.2.1,x0.2.2.1,x0.2.2.2.1,x0.2.2.2.2.1,x0.2.2.2.2.2.1,x0.2.2.2.2.2.2.1,x0.2.2.2.2.2.2.2.1,a1,x0.2.2.2.2.2.2.2.2.2.1,x0.2.2.2.2.2.2.2.2.2.2.1,zB x0.2.2.2.2.2.2.2.2.2.2.2.1,x0.2.2.2.2.2.2.2.2.2.2.2.2)
 Tr.chk (bif a0 then true else oH a2)
 (Tr.br (bif a0 then true else !fx a2)
  (Tr.re (AV.tup [AV.agg [AV.str [],AV.nils,AV.int .i64 0,AV.nils,AV.nils,AV.str [],AV.int .i64 0,AV.int .i64 0,AV.str [],AV.str [],AV.nils],AV.int .i64 1]) [])
  (Tr.chk (decide (length x0.2.2.2.2.1≤1073741824)) (Tr.chk (lR 16 a1) (Tr.to (qk.h5 (↑(length x0.2.2.2.2.1):Int) 0 (x0,()) [] 0 [] 0 0 [] [] x0.2.1 0 (ze.op x0.2.2.2.2.2.2.2.2.1) (ze.v x0.2.2.2.2.2.2.2.2.1).1 (ze.v x0.2.2.2.2.2.2.2.2.1).2.1 (ze.v x0.2.2.2.2.2.2.2.2.1).2.2 (ze.s x0.2.2.2.2.2.2.2.2.1) (ze.l x0.2.2.2.2.2.2.2.2.1) x0.2.2.2.2.1)))))
def zjs:qk→Tr (qk ⊕ zV)
 | .h5 i33 i34 z0 jb0 jb2 jb5 jb6 jb7 jb8 jb9 jc0 jc2 jc5 jc6 jc7 jc8 jc9 jc10 lh_3=>
  let a0:=(jc0,lh_3,jc2,[],[],ze.mk jc5 (jc6,jc7,jc8) jc9 jc10)
  let a1:=lh_3.getD i34.toNat (zj zi)
  let a2:=ib a0 z0.1.2.2.2.2.2.1
  let a3:=(↑(length z0.1.2.2.2.2.2.2.1):Int)
  Tr.br (decide (i34 < i33))
  (Tr.chk (zE i34 lh_3.length) (Tr.chk (decide (i34.toNat < lh_3.length)) (Tr.br (ib a0 a1.1 != i34) (Tr.re (AV.tup [AV.agg [AV.str [],AV.nils,AV.int .i64 0,AV.nils,AV.nils,AV.str [],AV.int .i64 0,AV.int .i64 0,AV.str [],AV.str [],AV.nils],AV.int .i64 7]) []) (Tr.to
  (qk.h5 i33 (IntKind.i64.wrap (i34+1)) z0 jb0 jb2 jb5 jb6 jb7 jb8 jb9 jc0 jc2 jc5 jc6 jc7 jc8 jc9 jc10 lh_3)))))
  (Tr.br (decide (a2 < 0)) (Tr.to (qk.h14 z0.1.2.2.2.2.2.2.1 a3 0 z0 jb0 jb2 jb5 jb6 jb7 jb8 jb9 jc0 a2 jc5 jc6 jc7 jc8 jc9 jc10 4 lh_3 [])) (Tr.to (qk.h14 z0.1.2.2.2.2.2.2.1 a3 0 z0 jb0 jb2 jb5 jb6 jb7 jb8 jb9 jc0 a2 jc5 jc6 jc7 jc8 jc9 jc10 0 lh_3 [])))
 | .h14 l54 i55 i56 z0 jb0 jb2 jb5 jb6 jb7 jb8 jb9 jc0 jc2 jc5 jc6 jc7 jc8 jc9 jc10 jd0 lh_4 lh_5=>
  let a0:=ib (jc0,lh_4,jc2,lh_5,[],ze.mk jc5 (jc6,jc7,jc8) jc9 jc10) (l54.getD i56.toNat (zj Sh.str))
  let a1:=[a0]
  let a2:=decide (lh_5.length+a1.length≤1073741824)
  let a3:=IntKind.i64.wrap (i56+1)
  let a4:=lh_5++a1
  Tr.br (decide (i56 < i55))
  (Tr.chk (zE i56 l54.length) (Tr.br (decide (a0 < 0)) (Tr.chk a2 (Tr.to (qk.h14 l54 i55 a3 z0 jb0 jb2 jb5 jb6 jb7 jb8 jb9 jc0 jc2 jc5 jc6 jc7 jc8 jc9 jc10 4 lh_4 a4))) (Tr.chk a2 (Tr.to (qk.h14 l54 i55 a3 z0 jb0 jb2 jb5 jb6 jb7 jb8 jb9 jc0 jc2 jc5 jc6 jc7 jc8 jc9 jc10 jd0 lh_4 a4)))))
  (Tr.to (qk.h19 z0.1.2.2.2.2.2.2.2.1 (↑(length z0.1.2.2.2.2.2.2.2.1):Int) 0 jb0 jb2 jb5 jb6 jb7 jb8 jb9 jc0 jc2 jc5 jc6 jc7 jc8 jc9 jc10 jd0 lh_4 lh_5 []))
 | .h19 l70 i71 i72 ja0 ja2 ja5 ja6 ja7 ja8 ja9 jb0 jb2 jb5 jb6 jb7 jb8 jb9 jb10 jc0 lh_3 lh_4 lh_5=>
  let a0:=ze.mk jb5 (jb6,jb7,jb8) jb9 jb10
  let a1:=l70.getD i72.toNat (zj (Sh.str.pr Sh.str))
  let a2:=ib (jb0,lh_3,jb2,lh_4,lh_5,a0) a1.1
  let a3:=[(a2,a1.2)]
  let a4:=decide (lh_5.length+a3.length≤1073741824)
  let a5:=IntKind.i64.wrap (i72+1)
  let a6:=lh_5++a3
  let a7:=oF a0 lh_3
  let a8:=lh_3.getD (toNat jb2) (zj zi)
  Tr.br (decide (i72 < i71))
  (Tr.chk (zE i72 l70.length) (Tr.br (decide (a2 < 0)) (Tr.chk a4 (Tr.to (qk.h19 l70 i71 a5 ja0 ja2 ja5 ja6 ja7 ja8 ja9 jb0 jb2 jb5 jb6 jb7 jb8 jb9 jb10 4 lh_3 lh_4 a6))) (Tr.chk a4 (Tr.to (qk.h19 l70 i71 a5 ja0 ja2 ja5 ja6 ja7 ja8 ja9 jb0 jb2 jb5 jb6 jb7 jb8 jb9 jb10 jc0 lh_3 lh_4 a6)))))
  (Tr.br (jc0==0) (Tr.br (a7 != 0) (Tr.re (AV.tup [AV.agg [AV.str [],AV.nils,AV.int .i64 0,AV.nils,AV.nils,AV.str [],AV.int .i64 0,AV.int .i64 0,AV.str [],AV.str [],AV.nils],AV.int .i64 a7]) []) (Tr.chk (zE jb2 lh_3.length) (Tr.chk (decide (toNat jb2 < lh_3.length)) (Tr.re (AV.tup [AV.agg
  [AV.str jb0,AV.vec 0,AV.int .i64 jb2,AV.vec 1,AV.vec 2,AV.str jb5,AV.int .i64 jb6,AV.int .i64 jb7,AV.str jb8,AV.str jb9,AV.sl Sh.expr jb10],AV.int .i64 0]) [AO.vec zi (lh_3.set (toNat jb2) (a8.1,a8.2.1,true)),AO.vec zg lh_4,AO.vec zp lh_5])))) (Tr.br (jc0 != 0) (Tr.re (AV.tup [AV.agg
  [AV.str [],AV.nils,AV.int .i64 0,AV.nils,AV.nils,AV.str [],AV.int .i64 0,AV.int .i64 0,AV.str [],AV.str [],AV.nils],AV.int .i64 jc0]) []) (Tr.chk (zE jb2 lh_3.length) (Tr.chk (decide (toNat jb2 < lh_3.length)) (Tr.re (AV.tup [AV.agg [AV.str jb0,AV.vec 0,AV.int .i64 jb2,AV.vec 1,AV.vec 2,AV.str jb5,AV.int .i64 jb6,AV.int .i64 jb7,
  AV.str jb8,AV.str jb9,AV.sl Sh.expr jb10],AV.int .i64 0]) [AO.vec zi (lh_3.set (toNat jb2) (a8.1,a8.2.1,true)),AO.vec zg lh_4,AO.vec zp lh_5])))))
def Zm (x0:Sem zy):=zT [zt,zg] zjs 100000000 (ziJ x0)
def zjn (x0:Sem zy):=(Zm x0).isSome
def sOf (x0:Sem zy):=o2 (Zm x0)
def zaB:=FT [zy] [zt,zg] fun x=>Zm x.1
theorem V3:FK 38 zaB:=vl.T1 (f:=Tryz.f38) (keep:=zeM) (e:=zhi)

def L9:=L8.add 38 zaB
theorem vn:zm L9:=vl.add V3
end

noncomputable def ziE (x0:Sem ah):Tr (Empty ⊕ zV):=
 let a0:=(x0.2.1,x0.2.2.1,x0.2.2.2.1,x0.2.2.2.2.1,x0.2.2.2.2.2.1,x0.2.2.2.2.2.2.1,x0.2.2.2.2.2.2.2.1,x0.2.2.2.2.2.2.2.2.1,zB x0.2.2.2.2.2.2.2.2.2.1,x0.2.2.2.2.2.2.2.2.2.2.1,x0.2.2.2.2.2.2.2.2.2.2.2.1,zB x0.2.2.2.2.2.2.2.2.2.2.2.2.1,x0.2.2.2.2.2.2.2.2.2.2.2.2.2)
 let a1:=sOf a0
 let a2:=bY a1.2
 let a3:=aF x0.1 a1.1.1
 let a4:=((a1.1.1,a1.1.2.1,a1.1.2.2.1,a1.1.2.2.2.1,a1.1.2.2.2.2.1,zB a1.1.2.2.2.2.2),[])
 let a5:=yB x0.1 a4
 let a6:=yA a5 1
 Tr.chk (zjn a0)
 (Tr.br (a1.2 != 0)
  (Tr.chk (n8 a1.2) (Tr.re (AV.tup [AV.sl zh a2.1,AV.agg [AV.int .i64 a2.2.1,AV.int .i64 a2.2.2.1,AV.sl zf.sl a2.2.2.2]]) []))
  (Tr.br (decide (a3 ≥ 0)) (Tr.chk true (Tr.re (AV.tup [AV.sl zh (bY 7).1,AV.agg [AV.int .i64 (bY 7).2.1,AV.int .i64 (bY 7).2.2.1,AV.sl zf.sl (bY 7).2.2.2]]) [])) (Tr.br (decide ((↑(length x0.1):Int) ≥ 12)) (Tr.chk true (Tr.re (AV.tup [AV.sl zh (bY 13).1,AV.agg [AV.int .i64 (bY 13).2.1,AV.int .i64 (bY 13).2.2.1,AV.sl zf.sl (bY 13).2.2.2]]) []))
  (Tr.chk (qv x0.1 a4) (Tr.chk (qu a5 1) (Tr.re (AV.tup [AV.sl zh a6.1,AV.agg [AV.int .i64 a6.2.1,AV.int .i64 a6.2.2.1,AV.sl zf.sl a6.2.2.2]]) []))))))
noncomputable def uy (x0:Sem ah):=zT [zh.sl,eE] t0 100000000 (ziE x0)
noncomputable def Ln (x0:Sem ah):=(uy x0).isSome
noncomputable def QU (x0:Sem ah):=o2 (uy x0)
noncomputable def zaj:=FT [ah] [zh.sl,eE] fun x=>uy x.1
theorem VH:FK 17 zaj:=vn.T1 (f:=Tryz.f17) (keep:=k0) (e:=e0)

noncomputable def Ma:=L9.add 17 zaj
theorem vo:zm Ma:=vn.add VH
noncomputable section

abbrev Yh:=jJ [(2,[0,1,7,8])]
inductive x7 where
 | h2 (l0:List (Sem zg)) (i1:Sem zg) (i7:Int) (i8:Int)
abbrev zdj:x7→Nat×St
 | .h2 l0 i1 i7 i8=>(2,⟨tm 19 [(0,AV.sl zg l0),(1,AV.int .i64 i1),(7,AV.int .i64 i7),(8,AV.int .i64 i8)],[]⟩)
def zd8 (x0:Sem zg.sl) (x1:Sem zg):Tr (x7 ⊕ zV):=
 Tr.to (x7.h2 x0 x1 (↑(length x0):Int) 0)
def zgD:x7→Tr (x7 ⊕ zV)
 | .h2 l0 i1 i7 i8=>
  Tr.br (decide (i8 < i7))
  (Tr.chk (zE i8 l0.length) (Tr.br (i1==l0.getD i8.toNat (zj zg)) (Tr.re (AV.int .i64 i8) []) (Tr.to (x7.h2 l0 i1 i7 (IntKind.i64.wrap (i8+1))))))
  (Tr.re (AV.int .i64 (-1)) [])
def Rn (x0:Sem zg.sl) (x1:Sem zg):=zT [zg] zgD 100000000 (zd8 x0 x1)
def X0 (x0:Sem zg.sl) (x1:Sem zg):=(Rn x0 x1).isSome
def ixI (x0:Sem zg.sl) (x1:Sem zg):=o1 (Rn x0 x1)
def SK:=FT [zg.sl,zg] [zg] fun x=>Rn x.1 x.2.1
theorem PQ:FK 135 SK:=vo.T1 (f:=Tryz.f135) (keep:=Yh) (e:=zdj)

def Mc:=Ma.add 135 SK
theorem vp:zm Mc:=vo.add PQ
end

noncomputable def zer (x0:Sem zg.sl) (x1:Sem zg):Tr (Empty ⊕ zV):=
 Tr.chk (X0 x0 x1) (Tr.re (AV.bool (decide (ixI x0 x1 ≥ 0))) [])
noncomputable def D7 (x0:Sem zg.sl) (x1:Sem zg):=zT [Sh.bool] t0 100000000 (zer x0 x1)
noncomputable def Mv (x0:Sem zg.sl) (x1:Sem zg):=(D7 x0 x1).isSome
noncomputable def XR (x0:Sem zg.sl) (x1:Sem zg):=o1 (D7 x0 x1)
noncomputable def zbb:=FT [zg.sl,zg] [Sh.bool] fun x=>D7 x.1 x.2.1
theorem WH:FK 82 zbb:=vp.T1 (f:=Tryz.f82) (keep:=k0) (e:=e0)

noncomputable def Md:=Mc.add 82 zbb
theorem vq:zm Md:=vp.add WH
noncomputable section

abbrev zeN:Nat→zX:=fun j=>if j=3 then { slots:=[3,6,14,15,16],prom:=[(6,none,.int .i64)] } else { }
inductive Jq where
 | h3 (l14:List (Sem (Sh.str.pr Sh.expr))) (i15:Int) (i16:Int) (z0:zu [CP.d zt]) (lh_1:List (Sem zg))
abbrev zhj:Jq→Nat×St
 | .h3 l14 i15 i16 z0 lh_1=>(3,⟨tm 58 [(3,AV.ptr 0 0),(6,AV.vec 1),(14,AV.sl (Sh.str.pr Sh.expr) l14),(15,AV.int .i64 i15),(16,AV.int .i64 i16)],[AO.box (bb [] [CP.d zt] z0),AO.vec zg lh_1]⟩)
def ziM (x0:Sem ah) (x1:Sem zt):Tr (Jq ⊕ zV):=
 Tr.to (Jq.h3 x0.2.2.2.2.2.2.2.2.2.2.2.1 (↑(length x0.2.2.2.2.2.2.2.2.2.2.2.1):Int) 0 (x1,()) [])
def Zu:Jq→Tr (Jq ⊕ zV)
 | .h3 l14 i15 i16 z0 lh_1=>
  let a0:=l14.getD i16.toNat (zj (Sh.str.pr Sh.expr))
  let a1:=ib (z0.1.1,z0.1.2.1,z0.1.2.2.1,z0.1.2.2.2.1,z0.1.2.2.2.2.1,zB z0.1.2.2.2.2.2) a0.1
  let a2:=ba (zB a0.2) z0.1.2.1
  let a3:=getD z0.1.2.1 (toNat a1) (zj zi)
  let a4:=[a1]
  Tr.br (decide (i16 < i15))
  (Tr.chk (zE i16 l14.length) (Tr.br (decide (a1 < 0)) (Tr.re (AV.tup [AV.nils,AV.int .i64 4]) []) (Tr.chk (Mv lh_1 a1) (Tr.br (XR lh_1 a1) (Tr.re (AV.tup [AV.nils,AV.int .i64 7]) []) (Tr.br (a2.2 != 0) (Tr.re (AV.tup [AV.nils,AV.int .i64 a2.2]) []) (Tr.chk (zE a1 (length z0.1.2.1)) (Tr.br (bif a2.1 != a3.2.1 then a2.1 != 0 else false) (Tr.re (AV.tup [AV.nils,AV.int .i64 5]) [])
  (Tr.chk (decide (lh_1.length+a4.length≤1073741824)) (Tr.to (Jq.h3 l14 i15 (IntKind.i64.wrap (i16+1)) z0 (lh_1++a4)))))))))))
  (Tr.re (AV.tup [AV.vec 0,AV.int .i64 0]) [AO.vec zg lh_1])
def Bk (x0:Sem ah) (x1:Sem zt):=zT [zg.sl,zg] Zu 100000000 (ziM x0 x1)
def FD (x0:Sem ah) (x1:Sem zt):=(Bk x0 x1).isSome
def Lr (x0:Sem ah) (x1:Sem zt):=o2 (Bk x0 x1)
def zaI:=FT [ah,zt] [zg.sl,zg] fun x=>Bk x.1 x.2.1
theorem Wa:FK 46 zaI:=vq.T1 (f:=Tryz.f46) (keep:=zeN) (e:=zhj)

def FS:=Md.add 46 zaI
theorem kL:zm FS:=vq.add Wa
end
noncomputable section
def Xl:bf:={ FS with nest:=true }
theorem FU:zm Xl:=⟨⟨kL.sh⟩,kL.fs,kL.mix⟩

abbrev zeD:Nat→zX:=fun j=>if j=13 then { slots:=[1,3,5,6,8,9,61,62,63],fill:=[9] } else if j=19 then { slots:=[1,3,5,6,8,9,10,11,61,62,63,88,89,90] } else { }
inductive A1 where
 | h13 (l6:List (Sem zg)) (l61:List (Sem zf.sl)) (i62:Int) (i63:Int) (z0:zu [CP.d ah]) (z2:zu [CP.d zh]) (jb0:Int) (jb1:Int) (mh_3:List ((Int×Int×zn)×Int)) (lh_4:List (Sem zf.sl))
 | h19 (l6:List (Sem zg)) (i10:Int) (l11:List (Sem zf)) (l61:List (Sem zf.sl)) (i62:Int) (i63:Int) (l88:List (Sem (Sh.str.pr Sh.expr))) (i89:Int) (i90:Int) (z0:zu [CP.d ah]) (z2:zu [CP.d zh]) (jb0:Int) (jb1:Int) (mh_3:List ((Int×Int×zn)×Int)) (lh_4:List (Sem zf.sl)) (jh_4:Nat) (lh_5:List (Sem zf))
abbrev zhc:A1→Nat×St
 | .h13 l6 l61 i62 i63 z0 z2 jb0 jb1 mh_3 lh_4=>(13,⟨tm 123 [(1,AV.ptr 0 0),(3,AV.ptr 1 0),(5,AV.ptr 2 0),(6,AV.sl zg l6),(8,AV.mp 3),(9,AV.vec 4),(61,AV.sl zf.sl l61),(62,AV.int .i64 i62),(63,AV.int .i64 i63)],[AO.box (bb [] [CP.d ah] z0),AO.box [AV.int .i64 jb0,AV.int .i64 jb1,AV.nils],AO.box (bb [] [CP.d zh] z2),AO.vmap true mh_3,AO.vec zf.sl lh_4]⟩)
 | .h19 l6 i10 l11 l61 i62 i63 l88 i89 i90 z0 z2 jb0 jb1 mh_3 lh_4 jh_4 lh_5=>(19,⟨tm 123 [(1,AV.ptr 0 0),(3,AV.ptr 1 0),(5,AV.ptr 2 0),(6,AV.sl zg l6),(8,AV.mp 3),(9,AV.vec 4),(10,AV.int .i64 i10),(11,AV.sl zf l11),(61,AV.sl zf.sl l61),(62,AV.int .i64 i62),(63,AV.int .i64 i63),(88,AV.sl (Sh.str.pr Sh.expr) l88),(89,AV.int .i64 i89),(90,AV.int .i64 i90)],[AO.box (bb [] [CP.d ah] z0),AO.box [AV.int .i64 jb0,AV.int .i64 jb1,AV.nils],AO.box (bb [] [CP.d zh] z2),AO.vmap true mh_3,AO.hol zf lh_4 jh_4 5,AO.vec zf lh_5]⟩)
def Rg (x0:Sem ah):Tr (A1 ⊕ zV):=
 let a0:=aF x0.1 x0.2.2.1
 let a1:=(x0.1,x0.2.1,x0.2.2.1,x0.2.2.2.1,x0.2.2.2.2.1,x0.2.2.2.2.2.1,x0.2.2.2.2.2.2.1,x0.2.2.2.2.2.2.2.1,x0.2.2.2.2.2.2.2.2.1,zB x0.2.2.2.2.2.2.2.2.2.1,x0.2.2.2.2.2.2.2.2.2.2.1,x0.2.2.2.2.2.2.2.2.2.2.2.1,zB x0.2.2.2.2.2.2.2.2.2.2.2.2.1,x0.2.2.2.2.2.2.2.2.2.2.2.2.2)
 let a2:=getD x0.1 (toNat a0) (zj zh)
 let a3:=(a2.1.1,a2.1.2.1,a2.1.2.2.1,a2.1.2.2.2.1,a2.1.2.2.2.2.1,zB a2.1.2.2.2.2.2)
 let a4:=Lr a1 a3
 let a5:=bY a4.2
 let a6:=(a3,a2.2)
 let a7:=mV a1 a6
 let a8:=bY a7.2
 Tr.br (decide (a0 < 0))
 (Tr.chk true
  (Tr.re (AV.tup [AV.sl zh (bY 6).1,AV.agg [AV.int .i64 (bY 6).2.1,AV.int .i64 (bY 6).2.2.1,AV.sl zf.sl (bY 6).2.2.2]]) []))
 (Tr.chk (zE a0 (length x0.1))
  (Tr.chk (FD a1 a3) (Tr.br (a4.2 != 0) (Tr.chk (n8 a4.2) (Tr.re (AV.tup [AV.sl zh a5.1,AV.agg [AV.int .i64 a5.2.1,AV.int .i64 a5.2.2.1,AV.sl zf.sl a5.2.2.2]]) [])) (Tr.chk (mO a1 a6).isSome (Tr.br (a7.2 != 0) (Tr.chk (n8 a7.2) (Tr.re (AV.tup [AV.sl zh a8.1,AV.agg [AV.int .i64 a8.2.1,AV.int .i64 a8.2.2.1,AV.sl zf.sl a8.2.2.2]]) []))
  (Tr.chk (decide (length a2.2≤1073741824)) (Tr.to (A1.h13 a4.1 a2.2 (↑(length a2.2):Int) 0 (x0,()) (a2,()) 0 0 a7.1 a2.2))))))))
def xp:A1→Tr (A1 ⊕ zV)
 | .h13 l6 l61 i62 i63 z0 z2 jb0 jb1 mh_3 lh_4=>
  let a0:=l61.getD i63.toNat (zj zf.sl)
  let a1:=(z0.1.1,z0.1.2.1,z0.1.2.2.1,z0.1.2.2.2.1,z0.1.2.2.2.2.1,z0.1.2.2.2.2.2.1,z0.1.2.2.2.2.2.2.1,z0.1.2.2.2.2.2.2.2.1,z0.1.2.2.2.2.2.2.2.2.1,zB z0.1.2.2.2.2.2.2.2.2.2.1,z0.1.2.2.2.2.2.2.2.2.2.2.1,z0.1.2.2.2.2.2.2.2.2.2.2.2.1,zB z0.1.2.2.2.2.2.2.2.2.2.2.2.2.1,z0.1.2.2.2.2.2.2.2.2.2.2.2.2.2)
  let a2:=((z2.1.1.1,z2.1.1.2.1,z2.1.1.2.2.1,z2.1.1.2.2.2.1,z2.1.1.2.2.2.2.1,zB z2.1.1.2.2.2.2.2),lh_4)
  let a3:=Bi a1 a2 (↑mh_3.length:Int)
  Tr.br (decide (i63 < i62))
  (Tr.chk (zE i63 l61.length) (Tr.chk (zE z2.1.1.2.2.1 (length a0)) (Tr.br (!fW mh_3 (getD a0 (toNat z2.1.1.2.2.1) (zj zf))) (Tr.to (A1.h13 l6 l61 i62 (IntKind.i64.wrap (i63+1)) z0 z2 jb0 jb1 mh_3 lh_4)) (Tr.chk (decide (length a0≤1073741824)) (Tr.chk (zE i63 lh_4.length) (Tr.chk (decide (i63.toNat < lh_4.length)) (Tr.to
  (A1.h19 l6 i63 a0 l61 i62 i63 z0.1.2.2.2.2.2.2.2.2.2.2.2.1 (↑(length z0.1.2.2.2.2.2.2.2.2.2.2.2.1):Int) 0 z0 z2 jb0 jb1 mh_3 lh_4 i63.toNat a0))))))))
  (Tr.chk (decide (mh_3.length≤1073741824)) (Tr.chk (uw a1 a2 (↑mh_3.length:Int)) (Tr.re (AV.tup [AV.sl zh a3.1,AV.agg [AV.int .i64 a3.2.1,AV.int .i64 a3.2.2.1,AV.sl zf.sl a3.2.2.2]]) [])))
 | .h19 l6 i10 l11 l61 i62 i63 l88 i89 i90 z0 z2 jb0 jb1 mh_3 lh_4 jh_4 lh_5=>
  let a0:=l6.getD i90.toNat (zj zg)
  let a1:=l88.getD i90.toNat (zj (Sh.str.pr Sh.expr))
  Tr.br (decide (i90 < i89))
  (Tr.chk (zE i90 l88.length) (Tr.chk (zE i10 lh_4.length) (Tr.chk (decide (i10.toNat=jh_4)) (Tr.chk (zE i90 l6.length) (Tr.chk (zE a0 lh_5.length) (Tr.chk (decide (toNat a0 < lh_5.length)) (Tr.to (A1.h19 l6 i10 l11 l61 i62 i63 l88 i89 (IntKind.i64.wrap (i90+1)) z0 z2 jb0 jb1 mh_3 lh_4 jh_4 (lh_5.set (toNat a0) (f5 (zB a1.2) z2.1.1.2.1 l11))))))))))
  (Tr.to (A1.h13 l6 l61 i62 (IntKind.i64.wrap (i63+1)) z0 z2 jb0 jb1 mh_3 (lh_4.set jh_4 lh_5)))
def j5 (x0:Sem ah):=zT [zh.sl,eE] xp 100000000 (Rg x0)
def uD (x0:Sem ah):=(j5 x0).isSome
def Bl (x0:Sem ah):=o2 (j5 x0)
def zam:=FT [ah] [zh.sl,eE] fun x=>j5 x.1
theorem VK:FK 20 zam:=FU.T1 (f:=Tryz.f20) (keep:=zeD) (e:=zhc)

end
noncomputable section
def Me:=FS.add 20 zam
theorem vt:zm Me:=kL.add VK

def i9w (x0:Sem zh.sl) (x1:Sem zy):Tr (Empty ⊕ zV):=
 let a0:=(x1.1,x1.2.1,x1.2.2.1,x1.2.2.2.1,x1.2.2.2.2.1,x1.2.2.2.2.2.1,x1.2.2.2.2.2.2.1,x1.2.2.2.2.2.2.2.1,zB x1.2.2.2.2.2.2.2.2.1,x1.2.2.2.2.2.2.2.2.2.1,x1.2.2.2.2.2.2.2.2.2.2.1,zB x1.2.2.2.2.2.2.2.2.2.2.2.1,x1.2.2.2.2.2.2.2.2.2.2.2.2)
 let a1 := !fx a0
 let a2:=oH a0&&bif a1 then true else sP x0
 let a3:=bif a1 then true else n5 x0 != 0
 let a4:=(x0,a0)
 let a5:=QU a4
 let a6:=QV a4
 let a7:=Bl a4
 let a8:=QW a4
 let a9:=Bj a4
 Tr.chk true
 (Tr.chk true
  (Tr.chk true (Tr.chk true (Tr.chk true (Tr.chk true (Tr.br (x1.1==[99,114,101,97,116,101]) (Tr.chk a2 (Tr.br a3 (Tr.re (AV.tup [AV.sl zh x0,AV.agg [AV.int .i64 1,AV.int .i64 0,AV.nils]]) []) (Tr.chk (Ln a4) (Tr.br (a5.2.1 != 0) (Tr.re (AV.tup [AV.sl zh x0,AV.agg [AV.int .i64 a5.2.1,AV.int .i64 a5.2.2.1,AV.sl zf.sl a5.2.2.2]]) []) (Tr.re (AV.tup [AV.sl zh a5.1,
  AV.agg [AV.int .i64 a5.2.1,AV.int .i64 a5.2.2.1,AV.sl zf.sl a5.2.2.2]]) []))))) (Tr.br (x1.1==[100,114,111,112]) (Tr.chk a2 (Tr.br a3 (Tr.re (AV.tup [AV.sl zh x0,AV.agg [AV.int .i64 1,AV.int .i64 0,AV.nils]]) []) Tr.err)) (Tr.br (x1.1==[105,110,115,101,114,116]) (Tr.chk a2 (Tr.br a3 (Tr.re (AV.tup [AV.sl zh x0,AV.agg [AV.int .i64 1,AV.int .i64 0,AV.nils]]) [])
  (Tr.chk (Lo a4) (Tr.br (a6.2.1 != 0) (Tr.re (AV.tup [AV.sl zh x0,AV.agg [AV.int .i64 a6.2.1,AV.int .i64 a6.2.2.1,AV.sl zf.sl a6.2.2.2]]) []) (Tr.re (AV.tup [AV.sl zh a6.1,AV.agg [AV.int .i64 a6.2.1,AV.int .i64 a6.2.2.1,AV.sl zf.sl a6.2.2.2]]) []))))) (Tr.br (x1.1==[117,112,100,97,116,101]) (Tr.chk a2 (Tr.br a3 (Tr.re (AV.tup [AV.sl zh x0,
  AV.agg [AV.int .i64 1,AV.int .i64 0,AV.nils]]) []) (Tr.chk (uD a4) (Tr.br (a7.2.1 != 0) (Tr.re (AV.tup [AV.sl zh x0,AV.agg [AV.int .i64 a7.2.1,AV.int .i64 a7.2.2.1,AV.sl zf.sl a7.2.2.2]]) []) (Tr.re (AV.tup [AV.sl zh a7.1,AV.agg [AV.int .i64 a7.2.1,AV.int .i64 a7.2.2.1,AV.sl zf.sl a7.2.2.2]]) []))))) (Tr.br (x1.1==[100,101,108,101,116,101]) (Tr.chk a2 (Tr.br a3
  (Tr.re (AV.tup [AV.sl zh x0,AV.agg [AV.int .i64 1,AV.int .i64 0,AV.nils]]) []) (Tr.chk (Lq a4) (Tr.br (a8.2.1 != 0) (Tr.re (AV.tup [AV.sl zh x0,AV.agg [AV.int .i64 a8.2.1,AV.int .i64 a8.2.2.1,AV.sl zf.sl a8.2.2.2]]) []) (Tr.re (AV.tup [AV.sl zh a8.1,AV.agg [AV.int .i64 a8.2.1,AV.int .i64 a8.2.2.1,AV.sl zf.sl a8.2.2.2]]) [])))))
  (Tr.br (x1.1==[115,101,108,101,99,116]) (Tr.chk a2 (Tr.br a3 (Tr.re (AV.tup [AV.sl zh x0,AV.agg [AV.int .i64 1,AV.int .i64 0,AV.nils]]) []) (Tr.chk (ux a4) (Tr.br (a9.2.1 != 0) (Tr.re (AV.tup [AV.sl zh x0,AV.agg [AV.int .i64 a9.2.1,AV.int .i64 a9.2.2.1,AV.sl zf.sl a9.2.2.2]]) []) (Tr.re (AV.tup [AV.sl zh a9.1,AV.agg [AV.int .i64 a9.2.1,AV.int .i64 a9.2.2.1,
  AV.sl zf.sl a9.2.2.2]]) []))))) (Tr.re (AV.tup [AV.sl zh x0,AV.agg [AV.int .i64 1,AV.int .i64 0,AV.nils]]) []))))))))))))
def un (x0:Sem zh.sl) (x1:Sem zy):=zT [zh.sl,eE] t0 100000000 (i9w x0 x1)
def QG (x0:Sem zh.sl) (x1:Sem zy):=(un x0 x1).isSome
def bDo (x0:Sem zh.sl) (x1:Sem zy):=o2 (un x0 x1)
def F9w:=FT [zh.sl,zy] [zh.sl,eE] fun x=>un x.1 x.2.1
theorem zcE:FK 9 F9w:=vt.T1 (f:=Tryz.f9) (keep:=k0) (e:=e0)

def Mb:=Me.add 9 F9w
theorem FR:zm Mb:=vt.add zcE
end
noncomputable section
def Mh:=Mb.add 32 UZ
theorem vA:zm Mh:=FR.add KX

def ziD:Tr (Empty ⊕ zV):=
 Tr.chk true
 (Tr.chk true
  (Tr.chk true (Tr.chk true (Tr.chk true (Tr.chk true (Tr.chk true (Tr.chk true (Tr.chk true (Tr.chk true (Tr.chk true (Tr.chk true (Tr.chk true (Tr.chk true (Tr.re (AV.bool true) []))))))))))))))
def Ba:=zT [Sh.bool] t0 100000000 (ziD)
def Fv:=(Ba).isSome
def yx:=o1 (Ba)
def zae:=FT [] [Sh.bool] fun _=>Ba
theorem VC:FK 13 zae:=vA.T1 (f:=Tryz.f13) (keep:=k0) (e:=e0)

def T6:=Mh.add 13 zae
theorem Ab:zm T6:=vA.add VC
end
noncomputable section
end

theorem um:Ba=some (true,()):=by kernel_rfl
theorem Li:Fv=true:=by unfold Fv; rw [um]; rfl
theorem Hv:yx=true:=by unfold yx; rw [um]; rfl

theorem sQ {db:List (Sem zh)} {s:Sem zy} (hs:gZ s) (hr:∀ x∈db,eR x) (h:¬ (fx s=true∧dS db)):un db s=some (db,Dn 1,()):=by
 have h1:=mv hs
 have h2:=kI hr
 have h3:(bif !fx s then true else n5 db != 0)=true:=by
  cases hm:fx s with
  | false=>rfl
  | true=>
   have:n5 db≠(0:Int):=fun e=>h ⟨hm,(qn hr).1 e⟩
   simpa using this
 have h4:(oH s&&bif !fx s then true else sP db)=true:=by
  rw [h1,h2]
  cases fx s <;> rfl
 have hv:(i9w db s).val=some (.inr (AV.tup [AV.sl zh db,AV.agg [AV.int .i64 1,AV.int .i64 0,AV.nils]],[])):=by
  simp only [i9w,Tr.val,zo,Prod.eta,h3,h4,if_true,ite_self]
 exact gN hv rfl

theorem QH {db:List (Sem zh)} {s:Sem zy} {n:List (Sem zh)} {a:Sem eE} (hs:gZ s) (hr:∀ x∈db,eR x) (hm:fx s=true) (hB:dS db) (ho:s.1=CD) (hc:j4 (db,s)=some (n,a,())):
  un db s=some (if a.1=0 then n else db,a,()):=by
 have h1:=mv hs
 have h2:=kI hr
 have h5:n5 db=(0:Int):=(qn hr).2 hB
 have q0:(s.1==[99,114,101,97,116,101])=false:=by rw [ho]; rfl
 have q1:(s.1==[100,114,111,112])=false:=by rw [ho]; rfl
 have q2:(s.1==[105,110,115,101,114,116])=false:=by rw [ho]; rfl
 have q3:(s.1==[117,112,100,97,116,101])=false:=by rw [ho]; rfl
 have q4:(s.1==[100,101,108,101,116,101])=false:=by rw [ho]; rfl
 have q5:(s.1==[115,101,108,101,99,116])=true:=by rw [ho]; rfl
 have hcc:ux (db,s)=true:=by unfold ux; rw [hc]; rfl
 have hcv:Bj (db,s)=(n,a):=by unfold Bj; rw [hc]; rfl
 unfold un zT cd
 simp only [i9w,Tr.val,zo,Prod.eta,hm,h1,h2,h5,hcc,hcv,q0,q1,q2,q3,q4,q5,iT,bR,oS,rN,zO,if_true,if_false]
 by_cases h:a.1=0
 ·have h':(a.1 != 0)=false:=by simpa using h
  simp only [h',zO,if_false,if_pos h]
  rfl
 ·have h':(a.1 != 0)=true:=by simpa using h
  simp only [h',if_true,if_neg h]
  rfl
theorem TG {db:List (Sem zh)} {s:Sem zy} {n:List (Sem zh)} {a:Sem eE} (h:un db s=some (n,a,())):QG db s=true∧bDo db s=(n,a):=by
 unfold QG bDo
 rw [h]
 exact ⟨rfl,rfl⟩
set_option maxHeartbeats 2000000

theorem wI (x:Int) (h1:-4000000000≤x) (h2:x≤4000000000):IntKind.i64.wrap x=x:=by
 rw [rL]; omega
theorem wU (x:Int) (h1:0≤x) (h2:x≤4000000000):IntKind.u64.wrap x=x:=by
 simp only [IntKind.wrap,IntKind.bits,IntKind.signed]
 simp
 omega

def ji (k:Int) (r:List (Sem zf)):Sem zf:=bif (bif decide (k < 0) then true else decide (k ≥ (↑(length r):Int))) then (0,0,[]) else getD r k.toNat (zj zf)
def x3 (k:Int) (a b:List (Sem zf)):Prop:=KQ (ji k a) (ji k b)
theorem KA {k:Int} {a b:List (Sem zf)} (h:x3 k a b):¬ x3 k b a:=fun g=>oM (np h g)
theorem I8 {k:Int} {r:List (Sem zf)} (h:zE k (length r)=true):ji k r=aS k r:=by
 simp only [zE,aE,zZ] at h
 have h1:decide (k < 0)=false:=by simp; omega
 have h2:decide (k ≥ (↑(length r):Int))=false:=by simp; omega
 unfold ji
 rw [h1,h2]
 rfl

def Kp (k:Int) (l0 l:List (List (Sem zf))):Prop:=l.Perm l0∧(l0.Pairwise (x3 k)→l=l0)
theorem Kp.refl {k:Int} {l:List (List (Sem zf))}:Kp k l l:=⟨.refl l,fun _=>rfl⟩
theorem Kp.len {k:Int} {l0 l:List (List (Sem zf))} (h:Kp k l0 l):l.length=l0.length:=h.1.length_eq
theorem Kp.trans {k:Int} {l0 l l':List (List (Sem zf))} (h:Kp k l0 l) (g:Kp k l l'):Kp k l0 l':=⟨g.1.trans h.1,fun hr=>by
 have e:=h.2 hr
 subst e
 exact g.2 hr⟩
theorem Kp.perm {k:Int} {l l':List (List (Sem zf))} (hp:l'.Perm l) (hn:¬ l.Pairwise (x3 k)):Kp k l l':=⟨hp,fun hr=>absurd hr hn⟩
theorem nj {α:Type} {l:List α} {i j:Nat} (hi:i < l.length) (hj:j < l.length) (d:α):((l.set j (l.getD i d)).set i (l.getD j d)).Perm l:=by
 have e:((l.set j l[i]).set i l[j]).Perm l:=List.set_set_perm hj hi
 rwa [aB,aB,zI hj,zI hi]
theorem Oc {k:Int} {l:List (List (Sem zf))} (h:l.Pairwise (x3 k)) {i j:Nat} (hij:i < j) (hj:j < l.length) (d:List (Sem zf)):x3 k (l.getD i d) (l.getD j d):=by
 have:=List.pairwise_iff_getElem.1 h i j (by omega) hj hij
 rwa [aB,aB,zI (by omega),zI hj]
theorem sY {k:Int} {l:List (List (Sem zf))} {i j:Nat} (hij:i < j) (hj:j < l.length) (d:List (Sem zf)) (hc:x3 k (l.getD j d) (l.getD i d)):¬ l.Pairwise (x3 k):=fun hr=>KA hc (Oc hr hij hj d)

theorem Gc {i j:Nat} (h:j < i):decide ((i:Int) > (j:Int))=true:=by simpa using h
theorem Re (n:Nat):decide ((n:Int) > (n:Int))=false:=by simp
theorem iw {i j:Nat} (h:¬ i < j):decide ((i:Int) < (j:Int))=false:=by simpa using h
theorem mf (k:Int) (x y:List (Sem zf)):
  (bif (bif decide (k < 0) then true else decide (k ≥ (↑(length x):Int))) then bif (bif decide (k < 0) then true else decide (k ≥ (↑(length y):Int))) then aR (0,0,[]) (0,0,[]) else aR (0,0,[]) (getD y k.toNat (zj zf))
   else bif (bif decide (k < 0) then true else decide (k ≥ (↑(length y):Int))) then aR (getD x k.toNat (zj zf)) (0,0,[]) else aR (getD x k.toNat (zj zf)) (getD y k.toNat (zj zf)))=aR (ji k x) (ji k y):=by
 unfold ji
 cases (bif decide (k < 0) then true else decide (k ≥ (↑(length x):Int))) <;> cases (bif decide (k < 0) then true else decide (k ≥ (↑(length y):Int))) <;> rfl
theorem M2 (k:Int) (x:List (Sem zf)):(bif (bif decide (k < 0) then true else decide (k ≥ (↑(length x):Int))) then true else zE k (length x))=true:=by
 cases h:(bif decide (k < 0) then true else decide (k ≥ (↑(length x):Int))) with
 | true=>rfl
 | false=>
  cases h1:decide (k < 0) with
  | true=>rw [h1] at h; cases h
  | false=>
   rw [h1] at h
   simp only [bR,decide_eq_false_iff_not] at h h1
   simp only [bR,zE,aE,zZ]
   omega
theorem jw (k:Int) (x y:List (Sem zf)):(bif (bif decide (k < 0) then true else decide (k ≥ (↑(length x):Int))) then (bif (bif decide (k < 0) then true else decide (k ≥ (↑(length y):Int))) then true else zE k (length y))
  else zE k (length x)&&(bif (bif decide (k < 0) then true else decide (k ≥ (↑(length y):Int))) then true else zE k (length y)))=true:=by
 have h1:=M2 k x
 rw [M2 k y]
 cases h:(bif decide (k < 0) then true else decide (k ≥ (↑(length x):Int))) with
 | true=>rfl
 | false=>
  rw [h] at h1
  simp only [bR] at h1 ⊢
  rw [h1]
  rfl

theorem MR (l0:List (List (Sem zf))) (a b i:Nat) (k:Int) (hn:l0.length≤1000) (hi:i < 1000):∀ (m j:Nat) (l:List (List (Sem zf))),j=a+m→j < l.length→Kp k l0 l→
  ∃ l',Kp k l0 l'∧aI nS (m+1) (.h4 (a:Int) (b:Int) k (i:Int) (j:Int) l) (.h1 (a:Int) (b:Int) k ((i+1:Nat):Int) l'):=by
 intro m
 induction m with
 | zero=>
  intro j l hj hl hk
  refine ⟨l,hk,aI.of ?_⟩
  obtain rfl:j=a:=by omega
  simp only [nS,Tr.val,Re,bR,zO,if_false,if_true,zH i (by unfold zF; omega)]
 | succ m IH=>
  intro j l hj hl hk
  obtain ⟨j,rfl⟩:∃ j',j=j'+1:=⟨j - 1,by omega⟩
  have hlen:=hk.len
  have e1:decide (((j+1:Nat):Int) > (a:Int))=true:=Gc (by omega)
  have e2:zE ((j+1:Nat):Int) l.length=true:=zG hl
  have e3:decide (j+1 < l.length)=true:=by simpa using hl
  have e4:IntKind.i64.wrap (((j+1:Nat):Int) - 1)=(j:Int):=qf j (by unfold zF; omega)
  have e5:zE (j:Int) l.length=true:=zG (by omega)
  have e6:decide (j < l.length)=true:=by simp; omega
  have e8:zE (j:Int) (l.set (j+1) (l.getD j (zj zf.sl))).length=true:=by rw [jW]; exact e5
  have e9:decide (j < (l.set (j+1) (l.getD j (zj zf.sl))).length)=true:=by rw [jW]; exact e6
  by_cases hc:x3 k (l.getD (j+1) (zj zf.sl)) (l.getD j (zj zf.sl))
  ·have hsw:Kp k l ((l.set (j+1) (l.getD j (zj zf.sl))).set j (l.getD (j+1) (zj zf.sl))):=Kp.perm (nj (by omega) hl _) (sY (i:=j) (j:=j+1) (by omega) hl _ hc)
   obtain ⟨l',h1,h2⟩:=IH j _ (by omega) (by simp; omega) (hk.trans hsw)
   refine ⟨l',h1,((aI.of ?_).trans h2).mono (by omega)⟩
   have e7:decide (LT.lt (α:=Int) (aR (ji k (l.getD (j+1) (zj zf.sl))) (ji k (l.getD j (zj zf.sl)))) 0)=true:=aZ hc
   simp only [nS,Tr.val,e4,bl]
   rw [jw,mf]
   simp only [e1,e2,e3,e5,e6,e7,e8,e9,bO,rN,if_true]
  ·refine ⟨l,hk,(aI.of ?_).mono (by omega)⟩
   have e7:decide (LT.lt (α:=Int) (aR (ji k (l.getD (j+1) (zj zf.sl))) (ji k (l.getD j (zj zf.sl)))) 0)=false:=er hc
   simp only [nS,Tr.val,e4,bl]
   rw [jw,mf]
   simp only [e1,e2,e3,e5,e6,e7,e8,e9,bO,rN,if_true,zO,if_false,zH i (by unfold zF; omega)]

theorem MQ (l0:List (List (Sem zf))) (a b:Nat) (k:Int) (hn:l0.length≤1000) (hb:b≤l0.length):∀ (m i:Nat) (l:List (List (Sem zf))),b - i=m→a≤i→Kp k l0 l→
  ∃ l',Kp k l0 l'∧bL nS (m * 1002+1) (.h1 (a:Int) (b:Int) k (i:Int) l) (.tup [],[.vec zf.sl l']):=by
 intro m
 induction m with
 | zero=>
  intro i l hm hi hk
  refine ⟨l,hk,(bL.of ?_).mono (by omega)⟩
  simp only [nS,Tr.val,iw (show ¬ i < b by omega),zO,if_false]
 | succ m IH=>
  intro i l hm hi hk
  have hlen:=hk.len
  obtain ⟨l1,h1,h2⟩:=MR l0 a b i k hn (by omega) (i - a) i l (by omega) (by omega) hk
  obtain ⟨l',h3,h4⟩:=IH (i+1) l1 (by omega) (by omega) h1
  refine ⟨l',h3,((aI.of ?_).trans h2 |>.ends h4).mono (by omega)⟩
  simp only [nS,Tr.val,zW (show i < b by omega),if_true]
theorem vN (l:List (List (Sem zf))) (a b:Nat) (k:Int) (hn:l.length≤1000) (ha:a≤l.length) (hb:b≤l.length):∃ l',qT l a b k=some l'∧Kp k l l':=by
 obtain ⟨l',h1,h2⟩:=MQ l a b k hn hb (b - (a+1)) (a+1) l rfl (by omega) Kp.refl
 refine ⟨l',?_,h1⟩
 have:Gg l a b k=some (.tup [],[.vec zf.sl l']):=by
  unfold Gg cd HY
  rw [zH a (by unfold zF; omega)]
  have h9:b - (a+1)≤1000:=by omega
  exact h2 100000000 (cC (Nat.succ_le_succ (eP 1002 h9)) (by decide))
 unfold qT
 rw [this]
 rfl

theorem Zq (l0:List (List (Sem zf))) (a b n:Nat) (hn:l0.length≤1000) (ha:a+n≤l0.length) (hb:b+n≤l0.length):∀ (m i:Nat) (l:List (List (Sem zf))),n - i=m→i≤n→l.Perm l0→
  ∃ l',l'.Perm l0∧bL AP (m+1) (.h1 (a:Int) (b:Int) (n:Int) (i:Int) l) (.tup [],[.vec zf.sl l']):=by
 intro m
 induction m with
 | zero=>
  intro i l hm hi hp
  obtain rfl:i=n:=by omega
  refine ⟨l,hp,bL.of ?_⟩
  simp only [AP,Tr.val,z8,zO,if_false]
 | succ m IH=>
  intro i l hm hi hp
  have hlen:=hp.length_eq
  have e0:IntKind.i64.wrap ((b:Int)+(i:Int))=((b+i:Nat):Int):=by rw [wI _ (by omega) (by omega)]; omega
  have e1:IntKind.i64.wrap ((a:Int)+(i:Int))=((a+i:Nat):Int):=by rw [wI _ (by omega) (by omega)]; omega
  have e2:zE ((a+i:Nat):Int) l.length=true:=zG (by omega)
  have e3:zE ((b+i:Nat):Int) l.length=true:=zG (by omega)
  have e4:decide (a+i < l.length)=true:=by simp; omega
  have e5:decide (b+i < l.length)=true:=by simp; omega
  obtain ⟨l',h1,h2⟩:=IH (i+1) ((l.set (a+i) (l.getD (b+i) (zj zf.sl))).set (b+i) (l.getD (a+i) (zj zf.sl))) (by omega) (by omega) ((nj (i:=b+i) (j:=a+i) (by omega) (by omega) _).trans hp)
  refine ⟨l',h1,((aI.of ?_).ends h2).mono (by omega)⟩
  simp only [AP,Tr.val,zW (show i < n by omega),e0,e1,e2,e3,e4,e5,bl,jW,if_true,zH i (by unfold zF; omega)]
theorem G8 (l:List (List (Sem zf))) (a b n:Nat) (k:Int) (hn:l.length≤1000) (ha:a+n≤l.length) (hb:b+n≤l.length):∃ l',G7 l a b n k=some l'∧l'.Perm l:=by
 obtain ⟨l',h1,h2⟩:=Zq l a b n hn ha hb n 0 l rfl (by omega) (.refl l)
 refine ⟨l',?_,h1⟩
 have:zgw l a b n k=some (.tup [],[.vec zf.sl l']):=h2 100000000 (by omega)
 unfold G7
 rw [this]
 rfl

theorem Zj (l0:List (List (Sem zf))) (m:Nat) (k:Int) (hn:l0.length≤1000):∀ (s i j:Nat) (l:List (List (Sem zf))),i+j≤s→1≤i→1≤j→i≤m→m+j≤l0.length→l.Perm l0→
  ∃ l',l'.Perm l0∧bL xq (s+1) (.h2 (m:Int) k (i:Int) (j:Int) l) (.tup [],[.vec zf.sl l']):=by
 intro s
 induction s with
 | zero=>intro i j l h h1; omega
 | succ s IH=>
  intro i j l hs h1 h2 h3 h4 hp
  have hlen:=hp.length_eq
  have e0:IntKind.i64.wrap ((m:Int) - (i:Int))=((m - i:Nat):Int):=by rw [wI _ (by omega) (by omega)]; omega
  rcases Nat.lt_trichotomy i j with h | h | h
  ·obtain ⟨l1,q1,q2⟩:=G8 l (m - i) (m+j - i) i k (by omega) (by omega) (by omega)
   obtain ⟨l',q3,q4⟩:=IH i (j - i) l1 (by omega) h1 (by omega) h3 (by omega) (q2.trans hp)
   refine ⟨l',q3,((aI.of ?_).ends q4).mono (by omega)⟩
   have c1:((i:Int) != (j:Int))=true:=by simp; omega
   have c2:decide ((i:Int) > (j:Int))=false:=by simp; omega
   have c3:IntKind.i64.wrap (IntKind.i64.wrap ((m:Int)+(j:Int)) - (i:Int))=((m+j - i:Nat):Int):=by rw [wI ((m:Int)+(j:Int)) (by omega) (by omega),wI _ (by omega) (by omega)]; omega
   have c4:IntKind.i64.wrap ((j:Int) - (i:Int))=((j - i:Nat):Int):=by rw [wI _ (by omega) (by omega)]; omega
   simp only [xq,Tr.val,e0,c1,c2,c3,c4,q1,ep,bA,if_true,zO,if_false]
  ·subst h
   obtain ⟨l1,q1,q2⟩:=G8 l (m - i) m i k (by omega) (by omega) (by omega)
   refine ⟨l1,q2.trans hp,(bL.of ?_).mono (by omega)⟩
   simp only [xq,Tr.val,e0,oS,q1,ep,bA,if_true,zO,if_false]
  ·obtain ⟨l1,q1,q2⟩:=G8 l (m - i) m j k (by omega) (by omega) (by omega)
   obtain ⟨l',q3,q4⟩:=IH (i - j) j l1 (by omega) (by omega) h2 (by omega) h4 (q2.trans hp)
   refine ⟨l',q3,((aI.of ?_).ends q4).mono (by omega)⟩
   have c1:((i:Int) != (j:Int))=true:=by simp; omega
   have c2:decide ((i:Int) > (j:Int))=true:=by simp; omega
   have c4:IntKind.i64.wrap ((i:Int) - (j:Int))=((i - j:Nat):Int):=by rw [wI _ (by omega) (by omega)]; omega
   simp only [xq,Tr.val,e0,c1,c2,c4,q1,ep,bA,if_true]
theorem Zk (l:List (List (Sem zf))) (a m b:Nat) (k:Int) (hn:l.length≤1000) (ha:a < m) (hm:m < b) (hb:b≤l.length):∃ l',Ky l a m b k=some l'∧l'.Perm l:=by
 obtain ⟨l',h1,h2⟩:=Zj l m k hn ((m - a)+(b - m)) (m - a) (b - m) l (aM _) (by omega) (by omega) (by omega) (by omega) (.refl l)
 refine ⟨l',?_,h1⟩
 have:Zi l a m b k=some (.tup [],[.vec zf.sl l']):=by
  unfold Zi cd HZ
  rw [show IntKind.i64.wrap ((m:Int) - (a:Int))=((m - a:Nat):Int) by rw [wI _ (by omega) (by omega)]; omega,show IntKind.i64.wrap ((b:Int) - (m:Int))=((b - m:Nat):Int) by rw [wI _ (by omega) (by omega)]; omega]
  exact h2 100000000 (by omega)
 unfold Ky
 rw [this]
 rfl

theorem sX (i j:Nat) (h:i+j≤4000000):IntKind.i64.wrap (IntKind.u64.wrap (IntKind.i64.wrap ((i:Int)+(j:Int))) / 2)=(((i+j) / 2:Nat):Int):=by
 rw [wI ((i:Int)+(j:Int)) (by omega) (by omega),wU _ (by omega) (by omega),wI _ (by omega) (by omega)]
 omega

section
variable (o:SM) (k:Int)

theorem zgt (l:List (List (Sem zf))) (a m b:Nat) (hn:l.length≤1000) (ha:a < m) (hb:b≤l.length):∀ (s i j:Nat),j - i≤s→m≤i→i≤j→j≤b→(i=m∨¬ l.Pairwise (x3 k))→
  ∃ i',m≤i'∧i'≤b∧(i'=m∨¬ l.Pairwise (x3 k))∧aI (dt o) (s+1) (.h3 (a:Int) k (i:Int) (j:Int) l) (.h9 (i':Int) (a:Int) l):=by
 intro s
 induction s with
 | zero=>
  intro i j h1 h2 h3 h4 h5
  refine ⟨i,h2,by omega,h5,aI.of ?_⟩
  simp only [dt,Tr.val,iw (show ¬ i < j by omega),zO,if_false]
 | succ s IH=>
  intro i j h1 h2 h3 h4 h5
  by_cases hij:i < j
  case neg=>
   refine ⟨i,h2,by omega,h5,(aI.of ?_).mono (by omega)⟩
   simp only [dt,Tr.val,iw hij,zO,if_false]
  have e0:=sX i j (by omega)
  have hh:i≤(i+j) / 2∧(i+j) / 2 < j:=by omega
  generalize (i+j) / 2=h at e0 hh
  have e1:zE ((h:Nat):Int) l.length=true:=zG (by omega)
  have e2:decide (h < l.length)=true:=by simp; omega
  have e3:zE ((a:Nat):Int) l.length=true:=zG (by omega)
  have e4:decide (a < l.length)=true:=by simp; omega
  by_cases hc:x3 k (l.getD h (zj zf.sl)) (l.getD a (zj zf.sl))
  ·obtain ⟨i',q1,q2,q3,q4⟩:=IH (h+1) j (by omega) (by omega) (by omega) h4 (.inr (sY (i:=a) (j:=h) (by omega) (by omega) _ hc))
   refine ⟨i',q1,q2,q3,((aI.of ?_).trans q4).mono (by omega)⟩
   have e7:decide (LT.lt (α:=Int) (aR (ji k (l.getD h (zj zf.sl))) (ji k (l.getD a (zj zf.sl)))) 0)=true:=aZ hc
   simp only [dt,Tr.val,e0,bl]
   rw [jw,mf]
   simp only [zW hij,e1,e2,e3,e4,e7,if_true,zH h (by unfold zF; omega)]
  ·obtain ⟨i',q1,q2,q3,q4⟩:=IH i h (by omega) h2 (by omega) (by omega) h5
   refine ⟨i',q1,q2,q3,((aI.of ?_).trans q4).mono (by omega)⟩
   have e7:decide (LT.lt (α:=Int) (aR (ji k (l.getD h (zj zf.sl))) (ji k (l.getD a (zj zf.sl)))) 0)=false:=er hc
   simp only [dt,Tr.val,e0,bl]
   rw [jw,mf]
   simp only [zW hij,e1,e2,e3,e4,e7,if_true,zO,if_false]

theorem zgu (l0:List (List (Sem zf))) (i:Nat) (hn:l0.length≤1000) (hi:i≤l0.length):∀ (s c:Nat) (l:List (List (Sem zf))),i - c≤s→l.Perm l0→
  ∃ l',l'.Perm l0∧((i≤c+1)→l'=l)∧bL (dt o) (s+1) (.h9 (i:Int) (c:Int) l) (.tup [],[.vec zf.sl l']):=by
 intro s
 induction s with
 | zero=>
  intro c l h1 hp
  refine ⟨l,hp,fun _=>rfl,bL.of ?_⟩
  have e0:decide ((c:Int) < IntKind.i64.wrap ((i:Int) - 1))=false:=by
   by_cases h0:i=0
   ·subst h0
    rw [wI _ (by omega) (by omega)]
    simp only [decide_eq_false_iff_not]; omega
   ·rw [wI _ (by omega) (by omega)]
    simp only [decide_eq_false_iff_not]; omega
  simp only [dt,Tr.val,e0,zO,if_false]
 | succ s IH=>
  intro c l h1 hp
  have hlen:=hp.length_eq
  by_cases hc:c+1 < i
  case neg=>
   refine ⟨l,hp,fun _=>rfl,(bL.of ?_).mono (by omega)⟩
   have e0:decide ((c:Int) < IntKind.i64.wrap ((i:Int) - 1))=false:=by
    rw [wI _ (by omega) (by omega)]
    simp only [decide_eq_false_iff_not]; omega
   simp only [dt,Tr.val,e0,zO,if_false]
  have e0:decide ((c:Int) < IntKind.i64.wrap ((i:Int) - 1))=true:=by
   rw [wI _ (by omega) (by omega)]
   simp only [zZ]; omega
  have e1:zE ((c+1:Nat):Int) l.length=true:=zG (by omega)
  have e2:zE ((c:Nat):Int) l.length=true:=zG (by omega)
  have e3:decide (c+1 < l.length)=true:=by simp; omega
  have e4:decide (c < l.length)=true:=by simp; omega
  obtain ⟨l',q1,_,q3⟩:=IH (c+1) ((l.set c (l.getD (c+1) (zj zf.sl))).set (c+1) (l.getD c (zj zf.sl))) (by omega) ((nj (i:=c+1) (j:=c) (by omega) (by omega) _).trans hp)
  refine ⟨l',q1,fun h=>by omega,((aI.of ?_).ends q3).mono (by omega)⟩
  simp only [dt,Tr.val,e0,zH c (by unfold zF; omega),e1,e2,e3,e4,bl,jW,if_true]

theorem Zo (l:List (List (Sem zf))) (a m:Nat) (hn:l.length≤1000) (hm:m < l.length):∀ (s i j:Nat),j - i≤s→a≤i→i≤j→j≤m→(j=m∨¬ l.Pairwise (x3 k))→
  ∃ i',a≤i'∧i'≤m∧(i'=m∨¬ l.Pairwise (x3 k))∧aI (dt o) (s+1) (.h15 (m:Int) k (i:Int) (j:Int) l) (.h21 (i':Int) (m:Int) l):=by
 intro s
 induction s with
 | zero=>
  intro i j h1 h2 h3 h4 h5
  refine ⟨i,h2,by omega,h5.imp (fun h=>by omega) id,aI.of ?_⟩
  simp only [dt,Tr.val,iw (show ¬ i < j by omega),zO,if_false]
 | succ s IH=>
  intro i j h1 h2 h3 h4 h5
  by_cases hij:i < j
  case neg=>
   refine ⟨i,h2,by omega,h5.imp (fun h=>by omega) id,(aI.of ?_).mono (by omega)⟩
   simp only [dt,Tr.val,iw hij,zO,if_false]
  have e0:=sX i j (by omega)
  have hh:i≤(i+j) / 2∧(i+j) / 2 < j:=by omega
  generalize (i+j) / 2=h at e0 hh
  have e1:zE ((h:Nat):Int) l.length=true:=zG (by omega)
  have e2:decide (h < l.length)=true:=by simp; omega
  have e3:zE ((m:Nat):Int) l.length=true:=zG (by omega)
  have e4:decide (m < l.length)=true:=by simp; omega
  by_cases hc:x3 k (l.getD m (zj zf.sl)) (l.getD h (zj zf.sl))
  ·obtain ⟨i',q1,q2,q3,q4⟩:=IH i h (by omega) h2 (by omega) (by omega) (.inr (sY (i:=h) (j:=m) (by omega) (by omega) _ hc))
   refine ⟨i',q1,q2,q3,((aI.of ?_).trans q4).mono (by omega)⟩
   have e7:decide (LT.lt (α:=Int) (aR (ji k (l.getD m (zj zf.sl))) (ji k (l.getD h (zj zf.sl)))) 0)=true:=aZ hc
   simp only [dt,Tr.val,e0,bl]
   rw [jw,mf]
   simp only [zW hij,e1,e2,e3,e4,e7,if_true,iT,zO,if_false]
  ·obtain ⟨i',q1,q2,q3,q4⟩:=IH (h+1) j (by omega) (by omega) (by omega) h4 h5
   refine ⟨i',q1,q2,q3,((aI.of ?_).trans q4).mono (by omega)⟩
   have e7:decide (LT.lt (α:=Int) (aR (ji k (l.getD m (zj zf.sl))) (ji k (l.getD h (zj zf.sl)))) 0)=false:=er hc
   simp only [dt,Tr.val,e0,bl]
   rw [jw,mf]
   simp only [zW hij,e1,e2,e3,e4,e7,if_true,yu,zH h (by unfold zF; omega)]

theorem Zp (l0:List (List (Sem zf))) (i:Nat) (hn:l0.length≤1000):∀ (s c:Nat) (l:List (List (Sem zf))),c - i≤s→c < l0.length→l.Perm l0→
  ∃ l',l'.Perm l0∧(c≤i→l'=l)∧bL (dt o) (s+1) (.h21 (i:Int) (c:Int) l) (.tup [],[.vec zf.sl l']):=by
 intro s
 induction s with
 | zero=>
  intro c l h1 hcl hp
  refine ⟨l,hp,fun _=>rfl,bL.of ?_⟩
  have e0:decide ((c:Int) > (i:Int))=false:=by simp; omega
  simp only [dt,Tr.val,e0,zO,if_false]
 | succ s IH=>
  intro c l h1 hcl hp
  have hlen:=hp.length_eq
  by_cases hc:i < c
  case neg=>
   refine ⟨l,hp,fun _=>rfl,(bL.of ?_).mono (by omega)⟩
   have e0:decide ((c:Int) > (i:Int))=false:=by simp; omega
   simp only [dt,Tr.val,e0,zO,if_false]
  obtain ⟨c,rfl⟩:∃ c',c=c'+1:=⟨c - 1,by omega⟩
  have e0:decide (((c+1:Nat):Int) > (i:Int))=true:=Gc hc
  have e1:zE ((c+1:Nat):Int) l.length=true:=zG (by omega)
  have e2:zE ((c:Nat):Int) l.length=true:=zG (by omega)
  have e3:decide (c+1 < l.length)=true:=by simp; omega
  have e4:decide (c < l.length)=true:=by simp; omega
  have e5:IntKind.i64.wrap (((c+1:Nat):Int) - 1)=(c:Int):=qf c (by unfold zF; omega)
  obtain ⟨l',q1,_,q3⟩:=IH c ((l.set (c+1) (l.getD c (zj zf.sl))).set c (l.getD (c+1) (zj zf.sl))) (by omega) (by omega) ((nj (i:=c) (j:=c+1) (by omega) (by omega) _).trans hp)
  refine ⟨l',q1,fun h=>by omega,((aI.of ?_).ends q3).mono (by omega)⟩
  simp only [dt,Tr.val,e0,e5,e1,e2,e3,e4,bl,jW,if_true]
end

section
variable (o:SM) (k:Int)

theorem OX (l:List (List (Sem zf))) (a m b mid n p lo r0:Nat) (hn:l.length≤1000) (hr0:r0≤1000) (hp:p≤2000) (hB:∀ c,lo≤c→c < r0→c+c < p∧p < l.length+c):∀ (s i j:Nat),j - i≤s→lo≤i→i≤j→j≤r0→(j=r0∨¬ l.Pairwise (x3 k))→
  ∃ i',lo≤i'∧i'≤r0∧(i'=r0∨¬ l.Pairwise (x3 k))∧aI (dt o) s (.h33 (a:Int) (m:Int) (b:Int) k (mid:Int) (n:Int) (i:Int) (j:Int) (p:Int) l) (.h33 (a:Int) (m:Int) (b:Int) k (mid:Int) (n:Int) (i':Int) (i':Int) (p:Int) l):=by
 intro s
 induction s with
 | zero=>
  intro i j h1 h2 h3 h4 h5
  obtain rfl:i=j:=by omega
  exact ⟨i,h2,h4,h5,aI.refl _⟩
 | succ s IH=>
  intro i j h1 h2 h3 h4 h5
  by_cases hij:i < j
  case neg=>
   obtain rfl:i=j:=by omega
   exact ⟨i,h2,h4,h5,(aI.refl _).mono (by omega)⟩
  have e0:=sX i j (by omega)
  have hh:i≤(i+j) / 2∧(i+j) / 2 < j:=by omega
  generalize (i+j) / 2=h at e0 hh
  obtain ⟨b1,b2⟩:=hB h (by omega) (by omega)
  have e5:IntKind.i64.wrap ((p:Int) - (h:Int))=((p - h:Nat):Int):=by rw [wI _ (by omega) (by omega)]; omega
  have e1:zE ((h:Nat):Int) l.length=true:=zG (by omega)
  have e2:decide (h < l.length)=true:=by simp; omega
  have e3:zE ((p - h:Nat):Int) l.length=true:=zG (by omega)
  have e4:decide (p - h < l.length)=true:=by simp; omega
  by_cases hc:x3 k (l.getD (p - h) (zj zf.sl)) (l.getD h (zj zf.sl))
  ·obtain ⟨i',q1,q2,q3,q4⟩:=IH i h (by omega) h2 (by omega) (by omega) (.inr (sY (i:=h) (j:=p - h) (by omega) (by omega) _ hc))
   refine ⟨i',q1,q2,q3,((aI.of ?_).trans q4).mono (by omega)⟩
   have e7:decide (LT.lt (α:=Int) (aR (ji k (l.getD (p - h) (zj zf.sl))) (ji k (l.getD h (zj zf.sl)))) 0)=true:=aZ hc
   simp only [dt,Tr.val,e0,e5,bl]
   rw [jw,mf]
   simp only [zW hij,e1,e2,e3,e4,e7,if_true,iT,zO,if_false]
  ·obtain ⟨i',q1,q2,q3,q4⟩:=IH (h+1) j (by omega) (by omega) (by omega) h4 h5
   refine ⟨i',q1,q2,q3,((aI.of ?_).trans q4).mono (by omega)⟩
   have e7:decide (LT.lt (α:=Int) (aR (ji k (l.getD (p - h) (zj zf.sl))) (ji k (l.getD h (zj zf.sl)))) 0)=false:=er hc
   simp only [dt,Tr.val,e0,e5,bl]
   rw [jw,mf]
   simp only [zW hij,e1,e2,e3,e4,e7,if_true,yu,zH h (by unfold zF; omega)]

theorem QK {a b c d:Nat}:(bif decide ((a:Int) < (b:Int)) then decide ((c:Int) < (d:Int)) else false)=decide (a < b∧c < d):=by
 by_cases h:a < b
 ·have:decide ((a:Int) < (b:Int))=true:=by simpa using h
  rw [this]
  simp [h]
 ·have:decide ((a:Int) < (b:Int))=false:=by simpa using h
  rw [this]
  simp [h]

theorem OW {D:Nat} (hO:∀ (l:List (List (Sem zf))) (a m b:Nat),l.length≤1000→a < m→m < b→b≤l.length→b - a≤D→∃ l',o l a m b k=some l'∧Kp k l l') (l:List (List (Sem zf))) (a m b mid n st en:Nat) (p:Int) (hn:l.length≤1000) (hb:b≤l.length) (he:n=st+en) (_:n≤2000)
  (_:a≤st) (h2:en≤b) (h3:mid - a≤D) (h4:b - mid≤D) (hmb:mid≤b) (hr:st < m→m < en→¬ l.Pairwise (x3 k)):
  ∃ l',Kp k l l'∧(dt o (.h33 (a:Int) (m:Int) (b:Int) k (mid:Int) (n:Int) (st:Int) (st:Int) p l)).val=some (.inr (.tup [],[.vec zf.sl l'])):=by
 have e0:IntKind.i64.wrap ((n:Int) - (st:Int))=(en:Int):=by rw [wI _ (by omega) (by omega)]; omega
 have e1:decide ((st:Int) < (st:Int))=false:=by simp
 obtain ⟨l1,p1,p2⟩:∃ l1,Kp k l l1∧(if st < m∧m < en then Ky l st m en k=some l1 else l1=l):=by
  by_cases h:st < m∧m < en
  ·obtain ⟨l1,q1,q2⟩:=Zk l st m en k hn h.1 h.2 (by omega)
   exact ⟨l1,Kp.perm q2 (hr h.1 h.2),by rw [if_pos h]; exact q1⟩
  ·exact ⟨l,Kp.refl,by rw [if_neg h]⟩
 obtain ⟨l2,p3,p4⟩:∃ l2,Kp k l1 l2∧(if a < st∧st < mid then o l1 a st mid k=some l2 else l2=l1):=by
  by_cases h:a < st∧st < mid
  ·obtain ⟨l2,q1,q2⟩:=hO l1 a st mid (by rw [p1.len]; exact hn) h.1 h.2 (by rw [p1.len]; omega) h3
   exact ⟨l2,q2,by rw [if_pos h]; exact q1⟩
  ·exact ⟨l1,Kp.refl,by rw [if_neg h]⟩
 obtain ⟨l3,p5,p6⟩:∃ l3,Kp k l2 l3∧(if mid < en∧en < b then o l2 mid en b k=some l3 else l3=l2):=by
  by_cases h:mid < en∧en < b
  ·obtain ⟨l3,q1,q2⟩:=hO l2 mid en b (by rw [p3.len,p1.len]; exact hn) h.1 h.2 (by rw [p3.len,p1.len]; omega) h4
   exact ⟨l3,q2,by rw [if_pos h]; exact q1⟩
  ·exact ⟨l2,Kp.refl,by rw [if_neg h]⟩
 refine ⟨l3,(p1.trans p3).trans p5,?_⟩
 simp only [dt,Tr.val,e0,e1,QK,zO,if_false]
 by_cases c1:st < m∧m < en
 ·rw [if_pos c1] at p2
  by_cases c2:a < st∧st < mid
  ·rw [if_pos c2] at p4
   by_cases c3:mid < en∧en < b
   ·rw [if_pos c3] at p6
    simp only [aZ c1,aZ c2,aZ c3,p2,p4,p6,ep,bA,if_true]
   ·rw [if_neg c3] at p6
    subst p6
    simp only [aZ c1,aZ c2,er c3,p2,p4,ep,bA,if_true,zO,if_false]
  ·rw [if_neg c2] at p4
   subst p4
   by_cases c3:mid < en∧en < b
   ·rw [if_pos c3] at p6
    simp only [aZ c1,er c2,aZ c3,p2,p6,ep,bA,if_true,zO,if_false]
   ·rw [if_neg c3] at p6
    subst p6
    simp only [aZ c1,er c2,er c3,p2,ep,bA,if_true,zO,if_false]
 ·rw [if_neg c1] at p2
  subst p2
  by_cases c2:a < st∧st < mid
  ·rw [if_pos c2] at p4
   by_cases c3:mid < en∧en < b
   ·rw [if_pos c3] at p6
    simp only [er c1,aZ c2,aZ c3,p4,p6,ep,bA,if_true,zO,if_false]
   ·rw [if_neg c3] at p6
    subst p6
    simp only [er c1,aZ c2,er c3,p4,ep,bA,if_true,zO,if_false]
  ·rw [if_neg c2] at p4
   subst p4
   by_cases c3:mid < en∧en < b
   ·rw [if_pos c3] at p6
    simp only [er c1,er c2,aZ c3,p6,ep,bA,if_true,zO,if_false]
   ·rw [if_neg c3] at p6
    subst p6
    simp only [er c1,er c2,er c3,zO,if_false]
end

theorem CG {o:SM} {l l':List (List (Sem zf))} {a m b k:Int} (h:cd (dt o) 100000000 (r8 o l a m b k)=some (.tup [],[.vec zf.sl l'])):smS o l a m b k=some l':=by
 unfold smS
 rw [h]
 rfl

theorem OY (k:Int):∀ (N:Nat) (l:List (List (Sem zf))) (a m b:Nat),l.length≤1000→a < m→m < b→b≤l.length→b - a≤2 ^ N→∃ l',xl N l a m b k=some l'∧Kp k l l'
 | 0,_,a,m,b,_,h1,h2,_,h4=>by simp at h4; omega
 | N+1,l,a,m,b,hn,h1,h2,h3,h4=>by
  have hO:=OY k N
  have e0:IntKind.i64.wrap ((m:Int) - (a:Int))=((m - a:Nat):Int):=by rw [wI _ (by omega) (by omega)]; omega
  have e1:IntKind.i64.wrap ((b:Int) - (m:Int))=((b - m:Nat):Int):=by rw [wI _ (by omega) (by omega)]; omega
  by_cases c1:m - a=1
  ·obtain ⟨i',q1,q2,q3,q4⟩:=zgt (xl N) k l a m b hn h1 h3 (b - m) m b (aM _) (aM _) (by omega) (aM _) (.inl rfl)
   obtain ⟨l',r1,r2,r3⟩:=zgu (xl N) l i' hn (by omega) (i' - a) a l (aM _) (.refl l)
   refine ⟨l',CG ?_,?_⟩
   ·have c1':(((m - a:Nat):Int)==1)=true:=by rw [c1]; rfl
    unfold cd
    simp only [r8,Tr.val,e0,c1',if_true]
    exact (q4.ends r3) 100000000 (by omega)
   ·rcases q3 with rfl | q3
    ·rw [r2 (by omega)]; exact Kp.refl
    ·exact Kp.perm r1 q3
  have c1':(((m - a:Nat):Int)==1)=false:=by simp; omega
  by_cases c2:b - m=1
  ·obtain ⟨i',q1,q2,q3,q4⟩:=Zo (xl N) k l a m hn (by omega) (m - a) a m (aM _) (aM _) (by omega) (aM _) (.inl rfl)
   obtain ⟨l',r1,r2,r3⟩:=Zp (xl N) l i' hn (m - i') m l (aM _) (by omega) (.refl l)
   refine ⟨l',CG ?_,?_⟩
   ·have c2':(((b - m:Nat):Int)==1)=true:=by rw [c2]; rfl
    unfold cd
    simp only [r8,Tr.val,e0,e1,c1',c2',if_true,zO,if_false]
    exact (q4.ends r3) 100000000 (by omega)
   ·rcases q3 with rfl | q3
    ·rw [r2 (aM _)]; exact Kp.refl
    ·exact Kp.perm r1 q3
  have c2':(((b - m:Nat):Int)==1)=false:=by simp; omega
  have e2:=sX a b (by omega)
  have hmid:a≤(a+b) / 2∧(a+b) / 2≤b∧2 * ((a+b) / 2)≤a+b∧a+b≤2 * ((a+b) / 2)+1:=by omega
  generalize (a+b) / 2=mid at e2 hmid
  obtain ⟨g1,g2,g3,g4⟩:=hmid
  have hD:mid - a≤2 ^ N∧b - mid≤2 ^ N:=by rw [Nat.pow_succ] at h4; omega
  have e3:IntKind.i64.wrap ((mid:Int)+(m:Int))=((mid+m:Nat):Int):=by rw [wI _ (by omega) (by omega)]; omega
  have e4:IntKind.i64.wrap (((mid+m:Nat):Int) - 1)=((mid+m - 1:Nat):Int):=by rw [wI _ (by omega) (by omega)]; omega
  by_cases c3:mid < m
  ·
   have e5:IntKind.i64.wrap (((mid+m:Nat):Int) - (b:Int))=((mid+m - b:Nat):Int):=by rw [wI _ (by omega) (by omega)]; omega
   have c3':decide ((m:Int) > (mid:Int))=true:=Gc c3
   obtain ⟨st,q1,q2,q3,q4⟩:=OX (xl N) k l a m b mid (mid+m) (mid+m - 1) (mid+m - b) mid hn (by omega) (by omega) (fun c u1 u2=>by omega) (mid - (mid+m - b)) (mid+m - b) mid (aM _) (aM _) (by omega) (aM _) (.inl rfl)
   obtain ⟨l',r1,r2⟩:=OW (xl N) k hO l a m b mid (mid+m) st (mid+m - st) ((mid+m - 1:Nat):Int) hn h3 (by omega) (by omega) (by omega) (by omega) hD.1 hD.2 g2 (fun u1 u2=>by
    rcases q3 with rfl | q3
    ·omega
    ·exact q3)
   refine ⟨l',CG ?_,r1⟩
   unfold cd
   simp only [r8,Tr.val,e0,e1,e2,e3,e4,e5,c1',c2',c3',if_true,zO,if_false]
   exact (q4.ends (bL.of r2)) 100000000 (by omega)
  ·have c3':decide ((m:Int) > (mid:Int))=false:=by simp; omega
   obtain ⟨st,q1,q2,q3,q4⟩:=OX (xl N) k l a m b mid (mid+m) (mid+m - 1) a m hn (by omega) (by omega) (fun c u1 u2=>by omega) (m - a) a m (aM _) (aM _) (by omega) (aM _) (.inl rfl)
   obtain ⟨l',r1,r2⟩:=OW (xl N) k hO l a m b mid (mid+m) st (mid+m - st) ((mid+m - 1:Nat):Int) hn h3 (by omega) (by omega) (by omega) (by omega) hD.1 hD.2 g2 (fun u1 u2=>by
    rcases q3 with rfl | q3
    ·omega
    ·exact q3)
   refine ⟨l',CG ?_,r1⟩
   unfold cd
   simp only [r8,Tr.val,e0,e1,e2,e3,e4,c1',c2',c3',if_true,zO,if_false]
   exact (q4.ends (bL.of r2)) 100000000 (by omega)

theorem zjr (k:Int) (l0:List (List (Sem zf))) (bs:Nat) (hn:l0.length≤1000) (hb:1≤bs) (hb2:bs≤1000):∀ (s a:Nat) (l:List (List (Sem zf))),l0.length - a≤s→a≤l0.length→Kp k l0 l→
  ∃ l',Kp k l0 l'∧aI il (s+1) (.h9 (l0.length:Int) k (bs:Int) (a:Int) ((a+2 * bs:Nat):Int) l) (.h7 (l0.length:Int) k ((2 * bs:Nat):Int) l'):=by
 intro s
 induction s with
 | zero=>
  intro a l hs ha hk
  refine ⟨l,hk,aI.of ?_⟩
  have e0:IntKind.i64.wrap ((a:Int)+(bs:Int))=((a+bs:Nat):Int):=by rw [wI _ (by omega) (by omega)]; omega
  have e1:IntKind.i64.wrap ((bs:Int) * 2)=((2 * bs:Nat):Int):=by rw [wI _ (by omega) (by omega)]; omega
  have e2:decide (((a+2 * bs:Nat):Int)≤(l0.length:Int))=false:=by simp; omega
  simp only [il,Tr.val,e0,e1,e2,iw (show ¬ a+bs < l0.length by omega),zO,if_false]
 | succ s IH=>
  intro a l hs ha hk
  have hlen:=hk.len
  have e0:IntKind.i64.wrap ((a:Int)+(bs:Int))=((a+bs:Nat):Int):=by rw [wI _ (by omega) (by omega)]; omega
  have e1:IntKind.i64.wrap ((bs:Int) * 2)=((2 * bs:Nat):Int):=by rw [wI _ (by omega) (by omega)]; omega
  have e3:IntKind.i64.wrap (((a+2 * bs:Nat):Int)+IntKind.i64.wrap (2 * (bs:Int)))=((a+2 * bs+2 * bs:Nat):Int):=by rw [wI (2 * (bs:Int)) (by omega) (by omega),wI _ (by omega) (by omega)]; omega
  by_cases c1:a+2 * bs≤l0.length
  ·obtain ⟨l1,q1,q2⟩:=OY k 16 l a (a+bs) (a+2 * bs) (by omega) (by omega) (by omega) (by omega) (by simp; omega)
   obtain ⟨l',q3,q4⟩:=IH (a+2 * bs) l1 (by omega) c1 (hk.trans q2)
   refine ⟨l',q3,((aI.of ?_).trans q4).mono (by omega)⟩
   have e2:decide (((a+2 * bs:Nat):Int)≤(l0.length:Int))=true:=by simp; omega
   simp only [il,Tr.val,e0,e2,e3,q1,ep,bA,if_true]
  ·have e2:decide (((a+2 * bs:Nat):Int)≤(l0.length:Int))=false:=by simp; omega
   by_cases c2:a+bs < l0.length
   ·obtain ⟨l1,q1,q2⟩:=OY k 16 l a (a+bs) l0.length (by omega) (by omega) c2 (by omega) (by simp; omega)
    refine ⟨l1,hk.trans q2,(aI.of ?_).mono (by omega)⟩
    simp only [il,Tr.val,e0,e1,e2,zW c2,q1,ep,bA,if_true,zO,if_false]
   ·refine ⟨l,hk,(aI.of ?_).mono (by omega)⟩
    simp only [il,Tr.val,e0,e1,e2,iw c2,zO,if_false]

theorem zjq (k:Int) (l0:List (List (Sem zf))) (hn:l0.length≤1000):∀ (s bs:Nat) (l:List (List (Sem zf))),l0.length - bs≤s→1≤bs→Kp k l0 l→
  ∃ l',Kp k l0 l'∧bL il (s * 1002+1) (.h7 (l0.length:Int) k (bs:Int) l) (.tup [],[.vec zf.sl l']):=by
 intro s
 induction s with
 | zero=>
  intro bs l hs hb hk
  refine ⟨l,hk,(bL.of ?_).mono (by omega)⟩
  simp only [il,Tr.val,iw (show ¬ bs < l0.length by omega),zO,if_false]
 | succ s IH=>
  intro bs l hs hb hk
  by_cases c:bs < l0.length
  case neg=>
   refine ⟨l,hk,(bL.of ?_).mono (by omega)⟩
   simp only [il,Tr.val,iw c,zO,if_false]
  obtain ⟨l1,q1,q2⟩:=zjr k l0 bs hn hb (by omega) l0.length 0 l (by omega) (by omega) hk
  obtain ⟨l',q3,q4⟩:=IH (2 * bs) l1 (by omega) (by omega) q1
  refine ⟨l',q3,(((aI.of ?_).trans q2).ends q4).mono (by omega)⟩
  have e1:IntKind.i64.wrap (2 * (bs:Int))=((0+2 * bs:Nat):Int):=by rw [wI _ (by omega) (by omega)]; omega
  simp only [il,Tr.val,zW c,e1,if_true]
  rfl

theorem zjp (k:Int) (l0:List (List (Sem zf))) (hn:l0.length≤1000):∀ (s a:Nat) (l:List (List (Sem zf))),l0.length - a≤s→a≤l0.length→Kp k l0 l→
  ∃ l',Kp k l0 l'∧aI il (s+1) (.h2 (l0.length:Int) k 20 (a:Int) ((a+20:Nat):Int) l) (.h7 (l0.length:Int) k 20 l'):=by
 intro s
 induction s with
 | zero=>
  intro a l hs ha hk
  have hlen:=hk.len
  obtain ⟨l1,q1,q2⟩:=vN l a l0.length k (by omega) (by omega) (by omega)
  refine ⟨l1,hk.trans q2,aI.of ?_⟩
  have e2:decide (((a+20:Nat):Int)≤(l0.length:Int))=false:=by simp; omega
  simp only [il,Tr.val,e2,q1,ep,bA,if_true,zO,if_false]
 | succ s IH=>
  intro a l hs ha hk
  have hlen:=hk.len
  by_cases c:a+20≤l0.length
  ·obtain ⟨l1,q1,q2⟩:=vN l a (a+20) k (by omega) (by omega) (by omega)
   obtain ⟨l',q3,q4⟩:=IH (a+20) l1 (by omega) c (hk.trans q2)
   refine ⟨l',q3,((aI.of ?_).trans q4).mono (by omega)⟩
   have e2:decide (((a+20:Nat):Int)≤(l0.length:Int))=true:=by simp; omega
   have e3:IntKind.i64.wrap (((a+20:Nat):Int)+20)=((a+20+20:Nat):Int):=by rw [wI _ (by omega) (by omega)]; omega
   simp only [il,Tr.val,e2,e3,q1,ep,bA,if_true]
  ·obtain ⟨l1,q1,q2⟩:=vN l a l0.length k (by omega) (by omega) (by omega)
   refine ⟨l1,hk.trans q2,(aI.of ?_).mono (by omega)⟩
   have e2:decide (((a+20:Nat):Int)≤(l0.length:Int))=false:=by simp; omega
   simp only [il,Tr.val,e2,q1,ep,bA,if_true,zO,if_false]

theorem RW (k:Int) (l:List (List (Sem zf))) (hn:l.length≤1000):∃ l',Fa l (l.length:Int) k=some l'∧Kp k l l':=by
 obtain ⟨l1,q1,q2⟩:=zjp k l hn l.length 0 l (by omega) (by omega) Kp.refl
 obtain ⟨l',q3,q4⟩:=zjq k l hn l.length 20 l1 (by omega) (by omega) q1
 refine ⟨l',?_,q3⟩
 have:UV l (l.length:Int) k=some (.tup [],[.vec zf.sl l']):=by
  have h9:=eP 1002 hn
  exact (q2.ends q4) 100000000 (by
   refine cC (Nat.add_le_add (Nat.succ_le_succ h9) (Nat.succ_le_succ hn)) (by decide))
 unfold Fa
 rw [this]
 rfl
theorem E8 (k:Int) (l:List (List (Sem zf))) (hn:l.length≤1000):∃ l',rC l k=some l'∧Kp k l l':=by
 obtain ⟨l',q1,q2⟩:=RW k l hn
 refine ⟨l',?_,q2⟩
 have:G4 l k=some (.tup [],[.vec zf.sl l']):=by
  unfold G4 cd
  simp only [HX,Tr.val,q1,ep,bA,if_true]
 unfold rC
 rw [this]
 rfl

theorem OG {x:Sem zh} (hc:Fy x=true) (hn:x.2.length≤1000):∃ l',Cr x=some ((x.1,l'),())∧l'.Perm x.2∧(gS x.1=true→Kp x.1.2.2.1 x.2 l'):=by
 have fin:∀ l':List (List (Sem zf)),ae [AO.vec zi x.1.2.1,AO.vec zg x.1.2.2.2.1,AO.vec zp x.1.2.2.2.2.1,AO.vec zf.sl l'] [zh] (AV.agg [AV.str x.1.1,AV.vec 0,AV.int .i64 x.1.2.2.1,AV.vec 1,AV.vec 2,AV.str (ze.op x.1.2.2.2.2.2),AV.int .i64 (ze.v x.1.2.2.2.2.2).1,AV.int .i64 (ze.v x.1.2.2.2.2.2).2.1,AV.str (ze.v x.1.2.2.2.2.2).2.2,AV.str (ze.s x.1.2.2.2.2.2),AV.sl Sh.expr (ze.l x.1.2.2.2.2.2),AV.vec 3])=some (((x.1,l'):Sem zh),()):=by
  intro l'
  obtain ⟨⟨a,b,c,d,e,f⟩,r⟩:=x
  cases f
  rfl
 cases hm:gS x.1 with
 | true=>
  obtain ⟨l',q1,q2⟩:=E8 x.1.2.2.1 x.2 hn
  refine ⟨l',gN (r:=(_,_)) ?_ (fin l'),q2.1,fun _=>q2⟩
  simp only [XY,Tr.val,zo,Prod.eta,hc,hm,q1,ep,bA,iT,zO,if_true,if_false]
 | false=>
  obtain ⟨l',q1,q2⟩:=E8 (-1) x.2 hn
  refine ⟨l',gN (r:=(_,_)) ?_ (fin l'),q2.1,fun h=>(by cases h)⟩
  simp only [XY,Tr.val,zo,Prod.eta,hc,hm,q1,ep,bA,yu,if_true]

theorem oK {a0 a1 a2 a3 a4 a5 a6 a7 a8 a9 b0 b1 b2 b3 b4 b5 b6 d0 d1 d2 d3 d4 d5 d6 d7 d8 d9}:∀ (l:List (Sem zp)) (i:Int) (acc:List (Sem zp)),
  (eF a0 a1 a2 a3 a4 a5 a6 a7 a8 a9 b0 b1 b2 b3 b4 b5 b6 d0 d1 d2 d3 d4 d5 d6 d7 d8 d9 l i acc).2.2.2.2.2=ze.mk d3 (d4,d5,d6) d7 d8
 | [],_,_=>rfl
 | x::r,i,acc=>by
  rw [eF]
  split
  ·exact oK r (i+1) _
  ·rfl
theorem xr {a0 a1 a2 a3 a4 a5 a6 a7 a8 a9 b0 b1 b2 b3 b4 b5 b6 d0 d1 d2 d3 d4 d5 d6 d7 d8 d9}:∀ (l:List (Sem zg)) (i:Int) (acc:List (Sem zg)),
  (dV a0 a1 a2 a3 a4 a5 a6 a7 a8 a9 b0 b1 b2 b3 b4 b5 b6 d0 d1 d2 d3 d4 d5 d6 d7 d8 d9 l i acc).2.2.2.2.2=ze.mk d3 (d4,d5,d6) d7 d8
 | [],i,acc=>by
  rw [dV]
  exact oK _ _ _
 | x::r,i,acc=>by
  rw [dV]
  split
  ·exact xr r (i+1) _
  ·exact oK _ _ _
theorem R4 (t:Sem zt):lR 16 (iD t).2.2.2.2.2=true:=by
 have h:(iD t).2.2.2.2.2=bg t.2.2.2.2.2:=by
  unfold iD
  rw [xr]
  exact ze.eta _
 rw [h]
 exact QY _

structure ql (x:Sem zh):Prop where
 sh:eR x
 cp:lR 16 x.1.2.2.2.2.2=true

theorem pq (x:Sem zh):ql (gL x):=by
 refine ⟨Ee x,?_⟩
 obtain ⟨rows,h1,h2⟩:=me x
 have h3:gL x=(iD x.1,rows):=by unfold gL; rw [h2]; rfl
 rw [h3]
 exact R4 x.1

set_option maxHeartbeats 1000000

def Ins (n:zn) (r:List (Sem zf)) (db d:List (Sem zh)):Prop:=
 ∃ (i:Nat) (s:List (List (Sem zf))),aF db n=(i:Int)∧s.Perm ((db.getD i (zj zh)).2++[r])∧d=db.set i ((db.getD i (zj zh)).1,s)∧dS d
inductive Da (n:zn) (db:List (Sem zh)):List (List (Sem zf))→List (Sem zh)→Prop
 | nil:Da n db [] db
 | snoc {l:List (List (Sem zf))} {d:List (Sem zh)} {r:List (Sem zf)} {d':List (Sem zh)} (h:Da n db l d) (hi:Ins n r d d'):Da n db (l++[r]) d'

theorem E6 {α:Type} {l:List α} {i:Nat} {d:α}:l.set i (l.getD i d)=l:=by
 refine yp fun j=>?_
 rw [jq]
 by_cases e:i=j
 ·subst e
  rw [if_pos rfl]
  by_cases hi:i < l.length
  ·rw [if_pos hi,aB,zI hi]; rfl
  ·rw [if_neg hi,dd (by omega)]
 ·rw [if_neg e]
theorem Mq {α:Type} {l:List α} {i:Nat} {a d:α} (hi:i < l.length):(l.set i a).getD i d=a:=by
 rw [aB,lN hi]; rfl
theorem HU {db:List (Sem zh)} {n:zn} {i:Nat} (h:aF db n=(i:Int)):i < db.length:=by
 have:=kf (s:=n) (l:=db) (by rw [h]; exact Int.natCast_nonneg i)
 rw [h] at this
 simp only [zE,aE,zZ] at this
 omega

theorem Da.is {n:zn} {db d:List (Sem zh)} {l:List (List (Sem zf))} (h:Da n db l d) {i:Nat} (hi:aF db n=(i:Int)):
  ∃ s,d=db.set i ((db.getD i (zj zh)).1,s)∧s.Perm ((db.getD i (zj zh)).2++l):=by
 induction h with
 | nil=>exact ⟨(db.getD i (zj zh)).2,E6.symm,by rw [nB]⟩
 | snoc h hx IH=>
  obtain ⟨s,rfl,hs⟩:=IH
  obtain ⟨j,s',hj,hp,rfl,_⟩:=hx
  have hf:aF (db.set i ((db.getD i (zj zh)).1,s)) n=(i:Int):=by rw [Jx (x:=((db.getD i (zj zh)).1,s)) rfl,hi]
  obtain rfl:i=j:=Int.ofNat_inj.1 (hf.symm.trans hj)
  have hl:=HU hi
  have hg:(db.set i ((db.getD i (zj zh)).1,s)).getD i (zj zh)=((db.getD i (zj zh)).1,s):=Mq hl
  rw [hg] at hp ⊢
  refine ⟨s',by rw [List.set_set],?_⟩
  rw [← List.append_assoc]
  exact hp.trans (hs.append_right _)

theorem Da.order {n:zn} {db d d':List (Sem zh)} {l l':List (List (Sem zf))} (h:Da n db l d) (h':Da n db l' d') (hp:l.Perm l') (hd:dS d) (hd':dS d') (hf:(0:Int)≤aF db n):d=d':=by
 obtain ⟨i,hi⟩:∃ i:Nat,aF db n=(i:Int):=⟨toNat (aF db n),(Int.toNat_of_nonneg hf).symm⟩
 obtain ⟨s,rfl,hs⟩:=h.is hi
 obtain ⟨s',rfl,hs'⟩:=h'.is hi
 have hl:=HU hi
 have m:∀ y,dS (db.set i y)→cQ y:=fun y hy=>hy.rels y (List.mem_iff_getElem?.2 ⟨i,lN hl⟩)
 rw [cQ.eq_of_perm (m _ hd) (m _ hd') (hs.trans ((hp.append_left _).trans hs'.symm))]


theorem GY {x:Sem zh} (h:eR x):∃ e:Int,m8 x=true∧rp x=e∧(e=0↔cQ x):=by
 obtain ⟨e,h1,h2⟩:=sk h
 exact ⟨e,by unfold m8; rw [h1]; rfl,by unfold rp; rw [h1]; rfl,h2⟩

theorem FA {db:List (Sem zh)} {s:Sem zy} {t:Sem zt} {rows:List (List (Sem zf))} {i:Nat} (n:Int) (hB:dS db) (hs:∀ y∈db,ql y) (h:aF db t.1=(i:Int)) (ht:(db.getD i (zj zh)).1=t) (hl:rows.length≤1000) (hr:∀ r∈rows,length r≤1000):
  ∃ (l:List (List (Sem zf))) (e:Int) (b:Bool),l.Perm rows∧Kp t.2.2.1 rows l∧(e=0↔cQ (t,l))∧(e=0→(b=true↔C1 (db.set i (t,l))))∧
   gG (db,s) (t,rows) n=some (if e=0 then (if b=true then db.set i (t,l) else []) else [],if e=0 then (if b=true then (0,n,[]) else Dn 10) else Dn e,()):=by
 have hf:(0:Int)≤aF db t.1:=by rw [h]; omega
 have hm:=D4 hf
 rw [show toNat (aF db t.1)=i by rw [h]; rfl] at hm
 have hro:=hB.rels _ hm
 have hsc:=hs _ hm
 obtain ⟨_,_,_,h8,_⟩:=gu hro.may
 rw [ht] at h8
 have hmay:gS t=true:=by rw [← ht]; exact hro.may
 have hcp:Fy ((t,rows):Sem zh)=true:=by
  have u1:=hsc.sh.uq
  have u2:=hsc.sh.rf
  have u3:=hsc.cp
  rw [ht] at u1 u2 u3
  unfold Fy
  simp only [aE,zZ,cR]
  exact ⟨⟨⟨⟨⟨cC h8 (by omega),cC u1 (by omega)⟩,cC u2 (by omega)⟩,u3⟩,cC hl (by omega)⟩,fun r hr'=>cC (hr r hr') (by omega)⟩
 obtain ⟨l,p1,p2,p3⟩:=OG (x:=((t,rows):Sem zh)) hcp hl
 have hk:=p3 hmay
 have hll:l.length≤1000:=by rw [p2.length_eq]; exact hl
 have hshort:eR ((t,l):Sem zh):=by
  have u1:=hsc.sh.uq
  have u2:=hsc.sh.rf
  rw [ht] at u1 u2
  exact ⟨u1,u2,hll⟩
 obtain ⟨e,c1,c2,c3⟩:=GY hshort
 have s1:GZ ((t,rows):Sem zh)=true:=by unfold GZ; rw [p1]; rfl
 have s2:OF ((t,rows):Sem zh)=(t,l):=by unfold OF; rw [p1]; rfl
 have hd12:db.length≤12:=hB.few
 by_cases he:e=0
 case neg=>
  refine ⟨l,e,false,p2,hk,c3,fun h'=>absurd h' he,?_⟩
  have he':(e != 0)=true:=by simpa using he
  obtain ⟨f1,f2⟩:=uz e
  rw [if_neg he,if_neg he]
  unfold gG zT cd
  simp only [XW,Tr.val,zo,Prod.eta,s1,s2,c1,c2,he',f1,f2,if_true]
  rfl
 have hok:=c3.1 he
 have hset:∀ y∈db.set i (t,l),cQ y:=fun y hy=>by
  rcases tY hy with hy | rfl
  ·exact hB.rels y hy
  ·exact hok
 obtain ⟨b,b1,b2⟩:=rR (db:=db.set i (t,l)) (fun y hy=>(hset y hy).cols) (KB (fun y hy=>(hs y hy).sh) hshort) (by rw [jW]; omega)
 have hw:qw db ((t,l):Sem zh)=some (db.set i (t,l),()):=JC (y:=((t,l):Sem zh)) h (by omega)
 have hwc:qv db ((t,l):Sem zh)=true:=by unfold qv; rw [hw]; rfl
 have hwv:yB db ((t,l):Sem zh)=db.set i (t,l):=by unfold yB; rw [hw]; rfl
 have hkk:=Lp n b1
 have hkc:qu (db.set i (t,l)) n=true:=by unfold qu; rw [hkk]; rfl
 have hkv:yA (db.set i (t,l)) n=(if b=true then db.set i (t,l) else [],if b=true then (0,n,[]) else Dn 10):=by unfold yA; rw [hkk]; rfl
 refine ⟨l,e,b,p2,hk,c3,fun _=>b2,?_⟩
 have he':(e != 0)=false:=by simpa using he
 rw [if_pos he,if_pos he]
 unfold gG zT cd
 simp only [XW,Tr.val,zo,Prod.eta,s1,s2,c1,c2,he',hwc,hwv,hkc,hkv,if_true,zO,if_false]
 cases b <;> rfl


abbrev oL:zn:=[117,112,100,97,116,101]
abbrev Ru:ze:=.mk [] (0,0,[]) [] []
abbrev dT (c:zn):ze:=.mk [99,111,108] (0,0,[]) c []
abbrev dL (t c:zn) (e:ze):Sem zy:=(oL,t,[],[],[],[],[],[],Ru,[],[(c,dT c)],e,[])
abbrev sJ (t:zn) (e:ze):Sem zy:=(CD,t,[],[],[],[],[],[],Ru,[],[],e,[])

theorem sL.app:∀ {a b:List ze},sL a→sL b→sL (a++b)
 | [],_,_,h=>h
 | x::r,b,h,hb=>by
  rw [sL] at h
  rw [List.cons_append,sL]
  exact ⟨h.1,h.2.app hb⟩
theorem sL.mem:∀ {l:List ze},sL l→∀ e∈l,IE e
 | [],_,e,h=>by simp at h
 | x::r,h,e,he=>by
  rw [sL] at h
  rcases dW.1 he with rfl | he
  ·exact h.1
  ·exact sL.mem h.2 e he
theorem HP {g:Sem Sh.expr→Sem zg→Sem zg→Sem Sh.expr×Sem zg} {c:Sem Sh.expr→Sem zg→Sem zg→Bool} {i1:Int} {a0:zn} {a1 a2:Int} {a3 a4 b0:zn} {b1 b2:Int} {b3 b4 d0:zn} {d1 d2:Int} {d3 d4:zn} (hv:bM .i64 d2):
  ∀ (l:List (Sem Sh.expr)) (i n:Int) (acc:List (Sem Sh.expr)),(∀ x∈l,∀ m,IE (g x (IntKind.i64.wrap (i1 - 1)) m).1)→sL acc→IE (bm g c i1 a0 a1 a2 a3 a4 b0 b1 b2 b3 b4 d0 d1 d2 d3 d4 l i n acc).1
 | [],_,_,acc,_,ha=>by
  rw [bm,IE]; exact ⟨hv,ha⟩
 | x::r,i,n,acc,hg,ha=>by
  rw [bm]
  split
  ·exact HP hv r (i+1) _ _ (fun y hy m=>hg y (by simp [hy]) m) (ha.app (by rw [sL,sL]; exact ⟨hg x (by simp) n,trivial⟩))
  ·rw [IE]; exact ⟨hv,ha⟩
theorem HS:∀ (N:Nat) (e:ze) (d n:Int),IE e→IE (gq N e d n).1
 | 0,_,_,_,_=>by
  show IE (.mk [] (0,0,[]) [] [])
  rw [IE,sL]
  exact ⟨⟨by decide,by decide⟩,trivial⟩
 | N+1,.mk op v s l,d,n,h=>by
  rw [IE] at h
  obtain ⟨hv,hl⟩:=h
  have hg:∀ x∈l,∀ (k m:Int),IE (gq N x k m).1:=fun x hx k m=>HS N x k m (hl.mem x hx)
  rw [gq]
  unfold xU
  repeat' split
  all_goals exact HP hv _ _ _ _ (fun x hx m=>hg x hx _ m) (by rw [sL]; trivial)
theorem QZ {e:ze} (h:IE e):IE (bg e):=by
 unfold bg
 rw [ze.eta]
 exact HS 16 e 14 80 h

theorem LG {c:zn} (h:c.length≤20):bg (dT c)=dT c:=by
 unfold bg
 rw [ze.eta]
 show (gq 16 (dT c) 14 80).1=_
 rw [gq]
 unfold xU
 rw [if_neg (by intro h; cases h),if_neg (by show ¬ decide ((c.length:Int) > 20)=true; simp; omega),if_neg (by intro h; cases h)]
 rfl

theorem Pa {t c:zn} {e:ze} (ht:t.length≤20) (hc:c.length≤20):BS (dL t c e)=some (dL t c (bg e),()):=by
 have e1:bg Ru=Ru:=by kernel_rfl
 have e2:∀ s:zn,s.length≤20→cN s=s:=fun s h=>by
  unfold cN
  rw [if_neg (by simp; omega)]
 have hi:∃ z z1,(i8p (dL t c e)).val=some (.inl (.h3 0 (dL t c e,()) z z1))∧z1=(oL,t,[],[],[],[],[],[],Ru,[],bg e,[],()):=by
  simp only [i8p,Tr.val,kS,xX,if_true,zo]
  refine ⟨_,_,rfl,?_⟩
  simp only [e1,e2 t ht]
  rfl
 obtain ⟨z,z1,hi,rfl⟩:=hi
 have g0:getD [(c,dT c)] (toNat 0) (zj aQ)=(c,dT c):=rfl
 have w1:IntKind.i64.wrap (0+1)=1:=by kernel_rfl
 have h1:(t8p (.h3 0 (dL t c e,()) z (oL,t,[],[],[],[],[],[],Ru,[],bg e,[],()))).val=some (.inl (.h7 0 (dL t c e,()) z (oL,t,[],[],[],[],[],[],Ru,[],[],bg e,[],()))):=rfl
 have h2:(t8p (.h7 0 (dL t c e,()) z (oL,t,[],[],[],[],[],[],Ru,[],[],bg e,[],()))).val=some (.inl (.h7 1 (dL t c e,()) z (oL,t,[],[],[],[],[],[],Ru,[],[(c,dT c)],bg e,[],()))):=by
  simp only [t8p,Tr.val,kS,zo,g0,LG hc,e2 c hc,w1,if_true]
  rfl
 generalize bg e=E at h1 h2 hi ⊢
 obtain ⟨op,v,s,l⟩:=E
 exact bn hi ((aI.of h1).ends ((aI.of h2).ends (bL.of rfl))) (by omega) rfl

theorem tC {c:zn} (h:aT c=true):hY (dT c)=true:=by
 have e1:kj 16 (dT c) 1 0=(bif gU c then !wY c else false,1):=by kernel_rfl
 unfold hY
 rw [e1]
 exact h
theorem Ar {t:zn} {e:ze} (ht:aT t=true):eC (sJ t e)=dl e:=by
 cases hn:dl e with
 | _=>
  have hs:=bE (s:=sJ t e) (g:=true) (b:=dl e) (by
   have q0:(CD==[99,114,101,97,116,101])=false:=rfl
   have q1:(CD==[100,114,111,112])=false:=rfl
   have q2:(CD==[105,110,115,101,114,116])=false:=rfl
   have q3:(CD==[117,112,100,97,116,101])=false:=rfl
   have q4:(CD==[100,101,108,101,116,101])=false:=rfl
   have q5:(CD==[115,101,108,101,99,116])=true:=rfl
   simp only [dX,dn,Tr.val,q0,q1,q2,q3,q4,q5,zO,zo,ht,hn,bO,↓reduceIte]
   rfl)
  rw [hs.2,hn]
  rfl
theorem As {t c:zn} {e:ze} (ht:aT t=true) (hc:aT c=true):eC (dL t c e)=dl e:=by
 have hk:zS (fun x => !nQ x) [(c,dT c)] 0=-1:=by
  have:nQ (c,dT c)=true:=by
   unfold nQ
   rw [hc,tC hc]
   rfl
  rw [zS,this]
  rfl
 cases hn:dl e with
 | _=>
  have hs:=bE (s:=dL t c e) (g:=true) (b:=dl e) (by
   have q0:(oL==[99,114,101,97,116,101])=false:=rfl
   have q1:(oL==[100,114,111,112])=false:=rfl
   have q2:(oL==[105,110,115,101,114,116])=false:=rfl
   have q3:(oL==[117,112,100,97,116,101])=true:=rfl
   simp only [dX,dn,Tr.val,q0,q1,q2,q3,zO,zo,ht,hn,hk,bO,↓reduceIte]
   rfl)
  rw [hs.2,hn]
  rfl

theorem Pf (e:ze) (hm:hY e=true) (hn:gH e=false):fe e=[32,87,72,69,82,69,32]++bC 16 e:=by
 unfold fe bX jI
 rw [hn,if_neg (by simp),if_neg (by rw [hm]; simp)]
theorem HA {e:ze} (h:dl e=true) (hi:IE e) {k:Nat} (hk:k≤98):cL (fe e)∧cA (fe e) k:=by
 cases hn:gH e with
 | true=>
  have:fe e=[]:=by unfold fe; rw [if_pos hn]
  rw [this]
  exact ⟨cL.nil,cA.nil (by omega)⟩
 | false=>
  have hm:hY e=true:=by
   unfold dl at h
   rw [hn] at h
   exact h
  rw [Pf e hm hn]
  obtain ⟨h1,h2,h3⟩:=Hz 16 e 1 0 (kj 16 e 1 0).2 (Prod.ext hm rfl) hi (by omega) (by omega)
  have e1:[32,87,72,69,82,69,32]++bC 16 e=32::([87,72,69,82,69]++32::(bC 16 e++[])):=by simp
  rw [e1]
  exact ⟨cL.sp _,cA.sp (cA.word (by kernel_rfl) (cL.sp _) (cA.sp (h3 _ _ cL.nil (cA.nil (by omega)))))⟩

theorem tz {t:zn} (h:aT t=true):gU t=true:=by
 unfold aT at h
 exact (bv h).1
theorem AK {t:zn} {e:ze} (ht:t.length≤1000):gZ (sJ t e):=⟨by simp,by show t.length≤1000; omega,by simp,⟨by simp,by simp⟩,⟨by simp,by simp⟩,by simp,⟨by simp,by simp⟩,⟨by simp,by simp⟩,by simp,⟨by simp,by simp⟩,by simp⟩
theorem AL {t c:zn} {e:ze} (ht:t.length≤1000) (hc:c.length≤1000):gZ (dL t c e):=⟨by simp,by show t.length≤1000; omega,by simp,⟨by simp,by simp⟩,⟨by simp,by simp⟩,by simp,⟨by simp,by simp⟩,⟨by simp,by simp⟩,by simp,⟨by simp,by simpa using hc⟩,by simp⟩
theorem H8 {t:zn} {e:ze} (ht:aT t=true) (hi:IE e):fx (sJ t e)=dl e:=by
 have hw:=tz ht
 have hs:=AK (e:=e) (cC (kz hw) (by omega:16≤1000))
 rw [E9,Ar ht]
 cases hn:dl e with
 | false=>rfl
 | true=>
  have hp:eC (sJ t e)=true:=by rw [Ar ht,hn]
  have hl:=(mu hs hp).2
  rw [lP,TE _ hl,O5 hs rfl]
  obtain ⟨g1,g2⟩:=HA hn hi (k:=4) (by omega)
  have e1:[83,69,76,69,67,84,32,42,32,70,82,79,77,32]++(sJ t e).2.1++fe (C0 (sJ t e))=[83,69,76,69,67,84]++32::42::32::([70,82,79,77]++32::(t++fe e)):=by
   show [83,69,76,69,67,84,32,42,32,70,82,79,77,32]++t++fe e=_
   simp
  rw [e1]
  refine cA.now ?_ (aM _)
  exact cA.word (by kernel_rfl) (cL.sp _) (cA.sp (cA.sign (by simp) (cA.sp (cA.word (by kernel_rfl) (cL.sp _) (cA.sp (cA.word hw g1 g2))))))

theorem O6 {t c:zn} {e:ze} (hs:gZ (dL t c e)) (hc:aT c=true):fw (dL t c e)=[85,80,68,65,84,69,32]++t++[32,83,69,84,32]++(c++[32,61,32]++c)++fe e:=by
 have t1:t.length≤1000:=hs.table
 have w1:=rI e
 have hcl:=kz (tz hc)
 have hset:jh [(c,dT c)]=c++[32,61,32]++c:=by
  have:bX (dT c)=c:=by
   unfold bX jI
   rw [if_neg (by rw [tC hc]; simp)]
   rfl
  show Lib.join ([]++[cK (c,dT c)]) [32,44,32]=_
  rw [List.nil_append,Lib.join_one]
  unfold cK
  rw [this]
 have hst:iR [(c,dT c)]=true:=by
  show bF [(c,dT c)] 0 []=true
  rw [bF,if_pos (nR _ (by show c.length≤1000; omega)),if_pos (by rfl)]
  show bF [] (0+1) ([]++[cK (c,dT c)])=true
  rw [bF,if_pos]
  have:(Lib.join ([]++[cK (c,dT c)]) [32,44,32])=c++[32,61,32]++c:=hset
  rw [this]
  simp
  omega
 obtain ⟨x,h,e1⟩:∃ x,(ly (dL t c e)).val=some (.inr (.str x,[]))∧x=[85,80,68,65,84,69,32]++t++[32,83,69,84,32]++(c++[32,61,32]++c)++fe e:=by
  have q0:(oL==[99,114,101,97,116,101])=false:=rfl
  have q1:(oL==[100,114,111,112])=false:=rfl
  have q2:(oL==[105,110,115,101,114,116])=false:=rfl
  have q3:(oL==[117,112,100,97,116,101])=true:=rfl
  simp only [ly,qR,Tr.val,q0,q1,q2,q3,if_true,zO,if_false,zo,hst,hset]
  repeat' (with_reducible refine gx ?_ ?_)
  all_goals first
   | exact ⟨_,rfl,rfl⟩
   | exact gV _
   | rfl
   | (refine ao ?_; simp [cw]; omega)
 rw [E4 h,e1]
theorem H9 {t c:zn} {e:ze} (ht:aT t=true) (hc:aT c=true) (hi:IE e):fx (dL t c e)=dl e:=by
 have hw:=tz ht
 have hcw:=tz hc
 have hs:=AL (e:=e) (cC (kz hw) (by omega:16≤1000)) (cC (kz hcw) (by omega:16≤1000))
 rw [E9,As ht hc]
 cases hn:dl e with
 | false=>rfl
 | true=>
  have hp:eC (dL t c e)=true:=by rw [As ht hc,hn]
  have hl:=(mu hs hp).2
  rw [lP,TE _ hl,O6 hs hc]
  obtain ⟨g1,g2⟩:=HA hn hi (k:=6) (by omega)
  have e1:[85,80,68,65,84,69,32]++t++[32,83,69,84,32]++(c++[32,61,32]++c)++fe e=[85,80,68,65,84,69]++32::(t++32::([83,69,84]++32::(c++32::61::32::(c++fe e)))):=by simp
  rw [e1]
  refine cA.now ?_ (aM _)
  exact cA.word (by kernel_rfl) (cL.sp _) (cA.sp (cA.word hw (cL.sp _) (cA.sp (cA.word (by kernel_rfl) (cL.sp _) (cA.sp (cA.word hcw (cL.sp _) (cA.sp (cA.sign (by simp) (cA.sp (cA.word hcw g1 g2))))))))))

theorem Ap {a0 a1 a2 a3 a4 a5 a6 a7 a8 a9 b0}:∀ (l:List (Sem zp)) (i:Int),ef a0 a1 a2 a3 a4 a5 a6 a7 a8 a9 b0 l i=true→(a1.getD (toNat a2) (zj zi)).2.2=true
 | [],i,h=>by
  rw [ef] at h
  split at h
  ·split at h
   ·rename_i h1; exact h1
   ·cases h
  ·cases h
 | x::r,i,h=>by
  rw [ef] at h
  split at h
  ·cases h
  ·split at h
   ·cases h
   ·exact Ap r _ h
theorem Ao {a0 a1 a2 a3 a4 a5 a6 a7 a8 a9 b0}:∀ (l:List (Sem zg)) (i:Int),ee a0 a1 a2 a3 a4 a5 a6 a7 a8 a9 b0 l i=true→(a1.getD (toNat a2) (zj zi)).2.2=true
 | [],i,h=>by
  rw [ee] at h
  exact Ap _ _ h
 | x::r,i,h=>by
  rw [ee] at h
  split at h
  ·cases h
  ·exact Ao r _ h
theorem vU {a0 a1 a2 a3 a4 a5 a6 a7 a8 a9 b0}:∀ (l:List (Sem zi)) (i:Nat),fU a0 a1 a2 a3 a4 a5 a6 a7 a8 a9 b0 l (i:Int)=true→
  (a1.getD (toNat a2) (zj zi)).2.2=true∧∀ j,j < l.length→dp (l.getD j (zj zi)).1=true∧z6 a1 (l.getD j (zj zi)).1=((i+j:Nat):Int)∧(l.getD j (zj zi)).2.1≠(0:Int)
 | [],i,h=>by
  rw [fU] at h
  exact ⟨Ao _ _ h,fun j hj=>absurd hj (Nat.not_lt_zero j)⟩
 | x :: r,i,h=>by
  rw [fU] at h
  split at h
  ·cases h
  ·rename_i h1
   obtain ⟨h2,h3⟩:=vU r (i+1) (by push_cast; exact h)
   refine ⟨h2,fun j hj=>?_⟩
   cases j with
   | zero=>
    show dp x.1=true∧z6 a1 x.1=((i:Nat):Int)∧x.2.1≠(0:Int)
    cases e1:dp x.1
    ·rw [e1] at h1; exact absurd rfl h1
    rw [e1] at h1
    simp only [iT,bR] at h1
    cases e2:decide (LT.lt (α:=Int) x.2.1 1)
    ·rw [e2] at h1
     simp only [bR] at h1
     cases e3:decide (GT.gt (α:=Int) x.2.1 3)
     ·rw [e3] at h1
      simp only [bR] at h1
      refine ⟨rfl,?_,?_⟩
      ·simpa [ib,z6] using h1
      ·intro e
       rw [e] at e2
       cases e2
     ·rw [e3] at h1; exact absurd rfl h1
    ·rw [e2] at h1; exact absurd rfl h1
   | succ j=>
    obtain ⟨k1,k2,k3⟩:=h3 j (by simpa using hj)
    exact ⟨k1,by rw [show i+(j+1)=i+1+j by omega]; exact k2,k3⟩

theorem Em {t:Sem zt} (h:gS t=true):∃ k:Nat,t.2.2.1=(k:Int)∧k < t.2.1.length∧dp t.1=true∧dp (t.2.1.getD k (zj zi)).1=true∧z6 t.2.1 (t.2.1.getD k (zj zi)).1=(k:Int)∧(t.2.1.getD k (zj zi)).2.1≠(0:Int)∧(t.2.1.getD k (zj zi)).2.2=true:=by
 obtain ⟨hk,_⟩:=gu h
 obtain ⟨k,hk1⟩:=Int.eq_ofNat_of_zero_le hk.1
 have hk1:t.2.2.1=(k:Int):=hk1
 have hk2:k < t.2.1.length:=by
  have:=hk.2
  rw [hk1] at this
  exact Int.ofNat_lt.1 this
 unfold gS at h
 split at h
 ·cases h
 ·rename_i h1
  have hn:dp t.1=true:=by
   cases e:dp t.1
   ·rw [e] at h1; exact absurd rfl h1
   ·rfl
  obtain ⟨h2,h3⟩:=vU t.2.1 0 h
  rw [hk1,bl] at h2
  obtain ⟨k1,k2,k3⟩:=h3 k hk2
  exact ⟨k,hk1,hk2,hn,k1,by rw [iU] at k2; exact k2,k3,h2⟩

end Cad
