/- Functions with memory of their own, by their trees. Copies: slices.Clone, copied. Bases: an answer that is an error alone. Bases: bases that are kept, rows that a condition meets. Bases: copies; where a table is put. Bases: the place of a table by its name. Bases: slices.Insert at the end. Bases: a table is put into a base. Bases: the keys that are met. Bases: rows taken out by their keys: the first. Bases: the first row that is taken out by its key. Bases: the first row that is taken out by its key: the contract. Bases: rows taken out by their keys: slices.DeleteFunc. Bases: the rows that stay when rows are taken out by their keys. Bases: slices.DeleteFunc over rows: the contract. Bases: remove, choose. Texts of values and expressions, and tokens: nothing panics. Tokens: nothing panics. Statements' texts: nothing panics. stmt.May: nothing panics. What is asked of tables with rows, and of bases, holds. What is asked of tables with rows, and of bases, holds. What is asked of bases holds. -/
import Derived.Test.YtiefilkilbdpgaaGreatDoorL12
namespace Cad
open Go
open Int (toNat)
open List (getD)
open List (length)

theorem gD {P:Program} {gl:Nat→AV} {σ ι:Type} {E:bq} {k:FuncId} {f:Func} {kinds:List (Option Sh)} {G:cz kinds} {keep:Nat→zY} {gas n n0:Nat} {e:σ→Nat×St} {t:σ→Tr (σ ⊕ zV)} {args:ι→List AV} {heap:ι→List AO} {i:ι→Tr (σ ⊕ zV)}
  (hE:zm E) (hf:zA E.P k f kinds.length) (hn:∀ x,(heap x).length=n0)
  (hgo:∀ x,run E n0 keep f.results.toList gas (aA f) (af f.ntmps (args x) (heap x))=(i x).map (lf f e))
  (hon:∀ s,run E n0 keep f.results.toList gas (zy f (e s).1) (e s).2=(t s).map (lf f e))
  (hG:∀ a h res,(G a h).val=some res→∃ x,gm kinds a=args x∧h=heap x∧bW t n (i x)=some res) (qp:E.P=P:=by rfl) (qg:E.gl=gl:=by rfl):lL P gl k (zS kinds G):=by
 subst qp qg
 refine bt hf fun x h0 res hx C hC=>?_
 obtain ⟨y,e1,e2,e3⟩:=hG x h0 res hx
 subst e2
 rw [e1]
 exact km (n0:=n0) (Q:=fun r h=>(r,h)=res) hE hf (fun id h=>hC id (by rw [hn]; exact h)) (n+1) _ _ _ (by rw [jd hon (hgo y)]; exact e3) rfl
open Go Go.Proofs
set_option maxHeartbeats 4000000

noncomputable abbrev r9 (l:List (Sem zg)):Tr zt:=run fM 0 x8 (Func.results Tryz.f198).toList 300 (aA Tryz.f198) (af (Func.ntmps Tryz.f198) [.sl zg l] [])
theorem Ie:zA fM.P 198 Tryz.f198 1:=aL (by kernel_rfl)
theorem zdn (l:List (Sem zg)):r9 l=.ok (.fork l.isEmpty (ay (r9 l)).1 (ay (r9 l)).2.1 (ay (r9 l)).2.2):=by kernel_rfl
theorem Yz (l:List (Sem zg)):run fM 0 x8 (Func.results Tryz.f198).toList 300 (ay (r9 l)).1 (ay (r9 l)).2.2=.ok (.ret .nils []):=by kernel_rfl
theorem YA (l:List (Sem zg)):run fM 0 x8 (Func.results Tryz.f198).toList 300 (ay (r9 l)).2.1 (ay (r9 l)).2.2=.chk (decide (l.length≤1073741824)) (.ok (.ret (.vec 0) [.vec zg l])):=by kernel_rfl
def zco:cz [some (.sl zg)]:=fun x h=>match h with
 | []=>.chk (decide (length x.1≤1073741824)) (.ok (.vec 0,[.vec zg x.1]))
 | _=>.err
def zaN:zD:=zS [some (.sl zg)] zco
theorem Wl:FK 198 zaN:=by
 refine bt Ie fun x h0 res hx C hC=>?_
 unfold zco at hx
 split at hx
 ·simp only [Tr.val] at hx
  split at hx
  ·rename_i hl
   simp only [aq] at hx
   subst hx
   obtain ⟨l,u⟩:=x
   refine zk (n0:=0) bM Ie hC (zdn l) ?_
   refine ⟨fun he=>?_,?_⟩
   ·have hn:l=[]:=List.isEmpty_iff.1 he
    refine Reach.weaken (Q:=fun r h=>(r,h)=(.vec 0,[.vec zg []])) (Reach.promNil zg (fun id=>hC id (by simp)) (zk (n0:=0) bM Ie hC (Yz l) rfl)) ?_
    intro r h hq
    cases hq
    refine ⟨_,?_,fun _ _ _ _ h=>h⟩
    show (AV.vec 0,[AO.vec zg []])=(AV.vec 0,[AO.vec zg l])
    rw [hn]
   ·exact zk (n0:=0) bM Ie hC (YA l) (cP hl rfl)
  ·cases hx
 ·simp at hx

noncomputable abbrev sb (l:List (Sem zq)):Tr zt:=run fM 0 x8 (Func.results Tryz.f199).toList 300 (aA Tryz.f199) (af (Func.ntmps Tryz.f199) [.sl zq l] [])
theorem If:zA fM.P 199 Tryz.f199 1:=aL (by kernel_rfl)
theorem zdo (l:List (Sem zq)):sb l=.ok (.fork l.isEmpty (ay (sb l)).1 (ay (sb l)).2.1 (ay (sb l)).2.2):=by kernel_rfl
theorem YB (l:List (Sem zq)):run fM 0 x8 (Func.results Tryz.f199).toList 300 (ay (sb l)).1 (ay (sb l)).2.2=.ok (.ret .nils []):=by kernel_rfl
theorem YC (l:List (Sem zq)):run fM 0 x8 (Func.results Tryz.f199).toList 300 (ay (sb l)).2.1 (ay (sb l)).2.2=.chk (decide (l.length≤1073741824)) (.ok (.ret (.vec 0) [.vec zq l])):=by kernel_rfl
def zcp:cz [some (.sl zq)]:=fun x h=>match h with
 | []=>.chk (decide (length x.1≤1073741824)) (.ok (.vec 0,[.vec zq x.1]))
 | _=>.err
def zaO:zD:=zS [some (.sl zq)] zcp
theorem Wm:FK 199 zaO:=by
 refine bt If fun x h0 res hx C hC=>?_
 unfold zcp at hx
 split at hx
 ·simp only [Tr.val] at hx
  split at hx
  ·rename_i hl
   simp only [aq] at hx
   subst hx
   obtain ⟨l,u⟩:=x
   refine zk (n0:=0) bM If hC (zdo l) ?_
   refine ⟨fun he=>?_,?_⟩
   ·have hn:l=[]:=List.isEmpty_iff.1 he
    refine Reach.weaken (Q:=fun r h=>(r,h)=(.vec 0,[.vec zq []])) (Reach.promNil zq (fun id=>hC id (by simp)) (zk (n0:=0) bM If hC (YB l) rfl)) ?_
    intro r h hq
    cases hq
    refine ⟨_,?_,fun _ _ _ _ h=>h⟩
    show (AV.vec 0,[AO.vec zq []])=(AV.vec 0,[AO.vec zq l])
    rw [hn]
   ·exact zk (n0:=0) bM If hC (YC l) (cP hl rfl)
  ·cases hx
 ·simp at hx

noncomputable abbrev se (l:List (Sem (.sl zf))):Tr zt:=run fM 0 x8 (Func.results Tryz.f43).toList 300 (aA Tryz.f43) (af (Func.ntmps Tryz.f43) [.sl (.sl zf) l] [])
theorem Ih:zA fM.P 43 Tryz.f43 1:=aL (by kernel_rfl)
theorem zdq (l:List (Sem (.sl zf))):se l=.ok (.fork l.isEmpty (ay (se l)).1 (ay (se l)).2.1 (ay (se l)).2.2):=by kernel_rfl
theorem YD (l:List (Sem (.sl zf))):run fM 0 x8 (Func.results Tryz.f43).toList 300 (ay (se l)).1 (ay (se l)).2.2=.ok (.ret .nils []):=by kernel_rfl
theorem YE (l:List (Sem (.sl zf))):run fM 0 x8 (Func.results Tryz.f43).toList 300 (ay (se l)).2.1 (ay (se l)).2.2=.chk (decide (l.length≤1073741824)) (.ok (.ret (.vec 0) [.vec (.sl zf) l])):=by kernel_rfl
def zcq:cz [some (.sl (.sl zf))]:=fun x h=>match h with
 | []=>.chk (decide (length x.1≤1073741824)) (.ok (.vec 0,[.vec (.sl zf) x.1]))
 | _=>.err
def zaQ:zD:=zS [some (.sl (.sl zf))] zcq
theorem Wo:FK 43 zaQ:=by
 refine bt Ih fun x h0 res hx C hC=>?_
 unfold zcq at hx
 split at hx
 ·simp only [Tr.val] at hx
  split at hx
  ·rename_i hl
   simp only [aq] at hx
   subst hx
   obtain ⟨l,u⟩:=x
   refine zk (n0:=0) bM Ih hC (zdq l) ?_
   refine ⟨fun he=>?_,?_⟩
   ·have hn:l=[]:=List.isEmpty_iff.1 he
    refine Reach.weaken (Q:=fun r h=>(r,h)=(.vec 0,[.vec (.sl zf) []])) (Reach.promNil (.sl zf) (fun id=>hC id (by simp)) (zk (n0:=0) bM Ih hC (YD l) rfl)) ?_
    intro r h hq
    cases hq
    refine ⟨_,?_,fun _ _ _ _ h=>h⟩
    show (AV.vec 0,[AO.vec (Sh.sl zf) []])=(AV.vec 0,[AO.vec (Sh.sl zf) l])
    rw [hn]
   ·exact zk (n0:=0) bM Ih hC (YE l) (cP hl rfl)
  ·cases hx
 ·simp at hx

noncomputable abbrev sf (l:List (Sem zf)):Tr zt:=run fM 0 x8 (Func.results Tryz.f44).toList 300 (aA Tryz.f44) (af (Func.ntmps Tryz.f44) [.sl zf l] [])
theorem Ii:zA fM.P 44 Tryz.f44 1:=aL (by kernel_rfl)
theorem zdr (l:List (Sem zf)):sf l=.ok (.fork l.isEmpty (ay (sf l)).1 (ay (sf l)).2.1 (ay (sf l)).2.2):=by kernel_rfl
theorem YF (l:List (Sem zf)):run fM 0 x8 (Func.results Tryz.f44).toList 300 (ay (sf l)).1 (ay (sf l)).2.2=.ok (.ret .nils []):=by kernel_rfl
theorem YG (l:List (Sem zf)):run fM 0 x8 (Func.results Tryz.f44).toList 300 (ay (sf l)).2.1 (ay (sf l)).2.2=.chk (decide (l.length≤1073741824)) (.ok (.ret (.vec 0) [.vec zf l])):=by kernel_rfl
def zcr:cz [some (.sl zf)]:=fun x h=>match h with
 | []=>.chk (decide (length x.1≤1073741824)) (.ok (.vec 0,[.vec zf x.1]))
 | _=>.err
def zaR:zD:=zS [some (.sl zf)] zcr
theorem Wq:FK 44 zaR:=by
 refine bt Ii fun x h0 res hx C hC=>?_
 unfold zcr at hx
 split at hx
 ·simp only [Tr.val] at hx
  split at hx
  ·rename_i hl
   simp only [aq] at hx
   subst hx
   obtain ⟨l,u⟩:=x
   refine zk (n0:=0) bM Ii hC (zdr l) ?_
   refine ⟨fun he=>?_,?_⟩
   ·have hn:l=[]:=List.isEmpty_iff.1 he
    refine Reach.weaken (Q:=fun r h=>(r,h)=(.vec 0,[.vec zf []])) (Reach.promNil zf (fun id=>hC id (by simp)) (zk (n0:=0) bM Ii hC (YF l) rfl)) ?_
    intro r h hq
    cases hq
    refine ⟨_,?_,fun _ _ _ _ h=>h⟩
    show (AV.vec 0,[AO.vec zf []])=(AV.vec 0,[AO.vec zf l])
    rw [hn]
   ·exact zk (n0:=0) bM Ii hC (YG l) (cP hl rfl)
  ·cases hx
 ·simp at hx

noncomputable def QH:=fM.addL [(198,zaN),(199,zaO),(43,zaQ),(44,zaR)]
theorem DT:zm QH:=bM.addL <| fc Wl <| fc Wm <| fc Wo <| fc Wq gZ
def yk (c:ze→Bool):zD:=zC [.expr] [.expr] (fun x=>c x.1) fun x=>(x.1,())
noncomputable def yL (c:ze→Bool):bq:=QH.add 200 (yk c)
theorem qQ {c:ze→Bool} (hg:FK 200 (yk c)):zm (yL c):=DT.add hg
abbrev T9:Nat→zY:=fun j=>if j=3 then { slots:=[1,2,10,11] } else { }
abbrev CE (i10:Int) (i11:Int) (ja0:zl) (ja1:Int) (ja2:Int) (ja3:zl) (ja4:zl) (lh_2:List (Sem Sh.expr)):St:={
 tmps:=
  (tm 26 [(1,AV.ptr 0 0),(2,AV.ptr 1 0),(10,AV.int .i64 i10),(11,AV.int .i64 i11)]),
 heap:=
  [AO.box [AV.str ja0,AV.int .i64 ja1,AV.int .i64 ja2,AV.str ja3,AV.str ja4,AV.vec 2],
   AO.box [AV.str [],AV.int .i64 0,AV.int .i64 0,AV.str [],AV.str [],AV.nils],AO.vec Sh.expr lh_2] }
theorem Ig (c:ze→Bool):zA (yL c).P 200 Tryz.f200 1:=aL (by kernel_rfl)
theorem zdp (c:ze→Bool) (op:zl) (v:V) (s:zl) (l:List ze):rn (yL c) 0 T9 Tryz.f200 [zz Sh.expr (ze.mk op v s l)] []=
 Tr.chk (decide (l.length≤1073741824)) (Tr.ok (zt.head 3 (zy Tryz.f200 3) (CE (↑l.length:Int) 0 op v.1 v.2.1 v.2.2 s l))):=by kernel_rfl
theorem Is (c:ze→Bool) (i10:Int) (i11:Int) (ja0:zl) (ja1:Int) (ja2:Int) (ja3:zl) (ja4:zl) (lh_2:List (Sem Sh.expr)):rh (yL c) 0 T9 Tryz.f200 3 (CE i10 i11 ja0 ja1 ja2 ja3 ja4 lh_2)=
 Tr.br (decide (i11 < i10))
 (Tr.chk (zF i11 lh_2.length)
  (Tr.chk (decide (i11.toNat < lh_2.length))
   (Tr.chk (c (zB (lh_2.getD i11.toNat (zj Sh.expr))))
    (Tr.chk (zF i11 lh_2.length)
     (Tr.chk (decide (i11.toNat < lh_2.length))
      (Tr.ok
       (zt.head 3 (zy Tryz.f200 3)
        (CE i10 (IntKind.i64.wrap (i11+1)) ja0 ja1 ja2 ja3 ja4
         (lh_2.set i11.toNat
          (zB (lh_2.getD i11.toNat (zj Sh.expr))))))))))))
 (Tr.ok
  (zt.ret (AV.agg [AV.str ja0,AV.int .i64 ja1,AV.int .i64 ja2,AV.str ja3,AV.str ja4,AV.vec 0]) [AO.vec Sh.expr lh_2])):=by kernel_rfl

theorem zcz {c:ze→Bool} (hg:FK 200 (yk c)) {C:cr} (hC:∀ id,C.ρ0 id=none) (op:zl) (v:V) (s:zl) (l:List ze) (hl:l.length≤1073741824) (hcl:l.all c=true):
  ∀ (k i:Nat),l.length - i=k→i≤l.length→Reach (yL c) C 200 (zy Tryz.f200 3) (CE l.length i op v.1 v.2.1 v.2.2 s l) (fun r h=>ae h [.expr] r=some (ze.mk op v s l,())):=by
 intro k
 induction k with
 | zero=>
  intro i hk hi
  obtain rfl:i=l.length:=by omega
  refine zk (n0:=0) (qQ hg) (Ig c) (fun id _=>hC id) (Is c _ _ _ _ _ _ _ _) ?_
  simp only [ag,Tr.val_brF]
  rfl
 | succ k IH=>
  intro i hk hi
  have hlt:i < l.length:=by omega
  refine zk (n0:=0) (qQ hg) (Ig c) (fun id _=>hC id) (Is c _ _ _ _ _ _ _ _) ?_
  have h1:c l[i]=true:=cL.1 hcl _ (ce hlt)
  have h2:decide ((i:Int).toNat < l.length)=true:=by simpa using hlt
  have h3:l.set (i:Int).toNat l[i]=l:=by simp
  simp only [zX hlt,zG hlt,ac l _ hlt,ze.eta,Tr.val_brT,Tr.val_chkT,h1,h2,h3,zH i (by unfold zE; omega)]
  exact IH (i+1) (by omega) (by omega)

theorem Xz:zA QH.P 200 Tryz.f200 1:=aL (by kernel_rfl)
theorem A7:∀ n,FK 200 (yk (lM n))
 | 0=>cQ ⟨Tryz.f200,Xz.1,Xz.2.1,Xz.2.2.1⟩ (fun _=>rfl)
 | n+1=>by
  have h:FK 200 (yk (lM (n+1))):=by
   refine zM (E:=yL (lM n)) (Ig _) fun x hc C hC=>?_
   obtain ⟨⟨op,v,s,l⟩,u⟩:=x
   have hc:(decide (l.length≤1073741824)&&l.all (lM n))=true:=hc
   simp only [aG,zW] at hc
   refine zk (n0:=0) (qQ (A7 n)) (Ig _) (fun id _=>hC id) (zdp _ op v s l) ?_
   refine cP (by simpa using hc.1) ?_
   exact zcz (A7 n) hC op v s l hc.1 hc.2 _ 0 rfl (aE _)
  exact h
def zaP:zD:=yk (lM 16)
theorem Wn:FK 200 zaP:=A7 16
noncomputable def DS:=QH.add 200 zaP
theorem rb:zm DS:=DT.add Wn
abbrev c5:Sh:=.pr zg (.pr zg (.sl (.sl zf)))

noncomputable def zh5 (x0:Sem zg):Tr (Empty ⊕ zV):=
 Tr.re (AV.tup [AV.nils,AV.agg [AV.int .i64 x0,AV.int .i64 0,AV.nils]]) []
noncomputable def FE (x0:Sem zg):=zT [zh.sl,c5] t0 100000000 (zh5 x0)
noncomputable def uK (x0:Sem zg):=(FE x0).isSome
noncomputable def cU (x0:Sem zg):=o2 (FE x0)
noncomputable def zaa:=FT [zg] [zh.sl,c5] fun x=>FE x.1
theorem VE:FK 39 zaa:=rb.T1 (f:=Tryz.f39) (keep:=k0) (e:=e0)

noncomputable def Tv:=DS.add 39 zaa
theorem m8:zm Tv:=rb.add VE
noncomputable section

def zdY (x0:Sem zw) (x1:Sem zf.sl):Tr (Empty ⊕ zV):=
 let a0:=getD x1 (toNat x0.2.2.1) (zj zf)
 Tr.br
 (bif !iK (x0.1,x0.2.1,x0.2.2.1,x0.2.2.2.1,x0.2.2.2.2.1,zB x0.2.2.2.2.2) then true
 else decide (x0.2.2.1 ≥ (↑(length x1):Int)))
 (Tr.re (AV.agg [AV.int .i64 0,AV.int .i64 0,AV.str []]) [])
 (Tr.chk (zF x0.2.2.1 (length x1)) (Tr.re (AV.agg [AV.int .i64 a0.1,AV.int .i64 a0.2.1,AV.str a0.2.2]) []))
def E3 (x0:Sem zw) (x1:Sem zf.sl):=zT [zf] t0 100000000 (zdY x0 x1)
def Oz (x0:Sem zw) (x1:Sem zf.sl):=(E3 x0 x1).isSome
def YS (x0:Sem zw) (x1:Sem zf.sl):=o1 (E3 x0 x1)
def zaJ:=FT [zw,zf.sl] [zf] fun x=>E3 x.1 x.2.1
theorem Wh:FK 84 zaJ:=m8.T1 (f:=Tryz.f84) (keep:=k0) (e:=e0)

def Xq (x0:Sem zh.sl) (x1:Sem zg):Tr (Empty ⊕ zV):=
 Tr.chk (mT x0)
 (Tr.br (!qJ x0)
  (Tr.chk true (Tr.re (AV.tup [AV.sl zh (cU 10).1,AV.agg [AV.int .i64 (cU 10).2.1,AV.int .i64 (cU 10).2.2.1,AV.sl zf.sl (cU 10).2.2.2]]) []))
  (Tr.re (AV.tup [AV.sl zh x0,AV.agg [AV.int .i64 0,AV.int .i64 x1,AV.nils]]) []))
def uN (x0:Sem zh.sl) (x1:Sem zg):=zT [zh.sl,c5] t0 100000000 (Xq x0 x1)
def mb (x0:Sem zh.sl) (x1:Sem zg):=(uN x0 x1).isSome
def si (x0:Sem zh.sl) (x1:Sem zg):=o2 (uN x0 x1)
def zab:=FT [zh.sl,zg] [zh.sl,c5] fun x=>uN x.1 x.2.1
theorem VF:FK 40 zab:=m8.T1 (f:=Tryz.f40) (keep:=k0) (e:=e0)

abbrev zej:=jL [(9,[2,3,8,36,37,38])]
inductive uf where
 | h9 (l36:List (Sem zf.sl)) (i37:Int) (i38:Int) (z0:zu [CP.d zh]) (z1:zu [CP.d Sh.expr])
 | h9b (l36:List (Sem zf.sl)) (i37:Int) (i38:Int) (z0:zu [CP.d zh]) (z1:zu [CP.d Sh.expr]) (lh_2:List (Sem zf.sl))
abbrev zgH:uf→Nat×St
 | .h9 l36 i37 i38 z0 z1=>(9,⟨tm 62 [(2,AV.ptr 0 0),(3,AV.ptr 1 0),(8,AV.nils),(36,AV.sl zf.sl l36),(37,AV.int .i64 i37),(38,AV.int .i64 i38)],[AO.box (bh [] [CP.d zh] z0),AO.box (bh [] [CP.d Sh.expr] z1)]⟩)
 | .h9b l36 i37 i38 z0 z1 lh_2=>(9,⟨tm 62 [(2,AV.ptr 0 0),(3,AV.ptr 1 0),(8,AV.vec 2),(36,AV.sl zf.sl l36),(37,AV.int .i64 i37),(38,AV.int .i64 i38)],[AO.box (bh [] [CP.d zh] z0),AO.box (bh [] [CP.d Sh.expr] z1),AO.vec zf.sl lh_2]⟩)
def zdS (x0:Sem zh) (x1:Sem Sh.expr):Tr (uf ⊕ zV):=
 let a0:=bj (zB x1) x0.1.2.1
 Tr.br (!ze.op x1==[])
 (Tr.br (bif a0.2==0 then bif a0.1 != 3 then a0.1 != 0 else false else false)
  (Tr.br true (Tr.re (AV.tup [AV.nils,AV.int .i64 5]) []) (Tr.to (uf.h9 x0.2 (↑(length x0.2):Int) 0 (x0,()) (x1,()))))
  (Tr.br (a0.2 != 0) (Tr.re (AV.tup [AV.nils,AV.int .i64 a0.2]) []) (Tr.to (uf.h9 x0.2 (↑(length x0.2):Int) 0 (x0,()) (x1,())))))
 (Tr.to (uf.h9 x0.2 (↑(length x0.2):Int) 0 (x0,()) (x1,())))
def CS:uf→Tr (uf ⊕ zV)
 | .h9 l36 i37 i38 z0 z1=>
  let a0:=l36.getD i38.toNat (zj zf.sl)
  let a1:=gM (zB z1.1) z0.1.1.2.1 a0
  let a2:=[a0]
  let a3:=IntKind.i64.wrap (i38+1)
  Tr.br (decide (i38 < i37))
  (Tr.chk (zF i38 l36.length) (Tr.br (bif ze.op z1.1==[] then true else a1.1==3&&(a1.2.1==1&&(a1.2.2==[]&&true))) (Tr.chk (decide (length a0≤1073741824)) (Tr.chk (decide (a2.length≤1073741824)) (Tr.to (uf.h9b l36 i37 a3 z0 z1 a2)))) (Tr.to (uf.h9 l36 i37 a3 z0 z1))))
  (Tr.re (AV.tup [AV.nils,AV.int .i64 0]) [])
 | .h9b l36 i37 i38 z0 z1 lh_2=>
  let a0:=l36.getD i38.toNat (zj zf.sl)
  let a1:=gM (zB z1.1) z0.1.1.2.1 a0
  let a2:=[a0]
  let a3:=IntKind.i64.wrap (i38+1)
  Tr.br (decide (i38 < i37))
  (Tr.chk (zF i38 l36.length) (Tr.br (bif ze.op z1.1==[] then true else a1.1==3&&(a1.2.1==1&&(a1.2.2==[]&&true))) (Tr.chk (decide (length a0≤1073741824)) (Tr.chk (decide (lh_2.length+a2.length≤1073741824)) (Tr.to (uf.h9b l36 i37 a3 z0 z1 (lh_2++a2))))) (Tr.to (uf.h9b l36 i37 a3 z0 z1 lh_2))))
  (Tr.re (AV.tup [AV.vec 0,AV.int .i64 0]) [AO.vec zf.sl lh_2])
def qc (x0:Sem zh) (x1:Sem Sh.expr):=zT [zf.sl.sl,zg] CS 100000000 (zdS x0 x1)
def nr (x0:Sem zh) (x1:Sem Sh.expr):=(qc x0 x1).isSome
def rH (x0:Sem zh) (x1:Sem Sh.expr):=o2 (qc x0 x1)
def zak:=FT [zh,Sh.expr] [zf.sl.sl,zg] fun x=>qc x.1 x.2.1
theorem VP:FK 51 zak:=m8.T1 (f:=Tryz.f51) (keep:=zej) (e:=zgH)

def vn:=Tv.addL [(84,zaJ),(40,zab),(51,zak)]
theorem kl:zm vn:=m8.addL <| fc Wh <| fc VF <| fc VP <|  gZ
end

noncomputable abbrev r8 (l:List (Sem zh)):Tr zt:=run vn 0 x8 (Func.results Tryz.f76).toList 300 (aA Tryz.f76) (af (Func.ntmps Tryz.f76) [.sl zh l] [])
theorem Id:zA vn.P 76 Tryz.f76 1:=aL (by kernel_rfl)
theorem zdi (l:List (Sem zh)):r8 l=.ok (.fork l.isEmpty (ay (r8 l)).1 (ay (r8 l)).2.1 (ay (r8 l)).2.2):=by kernel_rfl
theorem Yx (l:List (Sem zh)):run vn 0 x8 (Func.results Tryz.f76).toList 300 (ay (r8 l)).1 (ay (r8 l)).2.2=.ok (.ret .nils []):=by kernel_rfl
theorem Yy (l:List (Sem zh)):run vn 0 x8 (Func.results Tryz.f76).toList 300 (ay (r8 l)).2.1 (ay (r8 l)).2.2=.chk (decide (l.length≤1073741824)) (.ok (.ret (.vec 0) [.vec zh l])):=by kernel_rfl
def zck:cz [some (.sl zh)]:=fun x h=>match h with
 | []=>.chk (decide (length x.1≤1073741824)) (.ok (.vec 0,[.vec zh x.1]))
 | _=>.err
def zay:zD:=zS [some (.sl zh)] zck
theorem V5:FK 76 zay:=by
 refine bt Id fun x h0 res hx C hC=>?_
 unfold zck at hx
 split at hx
 ·simp only [Tr.val] at hx
  split at hx
  ·rename_i hl
   simp only [aq] at hx
   subst hx
   obtain ⟨l,u⟩:=x
   refine zk (n0:=0) kl Id hC (zdi l) ?_
   refine ⟨fun he=>?_,?_⟩
   ·have hn:l=[]:=List.isEmpty_iff.1 he
    refine Reach.weaken (Q:=fun r h=>(r,h)=(.vec 0,[.vec zh []])) (Reach.promNil zh (fun id=>hC id (by simp)) (zk (n0:=0) kl Id hC (Yx l) rfl)) ?_
    intro r h hq
    cases hq
    refine ⟨_,?_,fun _ _ _ _ h=>h⟩
    show (AV.vec 0,[AO.vec zh []])=(AV.vec 0,[AO.vec zh l])
    rw [hn]
   ·exact zk (n0:=0) kl Id hC (Yy l) (cP hl rfl)
  ·cases hx
 ·simp at hx

noncomputable def zaA:zD:=zS (List.replicate 2 none) (bU vn Tryz.f77 (List.replicate 2 none))
theorem V7:FK 77 zaA:=ap _ kl (aL (by kernel_rfl))

noncomputable def DU:=vn.addL [(76,zay),(77,zaA)]
theorem rc:zm DU:=kl.addL <| fc V5 <| fc V7 <|  gZ

abbrev tJ (n:zl) (q1:Sh) (cs:List (Sem q1)) (k:Int) (q2:Sh) (us:List (Sem q2)) (q3:Sh) (fs:List (Sem q3)) (eo:zl) (a b:Int) (vs es:zl) (q4:Sh) (el:List (Sem q4)) (q5:Sh) (rs:List (Sem q5)) (l:List (Sem zh)) (i:Int):St:={ tmps:=[.sl zh l,.clo (.func 77) [] [.ptr 0 0],.any,.any,.any,.any,.any,.int .i64 l.length,.int .i64 i,.any,.any,.any,.any,.any,.any,.any,.any,.any,.any],heap:=[.box [.str n,.sl q1 cs,.int .i64 k,.sl q2 us,.sl q3 fs,.str eo,.int .i64 a,.int .i64 b,.str vs,.str es,.sl q4 el,.sl q5 rs]] }
theorem Mc (n:zl) (q1:Sh) (cs:List (Sem q1)) (k:Int) (q2:Sh) (us:List (Sem q2)) (q3:Sh) (fs:List (Sem q3)) (eo:zl) (a b:Int) (vs es:zl) (q4:Sh) (el:List (Sem q4)) (q5:Sh) (rs:List (Sem q5)) (l:List (Sem zh)):run DU 1 lO Tryz.f36.results.toList 300 (aA Tryz.f36) (af Tryz.f36.ntmps [.sl zh l,.clo (.func 77) [] [.ptr 0 0]] [.box [.str n,.sl q1 cs,.int .i64 k,.sl q2 us,.sl q3 fs,.str eo,.int .i64 a,.int .i64 b,.str vs,.str es,.sl q4 el,.sl q5 rs]])=.ok (.head 2 (zy Tryz.f36 2) (tJ n q1 cs k q2 us q3 fs eo a b vs es q4 el q5 rs l 0)):=by kernel_rfl
theorem NE (n:zl) (q1:Sh) (cs:List (Sem q1)) (k:Int) (q2:Sh) (us:List (Sem q2)) (q3:Sh) (fs:List (Sem q3)) (eo:zl) (a b:Int) (vs es:zl) (q4:Sh) (el:List (Sem q4)) (q5:Sh) (rs:List (Sem q5)) (l:List (Sem zh)) (i:Int):run DU 1 lO Tryz.f36.results.toList 300 (zy Tryz.f36 2) (tJ n q1 cs k q2 us q3 fs eo a b vs es q4 el q5 rs l i)=hZ (K:=zy Tryz.f36 2) (e:=zh) l (fun y => !(Op.bytesLess y.1.1 n||y.1.1==n)) (tJ n q1 cs k q2 us q3 fs eo a b vs es q4 el q5 rs l) [.box [.str n,.sl q1 cs,.int .i64 k,.sl q2 us,.sl q3 fs,.str eo,.int .i64 a,.int .i64 b,.str vs,.str es,.sl q4 el,.sl q5 rs]] i:=by kernel_rfl

theorem Nv:zA DU.P 36 Tryz.f36 2:=by refine ⟨?_,?_,?_,?_⟩ <;> kernel_rfl
def zch:cz [some (.sl zh),none]:=fun x h=>match x,h with
 | (l,.clo (.func 77) [] [.ptr 0 0],_),[.box [.str n,.sl q1 cs,.int .i64 k,.sl q2 us,.sl q3 fs,.str eo,.int .i64 a,.int .i64 b,.str vs,.str es,.sl q4 el,.sl q5 rs]]=>.ok (.int .i64 (zR (fun y => !(Op.bytesLess y.1.1 n||y.1.1==n)) l 0),[.box [.str n,.sl q1 cs,.int .i64 k,.sl q2 us,.sl q3 fs,.str eo,.int .i64 a,.int .i64 b,.str vs,.str es,.sl q4 el,.sl q5 rs]])
 | _,_=>.err
def Z7:zD:=zS [some (.sl zh),none] zch
theorem VA:FK 36 Z7:=by
 refine bt Nv fun x h0 res hx C hC=>?_
 unfold zch at hx
 split at hx
 ·rename_i l u n q1 cs k q2 us q3 fs eo a b vs es q4 el q5 rs
  simp only [Tr.val_ok,aq] at hx
  subst hx
  refine Reach.len 0 zh l rfl fun hl=>?_
  refine zk (n0:=1) rc Nv hC (Mc n q1 cs k q2 us q3 fs eo a b vs es q4 el q5 rs l) ?_
  exact eP l (fun y => !(Op.bytesLess y.1.1 n||y.1.1==n)) (tJ n q1 cs k q2 us q3 fs eo a b vs es q4 el q5 rs l) rc Nv hC (NE n q1 cs k q2 us q3 fs eo a b vs es q4 el q5 rs l) hl _ 0 rfl (aE _)
 ·simp at hx

noncomputable def HJ:=DU.add 36 Z7
theorem y2:zm HJ:=rc.add VA

abbrev zev:=jL []
theorem zfl:zA HJ.P 78 Tryz.f78 3:=aL (by kernel_rfl)
noncomputable def Xt (l:List (Sem zh)) (i:Int) (x:Sem zh):Tr (Empty ⊕ zV):=
 Tr.chk (decide (0≤i)&&decide (i≤(↑l.length:Int)))
 (Tr.br ((↑[x].length:Int)==0)
  (Tr.re (AV.vec 0) [AO.vec zh l])
  (Tr.br (i==(↑l.length:Int)) (Tr.chk (decide (l.length+[x].length≤1073741824)) (Tr.re (AV.vec 1) [AO.dead,AO.vec zh (l++[x])])) Tr.err))
theorem zdk (l:List (Sem zh)) (i:Int) (x:Sem zh):rn HJ 1 zev Tryz.f78 [AV.vec 0,AV.int .i64 i,AV.sl zh [x]] [AO.vec zh l]=(Xt l i x).map (lf Tryz.f78 e0):=by kernel_rfl
@[match_pattern] abbrev zfS:Sh:=.pr (.pr .str (.pr (.sl (.pr .str (.pr (.int .i64) .bool))) (.pr (.int .i64) (.pr (.sl (.int .i64)) (.pr (.sl (.pr (.int .i64) .str)) .expr))))) (.sl (.sl (.pr (.int .i64) (.pr (.int .i64) .str))))
def zcl:cz [none,none,none]:=fun a h=>match a,h with
 | (.vec 0,.int .i64 i,.sl zfS [x],_),[.vec zfS l]=>.chk (i==(length l:Int)) (.chk (decide (length l+1≤1073741824)) (.ok (.vec 1,[.dead,.vec zh (l++[x])])))
 | _,_=>.err
def zaC:zD:=zS [none,none,none] zcl
theorem V9:FK 78 zaC:=by
 refine gD (ι:=List (Sem zh)×Int×Sem zh) (args:=fun y=>[AV.vec 0,AV.int .i64 y.2.1,AV.sl zh [y.2.2]]) (heap:=fun y=>[AO.vec zh y.1]) (i:=fun y=>Xt y.1 y.2.1 y.2.2) (t:=t0) (e:=e0) (n:=100000000) (n0:=1) y2 zfl (fun _=>rfl) (fun y=>zdk _ _ _) (fun s=>nomatch s) (fun a h res hv=>?_)
 unfold zcl at hv
 split at hv
 ·rename_i i x u l
  simp only [Tr.val] at hv
  split at hv
  ·rename_i h1
   split at hv
   ·rename_i h2
    simp only [aq] at hv
    subst hv
    refine ⟨(l,i,x),rfl,rfl,?_⟩
    have h3:i=(length l:Int):=by simpa using h1
    subst h3
    have h4:length l+1≤1073741824:=by simpa using h2
    unfold bW Xt
    simp [Tr.val,h4]
   ·cases hv
  ·cases hv
 ·simp at hv

noncomputable def Tw:=HJ.add 78 zaC
theorem y4:zm Tw:=y2.add V9

noncomputable def zdQ (x0:Sem zh.sl) (x1:Sem zh):Tr (Empty ⊕ zV):=
 let a0:=aj x0 x1.1.1
 let a1:=((x1.1.1,x1.1.2.1,x1.1.2.2.1,x1.1.2.2.2.1,x1.1.2.2.2.2.1,zB x1.1.2.2.2.2.2),x1.2)
 let a2:=zR (fun y => !(Op.bytesLess y.1.1 x1.1.1||y.1.1==x1.1.1)) x0 0
 Tr.chk (decide (length x0≤1073741824))
 (Tr.br (decide (a0 ≥ 0))
  (Tr.chk (zF a0 (length x0)) (Tr.chk (decide (toNat a0 < length x0)) (Tr.re (AV.vec 0) [AO.vec zh (List.set x0 (toNat a0) a1)])))
  (Tr.br (decide (a2 < 0)) (Tr.chk ((↑(length x0):Int)==(↑(length x0):Int)) (Tr.chk (decide (length x0+1≤1073741824)) (Tr.re (AV.vec 0) [AO.vec zh (x0++[a1])]))) (Tr.chk (a2==(↑(length x0):Int)) (Tr.chk (decide (length x0+1≤1073741824)) (Tr.re (AV.vec 0) [AO.vec zh (x0++[a1])])))))
noncomputable def ov (x0:Sem zh.sl) (x1:Sem zh):=zT [zh.sl] t0 100000000 (zdQ x0 x1)
noncomputable def kP (x0:Sem zh.sl) (x1:Sem zh):=(ov x0 x1).isSome
noncomputable def ly (x0:Sem zh.sl) (x1:Sem zh):=o1 (ov x0 x1)
noncomputable def zac:=FT [zh.sl,zh] [zh.sl] fun x=>ov x.1 x.2.1
theorem VG:FK 41 zac:=y4.T1 (f:=Tryz.f41) (keep:=k0) (e:=e0)

noncomputable def y3:=Tw.add 41 zac
theorem rg:zm y3:=y4.add VG
noncomputable section
abbrev aX:Sh:=.pr (.sl zh) zp

abbrev T5:=jL [(4,[3,7,8,20,21,22])]
inductive Jm where
 | h4 (i7:Sem zg) (l20:List (Sem zf.sl)) (i21:Int) (i22:Int) (z0:zu [CP.d zh]) (mh_1:List ((Int×Int×zl)×Int))
abbrev Ln:Jm→Nat×St
 | .h4 i7 l20 i21 i22 z0 mh_1=>(4,⟨tm 35 [(3,AV.ptr 0 0),(7,AV.int .i64 i7),(8,AV.mp 1),(20,AV.sl zf.sl l20),(21,AV.int .i64 i21),(22,AV.int .i64 i22)],[AO.box (bh [] [CP.d zh] z0),AO.vmap true mh_1]⟩)
theorem ze3:zA y3.P 47 Tryz.f47 2:=aL (by kernel_rfl)
def QU (d:Sem aX) (x:Sem zh):Tr (Jm ⊕ zV):=
 let a0:=((x.1.1,x.1.2.1,x.1.2.2.1,x.1.2.2.2.1,x.1.2.2.2.2.1,zB x.1.2.2.2.2.2),x.2)
 let a1:=zB d.2.2.2.2.2.2.2.2.2.2.2.2.1
 let a2:=rH a0 a1
 Tr.chk (nr a0 a1) (Tr.to (Jm.h4 a2.2 a2.1 (↑(length a2.1):Int) 0 (x,()) []))
theorem zda (d:Sem aX) (x:Sem zh):rn y3 0 T5 Tryz.f47 [zz aX d,zz zh x] []=(QU d x).map (lf Tryz.f47 Ln):=by kernel_rfl
def Kv:Jm→Tr (Jm ⊕ zV)
 | .h4 i7 l20 i21 i22 z0 mh_1=>
  let a0:=(z0.1.1.1,z0.1.1.2.1,z0.1.1.2.2.1,z0.1.1.2.2.2.1,z0.1.1.2.2.2.2.1,zB z0.1.1.2.2.2.2.2)
  let a1:=l20.getD i22.toNat (zj zf.sl)
  Tr.br (decide (i22 < i21))
  (Tr.chk (zF i22 l20.length) (Tr.chk (Oz a0 a1) (Tr.to (Jm.h4 i7 l20 i21 (IntKind.i64.wrap (i22+1)) z0 (ib mh_1 (YS a0 a1) 0)))))
  (Tr.re (AV.tup [AV.mp 0,AV.int .i64 i7]) [AO.vmap true mh_1])
theorem zfD:∀ s,run y3 0 T5 (Func.results Tryz.f47).toList 400 (zy Tryz.f47 (Ln s).1) (Ln s).2=(Kv s).map (lf Tryz.f47 Ln):=by intro s; cases s <;> kernel_rfl
def HB (d:Sem aX) (x:Sem zh):=bW Kv 100000000 (QU d x)

def mO (d:Sem aX) (x:Sem zh):Option (List ((Int×Int×zl)×Int)×Int):=match HB d x with
 | some (.tup [.mp 0,.int .i64 e],[.vmap true es])=>some (es,e)
 | _=>none
def mV (d:Sem aX) (x:Sem zh):List ((Int×Int×zl)×Int)×Int:=(mO d x).getD ([],0)
theorem zeD {d:Sem aX} {x:Sem zh} (h:(mO d x).isSome=true):HB d x=some (.tup [.mp 0,.int .i64 (mV d x).2],[.vmap true (mV d x).1]):=by
 unfold mV
 unfold mO at h ⊢
 split at h
 ·rename_i e es hd
  rw [hd]
  rfl
 ·cases h
def zci:cz [some aX,some zh]:=fun a h=>match h with
 | []=>.chk ((mO a.1 a.2.1).isSome) (.ok (.tup [.mp 0,.int .i64 (mV a.1 a.2.1).2],[.vmap true (mV a.1 a.2.1).1]))
 | _=>.err
def zaf:zD:=zS [some aX,some zh] zci
theorem VJ:FK 47 zaf:=by
 refine gD (ι:=Sem aX×Sem zh) (args:=fun y=>[zz aX y.1,zz zh y.2]) (heap:=fun _=>[]) (i:=fun y=>QU y.1 y.2) (t:=Kv) (e:=Ln) (n:=100000000) (n0:=0) rg ze3 (fun _=>rfl) (fun y=>zda _ _) zfD (fun a h res hv=>?_)
 unfold zci at hv
 split at hv
 ·simp only [Tr.val] at hv
  split at hv
  ·rename_i h1
   simp only [aq] at hv
   subst hv
   exact ⟨(a.1,a.2.1),rfl,rfl,zeD h1⟩
  ·cases hv
 ·simp at hv

def zai:zD:=zS (List.replicate 3 none) (bU y3 Tryz.f50 (List.replicate 3 none))
theorem VM:FK 50 zai:=ap _ rg (aL (by kernel_rfl))

def DV:=y3.addL [(47,zaf),(50,zai)]
theorem y5:zm DV:=rg.addL <| fc VJ <| fc VM <|  gZ
end

abbrev T8:=jL [(2,[0,1,7,8])]
inductive Jo where
 | h2 (i7:Int) (i8:Int) (z2:zu [CP.d zh]) (lh_0:List (Sem zf.sl)) (mh_3:List ((Int×Int×zl)×Int))
abbrev Ls:Jo→Nat×St
 | .h2 i7 i8 z2 lh_0 mh_3=>(2,⟨tm 19 [(0,AV.vec 0),(1,AV.clo (Fn.func 50) [] [AV.ptr 1 0,AV.ptr 2 0]),(7,AV.int .i64 i7),(8,AV.int .i64 i8)],[AO.vec zf.sl lh_0,AO.box [AV.mp 3],AO.box (bh [] [CP.d zh] z2),AO.vmap true mh_3]⟩)
theorem zft:zA DV.P 88 Tryz.f88 2:=aL (by kernel_rfl)
noncomputable def Xv (l:List (List (Sem zf))) (x:Sem zh) (es:List ((Int×Int×zl)×Int)):Tr (Jo ⊕ zV):=
 Tr.to (Jo.h2 (↑l.length:Int) 0 (x,()) l es)
theorem zdm (l:List (List (Sem zf))) (x:Sem zh) (es:List ((Int×Int×zl)×Int)):rn DV 4 T8 Tryz.f88 [AV.vec 0,AV.clo (Fn.func 50) [] [AV.ptr 1 0,AV.ptr 2 0]] [AO.vec (Sh.sl zf) l,AO.box [AV.mp 3],AO.box (bh [] [CP.d zh] (x,())),AO.vmap true es]=(Xv l x es).map (lf Tryz.f88 Ls):=by kernel_rfl
noncomputable def Ky:Jo→Tr (Jo ⊕ zV)
 | .h2 i7 i8 z2 lh_0 mh_3=>
  let a0:=lh_0.getD i8.toNat (zj zf.sl)
  Tr.br (decide (i8 < i7))
  (Tr.chk (zF i8 lh_0.length) (Tr.chk (decide (i8.toNat < lh_0.length)) (Tr.chk (zF z2.1.1.2.2.1 (length a0)) (Tr.br (fm mh_3 (getD a0 (toNat z2.1.1.2.2.1) (zj zf))) (Tr.re (AV.int .i64 i8) [AO.vec zf.sl lh_0,AO.box [AV.mp 3],AO.box [AV.str z2.1.1.1,AV.sl zi z2.1.1.2.1,AV.int .i64 z2.1.1.2.2.1,AV.sl zg z2.1.1.2.2.2.1,AV.sl zq z2.1.1.2.2.2.2.1,
  AV.str (ze.op z2.1.1.2.2.2.2.2),AV.int .i64 (ze.v z2.1.1.2.2.2.2.2).1,AV.int .i64 (ze.v z2.1.1.2.2.2.2.2).2.1,AV.str (ze.v z2.1.1.2.2.2.2.2).2.2,AV.str (ze.s z2.1.1.2.2.2.2.2),AV.sl Sh.expr (ze.l z2.1.1.2.2.2.2.2),AV.sl zf.sl z2.1.2],AO.vmap true mh_3]) (Tr.to (Jo.h2 i7 (IntKind.i64.wrap (i8+1)) z2 lh_0 mh_3))))))
  (Tr.re (AV.int .i64 (-1)) [AO.vec zf.sl lh_0,AO.box [AV.mp 3],AO.box [AV.str z2.1.1.1,AV.sl zi z2.1.1.2.1,AV.int .i64 z2.1.1.2.2.1,AV.sl zg z2.1.1.2.2.2.1,AV.sl zq z2.1.1.2.2.2.2.1,AV.str (ze.op z2.1.1.2.2.2.2.2),AV.int .i64 (ze.v z2.1.1.2.2.2.2.2).1,AV.int .i64 (ze.v z2.1.1.2.2.2.2.2).2.1,AV.str (ze.v z2.1.1.2.2.2.2.2).2.2,
  AV.str (ze.s z2.1.1.2.2.2.2.2),AV.sl Sh.expr (ze.l z2.1.1.2.2.2.2.2),AV.sl zf.sl z2.1.2],AO.vmap true mh_3])
theorem zfM:∀ s,run DV 4 T8 (Func.results Tryz.f88).toList 400 (zy Tryz.f88 (Ls s).1) (Ls s).2=(Ky s).map (lf Tryz.f88 Ls):=by intro s; cases s <;> kernel_rfl
noncomputable def zif (l:List (List (Sem zf))) (x:Sem zh) (es:List ((Int×Int×zl)×Int)):=bW Ky 100000000 (Xv l x es)

set_option maxHeartbeats 1000000

def je (k:Int) (es:List ((Int×Int×zl)×Int)) (r:List (Sem zf)):Bool:=fm es (getD r (toNat k) (zj zf))
def MC (l:List (List (Sem zf))) (x:Sem zh) (es:List ((Int×Int×zl)×Int)):List AO:=[AO.vec zf.sl l,AO.box [AV.mp 3],AO.box (bh [] [CP.d zh] (x,())),AO.vmap true es]
theorem Xw (l:List (List (Sem zf))) (x:Sem zh) (es:List ((Int×Int×zl)×Int)) (hl:l.length≤1000000) (hk:∀ r∈l,zF x.1.2.2.1 (length r)=true):∀ (m i n:Nat),l.length - i=m→i≤l.length→m < n→
  bJ Ky n (.h2 (l.length:Int) (i:Int) (x,()) l es)=some (.int .i64 (zR (je x.1.2.2.1 es) (l.drop i) i),MC l x es):=by
 intro m
 induction m with
 | zero=>
  intro i n hm hi hn
  obtain rfl:i=l.length:=by omega
  obtain ⟨n,rfl⟩:∃ k,n=k+1:=⟨n - 1,by omega⟩
  rw [bJ]
  simp only [Ky,Tr.val,ag,dj]
  rfl
 | succ m IH=>
  intro i n hm hi hn
  have hlt:i < l.length:=by omega
  have h2:decide ((i:Int).toNat < l.length)=true:=by simpa using hlt
  obtain ⟨n,rfl⟩:∃ k,n=k+1:=⟨n - 1,by omega⟩
  have h3:=hk l[i] (ce hlt)
  rw [bJ,dB hlt]
  simp only [Ky,Tr.val,zX hlt,zG hlt,h2,ac l _ hlt,zH i (by unfold zE; omega),if_true,zR,h3]
  by_cases h:je x.1.2.2.1 es l[i]=true
  ·have h':fm es (getD l[i] (toNat x.1.2.2.1) (zj zf))=true:=h
   rw [h]
   simp only [h',if_true]
   rfl
  ·have h':¬ fm es (getD l[i] (toNat x.1.2.2.1) (zj zf))=true:=h
   rw [if_neg h',Bool.eq_false_iff.2 h]
   dsimp only
   exact IH (i+1) n (by omega) (by omega) (by omega)
theorem Q1 (l:List (List (Sem zf))) (x:Sem zh) (es:List ((Int×Int×zl)×Int)) (hl:l.length≤1000000) (hk:∀ r∈l,zF x.1.2.2.1 (length r)=true):zif l x es=some (.int .i64 (zR (je x.1.2.2.1 es) l 0),MC l x es):=by
 have:=Xw l x es hl hk l.length 0 100000000 rfl (aE _) (by omega)
 rw [List.drop_zero] at this
 exact this

@[match_pattern] abbrev wv:Sh:=.pr (.int .i64) (.pr (.int .i64) .str)
@[match_pattern] abbrev zfQ:Sh:=.pr .str (.pr (.int .i64) .bool)
@[match_pattern] abbrev zfR:Sh:=.pr (.int .i64) .str
def zcm:cz [none,none]:=fun a h=>match a,h with
 | (.vec 0,.clo (.func 50) [] [.ptr 1 0,.ptr 2 0],_),[.vec (.sl wv) l,.box [.mp 3],.box [.str n,.sl zfQ cs,.int .i64 k,.sl (.int .i64) us,.sl zfR fs,.str eo,.int .i64 p,.int .i64 q,.str vs,.str ss,.sl .expr el,.sl (.sl wv) rs],.vmap true es]=>
  .chk (decide (length l≤1000000)&&List.all l (fun r=>zF k (length r))) (.ok (.int .i64 (zR (je k es) l 0),[.vec (.sl zf) l,.box [.mp 3],.box [.str n,.sl zi cs,.int .i64 k,.sl zg us,.sl zq fs,.str eo,.int .i64 p,.int .i64 q,.str vs,.str ss,.sl .expr el,.sl (.sl zf) rs],.vmap true es]))
 | _,_=>.err
def zaK:zD:=zS [none,none] zcm
theorem Wi:FK 88 zaK:=by
 refine gD (ι:=List (List (Sem zf))×Sem zh×List ((Int×Int×zl)×Int)) (args:=fun _=>[AV.vec 0,AV.clo (Fn.func 50) [] [AV.ptr 1 0,AV.ptr 2 0]]) (heap:=fun y=>MC y.1 y.2.1 y.2.2) (i:=fun y=>Xv y.1 y.2.1 y.2.2) (t:=Ky) (e:=Ls) (n:=100000000) (n0:=4) y5 zft (fun _=>rfl) (fun y=>zdm _ _ _) zfM (fun a h res hv=>?_)
 unfold zcm at hv
 split at hv
 ·rename_i u l n cs k us fs eo p q vs ss el rs es
  simp only [Tr.val] at hv
  split at hv
  ·rename_i h1
   simp only [aq] at hv
   subst hv
   simp only [aG,zW,cL] at h1
   exact ⟨(l,((n,cs,k,us,fs,ze.mk eo (p,q,vs) ss el),rs),es),rfl,rfl,Q1 l ((n,cs,k,us,fs,ze.mk eo (p,q,vs) ss el),rs) es h1.1 h1.2⟩
  ·cases hv
 ·simp at hv

noncomputable def DW:=DV.add 88 zaK
theorem y6:zm DW:=y5.add Wi

abbrev T6:=jL [(5,[0,1,5,6])]
inductive Fr where
 | h5 (i5:Int) (i6:Int) (z2:zu [CP.d zh]) (lh_0:List (Sem zf.sl)) (mh_3:List ((Int×Int×zl)×Int))
abbrev Lo:Fr→Nat×St
 | .h5 i5 i6 z2 lh_0 mh_3=>(5,⟨tm 42 [(0,AV.vec 0),(1,AV.clo (Fn.func 50) [] [AV.ptr 1 0,AV.ptr 2 0]),(5,AV.int .i64 i5),(6,AV.int .i64 i6)],[AO.vec zf.sl lh_0,AO.box [AV.mp 3],AO.box (bh [] [CP.d zh] z2),AO.vmap true mh_3]⟩)
theorem ze6:zA DW.P 49 Tryz.f49 2:=aL (by kernel_rfl)
noncomputable def QV (l:List (List (Sem zf))) (x:Sem zh) (es:List ((Int×Int×zl)×Int)):Tr (Fr ⊕ zV):=
 let a0:=zR (je x.1.2.2.1 es) l 0
 Tr.chk (decide (l.length≤1000000)&&l.all fun r=>zF x.1.2.2.1 (length r))
 (Tr.br (a0==-1)
  (Tr.re (AV.vec 0) [AO.vec zf.sl l,AO.box [AV.mp 3],AO.box [AV.str x.1.1,AV.sl zi x.1.2.1,AV.int .i64 x.1.2.2.1,AV.sl zg x.1.2.2.2.1,AV.sl zq x.1.2.2.2.2.1,AV.str (ze.op x.1.2.2.2.2.2),AV.int .i64 (ze.v x.1.2.2.2.2.2).1,AV.int .i64 (ze.v x.1.2.2.2.2.2).2.1,AV.str (ze.v x.1.2.2.2.2.2).2.2,AV.str (ze.s x.1.2.2.2.2.2),AV.sl Sh.expr (ze.l x.1.2.2.2.2.2),
  AV.sl zf.sl x.2],AO.vmap true es])
  (Tr.to (Fr.h5 a0 (IntKind.i64.wrap (a0+1)) (x,()) l es)))
theorem zdc (l:List (List (Sem zf))) (x:Sem zh) (es:List ((Int×Int×zl)×Int)):rn DW 4 T6 Tryz.f49 [AV.vec 0,AV.clo (Fn.func 50) [] [AV.ptr 1 0,AV.ptr 2 0]] [AO.vec (Sh.sl zf) l,AO.box [AV.mp 3],AO.box (bh [] [CP.d zh] (x,())),AO.vmap true es]=(QV l x es).map (lf Tryz.f49 Lo):=by kernel_rfl
noncomputable def Kw:Fr→Tr (Fr ⊕ zV)
 | .h5 i5 i6 z2 lh_0 mh_3=>
  let a0:=lh_0.getD i6.toNat (zj zf.sl)
  let a1:=IntKind.i64.wrap (i6+1)
  let a2:=decide (0≤i5)
  let a3:=List.take i5.toNat lh_0++List.replicate (lh_0.length - i5.toNat) []
  let a4:=(↑a3.length:Int)
  Tr.br (decide (i6 < (↑lh_0.length:Int)))
  (Tr.chk (zF i6 lh_0.length) (Tr.chk (decide (i6.toNat < lh_0.length)) (Tr.chk (zF z2.1.1.2.2.1 (length a0)) (Tr.br (!fm mh_3 (getD a0 (toNat z2.1.1.2.2.1) (zj zf))) (Tr.chk (zF i5 lh_0.length) (Tr.chk (decide (i5.toNat < lh_0.length)) (Tr.to (Fr.h5 (IntKind.i64.wrap (i5+1)) a1 z2 (lh_0.set i5.toNat a0) mh_3)))) (Tr.to (Fr.h5 i5 a1 z2 lh_0 mh_3))))))
  (Tr.chk (a2&&decide (i5≤(↑lh_0.length:Int))) (Tr.chk (decide (i5.toNat≤lh_0.length)) (Tr.chk (decide (0≤0)&&a2&&decide (i5≤a4)) (Tr.re (AV.sl zf.sl (List.take (i5.toNat - toNat 0) (List.drop (toNat 0) a3))) [AO.frz zf.sl a3,AO.box [AV.mp 3],AO.box [AV.str z2.1.1.1,AV.sl zi z2.1.1.2.1,AV.int .i64 z2.1.1.2.2.1,
  AV.sl zg z2.1.1.2.2.2.1,AV.sl zq z2.1.1.2.2.2.2.1,AV.str (ze.op z2.1.1.2.2.2.2.2),AV.int .i64 (ze.v z2.1.1.2.2.2.2.2).1,AV.int .i64 (ze.v z2.1.1.2.2.2.2.2).2.1,AV.str (ze.v z2.1.1.2.2.2.2.2).2.2,AV.str (ze.s z2.1.1.2.2.2.2.2),AV.sl Sh.expr (ze.l z2.1.1.2.2.2.2.2),AV.sl zf.sl z2.1.2],AO.vmap true mh_3]))))
theorem zfE:∀ s,run DW 4 T6 (Func.results Tryz.f49).toList 400 (zy Tryz.f49 (Lo s).1) (Lo s).2=(Kw s).map (lf Tryz.f49 Lo):=by intro s; cases s <;> kernel_rfl
noncomputable def Tj (l:List (List (Sem zf))) (x:Sem zh) (es:List ((Int×Int×zl)×Int)):=bW Kw 100000000 (QV l x es)

set_option maxHeartbeats 2000000

theorem jy {α:Type} (p:α→Bool):∀ (l:List α) (i:Nat),(zR p l i=-1∧∀ x∈l,p x=false)∨∃ (k:Nat) (h:k < l.length),zR p l i=((i+k:Nat):Int)∧p l[k]=true∧∀ x∈l.take k,p x=false
 | [],_=>.inl ⟨rfl,by simp⟩
 | x::r,i=>by
  unfold zR
  split
  ·rename_i h
   exact .inr ⟨0,by simp,rfl,h,by simp⟩
  ·rename_i h
   have hx:p x=false:=by simpa using h
   rcases jy p r (i+1) with ⟨h1,h2⟩ | ⟨k,hk,h1,h2,h3⟩
   ·refine .inl ⟨h1,fun y hy=>?_⟩
    rcases dT.1 hy with rfl | hy
    ·exact hx
    ·exact h2 y hy
   ·refine .inr ⟨k+1,by simpa using hk,by rw [h1]; congr 1; omega,by simpa using h2,fun y hy=>?_⟩
    rw [List.take_succ_cons] at hy
    rcases dT.1 hy with rfl | hy
    ·exact hx
    ·exact h3 y hy

theorem OM {α:Type} {l:List α} {i:Nat} (h:i < l.length):l.take (i+1)=l.take i++[l[i]]:=by
 rw [List.take_add_one,zI h]; rfl
abbrev oZ (k:Int) (es:List ((Int×Int×zl)×Int)):List (Sem zf)→Bool:=fun r => !je k es r
abbrev I8 (k:Int) (es:List ((Int×Int×zl)×Int)) (l:List (List (Sem zf))):List (List (Sem zf)):=l.filter (oZ k es)++List.replicate (l.length - (l.filter (oZ k es)).length) ([]:List (Sem zf))
def zcF (x:Sem zh) (es:List ((Int×Int×zl)×Int)) (l:List (List (Sem zf))):List AO:=[AO.frz zf.sl (I8 x.1.2.2.1 es l),AO.box [AV.mp 3],AO.box (bh [] [CP.d zh] (x,())),AO.vmap true es]

theorem QC (l:List (List (Sem zf))) (x:Sem zh) (es:List ((Int×Int×zl)×Int)) (hl:l.length≤1000000) (hk:∀ r∈l,zF x.1.2.2.1 (length r)=true):∀ (m i6 i5 n:Nat) (cur:List (List (Sem zf))),l.length - i6=m→i6≤l.length→i5≤i6→cur.length=l.length→
  cur.take i5=(l.take i6).filter (oZ x.1.2.2.1 es)→cur.drop i6=l.drop i6→m < n→
  bJ Kw n (.h5 (i5:Int) (i6:Int) (x,()) cur es)=some (.sl zf.sl (l.filter (oZ x.1.2.2.1 es)),zcF x es l):=by
 intro m
 induction m with
 | zero=>
  intro i6 i5 n cur hm' hi h5 hcl ht hd hn
  obtain rfl:i6=l.length:=by omega
  obtain ⟨n,rfl⟩:∃ k,n=k+1:=⟨n - 1,by omega⟩
  rw [List.take_length] at ht
  have hlen5:(l.filter (oZ x.1.2.2.1 es)).length=i5:=by rw [← ht,List.length_take]; omega
  have e1:decide ((l.length:Int) < (cur.length:Int))=false:=by rw [hcl]; simp
  have e2:(decide ((0:Int)≤(i5:Int))&&decide ((i5:Int)≤(cur.length:Int)))=true:=by simp; omega
  have e3:decide ((i5:Int).toNat≤cur.length)=true:=by simp; omega
  have e4:(decide ((0:Int)≤0)&&decide ((0:Int)≤(i5:Int))&&decide ((i5:Int)≤((List.take (i5:Int).toNat cur++List.replicate (cur.length - (i5:Int).toNat) ([]:List (Sem zf))).length:Int)))=true:=by simp; omega
  rw [bJ]
  simp only [Kw,Tr.val,e1,e2,e3,if_true,zN,if_false]
  have e5:List.take ((i5:Int).toNat - toNat 0) (List.drop (toNat 0) (List.take (i5:Int).toNat cur++List.replicate (cur.length - (i5:Int).toNat) ([]:List (Sem zf))))=l.filter (oZ x.1.2.2.1 es):=by
   simp only [be,Int.toNat_zero,List.drop_zero,Nat.sub_zero]
   rw [List.take_append_of_le_length (by simp; omega),List.take_take,Nat.min_self,ht]
  have e6:List.take (i5:Int).toNat cur++List.replicate (cur.length - (i5:Int).toNat) ([]:List (Sem zf))=I8 x.1.2.2.1 es l:=by
   simp only [be]
   rw [ht,hcl]
   unfold I8
   rw [hlen5]
  rw [if_pos (by simp; omega),e5,e6]
  rfl
 | succ m IH=>
  intro i6 i5 n cur hm' hi h5 hcl ht hd hn
  obtain ⟨n,rfl⟩:∃ k,n=k+1:=⟨n - 1,by omega⟩
  have hlt:i6 < l.length:=by omega
  have hltc:i6 < cur.length:=by omega
  have h5c:i5 < cur.length:=by omega
  have hc6:cur[i6]=l[i6]:=by
   have:=congrArg (·[0]?) hd
   simp only [nP,pg] at this
   rw [zI hltc,zI hlt] at this
   exact Option.some.inj this
  have h2:decide ((i6:Int).toNat < cur.length)=true:=by simpa using hltc
  have h3:decide ((i5:Int).toNat < cur.length)=true:=by simpa using h5c
  have ht6:l.take (i6+1)=l.take i6++[l[i6]]:=OM hlt
  have hd6:cur.drop (i6+1)=l.drop (i6+1):=by
   have:=congrArg (List.drop 1) hd
   simpa [List.drop_drop,pf] using this
  have h7:=hk l[i6] (ce hlt)
  rw [bJ]
  simp only [Kw,Tr.val,zX hltc,zG hltc,zG h5c,h2,h3,ac cur _ hltc,hc6,h7,zH i6 (by unfold zE; omega),zH i5 (by unfold zE; omega),if_true]
  by_cases hk':je x.1.2.2.1 es l[i6]=true
  ·have h':fm es (getD l[i6] (toNat x.1.2.2.1) (zj zf))=true:=hk'
   simp only [h',iW,zN,if_false]
   refine IH (i6+1) i5 n cur (by omega) (by omega) (by omega) hcl ?_ hd6 (by omega)
   rw [ht6,List.filter_append,← ht,List.filter_cons_of_neg (by simp [oZ,hk']),List.filter_nil,lW]
  ·have hkf:je x.1.2.2.1 es l[i6]=false:=by simpa using hk'
   have h':fm es (getD l[i6] (toNat x.1.2.2.1) (zj zf))=false:=hkf
   simp only [h',Bool.not_false,if_true]
   refine IH (i6+1) (i5+1) n _ (by omega) (by omega) (by omega) (by simpa using hcl) ?_ ?_ (by omega)
   ·rw [ht6,List.filter_append,← ht]
    simp only [be]
    rw [OM (by simpa using h5c),List.filter_cons_of_pos (by simp [oZ,hkf]),List.filter_nil]
    simp [List.take_set_of_le]
   ·simp only [be]
    rw [List.drop_set_of_lt (by omega)]
    exact hd6
theorem Lj (l:List (List (Sem zf))) (x:Sem zh) (es:List ((Int×Int×zl)×Int)) (hl:l.length≤1000000) (hk:∀ r∈l,zF x.1.2.2.1 (length r)=true):
  Tj l x es=some (if zR (je x.1.2.2.1 es) l 0==-1 then (.vec 0,MC l x es) else (.sl zf.sl (l.filter (oZ x.1.2.2.1 es)),zcF x es l)):=by
 have h0:(decide (l.length≤1000000)&&l.all fun r=>zF x.1.2.2.1 (length r))=true:=by
  simp only [aG,zW,cL]
  exact ⟨hl,hk⟩
 unfold Tj bW QV
 simp only [Tr.val,h0,if_true]
 by_cases h1:(zR (je x.1.2.2.1 es) l 0==-1)=true
 ·simp only [h1,if_true]
  rfl
 ·rw [if_neg h1,if_neg h1]
  rcases jy (je x.1.2.2.1 es) l 0 with ⟨h2,_⟩ | ⟨k,hk',h2,h3,h4⟩
  ·exfalso; apply h1; rw [h2]; rfl
  ·rw [h2,ii,zH k (by unfold zE; omega)]
   refine QC l x es hl hk (l.length - (k+1)) (k+1) k 100000000 l rfl (by omega) (by omega) rfl ?_ rfl (by omega)
   rw [OM hk',List.filter_append,List.filter_cons_of_neg (by simp [oZ,h3]),List.filter_nil,lW]
   refine (List.filter_eq_self.2 fun y hy=>?_).symm
   simp [oZ,h4 y hy]

def zcj:cz [none,none]:=fun a h=>match a,h with
 | (.vec 0,.clo (.func 50) [] [.ptr 1 0,.ptr 2 0],_),[.vec (.sl wv) l,.box [.mp 3],.box [.str n,.sl zfQ cs,.int .i64 k,.sl (.int .i64) us,.sl zfR fs,.str eo,.int .i64 p,.int .i64 q,.str vs,.str ss,.sl .expr el,.sl (.sl wv) rs],.vmap true es]=>
  .chk (decide (length l≤1000000)&&List.all l (fun r=>zF k (length r))) (.br (zR (je k es) l 0==-1)
   (.ok (.vec 0,[.vec (.sl zf) l,.box [.mp 3],.box [.str n,.sl zi cs,.int .i64 k,.sl zg us,.sl zq fs,.str eo,.int .i64 p,.int .i64 q,.str vs,.str ss,.sl .expr el,.sl (.sl zf) rs],.vmap true es]))
   (.ok (.sl (.sl zf) (List.filter (oZ k es) l),[.frz (.sl zf) (I8 k es l),.box [.mp 3],.box [.str n,.sl zi cs,.int .i64 k,.sl zg us,.sl zq fs,.str eo,.int .i64 p,.int .i64 q,.str vs,.str ss,.sl .expr el,.sl (.sl zf) rs],.vmap true es])))
 | _,_=>.err
def zah:zD:=zS [none,none] zcj
theorem VL:FK 49 zah:=by
 refine gD (ι:=List (List (Sem zf))×Sem zh×List ((Int×Int×zl)×Int)) (args:=fun _=>[AV.vec 0,AV.clo (Fn.func 50) [] [AV.ptr 1 0,AV.ptr 2 0]]) (heap:=fun y=>MC y.1 y.2.1 y.2.2) (i:=fun y=>QV y.1 y.2.1 y.2.2) (t:=Kw) (e:=Lo) (n:=100000000) (n0:=4) y6 ze6 (fun _=>rfl) (fun y=>zdc _ _ _) zfE (fun a h res hv=>?_)
 unfold zcj at hv
 split at hv
 ·rename_i u l n cs k us fs eo p q vs ss el rs es
  simp only [Tr.val] at hv
  split at hv
  ·rename_i h1
   simp only [aG,zW,cL] at h1
   have h2:=Lj l ((n,cs,k,us,fs,ze.mk eo (p,q,vs) ss el),rs) es h1.1 h1.2
   refine ⟨(l,((n,cs,k,us,fs,ze.mk eo (p,q,vs) ss el),rs),es),rfl,rfl,?_⟩
   refine h2.trans ?_
   split at hv
   ·rename_i h3
    rw [if_pos h3]
    exact hv
   ·rename_i h3
    rw [if_neg h3]
    exact hv
  ·cases hv
 ·simp at hv

noncomputable def LO:=DW.add 49 zah
theorem oC:zm LO:=y6.add VL
noncomputable section

def zdJ (x0:Sem aX):Tr (Empty ⊕ zV):=
 let a0:=aj x0.1 x0.2.2.1
 let a1:=getD x0.1 (toNat a0) (zj zh)
 let a2:=((a1.1.1,a1.1.2.1,a1.1.2.2.1,a1.1.2.2.2.1,a1.1.2.2.2.2.1,zB a1.1.2.2.2.2.2),a1.2)
 let a3:=zB x0.2.2.2.2.2.2.2.2.2.2.2.2.1
 let a4:=rH a2 a3
 let a5:=cU a4.2
 Tr.br (decide (a0 < 0))
 (Tr.chk true
  (Tr.re (AV.tup [AV.sl zh (cU 6).1,AV.agg [AV.int .i64 (cU 6).2.1,AV.int .i64 (cU 6).2.2.1,AV.sl zf.sl (cU 6).2.2.2]]) []))
 (Tr.chk (zF a0 (length x0.1))
  (Tr.chk (nr a2 a3) (Tr.br (a4.2 != 0) (Tr.chk (uK a4.2) (Tr.re (AV.tup [AV.sl zh a5.1,AV.agg [AV.int .i64 a5.2.1,AV.int .i64 a5.2.2.1,AV.sl zf.sl a5.2.2.2]]) [])) (Tr.re (AV.tup [AV.sl zh x0.1,AV.agg [AV.int .i64 0,AV.int .i64 (↑(length a4.1):Int),AV.sl zf.sl a4.1]]) []))))
def ke (x0:Sem aX):=zT [zh.sl,c5] t0 100000000 (zdJ x0)
def uI (x0:Sem aX):=(ke x0).isSome
def Bt (x0:Sem aX):=o2 (ke x0)
def ZY:=FT [aX] [zh.sl,c5] fun x=>ke x.1
theorem Vp:FK 22 ZY:=oC.T1 (f:=Tryz.f22) (keep:=k0) (e:=e0)

def zdI (x0:Sem aX):Tr (Empty ⊕ zV):=
 let a0:=aj x0.1 x0.2.2.1
 let a1:=(x0.1,x0.2.1,x0.2.2.1,x0.2.2.2.1,x0.2.2.2.2.1,x0.2.2.2.2.2.1,x0.2.2.2.2.2.2.1,x0.2.2.2.2.2.2.2.1,x0.2.2.2.2.2.2.2.2.1,zB x0.2.2.2.2.2.2.2.2.2.1,x0.2.2.2.2.2.2.2.2.2.2.1,x0.2.2.2.2.2.2.2.2.2.2.2.1,zB x0.2.2.2.2.2.2.2.2.2.2.2.2.1,x0.2.2.2.2.2.2.2.2.2.2.2.2.2)
 let a2:=getD x0.1 (toNat a0) (zj zh)
 let a3:=(a2.1.1,a2.1.2.1,a2.1.2.2.1,a2.1.2.2.2.1,a2.1.2.2.2.2.1,zB a2.1.2.2.2.2.2)
 let a4:=(a3,a2.2)
 let a5:=mV a1 a4
 let a6:=cU a5.2
 let a7:=decide (a5.1.length≤1073741824)
 let a8:=ly x0.1 a4
 let a9:=(↑a5.1.length:Int)
 let a10:=si a8 a9
 let a11:=(a3,List.filter (oZ a2.1.2.2.1 a5.1) a2.2)
 let a12:=ly x0.1 a11
 let a13:=si a12 a9
 Tr.br (decide (a0 < 0))
 (Tr.chk true
  (Tr.re (AV.tup [AV.sl zh (cU 6).1,AV.agg [AV.int .i64 (cU 6).2.1,AV.int .i64 (cU 6).2.2.1,AV.sl zf.sl (cU 6).2.2.2]]) []))
 (Tr.chk (zF a0 (length x0.1))
  (Tr.chk (mO a1 a4).isSome (Tr.br (a5.2 != 0) (Tr.chk (uK a5.2) (Tr.re (AV.tup [AV.sl zh a6.1,AV.agg [AV.int .i64 a6.2.1,AV.int .i64 a6.2.2.1,AV.sl zf.sl a6.2.2.2]]) [])) (Tr.chk (decide (length a2.2≤1073741824)) (Tr.chk (decide (length a2.2≤1000000)&&List.all a2.2 fun r=>zF a2.1.2.2.1 (length r)) (Tr.br (zR (je a2.1.2.2.1 a5.1) a2.2 0==-1)
  (Tr.chk (kP x0.1 a4) (Tr.chk a7 (Tr.chk (mb a8 a9) (Tr.re (AV.tup [AV.sl zh a10.1,AV.agg [AV.int .i64 a10.2.1,AV.int .i64 a10.2.2.1,AV.sl zf.sl a10.2.2.2]]) [])))) (Tr.chk (kP x0.1 a11) (Tr.chk a7 (Tr.chk (mb a12 a9) (Tr.re (AV.tup [AV.sl zh a13.1,AV.agg [AV.int .i64 a13.2.1,AV.int .i64 a13.2.2.1,AV.sl zf.sl a13.2.2.2]]) []))))))))))
def kf (x0:Sem aX):=zT [zh.sl,c5] t0 100000000 (zdI x0)
def uO (x0:Sem aX):=(kf x0).isSome
def Bw (x0:Sem aX):=o2 (kf x0)
def ZV:=FT [aX] [zh.sl,c5] fun x=>kf x.1
theorem Vm:FK 21 ZV:=oC.T1 (f:=Tryz.f21) (keep:=k0) (e:=e0)

def BJ:=LO.addL [(22,ZY),(21,ZV)]
theorem oD:zm BJ:=oC.addL <| fc Vp <| fc Vm <|  gZ
end

theorem gi {c g:Bool} (h1:c=true) (h2:g=true):(if c=true then g else false)=true:=by rw [if_pos h1]; exact h2
theorem ar {a b:Nat} (h:a≤b):decide (a≤b)=true:=ba h

theorem A3 {v:Sem zf} (h:dS v=true) (h2:(v.1==2)=true):v.2.2.length≤40:=by
 have e:v.1=2:=by simpa using h2
 unfold dS at h
 rw [e] at h
 simp only [show ((2:Int)==0)=false from rfl,show ((2:Int)==1)=false from rfl,show ((2:Int)==2)=true from rfl,zN,if_false,if_true] at h
 cases h1:v.2.1==0
 ·rw [h1] at h; simp at h
 ·rw [h1] at h
  cases h3:decide ((v.2.2.length:Int)≤40)
  ·rw [h3] at h; simp at h
  ·have:=dH h3
   omega

theorem sP (v:Sem zf):ln v=true:=by
 unfold ln
 split
 ·rfl
 ·rename_i hm
  have hm:dS v=true:=by simpa using hm
  split
  ·rfl
  ·split
   ·rename_i h2
    have hl:=A3 hm h2
    have hr:=jh v.2.2 [39] [39,39]
    have hr2:(Lib.replaceAll v.2.2 [39] [39,39]).length≤200:=by
     simp only [lu,List.length_nil] at hr
     omega
    refine gi ?_ (gi (ar ?_) (gi (ar ?_) rfl))
    ·unfold qd
     simp
     omega
    ·simp; omega
    ·simp; omega
   ·rfl

theorem rS (v:Sem zf):(eD v).length≤300:=by
 unfold eD
 split
 ·simp
 ·rename_i hm
  have hm:dS v=true:=by simpa using hm
  split
  ·have:=Au v.2.1
   omega
  ·split
   ·rename_i h2
    have hl:=A3 hm h2
    have hr:=jh v.2.2 [39] [39,39]
    simp only [lu,List.length_nil] at hr
    simp
    omega
   ·split
    ·split <;> simp
    ·simp

theorem rU {s:zl} (h:dA s=true):s.length≤16:=by
 have h:mP s=true:=h
 unfold mP at h
 by_cases h2:(s.length:Int)≤16
 ·omega
 ·exfalso
  rw [ei h2] at h
  cases h1:decide ((s.length:Int) ≥ 1) <;> rw [h1] at h <;> simp at h

theorem Nf {g:ze→Int→Int→Bool×Int} {e:ze} {d n:Int} (h:(wh g e d n).1=true) (hc:e.op=[99,111,108]):e.s.length≤16:=by
 unfold wh at h
 split at h
 ·cases h
 ·split at h
  ·rename_i h1; rw [hc] at h1; simp at h1
  ·split at h
   ·cases h1:vW e.v
    ·rw [h1] at h; simp at h
    ·rw [h1] at h
     cases h2:dA e.s
     ·rw [h2] at h; simp at h
     ·exact rU h2
   ·rename_i h1; rw [hc] at h1; simp at h1

theorem cw (s:zl):(Lib.toUpperA s).length=s.length:=by simp [Lib.toUpperA]

theorem uT:∀ (N:Nat) (e:ze) (d n:Int),N≤16→(mt N e d n).1=true→gE N e=true∧(fL N e).length≤400 * 2 ^ N - 100
 | 0,_,_,_,_,h=>by cases h
 | N + 1,e,d,n,hN,h=>by
  rw [mt] at h
  obtain ⟨hl,h2⟩:=rt h
  have hp:2 ^ N≤2 ^ 15:=Nat.pow_le_pow_right (by omega) (by omega)
  have hp1:1≤2 ^ N:=Nat.one_le_two_pow
  have hpp:2 ^ (N+1)=2 * 2 ^ N:=by rw [Nat.pow_succ]; omega
  have hparts:∀ x∈e.l,gE N x=true∧(fL N x).length≤400 * 2 ^ N - 100:=by
   intro x hx
   rcases h2 with h2 | h2
   ·exfalso
    have:dq e.op=0:=by
     rcases h2 with h2 | h2 <;> rw [h2] <;> decide
    rw [this] at hl
    have:e.l=[]:=Di (by omega)
    rw [this] at hx; simp at hx
   ·obtain ⟨m,hm⟩:=pQ e.l _ h2 x hx
    exact uT N x _ _ (by omega) hm
  have hget:∀ i,i < e.l.length→e.l.getD i (zj Sh.expr)∈e.l:=by
   intro i hi
   rw [aD,zI hi]
   exact ce hi
  rw [gE,fL]
  unfold tg uS
  rcases my e.op with ⟨hp0,hop | hop⟩ | ⟨hp0,hop | hop⟩ | ⟨hp0,hop⟩ | hp0
  ·rw [hop]
   simp only [beq_self_eq_true,if_true]
   refine ⟨gi (sP _) rfl,?_⟩
   have:=rS e.v
   omega
  ·have hs:=Nf h hop
   rw [hop]
   refine ⟨rfl,?_⟩
   show e.s.length≤_
   omega
  ·rw [hp0] at hl
   have hlen:e.l.length=1:=by omega
   obtain ⟨k1,k2⟩:=hparts _ (hget 0 (by omega))
   rw [hop]
   refine ⟨gi ?_ (gi k1 (gi (ar ?_) (gi (ar ?_) rfl))),?_⟩
   ·simp [zF,hlen]
   ·simp at k2 ⊢; omega
   ·simp at k2 ⊢; omega
   ·show ([40,78,79,84,32]++fL N (e.l.getD 0 (zj Sh.expr))++[41]).length≤_
    simp at k2 ⊢; omega
  ·rw [hp0] at hl
   have hlen:e.l.length=1:=by omega
   obtain ⟨k1,k2⟩:=hparts _ (hget 0 (by omega))
   rw [hop]
   refine ⟨gi ?_ (gi k1 (gi (ar ?_) (gi (ar ?_) rfl))),?_⟩
   ·simp [zF,hlen]
   ·simp at k2 ⊢; omega
   ·simp at k2 ⊢; omega
   ·show ([40]++fL N (e.l.getD 0 (zj Sh.expr))++[32,73,83,32,78,85,76,76,41]).length≤_
    simp at k2 ⊢; omega
  ·rw [hp0] at hl
   have hlen:e.l.length=2:=by omega
   obtain ⟨k1,k2⟩:=hparts _ (hget 0 (by omega))
   obtain ⟨k3,k4⟩:=hparts _ (hget 1 (by omega))
   have hu:(decide (e.op.length≤140737488355328)&&e.op.all fun b=>decide (b.toNat < 128))=true:=by
    rcases hop with hop | hop | hop | hop | hop | hop <;> rw [hop] <;> decide
   have hol:e.op.length≤3:=by
    rcases hop with hop | hop | hop | hop | hop | hop <;> rw [hop] <;> simp
   have hul:=cw e.op
   have n1:(e.op==[108,105,116])=false:=by rcases hop with hop | hop | hop | hop | hop | hop <;> rw [hop] <;> rfl
   have n2:(e.op==[99,111,108])=false:=by rcases hop with hop | hop | hop | hop | hop | hop <;> rw [hop] <;> rfl
   have n3:(e.op==[110,111,116])=false:=by rcases hop with hop | hop | hop | hop | hop | hop <;> rw [hop] <;> rfl
   have n4:(e.op==[110,117,108,108])=false:=by rcases hop with hop | hop | hop | hop | hop | hop <;> rw [hop] <;> rfl
   simp only [n1,n2,n3,n4,zN,if_false]
   refine ⟨gi ?_ (gi k1 (gi (ar ?_) (gi (ar ?_) (gi hu (gi (ar ?_) (gi (ar ?_) (gi ?_ (gi k3 (gi (ar ?_) (gi (ar ?_) rfl)))))))))),?_⟩
   ·simp [zF,hlen]
   all_goals first
    | (simp [zF,hlen]; done)
    | (simp at k2 k4 ⊢; omega)
  ·rw [hp0] at hl
   omega

theorem BV (e:ze):m9 e=true:=by
 unfold m9
 split
 ·rfl
 ·rename_i h
  exact gi (uT 16 e 1 0 (by omega) (by simpa [gg] using h)).1 rfl

theorem F4 (e:ze):(kU e).1.length≤30000000:=by
 unfold kU
 split
 ·simp
 ·rename_i h
  have:=(uT 16 e 1 0 (by omega) (by simpa [gg] using h)).2
  show (fL 16 e).length≤_
  omega


theorem H1 (p:Int→Bool):∀ s:zl,fv p s≤s.length
 | []=>by simp [fv]
 | c::r=>by
  have:=H1 p r
  rw [fv]
  split <;> simp <;> omega
theorem nu (f m:Int→Bool) (s:zl):aw f m s≤s.length:=by
 cases s with
 | nil=>simp [aw]
 | cons c r=>
  have:=H1 m r
  rw [aw]
  split <;> simp <;> omega

theorem Uy (i:Nat) (h:i≤4000000000):IntKind.i64.wrap (i:Int)=(i:Int):=by
 have:=zH (i - 1) (by unfold zE; omega)
 cases i with
 | zero=>rfl
 | succ i=>simpa using this

theorem mQ (i:Nat) (h:i≤4000000000):IntKind.i64.wrap ((i:Int)+1)=((i+1:Nat):Int):=zH i (by unfold zE; omega)

theorem kZ:∀ (n:Nat) (s:zl) (i:Nat) (a:Int) (b:zl),1≤i→i≤s.length→s.length+2≤n+i→s.length≤1000000000→gB n s (i:Int) a b=true
 | 0,s,i,a,b,h1,h2,h3,h4=>by omega
 | n + 1,s,i,a,b,h1,h2,h3,h4=>by
  rw [gB]
  split
  ·rename_i hlt
   have hlt:i < s.length:=by have:=dH hlt; omega
   refine gi (zG hlt) ?_
   rw [mQ i (by omega)]
   split
   ·exact kZ n s (i+1) a b (by omega) (by omega) (by omega) h4
   ·refine gi ?_ ?_
    ·cases hd:decide (((i+1:Nat):Int) < (s.length:Int))
     ·rfl
     ·exact zG (by have:=dH hd; omega)
    ·split
     ·rename_i hh
      have h5:i+1 < s.length:=by
       cases hd:decide (((i+1:Nat):Int) < (s.length:Int))
       ·rw [hd] at hh; simp at hh
       ·have:=dH hd; omega
      rw [mQ (i+1) (by omega)]
      exact kZ n s (i+1+1) a b (by omega) (by omega) (by omega) h4
     ·refine gi ?_ (gi ?_ rfl)
      ·simp; omega
      ·unfold qd
       simp
       omega
  ·rfl

theorem oS:∀ (n:Nat) (s:zl) (i:Nat) (a:Int) (b:zl),1≤i→i≤s.length→s.length+2≤n+i→s.length≤1000000000→
  (dI n s (i:Int) a b=((0,[]),0))∨∃ k:Nat,(dI n s (i:Int) a b).2=(k:Int)∧1≤k∧k≤s.length
 | 0,s,i,a,b,h1,h2,h3,h4=>by omega
 | n + 1,s,i,a,b,h1,h2,h3,h4=>by
  rw [dI]
  split
  ·rename_i hlt
   have hlt:i < s.length:=by have:=dH hlt; omega
   rw [mQ i (by omega)]
   split
   ·exact oS n s (i+1) a b (by omega) (by omega) (by omega) h4
   ·split
    ·rename_i hh
     have h5:i+1 < s.length:=by
      cases hd:decide (((i+1:Nat):Int) < (s.length:Int))
      ·rw [hd] at hh; simp at hh
      ·have:=dH hd; omega
     rw [mQ (i+1) (by omega)]
     exact oS n s (i+1+1) a b (by omega) (by omega) (by omega) h4
    ·exact .inr ⟨i+1,rfl,by omega,by omega⟩
  ·exact .inl rfl

theorem CW (t:Sem dY):nD t=true:=by
 unfold nD
 split
 ·rfl
 ·split
  ·refine gi ?_ rfl
   cases h:((t.2.length:Int)==1)
   ·rfl
   ·have:(t.2.length:Int)=1:=by simpa using h
    simp only [bA,ej]
    omega
  ·simp

theorem xG (s:zl) (h0:s≠[]) (h1:s.length≤1000000000):iV s=true:=by
 have hl:1≤s.length:=by cases s with | nil=>exact absurd rfl h0 | cons _ _=>simp
 have r1:=nu aF bV s
 have r2:=nu zQ zQ s
 have hq:iF s=true:=kZ (s.length+1) s 1 _ _ (by omega) hl (by omega) h1
 have hb:zF 0 s.length=true:=zG hl
 have d1:(decide ((0:Int)≤0)&&decide (0≤(↑(aw aF bV s):Int))&&decide ((↑(aw aF bV s):Int)≤(↑(length s):Int)))=true:=by simp; omega
 have d2:(decide ((0:Int)≤0)&&decide (0≤(↑(aw zQ zQ s):Int))&&decide ((↑(aw zQ zQ s):Int)≤(↑(length s):Int)))=true:=by simp; omega
 have d3:(decide ((0:Int)≤0)&&decide ((0:Int)≤1)&&decide (1≤(↑(length s):Int)))=true:=by simp; omega
 unfold iV
 simp only [hq,hb,if_true,zN,if_false]
 repeat' split
 all_goals first
  | rfl
  | (rename_i h; exfalso; apply h; simp; omega)

theorem qy (s:zl) (h0:s≠[]) (h1:s.length≤1000000000) (hm:fy (aV s).1=true):∃ k:Nat,(aV s).2=(k:Int)∧1≤k∧k≤s.length:=by
 have hl:1≤s.length:=by cases s with | nil=>exact absurd rfl h0 | cons _ _=>simp
 have r1:=nu aF bV s
 have r2:=nu zQ zQ s
 have hq:=oS (s.length+1) s 1 0 [] (by omega) hl (by omega) h1
 unfold aV at hm ⊢
 simp only [if_true,zN,if_false] at hm ⊢
 split
 ·rename_i h
  have:=dH h
  exact ⟨_,rfl,by omega,by omega⟩
 ·rename_i h
  rw [if_neg h] at hm
  split
  ·rename_i h2
   have:=dH h2
   exact ⟨_,rfl,by omega,by omega⟩
  ·rename_i h2
   rw [if_neg h2] at hm
   split
   ·rename_i h3
    rw [if_pos h3] at hm
    rcases hq with hq | ⟨k,hk,hk1,hk2⟩
    ·exfalso
     have hqq:quoted s=((0,[]),0):=hq
     rw [hqq] at hm
     revert hm
     decide
    ·exact ⟨k,hk,hk1,hk2⟩
   ·exact ⟨1,rfl,by omega,by omega⟩

theorem qL:∀ (n:Nat) (s:zl) (i:Nat) (l:List (Sem zq)),i≤s.length→s.length+1≤n+i→s.length≤1000000000→l.length≤400→ou n s (i:Int) l=true
 | 0,s,i,l,h1,h2,h3,h4=>by omega
 | n + 1,s,i,l,h1,h2,h3,h4=>by
  rw [ou]
  split
  ·rename_i hlt
   have hlt:i < s.length:=by have:=dH hlt; omega
   have e1:List.take ((s.length:Int).toNat - (i:Int).toNat) (List.drop (i:Int).toNat s)=s.drop i:=by
    simp only [be]
    exact Hq (by simp)
   rw [e1]
   refine gi ?_ ?_
   ·rw [zG hlt]
    cases (((s.getD (i:Int).toNat 0).toNat:Int)==32) <;> rfl
   ·split
    ·rw [mQ i (by omega)]
     exact qL n s (i+1) l (by omega) (by omega) h3 h4
    ·have hne:s.drop i≠[]:=by
      intro h
      have:=congrArg length h
      simp at this
      omega
     have hdl:(s.drop i).length≤1000000000:=by simp; omega
     refine gi ?_ (gi (xG _ hne hdl) (gi (CW _) ?_))
     ·simp; omega
     ·split
      ·rfl
      ·rename_i hh
       have hm:fy (aV (s.drop i)).1=true:=by
        cases hq:fy (aV (s.drop i)).1
        ·rw [hq] at hh; simp at hh
        ·rfl
       have hl4:l.length≠400:=by
        intro h5
        rw [hm,h5] at hh
        simp at hh
       obtain ⟨k,hk,hk1,hk2⟩:=qy _ hne hdl hm
       have hk3:k≤s.length - i:=by simpa using hk2
       refine gi (ar ?_) ?_
       ·simp; omega
       ·rw [hk,show ((i:Int)+(k:Int))=((i+k:Nat):Int) by omega,Uy (i+k) (by omega)]
        exact qL n s (i+k) _ (by omega) (by omega) h3 (by simp; omega)
  ·rfl

theorem Lh (s:zl) (h:s.length≤1000000000):Lg s=true:=qL (s.length+1) s 0 [] (by omega) (by omega) h (by simp)

structure c9 (s:Sem zp):Prop where
 op:s.1.length≤1000
 table:s.2.1.length≤1000
 other:s.2.2.1.length≤1000
 names:s.2.2.2.1.length≤20∧∀ x∈s.2.2.2.1,length x≤1000
 cols:s.2.2.2.2.1.length≤20∧∀ x∈s.2.2.2.2.1,length x.1≤1000
 key:s.2.2.2.2.2.1.length≤1000
 uniques:s.2.2.2.2.2.2.1.length≤20∧∀ x∈s.2.2.2.2.2.2.1,length x≤1000
 refs:s.2.2.2.2.2.2.2.1.length≤20∧∀ x∈s.2.2.2.2.2.2.2.1,length x.1≤1000∧length x.2≤1000
 row:s.2.2.2.2.2.2.2.2.2.1.length≤20
 sets:s.2.2.2.2.2.2.2.2.2.2.1.length≤20∧∀ x∈s.2.2.2.2.2.2.2.2.2.2.1,length x.1≤1000
 role:s.2.2.2.2.2.2.2.2.2.2.2.2.length≤1000

theorem fN (sep:zl) (B:Nat):∀ l:List zl,(∀ x∈l,x.length≤B)→(Lib.join l sep).length≤l.length * (B+sep.length)
 | [],_=>by simp [Lib.join,List.intercalate]
 | [x],h=>by
  rw [Lib.join_one]
  have:=h x (by simp)
  simp
  omega
 | x::y::r,h=>by
  have ih:=fN sep B (y::r) (fun z hz=>h z (lV _ hz))
  have hx:=h x (by simp)
  have e:Lib.join (x::y::r) sep=x++sep++Lib.join (y::r) sep:=by simp [Lib.join,List.intercalate,List.intersperse]
  rw [e]
  simp only [pd,lu] at ih ⊢
  rw [fH]
  omega

theorem sv {α:Type} (p:α→Bool):∀ (l:List α) (i:Nat),(!decide (zR p l i ≥ 0))=true→∀ x∈l,p x=false
 | [],_,_,x,hx=>by simp at hx
 | y::r,i,h,x,hx=>by
  rw [zR] at h
  cases hy:p y
  ·rw [hy] at h
   rcases dT.1 hx with rfl | hx
   ·exact hy
   ·exact sv p r (i+1) (by simpa using h) x hx
  ·exfalso
   rw [hy] at h
   simp at h
   try omega

theorem jY (e:ze):f8 e=true:=gi (BV e) rfl
theorem fE (e:ze):(cx e).length≤30000000:=F4 e
theorem gY (e:ze):xM e=true:=by
 unfold xM
 have:=fE e
 split
 ·rfl
 ·refine gi (jY e) (gi (ar ?_) rfl)
  simp; omega
theorem rV (e:ze):(kG e).length≤30000010:=by
 unfold kG
 have:=fE e
 split
 ·simp
 ·simp; omega
theorem iu (s:zl) (h:s.length≤10) (e:ze):kO s e=true:=by
 unfold kO
 have:=fE e
 split
 ·rfl
 ·refine gi (ar ?_) (gi (jY e) (gi (ar ?_) (gi (ar ?_) rfl)))
  all_goals (simp; omega)
theorem uD (s:zl) (h:s.length≤10) (e:ze):(hP s e).length≤30000030:=by
 unfold hP
 have:=fE e
 split
 ·simp
 ·simp; omega
theorem yh (x:Sem aK) (h:length x.1≤1000):jj x=true:=by
 unfold jj
 have:=fE x.2
 refine gi (ar ?_) (gi (jY _) (gi (ar ?_) rfl))
 all_goals (simp; omega)
theorem sH (x:Sem aK) (h:length x.1≤1000):(dX x).length≤30001010:=by
 unfold dX
 have:=fE x.2
 simp; omega
theorem xX (x:Sem zi) (h:length x.1≤1000) (h1:(1:Int)≤x.2.1) (h2:LE.le (α:=Int) x.2.1 3):gK x=true:=by
 obtain ⟨nm,ty,nn⟩:=x
 replace h:nm.length≤1000:=h
 replace h1:LE.le (α:=Int) 1 ty:=h1
 replace h2:LE.le (α:=Int) ty 3:=h2
 have hw:IntKind.i64.wrap (ty - 1)=ty - 1:=lq _ (by omega) (by omega)
 have hin:zF (ty - 1) 3=true:=by simp [zF]; omega
 unfold gK
 simp only [hw,hin,Bool.cond_eq_ite]
 repeat' split
 all_goals first
  | rfl
  | (rename_i hf; exfalso; apply hf; simp; omega)
  | (rename_i hf _; exfalso; apply hf; simp; omega)
  | (exfalso; simp_all; omega)
theorem Du (x:Sem zi) (h:length x.1≤1000):(dC x).length≤1100:=by
 unfold dC
 simp only [Bool.cond_eq_ite]
 repeat' split
 all_goals (simp; omega)

theorem sg:∀ (l:List (Sem zi)) (i:Int) (acc:List zl),cD l i acc=Lib.join (acc++l.map dC) [32,44,32]
 | [],i,acc=>by simp [cD]
 | x::r,i,acc=>by rw [cD,sg r]; simp
theorem Bp (B:Nat) (l:List (Sem zi)) (h:∀ x∈l,(dC x).length≤B):(dl l).length≤l.length * (B+3):=by
 unfold dl
 rw [sg]
 have:=fN [32,44,32] B ([]++l.map dC) (fun y hy=>by
  simp only [List.nil_append,ff] at hy
  obtain ⟨x,hx,rfl⟩:=hy
  exact h x hx)
 simpa using this
theorem pp (B:Nat) (hB:B≤100000000):∀ (l:List (Sem zi)) (i:Int) (acc:List zl),(∀ x∈l,gK x=true∧(dC x).length≤B)→(∀ x∈acc,x.length≤B)→acc.length+l.length≤40→cS l i acc=true
 | [],i,acc,_,ha,hl=>by
  rw [cS]
  refine gi ?_ rfl
  have h1:=fN [32,44,32] B acc ha
  have h2:acc.length * (B+3)≤40 * 100000003:=j5 (by simpa using hl) (by omega)
  replace h1:(Lib.join acc [32,44,32]).length≤acc.length * (B+3):=h1
  simp only [aG,zW]
  simp at hl
  exact ⟨by omega,by omega⟩
 | x::r,i,acc,h,ha,hl=>by
  rw [cS]
  have hx:=h x (by simp)
  simp at hl
  refine gi hx.1 (gi (ar ?_) ?_)
  ·simp; omega
  ·refine pp B hB r (i+1) _ (fun y hy=>h y (lV _ hy)) (fun y hy=>?_) (by simp; omega)
   rcases aZ.1 hy with hy | hy
   ·exact ha y hy
   ·simp at hy; subst hy; exact hx.2

theorem sJ:∀ (l:List (Sem Sh.str)) (i:Int) (acc:List zl),cI l i acc=Lib.join (acc++l.map lI) [32,44,32]
 | [],i,acc=>by simp [cI]
 | x::r,i,acc=>by rw [cI,sJ r]; simp
theorem CO (B:Nat) (l:List (Sem Sh.str)) (h:∀ x∈l,(lI x).length≤B):(kB l).length≤l.length * (B+3):=by
 unfold kB
 rw [sJ]
 have:=fN [32,44,32] B ([]++l.map lI) (fun y hy=>by
  simp only [List.nil_append,ff] at hy
  obtain ⟨x,hx,rfl⟩:=hy
  exact h x hx)
 simpa using this
theorem qt (B:Nat) (hB:B≤100000000):∀ (l:List (Sem Sh.str)) (i:Int) (acc:List zl),(∀ x∈l,(lI x).length≤B)→(∀ x∈acc,x.length≤B)→acc.length+l.length≤40→c6 l i acc=true
 | [],i,acc,_,ha,hl=>by
  rw [c6]
  refine gi ?_ rfl
  have h1:=fN [32,44,32] B acc ha
  have h2:acc.length * (B+3)≤40 * 100000003:=j5 (by simpa using hl) (by omega)
  replace h1:(Lib.join acc [32,44,32]).length≤acc.length * (B+3):=h1
  simp only [aG,zW]
  simp at hl
  exact ⟨by omega,by omega⟩
 | x::r,i,acc,h,ha,hl=>by
  rw [c6]
  have hx:=h x (by simp)
  simp at hl
  refine gi (ar ?_) ?_
  ·simp; omega
  ·refine qt B hB r (i+1) _ (fun y hy=>h y (lV _ hy)) (fun y hy=>?_) (by simp; omega)
   rcases aZ.1 hy with hy | hy
   ·exact ha y hy
   ·simp at hy; subst hy; exact hx

theorem sQ:∀ (l:List (Sem zf)) (i:Int) (acc:List zl),cJ l i acc=Lib.join (acc++l.map eD) [32,44,32]
 | [],i,acc=>by simp [cJ]
 | x::r,i,acc=>by rw [cJ,sQ r]; simp
theorem C0 (B:Nat) (l:List (Sem zf)) (h:∀ x∈l,(eD x).length≤B):(kE l).length≤l.length * (B+3):=by
 unfold kE
 rw [sQ]
 have:=fN [32,44,32] B ([]++l.map eD) (fun y hy=>by
  simp only [List.nil_append,ff] at hy
  obtain ⟨x,hx,rfl⟩:=hy
  exact h x hx)
 simpa using this
theorem qC (B:Nat) (hB:B≤100000000):∀ (l:List (Sem zf)) (i:Int) (acc:List zl),(∀ x∈l,ln x=true∧(eD x).length≤B)→(∀ x∈acc,x.length≤B)→acc.length+l.length≤40→c7 l i acc=true
 | [],i,acc,_,ha,hl=>by
  rw [c7]
  refine gi ?_ rfl
  have h1:=fN [32,44,32] B acc ha
  have h2:acc.length * (B+3)≤40 * 100000003:=j5 (by simpa using hl) (by omega)
  replace h1:(Lib.join acc [32,44,32]).length≤acc.length * (B+3):=h1
  simp only [aG,zW]
  simp at hl
  exact ⟨by omega,by omega⟩
 | x::r,i,acc,h,ha,hl=>by
  rw [c7]
  have hx:=h x (by simp)
  simp at hl
  refine gi hx.1 (gi (ar ?_) ?_)
  ·simp; omega
  ·refine qC B hB r (i+1) _ (fun y hy=>h y (lV _ hy)) (fun y hy=>?_) (by simp; omega)
   rcases aZ.1 hy with hy | hy
   ·exact ha y hy
   ·simp at hy; subst hy; exact hx.2

theorem sI:∀ (l:List (Sem aK)) (i:Int) (acc:List zl),cH l i acc=Lib.join (acc++l.map dX) [32,44,32]
 | [],i,acc=>by simp [cH]
 | x::r,i,acc=>by rw [cH,sI r]; simp
theorem CL (B:Nat) (l:List (Sem aK)) (h:∀ x∈l,(dX x).length≤B):(ky l).length≤l.length * (B+3):=by
 unfold ky
 rw [sI]
 have:=fN [32,44,32] B ([]++l.map dX) (fun y hy=>by
  simp only [List.nil_append,ff] at hy
  obtain ⟨x,hx,rfl⟩:=hy
  exact h x hx)
 simpa using this
theorem qq (B:Nat) (hB:B≤100000000):∀ (l:List (Sem aK)) (i:Int) (acc:List zl),(∀ x∈l,jj x=true∧(dX x).length≤B)→(∀ x∈acc,x.length≤B)→acc.length+l.length≤40→cZ l i acc=true
 | [],i,acc,_,ha,hl=>by
  rw [cZ]
  refine gi ?_ rfl
  have h1:=fN [32,44,32] B acc ha
  have h2:acc.length * (B+3)≤40 * 100000003:=j5 (by simpa using hl) (by omega)
  replace h1:(Lib.join acc [32,44,32]).length≤acc.length * (B+3):=h1
  simp only [aG,zW]
  simp at hl
  exact ⟨by omega,by omega⟩
 | x::r,i,acc,h,ha,hl=>by
  rw [cZ]
  have hx:=h x (by simp)
  simp at hl
  refine gi hx.1 (gi (ar ?_) ?_)
  ·simp; omega
  ·refine qq B hB r (i+1) _ (fun y hy=>h y (lV _ hy)) (fun y hy=>?_) (by simp; omega)
   rcases aZ.1 hy with hy | hy
   ·exact ha y hy
   ·simp at hy; subst hy; exact hx.2

theorem bO {s:Sem zp} {g b:Bool} (hv:(eu s).val=if g=true then some (.inr (.bool b,[])) else none):jG s=g∧eZ s=(g&&b):=by
 unfold jG eZ tM zT bW
 rw [hv]
 cases g <;> cases b <;> exact ⟨rfl,rfl⟩
theorem sF {s:Sem zp} (hv:(eu s).val=some (.inr (.kb false,[]))):jG s=true∧eZ s=false:=by
 unfold jG eZ tM zT bW
 rw [hv]
 exact ⟨rfl,rfl⟩

theorem RK {s:Sem zp} (h:eZ s=true):(s.1=[99,114,101,97,116,101]∧iw s=true)∨(s.1=[103,114,111,117,112]∧s.2.2.2.1.length=2)∨
  (s.1∈([[100,114,111,112],[105,110,115,101,114,116],[117,112,100,97,116,101],[100,101,108,101,116,101],[115,101,108,101,99,116],[114,101,97,100],[119,114,105,116,101],[117,110,114,101,97,100],[117,110,119,114,105,116,101],[99,111,112,121],[106,111,105,110]]:List zl)):=by
 by_cases q0:(s.1==[99,114,101,97,116,101])=true
 ·refine .inl ⟨cN q0,?_⟩
  obtain ⟨_,hp⟩:=bO (s:=s) (g:=_) (b:=_) (by simp only [eu,dE,Tr.val,q0,if_true,zn]; exact rfl)
  rw [hp] at h
  cases h2:iw s
  ·rw [h2] at h
   cases h1:bL s.2.1 <;> rw [h1] at h <;> simp at h
  ·rfl
 by_cases q1:(s.1==[100,114,111,112])=true
 ·exact .inr (.inr (by rw [cN q1]; simp))
 by_cases q2:(s.1==[105,110,115,101,114,116])=true
 ·exact .inr (.inr (by rw [cN q2]; simp))
 by_cases q3:(s.1==[117,112,100,97,116,101])=true
 ·exact .inr (.inr (by rw [cN q3]; simp))
 by_cases q4:(s.1==[100,101,108,101,116,101])=true
 ·exact .inr (.inr (by rw [cN q4]; simp))
 by_cases q5:(s.1==[115,101,108,101,99,116])=true
 ·exact .inr (.inr (by rw [cN q5]; simp))
 by_cases q6:(s.1==[114,101,97,100])=true
 ·exact .inr (.inr (by rw [cN q6]; simp))
 by_cases q7:(s.1==[119,114,105,116,101])=true
 ·exact .inr (.inr (by rw [cN q7]; simp))
 by_cases q8:(s.1==[117,110,114,101,97,100])=true
 ·exact .inr (.inr (by rw [cN q8]; simp))
 by_cases q9:(s.1==[117,110,119,114,105,116,101])=true
 ·exact .inr (.inr (by rw [cN q9]; simp))
 by_cases q10:(s.1==[99,111,112,121])=true
 ·exact .inr (.inr (by rw [cN q10]; simp))
 by_cases q11:(s.1==[106,111,105,110])=true
 ·exact .inr (.inr (by rw [cN q11]; simp))
 by_cases q12:(s.1==[103,114,111,117,112])=true
 ·refine .inr (.inl ⟨cN q12,?_⟩)
  obtain ⟨_,hp⟩:=bO (s:=s) (g:=_) (b:=_) (by simp only [eu,dE,Tr.val,q0,q1,q2,q3,q4,q5,q6,q7,q8,q9,q10,q11,q12,if_true,if_false,zN,zn]; exact rfl)
  rw [hp] at h
  by_cases hl:s.2.2.2.1.length=2
  ·exact hl
  ·exfalso
   have hd:(bif decide ((s.2.2.2.1.length:Int) < 2) then true else decide ((s.2.2.2.1.length:Int) > 2))=true:=by
    rcases Nat.lt_or_gt_of_ne hl with h2 | h2
    ·have:decide ((s.2.2.2.1.length:Int) < 2)=true:=ba (by omega)
     rw [this]; rfl
    ·have:decide ((s.2.2.2.1.length:Int) > 2)=true:=ba (by omega)
     rw [this]; cases decide ((s.2.2.2.1.length:Int) < 2) <;> rfl
   rw [hd] at h
   cases h1:bL s.2.1 <;> cases h2:bL s.2.2.1 <;> rw [h1,h2] at h <;> simp at h
 obtain ⟨_,hp⟩:=sF (s:=s) (by simp only [eu,dE,Tr.val,q0,q1,q2,q3,q4,q5,q6,q7,q8,q9,q10,q11,q12,if_false,zN])
 rw [hp] at h
 cases h


theorem j9 {a0:Sem Sh.str} {a1:Sem Sh.str} {a2:Sem Sh.str} {a3:List (Sem Sh.str)} {a4:List (Sem zi)} {a5:Sem Sh.str} {a6:List (Sem Sh.str)} {a7:List (Sem (Sh.str.pr Sh.str))} {a8:zl} {a9:Int} {a10:Int} {a11:zl} {a12:zl} {a13:List (Sem Sh.expr)} {a14:List (Sem zf)} {a15:List (Sem (Sh.str.pr Sh.expr))} {a16:zl} {a17:Int} {a18:Int} {a19:zl} {a20:zl} {a21:List (Sem Sh.expr)} {a22:Sem Sh.str}:∀ (l:List (Sem (Sh.str.pr Sh.str))) (i:Int) (s:zl),(∀ x∈l,length x.1≤1000∧length x.2≤1000)→s.length+l.length * 3000≤1000000→
  cT a0 a1 a2 a3 a4 a5 a6 a7 a8 a9 a10 a11 a12 a13 a14 a15 a16 a17 a18 a19 a20 a21 a22 l i s=true∧(cE a0 a1 a2 a3 a4 a5 a6 a7 a8 a9 a10 a11 a12 a13 a14 a15 a16 a17 a18 a19 a20 a21 a22 l i s).length≤40000000
 | [],i,s,_,hs=>by
  rw [cT,cE]
  have h1:=uD [32,44,32] (by simp) (ze.mk a8 (a9,a10,a11) a12 a13)
  simp at hs
  refine ⟨gi (iu _ (by simp) _) (gi (ar ?_) (gi (ar ?_) rfl)),?_⟩
  all_goals first | omega | (simp; omega)
 | x::r,i,s,h,hs=>by
  have hx:=h x (by simp)
  simp at hs
  rw [cT,cE]
  obtain ⟨k1,k2⟩:=j9 (a0:=a0) (a1:=a1) (a2:=a2) (a3:=a3) (a4:=a4) (a5:=a5) (a6:=a6) (a7:=a7) (a8:=a8) (a9:=a9) (a10:=a10) (a11:=a11) (a12:=a12) (a13:=a13) (a14:=a14) (a15:=a15) (a16:=a16) (a17:=a17) (a18:=a18) (a19:=a19) (a20:=a20) (a21:=a21) (a22:=a22) r (i+1) (s++([32,44,32,82,69,70,69,82,69,78,67,69,83,32,40,32]++x.1++[32,41,32]++x.2)) (fun y hy=>h y (lV _ hy)) (by simp; omega)
  refine ⟨gi (ar ?_) (gi (ar ?_) (gi (ar ?_) (gi (ar ?_) k1))),k2⟩
  all_goals (simp; omega)

theorem lx {a0:Sem Sh.str} {a1:Sem Sh.str} {a2:Sem Sh.str} {a3:List (Sem Sh.str)} {a4:List (Sem zi)} {a5:Sem Sh.str} {a6:List (Sem Sh.str)} {a7:List (Sem (Sh.str.pr Sh.str))} {a8:zl} {a9:Int} {a10:Int} {a11:zl} {a12:zl} {a13:List (Sem Sh.expr)} {a14:List (Sem zf)} {a15:List (Sem (Sh.str.pr Sh.expr))} {a16:zl} {a17:Int} {a18:Int} {a19:zl} {a20:zl} {a21:List (Sem Sh.expr)} {a22:Sem Sh.str} (h7:a7.length≤20∧∀ x∈a7,length x.1≤1000∧length x.2≤1000):∀ (l:List (Sem Sh.str)) (i:Int) (s:zl),(∀ x∈l,length x≤1000)→s.length+l.length * 3000≤900000→
  dD a0 a1 a2 a3 a4 a5 a6 a7 a8 a9 a10 a11 a12 a13 a14 a15 a16 a17 a18 a19 a20 a21 a22 l i s=true∧(dm a0 a1 a2 a3 a4 a5 a6 a7 a8 a9 a10 a11 a12 a13 a14 a15 a16 a17 a18 a19 a20 a21 a22 l i s).length≤40000000
 | [],i,s,_,hs=>by
  rw [dD,dm]
  simp at hs
  exact j9 a7 0 s h7.2 (by have:=h7.1; omega)
 | x::r,i,s,h,hs=>by
  have hx:=h x (by simp)
  simp at hs
  rw [dD,dm]
  obtain ⟨k1,k2⟩:=lx (a0:=a0) (a1:=a1) (a2:=a2) (a3:=a3) (a4:=a4) (a5:=a5) (a6:=a6) (a7:=a7) (a8:=a8) (a9:=a9) (a10:=a10) (a11:=a11) (a12:=a12) (a13:=a13) (a14:=a14) (a15:=a15) (a16:=a16) (a17:=a17) (a18:=a18) (a19:=a19) (a20:=a20) (a21:=a21) (a22:=a22) h7 r (i+1) (s++([32,44,32,85,78,73,81,85,69,32,40,32]++x++[32,41])) (fun y hy=>h y (lV _ hy)) (by simp; omega)
  refine ⟨gi (ar ?_) (gi (ar ?_) (gi (ar ?_) k1)),k2⟩
  all_goals (simp; omega)

theorem Bq {s:Sem zp} (h:iw s=true):∀ x∈s.2.2.2.2.1,js x=true:=by
 intro x hx
 have hq:(!decide (zR (fun x => !js x) s.2.2.2.2.1 0 ≥ 0))=true:=by
  unfold iw at h
  cases h1:(bif decide ((↑(length s.2.2.2.2.1):Int) < 1) then true else decide ((↑(length s.2.2.2.2.1):Int) > 8))
  ·rw [h1] at h
   cases h2:(!decide (zR (fun x => !js x) s.2.2.2.2.1 0 ≥ 0))
   ·rw [h2] at h; cases h
   ·rfl
  ·rw [h1] at h; cases h
 have:=sv (fun x => !js x) _ 0 hq x hx
 simpa using this

theorem uE {x:Sem zi} (h:js x=true):LE.le (α:=Int) 1 x.2.1∧LE.le (α:=Int) x.2.1 3:=by
 unfold js at h
 cases h1:bL x.1
 ·rw [h1] at h; cases h
 ·rw [h1] at h
  cases h2:decide (x.2.1 ≥ 1)
  ·rw [h2] at h; cases h
  ·rw [h2] at h
   have h3:decide (x.2.1≤3)=true:=h
   exact ⟨dH h2,dH h3⟩

theorem xY {s:Sem zp} (hs:c9 s) (hc:iw s=true):ma s=true∧(mW s).length≤40000000:=by
 have hcol:=Bq hc
 have c1:∀ x∈s.2.2.2.2.1,gK x=true∧(dC x).length≤1100:=fun x hx=>⟨xX x (hs.cols.2 x hx) (uE (hcol x hx)).1 (uE (hcol x hx)).2,Du x (hs.cols.2 x hx)⟩
 have c2:iN s.2.2.2.2.1=true:=pp 1100 (by omega) _ 0 [] c1 (by simp) (by have:=hs.cols.1; simp; omega)
 have c3:=Bp 1100 s.2.2.2.2.1 (fun x hx=>(c1 x hx).2)
 have c4:s.2.2.2.2.1.length * (1100+3)≤20 * 1103:=j5 hs.cols.1 (by omega)
 have t1:=hs.table
 have t2:=hs.key
 have u1:=hs.uniques.1
 unfold ma mW
 obtain ⟨k1,k2⟩:=lx (a0:=s.1) (a1:=s.2.1) (a2:=s.2.2.1) (a3:=s.2.2.2.1) (a4:=s.2.2.2.2.1) (a5:=s.2.2.2.2.2.1) (a6:=s.2.2.2.2.2.2.1) (a8:=s.2.2.2.2.2.2.2.2.1.op) (a9:=s.2.2.2.2.2.2.2.2.1.v.1) (a10:=s.2.2.2.2.2.2.2.2.1.v.2.1) (a11:=s.2.2.2.2.2.2.2.2.1.v.2.2) (a12:=s.2.2.2.2.2.2.2.2.1.s) (a13:=s.2.2.2.2.2.2.2.2.1.l) (a14:=s.2.2.2.2.2.2.2.2.2.1) (a15:=s.2.2.2.2.2.2.2.2.2.2.1) (a16:=s.2.2.2.2.2.2.2.2.2.2.2.1.op) (a17:=s.2.2.2.2.2.2.2.2.2.2.2.1.v.1) (a18:=s.2.2.2.2.2.2.2.2.2.2.2.1.v.2.1) (a19:=s.2.2.2.2.2.2.2.2.2.2.2.1.v.2.2) (a20:=s.2.2.2.2.2.2.2.2.2.2.2.1.s) (a21:=s.2.2.2.2.2.2.2.2.2.2.2.1.l) (a22:=s.2.2.2.2.2.2.2.2.2.2.2.2)
  hs.refs s.2.2.2.2.2.2.1 0 ([67,82,69,65,84,69,32,84,65,66,76,69,32]++s.2.1++[32,40,32]++dl s.2.2.2.2.1++([32,44,32,75,69,89,32,40,32]++s.2.2.2.2.2.1++[32,41])) hs.uniques.2 (by
   have:s.2.2.2.2.2.2.1.length * 3000≤20 * 3000:=j5 u1 (by omega)
   simp; omega)
 refine ⟨gi (ar ?_) (gi (ar ?_) (gi c2 (gi (ar ?_) (gi (ar ?_) (gi (ar ?_) (gi (ar ?_) k1)))))),k2⟩
 all_goals (simp; omega)

theorem gx {α β:Type} {c:Bool} {a:Option α} {F:β→Option α} {P:β→Prop} (h:c=true) (k:∃ t,a=F t∧P t):∃ t,(if c=true then a else none)=F t∧P t:=by
 subst h; exact k
theorem xt {s:Sem zp} (h:∃ t,(lD s).val=some (.inr (.str t,[]))∧t.length≤1000000000):rM s=true∧(fi s).length≤1000000000:=by
 obtain ⟨t,h,k⟩:=h
 unfold rM fi CI zT bW
 rw [h]
 exact ⟨rfl,k⟩

theorem mH {s:Sem zp} (hs:c9 s) (hp:eZ s=true):rM s=true∧(fi s).length≤1000000000:=by
 have t1:=hs.table
 have t2:=hs.other
 have t3:=hs.key
 have t4:=hs.role
 have t5:=hs.op
 have tu:=cw s.1
 have w1:=rV s.2.2.2.2.2.2.2.2.2.2.2.1
 have w2:=uD [32] (by simp) s.2.2.2.2.2.2.2.2.1
 have v1:kF s.2.2.2.2.2.2.2.2.2.1=true:=qC 300 (by omega) _ 0 [] (fun x _=>⟨sP x,rS x⟩) (by simp) (by have:=hs.row; simp; omega)
 have v2:=C0 300 s.2.2.2.2.2.2.2.2.2.1 (fun x _=>rS x)
 have v3:s.2.2.2.2.2.2.2.2.2.1.length * (300+3)≤20 * 303:=j5 hs.row (by omega)
 have e1:kz s.2.2.2.2.2.2.2.2.2.2.1=true:=qq 30001010 (by omega) _ 0 [] (fun x hx=>⟨yh x (hs.sets.2 x hx),sH x (hs.sets.2 x hx)⟩) (by simp) (by have:=hs.sets.1; simp; omega)
 have e2:=CL 30001010 s.2.2.2.2.2.2.2.2.2.2.1 (fun x hx=>sH x (hs.sets.2 x hx))
 have e3:s.2.2.2.2.2.2.2.2.2.2.1.length * (30001010+3)≤20 * 30001013:=j5 hs.sets.1 (by omega)
 have n1:kC s.2.2.2.1=true:=qt 1000 (by omega) _ 0 [] (fun x hx=>hs.names.2 x hx) (by simp) (by have:=hs.names.1; simp; omega)
 have n2:=CO 1000 s.2.2.2.1 (fun x hx=>hs.names.2 x hx)
 have n3:s.2.2.2.1.length * (1000+3)≤20 * 1003:=j5 hs.names.1 (by omega)
 have go:∀ op:zl,s.1=op→(∀ z:Bool,z=true→z=true):=fun _ _ _ h=>h
 clear go
 rcases RK hp with ⟨hop,hc⟩ | ⟨hop,hl2⟩ | hop
 ·have hup:(decide (length s.1≤140737488355328)&&List.all s.1 fun b=>decide (b.toNat < 128))=true:=by rw [hop]; decide
  have q0:(s.1==[99,114,101,97,116,101])=true:=by rw [hop]; rfl
  have q1:(s.1==[100,114,111,112])=false:=by rw [hop]; rfl
  have q2:(s.1==[105,110,115,101,114,116])=false:=by rw [hop]; rfl
  have q3:(s.1==[117,112,100,97,116,101])=false:=by rw [hop]; rfl
  have q4:(s.1==[100,101,108,101,116,101])=false:=by rw [hop]; rfl
  have q5:(s.1==[115,101,108,101,99,116])=false:=by rw [hop]; rfl
  have q6:(s.1==[114,101,97,100])=false:=by rw [hop]; rfl
  have q7:(s.1==[119,114,105,116,101])=false:=by rw [hop]; rfl
  have q8:(s.1==[117,110,114,101,97,100])=false:=by rw [hop]; rfl
  have q9:(s.1==[117,110,119,114,105,116,101])=false:=by rw [hop]; rfl
  have q10:(s.1==[99,111,112,121])=false:=by rw [hop]; rfl
  have q11:(s.1==[106,111,105,110])=false:=by rw [hop]; rfl
  have q12:(s.1==[103,114,111,117,112])=false:=by rw [hop]; rfl
  have kc:=xY hs hc
  refine xt ?_
  simp only [lD,ro,Tr.val,q0,q1,q2,q3,q4,q5,q6,q7,q8,q9,q10,q11,if_true,zN,if_false,zn]
  repeat' (with_reducible refine gx ?_ ?_)
  all_goals first
   | (refine ⟨_,rfl,?_⟩; exact cM kc.2 (by omega))
   | rfl
   | exact hup
   | exact v1
   | exact e1
   | exact n1
   | exact gY _
   | exact iu _ (by simp) _
   | exact kc.1
   | (refine ar ?_; simp; omega)
   | (rw [hop]; decide)
   | (refine ar ?_; rw [hop]; simp [cw]; omega)
 ·have hup:(decide (length s.1≤140737488355328)&&List.all s.1 fun b=>decide (b.toNat < 128))=true:=by rw [hop]; decide
  have q0:(s.1==[99,114,101,97,116,101])=false:=by rw [hop]; rfl
  have q1:(s.1==[100,114,111,112])=false:=by rw [hop]; rfl
  have q2:(s.1==[105,110,115,101,114,116])=false:=by rw [hop]; rfl
  have q3:(s.1==[117,112,100,97,116,101])=false:=by rw [hop]; rfl
  have q4:(s.1==[100,101,108,101,116,101])=false:=by rw [hop]; rfl
  have q5:(s.1==[115,101,108,101,99,116])=false:=by rw [hop]; rfl
  have q6:(s.1==[114,101,97,100])=false:=by rw [hop]; rfl
  have q7:(s.1==[119,114,105,116,101])=false:=by rw [hop]; rfl
  have q8:(s.1==[117,110,114,101,97,100])=false:=by rw [hop]; rfl
  have q9:(s.1==[117,110,119,114,105,116,101])=false:=by rw [hop]; rfl
  have q10:(s.1==[99,111,112,121])=false:=by rw [hop]; rfl
  have q11:(s.1==[106,111,105,110])=false:=by rw [hop]; rfl
  have q12:(s.1==[103,114,111,117,112])=true:=by rw [hop]; rfl
  have g0:length (getD s.2.2.2.1 (toNat 0) (zj Sh.str))≤1000:=by
   rw [aD,zI (show (0:Int).toNat < s.2.2.2.1.length by rw [hl2]; decide)]
   exact hs.names.2 _ (ce _)
  have g1:length (getD s.2.2.2.1 (toNat 1) (zj Sh.str))≤1000:=by
   rw [aD,zI (show (1:Int).toNat < s.2.2.2.1.length by rw [hl2]; decide)]
   exact hs.names.2 _ (ce _)
  refine xt ?_
  simp only [lD,ro,Tr.val,q0,q1,q2,q3,q4,q5,q6,q7,q8,q9,q10,q11,zN,if_false,zn]
  repeat' (with_reducible refine gx ?_ ?_)
  all_goals first
   | (refine ⟨_,rfl,?_⟩; first | (simp at g0 g1 ⊢; omega) | (rw [hop]; simp [cw]; omega))
   | rfl
   | exact hup
   | exact v1
   | exact e1
   | exact n1
   | exact gY _
   | exact iu _ (by simp) _
   | (simp [zF,hl2]; done)
   | (refine ar ?_; simp at g0 g1 ⊢; omega)
   | (rw [hop]; decide)
   | (refine ar ?_; rw [hop]; simp [cw]; omega)
 ·simp only [dT,List.not_mem_nil,or_false] at hop
  rcases hop with hop | hop | hop | hop | hop | hop | hop | hop | hop | hop | hop
  all_goals
   have hup:(decide (length s.1≤140737488355328)&&List.all s.1 fun b=>decide (b.toNat < 128))=true:=by rw [hop]; decide
   have q0:(s.1==[99,114,101,97,116,101])=false:=by rw [hop]; rfl
   first | (have q1:(s.1==[100,114,111,112])=false:=by rw [hop]; rfl) | (have q1:(s.1==[100,114,111,112])=true:=by rw [hop]; rfl)
   first | (have q2:(s.1==[105,110,115,101,114,116])=false:=by rw [hop]; rfl) | (have q2:(s.1==[105,110,115,101,114,116])=true:=by rw [hop]; rfl)
   first | (have q3:(s.1==[117,112,100,97,116,101])=false:=by rw [hop]; rfl) | (have q3:(s.1==[117,112,100,97,116,101])=true:=by rw [hop]; rfl)
   first | (have q4:(s.1==[100,101,108,101,116,101])=false:=by rw [hop]; rfl) | (have q4:(s.1==[100,101,108,101,116,101])=true:=by rw [hop]; rfl)
   first | (have q5:(s.1==[115,101,108,101,99,116])=false:=by rw [hop]; rfl) | (have q5:(s.1==[115,101,108,101,99,116])=true:=by rw [hop]; rfl)
   first | (have q6:(s.1==[114,101,97,100])=false:=by rw [hop]; rfl) | (have q6:(s.1==[114,101,97,100])=true:=by rw [hop]; rfl)
   first | (have q7:(s.1==[119,114,105,116,101])=false:=by rw [hop]; rfl) | (have q7:(s.1==[119,114,105,116,101])=true:=by rw [hop]; rfl)
   first | (have q8:(s.1==[117,110,114,101,97,100])=false:=by rw [hop]; rfl) | (have q8:(s.1==[117,110,114,101,97,100])=true:=by rw [hop]; rfl)
   first | (have q9:(s.1==[117,110,119,114,105,116,101])=false:=by rw [hop]; rfl) | (have q9:(s.1==[117,110,119,114,105,116,101])=true:=by rw [hop]; rfl)
   first | (have q10:(s.1==[99,111,112,121])=false:=by rw [hop]; rfl) | (have q10:(s.1==[99,111,112,121])=true:=by rw [hop]; rfl)
   first | (have q11:(s.1==[106,111,105,110])=false:=by rw [hop]; rfl) | (have q11:(s.1==[106,111,105,110])=true:=by rw [hop]; rfl)
   have q12:(s.1==[103,114,111,117,112])=false:=by rw [hop]; rfl
   refine xt ?_
   simp only [lD,ro,Tr.val,q0,q1,q2,q3,q4,q5,q6,q7,q8,q9,q10,q11,if_true,zN,if_false,zn]
   repeat' (with_reducible refine gx ?_ ?_)
   all_goals first
    | (refine ⟨_,rfl,?_⟩; first | (simp; omega) | (rw [hop]; simp [cw]; omega))
    | rfl
    | exact hup
    | exact v1
    | exact e1
    | exact n1
    | exact gY _
    | exact iu _ (by simp) _
    | (refine ar ?_; simp; omega)
    | (rw [hop]; decide)
    | (refine ar ?_; rw [hop]; simp [cw]; omega)
theorem bg {x:Sem zp} (h1:x.2.1.length≤1000) (h2:x.2.2.1.length≤1000) (h3:x.2.2.2.2.2.1.length≤1000) (h4:x.2.2.2.2.2.2.2.2.2.2.2.2.length≤1000):dg x=true:=by
 unfold dg
 refine gi (ar ?_) (gi (ar ?_) (gi (ar ?_) rfl))
 all_goals first | omega | (simp; omega)

theorem dk {c g:Bool} (h:g=true):(bif c then g else true)=true:=by cases c <;> simp [h]

theorem CH {s:Sem zp} (hs:c9 s):jG s=true:=by
 have t1:=hs.table
 have t2:=hs.other
 have t3:=hs.key
 have t4:=hs.role
 by_cases q0:(s.1==[99,114,101,97,116,101])=true
 ·obtain ⟨hc,_⟩:=bO (s:=s) (g:=_) (b:=_) (by simp only [eu,dE,Tr.val,q0,if_true,zn]; exact rfl)
  rw [hc]
  exact dk (bg (by simp) (by first | exact t2 | simp) (by first | exact t3 | simp) (by first | exact t4 | simp))
 by_cases q1:(s.1==[100,114,111,112])=true
 ·obtain ⟨hc,_⟩:=bO (s:=s) (g:=_) (b:=_) (by simp only [eu,dE,Tr.val,q0,q1,if_true,if_false,zN,zn]; exact rfl)
  rw [hc]
  exact dk (bg (by simp) (by first | exact t2 | simp) (by first | exact t3 | simp) (by first | exact t4 | simp))
 by_cases q2:(s.1==[105,110,115,101,114,116])=true
 ·obtain ⟨hc,_⟩:=bO (s:=s) (g:=_) (b:=_) (by simp only [eu,dE,Tr.val,q0,q1,q2,if_true,if_false,zN,zn]; exact rfl)
  rw [hc]
  exact dk (bg (by simp) (by first | exact t2 | simp) (by first | exact t3 | simp) (by first | exact t4 | simp))
 by_cases q3:(s.1==[117,112,100,97,116,101])=true
 ·obtain ⟨hc,_⟩:=bO (s:=s) (g:=_) (b:=_) (by simp only [eu,dE,Tr.val,q0,q1,q2,q3,if_true,if_false,zN,zn]; exact rfl)
  rw [hc]
  exact dk (bg (by simp) (by first | exact t2 | simp) (by first | exact t3 | simp) (by first | exact t4 | simp))
 by_cases q4:(s.1==[100,101,108,101,116,101])=true
 ·obtain ⟨hc,_⟩:=bO (s:=s) (g:=_) (b:=_) (by simp only [eu,dE,Tr.val,q0,q1,q2,q3,q4,if_true,if_false,zN,zn]; exact rfl)
  rw [hc]
  exact dk (bg (by simp) (by first | exact t2 | simp) (by first | exact t3 | simp) (by first | exact t4 | simp))
 by_cases q5:(s.1==[115,101,108,101,99,116])=true
 ·obtain ⟨hc,_⟩:=bO (s:=s) (g:=_) (b:=_) (by simp only [eu,dE,Tr.val,q0,q1,q2,q3,q4,q5,if_true,if_false,zN,zn]; exact rfl)
  rw [hc]
  exact dk (bg (by simp) (by first | exact t2 | simp) (by first | exact t3 | simp) (by first | exact t4 | simp))
 by_cases q6:(s.1==[114,101,97,100])=true
 ·obtain ⟨hc,_⟩:=bO (s:=s) (g:=_) (b:=_) (by simp only [eu,dE,Tr.val,q0,q1,q2,q3,q4,q5,q6,if_true,if_false,zN,zn]; exact rfl)
  rw [hc]
  exact dk (bg (by simp) (by first | exact t2 | simp) (by first | exact t3 | simp) (by first | exact t4 | simp))
 by_cases q7:(s.1==[119,114,105,116,101])=true
 ·obtain ⟨hc,_⟩:=bO (s:=s) (g:=_) (b:=_) (by simp only [eu,dE,Tr.val,q0,q1,q2,q3,q4,q5,q6,q7,if_true,if_false,zN,zn]; exact rfl)
  rw [hc]
  exact dk (bg (by simp) (by first | exact t2 | simp) (by first | exact t3 | simp) (by first | exact t4 | simp))
 by_cases q8:(s.1==[117,110,114,101,97,100])=true
 ·obtain ⟨hc,_⟩:=bO (s:=s) (g:=_) (b:=_) (by simp only [eu,dE,Tr.val,q0,q1,q2,q3,q4,q5,q6,q7,q8,if_true,if_false,zN,zn]; exact rfl)
  rw [hc]
  exact dk (bg (by simp) (by first | exact t2 | simp) (by first | exact t3 | simp) (by first | exact t4 | simp))
 by_cases q9:(s.1==[117,110,119,114,105,116,101])=true
 ·obtain ⟨hc,_⟩:=bO (s:=s) (g:=_) (b:=_) (by simp only [eu,dE,Tr.val,q0,q1,q2,q3,q4,q5,q6,q7,q8,q9,if_true,if_false,zN,zn]; exact rfl)
  rw [hc]
  exact dk (bg (by simp) (by first | exact t2 | simp) (by first | exact t3 | simp) (by first | exact t4 | simp))
 by_cases q10:(s.1==[99,111,112,121])=true
 ·obtain ⟨hc,_⟩:=bO (s:=s) (g:=_) (b:=_) (by simp only [eu,dE,Tr.val,q0,q1,q2,q3,q4,q5,q6,q7,q8,q9,q10,if_true,if_false,zN,zn]; exact rfl)
  rw [hc]
  exact dk (bg (by simp) (by first | exact t2 | simp) (by first | exact t3 | simp) (by first | exact t4 | simp))
 by_cases q11:(s.1==[106,111,105,110])=true
 ·obtain ⟨hc,_⟩:=bO (s:=s) (g:=_) (b:=_) (by simp only [eu,dE,Tr.val,q0,q1,q2,q3,q4,q5,q6,q7,q8,q9,q10,q11,if_true,if_false,zN,zn]; exact rfl)
  rw [hc]
  exact dk (bg (by simp) (by first | exact t2 | simp) (by first | exact t3 | simp) (by first | exact t4 | simp))
 by_cases q12:(s.1==[103,114,111,117,112])=true
 ·obtain ⟨hc,_⟩:=bO (s:=s) (g:=_) (b:=_) (by simp only [eu,dE,Tr.val,q0,q1,q2,q3,q4,q5,q6,q7,q8,q9,q10,q11,q12,if_true,if_false,zN,zn]; exact rfl)
  rw [hc]
  exact dk (bg (by simp) (by first | exact t2 | simp) (by first | exact t3 | simp) (by first | exact t4 | simp))
 exact (sF (by simp only [eu,dE,Tr.val,q0,q1,q2,q3,q4,q5,q6,q7,q8,q9,q10,q11,q12,if_false,zN])).1

theorem jH {s:Sem zp} (hs:c9 s):oX s=true:=by
 unfold oX
 refine gi ?_ rfl
 unfold qr
 refine gi (CH hs) ?_
 split
 ·rfl
 ·rename_i h
  have hp:eZ s=true:=by simpa using h
  obtain ⟨k1,k2⟩:=mH hs hp
  exact gi k1 (gi (Lh _ k2) rfl)

theorem xL:∀ (es:List ((Int×Int×zl)×Int)) (n:Nat) (x:Int),(ic es n x).length=es.length
 | [],_,_=>rfl
 | _::_,0,_=>rfl
 | _::r,n+1,x=>by simp [ic,xL r n x]
theorem OT (es:List ((Int×Int×zl)×Int)) (k:Int×Int×zl):(gX es k).length≤es.length+1:=by
 unfold gX
 cases fm es k <;> simp
theorem A5:∀ (es:List ((Int×Int×zl)×Int)) (k:Int×Int×zl),(fm es k=true→jn es k < es.length)∧jn es k≤es.length
 | [],k=>⟨fun h=>by simp [fm] at h,aU _⟩
 | p::r,k=>by
  obtain ⟨h1,h2⟩:=A5 r k
  constructor
  ·intro h
   rw [jn]
   cases hk:(k==p.1) with
   | true=>simp
   | false=>
    have:fm r k=true:=by simpa [fm,hk] using h
    have:=h1 this
    simp; omega
  ·rw [jn]
   cases (k==p.1) <;> simp <;> omega
theorem RO (es:List ((Int×Int×zl)×Int)) (k:Int×Int×zl):jn es k < (gX es k).length:=by
 obtain ⟨h1,h2⟩:=A5 es k
 unfold gX
 cases h:fm es k with
 | true=>exact h1 h
 | false=>simp; omega

def Fk (c:Int) (n:Nat):Prop:=0≤c∧c < n
theorem BY {c:Int} {n:Nat} (h:Fk c n):zF c n=true:=by
 simp [zF,h.1,h.2]
theorem sA {a0 a1 a2 a3 a4 a5 a6 a7 a8 a9 b0}:∀ (l:List (Sem zq)) (i:Int),eb a0 a1 a2 a3 a4 a5 a6 a7 a8 a9 b0 l i=true→Fk a2 a1.length∧∀ f∈l,Fk f.1 a1.length
 | [],i,h=>by
  rw [eb] at h
  split at h
  ·rename_i h1
   refine ⟨?_,by simp⟩
   unfold Fk
   cases h2:decide (a2 ≥ 0) with
   | true=>
    rw [h2] at h1
    simp at h1 h2
    exact ⟨h2,h1⟩
   | false=>rw [h2] at h1; simp at h1
  ·cases h
 | x :: r,i,h=>by
  rw [eb] at h
  split at h
  ·cases h
  ·rename_i h1
   split at h
   ·cases h
   ·obtain ⟨h3,h4⟩:=sA r _ h
    refine ⟨h3,fun f hf=>?_⟩
    rcases dT.1 hf with rfl | hf
    ·unfold Fk
     cases h2:decide (f.1 ≥ 0) with
     | true=>
      rw [h2] at h1
      simp at h1 h2
      exact ⟨h2,h1⟩
     | false=>rw [h2] at h1; simp at h1
    ·exact h4 f hf
theorem sy {a0 a1 a2 a3 a4 a5 a6 a7 a8 a9 b0}:∀ (l:List (Sem zg)) (i:Int),dZ a0 a1 a2 a3 a4 a5 a6 a7 a8 a9 b0 l i=true→Fk a2 a1.length∧(∀ f∈a4,Fk f.1 a1.length)∧∀ u∈l,Fk u a1.length
 | [],i,h=>by
  rw [dZ] at h
  obtain ⟨h1,h2⟩:=sA _ _ h
  exact ⟨h1,h2,by simp⟩
 | x :: r,i,h=>by
  rw [dZ] at h
  split at h
  ·cases h
  ·rename_i h1
   obtain ⟨h3,h4,h5⟩:=sy r _ h
   refine ⟨h3,h4,fun f hf=>?_⟩
   rcases dT.1 hf with rfl | hf
   ·unfold Fk
    cases h2:decide (f ≥ 0) with
    | true=>
     rw [h2] at h1
     simp at h1 h2
     exact ⟨h2,h1⟩
    | false=>rw [h2] at h1; simp at h1
   ·exact h5 f hf
theorem wc {a0 a1 a2 a3 a4 a5 a6 a7 a8 a9 b0}:∀ (l:List (Sem zi)) (i:Int),f7 a0 a1 a2 a3 a4 a5 a6 a7 a8 a9 b0 l i=true→Fk a2 a1.length∧(∀ f∈a4,Fk f.1 a1.length)∧∀ u∈a3,Fk u a1.length
 | [],i,h=>by
  rw [f7] at h
  exact sy _ _ h
 | x::r,i,h=>by
  rw [f7] at h
  split at h
  ·cases h
  ·exact wc r _ h
theorem gA {t:Sem zw} (h:iK t=true):Fk t.2.2.1 t.2.1.length∧(∀ f∈t.2.2.2.2.1,Fk f.1 t.2.1.length)∧(∀ u∈t.2.2.2.1,Fk u t.2.1.length)∧t.2.1.length≤8∧1≤t.2.1.length:=by
 unfold iK at h
 split at h
 ·cases h
 ·rename_i h1
  obtain ⟨h2,h3,h4⟩:=wc _ _ h
  refine ⟨h2,h3,h4,?_⟩
  cases hn:cO t.1 with
  | false=>rw [hn] at h1; simp at h1
  | true=>
   rw [hn] at h1
   cases hd:decide ((length t.2.1:Int) < 1) with
   | true=>rw [hd] at h1; simp at h1
   | false=>
    rw [hd] at h1
    simp at h1 hd
    omega
theorem mh {t:Sem zw} {row:List (Sem zf)} (h:(io t row != 0)≠true):row.length=t.2.1.length:=by
 simp at h
 unfold io at h
 split at h
 ·cases h
 ·rename_i h1
  cases hm:iK t with
  | false=>rw [hm] at h1; simp at h1
  | true=>
   rw [hm] at h1
   simp at h1
   omega

structure c8 (x:Sem zh):Prop where
 uq:x.1.2.2.2.1.length≤1000
 rf:x.1.2.2.2.2.1.length≤1000
 rw:x.2.length≤1000


theorem Dr (l:List (Sem zh)) (s:zl):aj l s=(-1:Int)∨((0:Int)≤aj l s∧LT.lt (α:=Int) (aj l s) l.length):=by
 have:=kW (fun x:Sem zh=>x.1.1==s) l 0
 simp at this
 exact this

theorem jc {l:List (Sem zh)} {s:zl} (h:(0:Int)≤aj l s):zF (aj l s) (length l)=true:=by
 rcases Dr l s with h1 | ⟨h1,h2⟩
 ·rw [h1] at h; omega
 ·simp only [zF,aG,zW]; exact ⟨h1,h2⟩

end Cad
