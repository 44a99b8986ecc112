/- Functions with memory of their own, by their trees. Copies: slices.Clone, copied. Bases: an answer that is an error alone. Bases: bases that are kept, rows that a condition meets. Bases: copies; where a table is put. Bases: the place of a table by its name. Bases: slices.Insert at the end. Bases: a table is put into a base. Bases: the keys that are met. Bases: rows taken out by their keys: the first. Bases: the first row that is taken out by its key. Bases: the first row that is taken out by its key: the contract. Bases: rows taken out by their keys: slices.DeleteFunc. Bases: the rows that stay when rows are taken out by their keys. Bases: slices.DeleteFunc over rows: the contract. Bases: remove, choose. Texts of values and expressions, and tokens: nothing panics. Tokens: nothing panics. Statements' texts: nothing panics. stmt.May: nothing panics. What is asked of tables with rows, and of bases, holds. What is asked of tables with rows, and of bases, holds. What is asked of bases holds. -/
import Derived.Test.YtiefilkilbdpgaaGreatDoorK12
namespace Cad
open Go
open Int (toNat)
open List (getD)
open List (length)

theorem fM {P:Program} {gl:Nat→AV} {σ ι:Type} {E:bb} {k:FuncId} {f:Func} {kinds:List (Option Sh)} {G:cg kinds} {keep:Nat→zT} {gas n n0:Nat} {e:σ→Nat×St} {t:σ→Tr (σ ⊕ ag)} {args:ι→List AV} {heap:ι→List AO} {i:ι→Tr (σ ⊕ ag)}
  (hE:zm E) (hf:zz E.P k f kinds.length) (hn:∀ x,(heap x).length=n0)
  (hgo:∀ x,run E n0 keep f.results.toList gas (ao f) (zU f.ntmps (args x) (heap x))=(i x).map (lf f e))
  (hon:∀ s,run E n0 keep f.results.toList gas (zw f (e s).1) (e s).2=(t s).map (lf f e))
  (hG:∀ a h res,(G a h).val=some res→∃ x,fv kinds a=args x∧h=heap x∧cx t n (i x)=some res) (qp:E.P=P:=by rfl) (qg:E.gl=gl:=by rfl):kJ P gl k (zP kinds G):=by
 subst qp qg
 refine bc hf fun x h0 res hx C hC=>?_
 obtain ⟨y,e1,e2,e3⟩:=hG x h0 res hx
 subst e2
 rw [e1]
 exact js (n0:=n0) (Q:=fun r h=>(r,h)=res) hE hf (fun id h=>hC id (by rw [hn]; exact h)) (n+1) _ _ _ (by rw [ie hon (hgo y)]; exact e3) rfl
open Go Go.Proofs
set_option maxHeartbeats 4000000

noncomputable abbrev qc (l:List (Sem zg)):Tr zp:=run eU 0 vC (Func.results Tryz.f198).toList 300 (ao Tryz.f198) (zU (Func.ntmps Tryz.f198) [.sl zg l] [])
theorem EN:zz eU.P 198 Tryz.f198 1:=aG (by kernel_rfl)
theorem Yo (l:List (Sem zg)):qc l=.ok (.fork l.isEmpty (aj (qc l)).1 (aj (qc l)).2.1 (aj (qc l)).2.2):=by kernel_rfl
theorem TD (l:List (Sem zg)):run eU 0 vC (Func.results Tryz.f198).toList 300 (aj (qc l)).1 (aj (qc l)).2.2=.ok (.ret .nils []):=by kernel_rfl
theorem TE (l:List (Sem zg)):run eU 0 vC (Func.results Tryz.f198).toList 300 (aj (qc l)).2.1 (aj (qc l)).2.2=.chk (decide (l.length≤1073741824)) (.ok (.ret (.vec 0) [.vec zg l])):=by kernel_rfl
def Xr:cg [some (.sl zg)]:=fun x h=>match h with
 | []=>.chk (decide (length x.1≤1073741824)) (.ok (.vec 0,[.vec zg x.1]))
 | _=>.err
def VQ:zB:=zP [some (.sl zg)] Xr
theorem Ro:FK 198 VQ:=by
 refine bc EN fun x h0 res hx C hC=>?_
 unfold Xr at hx
 split at hx
 ·simp only [Tr.val] at hx
  split at hx
  ·rename_i hl
   simp only [ae] at hx
   subst hx
   obtain ⟨l,u⟩:=x
   refine zk (n0:=0) bB EN hC (Yo l) ?_
   refine ⟨fun he=>?_,?_⟩
   ·have hn:l=[]:=List.isEmpty_iff.1 he
    refine Reach.weaken (Q:=fun r h=>(r,h)=(.vec 0,[.vec zg []])) (Reach.promNil zg (fun id=>hC id (by simp)) (zk (n0:=0) bB EN hC (TD l) rfl)) ?_
    intro r h hq
    cases hq
    refine ⟨_,?_,fun _ _ _ _ h=>h⟩
    show (AV.vec 0,[AO.vec zg []])=(AV.vec 0,[AO.vec zg l])
    rw [hn]
   ·exact zk (n0:=0) bB EN hC (TE l) (cy hl rfl)
  ·cases hx
 ·simp at hx

noncomputable abbrev qd (l:List (Sem zo)):Tr zp:=run eU 0 vC (Func.results Tryz.f199).toList 300 (ao Tryz.f199) (zU (Func.ntmps Tryz.f199) [.sl zo l] [])
theorem EO:zz eU.P 199 Tryz.f199 1:=aG (by kernel_rfl)
theorem Yp (l:List (Sem zo)):qd l=.ok (.fork l.isEmpty (aj (qd l)).1 (aj (qd l)).2.1 (aj (qd l)).2.2):=by kernel_rfl
theorem TF (l:List (Sem zo)):run eU 0 vC (Func.results Tryz.f199).toList 300 (aj (qd l)).1 (aj (qd l)).2.2=.ok (.ret .nils []):=by kernel_rfl
theorem TG (l:List (Sem zo)):run eU 0 vC (Func.results Tryz.f199).toList 300 (aj (qd l)).2.1 (aj (qd l)).2.2=.chk (decide (l.length≤1073741824)) (.ok (.ret (.vec 0) [.vec zo l])):=by kernel_rfl
def Xs:cg [some (.sl zo)]:=fun x h=>match h with
 | []=>.chk (decide (length x.1≤1073741824)) (.ok (.vec 0,[.vec zo x.1]))
 | _=>.err
def VR:zB:=zP [some (.sl zo)] Xs
theorem Rp:FK 199 VR:=by
 refine bc EO fun x h0 res hx C hC=>?_
 unfold Xs at hx
 split at hx
 ·simp only [Tr.val] at hx
  split at hx
  ·rename_i hl
   simp only [ae] at hx
   subst hx
   obtain ⟨l,u⟩:=x
   refine zk (n0:=0) bB EO hC (Yp l) ?_
   refine ⟨fun he=>?_,?_⟩
   ·have hn:l=[]:=List.isEmpty_iff.1 he
    refine Reach.weaken (Q:=fun r h=>(r,h)=(.vec 0,[.vec zo []])) (Reach.promNil zo (fun id=>hC id (by simp)) (zk (n0:=0) bB EO hC (TF l) rfl)) ?_
    intro r h hq
    cases hq
    refine ⟨_,?_,fun _ _ _ _ h=>h⟩
    show (AV.vec 0,[AO.vec zo []])=(AV.vec 0,[AO.vec zo l])
    rw [hn]
   ·exact zk (n0:=0) bB EO hC (TG l) (cy hl rfl)
  ·cases hx
 ·simp at hx

noncomputable abbrev qe (l:List (Sem (.sl zf))):Tr zp:=run eU 0 vC (Func.results Tryz.f43).toList 300 (ao Tryz.f43) (zU (Func.ntmps Tryz.f43) [.sl (.sl zf) l] [])
theorem EQ:zz eU.P 43 Tryz.f43 1:=aG (by kernel_rfl)
theorem Yr (l:List (Sem (.sl zf))):qe l=.ok (.fork l.isEmpty (aj (qe l)).1 (aj (qe l)).2.1 (aj (qe l)).2.2):=by kernel_rfl
theorem TH (l:List (Sem (.sl zf))):run eU 0 vC (Func.results Tryz.f43).toList 300 (aj (qe l)).1 (aj (qe l)).2.2=.ok (.ret .nils []):=by kernel_rfl
theorem TI (l:List (Sem (.sl zf))):run eU 0 vC (Func.results Tryz.f43).toList 300 (aj (qe l)).2.1 (aj (qe l)).2.2=.chk (decide (l.length≤1073741824)) (.ok (.ret (.vec 0) [.vec (.sl zf) l])):=by kernel_rfl
def Xt:cg [some (.sl (.sl zf))]:=fun x h=>match h with
 | []=>.chk (decide (length x.1≤1073741824)) (.ok (.vec 0,[.vec (.sl zf) x.1]))
 | _=>.err
def VT:zB:=zP [some (.sl (.sl zf))] Xt
theorem Rr:FK 43 VT:=by
 refine bc EQ fun x h0 res hx C hC=>?_
 unfold Xt at hx
 split at hx
 ·simp only [Tr.val] at hx
  split at hx
  ·rename_i hl
   simp only [ae] at hx
   subst hx
   obtain ⟨l,u⟩:=x
   refine zk (n0:=0) bB EQ hC (Yr l) ?_
   refine ⟨fun he=>?_,?_⟩
   ·have hn:l=[]:=List.isEmpty_iff.1 he
    refine Reach.weaken (Q:=fun r h=>(r,h)=(.vec 0,[.vec (.sl zf) []])) (Reach.promNil (.sl zf) (fun id=>hC id (by simp)) (zk (n0:=0) bB EQ hC (TH l) rfl)) ?_
    intro r h hq
    cases hq
    refine ⟨_,?_,fun _ _ _ _ h=>h⟩
    show (AV.vec 0,[AO.vec (Sh.sl zf) []])=(AV.vec 0,[AO.vec (Sh.sl zf) l])
    rw [hn]
   ·exact zk (n0:=0) bB EQ hC (TI l) (cy hl rfl)
  ·cases hx
 ·simp at hx

noncomputable abbrev qf (l:List (Sem zf)):Tr zp:=run eU 0 vC (Func.results Tryz.f44).toList 300 (ao Tryz.f44) (zU (Func.ntmps Tryz.f44) [.sl zf l] [])
theorem ER:zz eU.P 44 Tryz.f44 1:=aG (by kernel_rfl)
theorem Ys (l:List (Sem zf)):qf l=.ok (.fork l.isEmpty (aj (qf l)).1 (aj (qf l)).2.1 (aj (qf l)).2.2):=by kernel_rfl
theorem TJ (l:List (Sem zf)):run eU 0 vC (Func.results Tryz.f44).toList 300 (aj (qf l)).1 (aj (qf l)).2.2=.ok (.ret .nils []):=by kernel_rfl
theorem TK (l:List (Sem zf)):run eU 0 vC (Func.results Tryz.f44).toList 300 (aj (qf l)).2.1 (aj (qf l)).2.2=.chk (decide (l.length≤1073741824)) (.ok (.ret (.vec 0) [.vec zf l])):=by kernel_rfl
def Xu:cg [some (.sl zf)]:=fun x h=>match h with
 | []=>.chk (decide (length x.1≤1073741824)) (.ok (.vec 0,[.vec zf x.1]))
 | _=>.err
def VU:zB:=zP [some (.sl zf)] Xu
theorem Rs:FK 44 VU:=by
 refine bc ER fun x h0 res hx C hC=>?_
 unfold Xu at hx
 split at hx
 ·simp only [Tr.val] at hx
  split at hx
  ·rename_i hl
   simp only [ae] at hx
   subst hx
   obtain ⟨l,u⟩:=x
   refine zk (n0:=0) bB ER hC (Ys l) ?_
   refine ⟨fun he=>?_,?_⟩
   ·have hn:l=[]:=List.isEmpty_iff.1 he
    refine Reach.weaken (Q:=fun r h=>(r,h)=(.vec 0,[.vec zf []])) (Reach.promNil zf (fun id=>hC id (by simp)) (zk (n0:=0) bB ER hC (TJ l) rfl)) ?_
    intro r h hq
    cases hq
    refine ⟨_,?_,fun _ _ _ _ h=>h⟩
    show (AV.vec 0,[AO.vec zf []])=(AV.vec 0,[AO.vec zf l])
    rw [hn]
   ·exact zk (n0:=0) bB ER hC (TK l) (cy hl rfl)
  ·cases hx
 ·simp at hx

noncomputable def Mz:=eU.addL [(198,VQ),(199,VR),(43,VT),(44,VU)]
theorem A8:zm Mz:=bB.addL <| fc Ro <| fc Rp <| fc Rr <| fc Rs g6
def vL (c:ze→Bool):zB:=zA [.expr] [.expr] (fun x=>c x.1) fun x=>(x.1,())
noncomputable def wh (c:ze→Bool):bb:=Mz.add 200 (vL c)
theorem pb {c:ze→Bool} (hg:FK 200 (vL c)):zm (wh c):=A8.add hg
abbrev Pr:Nat→zT:=fun j=>if j=3 then { slots:=[1,2,10,11] } else { }
abbrev yV (i10:Int) (i11:Int) (ja0:zq) (ja1:Int) (ja2:Int) (ja3:zq) (ja4:zq) (lh_2:List (Sem Sh.expr)):St:={
 tmps:=
  (tm 26 [(1,AV.ptr 0 0),(2,AV.ptr 1 0),(10,AV.int .i64 i10),(11,AV.int .i64 i11)]),
 heap:=
  [AO.box [AV.str ja0,AV.int .i64 ja1,AV.int .i64 ja2,AV.str ja3,AV.str ja4,AV.vec 2],
   AO.box [AV.str [],AV.int .i64 0,AV.int .i64 0,AV.str [],AV.str [],AV.nils],AO.vec Sh.expr lh_2] }
theorem EP (c:ze→Bool):zz (wh c).P 200 Tryz.f200 1:=aG (by kernel_rfl)
theorem Yq (c:ze→Bool) (op:zq) (v:V) (s:zq) (l:List ze):rn (wh c) 0 Pr Tryz.f200 [zy Sh.expr (ze.mk op v s l)] []=
 Tr.chk (decide (l.length≤1073741824)) (Tr.ok (zp.head 3 (zw Tryz.f200 3) (yV (↑l.length:Int) 0 op v.1 v.2.1 v.2.2 s l))):=by kernel_rfl
theorem E1 (c:ze→Bool) (i10:Int) (i11:Int) (ja0:zq) (ja1:Int) (ja2:Int) (ja3:zq) (ja4:zq) (lh_2:List (Sem Sh.expr)):rh (wh c) 0 Pr Tryz.f200 3 (yV i10 i11 ja0 ja1 ja2 ja3 ja4 lh_2)=
 Tr.br (decide (i11 < i10))
 (Tr.chk (zJ i11 lh_2.length)
  (Tr.chk (decide (i11.toNat < lh_2.length))
   (Tr.chk (c (zC (lh_2.getD i11.toNat (zj Sh.expr))))
    (Tr.chk (zJ i11 lh_2.length)
     (Tr.chk (decide (i11.toNat < lh_2.length))
      (Tr.ok
       (zp.head 3 (zw Tryz.f200 3)
        (yV i10 (IntKind.i64.wrap (i11+1)) ja0 ja1 ja2 ja3 ja4
         (lh_2.set i11.toNat
          (zC (lh_2.getD i11.toNat (zj Sh.expr))))))))))))
 (Tr.ok
  (zp.ret (AV.agg [AV.str ja0,AV.int .i64 ja1,AV.int .i64 ja2,AV.str ja3,AV.str ja4,AV.vec 0]) [AO.vec Sh.expr lh_2])):=by kernel_rfl

theorem XB {c:ze→Bool} (hg:FK 200 (vL c)) {C:cd} (hC:∀ id,C.ρ0 id=none) (op:zq) (v:V) (s:zq) (l:List ze) (hl:l.length≤1073741824) (hcl:l.all c=true):
  ∀ (k i:Nat),l.length - i=k→i≤l.length→Reach (wh c) C 200 (zw Tryz.f200 3) (yV l.length i op v.1 v.2.1 v.2.2 s l) (fun r h=>zY h [.expr] r=some (ze.mk op v s l,())):=by
 intro k
 induction k with
 | zero=>
  intro i hk hi
  obtain rfl:i=l.length:=by omega
  refine zk (n0:=0) (pb hg) (EP c) (fun id _=>hC id) (E1 c _ _ _ _ _ _ _ _) ?_
  simp only [af,Tr.val_brF]
  rfl
 | succ k IH=>
  intro i hk hi
  have hlt:i < l.length:=by omega
  refine zk (n0:=0) (pb hg) (EP c) (fun id _=>hC id) (E1 c _ _ _ _ _ _ _ _) ?_
  have h1:c l[i]=true:=cA.1 hcl _ (cR hlt)
  have h2:decide ((i:Int).toNat < l.length)=true:=by simpa using hlt
  have h3:l.set (i:Int).toNat l[i]=l:=by simp
  simp only [zV hlt,zF hlt,zZ l _ hlt,ze.eta,Tr.val_brT,Tr.val_chkT,h1,h2,h3,zG i (by unfold zD; omega)]
  exact IH (i+1) (by omega) (by omega)

theorem SG:zz Mz.P 200 Tryz.f200 1:=aG (by kernel_rfl)
theorem xw:∀ n,FK 200 (vL (kK n))
 | 0=>cQ ⟨Tryz.f200,SG.1,SG.2.1,SG.2.2.1⟩ (fun _=>rfl)
 | n+1=>by
  have h:FK 200 (vL (kK (n+1))):=by
   refine zM (E:=wh (kK n)) (EP _) fun x hc C hC=>?_
   obtain ⟨⟨op,v,s,l⟩,u⟩:=x
   have hc:(decide (l.length≤1073741824)&&l.all (kK n))=true:=hc
   simp only [aE,ah] at hc
   refine zk (n0:=0) (pb (xw n)) (EP _) (fun id _=>hC id) (Yq _ op v s l) ?_
   refine cy (by simpa using hc.1) ?_
   exact XB (xw n) hC op v s l hc.1 hc.2 _ 0 rfl (be _)
  exact h
def VS:zB:=vL (kK 16)
theorem Rq:FK 200 VS:=xw 16
noncomputable def A7:=Mz.add 200 VS
theorem pm:zm A7:=A8.add Rq
abbrev eJ:Sh:=.pr zg (.pr zg (.sl (.sl zf)))

noncomputable def zcR (x0:Sem zg):Tr (Empty ⊕ ag):=
 Tr.re (AV.tup [AV.nils,AV.agg [AV.int .i64 x0,AV.int .i64 0,AV.nils]]) []
noncomputable def Cv (x0:Sem zg):=ap [zh.sl,eJ] t0 100000000 (zcR x0)
noncomputable def su (x0:Sem zg):=(Cv x0).isSome
noncomputable def cE (x0:Sem zg):=o2 (Cv x0)
noncomputable def Vi:=FT [zg] [zh.sl,eJ] fun x=>Cv x.1
theorem QO:FK 39 Vi:=pm.T1 (f:=Tryz.f39) (keep:=k0) (e:=e0)

noncomputable def O1:=A7.add 39 Vi
theorem lU:zm O1:=pm.add QO
noncomputable section

def zc1 (x0:Sem zE) (x1:Sem zf.sl):Tr (Empty ⊕ ag):=
 let a0:=getD x1 (toNat x0.2.2.1) (zj zf)
 Tr.br
 (bif !kf (x0.1,x0.2.1,x0.2.2.1,x0.2.2.2.1,x0.2.2.2.2.1,zC x0.2.2.2.2.2) then true
 else decide (x0.2.2.1 ≥ (↑(length x1):Int)))
 (Tr.re (AV.agg [AV.int .i64 0,AV.int .i64 0,AV.str []]) [])
 (Tr.chk (zJ x0.2.2.1 (length x1)) (Tr.re (AV.agg [AV.int .i64 a0.1,AV.int .i64 a0.2.1,AV.str a0.2.2]) []))
def Kw (x0:Sem zE) (x1:Sem zf.sl):=ap [zf] t0 100000000 (zc1 x0 x1)
def zaK (x0:Sem zE) (x1:Sem zf.sl):=(Kw x0 x1).isSome
def zdr (x0:Sem zE) (x1:Sem zf.sl):=o1 (Kw x0 x1)
def VM:=FT [zE,zf.sl] [zf] fun x=>Kw x.1 x.2.1
theorem Rk:FK 84 VM:=lU.T1 (f:=Tryz.f84) (keep:=k0) (e:=e0)

def Su (x0:Sem zh.sl) (x1:Sem zg):Tr (Empty ⊕ ag):=
 Tr.chk (lM x0)
 (Tr.br (!oX x0)
  (Tr.chk true (Tr.re (AV.tup [AV.sl zh (cE 10).1,AV.agg [AV.int .i64 (cE 10).2.1,AV.int .i64 (cE 10).2.2.1,AV.sl zf.sl (cE 10).2.2.2]]) []))
  (Tr.re (AV.tup [AV.sl zh x0,AV.agg [AV.int .i64 0,AV.int .i64 x1,AV.nils]]) []))
def sw (x0:Sem zh.sl) (x1:Sem zg):=ap [zh.sl,eJ] t0 100000000 (Su x0 x1)
def o4 (x0:Sem zh.sl) (x1:Sem zg):=(sw x0 x1).isSome
def wd (x0:Sem zh.sl) (x1:Sem zg):=o2 (sw x0 x1)
def Vj:=FT [zh.sl,zg] [zh.sl,eJ] fun x=>sw x.1 x.2.1
theorem QP:FK 40 Vj:=lU.T1 (f:=Tryz.f40) (keep:=k0) (e:=e0)

abbrev Zd:=kP [(9,[2,3,8,36,37,38])]
inductive rN where
 | h9 (l36:List (Sem zf.sl)) (i37:Int) (i38:Int) (z0:zr [CP.d zh]) (z1:zr [CP.d Sh.expr])
 | h9b (l36:List (Sem zf.sl)) (i37:Int) (i38:Int) (z0:zr [CP.d zh]) (z1:zr [CP.d Sh.expr]) (lh_2:List (Sem zf.sl))
abbrev zbw:rN→Nat×St
 | .h9 l36 i37 i38 z0 z1=>(9,⟨tm 62 [(2,AV.ptr 0 0),(3,AV.ptr 1 0),(8,AV.nils),(36,AV.sl zf.sl l36),(37,AV.int .i64 i37),(38,AV.int .i64 i38)],[AO.box (bu [] [CP.d zh] z0),AO.box (bu [] [CP.d Sh.expr] z1)]⟩)
 | .h9b l36 i37 i38 z0 z1 lh_2=>(9,⟨tm 62 [(2,AV.ptr 0 0),(3,AV.ptr 1 0),(8,AV.vec 2),(36,AV.sl zf.sl l36),(37,AV.int .i64 i37),(38,AV.int .i64 i38)],[AO.box (bu [] [CP.d zh] z0),AO.box (bu [] [CP.d Sh.expr] z1),AO.vec zf.sl lh_2]⟩)
def zcS (x0:Sem zh) (x1:Sem Sh.expr):Tr (rN ⊕ ag):=
 let a0:=hY (zC x1) x0.1.2.1
 Tr.br (!ze.op x1==[])
 (Tr.br (bif a0.2==0 then bif a0.1 != 3 then a0.1 != 0 else false else false)
  (Tr.br true (Tr.re (AV.tup [AV.nils,AV.int .i64 5]) []) (Tr.to (rN.h9 x0.2 (↑(length x0.2):Int) 0 (x0,()) (x1,()))))
  (Tr.br (a0.2 != 0) (Tr.re (AV.tup [AV.nils,AV.int .i64 a0.2]) []) (Tr.to (rN.h9 x0.2 (↑(length x0.2):Int) 0 (x0,()) (x1,())))))
 (Tr.to (rN.h9 x0.2 (↑(length x0.2):Int) 0 (x0,()) (x1,())))
def zdy:rN→Tr (rN ⊕ ag)
 | .h9 l36 i37 i38 z0 z1=>
  let a0:=l36.getD i38.toNat (zj zf.sl)
  let a1:=ky (zC z1.1) z0.1.1.2.1 a0
  let a2:=[a0]
  let a3:=IntKind.i64.wrap (i38+1)
  Tr.br (decide (i38 < i37))
  (Tr.chk (zJ i38 l36.length) (Tr.br (bif ze.op z1.1==[] then true else a1.1==3&&(a1.2.1==1&&(a1.2.2==[]&&true))) (Tr.chk (decide (length a0≤1073741824)) (Tr.chk (decide (a2.length≤1073741824)) (Tr.to (rN.h9b l36 i37 a3 z0 z1 a2)))) (Tr.to (rN.h9 l36 i37 a3 z0 z1))))
  (Tr.re (AV.tup [AV.nils,AV.int .i64 0]) [])
 | .h9b l36 i37 i38 z0 z1 lh_2=>
  let a0:=l36.getD i38.toNat (zj zf.sl)
  let a1:=ky (zC z1.1) z0.1.1.2.1 a0
  let a2:=[a0]
  let a3:=IntKind.i64.wrap (i38+1)
  Tr.br (decide (i38 < i37))
  (Tr.chk (zJ i38 l36.length) (Tr.br (bif ze.op z1.1==[] then true else a1.1==3&&(a1.2.1==1&&(a1.2.2==[]&&true))) (Tr.chk (decide (length a0≤1073741824)) (Tr.chk (decide (lh_2.length+a2.length≤1073741824)) (Tr.to (rN.h9b l36 i37 a3 z0 z1 (lh_2++a2))))) (Tr.to (rN.h9b l36 i37 a3 z0 z1 lh_2))))
  (Tr.re (AV.tup [AV.vec 0,AV.int .i64 0]) [AO.vec zf.sl lh_2])
def yP (x0:Sem zh) (x1:Sem Sh.expr):=ap [zf.sl.sl,zg] zdy 100000000 (zcS x0 x1)
def Fd (x0:Sem zh) (x1:Sem Sh.expr):=(yP x0 x1).isSome
def Kl (x0:Sem zh) (x1:Sem Sh.expr):=o2 (yP x0 x1)
def Vs:=FT [zh,Sh.expr] [zf.sl.sl,zg] fun x=>yP x.1 x.2.1
theorem QZ:FK 51 Vs:=lU.T1 (f:=Tryz.f51) (keep:=Zd) (e:=zbw)

def sV:=O1.addL [(84,VM),(40,Vj),(51,Vs)]
theorem jr:zm sV:=lU.addL <| fc Rk <| fc QP <| fc QZ <|  g6
end

noncomputable abbrev qb (l:List (Sem zh)):Tr zp:=run sV 0 vC (Func.results Tryz.f76).toList 300 (ao Tryz.f76) (zU (Func.ntmps Tryz.f76) [.sl zh l] [])
theorem EM:zz sV.P 76 Tryz.f76 1:=aG (by kernel_rfl)
theorem Yj (l:List (Sem zh)):qb l=.ok (.fork l.isEmpty (aj (qb l)).1 (aj (qb l)).2.1 (aj (qb l)).2.2):=by kernel_rfl
theorem TB (l:List (Sem zh)):run sV 0 vC (Func.results Tryz.f76).toList 300 (aj (qb l)).1 (aj (qb l)).2.2=.ok (.ret .nils []):=by kernel_rfl
theorem TC (l:List (Sem zh)):run sV 0 vC (Func.results Tryz.f76).toList 300 (aj (qb l)).2.1 (aj (qb l)).2.2=.chk (decide (l.length≤1073741824)) (.ok (.ret (.vec 0) [.vec zh l])):=by kernel_rfl
def Xn:cg [some (.sl zh)]:=fun x h=>match h with
 | []=>.chk (decide (length x.1≤1073741824)) (.ok (.vec 0,[.vec zh x.1]))
 | _=>.err
def VB:zB:=zP [some (.sl zh)] Xn
theorem Q9:FK 76 VB:=by
 refine bc EM fun x h0 res hx C hC=>?_
 unfold Xn at hx
 split at hx
 ·simp only [Tr.val] at hx
  split at hx
  ·rename_i hl
   simp only [ae] at hx
   subst hx
   obtain ⟨l,u⟩:=x
   refine zk (n0:=0) jr EM hC (Yj l) ?_
   refine ⟨fun he=>?_,?_⟩
   ·have hn:l=[]:=List.isEmpty_iff.1 he
    refine Reach.weaken (Q:=fun r h=>(r,h)=(.vec 0,[.vec zh []])) (Reach.promNil zh (fun id=>hC id (by simp)) (zk (n0:=0) jr EM hC (TB l) rfl)) ?_
    intro r h hq
    cases hq
    refine ⟨_,?_,fun _ _ _ _ h=>h⟩
    show (AV.vec 0,[AO.vec zh []])=(AV.vec 0,[AO.vec zh l])
    rw [hn]
   ·exact zk (n0:=0) jr EM hC (TC l) (cy hl rfl)
  ·cases hx
 ·simp at hx

noncomputable def VD:zB:=zP (List.replicate 2 none) (bH sV Tryz.f77 (List.replicate 2 none))
theorem Rb:FK 77 VD:=ac _ jr (aG (by kernel_rfl))

noncomputable def A9:=sV.addL [(76,VB),(77,VD)]
theorem pn:zm A9:=jr.addL <| fc Q9 <| fc Rb <|  g6

abbrev rx (n:zq) (q1:Sh) (cs:List (Sem q1)) (k:Int) (q2:Sh) (us:List (Sem q2)) (q3:Sh) (fs:List (Sem q3)) (eo:zq) (a b:Int) (vs es:zq) (q4:Sh) (el:List (Sem q4)) (q5:Sh) (rs:List (Sem q5)) (l:List (Sem zh)) (i:Int):St:={ tmps:=[.sl zh l,.clo (.func 77) [] [.ptr 0 0],.any,.any,.any,.any,.any,.int .i64 l.length,.int .i64 i,.any,.any,.any,.any,.any,.any,.any,.any,.any,.any],heap:=[.box [.str n,.sl q1 cs,.int .i64 k,.sl q2 us,.sl q3 fs,.str eo,.int .i64 a,.int .i64 b,.str vs,.str es,.sl q4 el,.sl q5 rs]] }
theorem Is (n:zq) (q1:Sh) (cs:List (Sem q1)) (k:Int) (q2:Sh) (us:List (Sem q2)) (q3:Sh) (fs:List (Sem q3)) (eo:zq) (a b:Int) (vs es:zq) (q4:Sh) (el:List (Sem q4)) (q5:Sh) (rs:List (Sem q5)) (l:List (Sem zh)):run A9 1 kM Tryz.f36.results.toList 300 (ao Tryz.f36) (zU Tryz.f36.ntmps [.sl zh l,.clo (.func 77) [] [.ptr 0 0]] [.box [.str n,.sl q1 cs,.int .i64 k,.sl q2 us,.sl q3 fs,.str eo,.int .i64 a,.int .i64 b,.str vs,.str es,.sl q4 el,.sl q5 rs]])=.ok (.head 2 (zw Tryz.f36 2) (rx n q1 cs k q2 us q3 fs eo a b vs es q4 el q5 rs l 0)):=by kernel_rfl
theorem JL (n:zq) (q1:Sh) (cs:List (Sem q1)) (k:Int) (q2:Sh) (us:List (Sem q2)) (q3:Sh) (fs:List (Sem q3)) (eo:zq) (a b:Int) (vs es:zq) (q4:Sh) (el:List (Sem q4)) (q5:Sh) (rs:List (Sem q5)) (l:List (Sem zh)) (i:Int):run A9 1 kM Tryz.f36.results.toList 300 (zw Tryz.f36 2) (rx n q1 cs k q2 us q3 fs eo a b vs es q4 el q5 rs l i)=gq (K:=zw Tryz.f36 2) (e:=zh) l (fun y => !(Op.bytesLess y.1.1 n||y.1.1==n)) (rx n q1 cs k q2 us q3 fs eo a b vs es q4 el q5 rs l) [.box [.str n,.sl q1 cs,.int .i64 k,.sl q2 us,.sl q3 fs,.str eo,.int .i64 a,.int .i64 b,.str vs,.str es,.sl q4 el,.sl q5 rs]] i:=by kernel_rfl

theorem JC:zz A9.P 36 Tryz.f36 2:=by refine ⟨?_,?_,?_,?_⟩ <;> kernel_rfl
def Xk:cg [some (.sl zh),none]:=fun x h=>match x,h with
 | (l,.clo (.func 77) [] [.ptr 0 0],_),[.box [.str n,.sl q1 cs,.int .i64 k,.sl q2 us,.sl q3 fs,.str eo,.int .i64 a,.int .i64 b,.str vs,.str es,.sl q4 el,.sl q5 rs]]=>.ok (.int .i64 (zQ (fun y => !(Op.bytesLess y.1.1 n||y.1.1==n)) l 0),[.box [.str n,.sl q1 cs,.int .i64 k,.sl q2 us,.sl q3 fs,.str eo,.int .i64 a,.int .i64 b,.str vs,.str es,.sl q4 el,.sl q5 rs]])
 | _,_=>.err
def Vf:zB:=zP [some (.sl zh),none] Xk
theorem QK:FK 36 Vf:=by
 refine bc JC fun x h0 res hx C hC=>?_
 unfold Xk at hx
 split at hx
 ·rename_i l u n q1 cs k q2 us q3 fs eo a b vs es q4 el q5 rs
  simp only [Tr.val_ok,ae] at hx
  subst hx
  refine Reach.len 0 zh l rfl fun hl=>?_
  refine zk (n0:=1) pn JC hC (Is n q1 cs k q2 us q3 fs eo a b vs es q4 el q5 rs l) ?_
  exact dR l (fun y => !(Op.bytesLess y.1.1 n||y.1.1==n)) (rx n q1 cs k q2 us q3 fs eo a b vs es q4 el q5 rs l) pn JC hC (JL n q1 cs k q2 us q3 fs eo a b vs es q4 el q5 rs l) hl _ 0 rfl (be _)
 ·simp at hx

noncomputable def Ek:=A9.add 36 Vf
theorem wA:zm Ek:=pn.add QK

abbrev Zl:=kP []
theorem zaa:zz Ek.P 78 Tryz.f78 3:=aG (by kernel_rfl)
noncomputable def Sy (l:List (Sem zh)) (i:Int) (x:Sem zh):Tr (Empty ⊕ ag):=
 Tr.chk (decide (0≤i)&&decide (i≤(↑l.length:Int)))
 (Tr.br ((↑[x].length:Int)==0)
  (Tr.re (AV.vec 0) [AO.vec zh l])
  (Tr.br (i==(↑l.length:Int)) (Tr.chk (decide (l.length+[x].length≤1073741824)) (Tr.re (AV.vec 1) [AO.dead,AO.vec zh (l++[x])])) Tr.err))
theorem Yl (l:List (Sem zh)) (i:Int) (x:Sem zh):rn Ek 1 Zl Tryz.f78 [AV.vec 0,AV.int .i64 i,AV.sl zh [x]] [AO.vec zh l]=(Sy l i x).map (lf Tryz.f78 e0):=by kernel_rfl
@[match_pattern] abbrev zaH:Sh:=.pr (.pr .str (.pr (.sl (.pr .str (.pr (.int .i64) .bool))) (.pr (.int .i64) (.pr (.sl (.int .i64)) (.pr (.sl (.pr (.int .i64) .str)) .expr))))) (.sl (.sl (.pr (.int .i64) (.pr (.int .i64) .str))))
def Xo:cg [none,none,none]:=fun a h=>match a,h with
 | (.vec 0,.int .i64 i,.sl zaH [x],_),[.vec zaH l]=>.chk (i==(length l:Int)) (.chk (decide (length l+1≤1073741824)) (.ok (.vec 1,[.dead,.vec zh (l++[x])])))
 | _,_=>.err
def VF:zB:=zP [none,none,none] Xo
theorem Rd:FK 78 VF:=by
 refine fM (ι:=List (Sem zh)×Int×Sem zh) (args:=fun y=>[AV.vec 0,AV.int .i64 y.2.1,AV.sl zh [y.2.2]]) (heap:=fun y=>[AO.vec zh y.1]) (i:=fun y=>Sy y.1 y.2.1 y.2.2) (t:=t0) (e:=e0) (n:=100000000) (n0:=1) wA zaa (fun _=>rfl) (fun y=>Yl _ _ _) (fun s=>nomatch s) (fun a h res hv=>?_)
 unfold Xo at hv
 split at hv
 ·rename_i i x u l
  simp only [Tr.val] at hv
  split at hv
  ·rename_i h1
   split at hv
   ·rename_i h2
    simp only [ae] at hv
    subst hv
    refine ⟨(l,i,x),rfl,rfl,?_⟩
    have h3:i=(length l:Int):=by simpa using h1
    subst h3
    have h4:length l+1≤1073741824:=by simpa using h2
    unfold cx Sy
    simp [Tr.val,h4]
   ·cases hv
  ·cases hv
 ·simp at hv

noncomputable def O2:=Ek.add 78 VF
theorem wC:zm O2:=wA.add Rd

noncomputable def YT (x0:Sem zh.sl) (x1:Sem zh):Tr (Empty ⊕ ag):=
 let a0:=ar x0 x1.1.1
 let a1:=((x1.1.1,x1.1.2.1,x1.1.2.2.1,x1.1.2.2.2.1,x1.1.2.2.2.2.1,zC x1.1.2.2.2.2.2),x1.2)
 let a2:=zQ (fun y => !(Op.bytesLess y.1.1 x1.1.1||y.1.1==x1.1.1)) x0 0
 Tr.chk (decide (length x0≤1073741824))
 (Tr.br (decide (a0 ≥ 0))
  (Tr.chk (zJ a0 (length x0)) (Tr.chk (decide (toNat a0 < length x0)) (Tr.re (AV.vec 0) [AO.vec zh (List.set x0 (toNat a0) a1)])))
  (Tr.br (decide (a2 < 0)) (Tr.chk ((↑(length x0):Int)==(↑(length x0):Int)) (Tr.chk (decide (length x0+1≤1073741824)) (Tr.re (AV.vec 0) [AO.vec zh (x0++[a1])]))) (Tr.chk (a2==(↑(length x0):Int)) (Tr.chk (decide (length x0+1≤1073741824)) (Tr.re (AV.vec 0) [AO.vec zh (x0++[a1])])))))
noncomputable def o6 (x0:Sem zh.sl) (x1:Sem zh):=ap [zh.sl] t0 100000000 (YT x0 x1)
noncomputable def o5 (x0:Sem zh.sl) (x1:Sem zh):=(o6 x0 x1).isSome
noncomputable def we (x0:Sem zh.sl) (x1:Sem zh):=o1 (o6 x0 x1)
noncomputable def Vk:=FT [zh.sl,zh] [zh.sl] fun x=>o6 x.1 x.2.1
theorem QQ:FK 41 Vk:=wC.T1 (f:=Tryz.f41) (keep:=k0) (e:=e0)

noncomputable def wB:=O2.add 41 Vk
theorem po:zm wB:=wC.add QQ
noncomputable section
abbrev aU:Sh:=.pr (.sl zh) zx

abbrev Pn:=kP [(4,[3,7,8,20,21,22])]
inductive FE where
 | h4 (i7:Sem zg) (l20:List (Sem zf.sl)) (i21:Int) (i22:Int) (z0:zr [CP.d zh]) (mh_1:List ((Int×Int×zq)×Int))
abbrev HN:FE→Nat×St
 | .h4 i7 l20 i21 i22 z0 mh_1=>(4,⟨tm 35 [(3,AV.ptr 0 0),(7,AV.int .i64 i7),(8,AV.mp 1),(20,AV.sl zf.sl l20),(21,AV.int .i64 i21),(22,AV.int .i64 i22)],[AO.box (bu [] [CP.d zh] z0),AO.vmap true mh_1]⟩)
theorem ZS:zz wB.P 47 Tryz.f47 2:=aG (by kernel_rfl)
def Sx (d:Sem aU) (x:Sem zh):Tr (FE ⊕ ag):=
 let a0:=((x.1.1,x.1.2.1,x.1.2.2.1,x.1.2.2.2.1,x.1.2.2.2.2.1,zC x.1.2.2.2.2.2),x.2)
 let a1:=zC d.2.2.2.2.2.2.2.2.2.2.2.2.1
 let a2:=Kl a0 a1
 Tr.chk (Fd a0 a1) (Tr.to (FE.h4 a2.2 a2.1 (↑(length a2.1):Int) 0 (x,()) []))
theorem Yb (d:Sem aU) (x:Sem zh):rn wB 0 Pn Tryz.f47 [zy aU d,zy zh x] []=(Sx d x).map (lf Tryz.f47 HN):=by kernel_rfl
def T7:FE→Tr (FE ⊕ ag)
 | .h4 i7 l20 i21 i22 z0 mh_1=>
  let a0:=(z0.1.1.1,z0.1.1.2.1,z0.1.1.2.2.1,z0.1.1.2.2.2.1,z0.1.1.2.2.2.2.1,zC z0.1.1.2.2.2.2.2)
  let a1:=l20.getD i22.toNat (zj zf.sl)
  Tr.br (decide (i22 < i21))
  (Tr.chk (zJ i22 l20.length) (Tr.chk (zaK a0 a1) (Tr.to (FE.h4 i7 l20 i21 (IntKind.i64.wrap (i22+1)) z0 (jb mh_1 (zdr a0 a1) 0)))))
  (Tr.re (AV.tup [AV.mp 0,AV.int .i64 i7]) [AO.vmap true mh_1])
theorem zas:∀ s,run wB 0 Pn (Func.results Tryz.f47).toList 400 (zw Tryz.f47 (HN s).1) (HN s).2=(T7 s).map (lf Tryz.f47 HN):=by intro s; cases s <;> kernel_rfl
def ON (d:Sem aU) (x:Sem zh):=cx T7 100000000 (Sx d x)

def mO (d:Sem aU) (x:Sem zh):Option (List ((Int×Int×zq)×Int)×Int):=match ON d x with
 | some (.tup [.mp 0,.int .i64 e],[.vmap true es])=>some (es,e)
 | _=>none
def mV (d:Sem aU) (x:Sem zh):List ((Int×Int×zq)×Int)×Int:=(mO d x).getD ([],0)
theorem Zs {d:Sem aU} {x:Sem zh} (h:(mO d x).isSome=true):ON d x=some (.tup [.mp 0,.int .i64 (mV d x).2],[.vmap true (mV d x).1]):=by
 unfold mV
 unfold mO at h ⊢
 split at h
 ·rename_i e es hd
  rw [hd]
  rfl
 ·cases h
def Xl:cg [some aU,some zh]:=fun a h=>match h with
 | []=>.chk ((mO a.1 a.2.1).isSome) (.ok (.tup [.mp 0,.int .i64 (mV a.1 a.2.1).2],[.vmap true (mV a.1 a.2.1).1]))
 | _=>.err
def Vn:zB:=zP [some aU,some zh] Xl
theorem QT:FK 47 Vn:=by
 refine fM (ι:=Sem aU×Sem zh) (args:=fun y=>[zy aU y.1,zy zh y.2]) (heap:=fun _=>[]) (i:=fun y=>Sx y.1 y.2) (t:=T7) (e:=HN) (n:=100000000) (n0:=0) po ZS (fun _=>rfl) (fun y=>Yb _ _) zas (fun a h res hv=>?_)
 unfold Xl at hv
 split at hv
 ·simp only [Tr.val] at hv
  split at hv
  ·rename_i h1
   simp only [ae] at hv
   subst hv
   exact ⟨(a.1,a.2.1),rfl,rfl,Zs h1⟩
  ·cases hv
 ·simp at hv

def Vq:zB:=zP (List.replicate 3 none) (bH wB Tryz.f50 (List.replicate 3 none))
theorem QW:FK 50 Vq:=ac _ po (aG (by kernel_rfl))

def Ba:=wB.addL [(47,Vn),(50,Vq)]
theorem wD:zm Ba:=po.addL <| fc QT <| fc QW <|  g6
end

abbrev Pq:=kP [(2,[0,1,7,8])]
inductive FH where
 | h2 (i7:Int) (i8:Int) (z2:zr [CP.d zh]) (lh_0:List (Sem zf.sl)) (mh_3:List ((Int×Int×zq)×Int))
abbrev HS:FH→Nat×St
 | .h2 i7 i8 z2 lh_0 mh_3=>(2,⟨tm 19 [(0,AV.vec 0),(1,AV.clo (Fn.func 50) [] [AV.ptr 1 0,AV.ptr 2 0]),(7,AV.int .i64 i7),(8,AV.int .i64 i8)],[AO.vec zf.sl lh_0,AO.box [AV.mp 3],AO.box (bu [] [CP.d zh] z2),AO.vmap true mh_3]⟩)
theorem zai:zz Ba.P 88 Tryz.f88 2:=aG (by kernel_rfl)
noncomputable def SB (l:List (List (Sem zf))) (x:Sem zh) (es:List ((Int×Int×zq)×Int)):Tr (FH ⊕ ag):=
 Tr.to (FH.h2 (↑l.length:Int) 0 (x,()) l es)
theorem Yn (l:List (List (Sem zf))) (x:Sem zh) (es:List ((Int×Int×zq)×Int)):rn Ba 4 Pq Tryz.f88 [AV.vec 0,AV.clo (Fn.func 50) [] [AV.ptr 1 0,AV.ptr 2 0]] [AO.vec (Sh.sl zf) l,AO.box [AV.mp 3],AO.box (bu [] [CP.d zh] (x,())),AO.vmap true es]=(SB l x es).map (lf Tryz.f88 HS):=by kernel_rfl
noncomputable def GZ:FH→Tr (FH ⊕ ag)
 | .h2 i7 i8 z2 lh_0 mh_3=>
  let a0:=lh_0.getD i8.toNat (zj zf.sl)
  Tr.br (decide (i8 < i7))
  (Tr.chk (zJ i8 lh_0.length) (Tr.chk (decide (i8.toNat < lh_0.length)) (Tr.chk (zJ z2.1.1.2.2.1 (length a0)) (Tr.br (fL mh_3 (getD a0 (toNat z2.1.1.2.2.1) (zj zf))) (Tr.re (AV.int .i64 i8) [AO.vec zf.sl lh_0,AO.box [AV.mp 3],AO.box [AV.str z2.1.1.1,AV.sl zi z2.1.1.2.1,AV.int .i64 z2.1.1.2.2.1,AV.sl zg z2.1.1.2.2.2.1,AV.sl zo z2.1.1.2.2.2.2.1,
  AV.str (ze.op z2.1.1.2.2.2.2.2),AV.int .i64 (ze.v z2.1.1.2.2.2.2.2).1,AV.int .i64 (ze.v z2.1.1.2.2.2.2.2).2.1,AV.str (ze.v z2.1.1.2.2.2.2.2).2.2,AV.str (ze.s z2.1.1.2.2.2.2.2),AV.sl Sh.expr (ze.l z2.1.1.2.2.2.2.2),AV.sl zf.sl z2.1.2],AO.vmap true mh_3]) (Tr.to (FH.h2 i7 (IntKind.i64.wrap (i8+1)) z2 lh_0 mh_3))))))
  (Tr.re (AV.int .i64 (-1)) [AO.vec zf.sl lh_0,AO.box [AV.mp 3],AO.box [AV.str z2.1.1.1,AV.sl zi z2.1.1.2.1,AV.int .i64 z2.1.1.2.2.1,AV.sl zg z2.1.1.2.2.2.1,AV.sl zo z2.1.1.2.2.2.2.1,AV.str (ze.op z2.1.1.2.2.2.2.2),AV.int .i64 (ze.v z2.1.1.2.2.2.2.2).1,AV.int .i64 (ze.v z2.1.1.2.2.2.2.2).2.1,AV.str (ze.v z2.1.1.2.2.2.2.2).2.2,
  AV.str (ze.s z2.1.1.2.2.2.2.2),AV.sl Sh.expr (ze.l z2.1.1.2.2.2.2.2),AV.sl zf.sl z2.1.2],AO.vmap true mh_3])
theorem zaB:∀ s,run Ba 4 Pq (Func.results Tryz.f88).toList 400 (zw Tryz.f88 (HS s).1) (HS s).2=(GZ s).map (lf Tryz.f88 HS):=by intro s; cases s <;> kernel_rfl
noncomputable def zc2 (l:List (List (Sem zf))) (x:Sem zh) (es:List ((Int×Int×zq)×Int)):=cx GZ 100000000 (SB l x es)

set_option maxHeartbeats 1000000

def jv (k:Int) (es:List ((Int×Int×zq)×Int)) (r:List (Sem zf)):Bool:=fL es (getD r (toNat k) (zj zf))
def IS (l:List (List (Sem zf))) (x:Sem zh) (es:List ((Int×Int×zq)×Int)):List AO:=[AO.vec zf.sl l,AO.box [AV.mp 3],AO.box (bu [] [CP.d zh] (x,())),AO.vmap true es]
theorem SD (l:List (List (Sem zf))) (x:Sem zh) (es:List ((Int×Int×zq)×Int)) (hl:l.length≤1000000) (hk:∀ r∈l,zJ x.1.2.2.1 (length r)=true):∀ (m i n:Nat),l.length - i=m→i≤l.length→m < n→
  dh GZ n (.h2 (l.length:Int) (i:Int) (x,()) l es)=some (.int .i64 (zQ (jv x.1.2.2.1 es) (l.drop i) i),IS l x es):=by
 intro m
 induction m with
 | zero=>
  intro i n hm hi hn
  obtain rfl:i=l.length:=by omega
  obtain ⟨n,rfl⟩:∃ k,n=k+1:=⟨n - 1,by omega⟩
  rw [dh]
  simp only [GZ,Tr.val,af,dq]
  rfl
 | succ m IH=>
  intro i n hm hi hn
  have hlt:i < l.length:=by omega
  have h2:decide ((i:Int).toNat < l.length)=true:=by simpa using hlt
  obtain ⟨n,rfl⟩:∃ k,n=k+1:=⟨n - 1,by omega⟩
  have h3:=hk l[i] (cR hlt)
  rw [dh,ez hlt]
  simp only [GZ,Tr.val,zV hlt,zF hlt,h2,zZ l _ hlt,zG i (by unfold zD; omega),if_true,zQ,h3]
  by_cases h:jv x.1.2.2.1 es l[i]=true
  ·have h':fL es (getD l[i] (toNat x.1.2.2.1) (zj zf))=true:=h
   rw [h]
   simp only [h',if_true]
   rfl
  ·have h':¬ fL es (getD l[i] (toNat x.1.2.2.1) (zj zf))=true:=h
   rw [if_neg h',Bool.eq_false_iff.2 h]
   dsimp only
   exact IH (i+1) n (by omega) (by omega) (by omega)
theorem MQ (l:List (List (Sem zf))) (x:Sem zh) (es:List ((Int×Int×zq)×Int)) (hl:l.length≤1000000) (hk:∀ r∈l,zJ x.1.2.2.1 (length r)=true):zc2 l x es=some (.int .i64 (zQ (jv x.1.2.2.1 es) l 0),IS l x es):=by
 have:=SD l x es hl hk l.length 0 100000000 rfl (be _) (by omega)
 rw [List.drop_zero] at this
 exact this

@[match_pattern] abbrev uc:Sh:=.pr (.int .i64) (.pr (.int .i64) .str)
@[match_pattern] abbrev zaF:Sh:=.pr .str (.pr (.int .i64) .bool)
@[match_pattern] abbrev zaG:Sh:=.pr (.int .i64) .str
def Xp:cg [none,none]:=fun a h=>match a,h with
 | (.vec 0,.clo (.func 50) [] [.ptr 1 0,.ptr 2 0],_),[.vec (.sl uc) l,.box [.mp 3],.box [.str n,.sl zaF cs,.int .i64 k,.sl (.int .i64) us,.sl zaG fs,.str eo,.int .i64 p,.int .i64 q,.str vs,.str ss,.sl .expr el,.sl (.sl uc) rs],.vmap true es]=>
  .chk (decide (length l≤1000000)&&List.all l (fun r=>zJ k (length r))) (.ok (.int .i64 (zQ (jv k es) l 0),[.vec (.sl zf) l,.box [.mp 3],.box [.str n,.sl zi cs,.int .i64 k,.sl zg us,.sl zo fs,.str eo,.int .i64 p,.int .i64 q,.str vs,.str ss,.sl .expr el,.sl (.sl zf) rs],.vmap true es]))
 | _,_=>.err
def VN:zB:=zP [none,none] Xp
theorem Rl:FK 88 VN:=by
 refine fM (ι:=List (List (Sem zf))×Sem zh×List ((Int×Int×zq)×Int)) (args:=fun _=>[AV.vec 0,AV.clo (Fn.func 50) [] [AV.ptr 1 0,AV.ptr 2 0]]) (heap:=fun y=>IS y.1 y.2.1 y.2.2) (i:=fun y=>SB y.1 y.2.1 y.2.2) (t:=GZ) (e:=HS) (n:=100000000) (n0:=4) wD zai (fun _=>rfl) (fun y=>Yn _ _ _) zaB (fun a h res hv=>?_)
 unfold Xp at hv
 split at hv
 ·rename_i u l n cs k us fs eo p q vs ss el rs es
  simp only [Tr.val] at hv
  split at hv
  ·rename_i h1
   simp only [ae] at hv
   subst hv
   simp only [aE,ah,cA] at h1
   exact ⟨(l,((n,cs,k,us,fs,ze.mk eo (p,q,vs) ss el),rs),es),rfl,rfl,MQ l ((n,cs,k,us,fs,ze.mk eo (p,q,vs) ss el),rs) es h1.1 h1.2⟩
  ·cases hv
 ·simp at hv

noncomputable def Bb:=Ba.add 88 VN
theorem wE:zm Bb:=wD.add Rl

abbrev Po:=kP [(5,[0,1,5,6])]
inductive Ci where
 | h5 (i5:Int) (i6:Int) (z2:zr [CP.d zh]) (lh_0:List (Sem zf.sl)) (mh_3:List ((Int×Int×zq)×Int))
abbrev HO:Ci→Nat×St
 | .h5 i5 i6 z2 lh_0 mh_3=>(5,⟨tm 42 [(0,AV.vec 0),(1,AV.clo (Fn.func 50) [] [AV.ptr 1 0,AV.ptr 2 0]),(5,AV.int .i64 i5),(6,AV.int .i64 i6)],[AO.vec zf.sl lh_0,AO.box [AV.mp 3],AO.box (bu [] [CP.d zh] z2),AO.vmap true mh_3]⟩)
theorem ZV:zz Bb.P 49 Tryz.f49 2:=aG (by kernel_rfl)
noncomputable def MM (l:List (List (Sem zf))) (x:Sem zh) (es:List ((Int×Int×zq)×Int)):Tr (Ci ⊕ ag):=
 let a0:=zQ (jv x.1.2.2.1 es) l 0
 Tr.chk (decide (l.length≤1000000)&&l.all fun r=>zJ x.1.2.2.1 (length r))
 (Tr.br (a0==-1)
  (Tr.re (AV.vec 0) [AO.vec zf.sl l,AO.box [AV.mp 3],AO.box [AV.str x.1.1,AV.sl zi x.1.2.1,AV.int .i64 x.1.2.2.1,AV.sl zg x.1.2.2.2.1,AV.sl zo x.1.2.2.2.2.1,AV.str (ze.op x.1.2.2.2.2.2),AV.int .i64 (ze.v x.1.2.2.2.2.2).1,AV.int .i64 (ze.v x.1.2.2.2.2.2).2.1,AV.str (ze.v x.1.2.2.2.2.2).2.2,AV.str (ze.s x.1.2.2.2.2.2),AV.sl Sh.expr (ze.l x.1.2.2.2.2.2),
  AV.sl zf.sl x.2],AO.vmap true es])
  (Tr.to (Ci.h5 a0 (IntKind.i64.wrap (a0+1)) (x,()) l es)))
theorem Yd (l:List (List (Sem zf))) (x:Sem zh) (es:List ((Int×Int×zq)×Int)):rn Bb 4 Po Tryz.f49 [AV.vec 0,AV.clo (Fn.func 50) [] [AV.ptr 1 0,AV.ptr 2 0]] [AO.vec (Sh.sl zf) l,AO.box [AV.mp 3],AO.box (bu [] [CP.d zh] (x,())),AO.vmap true es]=(MM l x es).map (lf Tryz.f49 HO):=by kernel_rfl
noncomputable def GX:Ci→Tr (Ci ⊕ ag)
 | .h5 i5 i6 z2 lh_0 mh_3=>
  let a0:=lh_0.getD i6.toNat (zj zf.sl)
  let a1:=IntKind.i64.wrap (i6+1)
  let a2:=decide (0≤i5)
  let a3:=List.take i5.toNat lh_0++List.replicate (lh_0.length - i5.toNat) []
  let a4:=(↑a3.length:Int)
  Tr.br (decide (i6 < (↑lh_0.length:Int)))
  (Tr.chk (zJ i6 lh_0.length) (Tr.chk (decide (i6.toNat < lh_0.length)) (Tr.chk (zJ z2.1.1.2.2.1 (length a0)) (Tr.br (!fL mh_3 (getD a0 (toNat z2.1.1.2.2.1) (zj zf))) (Tr.chk (zJ i5 lh_0.length) (Tr.chk (decide (i5.toNat < lh_0.length)) (Tr.to (Ci.h5 (IntKind.i64.wrap (i5+1)) a1 z2 (lh_0.set i5.toNat a0) mh_3)))) (Tr.to (Ci.h5 i5 a1 z2 lh_0 mh_3))))))
  (Tr.chk (a2&&decide (i5≤(↑lh_0.length:Int))) (Tr.chk (decide (i5.toNat≤lh_0.length)) (Tr.chk (decide (0≤0)&&a2&&decide (i5≤a4)) (Tr.re (AV.sl zf.sl (List.take (i5.toNat - toNat 0) (List.drop (toNat 0) a3))) [AO.frz zf.sl a3,AO.box [AV.mp 3],AO.box [AV.str z2.1.1.1,AV.sl zi z2.1.1.2.1,AV.int .i64 z2.1.1.2.2.1,
  AV.sl zg z2.1.1.2.2.2.1,AV.sl zo z2.1.1.2.2.2.2.1,AV.str (ze.op z2.1.1.2.2.2.2.2),AV.int .i64 (ze.v z2.1.1.2.2.2.2.2).1,AV.int .i64 (ze.v z2.1.1.2.2.2.2.2).2.1,AV.str (ze.v z2.1.1.2.2.2.2.2).2.2,AV.str (ze.s z2.1.1.2.2.2.2.2),AV.sl Sh.expr (ze.l z2.1.1.2.2.2.2.2),AV.sl zf.sl z2.1.2],AO.vmap true mh_3]))))
theorem zat:∀ s,run Bb 4 Po (Func.results Tryz.f49).toList 400 (zw Tryz.f49 (HO s).1) (HO s).2=(GX s).map (lf Tryz.f49 HO):=by intro s; cases s <;> kernel_rfl
noncomputable def OO (l:List (List (Sem zf))) (x:Sem zh) (es:List ((Int×Int×zq)×Int)):=cx GX 100000000 (MM l x es)

set_option maxHeartbeats 2000000

theorem lq {α:Type} (p:α→Bool):∀ (l:List α) (i:Nat),(zQ p l i=-1∧∀ x∈l,p x=false)∨∃ (k:Nat) (h:k < l.length),zQ p l i=((i+k:Nat):Int)∧p l[k]=true∧∀ x∈l.take k,p x=false
 | [],_=>.inl ⟨rfl,by simp⟩
 | x::r,i=>by
  unfold zQ
  split
  ·rename_i h
   exact .inr ⟨0,by simp,rfl,h,by simp⟩
  ·rename_i h
   have hx:p x=false:=by simpa using h
   rcases lq p r (i+1) with ⟨h1,h2⟩ | ⟨k,hk,h1,h2,h3⟩
   ·refine .inl ⟨h1,fun y hy=>?_⟩
    rcases dV.1 hy with rfl | hy
    ·exact hx
    ·exact h2 y hy
   ·refine .inr ⟨k+1,by simpa using hk,by rw [h1]; congr 1; omega,by simpa using h2,fun y hy=>?_⟩
    rw [List.take_succ_cons] at hy
    rcases dV.1 hy with rfl | hy
    ·exact hx
    ·exact h3 y hy

theorem Fv {α:Type} {l:List α} {i:Nat} (h:i < l.length):l.take (i+1)=l.take i++[l[i]]:=by
 rw [List.take_add_one,zI h]; rfl
abbrev pQ (k:Int) (es:List ((Int×Int×zq)×Int)):List (Sem zf)→Bool:=fun r => !jv k es r
abbrev Fq (k:Int) (es:List ((Int×Int×zq)×Int)) (l:List (List (Sem zf))):List (List (Sem zf)):=l.filter (pQ k es)++List.replicate (l.length - (l.filter (pQ k es)).length) ([]:List (Sem zf))
def XG (x:Sem zh) (es:List ((Int×Int×zq)×Int)) (l:List (List (Sem zf))):List AO:=[AO.frz zf.sl (Fq x.1.2.2.1 es l),AO.box [AV.mp 3],AO.box (bu [] [CP.d zh] (x,())),AO.vmap true es]

theorem Mv (l:List (List (Sem zf))) (x:Sem zh) (es:List ((Int×Int×zq)×Int)) (hl:l.length≤1000000) (hk:∀ r∈l,zJ x.1.2.2.1 (length r)=true):∀ (m i6 i5 n:Nat) (cur:List (List (Sem zf))),l.length - i6=m→i6≤l.length→i5≤i6→cur.length=l.length→
  cur.take i5=(l.take i6).filter (pQ x.1.2.2.1 es)→cur.drop i6=l.drop i6→m < n→
  dh GX n (.h5 (i5:Int) (i6:Int) (x,()) cur es)=some (.sl zf.sl (l.filter (pQ x.1.2.2.1 es)),XG x es l):=by
 intro m
 induction m with
 | zero=>
  intro i6 i5 n cur hm' hi h5 hcl ht hd hn
  obtain rfl:i6=l.length:=by omega
  obtain ⟨n,rfl⟩:∃ k,n=k+1:=⟨n - 1,by omega⟩
  rw [List.take_length] at ht
  have hlen5:(l.filter (pQ x.1.2.2.1 es)).length=i5:=by rw [← ht,List.length_take]; omega
  have e1:decide ((l.length:Int) < (cur.length:Int))=false:=by rw [hcl]; simp
  have e2:(decide ((0:Int)≤(i5:Int))&&decide ((i5:Int)≤(cur.length:Int)))=true:=by simp; omega
  have e3:decide ((i5:Int).toNat≤cur.length)=true:=by simp; omega
  have e4:(decide ((0:Int)≤0)&&decide ((0:Int)≤(i5:Int))&&decide ((i5:Int)≤((List.take (i5:Int).toNat cur++List.replicate (cur.length - (i5:Int).toNat) ([]:List (Sem zf))).length:Int)))=true:=by simp; omega
  rw [dh]
  simp only [GX,Tr.val,e1,e2,e3,if_true,zR,if_false]
  have e5:List.take ((i5:Int).toNat - toNat 0) (List.drop (toNat 0) (List.take (i5:Int).toNat cur++List.replicate (cur.length - (i5:Int).toNat) ([]:List (Sem zf))))=l.filter (pQ x.1.2.2.1 es):=by
   simp only [bP,Int.toNat_zero,List.drop_zero,Nat.sub_zero]
   rw [List.take_append_of_le_length (by simp; omega),List.take_take,Nat.min_self,ht]
  have e6:List.take (i5:Int).toNat cur++List.replicate (cur.length - (i5:Int).toNat) ([]:List (Sem zf))=Fq x.1.2.2.1 es l:=by
   simp only [bP]
   rw [ht,hcl]
   unfold Fq
   rw [hlen5]
  rw [if_pos (by simp; omega),e5,e6]
  rfl
 | succ m IH=>
  intro i6 i5 n cur hm' hi h5 hcl ht hd hn
  obtain ⟨n,rfl⟩:∃ k,n=k+1:=⟨n - 1,by omega⟩
  have hlt:i6 < l.length:=by omega
  have hltc:i6 < cur.length:=by omega
  have h5c:i5 < cur.length:=by omega
  have hc6:cur[i6]=l[i6]:=by
   have:=congrArg (·[0]?) hd
   simp only [kU,p0] at this
   rw [zI hltc,zI hlt] at this
   exact Option.some.inj this
  have h2:decide ((i6:Int).toNat < cur.length)=true:=by simpa using hltc
  have h3:decide ((i5:Int).toNat < cur.length)=true:=by simpa using h5c
  have ht6:l.take (i6+1)=l.take i6++[l[i6]]:=Fv hlt
  have hd6:cur.drop (i6+1)=l.drop (i6+1):=by
   have:=congrArg (List.drop 1) hd
   simpa [List.drop_drop,pZ] using this
  have h7:=hk l[i6] (cR hlt)
  rw [dh]
  simp only [GX,Tr.val,zV hltc,zF hltc,zF h5c,h2,h3,zZ cur _ hltc,hc6,h7,zG i6 (by unfold zD; omega),zG i5 (by unfold zD; omega),if_true]
  by_cases hk':jv x.1.2.2.1 es l[i6]=true
  ·have h':fL es (getD l[i6] (toNat x.1.2.2.1) (zj zf))=true:=hk'
   simp only [h',kV,zR,if_false]
   refine IH (i6+1) i5 n cur (by omega) (by omega) (by omega) hcl ?_ hd6 (by omega)
   rw [ht6,List.filter_append,← ht,List.filter_cons_of_neg (by simp [pQ,hk']),List.filter_nil,pY]
  ·have hkf:jv x.1.2.2.1 es l[i6]=false:=by simpa using hk'
   have h':fL es (getD l[i6] (toNat x.1.2.2.1) (zj zf))=false:=hkf
   simp only [h',Bool.not_false,if_true]
   refine IH (i6+1) (i5+1) n _ (by omega) (by omega) (by omega) (by simpa using hcl) ?_ ?_ (by omega)
   ·rw [ht6,List.filter_append,← ht]
    simp only [bP]
    rw [Fv (by simpa using h5c),List.filter_cons_of_pos (by simp [pQ,hkf]),List.filter_nil]
    simp [List.take_set_of_le]
   ·simp only [bP]
    rw [List.drop_set_of_lt (by omega)]
    exact hd6
theorem HL (l:List (List (Sem zf))) (x:Sem zh) (es:List ((Int×Int×zq)×Int)) (hl:l.length≤1000000) (hk:∀ r∈l,zJ x.1.2.2.1 (length r)=true):
  OO l x es=some (if zQ (jv x.1.2.2.1 es) l 0==-1 then (.vec 0,IS l x es) else (.sl zf.sl (l.filter (pQ x.1.2.2.1 es)),XG x es l)):=by
 have h0:(decide (l.length≤1000000)&&l.all fun r=>zJ x.1.2.2.1 (length r))=true:=by
  simp only [aE,ah,cA]
  exact ⟨hl,hk⟩
 unfold OO cx MM
 simp only [Tr.val,h0,if_true]
 by_cases h1:(zQ (jv x.1.2.2.1 es) l 0==-1)=true
 ·simp only [h1,if_true]
  rfl
 ·rw [if_neg h1,if_neg h1]
  rcases lq (jv x.1.2.2.1 es) l 0 with ⟨h2,_⟩ | ⟨k,hk',h2,h3,h4⟩
  ·exfalso; apply h1; rw [h2]; rfl
  ·rw [h2,kr,zG k (by unfold zD; omega)]
   refine Mv l x es hl hk (l.length - (k+1)) (k+1) k 100000000 l rfl (by omega) (by omega) rfl ?_ rfl (by omega)
   rw [Fv hk',List.filter_append,List.filter_cons_of_neg (by simp [pQ,h3]),List.filter_nil,pY]
   refine (List.filter_eq_self.2 fun y hy=>?_).symm
   simp [pQ,h4 y hy]

def Xm:cg [none,none]:=fun a h=>match a,h with
 | (.vec 0,.clo (.func 50) [] [.ptr 1 0,.ptr 2 0],_),[.vec (.sl uc) l,.box [.mp 3],.box [.str n,.sl zaF cs,.int .i64 k,.sl (.int .i64) us,.sl zaG fs,.str eo,.int .i64 p,.int .i64 q,.str vs,.str ss,.sl .expr el,.sl (.sl uc) rs],.vmap true es]=>
  .chk (decide (length l≤1000000)&&List.all l (fun r=>zJ k (length r))) (.br (zQ (jv k es) l 0==-1)
   (.ok (.vec 0,[.vec (.sl zf) l,.box [.mp 3],.box [.str n,.sl zi cs,.int .i64 k,.sl zg us,.sl zo fs,.str eo,.int .i64 p,.int .i64 q,.str vs,.str ss,.sl .expr el,.sl (.sl zf) rs],.vmap true es]))
   (.ok (.sl (.sl zf) (List.filter (pQ k es) l),[.frz (.sl zf) (Fq k es l),.box [.mp 3],.box [.str n,.sl zi cs,.int .i64 k,.sl zg us,.sl zo fs,.str eo,.int .i64 p,.int .i64 q,.str vs,.str ss,.sl .expr el,.sl (.sl zf) rs],.vmap true es])))
 | _,_=>.err
def Vp:zB:=zP [none,none] Xm
theorem QV:FK 49 Vp:=by
 refine fM (ι:=List (List (Sem zf))×Sem zh×List ((Int×Int×zq)×Int)) (args:=fun _=>[AV.vec 0,AV.clo (Fn.func 50) [] [AV.ptr 1 0,AV.ptr 2 0]]) (heap:=fun y=>IS y.1 y.2.1 y.2.2) (i:=fun y=>MM y.1 y.2.1 y.2.2) (t:=GX) (e:=HO) (n:=100000000) (n0:=4) wE ZV (fun _=>rfl) (fun y=>Yd _ _ _) zat (fun a h res hv=>?_)
 unfold Xm at hv
 split at hv
 ·rename_i u l n cs k us fs eo p q vs ss el rs es
  simp only [Tr.val] at hv
  split at hv
  ·rename_i h1
   simp only [aE,ah,cA] at h1
   have h2:=HL l ((n,cs,k,us,fs,ze.mk eo (p,q,vs) ss el),rs) es h1.1 h1.2
   refine ⟨(l,((n,cs,k,us,fs,ze.mk eo (p,q,vs) ss el),rs),es),rfl,rfl,?_⟩
   refine h2.trans ?_
   split at hv
   ·rename_i h3
    rw [if_pos h3]
    exact hv
   ·rename_i h3
    rw [if_neg h3]
    exact hv
  ·cases hv
 ·simp at hv

noncomputable def H7:=Bb.add 49 Vp
theorem nb:zm H7:=wE.add QV
noncomputable section

def zcN (x0:Sem aU):Tr (Empty ⊕ ag):=
 let a0:=ar x0.1 x0.2.2.1
 let a1:=getD x0.1 (toNat a0) (zj zh)
 let a2:=((a1.1.1,a1.1.2.1,a1.1.2.2.1,a1.1.2.2.2.1,a1.1.2.2.2.2.1,zC a1.1.2.2.2.2.2),a1.2)
 let a3:=zC x0.2.2.2.2.2.2.2.2.2.2.2.2.1
 let a4:=Kl a2 a3
 let a5:=cE a4.2
 Tr.br (decide (a0 < 0))
 (Tr.chk true
  (Tr.re (AV.tup [AV.sl zh (cE 6).1,AV.agg [AV.int .i64 (cE 6).2.1,AV.int .i64 (cE 6).2.2.1,AV.sl zf.sl (cE 6).2.2.2]]) []))
 (Tr.chk (zJ a0 (length x0.1))
  (Tr.chk (Fd a2 a3) (Tr.br (a4.2 != 0) (Tr.chk (su a4.2) (Tr.re (AV.tup [AV.sl zh a5.1,AV.agg [AV.int .i64 a5.2.1,AV.int .i64 a5.2.2.1,AV.sl zf.sl a5.2.2.2]]) [])) (Tr.re (AV.tup [AV.sl zh x0.1,AV.agg [AV.int .i64 0,AV.int .i64 (↑(length a4.1):Int),AV.sl zf.sl a4.1]]) []))))
def sq (x0:Sem aU):=ap [zh.sl,eJ] t0 100000000 (zcN x0)
def HG (x0:Sem aU):=(sq x0).isSome
def Ms (x0:Sem aU):=o2 (sq x0)
def U7:=FT [aU] [zh.sl,eJ] fun x=>sq x.1
theorem QA:FK 22 U7:=nb.T1 (f:=Tryz.f22) (keep:=k0) (e:=e0)

def zcM (x0:Sem aU):Tr (Empty ⊕ ag):=
 let a0:=ar x0.1 x0.2.2.1
 let a1:=(x0.1,x0.2.1,x0.2.2.1,x0.2.2.2.1,x0.2.2.2.2.1,x0.2.2.2.2.2.1,x0.2.2.2.2.2.2.1,x0.2.2.2.2.2.2.2.1,x0.2.2.2.2.2.2.2.2.1,zC x0.2.2.2.2.2.2.2.2.2.1,x0.2.2.2.2.2.2.2.2.2.2.1,x0.2.2.2.2.2.2.2.2.2.2.2.1,zC x0.2.2.2.2.2.2.2.2.2.2.2.2.1,x0.2.2.2.2.2.2.2.2.2.2.2.2.2)
 let a2:=getD x0.1 (toNat a0) (zj zh)
 let a3:=(a2.1.1,a2.1.2.1,a2.1.2.2.1,a2.1.2.2.2.1,a2.1.2.2.2.2.1,zC a2.1.2.2.2.2.2)
 let a4:=(a3,a2.2)
 let a5:=mV a1 a4
 let a6:=cE a5.2
 let a7:=decide (a5.1.length≤1073741824)
 let a8:=we x0.1 a4
 let a9:=(↑a5.1.length:Int)
 let a10:=wd a8 a9
 let a11:=(a3,List.filter (pQ a2.1.2.2.1 a5.1) a2.2)
 let a12:=we x0.1 a11
 let a13:=wd a12 a9
 Tr.br (decide (a0 < 0))
 (Tr.chk true
  (Tr.re (AV.tup [AV.sl zh (cE 6).1,AV.agg [AV.int .i64 (cE 6).2.1,AV.int .i64 (cE 6).2.2.1,AV.sl zf.sl (cE 6).2.2.2]]) []))
 (Tr.chk (zJ a0 (length x0.1))
  (Tr.chk (mO a1 a4).isSome (Tr.br (a5.2 != 0) (Tr.chk (su a5.2) (Tr.re (AV.tup [AV.sl zh a6.1,AV.agg [AV.int .i64 a6.2.1,AV.int .i64 a6.2.2.1,AV.sl zf.sl a6.2.2.2]]) [])) (Tr.chk (decide (length a2.2≤1073741824)) (Tr.chk (decide (length a2.2≤1000000)&&List.all a2.2 fun r=>zJ a2.1.2.2.1 (length r)) (Tr.br (zQ (jv a2.1.2.2.1 a5.1) a2.2 0==-1)
  (Tr.chk (o5 x0.1 a4) (Tr.chk a7 (Tr.chk (o4 a8 a9) (Tr.re (AV.tup [AV.sl zh a10.1,AV.agg [AV.int .i64 a10.2.1,AV.int .i64 a10.2.2.1,AV.sl zf.sl a10.2.2.2]]) [])))) (Tr.chk (o5 x0.1 a11) (Tr.chk a7 (Tr.chk (o4 a12 a9) (Tr.re (AV.tup [AV.sl zh a13.1,AV.agg [AV.int .i64 a13.2.1,AV.int .i64 a13.2.2.1,AV.sl zf.sl a13.2.2.2]]) []))))))))))
def sx (x0:Sem aU):=ap [zh.sl,eJ] t0 100000000 (zcM x0)
def HK (x0:Sem aU):=(sx x0).isSome
def Mu (x0:Sem aU):=o2 (sx x0)
def U4:=FT [aU] [zh.sl,eJ] fun x=>sx x.1
theorem Qx:FK 21 U4:=nb.T1 (f:=Tryz.f21) (keep:=k0) (e:=e0)

def xZ:=H7.addL [(22,U7),(21,U4)]
theorem nc:zm xZ:=nb.addL <| fc QA <| fc Qx <|  g6
end

theorem gi {c g:Bool} (h1:c=true) (h2:g=true):(if c=true then g else false)=true:=by rw [if_pos h1]; exact h2
theorem aw {a b:Nat} (h:a≤b):decide (a≤b)=true:=bx h

theorem xq {v:Sem zf} (h:gT v=true) (h2:(v.1==2)=true):v.2.2.length≤40:=by
 have e:v.1=2:=by simpa using h2
 unfold gT at h
 rw [e] at h
 simp only [show ((2:Int)==0)=false from rfl,show ((2:Int)==1)=false from rfl,show ((2:Int)==2)=true from rfl,zR,if_false,if_true] at h
 cases h1:v.2.1==0
 ·rw [h1] at h; simp at h
 ·rw [h1] at h
  cases h3:decide ((v.2.2.length:Int)≤40)
  ·rw [h3] at h; simp at h
  ·have:=hM h3
   omega

theorem qJ (v:Sem zf):ki v=true:=by
 unfold ki
 split
 ·rfl
 ·rename_i hm
  have hm:gT v=true:=by simpa using hm
  split
  ·rfl
  ·split
   ·rename_i h2
    have hl:=xq hm h2
    have hr:=ii v.2.2 [39] [39,39]
    have hr2:(Lib.replaceAll v.2.2 [39] [39,39]).length≤200:=by
     simp only [nC,List.length_nil] at hr
     omega
    refine gi ?_ (gi (aw ?_) (gi (aw ?_) rfl))
    ·unfold ow
     simp
     omega
    ·simp; omega
    ·simp; omega
   ·rfl

theorem pR (v:Sem zf):(gA v).length≤300:=by
 unfold gA
 split
 ·simp
 ·rename_i hm
  have hm:gT v=true:=by simpa using hm
  split
  ·have:=w5 v.2.1
   omega
  ·split
   ·rename_i h2
    have hl:=xq hm h2
    have hr:=ii v.2.2 [39] [39,39]
    simp only [nC,List.length_nil] at hr
    simp
    omega
   ·split
    ·split <;> simp
    ·simp

theorem G6 {s:zq} (h:mY s=true):s.length≤16:=by
 have h:pT s=true:=h
 unfold pT at h
 by_cases h2:(s.length:Int)≤16
 ·omega
 ·exfalso
  rw [eO h2] at h
  cases h1:decide ((s.length:Int) ≥ 1) <;> rw [h1] at h <;> simp at h

theorem Jo {g:ze→Int→Int→Bool×Int} {e:ze} {d n:Int} (h:(Bz g e d n).1=true) (hc:e.op=[99,111,108]):e.s.length≤16:=by
 unfold Bz at h
 split at h
 ·cases h
 ·split at h
  ·rename_i h1; rw [hc] at h1; simp at h1
  ·split at h
   ·cases h1:tG e.v
    ·rw [h1] at h; simp at h
    ·rw [h1] at h
     cases h2:mY e.s
     ·rw [h2] at h; simp at h
     ·exact G6 h2
   ·rename_i h1; rw [hc] at h1; simp at h1

theorem de (s:zq):(Lib.toUpperA s).length=s.length:=by simp [Lib.toUpperA]

theorem sC:∀ (N:Nat) (e:ze) (d n:Int),N≤16→(n8 N e d n).1=true→fN N e=true∧(fx N e).length≤400 * 2 ^ N - 100
 | 0,_,_,_,_,h=>by cases h
 | N + 1,e,d,n,hN,h=>by
  rw [n8] at h
  obtain ⟨hl,h2⟩:=py h
  have hp:2 ^ N≤2 ^ 15:=Nat.pow_le_pow_right (by omega) (by omega)
  have hp1:1≤2 ^ N:=Nat.one_le_two_pow
  have hpp:2 ^ (N+1)=2 * 2 ^ N:=by rw [Nat.pow_succ]; omega
  have hparts:∀ x∈e.l,fN N x=true∧(fx N x).length≤400 * 2 ^ N - 100:=by
   intro x hx
   rcases h2 with h2 | h2
   ·exfalso
    have:cX e.op=0:=by
     rcases h2 with h2 | h2 <;> rw [h2] <;> decide
    rw [this] at hl
    have:e.l=[]:=Aw (by omega)
    rw [this] at hx; simp at hx
   ·obtain ⟨m,hm⟩:=n7 e.l _ h2 x hx
    exact sC N x _ _ (by omega) hm
  have hget:∀ i,i < e.l.length→e.l.getD i (zj Sh.expr)∈e.l:=by
   intro i hi
   rw [aB,zI hi]
   exact cR hi
  rw [fN,fx]
  unfold qV sB
  rcases ly e.op with ⟨hp0,hop | hop⟩ | ⟨hp0,hop | hop⟩ | ⟨hp0,hop⟩ | hp0
  ·rw [hop]
   simp only [beq_self_eq_true,if_true]
   refine ⟨gi (qJ _) rfl,?_⟩
   have:=pR e.v
   omega
  ·have hs:=Jo h hop
   rw [hop]
   refine ⟨rfl,?_⟩
   show e.s.length≤_
   omega
  ·rw [hp0] at hl
   have hlen:e.l.length=1:=by omega
   obtain ⟨k1,k2⟩:=hparts _ (hget 0 (by omega))
   rw [hop]
   refine ⟨gi ?_ (gi k1 (gi (aw ?_) (gi (aw ?_) rfl))),?_⟩
   ·simp [zJ,hlen]
   ·simp at k2 ⊢; omega
   ·simp at k2 ⊢; omega
   ·show ([40,78,79,84,32]++fx N (e.l.getD 0 (zj Sh.expr))++[41]).length≤_
    simp at k2 ⊢; omega
  ·rw [hp0] at hl
   have hlen:e.l.length=1:=by omega
   obtain ⟨k1,k2⟩:=hparts _ (hget 0 (by omega))
   rw [hop]
   refine ⟨gi ?_ (gi k1 (gi (aw ?_) (gi (aw ?_) rfl))),?_⟩
   ·simp [zJ,hlen]
   ·simp at k2 ⊢; omega
   ·simp at k2 ⊢; omega
   ·show ([40]++fx N (e.l.getD 0 (zj Sh.expr))++[32,73,83,32,78,85,76,76,41]).length≤_
    simp at k2 ⊢; omega
  ·rw [hp0] at hl
   have hlen:e.l.length=2:=by omega
   obtain ⟨k1,k2⟩:=hparts _ (hget 0 (by omega))
   obtain ⟨k3,k4⟩:=hparts _ (hget 1 (by omega))
   have hu:(decide (e.op.length≤140737488355328)&&e.op.all fun b=>decide (b.toNat < 128))=true:=by
    rcases hop with hop | hop | hop | hop | hop | hop <;> rw [hop] <;> decide
   have hol:e.op.length≤3:=by
    rcases hop with hop | hop | hop | hop | hop | hop <;> rw [hop] <;> simp
   have hul:=de e.op
   have n1:(e.op==[108,105,116])=false:=by rcases hop with hop | hop | hop | hop | hop | hop <;> rw [hop] <;> rfl
   have n2:(e.op==[99,111,108])=false:=by rcases hop with hop | hop | hop | hop | hop | hop <;> rw [hop] <;> rfl
   have n3:(e.op==[110,111,116])=false:=by rcases hop with hop | hop | hop | hop | hop | hop <;> rw [hop] <;> rfl
   have n4:(e.op==[110,117,108,108])=false:=by rcases hop with hop | hop | hop | hop | hop | hop <;> rw [hop] <;> rfl
   simp only [n1,n2,n3,n4,zR,if_false]
   refine ⟨gi ?_ (gi k1 (gi (aw ?_) (gi (aw ?_) (gi hu (gi (aw ?_) (gi (aw ?_) (gi ?_ (gi k3 (gi (aw ?_) (gi (aw ?_) rfl)))))))))),?_⟩
   ·simp [zJ,hlen]
   all_goals first
    | (simp [zJ,hlen]; done)
    | (simp at k2 k4 ⊢; omega)
  ·rw [hp0] at hl
   omega

theorem yi (e:ze):lV e=true:=by
 unfold lV
 split
 ·rfl
 ·rename_i h
  exact gi (sC 16 e 1 0 (by omega) (by simpa [iR] using h)).1 rfl

theorem CR (e:ze):(lg e).1.length≤30000000:=by
 unfold lg
 split
 ·simp
 ·rename_i h
  have:=(sC 16 e 1 0 (by omega) (by simpa [iR] using h)).2
  show (fx 16 e).length≤_
  omega


theorem EB (p:Int→Bool):∀ s:zq,nj p s≤s.length
 | []=>by simp [nj]
 | c::r=>by
  have:=EB p r
  rw [nj]
  split <;> simp <;> omega
theorem mj (f m:Int→Bool) (s:zq):aH f m s≤s.length:=by
 cases s with
 | nil=>simp [aH]
 | cons c r=>
  have:=EB m r
  rw [aH]
  split <;> simp <;> omega

theorem za1 (i:Nat) (h:i≤4000000000):IntKind.i64.wrap (i:Int)=(i:Int):=by
 have:=zG (i - 1) (by unfold zD; omega)
 cases i with
 | zero=>rfl
 | succ i=>simpa using this

theorem uZ (i:Nat) (h:i≤4000000000):IntKind.i64.wrap ((i:Int)+1)=((i+1:Nat):Int):=zG i (by unfold zD; omega)

theorem j5:∀ (n:Nat) (s:zq) (i:Nat) (a:Int) (b:zq),1≤i→i≤s.length→s.length+2≤n+i→s.length≤1000000000→fJ n s (i:Int) a b=true
 | 0,s,i,a,b,h1,h2,h3,h4=>by omega
 | n + 1,s,i,a,b,h1,h2,h3,h4=>by
  rw [fJ]
  split
  ·rename_i hlt
   have hlt:i < s.length:=by have:=hM hlt; omega
   refine gi (zF hlt) ?_
   rw [uZ i (by omega)]
   split
   ·exact j5 n s (i+1) a b (by omega) (by omega) (by omega) h4
   ·refine gi ?_ ?_
    ·cases hd:decide (((i+1:Nat):Int) < (s.length:Int))
     ·rfl
     ·exact zF (by have:=hM hd; omega)
    ·split
     ·rename_i hh
      have h5:i+1 < s.length:=by
       cases hd:decide (((i+1:Nat):Int) < (s.length:Int))
       ·rw [hd] at hh; simp at hh
       ·have:=hM hd; omega
      rw [uZ (i+1) (by omega)]
      exact j5 n s (i+1+1) a b (by omega) (by omega) (by omega) h4
     ·refine gi ?_ (gi ?_ rfl)
      ·simp; omega
      ·unfold ow
       simp
       omega
  ·rfl

theorem np:∀ (n:Nat) (s:zq) (i:Nat) (a:Int) (b:zq),1≤i→i≤s.length→s.length+2≤n+i→s.length≤1000000000→
  (ek n s (i:Int) a b=((0,[]),0))∨∃ k:Nat,(ek n s (i:Int) a b).2=(k:Int)∧1≤k∧k≤s.length
 | 0,s,i,a,b,h1,h2,h3,h4=>by omega
 | n + 1,s,i,a,b,h1,h2,h3,h4=>by
  rw [ek]
  split
  ·rename_i hlt
   have hlt:i < s.length:=by have:=hM hlt; omega
   rw [uZ i (by omega)]
   split
   ·exact np n s (i+1) a b (by omega) (by omega) (by omega) h4
   ·split
    ·rename_i hh
     have h5:i+1 < s.length:=by
      cases hd:decide (((i+1:Nat):Int) < (s.length:Int))
      ·rw [hd] at hh; simp at hh
      ·have:=hM hd; omega
     rw [uZ (i+1) (by omega)]
     exact np n s (i+1+1) a b (by omega) (by omega) (by omega) h4
    ·exact .inr ⟨i+1,rfl,by omega,by omega⟩
  ·exact .inl rfl

theorem Aa (t:Sem dY):ms t=true:=by
 unfold ms
 split
 ·rfl
 ·split
  ·refine gi ?_ rfl
   cases h:((t.2.length:Int)==1)
   ·rfl
   ·have:(t.2.length:Int)=1:=by simpa using h
    simp only [bG,eG]
    omega
  ·simp

theorem uR (s:zq) (h0:s≠[]) (h1:s.length≤1000000000):g8 s=true:=by
 have hl:1≤s.length:=by cases s with | nil=>exact absurd rfl h0 | cons _ _=>simp
 have r1:=mj bq dt s
 have r2:=mj ay ay s
 have hq:gN s=true:=j5 (s.length+1) s 1 _ _ (by omega) hl (by omega) h1
 have hb:zJ 0 s.length=true:=zF hl
 have d1:(decide ((0:Int)≤0)&&decide (0≤(↑(aH bq dt s):Int))&&decide ((↑(aH bq dt s):Int)≤(↑(length s):Int)))=true:=by simp; omega
 have d2:(decide ((0:Int)≤0)&&decide (0≤(↑(aH ay ay s):Int))&&decide ((↑(aH ay ay s):Int)≤(↑(length s):Int)))=true:=by simp; omega
 have d3:(decide ((0:Int)≤0)&&decide ((0:Int)≤1)&&decide (1≤(↑(length s):Int)))=true:=by simp; omega
 unfold g8
 simp only [hq,hb,if_true,zR,if_false]
 repeat' split
 all_goals first
  | rfl
  | (rename_i h; exfalso; apply h; simp; omega)

theorem y9 (s:zq) (h0:s≠[]) (h1:s.length≤1000000000) (hm:kh (aY s).1=true):∃ k:Nat,(aY s).2=(k:Int)∧1≤k∧k≤s.length:=by
 have hl:1≤s.length:=by cases s with | nil=>exact absurd rfl h0 | cons _ _=>simp
 have r1:=mj bq dt s
 have r2:=mj ay ay s
 have hq:=np (s.length+1) s 1 0 [] (by omega) hl (by omega) h1
 unfold aY at hm ⊢
 simp only [if_true,zR,if_false] at hm ⊢
 split
 ·rename_i h
  have:=hM h
  exact ⟨_,rfl,by omega,by omega⟩
 ·rename_i h
  rw [if_neg h] at hm
  split
  ·rename_i h2
   have:=hM h2
   exact ⟨_,rfl,by omega,by omega⟩
  ·rename_i h2
   rw [if_neg h2] at hm
   split
   ·rename_i h3
    rw [if_pos h3] at hm
    rcases hq with hq | ⟨k,hk,hk1,hk2⟩
    ·exfalso
     have hqq:cY s=((0,[]),0):=hq
     rw [hqq] at hm
     revert hm
     decide
    ·exact ⟨k,hk,hk1,hk2⟩
   ·exact ⟨1,rfl,by omega,by omega⟩

theorem oZ:∀ (n:Nat) (s:zq) (i:Nat) (l:List (Sem zo)),i≤s.length→s.length+1≤n+i→s.length≤1000000000→l.length≤400→m6 n s (i:Int) l=true
 | 0,s,i,l,h1,h2,h3,h4=>by omega
 | n + 1,s,i,l,h1,h2,h3,h4=>by
  rw [m6]
  split
  ·rename_i hlt
   have hlt:i < s.length:=by have:=hM hlt; omega
   have e1:List.take ((s.length:Int).toNat - (i:Int).toNat) (List.drop (i:Int).toNat s)=s.drop i:=by
    simp only [bP]
    exact List.take_of_length_le (by simp)
   rw [e1]
   refine gi ?_ ?_
   ·rw [zF hlt]
    cases (((s.getD (i:Int).toNat 0).toNat:Int)==32) <;> rfl
   ·split
    ·rw [uZ i (by omega)]
     exact oZ n s (i+1) l (by omega) (by omega) h3 h4
    ·have hne:s.drop i≠[]:=by
      intro h
      have:=congrArg length h
      simp at this
      omega
     have hdl:(s.drop i).length≤1000000000:=by simp; omega
     refine gi ?_ (gi (uR _ hne hdl) (gi (Aa _) ?_))
     ·simp; omega
     ·split
      ·rfl
      ·rename_i hh
       have hm:kh (aY (s.drop i)).1=true:=by
        cases hq:kh (aY (s.drop i)).1
        ·rw [hq] at hh; simp at hh
        ·rfl
       have hl4:l.length≠400:=by
        intro h5
        rw [hm,h5] at hh
        simp at hh
       obtain ⟨k,hk,hk1,hk2⟩:=y9 _ hne hdl hm
       have hk3:k≤s.length - i:=by simpa using hk2
       refine gi (aw ?_) ?_
       ·simp; omega
       ·rw [hk,show ((i:Int)+(k:Int))=((i+k:Nat):Int) by omega,za1 (i+k) (by omega)]
        exact oZ n s (i+k) _ (by omega) (by omega) h3 (by simp; omega)
  ·rfl

theorem HF (s:zq) (h:s.length≤1000000000):HE s=true:=oZ (s.length+1) s 0 [] (by omega) (by omega) h (by simp)

structure iO (s:Sem zx):Prop where
 op:s.1.length≤1000
 table:s.2.1.length≤1000
 other:s.2.2.1.length≤1000
 names:s.2.2.2.1.length≤20∧∀ x∈s.2.2.2.1,length x≤1000
 cols:s.2.2.2.2.1.length≤20∧∀ x∈s.2.2.2.2.1,length x.1≤1000
 key:s.2.2.2.2.2.1.length≤1000
 uniques:s.2.2.2.2.2.2.1.length≤20∧∀ x∈s.2.2.2.2.2.2.1,length x≤1000
 refs:s.2.2.2.2.2.2.2.1.length≤20∧∀ x∈s.2.2.2.2.2.2.2.1,length x.1≤1000∧length x.2≤1000
 row:s.2.2.2.2.2.2.2.2.2.1.length≤20
 sets:s.2.2.2.2.2.2.2.2.2.2.1.length≤20∧∀ x∈s.2.2.2.2.2.2.2.2.2.2.1,length x.1≤1000
 role:s.2.2.2.2.2.2.2.2.2.2.2.2.length≤1000

theorem eV (sep:zq) (B:Nat):∀ l:List zq,(∀ x∈l,x.length≤B)→(Lib.join l sep).length≤l.length * (B+sep.length)
 | [],_=>by simp [Lib.join,List.intercalate]
 | [x],h=>by
  rw [Lib.join_one]
  have:=h x (by simp)
  simp
  omega
 | x::y::r,h=>by
  have ih:=eV sep B (y::r) (fun z hz=>h z (kT _ hz))
  have hx:=h x (by simp)
  have e:Lib.join (x::y::r) sep=x++sep++Lib.join (y::r) sep:=by simp [Lib.join,List.intercalate,List.intersperse]
  rw [e]
  simp only [rT,nC] at ih ⊢
  rw [eQ]
  omega

theorem qo {α:Type} (p:α→Bool):∀ (l:List α) (i:Nat),(!decide (zQ p l i ≥ 0))=true→∀ x∈l,p x=false
 | [],_,_,x,hx=>by simp at hx
 | y::r,i,h,x,hx=>by
  rw [zQ] at h
  cases hy:p y
  ·rw [hy] at h
   rcases dV.1 hx with rfl | hx
   ·exact hy
   ·exact qo p r (i+1) (by simpa using h) x hx
  ·exfalso
   rw [hy] at h
   simp at h
   try omega

theorem jc (e:ze):fk e=true:=gi (yi e) rfl
theorem eL (e:ze):(cw e).length≤30000000:=CR e
theorem lJ (e:ze):uY e=true:=by
 unfold uY
 have:=eL e
 split
 ·rfl
 ·refine gi (jc e) (gi (aw ?_) rfl)
  simp; omega
theorem G7 (e:ze):(xu e).length≤30000010:=by
 unfold xu
 have:=eL e
 split
 ·simp
 ·simp; omega
theorem gD (s:zq) (h:s.length≤10) (e:ze):jS s e=true:=by
 unfold jS
 have:=eL e
 split
 ·rfl
 ·refine gi (aw ?_) (gi (jc e) (gi (aw ?_) (gi (aw ?_) rfl)))
  all_goals (simp; omega)
theorem sj (s:zq) (h:s.length≤10) (e:ze):(gp s e).length≤30000030:=by
 unfold gp
 have:=eL e
 split
 ·simp
 ·simp; omega
theorem vI (x:Sem aJ) (h:length x.1≤1000):im x=true:=by
 unfold im
 have:=eL x.2
 refine gi (aw ?_) (gi (jc _) (gi (aw ?_) rfl))
 all_goals (simp; omega)
theorem qD (x:Sem aJ) (h:length x.1≤1000):(dv x).length≤30001010:=by
 unfold dv
 have:=eL x.2
 simp; omega
theorem vo (x:Sem zi) (h:length x.1≤1000) (h1:(1:Int)≤x.2.1) (h2:LE.le (α:=Int) x.2.1 3):fT x=true:=by
 obtain ⟨nm,ty,nn⟩:=x
 replace h:nm.length≤1000:=h
 replace h1:LE.le (α:=Int) 1 ty:=h1
 replace h2:LE.le (α:=Int) ty 3:=h2
 have hw:IntKind.i64.wrap (ty - 1)=ty - 1:=kk _ (by omega) (by omega)
 have hin:zJ (ty - 1) 3=true:=by simp [zJ]; omega
 unfold fT
 simp only [hw,hin,Bool.cond_eq_ite]
 repeat' split
 all_goals first
  | rfl
  | (rename_i hf; exfalso; apply hf; simp; omega)
  | (rename_i hf _; exfalso; apply hf; simp; omega)
  | (exfalso; simp_all; omega)
theorem AI (x:Sem zi) (h:length x.1≤1000):(c8 x).length≤1100:=by
 unfold c8
 simp only [Bool.cond_eq_ite]
 repeat' split
 all_goals (simp; omega)

theorem qh:∀ (l:List (Sem zi)) (i:Int) (acc:List zq),cj l i acc=Lib.join (acc++l.map c8) [32,44,32]
 | [],i,acc=>by simp [cj]
 | x::r,i,acc=>by rw [cj,qh r]; simp
theorem xJ (B:Nat) (l:List (Sem zi)) (h:∀ x∈l,(c8 x).length≤B):(cT l).length≤l.length * (B+3):=by
 unfold cT
 rw [qh]
 have:=eV [32,44,32] B ([]++l.map c8) (fun y hy=>by
  simp only [List.nil_append,eP] at hy
  obtain ⟨x,hx,rfl⟩:=hy
  exact h x hx)
 simpa using this
theorem nN (B:Nat) (hB:B≤100000000):∀ (l:List (Sem zi)) (i:Int) (acc:List zq),(∀ x∈l,fT x=true∧(c8 x).length≤B)→(∀ x∈acc,x.length≤B)→acc.length+l.length≤40→cC l i acc=true
 | [],i,acc,_,ha,hl=>by
  rw [cC]
  refine gi ?_ rfl
  have h1:=eV [32,44,32] B acc ha
  have h2:acc.length * (B+3)≤40 * 100000003:=jh (by simpa using hl) (by omega)
  replace h1:(Lib.join acc [32,44,32]).length≤acc.length * (B+3):=h1
  simp only [aE,ah]
  simp at hl
  exact ⟨by omega,by omega⟩
 | x::r,i,acc,h,ha,hl=>by
  rw [cC]
  have hx:=h x (by simp)
  simp at hl
  refine gi hx.1 (gi (aw ?_) ?_)
  ·simp; omega
  ·refine nN B hB r (i+1) _ (fun y hy=>h y (kT _ hy)) (fun y hy=>?_) (by simp; omega)
   rcases bl.1 hy with hy | hy
   ·exact ha y hy
   ·simp at hy; subst hy; exact hx.2

theorem qG:∀ (l:List (Sem Sh.str)) (i:Int) (acc:List zq),cr l i acc=Lib.join (acc++l.map kG) [32,44,32]
 | [],i,acc=>by simp [cr]
 | x::r,i,acc=>by rw [cr,qG r]; simp
theorem y4 (B:Nat) (l:List (Sem Sh.str)) (h:∀ x∈l,(kG x).length≤B):(jF l).length≤l.length * (B+3):=by
 unfold jF
 rw [qG]
 have:=eV [32,44,32] B ([]++l.map kG) (fun y hy=>by
  simp only [List.nil_append,eP] at hy
  obtain ⟨x,hx,rfl⟩:=hy
  exact h x hx)
 simpa using this
theorem oJ (B:Nat) (hB:B≤100000000):∀ (l:List (Sem Sh.str)) (i:Int) (acc:List zq),(∀ x∈l,(kG x).length≤B)→(∀ x∈acc,x.length≤B)→acc.length+l.length≤40→cH l i acc=true
 | [],i,acc,_,ha,hl=>by
  rw [cH]
  refine gi ?_ rfl
  have h1:=eV [32,44,32] B acc ha
  have h2:acc.length * (B+3)≤40 * 100000003:=jh (by simpa using hl) (by omega)
  replace h1:(Lib.join acc [32,44,32]).length≤acc.length * (B+3):=h1
  simp only [aE,ah]
  simp at hl
  exact ⟨by omega,by omega⟩
 | x::r,i,acc,h,ha,hl=>by
  rw [cH]
  have hx:=h x (by simp)
  simp at hl
  refine gi (aw ?_) ?_
  ·simp; omega
  ·refine oJ B hB r (i+1) _ (fun y hy=>h y (kT _ hy)) (fun y hy=>?_) (by simp; omega)
   rcases bl.1 hy with hy | hy
   ·exact ha y hy
   ·simp at hy; subst hy; exact hx

theorem qK:∀ (l:List (Sem zf)) (i:Int) (acc:List zq),cu l i acc=Lib.join (acc++l.map gA) [32,44,32]
 | [],i,acc=>by simp [cu]
 | x::r,i,acc=>by rw [cu,qK r]; simp
theorem Af (B:Nat) (l:List (Sem zf)) (h:∀ x∈l,(gA x).length≤B):(jJ l).length≤l.length * (B+3):=by
 unfold jJ
 rw [qK]
 have:=eV [32,44,32] B ([]++l.map gA) (fun y hy=>by
  simp only [List.nil_append,eP] at hy
  obtain ⟨x,hx,rfl⟩:=hy
  exact h x hx)
 simpa using this
theorem oQ (B:Nat) (hB:B≤100000000):∀ (l:List (Sem zf)) (i:Int) (acc:List zq),(∀ x∈l,ki x=true∧(gA x).length≤B)→(∀ x∈acc,x.length≤B)→acc.length+l.length≤40→cJ l i acc=true
 | [],i,acc,_,ha,hl=>by
  rw [cJ]
  refine gi ?_ rfl
  have h1:=eV [32,44,32] B acc ha
  have h2:acc.length * (B+3)≤40 * 100000003:=jh (by simpa using hl) (by omega)
  replace h1:(Lib.join acc [32,44,32]).length≤acc.length * (B+3):=h1
  simp only [aE,ah]
  simp at hl
  exact ⟨by omega,by omega⟩
 | x::r,i,acc,h,ha,hl=>by
  rw [cJ]
  have hx:=h x (by simp)
  simp at hl
  refine gi hx.1 (gi (aw ?_) ?_)
  ·simp; omega
  ·refine oQ B hB r (i+1) _ (fun y hy=>h y (kT _ hy)) (fun y hy=>?_) (by simp; omega)
   rcases bl.1 hy with hy | hy
   ·exact ha y hy
   ·simp at hy; subst hy; exact hx.2

theorem qE:∀ (l:List (Sem aJ)) (i:Int) (acc:List zq),cq l i acc=Lib.join (acc++l.map dv) [32,44,32]
 | [],i,acc=>by simp [cq]
 | x::r,i,acc=>by rw [cq,qE r]; simp
theorem y1 (B:Nat) (l:List (Sem aJ)) (h:∀ x∈l,(dv x).length≤B):(jB l).length≤l.length * (B+3):=by
 unfold jB
 rw [qE]
 have:=eV [32,44,32] B ([]++l.map dv) (fun y hy=>by
  simp only [List.nil_append,eP] at hy
  obtain ⟨x,hx,rfl⟩:=hy
  exact h x hx)
 simpa using this
theorem oH (B:Nat) (hB:B≤100000000):∀ (l:List (Sem aJ)) (i:Int) (acc:List zq),(∀ x∈l,im x=true∧(dv x).length≤B)→(∀ x∈acc,x.length≤B)→acc.length+l.length≤40→cG l i acc=true
 | [],i,acc,_,ha,hl=>by
  rw [cG]
  refine gi ?_ rfl
  have h1:=eV [32,44,32] B acc ha
  have h2:acc.length * (B+3)≤40 * 100000003:=jh (by simpa using hl) (by omega)
  replace h1:(Lib.join acc [32,44,32]).length≤acc.length * (B+3):=h1
  simp only [aE,ah]
  simp at hl
  exact ⟨by omega,by omega⟩
 | x::r,i,acc,h,ha,hl=>by
  rw [cG]
  have hx:=h x (by simp)
  simp at hl
  refine gi hx.1 (gi (aw ?_) ?_)
  ·simp; omega
  ·refine oH B hB r (i+1) _ (fun y hy=>h y (kT _ hy)) (fun y hy=>?_) (by simp; omega)
   rcases bl.1 hy with hy | hy
   ·exact ha y hy
   ·simp at hy; subst hy; exact hx.2

theorem bJ {s:Sem zx} {g b:Bool} (hv:(dX s).val=if g=true then some (.inr (.bool b,[])) else none):iK s=g∧il s=(g&&b):=by
 unfold iK il rA ap cx
 rw [hv]
 cases g <;> cases b <;> exact ⟨rfl,rfl⟩
theorem qB {s:Sem zx} (hv:(dX s).val=some (.inr (.kb false,[]))):iK s=true∧il s=false:=by
 unfold iK il rA ap cx
 rw [hv]
 exact ⟨rfl,rfl⟩

theorem Ns {s:Sem zx} (h:il s=true):(s.1=[99,114,101,97,116,101]∧gF s=true)∨(s.1=[103,114,111,117,112]∧s.2.2.2.1.length=2)∨
  (s.1∈([[100,114,111,112],[105,110,115,101,114,116],[117,112,100,97,116,101],[100,101,108,101,116,101],[115,101,108,101,99,116],[114,101,97,100],[119,114,105,116,101],[117,110,114,101,97,100],[117,110,119,114,105,116,101],[99,111,112,121],[106,111,105,110]]:List zq)):=by
 by_cases q0:(s.1==[99,114,101,97,116,101])=true
 ·refine .inl ⟨fR q0,?_⟩
  obtain ⟨_,hp⟩:=bJ (s:=s) (g:=_) (b:=_) (by simp only [dX,dp,Tr.val,q0,if_true,zt]; exact rfl)
  rw [hp] at h
  cases h2:gF s
  ·rw [h2] at h
   cases h1:bL s.2.1 <;> rw [h1] at h <;> simp at h
  ·rfl
 by_cases q1:(s.1==[100,114,111,112])=true
 ·exact .inr (.inr (by rw [fR q1]; simp))
 by_cases q2:(s.1==[105,110,115,101,114,116])=true
 ·exact .inr (.inr (by rw [fR q2]; simp))
 by_cases q3:(s.1==[117,112,100,97,116,101])=true
 ·exact .inr (.inr (by rw [fR q3]; simp))
 by_cases q4:(s.1==[100,101,108,101,116,101])=true
 ·exact .inr (.inr (by rw [fR q4]; simp))
 by_cases q5:(s.1==[115,101,108,101,99,116])=true
 ·exact .inr (.inr (by rw [fR q5]; simp))
 by_cases q6:(s.1==[114,101,97,100])=true
 ·exact .inr (.inr (by rw [fR q6]; simp))
 by_cases q7:(s.1==[119,114,105,116,101])=true
 ·exact .inr (.inr (by rw [fR q7]; simp))
 by_cases q8:(s.1==[117,110,114,101,97,100])=true
 ·exact .inr (.inr (by rw [fR q8]; simp))
 by_cases q9:(s.1==[117,110,119,114,105,116,101])=true
 ·exact .inr (.inr (by rw [fR q9]; simp))
 by_cases q10:(s.1==[99,111,112,121])=true
 ·exact .inr (.inr (by rw [fR q10]; simp))
 by_cases q11:(s.1==[106,111,105,110])=true
 ·exact .inr (.inr (by rw [fR q11]; simp))
 by_cases q12:(s.1==[103,114,111,117,112])=true
 ·refine .inr (.inl ⟨fR q12,?_⟩)
  obtain ⟨_,hp⟩:=bJ (s:=s) (g:=_) (b:=_) (by simp only [dX,dp,Tr.val,q0,q1,q2,q3,q4,q5,q6,q7,q8,q9,q10,q11,q12,if_true,if_false,zR,zt]; exact rfl)
  rw [hp] at h
  by_cases hl:s.2.2.2.1.length=2
  ·exact hl
  ·exfalso
   have hd:(bif decide ((s.2.2.2.1.length:Int) < 2) then true else decide ((s.2.2.2.1.length:Int) > 2))=true:=by
    rcases Nat.lt_or_gt_of_ne hl with h2 | h2
    ·have:decide ((s.2.2.2.1.length:Int) < 2)=true:=bx (by omega)
     rw [this]; rfl
    ·have:decide ((s.2.2.2.1.length:Int) > 2)=true:=bx (by omega)
     rw [this]; cases decide ((s.2.2.2.1.length:Int) < 2) <;> rfl
   rw [hd] at h
   cases h1:bL s.2.1 <;> cases h2:bL s.2.2.1 <;> rw [h1,h2] at h <;> simp at h
 obtain ⟨_,hp⟩:=qB (s:=s) (by simp only [dX,dp,Tr.val,q0,q1,q2,q3,q4,q5,q6,q7,q8,q9,q10,q11,q12,if_false,zR])
 rw [hp] at h
 cases h


theorem jk {a0:Sem Sh.str} {a1:Sem Sh.str} {a2:Sem Sh.str} {a3:List (Sem Sh.str)} {a4:List (Sem zi)} {a5:Sem Sh.str} {a6:List (Sem Sh.str)} {a7:List (Sem (Sh.str.pr Sh.str))} {a8:zq} {a9:Int} {a10:Int} {a11:zq} {a12:zq} {a13:List (Sem Sh.expr)} {a14:List (Sem zf)} {a15:List (Sem (Sh.str.pr Sh.expr))} {a16:zq} {a17:Int} {a18:Int} {a19:zq} {a20:zq} {a21:List (Sem Sh.expr)} {a22:Sem Sh.str}:∀ (l:List (Sem (Sh.str.pr Sh.str))) (i:Int) (s:zq),(∀ x∈l,length x.1≤1000∧length x.2≤1000)→s.length+l.length * 3000≤1000000→
  cD a0 a1 a2 a3 a4 a5 a6 a7 a8 a9 a10 a11 a12 a13 a14 a15 a16 a17 a18 a19 a20 a21 a22 l i s=true∧(ck a0 a1 a2 a3 a4 a5 a6 a7 a8 a9 a10 a11 a12 a13 a14 a15 a16 a17 a18 a19 a20 a21 a22 l i s).length≤40000000
 | [],i,s,_,hs=>by
  rw [cD,ck]
  have h1:=sj [32,44,32] (by simp) (ze.mk a8 (a9,a10,a11) a12 a13)
  simp at hs
  refine ⟨gi (gD _ (by simp) _) (gi (aw ?_) (gi (aw ?_) rfl)),?_⟩
  all_goals first | omega | (simp; omega)
 | x::r,i,s,h,hs=>by
  have hx:=h x (by simp)
  simp at hs
  rw [cD,ck]
  obtain ⟨k1,k2⟩:=jk (a0:=a0) (a1:=a1) (a2:=a2) (a3:=a3) (a4:=a4) (a5:=a5) (a6:=a6) (a7:=a7) (a8:=a8) (a9:=a9) (a10:=a10) (a11:=a11) (a12:=a12) (a13:=a13) (a14:=a14) (a15:=a15) (a16:=a16) (a17:=a17) (a18:=a18) (a19:=a19) (a20:=a20) (a21:=a21) (a22:=a22) r (i+1) (s++([32,44,32,82,69,70,69,82,69,78,67,69,83,32,40,32]++x.1++[32,41,32]++x.2)) (fun y hy=>h y (kT _ hy)) (by simp; omega)
  refine ⟨gi (aw ?_) (gi (aw ?_) (gi (aw ?_) (gi (aw ?_) k1))),k2⟩
  all_goals (simp; omega)

theorem kx {a0:Sem Sh.str} {a1:Sem Sh.str} {a2:Sem Sh.str} {a3:List (Sem Sh.str)} {a4:List (Sem zi)} {a5:Sem Sh.str} {a6:List (Sem Sh.str)} {a7:List (Sem (Sh.str.pr Sh.str))} {a8:zq} {a9:Int} {a10:Int} {a11:zq} {a12:zq} {a13:List (Sem Sh.expr)} {a14:List (Sem zf)} {a15:List (Sem (Sh.str.pr Sh.expr))} {a16:zq} {a17:Int} {a18:Int} {a19:zq} {a20:zq} {a21:List (Sem Sh.expr)} {a22:Sem Sh.str} (h7:a7.length≤20∧∀ x∈a7,length x.1≤1000∧length x.2≤1000):∀ (l:List (Sem Sh.str)) (i:Int) (s:zq),(∀ x∈l,length x≤1000)→s.length+l.length * 3000≤900000→
  c9 a0 a1 a2 a3 a4 a5 a6 a7 a8 a9 a10 a11 a12 a13 a14 a15 a16 a17 a18 a19 a20 a21 a22 l i s=true∧(cU a0 a1 a2 a3 a4 a5 a6 a7 a8 a9 a10 a11 a12 a13 a14 a15 a16 a17 a18 a19 a20 a21 a22 l i s).length≤40000000
 | [],i,s,_,hs=>by
  rw [c9,cU]
  simp at hs
  exact jk a7 0 s h7.2 (by have:=h7.1; omega)
 | x::r,i,s,h,hs=>by
  have hx:=h x (by simp)
  simp at hs
  rw [c9,cU]
  obtain ⟨k1,k2⟩:=kx (a0:=a0) (a1:=a1) (a2:=a2) (a3:=a3) (a4:=a4) (a5:=a5) (a6:=a6) (a7:=a7) (a8:=a8) (a9:=a9) (a10:=a10) (a11:=a11) (a12:=a12) (a13:=a13) (a14:=a14) (a15:=a15) (a16:=a16) (a17:=a17) (a18:=a18) (a19:=a19) (a20:=a20) (a21:=a21) (a22:=a22) h7 r (i+1) (s++([32,44,32,85,78,73,81,85,69,32,40,32]++x++[32,41])) (fun y hy=>h y (kT _ hy)) (by simp; omega)
  refine ⟨gi (aw ?_) (gi (aw ?_) (gi (aw ?_) k1)),k2⟩
  all_goals (simp; omega)

theorem xK {s:Sem zx} (h:gF s=true):∀ x∈s.2.2.2.2.1,iA x=true:=by
 intro x hx
 have hq:(!decide (zQ (fun x => !iA x) s.2.2.2.2.1 0 ≥ 0))=true:=by
  unfold gF at h
  cases h1:(bif decide ((↑(length s.2.2.2.2.1):Int) < 1) then true else decide ((↑(length s.2.2.2.2.1):Int) > 8))
  ·rw [h1] at h
   cases h2:(!decide (zQ (fun x => !iA x) s.2.2.2.2.1 0 ≥ 0))
   ·rw [h2] at h; cases h
   ·rfl
  ·rw [h1] at h; cases h
 have:=qo (fun x => !iA x) _ 0 hq x hx
 simpa using this

theorem sk {x:Sem zi} (h:iA x=true):LE.le (α:=Int) 1 x.2.1∧LE.le (α:=Int) x.2.1 3:=by
 unfold iA at h
 cases h1:bL x.1
 ·rw [h1] at h; cases h
 ·rw [h1] at h
  cases h2:decide (x.2.1 ≥ 1)
  ·rw [h2] at h; cases h
  ·rw [h2] at h
   have h3:decide (x.2.1≤3)=true:=h
   exact ⟨hM h2,hM h3⟩

theorem vp {s:Sem zx} (hs:iO s) (hc:gF s=true):kY s=true∧(lO s).length≤40000000:=by
 have hcol:=xK hc
 have c1:∀ x∈s.2.2.2.2.1,fT x=true∧(c8 x).length≤1100:=fun x hx=>⟨vo x (hs.cols.2 x hx) (sk (hcol x hx)).1 (sk (hcol x hx)).2,AI x (hs.cols.2 x hx)⟩
 have c2:gV s.2.2.2.2.1=true:=nN 1100 (by omega) _ 0 [] c1 (by simp) (by have:=hs.cols.1; simp; omega)
 have c3:=xJ 1100 s.2.2.2.2.1 (fun x hx=>(c1 x hx).2)
 have c4:s.2.2.2.2.1.length * (1100+3)≤20 * 1103:=jh hs.cols.1 (by omega)
 have t1:=hs.table
 have t2:=hs.key
 have u1:=hs.uniques.1
 unfold kY lO
 obtain ⟨k1,k2⟩:=kx (a0:=s.1) (a1:=s.2.1) (a2:=s.2.2.1) (a3:=s.2.2.2.1) (a4:=s.2.2.2.2.1) (a5:=s.2.2.2.2.2.1) (a6:=s.2.2.2.2.2.2.1) (a8:=s.2.2.2.2.2.2.2.2.1.op) (a9:=s.2.2.2.2.2.2.2.2.1.v.1) (a10:=s.2.2.2.2.2.2.2.2.1.v.2.1) (a11:=s.2.2.2.2.2.2.2.2.1.v.2.2) (a12:=s.2.2.2.2.2.2.2.2.1.s) (a13:=s.2.2.2.2.2.2.2.2.1.l) (a14:=s.2.2.2.2.2.2.2.2.2.1) (a15:=s.2.2.2.2.2.2.2.2.2.2.1) (a16:=s.2.2.2.2.2.2.2.2.2.2.2.1.op) (a17:=s.2.2.2.2.2.2.2.2.2.2.2.1.v.1) (a18:=s.2.2.2.2.2.2.2.2.2.2.2.1.v.2.1) (a19:=s.2.2.2.2.2.2.2.2.2.2.2.1.v.2.2) (a20:=s.2.2.2.2.2.2.2.2.2.2.2.1.s) (a21:=s.2.2.2.2.2.2.2.2.2.2.2.1.l) (a22:=s.2.2.2.2.2.2.2.2.2.2.2.2)
  hs.refs s.2.2.2.2.2.2.1 0 ([67,82,69,65,84,69,32,84,65,66,76,69,32]++s.2.1++[32,40,32]++cT s.2.2.2.2.1++([32,44,32,75,69,89,32,40,32]++s.2.2.2.2.2.1++[32,41])) hs.uniques.2 (by
   have:s.2.2.2.2.2.2.1.length * 3000≤20 * 3000:=jh u1 (by omega)
   simp; omega)
 refine ⟨gi (aw ?_) (gi (aw ?_) (gi c2 (gi (aw ?_) (gi (aw ?_) (gi (aw ?_) (gi (aw ?_) k1)))))),k2⟩
 all_goals (simp; omega)

theorem gx {α β:Type} {c:Bool} {a:Option α} {F:β→Option α} {P:β→Prop} (h:c=true) (k:∃ t,a=F t∧P t):∃ t,(if c=true then a else none)=F t∧P t:=by
 subst h; exact k
theorem uG {s:Sem zx} (h:∃ t,(tF s).val=some (.inr (.str t,[]))∧t.length≤1000000000):pM s=true∧(mQ s).length≤1000000000:=by
 obtain ⟨t,h,k⟩:=h
 unfold pM mQ DE ap cx
 rw [h]
 exact ⟨rfl,k⟩

theorem B2 {s:Sem zx} (hs:iO s) (hp:il s=true):pM s=true∧(mQ s).length≤1000000000:=by
 have t1:=hs.table
 have t2:=hs.other
 have t3:=hs.key
 have t4:=hs.role
 have t5:=hs.op
 have tu:=de s.1
 have w1:=G7 s.2.2.2.2.2.2.2.2.2.2.2.1
 have w2:=sj [32] (by simp) s.2.2.2.2.2.2.2.2.1
 have v1:jK s.2.2.2.2.2.2.2.2.2.1=true:=oQ 300 (by omega) _ 0 [] (fun x _=>⟨qJ x,pR x⟩) (by simp) (by have:=hs.row; simp; omega)
 have v2:=Af 300 s.2.2.2.2.2.2.2.2.2.1 (fun x _=>pR x)
 have v3:s.2.2.2.2.2.2.2.2.2.1.length * (300+3)≤20 * 303:=jh hs.row (by omega)
 have e1:jC s.2.2.2.2.2.2.2.2.2.2.1=true:=oH 30001010 (by omega) _ 0 [] (fun x hx=>⟨vI x (hs.sets.2 x hx),qD x (hs.sets.2 x hx)⟩) (by simp) (by have:=hs.sets.1; simp; omega)
 have e2:=y1 30001010 s.2.2.2.2.2.2.2.2.2.2.1 (fun x hx=>qD x (hs.sets.2 x hx))
 have e3:s.2.2.2.2.2.2.2.2.2.2.1.length * (30001010+3)≤20 * 30001013:=jh hs.sets.1 (by omega)
 have n1:jG s.2.2.2.1=true:=oJ 1000 (by omega) _ 0 [] (fun x hx=>hs.names.2 x hx) (by simp) (by have:=hs.names.1; simp; omega)
 have n2:=y4 1000 s.2.2.2.1 (fun x hx=>hs.names.2 x hx)
 have n3:s.2.2.2.1.length * (1000+3)≤20 * 1003:=jh hs.names.1 (by omega)
 have go:∀ op:zq,s.1=op→(∀ z:Bool,z=true→z=true):=fun _ _ _ h=>h
 clear go
 rcases Ns hp with ⟨hop,hc⟩ | ⟨hop,hl2⟩ | hop
 ·have hup:(decide (length s.1≤140737488355328)&&List.all s.1 fun b=>decide (b.toNat < 128))=true:=by rw [hop]; decide
  have q0:(s.1==[99,114,101,97,116,101])=true:=by rw [hop]; rfl
  have q1:(s.1==[100,114,111,112])=false:=by rw [hop]; rfl
  have q2:(s.1==[105,110,115,101,114,116])=false:=by rw [hop]; rfl
  have q3:(s.1==[117,112,100,97,116,101])=false:=by rw [hop]; rfl
  have q4:(s.1==[100,101,108,101,116,101])=false:=by rw [hop]; rfl
  have q5:(s.1==[115,101,108,101,99,116])=false:=by rw [hop]; rfl
  have q6:(s.1==[114,101,97,100])=false:=by rw [hop]; rfl
  have q7:(s.1==[119,114,105,116,101])=false:=by rw [hop]; rfl
  have q8:(s.1==[117,110,114,101,97,100])=false:=by rw [hop]; rfl
  have q9:(s.1==[117,110,119,114,105,116,101])=false:=by rw [hop]; rfl
  have q10:(s.1==[99,111,112,121])=false:=by rw [hop]; rfl
  have q11:(s.1==[106,111,105,110])=false:=by rw [hop]; rfl
  have q12:(s.1==[103,114,111,117,112])=false:=by rw [hop]; rfl
  have kc:=vp hs hc
  refine uG ?_
  simp only [tF,yk,Tr.val,q0,q1,q2,q3,q4,q5,q6,q7,q8,q9,q10,q11,if_true,zR,if_false,zt]
  repeat' (with_reducible refine gx ?_ ?_)
  all_goals first
   | (refine ⟨_,rfl,?_⟩; exact dC kc.2 (by omega))
   | rfl
   | exact hup
   | exact v1
   | exact e1
   | exact n1
   | exact lJ _
   | exact gD _ (by simp) _
   | exact kc.1
   | (refine aw ?_; simp; omega)
   | (rw [hop]; decide)
   | (refine aw ?_; rw [hop]; simp [de]; omega)
 ·have hup:(decide (length s.1≤140737488355328)&&List.all s.1 fun b=>decide (b.toNat < 128))=true:=by rw [hop]; decide
  have q0:(s.1==[99,114,101,97,116,101])=false:=by rw [hop]; rfl
  have q1:(s.1==[100,114,111,112])=false:=by rw [hop]; rfl
  have q2:(s.1==[105,110,115,101,114,116])=false:=by rw [hop]; rfl
  have q3:(s.1==[117,112,100,97,116,101])=false:=by rw [hop]; rfl
  have q4:(s.1==[100,101,108,101,116,101])=false:=by rw [hop]; rfl
  have q5:(s.1==[115,101,108,101,99,116])=false:=by rw [hop]; rfl
  have q6:(s.1==[114,101,97,100])=false:=by rw [hop]; rfl
  have q7:(s.1==[119,114,105,116,101])=false:=by rw [hop]; rfl
  have q8:(s.1==[117,110,114,101,97,100])=false:=by rw [hop]; rfl
  have q9:(s.1==[117,110,119,114,105,116,101])=false:=by rw [hop]; rfl
  have q10:(s.1==[99,111,112,121])=false:=by rw [hop]; rfl
  have q11:(s.1==[106,111,105,110])=false:=by rw [hop]; rfl
  have q12:(s.1==[103,114,111,117,112])=true:=by rw [hop]; rfl
  have g0:length (getD s.2.2.2.1 (toNat 0) (zj Sh.str))≤1000:=by
   rw [aB,zI (show (0:Int).toNat < s.2.2.2.1.length by rw [hl2]; decide)]
   exact hs.names.2 _ (cR _)
  have g1:length (getD s.2.2.2.1 (toNat 1) (zj Sh.str))≤1000:=by
   rw [aB,zI (show (1:Int).toNat < s.2.2.2.1.length by rw [hl2]; decide)]
   exact hs.names.2 _ (cR _)
  refine uG ?_
  simp only [tF,yk,Tr.val,q0,q1,q2,q3,q4,q5,q6,q7,q8,q9,q10,q11,zR,if_false,zt]
  repeat' (with_reducible refine gx ?_ ?_)
  all_goals first
   | (refine ⟨_,rfl,?_⟩; first | (simp at g0 g1 ⊢; omega) | (rw [hop]; simp [de]; omega))
   | rfl
   | exact hup
   | exact v1
   | exact e1
   | exact n1
   | exact lJ _
   | exact gD _ (by simp) _
   | (simp [zJ,hl2]; done)
   | (refine aw ?_; simp at g0 g1 ⊢; omega)
   | (rw [hop]; decide)
   | (refine aw ?_; rw [hop]; simp [de]; omega)
 ·simp only [dV,List.not_mem_nil,or_false] at hop
  rcases hop with hop | hop | hop | hop | hop | hop | hop | hop | hop | hop | hop
  all_goals
   have hup:(decide (length s.1≤140737488355328)&&List.all s.1 fun b=>decide (b.toNat < 128))=true:=by rw [hop]; decide
   have q0:(s.1==[99,114,101,97,116,101])=false:=by rw [hop]; rfl
   first | (have q1:(s.1==[100,114,111,112])=false:=by rw [hop]; rfl) | (have q1:(s.1==[100,114,111,112])=true:=by rw [hop]; rfl)
   first | (have q2:(s.1==[105,110,115,101,114,116])=false:=by rw [hop]; rfl) | (have q2:(s.1==[105,110,115,101,114,116])=true:=by rw [hop]; rfl)
   first | (have q3:(s.1==[117,112,100,97,116,101])=false:=by rw [hop]; rfl) | (have q3:(s.1==[117,112,100,97,116,101])=true:=by rw [hop]; rfl)
   first | (have q4:(s.1==[100,101,108,101,116,101])=false:=by rw [hop]; rfl) | (have q4:(s.1==[100,101,108,101,116,101])=true:=by rw [hop]; rfl)
   first | (have q5:(s.1==[115,101,108,101,99,116])=false:=by rw [hop]; rfl) | (have q5:(s.1==[115,101,108,101,99,116])=true:=by rw [hop]; rfl)
   first | (have q6:(s.1==[114,101,97,100])=false:=by rw [hop]; rfl) | (have q6:(s.1==[114,101,97,100])=true:=by rw [hop]; rfl)
   first | (have q7:(s.1==[119,114,105,116,101])=false:=by rw [hop]; rfl) | (have q7:(s.1==[119,114,105,116,101])=true:=by rw [hop]; rfl)
   first | (have q8:(s.1==[117,110,114,101,97,100])=false:=by rw [hop]; rfl) | (have q8:(s.1==[117,110,114,101,97,100])=true:=by rw [hop]; rfl)
   first | (have q9:(s.1==[117,110,119,114,105,116,101])=false:=by rw [hop]; rfl) | (have q9:(s.1==[117,110,119,114,105,116,101])=true:=by rw [hop]; rfl)
   first | (have q10:(s.1==[99,111,112,121])=false:=by rw [hop]; rfl) | (have q10:(s.1==[99,111,112,121])=true:=by rw [hop]; rfl)
   first | (have q11:(s.1==[106,111,105,110])=false:=by rw [hop]; rfl) | (have q11:(s.1==[106,111,105,110])=true:=by rw [hop]; rfl)
   have q12:(s.1==[103,114,111,117,112])=false:=by rw [hop]; rfl
   refine uG ?_
   simp only [tF,yk,Tr.val,q0,q1,q2,q3,q4,q5,q6,q7,q8,q9,q10,q11,if_true,zR,if_false,zt]
   repeat' (with_reducible refine gx ?_ ?_)
   all_goals first
    | (refine ⟨_,rfl,?_⟩; first | (simp; omega) | (rw [hop]; simp [de]; omega))
    | rfl
    | exact hup
    | exact v1
    | exact e1
    | exact n1
    | exact lJ _
    | exact gD _ (by simp) _
    | (refine aw ?_; simp; omega)
    | (rw [hop]; decide)
    | (refine aw ?_; rw [hop]; simp [de]; omega)
theorem aX {x:Sem zx} (h1:x.2.1.length≤1000) (h2:x.2.2.1.length≤1000) (h3:x.2.2.2.2.2.1.length≤1000) (h4:x.2.2.2.2.2.2.2.2.2.2.2.2.length≤1000):cO x=true:=by
 unfold cO
 refine gi (aw ?_) (gi (aw ?_) (gi (aw ?_) rfl))
 all_goals first | omega | (simp; omega)

theorem cS {c g:Bool} (h:g=true):(bif c then g else true)=true:=by cases c <;> simp [h]

theorem yY {s:Sem zx} (hs:iO s):iK s=true:=by
 have t1:=hs.table
 have t2:=hs.other
 have t3:=hs.key
 have t4:=hs.role
 by_cases q0:(s.1==[99,114,101,97,116,101])=true
 ·obtain ⟨hc,_⟩:=bJ (s:=s) (g:=_) (b:=_) (by simp only [dX,dp,Tr.val,q0,if_true,zt]; exact rfl)
  rw [hc]
  exact cS (aX (by simp) (by first | exact t2 | simp) (by first | exact t3 | simp) (by first | exact t4 | simp))
 by_cases q1:(s.1==[100,114,111,112])=true
 ·obtain ⟨hc,_⟩:=bJ (s:=s) (g:=_) (b:=_) (by simp only [dX,dp,Tr.val,q0,q1,if_true,if_false,zR,zt]; exact rfl)
  rw [hc]
  exact cS (aX (by simp) (by first | exact t2 | simp) (by first | exact t3 | simp) (by first | exact t4 | simp))
 by_cases q2:(s.1==[105,110,115,101,114,116])=true
 ·obtain ⟨hc,_⟩:=bJ (s:=s) (g:=_) (b:=_) (by simp only [dX,dp,Tr.val,q0,q1,q2,if_true,if_false,zR,zt]; exact rfl)
  rw [hc]
  exact cS (aX (by simp) (by first | exact t2 | simp) (by first | exact t3 | simp) (by first | exact t4 | simp))
 by_cases q3:(s.1==[117,112,100,97,116,101])=true
 ·obtain ⟨hc,_⟩:=bJ (s:=s) (g:=_) (b:=_) (by simp only [dX,dp,Tr.val,q0,q1,q2,q3,if_true,if_false,zR,zt]; exact rfl)
  rw [hc]
  exact cS (aX (by simp) (by first | exact t2 | simp) (by first | exact t3 | simp) (by first | exact t4 | simp))
 by_cases q4:(s.1==[100,101,108,101,116,101])=true
 ·obtain ⟨hc,_⟩:=bJ (s:=s) (g:=_) (b:=_) (by simp only [dX,dp,Tr.val,q0,q1,q2,q3,q4,if_true,if_false,zR,zt]; exact rfl)
  rw [hc]
  exact cS (aX (by simp) (by first | exact t2 | simp) (by first | exact t3 | simp) (by first | exact t4 | simp))
 by_cases q5:(s.1==[115,101,108,101,99,116])=true
 ·obtain ⟨hc,_⟩:=bJ (s:=s) (g:=_) (b:=_) (by simp only [dX,dp,Tr.val,q0,q1,q2,q3,q4,q5,if_true,if_false,zR,zt]; exact rfl)
  rw [hc]
  exact cS (aX (by simp) (by first | exact t2 | simp) (by first | exact t3 | simp) (by first | exact t4 | simp))
 by_cases q6:(s.1==[114,101,97,100])=true
 ·obtain ⟨hc,_⟩:=bJ (s:=s) (g:=_) (b:=_) (by simp only [dX,dp,Tr.val,q0,q1,q2,q3,q4,q5,q6,if_true,if_false,zR,zt]; exact rfl)
  rw [hc]
  exact cS (aX (by simp) (by first | exact t2 | simp) (by first | exact t3 | simp) (by first | exact t4 | simp))
 by_cases q7:(s.1==[119,114,105,116,101])=true
 ·obtain ⟨hc,_⟩:=bJ (s:=s) (g:=_) (b:=_) (by simp only [dX,dp,Tr.val,q0,q1,q2,q3,q4,q5,q6,q7,if_true,if_false,zR,zt]; exact rfl)
  rw [hc]
  exact cS (aX (by simp) (by first | exact t2 | simp) (by first | exact t3 | simp) (by first | exact t4 | simp))
 by_cases q8:(s.1==[117,110,114,101,97,100])=true
 ·obtain ⟨hc,_⟩:=bJ (s:=s) (g:=_) (b:=_) (by simp only [dX,dp,Tr.val,q0,q1,q2,q3,q4,q5,q6,q7,q8,if_true,if_false,zR,zt]; exact rfl)
  rw [hc]
  exact cS (aX (by simp) (by first | exact t2 | simp) (by first | exact t3 | simp) (by first | exact t4 | simp))
 by_cases q9:(s.1==[117,110,119,114,105,116,101])=true
 ·obtain ⟨hc,_⟩:=bJ (s:=s) (g:=_) (b:=_) (by simp only [dX,dp,Tr.val,q0,q1,q2,q3,q4,q5,q6,q7,q8,q9,if_true,if_false,zR,zt]; exact rfl)
  rw [hc]
  exact cS (aX (by simp) (by first | exact t2 | simp) (by first | exact t3 | simp) (by first | exact t4 | simp))
 by_cases q10:(s.1==[99,111,112,121])=true
 ·obtain ⟨hc,_⟩:=bJ (s:=s) (g:=_) (b:=_) (by simp only [dX,dp,Tr.val,q0,q1,q2,q3,q4,q5,q6,q7,q8,q9,q10,if_true,if_false,zR,zt]; exact rfl)
  rw [hc]
  exact cS (aX (by simp) (by first | exact t2 | simp) (by first | exact t3 | simp) (by first | exact t4 | simp))
 by_cases q11:(s.1==[106,111,105,110])=true
 ·obtain ⟨hc,_⟩:=bJ (s:=s) (g:=_) (b:=_) (by simp only [dX,dp,Tr.val,q0,q1,q2,q3,q4,q5,q6,q7,q8,q9,q10,q11,if_true,if_false,zR,zt]; exact rfl)
  rw [hc]
  exact cS (aX (by simp) (by first | exact t2 | simp) (by first | exact t3 | simp) (by first | exact t4 | simp))
 by_cases q12:(s.1==[103,114,111,117,112])=true
 ·obtain ⟨hc,_⟩:=bJ (s:=s) (g:=_) (b:=_) (by simp only [dX,dp,Tr.val,q0,q1,q2,q3,q4,q5,q6,q7,q8,q9,q10,q11,q12,if_true,if_false,zR,zt]; exact rfl)
  rw [hc]
  exact cS (aX (by simp) (by first | exact t2 | simp) (by first | exact t3 | simp) (by first | exact t4 | simp))
 exact (qB (by simp only [dX,dp,Tr.val,q0,q1,q2,q3,q4,q5,q6,q7,q8,q9,q10,q11,q12,if_false,zR])).1

theorem qF {s:Sem zx} (hs:iO s):nt s=true:=by
 unfold nt
 refine gi ?_ rfl
 unfold oI
 refine gi (yY hs) ?_
 split
 ·rfl
 ·rename_i h
  have hp:il s=true:=by simpa using h
  obtain ⟨k1,k2⟩:=B2 hs hp
  exact gi k1 (gi (HF _ k2) rfl)

theorem uX:∀ (es:List ((Int×Int×zq)×Int)) (n:Nat) (x:Int),(gu es n x).length=es.length
 | [],_,_=>rfl
 | _::_,0,_=>rfl
 | _::r,n+1,x=>by simp [gu,uX r n x]
theorem KO (es:List ((Int×Int×zq)×Int)) (k:Int×Int×zq):(gk es k).length≤es.length+1:=by
 unfold gk
 cases fL es k <;> simp
theorem xt:∀ (es:List ((Int×Int×zq)×Int)) (k:Int×Int×zq),(fL es k=true→iv es k < es.length)∧iv es k≤es.length
 | [],k=>⟨fun h=>by simp [fL] at h,aS _⟩
 | p::r,k=>by
  obtain ⟨h1,h2⟩:=xt r k
  constructor
  ·intro h
   rw [iv]
   cases hk:(k==p.1) with
   | true=>simp
   | false=>
    have:fL r k=true:=by simpa [fL,hk] using h
    have:=h1 this
    simp; omega
  ·rw [iv]
   cases (k==p.1) <;> simp <;> omega
theorem Nu (es:List ((Int×Int×zq)×Int)) (k:Int×Int×zq):iv es k < (gk es k).length:=by
 obtain ⟨h1,h2⟩:=xt es k
 unfold gk
 cases h:fL es k with
 | true=>exact h1 h
 | false=>simp; omega

def Cd (c:Int) (n:Nat):Prop:=0≤c∧c < n
theorem Ex {c:Int} {n:Nat} (h:Cd c n):zJ c n=true:=by
 simp [zJ,h.1,h.2]
theorem qv {a0 a1 a2 a3 a4 a5 a6 a7 a8 a9 b0}:∀ (l:List (Sem zo)) (i:Int),fj a0 a1 a2 a3 a4 a5 a6 a7 a8 a9 b0 l i=true→Cd a2 a1.length∧∀ f∈l,Cd f.1 a1.length
 | [],i,h=>by
  rw [fj] at h
  split at h
  ·rename_i h1
   refine ⟨?_,by simp⟩
   unfold Cd
   cases h2:decide (a2 ≥ 0) with
   | true=>
    rw [h2] at h1
    simp at h1 h2
    exact ⟨h2,h1⟩
   | false=>rw [h2] at h1; simp at h1
  ·cases h
 | x :: r,i,h=>by
  rw [fj] at h
  split at h
  ·cases h
  ·rename_i h1
   split at h
   ·cases h
   ·obtain ⟨h3,h4⟩:=qv r _ h
    refine ⟨h3,fun f hf=>?_⟩
    rcases dV.1 hf with rfl | hf
    ·unfold Cd
     cases h2:decide (f.1 ≥ 0) with
     | true=>
      rw [h2] at h1
      simp at h1 h2
      exact ⟨h2,h1⟩
     | false=>rw [h2] at h1; simp at h1
    ·exact h4 f hf
theorem qu {a0 a1 a2 a3 a4 a5 a6 a7 a8 a9 b0}:∀ (l:List (Sem zg)) (i:Int),fi a0 a1 a2 a3 a4 a5 a6 a7 a8 a9 b0 l i=true→Cd a2 a1.length∧(∀ f∈a4,Cd f.1 a1.length)∧∀ u∈l,Cd u a1.length
 | [],i,h=>by
  rw [fi] at h
  obtain ⟨h1,h2⟩:=qv _ _ h
  exact ⟨h1,h2,by simp⟩
 | x :: r,i,h=>by
  rw [fi] at h
  split at h
  ·cases h
  ·rename_i h1
   obtain ⟨h3,h4,h5⟩:=qu r _ h
   refine ⟨h3,h4,fun f hf=>?_⟩
   rcases dV.1 hf with rfl | hf
   ·unfold Cd
    cases h2:decide (f ≥ 0) with
    | true=>
     rw [h2] at h1
     simp at h1 h2
     exact ⟨h2,h1⟩
    | false=>rw [h2] at h1; simp at h1
   ·exact h5 f hf
theorem tP {a0 a1 a2 a3 a4 a5 a6 a7 a8 a9 b0}:∀ (l:List (Sem zi)) (i:Int),ip a0 a1 a2 a3 a4 a5 a6 a7 a8 a9 b0 l i=true→Cd a2 a1.length∧(∀ f∈a4,Cd f.1 a1.length)∧∀ u∈a3,Cd u a1.length
 | [],i,h=>by
  rw [ip] at h
  exact qu _ _ h
 | x::r,i,h=>by
  rw [ip] at h
  split at h
  ·cases h
  ·exact tP r _ h
theorem jx {t:Sem zE} (h:kf t=true):Cd t.2.2.1 t.2.1.length∧(∀ f∈t.2.2.2.2.1,Cd f.1 t.2.1.length)∧(∀ u∈t.2.2.2.1,Cd u t.2.1.length)∧t.2.1.length≤8∧1≤t.2.1.length:=by
 unfold kf at h
 split at h
 ·cases h
 ·rename_i h1
  obtain ⟨h2,h3,h4⟩:=tP _ _ h
  refine ⟨h2,h3,h4,?_⟩
  cases hn:gr t.1 with
  | false=>rw [hn] at h1; simp at h1
  | true=>
   rw [hn] at h1
   cases hd:decide ((length t.2.1:Int) < 1) with
   | true=>rw [hd] at h1; simp at h1
   | false=>
    rw [hd] at h1
    simp at h1 hd
    omega
theorem tB {t:Sem zE} {row:List (Sem zf)} (h:(iL t row != 0)≠true):row.length=t.2.1.length:=by
 simp at h
 unfold iL at h
 split at h
 ·cases h
 ·rename_i h1
  cases hm:kf t with
  | false=>rw [hm] at h1; simp at h1
  | true=>
   rw [hm] at h1
   simp at h1
   omega

structure dZ (x:Sem zh):Prop where
 uq:x.1.2.2.2.1.length≤1000
 rf:x.1.2.2.2.2.1.length≤1000
 rw:x.2.length≤1000


theorem AF (l:List (Sem zh)) (s:zq):ar l s=(-1:Int)∨((0:Int)≤ar l s∧LT.lt (α:=Int) (ar l s) l.length):=by
 have:=jZ (fun x:Sem zh=>x.1.1==s) l 0
 simp at this
 exact this

theorem ln {l:List (Sem zh)} {s:zq} (h:(0:Int)≤ar l s):zJ (ar l s) (length l)=true:=by
 rcases AF l s with h1 | ⟨h1,h2⟩
 ·rw [h1] at h; omega
 ·simp only [zJ,aE,ah]; exact ⟨h1,h2⟩

end Cad
