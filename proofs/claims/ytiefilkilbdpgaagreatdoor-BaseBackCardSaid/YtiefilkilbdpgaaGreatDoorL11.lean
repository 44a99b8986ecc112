/- slices.Clone: what it answers is memory of its own. schema.copied is its argument, of what is not too deep. Functions from plain data and a function to plain data. Statements: words of columns, tokens. Statements: parts. Statements: the ways of many; expressions' texts. Statements: the ways of many, again; tokens. Statements: the ways of many, once more. Statements: many; checks' texts. -/
import Derived.Test.YtiefilkilbdpgaaGreatDoorL10
import Derived.Test.YtiefilkilbdpgaaGreatDoorL09
namespace Cad
open Go Go.Proofs
open Int (toNat)
open List (getD)
open List (length)

theorem Reach.promNil {E:bq} {C:cr} {fn:FuncId} {todo:List Item} {st:St} (e:Sh) (hC:∀ id,C.ρ0 id=none) (h:Reach E C fn todo st (fun r h=>(r,h)=(.nils,[]))):Reach E C fn todo st (fun r h=>(r,h)=(.vec 0,[.vec e []])):=by
 intro b cs a w U ρ h1 h2 hc hW
 obtain ⟨en,w',fr,⟨v,r,h',U',ρ',he,hq,hrv,hH,hnew,hr0,hWd⟩,hcm,hf,hl⟩:=h b cs a w U ρ h1 h2 hc hW
 cases hq
 cases hrv with
 | nils ad=>
 have hno:∀ id o b,o=(AO.vec e []:AO)∨o=AO.dead→¬ zO (fun id=>if id=0 then some (.slice ad 0 0) else none) id o b:=by
  rintro id o b ho ⟨h3,x,h4,h5⟩
  rcases ho with rfl | rfl
  ·simp only at h4
   split at h4
   ·cases h4
    cases ad <;> simp [eU] at h5
   ·cases h4
  ·simp [AO.owns] at h3
 have hob:∀ id,(([AO.vec e []]:List AO).getD id .dead)=(if id=0 then AO.vec e [] else AO.dead):=by
  intro id
  cases id <;> simp
 refine ⟨en,w',fr,⟨_,_,_,U',fun id=>if id=0 then some (.slice ad 0 0) else none,he,rfl,.vec 0 _ (by simp) (by simp [Value.oneCell']),⟨fun id=>?_,fun id1 id2 b o=>?_,fun id b o=>?_⟩,fun id hid=>?_,fun id v hv=>?_,hWd⟩,hcm,hf,hl⟩
 ·show bb w' U' _ id (([AO.vec e []]:List AO).getD id .dead)
  rw [hob]
  split
  ·rename_i h0
   subst h0
   exact ⟨ad,0,by simp,by simp,.inl ⟨rfl,rfl⟩⟩
  ·trivial
 ·exfalso
  have o':zO (fun id=>if id=0 then some (.slice ad 0 0) else none) id1 (([AO.vec e []]:List AO).getD id1 .dead) b:=o
  rw [hob] at o'
  split at o'
  ·exact hno _ _ _ (.inl rfl) o'
  ·exact hno _ _ _ (.inr rfl) o'
 ·exfalso
  have o':zO (fun id=>if id=0 then some (.slice ad 0 0) else none) id (([AO.vec e []]:List AO).getD id .dead) b:=o
  rw [hob] at o'
  split at o'
  ·exact hno _ _ _ (.inl rfl) o'
  ·exact hno _ _ _ (.inr rfl) o'
 ·simp at hid
  simp; omega
 ·rw [hC id] at hv; cases hv

def ay:Tr zt→List Item×List Item×St
 | .ok (.fork _ k1 k2 st)=>(k1,k2,st)
 | _=>([],[],⟨[],[]⟩)

abbrev x8:Nat→zY:=fun _=>{ }

noncomputable abbrev Dt (l:List ze):Tr zt:=run nV 0 x8 (Func.results Tryz.f125).toList 300 (aA Tryz.f125) (af (Func.ntmps Tryz.f125) [.sl .expr l] [])
theorem Ra:zA nV.P 125 Tryz.f125 1:=aL (by kernel_rfl)
theorem zhu (l:List ze):Dt l=.ok (.fork l.isEmpty (ay (Dt l)).1 (ay (Dt l)).2.1 (ay (Dt l)).2.2):=by kernel_rfl
theorem zfG (l:List ze):run nV 0 x8 (Func.results Tryz.f125).toList 300 (ay (Dt l)).1 (ay (Dt l)).2.2=.ok (.ret .nils []):=by kernel_rfl
theorem zfH (l:List ze):run nV 0 x8 (Func.results Tryz.f125).toList 300 (ay (Dt l)).2.1 (ay (Dt l)).2.2=.chk (decide (l.length≤1073741824)) (.ok (.ret (.vec 0) [.vec .expr l])):=by kernel_rfl
def G53:cz [some (.sl .expr)]:=fun x h=>match h with
 | []=>.chk (decide (length x.1≤1073741824)) (.ok (.vec 0,[.vec .expr x.1]))
 | _=>.err
def F53:zD:=zS [some (.sl .expr)] G53
theorem zbp:FK 125 F53:=by
 refine bt Ra fun x h0 res hx C hC=>?_
 unfold G53 at hx
 split at hx
 ·simp only [Tr.val] at hx
  split at hx
  ·rename_i hl
   simp only [aq] at hx
   subst hx
   obtain ⟨l,u⟩:=x
   refine zk (n0:=0) gu Ra hC (zhu l) ?_
   refine ⟨fun he=>?_,?_⟩
   ·have hn:l=[]:=List.isEmpty_iff.1 he
    refine Reach.weaken (Q:=fun r h=>(r,h)=(.vec 0,[.vec .expr []])) (Reach.promNil .expr (fun id=>hC id (by simp)) (zk (n0:=0) gu Ra hC (zfG l) rfl)) ?_
    intro r h hq
    cases hq
    refine ⟨_,?_,fun _ _ _ _ h=>h⟩
    show (AV.vec 0,[AO.vec Sh.expr []])=(AV.vec 0,[AO.vec Sh.expr l])
    rw [hn]
   ·exact zk (n0:=0) gu Ra hC (zfH l) (cP hl rfl)
  ·cases hx
 ·simp at hx

noncomputable abbrev Ds (l:List (Sem zi)):Tr zt:=run nV 0 x8 (Func.results Tryz.f71).toList 300 (aA Tryz.f71) (af (Func.ntmps Tryz.f71) [.sl zi l] [])
theorem Q8:zA nV.P 71 Tryz.f71 1:=aL (by kernel_rfl)
theorem zhc (l:List (Sem zi)):Ds l=.ok (.fork l.isEmpty (ay (Ds l)).1 (ay (Ds l)).2.1 (ay (Ds l)).2.2):=by kernel_rfl
theorem zfA (l:List (Sem zi)):run nV 0 x8 (Func.results Tryz.f71).toList 300 (ay (Ds l)).1 (ay (Ds l)).2.2=.ok (.ret .nils []):=by kernel_rfl
theorem zfB (l:List (Sem zi)):run nV 0 x8 (Func.results Tryz.f71).toList 300 (ay (Ds l)).2.1 (ay (Ds l)).2.2=.chk (decide (l.length≤1073741824)) (.ok (.ret (.vec 0) [.vec zi l])):=by kernel_rfl
def G32:cz [some (.sl zi)]:=fun x h=>match h with
 | []=>.chk (decide (length x.1≤1073741824)) (.ok (.vec 0,[.vec zi x.1]))
 | _=>.err
def F32:zD:=zS [some (.sl zi)] G32
theorem za4:FK 71 F32:=by
 refine bt Q8 fun x h0 res hx C hC=>?_
 unfold G32 at hx
 split at hx
 ·simp only [Tr.val] at hx
  split at hx
  ·rename_i hl
   simp only [aq] at hx
   subst hx
   obtain ⟨l,u⟩:=x
   refine zk (n0:=0) gu Q8 hC (zhc l) ?_
   refine ⟨fun he=>?_,?_⟩
   ·have hn:l=[]:=List.isEmpty_iff.1 he
    refine Reach.weaken (Q:=fun r h=>(r,h)=(.vec 0,[.vec zi []])) (Reach.promNil zi (fun id=>hC id (by simp)) (zk (n0:=0) gu Q8 hC (zfA l) rfl)) ?_
    intro r h hq
    cases hq
    refine ⟨_,?_,fun _ _ _ _ h=>h⟩
    show (AV.vec 0,[AO.vec zi []])=(AV.vec 0,[AO.vec zi l])
    rw [hn]
   ·exact zk (n0:=0) gu Q8 hC (zfB l) (cP hl rfl)
  ·cases hx
 ·simp at hx

noncomputable def QG:=nV.addL [(125,F53),(71,F32)]
theorem vl:zm QG:=gu.addL <| fc zbp <| fc za4 gZ
def KL (c:ze→Bool):zD:=zC [.expr] [.expr] (fun x=>c x.1) fun x=>(x.1,())
noncomputable def JC (c:ze→Bool):bq:=QG.add 200 (KL c)
theorem u0 {c:ze→Bool} (hg:FK 200 (KL c)):zm (JC c):=vl.add hg
abbrev zeb:Nat→zY:=fun j=>if j=3 then { slots:=[1,2,10,11] } else { }
abbrev I3 (i10:Int) (i11:Int) (ja0:zl) (ja1:Int) (ja2:Int) (ja3:zl) (ja4:zl) (lh_2:List (Sem Sh.expr)):St:={
 tmps:=
  (tm 26 [(1,AV.ptr 0 0),(2,AV.ptr 1 0),(10,AV.int .i64 i10),(11,AV.int .i64 i11)]),
 heap:=
  [AO.box [AV.str ja0,AV.int .i64 ja1,AV.int .i64 ja2,AV.str ja3,AV.str ja4,AV.vec 2],
   AO.box [AV.str [],AV.int .i64 0,AV.int .i64 0,AV.str [],AV.str [],AV.nils],AO.vec Sh.expr lh_2] }
theorem Gy (c:ze→Bool):zA (JC c).P 200 Tryz.f200 1:=aL (by kernel_rfl)
theorem zhd (c:ze→Bool) (op:zl) (v:V) (s:zl) (l:List ze):rn (JC c) 0 zeb Tryz.f200 [zz Sh.expr (ze.mk op v s l)] []=
 Tr.chk (decide (l.length≤1073741824)) (Tr.ok (zt.head 3 (zy Tryz.f200 3) (I3 (↑l.length:Int) 0 op v.1 v.2.1 v.2.2 s l))):=by kernel_rfl
theorem ND (c:ze→Bool) (i10:Int) (i11:Int) (ja0:zl) (ja1:Int) (ja2:Int) (ja3:zl) (ja4:zl) (lh_2:List (Sem Sh.expr)):rh (JC c) 0 zeb Tryz.f200 3 (I3 i10 i11 ja0 ja1 ja2 ja3 ja4 lh_2)=
 Tr.br (decide (i11 < i10))
 (Tr.chk (zF i11 lh_2.length)
  (Tr.chk (decide (i11.toNat < lh_2.length))
   (Tr.chk (c (zB (lh_2.getD i11.toNat (zj Sh.expr))))
    (Tr.chk (zF i11 lh_2.length)
     (Tr.chk (decide (i11.toNat < lh_2.length))
      (Tr.ok
       (zt.head 3 (zy Tryz.f200 3)
        (I3 i10 (IntKind.i64.wrap (i11+1)) ja0 ja1 ja2 ja3 ja4
         (lh_2.set i11.toNat
          (zB (lh_2.getD i11.toNat (zj Sh.expr))))))))))))
 (Tr.ok
  (zt.ret (AV.agg [AV.str ja0,AV.int .i64 ja1,AV.int .i64 ja2,AV.str ja3,AV.str ja4,AV.vec 0]) [AO.vec Sh.expr lh_2])):=by kernel_rfl

theorem zgu {c:ze→Bool} (hg:FK 200 (KL c)) {C:cr} (hC:∀ id,C.ρ0 id=none) (op:zl) (v:V) (s:zl) (l:List ze) (hl:l.length≤1073741824) (hcl:l.all c=true):
  ∀ (k i:Nat),l.length - i=k→i≤l.length→Reach (JC c) C 200 (zy Tryz.f200 3) (I3 l.length i op v.1 v.2.1 v.2.2 s l) (fun r h=>ae h [.expr] r=some (ze.mk op v s l,())):=by
 intro k
 induction k with
 | zero=>
  intro i hk hi
  obtain rfl:i=l.length:=by omega
  refine zk (n0:=0) (u0 hg) (Gy c) (fun id _=>hC id) (ND c _ _ _ _ _ _ _ _) ?_
  simp only [ag,Tr.val_brF]
  rfl
 | succ k IH=>
  intro i hk hi
  have hlt:i < l.length:=by omega
  refine zk (n0:=0) (u0 hg) (Gy c) (fun id _=>hC id) (ND c _ _ _ _ _ _ _ _) ?_
  have h1:c l[i]=true:=cL.1 hcl _ (ce hlt)
  have h2:decide ((i:Int).toNat < l.length)=true:=by simpa using hlt
  have h3:l.set (i:Int).toNat l[i]=l:=by simp
  simp only [zX hlt,zG hlt,ac l _ hlt,ze.eta,Tr.val_brT,Tr.val_chkT,h1,h2,h3,zH i (by unfold zE; omega)]
  exact IH (i+1) (by omega) (by omega)

def lM:Nat→ze→Bool
 | 0,_=>false
 | n+1,.mk _ _ _ l=>decide (l.length≤1073741824)&&l.all (lM n)

theorem Fm:∀ n,FK 200 (KL (lM n))
 | 0=>cQ ⟨Tryz.f200,(Gy (fun _=>false)).1,(Gy (fun _=>false)).2.1,(Gy (fun _=>false)).2.2.1⟩ (fun _=>rfl)
 | n+1=>by
  refine zM (E:=JC (lM n)) (Gy _) fun x hc C hC=>?_
  obtain ⟨⟨op,v,s,l⟩,u⟩:=x
  have hc:(decide (l.length≤1073741824)&&l.all (lM n))=true:=hc
  simp only [aG,zW] at hc
  refine zk (n0:=0) (u0 (Fm n)) (Gy _) (fun id _=>hC id) (zhd _ op v s l) ?_
  refine cP (by simpa using hc.1) ?_
  exact zgu (Fm n) hC op v s l hc.1 hc.2 _ 0 rfl (aE _)
def F33:zD:=KL (lM 16)
theorem za5:FK 200 F33:=Fm 16
noncomputable def il:=QG.add 200 F33
theorem fC:zm il:=vl.add za5
open Go

def oW:(ks:List Sh)→zx (ks.map some++[none])→zx (ks.map some)×AV
 | [],x=>((),x.1)
 | _::ks,x=>((x.1,(oW ks x.2).1),(oW ks x.2).2)

theorem ux:∀ (ks:List Sh) (x:zx (ks.map some++[none])),gm (ks.map some++[none]) x=gm (ks.map some) (oW ks x).1++[(oW ks x).2]
 | [],_=>rfl
 | s::ks,x=>congrArg (zz s x.1 :: ·) (ux ks x.2)

def Mw (k:Nat):AV→Bool
 | .clo (.func j) [] []=>j==k
 | _=>false

theorem Mx {k:Nat} {v:AV} (h:Mw k v=true):v=.clo (.func k) [] []:=by
 unfold Mw at h
 split at h
 ·rw [ej] at h; rw [h]
 ·cases h

abbrev KJ (ks outs:List Sh):=Nat×(zx (ks.map some)→Bool)×(zx (ks.map some)→zx (outs.map some))

def P7 {ks outs:List Sh} (v:AV):List (KJ ks outs)→Option ((zx (ks.map some)→Bool)×(zx (ks.map some)→zx (outs.map some)))
 | []=>none
 | (k,a)::r=>if Mw k v then some a else P7 v r

theorem Dq {ks outs:List Sh} {v:AV} {a}:∀ {l:List (KJ ks outs)},P7 v l=some a→∃ k,v=.clo (.func k) [] []∧(k,a)∈l
 | [],h=>by cases h
 | (k,b)::r,h=>by
  unfold P7 at h
  split at h
  ·rename_i hk
   cases h
   exact ⟨k,Mx hk,yB ..⟩
  ·obtain ⟨j,h1,h2⟩:=Dq h
   exact ⟨j,h1,lV _ h2⟩

def Iu (ks outs:List Sh) (l:List (KJ ks outs)):cz (ks.map some++[none]):=fun x h=>match h with
 | []=>match P7 (oW ks x).2 l with
  | some (c,g)=>.chk (c (oW ks x).1) (.ok (sE outs (g (oW ks x).1),[]))
  | none=>.err
 | _=>.err

def wy (ks outs:List Sh) (l:List (KJ ks outs)):zD:=zS (ks.map some++[none]) (Iu ks outs l)

theorem kJ {P:Program} {gl:Nat→AV} {E:bq} {k:FuncId} {f:Func} {ks outs:List Sh} {l:List (KJ ks outs)} (hf:zA E.P k f (ks.length+1))
  (h:∀ j c g,(j,c,g)∈l→∀ x,c x=true→∀ C:cr,(∀ id,C.ρ0 id=none)→Reach E C k (aA f) (af f.ntmps (gm (ks.map some) x++[.clo (.func j) [] []]) []) (fun r h=>ae h outs r=some (g x))) (qp:E.P=P:=by rfl) (qg:E.gl=gl:=by rfl):lL P gl k (wy ks outs l):=by
 subst qp qg
 refine bt (by simpa using hf) fun x h0 res hx C hC=>?_
 unfold Iu at hx
 split at hx
 ·split at hx
  ·rename_i c g hal
   obtain ⟨j,hv,hm⟩:=Dq hal
   simp only [Tr.val] at hx
   split at hx
   ·rename_i hc
    simp only [aq] at hx
    subst hx
    rw [ux,hv]
    exact Reach.plain (fun id=>hC id (by simp)) (h j c g hm _ hc C (fun id=>hC id (by simp)))
   ·simp at hx
  ·simp at hx
 ·simp at hx

set_option maxHeartbeats 4000000
abbrev bG:Sh:=.pr .str .str
abbrev aK:Sh:=.pr .str .expr
abbrev zp:Sh:=.pr .str (.pr .str (.pr .str (.pr (.sl .str) (.pr (.sl zi) (.pr .str (.pr (.sl .str) (.pr (.sl bG) (.pr .expr (.pr (.sl zf) (.pr (.sl aK) (.pr .expr .str)))))))))))
def x3 (x:Sem zp):Sem zp:=(x.1,x.2.1,x.2.2.1,x.2.2.2.1,x.2.2.2.2.1,x.2.2.2.2.2.1,x.2.2.2.2.2.2.1,x.2.2.2.2.2.2.2.1,zB x.2.2.2.2.2.2.2.2.1,x.2.2.2.2.2.2.2.2.2.1,x.2.2.2.2.2.2.2.2.2.2.1,zB x.2.2.2.2.2.2.2.2.2.2.2.1,x.2.2.2.2.2.2.2.2.2.2.2.2)
theorem HO (x:Sem zp):x3 x=x:=by unfold x3; rw [zn,zn]

abbrev TY:Nat→zY:=fun j=>if j=2 then { slots:=[0,2,4] } else { }
abbrev xm (s0:TS) (i4:Int) (ja0:Int) (ja1:List UInt8):St:={ tmps:=(tm 37 [(0,AV.str s0),(2,AV.ptr 0 0),(4,ai i4)]),heap:=[AO.box [ai ja0,AV.str ja1]] }
theorem Nl:zA (il).P 235 Tryz.f235 1:=aL (by kernel_rfl)
theorem zc3 (x0:TS):rn il 0 TY Tryz.f235 [zz Sh.str x0] []=Tr.ok (zt.head 2 (zy Tryz.f235 2) (xm x0 1 0 [])):=by kernel_rfl
theorem Rf (s0:TS) (i4:Int) (ja0:Int) (ja1:List UInt8):rh il 0 TY Tryz.f235 2 (xm s0 i4 ja0 ja1)=Tr.br (decide (i4 < (↑(length s0):Int))) (Tr.chk (zF i4 (length s0)) (Tr.br ((↑(getD s0 i4.toNat 0).toNat:Int) != 39) (Tr.ok (zt.head 2 (zy Tryz.f235 2) (xm s0 (IntKind.i64.wrap (i4+1)) ja0 ja1))) (Tr.chk (bif decide (IntKind.i64.wrap (i4+1) < (↑(length s0):Int)) then zF (IntKind.i64.wrap (i4+1)) (length s0) else true) (Tr.br (bif decide (IntKind.i64.wrap (i4+1) < (↑(length s0):Int)) then (↑(getD s0 (IntKind.i64.wrap (i4+1)).toNat 0).toNat:Int)==39 else false) (Tr.ok (zt.head 2 (zy Tryz.f235 2) (xm s0 (IntKind.i64.wrap (IntKind.i64.wrap (i4+1)+1)) ja0 ja1))) (Tr.chk (decide (0≤1)&&decide (1≤i4)&&decide (i4≤(↑(length s0):Int))) (Tr.chk (qd (List.take (i4.toNat - toNat 1) (List.drop (toNat 1) s0)) [39,39] [39]) (Tr.ok (zt.ret (AV.tup [AV.agg [ai 3,AV.str (Lib.replaceAll (List.take (i4.toNat - toNat 1) (List.drop (toNat 1) s0)) [39,39] [39])],ai (IntKind.i64.wrap (i4+1))]) [])))))))) (Tr.ok (zt.ret (AV.tup [AV.agg [ai 0,AV.str []],ai 0]) [])):=by kernel_rfl
def dI:Nat→(Sem Sh.str)→Int→Int→(List UInt8)→Sem dY×Sem zg
 | 0,_,_,_,_=>default
 | n+1,s0,i4,ja0,ja1=>(if decide (i4 < (↑(length s0):Int))=true then
 if ((↑(getD s0 i4.toNat 0).toNat:Int) != 39)=true then dI n s0 (IntKind.i64.wrap (i4+1)) ja0 ja1
 else
  if
    (bif decide (IntKind.i64.wrap (i4+1) < (↑(length s0):Int)) then (↑(getD s0 (IntKind.i64.wrap (i4+1)).toNat 0).toNat:Int)==39
     else false)=
     true then
   dI n s0 (IntKind.i64.wrap (IntKind.i64.wrap (i4+1)+1)) ja0 ja1
  else ((3,Lib.replaceAll (List.take (i4.toNat - toNat 1) (List.drop (toNat 1) s0)) [39,39] [39]),IntKind.i64.wrap (i4+1))
else ((0,[]),0))
def gB:Nat→(Sem Sh.str)→Int→Int→(List UInt8)→Bool
 | 0,_,_,_,_=>false
 | n+1,s0,i4,ja0,ja1=>(if decide (i4 < (↑(length s0):Int))=true then
 if zF i4 (length s0)=true then
  if ((↑(getD s0 i4.toNat 0).toNat:Int) != 39)=true then gB n s0 (IntKind.i64.wrap (i4+1)) ja0 ja1
  else
   if (bif decide (IntKind.i64.wrap (i4+1) < (↑(length s0):Int)) then zF (IntKind.i64.wrap (i4+1)) (length s0) else true)=true then
    if
      (bif decide (IntKind.i64.wrap (i4+1) < (↑(length s0):Int)) then (↑(getD s0 (IntKind.i64.wrap (i4+1)).toNat 0).toNat:Int)==39
       else false)=
       true then
     gB n s0 (IntKind.i64.wrap (IntKind.i64.wrap (i4+1)+1)) ja0 ja1
    else
     if (decide (0≤1)&&decide (1≤i4)&&decide (i4≤(↑(length s0):Int)))=true then
      if qd (List.take (i4.toNat - toNat 1) (List.drop (toNat 1) s0)) [39,39] [39]=true then true else false
     else false
   else false
 else false
else true)
theorem Ht {C:cr} (hC:∀ id,C.ρ0 id=none):∀ (n:Nat) (s0:TS) (i4:Int) (ja0:Int) (ja1:List UInt8),gB n s0 i4 ja0 ja1=true→
  Reach (il) C 235 (zy Tryz.f235 2) (xm s0 i4 ja0 ja1) (fun r h=>ae h [dY,zg] r=some ((dI n s0 i4 ja0 ja1).1,(dI n s0 i4 ja0 ja1).2,()))
 | 0,s0,i4,ja0,ja1,hc=>by cases hc
 | n+1,s0,i4,ja0,ja1,hc=>by
  refine zk fC (Nl) (fun id _=>hC id) (Rf _ _ _ _) ?_
  rw [gB] at hc
  generalize hy:dI (n+1) s0 i4 ja0 ja1=y
  rw [dI] at hy
  try simp only [ze.eta,zn]
  repeat' (first | with_reducible refine eY hy hc (fun _ hy hc=>?_) (fun _ hy hc=>?_) | with_reducible refine aR hy (fun _ hy=>?_) (fun _ hy=>?_) | with_reducible refine bm hc (fun hc=>?_) | with_reducible refine zr ?_)
  all_goals first | (cases hc; done) | (subst hy; first | (change Reach _ _ _ _ _ _; refine Ht hC n _ _ _ _ ?_ <;> exact hc) | rfl)
def quoted (x0:TS):Sem dY×Sem zg:=(dI (length x0+1) x0 1 0 [])
def iF (x0:TS):Bool:=(gB (length x0+1) x0 1 0 [])
def ZA:zD:=zC [Sh.str] [dY,zg] (fun x=>iF x.1) fun x=>((quoted x.1).1,(quoted x.1).2,())
theorem UZ:FK 235 ZA:=by
 refine zM (Nl) fun x hc C hC=>?_
 unfold iF at hc
 refine zk fC (Nl) (fun id _=>hC id) (zc3 x.1) ?_
 generalize hy:quoted x.1=y
 unfold quoted at hy
 try simp only [ze.eta,zn]
 repeat' (first | with_reducible refine eY hy hc (fun _ hy hc=>?_) (fun _ hy hc=>?_) | with_reducible refine aR hy (fun _ hy=>?_) (fun _ hy=>?_) | with_reducible refine bm hc (fun hc=>?_) | with_reducible refine zr ?_)
 all_goals first | (cases hc; done) | (subst hy; first | (change Reach _ _ _ _ _ _; refine Ht hC _ _ _ _ _ ?_ <;> exact hc) | rfl)

abbrev zd2:Nat→zY:=fun _=>{ }
theorem Ud:zA (il).P 218 Tryz.f218 1:=aL (by kernel_rfl)
theorem zcZ (x0:Sem Sh.expr):rn il 0 zd2 Tryz.f218 [zz Sh.expr x0] []=Tr.ok (zt.ret (AV.bool (bif ze.op x0==[] then bif (ze.v x0).1==0&&((ze.v x0).2.1==0&&((ze.v x0).2.2==[]&&true)) then bif ze.s x0==[] then (↑(ze.l x0).length:Int)==0 else false else false else false)) []):=by kernel_rfl
def gN (x0:Sem Sh.expr):Sem Sh.bool:=(bif ze.op x0==[] then bif (ze.v x0).1==0&&((ze.v x0).2.1==0&&((ze.v x0).2.2==[]&&true)) then bif ze.s x0==[] then (↑(ze.l x0).length:Int)==0 else false else false else false)
def Zq:zD:=ao [Sh.expr] [Sh.bool] fun x=>(gN x.1,())
theorem UP:FK 218 Zq:=by
 refine zP (Ud) fun x C hC=>?_
 refine zk fC (Ud) (fun id _=>hC id) (zcZ x.1) ?_
 generalize hy:gN x.1=y
 unfold gN at hy
 try simp only [ze.eta,zn]
 repeat' (first | with_reducible refine aR hy (fun _ hy=>?_) (fun _ hy=>?_) | with_reducible refine zr ?_)
 all_goals first | (cases hc; done) | (subst hy; first | rfl)

abbrev zd3:Nat→zY:=fun _=>{ }
theorem Ue:zA (il).P 228 Tryz.f228 1:=aL (by kernel_rfl)
theorem zc1 (x0:Sem zi):rn il 0 zd3 Tryz.f228 [zz zi x0] []=Tr.br x0.2.2 (Tr.chk (decide (length x0.1+[32].length≤1099511627776)&&(zF (IntKind.i64.wrap (x0.2.1 - 1)) 3&&bif IntKind.i64.wrap (x0.2.1 - 1)==(↑0:Int) then decide (length (x0.1++[32])+[73,78,84].length≤1099511627776)&&decide (length (x0.1++[32]++[73,78,84])+[32,78,79,84,32,78,85,76,76].length≤1099511627776) else bif IntKind.i64.wrap (x0.2.1 - 1)==(↑(0+1):Int) then decide (length (x0.1++[32])+[84,69,88,84].length≤1099511627776)&&decide (length (x0.1++[32]++[84,69,88,84])+[32,78,79,84,32,78,85,76,76].length≤1099511627776) else decide (length (x0.1++[32])+[66,79,79,76].length≤1099511627776)&&decide (length (x0.1++[32]++[66,79,79,76])+[32,78,79,84,32,78,85,76,76].length≤1099511627776))) (Tr.ok (zt.ret (AV.str (bif IntKind.i64.wrap (x0.2.1 - 1)==(↑0:Int) then x0.1++[32]++[73,78,84]++[32,78,79,84,32,78,85,76,76] else bif IntKind.i64.wrap (x0.2.1 - 1)==(↑(0+1):Int) then x0.1++[32]++[84,69,88,84]++[32,78,79,84,32,78,85,76,76] else x0.1++[32]++[66,79,79,76]++[32,78,79,84,32,78,85,76,76])) []))) (Tr.chk (decide (length x0.1+[32].length≤1099511627776)&&(zF (IntKind.i64.wrap (x0.2.1 - 1)) 3&&
 bif IntKind.i64.wrap (x0.2.1 - 1)==(↑0:Int) then decide (length (x0.1++[32])+[73,78,84].length≤1099511627776) else bif IntKind.i64.wrap (x0.2.1 - 1)==(↑(0+1):Int) then decide (length (x0.1++[32])+[84,69,88,84].length≤1099511627776) else decide (length (x0.1++[32])+[66,79,79,76].length≤1099511627776))) (Tr.ok (zt.ret (AV.str (bif IntKind.i64.wrap (x0.2.1 - 1)==(↑0:Int) then x0.1++[32]++[73,78,84] else bif IntKind.i64.wrap (x0.2.1 - 1)==(↑(0+1):Int) then x0.1++[32]++[84,69,88,84] else x0.1++[32]++[66,79,79,76])) []))):=by kernel_rfl
def dC (x0:Sem zi):Sem Sh.str:=(if x0.2.2=true then bif IntKind.i64.wrap (x0.2.1 - 1)==(↑0:Int) then x0.1++[32]++[73,78,84]++[32,78,79,84,32,78,85,76,76] else bif IntKind.i64.wrap (x0.2.1 - 1)==(↑(0+1):Int) then x0.1++[32]++[84,69,88,84]++[32,78,79,84,32,78,85,76,76] else x0.1++[32]++[66,79,79,76]++[32,78,79,84,32,78,85,76,76] else bif IntKind.i64.wrap (x0.2.1 - 1)==(↑0:Int) then x0.1++[32]++[73,78,84] else bif IntKind.i64.wrap (x0.2.1 - 1)==(↑(0+1):Int) then x0.1++[32]++[84,69,88,84] else x0.1++[32]++[66,79,79,76])
def gK (x0:Sem zi):Bool:=(if x0.2.2=true then if (decide (length x0.1+[32].length≤1099511627776)&&(zF (IntKind.i64.wrap (x0.2.1 - 1)) 3&&bif IntKind.i64.wrap (x0.2.1 - 1)==(↑0:Int) then decide (length (x0.1++[32])+[73,78,84].length≤1099511627776)&&decide (length (x0.1++[32]++[73,78,84])+[32,78,79,84,32,78,85,76,76].length≤1099511627776) else bif IntKind.i64.wrap (x0.2.1 - 1)==(↑(0+1):Int) then decide (length (x0.1++[32])+[84,69,88,84].length≤1099511627776)&&decide (length (x0.1++[32]++[84,69,88,84])+[32,78,79,84,32,78,85,76,76].length≤1099511627776) else decide (length (x0.1++[32])+[66,79,79,76].length≤1099511627776)&&decide (length (x0.1++[32]++[66,79,79,76])+[32,78,79,84,32,78,85,76,76].length≤1099511627776)))=true then true else false else if (decide (length x0.1+[32].length≤1099511627776)&&(zF (IntKind.i64.wrap (x0.2.1 - 1)) 3&&bif IntKind.i64.wrap (x0.2.1 - 1)==(↑0:Int) then decide (length (x0.1++[32])+[73,78,84].length≤1099511627776) else bif IntKind.i64.wrap (x0.2.1 - 1)==(↑(0+1):Int) then decide (length (x0.1++[32])+[84,69,88,84].length≤1099511627776) else decide (length (x0.1++[32])+[66,79,79,76].length≤1099511627776)))=true then true else false)
def Zv:zD:=zC [zi] [Sh.str] (fun x=>gK x.1) fun x=>(dC x.1,())
theorem UU:FK 228 Zv:=by
 refine zM (Ue) fun x hc C hC=>?_
 unfold gK at hc
 refine zk fC (Ue) (fun id _=>hC id) (zc1 x.1) ?_
 generalize hy:dC x.1=y
 unfold dC at hy
 try simp only [ze.eta,zn]
 repeat' (first | with_reducible refine eY hy hc (fun _ hy hc=>?_) (fun _ hy hc=>?_) | with_reducible refine aR hy (fun _ hy=>?_) (fun _ hy=>?_) | with_reducible refine bm hc (fun hc=>?_) | with_reducible refine zr ?_)
 all_goals first | (cases hc; done) | (subst hy; first | rfl)

abbrev ziw:Nat→zY:=fun _=>{ }
theorem zfs:zA (il).P 157 Tryz.f157 1:=aL (by kernel_rfl)
theorem zhN (x0:TS):rn il 0 ziw Tryz.f157 [zz Sh.str x0] []=Tr.ok (zt.ret (AV.str x0) []):=by kernel_rfl
def lI (x0:TS):Sem Sh.str:=(x0)
def F88:zD:=ao [Sh.str] [Sh.str] fun x=>(lI x.1,())
theorem zbV:FK 157 F88:=by
 refine zP (zfs) fun x C hC=>?_
 refine zk fC (zfs) (fun id _=>hC id) (zhN x.1) ?_
 generalize hy:lI x.1=y
 unfold lI at hy
 try simp only [ze.eta,zn]
 repeat' (first | with_reducible refine aR hy (fun _ hy=>?_) (fun _ hy=>?_) | with_reducible refine zr ?_)
 all_goals first | (cases hc; done) | (subst hy; first | rfl)

abbrev zir:Nat→zY:=fun _=>{ }
theorem zfm:zA (il).P 149 Tryz.f149 1:=aL (by kernel_rfl)
theorem zhI (x0:TS):rn il 0 zir Tryz.f149 [zz Sh.str x0] []=Tr.ok (zt.ret (AV.bool (bif dA x0 then !oU x0 else false)) []):=by kernel_rfl
def bL (x0:TS):Sem Sh.bool:=(bif dA x0 then !oU x0 else false)
def F80:zD:=ao [Sh.str] [Sh.bool] fun x=>(bL x.1,())
theorem zbN:FK 149 F80:=by
 refine zP (zfm) fun x C hC=>?_
 refine zk fC (zfm) (fun id _=>hC id) (zhI x.1) ?_
 generalize hy:bL x.1=y
 unfold bL at hy
 try simp only [ze.eta,zn]
 repeat' (first | with_reducible refine aR hy (fun _ hy=>?_) (fun _ hy=>?_) | with_reducible refine zr ?_)
 all_goals first | (cases hc; done) | (subst hy; first | rfl)

abbrev zeg:Nat→zY:=fun _=>{ unroll:=true }
theorem Uh:zA (il).P 169 Tryz.f169 1:=aL (by kernel_rfl)
theorem zdb (x0:Sem dY):rn il 0 zeg Tryz.f169 [zz dY x0] []=Tr.br (x0.1==3) (Tr.ok (zt.ret (AV.bool (dS (2,0,x0.2))) [])) (Tr.br (x0.1==4) (Tr.chk (bif (↑(length x0.2):Int)==1 then length x0.2==1 else true) (Tr.ok (zt.ret (AV.bool (bif (↑(length x0.2):Int)==1 then decide (0≤Lib.indexByte [40,41,44,61,60,43,45,42] (List.headD x0.2 0)) else false)) []))) (Tr.br true (Tr.chk true (Tr.br (1==x0.1) (Tr.ok (zt.ret (AV.bool (bif decide ((↑(length x0.2):Int) ≥ 1) then bif decide ((↑(length x0.2):Int)≤16) then (↑(aw aF bV x0.2):Int)==(↑(length x0.2):Int) else false else false)) [])) (Tr.br true (Tr.chk true (Tr.br (2==x0.1) (Tr.ok (zt.ret (AV.bool (bif decide ((↑(length x0.2):Int) ≥ 1) then bif decide ((↑(length x0.2):Int)≤19) then (↑(aw zQ zQ x0.2):Int)==(↑(length x0.2):Int) else false else false)) [])) (Tr.br false Tr.err (Tr.ok (zt.ret (AV.kb false) []))))) (Tr.ok (zt.ret (AV.kb false) []))))) (Tr.ok (zt.ret (AV.kb false) [])))):=by kernel_rfl
def fy (x0:Sem dY):Sem Sh.bool:=(if (x0.1==3)=true then dS (2,0,x0.2) else if (x0.1==4)=true then bif (↑(length x0.2):Int)==1 then decide (0≤Lib.indexByte [40,41,44,61,60,43,45,42] (List.headD x0.2 0)) else false else if true=true then if (1==x0.1)=true then bif decide ((↑(length x0.2):Int) ≥ 1) then bif decide ((↑(length x0.2):Int)≤16) then (↑(aw aF bV x0.2):Int)==(↑(length x0.2):Int) else false else false else if true=true then if (2==x0.1)=true then bif decide ((↑(length x0.2):Int) ≥ 1) then bif decide ((↑(length x0.2):Int)≤19) then (↑(aw zQ zQ x0.2):Int)==(↑(length x0.2):Int) else false else false else if false=true then default else false else false else false)
def nD (x0:Sem dY):Bool:=(if (x0.1==3)=true then true else if (x0.1==4)=true then if (bif (↑(length x0.2):Int)==1 then length x0.2==1 else true)=true then true else false else if true=true then if true=true then if (1==x0.1)=true then true else if true=true then if true=true then if (2==x0.1)=true then true else if false=true then false else true else false else true else false else true)
def zag:zD:=zC [dY] [Sh.bool] (fun x=>nD x.1) fun x=>(fy x.1,())
theorem VK:FK 169 zag:=by
 refine zM (Uh) fun x hc C hC=>?_
 unfold nD at hc
 refine zk fC (Uh) (fun id _=>hC id) (zdb x.1) ?_
 generalize hy:fy x.1=y
 unfold fy at hy
 try simp only [ze.eta,zn]
 repeat' (first | with_reducible refine eY hy hc (fun _ hy hc=>?_) (fun _ hy hc=>?_) | with_reducible refine aR hy (fun _ hy=>?_) (fun _ hy=>?_) | with_reducible refine bm hc (fun hc=>?_) | with_reducible refine zr ?_)
 all_goals first | (cases hc; done) | (subst hy; first | rfl)

noncomputable def dw:=il.addL [(235,ZA),(218,Zq),(228,Zv),(157,F88),(149,F80),(169,zag)]
theorem ch:zm dw:=fC.addL <| fc UZ <| fc UP <| fc UU <| fc zbV <| fc zbN <| fc VK gZ

abbrev ziu:Nat→zY:=fun _=>{ }
theorem zfq:zA (dw).P 154 Tryz.f154 1:=aL (by kernel_rfl)
theorem zhL (x0:Sem Sh.expr):rn dw 0 ziu Tryz.f154 [zz Sh.expr x0] []=Tr.ok (zt.ret (AV.bool (bif gN (zB x0) then true else gg (zB x0))) []):=by kernel_rfl
def kQ (x0:Sem Sh.expr):Sem Sh.bool:=(bif gN x0 then true else gg x0)
def F85:zD:=ao [Sh.expr] [Sh.bool] fun x=>(kQ x.1,())
theorem zbS:FK 154 F85:=by
 refine zP (zfq) fun x C hC=>?_
 refine zk ch (zfq) (fun id _=>hC id) (zhL x.1) ?_
 generalize hy:kQ x.1=y
 unfold kQ at hy
 try simp only [ze.eta]
 repeat' (first | with_reducible refine aR hy (fun _ hy=>?_) (fun _ hy=>?_) | with_reducible refine zr ?_)
 all_goals first | (cases hc; done) | (subst hy; first | rfl)

abbrev zd0:Nat→zY:=fun _=>{ }
theorem Ub:zA (dw).P 210 Tryz.f210 1:=aL (by kernel_rfl)
theorem zcX (x0:Sem zi):rn dw 0 zd0 Tryz.f210 [zz zi x0] []=Tr.ok (zt.ret (AV.bool (bif bL x0.1 then bif decide (x0.2.1 ≥ 1) then decide (x0.2.1≤3) else false else false)) []):=by kernel_rfl
def js (x0:Sem zi):Sem Sh.bool:=(bif bL x0.1 then bif decide (x0.2.1 ≥ 1) then decide (x0.2.1≤3) else false else false)
def Zh:zD:=ao [zi] [Sh.bool] fun x=>(js x.1,())
theorem UG:FK 210 Zh:=by
 refine zP (Ub) fun x C hC=>?_
 refine zk ch (Ub) (fun id _=>hC id) (zcX x.1) ?_
 generalize hy:js x.1=y
 unfold js at hy
 try simp only [ze.eta,zn]
 repeat' (first | with_reducible refine aR hy (fun _ hy=>?_) (fun _ hy=>?_) | with_reducible refine zr ?_)
 all_goals first | (cases hc; done) | (subst hy; first | rfl)

abbrev zd1:Nat→zY:=fun _=>{ }
theorem Uc:zA (dw).P 211 Tryz.f211 1:=aL (by kernel_rfl)
theorem zcY (x0:Sem bG):rn dw 0 zd1 Tryz.f211 [zz bG x0] []=Tr.ok (zt.ret (AV.bool (bif bL x0.1 then bL x0.2 else false)) []):=by kernel_rfl
def sD (x0:Sem bG):Sem Sh.bool:=(bif bL x0.1 then bL x0.2 else false)
def Zi:zD:=ao [bG] [Sh.bool] fun x=>(sD x.1,())
theorem UH:FK 211 Zi:=by
 refine zP (Uc) fun x C hC=>?_
 refine zk ch (Uc) (fun id _=>hC id) (zcY x.1) ?_
 generalize hy:sD x.1=y
 unfold sD at hy
 try simp only [ze.eta,zn]
 repeat' (first | with_reducible refine aR hy (fun _ hy=>?_) (fun _ hy=>?_) | with_reducible refine zr ?_)
 all_goals first | (cases hc; done) | (subst hy; first | rfl)

abbrev zit:Nat→zY:=fun _=>{ }
theorem zfo:zA (dw).P 152 Tryz.f152 1:=aL (by kernel_rfl)
theorem zhK (x0:Sem aK):rn dw 0 zit Tryz.f152 [zz aK x0] []=Tr.ok (zt.ret (AV.bool (bif bL x0.1 then gg (zB x0.2) else false)) []):=by kernel_rfl
def xx (x0:Sem aK):Sem Sh.bool:=(bif bL x0.1 then gg x0.2 else false)
def F83:zD:=ao [aK] [Sh.bool] fun x=>(xx x.1,())
theorem zbQ:FK 152 F83:=by
 refine zP (zfo) fun x C hC=>?_
 refine zk ch (zfo) (fun id _=>hC id) (zhK x.1) ?_
 generalize hy:xx x.1=y
 unfold xx at hy
 try simp only [ze.eta]
 repeat' (first | with_reducible refine aR hy (fun _ hy=>?_) (fun _ hy=>?_) | with_reducible refine zr ?_)
 all_goals first | (cases hc; done) | (subst hy; first | rfl)

abbrev ziy:Nat→zY:=fun _=>{ }
theorem zfu:zA (dw).P 161 Tryz.f161 1:=aL (by kernel_rfl)
theorem zhQ (x0:Sem zf):rn dw 0 ziy Tryz.f161 [zz zf x0] []=Tr.br (!dS x0) (Tr.ok (zt.ret (AV.str []) [])) (Tr.br (x0.1==1) (Tr.chk (10==10) (Tr.ok (zt.ret (AV.str (nZ x0.2.1)) []))) (Tr.br (x0.1==2) (Tr.chk (qd x0.2.2 [39] [39,39]) (Tr.chk (decide ([39].length+(Lib.replaceAll x0.2.2 [39] [39,39]).length≤1099511627776)) (Tr.chk (decide (length ([39]++Lib.replaceAll x0.2.2 [39] [39,39])+[39].length≤1099511627776)) (Tr.ok (zt.ret (AV.str ([39]++Lib.replaceAll x0.2.2 [39] [39,39]++[39])) []))))) (Tr.br (x0.1==3) (Tr.br (ee x0==2) (Tr.ok (zt.ret (AV.str [84,82,85,69]) [])) (Tr.ok (zt.ret (AV.str [70,65,76,83,69]) []))) (Tr.ok (zt.ret (AV.str [78,85,76,76]) []))))):=by kernel_rfl
def eD (x0:Sem zf):Sem Sh.str:=(if (!dS x0)=true then [] else if (x0.1==1)=true then nZ x0.2.1 else if (x0.1==2)=true then [39]++Lib.replaceAll x0.2.2 [39] [39,39]++[39] else if (x0.1==3)=true then if (ee x0==2)=true then [84,82,85,69] else [70,65,76,83,69] else [78,85,76,76])
def ln (x0:Sem zf):Bool:=(if (!dS x0)=true then true else if (x0.1==1)=true then if (10==10)=true then true else false else if (x0.1==2)=true then if qd x0.2.2 [39] [39,39]=true then if decide ([39].length+(Lib.replaceAll x0.2.2 [39] [39,39]).length≤1099511627776)=true then if decide (length ([39]++Lib.replaceAll x0.2.2 [39] [39,39])+[39].length≤1099511627776)=true then true else false else false else false else true)
def F92:zD:=zC [zf] [Sh.str] (fun x=>ln x.1) fun x=>(eD x.1,())
theorem zb0:FK 161 F92:=by
 refine zM (zfu) fun x hc C hC=>?_
 unfold ln at hc
 refine zk ch (zfu) (fun id _=>hC id) (zhQ x.1) ?_
 generalize hy:eD x.1=y
 unfold eD at hy
 try simp only [ze.eta,zn]
 repeat' (first | with_reducible refine eY hy hc (fun _ hy hc=>?_) (fun _ hy hc=>?_) | with_reducible refine aR hy (fun _ hy=>?_) (fun _ hy=>?_) | with_reducible refine bm hc (fun hc=>?_) | with_reducible refine zr ?_)
 all_goals first | (cases hc; done) | (subst hy; first | rfl)

abbrev ziv:Nat→zY:=fun _=>{ }
theorem zfr:zA (dw).P 156 Tryz.f156 1:=aL (by kernel_rfl)
theorem zhM (x0:Sem zp):rn dw 0 ziv Tryz.f156 [zz zp x0] []=Tr.chk (decide (length x0.2.1+length x0.2.2.1≤1099511627776)) (Tr.chk (decide (length (x0.2.1++x0.2.2.1)+length x0.2.2.2.2.2.1≤1099511627776)) (Tr.chk (decide (length (x0.2.1++x0.2.2.1++x0.2.2.2.2.2.1)+length x0.2.2.2.2.2.2.2.2.2.2.2.2≤1099511627776)) (Tr.ok (zt.ret (AV.bool (bif x0.2.1++x0.2.2.1++x0.2.2.2.2.2.1++x0.2.2.2.2.2.2.2.2.2.2.2.2==[] then bif IntKind.i64.wrap (IntKind.i64.wrap (IntKind.i64.wrap (IntKind.i64.wrap (IntKind.i64.wrap ((↑(length x0.2.2.2.1):Int)+(↑(length x0.2.2.2.2.1):Int))+(↑(length x0.2.2.2.2.2.2.1):Int))+(↑(length x0.2.2.2.2.2.2.2.1):Int))+(↑(length x0.2.2.2.2.2.2.2.2.2.1):Int))+(↑(length x0.2.2.2.2.2.2.2.2.2.2.1):Int))==0 then bif gN (zB x0.2.2.2.2.2.2.2.2.1) then gN (zB x0.2.2.2.2.2.2.2.2.2.2.2.1) else false else false else false)) [])))):=by kernel_rfl
def fx (x0:Sem zp):Sem Sh.bool:=(bif x0.2.1++x0.2.2.1++x0.2.2.2.2.2.1++x0.2.2.2.2.2.2.2.2.2.2.2.2==[] then bif IntKind.i64.wrap (IntKind.i64.wrap (IntKind.i64.wrap (IntKind.i64.wrap (IntKind.i64.wrap ((↑(length x0.2.2.2.1):Int)+(↑(length x0.2.2.2.2.1):Int))+(↑(length x0.2.2.2.2.2.2.1):Int))+(↑(length x0.2.2.2.2.2.2.2.1):Int))+(↑(length x0.2.2.2.2.2.2.2.2.2.1):Int))+(↑(length x0.2.2.2.2.2.2.2.2.2.2.1):Int))==0 then bif gN x0.2.2.2.2.2.2.2.2.1 then gN x0.2.2.2.2.2.2.2.2.2.2.2.1 else false else false else false)
def dg (x0:Sem zp):Bool:=(if decide (length x0.2.1+length x0.2.2.1≤1099511627776)=true then if decide (length (x0.2.1++x0.2.2.1)+length x0.2.2.2.2.2.1≤1099511627776)=true then if decide (length (x0.2.1++x0.2.2.1++x0.2.2.2.2.2.1)+length x0.2.2.2.2.2.2.2.2.2.2.2.2≤1099511627776)=true then true else false else false else false)
def F87:zD:=zC [zp] [Sh.bool] (fun x=>dg x.1) fun x=>(fx x.1,())
theorem zbU:FK 156 F87:=by
 refine zM (zfr) fun x hc C hC=>?_
 unfold dg at hc
 refine zk ch (zfr) (fun id _=>hC id) (zhM x.1) ?_
 generalize hy:fx x.1=y
 unfold fx at hy
 try simp only [ze.eta]
 repeat' (first | with_reducible refine eY hy hc (fun _ hy hc=>?_) (fun _ hy hc=>?_) | with_reducible refine aR hy (fun _ hy=>?_) (fun _ hy=>?_) | with_reducible refine bm hc (fun hc=>?_) | with_reducible refine zr ?_)
 all_goals first | (cases hc; done) | (subst hy; first | rfl)

abbrev ziD:Nat→zY:=fun _=>{ unroll:=true }
theorem zfz:zA (dw).P 168 Tryz.f168 1:=aL (by kernel_rfl)
theorem zhX (x0:TS):rn dw 0 ziD Tryz.f168 [zz Sh.str x0] []=Tr.br true (Tr.chk true (Tr.br (decide ((↑(aw aF bV x0):Int) > 0)) (Tr.chk (decide (0≤0)&&decide (0≤(↑(aw aF bV x0):Int))&&decide ((↑(aw aF bV x0):Int)≤(↑(length x0):Int))) (Tr.ok (zt.ret (AV.tup [AV.agg [ai 1,AV.str (List.take ((↑(aw aF bV x0):Int).toNat - toNat 0) (List.drop (toNat 0) x0))],ai (↑(aw aF bV x0):Int)]) []))) (Tr.br true (Tr.chk true (Tr.br (decide ((↑(aw zQ zQ x0):Int) > 0)) (Tr.chk (decide (0≤0)&&decide (0≤(↑(aw zQ zQ x0):Int))&&decide ((↑(aw zQ zQ x0):Int)≤(↑(length x0):Int))) (Tr.ok (zt.ret (AV.tup [AV.agg [ai 2,AV.str (List.take ((↑(aw zQ zQ x0):Int).toNat - toNat 0) (List.drop (toNat 0) x0))],ai (↑(aw zQ zQ x0):Int)]) []))) (Tr.br false Tr.err (Tr.chk (zF 0 (length x0)) (Tr.br ((↑(getD x0 (toNat 0) 0).toNat:Int)==39) (Tr.chk (iF x0) (Tr.ok (zt.ret (AV.tup [AV.agg [ai (quoted x0).1.1,AV.str (quoted x0).1.2],ai (quoted x0).2]) []))) (Tr.chk (decide (0≤0)&&decide (0≤1)&&decide (1≤(↑(length x0):Int))) (Tr.ok (zt.ret (AV.tup
 [AV.agg [ai 4,AV.str (List.take (toNat 1 - toNat 0) (List.drop (toNat 0) x0))],ai 1]) [])))))))) (Tr.chk (zF 0 (length x0)) (Tr.br ((↑(getD x0 (toNat 0) 0).toNat:Int)==39) (Tr.chk (iF x0) (Tr.ok (zt.ret (AV.tup [AV.agg [ai (quoted x0).1.1,AV.str (quoted x0).1.2],ai (quoted x0).2]) []))) (Tr.chk (decide (0≤0)&&decide (0≤1)&&decide (1≤(↑(length x0):Int))) (Tr.ok (zt.ret (AV.tup [AV.agg [ai 4,AV.str (List.take (toNat 1 - toNat 0) (List.drop (toNat 0) x0))],ai 1]) [])))))))) (Tr.chk (zF 0 (length x0)) (Tr.br ((↑(getD x0 (toNat 0) 0).toNat:Int)==39) (Tr.chk (iF x0) (Tr.ok (zt.ret (AV.tup [AV.agg [ai (quoted x0).1.1,AV.str (quoted x0).1.2],ai (quoted x0).2]) []))) (Tr.chk (decide (0≤0)&&decide (0≤1)&&decide (1≤(↑(length x0):Int))) (Tr.ok (zt.ret (AV.tup [AV.agg [ai 4,AV.str (List.take (toNat 1 - toNat 0) (List.drop (toNat 0) x0))],ai 1]) []))))):=by kernel_rfl
def aV (x0:TS):Sem dY×Sem zg:=(if true=true then if decide ((↑(aw aF bV x0):Int) > 0)=true then ((1,List.take ((↑(aw aF bV x0):Int).toNat - toNat 0) (List.drop (toNat 0) x0)),(↑(aw aF bV x0):Int)) else if true=true then if decide ((↑(aw zQ zQ x0):Int) > 0)=true then ((2,List.take ((↑(aw zQ zQ x0):Int).toNat - toNat 0) (List.drop (toNat 0) x0)),(↑(aw zQ zQ x0):Int)) else if false=true then default else if ((↑(getD x0 (toNat 0) 0).toNat:Int)==39)=true then ((quoted x0).1,(quoted x0).2) else ((4,List.take (toNat 1 - toNat 0) (List.drop (toNat 0) x0)),1) else if ((↑(getD x0 (toNat 0) 0).toNat:Int)==39)=true then ((quoted x0).1,(quoted x0).2) else ((4,List.take (toNat 1 - toNat 0) (List.drop (toNat 0) x0)),1) else if ((↑(getD x0 (toNat 0) 0).toNat:Int)==39)=true then ((quoted x0).1,(quoted x0).2) else ((4,List.take (toNat 1 - toNat 0) (List.drop (toNat 0) x0)),1))
def iV (x0:TS):Bool:=(if true=true then if true=true then if decide ((↑(aw aF bV x0):Int) > 0)=true then if (decide (0≤0)&&decide (0≤(↑(aw aF bV x0):Int))&&decide ((↑(aw aF bV x0):Int)≤(↑(length x0):Int)))=true then true else false else if true=true then if true=true then if decide ((↑(aw zQ zQ x0):Int) > 0)=true then if (decide (0≤0)&&decide (0≤(↑(aw zQ zQ x0):Int))&&decide ((↑(aw zQ zQ x0):Int)≤(↑(length x0):Int)))=true then true else false else if false=true then false else if zF 0 (length x0)=true then if ((↑(getD x0 (toNat 0) 0).toNat:Int)==39)=true then if iF x0=true then true else false else if (decide (0≤0)&&decide (0≤1)&&decide (1≤(↑(length x0):Int)))=true then true else false else false else false else if zF 0 (length x0)=true then if ((↑(getD x0 (toNat 0) 0).toNat:Int)==39)=true then if iF x0=true then true else false else if (decide (0≤0)&&decide (0≤1)&&decide (1≤(↑(length x0):Int)))=true then true else false else false else false else if zF 0 (length x0)=true then if ((↑(getD x0 (toNat 0) 0).toNat:Int)==39)=true then if iF x0=true then true else false else if (decide (0≤0)&&decide (0≤1)&&decide (1≤(↑(length x0):Int)))=true then true else false else false)
def F99:zD:=zC [Sh.str] [dY,zg] (fun x=>iV x.1) fun x=>((aV x.1).1,(aV x.1).2,())
theorem zb7:FK 168 F99:=by
 refine zM (zfz) fun x hc C hC=>?_
 unfold iV at hc
 refine zk ch (zfz) (fun id _=>hC id) (zhX x.1) ?_
 generalize hy:aV x.1=y
 unfold aV at hy
 try simp only [ze.eta,zn]
 repeat' (first | with_reducible refine eY hy hc (fun _ hy hc=>?_) (fun _ hy hc=>?_) | with_reducible refine aR hy (fun _ hy=>?_) (fun _ hy=>?_) | with_reducible refine bm hc (fun hc=>?_) | with_reducible refine zr ?_)
 all_goals first | (cases hc; done) | (subst hy; first | rfl)

abbrev TX:Nat→zY:=fun j=>if j=3 then { slots:=[1,5,8,9,10],prom:=[(5,none,.str)] } else { }
abbrev xl (l8:LC) (i9:Int) (i10:Int) (lh_0:LS):St:={ tmps:=(tm 23 [(1,AV.clo (Fn.func 228) [] []),(5,AV.vec 0),(8,AV.sl zi l8),(9,ai i9),(10,ai i10)]),heap:=[AO.vec Sh.str lh_0] }
theorem Ia:zA (dw).P 227 Tryz.f227 2:=aL (by kernel_rfl)
theorem zc0 (x0:Sem zi.sl):rn dw 0 TX Tryz.f227 [zz zi.sl x0,AV.clo (Fn.func 228) [] []] []=Tr.ok (zt.head 3 (zy Tryz.f227 3) (xl x0 (↑(length x0):Int) 0 [])):=by kernel_rfl
theorem Ik (l8:LC) (i9:Int) (i10:Int) (lh_0:LS):rh dw 0 TX Tryz.f227 3 (xl l8 i9 i10 lh_0)=Tr.br (decide (i10 < i9)) (Tr.chk (zF i10 l8.length) (Tr.chk (gK (l8.getD i10.toNat (zj zi))) (Tr.chk (decide (lh_0.length+[dC (l8.getD i10.toNat (zj zi))].length≤1073741824)) (Tr.ok (zt.head 3 (zy Tryz.f227 3) (xl l8 i9 (IntKind.i64.wrap (i10+1)) (lh_0++[dC (l8.getD i10.toNat (zj zi))]))))))) (Tr.chk (decide (lh_0.length≤140737488355328)&&decide ((Lib.join lh_0 [32,44,32]).length≤140737488355328)) (Tr.ok (zt.ret (AV.str (Lib.join lh_0 [32,44,32])) []))):=by kernel_rfl
def cD:List (Sem zi)→Int→List (Sem Sh.str)→Sem Sh.str
 | [],_,lh_0=>(Lib.join lh_0 [32,44,32])
 | x::r,i10,lh_0=>(cD r (i10+1) (lh_0++[dC x]))
def cS:List (Sem zi)→Int→List (Sem Sh.str)→Bool
 | [],_,lh_0=>(if (decide (lh_0.length≤140737488355328)&&decide ((Lib.join lh_0 [32,44,32]).length≤140737488355328))=true then true else false)
 | x::r,i10,lh_0=>(if gK x=true then if decide (lh_0.length+[dC x].length≤1073741824)=true then cS r (i10+1) (lh_0++[dC x]) else false
else false)
theorem Qa {C:cr} (hC:∀ id,C.ρ0 id=none) (l8:LC) (hl:l8.length≤zE):∀ (m i:Nat) (lh_0:LS),l8.length - i=m→i≤l8.length→cS (l8.drop i) i lh_0=true→
  Reach (dw) C 227 (zy Tryz.f227 3) (xl l8 (l8.length:Int) (i:Int) lh_0) (fun r h=>ae h [Sh.str] r=some (cD (l8.drop i) i lh_0,())):=by
 intro m
 induction m with
 | zero=>
  intro i lh_0 hm hi hc
  obtain rfl:i=l8.length:=by omega
  rw [dj] at hc ⊢
  refine zk ch (Ia) (fun id _=>hC id) (Ik _ _ _ _) ?_
  rw [cS] at hc
  generalize hy:cD [] _ lh_0=y
  rw [cD] at hy
  simp only [ag,Tr.val_brF]
  repeat' (first | with_reducible refine eY hy hc (fun _ hy hc=>?_) (fun _ hy hc=>?_) | with_reducible refine aR hy (fun _ hy=>?_) (fun _ hy=>?_) | with_reducible refine bm hc (fun hc=>?_) | with_reducible refine zr ?_)
  all_goals first | (cases hc; done) | (subst hy; first | rfl)
 | succ m IH=>
  intro i lh_0 hm hi hc
  have hlt:i < l8.length:=by omega
  have IH:=IH (i+1)
  have hcast:((i:Int)+1)=((i+1:Nat):Int):=by omega
  have hwr:=zH i (by omega)
  rw [dB hlt] at hc ⊢
  refine zk ch (Ia) (fun id _=>hC id) (Ik _ _ _ _) ?_
  rw [cS] at hc
  generalize hy:cD (l8[i]::l8.drop (i+1)) (i:Int) lh_0=y
  rw [cD] at hy
  simp only [zX hlt,zG hlt,ac l8 _ hlt,hwr,Tr.val_brT,Tr.val_chkT]
  clear hwr
  try simp only [zG hlt] at hy
  simp only [hcast] at hy
  try simp only [zG hlt] at hc
  try simp only [hcast] at hc
  repeat' (first | with_reducible refine eY hy hc (fun _ hy hc=>?_) (fun _ hy hc=>?_) | with_reducible refine aR hy (fun _ hy=>?_) (fun _ hy=>?_) | with_reducible refine bm hc (fun hc=>?_) | with_reducible refine zr ?_)
  all_goals first | (cases hc; done) | (subst hy; first | (change Reach _ _ _ _ _ _; apply IH <;> first | omega | assumption) | rfl)
theorem K3 {C:cr} (hC:∀ id,C.ρ0 id=none) (l8:LC) (lh_0:LS) (hc:cS l8 0 lh_0=true):
  Reach (dw) C 227 (zy Tryz.f227 3) (xl l8 (l8.length:Int) 0 lh_0) (fun r h=>ae h [Sh.str] r=some (cD l8 0 lh_0,())):=
 Reach.len 8 (zi) l8 rfl fun hl=>Qa hC l8 hl _ 0 lh_0 rfl (aE _) hc
def dl (x0:Sem zi.sl):Sem Sh.str:=(cD x0 0 [])
def iN (x0:Sem zi.sl):Bool:=(cS x0 0 [])
def Zu:zD:=wy [zi.sl] [Sh.str] [(228,(fun x=>iN x.1),fun x=>(dl x.1,()))]
theorem UT:FK 227 Zu:=by
 refine kJ (Ia) fun j c g hm x hc C hC=>?_
 simp only [bd,bv] at hm
 obtain ⟨rfl,rfl,rfl⟩:=hm
 replace hc:iN x.1=true:=hc
 unfold iN at hc
 refine zk ch (Ia) (fun id _=>hC id) (zc0 x.1) ?_
 generalize hy:dl x.1=y
 unfold dl at hy
 repeat' (first | with_reducible refine eY hy hc (fun _ hy hc=>?_) (fun _ hy hc=>?_) | with_reducible refine aR hy (fun _ hy=>?_) (fun _ hy=>?_) | with_reducible refine bm hc (fun hc=>?_) | with_reducible refine zr ?_)
 all_goals first | (cases hc; done) | (subst hy; first | (change Reach _ _ _ _ _ _; apply K3 hC <;> first | assumption | exact hc) | rfl)

abbrev zeA:Nat→zY:=fun j=>if j=3 then { slots:=[1,5,8,9,10],prom:=[(5,none,.str)] } else { }
abbrev E1 (l8:LS) (i9:Int) (i10:Int) (lh_0:LS):St:={ tmps:=(tm 23 [(1,AV.clo (Fn.func 157) [] []),(5,AV.vec 0),(8,AV.sl Sh.str l8),(9,ai i9),(10,ai i10)]),heap:=[AO.vec Sh.str lh_0] }
theorem Re:zA (dw).P 166 Tryz.f166 2:=aL (by kernel_rfl)
theorem zhV (x0:Sem Sh.str.sl):rn dw 0 zeA Tryz.f166 [zz Sh.str.sl x0,AV.clo (Fn.func 157) [] []] []=Tr.ok (zt.head 3 (zy Tryz.f166 3) (E1 x0 (↑(length x0):Int) 0 [])):=by kernel_rfl
theorem NM (l8:LS) (i9:Int) (i10:Int) (lh_0:LS):rh dw 0 zeA Tryz.f166 3 (E1 l8 i9 i10 lh_0)=Tr.br (decide (i10 < i9)) (Tr.chk (zF i10 l8.length) (Tr.chk (decide (lh_0.length+[lI (l8.getD i10.toNat (zj Sh.str))].length≤1073741824)) (Tr.ok (zt.head 3 (zy Tryz.f166 3) (E1 l8 i9 (IntKind.i64.wrap (i10+1)) (lh_0++[lI (l8.getD i10.toNat (zj Sh.str))])))))) (Tr.chk (decide (lh_0.length≤140737488355328)&&decide ((Lib.join lh_0 [32,44,32]).length≤140737488355328)) (Tr.ok (zt.ret (AV.str (Lib.join lh_0 [32,44,32])) []))):=by kernel_rfl
def cI:List (Sem Sh.str)→Int→List (Sem Sh.str)→Sem Sh.str
 | [],_,lh_0=>(Lib.join lh_0 [32,44,32])
 | x::r,i10,lh_0=>(cI r (i10+1) (lh_0++[lI x]))
def c6:List (Sem Sh.str)→Int→List (Sem Sh.str)→Bool
 | [],_,lh_0=>(if (decide (lh_0.length≤140737488355328)&&decide ((Lib.join lh_0 [32,44,32]).length≤140737488355328))=true then true else false)
 | x::r,i10,lh_0=>(if decide (lh_0.length+[lI x].length≤1073741824)=true then c6 r (i10+1) (lh_0++[lI x]) else false)
theorem WI {C:cr} (hC:∀ id,C.ρ0 id=none) (l8:LS) (hl:l8.length≤zE):∀ (m i:Nat) (lh_0:LS),l8.length - i=m→i≤l8.length→c6 (l8.drop i) i lh_0=true→
  Reach (dw) C 166 (zy Tryz.f166 3) (E1 l8 (l8.length:Int) (i:Int) lh_0) (fun r h=>ae h [Sh.str] r=some (cI (l8.drop i) i lh_0,())):=by
 intro m
 induction m with
 | zero=>
  intro i lh_0 hm hi hc
  obtain rfl:i=l8.length:=by omega
  rw [dj] at hc ⊢
  refine zk ch (Re) (fun id _=>hC id) (NM _ _ _ _) ?_
  rw [c6] at hc
  generalize hy:cI [] _ lh_0=y
  rw [cI] at hy
  simp only [ag,Tr.val_brF]
  repeat' (first | with_reducible refine eY hy hc (fun _ hy hc=>?_) (fun _ hy hc=>?_) | with_reducible refine aR hy (fun _ hy=>?_) (fun _ hy=>?_) | with_reducible refine bm hc (fun hc=>?_) | with_reducible refine zr ?_)
  all_goals first | (cases hc; done) | (subst hy; first | rfl)
 | succ m IH=>
  intro i lh_0 hm hi hc
  have hlt:i < l8.length:=by omega
  have IH:=IH (i+1)
  have hcast:((i:Int)+1)=((i+1:Nat):Int):=by omega
  have hwr:=zH i (by omega)
  rw [dB hlt] at hc ⊢
  refine zk ch (Re) (fun id _=>hC id) (NM _ _ _ _) ?_
  rw [c6] at hc
  generalize hy:cI (l8[i]::l8.drop (i+1)) (i:Int) lh_0=y
  rw [cI] at hy
  simp only [zX hlt,zG hlt,ac l8 _ hlt,hwr,Tr.val_brT,Tr.val_chkT]
  clear hwr
  try simp only [zG hlt] at hy
  simp only [hcast] at hy
  try simp only [zG hlt] at hc
  try simp only [hcast] at hc
  repeat' (first | with_reducible refine eY hy hc (fun _ hy hc=>?_) (fun _ hy hc=>?_) | with_reducible refine aR hy (fun _ hy=>?_) (fun _ hy=>?_) | with_reducible refine bm hc (fun hc=>?_) | with_reducible refine zr ?_)
  all_goals first | (cases hc; done) | (subst hy; first | (change Reach _ _ _ _ _ _; apply IH <;> first | omega | assumption) | rfl)
theorem Qi {C:cr} (hC:∀ id,C.ρ0 id=none) (l8:LS) (lh_0:LS) (hc:c6 l8 0 lh_0=true):
  Reach (dw) C 166 (zy Tryz.f166 3) (E1 l8 (l8.length:Int) 0 lh_0) (fun r h=>ae h [Sh.str] r=some (cI l8 0 lh_0,())):=
 Reach.len 8 (Sh.str) l8 rfl fun hl=>WI hC l8 hl _ 0 lh_0 rfl (aE _) hc
def kB (x0:Sem Sh.str.sl):Sem Sh.str:=(cI x0 0 [])
def kC (x0:Sem Sh.str.sl):Bool:=(c6 x0 0 [])
def F97:zD:=wy [Sh.str.sl] [Sh.str] [(157,(fun x=>kC x.1),fun x=>(kB x.1,()))]
theorem zb5:FK 166 F97:=by
 refine kJ (Re) fun j c g hm x hc C hC=>?_
 simp only [bd,bv] at hm
 obtain ⟨rfl,rfl,rfl⟩:=hm
 replace hc:kC x.1=true:=hc
 unfold kC at hc
 refine zk ch (Re) (fun id _=>hC id) (zhV x.1) ?_
 generalize hy:kB x.1=y
 unfold kB at hy
 repeat' (first | with_reducible refine eY hy hc (fun _ hy hc=>?_) (fun _ hy hc=>?_) | with_reducible refine aR hy (fun _ hy=>?_) (fun _ hy=>?_) | with_reducible refine bm hc (fun hc=>?_) | with_reducible refine zr ?_)
 all_goals first | (cases hc; done) | (subst hy; first | (change Reach _ _ _ _ _ _; apply Qi hC <;> first | assumption | exact hc) | rfl)

noncomputable def ki:=dw.addL [(154,F85),(210,Zh),(211,Zi),(152,F83),(161,F92),(156,F87),(168,F99),(227,Zu),(166,F97)]
theorem dO:zm ki:=ch.addL <| fc zbS <| fc UG <| fc UH <| fc zbQ <| fc zb0 <| fc zbU <| fc zb7 <| fc UT <| fc zb5 gZ
noncomputable section

def ZE:zD:=zS (List.replicate 2 none) (bU ki Tryz.f253 (List.replicate 2 none))
theorem U5:FK 253 ZE:=ap _ dO (aL (by kernel_rfl))

def ZG:zD:=zS (List.replicate 2 none) (bU ki Tryz.f255 (List.replicate 2 none))
theorem U7:FK 255 ZG:=ap _ dO (aL (by kernel_rfl))

def Zs:zD:=zS (List.replicate 2 none) (bU ki Tryz.f220 (List.replicate 2 none))
theorem UR:FK 220 Zs:=ap _ dO (aL (by kernel_rfl))

def Zn:zD:=zS (List.replicate 2 none) (bU ki Tryz.f215 (List.replicate 2 none))
theorem UM:FK 215 Zn:=ap _ dO (aL (by kernel_rfl))

def Zp:zD:=zS (List.replicate 2 none) (bU ki Tryz.f217 (List.replicate 2 none))
theorem UO:FK 217 Zp:=ap _ dO (aL (by kernel_rfl))

abbrev zey:Nat→zY:=fun j=>if j=3 then { slots:=[1,5,8,9,10],prom:=[(5,none,.str)] } else { }
abbrev EY (l8:LV) (i9:Int) (i10:Int) (lh_0:LS):St:={ tmps:=(tm 23 [(1,AV.clo (Fn.func 161) [] []),(5,AV.vec 0),(8,AV.sl zf l8),(9,ai i9),(10,ai i10)]),heap:=[AO.vec Sh.str lh_0] }
theorem Rc:zA (ki).P 160 Tryz.f160 2:=aL (by kernel_rfl)
theorem zhP (x0:Sem zf.sl):rn ki 0 zey Tryz.f160 [zz zf.sl x0,AV.clo (Fn.func 161) [] []] []=Tr.ok (zt.head 3 (zy Tryz.f160 3) (EY x0 (↑(length x0):Int) 0 [])):=by kernel_rfl
theorem NJ (l8:LV) (i9:Int) (i10:Int) (lh_0:LS):rh ki 0 zey Tryz.f160 3 (EY l8 i9 i10 lh_0)=Tr.br (decide (i10 < i9)) (Tr.chk (zF i10 l8.length) (Tr.chk (ln (l8.getD i10.toNat (zj zf))) (Tr.chk (decide (lh_0.length+[eD (l8.getD i10.toNat (zj zf))].length≤1073741824)) (Tr.ok (zt.head 3 (zy Tryz.f160 3) (EY l8 i9 (IntKind.i64.wrap (i10+1)) (lh_0++[eD (l8.getD i10.toNat (zj zf))]))))))) (Tr.chk (decide (lh_0.length≤140737488355328)&&decide ((Lib.join lh_0 [32,44,32]).length≤140737488355328)) (Tr.ok (zt.ret (AV.str (Lib.join lh_0 [32,44,32])) []))):=by kernel_rfl
def cJ:List (Sem zf)→Int→List (Sem Sh.str)→Sem Sh.str
 | [],_,lh_0=>(Lib.join lh_0 [32,44,32])
 | x::r,i10,lh_0=>(cJ r (i10+1) (lh_0++[eD x]))
def c7:List (Sem zf)→Int→List (Sem Sh.str)→Bool
 | [],_,lh_0=>(if (decide (lh_0.length≤140737488355328)&&decide ((Lib.join lh_0 [32,44,32]).length≤140737488355328))=true then true else false)
 | x::r,i10,lh_0=>(if ln x=true then if decide (lh_0.length+[eD x].length≤1073741824)=true then c7 r (i10+1) (lh_0++[eD x]) else false else false)
theorem WG {C:cr} (hC:∀ id,C.ρ0 id=none) (l8:LV) (hl:l8.length≤zE):∀ (m i:Nat) (lh_0:LS),l8.length - i=m→i≤l8.length→c7 (l8.drop i) i lh_0=true→
  Reach (ki) C 160 (zy Tryz.f160 3) (EY l8 (l8.length:Int) (i:Int) lh_0) (fun r h=>ae h [Sh.str] r=some (cJ (l8.drop i) i lh_0,())):=by
 intro m
 induction m with
 | zero=>
  intro i lh_0 hm hi hc
  obtain rfl:i=l8.length:=by omega
  rw [dj] at hc ⊢
  refine zk dO (Rc) (fun id _=>hC id) (NJ _ _ _ _) ?_
  rw [c7] at hc
  generalize hy:cJ [] _ lh_0=y
  rw [cJ] at hy
  simp only [ag,Tr.val_brF]
  repeat' (first | with_reducible refine eY hy hc (fun _ hy hc=>?_) (fun _ hy hc=>?_) | with_reducible refine aR hy (fun _ hy=>?_) (fun _ hy=>?_) | with_reducible refine bm hc (fun hc=>?_) | with_reducible refine zr ?_)
  all_goals first | (cases hc; done) | (subst hy; first | rfl)
 | succ m IH=>
  intro i lh_0 hm hi hc
  have hlt:i < l8.length:=by omega
  have IH:=IH (i+1)
  have hcast:((i:Int)+1)=((i+1:Nat):Int):=by omega
  have hwr:=zH i (by omega)
  rw [dB hlt] at hc ⊢
  refine zk dO (Rc) (fun id _=>hC id) (NJ _ _ _ _) ?_
  rw [c7] at hc
  generalize hy:cJ (l8[i]::l8.drop (i+1)) (i:Int) lh_0=y
  rw [cJ] at hy
  simp only [zX hlt,zG hlt,ac l8 _ hlt,hwr,Tr.val_brT,Tr.val_chkT]
  clear hwr
  try simp only [zG hlt] at hy
  simp only [hcast] at hy
  try simp only [zG hlt] at hc
  try simp only [hcast] at hc
  repeat' (first | with_reducible refine eY hy hc (fun _ hy hc=>?_) (fun _ hy hc=>?_) | with_reducible refine aR hy (fun _ hy=>?_) (fun _ hy=>?_) | with_reducible refine bm hc (fun hc=>?_) | with_reducible refine zr ?_)
  all_goals first | (cases hc; done) | (subst hy; first | (change Reach _ _ _ _ _ _; apply IH <;> first | omega | assumption) | rfl)
theorem Qg {C:cr} (hC:∀ id,C.ρ0 id=none) (l8:LV) (lh_0:LS) (hc:c7 l8 0 lh_0=true):
  Reach (ki) C 160 (zy Tryz.f160 3) (EY l8 (l8.length:Int) 0 lh_0) (fun r h=>ae h [Sh.str] r=some (cJ l8 0 lh_0,())):=
 Reach.len 8 (zf) l8 rfl fun hl=>WG hC l8 hl _ 0 lh_0 rfl (aE _) hc
def kE (x0:Sem zf.sl):Sem Sh.str:=(cJ x0 0 [])
def kF (x0:Sem zf.sl):Bool:=(c7 x0 0 [])
def F91:zD:=wy [zf.sl] [Sh.str] [(161,(fun x=>kF x.1),fun x=>(kE x.1,()))]
theorem zbZ:FK 160 F91:=by
 refine kJ (Rc) fun j c g hm x hc C hC=>?_
 simp only [bd,bv] at hm
 obtain ⟨rfl,rfl,rfl⟩:=hm
 replace hc:kF x.1=true:=hc
 unfold kF at hc
 refine zk dO (Rc) (fun id _=>hC id) (zhP x.1) ?_
 generalize hy:kE x.1=y
 unfold kE at hy
 repeat' (first | with_reducible refine eY hy hc (fun _ hy hc=>?_) (fun _ hy hc=>?_) | with_reducible refine aR hy (fun _ hy=>?_) (fun _ hy=>?_) | with_reducible refine bm hc (fun hc=>?_) | with_reducible refine zr ?_)
 all_goals first | (cases hc; done) | (subst hy; first | (change Reach _ _ _ _ _ _; apply Qg hC <;> first | assumption | exact hc) | rfl)

def Lt (g:Sem Sh.expr→Sem Sh.str) (c:Sem Sh.expr→Bool):bq:=ki.add 268 (zC [Sh.expr] [Sh.str] (fun x=>c x.1) fun x=>(g x.1,()))
theorem Jz {g:Sem Sh.expr→Sem Sh.str} {c:Sem Sh.expr→Bool} (hg:FK 268 (zC [Sh.expr] [Sh.str] (fun x=>c x.1) fun x=>(g x.1,()))):zm (Lt g c):=dO.add hg
abbrev XN:Nat→zY:=fun _=>{ }
theorem wn (g:Sem Sh.expr→Sem Sh.str) (c:Sem Sh.expr→Bool):zA (Lt g c).P 268 Tryz.f268 1:=aL (by kernel_rfl)
theorem Xb (g:Sem Sh.expr→Sem Sh.str) (c:Sem Sh.expr→Bool) (x0:Sem Sh.expr):rn (Lt g c) 0 XN Tryz.f268 [zz Sh.expr x0] []=Tr.br (ze.op x0==[108,105,116]) (Tr.chk (ln (ze.v x0)) (Tr.ok (zt.ret (AV.str (eD (ze.v x0))) []))) (Tr.br (ze.op x0==[99,111,108]) (Tr.ok (zt.ret (AV.str (ze.s x0)) [])) (Tr.br (ze.op x0==[110,111,116]) (Tr.chk (zF 0 (ze.l x0).length) (Tr.chk (c (zB ((ze.l x0).getD (toNat 0) (zj Sh.expr)))) (Tr.chk (decide ([40,78,79,84,32].length+length (g (zB ((ze.l x0).getD (toNat 0) (zj Sh.expr))))≤1099511627776)) (Tr.chk (decide (length ([40,78,79,84,32]++g (zB ((ze.l x0).getD (toNat 0) (zj Sh.expr))))+[41].length≤1099511627776)) (Tr.ok (zt.ret (AV.str ([40,78,79,84,32]++g (zB ((ze.l x0).getD (toNat 0) (zj Sh.expr)))++[41])) [])))))) (Tr.br (ze.op x0==[110,117,108,108]) (Tr.chk (zF 0 (ze.l x0).length) (Tr.chk (c (zB ((ze.l x0).getD (toNat 0) (zj Sh.expr)))) (Tr.chk (decide ([40].length+length (g (zB ((ze.l x0).getD (toNat 0) (zj Sh.expr))))≤1099511627776)) (Tr.chk (decide (length ([40]++g (zB ((ze.l x0).getD (toNat 0) (zj Sh.expr))))+[32,73,83,32,78,85,76,76,41].length≤1099511627776)) (Tr.ok (zt.ret (AV.str ([40]++g
 (zB ((ze.l x0).getD (toNat 0) (zj Sh.expr)))++[32,73,83,32,78,85,76,76,41])) [])))))) (Tr.chk (zF 0 (ze.l x0).length) (Tr.chk (c (zB ((ze.l x0).getD (toNat 0) (zj Sh.expr)))) (Tr.chk (decide ([40].length+length (g (zB ((ze.l x0).getD (toNat 0) (zj Sh.expr))))≤1099511627776)) (Tr.chk (decide (length ([40]++g (zB ((ze.l x0).getD (toNat 0) (zj Sh.expr))))+[32].length≤1099511627776)) (Tr.chk (decide (length (ze.op x0)≤140737488355328)&&List.all (ze.op x0) fun b=>decide (b.toNat < 128)) (Tr.chk (decide (length ([40]++g (zB ((ze.l x0).getD (toNat 0) (zj Sh.expr)))++[32])+(Lib.toUpperA (ze.op x0)).length≤1099511627776)) (Tr.chk (decide (length ([40]++g (zB ((ze.l x0).getD (toNat 0) (zj Sh.expr)))++[32]++Lib.toUpperA (ze.op x0))+[32].length≤1099511627776)) (Tr.chk (zF 1 (ze.l x0).length) (Tr.chk (c (zB ((ze.l x0).getD (toNat 1) (zj Sh.expr)))) (Tr.chk (decide (length ([40]++g (zB ((ze.l x0).getD (toNat 0) (zj Sh.expr)))++[32]++Lib.toUpperA (ze.op x0)++[32])+length (g (zB ((ze.l x0).getD (toNat 1) (zj Sh.expr))))≤1099511627776)) (Tr.chk (decide (length ([40]++g (zB ((ze.l x0).getD (toNat 0) (zj Sh.expr)))++[32]++Lib.toUpperA (ze.op x0)++[32]++g (zB ((ze.l x0).getD (toNat 1) (zj Sh.expr))))+[41].length≤1099511627776)) (Tr.ok
 (zt.ret (AV.str ([40]++g (zB ((ze.l x0).getD (toNat 0) (zj Sh.expr)))++[32]++Lib.toUpperA (ze.op x0)++[32]++g (zB ((ze.l x0).getD (toNat 1) (zj Sh.expr)))++[41])) [])))))))))))))))):=by kernel_rfl
def uS (g:Sem Sh.expr→Sem Sh.str) (_:Sem Sh.expr→Bool) (x0:Sem Sh.expr):Sem Sh.str:=(if (ze.op x0==[108,105,116])=true then eD (ze.v x0) else if (ze.op x0==[99,111,108])=true then ze.s x0 else if (ze.op x0==[110,111,116])=true then [40,78,79,84,32]++g ((ze.l x0).getD (toNat 0) (zj Sh.expr))++[41] else if (ze.op x0==[110,117,108,108])=true then [40]++g ((ze.l x0).getD (toNat 0) (zj Sh.expr))++[32,73,83,32,78,85,76,76,41] else [40]++g ((ze.l x0).getD (toNat 0) (zj Sh.expr))++[32]++Lib.toUpperA (ze.op x0)++[32]++g ((ze.l x0).getD (toNat 1) (zj Sh.expr))++[41])
def tg (g:Sem Sh.expr→Sem Sh.str) (c:Sem Sh.expr→Bool) (x0:Sem Sh.expr):Bool:=(if (ze.op x0==[108,105,116])=true then if ln (ze.v x0)=true then true else false else if (ze.op x0==[99,111,108])=true then true else if (ze.op x0==[110,111,116])=true then if zF 0 (ze.l x0).length=true then if c ((ze.l x0).getD (toNat 0) (zj Sh.expr))=true then if decide ([40,78,79,84,32].length+length (g ((ze.l x0).getD (toNat 0) (zj Sh.expr)))≤1099511627776)=true then if decide (length ([40,78,79,84,32]++g ((ze.l x0).getD (toNat 0) (zj Sh.expr)))+[41].length≤1099511627776)=true then true else false else false else false else false else if (ze.op x0==[110,117,108,108])=true then if zF 0 (ze.l x0).length=true then if c ((ze.l x0).getD (toNat 0) (zj Sh.expr))=true then if decide ([40].length+length (g ((ze.l x0).getD (toNat 0) (zj Sh.expr)))≤1099511627776)=true then if decide (length ([40]++g ((ze.l x0).getD (toNat 0) (zj Sh.expr)))+[32,73,83,32,78,85,76,76,41].length≤1099511627776)=true then true else false else false else false else false else if zF 0 (ze.l x0).length=true then if c ((ze.l x0).getD (toNat 0) (zj Sh.expr))=true then if decide ([40].length+length (g ((ze.l x0).getD (toNat 0) (zj Sh.expr)))≤1099511627776)=true then
 if decide (length ([40]++g ((ze.l x0).getD (toNat 0) (zj Sh.expr)))+[32].length≤1099511627776)=true then if (decide (length (ze.op x0)≤140737488355328)&&List.all (ze.op x0) fun b=>decide (b.toNat < 128))=true then if decide (length ([40]++g ((ze.l x0).getD (toNat 0) (zj Sh.expr))++[32])+(Lib.toUpperA (ze.op x0)).length≤1099511627776)=true then if decide (length ([40]++g ((ze.l x0).getD (toNat 0) (zj Sh.expr))++[32]++Lib.toUpperA (ze.op x0))+[32].length≤1099511627776)=true then if zF 1 (ze.l x0).length=true then if c ((ze.l x0).getD (toNat 1) (zj Sh.expr))=true then if decide (length ([40]++g ((ze.l x0).getD (toNat 0) (zj Sh.expr))++[32]++Lib.toUpperA (ze.op x0)++[32])+length (g ((ze.l x0).getD (toNat 1) (zj Sh.expr)))≤1099511627776)=true then if decide (length ([40]++g ((ze.l x0).getD (toNat 0) (zj Sh.expr))++[32]++Lib.toUpperA (ze.op x0)++[32]++g ((ze.l x0).getD (toNat 1) (zj Sh.expr)))+[41].length≤1099511627776)=true then true else false else false else false else false else false else false else false else false else false else false else false)
def ZO (g:Sem Sh.expr→Sem Sh.str) (c:Sem Sh.expr→Bool):zD:=zC [Sh.expr] [Sh.str] (fun x=>tg g c x.1) fun x=>(uS g c x.1,())
theorem PH (g:Sem Sh.expr→Sem Sh.str) (c:Sem Sh.expr→Bool) (hg:FK 268 (zC [Sh.expr] [Sh.str] (fun x=>c x.1) fun x=>(g x.1,()))):FK 268 (ZO g c):=by
 refine zM (wn g c) fun x hc C hC=>?_
 unfold tg at hc
 refine zk (Jz hg) (wn g c) (fun id _=>hC id) (Xb g c x.1) ?_
 generalize hy:uS g c x.1=y
 unfold uS at hy
 try simp only [ze.eta]
 repeat' (first | with_reducible refine eY hy hc (fun _ hy hc=>?_) (fun _ hy hc=>?_) | with_reducible refine aR hy (fun _ hy=>?_) (fun _ hy=>?_) | with_reducible refine bm hc (fun hc=>?_) | with_reducible refine zr ?_)
 all_goals first | (cases hc; done) | (subst hy; first | rfl)
mutual
def fL:Nat→Sem Sh.expr→Sem Sh.str
 | 0=>fun _=>default
 | n+1=>uS (fL n) (gE n)
def gE:Nat→Sem Sh.expr→Bool
 | 0=>fun _=>false
 | n+1=>tg (fL n) (gE n)
end
theorem Hk:∀ n,FK 268 (zC [Sh.expr] [Sh.str] (fun x=>gE n x.1) fun x=>(fL n x.1,()))
 | 0=>cQ ⟨Tryz.f268,(wn default default).1,(wn default default).2.1,(wn default default).2.2.1⟩ (fun _=>rfl)
 | n+1=>PH (fL n) (gE n) (Hk n)
def ZN:zD:=zC [Sh.expr] [Sh.str] (fun x=>gE 16 x.1) fun x=>(fL 16 x.1,())
theorem Ve:FK 268 ZN:=Hk 16

def er:=ki.addL [(253,ZE),(255,ZG),(220,Zs),(215,Zn),(217,Zp),(160,F91),(268,ZN)]
theorem cj:zm er:=dO.addL <| fc U5 <| fc U7 <| fc UR <| fc UM <| fc UO <| fc zbZ <| fc Ve gZ
end

abbrev qm (l:LC) (i:Int):St:={ tmps:=[.sl zi l,.clo (.func 253) [] [.ptr 0 0],.any,.any,.any,.any,.any,.int .i64 l.length,.int .i64 i,.any,.any,.any,.any,.any,.any,.any,.any,.any,.any],heap:=[.box [.clo (.func 210) [] []]] }
theorem JW (l:LC):run er 1 lO Tryz.f126.results.toList 300 (aA Tryz.f126) (af Tryz.f126.ntmps [.sl zi l,.clo (.func 253) [] [.ptr 0 0]] [.box [.clo (.func 210) [] []]])=.ok (.head 2 (zy Tryz.f126 2) (qm l 0)):=by kernel_rfl
theorem Kb (l:LC) (i:Int):run er 1 lO Tryz.f126.results.toList 300 (zy Tryz.f126 2) (qm l i)=hZ (K:=zy Tryz.f126 2) (e:=zi) l (fun x => !js x) (qm l) [.box [.clo (.func 210) [] []]] i:=by kernel_rfl

theorem Nt:zA er.P 126 Tryz.f126 2:=aL (by kernel_rfl)
def zcg:cz [some (.sl zi),none]:=fun x h=>match x,h with
 | (l,.clo (.func 253) [] [.ptr 0 0],_),[.box [.clo (.func 210) [] []]]=>.ok (.int .i64 (zR (fun x => !js x) l 0),[.box [.clo (.func 210) [] []]])
 | _,_=>.err
def Z0:zD:=zS [some (.sl zi),none] zcg
theorem Vs:FK 126 Z0:=by
 refine bt Nt fun x h0 res hx C hC=>?_
 unfold zcg at hx
 split at hx
 ·rename_i l u
  simp only [Tr.val_ok,aq] at hx
  subst hx
  refine Reach.len 0 zi l rfl fun hl=>?_
  refine zk (n0:=1) cj Nt hC (JW l) ?_
  exact eP l (fun x => !js x) (qm l) cj Nt hC (Kb l) hl _ 0 rfl (aE _)
 ·simp at hx

abbrev ql (l:List (Sem bG)) (i:Int):St:={ tmps:=[.sl bG l,.clo (.func 255) [] [.ptr 0 0],.any,.any,.any,.any,.any,.int .i64 l.length,.int .i64 i,.any,.any,.any,.any,.any,.any,.any,.any,.any,.any],heap:=[.box [.clo (.func 211) [] []]] }
theorem JV (l:List (Sem bG)):run er 1 lO Tryz.f279.results.toList 300 (aA Tryz.f279) (af Tryz.f279.ntmps [.sl bG l,.clo (.func 255) [] [.ptr 0 0]] [.box [.clo (.func 211) [] []]])=.ok (.head 2 (zy Tryz.f279 2) (ql l 0)):=by kernel_rfl
theorem Ka (l:List (Sem bG)) (i:Int):run er 1 lO Tryz.f279.results.toList 300 (zy Tryz.f279 2) (ql l i)=hZ (K:=zy Tryz.f279 2) (e:=bG) l (fun x => !sD x) (ql l) [.box [.clo (.func 211) [] []]] i:=by kernel_rfl

theorem Np:zA er.P 279 Tryz.f279 2:=aL (by kernel_rfl)
def zcf:cz [some (.sl bG),none]:=fun x h=>match x,h with
 | (l,.clo (.func 255) [] [.ptr 0 0],_),[.box [.clo (.func 211) [] []]]=>.ok (.int .i64 (zR (fun x => !sD x) l 0),[.box [.clo (.func 211) [] []]])
 | _,_=>.err
def ZQ:zD:=zS [some (.sl bG),none] zcf
theorem Vg:FK 279 ZQ:=by
 refine bt Np fun x h0 res hx C hC=>?_
 unfold zcf at hx
 split at hx
 ·rename_i l u
  simp only [Tr.val_ok,aq] at hx
  subst hx
  refine Reach.len 0 bG l rfl fun hl=>?_
  refine zk (n0:=1) cj Np hC (JV l) ?_
  exact eP l (fun x => !sD x) (ql l) cj Np hC (Ka l) hl _ 0 rfl (aE _)
 ·simp at hx

abbrev qk (l:LS) (i:Int):St:={ tmps:=[.sl Sh.str l,.clo (.func 220) [] [.ptr 0 0],.any,.any,.any,.any,.any,.int .i64 l.length,.int .i64 i,.any,.any,.any,.any,.any,.any,.any,.any,.any,.any],heap:=[.box [.clo (.func 149) [] []]] }
theorem JU (l:LS):run er 1 lO Tryz.f258.results.toList 300 (aA Tryz.f258) (af Tryz.f258.ntmps [.sl Sh.str l,.clo (.func 220) [] [.ptr 0 0]] [.box [.clo (.func 149) [] []]])=.ok (.head 2 (zy Tryz.f258 2) (qk l 0)):=by kernel_rfl
theorem J9 (l:LS) (i:Int):run er 1 lO Tryz.f258.results.toList 300 (zy Tryz.f258 2) (qk l i)=hZ (K:=zy Tryz.f258 2) (e:=Sh.str) l (fun x => !bL x) (qk l) [.box [.clo (.func 149) [] []]] i:=by kernel_rfl

theorem No:zA er.P 258 Tryz.f258 2:=aL (by kernel_rfl)
def zce:cz [some (.sl Sh.str),none]:=fun x h=>match x,h with
 | (l,.clo (.func 220) [] [.ptr 0 0],_),[.box [.clo (.func 149) [] []]]=>.ok (.int .i64 (zR (fun x => !bL x) l 0),[.box [.clo (.func 149) [] []]])
 | _,_=>.err
def ZJ:zD:=zS [some (.sl Sh.str),none] zce
theorem Va:FK 258 ZJ:=by
 refine bt No fun x h0 res hx C hC=>?_
 unfold zce at hx
 split at hx
 ·rename_i l u
  simp only [Tr.val_ok,aq] at hx
  subst hx
  refine Reach.len 0 Sh.str l rfl fun hl=>?_
  refine zk (n0:=1) cj No hC (JU l) ?_
  exact eP l (fun x => !bL x) (qk l) cj No hC (J9 l) hl _ 0 rfl (aE _)
 ·simp at hx

abbrev qi (l:LV) (i:Int):St:={ tmps:=[.sl zf l,.clo (.func 215) [] [.ptr 0 0],.any,.any,.any,.any,.any,.int .i64 l.length,.int .i64 i,.any,.any,.any,.any,.any,.any,.any,.any,.any,.any],heap:=[.box [.clo (.func 94) [] []]] }
theorem JS (l:LV):run er 1 lO Tryz.f256.results.toList 300 (aA Tryz.f256) (af Tryz.f256.ntmps [.sl zf l,.clo (.func 215) [] [.ptr 0 0]] [.box [.clo (.func 94) [] []]])=.ok (.head 2 (zy Tryz.f256 2) (qi l 0)):=by kernel_rfl
theorem J7 (l:LV) (i:Int):run er 1 lO Tryz.f256.results.toList 300 (zy Tryz.f256 2) (qi l i)=hZ (K:=zy Tryz.f256 2) (e:=zf) l (fun x => !dS x) (qi l) [.box [.clo (.func 94) [] []]] i:=by kernel_rfl

theorem Nm:zA er.P 256 Tryz.f256 2:=aL (by kernel_rfl)
def zcc:cz [some (.sl zf),none]:=fun x h=>match x,h with
 | (l,.clo (.func 215) [] [.ptr 0 0],_),[.box [.clo (.func 94) [] []]]=>.ok (.int .i64 (zR (fun x => !dS x) l 0),[.box [.clo (.func 94) [] []]])
 | _,_=>.err
def ZH:zD:=zS [some (.sl zf),none] zcc
theorem U8:FK 256 ZH:=by
 refine bt Nm fun x h0 res hx C hC=>?_
 unfold zcc at hx
 split at hx
 ·rename_i l u
  simp only [Tr.val_ok,aq] at hx
  subst hx
  refine Reach.len 0 zf l rfl fun hl=>?_
  refine zk (n0:=1) cj Nm hC (JS l) ?_
  exact eP l (fun x => !dS x) (qi l) cj Nm hC (J7 l) hl _ 0 rfl (aE _)
 ·simp at hx

abbrev qj (l:List (Sem aK)) (i:Int):St:={ tmps:=[.sl aK l,.clo (.func 217) [] [.ptr 0 0],.any,.any,.any,.any,.any,.int .i64 l.length,.int .i64 i,.any,.any,.any,.any,.any,.any,.any,.any,.any,.any],heap:=[.box [.clo (.func 152) [] []]] }
theorem JT (l:List (Sem aK)):run er 1 lO Tryz.f257.results.toList 300 (aA Tryz.f257) (af Tryz.f257.ntmps [.sl aK l,.clo (.func 217) [] [.ptr 0 0]] [.box [.clo (.func 152) [] []]])=.ok (.head 2 (zy Tryz.f257 2) (qj l 0)):=by kernel_rfl
theorem J8 (l:List (Sem aK)) (i:Int):run er 1 lO Tryz.f257.results.toList 300 (zy Tryz.f257 2) (qj l i)=hZ (K:=zy Tryz.f257 2) (e:=aK) l (fun x => !xx x) (qj l) [.box [.clo (.func 152) [] []]] i:=by kernel_rfl

theorem Nn:zA er.P 257 Tryz.f257 2:=aL (by kernel_rfl)
def zcd:cz [some (.sl aK),none]:=fun x h=>match x,h with
 | (l,.clo (.func 217) [] [.ptr 0 0],_),[.box [.clo (.func 152) [] []]]=>.ok (.int .i64 (zR (fun x => !xx x) l 0),[.box [.clo (.func 152) [] []]])
 | _,_=>.err
def ZI:zD:=zS [some (.sl aK),none] zcd
theorem U9:FK 257 ZI:=by
 refine bt Nn fun x h0 res hx C hC=>?_
 unfold zcd at hx
 split at hx
 ·rename_i l u
  simp only [Tr.val_ok,aq] at hx
  subst hx
  refine Reach.len 0 aK l rfl fun hl=>?_
  refine zk (n0:=1) cj Nn hC (JT l) ?_
  exact eP l (fun x => !xx x) (qj l) cj Nn hC (J8 l) hl _ 0 rfl (aE _)
 ·simp at hx

abbrev zd4:Nat→zY:=fun _=>{ }
theorem Uf:zA (er).P 232 Tryz.f232 1:=aL (by kernel_rfl)
theorem zc2 (x0:Sem Sh.expr):rn er 0 zd4 Tryz.f232 [zz Sh.expr x0] []=Tr.br (!gg (zB x0)) (Tr.ok (zt.ret (AV.tup [AV.str [],ai 1]) [])) (Tr.chk (gE 16 (zB x0)) (Tr.ok (zt.ret (AV.tup [AV.str (fL 16 (zB x0)),ai 0]) []))):=by kernel_rfl
def kU (x0:Sem Sh.expr):Sem Sh.str×Sem zg:=(if (!gg x0)=true then ([],1) else (fL 16 x0,0))
def m9 (x0:Sem Sh.expr):Bool:=(if (!gg x0)=true then true else if gE 16 x0=true then true else false)
def Zz:zD:=zC [Sh.expr] [Sh.str,zg] (fun x=>m9 x.1) fun x=>((kU x.1).1,(kU x.1).2,())
theorem UY:FK 232 Zz:=by
 refine zM (Uf) fun x hc C hC=>?_
 unfold m9 at hc
 refine zk cj (Uf) (fun id _=>hC id) (zc2 x.1) ?_
 generalize hy:kU x.1=y
 unfold kU at hy
 try simp only [ze.eta]
 repeat' (first | with_reducible refine eY hy hc (fun _ hy hc=>?_) (fun _ hy hc=>?_) | with_reducible refine aR hy (fun _ hy=>?_) (fun _ hy=>?_) | with_reducible refine bm hc (fun hc=>?_) | with_reducible refine zr ?_)
 all_goals first | (cases hc; done) | (subst hy; first | rfl)

abbrev zeq:Nat→zY:=fun j=>if j=3 then { slots:=[0,4,5],prom:=[(4,none,dY)] } else { }
abbrev EU (s0:TS) (i5:Int) (lh_0:LF):St:={ tmps:=(tm 47 [(0,AV.str s0),(4,AV.vec 0),(5,ai i5)]),heap:=[AO.vec zq lh_0] }
theorem Yk:zA (er).P 91 Tryz.f91 1:=aL (by kernel_rfl)
theorem zhD (x0:TS):rn er 0 zeq Tryz.f91 [zz Sh.str x0] []=Tr.ok (zt.head 3 (zy Tryz.f91 3) (EU x0 0 [])):=by kernel_rfl
theorem Yw (s0:TS) (i5:Int) (lh_0:LF):rh er 0 zeq Tryz.f91 3 (EU s0 i5 lh_0)=Tr.br (decide (i5 < (↑(length s0):Int))) (Tr.chk (zF i5 (length s0)&&bif (↑(getD s0 i5.toNat 0).toNat:Int)==32 then true else zF i5 (length s0)) (Tr.br (bif (↑(getD s0 i5.toNat 0).toNat:Int)==32 then true else (↑(getD s0 i5.toNat 0).toNat:Int)==10) (Tr.ok (zt.head 3 (zy Tryz.f91 3) (EU s0 (IntKind.i64.wrap (i5+1)) lh_0))) (Tr.chk (decide (0≤i5)&&decide (i5≤(↑(length s0):Int))&&decide ((↑(length s0):Int)≤(↑(length s0):Int))) (Tr.chk (iV (List.take ((↑(length s0):Int).toNat - i5.toNat) (List.drop i5.toNat s0))) (Tr.chk (nD (aV (List.take ((↑(length s0):Int).toNat - i5.toNat) (List.drop i5.toNat s0))).1) (Tr.br (bif !fy (aV (List.take ((↑(length s0):Int).toNat - i5.toNat) (List.drop i5.toNat s0))).1 then true else (↑lh_0.length:Int)==400) (Tr.ok (zt.ret (AV.tup [AV.nils,ai 2]) [])) (Tr.chk (decide (lh_0.length+[(aV (List.take ((↑(length s0):Int).toNat - i5.toNat) (List.drop i5.toNat s0))).1].length≤1073741824)) (Tr.ok (zt.head 3 (zy Tryz.f91 3) (EU s0 (IntKind.i64.wrap (i5+(aV (List.take ((↑(length s0):Int).toNat - i5.toNat) (List.drop i5.toNat s0))).2))
 (lh_0++[(aV (List.take ((↑(length s0):Int).toNat - i5.toNat) (List.drop i5.toNat s0))).1]))))))))))) (Tr.ok (zt.ret (AV.tup [AV.vec 0,ai 0]) [AO.vec zq lh_0])):=by kernel_rfl
def pq:Nat→(Sem Sh.str)→Int→(List (Sem zq))→Sem dY.sl×Sem zg
 | 0,_,_,_=>default
 | n+1,s0,i5,lh_0=>(if decide (i5 < (↑(length s0):Int))=true then
 if (bif (↑(getD s0 i5.toNat 0).toNat:Int)==32 then true else (↑(getD s0 i5.toNat 0).toNat:Int)==10)=true then
  pq n s0 (IntKind.i64.wrap (i5+1)) lh_0
 else
  if
    (bif !fy (aV (List.take ((↑(length s0):Int).toNat - i5.toNat) (List.drop i5.toNat s0))).1 then true
     else (↑lh_0.length:Int)==400)=
     true then
   ([],2)
  else
   pq n s0 (IntKind.i64.wrap (i5+(aV (List.take ((↑(length s0):Int).toNat - i5.toNat) (List.drop i5.toNat s0))).2))
    (lh_0++[(aV (List.take ((↑(length s0):Int).toNat - i5.toNat) (List.drop i5.toNat s0))).1])
else (lh_0,0))
def ou:Nat→(Sem Sh.str)→Int→(List (Sem zq))→Bool
 | 0,_,_,_=>false
 | n+1,s0,i5,lh_0=>(if decide (i5 < (↑(length s0):Int))=true then
 if (zF i5 (length s0)&&bif (↑(getD s0 i5.toNat 0).toNat:Int)==32 then true else zF i5 (length s0))=true then
  if (bif (↑(getD s0 i5.toNat 0).toNat:Int)==32 then true else (↑(getD s0 i5.toNat 0).toNat:Int)==10)=true then
   ou n s0 (IntKind.i64.wrap (i5+1)) lh_0
  else
   if (decide (0≤i5)&&decide (i5≤(↑(length s0):Int))&&decide ((↑(length s0):Int)≤(↑(length s0):Int)))=true then
    if iV (List.take ((↑(length s0):Int).toNat - i5.toNat) (List.drop i5.toNat s0))=true then
     if nD (aV (List.take ((↑(length s0):Int).toNat - i5.toNat) (List.drop i5.toNat s0))).1=true then
      if
        (bif !fy (aV (List.take ((↑(length s0):Int).toNat - i5.toNat) (List.drop i5.toNat s0))).1 then true
         else (↑lh_0.length:Int)==400)=
         true then
       true
      else
       if
         decide (lh_0.length+[(aV (List.take ((↑(length s0):Int).toNat - i5.toNat) (List.drop i5.toNat s0))).1].length≤1073741824)=
          true then
        ou n s0 (IntKind.i64.wrap (i5+(aV (List.take ((↑(length s0):Int).toNat - i5.toNat) (List.drop i5.toNat s0))).2))
         (lh_0++[(aV (List.take ((↑(length s0):Int).toNat - i5.toNat) (List.drop i5.toNat s0))).1])
       else false
     else false
    else false
   else false
 else false
else true)
theorem K8 {C:cr} (hC:∀ id,C.ρ0 id=none):∀ (n:Nat) (s0:TS) (i5:Int) (lh_0:LF),ou n s0 i5 lh_0=true→
  Reach (er) C 91 (zy Tryz.f91 3) (EU s0 i5 lh_0) (fun r h=>ae h [dY.sl,zg] r=some ((pq n s0 i5 lh_0).1,(pq n s0 i5 lh_0).2,()))
 | 0,s0,i5,lh_0,hc=>by cases hc
 | n+1,s0,i5,lh_0,hc=>by
  refine zk cj (Yk) (fun id _=>hC id) (Yw _ _ _) ?_
  rw [ou] at hc
  generalize hy:pq (n+1) s0 i5 lh_0=y
  rw [pq] at hy
  try simp only [ze.eta,zn]
  repeat' (first | with_reducible refine eY hy hc (fun _ hy hc=>?_) (fun _ hy hc=>?_) | with_reducible refine aR hy (fun _ hy=>?_) (fun _ hy=>?_) | with_reducible refine bm hc (fun hc=>?_) | with_reducible refine zr ?_)
  all_goals first | (cases hc; done) | (subst hy; first | (change Reach _ _ _ _ _ _; refine K8 hC n _ _ _ ?_ <;> exact hc) | rfl)
def cut (x0:TS):Sem dY.sl×Sem zg:=(pq (length x0+1) x0 0 [])
def Lg (x0:TS):Bool:=(ou (length x0+1) x0 0 [])
def F69:zD:=zC [Sh.str] [dY.sl,zg] (fun x=>Lg x.1) fun x=>((cut x.1).1,(cut x.1).2,())
theorem zbC:FK 91 F69:=by
 refine zM (Yk) fun x hc C hC=>?_
 unfold Lg at hc
 refine zk cj (Yk) (fun id _=>hC id) (zhD x.1) ?_
 generalize hy:cut x.1=y
 unfold cut at hy
 try simp only [ze.eta,zn]
 repeat' (first | with_reducible refine eY hy hc (fun _ hy hc=>?_) (fun _ hy hc=>?_) | with_reducible refine aR hy (fun _ hy=>?_) (fun _ hy=>?_) | with_reducible refine bm hc (fun hc=>?_) | with_reducible refine zr ?_)
 all_goals first | (cases hc; done) | (subst hy; first | (change Reach _ _ _ _ _ _; refine K8 hC _ _ _ _ ?_ <;> exact hc) | rfl)

noncomputable def pA:=er.addL [(126,Z0),(279,ZQ),(258,ZJ),(256,ZH),(257,ZI),(232,Zz),(91,F69)]
theorem gv:zm pA:=cj.addL <| fc Vs <| fc Vg <| fc Va <| fc U8 <| fc U9 <| fc UY <| fc zbC gZ

noncomputable def ZD:zD:=zS (List.replicate 2 none) (bU pA Tryz.f252 (List.replicate 2 none))
theorem U4:FK 252 ZD:=ap _ gv (aL (by kernel_rfl))

noncomputable def ZF:zD:=zS (List.replicate 2 none) (bU pA Tryz.f254 (List.replicate 2 none))
theorem U6:FK 254 ZF:=ap _ gv (aL (by kernel_rfl))

noncomputable def Zr:zD:=zS (List.replicate 2 none) (bU pA Tryz.f219 (List.replicate 2 none))
theorem UQ:FK 219 Zr:=ap _ gv (aL (by kernel_rfl))

noncomputable def Zl:zD:=zS (List.replicate 2 none) (bU pA Tryz.f214 (List.replicate 2 none))
theorem UK:FK 214 Zl:=ap _ gv (aL (by kernel_rfl))

noncomputable def Zo:zD:=zS (List.replicate 2 none) (bU pA Tryz.f216 (List.replicate 2 none))
theorem UN:FK 216 Zo:=ap _ gv (aL (by kernel_rfl))

abbrev ziA:Nat→zY:=fun _=>{ }
theorem zfw:zA (pA).P 163 Tryz.f163 1:=aL (by kernel_rfl)
theorem zhS (x0:Sem Sh.expr):rn pA 0 ziA Tryz.f163 [zz Sh.expr x0] []=Tr.chk (m9 (zB x0)) (Tr.ok (zt.ret (AV.str (kU (zB x0)).1) [])):=by kernel_rfl
def cx (x0:Sem Sh.expr):Sem Sh.str:=((kU x0).1)
def f8 (x0:Sem Sh.expr):Bool:=(if m9 x0=true then true else false)
def F94:zD:=zC [Sh.expr] [Sh.str] (fun x=>f8 x.1) fun x=>(cx x.1,())
theorem zb2:FK 163 F94:=by
 refine zM (zfw) fun x hc C hC=>?_
 unfold f8 at hc
 refine zk gv (zfw) (fun id _=>hC id) (zhS x.1) ?_
 generalize hy:cx x.1=y
 unfold cx at hy
 try simp only [ze.eta]
 repeat' (first | with_reducible refine eY hy hc (fun _ hy hc=>?_) (fun _ hy hc=>?_) | with_reducible refine aR hy (fun _ hy=>?_) (fun _ hy=>?_) | with_reducible refine bm hc (fun hc=>?_) | with_reducible refine zr ?_)
 all_goals first | (cases hc; done) | (subst hy; first | rfl)

noncomputable def kj:=pA.addL [(252,ZD),(254,ZF),(219,Zr),(214,Zl),(216,Zo),(163,F94)]
theorem eK:zm kj:=gv.addL <| fc U4 <| fc U6 <| fc UQ <| fc UK <| fc UN <| fc zb2 gZ

noncomputable def Zj:zD:=zS (List.replicate 4 none) (bU kj Tryz.f212 (List.replicate 4 none))
theorem UI:FK 212 Zj:=ap _ eK (aL (by kernel_rfl))

noncomputable def Zk:zD:=zS (List.replicate 4 none) (bU kj Tryz.f213 (List.replicate 4 none))
theorem UJ:FK 213 Zk:=ap _ eK (aL (by kernel_rfl))

noncomputable def F86:zD:=zS (List.replicate 4 none) (bU kj Tryz.f155 (List.replicate 4 none))
theorem zbT:FK 155 F86:=ap _ eK (aL (by kernel_rfl))

noncomputable def F82:zD:=zS (List.replicate 4 none) (bU kj Tryz.f151 (List.replicate 4 none))
theorem zbP:FK 151 F82:=ap _ eK (aL (by kernel_rfl))

noncomputable def F84:zD:=zS (List.replicate 4 none) (bU kj Tryz.f153 (List.replicate 4 none))
theorem zbR:FK 153 F84:=ap _ eK (aL (by kernel_rfl))

abbrev ziB:Nat→zY:=fun _=>{ }
theorem zfx:zA (kj).P 165 Tryz.f165 1:=aL (by kernel_rfl)
theorem zhU (x0:Sem Sh.expr):rn kj 0 ziB Tryz.f165 [zz Sh.expr x0] []=Tr.br (gN (zB x0)) (Tr.ok (zt.ret (AV.str []) [])) (Tr.chk (f8 (zB x0)) (Tr.chk (decide ([32,87,72,69,82,69,32].length+length (cx (zB x0))≤1099511627776)) (Tr.ok (zt.ret (AV.str ([32,87,72,69,82,69,32]++cx (zB x0))) [])))):=by kernel_rfl
def kG (x0:Sem Sh.expr):Sem Sh.str:=(if gN x0=true then [] else [32,87,72,69,82,69,32]++cx x0)
def xM (x0:Sem Sh.expr):Bool:=(if gN x0=true then true else if f8 x0=true then if decide ([32,87,72,69,82,69,32].length+length (cx x0)≤1099511627776)=true then true else false else false)
def F96:zD:=zC [Sh.expr] [Sh.str] (fun x=>xM x.1) fun x=>(kG x.1,())
theorem zb4:FK 165 F96:=by
 refine zM (zfx) fun x hc C hC=>?_
 unfold xM at hc
 refine zk eK (zfx) (fun id _=>hC id) (zhU x.1) ?_
 generalize hy:kG x.1=y
 unfold kG at hy
 try simp only [ze.eta]
 repeat' (first | with_reducible refine eY hy hc (fun _ hy hc=>?_) (fun _ hy hc=>?_) | with_reducible refine aR hy (fun _ hy=>?_) (fun _ hy=>?_) | with_reducible refine bm hc (fun hc=>?_) | with_reducible refine zr ?_)
 all_goals first | (cases hc; done) | (subst hy; first | rfl)

abbrev ziC:Nat→zY:=fun _=>{ }
theorem zfy:zA (kj).P 167 Tryz.f167 2:=aL (by kernel_rfl)
theorem zhW (x0:TS) (x1:Sem Sh.expr):rn kj 0 ziC Tryz.f167 [zz Sh.str x0,zz Sh.expr x1] []=Tr.br (gN (zB x1)) (Tr.ok (zt.ret (AV.str []) [])) (Tr.chk (decide (length x0+[67,72,69,67,75,32,40,32].length≤1099511627776)) (Tr.chk (f8 (zB x1)) (Tr.chk (decide (length (x0++[67,72,69,67,75,32,40,32])+length (cx (zB x1))≤1099511627776)) (Tr.chk (decide (length (x0++[67,72,69,67,75,32,40,32]++cx (zB x1))+[32,41].length≤1099511627776)) (Tr.ok (zt.ret (AV.str (x0++[67,72,69,67,75,32,40,32]++cx (zB x1)++[32,41])) [])))))):=by kernel_rfl
def hP (x0:TS) (x1:Sem Sh.expr):Sem Sh.str:=(if gN x1=true then [] else x0++[67,72,69,67,75,32,40,32]++cx x1++[32,41])
def kO (x0:TS) (x1:Sem Sh.expr):Bool:=(if gN x1=true then true else if decide (length x0+[67,72,69,67,75,32,40,32].length≤1099511627776)=true then if f8 x1=true then if decide (length (x0++[67,72,69,67,75,32,40,32])+length (cx x1)≤1099511627776)=true then if decide (length (x0++[67,72,69,67,75,32,40,32]++cx x1)+[32,41].length≤1099511627776)=true then true else false else false else false else false)
def F98:zD:=zC [Sh.str,Sh.expr] [Sh.str] (fun x=>kO x.1 x.2.1) fun x=>(hP x.1 x.2.1,())
theorem zb6:FK 167 F98:=by
 refine zM (zfy) fun x hc C hC=>?_
 unfold kO at hc
 refine zk eK (zfy) (fun id _=>hC id) (zhW x.1 x.2.1) ?_
 generalize hy:hP x.1 x.2.1=y
 unfold hP at hy
 try simp only [ze.eta]
 repeat' (first | with_reducible refine eY hy hc (fun _ hy hc=>?_) (fun _ hy hc=>?_) | with_reducible refine aR hy (fun _ hy=>?_) (fun _ hy=>?_) | with_reducible refine bm hc (fun hc=>?_) | with_reducible refine zr ?_)
 all_goals first | (cases hc; done) | (subst hy; first | rfl)

abbrev ziz:Nat→zY:=fun _=>{ }
theorem zfv:zA (kj).P 162 Tryz.f162 1:=aL (by kernel_rfl)
theorem zhR (x0:Sem aK):rn kj 0 ziz Tryz.f162 [zz aK x0] []=Tr.chk (decide (length x0.1+[32,61,32].length≤1099511627776)) (Tr.chk (f8 (zB x0.2)) (Tr.chk (decide (length (x0.1++[32,61,32])+length (cx (zB x0.2))≤1099511627776)) (Tr.ok (zt.ret (AV.str (x0.1++[32,61,32]++cx (zB x0.2))) [])))):=by kernel_rfl
def dX (x0:Sem aK):Sem Sh.str:=(x0.1++[32,61,32]++cx x0.2)
def jj (x0:Sem aK):Bool:=(if decide (length x0.1+[32,61,32].length≤1099511627776)=true then if f8 x0.2=true then if decide (length (x0.1++[32,61,32])+length (cx x0.2)≤1099511627776)=true then true else false else false else false)
def F93:zD:=zC [aK] [Sh.str] (fun x=>jj x.1) fun x=>(dX x.1,())
theorem zb1:FK 162 F93:=by
 refine zM (zfv) fun x hc C hC=>?_
 unfold jj at hc
 refine zk eK (zfv) (fun id _=>hC id) (zhR x.1) ?_
 generalize hy:dX x.1=y
 unfold dX at hy
 try simp only [ze.eta]
 repeat' (first | with_reducible refine eY hy hc (fun _ hy hc=>?_) (fun _ hy hc=>?_) | with_reducible refine aR hy (fun _ hy=>?_) (fun _ hy=>?_) | with_reducible refine bm hc (fun hc=>?_) | with_reducible refine zr ?_)
 all_goals first | (cases hc; done) | (subst hy; first | rfl)

noncomputable def gO:=kj.addL [(212,Zj),(213,Zk),(155,F86),(151,F82),(153,F84),(165,F96),(167,F98),(162,F93)]
theorem dP:zm gO:=eK.addL <| fc UI <| fc UJ <| fc zbT <| fc zbP <| fc zbR <| fc zb4 <| fc zb6 <| fc zb1 gZ
end Cad
