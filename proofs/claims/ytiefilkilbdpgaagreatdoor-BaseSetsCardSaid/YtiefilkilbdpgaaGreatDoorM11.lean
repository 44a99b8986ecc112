/- slices.Clone: what it answers is memory of its own. schema.copied is its argument, of what is not too deep. Functions from plain data and a function to plain data. Statements: words of columns, tokens. Statements: parts. Statements: the ways of many; expressions' texts. Statements: the ways of many, again; tokens. Statements: the ways of many, once more. Statements: many; checks' texts. -/
import Derived.Test.YtiefilkilbdpgaaGreatDoorM10
import Derived.Test.YtiefilkilbdpgaaGreatDoorM09
namespace Cad
open Go Go.Proofs
open Int (toNat)
open List (getD)
open List (length)

theorem Reach.promNil {E:bf} {C:cq} {fn:FuncId} {todo:List Item} {st:St} (e:Sh) (hC:∀ id,C.ρ0 id=none) (h:Reach E C fn todo st (fun r h=>(r,h)=(.nils,[]))):Reach E C fn todo st (fun r h=>(r,h)=(.vec 0,[.vec e []])):=by
 intro b cs a w U ρ h1 h2 hc hW
 obtain ⟨en,w',fr,⟨v,r,h',U',ρ',he,hq,hrv,hH,hnew,hr0,hWd⟩,hcm,hf,hl⟩:=h b cs a w U ρ h1 h2 hc hW
 cases hq
 cases hrv with
 | nils ad=>
 have hno:∀ id o b,o=(AO.vec e []:AO)∨o=AO.dead→¬ zM (fun id=>if id=0 then some (.slice ad 0 0) else none) id o b:=by
  rintro id o b ho ⟨h3,x,h4,h5⟩
  rcases ho with rfl | rfl
  ·simp only at h4
   split at h4
   ·cases h4
    cases ad <;> simp [dH] at h5
   ·cases h4
  ·simp [AO.owns] at h3
 have hob:∀ id,(([AO.vec e []]:List AO).getD id .dead)=(if id=0 then AO.vec e [] else AO.dead):=by
  intro id
  cases id <;> simp
 refine ⟨en,w',fr,⟨_,_,_,U',fun id=>if id=0 then some (.slice ad 0 0) else none,he,rfl,.vec 0 _ (by simp) (by simp [Value.oneCell']),⟨fun id=>?_,fun id1 id2 b o=>?_,fun id b o=>?_⟩,fun id hid=>?_,fun id v hv=>?_,hWd⟩,hcm,hf,hl⟩
 ·show aX w' U' _ id (([AO.vec e []]:List AO).getD id .dead)
  rw [hob]
  split
  ·rename_i h0
   subst h0
   exact ⟨ad,0,by simp,by simp,.inl ⟨rfl,rfl⟩⟩
  ·trivial
 ·exfalso
  have o':zM (fun id=>if id=0 then some (.slice ad 0 0) else none) id1 (([AO.vec e []]:List AO).getD id1 .dead) b:=o
  rw [hob] at o'
  split at o'
  ·exact hno _ _ _ (.inl rfl) o'
  ·exact hno _ _ _ (.inr rfl) o'
 ·exfalso
  have o':zM (fun id=>if id=0 then some (.slice ad 0 0) else none) id (([AO.vec e []]:List AO).getD id .dead) b:=o
  rw [hob] at o'
  split at o'
  ·exact hno _ _ _ (.inl rfl) o'
  ·exact hno _ _ _ (.inr rfl) o'
 ·simp at hid
  simp; omega
 ·rw [hC id] at hv; cases hv

def ar:Tr zr→List Item×List Item×St
 | .ok (.fork _ k1 k2 st)=>(k1,k2,st)
 | _=>([],[],⟨[],[]⟩)

abbrev xW:Nat→zX:=fun _=>{ }

noncomputable abbrev Dq (l:List ze):Tr zr:=run nH 0 xW (Func.results Tryz.f125).toList 300 (au Tryz.f125) (z7 (Func.ntmps Tryz.f125) [.sl .expr l] [])
theorem Rz:zA nH.P 125 Tryz.f125 1:=aJ (by kernel_rfl)
theorem zh7 (l:List ze):Dq l=.ok (.fork l.isEmpty (ar (Dq l)).1 (ar (Dq l)).2.1 (ar (Dq l)).2.2):=by kernel_rfl
theorem zge (l:List ze):run nH 0 xW (Func.results Tryz.f125).toList 300 (ar (Dq l)).1 (ar (Dq l)).2.2=.ok (.ret .nils []):=by kernel_rfl
theorem zgf (l:List ze):run nH 0 xW (Func.results Tryz.f125).toList 300 (ar (Dq l)).2.1 (ar (Dq l)).2.2=.chk (decide (l.length≤1073741824)) (.ok (.ret (.vec 0) [.vec .expr l])):=by kernel_rfl
def G53:cy [some (.sl .expr)]:=fun x h=>match h with
 | []=>.chk (decide (length x.1≤1073741824)) (.ok (.vec 0,[.vec .expr x.1]))
 | _=>.err
def F53:zD:=zR [some (.sl .expr)] G53
theorem zbT:FK 125 F53:=by
 refine bq Rz fun x h0 res hx C hC=>?_
 unfold G53 at hx
 split at hx
 ·simp only [Tr.val] at hx
  split at hx
  ·rename_i hl
   simp only [ag] at hx
   subst hx
   obtain ⟨l,u⟩:=x
   refine zk (n0:=0) gk Rz hC (zh7 l) ?_
   refine ⟨fun he=>?_,?_⟩
   ·have hn:l=[]:=List.isEmpty_iff.1 he
    refine Reach.weaken (Q:=fun r h=>(r,h)=(.vec 0,[.vec .expr []])) (Reach.promNil .expr (fun id=>hC id (by simp)) (zk (n0:=0) gk Rz hC (zge l) rfl)) ?_
    intro r h hq
    cases hq
    refine ⟨_,?_,fun _ _ _ _ h=>h⟩
    show (AV.vec 0,[AO.vec Sh.expr []])=(AV.vec 0,[AO.vec Sh.expr l])
    rw [hn]
   ·exact zk (n0:=0) gk Rz hC (zgf l) (cO hl rfl)
  ·cases hx
 ·simp at hx

noncomputable abbrev Dp (l:List (Sem zi)):Tr zr:=run nH 0 xW (Func.results Tryz.f71).toList 300 (au Tryz.f71) (z7 (Func.ntmps Tryz.f71) [.sl zi l] [])
theorem Rx:zA nH.P 71 Tryz.f71 1:=aJ (by kernel_rfl)
theorem zhP (l:List (Sem zi)):Dp l=.ok (.fork l.isEmpty (ar (Dp l)).1 (ar (Dp l)).2.1 (ar (Dp l)).2.2):=by kernel_rfl
theorem zf8 (l:List (Sem zi)):run nH 0 xW (Func.results Tryz.f71).toList 300 (ar (Dp l)).1 (ar (Dp l)).2.2=.ok (.ret .nils []):=by kernel_rfl
theorem zf9 (l:List (Sem zi)):run nH 0 xW (Func.results Tryz.f71).toList 300 (ar (Dp l)).2.1 (ar (Dp l)).2.2=.chk (decide (l.length≤1073741824)) (.ok (.ret (.vec 0) [.vec zi l])):=by kernel_rfl
def G32:cy [some (.sl zi)]:=fun x h=>match h with
 | []=>.chk (decide (length x.1≤1073741824)) (.ok (.vec 0,[.vec zi x.1]))
 | _=>.err
def F32:zD:=zR [some (.sl zi)] G32
theorem zbz:FK 71 F32:=by
 refine bq Rx fun x h0 res hx C hC=>?_
 unfold G32 at hx
 split at hx
 ·simp only [Tr.val] at hx
  split at hx
  ·rename_i hl
   simp only [ag] at hx
   subst hx
   obtain ⟨l,u⟩:=x
   refine zk (n0:=0) gk Rx hC (zhP l) ?_
   refine ⟨fun he=>?_,?_⟩
   ·have hn:l=[]:=List.isEmpty_iff.1 he
    refine Reach.weaken (Q:=fun r h=>(r,h)=(.vec 0,[.vec zi []])) (Reach.promNil zi (fun id=>hC id (by simp)) (zk (n0:=0) gk Rx hC (zf8 l) rfl)) ?_
    intro r h hq
    cases hq
    refine ⟨_,?_,fun _ _ _ _ h=>h⟩
    show (AV.vec 0,[AO.vec zi []])=(AV.vec 0,[AO.vec zi l])
    rw [hn]
   ·exact zk (n0:=0) gk Rx hC (zf9 l) (cO hl rfl)
  ·cases hx
 ·simp at hx

noncomputable def Q3:=nH.addL [(125,F53),(71,F32)]
theorem uZ:zm Q3:=gk.addL <| fc zbT <| fc zbz gW
def KT (c:ze→Bool):zD:=zC [.expr] [.expr] (fun x=>c x.1) fun x=>(x.1,())
noncomputable def JI (c:ze→Bool):bf:=Q3.add 200 (KT c)
theorem uP {c:ze→Bool} (hg:FK 200 (KT c)):zm (JI c):=uZ.add hg
abbrev zeI:Nat→zX:=fun j=>if j=3 then { slots:=[1,2,10,11] } else { }
abbrev I4 (i10:Int) (i11:Int) (ja0:zn) (ja1:Int) (ja2:Int) (ja3:zn) (ja4:zn) (lh_2:List (Sem Sh.expr)):St:={
 tmps:=
  (tm 26 [(1,AV.ptr 0 0),(2,AV.ptr 1 0),(10,AV.int .i64 i10),(11,AV.int .i64 i11)]),
 heap:=
  [AO.box [AV.str ja0,AV.int .i64 ja1,AV.int .i64 ja2,AV.str ja3,AV.str ja4,AV.vec 2],
   AO.box [AV.str [],AV.int .i64 0,AV.int .i64 0,AV.str [],AV.str [],AV.nils],AO.vec Sh.expr lh_2] }
theorem Gx (c:ze→Bool):zA (JI c).P 200 Tryz.f200 1:=aJ (by kernel_rfl)
theorem zhQ (c:ze→Bool) (op:zn) (v:V) (s:zn) (l:List ze):rn (JI c) 0 zeI Tryz.f200 [zz Sh.expr (ze.mk op v s l)] []=
 Tr.chk (decide (l.length≤1073741824)) (Tr.ok (zr.head 3 (zx Tryz.f200 3) (I4 (↑l.length:Int) 0 op v.1 v.2.1 v.2.2 s l))):=by kernel_rfl
theorem NX (c:ze→Bool) (i10:Int) (i11:Int) (ja0:zn) (ja1:Int) (ja2:Int) (ja3:zn) (ja4:zn) (lh_2:List (Sem Sh.expr)):rh (JI c) 0 zeI Tryz.f200 3 (I4 i10 i11 ja0 ja1 ja2 ja3 ja4 lh_2)=
 Tr.br (decide (i11 < i10))
 (Tr.chk (zE i11 lh_2.length)
  (Tr.chk (decide (i11.toNat < lh_2.length))
   (Tr.chk (c (zB (lh_2.getD i11.toNat (zj Sh.expr))))
    (Tr.chk (zE i11 lh_2.length)
     (Tr.chk (decide (i11.toNat < lh_2.length))
      (Tr.ok
       (zr.head 3 (zx Tryz.f200 3)
        (I4 i10 (IntKind.i64.wrap (i11+1)) ja0 ja1 ja2 ja3 ja4
         (lh_2.set i11.toNat
          (zB (lh_2.getD i11.toNat (zj Sh.expr))))))))))))
 (Tr.ok
  (zr.ret (AV.agg [AV.str ja0,AV.int .i64 ja1,AV.int .i64 ja2,AV.str ja3,AV.str ja4,AV.vec 0]) [AO.vec Sh.expr lh_2])):=by kernel_rfl

theorem zg5 {c:ze→Bool} (hg:FK 200 (KT c)) {C:cq} (hC:∀ id,C.ρ0 id=none) (op:zn) (v:V) (s:zn) (l:List ze) (hl:l.length≤1073741824) (hcl:l.all c=true):
  ∀ (k i:Nat),l.length - i=k→i≤l.length→Reach (JI c) C 200 (zx Tryz.f200 3) (I4 l.length i op v.1 v.2.1 v.2.2 s l) (fun r h=>ae h [.expr] r=some (ze.mk op v s l,())):=by
 intro k
 induction k with
 | zero=>
  intro i hk hi
  obtain rfl:i=l.length:=by omega
  refine zk (n0:=0) (uP hg) (Gx c) (fun id _=>hC id) (NX c _ _ _ _ _ _ _ _) ?_
  simp only [z8,Tr.val_brF]
  rfl
 | succ k IH=>
  intro i hk hi
  have hlt:i < l.length:=by omega
  refine zk (n0:=0) (uP hg) (Gx c) (fun id _=>hC id) (NX c _ _ _ _ _ _ _ _) ?_
  have h1:c l[i]=true:=cR.1 hcl _ (cx hlt)
  have h2:decide ((i:Int).toNat < l.length)=true:=by simpa using hlt
  have h3:l.set (i:Int).toNat l[i]=l:=by simp
  simp only [zW hlt,zG hlt,zY l _ hlt,ze.eta,Tr.val_brT,Tr.val_chkT,h1,h2,h3,zH i (by unfold zF; omega)]
  exact IH (i+1) (by omega) (by omega)

def lR:Nat→ze→Bool
 | 0,_=>false
 | n+1,.mk _ _ _ l=>decide (l.length≤1073741824)&&l.all (lR n)

theorem Fk:∀ n,FK 200 (KT (lR n))
 | 0=>cP ⟨Tryz.f200,(Gx (fun _=>false)).1,(Gx (fun _=>false)).2.1,(Gx (fun _=>false)).2.2.1⟩ (fun _=>rfl)
 | n+1=>by
  refine zN (E:=JI (lR n)) (Gx _) fun x hc C hC=>?_
  obtain ⟨⟨op,v,s,l⟩,u⟩:=x
  have hc:(decide (l.length≤1073741824)&&l.all (lR n))=true:=hc
  simp only [aE,zZ] at hc
  refine zk (n0:=0) (uP (Fk n)) (Gx _) (fun id _=>hC id) (zhQ _ op v s l) ?_
  refine cO (by simpa using hc.1) ?_
  exact zg5 (Fk n) hC op v s l hc.1 hc.2 _ 0 rfl (aD _)
def F33:zD:=KT (lR 16)
theorem zbA:FK 200 F33:=Fk 16
noncomputable def ij:=Q3.add 200 F33
theorem fu:zm ij:=uZ.add zbA
open Go

def oG:(ks:List Sh)→zw (ks.map some++[none])→zw (ks.map some)×AV
 | [],x=>((),x.1)
 | _::ks,x=>((x.1,(oG ks x.2).1),(oG ks x.2).2)

theorem ul:∀ (ks:List Sh) (x:zw (ks.map some++[none])),f6 (ks.map some++[none]) x=f6 (ks.map some) (oG ks x).1++[(oG ks x).2]
 | [],_=>rfl
 | s::ks,x=>congrArg (zz s x.1 :: ·) (ul ks x.2)

def MN (k:Nat):AV→Bool
 | .clo (.func j) [] []=>j==k
 | _=>false

theorem MO {k:Nat} {v:AV} (h:MN k v=true):v=.clo (.func k) [] []:=by
 unfold MN at h
 split at h
 ·rw [eQ] at h; rw [h]
 ·cases h

abbrev KR (ks outs:List Sh):=Nat×(zw (ks.map some)→Bool)×(zw (ks.map some)→zw (outs.map some))

def Qt {ks outs:List Sh} (v:AV):List (KR ks outs)→Option ((zw (ks.map some)→Bool)×(zw (ks.map some)→zw (outs.map some)))
 | []=>none
 | (k,a)::r=>if MN k v then some a else Qt v r

theorem Dm {ks outs:List Sh} {v:AV} {a}:∀ {l:List (KR ks outs)},Qt v l=some a→∃ k,v=.clo (.func k) [] []∧(k,a)∈l
 | [],h=>by cases h
 | (k,b)::r,h=>by
  unfold Qt at h
  split at h
  ·rename_i hk
   cases h
   exact ⟨k,MO hk,uc ..⟩
  ·obtain ⟨j,h1,h2⟩:=Dm h
   exact ⟨j,h1,lO _ h2⟩

def Iw (ks outs:List Sh) (l:List (KR ks outs)):cy (ks.map some++[none]):=fun x h=>match h with
 | []=>match Qt (oG ks x).2 l with
  | some (c,g)=>.chk (c (oG ks x).1) (.ok (sn outs (g (oG ks x).1),[]))
  | none=>.err
 | _=>.err

def wk (ks outs:List Sh) (l:List (KR ks outs)):zD:=zR (ks.map some++[none]) (Iw ks outs l)

theorem kC {P:Program} {gl:Nat→AV} {E:bf} {k:FuncId} {f:Func} {ks outs:List Sh} {l:List (KR ks outs)} (hf:zA E.P k f (ks.length+1))
  (h:∀ j c g,(j,c,g)∈l→∀ x,c x=true→∀ C:cq,(∀ id,C.ρ0 id=none)→Reach E C k (au f) (z7 f.ntmps (f6 (ks.map some) x++[.clo (.func j) [] []]) []) (fun r h=>ae h outs r=some (g x))) (qp:E.P=P:=by rfl) (qg:E.gl=gl:=by rfl):lF P gl k (wk ks outs l):=by
 subst qp qg
 refine bq (by simpa using hf) fun x h0 res hx C hC=>?_
 unfold Iw at hx
 split at hx
 ·split at hx
  ·rename_i c g hal
   obtain ⟨j,hv,hm⟩:=Dm hal
   simp only [Tr.val] at hx
   split at hx
   ·rename_i hc
    simp only [ag] at hx
    subst hx
    rw [ul,hv]
    exact Reach.plain (fun id=>hC id (by simp)) (h j c g hm _ hc C (fun id=>hC id (by simp)))
   ·simp at hx
  ·simp at hx
 ·simp at hx

set_option maxHeartbeats 4000000
abbrev b7:Sh:=.pr .str .str
abbrev aQ:Sh:=.pr .str .expr
abbrev zy:Sh:=.pr .str (.pr .str (.pr .str (.pr (.sl .str) (.pr (.sl zi) (.pr .str (.pr (.sl .str) (.pr (.sl b7) (.pr .expr (.pr (.sl zf) (.pr (.sl aQ) (.pr .expr .str)))))))))))
def xQ (x:Sem zy):Sem zy:=(x.1,x.2.1,x.2.2.1,x.2.2.2.1,x.2.2.2.2.1,x.2.2.2.2.2.1,x.2.2.2.2.2.2.1,x.2.2.2.2.2.2.2.1,zB x.2.2.2.2.2.2.2.2.1,x.2.2.2.2.2.2.2.2.2.1,x.2.2.2.2.2.2.2.2.2.2.1,zB x.2.2.2.2.2.2.2.2.2.2.2.1,x.2.2.2.2.2.2.2.2.2.2.2.2)
theorem HN (x:Sem zy):xQ x=x:=by unfold xQ; rw [zo,zo]

abbrev Um:Nat→zX:=fun j=>if j=2 then { slots:=[0,2,4] } else { }
abbrev w7 (s0:TS) (i4:Int) (ja0:Int) (ja1:List UInt8):St:={ tmps:=(tm 37 [(0,AV.str s0),(2,AV.ptr 0 0),(4,ai i4)]),heap:=[AO.box [ai ja0,AV.str ja1]] }
theorem NF:zA (ij).P 235 Tryz.f235 1:=aJ (by kernel_rfl)
theorem zdy (x0:TS):rn ij 0 Um Tryz.f235 [zz Sh.str x0] []=Tr.ok (zr.head 2 (zx Tryz.f235 2) (w7 x0 1 0 [])):=by kernel_rfl
theorem RE (s0:TS) (i4:Int) (ja0:Int) (ja1:List UInt8):rh ij 0 Um Tryz.f235 2 (w7 s0 i4 ja0 ja1)=Tr.br (decide (i4 < (↑(length s0):Int))) (Tr.chk (zE i4 (length s0)) (Tr.br ((↑(getD s0 i4.toNat 0).toNat:Int) != 39) (Tr.ok (zr.head 2 (zx Tryz.f235 2) (w7 s0 (IntKind.i64.wrap (i4+1)) ja0 ja1))) (Tr.chk (bif decide (IntKind.i64.wrap (i4+1) < (↑(length s0):Int)) then zE (IntKind.i64.wrap (i4+1)) (length s0) else true) (Tr.br (bif decide (IntKind.i64.wrap (i4+1) < (↑(length s0):Int)) then (↑(getD s0 (IntKind.i64.wrap (i4+1)).toNat 0).toNat:Int)==39 else false) (Tr.ok (zr.head 2 (zx Tryz.f235 2) (w7 s0 (IntKind.i64.wrap (IntKind.i64.wrap (i4+1)+1)) ja0 ja1))) (Tr.chk (decide (0≤1)&&decide (1≤i4)&&decide (i4≤(↑(length s0):Int))) (Tr.chk (pN (List.take (i4.toNat - toNat 1) (List.drop (toNat 1) s0)) [39,39] [39]) (Tr.ok (zr.ret (AV.tup [AV.agg [ai 3,AV.str (Lib.replaceAll (List.take (i4.toNat - toNat 1) (List.drop (toNat 1) s0)) [39,39] [39])],ai (IntKind.i64.wrap (i4+1))]) [])))))))) (Tr.ok (zr.ret (AV.tup [AV.agg [ai 0,AV.str []],ai 0]) [])):=by kernel_rfl
def dI:Nat→(Sem Sh.str)→Int→Int→(List UInt8)→Sem ed×Sem zg
 | 0,_,_,_,_=>default
 | n+1,s0,i4,ja0,ja1=>(if decide (i4 < (↑(length s0):Int))=true then
 if ((↑(getD s0 i4.toNat 0).toNat:Int) != 39)=true then dI n s0 (IntKind.i64.wrap (i4+1)) ja0 ja1
 else
  if
    (bif decide (IntKind.i64.wrap (i4+1) < (↑(length s0):Int)) then (↑(getD s0 (IntKind.i64.wrap (i4+1)).toNat 0).toNat:Int)==39
     else false)=
     true then
   dI n s0 (IntKind.i64.wrap (IntKind.i64.wrap (i4+1)+1)) ja0 ja1
  else ((3,Lib.replaceAll (List.take (i4.toNat - toNat 1) (List.drop (toNat 1) s0)) [39,39] [39]),IntKind.i64.wrap (i4+1))
else ((0,[]),0))
def gv:Nat→(Sem Sh.str)→Int→Int→(List UInt8)→Bool
 | 0,_,_,_,_=>false
 | n+1,s0,i4,ja0,ja1=>(if decide (i4 < (↑(length s0):Int))=true then
 if zE i4 (length s0)=true then
  if ((↑(getD s0 i4.toNat 0).toNat:Int) != 39)=true then gv n s0 (IntKind.i64.wrap (i4+1)) ja0 ja1
  else
   if (bif decide (IntKind.i64.wrap (i4+1) < (↑(length s0):Int)) then zE (IntKind.i64.wrap (i4+1)) (length s0) else true)=true then
    if
      (bif decide (IntKind.i64.wrap (i4+1) < (↑(length s0):Int)) then (↑(getD s0 (IntKind.i64.wrap (i4+1)).toNat 0).toNat:Int)==39
       else false)=
       true then
     gv n s0 (IntKind.i64.wrap (IntKind.i64.wrap (i4+1)+1)) ja0 ja1
    else
     if (decide (0≤1)&&decide (1≤i4)&&decide (i4≤(↑(length s0):Int)))=true then
      if pN (List.take (i4.toNat - toNat 1) (List.drop (toNat 1) s0)) [39,39] [39]=true then true else false
     else false
   else false
 else false
else true)
theorem Hr {C:cq} (hC:∀ id,C.ρ0 id=none):∀ (n:Nat) (s0:TS) (i4:Int) (ja0:Int) (ja1:List UInt8),gv n s0 i4 ja0 ja1=true→
  Reach (ij) C 235 (zx Tryz.f235 2) (w7 s0 i4 ja0 ja1) (fun r h=>ae h [ed,zg] r=some ((dI n s0 i4 ja0 ja1).1,(dI n s0 i4 ja0 ja1).2,()))
 | 0,s0,i4,ja0,ja1,hc=>by cases hc
 | n+1,s0,i4,ja0,ja1,hc=>by
  refine zk fu (NF) (fun id _=>hC id) (RE _ _ _ _) ?_
  rw [gv] at hc
  generalize hy:dI (n+1) s0 i4 ja0 ja1=y
  rw [dI] at hy
  try simp only [ze.eta,zo]
  repeat' (first | with_reducible refine eU hy hc (fun _ hy hc=>?_) (fun _ hy hc=>?_) | with_reducible refine aP hy (fun _ hy=>?_) (fun _ hy=>?_) | with_reducible refine bh hc (fun hc=>?_) | with_reducible refine zq ?_)
  all_goals first | (cases hc; done) | (subst hy; first | (change Reach _ _ _ _ _ _; refine Hr hC n _ _ _ _ ?_ <;> exact hc) | rfl)
def quoted (x0:TS):Sem ed×Sem zg:=(dI (length x0+1) x0 1 0 [])
def iB (x0:TS):Bool:=(gv (length x0+1) x0 1 0 [])
def Z2:zD:=zC [Sh.str] [ed,zg] (fun x=>iB x.1) fun x=>((quoted x.1).1,(quoted x.1).2,())
theorem Vq:FK 235 Z2:=by
 refine zN (NF) fun x hc C hC=>?_
 unfold iB at hc
 refine zk fu (NF) (fun id _=>hC id) (zdy x.1) ?_
 generalize hy:quoted x.1=y
 unfold quoted at hy
 try simp only [ze.eta,zo]
 repeat' (first | with_reducible refine eU hy hc (fun _ hy hc=>?_) (fun _ hy hc=>?_) | with_reducible refine aP hy (fun _ hy=>?_) (fun _ hy=>?_) | with_reducible refine bh hc (fun hc=>?_) | with_reducible refine zq ?_)
 all_goals first | (cases hc; done) | (subst hy; first | (change Reach _ _ _ _ _ _; refine Hr hC _ _ _ _ _ ?_ <;> exact hc) | rfl)

abbrev zey:Nat→zX:=fun _=>{ }
theorem UA:zA (ij).P 218 Tryz.f218 1:=aJ (by kernel_rfl)
theorem zdu (x0:Sem Sh.expr):rn ij 0 zey Tryz.f218 [zz Sh.expr x0] []=Tr.ok (zr.ret (AV.bool (bif ze.op x0==[] then bif (ze.v x0).1==0&&((ze.v x0).2.1==0&&((ze.v x0).2.2==[]&&true)) then bif ze.s x0==[] then (↑(ze.l x0).length:Int)==0 else false else false else false)) []):=by kernel_rfl
def gH (x0:Sem Sh.expr):Sem Sh.bool:=(bif ze.op x0==[] then bif (ze.v x0).1==0&&((ze.v x0).2.1==0&&((ze.v x0).2.2==[]&&true)) then bif ze.s x0==[] then (↑(ze.l x0).length:Int)==0 else false else false else false)
def ZS:zD:=af [Sh.expr] [Sh.bool] fun x=>(gH x.1,())
theorem Vg:FK 218 ZS:=by
 refine zP (UA) fun x C hC=>?_
 refine zk fu (UA) (fun id _=>hC id) (zdu x.1) ?_
 generalize hy:gH x.1=y
 unfold gH at hy
 try simp only [ze.eta,zo]
 repeat' (first | with_reducible refine aP hy (fun _ hy=>?_) (fun _ hy=>?_) | with_reducible refine zq ?_)
 all_goals first | (cases hc; done) | (subst hy; first | rfl)

abbrev zez:Nat→zX:=fun _=>{ }
theorem UB:zA (ij).P 228 Tryz.f228 1:=aJ (by kernel_rfl)
theorem zdw (x0:Sem zi):rn ij 0 zez Tryz.f228 [zz zi x0] []=Tr.br x0.2.2 (Tr.chk (decide (length x0.1+[32].length≤1099511627776)&&(zE (IntKind.i64.wrap (x0.2.1 - 1)) 3&&bif IntKind.i64.wrap (x0.2.1 - 1)==(↑0:Int) then decide (length (x0.1++[32])+[73,78,84].length≤1099511627776)&&decide (length (x0.1++[32]++[73,78,84])+[32,78,79,84,32,78,85,76,76].length≤1099511627776) else bif IntKind.i64.wrap (x0.2.1 - 1)==(↑(0+1):Int) then decide (length (x0.1++[32])+[84,69,88,84].length≤1099511627776)&&decide (length (x0.1++[32]++[84,69,88,84])+[32,78,79,84,32,78,85,76,76].length≤1099511627776) else decide (length (x0.1++[32])+[66,79,79,76].length≤1099511627776)&&decide (length (x0.1++[32]++[66,79,79,76])+[32,78,79,84,32,78,85,76,76].length≤1099511627776))) (Tr.ok (zr.ret (AV.str (bif IntKind.i64.wrap (x0.2.1 - 1)==(↑0:Int) then x0.1++[32]++[73,78,84]++[32,78,79,84,32,78,85,76,76] else bif IntKind.i64.wrap (x0.2.1 - 1)==(↑(0+1):Int) then x0.1++[32]++[84,69,88,84]++[32,78,79,84,32,78,85,76,76] else x0.1++[32]++[66,79,79,76]++[32,78,79,84,32,78,85,76,76])) []))) (Tr.chk (decide (length x0.1+[32].length≤1099511627776)&&(zE (IntKind.i64.wrap (x0.2.1 - 1)) 3&&
 bif IntKind.i64.wrap (x0.2.1 - 1)==(↑0:Int) then decide (length (x0.1++[32])+[73,78,84].length≤1099511627776) else bif IntKind.i64.wrap (x0.2.1 - 1)==(↑(0+1):Int) then decide (length (x0.1++[32])+[84,69,88,84].length≤1099511627776) else decide (length (x0.1++[32])+[66,79,79,76].length≤1099511627776))) (Tr.ok (zr.ret (AV.str (bif IntKind.i64.wrap (x0.2.1 - 1)==(↑0:Int) then x0.1++[32]++[73,78,84] else bif IntKind.i64.wrap (x0.2.1 - 1)==(↑(0+1):Int) then x0.1++[32]++[84,69,88,84] else x0.1++[32]++[66,79,79,76])) []))):=by kernel_rfl
def dB (x0:Sem zi):Sem Sh.str:=(if x0.2.2=true then bif IntKind.i64.wrap (x0.2.1 - 1)==(↑0:Int) then x0.1++[32]++[73,78,84]++[32,78,79,84,32,78,85,76,76] else bif IntKind.i64.wrap (x0.2.1 - 1)==(↑(0+1):Int) then x0.1++[32]++[84,69,88,84]++[32,78,79,84,32,78,85,76,76] else x0.1++[32]++[66,79,79,76]++[32,78,79,84,32,78,85,76,76] else bif IntKind.i64.wrap (x0.2.1 - 1)==(↑0:Int) then x0.1++[32]++[73,78,84] else bif IntKind.i64.wrap (x0.2.1 - 1)==(↑(0+1):Int) then x0.1++[32]++[84,69,88,84] else x0.1++[32]++[66,79,79,76])
def gF (x0:Sem zi):Bool:=(if x0.2.2=true then if (decide (length x0.1+[32].length≤1099511627776)&&(zE (IntKind.i64.wrap (x0.2.1 - 1)) 3&&bif IntKind.i64.wrap (x0.2.1 - 1)==(↑0:Int) then decide (length (x0.1++[32])+[73,78,84].length≤1099511627776)&&decide (length (x0.1++[32]++[73,78,84])+[32,78,79,84,32,78,85,76,76].length≤1099511627776) else bif IntKind.i64.wrap (x0.2.1 - 1)==(↑(0+1):Int) then decide (length (x0.1++[32])+[84,69,88,84].length≤1099511627776)&&decide (length (x0.1++[32]++[84,69,88,84])+[32,78,79,84,32,78,85,76,76].length≤1099511627776) else decide (length (x0.1++[32])+[66,79,79,76].length≤1099511627776)&&decide (length (x0.1++[32]++[66,79,79,76])+[32,78,79,84,32,78,85,76,76].length≤1099511627776)))=true then true else false else if (decide (length x0.1+[32].length≤1099511627776)&&(zE (IntKind.i64.wrap (x0.2.1 - 1)) 3&&bif IntKind.i64.wrap (x0.2.1 - 1)==(↑0:Int) then decide (length (x0.1++[32])+[73,78,84].length≤1099511627776) else bif IntKind.i64.wrap (x0.2.1 - 1)==(↑(0+1):Int) then decide (length (x0.1++[32])+[84,69,88,84].length≤1099511627776) else decide (length (x0.1++[32])+[66,79,79,76].length≤1099511627776)))=true then true else false)
def ZX:zD:=zC [zi] [Sh.str] (fun x=>gF x.1) fun x=>(dB x.1,())
theorem Vl:FK 228 ZX:=by
 refine zN (UB) fun x hc C hC=>?_
 unfold gF at hc
 refine zk fu (UB) (fun id _=>hC id) (zdw x.1) ?_
 generalize hy:dB x.1=y
 unfold dB at hy
 try simp only [ze.eta,zo]
 repeat' (first | with_reducible refine eU hy hc (fun _ hy hc=>?_) (fun _ hy hc=>?_) | with_reducible refine aP hy (fun _ hy=>?_) (fun _ hy=>?_) | with_reducible refine bh hc (fun hc=>?_) | with_reducible refine zq ?_)
 all_goals first | (cases hc; done) | (subst hy; first | rfl)

abbrev zjd:Nat→zX:=fun _=>{ }
theorem zf0:zA (ij).P 157 Tryz.f157 1:=aJ (by kernel_rfl)
theorem zir (x0:TS):rn ij 0 zjd Tryz.f157 [zz Sh.str x0] []=Tr.ok (zr.ret (AV.str x0) []):=by kernel_rfl
def lC (x0:TS):Sem Sh.str:=(x0)
def F88:zD:=af [Sh.str] [Sh.str] fun x=>(lC x.1,())
theorem zcp:FK 157 F88:=by
 refine zP (zf0) fun x C hC=>?_
 refine zk fu (zf0) (fun id _=>hC id) (zir x.1) ?_
 generalize hy:lC x.1=y
 unfold lC at hy
 try simp only [ze.eta,zo]
 repeat' (first | with_reducible refine aP hy (fun _ hy=>?_) (fun _ hy=>?_) | with_reducible refine zq ?_)
 all_goals first | (cases hc; done) | (subst hy; first | rfl)

abbrev zi8:Nat→zX:=fun _=>{ }
theorem zfU:zA (ij).P 149 Tryz.f149 1:=aJ (by kernel_rfl)
theorem zil (x0:TS):rn ij 0 zi8 Tryz.f149 [zz Sh.str x0] []=Tr.ok (zr.ret (AV.bool (bif gU x0 then !wY x0 else false)) []):=by kernel_rfl
def aT (x0:TS):Sem Sh.bool:=(bif gU x0 then !wY x0 else false)
def F80:zD:=af [Sh.str] [Sh.bool] fun x=>(aT x.1,())
theorem zch:FK 149 F80:=by
 refine zP (zfU) fun x C hC=>?_
 refine zk fu (zfU) (fun id _=>hC id) (zil x.1) ?_
 generalize hy:aT x.1=y
 unfold aT at hy
 try simp only [ze.eta,zo]
 repeat' (first | with_reducible refine aP hy (fun _ hy=>?_) (fun _ hy=>?_) | with_reducible refine zq ?_)
 all_goals first | (cases hc; done) | (subst hy; first | rfl)

abbrev zeO:Nat→zX:=fun _=>{ unroll:=true }
theorem UE:zA (ij).P 169 Tryz.f169 1:=aJ (by kernel_rfl)
theorem zdG (x0:Sem ed):rn ij 0 zeO Tryz.f169 [zz ed x0] []=Tr.br (x0.1==3) (Tr.ok (zr.ret (AV.bool (fC (2,0,x0.2))) [])) (Tr.br (x0.1==4) (Tr.chk (bif (↑(length x0.2):Int)==1 then length x0.2==1 else true) (Tr.ok (zr.ret (AV.bool (bif (↑(length x0.2):Int)==1 then decide (0≤Lib.indexByte [40,41,44,61,60,43,45,42] (List.headD x0.2 0)) else false)) []))) (Tr.br true (Tr.chk true (Tr.br (1==x0.1) (Tr.ok (zr.ret (AV.bool (bif decide ((↑(length x0.2):Int) ≥ 1) then bif decide ((↑(length x0.2):Int)≤16) then (↑(aq aA bV x0.2):Int)==(↑(length x0.2):Int) else false else false)) [])) (Tr.br true (Tr.chk true (Tr.br (2==x0.1) (Tr.ok (zr.ret (AV.bool (bif decide ((↑(length x0.2):Int) ≥ 1) then bif decide ((↑(length x0.2):Int)≤19) then (↑(aq zQ zQ x0.2):Int)==(↑(length x0.2):Int) else false else false)) [])) (Tr.br false Tr.err (Tr.ok (zr.ret (AV.kb false) []))))) (Tr.ok (zr.ret (AV.kb false) []))))) (Tr.ok (zr.ret (AV.kb false) [])))):=by kernel_rfl
def fm (x0:Sem ed):Sem Sh.bool:=(if (x0.1==3)=true then fC (2,0,x0.2) else if (x0.1==4)=true then bif (↑(length x0.2):Int)==1 then decide (0≤Lib.indexByte [40,41,44,61,60,43,45,42] (List.headD x0.2 0)) else false else if true=true then if (1==x0.1)=true then bif decide ((↑(length x0.2):Int) ≥ 1) then bif decide ((↑(length x0.2):Int)≤16) then (↑(aq aA bV x0.2):Int)==(↑(length x0.2):Int) else false else false else if true=true then if (2==x0.1)=true then bif decide ((↑(length x0.2):Int) ≥ 1) then bif decide ((↑(length x0.2):Int)≤19) then (↑(aq zQ zQ x0.2):Int)==(↑(length x0.2):Int) else false else false else if false=true then default else false else false else false)
def nk (x0:Sem ed):Bool:=(if (x0.1==3)=true then true else if (x0.1==4)=true then if (bif (↑(length x0.2):Int)==1 then length x0.2==1 else true)=true then true else false else if true=true then if true=true then if (1==x0.1)=true then true else if true=true then if true=true then if (2==x0.1)=true then true else if false=true then false else true else false else true else false else true)
def zaK:zD:=zC [ed] [Sh.bool] (fun x=>nk x.1) fun x=>(fm x.1,())
theorem Wc:FK 169 zaK:=by
 refine zN (UE) fun x hc C hC=>?_
 unfold nk at hc
 refine zk fu (UE) (fun id _=>hC id) (zdG x.1) ?_
 generalize hy:fm x.1=y
 unfold fm at hy
 try simp only [ze.eta,zo]
 repeat' (first | with_reducible refine eU hy hc (fun _ hy hc=>?_) (fun _ hy hc=>?_) | with_reducible refine aP hy (fun _ hy=>?_) (fun _ hy=>?_) | with_reducible refine bh hc (fun hc=>?_) | with_reducible refine zq ?_)
 all_goals first | (cases hc; done) | (subst hy; first | rfl)

noncomputable def du:=ij.addL [(235,Z2),(218,ZS),(228,ZX),(157,F88),(149,F80),(169,zaK)]
theorem cg:zm du:=fu.addL <| fc Vq <| fc Vg <| fc Vl <| fc zcp <| fc zch <| fc Wc gW

abbrev zjb:Nat→zX:=fun _=>{ }
theorem zfY:zA (du).P 154 Tryz.f154 1:=aJ (by kernel_rfl)
theorem zio (x0:Sem Sh.expr):rn du 0 zjb Tryz.f154 [zz Sh.expr x0] []=Tr.ok (zr.ret (AV.bool (bif gH (zB x0) then true else hY (zB x0))) []):=by kernel_rfl
def dl (x0:Sem Sh.expr):Sem Sh.bool:=(bif gH x0 then true else hY x0)
def F85:zD:=af [Sh.expr] [Sh.bool] fun x=>(dl x.1,())
theorem zcm:FK 154 F85:=by
 refine zP (zfY) fun x C hC=>?_
 refine zk cg (zfY) (fun id _=>hC id) (zio x.1) ?_
 generalize hy:dl x.1=y
 unfold dl at hy
 try simp only [ze.eta]
 repeat' (first | with_reducible refine aP hy (fun _ hy=>?_) (fun _ hy=>?_) | with_reducible refine zq ?_)
 all_goals first | (cases hc; done) | (subst hy; first | rfl)

abbrev zew:Nat→zX:=fun _=>{ }
theorem Uy:zA (du).P 210 Tryz.f210 1:=aJ (by kernel_rfl)
theorem zds (x0:Sem zi):rn du 0 zew Tryz.f210 [zz zi x0] []=Tr.ok (zr.ret (AV.bool (bif aT x0.1 then bif decide (x0.2.1 ≥ 1) then decide (x0.2.1≤3) else false else false)) []):=by kernel_rfl
def js (x0:Sem zi):Sem Sh.bool:=(bif aT x0.1 then bif decide (x0.2.1 ≥ 1) then decide (x0.2.1≤3) else false else false)
def ZJ:zD:=af [zi] [Sh.bool] fun x=>(js x.1,())
theorem U7:FK 210 ZJ:=by
 refine zP (Uy) fun x C hC=>?_
 refine zk cg (Uy) (fun id _=>hC id) (zds x.1) ?_
 generalize hy:js x.1=y
 unfold js at hy
 try simp only [ze.eta,zo]
 repeat' (first | with_reducible refine aP hy (fun _ hy=>?_) (fun _ hy=>?_) | with_reducible refine zq ?_)
 all_goals first | (cases hc; done) | (subst hy; first | rfl)

abbrev zex:Nat→zX:=fun _=>{ }
theorem Uz:zA (du).P 211 Tryz.f211 1:=aJ (by kernel_rfl)
theorem zdt (x0:Sem b7):rn du 0 zex Tryz.f211 [zz b7 x0] []=Tr.ok (zr.ret (AV.bool (bif aT x0.1 then aT x0.2 else false)) []):=by kernel_rfl
def sm (x0:Sem b7):Sem Sh.bool:=(bif aT x0.1 then aT x0.2 else false)
def ZK:zD:=af [b7] [Sh.bool] fun x=>(sm x.1,())
theorem U8:FK 211 ZK:=by
 refine zP (Uz) fun x C hC=>?_
 refine zk cg (Uz) (fun id _=>hC id) (zdt x.1) ?_
 generalize hy:sm x.1=y
 unfold sm at hy
 try simp only [ze.eta,zo]
 repeat' (first | with_reducible refine aP hy (fun _ hy=>?_) (fun _ hy=>?_) | with_reducible refine zq ?_)
 all_goals first | (cases hc; done) | (subst hy; first | rfl)

abbrev zja:Nat→zX:=fun _=>{ }
theorem zfW:zA (du).P 152 Tryz.f152 1:=aJ (by kernel_rfl)
theorem zin (x0:Sem aQ):rn du 0 zja Tryz.f152 [zz aQ x0] []=Tr.ok (zr.ret (AV.bool (bif aT x0.1 then hY (zB x0.2) else false)) []):=by kernel_rfl
def nQ (x0:Sem aQ):Sem Sh.bool:=(bif aT x0.1 then hY x0.2 else false)
def F83:zD:=af [aQ] [Sh.bool] fun x=>(nQ x.1,())
theorem zck:FK 152 F83:=by
 refine zP (zfW) fun x C hC=>?_
 refine zk cg (zfW) (fun id _=>hC id) (zin x.1) ?_
 generalize hy:nQ x.1=y
 unfold nQ at hy
 try simp only [ze.eta]
 repeat' (first | with_reducible refine aP hy (fun _ hy=>?_) (fun _ hy=>?_) | with_reducible refine zq ?_)
 all_goals first | (cases hc; done) | (subst hy; first | rfl)

abbrev zjf:Nat→zX:=fun _=>{ }
theorem zf2:zA (du).P 161 Tryz.f161 1:=aJ (by kernel_rfl)
theorem ziu (x0:Sem zf):rn du 0 zjf Tryz.f161 [zz zf x0] []=Tr.br (!fC x0) (Tr.ok (zr.ret (AV.str []) [])) (Tr.br (x0.1==1) (Tr.chk (10==10) (Tr.ok (zr.ret (AV.str (nM x0.2.1)) []))) (Tr.br (x0.1==2) (Tr.chk (pN x0.2.2 [39] [39,39]) (Tr.chk (decide ([39].length+(Lib.replaceAll x0.2.2 [39] [39,39]).length≤1099511627776)) (Tr.chk (decide (length ([39]++Lib.replaceAll x0.2.2 [39] [39,39])+[39].length≤1099511627776)) (Tr.ok (zr.ret (AV.str ([39]++Lib.replaceAll x0.2.2 [39] [39,39]++[39])) []))))) (Tr.br (x0.1==3) (Tr.br (ei x0==2) (Tr.ok (zr.ret (AV.str [84,82,85,69]) [])) (Tr.ok (zr.ret (AV.str [70,65,76,83,69]) []))) (Tr.ok (zr.ret (AV.str [78,85,76,76]) []))))):=by kernel_rfl
def fV (x0:Sem zf):Sem Sh.str:=(if (!fC x0)=true then [] else if (x0.1==1)=true then nM x0.2.1 else if (x0.1==2)=true then [39]++Lib.replaceAll x0.2.2 [39] [39,39]++[39] else if (x0.1==3)=true then if (ei x0==2)=true then [84,82,85,69] else [70,65,76,83,69] else [78,85,76,76])
def lg (x0:Sem zf):Bool:=(if (!fC x0)=true then true else if (x0.1==1)=true then if (10==10)=true then true else false else if (x0.1==2)=true then if pN x0.2.2 [39] [39,39]=true then if decide ([39].length+(Lib.replaceAll x0.2.2 [39] [39,39]).length≤1099511627776)=true then if decide (length ([39]++Lib.replaceAll x0.2.2 [39] [39,39])+[39].length≤1099511627776)=true then true else false else false else false else true)
def F92:zD:=zC [zf] [Sh.str] (fun x=>lg x.1) fun x=>(fV x.1,())
theorem zcv:FK 161 F92:=by
 refine zN (zf2) fun x hc C hC=>?_
 unfold lg at hc
 refine zk cg (zf2) (fun id _=>hC id) (ziu x.1) ?_
 generalize hy:fV x.1=y
 unfold fV at hy
 try simp only [ze.eta,zo]
 repeat' (first | with_reducible refine eU hy hc (fun _ hy hc=>?_) (fun _ hy hc=>?_) | with_reducible refine aP hy (fun _ hy=>?_) (fun _ hy=>?_) | with_reducible refine bh hc (fun hc=>?_) | with_reducible refine zq ?_)
 all_goals first | (cases hc; done) | (subst hy; first | rfl)

abbrev zjc:Nat→zX:=fun _=>{ }
theorem zfZ:zA (du).P 156 Tryz.f156 1:=aJ (by kernel_rfl)
theorem ziq (x0:Sem zy):rn du 0 zjc Tryz.f156 [zz zy x0] []=Tr.chk (decide (length x0.2.1+length x0.2.2.1≤1099511627776)) (Tr.chk (decide (length (x0.2.1++x0.2.2.1)+length x0.2.2.2.2.2.1≤1099511627776)) (Tr.chk (decide (length (x0.2.1++x0.2.2.1++x0.2.2.2.2.2.1)+length x0.2.2.2.2.2.2.2.2.2.2.2.2≤1099511627776)) (Tr.ok (zr.ret (AV.bool (bif x0.2.1++x0.2.2.1++x0.2.2.2.2.2.1++x0.2.2.2.2.2.2.2.2.2.2.2.2==[] then bif IntKind.i64.wrap (IntKind.i64.wrap (IntKind.i64.wrap (IntKind.i64.wrap (IntKind.i64.wrap ((↑(length x0.2.2.2.1):Int)+(↑(length x0.2.2.2.2.1):Int))+(↑(length x0.2.2.2.2.2.2.1):Int))+(↑(length x0.2.2.2.2.2.2.2.1):Int))+(↑(length x0.2.2.2.2.2.2.2.2.2.1):Int))+(↑(length x0.2.2.2.2.2.2.2.2.2.2.1):Int))==0 then bif gH (zB x0.2.2.2.2.2.2.2.2.1) then gH (zB x0.2.2.2.2.2.2.2.2.2.2.2.1) else false else false else false)) [])))):=by kernel_rfl
def fk (x0:Sem zy):Sem Sh.bool:=(bif x0.2.1++x0.2.2.1++x0.2.2.2.2.2.1++x0.2.2.2.2.2.2.2.2.2.2.2.2==[] then bif IntKind.i64.wrap (IntKind.i64.wrap (IntKind.i64.wrap (IntKind.i64.wrap (IntKind.i64.wrap ((↑(length x0.2.2.2.1):Int)+(↑(length x0.2.2.2.2.1):Int))+(↑(length x0.2.2.2.2.2.2.1):Int))+(↑(length x0.2.2.2.2.2.2.2.1):Int))+(↑(length x0.2.2.2.2.2.2.2.2.2.1):Int))+(↑(length x0.2.2.2.2.2.2.2.2.2.2.1):Int))==0 then bif gH x0.2.2.2.2.2.2.2.2.1 then gH x0.2.2.2.2.2.2.2.2.2.2.2.1 else false else false else false)
def dc (x0:Sem zy):Bool:=(if decide (length x0.2.1+length x0.2.2.1≤1099511627776)=true then if decide (length (x0.2.1++x0.2.2.1)+length x0.2.2.2.2.2.1≤1099511627776)=true then if decide (length (x0.2.1++x0.2.2.1++x0.2.2.2.2.2.1)+length x0.2.2.2.2.2.2.2.2.2.2.2.2≤1099511627776)=true then true else false else false else false)
def F87:zD:=zC [zy] [Sh.bool] (fun x=>dc x.1) fun x=>(fk x.1,())
theorem zco:FK 156 F87:=by
 refine zN (zfZ) fun x hc C hC=>?_
 unfold dc at hc
 refine zk cg (zfZ) (fun id _=>hC id) (ziq x.1) ?_
 generalize hy:fk x.1=y
 unfold fk at hy
 try simp only [ze.eta]
 repeat' (first | with_reducible refine eU hy hc (fun _ hy hc=>?_) (fun _ hy hc=>?_) | with_reducible refine aP hy (fun _ hy=>?_) (fun _ hy=>?_) | with_reducible refine bh hc (fun hc=>?_) | with_reducible refine zq ?_)
 all_goals first | (cases hc; done) | (subst hy; first | rfl)

abbrev zjk:Nat→zX:=fun _=>{ unroll:=true }
theorem zf7:zA (du).P 168 Tryz.f168 1:=aJ (by kernel_rfl)
theorem ziB (x0:TS):rn du 0 zjk Tryz.f168 [zz Sh.str x0] []=Tr.br true (Tr.chk true (Tr.br (decide ((↑(aq aA bV x0):Int) > 0)) (Tr.chk (decide (0≤0)&&decide (0≤(↑(aq aA bV x0):Int))&&decide ((↑(aq aA bV x0):Int)≤(↑(length x0):Int))) (Tr.ok (zr.ret (AV.tup [AV.agg [ai 1,AV.str (List.take ((↑(aq aA bV x0):Int).toNat - toNat 0) (List.drop (toNat 0) x0))],ai (↑(aq aA bV x0):Int)]) []))) (Tr.br true (Tr.chk true (Tr.br (decide ((↑(aq zQ zQ x0):Int) > 0)) (Tr.chk (decide (0≤0)&&decide (0≤(↑(aq zQ zQ x0):Int))&&decide ((↑(aq zQ zQ x0):Int)≤(↑(length x0):Int))) (Tr.ok (zr.ret (AV.tup [AV.agg [ai 2,AV.str (List.take ((↑(aq zQ zQ x0):Int).toNat - toNat 0) (List.drop (toNat 0) x0))],ai (↑(aq zQ zQ x0):Int)]) []))) (Tr.br false Tr.err (Tr.chk (zE 0 (length x0)) (Tr.br ((↑(getD x0 (toNat 0) 0).toNat:Int)==39) (Tr.chk (iB x0) (Tr.ok (zr.ret (AV.tup [AV.agg [ai (quoted x0).1.1,AV.str (quoted x0).1.2],ai (quoted x0).2]) []))) (Tr.chk (decide (0≤0)&&decide (0≤1)&&decide (1≤(↑(length x0):Int))) (Tr.ok (zr.ret (AV.tup
 [AV.agg [ai 4,AV.str (List.take (toNat 1 - toNat 0) (List.drop (toNat 0) x0))],ai 1]) [])))))))) (Tr.chk (zE 0 (length x0)) (Tr.br ((↑(getD x0 (toNat 0) 0).toNat:Int)==39) (Tr.chk (iB x0) (Tr.ok (zr.ret (AV.tup [AV.agg [ai (quoted x0).1.1,AV.str (quoted x0).1.2],ai (quoted x0).2]) []))) (Tr.chk (decide (0≤0)&&decide (0≤1)&&decide (1≤(↑(length x0):Int))) (Tr.ok (zr.ret (AV.tup [AV.agg [ai 4,AV.str (List.take (toNat 1 - toNat 0) (List.drop (toNat 0) x0))],ai 1]) [])))))))) (Tr.chk (zE 0 (length x0)) (Tr.br ((↑(getD x0 (toNat 0) 0).toNat:Int)==39) (Tr.chk (iB x0) (Tr.ok (zr.ret (AV.tup [AV.agg [ai (quoted x0).1.1,AV.str (quoted x0).1.2],ai (quoted x0).2]) []))) (Tr.chk (decide (0≤0)&&decide (0≤1)&&decide (1≤(↑(length x0):Int))) (Tr.ok (zr.ret (AV.tup [AV.agg [ai 4,AV.str (List.take (toNat 1 - toNat 0) (List.drop (toNat 0) x0))],ai 1]) []))))):=by kernel_rfl
def aU (x0:TS):Sem ed×Sem zg:=(if true=true then if decide ((↑(aq aA bV x0):Int) > 0)=true then ((1,List.take ((↑(aq aA bV x0):Int).toNat - toNat 0) (List.drop (toNat 0) x0)),(↑(aq aA bV x0):Int)) else if true=true then if decide ((↑(aq zQ zQ x0):Int) > 0)=true then ((2,List.take ((↑(aq zQ zQ x0):Int).toNat - toNat 0) (List.drop (toNat 0) x0)),(↑(aq zQ zQ x0):Int)) else if false=true then default else if ((↑(getD x0 (toNat 0) 0).toNat:Int)==39)=true then ((quoted x0).1,(quoted x0).2) else ((4,List.take (toNat 1 - toNat 0) (List.drop (toNat 0) x0)),1) else if ((↑(getD x0 (toNat 0) 0).toNat:Int)==39)=true then ((quoted x0).1,(quoted x0).2) else ((4,List.take (toNat 1 - toNat 0) (List.drop (toNat 0) x0)),1) else if ((↑(getD x0 (toNat 0) 0).toNat:Int)==39)=true then ((quoted x0).1,(quoted x0).2) else ((4,List.take (toNat 1 - toNat 0) (List.drop (toNat 0) x0)),1))
def iS (x0:TS):Bool:=(if true=true then if true=true then if decide ((↑(aq aA bV x0):Int) > 0)=true then if (decide (0≤0)&&decide (0≤(↑(aq aA bV x0):Int))&&decide ((↑(aq aA bV x0):Int)≤(↑(length x0):Int)))=true then true else false else if true=true then if true=true then if decide ((↑(aq zQ zQ x0):Int) > 0)=true then if (decide (0≤0)&&decide (0≤(↑(aq zQ zQ x0):Int))&&decide ((↑(aq zQ zQ x0):Int)≤(↑(length x0):Int)))=true then true else false else if false=true then false else if zE 0 (length x0)=true then if ((↑(getD x0 (toNat 0) 0).toNat:Int)==39)=true then if iB x0=true then true else false else if (decide (0≤0)&&decide (0≤1)&&decide (1≤(↑(length x0):Int)))=true then true else false else false else false else if zE 0 (length x0)=true then if ((↑(getD x0 (toNat 0) 0).toNat:Int)==39)=true then if iB x0=true then true else false else if (decide (0≤0)&&decide (0≤1)&&decide (1≤(↑(length x0):Int)))=true then true else false else false else false else if zE 0 (length x0)=true then if ((↑(getD x0 (toNat 0) 0).toNat:Int)==39)=true then if iB x0=true then true else false else if (decide (0≤0)&&decide (0≤1)&&decide (1≤(↑(length x0):Int)))=true then true else false else false)
def F99:zD:=zC [Sh.str] [ed,zg] (fun x=>iS x.1) fun x=>((aU x.1).1,(aU x.1).2,())
theorem zcC:FK 168 F99:=by
 refine zN (zf7) fun x hc C hC=>?_
 unfold iS at hc
 refine zk cg (zf7) (fun id _=>hC id) (ziB x.1) ?_
 generalize hy:aU x.1=y
 unfold aU at hy
 try simp only [ze.eta,zo]
 repeat' (first | with_reducible refine eU hy hc (fun _ hy hc=>?_) (fun _ hy hc=>?_) | with_reducible refine aP hy (fun _ hy=>?_) (fun _ hy=>?_) | with_reducible refine bh hc (fun hc=>?_) | with_reducible refine zq ?_)
 all_goals first | (cases hc; done) | (subst hy; first | rfl)

abbrev Ul:Nat→zX:=fun j=>if j=3 then { slots:=[1,5,8,9,10],prom:=[(5,none,.str)] } else { }
abbrev w6 (l8:LC) (i9:Int) (i10:Int) (lh_0:LS):St:={ tmps:=(tm 23 [(1,AV.clo (Fn.func 228) [] []),(5,AV.vec 0),(8,AV.sl zi l8),(9,ai i9),(10,ai i10)]),heap:=[AO.vec Sh.str lh_0] }
theorem Id:zA (du).P 227 Tryz.f227 2:=aJ (by kernel_rfl)
theorem zdv (x0:Sem zi.sl):rn du 0 Ul Tryz.f227 [zz zi.sl x0,AV.clo (Fn.func 228) [] []] []=Tr.ok (zr.head 3 (zx Tryz.f227 3) (w6 x0 (↑(length x0):Int) 0 [])):=by kernel_rfl
theorem In (l8:LC) (i9:Int) (i10:Int) (lh_0:LS):rh du 0 Ul Tryz.f227 3 (w6 l8 i9 i10 lh_0)=Tr.br (decide (i10 < i9)) (Tr.chk (zE i10 l8.length) (Tr.chk (gF (l8.getD i10.toNat (zj zi))) (Tr.chk (decide (lh_0.length+[dB (l8.getD i10.toNat (zj zi))].length≤1073741824)) (Tr.ok (zr.head 3 (zx Tryz.f227 3) (w6 l8 i9 (IntKind.i64.wrap (i10+1)) (lh_0++[dB (l8.getD i10.toNat (zj zi))]))))))) (Tr.chk (decide (lh_0.length≤140737488355328)&&decide ((Lib.join lh_0 [32,44,32]).length≤140737488355328)) (Tr.ok (zr.ret (AV.str (Lib.join lh_0 [32,44,32])) []))):=by kernel_rfl
def cD:List (Sem zi)→Int→List (Sem Sh.str)→Sem Sh.str
 | [],_,lh_0=>(Lib.join lh_0 [32,44,32])
 | x::r,i10,lh_0=>(cD r (i10+1) (lh_0++[dB x]))
def cT:List (Sem zi)→Int→List (Sem Sh.str)→Bool
 | [],_,lh_0=>(if (decide (lh_0.length≤140737488355328)&&decide ((Lib.join lh_0 [32,44,32]).length≤140737488355328))=true then true else false)
 | x::r,i10,lh_0=>(if gF x=true then if decide (lh_0.length+[dB x].length≤1073741824)=true then cT r (i10+1) (lh_0++[dB x]) else false
else false)
theorem Qw {C:cq} (hC:∀ id,C.ρ0 id=none) (l8:LC) (hl:l8.length≤zF):∀ (m i:Nat) (lh_0:LS),l8.length - i=m→i≤l8.length→cT (l8.drop i) i lh_0=true→
  Reach (du) C 227 (zx Tryz.f227 3) (w6 l8 (l8.length:Int) (i:Int) lh_0) (fun r h=>ae h [Sh.str] r=some (cD (l8.drop i) i lh_0,())):=by
 intro m
 induction m with
 | zero=>
  intro i lh_0 hm hi hc
  obtain rfl:i=l8.length:=by omega
  rw [dg] at hc ⊢
  refine zk cg (Id) (fun id _=>hC id) (In _ _ _ _) ?_
  rw [cT] at hc
  generalize hy:cD [] _ lh_0=y
  rw [cD] at hy
  simp only [z8,Tr.val_brF]
  repeat' (first | with_reducible refine eU hy hc (fun _ hy hc=>?_) (fun _ hy hc=>?_) | with_reducible refine aP hy (fun _ hy=>?_) (fun _ hy=>?_) | with_reducible refine bh hc (fun hc=>?_) | with_reducible refine zq ?_)
  all_goals first | (cases hc; done) | (subst hy; first | rfl)
 | succ m IH=>
  intro i lh_0 hm hi hc
  have hlt:i < l8.length:=by omega
  have IH:=IH (i+1)
  have hcast:((i:Int)+1)=((i+1:Nat):Int):=by omega
  have hwr:=zH i (by omega)
  rw [dA hlt] at hc ⊢
  refine zk cg (Id) (fun id _=>hC id) (In _ _ _ _) ?_
  rw [cT] at hc
  generalize hy:cD (l8[i]::l8.drop (i+1)) (i:Int) lh_0=y
  rw [cD] at hy
  simp only [zW hlt,zG hlt,zY l8 _ hlt,hwr,Tr.val_brT,Tr.val_chkT]
  clear hwr
  try simp only [zG hlt] at hy
  simp only [hcast] at hy
  try simp only [zG hlt] at hc
  try simp only [hcast] at hc
  repeat' (first | with_reducible refine eU hy hc (fun _ hy hc=>?_) (fun _ hy hc=>?_) | with_reducible refine aP hy (fun _ hy=>?_) (fun _ hy=>?_) | with_reducible refine bh hc (fun hc=>?_) | with_reducible refine zq ?_)
  all_goals first | (cases hc; done) | (subst hy; first | (change Reach _ _ _ _ _ _; apply IH <;> first | omega | assumption) | rfl)
theorem Lc {C:cq} (hC:∀ id,C.ρ0 id=none) (l8:LC) (lh_0:LS) (hc:cT l8 0 lh_0=true):
  Reach (du) C 227 (zx Tryz.f227 3) (w6 l8 (l8.length:Int) 0 lh_0) (fun r h=>ae h [Sh.str] r=some (cD l8 0 lh_0,())):=
 Reach.len 8 (zi) l8 rfl fun hl=>Qw hC l8 hl _ 0 lh_0 rfl (aD _) hc
def dj (x0:Sem zi.sl):Sem Sh.str:=(cD x0 0 [])
def iJ (x0:Sem zi.sl):Bool:=(cT x0 0 [])
def ZW:zD:=wk [zi.sl] [Sh.str] [(228,(fun x=>iJ x.1),fun x=>(dj x.1,()))]
theorem Vk:FK 227 ZW:=by
 refine kC (Id) fun j c g hm x hc C hC=>?_
 simp only [bN,bu] at hm
 obtain ⟨rfl,rfl,rfl⟩:=hm
 replace hc:iJ x.1=true:=hc
 unfold iJ at hc
 refine zk cg (Id) (fun id _=>hC id) (zdv x.1) ?_
 generalize hy:dj x.1=y
 unfold dj at hy
 repeat' (first | with_reducible refine eU hy hc (fun _ hy hc=>?_) (fun _ hy hc=>?_) | with_reducible refine aP hy (fun _ hy=>?_) (fun _ hy=>?_) | with_reducible refine bh hc (fun hc=>?_) | with_reducible refine zq ?_)
 all_goals first | (cases hc; done) | (subst hy; first | (change Reach _ _ _ _ _ _; apply Lc hC <;> first | assumption | exact hc) | rfl)

abbrev ze8:Nat→zX:=fun j=>if j=3 then { slots:=[1,5,8,9,10],prom:=[(5,none,.str)] } else { }
abbrev E1 (l8:LS) (i9:Int) (i10:Int) (lh_0:LS):St:={ tmps:=(tm 23 [(1,AV.clo (Fn.func 157) [] []),(5,AV.vec 0),(8,AV.sl Sh.str l8),(9,ai i9),(10,ai i10)]),heap:=[AO.vec Sh.str lh_0] }
theorem RD:zA (du).P 166 Tryz.f166 2:=aJ (by kernel_rfl)
theorem ziz (x0:Sem Sh.str.sl):rn du 0 ze8 Tryz.f166 [zz Sh.str.sl x0,AV.clo (Fn.func 157) [] []] []=Tr.ok (zr.head 3 (zx Tryz.f166 3) (E1 x0 (↑(length x0):Int) 0 [])):=by kernel_rfl
theorem N6 (l8:LS) (i9:Int) (i10:Int) (lh_0:LS):rh du 0 ze8 Tryz.f166 3 (E1 l8 i9 i10 lh_0)=Tr.br (decide (i10 < i9)) (Tr.chk (zE i10 l8.length) (Tr.chk (decide (lh_0.length+[lC (l8.getD i10.toNat (zj Sh.str))].length≤1073741824)) (Tr.ok (zr.head 3 (zx Tryz.f166 3) (E1 l8 i9 (IntKind.i64.wrap (i10+1)) (lh_0++[lC (l8.getD i10.toNat (zj Sh.str))])))))) (Tr.chk (decide (lh_0.length≤140737488355328)&&decide ((Lib.join lh_0 [32,44,32]).length≤140737488355328)) (Tr.ok (zr.ret (AV.str (Lib.join lh_0 [32,44,32])) []))):=by kernel_rfl
def cI:List (Sem Sh.str)→Int→List (Sem Sh.str)→Sem Sh.str
 | [],_,lh_0=>(Lib.join lh_0 [32,44,32])
 | x::r,i10,lh_0=>(cI r (i10+1) (lh_0++[lC x]))
def cZ:List (Sem Sh.str)→Int→List (Sem Sh.str)→Bool
 | [],_,lh_0=>(if (decide (lh_0.length≤140737488355328)&&decide ((Lib.join lh_0 [32,44,32]).length≤140737488355328))=true then true else false)
 | x::r,i10,lh_0=>(if decide (lh_0.length+[lC x].length≤1073741824)=true then cZ r (i10+1) (lh_0++[lC x]) else false)
theorem Xa {C:cq} (hC:∀ id,C.ρ0 id=none) (l8:LS) (hl:l8.length≤zF):∀ (m i:Nat) (lh_0:LS),l8.length - i=m→i≤l8.length→cZ (l8.drop i) i lh_0=true→
  Reach (du) C 166 (zx Tryz.f166 3) (E1 l8 (l8.length:Int) (i:Int) lh_0) (fun r h=>ae h [Sh.str] r=some (cI (l8.drop i) i lh_0,())):=by
 intro m
 induction m with
 | zero=>
  intro i lh_0 hm hi hc
  obtain rfl:i=l8.length:=by omega
  rw [dg] at hc ⊢
  refine zk cg (RD) (fun id _=>hC id) (N6 _ _ _ _) ?_
  rw [cZ] at hc
  generalize hy:cI [] _ lh_0=y
  rw [cI] at hy
  simp only [z8,Tr.val_brF]
  repeat' (first | with_reducible refine eU hy hc (fun _ hy hc=>?_) (fun _ hy hc=>?_) | with_reducible refine aP hy (fun _ hy=>?_) (fun _ hy=>?_) | with_reducible refine bh hc (fun hc=>?_) | with_reducible refine zq ?_)
  all_goals first | (cases hc; done) | (subst hy; first | rfl)
 | succ m IH=>
  intro i lh_0 hm hi hc
  have hlt:i < l8.length:=by omega
  have IH:=IH (i+1)
  have hcast:((i:Int)+1)=((i+1:Nat):Int):=by omega
  have hwr:=zH i (by omega)
  rw [dA hlt] at hc ⊢
  refine zk cg (RD) (fun id _=>hC id) (N6 _ _ _ _) ?_
  rw [cZ] at hc
  generalize hy:cI (l8[i]::l8.drop (i+1)) (i:Int) lh_0=y
  rw [cI] at hy
  simp only [zW hlt,zG hlt,zY l8 _ hlt,hwr,Tr.val_brT,Tr.val_chkT]
  clear hwr
  try simp only [zG hlt] at hy
  simp only [hcast] at hy
  try simp only [zG hlt] at hc
  try simp only [hcast] at hc
  repeat' (first | with_reducible refine eU hy hc (fun _ hy hc=>?_) (fun _ hy hc=>?_) | with_reducible refine aP hy (fun _ hy=>?_) (fun _ hy=>?_) | with_reducible refine bh hc (fun hc=>?_) | with_reducible refine zq ?_)
  all_goals first | (cases hc; done) | (subst hy; first | (change Reach _ _ _ _ _ _; apply IH <;> first | omega | assumption) | rfl)
theorem QE {C:cq} (hC:∀ id,C.ρ0 id=none) (l8:LS) (lh_0:LS) (hc:cZ l8 0 lh_0=true):
  Reach (du) C 166 (zx Tryz.f166 3) (E1 l8 (l8.length:Int) 0 lh_0) (fun r h=>ae h [Sh.str] r=some (cI l8 0 lh_0,())):=
 Reach.len 8 (Sh.str) l8 rfl fun hl=>Xa hC l8 hl _ 0 lh_0 rfl (aD _) hc
def kr (x0:Sem Sh.str.sl):Sem Sh.str:=(cI x0 0 [])
def kv (x0:Sem Sh.str.sl):Bool:=(cZ x0 0 [])
def F97:zD:=wk [Sh.str.sl] [Sh.str] [(157,(fun x=>kv x.1),fun x=>(kr x.1,()))]
theorem zcA:FK 166 F97:=by
 refine kC (RD) fun j c g hm x hc C hC=>?_
 simp only [bN,bu] at hm
 obtain ⟨rfl,rfl,rfl⟩:=hm
 replace hc:kv x.1=true:=hc
 unfold kv at hc
 refine zk cg (RD) (fun id _=>hC id) (ziz x.1) ?_
 generalize hy:kr x.1=y
 unfold kr at hy
 repeat' (first | with_reducible refine eU hy hc (fun _ hy hc=>?_) (fun _ hy hc=>?_) | with_reducible refine aP hy (fun _ hy=>?_) (fun _ hy=>?_) | with_reducible refine bh hc (fun hc=>?_) | with_reducible refine zq ?_)
 all_goals first | (cases hc; done) | (subst hy; first | (change Reach _ _ _ _ _ _; apply QE hC <;> first | assumption | exact hc) | rfl)

noncomputable def j8:=du.addL [(154,F85),(210,ZJ),(211,ZK),(152,F83),(161,F92),(156,F87),(168,F99),(227,ZW),(166,F97)]
theorem dO:zm j8:=cg.addL <| fc zcm <| fc U7 <| fc U8 <| fc zck <| fc zcv <| fc zco <| fc zcC <| fc Vk <| fc zcA gW
noncomputable section

def Z6:zD:=zR (List.replicate 2 none) (bS j8 Tryz.f253 (List.replicate 2 none))
theorem Vu:FK 253 Z6:=aj _ dO (aJ (by kernel_rfl))

def Z8:zD:=zR (List.replicate 2 none) (bS j8 Tryz.f255 (List.replicate 2 none))
theorem Vw:FK 255 Z8:=aj _ dO (aJ (by kernel_rfl))

def ZU:zD:=zR (List.replicate 2 none) (bS j8 Tryz.f220 (List.replicate 2 none))
theorem Vi:FK 220 ZU:=aj _ dO (aJ (by kernel_rfl))

def ZP:zD:=zR (List.replicate 2 none) (bS j8 Tryz.f215 (List.replicate 2 none))
theorem Vd:FK 215 ZP:=aj _ dO (aJ (by kernel_rfl))

def ZR:zD:=zR (List.replicate 2 none) (bS j8 Tryz.f217 (List.replicate 2 none))
theorem Vf:FK 217 ZR:=aj _ dO (aJ (by kernel_rfl))

abbrev ze6:Nat→zX:=fun j=>if j=3 then { slots:=[1,5,8,9,10],prom:=[(5,none,.str)] } else { }
abbrev EY (l8:LV) (i9:Int) (i10:Int) (lh_0:LS):St:={ tmps:=(tm 23 [(1,AV.clo (Fn.func 161) [] []),(5,AV.vec 0),(8,AV.sl zf l8),(9,ai i9),(10,ai i10)]),heap:=[AO.vec Sh.str lh_0] }
theorem RB:zA (j8).P 160 Tryz.f160 2:=aJ (by kernel_rfl)
theorem zit (x0:Sem zf.sl):rn j8 0 ze6 Tryz.f160 [zz zf.sl x0,AV.clo (Fn.func 161) [] []] []=Tr.ok (zr.head 3 (zx Tryz.f160 3) (EY x0 (↑(length x0):Int) 0 [])):=by kernel_rfl
theorem N3 (l8:LV) (i9:Int) (i10:Int) (lh_0:LS):rh j8 0 ze6 Tryz.f160 3 (EY l8 i9 i10 lh_0)=Tr.br (decide (i10 < i9)) (Tr.chk (zE i10 l8.length) (Tr.chk (lg (l8.getD i10.toNat (zj zf))) (Tr.chk (decide (lh_0.length+[fV (l8.getD i10.toNat (zj zf))].length≤1073741824)) (Tr.ok (zr.head 3 (zx Tryz.f160 3) (EY l8 i9 (IntKind.i64.wrap (i10+1)) (lh_0++[fV (l8.getD i10.toNat (zj zf))]))))))) (Tr.chk (decide (lh_0.length≤140737488355328)&&decide ((Lib.join lh_0 [32,44,32]).length≤140737488355328)) (Tr.ok (zr.ret (AV.str (Lib.join lh_0 [32,44,32])) []))):=by kernel_rfl
def cJ:List (Sem zf)→Int→List (Sem Sh.str)→Sem Sh.str
 | [],_,lh_0=>(Lib.join lh_0 [32,44,32])
 | x::r,i10,lh_0=>(cJ r (i10+1) (lh_0++[fV x]))
def c6:List (Sem zf)→Int→List (Sem Sh.str)→Bool
 | [],_,lh_0=>(if (decide (lh_0.length≤140737488355328)&&decide ((Lib.join lh_0 [32,44,32]).length≤140737488355328))=true then true else false)
 | x::r,i10,lh_0=>(if lg x=true then if decide (lh_0.length+[fV x].length≤1073741824)=true then c6 r (i10+1) (lh_0++[fV x]) else false else false)
theorem W8 {C:cq} (hC:∀ id,C.ρ0 id=none) (l8:LV) (hl:l8.length≤zF):∀ (m i:Nat) (lh_0:LS),l8.length - i=m→i≤l8.length→c6 (l8.drop i) i lh_0=true→
  Reach (j8) C 160 (zx Tryz.f160 3) (EY l8 (l8.length:Int) (i:Int) lh_0) (fun r h=>ae h [Sh.str] r=some (cJ (l8.drop i) i lh_0,())):=by
 intro m
 induction m with
 | zero=>
  intro i lh_0 hm hi hc
  obtain rfl:i=l8.length:=by omega
  rw [dg] at hc ⊢
  refine zk dO (RB) (fun id _=>hC id) (N3 _ _ _ _) ?_
  rw [c6] at hc
  generalize hy:cJ [] _ lh_0=y
  rw [cJ] at hy
  simp only [z8,Tr.val_brF]
  repeat' (first | with_reducible refine eU hy hc (fun _ hy hc=>?_) (fun _ hy hc=>?_) | with_reducible refine aP hy (fun _ hy=>?_) (fun _ hy=>?_) | with_reducible refine bh hc (fun hc=>?_) | with_reducible refine zq ?_)
  all_goals first | (cases hc; done) | (subst hy; first | rfl)
 | succ m IH=>
  intro i lh_0 hm hi hc
  have hlt:i < l8.length:=by omega
  have IH:=IH (i+1)
  have hcast:((i:Int)+1)=((i+1:Nat):Int):=by omega
  have hwr:=zH i (by omega)
  rw [dA hlt] at hc ⊢
  refine zk dO (RB) (fun id _=>hC id) (N3 _ _ _ _) ?_
  rw [c6] at hc
  generalize hy:cJ (l8[i]::l8.drop (i+1)) (i:Int) lh_0=y
  rw [cJ] at hy
  simp only [zW hlt,zG hlt,zY l8 _ hlt,hwr,Tr.val_brT,Tr.val_chkT]
  clear hwr
  try simp only [zG hlt] at hy
  simp only [hcast] at hy
  try simp only [zG hlt] at hc
  try simp only [hcast] at hc
  repeat' (first | with_reducible refine eU hy hc (fun _ hy hc=>?_) (fun _ hy hc=>?_) | with_reducible refine aP hy (fun _ hy=>?_) (fun _ hy=>?_) | with_reducible refine bh hc (fun hc=>?_) | with_reducible refine zq ?_)
  all_goals first | (cases hc; done) | (subst hy; first | (change Reach _ _ _ _ _ _; apply IH <;> first | omega | assumption) | rfl)
theorem QC {C:cq} (hC:∀ id,C.ρ0 id=none) (l8:LV) (lh_0:LS) (hc:c6 l8 0 lh_0=true):
  Reach (j8) C 160 (zx Tryz.f160 3) (EY l8 (l8.length:Int) 0 lh_0) (fun r h=>ae h [Sh.str] r=some (cJ l8 0 lh_0,())):=
 Reach.len 8 (zf) l8 rfl fun hl=>W8 hC l8 hl _ 0 lh_0 rfl (aD _) hc
def kx (x0:Sem zf.sl):Sem Sh.str:=(cJ x0 0 [])
def ky (x0:Sem zf.sl):Bool:=(c6 x0 0 [])
def F91:zD:=wk [zf.sl] [Sh.str] [(161,(fun x=>ky x.1),fun x=>(kx x.1,()))]
theorem zcu:FK 160 F91:=by
 refine kC (RB) fun j c g hm x hc C hC=>?_
 simp only [bN,bu] at hm
 obtain ⟨rfl,rfl,rfl⟩:=hm
 replace hc:ky x.1=true:=hc
 unfold ky at hc
 refine zk dO (RB) (fun id _=>hC id) (zit x.1) ?_
 generalize hy:kx x.1=y
 unfold kx at hy
 repeat' (first | with_reducible refine eU hy hc (fun _ hy hc=>?_) (fun _ hy hc=>?_) | with_reducible refine aP hy (fun _ hy=>?_) (fun _ hy=>?_) | with_reducible refine bh hc (fun hc=>?_) | with_reducible refine zq ?_)
 all_goals first | (cases hc; done) | (subst hy; first | (change Reach _ _ _ _ _ _; apply QC hC <;> first | assumption | exact hc) | rfl)

def LH (g:Sem Sh.expr→Sem Sh.str) (c:Sem Sh.expr→Bool):bf:=j8.add 268 (zC [Sh.expr] [Sh.str] (fun x=>c x.1) fun x=>(g x.1,()))
theorem JF {g:Sem Sh.expr→Sem Sh.str} {c:Sem Sh.expr→Bool} (hg:FK 268 (zC [Sh.expr] [Sh.str] (fun x=>c x.1) fun x=>(g x.1,()))):zm (LH g c):=dO.add hg
abbrev Yj:Nat→zX:=fun _=>{ }
theorem v8 (g:Sem Sh.expr→Sem Sh.str) (c:Sem Sh.expr→Bool):zA (LH g c).P 268 Tryz.f268 1:=aJ (by kernel_rfl)
theorem XF (g:Sem Sh.expr→Sem Sh.str) (c:Sem Sh.expr→Bool) (x0:Sem Sh.expr):rn (LH g c) 0 Yj Tryz.f268 [zz Sh.expr x0] []=Tr.br (ze.op x0==[108,105,116]) (Tr.chk (lg (ze.v x0)) (Tr.ok (zr.ret (AV.str (fV (ze.v x0))) []))) (Tr.br (ze.op x0==[99,111,108]) (Tr.ok (zr.ret (AV.str (ze.s x0)) [])) (Tr.br (ze.op x0==[110,111,116]) (Tr.chk (zE 0 (ze.l x0).length) (Tr.chk (c (zB ((ze.l x0).getD (toNat 0) (zj Sh.expr)))) (Tr.chk (decide ([40,78,79,84,32].length+length (g (zB ((ze.l x0).getD (toNat 0) (zj Sh.expr))))≤1099511627776)) (Tr.chk (decide (length ([40,78,79,84,32]++g (zB ((ze.l x0).getD (toNat 0) (zj Sh.expr))))+[41].length≤1099511627776)) (Tr.ok (zr.ret (AV.str ([40,78,79,84,32]++g (zB ((ze.l x0).getD (toNat 0) (zj Sh.expr)))++[41])) [])))))) (Tr.br (ze.op x0==[110,117,108,108]) (Tr.chk (zE 0 (ze.l x0).length) (Tr.chk (c (zB ((ze.l x0).getD (toNat 0) (zj Sh.expr)))) (Tr.chk (decide ([40].length+length (g (zB ((ze.l x0).getD (toNat 0) (zj Sh.expr))))≤1099511627776)) (Tr.chk (decide (length ([40]++g (zB ((ze.l x0).getD (toNat 0) (zj Sh.expr))))+[32,73,83,32,78,85,76,76,41].length≤1099511627776)) (Tr.ok (zr.ret (AV.str ([40]++g
 (zB ((ze.l x0).getD (toNat 0) (zj Sh.expr)))++[32,73,83,32,78,85,76,76,41])) [])))))) (Tr.chk (zE 0 (ze.l x0).length) (Tr.chk (c (zB ((ze.l x0).getD (toNat 0) (zj Sh.expr)))) (Tr.chk (decide ([40].length+length (g (zB ((ze.l x0).getD (toNat 0) (zj Sh.expr))))≤1099511627776)) (Tr.chk (decide (length ([40]++g (zB ((ze.l x0).getD (toNat 0) (zj Sh.expr))))+[32].length≤1099511627776)) (Tr.chk (decide (length (ze.op x0)≤140737488355328)&&List.all (ze.op x0) fun b=>decide (b.toNat < 128)) (Tr.chk (decide (length ([40]++g (zB ((ze.l x0).getD (toNat 0) (zj Sh.expr)))++[32])+(Lib.toUpperA (ze.op x0)).length≤1099511627776)) (Tr.chk (decide (length ([40]++g (zB ((ze.l x0).getD (toNat 0) (zj Sh.expr)))++[32]++Lib.toUpperA (ze.op x0))+[32].length≤1099511627776)) (Tr.chk (zE 1 (ze.l x0).length) (Tr.chk (c (zB ((ze.l x0).getD (toNat 1) (zj Sh.expr)))) (Tr.chk (decide (length ([40]++g (zB ((ze.l x0).getD (toNat 0) (zj Sh.expr)))++[32]++Lib.toUpperA (ze.op x0)++[32])+length (g (zB ((ze.l x0).getD (toNat 1) (zj Sh.expr))))≤1099511627776)) (Tr.chk (decide (length ([40]++g (zB ((ze.l x0).getD (toNat 0) (zj Sh.expr)))++[32]++Lib.toUpperA (ze.op x0)++[32]++g (zB ((ze.l x0).getD (toNat 1) (zj Sh.expr))))+[41].length≤1099511627776)) (Tr.ok
 (zr.ret (AV.str ([40]++g (zB ((ze.l x0).getD (toNat 0) (zj Sh.expr)))++[32]++Lib.toUpperA (ze.op x0)++[32]++g (zB ((ze.l x0).getD (toNat 1) (zj Sh.expr)))++[41])) [])))))))))))))))):=by kernel_rfl
def uH (g:Sem Sh.expr→Sem Sh.str) (_:Sem Sh.expr→Bool) (x0:Sem Sh.expr):Sem Sh.str:=(if (ze.op x0==[108,105,116])=true then fV (ze.v x0) else if (ze.op x0==[99,111,108])=true then ze.s x0 else if (ze.op x0==[110,111,116])=true then [40,78,79,84,32]++g ((ze.l x0).getD (toNat 0) (zj Sh.expr))++[41] else if (ze.op x0==[110,117,108,108])=true then [40]++g ((ze.l x0).getD (toNat 0) (zj Sh.expr))++[32,73,83,32,78,85,76,76,41] else [40]++g ((ze.l x0).getD (toNat 0) (zj Sh.expr))++[32]++Lib.toUpperA (ze.op x0)++[32]++g ((ze.l x0).getD (toNat 1) (zj Sh.expr))++[41])
def sU (g:Sem Sh.expr→Sem Sh.str) (c:Sem Sh.expr→Bool) (x0:Sem Sh.expr):Bool:=(if (ze.op x0==[108,105,116])=true then if lg (ze.v x0)=true then true else false else if (ze.op x0==[99,111,108])=true then true else if (ze.op x0==[110,111,116])=true then if zE 0 (ze.l x0).length=true then if c ((ze.l x0).getD (toNat 0) (zj Sh.expr))=true then if decide ([40,78,79,84,32].length+length (g ((ze.l x0).getD (toNat 0) (zj Sh.expr)))≤1099511627776)=true then if decide (length ([40,78,79,84,32]++g ((ze.l x0).getD (toNat 0) (zj Sh.expr)))+[41].length≤1099511627776)=true then true else false else false else false else false else if (ze.op x0==[110,117,108,108])=true then if zE 0 (ze.l x0).length=true then if c ((ze.l x0).getD (toNat 0) (zj Sh.expr))=true then if decide ([40].length+length (g ((ze.l x0).getD (toNat 0) (zj Sh.expr)))≤1099511627776)=true then if decide (length ([40]++g ((ze.l x0).getD (toNat 0) (zj Sh.expr)))+[32,73,83,32,78,85,76,76,41].length≤1099511627776)=true then true else false else false else false else false else if zE 0 (ze.l x0).length=true then if c ((ze.l x0).getD (toNat 0) (zj Sh.expr))=true then if decide ([40].length+length (g ((ze.l x0).getD (toNat 0) (zj Sh.expr)))≤1099511627776)=true then
 if decide (length ([40]++g ((ze.l x0).getD (toNat 0) (zj Sh.expr)))+[32].length≤1099511627776)=true then if (decide (length (ze.op x0)≤140737488355328)&&List.all (ze.op x0) fun b=>decide (b.toNat < 128))=true then if decide (length ([40]++g ((ze.l x0).getD (toNat 0) (zj Sh.expr))++[32])+(Lib.toUpperA (ze.op x0)).length≤1099511627776)=true then if decide (length ([40]++g ((ze.l x0).getD (toNat 0) (zj Sh.expr))++[32]++Lib.toUpperA (ze.op x0))+[32].length≤1099511627776)=true then if zE 1 (ze.l x0).length=true then if c ((ze.l x0).getD (toNat 1) (zj Sh.expr))=true then if decide (length ([40]++g ((ze.l x0).getD (toNat 0) (zj Sh.expr))++[32]++Lib.toUpperA (ze.op x0)++[32])+length (g ((ze.l x0).getD (toNat 1) (zj Sh.expr)))≤1099511627776)=true then if decide (length ([40]++g ((ze.l x0).getD (toNat 0) (zj Sh.expr))++[32]++Lib.toUpperA (ze.op x0)++[32]++g ((ze.l x0).getD (toNat 1) (zj Sh.expr)))+[41].length≤1099511627776)=true then true else false else false else false else false else false else false else false else false else false else false else false)
def zag (g:Sem Sh.expr→Sem Sh.str) (c:Sem Sh.expr→Bool):zD:=zC [Sh.expr] [Sh.str] (fun x=>sU g c x.1) fun x=>(uH g c x.1,())
theorem P3 (g:Sem Sh.expr→Sem Sh.str) (c:Sem Sh.expr→Bool) (hg:FK 268 (zC [Sh.expr] [Sh.str] (fun x=>c x.1) fun x=>(g x.1,()))):FK 268 (zag g c):=by
 refine zN (v8 g c) fun x hc C hC=>?_
 unfold sU at hc
 refine zk (JF hg) (v8 g c) (fun id _=>hC id) (XF g c x.1) ?_
 generalize hy:uH g c x.1=y
 unfold uH at hy
 try simp only [ze.eta]
 repeat' (first | with_reducible refine eU hy hc (fun _ hy hc=>?_) (fun _ hy hc=>?_) | with_reducible refine aP hy (fun _ hy=>?_) (fun _ hy=>?_) | with_reducible refine bh hc (fun hc=>?_) | with_reducible refine zq ?_)
 all_goals first | (cases hc; done) | (subst hy; first | rfl)
mutual
def bC:Nat→Sem Sh.expr→Sem Sh.str
 | 0=>fun _=>default
 | n+1=>uH (bC n) (gz n)
def gz:Nat→Sem Sh.expr→Bool
 | 0=>fun _=>false
 | n+1=>sU (bC n) (gz n)
end
theorem Hi:∀ n,FK 268 (zC [Sh.expr] [Sh.str] (fun x=>gz n x.1) fun x=>(bC n x.1,()))
 | 0=>cP ⟨Tryz.f268,(v8 default default).1,(v8 default default).2.1,(v8 default default).2.2.1⟩ (fun _=>rfl)
 | n+1=>P3 (bC n) (gz n) (Hi n)
def zaf:zD:=zC [Sh.expr] [Sh.str] (fun x=>gz 16 x.1) fun x=>(bC 16 x.1,())
theorem VD:FK 268 zaf:=Hi 16

def ex:=j8.addL [(253,Z6),(255,Z8),(220,ZU),(215,ZP),(217,ZR),(160,F91),(268,zaf)]
theorem ch:zm ex:=dO.addL <| fc Vu <| fc Vw <| fc Vi <| fc Vd <| fc Vf <| fc zcu <| fc VD gW
end

abbrev pV (l:LC) (i:Int):St:={ tmps:=[.sl zi l,.clo (.func 253) [] [.ptr 0 0],.any,.any,.any,.any,.any,.int .i64 l.length,.int .i64 i,.any,.any,.any,.any,.any,.any,.any,.any,.any,.any],heap:=[.box [.clo (.func 210) [] []]] }
theorem J2 (l:LC):run ex 1 lG Tryz.f126.results.toList 300 (au Tryz.f126) (z7 Tryz.f126.ntmps [.sl zi l,.clo (.func 253) [] [.ptr 0 0]] [.box [.clo (.func 210) [] []]])=.ok (.head 2 (zx Tryz.f126 2) (pV l 0)):=by kernel_rfl
theorem Kh (l:LC) (i:Int):run ex 1 lG Tryz.f126.results.toList 300 (zx Tryz.f126 2) (pV l i)=hZ (K:=zx Tryz.f126 2) (e:=zi) l (fun x => !js x) (pV l) [.box [.clo (.func 210) [] []]] i:=by kernel_rfl

theorem NN:zA ex.P 126 Tryz.f126 2:=aJ (by kernel_rfl)
def zcK:cy [some (.sl zi),none]:=fun x h=>match x,h with
 | (l,.clo (.func 253) [] [.ptr 0 0],_),[.box [.clo (.func 210) [] []]]=>.ok (.int .i64 (zS (fun x => !js x) l 0),[.box [.clo (.func 210) [] []]])
 | _,_=>.err
def zat:zD:=zR [some (.sl zi),none] zcK
theorem VT:FK 126 zat:=by
 refine bq NN fun x h0 res hx C hC=>?_
 unfold zcK at hx
 split at hx
 ·rename_i l u
  simp only [Tr.val_ok,ag] at hx
  subst hx
  refine Reach.len 0 zi l rfl fun hl=>?_
  refine zk (n0:=1) ch NN hC (J2 l) ?_
  exact eL l (fun x => !js x) (pV l) ch NN hC (Kh l) hl _ 0 rfl (aD _)
 ·simp at hx

abbrev pU (l:List (Sem b7)) (i:Int):St:={ tmps:=[.sl b7 l,.clo (.func 255) [] [.ptr 0 0],.any,.any,.any,.any,.any,.int .i64 l.length,.int .i64 i,.any,.any,.any,.any,.any,.any,.any,.any,.any,.any],heap:=[.box [.clo (.func 211) [] []]] }
theorem J1 (l:List (Sem b7)):run ex 1 lG Tryz.f279.results.toList 300 (au Tryz.f279) (z7 Tryz.f279.ntmps [.sl b7 l,.clo (.func 255) [] [.ptr 0 0]] [.box [.clo (.func 211) [] []]])=.ok (.head 2 (zx Tryz.f279 2) (pU l 0)):=by kernel_rfl
theorem Kg (l:List (Sem b7)) (i:Int):run ex 1 lG Tryz.f279.results.toList 300 (zx Tryz.f279 2) (pU l i)=hZ (K:=zx Tryz.f279 2) (e:=b7) l (fun x => !sm x) (pU l) [.box [.clo (.func 211) [] []]] i:=by kernel_rfl

theorem NJ:zA ex.P 279 Tryz.f279 2:=aJ (by kernel_rfl)
def zcJ:cy [some (.sl b7),none]:=fun x h=>match x,h with
 | (l,.clo (.func 255) [] [.ptr 0 0],_),[.box [.clo (.func 211) [] []]]=>.ok (.int .i64 (zS (fun x => !sm x) l 0),[.box [.clo (.func 211) [] []]])
 | _,_=>.err
def zai:zD:=zR [some (.sl b7),none] zcJ
theorem VF:FK 279 zai:=by
 refine bq NJ fun x h0 res hx C hC=>?_
 unfold zcJ at hx
 split at hx
 ·rename_i l u
  simp only [Tr.val_ok,ag] at hx
  subst hx
  refine Reach.len 0 b7 l rfl fun hl=>?_
  refine zk (n0:=1) ch NJ hC (J1 l) ?_
  exact eL l (fun x => !sm x) (pU l) ch NJ hC (Kg l) hl _ 0 rfl (aD _)
 ·simp at hx

abbrev pT (l:LS) (i:Int):St:={ tmps:=[.sl Sh.str l,.clo (.func 220) [] [.ptr 0 0],.any,.any,.any,.any,.any,.int .i64 l.length,.int .i64 i,.any,.any,.any,.any,.any,.any,.any,.any,.any,.any],heap:=[.box [.clo (.func 149) [] []]] }
theorem J0 (l:LS):run ex 1 lG Tryz.f258.results.toList 300 (au Tryz.f258) (z7 Tryz.f258.ntmps [.sl Sh.str l,.clo (.func 220) [] [.ptr 0 0]] [.box [.clo (.func 149) [] []]])=.ok (.head 2 (zx Tryz.f258 2) (pT l 0)):=by kernel_rfl
theorem Kf (l:LS) (i:Int):run ex 1 lG Tryz.f258.results.toList 300 (zx Tryz.f258 2) (pT l i)=hZ (K:=zx Tryz.f258 2) (e:=Sh.str) l (fun x => !aT x) (pT l) [.box [.clo (.func 149) [] []]] i:=by kernel_rfl

theorem NI:zA ex.P 258 Tryz.f258 2:=aJ (by kernel_rfl)
def zcI:cy [some (.sl Sh.str),none]:=fun x h=>match x,h with
 | (l,.clo (.func 220) [] [.ptr 0 0],_),[.box [.clo (.func 149) [] []]]=>.ok (.int .i64 (zS (fun x => !aT x) l 0),[.box [.clo (.func 149) [] []]])
 | _,_=>.err
def zab:zD:=zR [some (.sl Sh.str),none] zcI
theorem Vz:FK 258 zab:=by
 refine bq NI fun x h0 res hx C hC=>?_
 unfold zcI at hx
 split at hx
 ·rename_i l u
  simp only [Tr.val_ok,ag] at hx
  subst hx
  refine Reach.len 0 Sh.str l rfl fun hl=>?_
  refine zk (n0:=1) ch NI hC (J0 l) ?_
  exact eL l (fun x => !aT x) (pT l) ch NI hC (Kf l) hl _ 0 rfl (aD _)
 ·simp at hx

abbrev pR (l:LV) (i:Int):St:={ tmps:=[.sl zf l,.clo (.func 215) [] [.ptr 0 0],.any,.any,.any,.any,.any,.int .i64 l.length,.int .i64 i,.any,.any,.any,.any,.any,.any,.any,.any,.any,.any],heap:=[.box [.clo (.func 94) [] []]] }
theorem JY (l:LV):run ex 1 lG Tryz.f256.results.toList 300 (au Tryz.f256) (z7 Tryz.f256.ntmps [.sl zf l,.clo (.func 215) [] [.ptr 0 0]] [.box [.clo (.func 94) [] []]])=.ok (.head 2 (zx Tryz.f256 2) (pR l 0)):=by kernel_rfl
theorem Kd (l:LV) (i:Int):run ex 1 lG Tryz.f256.results.toList 300 (zx Tryz.f256 2) (pR l i)=hZ (K:=zx Tryz.f256 2) (e:=zf) l (fun x => !fC x) (pR l) [.box [.clo (.func 94) [] []]] i:=by kernel_rfl

theorem NG:zA ex.P 256 Tryz.f256 2:=aJ (by kernel_rfl)
def zcG:cy [some (.sl zf),none]:=fun x h=>match x,h with
 | (l,.clo (.func 215) [] [.ptr 0 0],_),[.box [.clo (.func 94) [] []]]=>.ok (.int .i64 (zS (fun x => !fC x) l 0),[.box [.clo (.func 94) [] []]])
 | _,_=>.err
def Z9:zD:=zR [some (.sl zf),none] zcG
theorem Vx:FK 256 Z9:=by
 refine bq NG fun x h0 res hx C hC=>?_
 unfold zcG at hx
 split at hx
 ·rename_i l u
  simp only [Tr.val_ok,ag] at hx
  subst hx
  refine Reach.len 0 zf l rfl fun hl=>?_
  refine zk (n0:=1) ch NG hC (JY l) ?_
  exact eL l (fun x => !fC x) (pR l) ch NG hC (Kd l) hl _ 0 rfl (aD _)
 ·simp at hx

abbrev pS (l:List (Sem aQ)) (i:Int):St:={ tmps:=[.sl aQ l,.clo (.func 217) [] [.ptr 0 0],.any,.any,.any,.any,.any,.int .i64 l.length,.int .i64 i,.any,.any,.any,.any,.any,.any,.any,.any,.any,.any],heap:=[.box [.clo (.func 152) [] []]] }
theorem JZ (l:List (Sem aQ)):run ex 1 lG Tryz.f257.results.toList 300 (au Tryz.f257) (z7 Tryz.f257.ntmps [.sl aQ l,.clo (.func 217) [] [.ptr 0 0]] [.box [.clo (.func 152) [] []]])=.ok (.head 2 (zx Tryz.f257 2) (pS l 0)):=by kernel_rfl
theorem Ke (l:List (Sem aQ)) (i:Int):run ex 1 lG Tryz.f257.results.toList 300 (zx Tryz.f257 2) (pS l i)=hZ (K:=zx Tryz.f257 2) (e:=aQ) l (fun x => !nQ x) (pS l) [.box [.clo (.func 152) [] []]] i:=by kernel_rfl

theorem NH:zA ex.P 257 Tryz.f257 2:=aJ (by kernel_rfl)
def zcH:cy [some (.sl aQ),none]:=fun x h=>match x,h with
 | (l,.clo (.func 217) [] [.ptr 0 0],_),[.box [.clo (.func 152) [] []]]=>.ok (.int .i64 (zS (fun x => !nQ x) l 0),[.box [.clo (.func 152) [] []]])
 | _,_=>.err
def zaa:zD:=zR [some (.sl aQ),none] zcH
theorem Vy:FK 257 zaa:=by
 refine bq NH fun x h0 res hx C hC=>?_
 unfold zcH at hx
 split at hx
 ·rename_i l u
  simp only [Tr.val_ok,ag] at hx
  subst hx
  refine Reach.len 0 aQ l rfl fun hl=>?_
  refine zk (n0:=1) ch NH hC (JZ l) ?_
  exact eL l (fun x => !nQ x) (pS l) ch NH hC (Ke l) hl _ 0 rfl (aD _)
 ·simp at hx

abbrev zeA:Nat→zX:=fun _=>{ }
theorem UC:zA (ex).P 232 Tryz.f232 1:=aJ (by kernel_rfl)
theorem zdx (x0:Sem Sh.expr):rn ex 0 zeA Tryz.f232 [zz Sh.expr x0] []=Tr.br (!hY (zB x0)) (Tr.ok (zr.ret (AV.tup [AV.str [],ai 1]) [])) (Tr.chk (gz 16 (zB x0)) (Tr.ok (zr.ret (AV.tup [AV.str (bC 16 (zB x0)),ai 0]) []))):=by kernel_rfl
def jI (x0:Sem Sh.expr):Sem Sh.str×Sem zg:=(if (!hY x0)=true then ([],1) else (bC 16 x0,0))
def mQ (x0:Sem Sh.expr):Bool:=(if (!hY x0)=true then true else if gz 16 x0=true then true else false)
def Z1:zD:=zC [Sh.expr] [Sh.str,zg] (fun x=>mQ x.1) fun x=>((jI x.1).1,(jI x.1).2,())
theorem Vp:FK 232 Z1:=by
 refine zN (UC) fun x hc C hC=>?_
 unfold mQ at hc
 refine zk ch (UC) (fun id _=>hC id) (zdx x.1) ?_
 generalize hy:jI x.1=y
 unfold jI at hy
 try simp only [ze.eta]
 repeat' (first | with_reducible refine eU hy hc (fun _ hy hc=>?_) (fun _ hy hc=>?_) | with_reducible refine aP hy (fun _ hy=>?_) (fun _ hy=>?_) | with_reducible refine bh hc (fun hc=>?_) | with_reducible refine zq ?_)
 all_goals first | (cases hc; done) | (subst hy; first | rfl)

abbrev zeY:Nat→zX:=fun j=>if j=3 then { slots:=[0,4,5],prom:=[(4,none,ed)] } else { }
abbrev EU (s0:TS) (i5:Int) (lh_0:LF):St:={ tmps:=(tm 47 [(0,AV.str s0),(4,AV.vec 0),(5,ai i5)]),heap:=[AO.vec zp lh_0] }
theorem YO:zA (ex).P 91 Tryz.f91 1:=aJ (by kernel_rfl)
theorem zig (x0:TS):rn ex 0 zeY Tryz.f91 [zz Sh.str x0] []=Tr.ok (zr.head 3 (zx Tryz.f91 3) (EU x0 0 [])):=by kernel_rfl
theorem Y0 (s0:TS) (i5:Int) (lh_0:LF):rh ex 0 zeY Tryz.f91 3 (EU s0 i5 lh_0)=Tr.br (decide (i5 < (↑(length s0):Int))) (Tr.chk (zE i5 (length s0)&&bif (↑(getD s0 i5.toNat 0).toNat:Int)==32 then true else zE i5 (length s0)) (Tr.br (bif (↑(getD s0 i5.toNat 0).toNat:Int)==32 then true else (↑(getD s0 i5.toNat 0).toNat:Int)==10) (Tr.ok (zr.head 3 (zx Tryz.f91 3) (EU s0 (IntKind.i64.wrap (i5+1)) lh_0))) (Tr.chk (decide (0≤i5)&&decide (i5≤(↑(length s0):Int))&&decide ((↑(length s0):Int)≤(↑(length s0):Int))) (Tr.chk (iS (List.take ((↑(length s0):Int).toNat - i5.toNat) (List.drop i5.toNat s0))) (Tr.chk (nk (aU (List.take ((↑(length s0):Int).toNat - i5.toNat) (List.drop i5.toNat s0))).1) (Tr.br (bif !fm (aU (List.take ((↑(length s0):Int).toNat - i5.toNat) (List.drop i5.toNat s0))).1 then true else (↑lh_0.length:Int)==400) (Tr.ok (zr.ret (AV.tup [AV.nils,ai 2]) [])) (Tr.chk (decide (lh_0.length+[(aU (List.take ((↑(length s0):Int).toNat - i5.toNat) (List.drop i5.toNat s0))).1].length≤1073741824)) (Tr.ok (zr.head 3 (zx Tryz.f91 3) (EU s0 (IntKind.i64.wrap (i5+(aU (List.take ((↑(length s0):Int).toNat - i5.toNat) (List.drop i5.toNat s0))).2))
 (lh_0++[(aU (List.take ((↑(length s0):Int).toNat - i5.toNat) (List.drop i5.toNat s0))).1]))))))))))) (Tr.ok (zr.ret (AV.tup [AV.vec 0,ai 0]) [AO.vec zp lh_0])):=by kernel_rfl
def o8:Nat→(Sem Sh.str)→Int→(List (Sem zp))→Sem ed.sl×Sem zg
 | 0,_,_,_=>default
 | n+1,s0,i5,lh_0=>(if decide (i5 < (↑(length s0):Int))=true then
 if (bif (↑(getD s0 i5.toNat 0).toNat:Int)==32 then true else (↑(getD s0 i5.toNat 0).toNat:Int)==10)=true then
  o8 n s0 (IntKind.i64.wrap (i5+1)) lh_0
 else
  if
    (bif !fm (aU (List.take ((↑(length s0):Int).toNat - i5.toNat) (List.drop i5.toNat s0))).1 then true
     else (↑lh_0.length:Int)==400)=
     true then
   ([],2)
  else
   o8 n s0 (IntKind.i64.wrap (i5+(aU (List.take ((↑(length s0):Int).toNat - i5.toNat) (List.drop i5.toNat s0))).2))
    (lh_0++[(aU (List.take ((↑(length s0):Int).toNat - i5.toNat) (List.drop i5.toNat s0))).1])
else (lh_0,0))
def n7:Nat→(Sem Sh.str)→Int→(List (Sem zp))→Bool
 | 0,_,_,_=>false
 | n+1,s0,i5,lh_0=>(if decide (i5 < (↑(length s0):Int))=true then
 if (zE i5 (length s0)&&bif (↑(getD s0 i5.toNat 0).toNat:Int)==32 then true else zE i5 (length s0))=true then
  if (bif (↑(getD s0 i5.toNat 0).toNat:Int)==32 then true else (↑(getD s0 i5.toNat 0).toNat:Int)==10)=true then
   n7 n s0 (IntKind.i64.wrap (i5+1)) lh_0
  else
   if (decide (0≤i5)&&decide (i5≤(↑(length s0):Int))&&decide ((↑(length s0):Int)≤(↑(length s0):Int)))=true then
    if iS (List.take ((↑(length s0):Int).toNat - i5.toNat) (List.drop i5.toNat s0))=true then
     if nk (aU (List.take ((↑(length s0):Int).toNat - i5.toNat) (List.drop i5.toNat s0))).1=true then
      if
        (bif !fm (aU (List.take ((↑(length s0):Int).toNat - i5.toNat) (List.drop i5.toNat s0))).1 then true
         else (↑lh_0.length:Int)==400)=
         true then
       true
      else
       if
         decide (lh_0.length+[(aU (List.take ((↑(length s0):Int).toNat - i5.toNat) (List.drop i5.toNat s0))).1].length≤1073741824)=
          true then
        n7 n s0 (IntKind.i64.wrap (i5+(aU (List.take ((↑(length s0):Int).toNat - i5.toNat) (List.drop i5.toNat s0))).2))
         (lh_0++[(aU (List.take ((↑(length s0):Int).toNat - i5.toNat) (List.drop i5.toNat s0))).1])
       else false
     else false
    else false
   else false
 else false
else true)
theorem Lh {C:cq} (hC:∀ id,C.ρ0 id=none):∀ (n:Nat) (s0:TS) (i5:Int) (lh_0:LF),n7 n s0 i5 lh_0=true→
  Reach (ex) C 91 (zx Tryz.f91 3) (EU s0 i5 lh_0) (fun r h=>ae h [ed.sl,zg] r=some ((o8 n s0 i5 lh_0).1,(o8 n s0 i5 lh_0).2,()))
 | 0,s0,i5,lh_0,hc=>by cases hc
 | n+1,s0,i5,lh_0,hc=>by
  refine zk ch (YO) (fun id _=>hC id) (Y0 _ _ _) ?_
  rw [n7] at hc
  generalize hy:o8 (n+1) s0 i5 lh_0=y
  rw [o8] at hy
  try simp only [ze.eta,zo]
  repeat' (first | with_reducible refine eU hy hc (fun _ hy hc=>?_) (fun _ hy hc=>?_) | with_reducible refine aP hy (fun _ hy=>?_) (fun _ hy=>?_) | with_reducible refine bh hc (fun hc=>?_) | with_reducible refine zq ?_)
  all_goals first | (cases hc; done) | (subst hy; first | (change Reach _ _ _ _ _ _; refine Lh hC n _ _ _ ?_ <;> exact hc) | rfl)
def cut (x0:TS):Sem ed.sl×Sem zg:=(o8 (length x0+1) x0 0 [])
def Ll (x0:TS):Bool:=(n7 (length x0+1) x0 0 [])
def F69:zD:=zC [Sh.str] [ed.sl,zg] (fun x=>Ll x.1) fun x=>((cut x.1).1,(cut x.1).2,())
theorem zb6:FK 91 F69:=by
 refine zN (YO) fun x hc C hC=>?_
 unfold Ll at hc
 refine zk ch (YO) (fun id _=>hC id) (zig x.1) ?_
 generalize hy:cut x.1=y
 unfold cut at hy
 try simp only [ze.eta,zo]
 repeat' (first | with_reducible refine eU hy hc (fun _ hy hc=>?_) (fun _ hy hc=>?_) | with_reducible refine aP hy (fun _ hy=>?_) (fun _ hy=>?_) | with_reducible refine bh hc (fun hc=>?_) | with_reducible refine zq ?_)
 all_goals first | (cases hc; done) | (subst hy; first | (change Reach _ _ _ _ _ _; refine Lh hC _ _ _ _ ?_ <;> exact hc) | rfl)

noncomputable def pe:=ex.addL [(126,zat),(279,zai),(258,zab),(256,Z9),(257,zaa),(232,Z1),(91,F69)]
theorem gm:zm pe:=ch.addL <| fc VT <| fc VF <| fc Vz <| fc Vx <| fc Vy <| fc Vp <| fc zb6 gW

noncomputable def Z5:zD:=zR (List.replicate 2 none) (bS pe Tryz.f252 (List.replicate 2 none))
theorem Vt:FK 252 Z5:=aj _ gm (aJ (by kernel_rfl))

noncomputable def Z7:zD:=zR (List.replicate 2 none) (bS pe Tryz.f254 (List.replicate 2 none))
theorem Vv:FK 254 Z7:=aj _ gm (aJ (by kernel_rfl))

noncomputable def ZT:zD:=zR (List.replicate 2 none) (bS pe Tryz.f219 (List.replicate 2 none))
theorem Vh:FK 219 ZT:=aj _ gm (aJ (by kernel_rfl))

noncomputable def ZN:zD:=zR (List.replicate 2 none) (bS pe Tryz.f214 (List.replicate 2 none))
theorem Vb:FK 214 ZN:=aj _ gm (aJ (by kernel_rfl))

noncomputable def ZQ:zD:=zR (List.replicate 2 none) (bS pe Tryz.f216 (List.replicate 2 none))
theorem Ve:FK 216 ZQ:=aj _ gm (aJ (by kernel_rfl))

abbrev zjh:Nat→zX:=fun _=>{ }
theorem zf4:zA (pe).P 163 Tryz.f163 1:=aJ (by kernel_rfl)
theorem ziw (x0:Sem Sh.expr):rn pe 0 zjh Tryz.f163 [zz Sh.expr x0] []=Tr.chk (mQ (zB x0)) (Tr.ok (zr.ret (AV.str (jI (zB x0)).1) [])):=by kernel_rfl
def bX (x0:Sem Sh.expr):Sem Sh.str:=((jI x0).1)
def fX (x0:Sem Sh.expr):Bool:=(if mQ x0=true then true else false)
def F94:zD:=zC [Sh.expr] [Sh.str] (fun x=>fX x.1) fun x=>(bX x.1,())
theorem zcx:FK 163 F94:=by
 refine zN (zf4) fun x hc C hC=>?_
 unfold fX at hc
 refine zk gm (zf4) (fun id _=>hC id) (ziw x.1) ?_
 generalize hy:bX x.1=y
 unfold bX at hy
 try simp only [ze.eta]
 repeat' (first | with_reducible refine eU hy hc (fun _ hy hc=>?_) (fun _ hy hc=>?_) | with_reducible refine aP hy (fun _ hy=>?_) (fun _ hy=>?_) | with_reducible refine bh hc (fun hc=>?_) | with_reducible refine zq ?_)
 all_goals first | (cases hc; done) | (subst hy; first | rfl)

noncomputable def j9:=pe.addL [(252,Z5),(254,Z7),(219,ZT),(214,ZN),(216,ZQ),(163,F94)]
theorem eI:zm j9:=gm.addL <| fc Vt <| fc Vv <| fc Vh <| fc Vb <| fc Ve <| fc zcx gW

noncomputable def ZL:zD:=zR (List.replicate 4 none) (bS j9 Tryz.f212 (List.replicate 4 none))
theorem U9:FK 212 ZL:=aj _ eI (aJ (by kernel_rfl))

noncomputable def ZM:zD:=zR (List.replicate 4 none) (bS j9 Tryz.f213 (List.replicate 4 none))
theorem Va:FK 213 ZM:=aj _ eI (aJ (by kernel_rfl))

noncomputable def F86:zD:=zR (List.replicate 4 none) (bS j9 Tryz.f155 (List.replicate 4 none))
theorem zcn:FK 155 F86:=aj _ eI (aJ (by kernel_rfl))

noncomputable def F82:zD:=zR (List.replicate 4 none) (bS j9 Tryz.f151 (List.replicate 4 none))
theorem zcj:FK 151 F82:=aj _ eI (aJ (by kernel_rfl))

noncomputable def F84:zD:=zR (List.replicate 4 none) (bS j9 Tryz.f153 (List.replicate 4 none))
theorem zcl:FK 153 F84:=aj _ eI (aJ (by kernel_rfl))

abbrev zji:Nat→zX:=fun _=>{ }
theorem zf5:zA (j9).P 165 Tryz.f165 1:=aJ (by kernel_rfl)
theorem ziy (x0:Sem Sh.expr):rn j9 0 zji Tryz.f165 [zz Sh.expr x0] []=Tr.br (gH (zB x0)) (Tr.ok (zr.ret (AV.str []) [])) (Tr.chk (fX (zB x0)) (Tr.chk (decide ([32,87,72,69,82,69,32].length+length (bX (zB x0))≤1099511627776)) (Tr.ok (zr.ret (AV.str ([32,87,72,69,82,69,32]++bX (zB x0))) [])))):=by kernel_rfl
def fe (x0:Sem Sh.expr):Sem Sh.str:=(if gH x0=true then [] else [32,87,72,69,82,69,32]++bX x0)
def xD (x0:Sem Sh.expr):Bool:=(if gH x0=true then true else if fX x0=true then if decide ([32,87,72,69,82,69,32].length+length (bX x0)≤1099511627776)=true then true else false else false)
def F96:zD:=zC [Sh.expr] [Sh.str] (fun x=>xD x.1) fun x=>(fe x.1,())
theorem zcz:FK 165 F96:=by
 refine zN (zf5) fun x hc C hC=>?_
 unfold xD at hc
 refine zk eI (zf5) (fun id _=>hC id) (ziy x.1) ?_
 generalize hy:fe x.1=y
 unfold fe at hy
 try simp only [ze.eta]
 repeat' (first | with_reducible refine eU hy hc (fun _ hy hc=>?_) (fun _ hy hc=>?_) | with_reducible refine aP hy (fun _ hy=>?_) (fun _ hy=>?_) | with_reducible refine bh hc (fun hc=>?_) | with_reducible refine zq ?_)
 all_goals first | (cases hc; done) | (subst hy; first | rfl)

abbrev zjj:Nat→zX:=fun _=>{ }
theorem zf6:zA (j9).P 167 Tryz.f167 2:=aJ (by kernel_rfl)
theorem ziA (x0:TS) (x1:Sem Sh.expr):rn j9 0 zjj Tryz.f167 [zz Sh.str x0,zz Sh.expr x1] []=Tr.br (gH (zB x1)) (Tr.ok (zr.ret (AV.str []) [])) (Tr.chk (decide (length x0+[67,72,69,67,75,32,40,32].length≤1099511627776)) (Tr.chk (fX (zB x1)) (Tr.chk (decide (length (x0++[67,72,69,67,75,32,40,32])+length (bX (zB x1))≤1099511627776)) (Tr.chk (decide (length (x0++[67,72,69,67,75,32,40,32]++bX (zB x1))+[32,41].length≤1099511627776)) (Tr.ok (zr.ret (AV.str (x0++[67,72,69,67,75,32,40,32]++bX (zB x1)++[32,41])) [])))))):=by kernel_rfl
def hP (x0:TS) (x1:Sem Sh.expr):Sem Sh.str:=(if gH x1=true then [] else x0++[67,72,69,67,75,32,40,32]++bX x1++[32,41])
def kJ (x0:TS) (x1:Sem Sh.expr):Bool:=(if gH x1=true then true else if decide (length x0+[67,72,69,67,75,32,40,32].length≤1099511627776)=true then if fX x1=true then if decide (length (x0++[67,72,69,67,75,32,40,32])+length (bX x1)≤1099511627776)=true then if decide (length (x0++[67,72,69,67,75,32,40,32]++bX x1)+[32,41].length≤1099511627776)=true then true else false else false else false else false)
def F98:zD:=zC [Sh.str,Sh.expr] [Sh.str] (fun x=>kJ x.1 x.2.1) fun x=>(hP x.1 x.2.1,())
theorem zcB:FK 167 F98:=by
 refine zN (zf6) fun x hc C hC=>?_
 unfold kJ at hc
 refine zk eI (zf6) (fun id _=>hC id) (ziA x.1 x.2.1) ?_
 generalize hy:hP x.1 x.2.1=y
 unfold hP at hy
 try simp only [ze.eta]
 repeat' (first | with_reducible refine eU hy hc (fun _ hy hc=>?_) (fun _ hy hc=>?_) | with_reducible refine aP hy (fun _ hy=>?_) (fun _ hy=>?_) | with_reducible refine bh hc (fun hc=>?_) | with_reducible refine zq ?_)
 all_goals first | (cases hc; done) | (subst hy; first | rfl)

abbrev zjg:Nat→zX:=fun _=>{ }
theorem zf3:zA (j9).P 162 Tryz.f162 1:=aJ (by kernel_rfl)
theorem ziv (x0:Sem aQ):rn j9 0 zjg Tryz.f162 [zz aQ x0] []=Tr.chk (decide (length x0.1+[32,61,32].length≤1099511627776)) (Tr.chk (fX (zB x0.2)) (Tr.chk (decide (length (x0.1++[32,61,32])+length (bX (zB x0.2))≤1099511627776)) (Tr.ok (zr.ret (AV.str (x0.1++[32,61,32]++bX (zB x0.2))) [])))):=by kernel_rfl
def cK (x0:Sem aQ):Sem Sh.str:=(x0.1++[32,61,32]++bX x0.2)
def jg (x0:Sem aQ):Bool:=(if decide (length x0.1+[32,61,32].length≤1099511627776)=true then if fX x0.2=true then if decide (length (x0.1++[32,61,32])+length (bX x0.2)≤1099511627776)=true then true else false else false else false)
def F93:zD:=zC [aQ] [Sh.str] (fun x=>jg x.1) fun x=>(cK x.1,())
theorem zcw:FK 162 F93:=by
 refine zN (zf3) fun x hc C hC=>?_
 unfold jg at hc
 refine zk eI (zf3) (fun id _=>hC id) (ziv x.1) ?_
 generalize hy:cK x.1=y
 unfold cK at hy
 try simp only [ze.eta]
 repeat' (first | with_reducible refine eU hy hc (fun _ hy hc=>?_) (fun _ hy hc=>?_) | with_reducible refine aP hy (fun _ hy=>?_) (fun _ hy=>?_) | with_reducible refine bh hc (fun hc=>?_) | with_reducible refine zq ?_)
 all_goals first | (cases hc; done) | (subst hy; first | rfl)

noncomputable def gI:=j9.addL [(212,ZL),(213,ZM),(155,F86),(151,F82),(153,F84),(165,F96),(167,F98),(162,F93)]
theorem dP:zm gI:=eI.addL <| fc U9 <| fc Va <| fc zcn <| fc zcj <| fc zcl <| fc zcz <| fc zcB <| fc zcw gW
end Cad
