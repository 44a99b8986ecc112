/- slices.Clone: what it answers is memory of its own. schema.copied is its argument, of what is not too deep. Functions from plain data and a function to plain data. Statements: words of columns, tokens. Statements: parts. Statements: the ways of many; expressions' texts. Statements: the ways of many, again; tokens. Statements: the ways of many, once more. Statements: many; checks' texts. Statements: what a CREATE has. Functions on a variable to which a pointer leads. Functions as the machine goes through them, round by round. Rounds with an invariant; what a variable's cells say. Statements: their parts, their texts. Statements: their texts. Statements that may be. -/
import Derived.Test.YtfgnbipebgibeaaGreatDoorG10
import Derived.Test.YtfgnbipebgibeaaGreatDoorG09
namespace Cad
open Go Go.Proofs
open Int (toNat)
open List (getD)
open List (length)

theorem Reach.promNil {E:bS} {C:dl} {fn:FuncId} {todo:List Item} {st:St} (e:Sh) (hC:∀ id,C.ρ0 id=none) (h:Reach E C fn todo st (fun r h=>(r,h)=(.nils,[]))):Reach E C fn todo st (fun r h=>(r,h)=(.vec 0,[.vec e []])):=by
 intro b cs a w U ρ h1 h2 hc hW
 obtain ⟨en,w',fr,⟨v,r,h',U',ρ',he,hq,hrv,hH,hnew,hr0,hWd⟩,hcm,hf,hl⟩:=h b cs a w U ρ h1 h2 hc hW
 cases hq
 cases hrv with
 | nils ad=>
 have hno:∀ id o b,o=(AO.vec e []:AO)∨o=AO.dead→¬ ag (fun id=>if id=0 then some (.slice ad 0 0) else none) id o b:=by
  rintro id o b ho ⟨h3,x,h4,h5⟩
  rcases ho with rfl | rfl
  ·simp only at h4
   split at h4
   ·cases h4
    cases ad <;> simp [fG] at h5
   ·cases h4
  ·simp [AO.owns] at h3
 have hob:∀ id,(([AO.vec e []]:List AO).getD id .dead)=(if id=0 then AO.vec e [] else AO.dead):=by
  intro id
  cases id <;> simp
 refine ⟨en,w',fr,⟨_,_,_,U',fun id=>if id=0 then some (.slice ad 0 0) else none,he,rfl,.vec 0 _ (by simp) (by simp [Value.oneCell']),⟨fun id=>?_,fun id1 id2 b o=>?_,fun id b o=>?_⟩,fun id hid=>?_,fun id v hv=>?_,hWd⟩,hcm,hf,hl⟩
 ·show bE w' U' _ id (([AO.vec e []]:List AO).getD id .dead)
  rw [hob]
  split
  ·rename_i h0
   subst h0
   exact ⟨ad,0,by simp,by simp,.inl ⟨rfl,rfl⟩⟩
  ·trivial
 ·exfalso
  have o':ag (fun id=>if id=0 then some (.slice ad 0 0) else none) id1 (([AO.vec e []]:List AO).getD id1 .dead) b:=o
  rw [hob] at o'
  split at o'
  ·exact hno _ _ _ (.inl rfl) o'
  ·exact hno _ _ _ (.inr rfl) o'
 ·exfalso
  have o':ag (fun id=>if id=0 then some (.slice ad 0 0) else none) id (([AO.vec e []]:List AO).getD id .dead) b:=o
  rw [hob] at o'
  split at o'
  ·exact hno _ _ _ (.inl rfl) o'
  ·exact hno _ _ _ (.inr rfl) o'
 ·simp at hid
  simp; omega
 ·rw [hC id] at hv; cases hv

def gG:Tr zx→List Item×List Item×St
 | .ok (.fork _ k1 k2 st)=>(k1,k2,st)
 | _=>([],[],⟨[],[]⟩)

abbrev YB:Nat→aJ:=fun _=>{ }

noncomputable abbrev Gb (l:List ze):Tr zx:=run qh 0 YB (Func.results Tryz.f73).toList 300 (bv Tryz.f73) (bc (Func.ntmps Tryz.f73) [.sl .expr l] [])
theorem Sz:zK qh.P 73 Tryz.f73 1:=bN (by kernel_rfl)
theorem zfG (l:List ze):Gb l=.ok (.fork l.isEmpty (gG (Gb l)).1 (gG (Gb l)).2.1 (gG (Gb l)).2.2):=by kernel_rfl
theorem zdZ (l:List ze):run qh 0 YB (Func.results Tryz.f73).toList 300 (gG (Gb l)).1 (gG (Gb l)).2.2=.ok (.ret .nils []):=by kernel_rfl
theorem zd0 (l:List ze):run qh 0 YB (Func.results Tryz.f73).toList 300 (gG (Gb l)).2.1 (gG (Gb l)).2.2=.chk (decide (l.length≤1073741824)) (.ok (.ret (.vec 0) [.vec .expr l])):=by kernel_rfl
def G53:ie [some (.sl .expr)]:=fun x h=>match h with
 | []=>.chk (decide (length x.1≤1073741824)) (.ok (.vec 0,[.vec .expr x.1]))
 | _=>.err
def F53:zT:=bh [some (.sl .expr)] G53
theorem zay:FK 73 F53:=by
 refine dD Sz fun x h0 res hx C hC=>?_
 unfold G53 at hx
 split at hx
 ·simp only [Tr.val] at hx
  split at hx
  ·rename_i hl
   simp only [bz] at hx
   subst hx
   obtain ⟨l,u⟩:=x
   refine zr (n0:=0) ir Sz hC (zfG l) ?_
   refine ⟨fun he=>?_,?_⟩
   ·have hn:l=[]:=List.isEmpty_iff.1 he
    refine Reach.weaken (Q:=fun r h=>(r,h)=(.vec 0,[.vec .expr []])) (Reach.promNil .expr (fun id=>hC id (by simp)) (zr (n0:=0) ir Sz hC (zdZ l) rfl)) ?_
    intro r h hq
    cases hq
    refine ⟨_,?_,fun _ _ _ _ h=>h⟩
    show (AV.vec 0,[AO.vec Sh.expr []])=(AV.vec 0,[AO.vec Sh.expr l])
    rw [hn]
   ·exact zr (n0:=0) ir Sz hC (zd0 l) (lp hl rfl)
  ·cases hx
 ·simp at hx

noncomputable abbrev Ga (l:List (Sem zh)):Tr zx:=run qh 0 YB (Func.results Tryz.f69).toList 300 (bv Tryz.f69) (bc (Func.ntmps Tryz.f69) [.sl zh l] [])
theorem Sx:zK qh.P 69 Tryz.f69 1:=bN (by kernel_rfl)
theorem zfo (l:List (Sem zh)):Ga l=.ok (.fork l.isEmpty (gG (Ga l)).1 (gG (Ga l)).2.1 (gG (Ga l)).2.2):=by kernel_rfl
theorem zdU (l:List (Sem zh)):run qh 0 YB (Func.results Tryz.f69).toList 300 (gG (Ga l)).1 (gG (Ga l)).2.2=.ok (.ret .nils []):=by kernel_rfl
theorem zdV (l:List (Sem zh)):run qh 0 YB (Func.results Tryz.f69).toList 300 (gG (Ga l)).2.1 (gG (Ga l)).2.2=.chk (decide (l.length≤1073741824)) (.ok (.ret (.vec 0) [.vec zh l])):=by kernel_rfl
def G32:ie [some (.sl zh)]:=fun x h=>match h with
 | []=>.chk (decide (length x.1≤1073741824)) (.ok (.vec 0,[.vec zh x.1]))
 | _=>.err
def F32:zT:=bh [some (.sl zh)] G32
theorem zae:FK 69 F32:=by
 refine dD Sx fun x h0 res hx C hC=>?_
 unfold G32 at hx
 split at hx
 ·simp only [Tr.val] at hx
  split at hx
  ·rename_i hl
   simp only [bz] at hx
   subst hx
   obtain ⟨l,u⟩:=x
   refine zr (n0:=0) ir Sx hC (zfo l) ?_
   refine ⟨fun he=>?_,?_⟩
   ·have hn:l=[]:=List.isEmpty_iff.1 he
    refine Reach.weaken (Q:=fun r h=>(r,h)=(.vec 0,[.vec zh []])) (Reach.promNil zh (fun id=>hC id (by simp)) (zr (n0:=0) ir Sx hC (zdU l) rfl)) ?_
    intro r h hq
    cases hq
    refine ⟨_,?_,fun _ _ _ _ h=>h⟩
    show (AV.vec 0,[AO.vec zh []])=(AV.vec 0,[AO.vec zh l])
    rw [hn]
   ·exact zr (n0:=0) ir Sx hC (zdV l) (lp hl rfl)
  ·cases hx
 ·simp at hx

noncomputable def Xc:=qh.addL [(73,F53),(69,F32)]
theorem GB:zy Xc:=ir.addL <| fc zay <| fc zae jp
def M0 (c:ze→Bool):zT:=zN [.expr] [.expr] (fun x=>c x.1) fun x=>(x.1,())
noncomputable def LU (c:ze→Bool):bS:=Xc.add 35 (M0 c)
theorem x8 {c:ze→Bool} (hg:FK 35 (M0 c)):zy (LU c):=GB.add hg
abbrev zcs:Nat→aJ:=fun j=>if j=3 then { slots:=[1,2,10,11] } else { }
abbrev La (i10:Int) (i11:Int) (ja0:zw) (ja1:Int) (ja2:Int) (ja3:zw) (ja4:zw) (lh_2:List (Sem Sh.expr)):St:={
 tmps:=
  (tm 26 [(1,AV.ptr 0 0),(2,AV.ptr 1 0),(10,AV.int .i64 i10),(11,AV.int .i64 i11)]),
 heap:=
  [AO.box [AV.str ja0,AV.int .i64 ja1,AV.int .i64 ja2,AV.str ja3,AV.str ja4,AV.vec 2],
   AO.box [AV.str [],AV.int .i64 0,AV.int .i64 0,AV.str [],AV.str [],AV.nils],AO.vec Sh.expr lh_2] }
theorem I2 (c:ze→Bool):zK (LU c).P 35 Tryz.f35 1:=bN (by kernel_rfl)
theorem zfp (c:ze→Bool) (op:zw) (v:V) (s:zw) (l:List ze):rn (LU c) 0 zcs Tryz.f35 [zF Sh.expr (ze.mk op v s l)] []=
 Tr.chk (decide (l.length≤1073741824)) (Tr.ok (zx.head 3 (zI Tryz.f35 3) (La (↑l.length:Int) 0 op v.1 v.2.1 v.2.2 s l))):=by kernel_rfl
theorem PB (c:ze→Bool) (i10:Int) (i11:Int) (ja0:zw) (ja1:Int) (ja2:Int) (ja3:zw) (ja4:zw) (lh_2:List (Sem Sh.expr)):rh (LU c) 0 zcs Tryz.f35 3 (La i10 i11 ja0 ja1 ja2 ja3 ja4 lh_2)=
 Tr.br (decide (i11 < i10))
 (Tr.chk (zR i11 lh_2.length)
  (Tr.chk (decide (i11.toNat < lh_2.length))
   (Tr.chk (c (zm (lh_2.getD i11.toNat (zi Sh.expr))))
    (Tr.chk (zR i11 lh_2.length)
     (Tr.chk (decide (i11.toNat < lh_2.length))
      (Tr.ok
       (zx.head 3 (zI Tryz.f35 3)
        (La i10 (IntKind.i64.wrap (i11+1)) ja0 ja1 ja2 ja3 ja4
         (lh_2.set i11.toNat
          (zm (lh_2.getD i11.toNat (zi Sh.expr))))))))))))
 (Tr.ok
  (zx.ret (AV.agg [AV.str ja0,AV.int .i64 ja1,AV.int .i64 ja2,AV.str ja3,AV.str ja4,AV.vec 0]) [AO.vec Sh.expr lh_2])):=by kernel_rfl

theorem zeA {c:ze→Bool} (hg:FK 35 (M0 c)) {C:dl} (hC:∀ id,C.ρ0 id=none) (op:zw) (v:V) (s:zw) (l:List ze) (hl:l.length≤1073741824) (hcl:l.all c=true):
  ∀ (k i:Nat),l.length - i=k→i≤l.length→Reach (LU c) C 35 (zI Tryz.f35 3) (La l.length i op v.1 v.2.1 v.2.2 s l) (fun r h=>az h [.expr] r=some (ze.mk op v s l,())):=by
 intro k
 induction k with
 | zero=>
  intro i hk hi
  obtain rfl:i=l.length:=by omega
  refine zr (n0:=0) (x8 hg) (I2 c) (fun id _=>hC id) (PB c _ _ _ _ _ _ _ _) ?_
  simp only [zH,Tr.val_brF]
  rfl
 | succ k IH=>
  intro i hk hi
  have hlt:i < l.length:=by omega
  refine zr (n0:=0) (x8 hg) (I2 c) (fun id _=>hC id) (PB c _ _ _ _ _ _ _ _) ?_
  have h1:c l[i]=true:=fE.1 hcl _ (bP hlt)
  have h2:decide ((i:Int).toNat < l.length)=true:=by simpa using hlt
  have h3:l.set (i:Int).toNat l[i]=l:=by simp
  simp only [zM hlt,zB hlt,bt l _ hlt,ze.eta,Tr.val_brT,Tr.val_chkT,h1,h2,h3,zt i (by unfold zA; omega)]
  exact IH (i+1) (by omega) (by omega)

def kw:Nat→ze→Bool
 | 0,_=>false
 | n+1,.mk _ _ _ l=>decide (l.length≤1073741824)&&l.all (kw n)

theorem H5:∀ n,FK 35 (M0 (kw n))
 | 0=>eW ⟨Tryz.f35,(I2 (fun _=>false)).1,(I2 (fun _=>false)).2.1,(I2 (fun _=>false)).2.2.1⟩ (fun _=>rfl)
 | n+1=>by
  refine au (E:=LU (kw n)) (I2 _) fun x hc C hC=>?_
  obtain ⟨⟨op,v,s,l⟩,u⟩:=x
  have hc:(decide (l.length≤1073741824)&&l.all (kw n))=true:=hc
  simp only [aV,aN] at hc
  refine zr (n0:=0) (x8 (H5 n)) (I2 _) (fun id _=>hC id) (zfp _ op v s l) ?_
  refine lp (by simpa using hc.1) ?_
  exact zeA (H5 n) hC op v s l hc.1 hc.2 _ 0 rfl (aK _)
def F33:zT:=M0 (kw 16)
theorem zaf:FK 35 F33:=H5 16
noncomputable def kI:=Xc.add 35 F33
theorem iu:zy kI:=GB.add zaf
open Go

def rG:(ks:List Sh)→zC (ks.map some++[none])→zC (ks.map some)×AV
 | [],x=>((),x.1)
 | _::ks,x=>((x.1,(rG ks x.2).1),(rG ks x.2).2)

theorem xO:∀ (ks:List Sh) (x:zC (ks.map some++[none])),kF (ks.map some++[none]) x=kF (ks.map some) (rG ks x).1++[(rG ks x).2]
 | [],_=>rfl
 | s::ks,x=>congrArg (zF s x.1 :: ·) (xO ks x.2)

def OF (k:Nat):AV→Bool
 | .clo (.func j) [] []=>j==k
 | _=>false

theorem OG {k:Nat} {v:AV} (h:OF k v=true):v=.clo (.func k) [] []:=by
 unfold OF at h
 split at h
 ·rw [bb] at h; rw [h]
 ·cases h

abbrev MY (ks outs:List Sh):=Nat×(zC (ks.map some)→Bool)×(zC (ks.map some)→zC (outs.map some))

def RH {ks outs:List Sh} (v:AV):List (MY ks outs)→Option ((zC (ks.map some)→Bool)×(zC (ks.map some)→zC (outs.map some)))
 | []=>none
 | (k,a)::r=>if OF k v then some a else RH v r

theorem F4 {ks outs:List Sh} {v:AV} {a}:∀ {l:List (MY ks outs)},RH v l=some a→∃ k,v=.clo (.func k) [] []∧(k,a)∈l
 | [],h=>by cases h
 | (k,b)::r,h=>by
  unfold RH at h
  split at h
  ·rename_i hk
   cases h
   exact ⟨k,OG hk,B6 ..⟩
  ·obtain ⟨j,h1,h2⟩:=F4 h
   exact ⟨j,h1,B2 _ h2⟩

def KM (ks outs:List Sh) (l:List (MY ks outs)):ie (ks.map some++[none]):=fun x h=>match h with
 | []=>match RH (rG ks x).2 l with
  | some (c,g)=>.chk (c (rG ks x).1) (.ok (v7 outs (g (rG ks x).1),[]))
  | none=>.err
 | _=>.err

def PR (ks outs:List Sh) (l:List (MY ks outs)):zT:=bh (ks.map some++[none]) (KM ks outs l)

theorem H6 {P:Program} {gl:Nat→AV} {E:bS} {k:FuncId} {f:Func} {ks outs:List Sh} {l:List (MY ks outs)} (hf:zK E.P k f (ks.length+1))
  (h:∀ j c g,(j,c,g)∈l→∀ x,c x=true→∀ C:dl,(∀ id,C.ρ0 id=none)→Reach E C k (bv f) (bc f.ntmps (kF (ks.map some) x++[.clo (.func j) [] []]) []) (fun r h=>az h outs r=some (g x))) (qp:E.P=P:=by rfl) (qg:E.gl=gl:=by rfl):nl P gl k (PR ks outs l):=by
 subst qp qg
 refine dD (by simpa using hf) fun x h0 res hx C hC=>?_
 unfold KM at hx
 split at hx
 ·split at hx
  ·rename_i c g hal
   obtain ⟨j,hv,hm⟩:=F4 hal
   simp only [Tr.val] at hx
   split at hx
   ·rename_i hc
    simp only [bz] at hx
    subst hx
    rw [xO,hv]
    exact Reach.plain (fun id=>hC id (by simp)) (h j c g hm _ hc C (fun id=>hC id (by simp)))
   ·simp at hx
  ·simp at hx
 ·simp at hx

set_option maxHeartbeats 4000000
abbrev ib:Sh:=.pr .str .str
abbrev gy:Sh:=.pr .str .expr
abbrev zk:Sh:=.pr .str (.pr .str (.pr .str (.pr (.sl .str) (.pr (.sl zh) (.pr .str (.pr (.sl .str) (.pr (.sl ib) (.pr .expr (.pr (.sl zg) (.pr (.sl gy) (.pr .expr .str)))))))))))
def By (x:Sem zk):Sem zk:=(x.1,x.2.1,x.2.2.1,x.2.2.2.1,x.2.2.2.2.1,x.2.2.2.2.2.1,x.2.2.2.2.2.2.1,x.2.2.2.2.2.2.2.1,zm x.2.2.2.2.2.2.2.2.1,x.2.2.2.2.2.2.2.2.2.1,x.2.2.2.2.2.2.2.2.2.2.1,zm x.2.2.2.2.2.2.2.2.2.2.2.1,x.2.2.2.2.2.2.2.2.2.2.2.2)
theorem Ki (x:Sem zk):By x=x:=by unfold By; rw [zn,zn]

abbrev UK:Nat→aJ:=fun j=>if j=2 then { slots:=[0,2,4] } else { }
abbrev AN (s0:TS) (i4:Int) (ja0:Int) (ja1:List UInt8):St:={ tmps:=(tm 37 [(0,AV.str s0),(2,AV.ptr 0 0),(4,ai i4)]),heap:=[AO.box [ai ja0,AV.str ja1]] }
theorem Pn:zK (kI).P 217 Tryz.f217 1:=bN (by kernel_rfl)
theorem zbD (x0:TS):rn kI 0 UK Tryz.f217 [zF Sh.str x0] []=Tr.ok (zx.head 2 (zI Tryz.f217 2) (AN x0 1 0 [])):=by kernel_rfl
theorem SC (s0:TS) (i4:Int) (ja0:Int) (ja1:List UInt8):rh kI 0 UK Tryz.f217 2 (AN s0 i4 ja0 ja1)=Tr.br (decide (i4 < (↑(length s0):Int))) (Tr.chk (zR i4 (length s0)) (Tr.br ((↑(getD s0 i4.toNat 0).toNat:Int) != 39) (Tr.ok (zx.head 2 (zI Tryz.f217 2) (AN s0 (IntKind.i64.wrap (i4+1)) ja0 ja1))) (Tr.chk (bif decide (IntKind.i64.wrap (i4+1) < (↑(length s0):Int)) then zR (IntKind.i64.wrap (i4+1)) (length s0) else true) (Tr.br (bif decide (IntKind.i64.wrap (i4+1) < (↑(length s0):Int)) then (↑(getD s0 (IntKind.i64.wrap (i4+1)).toNat 0).toNat:Int)==39 else false) (Tr.ok (zx.head 2 (zI Tryz.f217 2) (AN s0 (IntKind.i64.wrap (IntKind.i64.wrap (i4+1)+1)) ja0 ja1))) (Tr.chk (decide (0≤1)&&decide (1≤i4)&&decide (i4≤(↑(length s0):Int))) (Tr.chk (tt (List.take (i4.toNat - toNat 1) (List.drop (toNat 1) s0)) [39,39] [39]) (Tr.ok (zx.ret (AV.tup [AV.agg [ai 3,AV.str (Lib.replaceAll (List.take (i4.toNat - toNat 1) (List.drop (toNat 1) s0)) [39,39] [39])],ai (IntKind.i64.wrap (i4+1))]) [])))))))) (Tr.ok (zx.ret (AV.tup [AV.agg [ai 0,AV.str []],ai 0]) [])):=by kernel_rfl
def ez:Nat→(Sem Sh.str)→Int→Int→(List UInt8)→Sem bM×Sem zf
 | 0,_,_,_,_=>default
 | n+1,s0,i4,ja0,ja1=>(if decide (i4 < (↑(length s0):Int))=true then
 if ((↑(getD s0 i4.toNat 0).toNat:Int) != 39)=true then ez n s0 (IntKind.i64.wrap (i4+1)) ja0 ja1
 else
  if
    (bif decide (IntKind.i64.wrap (i4+1) < (↑(length s0):Int)) then (↑(getD s0 (IntKind.i64.wrap (i4+1)).toNat 0).toNat:Int)==39
     else false)=
     true then
   ez n s0 (IntKind.i64.wrap (IntKind.i64.wrap (i4+1)+1)) ja0 ja1
  else ((3,Lib.replaceAll (List.take (i4.toNat - toNat 1) (List.drop (toNat 1) s0)) [39,39] [39]),IntKind.i64.wrap (i4+1))
else ((0,[]),0))
def iA:Nat→(Sem Sh.str)→Int→Int→(List UInt8)→Bool
 | 0,_,_,_,_=>false
 | n+1,s0,i4,ja0,ja1=>(if decide (i4 < (↑(length s0):Int))=true then
 if zR i4 (length s0)=true then
  if ((↑(getD s0 i4.toNat 0).toNat:Int) != 39)=true then iA n s0 (IntKind.i64.wrap (i4+1)) ja0 ja1
  else
   if (bif decide (IntKind.i64.wrap (i4+1) < (↑(length s0):Int)) then zR (IntKind.i64.wrap (i4+1)) (length s0) else true)=true then
    if
      (bif decide (IntKind.i64.wrap (i4+1) < (↑(length s0):Int)) then (↑(getD s0 (IntKind.i64.wrap (i4+1)).toNat 0).toNat:Int)==39
       else false)=
       true then
     iA n s0 (IntKind.i64.wrap (IntKind.i64.wrap (i4+1)+1)) ja0 ja1
    else
     if (decide (0≤1)&&decide (1≤i4)&&decide (i4≤(↑(length s0):Int)))=true then
      if tt (List.take (i4.toNat - toNat 1) (List.drop (toNat 1) s0)) [39,39] [39]=true then true else false
     else false
   else false
 else false
else true)
theorem J2 {C:dl} (hC:∀ id,C.ρ0 id=none):∀ (n:Nat) (s0:TS) (i4:Int) (ja0:Int) (ja1:List UInt8),iA n s0 i4 ja0 ja1=true→
  Reach (kI) C 217 (zI Tryz.f217 2) (AN s0 i4 ja0 ja1) (fun r h=>az h [bM,zf] r=some ((ez n s0 i4 ja0 ja1).1,(ez n s0 i4 ja0 ja1).2,()))
 | 0,s0,i4,ja0,ja1,hc=>by cases hc
 | n+1,s0,i4,ja0,ja1,hc=>by
  refine zr iu (Pn) (fun id _=>hC id) (SC _ _ _ _) ?_
  rw [iA] at hc
  generalize hy:ez (n+1) s0 i4 ja0 ja1=y
  rw [ez] at hy
  try simp only [ze.eta,zn]
  repeat' (first | with_reducible refine jk hy hc (fun _ hy hc=>?_) (fun _ hy hc=>?_) | with_reducible refine bF hy (fun _ hy=>?_) (fun _ hy=>?_) | with_reducible refine cQ hc (fun hc=>?_) | with_reducible refine zz ?_)
  all_goals first | (cases hc; done) | (subst hy; first | (change Reach _ _ _ _ _ _; refine J2 hC n _ _ _ _ ?_ <;> exact hc) | rfl)
def dG (x0:TS):Sem bM×Sem zf:=(ez (length x0+1) x0 1 0 [])
def jt (x0:TS):Bool:=(iA (length x0+1) x0 1 0 [])
def YY:zT:=zN [Sh.str] [bM,zf] (fun x=>jt x.1) fun x=>((dG x.1).1,(dG x.1).2,())
theorem Vy:FK 217 YY:=by
 refine au (Pn) fun x hc C hC=>?_
 unfold jt at hc
 refine zr iu (Pn) (fun id _=>hC id) (zbD x.1) ?_
 generalize hy:dG x.1=y
 unfold dG at hy
 try simp only [ze.eta,zn]
 repeat' (first | with_reducible refine jk hy hc (fun _ hy hc=>?_) (fun _ hy hc=>?_) | with_reducible refine bF hy (fun _ hy=>?_) (fun _ hy=>?_) | with_reducible refine cQ hc (fun hc=>?_) | with_reducible refine zz ?_)
 all_goals first | (cases hc; done) | (subst hy; first | (change Reach _ _ _ _ _ _; refine J2 hC _ _ _ _ _ ?_ <;> exact hc) | rfl)

abbrev zci:Nat→aJ:=fun _=>{ }
theorem UU:zK (kI).P 201 Tryz.f201 1:=bN (by kernel_rfl)
theorem zbB (x0:Sem Sh.expr):rn kI 0 zci Tryz.f201 [zF Sh.expr x0] []=Tr.ok (zx.ret (AV.bool (bif ze.op x0==[] then bif (ze.v x0).1==0&&((ze.v x0).2.1==0&&((ze.v x0).2.2==[]&&true)) then bif ze.s x0==[] then (↑(ze.l x0).length:Int)==0 else false else false else false)) []):=by kernel_rfl
def fR (x0:Sem Sh.expr):Sem Sh.bool:=(bif ze.op x0==[] then bif (ze.v x0).1==0&&((ze.v x0).2.1==0&&((ze.v x0).2.2==[]&&true)) then bif ze.s x0==[] then (↑(ze.l x0).length:Int)==0 else false else false else false)
def YP:zT:=aD [Sh.expr] [Sh.bool] fun x=>(fR x.1,())
theorem Vp:FK 201 YP:=by
 refine zW (UU) fun x C hC=>?_
 refine zr iu (UU) (fun id _=>hC id) (zbB x.1) ?_
 generalize hy:fR x.1=y
 unfold fR at hy
 try simp only [ze.eta,zn]
 repeat' (first | with_reducible refine bF hy (fun _ hy=>?_) (fun _ hy=>?_) | with_reducible refine zz ?_)
 all_goals first | (cases hc; done) | (subst hy; first | rfl)

abbrev zgn:Nat→aJ:=fun _=>{ }
theorem zdO:zK (kI).P 160 Tryz.f160 1:=bN (by kernel_rfl)
theorem zfX (x0:TS):rn kI 0 zgn Tryz.f160 [zF Sh.str x0] []=Tr.ok (zx.ret (AV.str x0) []):=by kernel_rfl
def kQ (x0:TS):Sem Sh.str:=(x0)
def F88:zT:=aD [Sh.str] [Sh.str] fun x=>(kQ x.1,())
theorem za2:FK 160 F88:=by
 refine zW (zdO) fun x C hC=>?_
 refine zr iu (zdO) (fun id _=>hC id) (zfX x.1) ?_
 generalize hy:kQ x.1=y
 unfold kQ at hy
 try simp only [ze.eta,zn]
 repeat' (first | with_reducible refine bF hy (fun _ hy=>?_) (fun _ hy=>?_) | with_reducible refine zz ?_)
 all_goals first | (cases hc; done) | (subst hy; first | rfl)

abbrev zgk:Nat→aJ:=fun _=>{ }
theorem zdK:zK (kI).P 151 Tryz.f151 1:=bN (by kernel_rfl)
theorem zfU (x0:TS):rn kI 0 zgk Tryz.f151 [zF Sh.str x0] []=Tr.ok (zx.ret (AV.bool (bif dC x0 then !iB x0 else false)) []):=by kernel_rfl
def cd (x0:TS):Sem Sh.bool:=(bif dC x0 then !iB x0 else false)
def F80:zT:=aD [Sh.str] [Sh.bool] fun x=>(cd x.1,())
theorem zaY:FK 151 F80:=by
 refine zW (zdK) fun x C hC=>?_
 refine zr iu (zdK) (fun id _=>hC id) (zfU x.1) ?_
 generalize hy:cd x.1=y
 unfold cd at hy
 try simp only [ze.eta,zn]
 repeat' (first | with_reducible refine bF hy (fun _ hy=>?_) (fun _ hy=>?_) | with_reducible refine zz ?_)
 all_goals first | (cases hc; done) | (subst hy; first | rfl)

abbrev zcz:Nat→aJ:=fun _=>{ unroll:=true }
theorem UY:zK (kI).P 141 Tryz.f141 1:=bN (by kernel_rfl)
theorem zbP (x0:Sem bM):rn kI 0 zcz Tryz.f141 [zF bM x0] []=Tr.br (x0.1==3) (Tr.ok (zx.ret (AV.bool (ce (2,0,x0.2))) [])) (Tr.br (x0.1==4) (Tr.chk (bif (↑(length x0.2):Int)==1 then length x0.2==1 else true) (Tr.ok (zx.ret (AV.bool (bif (↑(length x0.2):Int)==1 then decide (0≤Lib.indexByte [40,41,44,61,60,43,45,42] (List.headD x0.2 0)) else false)) []))) (Tr.br true (Tr.chk true (Tr.br (1==x0.1) (Tr.ok (zx.ret (AV.bool (bif decide ((↑(length x0.2):Int) ≥ 1) then bif decide ((↑(length x0.2):Int)≤16) then (↑(aI aH bl x0.2):Int)==(↑(length x0.2):Int) else false else false)) [])) (Tr.br true (Tr.chk true (Tr.br (2==x0.1) (Tr.ok (zx.ret (AV.bool (bif decide ((↑(length x0.2):Int) ≥ 1) then bif decide ((↑(length x0.2):Int)≤19) then (↑(aI zO zO x0.2):Int)==(↑(length x0.2):Int) else false else false)) [])) (Tr.br false Tr.err (Tr.ok (zx.ret (AV.kb false) []))))) (Tr.ok (zx.ret (AV.kb false) []))))) (Tr.ok (zx.ret (AV.kb false) [])))):=by kernel_rfl
def bR (x0:Sem bM):Sem Sh.bool:=(if (x0.1==3)=true then ce (2,0,x0.2) else if (x0.1==4)=true then bif (↑(length x0.2):Int)==1 then decide (0≤Lib.indexByte [40,41,44,61,60,43,45,42] (List.headD x0.2 0)) else false else if true=true then if (1==x0.1)=true then bif decide ((↑(length x0.2):Int) ≥ 1) then bif decide ((↑(length x0.2):Int)≤16) then (↑(aI aH bl x0.2):Int)==(↑(length x0.2):Int) else false else false else if true=true then if (2==x0.1)=true then bif decide ((↑(length x0.2):Int) ≥ 1) then bif decide ((↑(length x0.2):Int)≤19) then (↑(aI zO zO x0.2):Int)==(↑(length x0.2):Int) else false else false else if false=true then default else false else false else false)
def pR (x0:Sem bM):Bool:=(if (x0.1==3)=true then true else if (x0.1==4)=true then if (bif (↑(length x0.2):Int)==1 then length x0.2==1 else true)=true then true else false else if true=true then if true=true then if (1==x0.1)=true then true else if true=true then if true=true then if (2==x0.1)=true then true else if false=true then false else true else false else true else false else true)
def Zx:zT:=zN [bM] [Sh.bool] (fun x=>pR x.1) fun x=>(bR x.1,())
theorem Wc:FK 141 Zx:=by
 refine au (UY) fun x hc C hC=>?_
 unfold pR at hc
 refine zr iu (UY) (fun id _=>hC id) (zbP x.1) ?_
 generalize hy:bR x.1=y
 unfold bR at hy
 try simp only [ze.eta,zn]
 repeat' (first | with_reducible refine jk hy hc (fun _ hy hc=>?_) (fun _ hy hc=>?_) | with_reducible refine bF hy (fun _ hy=>?_) (fun _ hy=>?_) | with_reducible refine cQ hc (fun hc=>?_) | with_reducible refine zz ?_)
 all_goals first | (cases hc; done) | (subst hy; first | rfl)

noncomputable def jV:=kI.addL [(217,YY),(201,YP),(160,F88),(151,F80),(141,Zx)]
theorem gu:zy jV:=iu.addL <| fc Vy <| fc Vp <| fc za2 <| fc zaY <| fc Wc jp

abbrev zgl:Nat→aJ:=fun _=>{ }
theorem zdM:zK (jV).P 157 Tryz.f157 1:=bN (by kernel_rfl)
theorem zfV (x0:Sem Sh.expr):rn jV 0 zgl Tryz.f157 [zF Sh.expr x0] []=Tr.ok (zx.ret (AV.bool (bif fR (zm x0) then true else cM (zm x0))) []):=by kernel_rfl
def bw (x0:Sem Sh.expr):Sem Sh.bool:=(bif fR x0 then true else cM x0)
def F85:zT:=aD [Sh.expr] [Sh.bool] fun x=>(bw x.1,())
theorem zaZ:FK 157 F85:=by
 refine zW (zdM) fun x C hC=>?_
 refine zr gu (zdM) (fun id _=>hC id) (zfV x.1) ?_
 generalize hy:bw x.1=y
 unfold bw at hy
 try simp only [ze.eta]
 repeat' (first | with_reducible refine bF hy (fun _ hy=>?_) (fun _ hy=>?_) | with_reducible refine zz ?_)
 all_goals first | (cases hc; done) | (subst hy; first | rfl)

def zbm (x0:Sem zh):Sem Sh.bool:=(bif cd x0.1 then bif decide (x0.2.1 ≥ 1) then decide (x0.2.1≤3) else false else false)
def zea (x0:Sem ib):Sem Sh.bool:=(bif cd x0.1 then cd x0.2 else false)
abbrev zgp:Nat→aJ:=fun _=>{ }
theorem zdP:zK (jV).P 164 Tryz.f164 1:=bN (by kernel_rfl)
theorem zfY (x0:Sem zg):rn jV 0 zgp Tryz.f164 [zF zg x0] []=Tr.br (!ce x0) (Tr.ok (zx.ret (AV.str []) [])) (Tr.br (x0.1==1) (Tr.chk (10==10) (Tr.ok (zx.ret (AV.str (ql x0.2.1)) []))) (Tr.br (x0.1==2) (Tr.chk (tt x0.2.2 [39] [39,39]) (Tr.chk (decide ([39].length+(Lib.replaceAll x0.2.2 [39] [39,39]).length≤1099511627776)) (Tr.chk (decide (length ([39]++Lib.replaceAll x0.2.2 [39] [39,39])+[39].length≤1099511627776)) (Tr.ok (zx.ret (AV.str ([39]++Lib.replaceAll x0.2.2 [39] [39,39]++[39])) []))))) (Tr.br (x0.1==3) (Tr.br (dB x0==2) (Tr.ok (zx.ret (AV.str [84,82,85,69]) [])) (Tr.ok (zx.ret (AV.str [70,65,76,83,69]) []))) (Tr.ok (zx.ret (AV.str [78,85,76,76]) []))))):=by kernel_rfl
def gA (x0:Sem zg):Sem Sh.str:=(if (!ce x0)=true then [] else if (x0.1==1)=true then ql x0.2.1 else if (x0.1==2)=true then [39]++Lib.replaceAll x0.2.2 [39] [39,39]++[39] else if (x0.1==3)=true then if (dB x0==2)=true then [84,82,85,69] else [70,65,76,83,69] else [78,85,76,76])
def vg (x0:Sem zg):Bool:=(if (!ce x0)=true then true else if (x0.1==1)=true then if (10==10)=true then true else false else if (x0.1==2)=true then if tt x0.2.2 [39] [39,39]=true then if decide ([39].length+(Lib.replaceAll x0.2.2 [39] [39,39]).length≤1099511627776)=true then if decide (length ([39]++Lib.replaceAll x0.2.2 [39] [39,39])+[39].length≤1099511627776)=true then true else false else false else false else true)
def F92:zT:=zN [zg] [Sh.str] (fun x=>vg x.1) fun x=>(gA x.1,())
theorem za6:FK 164 F92:=by
 refine au (zdP) fun x hc C hC=>?_
 unfold vg at hc
 refine zr gu (zdP) (fun id _=>hC id) (zfY x.1) ?_
 generalize hy:gA x.1=y
 unfold gA at hy
 try simp only [ze.eta,zn]
 repeat' (first | with_reducible refine jk hy hc (fun _ hy hc=>?_) (fun _ hy hc=>?_) | with_reducible refine bF hy (fun _ hy=>?_) (fun _ hy=>?_) | with_reducible refine cQ hc (fun hc=>?_) | with_reducible refine zz ?_)
 all_goals first | (cases hc; done) | (subst hy; first | rfl)

abbrev zgm:Nat→aJ:=fun _=>{ }
theorem zdN:zK (jV).P 159 Tryz.f159 1:=bN (by kernel_rfl)
theorem zfW (x0:Sem zk):rn jV 0 zgm Tryz.f159 [zF zk x0] []=Tr.chk (decide (length x0.2.1+length x0.2.2.1≤1099511627776)) (Tr.chk (decide (length (x0.2.1++x0.2.2.1)+length x0.2.2.2.2.2.1≤1099511627776)) (Tr.chk (decide (length (x0.2.1++x0.2.2.1++x0.2.2.2.2.2.1)+length x0.2.2.2.2.2.2.2.2.2.2.2.2≤1099511627776)) (Tr.ok (zx.ret (AV.bool (bif x0.2.1++x0.2.2.1++x0.2.2.2.2.2.1++x0.2.2.2.2.2.2.2.2.2.2.2.2==[] then bif IntKind.i64.wrap (IntKind.i64.wrap (IntKind.i64.wrap (IntKind.i64.wrap (IntKind.i64.wrap ((↑(length x0.2.2.2.1):Int)+(↑(length x0.2.2.2.2.1):Int))+(↑(length x0.2.2.2.2.2.2.1):Int))+(↑(length x0.2.2.2.2.2.2.2.1):Int))+(↑(length x0.2.2.2.2.2.2.2.2.2.1):Int))+(↑(length x0.2.2.2.2.2.2.2.2.2.2.1):Int))==0 then bif fR (zm x0.2.2.2.2.2.2.2.2.1) then fR (zm x0.2.2.2.2.2.2.2.2.2.2.2.1) else false else false else false)) [])))):=by kernel_rfl
def dZ (x0:Sem zk):Sem Sh.bool:=(bif x0.2.1++x0.2.2.1++x0.2.2.2.2.2.1++x0.2.2.2.2.2.2.2.2.2.2.2.2==[] then bif IntKind.i64.wrap (IntKind.i64.wrap (IntKind.i64.wrap (IntKind.i64.wrap (IntKind.i64.wrap ((↑(length x0.2.2.2.1):Int)+(↑(length x0.2.2.2.2.1):Int))+(↑(length x0.2.2.2.2.2.2.1):Int))+(↑(length x0.2.2.2.2.2.2.2.1):Int))+(↑(length x0.2.2.2.2.2.2.2.2.2.1):Int))+(↑(length x0.2.2.2.2.2.2.2.2.2.2.1):Int))==0 then bif fR x0.2.2.2.2.2.2.2.2.1 then fR x0.2.2.2.2.2.2.2.2.2.2.2.1 else false else false else false)
def dM (x0:Sem zk):Bool:=(if decide (length x0.2.1+length x0.2.2.1≤1099511627776)=true then if decide (length (x0.2.1++x0.2.2.1)+length x0.2.2.2.2.2.1≤1099511627776)=true then if decide (length (x0.2.1++x0.2.2.1++x0.2.2.2.2.2.1)+length x0.2.2.2.2.2.2.2.2.2.2.2.2≤1099511627776)=true then true else false else false else false)
def F87:zT:=zN [zk] [Sh.bool] (fun x=>dM x.1) fun x=>(dZ x.1,())
theorem za1:FK 159 F87:=by
 refine au (zdN) fun x hc C hC=>?_
 unfold dM at hc
 refine zr gu (zdN) (fun id _=>hC id) (zfW x.1) ?_
 generalize hy:dZ x.1=y
 unfold dZ at hy
 try simp only [ze.eta]
 repeat' (first | with_reducible refine jk hy hc (fun _ hy hc=>?_) (fun _ hy hc=>?_) | with_reducible refine bF hy (fun _ hy=>?_) (fun _ hy=>?_) | with_reducible refine cQ hc (fun hc=>?_) | with_reducible refine zz ?_)
 all_goals first | (cases hc; done) | (subst hy; first | rfl)

abbrev zgs:Nat→aJ:=fun _=>{ unroll:=true }
theorem zdS:zK (jV).P 171 Tryz.f171 1:=bN (by kernel_rfl)
theorem zf2 (x0:TS):rn jV 0 zgs Tryz.f171 [zF Sh.str x0] []=Tr.br true (Tr.chk true (Tr.br (decide ((↑(aI aH bl x0):Int) > 0)) (Tr.chk (decide (0≤0)&&decide (0≤(↑(aI aH bl x0):Int))&&decide ((↑(aI aH bl x0):Int)≤(↑(length x0):Int))) (Tr.ok (zx.ret (AV.tup [AV.agg [ai 1,AV.str (List.take ((↑(aI aH bl x0):Int).toNat - toNat 0) (List.drop (toNat 0) x0))],ai (↑(aI aH bl x0):Int)]) []))) (Tr.br true (Tr.chk true (Tr.br (decide ((↑(aI zO zO x0):Int) > 0)) (Tr.chk (decide (0≤0)&&decide (0≤(↑(aI zO zO x0):Int))&&decide ((↑(aI zO zO x0):Int)≤(↑(length x0):Int))) (Tr.ok (zx.ret (AV.tup [AV.agg [ai 2,AV.str (List.take ((↑(aI zO zO x0):Int).toNat - toNat 0) (List.drop (toNat 0) x0))],ai (↑(aI zO zO x0):Int)]) []))) (Tr.br false Tr.err (Tr.chk (zR 0 (length x0)) (Tr.br ((↑(getD x0 (toNat 0) 0).toNat:Int)==39) (Tr.chk (jt x0) (Tr.ok (zx.ret (AV.tup [AV.agg [ai (dG x0).1.1,AV.str (dG x0).1.2],ai (dG x0).2]) []))) (Tr.chk (decide (0≤0)&&decide (0≤1)&&decide (1≤(↑(length x0):Int))) (Tr.ok (zx.ret (AV.tup
 [AV.agg [ai 4,AV.str (List.take (toNat 1 - toNat 0) (List.drop (toNat 0) x0))],ai 1]) [])))))))) (Tr.chk (zR 0 (length x0)) (Tr.br ((↑(getD x0 (toNat 0) 0).toNat:Int)==39) (Tr.chk (jt x0) (Tr.ok (zx.ret (AV.tup [AV.agg [ai (dG x0).1.1,AV.str (dG x0).1.2],ai (dG x0).2]) []))) (Tr.chk (decide (0≤0)&&decide (0≤1)&&decide (1≤(↑(length x0):Int))) (Tr.ok (zx.ret (AV.tup [AV.agg [ai 4,AV.str (List.take (toNat 1 - toNat 0) (List.drop (toNat 0) x0))],ai 1]) [])))))))) (Tr.chk (zR 0 (length x0)) (Tr.br ((↑(getD x0 (toNat 0) 0).toNat:Int)==39) (Tr.chk (jt x0) (Tr.ok (zx.ret (AV.tup [AV.agg [ai (dG x0).1.1,AV.str (dG x0).1.2],ai (dG x0).2]) []))) (Tr.chk (decide (0≤0)&&decide (0≤1)&&decide (1≤(↑(length x0):Int))) (Tr.ok (zx.ret (AV.tup [AV.agg [ai 4,AV.str (List.take (toNat 1 - toNat 0) (List.drop (toNat 0) x0))],ai 1]) []))))):=by kernel_rfl
def bq (x0:TS):Sem bM×Sem zf:=(if true=true then if decide ((↑(aI aH bl x0):Int) > 0)=true then ((1,List.take ((↑(aI aH bl x0):Int).toNat - toNat 0) (List.drop (toNat 0) x0)),(↑(aI aH bl x0):Int)) else if true=true then if decide ((↑(aI zO zO x0):Int) > 0)=true then ((2,List.take ((↑(aI zO zO x0):Int).toNat - toNat 0) (List.drop (toNat 0) x0)),(↑(aI zO zO x0):Int)) else if false=true then default else if ((↑(getD x0 (toNat 0) 0).toNat:Int)==39)=true then ((dG x0).1,(dG x0).2) else ((4,List.take (toNat 1 - toNat 0) (List.drop (toNat 0) x0)),1) else if ((↑(getD x0 (toNat 0) 0).toNat:Int)==39)=true then ((dG x0).1,(dG x0).2) else ((4,List.take (toNat 1 - toNat 0) (List.drop (toNat 0) x0)),1) else if ((↑(getD x0 (toNat 0) 0).toNat:Int)==39)=true then ((dG x0).1,(dG x0).2) else ((4,List.take (toNat 1 - toNat 0) (List.drop (toNat 0) x0)),1))
def jK (x0:TS):Bool:=(if true=true then if true=true then if decide ((↑(aI aH bl x0):Int) > 0)=true then if (decide (0≤0)&&decide (0≤(↑(aI aH bl x0):Int))&&decide ((↑(aI aH bl x0):Int)≤(↑(length x0):Int)))=true then true else false else if true=true then if true=true then if decide ((↑(aI zO zO x0):Int) > 0)=true then if (decide (0≤0)&&decide (0≤(↑(aI zO zO x0):Int))&&decide ((↑(aI zO zO x0):Int)≤(↑(length x0):Int)))=true then true else false else if false=true then false else if zR 0 (length x0)=true then if ((↑(getD x0 (toNat 0) 0).toNat:Int)==39)=true then if jt x0=true then true else false else if (decide (0≤0)&&decide (0≤1)&&decide (1≤(↑(length x0):Int)))=true then true else false else false else false else if zR 0 (length x0)=true then if ((↑(getD x0 (toNat 0) 0).toNat:Int)==39)=true then if jt x0=true then true else false else if (decide (0≤0)&&decide (0≤1)&&decide (1≤(↑(length x0):Int)))=true then true else false else false else false else if zR 0 (length x0)=true then if ((↑(getD x0 (toNat 0) 0).toNat:Int)==39)=true then if jt x0=true then true else false else if (decide (0≤0)&&decide (0≤1)&&decide (1≤(↑(length x0):Int)))=true then true else false else false)
def F99:zT:=zN [Sh.str] [bM,zf] (fun x=>jK x.1) fun x=>((bq x.1).1,(bq x.1).2,())
theorem zba:FK 171 F99:=by
 refine au (zdS) fun x hc C hC=>?_
 unfold jK at hc
 refine zr gu (zdS) (fun id _=>hC id) (zf2 x.1) ?_
 generalize hy:bq x.1=y
 unfold bq at hy
 try simp only [ze.eta,zn]
 repeat' (first | with_reducible refine jk hy hc (fun _ hy hc=>?_) (fun _ hy hc=>?_) | with_reducible refine bF hy (fun _ hy=>?_) (fun _ hy=>?_) | with_reducible refine cQ hc (fun hc=>?_) | with_reducible refine zz ?_)
 all_goals first | (cases hc; done) | (subst hy; first | rfl)

abbrev zcT:Nat→aJ:=fun j=>if j=3 then { slots:=[1,5,8,9,10],prom:=[(5,none,.str)] } else { }
abbrev HO (l8:LS) (i9:Int) (i10:Int) (lh_0:LS):St:={ tmps:=(tm 23 [(1,AV.clo (Fn.func 160) [] []),(5,AV.vec 0),(8,AV.sl Sh.str l8),(9,ai i9),(10,ai i10)]),heap:=[AO.vec Sh.str lh_0] }
theorem SB:zK (jV).P 169 Tryz.f169 2:=bN (by kernel_rfl)
theorem zf0 (x0:Sem Sh.str.sl):rn jV 0 zcT Tryz.f169 [zF Sh.str.sl x0,AV.clo (Fn.func 160) [] []] []=Tr.ok (zx.head 3 (zI Tryz.f169 3) (HO x0 (↑(length x0):Int) 0 [])):=by kernel_rfl
theorem PG (l8:LS) (i9:Int) (i10:Int) (lh_0:LS):rh jV 0 zcT Tryz.f169 3 (HO l8 i9 i10 lh_0)=Tr.br (decide (i10 < i9)) (Tr.chk (zR i10 l8.length) (Tr.chk (decide (lh_0.length+[kQ (l8.getD i10.toNat (zi Sh.str))].length≤1073741824)) (Tr.ok (zx.head 3 (zI Tryz.f169 3) (HO l8 i9 (IntKind.i64.wrap (i10+1)) (lh_0++[kQ (l8.getD i10.toNat (zi Sh.str))])))))) (Tr.chk (decide (lh_0.length≤140737488355328)&&decide ((Lib.join lh_0 [32,44,32]).length≤140737488355328)) (Tr.ok (zx.ret (AV.str (Lib.join lh_0 [32,44,32])) []))):=by kernel_rfl
def dg:List (Sem Sh.str)→Int→List (Sem Sh.str)→Sem Sh.str
 | [],_,lh_0=>(Lib.join lh_0 [32,44,32])
 | x::r,i10,lh_0=>(dg r (i10+1) (lh_0++[kQ x]))
def dA:List (Sem Sh.str)→Int→List (Sem Sh.str)→Bool
 | [],_,lh_0=>(if (decide (lh_0.length≤140737488355328)&&decide ((Lib.join lh_0 [32,44,32]).length≤140737488355328))=true then true else false)
 | x::r,i10,lh_0=>(if decide (lh_0.length+[kQ x].length≤1073741824)=true then dA r (i10+1) (lh_0++[kQ x]) else false)
theorem W0 {C:dl} (hC:∀ id,C.ρ0 id=none) (l8:LS) (hl:l8.length≤zA):∀ (m i:Nat) (lh_0:LS),l8.length - i=m→i≤l8.length→dA (l8.drop i) i lh_0=true→
  Reach (jV) C 169 (zI Tryz.f169 3) (HO l8 (l8.length:Int) (i:Int) lh_0) (fun r h=>az h [Sh.str] r=some (dg (l8.drop i) i lh_0,())):=by
 intro m
 induction m with
 | zero=>
  intro i lh_0 hm hi hc
  obtain rfl:i=l8.length:=by omega
  rw [ey] at hc ⊢
  refine zr gu (SB) (fun id _=>hC id) (PG _ _ _ _) ?_
  rw [dA] at hc
  generalize hy:dg [] _ lh_0=y
  rw [dg] at hy
  simp only [zH,Tr.val_brF]
  repeat' (first | with_reducible refine jk hy hc (fun _ hy hc=>?_) (fun _ hy hc=>?_) | with_reducible refine bF hy (fun _ hy=>?_) (fun _ hy=>?_) | with_reducible refine cQ hc (fun hc=>?_) | with_reducible refine zz ?_)
  all_goals first | (cases hc; done) | (subst hy; first | rfl)
 | succ m IH=>
  intro i lh_0 hm hi hc
  have hlt:i < l8.length:=by omega
  have IH:=IH (i+1)
  have hcast:((i:Int)+1)=((i+1:Nat):Int):=by omega
  have hwr:=zt i (by omega)
  rw [dF hlt] at hc ⊢
  refine zr gu (SB) (fun id _=>hC id) (PG _ _ _ _) ?_
  rw [dA] at hc
  generalize hy:dg (l8[i]::l8.drop (i+1)) (i:Int) lh_0=y
  rw [dg] at hy
  simp only [zM hlt,zB hlt,bt l8 _ hlt,hwr,Tr.val_brT,Tr.val_chkT]
  clear hwr
  try simp only [zB hlt] at hy
  simp only [hcast] at hy
  try simp only [zB hlt] at hc
  try simp only [hcast] at hc
  repeat' (first | with_reducible refine jk hy hc (fun _ hy hc=>?_) (fun _ hy hc=>?_) | with_reducible refine bF hy (fun _ hy=>?_) (fun _ hy=>?_) | with_reducible refine cQ hc (fun hc=>?_) | with_reducible refine zz ?_)
  all_goals first | (cases hc; done) | (subst hy; first | (change Reach _ _ _ _ _ _; apply IH <;> first | omega | assumption) | rfl)
theorem RQ {C:dl} (hC:∀ id,C.ρ0 id=none) (l8:LS) (lh_0:LS) (hc:dA l8 0 lh_0=true):
  Reach (jV) C 169 (zI Tryz.f169 3) (HO l8 (l8.length:Int) 0 lh_0) (fun r h=>az h [Sh.str] r=some (dg l8 0 lh_0,())):=
 Reach.len 8 (Sh.str) l8 rfl fun hl=>W0 hC l8 hl _ 0 lh_0 rfl (aK _) hc
def fV (x0:Sem Sh.str.sl):Sem Sh.str:=(dg x0 0 [])
def lY (x0:Sem Sh.str.sl):Bool:=(dA x0 0 [])
def F97:zT:=PR [Sh.str.sl] [Sh.str] [(160,(fun x=>lY x.1),fun x=>(fV x.1,()))]
theorem za8:FK 169 F97:=by
 refine H6 (SB) fun j c g hm x hc C hC=>?_
 simp only [cz,ba] at hm
 obtain ⟨rfl,rfl,rfl⟩:=hm
 replace hc:lY x.1=true:=hc
 unfold lY at hc
 refine zr gu (SB) (fun id _=>hC id) (zf0 x.1) ?_
 generalize hy:fV x.1=y
 unfold fV at hy
 repeat' (first | with_reducible refine jk hy hc (fun _ hy hc=>?_) (fun _ hy hc=>?_) | with_reducible refine bF hy (fun _ hy=>?_) (fun _ hy=>?_) | with_reducible refine cQ hc (fun hc=>?_) | with_reducible refine zz ?_)
 all_goals first | (cases hc; done) | (subst hy; first | (change Reach _ _ _ _ _ _; apply RQ hC <;> first | assumption | exact hc) | rfl)

noncomputable def Ka:=jV.addL [(157,F85),(164,F92),(159,F87),(171,F99),(169,F97)]
theorem uo:zy Ka:=gu.addL <| fc zaZ <| fc za6 <| fc za1 <| fc zba <| fc za8 jp

noncomputable def YR:zT:=bh (List.replicate 2 none) (fF Ka Tryz.f203 (List.replicate 2 none))
theorem Vr:FK 203 YR:=cm _ uo (bN (by kernel_rfl))

noncomputable def NN (g:Sem Sh.expr→Sem Sh.str) (c:Sem Sh.expr→Bool):bS:=Ka.add 251 (zN [Sh.expr] [Sh.str] (fun x=>c x.1) fun x=>(g x.1,()))
theorem LP {g:Sem Sh.expr→Sem Sh.str} {c:Sem Sh.expr→Bool} (hg:FK 251 (zN [Sh.expr] [Sh.str] (fun x=>c x.1) fun x=>(g x.1,()))):zy (NN g c):=uo.add hg
abbrev XV:Nat→aJ:=fun _=>{ }
theorem y2 (g:Sem Sh.expr→Sem Sh.str) (c:Sem Sh.expr→Bool):zK (NN g c).P 251 Tryz.f251 1:=bN (by kernel_rfl)
theorem Xq (g:Sem Sh.expr→Sem Sh.str) (c:Sem Sh.expr→Bool) (x0:Sem Sh.expr):rn (NN g c) 0 XV Tryz.f251 [zF Sh.expr x0] []=Tr.br (ze.op x0==[108,105,116]) (Tr.chk (vg (ze.v x0)) (Tr.ok (zx.ret (AV.str (gA (ze.v x0))) []))) (Tr.br (ze.op x0==[99,111,108]) (Tr.ok (zx.ret (AV.str (ze.s x0)) [])) (Tr.br (ze.op x0==[110,111,116]) (Tr.chk (zR 0 (ze.l x0).length) (Tr.chk (c (zm ((ze.l x0).getD (toNat 0) (zi Sh.expr)))) (Tr.chk (decide ([40,78,79,84,32].length+length (g (zm ((ze.l x0).getD (toNat 0) (zi Sh.expr))))≤1099511627776)) (Tr.chk (decide (length ([40,78,79,84,32]++g (zm ((ze.l x0).getD (toNat 0) (zi Sh.expr))))+[41].length≤1099511627776)) (Tr.ok (zx.ret (AV.str ([40,78,79,84,32]++g (zm ((ze.l x0).getD (toNat 0) (zi Sh.expr)))++[41])) [])))))) (Tr.br (ze.op x0==[110,117,108,108]) (Tr.chk (zR 0 (ze.l x0).length) (Tr.chk (c (zm ((ze.l x0).getD (toNat 0) (zi Sh.expr)))) (Tr.chk (decide ([40].length+length (g (zm ((ze.l x0).getD (toNat 0) (zi Sh.expr))))≤1099511627776)) (Tr.chk (decide (length ([40]++g (zm ((ze.l x0).getD (toNat 0) (zi Sh.expr))))+[32,73,83,32,78,85,76,76,41].length≤1099511627776)) (Tr.ok (zx.ret (AV.str ([40]++g
 (zm ((ze.l x0).getD (toNat 0) (zi Sh.expr)))++[32,73,83,32,78,85,76,76,41])) [])))))) (Tr.chk (zR 0 (ze.l x0).length) (Tr.chk (c (zm ((ze.l x0).getD (toNat 0) (zi Sh.expr)))) (Tr.chk (decide ([40].length+length (g (zm ((ze.l x0).getD (toNat 0) (zi Sh.expr))))≤1099511627776)) (Tr.chk (decide (length ([40]++g (zm ((ze.l x0).getD (toNat 0) (zi Sh.expr))))+[32].length≤1099511627776)) (Tr.chk (decide (length (ze.op x0)≤140737488355328)&&List.all (ze.op x0) fun b=>decide (b.toNat < 128)) (Tr.chk (decide (length ([40]++g (zm ((ze.l x0).getD (toNat 0) (zi Sh.expr)))++[32])+(Lib.toUpperA (ze.op x0)).length≤1099511627776)) (Tr.chk (decide (length ([40]++g (zm ((ze.l x0).getD (toNat 0) (zi Sh.expr)))++[32]++Lib.toUpperA (ze.op x0))+[32].length≤1099511627776)) (Tr.chk (zR 1 (ze.l x0).length) (Tr.chk (c (zm ((ze.l x0).getD (toNat 1) (zi Sh.expr)))) (Tr.chk (decide (length ([40]++g (zm ((ze.l x0).getD (toNat 0) (zi Sh.expr)))++[32]++Lib.toUpperA (ze.op x0)++[32])+length (g (zm ((ze.l x0).getD (toNat 1) (zi Sh.expr))))≤1099511627776)) (Tr.chk (decide (length ([40]++g (zm ((ze.l x0).getD (toNat 0) (zi Sh.expr)))++[32]++Lib.toUpperA (ze.op x0)++[32]++g (zm ((ze.l x0).getD (toNat 1) (zi Sh.expr))))+[41].length≤1099511627776)) (Tr.ok
 (zx.ret (AV.str ([40]++g (zm ((ze.l x0).getD (toNat 0) (zi Sh.expr)))++[32]++Lib.toUpperA (ze.op x0)++[32]++g (zm ((ze.l x0).getD (toNat 1) (zi Sh.expr)))++[41])) [])))))))))))))))):=by kernel_rfl
def qU (g:Sem Sh.expr→Sem Sh.str) (_:Sem Sh.expr→Bool) (x0:Sem Sh.expr):Sem Sh.str:=(if (ze.op x0==[108,105,116])=true then gA (ze.v x0) else if (ze.op x0==[99,111,108])=true then ze.s x0 else if (ze.op x0==[110,111,116])=true then [40,78,79,84,32]++g ((ze.l x0).getD (toNat 0) (zi Sh.expr))++[41] else if (ze.op x0==[110,117,108,108])=true then [40]++g ((ze.l x0).getD (toNat 0) (zi Sh.expr))++[32,73,83,32,78,85,76,76,41] else [40]++g ((ze.l x0).getD (toNat 0) (zi Sh.expr))++[32]++Lib.toUpperA (ze.op x0)++[32]++g ((ze.l x0).getD (toNat 1) (zi Sh.expr))++[41])
def wy (g:Sem Sh.expr→Sem Sh.str) (c:Sem Sh.expr→Bool) (x0:Sem Sh.expr):Bool:=(if (ze.op x0==[108,105,116])=true then if vg (ze.v x0)=true then true else false else if (ze.op x0==[99,111,108])=true then true else if (ze.op x0==[110,111,116])=true then if zR 0 (ze.l x0).length=true then if c ((ze.l x0).getD (toNat 0) (zi Sh.expr))=true then if decide ([40,78,79,84,32].length+length (g ((ze.l x0).getD (toNat 0) (zi Sh.expr)))≤1099511627776)=true then if decide (length ([40,78,79,84,32]++g ((ze.l x0).getD (toNat 0) (zi Sh.expr)))+[41].length≤1099511627776)=true then true else false else false else false else false else if (ze.op x0==[110,117,108,108])=true then if zR 0 (ze.l x0).length=true then if c ((ze.l x0).getD (toNat 0) (zi Sh.expr))=true then if decide ([40].length+length (g ((ze.l x0).getD (toNat 0) (zi Sh.expr)))≤1099511627776)=true then if decide (length ([40]++g ((ze.l x0).getD (toNat 0) (zi Sh.expr)))+[32,73,83,32,78,85,76,76,41].length≤1099511627776)=true then true else false else false else false else false else if zR 0 (ze.l x0).length=true then if c ((ze.l x0).getD (toNat 0) (zi Sh.expr))=true then if decide ([40].length+length (g ((ze.l x0).getD (toNat 0) (zi Sh.expr)))≤1099511627776)=true then
 if decide (length ([40]++g ((ze.l x0).getD (toNat 0) (zi Sh.expr)))+[32].length≤1099511627776)=true then if (decide (length (ze.op x0)≤140737488355328)&&List.all (ze.op x0) fun b=>decide (b.toNat < 128))=true then if decide (length ([40]++g ((ze.l x0).getD (toNat 0) (zi Sh.expr))++[32])+(Lib.toUpperA (ze.op x0)).length≤1099511627776)=true then if decide (length ([40]++g ((ze.l x0).getD (toNat 0) (zi Sh.expr))++[32]++Lib.toUpperA (ze.op x0))+[32].length≤1099511627776)=true then if zR 1 (ze.l x0).length=true then if c ((ze.l x0).getD (toNat 1) (zi Sh.expr))=true then if decide (length ([40]++g ((ze.l x0).getD (toNat 0) (zi Sh.expr))++[32]++Lib.toUpperA (ze.op x0)++[32])+length (g ((ze.l x0).getD (toNat 1) (zi Sh.expr)))≤1099511627776)=true then if decide (length ([40]++g ((ze.l x0).getD (toNat 0) (zi Sh.expr))++[32]++Lib.toUpperA (ze.op x0)++[32]++g ((ze.l x0).getD (toNat 1) (zi Sh.expr)))+[41].length≤1099511627776)=true then true else false else false else false else false else false else false else false else false else false else false else false)
def Y5 (g:Sem Sh.expr→Sem Sh.str) (c:Sem Sh.expr→Bool):zT:=zN [Sh.expr] [Sh.str] (fun x=>wy g c x.1) fun x=>(qU g c x.1,())
theorem Ro (g:Sem Sh.expr→Sem Sh.str) (c:Sem Sh.expr→Bool) (hg:FK 251 (zN [Sh.expr] [Sh.str] (fun x=>c x.1) fun x=>(g x.1,()))):FK 251 (Y5 g c):=by
 refine au (y2 g c) fun x hc C hC=>?_
 unfold wy at hc
 refine zr (LP hg) (y2 g c) (fun id _=>hC id) (Xq g c x.1) ?_
 generalize hy:qU g c x.1=y
 unfold qU at hy
 try simp only [ze.eta]
 repeat' (first | with_reducible refine jk hy hc (fun _ hy hc=>?_) (fun _ hy hc=>?_) | with_reducible refine bF hy (fun _ hy=>?_) (fun _ hy=>?_) | with_reducible refine cQ hc (fun hc=>?_) | with_reducible refine zz ?_)
 all_goals first | (cases hc; done) | (subst hy; first | rfl)
mutual
def aL:Nat→Sem Sh.expr→Sem Sh.str
 | 0=>fun _=>default
 | n+1=>qU (aL n) (fY n)
def fY:Nat→Sem Sh.expr→Bool
 | 0=>fun _=>false
 | n+1=>wy (aL n) (fY n)
end
theorem JR:∀ n,FK 251 (zN [Sh.expr] [Sh.str] (fun x=>fY n x.1) fun x=>(aL n x.1,()))
 | 0=>eW ⟨Tryz.f251,(y2 default default).1,(y2 default default).2.1,(y2 default default).2.2.1⟩ (fun _=>rfl)
 | n+1=>Ro (aL n) (fY n) (JR n)
def Y4:zT:=zN [Sh.expr] [Sh.str] (fun x=>fY 16 x.1) fun x=>(aL 16 x.1,())
theorem VE:FK 251 Y4:=JR 16

noncomputable def nH:=Ka.addL [(203,YR),(251,Y4)]
theorem jB:zy nH:=uo.addL <| fc Vr <| fc VE jp

abbrev tA (l:LS) (i:Int):St:={ tmps:=[.sl Sh.str l,.clo (.func 203) [] [.ptr 0 0],.any,.any,.any,.any,.any,.int .i64 l.length,.int .i64 i,.any,.any,.any,.any,.any,.any,.any,.any,.any,.any],heap:=[.box [.clo (.func 151) [] []]] }
theorem Mb (l:LS):run nH 1 BF Tryz.f241.results.toList 300 (bv Tryz.f241) (bc Tryz.f241.ntmps [.sl Sh.str l,.clo (.func 203) [] [.ptr 0 0]] [.box [.clo (.func 151) [] []]])=.ok (.head 2 (zI Tryz.f241 2) (tA l 0)):=by kernel_rfl
theorem Mp (l:LS) (i:Int):run nH 1 BF Tryz.f241.results.toList 300 (zI Tryz.f241 2) (tA l i)=nU (K:=zI Tryz.f241 2) (e:=Sh.str) l (fun x => !cd x) (tA l) [.box [.clo (.func 151) [] []]] i:=by kernel_rfl

theorem Po:zK nH.P 241 Tryz.f241 2:=bN (by kernel_rfl)
def zbd:ie [some (.sl Sh.str),none]:=fun x h=>match x,h with
 | (l,.clo (.func 203) [] [.ptr 0 0],_),[.box [.clo (.func 151) [] []]]=>.ok (.int .i64 (aj (fun x => !cd x) l 0),[.box [.clo (.func 151) [] []]])
 | _,_=>.err
def Y1:zT:=bh [some (.sl Sh.str),none] zbd
theorem VB:FK 241 Y1:=by
 refine dD Po fun x h0 res hx C hC=>?_
 unfold zbd at hx
 split at hx
 ·rename_i l u
  simp only [Tr.val_ok,bz] at hx
  subst hx
  refine Reach.len 0 Sh.str l rfl fun hl=>?_
  refine zr (n0:=1) jB Po hC (Mb l) ?_
  exact lU l (fun x => !cd x) (tA l) jB Po hC (Mp l) hl _ 0 rfl (aK _)
 ·simp at hx

abbrev zcj:Nat→aJ:=fun _=>{ }
theorem UV:zK (nH).P 216 Tryz.f216 1:=bN (by kernel_rfl)
theorem zbC (x0:Sem Sh.expr):rn nH 0 zcj Tryz.f216 [zF Sh.expr x0] []=Tr.br (!cM (zm x0)) (Tr.ok (zx.ret (AV.tup [AV.str [],ai 1]) [])) (Tr.chk (fY 16 (zm x0)) (Tr.ok (zx.ret (AV.tup [AV.str (aL 16 (zm x0)),ai 0]) []))):=by kernel_rfl
def mw (x0:Sem Sh.expr):Sem Sh.str×Sem zf:=(if (!cM x0)=true then ([],1) else (aL 16 x0,0))
def oY (x0:Sem Sh.expr):Bool:=(if (!cM x0)=true then true else if fY 16 x0=true then true else false)
def YX:zT:=zN [Sh.expr] [Sh.str,zf] (fun x=>oY x.1) fun x=>((mw x.1).1,(mw x.1).2,())
theorem Vx:FK 216 YX:=by
 refine au (UV) fun x hc C hC=>?_
 unfold oY at hc
 refine zr jB (UV) (fun id _=>hC id) (zbC x.1) ?_
 generalize hy:mw x.1=y
 unfold mw at hy
 try simp only [ze.eta]
 repeat' (first | with_reducible refine jk hy hc (fun _ hy hc=>?_) (fun _ hy hc=>?_) | with_reducible refine bF hy (fun _ hy=>?_) (fun _ hy=>?_) | with_reducible refine cQ hc (fun hc=>?_) | with_reducible refine zz ?_)
 all_goals first | (cases hc; done) | (subst hy; first | rfl)

abbrev zcJ:Nat→aJ:=fun j=>if j=3 then { slots:=[0,4,5],prom:=[(4,none,bM)] } else { }
abbrev HL (s0:TS) (i5:Int) (lh_0:LF):St:={ tmps:=(tm 47 [(0,AV.str s0),(4,AV.vec 0),(5,ai i5)]),heap:=[AO.vec zq lh_0] }
theorem Ye:zK (nH).P 120 Tryz.f120 1:=bN (by kernel_rfl)
theorem zfP (x0:TS):rn nH 0 zcJ Tryz.f120 [zF Sh.str x0] []=Tr.ok (zx.head 3 (zI Tryz.f120 3) (HL x0 0 [])):=by kernel_rfl
theorem Yi (s0:TS) (i5:Int) (lh_0:LF):rh nH 0 zcJ Tryz.f120 3 (HL s0 i5 lh_0)=Tr.br (decide (i5 < (↑(length s0):Int))) (Tr.chk (zR i5 (length s0)&&bif (↑(getD s0 i5.toNat 0).toNat:Int)==32 then true else zR i5 (length s0)) (Tr.br (bif (↑(getD s0 i5.toNat 0).toNat:Int)==32 then true else (↑(getD s0 i5.toNat 0).toNat:Int)==10) (Tr.ok (zx.head 3 (zI Tryz.f120 3) (HL s0 (IntKind.i64.wrap (i5+1)) lh_0))) (Tr.chk (decide (0≤i5)&&decide (i5≤(↑(length s0):Int))&&decide ((↑(length s0):Int)≤(↑(length s0):Int))) (Tr.chk (jK (List.take ((↑(length s0):Int).toNat - i5.toNat) (List.drop i5.toNat s0))) (Tr.chk (pR (bq (List.take ((↑(length s0):Int).toNat - i5.toNat) (List.drop i5.toNat s0))).1) (Tr.br (bif !bR (bq (List.take ((↑(length s0):Int).toNat - i5.toNat) (List.drop i5.toNat s0))).1 then true else (↑lh_0.length:Int)==400) (Tr.ok (zx.ret (AV.tup [AV.nils,ai 2]) [])) (Tr.chk (decide (lh_0.length+[(bq (List.take ((↑(length s0):Int).toNat - i5.toNat) (List.drop i5.toNat s0))).1].length≤1073741824)) (Tr.ok (zx.head 3 (zI Tryz.f120 3) (HL s0 (IntKind.i64.wrap (i5+(bq (List.take ((↑(length s0):Int).toNat - i5.toNat) (List.drop i5.toNat s0))).2))
 (lh_0++[(bq (List.take ((↑(length s0):Int).toNat - i5.toNat) (List.drop i5.toNat s0))).1]))))))))))) (Tr.ok (zx.ret (AV.tup [AV.vec 0,ai 0]) [AO.vec zq lh_0])):=by kernel_rfl
def r5:Nat→(Sem Sh.str)→Int→(List (Sem zq))→Sem bM.sl×Sem zf
 | 0,_,_,_=>default
 | n+1,s0,i5,lh_0=>(if decide (i5 < (↑(length s0):Int))=true then
 if (bif (↑(getD s0 i5.toNat 0).toNat:Int)==32 then true else (↑(getD s0 i5.toNat 0).toNat:Int)==10)=true then
  r5 n s0 (IntKind.i64.wrap (i5+1)) lh_0
 else
  if
    (bif !bR (bq (List.take ((↑(length s0):Int).toNat - i5.toNat) (List.drop i5.toNat s0))).1 then true
     else (↑lh_0.length:Int)==400)=
     true then
   ([],2)
  else
   r5 n s0 (IntKind.i64.wrap (i5+(bq (List.take ((↑(length s0):Int).toNat - i5.toNat) (List.drop i5.toNat s0))).2))
    (lh_0++[(bq (List.take ((↑(length s0):Int).toNat - i5.toNat) (List.drop i5.toNat s0))).1])
else (lh_0,0))
def qR:Nat→(Sem Sh.str)→Int→(List (Sem zq))→Bool
 | 0,_,_,_=>false
 | n+1,s0,i5,lh_0=>(if decide (i5 < (↑(length s0):Int))=true then
 if (zR i5 (length s0)&&bif (↑(getD s0 i5.toNat 0).toNat:Int)==32 then true else zR i5 (length s0))=true then
  if (bif (↑(getD s0 i5.toNat 0).toNat:Int)==32 then true else (↑(getD s0 i5.toNat 0).toNat:Int)==10)=true then
   qR n s0 (IntKind.i64.wrap (i5+1)) lh_0
  else
   if (decide (0≤i5)&&decide (i5≤(↑(length s0):Int))&&decide ((↑(length s0):Int)≤(↑(length s0):Int)))=true then
    if jK (List.take ((↑(length s0):Int).toNat - i5.toNat) (List.drop i5.toNat s0))=true then
     if pR (bq (List.take ((↑(length s0):Int).toNat - i5.toNat) (List.drop i5.toNat s0))).1=true then
      if
        (bif !bR (bq (List.take ((↑(length s0):Int).toNat - i5.toNat) (List.drop i5.toNat s0))).1 then true
         else (↑lh_0.length:Int)==400)=
         true then
       true
      else
       if
         decide (lh_0.length+[(bq (List.take ((↑(length s0):Int).toNat - i5.toNat) (List.drop i5.toNat s0))).1].length≤1073741824)=
          true then
        qR n s0 (IntKind.i64.wrap (i5+(bq (List.take ((↑(length s0):Int).toNat - i5.toNat) (List.drop i5.toNat s0))).2))
         (lh_0++[(bq (List.take ((↑(length s0):Int).toNat - i5.toNat) (List.drop i5.toNat s0))).1])
       else false
     else false
    else false
   else false
 else false
else true)
theorem Ns {C:dl} (hC:∀ id,C.ρ0 id=none):∀ (n:Nat) (s0:TS) (i5:Int) (lh_0:LF),qR n s0 i5 lh_0=true→
  Reach (nH) C 120 (zI Tryz.f120 3) (HL s0 i5 lh_0) (fun r h=>az h [bM.sl,zf] r=some ((r5 n s0 i5 lh_0).1,(r5 n s0 i5 lh_0).2,()))
 | 0,s0,i5,lh_0,hc=>by cases hc
 | n+1,s0,i5,lh_0,hc=>by
  refine zr jB (Ye) (fun id _=>hC id) (Yi _ _ _) ?_
  rw [qR] at hc
  generalize hy:r5 (n+1) s0 i5 lh_0=y
  rw [r5] at hy
  try simp only [ze.eta,zn]
  repeat' (first | with_reducible refine jk hy hc (fun _ hy hc=>?_) (fun _ hy hc=>?_) | with_reducible refine bF hy (fun _ hy=>?_) (fun _ hy=>?_) | with_reducible refine cQ hc (fun hc=>?_) | with_reducible refine zz ?_)
  all_goals first | (cases hc; done) | (subst hy; first | (change Reach _ _ _ _ _ _; refine Ns hC n _ _ _ ?_ <;> exact hc) | rfl)
def cut (x0:TS):Sem bM.sl×Sem zf:=(r5 (length x0+1) x0 0 [])
def NA (x0:TS):Bool:=(qR (length x0+1) x0 0 [])
def F69:zT:=zN [Sh.str] [bM.sl,zf] (fun x=>NA x.1) fun x=>((cut x.1).1,(cut x.1).2,())
theorem zaM:FK 120 F69:=by
 refine au (Ye) fun x hc C hC=>?_
 unfold NA at hc
 refine zr jB (Ye) (fun id _=>hC id) (zfP x.1) ?_
 generalize hy:cut x.1=y
 unfold cut at hy
 try simp only [ze.eta,zn]
 repeat' (first | with_reducible refine jk hy hc (fun _ hy hc=>?_) (fun _ hy hc=>?_) | with_reducible refine bF hy (fun _ hy=>?_) (fun _ hy=>?_) | with_reducible refine cQ hc (fun hc=>?_) | with_reducible refine zz ?_)
 all_goals first | (cases hc; done) | (subst hy; first | (change Reach _ _ _ _ _ _; refine Ns hC _ _ _ _ ?_ <;> exact hc) | rfl)

noncomputable def Gn:=nH.addL [(241,Y1),(216,YX),(120,F69)]
theorem up:zy Gn:=jB.addL <| fc VB <| fc Vx <| fc zaM jp

noncomputable def YQ:zT:=bh (List.replicate 2 none) (fF Gn Tryz.f202 (List.replicate 2 none))
theorem Vq:FK 202 YQ:=cm _ up (bN (by kernel_rfl))

abbrev zgq:Nat→aJ:=fun _=>{ }
theorem zdQ:zK (Gn).P 166 Tryz.f166 1:=bN (by kernel_rfl)
theorem zfZ (x0:Sem Sh.expr):rn Gn 0 zgq Tryz.f166 [zF Sh.expr x0] []=Tr.chk (oY (zm x0)) (Tr.ok (zx.ret (AV.str (mw (zm x0)).1) [])):=by kernel_rfl
def g8 (x0:Sem Sh.expr):Sem Sh.str:=((mw x0).1)
def oQ (x0:Sem Sh.expr):Bool:=(if oY x0=true then true else false)
def F94:zT:=zN [Sh.expr] [Sh.str] (fun x=>oQ x.1) fun x=>(g8 x.1,())
theorem za7:FK 166 F94:=by
 refine au (zdQ) fun x hc C hC=>?_
 unfold oQ at hc
 refine zr up (zdQ) (fun id _=>hC id) (zfZ x.1) ?_
 generalize hy:g8 x.1=y
 unfold g8 at hy
 try simp only [ze.eta]
 repeat' (first | with_reducible refine jk hy hc (fun _ hy hc=>?_) (fun _ hy hc=>?_) | with_reducible refine bF hy (fun _ hy=>?_) (fun _ hy=>?_) | with_reducible refine cQ hc (fun hc=>?_) | with_reducible refine zz ?_)
 all_goals first | (cases hc; done) | (subst hy; first | rfl)

noncomputable def Gp:=Gn.addL [(202,YQ),(166,F94)]
theorem ur:zy Gp:=up.addL <| fc Vq <| fc za7 jp

noncomputable def F86:zT:=bh (List.replicate 4 none) (fF Gp Tryz.f158 (List.replicate 4 none))
theorem za0:FK 158 F86:=cm _ ur (bN (by kernel_rfl))

abbrev zgr:Nat→aJ:=fun _=>{ }
theorem zdR:zK (Gp).P 170 Tryz.f170 2:=bN (by kernel_rfl)
theorem zf1 (x0:TS) (x1:Sem Sh.expr):rn Gp 0 zgr Tryz.f170 [zF Sh.str x0,zF Sh.expr x1] []=Tr.br (fR (zm x1)) (Tr.ok (zx.ret (AV.str []) [])) (Tr.chk (decide (length x0+[67,72,69,67,75,32,40,32].length≤1099511627776)) (Tr.chk (oQ (zm x1)) (Tr.chk (decide (length (x0++[67,72,69,67,75,32,40,32])+length (g8 (zm x1))≤1099511627776)) (Tr.chk (decide (length (x0++[67,72,69,67,75,32,40,32]++g8 (zm x1))+[32,41].length≤1099511627776)) (Tr.ok (zx.ret (AV.str (x0++[67,72,69,67,75,32,40,32]++g8 (zm x1)++[32,41])) [])))))):=by kernel_rfl
def jQ (x0:TS) (x1:Sem Sh.expr):Sem Sh.str:=(if fR x1=true then [] else x0++[67,72,69,67,75,32,40,32]++g8 x1++[32,41])
def rW (x0:TS) (x1:Sem Sh.expr):Bool:=(if fR x1=true then true else if decide (length x0+[67,72,69,67,75,32,40,32].length≤1099511627776)=true then if oQ x1=true then if decide (length (x0++[67,72,69,67,75,32,40,32])+length (g8 x1)≤1099511627776)=true then if decide (length (x0++[67,72,69,67,75,32,40,32]++g8 x1)+[32,41].length≤1099511627776)=true then true else false else false else false else false)
def F98:zT:=zN [Sh.str,Sh.expr] [Sh.str] (fun x=>rW x.1 x.2.1) fun x=>(jQ x.1 x.2.1,())
theorem za9:FK 170 F98:=by
 refine au (zdR) fun x hc C hC=>?_
 unfold rW at hc
 refine zr ur (zdR) (fun id _=>hC id) (zf1 x.1 x.2.1) ?_
 generalize hy:jQ x.1 x.2.1=y
 unfold jQ at hy
 try simp only [ze.eta]
 repeat' (first | with_reducible refine jk hy hc (fun _ hy hc=>?_) (fun _ hy hc=>?_) | with_reducible refine bF hy (fun _ hy=>?_) (fun _ hy=>?_) | with_reducible refine cQ hc (fun hc=>?_) | with_reducible refine zz ?_)
 all_goals first | (cases hc; done) | (subst hy; first | rfl)

noncomputable def Uc:=Gp.addL [(158,F86),(170,F98)]
theorem L7:zy Uc:=ur.addL <| fc za0 <| fc za9 jp

def zem (x0:Sem zk):Sem Sh.bool:=(bif bif decide ((↑(length x0.2.2.2.2.1):Int) < 1) then true else decide ((↑(length x0.2.2.2.2.1):Int) > 8) then false else bif !decide (aj (fun x => !zbm x) x0.2.2.2.2.1 0 ≥ 0) then bif cd x0.2.2.2.2.2.1 then bif bif decide ((↑(length x0.2.2.2.2.2.2.1):Int) < 0) then true else decide ((↑(length x0.2.2.2.2.2.2.1):Int) > 8) then false else bif !decide (aj (fun x => !cd x) x0.2.2.2.2.2.2.1 0 ≥ 0) then bif bif decide ((↑(length x0.2.2.2.2.2.2.2.1):Int) < 0) then true else decide ((↑(length x0.2.2.2.2.2.2.2.1):Int) > 8) then false else bif !decide (aj (fun x => !zea x) x0.2.2.2.2.2.2.2.1 0 ≥ 0) then bw x0.2.2.2.2.2.2.2.2.1 else false else false else false else false)
noncomputable def Ud:=Uc
theorem us:zy Ud:=L7

inductive CP where
 | d (s:Sh)
 | nil
 | vec (e:Sh)

@[reducible] def zo:List CP→Type
 | []=>Unit
 | .d s::r=>Sem s×zo r
 | .nil::r=>zo r
 | .vec e::r=>List (Sem e)×zo r

def eb:(n:Nat)→(ps:List CP)→zo ps→List AV
 | _,[],_=>[]
 | n,.d s::r,y=>zp s y.1++eb n r y.2
 | n,.nil::r,y=>.nils::eb n r y
 | n,.vec _::r,y=>.vec n::eb (n+1) r y.2

def fI:(ps:List CP)→zo ps→List AO
 | [],_=>[]
 | .d _::r,y=>fI r y.2
 | .nil::r,y=>fI r y
 | .vec e::r,y=>.vec e y.1::fI r y.2

def ay (ps:List CP) (y:zo ps):List AO:=.box (eb 1 ps y)::fI ps y

def aR:List CP→Nat
 | []=>0
 | .vec _::r=>aR r+1
 | _::r=>aR r

theorem bH:∀ (ps:List CP) (y:zo ps),(fI ps y).length=aR ps
 | [],_=>rfl
 | .d _::r,y=>bH r y.2
 | .nil::r,y=>bH r y
 | .vec _::r,y=>congrArg (· + 1) (bH r y.2)

def cg (hp:Nat→AO):(n:Nat)→(ps:List CP)→List AV→Option (zo ps)
 | _,[],[]=>some ()
 | n,.d s::r,cs=>match cu (fun _=>.dead) s cs with
  | some (x,cs')=>match cg hp n r cs' with
   | some y=>some (x,y)
   | none=>none
  | none=>none
 | n,.nil::r,.nils::cs=>cg hp n r cs
 | n,.vec e::r,.vec id::cs=>if id=n then match hp id with
   | .vec e' l=>if h:e'=e then match cg hp (n+1) r cs with
     | some y=>some (h▸l,y)
     | none=>none
    else none
   | _=>none
  else none
 | _,_,_=>none

section
variable {w:World} {U:Nat→Prop} {ρ:Nat→Option Value}

theorem dh.app {a b:List AV} {va vb:List Value} (h1:dh w U ρ a va) (h2:dh w U ρ b vb):dh w U ρ (a++b) (va++vb) where
 len:=by simp [h1.len,h2.len]
 rv:=by
  intro j c v hc hv
  by_cases hj:j < a.length
  ·rw [kv hj] at hc
   rw [kv (by rw [← h1.len]; exact hj)] at hv
   exact h1.rv j c v hc hv
  ·rw [ml (by omega)] at hc
   rw [ml (by rw [← h1.len]; omega),← h1.len] at hv
   exact h2.rv _ c v hc hv

theorem dh.tail {a:AV} {l:List AV} {v:Value} {vs:List Value} (h:dh w U ρ (a::l) (v::vs)):dh w U ρ l vs:=
 ⟨by have:=h.len; simpa using this,fun j c x hc hx=>h.rv (j+1) c x (by simpa using hc) (by simpa using hx)⟩

theorem dh.consH {a:AV} {l:List AV} {v:Value} {vs:List Value} (h1:Rv w U ρ a v) (h2:dh w U ρ l vs):dh w U ρ (a::l) (v::vs) where
 len:=by simp [h2.len]
 rv:=by
  intro j c x hc hx
  cases j with
  | zero=>simp at hc hx; subst hc; subst hx; exact h1
  | succ j=>exact h2.rv j c x (by simpa using hc) (by simpa using hx)

theorem fa {hp:Nat→AO}:∀ (ps:List CP) (n:Nat) (cs:List AV) (y:zo ps) (vals:List Value),cg hp n ps cs=some y→dh w U ρ cs vals→
  dh w U ρ (eb n ps y) vals∧∀ (j:Nat) o,(fI ps y)[j]?=some o→hp (n+j)=o
 | [],n,[],y,vals,h,hr=>⟨hr,by simp [fI]⟩
 | [],n,_::_,y,vals,h,hr=>by simp [cg] at h
 | .d s::r,n,cs,y,vals,h,hr=>by
  unfold cg at h
  split at h
  ·rename_i x cs' hi
   split at h
   ·rename_i y' hy
    cases h
    have hk:=j0 (w:=w) (U:=U) (U':=U) (ρ:=ρ) (hp:=fun _=>.dead) (fun _ h=>h) s cs x cs' (fun j=>vals.getD j undef) hi
     (fun j c hc=>by
      have hlt:j < vals.length:=by rw [← hr.len]; exact (cn.1 hc).1
      have:=hr.rv j c vals[j] hc (zP hlt)
      simpa [getD,zP hlt] using this)
     (fun id _=>⟨trivial,fun b hb=>by simp [ag,AO.owns] at hb⟩)
    obtain ⟨k1,k2,k3⟩:=hk
    have hdrop:dh w U ρ cs' (vals.drop s.size):=by
     refine ⟨by rw [k2]; simp [hr.len],fun j c v hc hv=>?_⟩
     rw [k2,rO] at hc
     rw [rO] at hv
     exact hr.rv _ c v hc hv
    obtain ⟨i1,i2⟩:=fa r n cs' y' (vals.drop s.size) hy hdrop
    refine ⟨?_,i2⟩
    have htake:dh w U ρ (zp s x) (vals.take s.size):=by
     refine ⟨by rw [ac]; have:=hr.len; simp; omega,fun j c v hc hv=>?_⟩
     have hj:j < s.size:=by rw [← ac s x]; exact (cn.1 hc).1
     rw [B5,if_pos hj] at hv
     have:=k3 j c hc
     simpa [getD,hv] using this
    have:=htake.app i1
    rw [List.take_append_drop] at this
    exact this
   ·cases h
  ·cases h
 | .nil::r,n,.nils::cs,y,vals,h,hr=>by
  match vals,hr with
  | [],hr=>have:=hr.len; simp at this
  | v::vs,hr=>
   have hv:=hr.rv 0 _ v rfl rfl
   obtain ⟨i1,i2⟩:=fa r n cs y vs h hr.tail
   exact ⟨dh.consH hv i1,i2⟩
 | .vec e::r,n,.vec id::cs,y,vals,h,hr=>by
  match vals,hr with
  | [],hr=>have:=hr.len; simp at this
  | v :: vs,hr=>
   have hv:=hr.rv 0 _ v rfl rfl
   unfold cg at h
   split at h
   ·rename_i hid
    subst hid
    split at h
    ·rename_i e' l ho
     split at h
     ·rename_i he
      subst he
      split at h
      ·rename_i y' hy
       cases h
       obtain ⟨i1,i2⟩:=fa r (id+1) cs y' vs hy hr.tail
       refine ⟨dh.consH hv i1,fun j o hj=>?_⟩
       cases j with
       | zero=>simp [fI] at hj; subst hj; exact ho
       | succ j=>
        have:=i2 j o (by simpa [fI] using hj)
        rw [← this]
        congr 1
        omega
      ·cases h
     ·cases h
    ·cases h
   ·cases h
 | .nil::_,_,[],_,_,h,_=>by simp [cg] at h
 | .vec _::_,_,[],_,_,h,_=>by simp [cg] at h
 | .nil::_,_,.any::_,_,_,h,_ | .nil::_,_,.kb _::_,_,_,h,_ | .nil::_,_,.bool _::_,_,_,h,_ | .nil::_,_,.int _ _::_,_,_,h,_ | .nil::_,_,.str _::_,_,_,h,_
 | .nil::_,_,.sl _ _::_,_,_,h,_ | .nil::_,_,.vec _::_,_,_,h,_ | .nil::_,_,.ptr _ _::_,_,_,h,_ | .nil::_,_,.vptr _ _ _ _::_,_,_,h,_ | .nil::_,_,.eptr _ _::_,_,_,h,_
 | .nil::_,_,.nilp::_,_,_,h,_ | .nil::_,_,.agg _::_,_,_,h,_ | .nil::_,_,.tup _::_,_,_,h,_ | .nil::_,_,.clo _ _ _::_,_,_,h,_ | .nil::_,_,.nilf::_,_,_,h,_
 | .nil::_,_,.mp _::_,_,_,h,_ | .nil::_,_,.ifc _::_,_,_,h,_ | .nil::_,_,.tab _ _::_,_,_,h,_ | .nil::_,_,.gint::_,_,_,h,_ | .nil::_,_,.vsuf _ _ _::_,_,_,h,_=>by simp [cg] at h
 | .vec _::_,_,.any::_,_,_,h,_ | .vec _::_,_,.kb _::_,_,_,h,_ | .vec _::_,_,.bool _::_,_,_,h,_ | .vec _::_,_,.int _ _::_,_,_,h,_ | .vec _::_,_,.str _::_,_,_,h,_
 | .vec _::_,_,.sl _ _::_,_,_,h,_ | .vec _::_,_,.nils::_,_,_,h,_ | .vec _::_,_,.ptr _ _::_,_,_,h,_ | .vec _::_,_,.vptr _ _ _ _::_,_,_,h,_ | .vec _::_,_,.eptr _ _::_,_,_,h,_
 | .vec _::_,_,.nilp::_,_,_,h,_ | .vec _::_,_,.agg _::_,_,_,h,_ | .vec _::_,_,.tup _::_,_,_,h,_ | .vec _::_,_,.clo _ _ _::_,_,_,h,_ | .vec _::_,_,.nilf::_,_,_,h,_
 | .vec _::_,_,.mp _::_,_,_,h,_ | .vec _::_,_,.ifc _::_,_,_,h,_ | .vec _::_,_,.tab _ _::_,_,_,h,_ | .vec _::_,_,.gint::_,_,_,h,_ | .vec _::_,_,.vsuf _ _ _::_,_,_,h,_=>by simp [cg] at h
end

theorem iL.box {C:dl} {w:World} {U:Nat→Prop} {ρ:Nat→Option Value} {cs:List AV} {os:List AO} {ps:List CP} {y:zo ps} (hH:iL C w U ρ (fun j=>((AO.box cs::os).getD j .dead))) (hl:os.length=aR ps)
  (hm:cg (jc (.box cs::os)) 1 ps cs=some y):iL C w U ρ (fun j=>(ay ps y).getD j .dead):=by
 have h0:bE w U ρ 0 (.box cs):=hH.ob 0
 obtain ⟨b,T,vals,h1,h2,h3,h4,h5⟩:=h0
 obtain ⟨k1,k2⟩:=fa ps 1 cs y vals.toList hm h4
 have hobj:∀ id,id≠0→(ay ps y).getD id .dead=(AO.box cs::os).getD id .dead:=by
  intro id hid
  obtain ⟨j,rfl⟩:∃ j,id=j+1:=⟨id - 1,by omega⟩
  by_cases hj:j < (fI ps y).length
  ·have:=k2 j _ (zP hj)
   unfold ay
   simp only [xC]
   rw [aP,zP hj]
   simp only [jc,qc 1 j,xC] at this
   simpa using this.symm
  ·have h7:os.length≤j:=by rw [bH] at hj; omega
   unfold ay
   simp only [xC]
   rw [aP,aP,dO (by omega),dO h7]
 have hown:∀ id b,ag ρ id ((ay ps y).getD id .dead) b→ag ρ id ((AO.box cs::os).getD id .dead) b:=by
  intro id b' ho
  by_cases hid:id=0
  ·subst hid
   obtain ⟨_,v,hv,hb⟩:=ho
   exact ⟨rfl,v,hv,hb⟩
  ·rw [hobj id hid] at ho; exact ho
 refine ⟨fun id=>?_,fun id1 id2 b' o1 o2=>hH.inj id1 id2 b' (hown _ _ o1) (hown _ _ o2),fun id b' o=>hH.blk id b' (hown _ _ o)⟩
 by_cases hid:id=0
 ·subst hid
  exact ⟨b,T,vals,h1,h2,h3,k1,h5⟩
 ·show bE w U ρ id ((ay ps y).getD id .dead)
  rw [hobj id hid]
  exact hH.ob id

def qO (ps:List CP) (outs:List Sh) (r:AV) (h:List AO):Option (zC (outs.map some)×zo ps):=match h with
 | .box cs::os=>if os.length=aR ps then match az [] outs r,cg (jc (.box cs::os)) 1 ps cs with
   | some a,some y=>some (a,y)
   | _,_=>none
  else none
 | _=>none

def zbl (ps:List CP) (ks outs:List Sh) (ps':List CP) (c:zo ps→zC (ks.map some)→Bool) (g:zo ps→zC (ks.map some)→zC (outs.map some)×zo ps'):ie (none::ks.map some):=fun x h=>match x.1,h with
 | .ptr 0 0,.box cs::os=>if os.length=aR ps then match cg (jc (.box cs::os)) 1 ps cs with
   | some y=>.chk (c y x.2) (.ok (v7 outs (g y x.2).1,ay ps' (g y x.2).2))
   | none=>.err
  else .err
 | _,_=>.err

def qN (ps:List CP) (ks outs:List Sh) (ps':List CP) (c:zo ps→zC (ks.map some)→Bool) (g:zo ps→zC (ks.map some)→zC (outs.map some)×zo ps'):zT:=bh (none::ks.map some) (zbl ps ks outs ps' c g)

theorem qd (ps:List CP) (y:zo ps):(ay ps y).length=aR ps+1:=by
 simp [ay,bH]

theorem Dk {w:World} {U:Nat→Prop} {ρ:Nat→Option Value} {outs:List Sh} {r:AV} {y:zC (outs.map some)} {v:Value} (h:az [] outs r=some y) (hr:Rv w U ρ r v):Rv w U ρ (v7 outs y) v:=by
 have hob:∀ id,bE w U ρ id (jc [] id)∧∀ b,ag ρ id (jc [] id) b→¬ U b:=fun id=>⟨by simp [jc,bE],fun b hb=>by simp [jc,ag,AO.owns] at hb⟩
 have htup:∀ (outs:List Sh) (y:zC (outs.map some)) (rs:List AV),kL (jc []) (fun i=>i) (outs.map some) rs=some y→Rv w U ρ (.tup rs) v→Rv w U ρ (.tup (kF (outs.map some) y)) v:=by
  intro outs y rs hy hrv
  cases hrv with
  | tup _ vs hl hr2=>
  have:=(iS (w:=w) (U:=U) (ρ:=ρ) (U':=U) (ρ':=ρ) (hp:=jc []) (f:=fun i=>i) (fun b hb=>hb) (outs.map some) rs vs _ (nY outs rs y hy) ⟨hl,hr2⟩ (fun id _=>hob id)
   (fun id _=>rfl)).1
  simp only [rR,vn,zV,if_false,List.map_id'] at this
  exact .tup _ vs this.len this.rv
 match outs,y,h with
 | [s],y,h=>
  simp only [az] at h
  split at h
  ·rename_i x hx
   cases h
   exact xU hx hr (fun b hb=>hb) (fun id _=>hob id)
  ·cases h
 | [],y,h=>
  simp only [az] at h
  cases r with
  | tup rs=>exact htup [] y _ h hr
  | _=>cases h
 | s1::s2::ss,y,h=>
  simp only [az] at h
  cases r with
  | tup rs=>exact htup _ y _ h hr
  | _=>cases h

theorem Rx {P:Program} {gl:Nat→AV} {E:bS} {k:FuncId} {f:Func} {ps:List CP} {ks outs:List Sh} {ps':List CP} {c:zo ps→zC (ks.map some)→Bool} {g:zo ps→zC (ks.map some)→zC (outs.map some)×zo ps'} (hf:zK E.P k f (ks.length+1))
  (h:∀ y x,c y x=true→∀ C:dl,(∀ id,aR ps+1≤id→C.ρ0 id=none)→Reach E C k (bv f) (bc f.ntmps (.ptr 0 0::kF (ks.map some) x) (ay ps y)) (fun r h=>qO ps' outs r h=some (g y x))) (qp:E.P=P:=by rfl) (qg:E.gl=gl:=by rfl):
  nl P gl k (qN ps ks outs ps' c g):=by
 subst qp qg
 refine dD (by simpa using hf) fun x h0 res hx C hC=>?_
 obtain ⟨x0,x⟩:=x
 unfold zbl at hx
 simp only at hx
 split at hx
 ·rename_i cs os
  split at hx
  ·rename_i hos
   split at hx
   ·rename_i y hy
    simp only [Tr.val] at hx
    split at hx
    ·rename_i hc
     simp only [bz] at hx
     subst hx
     have hR:=h y x hc C (fun id hid=>hC id (by simpa [hos] using hid))
     intro b cs' a w U ρ h1 h2 hcn hW
     have hH:iL C w U ρ (fun j=>((AO.box cs::os).getD j .dead)):=hcn.hp
     have hcn':Cn C (bc f.ntmps (.ptr 0 0::kF (ks.map some) x) (ay ps y)) a w U ρ:=
      ⟨hcn.tm,hH.box hos hy,fun id hid=>hcn.new id (by have hid:(ay ps y).length≤id:=hid; rw [qd] at hid; simpa [bc,hos] using hid),hcn.df,hcn.r0⟩
     obtain ⟨e,w',fr,⟨v,r,h',U',ρ',he,hq,hrv,hH',hnew,hr0,hWd⟩,hcm,hf',hl⟩:=hR b cs' a w U ρ h1 h2 hcn' hW
     unfold qO at hq
     split at hq
     ·rename_i cs2 os2
      split at hq
      ·rename_i hos2
       split at hq
       ·rename_i a' y' ha' hy'
        simp only [bz] at hq
        refine ⟨e,w',fr,⟨v,_,_,U',ρ',he,by rw [← hq],Dk ha' hrv,hH'.box hos2 hy',fun id hid=>hnew id (by rw [qd] at hid; simpa [hos2] using hid),hr0,hWd⟩,hcm,hf',hl⟩
       ·cases hq
      ·cases hq
     ·cases hq
    ·simp at hx
   ·simp at hx
  ·simp at hx
 ·simp at hx


def sA (E:bS) (n0:Nat) (keep:Nat→aJ) (f:Func) (gas:Nat):Nat→List Item→St→Option (AV×List AO)
 | 0,_,_=>none
 | n+1,K,st=>match (run E n0 keep f.results.toList gas K st).val with
  | some (.ret v h)=>some (v,h)
  | some (.head _ K' st')=>sA E n0 keep f gas n K' st'
  | _=>none

theorem sB {E:bS} {C:dl} {k:FuncId} {f:Func} {Q:AV→List AO→Prop} {m n0:Nat} (hE:zy E) (hf:zK E.P k f m) (hC:∀ id,n0≤id→C.ρ0 id=none) {keep:Nat→aJ} {gas:Nat}:
  ∀ (n:Nat) (K:List Item) (st:St) (r:AV×List AO),sA E n0 keep f gas n K st=some r→Q r.1 r.2→Reach E C k K st Q
 | 0,_,_,_,h,_=>by cases h
 | n+1,K,st,r,h,hQ=>by
  unfold sA at h
  split at h
  ·rename_i v h' hv
   cases h
   exact pK hE hf hC hv hQ
  ·rename_i j K' st' hv
   exact pK hE hf hC hv (sB hE hf hC n K' st' r h hQ)
  ·cases h

def cA:(outs:List Sh)→zC (outs.map some)
 | []=>()
 | s::r=>(zi s,cA r)

def fH:(ps:List CP)→zo ps
 | []=>()
 | .d s::r=>(zi s,fH r)
 | .nil::r=>fH r
 | .vec _::r=>([],fH r)

def ch:List Nat→(ps:List CP)→zo ps→List AV
 | _,[],_=>[]
 | n,.d s::r,y=>zp s y.1++ch n r y.2
 | n,.nil::r,y=>.nils::ch n r y
 | n,.vec _::r,y=>.vec (n.headD 0)::ch n.tail r y.2

def UJ (E:bS) (keep:Nat→aJ) (f:Func) (gas n:Nat) (ks outs:List Sh) (x:zC (ks.map some)):Option (zC (outs.map some)):=
 (sA E 0 keep f gas n (bv f) (bc f.ntmps (kF (ks.map some) x) [])).bind fun r=>az r.2 outs r.1

def Yk (ks outs:List Sh) (g:zC (ks.map some)→Option (zC (outs.map some))):zT:=zN ks outs (fun x=>(g x).isSome) fun x=>(g x).getD (cA outs)

theorem WL {P:Program} {gl:Nat→AV} {E:bS} {k:FuncId} {f:Func} {ks outs:List Sh} {keep:Nat→aJ} {gas n:Nat} (hE:zy E) (hf:zK E.P k f ks.length) (qp:E.P=P:=by rfl) (qg:E.gl=gl:=by rfl):nl P gl k (Yk ks outs (UJ E keep f gas n ks outs)):=by
 subst qp qg
 refine au hf fun x hc C hC=>?_
 rw [Option.isSome_iff_exists] at hc
 obtain ⟨y,hy⟩:=hc
 rw [hy]
 unfold UJ at hy
 rw [fO] at hy
 obtain ⟨r,h1,h2⟩:=hy
 exact sB hE hf (fun id _=>hC id) n _ _ r h1 h2

def UI (E:bS) (keep:Nat→aJ) (f:Func) (gas n:Nat) (ps:List CP) (ks outs:List Sh) (ps':List CP) (y:zo ps) (x:zC (ks.map some)):Option (zC (outs.map some)×zo ps'):=
 (sA E (aR ps+1) keep f gas n (bv f) (bc f.ntmps (.ptr 0 0::kF (ks.map some) x) (ay ps y))).bind fun r=>qO ps' outs r.1 r.2

def zeE (ps:List CP) (ks outs:List Sh) (ps':List CP) (g:zo ps→zC (ks.map some)→Option (zC (outs.map some)×zo ps')):zT:=
 qN ps ks outs ps' (fun y x=>(g y x).isSome) fun y x=>(g y x).getD (cA outs,fH ps')

theorem Ry {P:Program} {gl:Nat→AV} {E:bS} {k:FuncId} {f:Func} {ps:List CP} {ks outs:List Sh} {ps':List CP} {keep:Nat→aJ} {gas n:Nat} (hE:zy E) (hf:zK E.P k f (ks.length+1)) (qp:E.P=P:=by rfl) (qg:E.gl=gl:=by rfl):nl P gl k (zeE ps ks outs ps' (UI E keep f gas n ps ks outs ps')):=by
 subst qp qg
 refine Rx hf fun y x hc C hC=>?_
 rw [Option.isSome_iff_exists] at hc
 obtain ⟨z,hz⟩:=hc
 rw [hz]
 unfold UI at hz
 rw [fO] at hz
 obtain ⟨r,h1,h2⟩:=hz
 exact sB hE hf hC n _ _ r h1 h2

theorem Rz {P:Program} {gl:Nat→AV} {E:bS} {k:FuncId} {f:Func} {ks outs:List Sh} {keep:Nat→aJ} {gas n:Nat} {c:zC (ks.map some)→Bool} {g:zC (ks.map some)→zC (outs.map some)} (hE:zy E) (hf:zK E.P k f ks.length)
  (hc:∀ x,c x=(UJ E keep f gas n ks outs x).isSome) (hg:∀ x,g x=(UJ E keep f gas n ks outs x).getD (cA outs)) (qp:E.P=P:=by rfl) (qg:E.gl=gl:=by rfl):nl P gl k (zN ks outs c g):=by
 subst qp qg
 obtain rfl:c=fun x=>(UJ E keep f gas n ks outs x).isSome:=funext hc
 obtain rfl:g=fun x=>(UJ E keep f gas n ks outs x).getD (cA outs):=funext hg
 exact WL hE hf

theorem M8 {P:Program} {gl:Nat→AV} {E:bS} {k:FuncId} {f:Func} {ps:List CP} {ks outs:List Sh} {ps':List CP} {keep:Nat→aJ} {gas n:Nat} {c:zo ps→zC (ks.map some)→Bool} {g:zo ps→zC (ks.map some)→zC (outs.map some)×zo ps'} (hE:zy E) (hf:zK E.P k f (ks.length+1))
  (hc:∀ y x,c y x=(UI E keep f gas n ps ks outs ps' y x).isSome) (hg:∀ y x,g y x=(UI E keep f gas n ps ks outs ps' y x).getD (cA outs,fH ps')) (qp:E.P=P:=by rfl) (qg:E.gl=gl:=by rfl):nl P gl k (qN ps ks outs ps' c g):=by
 subst qp qg
 obtain rfl:c=fun y x=>(UI E keep f gas n ps ks outs ps' y x).isSome:=funext fun y=>funext fun x=>hc y x
 obtain rfl:g=fun y x=>(UI E keep f gas n ps ks outs ps' y x).getD (cA outs,fH ps'):=funext fun y=>funext fun x=>hg y x
 exact Ry hE hf

abbrev aF:=AV×List AO

def Tr.map {α β:Type} (f:α→β):Tr α→Tr β
 | .err=>.err
 | .chk c t=>.chk c (t.map f)
 | .br c t e=>.br c (t.map f) (e.map f)
 | .ok a=>.ok (f a)

theorem Tr.val_map {α β:Type} (f:α→β):∀ t:Tr α,(t.map f).val=t.val.map f
 | .err=>rfl
 | .chk c t=>by simp only [Tr.map,Tr.val,val_map f t]; split <;> rfl
 | .br c t e=>by simp only [Tr.map,Tr.val,val_map f t,val_map f e]; split <;> rfl
 | .ok _=>rfl

abbrev Tr.to {σ:Type} (s:σ):Tr (σ ⊕ aF):=.ok (.inl s)
abbrev Tr.re {σ:Type} (v:AV) (h:List AO):Tr (σ ⊕ aF):=.ok (.inr (v,h))

def cI {σ:Type} (t:σ→Tr (σ ⊕ aF)):Nat→σ→Option aF
 | 0,_=>none
 | n+1,s=>match (t s).val with
  | some (.inl s')=>cI t n s'
  | some (.inr r)=>some r
  | none=>none

def cL {σ:Type} (t:σ→Tr (σ ⊕ aF)) (n:Nat) (i:Tr (σ ⊕ aF)):Option aF:=match i.val with
 | some (.inl s)=>cI t n s
 | some (.inr r)=>some r
 | none=>none

def lf {σ:Type} (f:Func) (e:σ→Nat×St):σ ⊕ aF→zx
 | .inl s=>.head (e s).1 (zI f (e s).1) (e s).2
 | .inr r=>.ret r.1 r.2

def e0:Empty→Nat×St:=fun x=>nomatch x
def t0:Empty→Tr (Empty ⊕ aF):=fun x=>nomatch x

section
variable {σ:Type} {E:bS} {n0:Nat} {keep:Nat→aJ} {f:Func} {gas:Nat} {e:σ→Nat×St} {t:σ→Tr (σ ⊕ aF)}

theorem Kr (hon:∀ s,run E n0 keep f.results.toList gas (zI f (e s).1) (e s).2=(t s).map (lf f e)):∀ (n:Nat) (s:σ),sA E n0 keep f gas n (zI f (e s).1) (e s).2=cI t n s
 | 0,_=>rfl
 | n+1,s=>by
  rw [sA,hon s,Tr.val_map,cI]
  cases (t s).val with
  | none=>rfl
  | some l=>
   cases l with
   | inl s'=>exact Kr hon n s'
   | inr r=>rfl

theorem rq (hon:∀ s,run E n0 keep f.results.toList gas (zI f (e s).1) (e s).2=(t s).map (lf f e)) {K:List Item} {st:St} {i:Tr (σ ⊕ aF)} (hgo:run E n0 keep f.results.toList gas K st=i.map (lf f e)) (n:Nat):sA E n0 keep f gas (n+1) K st=cL t n i:=by
 rw [sA,hgo,Tr.val_map,cL]
 cases i.val with
 | none=>rfl
 | some l=>
  cases l with
  | inl s=>exact Kr hon n s
  | inr r=>rfl
end

def aA {σ:Type} (outs:List Sh) (t:σ→Tr (σ ⊕ aF)) (n:Nat) (i:Tr (σ ⊕ aF)):Option (zC (outs.map some)):=(cL t n i).bind fun r=>az r.2 outs r.1

theorem mf {P:Program} {gl:Nat→AV} {σ:Type} {E:bS} {k:FuncId} {f:Func} {ks outs:List Sh} {keep:Nat→aJ} {gas n:Nat} {e:σ→Nat×St} {t:σ→Tr (σ ⊕ aF)} {i:zC (ks.map some)→Tr (σ ⊕ aF)} {c:zC (ks.map some)→Bool} {g:zC (ks.map some)→zC (outs.map some)}
  (hE:zy E) (hf:zK E.P k f ks.length) (hgo:∀ x,run E 0 keep f.results.toList gas (bv f) (bc f.ntmps (kF (ks.map some) x) [])=(i x).map (lf f e))
  (hon:∀ s,run E 0 keep f.results.toList gas (zI f (e s).1) (e s).2=(t s).map (lf f e))
  (hc:∀ x,c x=(aA outs t n (i x)).isSome) (hg:∀ x,g x=(aA outs t n (i x)).getD (cA outs)) (qp:E.P=P:=by rfl) (qg:E.gl=gl:=by rfl):nl P gl k (zN ks outs c g):=by
 subst qp qg
 have h:∀ x,UJ E keep f gas (n+1) ks outs x=aA outs t n (i x):=by
  intro x
  unfold UJ aA
  rw [rq hon (hgo x)]
 exact Rz (n:=n+1) hE hf (fun x=>by rw [h,hc]) (fun x=>by rw [h,hg])

abbrev k0:Nat→aJ:=fun _=>{ }
abbrev qm:List (Nat×List Nat)→Nat→aJ
 | [],_=>{ }
 | p::r,j=>if j=p.1 then { slots:=p.2 } else qm r j
def o1 {a:Sh} (o:Option (zC [some a])):Sem a:=(o.getD (cA [a])).1
def o2 {a b:Sh} (o:Option (zC [some a,some b])):Sem a×Sem b:=((o.getD (cA [a,b])).1,(o.getD (cA [a,b])).2.1)
def o3 {a b c:Sh} (o:Option (zC [some a,some b,some c])):Sem a×Sem b×Sem c:=((o.getD (cA [a,b,c])).1,(o.getD (cA [a,b,c])).2.1,(o.getD (cA [a,b,c])).2.2.1)
def FT (ks outs:List Sh) (o:zC (ks.map some)→Option (zC (outs.map some))):zT:=zN ks outs (fun x=>(o x).isSome) fun x=>(o x).getD (cA outs)
theorem zy.T1 {P:Program} {gl:Nat→AV} {σ:Type} {E:bS} {k:FuncId} {f:Func} {ks outs:List Sh} {keep:Nat→aJ} {n:Nat} {e:σ→Nat×St} {t:σ→Tr (σ ⊕ aF)} {i:zC (ks.map some)→Tr (σ ⊕ aF)} (hE:zy E) (gas:Nat:=400)
  (hf:(E.P.funcs[k]?,f.name == "runtime.NumGoroutine",f.body.isNone,decide (ks.length≤f.ntmps))=(some f,false,false,true):=by kernel_rfl)
  (hgo:∀ x,run E 0 keep f.results.toList gas (bv f) (bc f.ntmps (kF (ks.map some) x) [])=(i x).map (lf f e):=by intro x; kernel_rfl)
  (hon:∀ s,run E 0 keep f.results.toList gas (zI f (e s).1) (e s).2=(t s).map (lf f e):=by intro s; cases s <;> kernel_rfl) (qp:E.P=P:=by rfl) (qg:E.gl=gl:=by rfl):nl P gl k (FT ks outs fun x=>aA outs t n (i x)):=by
 subst qp qg
 exact mf hE (bN hf) hgo hon (fun _=>rfl) fun _=>rfl

theorem QH (E:bS) (n0:Nat) (keep:Nat→aJ) (f:Func) (gas:Nat):∀ s,run E n0 keep f.results.toList gas (zI f (e0 s).1) (e0 s).2=(t0 s).map (lf f e0):=fun s=>nomatch s

def j7 {σ:Type} (outs:List Sh) (ps':List CP) (t:σ→Tr (σ ⊕ aF)) (n:Nat) (i:Tr (σ ⊕ aF)):Option (zC (outs.map some)×zo ps'):=(cL t n i).bind fun r=>qO ps' outs r.1 r.2

theorem jL {P:Program} {gl:Nat→AV} {σ:Type} {E:bS} {k:FuncId} {f:Func} {ps:List CP} {ks outs:List Sh} {ps':List CP} {keep:Nat→aJ} {gas n:Nat} {e:σ→Nat×St} {t:σ→Tr (σ ⊕ aF)} {i:zo ps→zC (ks.map some)→Tr (σ ⊕ aF)} {c:zo ps→zC (ks.map some)→Bool} {g:zo ps→zC (ks.map some)→zC (outs.map some)×zo ps'}
  (hE:zy E) (hf:zK E.P k f (ks.length+1)) (hgo:∀ y x,run E (aR ps+1) keep f.results.toList gas (bv f) (bc f.ntmps (.ptr 0 0::kF (ks.map some) x) (ay ps y))=(i y x).map (lf f e))
  (hon:∀ s,run E (aR ps+1) keep f.results.toList gas (zI f (e s).1) (e s).2=(t s).map (lf f e))
  (hc:∀ y x,c y x=(j7 outs ps' t n (i y x)).isSome) (hg:∀ y x,g y x=(j7 outs ps' t n (i y x)).getD (cA outs,fH ps')) (qp:E.P=P:=by rfl) (qg:E.gl=gl:=by rfl):nl P gl k (qN ps ks outs ps' c g):=by
 subst qp qg
 have h:∀ y x,UI E keep f gas (n+1) ps ks outs ps' y x=j7 outs ps' t n (i y x):=by
  intro y x
  unfold UI j7
  rw [rq hon (hgo y x)]
 exact M8 (n:=n+1) hE hf (fun y x=>by rw [h,hc]) (fun y x=>by rw [h,hg])


theorem J1 (hp:Nat→AO) (e:Sh) (l:List (Sem e)):ua hp e (.sl e l)=some l:=by
 simp [ua]

theorem jd (hp:Nat→AO):∀ (s:Sh) (x:Sem s) (r:List AV),cu hp s (zp s x++r)=some (x,r)
 | .unit,_,_=>rfl
 | .bool,_,_=>rfl
 | .int k,n,r=>by simp [zp,cu]
 | .str,_,_=>rfl
 | .sl e,l,r=>by
  show (match ua hp e (.sl e l) with | some l=>some (l,r) | none=>none)=_
  rw [J1]
 | .pr a b,x,r=>by
  simp only [zp,cu,xD,jd hp a,jd hp b]
 | .expr,e,r=>by
  show sr hp _=_
  simp only [zp,List.cons_append,List.nil_append,sr,J1]
  rw [show ze.mk e.op (e.v.1,e.v.2.1,e.v.2.2) e.s e.l=e from ze.eta e]

theorem iG {hp:Nat→AO}:∀ (ps:List CP) (n:Nat) (y:zo ps),(∀ (j:Nat) o,(fI ps y)[j]?=some o→hp (n+j)=o)→cg hp n ps (eb n ps y)=some y
 | [],_,_,_=>rfl
 | .d s::r,n,y,h=>by
  simp only [eb,cg,jd]
  rw [iG r n y.2 h]
 | .nil::r,n,y,h=>by
  simp only [eb,cg]
  exact iG r n y h
 | .vec e::r,n,y,h=>by
  have h0:=h 0 (.vec e y.1) rfl
  simp only [vt] at h0
  simp only [eb,cg,if_true,h0,dite_true]
  rw [iG r (n+1) y.2 (fun j o hj=>by
   have:=h (j+1) o (by simpa [fI] using hj)
   rw [← this]
   congr 1
   omega)]

theorem cH {ps:List CP} {outs:List Sh} {r:AV} {a:zC (outs.map some)} (y:zo ps) (h:az [] outs r=some a):qO ps outs r (ay ps y)=some (a,y):=by
 unfold qO ay
 simp only [bH,if_true,h]
 rw [iG ps 1 y (fun j o hj=>by
  unfold jc
  rw [qc,xC,aP,hj]
  rfl)]

section
variable {σ:Type} {t:σ→Tr (σ ⊕ aF)}

theorem cP {β:Type} (N:Nat) (st:β→Nat→σ) (I:β→Nat→Prop) (Φ:aF→Prop) (M:Nat)
  (hstep:∀ b i,i < N→I b i→(∃ b',I b' (i+1)∧(t (st b i)).val=some (.inl (st b' (i+1))))∨∃ r,(t (st b i)).val=some (.inr r)∧Φ r)
  (hend:∀ b n,I b N→M≤n→∃ r,cI t n (st b N)=some r∧Φ r):
  ∀ (m i:Nat) (b:β) (n:Nat),N - i=m→i≤N→I b i→M+m≤n→∃ r,cI t n (st b i)=some r∧Φ r
 | 0,i,b,n,hm,hi,hI,hn=>by
  obtain rfl:i=N:=by omega
  exact hend b n hI (by omega)
 | m+1,i,b,n,hm,hi,hI,hn=>by
  obtain ⟨n,rfl⟩:∃ k,n=k+1:=⟨n - 1,by omega⟩
  rcases hstep b i (by omega) hI with ⟨b',hI',h⟩ | ⟨r,h1,h2⟩
  ·obtain ⟨r,h1,h2⟩:=cP N st I Φ M hstep hend m (i+1) b' n (by omega) (by omega) hI' (by omega)
   exact ⟨r,by rw [cI,h]; exact h1,h2⟩
  ·exact ⟨r,by rw [cI,h1],h2⟩

theorem cx {n:Nat} {s:σ}:cI t (n+1) s=match (t s).val with
  | some (.inl s')=>cI t n s'
  | some (.inr r)=>some r
  | none=>none:=rfl
end

noncomputable section

def sq (x0:Sem zk):Tr (Empty ⊕ aF):=
 let a0:=zm x0.2.2.2.2.2.2.2.2.1
 let a1:=zm x0.2.2.2.2.2.2.2.2.2.2.2.1
 let a2:=(x0.2.2.2.2.2.2.2.2.2.1,x0.2.2.2.2.2.2.2.2.2.2.1,a1,x0.2.2.2.2.2.2.2.2.2.2.2.2)
 let a3:=(x0.1,[],x0.2.2.1,x0.2.2.2.1,x0.2.2.2.2.1,x0.2.2.2.2.2.1,x0.2.2.2.2.2.2.1,x0.2.2.2.2.2.2.2.1,a0,a2)
 let a4:=bif cd x0.2.1 then bw a1 else false
 let a5:=(x0.1,[],x0.2.2.1,x0.2.2.2.1,x0.2.2.2.2.1,x0.2.2.2.2.2.1,x0.2.2.2.2.2.2.1,x0.2.2.2.2.2.2.2.1,a0,x0.2.2.2.2.2.2.2.2.2.1,x0.2.2.2.2.2.2.2.2.2.2.1,ze.mk [] (0,0,[]) [] [],x0.2.2.2.2.2.2.2.2.2.2.2.2)
 let a6:=cd x0.2.2.2.2.2.2.2.2.2.2.2.2
 let a7:=bif cd x0.2.1 then a6 else false
 let a8:=(x0.2.2.2.2.2.2.2.2.2.1,x0.2.2.2.2.2.2.2.2.2.2.1,a1,[])
 let a9:=(x0.1,[],x0.2.2.1,x0.2.2.2.1,x0.2.2.2.2.1,x0.2.2.2.2.2.1,x0.2.2.2.2.2.2.1,x0.2.2.2.2.2.2.2.1,a0,a8)
 let a10:=cd x0.2.2.1
 let a11:=(↑(length x0.2.2.2.1):Int)
 let a12:=aj (fun x => !cd x) x0.2.2.2.1 0
 let a13:=bw a0
 let a14:=bif !decide (a12 ≥ 0) then a13 else false
 let a15:=bif cd x0.2.1 then bif a10 then bif bif decide (a11 < 1) then true else decide (a11 > 8) then false else a14 else false else false
 let a16:=(x0.1,[],[],[],x0.2.2.2.2.1,x0.2.2.2.2.2.1,x0.2.2.2.2.2.2.1,x0.2.2.2.2.2.2.2.1,ze.mk [] (0,0,[]) [] [],a2)
 let a17:=dM a16
 let a18:=dZ a16
 let a19:=bif cd x0.2.1 then bif a10 then bif cd x0.2.2.2.2.2.1 then bif a6 then a13 else false else false else false else false
 let a20:=(x0.1,[],[],x0.2.2.2.1,x0.2.2.2.2.1,[],x0.2.2.2.2.2.2.1,x0.2.2.2.2.2.2.2.1,ze.mk [] (0,0,[]) [] [],a8)
 let a21:=bif cd x0.2.1 then bif a10 then bif bif decide (a11 < 2) then true else decide (a11 > 2) then false else a14 else false else false
 Tr.br (x0.1==[99,114,101,97,116,101]) (Tr.br (cd x0.2.1) Tr.err (Tr.re (AV.kb false) []))
 (Tr.br (x0.1==[100,114,111,112])
  (Tr.chk (bif cd x0.2.1 then dM a3 else true) (Tr.re (AV.bool (bif cd x0.2.1 then dZ a3 else false)) []))
  (Tr.br (x0.1==[105,110,115,101,114,116]) (Tr.br (cd x0.2.1) Tr.err (Tr.re (AV.kb false) [])) (Tr.br (x0.1==[117,112,100,97,116,101]) (Tr.br (cd x0.2.1) Tr.err (Tr.re (AV.kb false) [])) (Tr.br (x0.1==[100,101,108,101,116,101]) (Tr.chk (bif a4 then dM a5 else true) (Tr.re (AV.bool (bif a4 then dZ a5 else false)) []))
  (Tr.br (x0.1==[115,101,108,101,99,116]) (Tr.chk (bif a4 then dM a5 else true) (Tr.re (AV.bool (bif a4 then dZ a5 else false)) [])) (Tr.br (x0.1==[114,101,97,100]) (Tr.chk (bif a7 then dM a9 else true) (Tr.re (AV.bool (bif a7 then dZ a9 else false)) []))
  (Tr.br (x0.1==[119,114,105,116,101]) (Tr.chk (bif a7 then dM a9 else true) (Tr.re (AV.bool (bif a7 then dZ a9 else false)) [])) (Tr.br (x0.1==[117,110,114,101,97,100]) (Tr.chk (bif a7 then dM a9 else true) (Tr.re (AV.bool (bif a7 then dZ a9 else false)) [])) (Tr.br (x0.1==[117,110,119,114,105,116,101])
  (Tr.chk (bif a7 then dM a9 else true) (Tr.re (AV.bool (bif a7 then dZ a9 else false)) [])) (Tr.br (x0.1==[99,111,112,121]) (Tr.chk (bif a15 then a17 else true) (Tr.re (AV.bool (bif a15 then a18 else false)) [])) (Tr.br (x0.1==[106,111,105,110]) (Tr.chk (bif a19 then dM a20 else true) (Tr.re (AV.bool (bif a19 then dZ a20 else false)) []))
  (Tr.br (x0.1==[103,114,111,117,112]) (Tr.chk (bif a21 then a17 else true) (Tr.re (AV.bool (bif a21 then a18 else false)) [])) (Tr.re (AV.kb false) [])))))))))))))
def xg (x0:Sem zk):=aA [Sh.bool] t0 100000000 (sq x0)
def tB (x0:Sem zk):=(xg x0).isSome
def gq (x0:Sem zk):=o1 (xg x0)
def Ti:=FT [zk] [Sh.bool] fun x=>xg x.1
theorem QZ:FK 118 Ti:=us.T1 (f:=Tryz.f118) (keep:=k0) (e:=e0)

def vK (x0:Sem zk):Tr (Empty ⊕ aF):=
 let a0:=decide (length x0.1≤140737488355328)&&List.all x0.1 fun b=>decide (b.toNat < 128)
 let a1:=[77,73,71,82,65,84,69,32]++Lib.toUpperA x0.1
 let a2:=a1++[32]
 let a3:=a2++x0.2.1
 let a4:=a3++[32,70,82,79,77,32]
 let a5:=[71,82,65,78,84,32]++Lib.toUpperA x0.1
 let a6:=a5++[32,79,78,32]
 let a7:=a6++x0.2.1
 let a8:=a7++[32,84,79,32]
 let a9:=List.take ((↑(length x0.1):Int).toNat - toNat 2) (List.drop (toNat 2) x0.1)
 let a10:=Lib.toUpperA a9
 let a11:=[82,69,86,79,75,69,32]++a10
 let a12:=a11++[32,79,78,32]
 let a13:=a12++x0.2.1
 let a14:=a13++[32,70,82,79,77,32]
 let a15:=a4++x0.2.2.1
 let a16:=a15++[32,40,32]
 let a17:=fV x0.2.2.2.1
 let a18:=a16++a17
 let a19:=zm x0.2.2.2.2.2.2.2.2.1
 let a20:=rW [32] a19
 let a21:=a18++[32,41]
 let a22:=jQ [32] a19
 let a23:=a15++[32,44,32]
 let a24:=a23++x0.2.2.2.2.2.2.2.2.2.2.2.2
 let a25:=a24++[32,79,78,32]
 let a26:=a25++x0.2.2.2.2.2.1
 let a27:=a15++[32,66,89,32]
 let a28:=getD x0.2.2.2.1 (toNat 0) (zi Sh.str)
 let a29:=a27++a28
 let a30:=a29++[32,83,85,77,32]
 let a31:=getD x0.2.2.2.1 (toNat 1) (zi Sh.str)
 let a32:=a30++a31
 Tr.chk a0
 (Tr.chk (decide ([77,73,71,82,65,84,69,32].length+(Lib.toUpperA x0.1).length≤1099511627776))
  (Tr.chk (decide (length a1+[32].length≤1099511627776)) (Tr.chk (decide (length a2+length x0.2.1≤1099511627776)) (Tr.chk (decide (length a3+[32,70,82,79,77,32].length≤1099511627776)) (Tr.chk (decide (length a4+length x0.2.2.1≤1099511627776)) (Tr.br (x0.1==[99,114,101,97,116,101]) Tr.err (Tr.br (x0.1==[100,114,111,112])
  (Tr.chk (decide ([68,82,79,80,32,84,65,66,76,69,32].length+length x0.2.1≤1099511627776)) (Tr.re (AV.str ([68,82,79,80,32,84,65,66,76,69,32]++x0.2.1)) [])) (Tr.br (x0.1==[105,110,115,101,114,116]) (Tr.chk (decide ([73,78,83,69,82,84,32,73,78,84,79,32].length+length x0.2.1≤1099511627776)) (Tr.chk (decide
  (length ([73,78,83,69,82,84,32,73,78,84,79,32]++x0.2.1)+[32,86,65,76,85,69,83,32,40,32].length≤1099511627776)) Tr.err)) (Tr.br (x0.1==[117,112,100,97,116,101]) (Tr.chk (decide ([85,80,68,65,84,69,32].length+length x0.2.1≤1099511627776))
  (Tr.chk (decide (length ([85,80,68,65,84,69,32]++x0.2.1)+[32,83,69,84,32].length≤1099511627776)) Tr.err)) (Tr.br (x0.1==[100,101,108,101,116,101]) (Tr.chk (decide ([68,69,76,69,84,69,32,70,82,79,77,32].length+length x0.2.1≤1099511627776)) Tr.err) (Tr.br (x0.1==[115,101,108,101,99,116])
  (Tr.chk (decide ([83,69,76,69,67,84,32,42,32,70,82,79,77,32].length+length x0.2.1≤1099511627776)) Tr.err) (Tr.br (x0.1==[114,101,97,100]) (Tr.chk a0 (Tr.chk (decide ([71,82,65,78,84,32].length+(Lib.toUpperA x0.1).length≤1099511627776)) (Tr.chk (decide (length a5+[32,79,78,32].length≤1099511627776))
  (Tr.chk (decide (length a6+length x0.2.1≤1099511627776)) (Tr.chk (decide (length a7+[32,84,79,32].length≤1099511627776)) (Tr.chk (decide (length a8+length x0.2.2.2.2.2.2.2.2.2.2.2.2≤1099511627776)) (Tr.re (AV.str (a8++x0.2.2.2.2.2.2.2.2.2.2.2.2)) []))))))) (Tr.br (x0.1==[119,114,105,116,101]) (Tr.chk a0
  (Tr.chk (decide ([71,82,65,78,84,32].length+(Lib.toUpperA x0.1).length≤1099511627776)) (Tr.chk (decide (length a5+[32,79,78,32].length≤1099511627776)) (Tr.chk (decide (length a6+length x0.2.1≤1099511627776)) (Tr.chk (decide (length a7+[32,84,79,32].length≤1099511627776))
  (Tr.chk (decide (length a8+length x0.2.2.2.2.2.2.2.2.2.2.2.2≤1099511627776)) (Tr.re (AV.str (a8++x0.2.2.2.2.2.2.2.2.2.2.2.2)) []))))))) (Tr.br (x0.1==[117,110,114,101,97,100]) (Tr.chk (decide (0≤2)&&decide (2≤(↑(length x0.1):Int))&&decide ((↑(length x0.1):Int)≤(↑(length x0.1):Int)))
  (Tr.chk (decide (a9.length≤140737488355328)&&a9.all fun b=>decide (b.toNat < 128)) (Tr.chk (decide ([82,69,86,79,75,69,32].length+a10.length≤1099511627776)) (Tr.chk (decide (length a11+[32,79,78,32].length≤1099511627776)) (Tr.chk (decide (length a12+length x0.2.1≤1099511627776))
  (Tr.chk (decide (length a13+[32,70,82,79,77,32].length≤1099511627776)) (Tr.chk (decide (length a14+length x0.2.2.2.2.2.2.2.2.2.2.2.2≤1099511627776)) (Tr.re (AV.str (a14++x0.2.2.2.2.2.2.2.2.2.2.2.2)) [])))))))) (Tr.br (x0.1==[117,110,119,114,105,116,101]) (Tr.chk (decide (0≤2)&&decide (2≤(↑(length x0.1):Int))&&
  decide ((↑(length x0.1):Int)≤(↑(length x0.1):Int))) (Tr.chk (decide (a9.length≤140737488355328)&&a9.all fun b=>decide (b.toNat < 128)) (Tr.chk (decide ([82,69,86,79,75,69,32].length+a10.length≤1099511627776)) (Tr.chk (decide (length a11+[32,79,78,32].length≤1099511627776)) (Tr.chk (decide (length a12+length x0.2.1≤1099511627776))
  (Tr.chk (decide (length a13+[32,70,82,79,77,32].length≤1099511627776)) (Tr.chk (decide (length a14+length x0.2.2.2.2.2.2.2.2.2.2.2.2≤1099511627776)) (Tr.re (AV.str (a14++x0.2.2.2.2.2.2.2.2.2.2.2.2)) [])))))))) (Tr.br (x0.1==[99,111,112,121]) (Tr.chk (decide (length a15+[32,40,32].length≤1099511627776)) (Tr.chk (lY x0.2.2.2.1)
  (Tr.chk (decide (length a16+length a17≤1099511627776)) (Tr.chk (decide (length a18+[32,41].length≤1099511627776)) (Tr.chk a20 (Tr.chk (decide (length a21+length a22≤1099511627776)) (Tr.re (AV.str (a21++a22)) []))))))) (Tr.br (x0.1==[106,111,105,110]) (Tr.chk (decide (length a15+[32,44,32].length≤1099511627776))
  (Tr.chk (decide (length a23+length x0.2.2.2.2.2.2.2.2.2.2.2.2≤1099511627776)) (Tr.chk (decide (length a24+[32,79,78,32].length≤1099511627776)) (Tr.chk (decide (length a25+length x0.2.2.2.2.2.1≤1099511627776)) (Tr.chk a20 (Tr.chk (decide (length a26+length a22≤1099511627776)) (Tr.re (AV.str (a26++a22)) [])))))))
  (Tr.chk (decide (length a15+[32,66,89,32].length≤1099511627776)) (Tr.chk (zR 0 (length x0.2.2.2.1)) (Tr.chk (decide (length a27+length a28≤1099511627776)) (Tr.chk (decide (length a29+[32,83,85,77,32].length≤1099511627776)) (Tr.chk (zR 1 (length x0.2.2.2.1)) (Tr.chk (decide (length a30+length a31≤1099511627776)) (Tr.chk a20
  (Tr.chk (decide (length a32+length a22≤1099511627776)) (Tr.re (AV.str (a32++a22)) []))))))))))))))))))))))))))
def E7 (x0:Sem zk):=aA [Sh.str] t0 100000000 (vK x0)
def AU (x0:Sem zk):=(E7 x0).isSome
def gU (x0:Sem zk):=o1 (E7 x0)
def Tj:=FT [zk] [Sh.str] fun x=>E7 x.1
theorem Q0:FK 119 Tj:=us.T1 (f:=Tryz.f119) (keep:=k0) (e:=e0)

def Kb:=Ud.addL [(118,Ti),(119,Tj)]
theorem Ck:zy Kb:=us.addL <| fc QZ <| fc Q0 <| jp
end

abbrev zgi:Nat→aJ:=fun _=>{ }
theorem zdw:zK (Kb).P 70 Tryz.f70 1:=bN (by kernel_rfl)
theorem zfF (x0:Sem zk):rn Kb 0 zgi Tryz.f70 [zF zk x0] []=Tr.chk (tB (By x0)) (Tr.br (!gq (By x0)) (Tr.ok (zx.ret (AV.tup [AV.str [],ai 1]) [])) (Tr.chk (AU (By x0)) (Tr.chk (NA (gU (By x0))) (Tr.br ((cut (gU (By x0))).2 != 0) (Tr.ok (zx.ret (AV.tup [AV.str [],ai 1]) [])) (Tr.ok (zx.ret (AV.tup [AV.str (gU (By x0)),ai 0]) [])))))):=by kernel_rfl
noncomputable def oz (x0:Sem zk):Sem Sh.str×Sem zf:=(if (!gq x0)=true then ([],1) else if ((cut (gU x0)).2 != 0)=true then ([],1) else (gU x0,0))
noncomputable def tH (x0:Sem zk):Bool:=(if tB x0=true then if (!gq x0)=true then true else if AU x0=true then if NA (gU x0)=true then true else false else false else false)
noncomputable def F52:zT:=zN [zk] [Sh.str,zf] (fun x=>tH x.1) fun x=>((oz x.1).1,(oz x.1).2,())
theorem zax:FK 70 F52:=by
 refine au (zdw) fun x hc C hC=>?_
 unfold tH at hc
 refine zr Ck (zdw) (fun id _=>hC id) (zfF x.1) ?_
 generalize hy:oz x.1=y
 unfold oz at hy
 try simp only [Ki]
 repeat' (first | with_reducible refine jk hy hc (fun _ hy hc=>?_) (fun _ hy hc=>?_) | with_reducible refine bF hy (fun _ hy=>?_) (fun _ hy=>?_) | with_reducible refine cQ hc (fun hc=>?_) | with_reducible refine zz ?_)
 all_goals first | (cases hc; done) | (subst hy; first | rfl)

noncomputable def Kc:=Kb.add 70 F52
theorem Cl:zy Kc:=Ck.add zax

abbrev zgg:Nat→aJ:=fun _=>{ }
theorem zdd:zK (Kc).P 33 Tryz.f33 1:=bN (by kernel_rfl)
theorem zfn (x0:Sem zk):rn Kc 0 zgg Tryz.f33 [zF zk x0] []=Tr.chk (tH (By x0)) (Tr.ok (zx.ret (AV.bool ((oz (By x0)).2==0)) [])):=by kernel_rfl
noncomputable def dK (x0:Sem zk):Sem Sh.bool:=((oz x0).2==0)
noncomputable def mS (x0:Sem zk):Bool:=(if tH x0=true then true else false)
noncomputable def F31:zT:=zN [zk] [Sh.bool] (fun x=>mS x.1) fun x=>(dK x.1,())
theorem zad:FK 33 F31:=by
 refine au (zdd) fun x hc C hC=>?_
 unfold mS at hc
 refine zr Cl (zdd) (fun id _=>hC id) (zfn x.1) ?_
 generalize hy:dK x.1=y
 unfold dK at hy
 try simp only [Ki]
 repeat' (first | with_reducible refine jk hy hc (fun _ hy hc=>?_) (fun _ hy hc=>?_) | with_reducible refine bF hy (fun _ hy=>?_) (fun _ hy=>?_) | with_reducible refine cQ hc (fun hc=>?_) | with_reducible refine zz ?_)
 all_goals first | (cases hc; done) | (subst hy; first | rfl)

noncomputable def m8:=Kc.add 33 F31
theorem iv:zy m8:=Cl.add zad
end Cad
