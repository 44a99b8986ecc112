/- slices.Clone: what it answers is memory of its own. schema.copied is its argument, of what is not too deep. Functions from plain data and a function to plain data. -/
import Derived.Test.YtiefilkilbdpgaaGreatDoorS10
import Derived.Test.YtiefilkilbdpgaaGreatDoorS09
namespace Cad
open Go Go.Proofs
open Int (toNat)
open List (getD)
open List (length)

theorem Reach.promNil {E:bt} {C:cH} {fn:FuncId} {todo:List Item} {st:St} (e:Sh) (hC:∀ id,C.ρ0 id=none) (h:Reach E C fn todo st (fun r h=>(r,h)=(.nils,[]))):Reach E C fn todo st (fun r h=>(r,h)=(.vec 0,[.vec e []])):=by
 intro b cs a w U ρ h1 h2 hc hW
 obtain ⟨en,w',fr,⟨v,r,h',U',ρ',he,hq,hrv,hH,hnew,hr0,hWd⟩,hcm,hf,hl⟩:=h b cs a w U ρ h1 h2 hc hW
 cases hq
 cases hrv with
 | nils ad=>
 have hno:∀ id o b,o=(AO.vec e []:AO)∨o=AO.dead→¬ zO (fun id=>if id=0 then some (.slice ad 0 0) else none) id o b:=by
  rintro id o b ho ⟨h3,x,h4,h5⟩
  rcases ho with rfl | rfl
  ·simp only at h4
   split at h4
   ·cases h4
    cases ad <;> simp [c9] at h5
   ·cases h4
  ·simp [AO.owns] at h3
 have hob:∀ id,(([AO.vec e []]:List AO).getD id .dead)=(if id=0 then AO.vec e [] else AO.dead):=by
  intro id
  cases id <;> simp
 refine ⟨en,w',fr,⟨_,_,_,U',fun id=>if id=0 then some (.slice ad 0 0) else none,he,rfl,.vec 0 _ (by simp) (by simp [Value.oneCell']),⟨fun id=>?_,fun id1 id2 b o=>?_,fun id b o=>?_⟩,fun id hid=>?_,fun id v hv=>?_,hWd⟩,hcm,hf,hl⟩
 ·show be w' U' _ id (([AO.vec e []]:List AO).getD id .dead)
  rw [hob]
  split
  ·rename_i h0
   subst h0
   exact ⟨ad,0,by simp,by simp,.inl ⟨rfl,rfl⟩⟩
  ·trivial
 ·exfalso
  have o':zO (fun id=>if id=0 then some (.slice ad 0 0) else none) id1 (([AO.vec e []]:List AO).getD id1 .dead) b:=o
  rw [hob] at o'
  split at o'
  ·exact hno _ _ _ (.inl rfl) o'
  ·exact hno _ _ _ (.inr rfl) o'
 ·exfalso
  have o':zO (fun id=>if id=0 then some (.slice ad 0 0) else none) id (([AO.vec e []]:List AO).getD id .dead) b:=o
  rw [hob] at o'
  split at o'
  ·exact hno _ _ _ (.inl rfl) o'
  ·exact hno _ _ _ (.inr rfl) o'
 ·simp at hid
  simp; omega
 ·rw [hC id] at hv; cases hv

def aA:Tr zt→List Item×List Item×St
 | .ok (.fork _ k1 k2 st)=>(k1,k2,st)
 | _=>([],[],⟨[],[]⟩)

abbrev xJ:Nat→ah:=fun _=>{ }

noncomputable abbrev CC (l:List ze):Tr zt:=run ot 0 xJ (Func.results Tryz.f125).toList 300 (aB Tryz.f125) (aq (Func.ntmps Tryz.f125) [.sl .expr l] [])
theorem Qf:zA ot.P 125 Tryz.f125 1:=aQ (by kernel_rfl)
theorem zgI (l:List ze):CC l=.ok (.fork l.isEmpty (aA (CC l)).1 (aA (CC l)).2.1 (aA (CC l)).2.2):=by kernel_rfl
theorem zeV (l:List ze):run ot 0 xJ (Func.results Tryz.f125).toList 300 (aA (CC l)).1 (aA (CC l)).2.2=.ok (.ret .nils []):=by kernel_rfl
theorem zeW (l:List ze):run ot 0 xJ (Func.results Tryz.f125).toList 300 (aA (CC l)).2.1 (aA (CC l)).2.2=.chk (decide (l.length≤1073741824)) (.ok (.ret (.vec 0) [.vec .expr l])):=by kernel_rfl
def G53:cF [some (.sl .expr)]:=fun x h=>match h with
 | []=>.chk (decide (length x.1≤1073741824)) (.ok (.vec 0,[.vec .expr x.1]))
 | _=>.err
def F53:zF:=zU [some (.sl .expr)] G53
theorem zaz:FK 125 F53:=by
 refine bA Qf fun x h0 res hx C hC=>?_
 unfold G53 at hx
 split at hx
 ·simp only [Tr.val] at hx
  split at hx
  ·rename_i hl
   simp only [ao] at hx
   subst hx
   obtain ⟨l,u⟩:=x
   refine zk (n0:=0) gG Qf hC (zgI l) ?_
   refine ⟨fun he=>?_,?_⟩
   ·have hn:l=[]:=List.isEmpty_iff.1 he
    refine Reach.weaken (Q:=fun r h=>(r,h)=(.vec 0,[.vec .expr []])) (Reach.promNil .expr (fun id=>hC id (by simp)) (zk (n0:=0) gG Qf hC (zeV l) rfl)) ?_
    intro r h hq
    cases hq
    refine ⟨_,?_,fun _ _ _ _ h=>h⟩
    show (AV.vec 0,[AO.vec Sh.expr []])=(AV.vec 0,[AO.vec Sh.expr l])
    rw [hn]
   ·exact zk (n0:=0) gG Qf hC (zeW l) (da hl rfl)
  ·cases hx
 ·simp at hx

noncomputable abbrev CB (l:List (Sem zi)):Tr zt:=run ot 0 xJ (Func.results Tryz.f71).toList 300 (aB Tryz.f71) (aq (Func.ntmps Tryz.f71) [.sl zi l] [])
theorem Qd:zA ot.P 71 Tryz.f71 1:=aQ (by kernel_rfl)
theorem zgq (l:List (Sem zi)):CB l=.ok (.fork l.isEmpty (aA (CB l)).1 (aA (CB l)).2.1 (aA (CB l)).2.2):=by kernel_rfl
theorem zeO (l:List (Sem zi)):run ot 0 xJ (Func.results Tryz.f71).toList 300 (aA (CB l)).1 (aA (CB l)).2.2=.ok (.ret .nils []):=by kernel_rfl
theorem zeP (l:List (Sem zi)):run ot 0 xJ (Func.results Tryz.f71).toList 300 (aA (CB l)).2.1 (aA (CB l)).2.2=.chk (decide (l.length≤1073741824)) (.ok (.ret (.vec 0) [.vec zi l])):=by kernel_rfl
def G32:cF [some (.sl zi)]:=fun x h=>match h with
 | []=>.chk (decide (length x.1≤1073741824)) (.ok (.vec 0,[.vec zi x.1]))
 | _=>.err
def F32:zF:=zU [some (.sl zi)] G32
theorem zae:FK 71 F32:=by
 refine bA Qd fun x h0 res hx C hC=>?_
 unfold G32 at hx
 split at hx
 ·simp only [Tr.val] at hx
  split at hx
  ·rename_i hl
   simp only [ao] at hx
   subst hx
   obtain ⟨l,u⟩:=x
   refine zk (n0:=0) gG Qd hC (zgq l) ?_
   refine ⟨fun he=>?_,?_⟩
   ·have hn:l=[]:=List.isEmpty_iff.1 he
    refine Reach.weaken (Q:=fun r h=>(r,h)=(.vec 0,[.vec zi []])) (Reach.promNil zi (fun id=>hC id (by simp)) (zk (n0:=0) gG Qd hC (zeO l) rfl)) ?_
    intro r h hq
    cases hq
    refine ⟨_,?_,fun _ _ _ _ h=>h⟩
    show (AV.vec 0,[AO.vec zi []])=(AV.vec 0,[AO.vec zi l])
    rw [hn]
   ·exact zk (n0:=0) gG Qd hC (zeP l) (da hl rfl)
  ·cases hx
 ·simp at hx

noncomputable def PL:=ot.addL [(125,F53),(71,F32)]
theorem uX:zl PL:=gG.addL <| fc zaz <| fc zae jf
def JS (c:ze→Bool):zF:=zG [.expr] [.expr] (fun x=>c x.1) fun x=>(x.1,())
noncomputable def Iy (c:ze→Bool):bt:=PL.add 200 (JS c)
theorem uN {c:ze→Bool} (hg:FK 200 (JS c)):zl (Iy c):=uX.add hg
abbrev zdq:Nat→ah:=fun j=>if j=3 then { slots:=[1,2,10,11] } else { }
abbrev HS (i10:Int) (i11:Int) (ja0:zo) (ja1:Int) (ja2:Int) (ja3:zo) (ja4:zo) (lh_2:List (Sem Sh.expr)):St:={
 tmps:=
  (tm 26 [(1,AV.ptr 0 0),(2,AV.ptr 1 0),(10,AV.int .i64 i10),(11,AV.int .i64 i11)]),
 heap:=
  [AO.box [AV.str ja0,AV.int .i64 ja1,AV.int .i64 ja2,AV.str ja3,AV.str ja4,AV.vec 2],
   AO.box [AV.str [],AV.int .i64 0,AV.int .i64 0,AV.str [],AV.str [],AV.nils],AO.vec Sh.expr lh_2] }
theorem Fy (c:ze→Bool):zA (Iy c).P 200 Tryz.f200 1:=aQ (by kernel_rfl)
theorem zgr (c:ze→Bool) (op:zo) (v:V) (s:zo) (l:List ze):rn (Iy c) 0 zdq Tryz.f200 [zz Sh.expr (ze.mk op v s l)] []=
 Tr.chk (decide (l.length≤1073741824)) (Tr.ok (zt.head 3 (zy Tryz.f200 3) (HS (↑l.length:Int) 0 op v.1 v.2.1 v.2.2 s l))):=by kernel_rfl
theorem MT (c:ze→Bool) (i10:Int) (i11:Int) (ja0:zo) (ja1:Int) (ja2:Int) (ja3:zo) (ja4:zo) (lh_2:List (Sem Sh.expr)):rh (Iy c) 0 zdq Tryz.f200 3 (HS i10 i11 ja0 ja1 ja2 ja3 ja4 lh_2)=
 Tr.br (decide (i11 < i10))
 (Tr.chk (zI i11 lh_2.length)
  (Tr.chk (decide (i11.toNat < lh_2.length))
   (Tr.chk (c (zE (lh_2.getD i11.toNat (zj Sh.expr))))
    (Tr.chk (zI i11 lh_2.length)
     (Tr.chk (decide (i11.toNat < lh_2.length))
      (Tr.ok
       (zt.head 3 (zy Tryz.f200 3)
        (HS i10 (IntKind.i64.wrap (i11+1)) ja0 ja1 ja2 ja3 ja4
         (lh_2.set i11.toNat
          (zE (lh_2.getD i11.toNat (zj Sh.expr))))))))))))
 (Tr.ok
  (zt.ret (AV.agg [AV.str ja0,AV.int .i64 ja1,AV.int .i64 ja2,AV.str ja3,AV.str ja4,AV.vec 0]) [AO.vec Sh.expr lh_2])):=by kernel_rfl

theorem zfO {c:ze→Bool} (hg:FK 200 (JS c)) {C:cH} (hC:∀ id,C.ρ0 id=none) (op:zo) (v:V) (s:zo) (l:List ze) (hl:l.length≤1073741824) (hcl:l.all c=true):
  ∀ (k i:Nat),l.length - i=k→i≤l.length→Reach (Iy c) C 200 (zy Tryz.f200 3) (HS l.length i op v.1 v.2.1 v.2.2 s l) (fun r h=>ap h [.expr] r=some (ze.mk op v s l,())):=by
 intro k
 induction k with
 | zero=>
  intro i hk hi
  obtain rfl:i=l.length:=by omega
  refine zk (n0:=0) (uN hg) (Fy c) (fun id _=>hC id) (MT c _ _ _ _ _ _ _ _) ?_
  simp only [zX,Tr.val_brF]
  rfl
 | succ k IH=>
  intro i hk hi
  have hlt:i < l.length:=by omega
  refine zk (n0:=0) (uN hg) (Fy c) (fun id _=>hC id) (MT c _ _ _ _ _ _ _ _) ?_
  have h1:c l[i]=true:=cX.1 hcl _ (dg hlt)
  have h2:decide ((i:Int).toNat < l.length)=true:=by simpa using hlt
  have h3:l.set (i:Int).toNat l[i]=l:=by simp
  simp only [zT hlt,zB hlt,ac l _ hlt,ze.eta,Tr.val_brT,Tr.val_chkT,h1,h2,h3,zD i (by unfold zC; omega)]
  exact IH (i+1) (by omega) (by omega)

def kX:Nat→ze→Bool
 | 0,_=>false
 | n+1,.mk _ _ _ l=>decide (l.length≤1073741824)&&l.all (kX n)

theorem Ek:∀ n,FK 200 (JS (kX n))
 | 0=>dv ⟨Tryz.f200,(Fy (fun _=>false)).1,(Fy (fun _=>false)).2.1,(Fy (fun _=>false)).2.2.1⟩ (fun _=>rfl)
 | n+1=>by
  refine zQ (E:=Iy (kX n)) (Fy _) fun x hc C hC=>?_
  obtain ⟨⟨op,v,s,l⟩,u⟩:=x
  have hc:(decide (l.length≤1073741824)&&l.all (kX n))=true:=hc
  simp only [aL,ae] at hc
  refine zk (n0:=0) (uN (Ek n)) (Fy _) (fun id _=>hC id) (zgr _ op v s l) ?_
  refine da (by simpa using hc.1) ?_
  exact zfO (Ek n) hC op v s l hc.1 hc.2 _ 0 rfl (aV _)
def F33:zF:=JS (kX 16)
theorem zaf:FK 200 F33:=Ek 16
noncomputable def iG:=PL.add 200 F33
theorem fJ:zl iG:=uX.add zaf
open Go

def pb:(ks:List Sh)→zw (ks.map some++[none])→zw (ks.map some)×AV
 | [],x=>((),x.1)
 | _::ks,x=>((x.1,(pb ks x.2).1),(pb ks x.2).2)

theorem un:∀ (ks:List Sh) (x:zw (ks.map some++[none])),gz (ks.map some++[none]) x=gz (ks.map some) (pb ks x).1++[(pb ks x).2]
 | [],_=>rfl
 | s::ks,x=>congrArg (zz s x.1 :: ·) (un ks x.2)

def LO (k:Nat):AV→Bool
 | .clo (.func j) [] []=>j==k
 | _=>false

theorem LP {k:Nat} {v:AV} (h:LO k v=true):v=.clo (.func k) [] []:=by
 unfold LO at h
 split at h
 ·rw [eT] at h; rw [h]
 ·cases h

abbrev JQ (ks outs:List Sh):=Nat×(zw (ks.map some)→Bool)×(zw (ks.map some)→zw (outs.map some))

def Ph {ks outs:List Sh} (v:AV):List (JQ ks outs)→Option ((zw (ks.map some)→Bool)×(zw (ks.map some)→zw (outs.map some)))
 | []=>none
 | (k,a)::r=>if LO k v then some a else Ph v r

theorem Cy {ks outs:List Sh} {v:AV} {a}:∀ {l:List (JQ ks outs)},Ph v l=some a→∃ k,v=.clo (.func k) [] []∧(k,a)∈l
 | [],h=>by cases h
 | (k,b)::r,h=>by
  unfold Ph at h
  split at h
  ·rename_i hk
   cases h
   exact ⟨k,LP hk,ud ..⟩
  ·obtain ⟨j,h1,h2⟩:=Cy h
   exact ⟨j,h1,ms _ h2⟩

def HC (ks outs:List Sh) (l:List (JQ ks outs)):cF (ks.map some++[none]):=fun x h=>match h with
 | []=>match Ph (pb ks x).2 l with
  | some (c,g)=>.chk (c (pb ks x).1) (.ok (sB outs (g (pb ks x).1),[]))
  | none=>.err
 | _=>.err

def wm (ks outs:List Sh) (l:List (JQ ks outs)):zF:=zU (ks.map some++[none]) (HC ks outs l)

theorem kY {P:Program} {gl:Nat→AV} {E:bt} {k:FuncId} {f:Func} {ks outs:List Sh} {l:List (JQ ks outs)} (hf:zA E.P k f (ks.length+1))
  (h:∀ j c g,(j,c,g)∈l→∀ x,c x=true→∀ C:cH,(∀ id,C.ρ0 id=none)→Reach E C k (aB f) (aq f.ntmps (gz (ks.map some) x++[.clo (.func j) [] []]) []) (fun r h=>ap h outs r=some (g x))) (qp:E.P=P:=by rfl) (qg:E.gl=gl:=by rfl):mf P gl k (wm ks outs l):=by
 subst qp qg
 refine bA (by simpa using hf) fun x h0 res hx C hC=>?_
 unfold HC at hx
 split at hx
 ·split at hx
  ·rename_i c g hal
   obtain ⟨j,hv,hm⟩:=Cy hal
   simp only [Tr.val] at hx
   split at hx
   ·rename_i hc
    simp only [ao] at hx
    subst hx
    rw [un,hv]
    exact Reach.plain (fun id=>hC id (by simp)) (h j c g hm _ hc C (fun id=>hC id (by simp)))
   ·simp at hx
  ·simp at hx
 ·simp at hx

set_option maxHeartbeats 4000000
abbrev bI:Sh:=.pr .str .str
abbrev aN:Sh:=.pr .str .expr
abbrev zm:Sh:=.pr .str (.pr .str (.pr .str (.pr (.sl .str) (.pr (.sl zi) (.pr .str (.pr (.sl .str) (.pr (.sl bI) (.pr .expr (.pr (.sl zf) (.pr (.sl aN) (.pr .expr .str)))))))))))
def xE (x:Sem zm):Sem zm:=(x.1,x.2.1,x.2.2.1,x.2.2.2.1,x.2.2.2.2.1,x.2.2.2.2.2.1,x.2.2.2.2.2.2.1,x.2.2.2.2.2.2.2.1,zE x.2.2.2.2.2.2.2.2.1,x.2.2.2.2.2.2.2.2.2.1,x.2.2.2.2.2.2.2.2.2.2.1,zE x.2.2.2.2.2.2.2.2.2.2.2.1,x.2.2.2.2.2.2.2.2.2.2.2.2)
theorem GY (x:Sem zm):xE x=x:=by unfold xE; rw [zp,zp]

abbrev SD:Nat→ah:=fun j=>if j=2 then { slots:=[0,2,4] } else { }
abbrev wM (s0:TS) (i4:Int) (ja0:Int) (ja1:List UInt8):St:={ tmps:=(tm 37 [(0,AV.str s0),(2,AV.ptr 0 0),(4,ai i4)]),heap:=[AO.box [ai ja0,AV.str ja1]] }
theorem MB:zA (iG).P 235 Tryz.f235 1:=aQ (by kernel_rfl)
theorem zci (x0:TS):rn iG 0 SD Tryz.f235 [zz Sh.str x0] []=Tr.ok (zt.head 2 (zy Tryz.f235 2) (wM x0 1 0 [])):=by kernel_rfl
theorem Qk (s0:TS) (i4:Int) (ja0:Int) (ja1:List UInt8):rh iG 0 SD Tryz.f235 2 (wM s0 i4 ja0 ja1)=Tr.br (decide (i4 < (↑(length s0):Int))) (Tr.chk (zI i4 (length s0)) (Tr.br ((↑(getD s0 i4.toNat 0).toNat:Int) != 39) (Tr.ok (zt.head 2 (zy Tryz.f235 2) (wM s0 (IntKind.i64.wrap (i4+1)) ja0 ja1))) (Tr.chk (bif decide (IntKind.i64.wrap (i4+1) < (↑(length s0):Int)) then zI (IntKind.i64.wrap (i4+1)) (length s0) else true) (Tr.br (bif decide (IntKind.i64.wrap (i4+1) < (↑(length s0):Int)) then (↑(getD s0 (IntKind.i64.wrap (i4+1)).toNat 0).toNat:Int)==39 else false) (Tr.ok (zt.head 2 (zy Tryz.f235 2) (wM s0 (IntKind.i64.wrap (IntKind.i64.wrap (i4+1)+1)) ja0 ja1))) (Tr.chk (decide (0≤1)&&decide (1≤i4)&&decide (i4≤(↑(length s0):Int))) (Tr.chk (qi (List.take (i4.toNat - toNat 1) (List.drop (toNat 1) s0)) [39,39] [39]) (Tr.ok (zt.ret (AV.tup [AV.agg [ai 3,AV.str (Lib.replaceAll (List.take (i4.toNat - toNat 1) (List.drop (toNat 1) s0)) [39,39] [39])],ai (IntKind.i64.wrap (i4+1))]) [])))))))) (Tr.ok (zt.ret (AV.tup [AV.agg [ai 0,AV.str []],ai 0]) [])):=by kernel_rfl
def fi:Nat→(Sem Sh.str)→Int→Int→(List UInt8)→Sem ej×Sem zg
 | 0,_,_,_,_=>default
 | n+1,s0,i4,ja0,ja1=>(if decide (i4 < (↑(length s0):Int))=true then
 if ((↑(getD s0 i4.toNat 0).toNat:Int) != 39)=true then fi n s0 (IntKind.i64.wrap (i4+1)) ja0 ja1
 else
  if
    (bif decide (IntKind.i64.wrap (i4+1) < (↑(length s0):Int)) then (↑(getD s0 (IntKind.i64.wrap (i4+1)).toNat 0).toNat:Int)==39
     else false)=
     true then
   fi n s0 (IntKind.i64.wrap (IntKind.i64.wrap (i4+1)+1)) ja0 ja1
  else ((3,Lib.replaceAll (List.take (i4.toNat - toNat 1) (List.drop (toNat 1) s0)) [39,39] [39]),IntKind.i64.wrap (i4+1))
else ((0,[]),0))
def gN:Nat→(Sem Sh.str)→Int→Int→(List UInt8)→Bool
 | 0,_,_,_,_=>false
 | n+1,s0,i4,ja0,ja1=>(if decide (i4 < (↑(length s0):Int))=true then
 if zI i4 (length s0)=true then
  if ((↑(getD s0 i4.toNat 0).toNat:Int) != 39)=true then gN n s0 (IntKind.i64.wrap (i4+1)) ja0 ja1
  else
   if (bif decide (IntKind.i64.wrap (i4+1) < (↑(length s0):Int)) then zI (IntKind.i64.wrap (i4+1)) (length s0) else true)=true then
    if
      (bif decide (IntKind.i64.wrap (i4+1) < (↑(length s0):Int)) then (↑(getD s0 (IntKind.i64.wrap (i4+1)).toNat 0).toNat:Int)==39
       else false)=
       true then
     gN n s0 (IntKind.i64.wrap (IntKind.i64.wrap (i4+1)+1)) ja0 ja1
    else
     if (decide (0≤1)&&decide (1≤i4)&&decide (i4≤(↑(length s0):Int)))=true then
      if qi (List.take (i4.toNat - toNat 1) (List.drop (toNat 1) s0)) [39,39] [39]=true then true else false
     else false
   else false
 else false
else true)
theorem Gx {C:cH} (hC:∀ id,C.ρ0 id=none):∀ (n:Nat) (s0:TS) (i4:Int) (ja0:Int) (ja1:List UInt8),gN n s0 i4 ja0 ja1=true→
  Reach (iG) C 235 (zy Tryz.f235 2) (wM s0 i4 ja0 ja1) (fun r h=>ap h [ej,zg] r=some ((fi n s0 i4 ja0 ja1).1,(fi n s0 i4 ja0 ja1).2,()))
 | 0,s0,i4,ja0,ja1,hc=>by cases hc
 | n+1,s0,i4,ja0,ja1,hc=>by
  refine zk fJ (MB) (fun id _=>hC id) (Qk _ _ _ _) ?_
  rw [gN] at hc
  generalize hy:fi (n+1) s0 i4 ja0 ja1=y
  rw [fi] at hy
  try simp only [ze.eta,zp]
  repeat' (first | with_reducible refine eW hy hc (fun _ hy hc=>?_) (fun _ hy hc=>?_) | with_reducible refine ba hy (fun _ hy=>?_) (fun _ hy=>?_) | with_reducible refine bv hc (fun hc=>?_) | with_reducible refine zr ?_)
  all_goals first | (cases hc; done) | (subst hy; first | (change Reach _ _ _ _ _ _; refine Gx hC n _ _ _ _ ?_ <;> exact hc) | rfl)
def quoted (x0:TS):Sem ej×Sem zg:=(fi (length x0+1) x0 1 0 [])
def iS (x0:TS):Bool:=(gN (length x0+1) x0 1 0 [])
def YI:zF:=zG [Sh.str] [ej,zg] (fun x=>iS x.1) fun x=>((quoted x.1).1,(quoted x.1).2,())
theorem TG:FK 235 YI:=by
 refine zQ (MB) fun x hc C hC=>?_
 unfold iS at hc
 refine zk fJ (MB) (fun id _=>hC id) (zci x.1) ?_
 generalize hy:quoted x.1=y
 unfold quoted at hy
 try simp only [ze.eta,zp]
 repeat' (first | with_reducible refine eW hy hc (fun _ hy hc=>?_) (fun _ hy hc=>?_) | with_reducible refine ba hy (fun _ hy=>?_) (fun _ hy=>?_) | with_reducible refine bv hc (fun hc=>?_) | with_reducible refine zr ?_)
 all_goals first | (cases hc; done) | (subst hy; first | (change Reach _ _ _ _ _ _; refine Gx hC _ _ _ _ _ ?_ <;> exact hc) | rfl)

abbrev zdi:Nat→ah:=fun _=>{ }
theorem SU:zA (iG).P 218 Tryz.f218 1:=aQ (by kernel_rfl)
theorem zce (x0:Sem Sh.expr):rn iG 0 zdi Tryz.f218 [zz Sh.expr x0] []=Tr.ok (zt.ret (AV.bool (bif ze.op x0==[] then bif (ze.v x0).1==0&&((ze.v x0).2.1==0&&((ze.v x0).2.2==[]&&true)) then bif ze.s x0==[] then (↑(ze.l x0).length:Int)==0 else false else false else false)) []):=by kernel_rfl
def jn (x0:Sem Sh.expr):Sem Sh.bool:=(bif ze.op x0==[] then bif (ze.v x0).1==0&&((ze.v x0).2.1==0&&((ze.v x0).2.2==[]&&true)) then bif ze.s x0==[] then (↑(ze.l x0).length:Int)==0 else false else false else false)
def Yy:zF:=aw [Sh.expr] [Sh.bool] fun x=>(jn x.1,())
theorem Tw:FK 218 Yy:=by
 refine zS (SU) fun x C hC=>?_
 refine zk fJ (SU) (fun id _=>hC id) (zce x.1) ?_
 generalize hy:jn x.1=y
 unfold jn at hy
 try simp only [ze.eta,zp]
 repeat' (first | with_reducible refine ba hy (fun _ hy=>?_) (fun _ hy=>?_) | with_reducible refine zr ?_)
 all_goals first | (cases hc; done) | (subst hy; first | rfl)

abbrev zdj:Nat→ah:=fun _=>{ }
theorem SV:zA (iG).P 228 Tryz.f228 1:=aQ (by kernel_rfl)
theorem zcg (x0:Sem zi):rn iG 0 zdj Tryz.f228 [zz zi x0] []=Tr.br x0.2.2 (Tr.chk (decide (length x0.1+[32].length≤1099511627776)&&(zI (IntKind.i64.wrap (x0.2.1 - 1)) 3&&bif IntKind.i64.wrap (x0.2.1 - 1)==(↑0:Int) then decide (length (x0.1++[32])+[73,78,84].length≤1099511627776)&&decide (length (x0.1++[32]++[73,78,84])+[32,78,79,84,32,78,85,76,76].length≤1099511627776) else bif IntKind.i64.wrap (x0.2.1 - 1)==(↑(0+1):Int) then decide (length (x0.1++[32])+[84,69,88,84].length≤1099511627776)&&decide (length (x0.1++[32]++[84,69,88,84])+[32,78,79,84,32,78,85,76,76].length≤1099511627776) else decide (length (x0.1++[32])+[66,79,79,76].length≤1099511627776)&&decide (length (x0.1++[32]++[66,79,79,76])+[32,78,79,84,32,78,85,76,76].length≤1099511627776))) (Tr.ok (zt.ret (AV.str (bif IntKind.i64.wrap (x0.2.1 - 1)==(↑0:Int) then x0.1++[32]++[73,78,84]++[32,78,79,84,32,78,85,76,76] else bif IntKind.i64.wrap (x0.2.1 - 1)==(↑(0+1):Int) then x0.1++[32]++[84,69,88,84]++[32,78,79,84,32,78,85,76,76] else x0.1++[32]++[66,79,79,76]++[32,78,79,84,32,78,85,76,76])) []))) (Tr.chk (decide (length x0.1+[32].length≤1099511627776)&&(zI (IntKind.i64.wrap (x0.2.1 - 1)) 3&&
 bif IntKind.i64.wrap (x0.2.1 - 1)==(↑0:Int) then decide (length (x0.1++[32])+[73,78,84].length≤1099511627776) else bif IntKind.i64.wrap (x0.2.1 - 1)==(↑(0+1):Int) then decide (length (x0.1++[32])+[84,69,88,84].length≤1099511627776) else decide (length (x0.1++[32])+[66,79,79,76].length≤1099511627776))) (Tr.ok (zt.ret (AV.str (bif IntKind.i64.wrap (x0.2.1 - 1)==(↑0:Int) then x0.1++[32]++[73,78,84] else bif IntKind.i64.wrap (x0.2.1 - 1)==(↑(0+1):Int) then x0.1++[32]++[84,69,88,84] else x0.1++[32]++[66,79,79,76])) []))):=by kernel_rfl
def dP (x0:Sem zi):Sem Sh.str:=(if x0.2.2=true then bif IntKind.i64.wrap (x0.2.1 - 1)==(↑0:Int) then x0.1++[32]++[73,78,84]++[32,78,79,84,32,78,85,76,76] else bif IntKind.i64.wrap (x0.2.1 - 1)==(↑(0+1):Int) then x0.1++[32]++[84,69,88,84]++[32,78,79,84,32,78,85,76,76] else x0.1++[32]++[66,79,79,76]++[32,78,79,84,32,78,85,76,76] else bif IntKind.i64.wrap (x0.2.1 - 1)==(↑0:Int) then x0.1++[32]++[73,78,84] else bif IntKind.i64.wrap (x0.2.1 - 1)==(↑(0+1):Int) then x0.1++[32]++[84,69,88,84] else x0.1++[32]++[66,79,79,76])
def g8 (x0:Sem zi):Bool:=(if x0.2.2=true then if (decide (length x0.1+[32].length≤1099511627776)&&(zI (IntKind.i64.wrap (x0.2.1 - 1)) 3&&bif IntKind.i64.wrap (x0.2.1 - 1)==(↑0:Int) then decide (length (x0.1++[32])+[73,78,84].length≤1099511627776)&&decide (length (x0.1++[32]++[73,78,84])+[32,78,79,84,32,78,85,76,76].length≤1099511627776) else bif IntKind.i64.wrap (x0.2.1 - 1)==(↑(0+1):Int) then decide (length (x0.1++[32])+[84,69,88,84].length≤1099511627776)&&decide (length (x0.1++[32]++[84,69,88,84])+[32,78,79,84,32,78,85,76,76].length≤1099511627776) else decide (length (x0.1++[32])+[66,79,79,76].length≤1099511627776)&&decide (length (x0.1++[32]++[66,79,79,76])+[32,78,79,84,32,78,85,76,76].length≤1099511627776)))=true then true else false else if (decide (length x0.1+[32].length≤1099511627776)&&(zI (IntKind.i64.wrap (x0.2.1 - 1)) 3&&bif IntKind.i64.wrap (x0.2.1 - 1)==(↑0:Int) then decide (length (x0.1++[32])+[73,78,84].length≤1099511627776) else bif IntKind.i64.wrap (x0.2.1 - 1)==(↑(0+1):Int) then decide (length (x0.1++[32])+[84,69,88,84].length≤1099511627776) else decide (length (x0.1++[32])+[66,79,79,76].length≤1099511627776)))=true then true else false)
def YD:zF:=zG [zi] [Sh.str] (fun x=>g8 x.1) fun x=>(dP x.1,())
theorem TB:FK 228 YD:=by
 refine zQ (SV) fun x hc C hC=>?_
 unfold g8 at hc
 refine zk fJ (SV) (fun id _=>hC id) (zcg x.1) ?_
 generalize hy:dP x.1=y
 unfold dP at hy
 try simp only [ze.eta,zp]
 repeat' (first | with_reducible refine eW hy hc (fun _ hy hc=>?_) (fun _ hy hc=>?_) | with_reducible refine ba hy (fun _ hy=>?_) (fun _ hy=>?_) | with_reducible refine bv hc (fun hc=>?_) | with_reducible refine zr ?_)
 all_goals first | (cases hc; done) | (subst hy; first | rfl)

abbrev zhI:Nat→ah:=fun _=>{ }
theorem zeG:zA (iG).P 157 Tryz.f157 1:=aQ (by kernel_rfl)
theorem zg1 (x0:TS):rn iG 0 zhI Tryz.f157 [zz Sh.str x0] []=Tr.ok (zt.ret (AV.str x0) []):=by kernel_rfl
def ma (x0:TS):Sem Sh.str:=(x0)
def F88:zF:=aw [Sh.str] [Sh.str] fun x=>(ma x.1,())
theorem za5:FK 157 F88:=by
 refine zS (zeG) fun x C hC=>?_
 refine zk fJ (zeG) (fun id _=>hC id) (zg1 x.1) ?_
 generalize hy:ma x.1=y
 unfold ma at hy
 try simp only [ze.eta,zp]
 repeat' (first | with_reducible refine ba hy (fun _ hy=>?_) (fun _ hy=>?_) | with_reducible refine zr ?_)
 all_goals first | (cases hc; done) | (subst hy; first | rfl)

abbrev zhD:Nat→ah:=fun _=>{ }
theorem zeA:zA (iG).P 149 Tryz.f149 1:=aQ (by kernel_rfl)
theorem zgW (x0:TS):rn iG 0 zhD Tryz.f149 [zz Sh.str x0] []=Tr.ok (zt.ret (AV.bool (bif md x0 then !DR x0 else false)) []):=by kernel_rfl
def bE (x0:TS):Sem Sh.bool:=(bif md x0 then !DR x0 else false)
def F80:zF:=aw [Sh.str] [Sh.bool] fun x=>(bE x.1,())
theorem zaX:FK 149 F80:=by
 refine zS (zeA) fun x C hC=>?_
 refine zk fJ (zeA) (fun id _=>hC id) (zgW x.1) ?_
 generalize hy:bE x.1=y
 unfold bE at hy
 try simp only [ze.eta,zp]
 repeat' (first | with_reducible refine ba hy (fun _ hy=>?_) (fun _ hy=>?_) | with_reducible refine zr ?_)
 all_goals first | (cases hc; done) | (subst hy; first | rfl)

abbrev zdw:Nat→ah:=fun _=>{ unroll:=true }
theorem SY:zA (iG).P 169 Tryz.f169 1:=aQ (by kernel_rfl)
theorem zcr (x0:Sem ej):rn iG 0 zdw Tryz.f169 [zz ej x0] []=Tr.br (x0.1==3) (Tr.ok (zt.ret (AV.bool (gr (2,0,x0.2))) [])) (Tr.br (x0.1==4) (Tr.chk (bif (↑(length x0.2):Int)==1 then length x0.2==1 else true) (Tr.ok (zt.ret (AV.bool (bif (↑(length x0.2):Int)==1 then decide (0≤Lib.indexByte [40,41,44,61,60,43,45,42] (List.headD x0.2 0)) else false)) []))) (Tr.br true (Tr.chk true (Tr.br (1==x0.1) (Tr.ok (zt.ret (AV.bool (bif decide ((↑(length x0.2):Int) ≥ 1) then bif decide ((↑(length x0.2):Int)≤16) then (↑(aD aU cr x0.2):Int)==(↑(length x0.2):Int) else false else false)) [])) (Tr.br true (Tr.chk true (Tr.br (2==x0.1) (Tr.ok (zt.ret (AV.bool (bif decide ((↑(length x0.2):Int) ≥ 1) then bif decide ((↑(length x0.2):Int)≤19) then (↑(aD zY zY x0.2):Int)==(↑(length x0.2):Int) else false else false)) [])) (Tr.br false Tr.err (Tr.ok (zt.ret (AV.kb false) []))))) (Tr.ok (zt.ret (AV.kb false) []))))) (Tr.ok (zt.ret (AV.kb false) [])))):=by kernel_rfl
def jB (x0:Sem ej):Sem Sh.bool:=(if (x0.1==3)=true then gr (2,0,x0.2) else if (x0.1==4)=true then bif (↑(length x0.2):Int)==1 then decide (0≤Lib.indexByte [40,41,44,61,60,43,45,42] (List.headD x0.2 0)) else false else if true=true then if (1==x0.1)=true then bif decide ((↑(length x0.2):Int) ≥ 1) then bif decide ((↑(length x0.2):Int)≤16) then (↑(aD aU cr x0.2):Int)==(↑(length x0.2):Int) else false else false else if true=true then if (2==x0.1)=true then bif decide ((↑(length x0.2):Int) ≥ 1) then bif decide ((↑(length x0.2):Int)≤19) then (↑(aD zY zY x0.2):Int)==(↑(length x0.2):Int) else false else false else if false=true then default else false else false else false)
def nS (x0:Sem ej):Bool:=(if (x0.1==3)=true then true else if (x0.1==4)=true then if (bif (↑(length x0.2):Int)==1 then length x0.2==1 else true)=true then true else false else if true=true then if true=true then if (1==x0.1)=true then true else if true=true then if true=true then if (2==x0.1)=true then true else if false=true then false else true else false else true else false else true)
def Zs:zF:=zG [ej] [Sh.bool] (fun x=>nS x.1) fun x=>(jB x.1,())
theorem Ux:FK 169 Zs:=by
 refine zQ (SY) fun x hc C hC=>?_
 unfold nS at hc
 refine zk fJ (SY) (fun id _=>hC id) (zcr x.1) ?_
 generalize hy:jB x.1=y
 unfold jB at hy
 try simp only [ze.eta,zp]
 repeat' (first | with_reducible refine eW hy hc (fun _ hy hc=>?_) (fun _ hy hc=>?_) | with_reducible refine ba hy (fun _ hy=>?_) (fun _ hy=>?_) | with_reducible refine bv hc (fun hc=>?_) | with_reducible refine zr ?_)
 all_goals first | (cases hc; done) | (subst hy; first | rfl)

noncomputable def dJ:=iG.addL [(235,YI),(218,Yy),(228,YD),(157,F88),(149,F80),(169,Zs)]
theorem cx:zl dJ:=fJ.addL <| fc TG <| fc Tw <| fc TB <| fc za5 <| fc zaX <| fc Ux jf

abbrev zhG:Nat→ah:=fun _=>{ }
theorem zeE:zA (dJ).P 154 Tryz.f154 1:=aQ (by kernel_rfl)
theorem zgZ (x0:Sem Sh.expr):rn dJ 0 zhG Tryz.f154 [zz Sh.expr x0] []=Tr.ok (zt.ret (AV.bool (bif jn (zE x0) then true else j7 (zE x0))) []):=by kernel_rfl
def oP (x0:Sem Sh.expr):Sem Sh.bool:=(bif jn x0 then true else j7 x0)
def F85:zF:=aw [Sh.expr] [Sh.bool] fun x=>(oP x.1,())
theorem za2:FK 154 F85:=by
 refine zS (zeE) fun x C hC=>?_
 refine zk cx (zeE) (fun id _=>hC id) (zgZ x.1) ?_
 generalize hy:oP x.1=y
 unfold oP at hy
 try simp only [ze.eta]
 repeat' (first | with_reducible refine ba hy (fun _ hy=>?_) (fun _ hy=>?_) | with_reducible refine zr ?_)
 all_goals first | (cases hc; done) | (subst hy; first | rfl)

abbrev zdg:Nat→ah:=fun _=>{ }
theorem SS:zA (dJ).P 210 Tryz.f210 1:=aQ (by kernel_rfl)
theorem zcc (x0:Sem zi):rn dJ 0 zdg Tryz.f210 [zz zi x0] []=Tr.ok (zt.ret (AV.bool (bif bE x0.1 then bif decide (x0.2.1 ≥ 1) then decide (x0.2.1≤3) else false else false)) []):=by kernel_rfl
def g7 (x0:Sem zi):Sem Sh.bool:=(bif bE x0.1 then bif decide (x0.2.1 ≥ 1) then decide (x0.2.1≤3) else false else false)
def Yp:zF:=aw [zi] [Sh.bool] fun x=>(g7 x.1,())
theorem Tm:FK 210 Yp:=by
 refine zS (SS) fun x C hC=>?_
 refine zk cx (SS) (fun id _=>hC id) (zcc x.1) ?_
 generalize hy:g7 x.1=y
 unfold g7 at hy
 try simp only [ze.eta,zp]
 repeat' (first | with_reducible refine ba hy (fun _ hy=>?_) (fun _ hy=>?_) | with_reducible refine zr ?_)
 all_goals first | (cases hc; done) | (subst hy; first | rfl)

abbrev zdh:Nat→ah:=fun _=>{ }
theorem ST:zA (dJ).P 211 Tryz.f211 1:=aQ (by kernel_rfl)
theorem zcd (x0:Sem bI):rn dJ 0 zdh Tryz.f211 [zz bI x0] []=Tr.ok (zt.ret (AV.bool (bif bE x0.1 then bE x0.2 else false)) []):=by kernel_rfl
def mX (x0:Sem bI):Sem Sh.bool:=(bif bE x0.1 then bE x0.2 else false)
def Yq:zF:=aw [bI] [Sh.bool] fun x=>(mX x.1,())
theorem Tn:FK 211 Yq:=by
 refine zS (ST) fun x C hC=>?_
 refine zk cx (ST) (fun id _=>hC id) (zcd x.1) ?_
 generalize hy:mX x.1=y
 unfold mX at hy
 try simp only [ze.eta,zp]
 repeat' (first | with_reducible refine ba hy (fun _ hy=>?_) (fun _ hy=>?_) | with_reducible refine zr ?_)
 all_goals first | (cases hc; done) | (subst hy; first | rfl)

abbrev zhF:Nat→ah:=fun _=>{ }
theorem zeC:zA (dJ).P 152 Tryz.f152 1:=aQ (by kernel_rfl)
theorem zgY (x0:Sem aN):rn dJ 0 zhF Tryz.f152 [zz aN x0] []=Tr.ok (zt.ret (AV.bool (bif bE x0.1 then j7 (zE x0.2) else false)) []):=by kernel_rfl
def wW (x0:Sem aN):Sem Sh.bool:=(bif bE x0.1 then j7 x0.2 else false)
def F83:zF:=aw [aN] [Sh.bool] fun x=>(wW x.1,())
theorem za0:FK 152 F83:=by
 refine zS (zeC) fun x C hC=>?_
 refine zk cx (zeC) (fun id _=>hC id) (zgY x.1) ?_
 generalize hy:wW x.1=y
 unfold wW at hy
 try simp only [ze.eta]
 repeat' (first | with_reducible refine ba hy (fun _ hy=>?_) (fun _ hy=>?_) | with_reducible refine zr ?_)
 all_goals first | (cases hc; done) | (subst hy; first | rfl)

abbrev zhK:Nat→ah:=fun _=>{ }
theorem zeI:zA (dJ).P 161 Tryz.f161 1:=aQ (by kernel_rfl)
theorem zg4 (x0:Sem zf):rn dJ 0 zhK Tryz.f161 [zz zf x0] []=Tr.br (!gr x0) (Tr.ok (zt.ret (AV.str []) [])) (Tr.br (x0.1==1) (Tr.chk (10==10) (Tr.ok (zt.ret (AV.str (ox x0.2.1)) []))) (Tr.br (x0.1==2) (Tr.chk (qi x0.2.2 [39] [39,39]) (Tr.chk (decide ([39].length+(Lib.replaceAll x0.2.2 [39] [39,39]).length≤1099511627776)) (Tr.chk (decide (length ([39]++Lib.replaceAll x0.2.2 [39] [39,39])+[39].length≤1099511627776)) (Tr.ok (zt.ret (AV.str ([39]++Lib.replaceAll x0.2.2 [39] [39,39]++[39])) []))))) (Tr.br (x0.1==3) (Tr.br (eu x0==2) (Tr.ok (zt.ret (AV.str [84,82,85,69]) [])) (Tr.ok (zt.ret (AV.str [70,65,76,83,69]) []))) (Tr.ok (zt.ret (AV.str [78,85,76,76]) []))))):=by kernel_rfl
def gy (x0:Sem zf):Sem Sh.str:=(if (!gr x0)=true then [] else if (x0.1==1)=true then ox x0.2.1 else if (x0.1==2)=true then [39]++Lib.replaceAll x0.2.2 [39] [39,39]++[39] else if (x0.1==3)=true then if (eu x0==2)=true then [84,82,85,69] else [70,65,76,83,69] else [78,85,76,76])
def lL (x0:Sem zf):Bool:=(if (!gr x0)=true then true else if (x0.1==1)=true then if (10==10)=true then true else false else if (x0.1==2)=true then if qi x0.2.2 [39] [39,39]=true then if decide ([39].length+(Lib.replaceAll x0.2.2 [39] [39,39]).length≤1099511627776)=true then if decide (length ([39]++Lib.replaceAll x0.2.2 [39] [39,39])+[39].length≤1099511627776)=true then true else false else false else false else true)
def F92:zF:=zG [zf] [Sh.str] (fun x=>lL x.1) fun x=>(gy x.1,())
theorem zba:FK 161 F92:=by
 refine zQ (zeI) fun x hc C hC=>?_
 unfold lL at hc
 refine zk cx (zeI) (fun id _=>hC id) (zg4 x.1) ?_
 generalize hy:gy x.1=y
 unfold gy at hy
 try simp only [ze.eta,zp]
 repeat' (first | with_reducible refine eW hy hc (fun _ hy hc=>?_) (fun _ hy hc=>?_) | with_reducible refine ba hy (fun _ hy=>?_) (fun _ hy=>?_) | with_reducible refine bv hc (fun hc=>?_) | with_reducible refine zr ?_)
 all_goals first | (cases hc; done) | (subst hy; first | rfl)

abbrev zhH:Nat→ah:=fun _=>{ }
theorem zeF:zA (dJ).P 156 Tryz.f156 1:=aQ (by kernel_rfl)
theorem zg0 (x0:Sem zm):rn dJ 0 zhH Tryz.f156 [zz zm x0] []=Tr.chk (decide (length x0.2.1+length x0.2.2.1≤1099511627776)) (Tr.chk (decide (length (x0.2.1++x0.2.2.1)+length x0.2.2.2.2.2.1≤1099511627776)) (Tr.chk (decide (length (x0.2.1++x0.2.2.1++x0.2.2.2.2.2.1)+length x0.2.2.2.2.2.2.2.2.2.2.2.2≤1099511627776)) (Tr.ok (zt.ret (AV.bool (bif x0.2.1++x0.2.2.1++x0.2.2.2.2.2.1++x0.2.2.2.2.2.2.2.2.2.2.2.2==[] then bif IntKind.i64.wrap (IntKind.i64.wrap (IntKind.i64.wrap (IntKind.i64.wrap (IntKind.i64.wrap ((↑(length x0.2.2.2.1):Int)+(↑(length x0.2.2.2.2.1):Int))+(↑(length x0.2.2.2.2.2.2.1):Int))+(↑(length x0.2.2.2.2.2.2.2.1):Int))+(↑(length x0.2.2.2.2.2.2.2.2.2.1):Int))+(↑(length x0.2.2.2.2.2.2.2.2.2.2.1):Int))==0 then bif jn (zE x0.2.2.2.2.2.2.2.2.1) then jn (zE x0.2.2.2.2.2.2.2.2.2.2.2.1) else false else false else false)) [])))):=by kernel_rfl
def fD (x0:Sem zm):Sem Sh.bool:=(bif x0.2.1++x0.2.2.1++x0.2.2.2.2.2.1++x0.2.2.2.2.2.2.2.2.2.2.2.2==[] then bif IntKind.i64.wrap (IntKind.i64.wrap (IntKind.i64.wrap (IntKind.i64.wrap (IntKind.i64.wrap ((↑(length x0.2.2.2.1):Int)+(↑(length x0.2.2.2.2.1):Int))+(↑(length x0.2.2.2.2.2.2.1):Int))+(↑(length x0.2.2.2.2.2.2.2.1):Int))+(↑(length x0.2.2.2.2.2.2.2.2.2.1):Int))+(↑(length x0.2.2.2.2.2.2.2.2.2.2.1):Int))==0 then bif jn x0.2.2.2.2.2.2.2.2.1 then jn x0.2.2.2.2.2.2.2.2.2.2.2.1 else false else false else false)
def dt (x0:Sem zm):Bool:=(if decide (length x0.2.1+length x0.2.2.1≤1099511627776)=true then if decide (length (x0.2.1++x0.2.2.1)+length x0.2.2.2.2.2.1≤1099511627776)=true then if decide (length (x0.2.1++x0.2.2.1++x0.2.2.2.2.2.1)+length x0.2.2.2.2.2.2.2.2.2.2.2.2≤1099511627776)=true then true else false else false else false)
def F87:zF:=zG [zm] [Sh.bool] (fun x=>dt x.1) fun x=>(fD x.1,())
theorem za4:FK 156 F87:=by
 refine zQ (zeF) fun x hc C hC=>?_
 unfold dt at hc
 refine zk cx (zeF) (fun id _=>hC id) (zg0 x.1) ?_
 generalize hy:fD x.1=y
 unfold fD at hy
 try simp only [ze.eta]
 repeat' (first | with_reducible refine eW hy hc (fun _ hy hc=>?_) (fun _ hy hc=>?_) | with_reducible refine ba hy (fun _ hy=>?_) (fun _ hy=>?_) | with_reducible refine bv hc (fun hc=>?_) | with_reducible refine zr ?_)
 all_goals first | (cases hc; done) | (subst hy; first | rfl)

abbrev zhP:Nat→ah:=fun _=>{ unroll:=true }
theorem zeN:zA (dJ).P 168 Tryz.f168 1:=aQ (by kernel_rfl)
theorem zhb (x0:TS):rn dJ 0 zhP Tryz.f168 [zz Sh.str x0] []=Tr.br true (Tr.chk true (Tr.br (decide ((↑(aD aU cr x0):Int) > 0)) (Tr.chk (decide (0≤0)&&decide (0≤(↑(aD aU cr x0):Int))&&decide ((↑(aD aU cr x0):Int)≤(↑(length x0):Int))) (Tr.ok (zt.ret (AV.tup [AV.agg [ai 1,AV.str (List.take ((↑(aD aU cr x0):Int).toNat - toNat 0) (List.drop (toNat 0) x0))],ai (↑(aD aU cr x0):Int)]) []))) (Tr.br true (Tr.chk true (Tr.br (decide ((↑(aD zY zY x0):Int) > 0)) (Tr.chk (decide (0≤0)&&decide (0≤(↑(aD zY zY x0):Int))&&decide ((↑(aD zY zY x0):Int)≤(↑(length x0):Int))) (Tr.ok (zt.ret (AV.tup [AV.agg [ai 2,AV.str (List.take ((↑(aD zY zY x0):Int).toNat - toNat 0) (List.drop (toNat 0) x0))],ai (↑(aD zY zY x0):Int)]) []))) (Tr.br false Tr.err (Tr.chk (zI 0 (length x0)) (Tr.br ((↑(getD x0 (toNat 0) 0).toNat:Int)==39) (Tr.chk (iS x0) (Tr.ok (zt.ret (AV.tup [AV.agg [ai (quoted x0).1.1,AV.str (quoted x0).1.2],ai (quoted x0).2]) []))) (Tr.chk (decide (0≤0)&&decide (0≤1)&&decide (1≤(↑(length x0):Int))) (Tr.ok (zt.ret (AV.tup
 [AV.agg [ai 4,AV.str (List.take (toNat 1 - toNat 0) (List.drop (toNat 0) x0))],ai 1]) [])))))))) (Tr.chk (zI 0 (length x0)) (Tr.br ((↑(getD x0 (toNat 0) 0).toNat:Int)==39) (Tr.chk (iS x0) (Tr.ok (zt.ret (AV.tup [AV.agg [ai (quoted x0).1.1,AV.str (quoted x0).1.2],ai (quoted x0).2]) []))) (Tr.chk (decide (0≤0)&&decide (0≤1)&&decide (1≤(↑(length x0):Int))) (Tr.ok (zt.ret (AV.tup [AV.agg [ai 4,AV.str (List.take (toNat 1 - toNat 0) (List.drop (toNat 0) x0))],ai 1]) [])))))))) (Tr.chk (zI 0 (length x0)) (Tr.br ((↑(getD x0 (toNat 0) 0).toNat:Int)==39) (Tr.chk (iS x0) (Tr.ok (zt.ret (AV.tup [AV.agg [ai (quoted x0).1.1,AV.str (quoted x0).1.2],ai (quoted x0).2]) []))) (Tr.chk (decide (0≤0)&&decide (0≤1)&&decide (1≤(↑(length x0):Int))) (Tr.ok (zt.ret (AV.tup [AV.agg [ai 4,AV.str (List.take (toNat 1 - toNat 0) (List.drop (toNat 0) x0))],ai 1]) []))))):=by kernel_rfl
def bp (x0:TS):Sem ej×Sem zg:=(if true=true then if decide ((↑(aD aU cr x0):Int) > 0)=true then ((1,List.take ((↑(aD aU cr x0):Int).toNat - toNat 0) (List.drop (toNat 0) x0)),(↑(aD aU cr x0):Int)) else if true=true then if decide ((↑(aD zY zY x0):Int) > 0)=true then ((2,List.take ((↑(aD zY zY x0):Int).toNat - toNat 0) (List.drop (toNat 0) x0)),(↑(aD zY zY x0):Int)) else if false=true then default else if ((↑(getD x0 (toNat 0) 0).toNat:Int)==39)=true then ((quoted x0).1,(quoted x0).2) else ((4,List.take (toNat 1 - toNat 0) (List.drop (toNat 0) x0)),1) else if ((↑(getD x0 (toNat 0) 0).toNat:Int)==39)=true then ((quoted x0).1,(quoted x0).2) else ((4,List.take (toNat 1 - toNat 0) (List.drop (toNat 0) x0)),1) else if ((↑(getD x0 (toNat 0) 0).toNat:Int)==39)=true then ((quoted x0).1,(quoted x0).2) else ((4,List.take (toNat 1 - toNat 0) (List.drop (toNat 0) x0)),1))
def jh (x0:TS):Bool:=(if true=true then if true=true then if decide ((↑(aD aU cr x0):Int) > 0)=true then if (decide (0≤0)&&decide (0≤(↑(aD aU cr x0):Int))&&decide ((↑(aD aU cr x0):Int)≤(↑(length x0):Int)))=true then true else false else if true=true then if true=true then if decide ((↑(aD zY zY x0):Int) > 0)=true then if (decide (0≤0)&&decide (0≤(↑(aD zY zY x0):Int))&&decide ((↑(aD zY zY x0):Int)≤(↑(length x0):Int)))=true then true else false else if false=true then false else if zI 0 (length x0)=true then if ((↑(getD x0 (toNat 0) 0).toNat:Int)==39)=true then if iS x0=true then true else false else if (decide (0≤0)&&decide (0≤1)&&decide (1≤(↑(length x0):Int)))=true then true else false else false else false else if zI 0 (length x0)=true then if ((↑(getD x0 (toNat 0) 0).toNat:Int)==39)=true then if iS x0=true then true else false else if (decide (0≤0)&&decide (0≤1)&&decide (1≤(↑(length x0):Int)))=true then true else false else false else false else if zI 0 (length x0)=true then if ((↑(getD x0 (toNat 0) 0).toNat:Int)==39)=true then if iS x0=true then true else false else if (decide (0≤0)&&decide (0≤1)&&decide (1≤(↑(length x0):Int)))=true then true else false else false)
def F99:zF:=zG [Sh.str] [ej,zg] (fun x=>jh x.1) fun x=>((bp x.1).1,(bp x.1).2,())
theorem zbh:FK 168 F99:=by
 refine zQ (zeN) fun x hc C hC=>?_
 unfold jh at hc
 refine zk cx (zeN) (fun id _=>hC id) (zhb x.1) ?_
 generalize hy:bp x.1=y
 unfold bp at hy
 try simp only [ze.eta,zp]
 repeat' (first | with_reducible refine eW hy hc (fun _ hy hc=>?_) (fun _ hy hc=>?_) | with_reducible refine ba hy (fun _ hy=>?_) (fun _ hy=>?_) | with_reducible refine bv hc (fun hc=>?_) | with_reducible refine zr ?_)
 all_goals first | (cases hc; done) | (subst hy; first | rfl)

abbrev SC:Nat→ah:=fun j=>if j=3 then { slots:=[1,5,8,9,10],prom:=[(5,none,.str)] } else { }
abbrev wL (l8:LC) (i9:Int) (i10:Int) (lh_0:LS):St:={ tmps:=(tm 23 [(1,AV.clo (Fn.func 228) [] []),(5,AV.vec 0),(8,AV.sl zi l8),(9,ai i9),(10,ai i10)]),heap:=[AO.vec Sh.str lh_0] }
theorem Hj:zA (dJ).P 227 Tryz.f227 2:=aQ (by kernel_rfl)
theorem zcf (x0:Sem zi.sl):rn dJ 0 SC Tryz.f227 [zz zi.sl x0,AV.clo (Fn.func 228) [] []] []=Tr.ok (zt.head 3 (zy Tryz.f227 3) (wL x0 (↑(length x0):Int) 0 [])):=by kernel_rfl
theorem Ht (l8:LC) (i9:Int) (i10:Int) (lh_0:LS):rh dJ 0 SC Tryz.f227 3 (wL l8 i9 i10 lh_0)=Tr.br (decide (i10 < i9)) (Tr.chk (zI i10 l8.length) (Tr.chk (g8 (l8.getD i10.toNat (zj zi))) (Tr.chk (decide (lh_0.length+[dP (l8.getD i10.toNat (zj zi))].length≤1073741824)) (Tr.ok (zt.head 3 (zy Tryz.f227 3) (wL l8 i9 (IntKind.i64.wrap (i10+1)) (lh_0++[dP (l8.getD i10.toNat (zj zi))]))))))) (Tr.chk (decide (lh_0.length≤140737488355328)&&decide ((Lib.join lh_0 [32,44,32]).length≤140737488355328)) (Tr.ok (zt.ret (AV.str (Lib.join lh_0 [32,44,32])) []))):=by kernel_rfl
def cO:List (Sem zi)→Int→List (Sem Sh.str)→Sem Sh.str
 | [],_,lh_0=>(Lib.join lh_0 [32,44,32])
 | x::r,i10,lh_0=>(cO r (i10+1) (lh_0++[dP x]))
def di:List (Sem zi)→Int→List (Sem Sh.str)→Bool
 | [],_,lh_0=>(if (decide (lh_0.length≤140737488355328)&&decide ((Lib.join lh_0 [32,44,32]).length≤140737488355328))=true then true else false)
 | x::r,i10,lh_0=>(if g8 x=true then if decide (lh_0.length+[dP x].length≤1073741824)=true then di r (i10+1) (lh_0++[dP x]) else false
else false)
theorem Pk {C:cH} (hC:∀ id,C.ρ0 id=none) (l8:LC) (hl:l8.length≤zC):∀ (m i:Nat) (lh_0:LS),l8.length - i=m→i≤l8.length→di (l8.drop i) i lh_0=true→
  Reach (dJ) C 227 (zy Tryz.f227 3) (wL l8 (l8.length:Int) (i:Int) lh_0) (fun r h=>ap h [Sh.str] r=some (cO (l8.drop i) i lh_0,())):=by
 intro m
 induction m with
 | zero=>
  intro i lh_0 hm hi hc
  obtain rfl:i=l8.length:=by omega
  rw [cL] at hc ⊢
  refine zk cx (Hj) (fun id _=>hC id) (Ht _ _ _ _) ?_
  rw [di] at hc
  generalize hy:cO [] _ lh_0=y
  rw [cO] at hy
  simp only [zX,Tr.val_brF]
  repeat' (first | with_reducible refine eW hy hc (fun _ hy hc=>?_) (fun _ hy hc=>?_) | with_reducible refine ba hy (fun _ hy=>?_) (fun _ hy=>?_) | with_reducible refine bv hc (fun hc=>?_) | with_reducible refine zr ?_)
  all_goals first | (cases hc; done) | (subst hy; first | rfl)
 | succ m IH=>
  intro i lh_0 hm hi hc
  have hlt:i < l8.length:=by omega
  have IH:=IH (i+1)
  have hcast:((i:Int)+1)=((i+1:Nat):Int):=by omega
  have hwr:=zD i (by omega)
  rw [dw hlt] at hc ⊢
  refine zk cx (Hj) (fun id _=>hC id) (Ht _ _ _ _) ?_
  rw [di] at hc
  generalize hy:cO (l8[i]::l8.drop (i+1)) (i:Int) lh_0=y
  rw [cO] at hy
  simp only [zT hlt,zB hlt,ac l8 _ hlt,hwr,Tr.val_brT,Tr.val_chkT]
  clear hwr
  try simp only [zB hlt] at hy
  simp only [hcast] at hy
  try simp only [zB hlt] at hc
  try simp only [hcast] at hc
  repeat' (first | with_reducible refine eW hy hc (fun _ hy hc=>?_) (fun _ hy hc=>?_) | with_reducible refine ba hy (fun _ hy=>?_) (fun _ hy=>?_) | with_reducible refine bv hc (fun hc=>?_) | with_reducible refine zr ?_)
  all_goals first | (cases hc; done) | (subst hy; first | (change Reach _ _ _ _ _ _; apply IH <;> first | omega | assumption) | rfl)
theorem Ka {C:cH} (hC:∀ id,C.ρ0 id=none) (l8:LC) (lh_0:LS) (hc:di l8 0 lh_0=true):
  Reach (dJ) C 227 (zy Tryz.f227 3) (wL l8 (l8.length:Int) 0 lh_0) (fun r h=>ap h [Sh.str] r=some (cO l8 0 lh_0,())):=
 Reach.len 8 (zi) l8 rfl fun hl=>Pk hC l8 hl _ 0 lh_0 rfl (aV _) hc
def dA (x0:Sem zi.sl):Sem Sh.str:=(cO x0 0 [])
def iZ (x0:Sem zi.sl):Bool:=(di x0 0 [])
def YC:zF:=wm [zi.sl] [Sh.str] [(228,(fun x=>iZ x.1),fun x=>(dA x.1,()))]
theorem TA:FK 227 YC:=by
 refine kY (Hj) fun j c g hm x hc C hC=>?_
 simp only [bO,bC] at hm
 obtain ⟨rfl,rfl,rfl⟩:=hm
 replace hc:iZ x.1=true:=hc
 unfold iZ at hc
 refine zk cx (Hj) (fun id _=>hC id) (zcf x.1) ?_
 generalize hy:dA x.1=y
 unfold dA at hy
 repeat' (first | with_reducible refine eW hy hc (fun _ hy hc=>?_) (fun _ hy hc=>?_) | with_reducible refine ba hy (fun _ hy=>?_) (fun _ hy=>?_) | with_reducible refine bv hc (fun hc=>?_) | with_reducible refine zr ?_)
 all_goals first | (cases hc; done) | (subst hy; first | (change Reach _ _ _ _ _ _; apply Ka hC <;> first | assumption | exact hc) | rfl)

abbrev zdM:Nat→ah:=fun j=>if j=3 then { slots:=[1,5,8,9,10],prom:=[(5,none,.str)] } else { }
abbrev D0 (l8:LS) (i9:Int) (i10:Int) (lh_0:LS):St:={ tmps:=(tm 23 [(1,AV.clo (Fn.func 157) [] []),(5,AV.vec 0),(8,AV.sl Sh.str l8),(9,ai i9),(10,ai i10)]),heap:=[AO.vec Sh.str lh_0] }
theorem Qj:zA (dJ).P 166 Tryz.f166 2:=aQ (by kernel_rfl)
theorem zg9 (x0:Sem Sh.str.sl):rn dJ 0 zdM Tryz.f166 [zz Sh.str.sl x0,AV.clo (Fn.func 157) [] []] []=Tr.ok (zt.head 3 (zy Tryz.f166 3) (D0 x0 (↑(length x0):Int) 0 [])):=by kernel_rfl
theorem M2 (l8:LS) (i9:Int) (i10:Int) (lh_0:LS):rh dJ 0 zdM Tryz.f166 3 (D0 l8 i9 i10 lh_0)=Tr.br (decide (i10 < i9)) (Tr.chk (zI i10 l8.length) (Tr.chk (decide (lh_0.length+[ma (l8.getD i10.toNat (zj Sh.str))].length≤1073741824)) (Tr.ok (zt.head 3 (zy Tryz.f166 3) (D0 l8 i9 (IntKind.i64.wrap (i10+1)) (lh_0++[ma (l8.getD i10.toNat (zj Sh.str))])))))) (Tr.chk (decide (lh_0.length≤140737488355328)&&decide ((Lib.join lh_0 [32,44,32]).length≤140737488355328)) (Tr.ok (zt.ret (AV.str (Lib.join lh_0 [32,44,32])) []))):=by kernel_rfl
def cU:List (Sem Sh.str)→Int→List (Sem Sh.str)→Sem Sh.str
 | [],_,lh_0=>(Lib.join lh_0 [32,44,32])
 | x::r,i10,lh_0=>(cU r (i10+1) (lh_0++[ma x]))
def dl:List (Sem Sh.str)→Int→List (Sem Sh.str)→Bool
 | [],_,lh_0=>(if (decide (lh_0.length≤140737488355328)&&decide ((Lib.join lh_0 [32,44,32]).length≤140737488355328))=true then true else false)
 | x::r,i10,lh_0=>(if decide (lh_0.length+[ma x].length≤1073741824)=true then dl r (i10+1) (lh_0++[ma x]) else false)
theorem Vu {C:cH} (hC:∀ id,C.ρ0 id=none) (l8:LS) (hl:l8.length≤zC):∀ (m i:Nat) (lh_0:LS),l8.length - i=m→i≤l8.length→dl (l8.drop i) i lh_0=true→
  Reach (dJ) C 166 (zy Tryz.f166 3) (D0 l8 (l8.length:Int) (i:Int) lh_0) (fun r h=>ap h [Sh.str] r=some (cU (l8.drop i) i lh_0,())):=by
 intro m
 induction m with
 | zero=>
  intro i lh_0 hm hi hc
  obtain rfl:i=l8.length:=by omega
  rw [cL] at hc ⊢
  refine zk cx (Qj) (fun id _=>hC id) (M2 _ _ _ _) ?_
  rw [dl] at hc
  generalize hy:cU [] _ lh_0=y
  rw [cU] at hy
  simp only [zX,Tr.val_brF]
  repeat' (first | with_reducible refine eW hy hc (fun _ hy hc=>?_) (fun _ hy hc=>?_) | with_reducible refine ba hy (fun _ hy=>?_) (fun _ hy=>?_) | with_reducible refine bv hc (fun hc=>?_) | with_reducible refine zr ?_)
  all_goals first | (cases hc; done) | (subst hy; first | rfl)
 | succ m IH=>
  intro i lh_0 hm hi hc
  have hlt:i < l8.length:=by omega
  have IH:=IH (i+1)
  have hcast:((i:Int)+1)=((i+1:Nat):Int):=by omega
  have hwr:=zD i (by omega)
  rw [dw hlt] at hc ⊢
  refine zk cx (Qj) (fun id _=>hC id) (M2 _ _ _ _) ?_
  rw [dl] at hc
  generalize hy:cU (l8[i]::l8.drop (i+1)) (i:Int) lh_0=y
  rw [cU] at hy
  simp only [zT hlt,zB hlt,ac l8 _ hlt,hwr,Tr.val_brT,Tr.val_chkT]
  clear hwr
  try simp only [zB hlt] at hy
  simp only [hcast] at hy
  try simp only [zB hlt] at hc
  try simp only [hcast] at hc
  repeat' (first | with_reducible refine eW hy hc (fun _ hy hc=>?_) (fun _ hy hc=>?_) | with_reducible refine ba hy (fun _ hy=>?_) (fun _ hy=>?_) | with_reducible refine bv hc (fun hc=>?_) | with_reducible refine zr ?_)
  all_goals first | (cases hc; done) | (subst hy; first | (change Reach _ _ _ _ _ _; apply IH <;> first | omega | assumption) | rfl)
theorem Ps {C:cH} (hC:∀ id,C.ρ0 id=none) (l8:LS) (lh_0:LS) (hc:dl l8 0 lh_0=true):
  Reach (dJ) C 166 (zy Tryz.f166 3) (D0 l8 (l8.length:Int) 0 lh_0) (fun r h=>ap h [Sh.str] r=some (cU l8 0 lh_0,())):=
 Reach.len 8 (Sh.str) l8 rfl fun hl=>Vu hC l8 hl _ 0 lh_0 rfl (aV _) hc
def kQ (x0:Sem Sh.str.sl):Sem Sh.str:=(cU x0 0 [])
def kR (x0:Sem Sh.str.sl):Bool:=(dl x0 0 [])
def F97:zF:=wm [Sh.str.sl] [Sh.str] [(157,(fun x=>kR x.1),fun x=>(kQ x.1,()))]
theorem zbf:FK 166 F97:=by
 refine kY (Qj) fun j c g hm x hc C hC=>?_
 simp only [bO,bC] at hm
 obtain ⟨rfl,rfl,rfl⟩:=hm
 replace hc:kR x.1=true:=hc
 unfold kR at hc
 refine zk cx (Qj) (fun id _=>hC id) (zg9 x.1) ?_
 generalize hy:kQ x.1=y
 unfold kQ at hy
 repeat' (first | with_reducible refine eW hy hc (fun _ hy hc=>?_) (fun _ hy hc=>?_) | with_reducible refine ba hy (fun _ hy=>?_) (fun _ hy=>?_) | with_reducible refine bv hc (fun hc=>?_) | with_reducible refine zr ?_)
 all_goals first | (cases hc; done) | (subst hy; first | (change Reach _ _ _ _ _ _; apply Ps hC <;> first | assumption | exact hc) | rfl)

noncomputable def ky:=dJ.addL [(154,F85),(210,Yp),(211,Yq),(152,F83),(161,F92),(156,F87),(168,F99),(227,YC),(166,F97)]
theorem eb:zl ky:=cx.addL <| fc za2 <| fc Tm <| fc Tn <| fc za0 <| fc zba <| fc za4 <| fc zbh <| fc TA <| fc zbf jf
noncomputable section

def YM:zF:=zU (List.replicate 2 none) (bZ ky Tryz.f253 (List.replicate 2 none))
theorem TK:FK 253 YM:=au _ eb (aQ (by kernel_rfl))

def YO:zF:=zU (List.replicate 2 none) (bZ ky Tryz.f255 (List.replicate 2 none))
theorem TM:FK 255 YO:=au _ eb (aQ (by kernel_rfl))

def YA:zF:=zU (List.replicate 2 none) (bZ ky Tryz.f220 (List.replicate 2 none))
theorem Ty:FK 220 YA:=au _ eb (aQ (by kernel_rfl))

def Yv:zF:=zU (List.replicate 2 none) (bZ ky Tryz.f215 (List.replicate 2 none))
theorem Tt:FK 215 Yv:=au _ eb (aQ (by kernel_rfl))

def Yx:zF:=zU (List.replicate 2 none) (bZ ky Tryz.f217 (List.replicate 2 none))
theorem Tv:FK 217 Yx:=au _ eb (aQ (by kernel_rfl))

abbrev zdK:Nat→ah:=fun j=>if j=3 then { slots:=[1,5,8,9,10],prom:=[(5,none,.str)] } else { }
abbrev DY (l8:LV) (i9:Int) (i10:Int) (lh_0:LS):St:={ tmps:=(tm 23 [(1,AV.clo (Fn.func 161) [] []),(5,AV.vec 0),(8,AV.sl zf l8),(9,ai i9),(10,ai i10)]),heap:=[AO.vec Sh.str lh_0] }
theorem Qh:zA (ky).P 160 Tryz.f160 2:=aQ (by kernel_rfl)
theorem zg3 (x0:Sem zf.sl):rn ky 0 zdK Tryz.f160 [zz zf.sl x0,AV.clo (Fn.func 161) [] []] []=Tr.ok (zt.head 3 (zy Tryz.f160 3) (DY x0 (↑(length x0):Int) 0 [])):=by kernel_rfl
theorem MZ (l8:LV) (i9:Int) (i10:Int) (lh_0:LS):rh ky 0 zdK Tryz.f160 3 (DY l8 i9 i10 lh_0)=Tr.br (decide (i10 < i9)) (Tr.chk (zI i10 l8.length) (Tr.chk (lL (l8.getD i10.toNat (zj zf))) (Tr.chk (decide (lh_0.length+[gy (l8.getD i10.toNat (zj zf))].length≤1073741824)) (Tr.ok (zt.head 3 (zy Tryz.f160 3) (DY l8 i9 (IntKind.i64.wrap (i10+1)) (lh_0++[gy (l8.getD i10.toNat (zj zf))]))))))) (Tr.chk (decide (lh_0.length≤140737488355328)&&decide ((Lib.join lh_0 [32,44,32]).length≤140737488355328)) (Tr.ok (zt.ret (AV.str (Lib.join lh_0 [32,44,32])) []))):=by kernel_rfl
def cV:List (Sem zf)→Int→List (Sem Sh.str)→Sem Sh.str
 | [],_,lh_0=>(Lib.join lh_0 [32,44,32])
 | x::r,i10,lh_0=>(cV r (i10+1) (lh_0++[gy x]))
def dn:List (Sem zf)→Int→List (Sem Sh.str)→Bool
 | [],_,lh_0=>(if (decide (lh_0.length≤140737488355328)&&decide ((Lib.join lh_0 [32,44,32]).length≤140737488355328))=true then true else false)
 | x::r,i10,lh_0=>(if lL x=true then if decide (lh_0.length+[gy x].length≤1073741824)=true then dn r (i10+1) (lh_0++[gy x]) else false else false)
theorem Vs {C:cH} (hC:∀ id,C.ρ0 id=none) (l8:LV) (hl:l8.length≤zC):∀ (m i:Nat) (lh_0:LS),l8.length - i=m→i≤l8.length→dn (l8.drop i) i lh_0=true→
  Reach (ky) C 160 (zy Tryz.f160 3) (DY l8 (l8.length:Int) (i:Int) lh_0) (fun r h=>ap h [Sh.str] r=some (cV (l8.drop i) i lh_0,())):=by
 intro m
 induction m with
 | zero=>
  intro i lh_0 hm hi hc
  obtain rfl:i=l8.length:=by omega
  rw [cL] at hc ⊢
  refine zk eb (Qh) (fun id _=>hC id) (MZ _ _ _ _) ?_
  rw [dn] at hc
  generalize hy:cV [] _ lh_0=y
  rw [cV] at hy
  simp only [zX,Tr.val_brF]
  repeat' (first | with_reducible refine eW hy hc (fun _ hy hc=>?_) (fun _ hy hc=>?_) | with_reducible refine ba hy (fun _ hy=>?_) (fun _ hy=>?_) | with_reducible refine bv hc (fun hc=>?_) | with_reducible refine zr ?_)
  all_goals first | (cases hc; done) | (subst hy; first | rfl)
 | succ m IH=>
  intro i lh_0 hm hi hc
  have hlt:i < l8.length:=by omega
  have IH:=IH (i+1)
  have hcast:((i:Int)+1)=((i+1:Nat):Int):=by omega
  have hwr:=zD i (by omega)
  rw [dw hlt] at hc ⊢
  refine zk eb (Qh) (fun id _=>hC id) (MZ _ _ _ _) ?_
  rw [dn] at hc
  generalize hy:cV (l8[i]::l8.drop (i+1)) (i:Int) lh_0=y
  rw [cV] at hy
  simp only [zT hlt,zB hlt,ac l8 _ hlt,hwr,Tr.val_brT,Tr.val_chkT]
  clear hwr
  try simp only [zB hlt] at hy
  simp only [hcast] at hy
  try simp only [zB hlt] at hc
  try simp only [hcast] at hc
  repeat' (first | with_reducible refine eW hy hc (fun _ hy hc=>?_) (fun _ hy hc=>?_) | with_reducible refine ba hy (fun _ hy=>?_) (fun _ hy=>?_) | with_reducible refine bv hc (fun hc=>?_) | with_reducible refine zr ?_)
  all_goals first | (cases hc; done) | (subst hy; first | (change Reach _ _ _ _ _ _; apply IH <;> first | omega | assumption) | rfl)
theorem Pq {C:cH} (hC:∀ id,C.ρ0 id=none) (l8:LV) (lh_0:LS) (hc:dn l8 0 lh_0=true):
  Reach (ky) C 160 (zy Tryz.f160 3) (DY l8 (l8.length:Int) 0 lh_0) (fun r h=>ap h [Sh.str] r=some (cV l8 0 lh_0,())):=
 Reach.len 8 (zf) l8 rfl fun hl=>Vs hC l8 hl _ 0 lh_0 rfl (aV _) hc
def kT (x0:Sem zf.sl):Sem Sh.str:=(cV x0 0 [])
def kU (x0:Sem zf.sl):Bool:=(dn x0 0 [])
def F91:zF:=wm [zf.sl] [Sh.str] [(161,(fun x=>kU x.1),fun x=>(kT x.1,()))]
theorem za9:FK 160 F91:=by
 refine kY (Qh) fun j c g hm x hc C hC=>?_
 simp only [bO,bC] at hm
 obtain ⟨rfl,rfl,rfl⟩:=hm
 replace hc:kU x.1=true:=hc
 unfold kU at hc
 refine zk eb (Qh) (fun id _=>hC id) (zg3 x.1) ?_
 generalize hy:kT x.1=y
 unfold kT at hy
 repeat' (first | with_reducible refine eW hy hc (fun _ hy hc=>?_) (fun _ hy hc=>?_) | with_reducible refine ba hy (fun _ hy=>?_) (fun _ hy=>?_) | with_reducible refine bv hc (fun hc=>?_) | with_reducible refine zr ?_)
 all_goals first | (cases hc; done) | (subst hy; first | (change Reach _ _ _ _ _ _; apply Pq hC <;> first | assumption | exact hc) | rfl)

def KI (g:Sem Sh.expr→Sem Sh.str) (c:Sem Sh.expr→Bool):bt:=ky.add 268 (zG [Sh.expr] [Sh.str] (fun x=>c x.1) fun x=>(g x.1,()))
theorem Iv {g:Sem Sh.expr→Sem Sh.str} {c:Sem Sh.expr→Bool} (hg:FK 268 (zG [Sh.expr] [Sh.str] (fun x=>c x.1) fun x=>(g x.1,()))):zl (KI g c):=eb.add hg
abbrev WN:Nat→ah:=fun _=>{ }
theorem wc (g:Sem Sh.expr→Sem Sh.str) (c:Sem Sh.expr→Bool):zA (KI g c).P 268 Tryz.f268 1:=aQ (by kernel_rfl)
theorem VY (g:Sem Sh.expr→Sem Sh.str) (c:Sem Sh.expr→Bool) (x0:Sem Sh.expr):rn (KI g c) 0 WN Tryz.f268 [zz Sh.expr x0] []=Tr.br (ze.op x0==[108,105,116]) (Tr.chk (lL (ze.v x0)) (Tr.ok (zt.ret (AV.str (gy (ze.v x0))) []))) (Tr.br (ze.op x0==[99,111,108]) (Tr.ok (zt.ret (AV.str (ze.s x0)) [])) (Tr.br (ze.op x0==[110,111,116]) (Tr.chk (zI 0 (ze.l x0).length) (Tr.chk (c (zE ((ze.l x0).getD (toNat 0) (zj Sh.expr)))) (Tr.chk (decide ([40,78,79,84,32].length+length (g (zE ((ze.l x0).getD (toNat 0) (zj Sh.expr))))≤1099511627776)) (Tr.chk (decide (length ([40,78,79,84,32]++g (zE ((ze.l x0).getD (toNat 0) (zj Sh.expr))))+[41].length≤1099511627776)) (Tr.ok (zt.ret (AV.str ([40,78,79,84,32]++g (zE ((ze.l x0).getD (toNat 0) (zj Sh.expr)))++[41])) [])))))) (Tr.br (ze.op x0==[110,117,108,108]) (Tr.chk (zI 0 (ze.l x0).length) (Tr.chk (c (zE ((ze.l x0).getD (toNat 0) (zj Sh.expr)))) (Tr.chk (decide ([40].length+length (g (zE ((ze.l x0).getD (toNat 0) (zj Sh.expr))))≤1099511627776)) (Tr.chk (decide (length ([40]++g (zE ((ze.l x0).getD (toNat 0) (zj Sh.expr))))+[32,73,83,32,78,85,76,76,41].length≤1099511627776)) (Tr.ok (zt.ret (AV.str ([40]++g
 (zE ((ze.l x0).getD (toNat 0) (zj Sh.expr)))++[32,73,83,32,78,85,76,76,41])) [])))))) (Tr.chk (zI 0 (ze.l x0).length) (Tr.chk (c (zE ((ze.l x0).getD (toNat 0) (zj Sh.expr)))) (Tr.chk (decide ([40].length+length (g (zE ((ze.l x0).getD (toNat 0) (zj Sh.expr))))≤1099511627776)) (Tr.chk (decide (length ([40]++g (zE ((ze.l x0).getD (toNat 0) (zj Sh.expr))))+[32].length≤1099511627776)) (Tr.chk (decide (length (ze.op x0)≤140737488355328)&&List.all (ze.op x0) fun b=>decide (b.toNat < 128)) (Tr.chk (decide (length ([40]++g (zE ((ze.l x0).getD (toNat 0) (zj Sh.expr)))++[32])+(Lib.toUpperA (ze.op x0)).length≤1099511627776)) (Tr.chk (decide (length ([40]++g (zE ((ze.l x0).getD (toNat 0) (zj Sh.expr)))++[32]++Lib.toUpperA (ze.op x0))+[32].length≤1099511627776)) (Tr.chk (zI 1 (ze.l x0).length) (Tr.chk (c (zE ((ze.l x0).getD (toNat 1) (zj Sh.expr)))) (Tr.chk (decide (length ([40]++g (zE ((ze.l x0).getD (toNat 0) (zj Sh.expr)))++[32]++Lib.toUpperA (ze.op x0)++[32])+length (g (zE ((ze.l x0).getD (toNat 1) (zj Sh.expr))))≤1099511627776)) (Tr.chk (decide (length ([40]++g (zE ((ze.l x0).getD (toNat 0) (zj Sh.expr)))++[32]++Lib.toUpperA (ze.op x0)++[32]++g (zE ((ze.l x0).getD (toNat 1) (zj Sh.expr))))+[41].length≤1099511627776)) (Tr.ok
 (zt.ret (AV.str ([40]++g (zE ((ze.l x0).getD (toNat 0) (zj Sh.expr)))++[32]++Lib.toUpperA (ze.op x0)++[32]++g (zE ((ze.l x0).getD (toNat 1) (zj Sh.expr)))++[41])) [])))))))))))))))):=by kernel_rfl
def uG (g:Sem Sh.expr→Sem Sh.str) (_:Sem Sh.expr→Bool) (x0:Sem Sh.expr):Sem Sh.str:=(if (ze.op x0==[108,105,116])=true then gy (ze.v x0) else if (ze.op x0==[99,111,108])=true then ze.s x0 else if (ze.op x0==[110,111,116])=true then [40,78,79,84,32]++g ((ze.l x0).getD (toNat 0) (zj Sh.expr))++[41] else if (ze.op x0==[110,117,108,108])=true then [40]++g ((ze.l x0).getD (toNat 0) (zj Sh.expr))++[32,73,83,32,78,85,76,76,41] else [40]++g ((ze.l x0).getD (toNat 0) (zj Sh.expr))++[32]++Lib.toUpperA (ze.op x0)++[32]++g ((ze.l x0).getD (toNat 1) (zj Sh.expr))++[41])
def td (g:Sem Sh.expr→Sem Sh.str) (c:Sem Sh.expr→Bool) (x0:Sem Sh.expr):Bool:=(if (ze.op x0==[108,105,116])=true then if lL (ze.v x0)=true then true else false else if (ze.op x0==[99,111,108])=true then true else if (ze.op x0==[110,111,116])=true then if zI 0 (ze.l x0).length=true then if c ((ze.l x0).getD (toNat 0) (zj Sh.expr))=true then if decide ([40,78,79,84,32].length+length (g ((ze.l x0).getD (toNat 0) (zj Sh.expr)))≤1099511627776)=true then if decide (length ([40,78,79,84,32]++g ((ze.l x0).getD (toNat 0) (zj Sh.expr)))+[41].length≤1099511627776)=true then true else false else false else false else false else if (ze.op x0==[110,117,108,108])=true then if zI 0 (ze.l x0).length=true then if c ((ze.l x0).getD (toNat 0) (zj Sh.expr))=true then if decide ([40].length+length (g ((ze.l x0).getD (toNat 0) (zj Sh.expr)))≤1099511627776)=true then if decide (length ([40]++g ((ze.l x0).getD (toNat 0) (zj Sh.expr)))+[32,73,83,32,78,85,76,76,41].length≤1099511627776)=true then true else false else false else false else false else if zI 0 (ze.l x0).length=true then if c ((ze.l x0).getD (toNat 0) (zj Sh.expr))=true then if decide ([40].length+length (g ((ze.l x0).getD (toNat 0) (zj Sh.expr)))≤1099511627776)=true then
 if decide (length ([40]++g ((ze.l x0).getD (toNat 0) (zj Sh.expr)))+[32].length≤1099511627776)=true then if (decide (length (ze.op x0)≤140737488355328)&&List.all (ze.op x0) fun b=>decide (b.toNat < 128))=true then if decide (length ([40]++g ((ze.l x0).getD (toNat 0) (zj Sh.expr))++[32])+(Lib.toUpperA (ze.op x0)).length≤1099511627776)=true then if decide (length ([40]++g ((ze.l x0).getD (toNat 0) (zj Sh.expr))++[32]++Lib.toUpperA (ze.op x0))+[32].length≤1099511627776)=true then if zI 1 (ze.l x0).length=true then if c ((ze.l x0).getD (toNat 1) (zj Sh.expr))=true then if decide (length ([40]++g ((ze.l x0).getD (toNat 0) (zj Sh.expr))++[32]++Lib.toUpperA (ze.op x0)++[32])+length (g ((ze.l x0).getD (toNat 1) (zj Sh.expr)))≤1099511627776)=true then if decide (length ([40]++g ((ze.l x0).getD (toNat 0) (zj Sh.expr))++[32]++Lib.toUpperA (ze.op x0)++[32]++g ((ze.l x0).getD (toNat 1) (zj Sh.expr)))+[41].length≤1099511627776)=true then true else false else false else false else false else false else false else false else false else false else false else false)
def YW (g:Sem Sh.expr→Sem Sh.str) (c:Sem Sh.expr→Bool):zF:=zG [Sh.expr] [Sh.str] (fun x=>td g c x.1) fun x=>(uG g c x.1,())
theorem OR (g:Sem Sh.expr→Sem Sh.str) (c:Sem Sh.expr→Bool) (hg:FK 268 (zG [Sh.expr] [Sh.str] (fun x=>c x.1) fun x=>(g x.1,()))):FK 268 (YW g c):=by
 refine zQ (wc g c) fun x hc C hC=>?_
 unfold td at hc
 refine zk (Iv hg) (wc g c) (fun id _=>hC id) (VY g c x.1) ?_
 generalize hy:uG g c x.1=y
 unfold uG at hy
 try simp only [ze.eta]
 repeat' (first | with_reducible refine eW hy hc (fun _ hy hc=>?_) (fun _ hy hc=>?_) | with_reducible refine ba hy (fun _ hy=>?_) (fun _ hy=>?_) | with_reducible refine bv hc (fun hc=>?_) | with_reducible refine zr ?_)
 all_goals first | (cases hc; done) | (subst hy; first | rfl)
mutual
def gB:Nat→Sem Sh.expr→Sem Sh.str
 | 0=>fun _=>default
 | n+1=>uG (gB n) (gS n)
def gS:Nat→Sem Sh.expr→Bool
 | 0=>fun _=>false
 | n+1=>td (gB n) (gS n)
end
theorem Gn:∀ n,FK 268 (zG [Sh.expr] [Sh.str] (fun x=>gS n x.1) fun x=>(gB n x.1,()))
 | 0=>dv ⟨Tryz.f268,(wc default default).1,(wc default default).2.1,(wc default default).2.2.1⟩ (fun _=>rfl)
 | n+1=>OR (gB n) (gS n) (Gn n)
def YV:zF:=zG [Sh.expr] [Sh.str] (fun x=>gS 16 x.1) fun x=>(gB 16 x.1,())
theorem TU:FK 268 YV:=Gn 16

def eC:=ky.addL [(253,YM),(255,YO),(220,YA),(215,Yv),(217,Yx),(160,F91),(268,YV)]
theorem cy:zl eC:=eb.addL <| fc TK <| fc TM <| fc Ty <| fc Tt <| fc Tv <| fc za9 <| fc TU jf
end

abbrev qr (l:LC) (i:Int):St:={ tmps:=[.sl zi l,.clo (.func 253) [] [.ptr 0 0],.any,.any,.any,.any,.any,.int .i64 l.length,.int .i64 i,.any,.any,.any,.any,.any,.any,.any,.any,.any,.any],heap:=[.box [.clo (.func 210) [] []]] }
theorem IW (l:LC):run eC 1 mg Tryz.f126.results.toList 300 (aB Tryz.f126) (aq Tryz.f126.ntmps [.sl zi l,.clo (.func 253) [] [.ptr 0 0]] [.box [.clo (.func 210) [] []]])=.ok (.head 2 (zy Tryz.f126 2) (qr l 0)):=by kernel_rfl
theorem Jh (l:LC) (i:Int):run eC 1 mg Tryz.f126.results.toList 300 (zy Tryz.f126 2) (qr l i)=iA (K:=zy Tryz.f126 2) (e:=zi) l (fun x => !g7 x) (qr l) [.box [.clo (.func 210) [] []]] i:=by kernel_rfl

theorem MJ:zA eC.P 126 Tryz.f126 2:=aQ (by kernel_rfl)
def zbp:cF [some (.sl zi),none]:=fun x h=>match x,h with
 | (l,.clo (.func 253) [] [.ptr 0 0],_),[.box [.clo (.func 210) [] []]]=>.ok (.int .i64 (zL (fun x => !g7 x) l 0),[.box [.clo (.func 210) [] []]])
 | _,_=>.err
def Za:zF:=zU [some (.sl zi),none] zbp
theorem Ud:FK 126 Za:=by
 refine bA MJ fun x h0 res hx C hC=>?_
 unfold zbp at hx
 split at hx
 ·rename_i l u
  simp only [Tr.val_ok,ao] at hx
  subst hx
  refine Reach.len 0 zi l rfl fun hl=>?_
  refine zk (n0:=1) cy MJ hC (IW l) ?_
  exact eQ l (fun x => !g7 x) (qr l) cy MJ hC (Jh l) hl _ 0 rfl (aV _)
 ·simp at hx

abbrev qq (l:List (Sem bI)) (i:Int):St:={ tmps:=[.sl bI l,.clo (.func 255) [] [.ptr 0 0],.any,.any,.any,.any,.any,.int .i64 l.length,.int .i64 i,.any,.any,.any,.any,.any,.any,.any,.any,.any,.any],heap:=[.box [.clo (.func 211) [] []]] }
theorem IV (l:List (Sem bI)):run eC 1 mg Tryz.f279.results.toList 300 (aB Tryz.f279) (aq Tryz.f279.ntmps [.sl bI l,.clo (.func 255) [] [.ptr 0 0]] [.box [.clo (.func 211) [] []]])=.ok (.head 2 (zy Tryz.f279 2) (qq l 0)):=by kernel_rfl
theorem Jg (l:List (Sem bI)) (i:Int):run eC 1 mg Tryz.f279.results.toList 300 (zy Tryz.f279 2) (qq l i)=iA (K:=zy Tryz.f279 2) (e:=bI) l (fun x => !mX x) (qq l) [.box [.clo (.func 211) [] []]] i:=by kernel_rfl

theorem MF:zA eC.P 279 Tryz.f279 2:=aQ (by kernel_rfl)
def zbo:cF [some (.sl bI),none]:=fun x h=>match x,h with
 | (l,.clo (.func 255) [] [.ptr 0 0],_),[.box [.clo (.func 211) [] []]]=>.ok (.int .i64 (zL (fun x => !mX x) l 0),[.box [.clo (.func 211) [] []]])
 | _,_=>.err
def YY:zF:=zU [some (.sl bI),none] zbo
theorem TW:FK 279 YY:=by
 refine bA MF fun x h0 res hx C hC=>?_
 unfold zbo at hx
 split at hx
 ·rename_i l u
  simp only [Tr.val_ok,ao] at hx
  subst hx
  refine Reach.len 0 bI l rfl fun hl=>?_
  refine zk (n0:=1) cy MF hC (IV l) ?_
  exact eQ l (fun x => !mX x) (qq l) cy MF hC (Jg l) hl _ 0 rfl (aV _)
 ·simp at hx

abbrev qo (l:LS) (i:Int):St:={ tmps:=[.sl Sh.str l,.clo (.func 220) [] [.ptr 0 0],.any,.any,.any,.any,.any,.int .i64 l.length,.int .i64 i,.any,.any,.any,.any,.any,.any,.any,.any,.any,.any],heap:=[.box [.clo (.func 149) [] []]] }
theorem IU (l:LS):run eC 1 mg Tryz.f258.results.toList 300 (aB Tryz.f258) (aq Tryz.f258.ntmps [.sl Sh.str l,.clo (.func 220) [] [.ptr 0 0]] [.box [.clo (.func 149) [] []]])=.ok (.head 2 (zy Tryz.f258 2) (qo l 0)):=by kernel_rfl
theorem Jf (l:LS) (i:Int):run eC 1 mg Tryz.f258.results.toList 300 (zy Tryz.f258 2) (qo l i)=iA (K:=zy Tryz.f258 2) (e:=Sh.str) l (fun x => !bE x) (qo l) [.box [.clo (.func 149) [] []]] i:=by kernel_rfl

theorem ME:zA eC.P 258 Tryz.f258 2:=aQ (by kernel_rfl)
def zbn:cF [some (.sl Sh.str),none]:=fun x h=>match x,h with
 | (l,.clo (.func 220) [] [.ptr 0 0],_),[.box [.clo (.func 149) [] []]]=>.ok (.int .i64 (zL (fun x => !bE x) l 0),[.box [.clo (.func 149) [] []]])
 | _,_=>.err
def YR:zF:=zU [some (.sl Sh.str),none] zbn
theorem TP:FK 258 YR:=by
 refine bA ME fun x h0 res hx C hC=>?_
 unfold zbn at hx
 split at hx
 ·rename_i l u
  simp only [Tr.val_ok,ao] at hx
  subst hx
  refine Reach.len 0 Sh.str l rfl fun hl=>?_
  refine zk (n0:=1) cy ME hC (IU l) ?_
  exact eQ l (fun x => !bE x) (qo l) cy ME hC (Jf l) hl _ 0 rfl (aV _)
 ·simp at hx

abbrev qm (l:LV) (i:Int):St:={ tmps:=[.sl zf l,.clo (.func 215) [] [.ptr 0 0],.any,.any,.any,.any,.any,.int .i64 l.length,.int .i64 i,.any,.any,.any,.any,.any,.any,.any,.any,.any,.any],heap:=[.box [.clo (.func 94) [] []]] }
theorem IS (l:LV):run eC 1 mg Tryz.f256.results.toList 300 (aB Tryz.f256) (aq Tryz.f256.ntmps [.sl zf l,.clo (.func 215) [] [.ptr 0 0]] [.box [.clo (.func 94) [] []]])=.ok (.head 2 (zy Tryz.f256 2) (qm l 0)):=by kernel_rfl
theorem Jd (l:LV) (i:Int):run eC 1 mg Tryz.f256.results.toList 300 (zy Tryz.f256 2) (qm l i)=iA (K:=zy Tryz.f256 2) (e:=zf) l (fun x => !gr x) (qm l) [.box [.clo (.func 94) [] []]] i:=by kernel_rfl

theorem MC:zA eC.P 256 Tryz.f256 2:=aQ (by kernel_rfl)
def zbl:cF [some (.sl zf),none]:=fun x h=>match x,h with
 | (l,.clo (.func 215) [] [.ptr 0 0],_),[.box [.clo (.func 94) [] []]]=>.ok (.int .i64 (zL (fun x => !gr x) l 0),[.box [.clo (.func 94) [] []]])
 | _,_=>.err
def YP:zF:=zU [some (.sl zf),none] zbl
theorem TN:FK 256 YP:=by
 refine bA MC fun x h0 res hx C hC=>?_
 unfold zbl at hx
 split at hx
 ·rename_i l u
  simp only [Tr.val_ok,ao] at hx
  subst hx
  refine Reach.len 0 zf l rfl fun hl=>?_
  refine zk (n0:=1) cy MC hC (IS l) ?_
  exact eQ l (fun x => !gr x) (qm l) cy MC hC (Jd l) hl _ 0 rfl (aV _)
 ·simp at hx

abbrev qn (l:List (Sem aN)) (i:Int):St:={ tmps:=[.sl aN l,.clo (.func 217) [] [.ptr 0 0],.any,.any,.any,.any,.any,.int .i64 l.length,.int .i64 i,.any,.any,.any,.any,.any,.any,.any,.any,.any,.any],heap:=[.box [.clo (.func 152) [] []]] }
theorem IT (l:List (Sem aN)):run eC 1 mg Tryz.f257.results.toList 300 (aB Tryz.f257) (aq Tryz.f257.ntmps [.sl aN l,.clo (.func 217) [] [.ptr 0 0]] [.box [.clo (.func 152) [] []]])=.ok (.head 2 (zy Tryz.f257 2) (qn l 0)):=by kernel_rfl
theorem Je (l:List (Sem aN)) (i:Int):run eC 1 mg Tryz.f257.results.toList 300 (zy Tryz.f257 2) (qn l i)=iA (K:=zy Tryz.f257 2) (e:=aN) l (fun x => !wW x) (qn l) [.box [.clo (.func 152) [] []]] i:=by kernel_rfl

theorem MD:zA eC.P 257 Tryz.f257 2:=aQ (by kernel_rfl)
def zbm:cF [some (.sl aN),none]:=fun x h=>match x,h with
 | (l,.clo (.func 217) [] [.ptr 0 0],_),[.box [.clo (.func 152) [] []]]=>.ok (.int .i64 (zL (fun x => !wW x) l 0),[.box [.clo (.func 152) [] []]])
 | _,_=>.err
def YQ:zF:=zU [some (.sl aN),none] zbm
theorem TO:FK 257 YQ:=by
 refine bA MD fun x h0 res hx C hC=>?_
 unfold zbm at hx
 split at hx
 ·rename_i l u
  simp only [Tr.val_ok,ao] at hx
  subst hx
  refine Reach.len 0 aN l rfl fun hl=>?_
  refine zk (n0:=1) cy MD hC (IT l) ?_
  exact eQ l (fun x => !wW x) (qn l) cy MD hC (Je l) hl _ 0 rfl (aV _)
 ·simp at hx

abbrev zdk:Nat→ah:=fun _=>{ }
theorem SW:zA (eC).P 232 Tryz.f232 1:=aQ (by kernel_rfl)
theorem zch (x0:Sem Sh.expr):rn eC 0 zdk Tryz.f232 [zz Sh.expr x0] []=Tr.br (!j7 (zE x0)) (Tr.ok (zt.ret (AV.tup [AV.str [],ai 1]) [])) (Tr.chk (gS 16 (zE x0)) (Tr.ok (zt.ret (AV.tup [AV.str (gB 16 (zE x0)),ai 0]) []))):=by kernel_rfl
def mC (x0:Sem Sh.expr):Sem Sh.str×Sem zg:=(if (!j7 x0)=true then ([],1) else (gB 16 x0,0))
def nt (x0:Sem Sh.expr):Bool:=(if (!j7 x0)=true then true else if gS 16 x0=true then true else false)
def YH:zF:=zG [Sh.expr] [Sh.str,zg] (fun x=>nt x.1) fun x=>((mC x.1).1,(mC x.1).2,())
theorem TF:FK 232 YH:=by
 refine zQ (SW) fun x hc C hC=>?_
 unfold nt at hc
 refine zk cy (SW) (fun id _=>hC id) (zch x.1) ?_
 generalize hy:mC x.1=y
 unfold mC at hy
 try simp only [ze.eta]
 repeat' (first | with_reducible refine eW hy hc (fun _ hy hc=>?_) (fun _ hy hc=>?_) | with_reducible refine ba hy (fun _ hy=>?_) (fun _ hy=>?_) | with_reducible refine bv hc (fun hc=>?_) | with_reducible refine zr ?_)
 all_goals first | (cases hc; done) | (subst hy; first | rfl)

abbrev zdC:Nat→ah:=fun j=>if j=3 then { slots:=[0,4,5],prom:=[(4,none,ej)] } else { }
abbrev DU (s0:TS) (i5:Int) (lh_0:LF):St:={ tmps:=(tm 47 [(0,AV.str s0),(4,AV.vec 0),(5,ai i5)]),heap:=[AO.vec zq lh_0] }
theorem Xm:zA (eC).P 91 Tryz.f91 1:=aQ (by kernel_rfl)
theorem zgR (x0:TS):rn eC 0 zdC Tryz.f91 [zz Sh.str x0] []=Tr.ok (zt.head 3 (zy Tryz.f91 3) (DU x0 0 [])):=by kernel_rfl
theorem Xx (s0:TS) (i5:Int) (lh_0:LF):rh eC 0 zdC Tryz.f91 3 (DU s0 i5 lh_0)=Tr.br (decide (i5 < (↑(length s0):Int))) (Tr.chk (zI i5 (length s0)&&bif (↑(getD s0 i5.toNat 0).toNat:Int)==32 then true else zI i5 (length s0)) (Tr.br (bif (↑(getD s0 i5.toNat 0).toNat:Int)==32 then true else (↑(getD s0 i5.toNat 0).toNat:Int)==10) (Tr.ok (zt.head 3 (zy Tryz.f91 3) (DU s0 (IntKind.i64.wrap (i5+1)) lh_0))) (Tr.chk (decide (0≤i5)&&decide (i5≤(↑(length s0):Int))&&decide ((↑(length s0):Int)≤(↑(length s0):Int))) (Tr.chk (jh (List.take ((↑(length s0):Int).toNat - i5.toNat) (List.drop i5.toNat s0))) (Tr.chk (nS (bp (List.take ((↑(length s0):Int).toNat - i5.toNat) (List.drop i5.toNat s0))).1) (Tr.br (bif !jB (bp (List.take ((↑(length s0):Int).toNat - i5.toNat) (List.drop i5.toNat s0))).1 then true else (↑lh_0.length:Int)==400) (Tr.ok (zt.ret (AV.tup [AV.nils,ai 2]) [])) (Tr.chk (decide (lh_0.length+[(bp (List.take ((↑(length s0):Int).toNat - i5.toNat) (List.drop i5.toNat s0))).1].length≤1073741824)) (Tr.ok (zt.head 3 (zy Tryz.f91 3) (DU s0 (IntKind.i64.wrap (i5+(bp (List.take ((↑(length s0):Int).toNat - i5.toNat) (List.drop i5.toNat s0))).2))
 (lh_0++[(bp (List.take ((↑(length s0):Int).toNat - i5.toNat) (List.drop i5.toNat s0))).1]))))))))))) (Tr.ok (zt.ret (AV.tup [AV.vec 0,ai 0]) [AO.vec zq lh_0])):=by kernel_rfl
def uu:Nat→(Sem Sh.str)→Int→(List (Sem zq))→Sem ej.sl×Sem zg
 | 0,_,_,_=>default
 | n+1,s0,i5,lh_0=>(if decide (i5 < (↑(length s0):Int))=true then
 if (bif (↑(getD s0 i5.toNat 0).toNat:Int)==32 then true else (↑(getD s0 i5.toNat 0).toNat:Int)==10)=true then
  uu n s0 (IntKind.i64.wrap (i5+1)) lh_0
 else
  if
    (bif !jB (bp (List.take ((↑(length s0):Int).toNat - i5.toNat) (List.drop i5.toNat s0))).1 then true
     else (↑lh_0.length:Int)==400)=
     true then
   ([],2)
  else
   uu n s0 (IntKind.i64.wrap (i5+(bp (List.take ((↑(length s0):Int).toNat - i5.toNat) (List.drop i5.toNat s0))).2))
    (lh_0++[(bp (List.take ((↑(length s0):Int).toNat - i5.toNat) (List.drop i5.toNat s0))).1])
else (lh_0,0))
def oK:Nat→(Sem Sh.str)→Int→(List (Sem zq))→Bool
 | 0,_,_,_=>false
 | n+1,s0,i5,lh_0=>(if decide (i5 < (↑(length s0):Int))=true then
 if (zI i5 (length s0)&&bif (↑(getD s0 i5.toNat 0).toNat:Int)==32 then true else zI i5 (length s0))=true then
  if (bif (↑(getD s0 i5.toNat 0).toNat:Int)==32 then true else (↑(getD s0 i5.toNat 0).toNat:Int)==10)=true then
   oK n s0 (IntKind.i64.wrap (i5+1)) lh_0
  else
   if (decide (0≤i5)&&decide (i5≤(↑(length s0):Int))&&decide ((↑(length s0):Int)≤(↑(length s0):Int)))=true then
    if jh (List.take ((↑(length s0):Int).toNat - i5.toNat) (List.drop i5.toNat s0))=true then
     if nS (bp (List.take ((↑(length s0):Int).toNat - i5.toNat) (List.drop i5.toNat s0))).1=true then
      if
        (bif !jB (bp (List.take ((↑(length s0):Int).toNat - i5.toNat) (List.drop i5.toNat s0))).1 then true
         else (↑lh_0.length:Int)==400)=
         true then
       true
      else
       if
         decide (lh_0.length+[(bp (List.take ((↑(length s0):Int).toNat - i5.toNat) (List.drop i5.toNat s0))).1].length≤1073741824)=
          true then
        oK n s0 (IntKind.i64.wrap (i5+(bp (List.take ((↑(length s0):Int).toNat - i5.toNat) (List.drop i5.toNat s0))).2))
         (lh_0++[(bp (List.take ((↑(length s0):Int).toNat - i5.toNat) (List.drop i5.toNat s0))).1])
       else false
     else false
    else false
   else false
 else false
else true)
theorem Kf {C:cH} (hC:∀ id,C.ρ0 id=none):∀ (n:Nat) (s0:TS) (i5:Int) (lh_0:LF),oK n s0 i5 lh_0=true→
  Reach (eC) C 91 (zy Tryz.f91 3) (DU s0 i5 lh_0) (fun r h=>ap h [ej.sl,zg] r=some ((uu n s0 i5 lh_0).1,(uu n s0 i5 lh_0).2,()))
 | 0,s0,i5,lh_0,hc=>by cases hc
 | n+1,s0,i5,lh_0,hc=>by
  refine zk cy (Xm) (fun id _=>hC id) (Xx _ _ _) ?_
  rw [oK] at hc
  generalize hy:uu (n+1) s0 i5 lh_0=y
  rw [uu] at hy
  try simp only [ze.eta,zp]
  repeat' (first | with_reducible refine eW hy hc (fun _ hy hc=>?_) (fun _ hy hc=>?_) | with_reducible refine ba hy (fun _ hy=>?_) (fun _ hy=>?_) | with_reducible refine bv hc (fun hc=>?_) | with_reducible refine zr ?_)
  all_goals first | (cases hc; done) | (subst hy; first | (change Reach _ _ _ _ _ _; refine Kf hC n _ _ _ ?_ <;> exact hc) | rfl)
def cut (x0:TS):Sem ej.sl×Sem zg:=(uu (length x0+1) x0 0 [])
def Kn (x0:TS):Bool:=(oK (length x0+1) x0 0 [])
def F69:zF:=zG [Sh.str] [ej.sl,zg] (fun x=>Kn x.1) fun x=>((cut x.1).1,(cut x.1).2,())
theorem zaM:FK 91 F69:=by
 refine zQ (Xm) fun x hc C hC=>?_
 unfold Kn at hc
 refine zk cy (Xm) (fun id _=>hC id) (zgR x.1) ?_
 generalize hy:cut x.1=y
 unfold cut at hy
 try simp only [ze.eta,zp]
 repeat' (first | with_reducible refine eW hy hc (fun _ hy hc=>?_) (fun _ hy hc=>?_) | with_reducible refine ba hy (fun _ hy=>?_) (fun _ hy=>?_) | with_reducible refine bv hc (fun hc=>?_) | with_reducible refine zr ?_)
 all_goals first | (cases hc; done) | (subst hy; first | (change Reach _ _ _ _ _ _; refine Kf hC _ _ _ _ ?_ <;> exact hc) | rfl)

noncomputable def pH:=eC.addL [(126,Za),(279,YY),(258,YR),(256,YP),(257,YQ),(232,YH),(91,F69)]
theorem gH:zl pH:=cy.addL <| fc Ud <| fc TW <| fc TP <| fc TN <| fc TO <| fc TF <| fc zaM jf

noncomputable def YL:zF:=zU (List.replicate 2 none) (bZ pH Tryz.f252 (List.replicate 2 none))
theorem TJ:FK 252 YL:=au _ gH (aQ (by kernel_rfl))

noncomputable def YN:zF:=zU (List.replicate 2 none) (bZ pH Tryz.f254 (List.replicate 2 none))
theorem TL:FK 254 YN:=au _ gH (aQ (by kernel_rfl))

noncomputable def Yz:zF:=zU (List.replicate 2 none) (bZ pH Tryz.f219 (List.replicate 2 none))
theorem Tx:FK 219 Yz:=au _ gH (aQ (by kernel_rfl))

noncomputable def Yt:zF:=zU (List.replicate 2 none) (bZ pH Tryz.f214 (List.replicate 2 none))
theorem Tq:FK 214 Yt:=au _ gH (aQ (by kernel_rfl))

noncomputable def Yw:zF:=zU (List.replicate 2 none) (bZ pH Tryz.f216 (List.replicate 2 none))
theorem Tu:FK 216 Yw:=au _ gH (aQ (by kernel_rfl))

abbrev zhM:Nat→ah:=fun _=>{ }
theorem zeK:zA (pH).P 163 Tryz.f163 1:=aQ (by kernel_rfl)
theorem zg6 (x0:Sem Sh.expr):rn pH 0 zhM Tryz.f163 [zz Sh.expr x0] []=Tr.chk (nt (zE x0)) (Tr.ok (zt.ret (AV.str (mC (zE x0)).1) [])):=by kernel_rfl
def cW (x0:Sem Sh.expr):Sem Sh.str:=((mC x0).1)
def gm (x0:Sem Sh.expr):Bool:=(if nt x0=true then true else false)
def F94:zF:=zG [Sh.expr] [Sh.str] (fun x=>gm x.1) fun x=>(cW x.1,())
theorem zbc:FK 163 F94:=by
 refine zQ (zeK) fun x hc C hC=>?_
 unfold gm at hc
 refine zk gH (zeK) (fun id _=>hC id) (zg6 x.1) ?_
 generalize hy:cW x.1=y
 unfold cW at hy
 try simp only [ze.eta]
 repeat' (first | with_reducible refine eW hy hc (fun _ hy hc=>?_) (fun _ hy hc=>?_) | with_reducible refine ba hy (fun _ hy=>?_) (fun _ hy=>?_) | with_reducible refine bv hc (fun hc=>?_) | with_reducible refine zr ?_)
 all_goals first | (cases hc; done) | (subst hy; first | rfl)

noncomputable def kz:=pH.addL [(252,YL),(254,YN),(219,Yz),(214,Yt),(216,Yw),(163,F94)]
theorem eM:zl kz:=gH.addL <| fc TJ <| fc TL <| fc Tx <| fc Tq <| fc Tu <| fc zbc jf

noncomputable def Yr:zF:=zU (List.replicate 4 none) (bZ kz Tryz.f212 (List.replicate 4 none))
theorem To:FK 212 Yr:=au _ eM (aQ (by kernel_rfl))

noncomputable def Ys:zF:=zU (List.replicate 4 none) (bZ kz Tryz.f213 (List.replicate 4 none))
theorem Tp:FK 213 Ys:=au _ eM (aQ (by kernel_rfl))

noncomputable def F86:zF:=zU (List.replicate 4 none) (bZ kz Tryz.f155 (List.replicate 4 none))
theorem za3:FK 155 F86:=au _ eM (aQ (by kernel_rfl))

noncomputable def F82:zF:=zU (List.replicate 4 none) (bZ kz Tryz.f151 (List.replicate 4 none))
theorem zaZ:FK 151 F82:=au _ eM (aQ (by kernel_rfl))

noncomputable def F84:zF:=zU (List.replicate 4 none) (bZ kz Tryz.f153 (List.replicate 4 none))
theorem za1:FK 153 F84:=au _ eM (aQ (by kernel_rfl))

abbrev zhN:Nat→ah:=fun _=>{ }
theorem zeL:zA (kz).P 165 Tryz.f165 1:=aQ (by kernel_rfl)
theorem zg8 (x0:Sem Sh.expr):rn kz 0 zhN Tryz.f165 [zz Sh.expr x0] []=Tr.br (jn (zE x0)) (Tr.ok (zt.ret (AV.str []) [])) (Tr.chk (gm (zE x0)) (Tr.chk (decide ([32,87,72,69,82,69,32].length+length (cW (zE x0))≤1099511627776)) (Tr.ok (zt.ret (AV.str ([32,87,72,69,82,69,32]++cW (zE x0))) [])))):=by kernel_rfl
def Av (x0:Sem Sh.expr):Sem Sh.str:=(if jn x0=true then [] else [32,87,72,69,82,69,32]++cW x0)
def xl (x0:Sem Sh.expr):Bool:=(if jn x0=true then true else if gm x0=true then if decide ([32,87,72,69,82,69,32].length+length (cW x0)≤1099511627776)=true then true else false else false)
def F96:zF:=zG [Sh.expr] [Sh.str] (fun x=>xl x.1) fun x=>(Av x.1,())
theorem zbe:FK 165 F96:=by
 refine zQ (zeL) fun x hc C hC=>?_
 unfold xl at hc
 refine zk eM (zeL) (fun id _=>hC id) (zg8 x.1) ?_
 generalize hy:Av x.1=y
 unfold Av at hy
 try simp only [ze.eta]
 repeat' (first | with_reducible refine eW hy hc (fun _ hy hc=>?_) (fun _ hy hc=>?_) | with_reducible refine ba hy (fun _ hy=>?_) (fun _ hy=>?_) | with_reducible refine bv hc (fun hc=>?_) | with_reducible refine zr ?_)
 all_goals first | (cases hc; done) | (subst hy; first | rfl)

abbrev zhO:Nat→ah:=fun _=>{ }
theorem zeM:zA (kz).P 167 Tryz.f167 2:=aQ (by kernel_rfl)
theorem zha (x0:TS) (x1:Sem Sh.expr):rn kz 0 zhO Tryz.f167 [zz Sh.str x0,zz Sh.expr x1] []=Tr.br (jn (zE x1)) (Tr.ok (zt.ret (AV.str []) [])) (Tr.chk (decide (length x0+[67,72,69,67,75,32,40,32].length≤1099511627776)) (Tr.chk (gm (zE x1)) (Tr.chk (decide (length (x0++[67,72,69,67,75,32,40,32])+length (cW (zE x1))≤1099511627776)) (Tr.chk (decide (length (x0++[67,72,69,67,75,32,40,32]++cW (zE x1))+[32,41].length≤1099511627776)) (Tr.ok (zt.ret (AV.str (x0++[67,72,69,67,75,32,40,32]++cW (zE x1)++[32,41])) [])))))):=by kernel_rfl
def iz (x0:TS) (x1:Sem Sh.expr):Sem Sh.str:=(if jn x1=true then [] else x0++[67,72,69,67,75,32,40,32]++cW x1++[32,41])
def ll (x0:TS) (x1:Sem Sh.expr):Bool:=(if jn x1=true then true else if decide (length x0+[67,72,69,67,75,32,40,32].length≤1099511627776)=true then if gm x1=true then if decide (length (x0++[67,72,69,67,75,32,40,32])+length (cW x1)≤1099511627776)=true then if decide (length (x0++[67,72,69,67,75,32,40,32]++cW x1)+[32,41].length≤1099511627776)=true then true else false else false else false else false)
def F98:zF:=zG [Sh.str,Sh.expr] [Sh.str] (fun x=>ll x.1 x.2.1) fun x=>(iz x.1 x.2.1,())
theorem zbg:FK 167 F98:=by
 refine zQ (zeM) fun x hc C hC=>?_
 unfold ll at hc
 refine zk eM (zeM) (fun id _=>hC id) (zha x.1 x.2.1) ?_
 generalize hy:iz x.1 x.2.1=y
 unfold iz at hy
 try simp only [ze.eta]
 repeat' (first | with_reducible refine eW hy hc (fun _ hy hc=>?_) (fun _ hy hc=>?_) | with_reducible refine ba hy (fun _ hy=>?_) (fun _ hy=>?_) | with_reducible refine bv hc (fun hc=>?_) | with_reducible refine zr ?_)
 all_goals first | (cases hc; done) | (subst hy; first | rfl)

abbrev zhL:Nat→ah:=fun _=>{ }
theorem zeJ:zA (kz).P 162 Tryz.f162 1:=aQ (by kernel_rfl)
theorem zg5 (x0:Sem aN):rn kz 0 zhL Tryz.f162 [zz aN x0] []=Tr.chk (decide (length x0.1+[32,61,32].length≤1099511627776)) (Tr.chk (gm (zE x0.2)) (Tr.chk (decide (length (x0.1++[32,61,32])+length (cW (zE x0.2))≤1099511627776)) (Tr.ok (zt.ret (AV.str (x0.1++[32,61,32]++cW (zE x0.2))) [])))):=by kernel_rfl
def ei (x0:Sem aN):Sem Sh.str:=(x0.1++[32,61,32]++cW x0.2)
def jz (x0:Sem aN):Bool:=(if decide (length x0.1+[32,61,32].length≤1099511627776)=true then if gm x0.2=true then if decide (length (x0.1++[32,61,32])+length (cW x0.2)≤1099511627776)=true then true else false else false else false)
def F93:zF:=zG [aN] [Sh.str] (fun x=>jz x.1) fun x=>(ei x.1,())
theorem zbb:FK 162 F93:=by
 refine zQ (zeJ) fun x hc C hC=>?_
 unfold jz at hc
 refine zk eM (zeJ) (fun id _=>hC id) (zg5 x.1) ?_
 generalize hy:ei x.1=y
 unfold ei at hy
 try simp only [ze.eta]
 repeat' (first | with_reducible refine eW hy hc (fun _ hy hc=>?_) (fun _ hy hc=>?_) | with_reducible refine ba hy (fun _ hy=>?_) (fun _ hy=>?_) | with_reducible refine bv hc (fun hc=>?_) | with_reducible refine zr ?_)
 all_goals first | (cases hc; done) | (subst hy; first | rfl)

noncomputable def ic:=kz.addL [(212,Yr),(213,Ys),(155,F86),(151,F82),(153,F84),(165,F96),(167,F98),(162,F93)]
theorem ec:zl ic:=eM.addL <| fc To <| fc Tp <| fc za3 <| fc zaZ <| fc za1 <| fc zbe <| fc zbg <| fc zbb jf
end Cad
