/- slices.Clone: what it answers is memory of its own. schema.copied is its argument, of what is not too deep. Functions from plain data and a function to plain data. -/
import Derived.Test.YtiefilkilbdpgaaGreatDoorN10
import Derived.Test.YtiefilkilbdpgaaGreatDoorN09
namespace Cad
open Go Go.Proofs
open Int (toNat)
open List (getD)
open List (length)

theorem Reach.promNil {E:bx} {C:cI} {fn:FuncId} {todo:List Item} {st:St} (e:Sh) (hC:∀ id,C.ρ0 id=none) (h:Reach E C fn todo st (fun r h=>(r,h)=(.nils,[]))):Reach E C fn todo st (fun r h=>(r,h)=(.vec 0,[.vec e []])):=by
 intro b cs a w U ρ h1 h2 hc hW
 obtain ⟨en,w',fr,⟨v,r,h',U',ρ',he,hq,hrv,hH,hnew,hr0,hWd⟩,hcm,hf,hl⟩:=h b cs a w U ρ h1 h2 hc hW
 cases hq
 cases hrv with
 | nils ad=>
 have hno:∀ id o b,o=(AO.vec e []:AO)∨o=AO.dead→¬ zP (fun id=>if id=0 then some (.slice ad 0 0) else none) id o b:=by
  rintro id o b ho ⟨h3,x,h4,h5⟩
  rcases ho with rfl | rfl
  ·simp only at h4
   split at h4
   ·cases h4
    cases ad <;> simp [dd] at h5
   ·cases h4
  ·simp [AO.owns] at h3
 have hob:∀ id,(([AO.vec e []]:List AO).getD id .dead)=(if id=0 then AO.vec e [] else AO.dead):=by
  intro id
  cases id <;> simp
 refine ⟨en,w',fr,⟨_,_,_,U',fun id=>if id=0 then some (.slice ad 0 0) else none,he,rfl,.vec 0 _ (by simp) (by simp [Value.oneCell']),⟨fun id=>?_,fun id1 id2 b o=>?_,fun id b o=>?_⟩,fun id hid=>?_,fun id v hv=>?_,hWd⟩,hcm,hf,hl⟩
 ·show bg w' U' _ id (([AO.vec e []]:List AO).getD id .dead)
  rw [hob]
  split
  ·rename_i h0
   subst h0
   exact ⟨ad,0,by simp,by simp,.inl ⟨rfl,rfl⟩⟩
  ·trivial
 ·exfalso
  have o':zP (fun id=>if id=0 then some (.slice ad 0 0) else none) id1 (([AO.vec e []]:List AO).getD id1 .dead) b:=o
  rw [hob] at o'
  split at o'
  ·exact hno _ _ _ (.inl rfl) o'
  ·exact hno _ _ _ (.inr rfl) o'
 ·exfalso
  have o':zP (fun id=>if id=0 then some (.slice ad 0 0) else none) id (([AO.vec e []]:List AO).getD id .dead) b:=o
  rw [hob] at o'
  split at o'
  ·exact hno _ _ _ (.inl rfl) o'
  ·exact hno _ _ _ (.inr rfl) o'
 ·simp at hid
  simp; omega
 ·rw [hC id] at hv; cases hv

def aB:Tr zt→List Item×List Item×St
 | .ok (.fork _ k1 k2 st)=>(k1,k2,st)
 | _=>([],[],⟨[],[]⟩)

abbrev yf:Nat→aj:=fun _=>{ }

noncomputable abbrev Df (l:List ze):Tr zt:=run oI 0 yf (Func.results Tryz.f125).toList 300 (aC Tryz.f125) (ar (Func.ntmps Tryz.f125) [.sl .expr l] [])
theorem QY:zA oI.P 125 Tryz.f125 1:=aS (by kernel_rfl)
theorem zhr (l:List ze):Df l=.ok (.fork l.isEmpty (aB (Df l)).1 (aB (Df l)).2.1 (aB (Df l)).2.2):=by kernel_rfl
theorem zfB (l:List ze):run oI 0 yf (Func.results Tryz.f125).toList 300 (aB (Df l)).1 (aB (Df l)).2.2=.ok (.ret .nils []):=by kernel_rfl
theorem zfC (l:List ze):run oI 0 yf (Func.results Tryz.f125).toList 300 (aB (Df l)).2.1 (aB (Df l)).2.2=.chk (decide (l.length≤1073741824)) (.ok (.ret (.vec 0) [.vec .expr l])):=by kernel_rfl
def G53:cG [some (.sl .expr)]:=fun x h=>match h with
 | []=>.chk (decide (length x.1≤1073741824)) (.ok (.vec 0,[.vec .expr x.1]))
 | _=>.err
def F53:zF:=zU [some (.sl .expr)] G53
theorem zbg:FK 125 F53:=by
 refine bC QY fun x h0 res hx C hC=>?_
 unfold G53 at hx
 split at hx
 ·simp only [Tr.val] at hx
  split at hx
  ·rename_i hl
   simp only [ap] at hx
   subst hx
   obtain ⟨l,u⟩:=x
   refine zk (n0:=0) gM QY hC (zhr l) ?_
   refine ⟨fun he=>?_,?_⟩
   ·have hn:l=[]:=List.isEmpty_iff.1 he
    refine Reach.weaken (Q:=fun r h=>(r,h)=(.vec 0,[.vec .expr []])) (Reach.promNil .expr (fun id=>hC id (by simp)) (zk (n0:=0) gM QY hC (zfB l) rfl)) ?_
    intro r h hq
    cases hq
    refine ⟨_,?_,fun _ _ _ _ h=>h⟩
    show (AV.vec 0,[AO.vec Sh.expr []])=(AV.vec 0,[AO.vec Sh.expr l])
    rw [hn]
   ·exact zk (n0:=0) gM QY hC (zfC l) (de hl rfl)
  ·cases hx
 ·simp at hx

noncomputable abbrev De (l:List (Sem zi)):Tr zt:=run oI 0 yf (Func.results Tryz.f71).toList 300 (aC Tryz.f71) (ar (Func.ntmps Tryz.f71) [.sl zi l] [])
theorem QW:zA oI.P 71 Tryz.f71 1:=aS (by kernel_rfl)
theorem zg9 (l:List (Sem zi)):De l=.ok (.fork l.isEmpty (aB (De l)).1 (aB (De l)).2.1 (aB (De l)).2.2):=by kernel_rfl
theorem zfu (l:List (Sem zi)):run oI 0 yf (Func.results Tryz.f71).toList 300 (aB (De l)).1 (aB (De l)).2.2=.ok (.ret .nils []):=by kernel_rfl
theorem zfv (l:List (Sem zi)):run oI 0 yf (Func.results Tryz.f71).toList 300 (aB (De l)).2.1 (aB (De l)).2.2=.chk (decide (l.length≤1073741824)) (.ok (.ret (.vec 0) [.vec zi l])):=by kernel_rfl
def G32:cG [some (.sl zi)]:=fun x h=>match h with
 | []=>.chk (decide (length x.1≤1073741824)) (.ok (.vec 0,[.vec zi x.1]))
 | _=>.err
def F32:zF:=zU [some (.sl zi)] G32
theorem zaW:FK 71 F32:=by
 refine bC QW fun x h0 res hx C hC=>?_
 unfold G32 at hx
 split at hx
 ·simp only [Tr.val] at hx
  split at hx
  ·rename_i hl
   simp only [ap] at hx
   subst hx
   obtain ⟨l,u⟩:=x
   refine zk (n0:=0) gM QW hC (zg9 l) ?_
   refine ⟨fun he=>?_,?_⟩
   ·have hn:l=[]:=List.isEmpty_iff.1 he
    refine Reach.weaken (Q:=fun r h=>(r,h)=(.vec 0,[.vec zi []])) (Reach.promNil zi (fun id=>hC id (by simp)) (zk (n0:=0) gM QW hC (zfu l) rfl)) ?_
    intro r h hq
    cases hq
    refine ⟨_,?_,fun _ _ _ _ h=>h⟩
    show (AV.vec 0,[AO.vec zi []])=(AV.vec 0,[AO.vec zi l])
    rw [hn]
   ·exact zk (n0:=0) gM QW hC (zfv l) (de hl rfl)
  ·cases hx
 ·simp at hx

noncomputable def Qt:=oI.addL [(125,F53),(71,F32)]
theorem vD:zl Qt:=gM.addL <| fc zbg <| fc zaW jn
def KB (c:ze→Bool):zF:=zG [.expr] [.expr] (fun x=>c x.1) fun x=>(x.1,())
noncomputable def Jm (c:ze→Bool):bx:=Qt.add 200 (KB c)
theorem vn {c:ze→Bool} (hg:FK 200 (KB c)):zl (Jm c):=vD.add hg
abbrev zd7:Nat→aj:=fun j=>if j=3 then { slots:=[1,2,10,11] } else { }
abbrev ID (i10:Int) (i11:Int) (ja0:zp) (ja1:Int) (ja2:Int) (ja3:zp) (ja4:zp) (lh_2:List (Sem Sh.expr)):St:={
 tmps:=
  (tm 26 [(1,AV.ptr 0 0),(2,AV.ptr 1 0),(10,AV.int .i64 i10),(11,AV.int .i64 i11)]),
 heap:=
  [AO.box [AV.str ja0,AV.int .i64 ja1,AV.int .i64 ja2,AV.str ja3,AV.str ja4,AV.vec 2],
   AO.box [AV.str [],AV.int .i64 0,AV.int .i64 0,AV.str [],AV.str [],AV.nils],AO.vec Sh.expr lh_2] }
theorem Gn (c:ze→Bool):zA (Jm c).P 200 Tryz.f200 1:=aS (by kernel_rfl)
theorem zha (c:ze→Bool) (op:zp) (v:V) (s:zp) (l:List ze):rn (Jm c) 0 zd7 Tryz.f200 [zz Sh.expr (ze.mk op v s l)] []=
 Tr.chk (decide (l.length≤1073741824)) (Tr.ok (zt.head 3 (zy Tryz.f200 3) (ID (↑l.length:Int) 0 op v.1 v.2.1 v.2.2 s l))):=by kernel_rfl
theorem NF (c:ze→Bool) (i10:Int) (i11:Int) (ja0:zp) (ja1:Int) (ja2:Int) (ja3:zp) (ja4:zp) (lh_2:List (Sem Sh.expr)):rh (Jm c) 0 zd7 Tryz.f200 3 (ID i10 i11 ja0 ja1 ja2 ja3 ja4 lh_2)=
 Tr.br (decide (i11 < i10))
 (Tr.chk (zI i11 lh_2.length)
  (Tr.chk (decide (i11.toNat < lh_2.length))
   (Tr.chk (c (zE (lh_2.getD i11.toNat (zj Sh.expr))))
    (Tr.chk (zI i11 lh_2.length)
     (Tr.chk (decide (i11.toNat < lh_2.length))
      (Tr.ok
       (zt.head 3 (zy Tryz.f200 3)
        (ID i10 (IntKind.i64.wrap (i11+1)) ja0 ja1 ja2 ja3 ja4
         (lh_2.set i11.toNat
          (zE (lh_2.getD i11.toNat (zj Sh.expr))))))))))))
 (Tr.ok
  (zt.ret (AV.agg [AV.str ja0,AV.int .i64 ja1,AV.int .i64 ja2,AV.str ja3,AV.str ja4,AV.vec 0]) [AO.vec Sh.expr lh_2])):=by kernel_rfl

theorem zgv {c:ze→Bool} (hg:FK 200 (KB c)) {C:cI} (hC:∀ id,C.ρ0 id=none) (op:zp) (v:V) (s:zp) (l:List ze) (hl:l.length≤1073741824) (hcl:l.all c=true):
  ∀ (k i:Nat),l.length - i=k→i≤l.length→Reach (Jm c) C 200 (zy Tryz.f200 3) (ID l.length i op v.1 v.2.1 v.2.2 s l) (fun r h=>ah h [.expr] r=some (ze.mk op v s l,())):=by
 intro k
 induction k with
 | zero=>
  intro i hk hi
  obtain rfl:i=l.length:=by omega
  refine zk (n0:=0) (vn hg) (Gn c) (fun id _=>hC id) (NF c _ _ _ _ _ _ _ _) ?_
  simp only [zY,Tr.val_brF]
  rfl
 | succ k IH=>
  intro i hk hi
  have hlt:i < l.length:=by omega
  refine zk (n0:=0) (vn hg) (Gn c) (fun id _=>hC id) (NF c _ _ _ _ _ _ _ _) ?_
  have h1:c l[i]=true:=cY.1 hcl _ (cZ hlt)
  have h2:decide ((i:Int).toNat < l.length)=true:=by simpa using hlt
  have h3:l.set (i:Int).toNat l[i]=l:=by simp
  simp only [zT hlt,zC hlt,ae l _ hlt,ze.eta,Tr.val_brT,Tr.val_chkT,h1,h2,h3,zD i (by unfold zB; omega)]
  exact IH (i+1) (by omega) (by omega)

def kC:Nat→ze→Bool
 | 0,_=>false
 | n+1,.mk _ _ _ l=>decide (l.length≤1073741824)&&l.all (kC n)

theorem E2:∀ n,FK 200 (KB (kC n))
 | 0=>dz ⟨Tryz.f200,(Gn (fun _=>false)).1,(Gn (fun _=>false)).2.1,(Gn (fun _=>false)).2.2.1⟩ (fun _=>rfl)
 | n+1=>by
  refine zR (E:=Jm (kC n)) (Gn _) fun x hc C hC=>?_
  obtain ⟨⟨op,v,s,l⟩,u⟩:=x
  have hc:(decide (l.length≤1073741824)&&l.all (kC n))=true:=hc
  simp only [aM,zZ] at hc
  refine zk (n0:=0) (vn (E2 n)) (Gn _) (fun id _=>hC id) (zha _ op v s l) ?_
  refine de (by simpa using hc.1) ?_
  exact zgv (E2 n) hC op v s l hc.1 hc.2 _ 0 rfl (aV _)
def F33:zF:=KB (kC 16)
theorem zaX:FK 200 F33:=E2 16
noncomputable def iM:=Qt.add 200 F33
theorem fP:zl iM:=vD.add zaX
open Go

def pq:(ks:List Sh)→zx (ks.map some++[none])→zx (ks.map some)×AV
 | [],x=>((),x.1)
 | _::ks,x=>((x.1,(pq ks x.2).1),(pq ks x.2).2)

theorem uM:∀ (ks:List Sh) (x:zx (ks.map some++[none])),gD (ks.map some++[none]) x=gD (ks.map some) (pq ks x).1++[(pq ks x).2]
 | [],_=>rfl
 | s::ks,x=>congrArg (zz s x.1 :: ·) (uM ks x.2)

def MB (k:Nat):AV→Bool
 | .clo (.func j) [] []=>j==k
 | _=>false

theorem MC {k:Nat} {v:AV} (h:MB k v=true):v=.clo (.func k) [] []:=by
 unfold MB at h
 split at h
 ·rw [eH] at h; rw [h]
 ·cases h

abbrev Kz (ks outs:List Sh):=Nat×(zx (ks.map some)→Bool)×(zx (ks.map some)→zx (outs.map some))

def P1 {ks outs:List Sh} (v:AV):List (Kz ks outs)→Option ((zx (ks.map some)→Bool)×(zx (ks.map some)→zx (outs.map some)))
 | []=>none
 | (k,a)::r=>if MB k v then some a else P1 v r

theorem Dc {ks outs:List Sh} {v:AV} {a}:∀ {l:List (Kz ks outs)},P1 v l=some a→∃ k,v=.clo (.func k) [] []∧(k,a)∈l
 | [],h=>by cases h
 | (k,b)::r,h=>by
  unfold P1 at h
  split at h
  ·rename_i hk
   cases h
   exact ⟨k,MC hk,uD ..⟩
  ·obtain ⟨j,h1,h2⟩:=Dc h
   exact ⟨j,h1,mF _ h2⟩

def Im (ks outs:List Sh) (l:List (Kz ks outs)):cG (ks.map some++[none]):=fun x h=>match h with
 | []=>match P1 (pq ks x).2 l with
  | some (c,g)=>.chk (c (pq ks x).1) (.ok (s6 outs (g (pq ks x).1),[]))
  | none=>.err
 | _=>.err

def wP (ks outs:List Sh) (l:List (Kz ks outs)):zF:=zU (ks.map some++[none]) (Im ks outs l)

theorem ls {P:Program} {gl:Nat→AV} {E:bx} {k:FuncId} {f:Func} {ks outs:List Sh} {l:List (Kz ks outs)} (hf:zA E.P k f (ks.length+1))
  (h:∀ j c g,(j,c,g)∈l→∀ x,c x=true→∀ C:cI,(∀ id,C.ρ0 id=none)→Reach E C k (aC f) (ar f.ntmps (gD (ks.map some) x++[.clo (.func j) [] []]) []) (fun r h=>ah h outs r=some (g x))) (qp:E.P=P:=by rfl) (qg:E.gl=gl:=by rfl):mv P gl k (wP ks outs l):=by
 subst qp qg
 refine bC (by simpa using hf) fun x h0 res hx C hC=>?_
 unfold Im at hx
 split at hx
 ·split at hx
  ·rename_i c g hal
   obtain ⟨j,hv,hm⟩:=Dc hal
   simp only [Tr.val] at hx
   split at hx
   ·rename_i hc
    simp only [ap] at hx
    subst hx
    rw [uM,hv]
    exact Reach.plain (fun id=>hC id (by simp)) (h j c g hm _ hc C (fun id=>hC id (by simp)))
   ·simp at hx
  ·simp at hx
 ·simp at hx

set_option maxHeartbeats 4000000
abbrev bJ:Sh:=.pr .str .str
abbrev aN:Sh:=.pr .str .expr
abbrev zo:Sh:=.pr .str (.pr .str (.pr .str (.pr (.sl .str) (.pr (.sl zi) (.pr .str (.pr (.sl .str) (.pr (.sl bJ) (.pr .expr (.pr (.sl zf) (.pr (.sl aN) (.pr .expr .str)))))))))))
def x6 (x:Sem zo):Sem zo:=(x.1,x.2.1,x.2.2.1,x.2.2.2.1,x.2.2.2.2.1,x.2.2.2.2.2.1,x.2.2.2.2.2.2.1,x.2.2.2.2.2.2.2.1,zE x.2.2.2.2.2.2.2.2.1,x.2.2.2.2.2.2.2.2.2.1,x.2.2.2.2.2.2.2.2.2.2.1,zE x.2.2.2.2.2.2.2.2.2.2.2.1,x.2.2.2.2.2.2.2.2.2.2.2.2)
theorem HJ (x:Sem zo):x6 x=x:=by unfold x6; rw [zm,zm]

abbrev To:Nat→aj:=fun j=>if j=2 then { slots:=[0,2,4] } else { }
abbrev xl (s0:TS) (i4:Int) (ja0:Int) (ja1:List UInt8):St:={ tmps:=(tm 37 [(0,AV.str s0),(2,AV.ptr 0 0),(4,ai i4)]),heap:=[AO.box [ai ja0,AV.str ja1]] }
theorem Nn:zA (iM).P 235 Tryz.f235 1:=aS (by kernel_rfl)
theorem zcZ (x0:TS):rn iM 0 To Tryz.f235 [zz Sh.str x0] []=Tr.ok (zt.head 2 (zy Tryz.f235 2) (xl x0 1 0 [])):=by kernel_rfl
theorem Q3 (s0:TS) (i4:Int) (ja0:Int) (ja1:List UInt8):rh iM 0 To Tryz.f235 2 (xl s0 i4 ja0 ja1)=Tr.br (decide (i4 < (↑(length s0):Int))) (Tr.chk (zI i4 (length s0)) (Tr.br ((↑(getD s0 i4.toNat 0).toNat:Int) != 39) (Tr.ok (zt.head 2 (zy Tryz.f235 2) (xl s0 (IntKind.i64.wrap (i4+1)) ja0 ja1))) (Tr.chk (bif decide (IntKind.i64.wrap (i4+1) < (↑(length s0):Int)) then zI (IntKind.i64.wrap (i4+1)) (length s0) else true) (Tr.br (bif decide (IntKind.i64.wrap (i4+1) < (↑(length s0):Int)) then (↑(getD s0 (IntKind.i64.wrap (i4+1)).toNat 0).toNat:Int)==39 else false) (Tr.ok (zt.head 2 (zy Tryz.f235 2) (xl s0 (IntKind.i64.wrap (IntKind.i64.wrap (i4+1)+1)) ja0 ja1))) (Tr.chk (decide (0≤1)&&decide (1≤i4)&&decide (i4≤(↑(length s0):Int))) (Tr.chk (qA (List.take (i4.toNat - toNat 1) (List.drop (toNat 1) s0)) [39,39] [39]) (Tr.ok (zt.ret (AV.tup [AV.agg [ai 3,AV.str (Lib.replaceAll (List.take (i4.toNat - toNat 1) (List.drop (toNat 1) s0)) [39,39] [39])],ai (IntKind.i64.wrap (i4+1))]) [])))))))) (Tr.ok (zt.ret (AV.tup [AV.agg [ai 0,AV.str []],ai 0]) [])):=by kernel_rfl
def ed:Nat→(Sem Sh.str)→Int→Int→(List UInt8)→Sem eA×Sem zg
 | 0,_,_,_,_=>default
 | n+1,s0,i4,ja0,ja1=>(if decide (i4 < (↑(length s0):Int))=true then
 if ((↑(getD s0 i4.toNat 0).toNat:Int) != 39)=true then ed n s0 (IntKind.i64.wrap (i4+1)) ja0 ja1
 else
  if
    (bif decide (IntKind.i64.wrap (i4+1) < (↑(length s0):Int)) then (↑(getD s0 (IntKind.i64.wrap (i4+1)).toNat 0).toNat:Int)==39
     else false)=
     true then
   ed n s0 (IntKind.i64.wrap (IntKind.i64.wrap (i4+1)+1)) ja0 ja1
  else ((3,Lib.replaceAll (List.take (i4.toNat - toNat 1) (List.drop (toNat 1) s0)) [39,39] [39]),IntKind.i64.wrap (i4+1))
else ((0,[]),0))
def gT:Nat→(Sem Sh.str)→Int→Int→(List UInt8)→Bool
 | 0,_,_,_,_=>false
 | n+1,s0,i4,ja0,ja1=>(if decide (i4 < (↑(length s0):Int))=true then
 if zI i4 (length s0)=true then
  if ((↑(getD s0 i4.toNat 0).toNat:Int) != 39)=true then gT n s0 (IntKind.i64.wrap (i4+1)) ja0 ja1
  else
   if (bif decide (IntKind.i64.wrap (i4+1) < (↑(length s0):Int)) then zI (IntKind.i64.wrap (i4+1)) (length s0) else true)=true then
    if
      (bif decide (IntKind.i64.wrap (i4+1) < (↑(length s0):Int)) then (↑(getD s0 (IntKind.i64.wrap (i4+1)).toNat 0).toNat:Int)==39
       else false)=
       true then
     gT n s0 (IntKind.i64.wrap (IntKind.i64.wrap (i4+1)+1)) ja0 ja1
    else
     if (decide (0≤1)&&decide (1≤i4)&&decide (i4≤(↑(length s0):Int)))=true then
      if qA (List.take (i4.toNat - toNat 1) (List.drop (toNat 1) s0)) [39,39] [39]=true then true else false
     else false
   else false
 else false
else true)
theorem Hj {C:cI} (hC:∀ id,C.ρ0 id=none):∀ (n:Nat) (s0:TS) (i4:Int) (ja0:Int) (ja1:List UInt8),gT n s0 i4 ja0 ja1=true→
  Reach (iM) C 235 (zy Tryz.f235 2) (xl s0 i4 ja0 ja1) (fun r h=>ah h [eA,zg] r=some ((ed n s0 i4 ja0 ja1).1,(ed n s0 i4 ja0 ja1).2,()))
 | 0,s0,i4,ja0,ja1,hc=>by cases hc
 | n+1,s0,i4,ja0,ja1,hc=>by
  refine zk fP (Nn) (fun id _=>hC id) (Q3 _ _ _ _) ?_
  rw [gT] at hc
  generalize hy:ed (n+1) s0 i4 ja0 ja1=y
  rw [ed] at hy
  try simp only [ze.eta,zm]
  repeat' (first | with_reducible refine fe hy hc (fun _ hy hc=>?_) (fun _ hy hc=>?_) | with_reducible refine bd hy (fun _ hy=>?_) (fun _ hy=>?_) | with_reducible refine bz hc (fun hc=>?_) | with_reducible refine zr ?_)
  all_goals first | (cases hc; done) | (subst hy; first | (change Reach _ _ _ _ _ _; refine Hj hC n _ _ _ _ ?_ <;> exact hc) | rfl)
def quoted (x0:TS):Sem eA×Sem zg:=(ed (length x0+1) x0 1 0 [])
def ja (x0:TS):Bool:=(gT (length x0+1) x0 1 0 [])
def Zq:zF:=zG [Sh.str] [eA,zg] (fun x=>ja x.1) fun x=>((quoted x.1).1,(quoted x.1).2,())
theorem Uu:FK 235 Zq:=by
 refine zR (Nn) fun x hc C hC=>?_
 unfold ja at hc
 refine zk fP (Nn) (fun id _=>hC id) (zcZ x.1) ?_
 generalize hy:quoted x.1=y
 unfold quoted at hy
 try simp only [ze.eta,zm]
 repeat' (first | with_reducible refine fe hy hc (fun _ hy hc=>?_) (fun _ hy hc=>?_) | with_reducible refine bd hy (fun _ hy=>?_) (fun _ hy=>?_) | with_reducible refine bz hc (fun hc=>?_) | with_reducible refine zr ?_)
 all_goals first | (cases hc; done) | (subst hy; first | (change Reach _ _ _ _ _ _; refine Hj hC _ _ _ _ _ ?_ <;> exact hc) | rfl)

abbrev zdZ:Nat→aj:=fun _=>{ }
theorem TF:zA (iM).P 218 Tryz.f218 1:=aS (by kernel_rfl)
theorem zcV (x0:Sem Sh.expr):rn iM 0 zdZ Tryz.f218 [zz Sh.expr x0] []=Tr.ok (zt.ret (AV.bool (bif ze.op x0==[] then bif (ze.v x0).1==0&&((ze.v x0).2.1==0&&((ze.v x0).2.2==[]&&true)) then bif ze.s x0==[] then (↑(ze.l x0).length:Int)==0 else false else false else false)) []):=by kernel_rfl
def jw (x0:Sem Sh.expr):Sem Sh.bool:=(bif ze.op x0==[] then bif (ze.v x0).1==0&&((ze.v x0).2.1==0&&((ze.v x0).2.2==[]&&true)) then bif ze.s x0==[] then (↑(ze.l x0).length:Int)==0 else false else false else false)
def Zg:zF:=ay [Sh.expr] [Sh.bool] fun x=>(jw x.1,())
theorem Uk:FK 218 Zg:=by
 refine zS (TF) fun x C hC=>?_
 refine zk fP (TF) (fun id _=>hC id) (zcV x.1) ?_
 generalize hy:jw x.1=y
 unfold jw at hy
 try simp only [ze.eta,zm]
 repeat' (first | with_reducible refine bd hy (fun _ hy=>?_) (fun _ hy=>?_) | with_reducible refine zr ?_)
 all_goals first | (cases hc; done) | (subst hy; first | rfl)

abbrev zd0:Nat→aj:=fun _=>{ }
theorem TG:zA (iM).P 228 Tryz.f228 1:=aS (by kernel_rfl)
theorem zcX (x0:Sem zi):rn iM 0 zd0 Tryz.f228 [zz zi x0] []=Tr.br x0.2.2 (Tr.chk (decide (length x0.1+[32].length≤1099511627776)&&(zI (IntKind.i64.wrap (x0.2.1 - 1)) 3&&bif IntKind.i64.wrap (x0.2.1 - 1)==(↑0:Int) then decide (length (x0.1++[32])+[73,78,84].length≤1099511627776)&&decide (length (x0.1++[32]++[73,78,84])+[32,78,79,84,32,78,85,76,76].length≤1099511627776) else bif IntKind.i64.wrap (x0.2.1 - 1)==(↑(0+1):Int) then decide (length (x0.1++[32])+[84,69,88,84].length≤1099511627776)&&decide (length (x0.1++[32]++[84,69,88,84])+[32,78,79,84,32,78,85,76,76].length≤1099511627776) else decide (length (x0.1++[32])+[66,79,79,76].length≤1099511627776)&&decide (length (x0.1++[32]++[66,79,79,76])+[32,78,79,84,32,78,85,76,76].length≤1099511627776))) (Tr.ok (zt.ret (AV.str (bif IntKind.i64.wrap (x0.2.1 - 1)==(↑0:Int) then x0.1++[32]++[73,78,84]++[32,78,79,84,32,78,85,76,76] else bif IntKind.i64.wrap (x0.2.1 - 1)==(↑(0+1):Int) then x0.1++[32]++[84,69,88,84]++[32,78,79,84,32,78,85,76,76] else x0.1++[32]++[66,79,79,76]++[32,78,79,84,32,78,85,76,76])) []))) (Tr.chk (decide (length x0.1+[32].length≤1099511627776)&&(zI (IntKind.i64.wrap (x0.2.1 - 1)) 3&&
 bif IntKind.i64.wrap (x0.2.1 - 1)==(↑0:Int) then decide (length (x0.1++[32])+[73,78,84].length≤1099511627776) else bif IntKind.i64.wrap (x0.2.1 - 1)==(↑(0+1):Int) then decide (length (x0.1++[32])+[84,69,88,84].length≤1099511627776) else decide (length (x0.1++[32])+[66,79,79,76].length≤1099511627776))) (Tr.ok (zt.ret (AV.str (bif IntKind.i64.wrap (x0.2.1 - 1)==(↑0:Int) then x0.1++[32]++[73,78,84] else bif IntKind.i64.wrap (x0.2.1 - 1)==(↑(0+1):Int) then x0.1++[32]++[84,69,88,84] else x0.1++[32]++[66,79,79,76])) []))):=by kernel_rfl
def dW (x0:Sem zi):Sem Sh.str:=(if x0.2.2=true then bif IntKind.i64.wrap (x0.2.1 - 1)==(↑0:Int) then x0.1++[32]++[73,78,84]++[32,78,79,84,32,78,85,76,76] else bif IntKind.i64.wrap (x0.2.1 - 1)==(↑(0+1):Int) then x0.1++[32]++[84,69,88,84]++[32,78,79,84,32,78,85,76,76] else x0.1++[32]++[66,79,79,76]++[32,78,79,84,32,78,85,76,76] else bif IntKind.i64.wrap (x0.2.1 - 1)==(↑0:Int) then x0.1++[32]++[73,78,84] else bif IntKind.i64.wrap (x0.2.1 - 1)==(↑(0+1):Int) then x0.1++[32]++[84,69,88,84] else x0.1++[32]++[66,79,79,76])
def ic (x0:Sem zi):Bool:=(if x0.2.2=true then if (decide (length x0.1+[32].length≤1099511627776)&&(zI (IntKind.i64.wrap (x0.2.1 - 1)) 3&&bif IntKind.i64.wrap (x0.2.1 - 1)==(↑0:Int) then decide (length (x0.1++[32])+[73,78,84].length≤1099511627776)&&decide (length (x0.1++[32]++[73,78,84])+[32,78,79,84,32,78,85,76,76].length≤1099511627776) else bif IntKind.i64.wrap (x0.2.1 - 1)==(↑(0+1):Int) then decide (length (x0.1++[32])+[84,69,88,84].length≤1099511627776)&&decide (length (x0.1++[32]++[84,69,88,84])+[32,78,79,84,32,78,85,76,76].length≤1099511627776) else decide (length (x0.1++[32])+[66,79,79,76].length≤1099511627776)&&decide (length (x0.1++[32]++[66,79,79,76])+[32,78,79,84,32,78,85,76,76].length≤1099511627776)))=true then true else false else if (decide (length x0.1+[32].length≤1099511627776)&&(zI (IntKind.i64.wrap (x0.2.1 - 1)) 3&&bif IntKind.i64.wrap (x0.2.1 - 1)==(↑0:Int) then decide (length (x0.1++[32])+[73,78,84].length≤1099511627776) else bif IntKind.i64.wrap (x0.2.1 - 1)==(↑(0+1):Int) then decide (length (x0.1++[32])+[84,69,88,84].length≤1099511627776) else decide (length (x0.1++[32])+[66,79,79,76].length≤1099511627776)))=true then true else false)
def Zl:zF:=zG [zi] [Sh.str] (fun x=>ic x.1) fun x=>(dW x.1,())
theorem Up:FK 228 Zl:=by
 refine zR (TG) fun x hc C hC=>?_
 unfold ic at hc
 refine zk fP (TG) (fun id _=>hC id) (zcX x.1) ?_
 generalize hy:dW x.1=y
 unfold dW at hy
 try simp only [ze.eta,zm]
 repeat' (first | with_reducible refine fe hy hc (fun _ hy hc=>?_) (fun _ hy hc=>?_) | with_reducible refine bd hy (fun _ hy=>?_) (fun _ hy=>?_) | with_reducible refine bz hc (fun hc=>?_) | with_reducible refine zr ?_)
 all_goals first | (cases hc; done) | (subst hy; first | rfl)

abbrev ziq:Nat→aj:=fun _=>{ }
theorem zfm:zA (iM).P 157 Tryz.f157 1:=aS (by kernel_rfl)
theorem zhK (x0:TS):rn iM 0 ziq Tryz.f157 [zz Sh.str x0] []=Tr.ok (zt.ret (AV.str x0) []):=by kernel_rfl
def mr (x0:TS):Sem Sh.str:=(x0)
def F88:zF:=ay [Sh.str] [Sh.str] fun x=>(mr x.1,())
theorem zbN:FK 157 F88:=by
 refine zS (zfm) fun x C hC=>?_
 refine zk fP (zfm) (fun id _=>hC id) (zhK x.1) ?_
 generalize hy:mr x.1=y
 unfold mr at hy
 try simp only [ze.eta,zm]
 repeat' (first | with_reducible refine bd hy (fun _ hy=>?_) (fun _ hy=>?_) | with_reducible refine zr ?_)
 all_goals first | (cases hc; done) | (subst hy; first | rfl)

abbrev zik:Nat→aj:=fun _=>{ }
theorem zfg:zA (iM).P 149 Tryz.f149 1:=aS (by kernel_rfl)
theorem zhF (x0:TS):rn iM 0 zik Tryz.f149 [zz Sh.str x0] []=Tr.ok (zt.ret (AV.bool (bif lq x0 then !EA x0 else false)) []):=by kernel_rfl
def bt (x0:TS):Sem Sh.bool:=(bif lq x0 then !EA x0 else false)
def F80:zF:=ay [Sh.str] [Sh.bool] fun x=>(bt x.1,())
theorem zbF:FK 149 F80:=by
 refine zS (zfg) fun x C hC=>?_
 refine zk fP (zfg) (fun id _=>hC id) (zhF x.1) ?_
 generalize hy:bt x.1=y
 unfold bt at hy
 try simp only [ze.eta,zm]
 repeat' (first | with_reducible refine bd hy (fun _ hy=>?_) (fun _ hy=>?_) | with_reducible refine zr ?_)
 all_goals first | (cases hc; done) | (subst hy; first | rfl)

abbrev zed:Nat→aj:=fun _=>{ unroll:=true }
theorem TJ:zA (iM).P 169 Tryz.f169 1:=aS (by kernel_rfl)
theorem zc8 (x0:Sem eA):rn iM 0 zed Tryz.f169 [zz eA x0] []=Tr.br (x0.1==3) (Tr.ok (zt.ret (AV.bool (gy (2,0,x0.2))) [])) (Tr.br (x0.1==4) (Tr.chk (bif (↑(length x0.2):Int)==1 then length x0.2==1 else true) (Tr.ok (zt.ret (AV.bool (bif (↑(length x0.2):Int)==1 then decide (0≤Lib.indexByte [40,41,44,61,60,43,45,42] (List.headD x0.2 0)) else false)) []))) (Tr.br true (Tr.chk true (Tr.br (1==x0.1) (Tr.ok (zt.ret (AV.bool (bif decide ((↑(length x0.2):Int) ≥ 1) then bif decide ((↑(length x0.2):Int)≤16) then (↑(aA aK cm x0.2):Int)==(↑(length x0.2):Int) else false else false)) [])) (Tr.br true (Tr.chk true (Tr.br (2==x0.1) (Tr.ok (zt.ret (AV.bool (bif decide ((↑(length x0.2):Int) ≥ 1) then bif decide ((↑(length x0.2):Int)≤19) then (↑(aA zV zV x0.2):Int)==(↑(length x0.2):Int) else false else false)) [])) (Tr.br false Tr.err (Tr.ok (zt.ret (AV.kb false) []))))) (Tr.ok (zt.ret (AV.kb false) []))))) (Tr.ok (zt.ret (AV.kb false) [])))):=by kernel_rfl
def fL (x0:Sem eA):Sem Sh.bool:=(if (x0.1==3)=true then gy (2,0,x0.2) else if (x0.1==4)=true then bif (↑(length x0.2):Int)==1 then decide (0≤Lib.indexByte [40,41,44,61,60,43,45,42] (List.headD x0.2 0)) else false else if true=true then if (1==x0.1)=true then bif decide ((↑(length x0.2):Int) ≥ 1) then bif decide ((↑(length x0.2):Int)≤16) then (↑(aA aK cm x0.2):Int)==(↑(length x0.2):Int) else false else false else if true=true then if (2==x0.1)=true then bif decide ((↑(length x0.2):Int) ≥ 1) then bif decide ((↑(length x0.2):Int)≤19) then (↑(aA zV zV x0.2):Int)==(↑(length x0.2):Int) else false else false else if false=true then default else false else false else false)
def om (x0:Sem eA):Bool:=(if (x0.1==3)=true then true else if (x0.1==4)=true then if (bif (↑(length x0.2):Int)==1 then length x0.2==1 else true)=true then true else false else if true=true then if true=true then if (1==x0.1)=true then true else if true=true then if true=true then if (2==x0.1)=true then true else if false=true then false else true else false else true else false else true)
def zaa:zF:=zG [eA] [Sh.bool] (fun x=>om x.1) fun x=>(fL x.1,())
theorem Vk:FK 169 zaa:=by
 refine zR (TJ) fun x hc C hC=>?_
 unfold om at hc
 refine zk fP (TJ) (fun id _=>hC id) (zc8 x.1) ?_
 generalize hy:fL x.1=y
 unfold fL at hy
 try simp only [ze.eta,zm]
 repeat' (first | with_reducible refine fe hy hc (fun _ hy hc=>?_) (fun _ hy hc=>?_) | with_reducible refine bd hy (fun _ hy=>?_) (fun _ hy=>?_) | with_reducible refine bz hc (fun hc=>?_) | with_reducible refine zr ?_)
 all_goals first | (cases hc; done) | (subst hy; first | rfl)

noncomputable def dM:=iM.addL [(235,Zq),(218,Zg),(228,Zl),(157,F88),(149,F80),(169,zaa)]
theorem cA:zl dM:=fP.addL <| fc Uu <| fc Uk <| fc Up <| fc zbN <| fc zbF <| fc Vk jn

abbrev zin:Nat→aj:=fun _=>{ }
theorem zfk:zA (dM).P 154 Tryz.f154 1:=aS (by kernel_rfl)
theorem zhI (x0:Sem Sh.expr):rn dM 0 zin Tryz.f154 [zz Sh.expr x0] []=Tr.ok (zt.ret (AV.bool (bif jw (zE x0) then true else kf (zE x0))) []):=by kernel_rfl
def o8 (x0:Sem Sh.expr):Sem Sh.bool:=(bif jw x0 then true else kf x0)
def F85:zF:=ay [Sh.expr] [Sh.bool] fun x=>(o8 x.1,())
theorem zbK:FK 154 F85:=by
 refine zS (zfk) fun x C hC=>?_
 refine zk cA (zfk) (fun id _=>hC id) (zhI x.1) ?_
 generalize hy:o8 x.1=y
 unfold o8 at hy
 try simp only [ze.eta]
 repeat' (first | with_reducible refine bd hy (fun _ hy=>?_) (fun _ hy=>?_) | with_reducible refine zr ?_)
 all_goals first | (cases hc; done) | (subst hy; first | rfl)

abbrev zdX:Nat→aj:=fun _=>{ }
theorem TD:zA (dM).P 210 Tryz.f210 1:=aS (by kernel_rfl)
theorem zcT (x0:Sem zi):rn dM 0 zdX Tryz.f210 [zz zi x0] []=Tr.ok (zt.ret (AV.bool (bif bt x0.1 then bif decide (x0.2.1 ≥ 1) then decide (x0.2.1≤3) else false else false)) []):=by kernel_rfl
def hZ (x0:Sem zi):Sem Sh.bool:=(bif bt x0.1 then bif decide (x0.2.1 ≥ 1) then decide (x0.2.1≤3) else false else false)
def Y7:zF:=ay [zi] [Sh.bool] fun x=>(hZ x.1,())
theorem Ub:FK 210 Y7:=by
 refine zS (TD) fun x C hC=>?_
 refine zk cA (TD) (fun id _=>hC id) (zcT x.1) ?_
 generalize hy:hZ x.1=y
 unfold hZ at hy
 try simp only [ze.eta,zm]
 repeat' (first | with_reducible refine bd hy (fun _ hy=>?_) (fun _ hy=>?_) | with_reducible refine zr ?_)
 all_goals first | (cases hc; done) | (subst hy; first | rfl)

abbrev zdY:Nat→aj:=fun _=>{ }
theorem TE:zA (dM).P 211 Tryz.f211 1:=aS (by kernel_rfl)
theorem zcU (x0:Sem bJ):rn dM 0 zdY Tryz.f211 [zz bJ x0] []=Tr.ok (zt.ret (AV.bool (bif bt x0.1 then bt x0.2 else false)) []):=by kernel_rfl
def ni (x0:Sem bJ):Sem Sh.bool:=(bif bt x0.1 then bt x0.2 else false)
def Y8:zF:=ay [bJ] [Sh.bool] fun x=>(ni x.1,())
theorem Uc:FK 211 Y8:=by
 refine zS (TE) fun x C hC=>?_
 refine zk cA (TE) (fun id _=>hC id) (zcU x.1) ?_
 generalize hy:ni x.1=y
 unfold ni at hy
 try simp only [ze.eta,zm]
 repeat' (first | with_reducible refine bd hy (fun _ hy=>?_) (fun _ hy=>?_) | with_reducible refine zr ?_)
 all_goals first | (cases hc; done) | (subst hy; first | rfl)

abbrev zim:Nat→aj:=fun _=>{ }
theorem zfi:zA (dM).P 152 Tryz.f152 1:=aS (by kernel_rfl)
theorem zhH (x0:Sem aN):rn dM 0 zim Tryz.f152 [zz aN x0] []=Tr.ok (zt.ret (AV.bool (bif bt x0.1 then kf (zE x0.2) else false)) []):=by kernel_rfl
def xx (x0:Sem aN):Sem Sh.bool:=(bif bt x0.1 then kf x0.2 else false)
def F83:zF:=ay [aN] [Sh.bool] fun x=>(xx x.1,())
theorem zbI:FK 152 F83:=by
 refine zS (zfi) fun x C hC=>?_
 refine zk cA (zfi) (fun id _=>hC id) (zhH x.1) ?_
 generalize hy:xx x.1=y
 unfold xx at hy
 try simp only [ze.eta]
 repeat' (first | with_reducible refine bd hy (fun _ hy=>?_) (fun _ hy=>?_) | with_reducible refine zr ?_)
 all_goals first | (cases hc; done) | (subst hy; first | rfl)

abbrev zis:Nat→aj:=fun _=>{ }
theorem zfo:zA (dM).P 161 Tryz.f161 1:=aS (by kernel_rfl)
theorem zhN (x0:Sem zf):rn dM 0 zis Tryz.f161 [zz zf x0] []=Tr.br (!gy x0) (Tr.ok (zt.ret (AV.str []) [])) (Tr.br (x0.1==1) (Tr.chk (10==10) (Tr.ok (zt.ret (AV.str (oN x0.2.1)) []))) (Tr.br (x0.1==2) (Tr.chk (qA x0.2.2 [39] [39,39]) (Tr.chk (decide ([39].length+(Lib.replaceAll x0.2.2 [39] [39,39]).length≤1099511627776)) (Tr.chk (decide (length ([39]++Lib.replaceAll x0.2.2 [39] [39,39])+[39].length≤1099511627776)) (Tr.ok (zt.ret (AV.str ([39]++Lib.replaceAll x0.2.2 [39] [39,39]++[39])) []))))) (Tr.br (x0.1==3) (Tr.br (eD x0==2) (Tr.ok (zt.ret (AV.str [84,82,85,69]) [])) (Tr.ok (zt.ret (AV.str [70,65,76,83,69]) []))) (Tr.ok (zt.ret (AV.str [78,85,76,76]) []))))):=by kernel_rfl
def gC (x0:Sem zf):Sem Sh.str:=(if (!gy x0)=true then [] else if (x0.1==1)=true then oN x0.2.1 else if (x0.1==2)=true then [39]++Lib.replaceAll x0.2.2 [39] [39,39]++[39] else if (x0.1==3)=true then if (eD x0==2)=true then [84,82,85,69] else [70,65,76,83,69] else [78,85,76,76])
def lW (x0:Sem zf):Bool:=(if (!gy x0)=true then true else if (x0.1==1)=true then if (10==10)=true then true else false else if (x0.1==2)=true then if qA x0.2.2 [39] [39,39]=true then if decide ([39].length+(Lib.replaceAll x0.2.2 [39] [39,39]).length≤1099511627776)=true then if decide (length ([39]++Lib.replaceAll x0.2.2 [39] [39,39])+[39].length≤1099511627776)=true then true else false else false else false else true)
def F92:zF:=zG [zf] [Sh.str] (fun x=>lW x.1) fun x=>(gC x.1,())
theorem zbS:FK 161 F92:=by
 refine zR (zfo) fun x hc C hC=>?_
 unfold lW at hc
 refine zk cA (zfo) (fun id _=>hC id) (zhN x.1) ?_
 generalize hy:gC x.1=y
 unfold gC at hy
 try simp only [ze.eta,zm]
 repeat' (first | with_reducible refine fe hy hc (fun _ hy hc=>?_) (fun _ hy hc=>?_) | with_reducible refine bd hy (fun _ hy=>?_) (fun _ hy=>?_) | with_reducible refine bz hc (fun hc=>?_) | with_reducible refine zr ?_)
 all_goals first | (cases hc; done) | (subst hy; first | rfl)

abbrev zio:Nat→aj:=fun _=>{ }
theorem zfl:zA (dM).P 156 Tryz.f156 1:=aS (by kernel_rfl)
theorem zhJ (x0:Sem zo):rn dM 0 zio Tryz.f156 [zz zo x0] []=Tr.chk (decide (length x0.2.1+length x0.2.2.1≤1099511627776)) (Tr.chk (decide (length (x0.2.1++x0.2.2.1)+length x0.2.2.2.2.2.1≤1099511627776)) (Tr.chk (decide (length (x0.2.1++x0.2.2.1++x0.2.2.2.2.2.1)+length x0.2.2.2.2.2.2.2.2.2.2.2.2≤1099511627776)) (Tr.ok (zt.ret (AV.bool (bif x0.2.1++x0.2.2.1++x0.2.2.2.2.2.1++x0.2.2.2.2.2.2.2.2.2.2.2.2==[] then bif IntKind.i64.wrap (IntKind.i64.wrap (IntKind.i64.wrap (IntKind.i64.wrap (IntKind.i64.wrap ((↑(length x0.2.2.2.1):Int)+(↑(length x0.2.2.2.2.1):Int))+(↑(length x0.2.2.2.2.2.2.1):Int))+(↑(length x0.2.2.2.2.2.2.2.1):Int))+(↑(length x0.2.2.2.2.2.2.2.2.2.1):Int))+(↑(length x0.2.2.2.2.2.2.2.2.2.2.1):Int))==0 then bif jw (zE x0.2.2.2.2.2.2.2.2.1) then jw (zE x0.2.2.2.2.2.2.2.2.2.2.2.1) else false else false else false)) [])))):=by kernel_rfl
def fJ (x0:Sem zo):Sem Sh.bool:=(bif x0.2.1++x0.2.2.1++x0.2.2.2.2.2.1++x0.2.2.2.2.2.2.2.2.2.2.2.2==[] then bif IntKind.i64.wrap (IntKind.i64.wrap (IntKind.i64.wrap (IntKind.i64.wrap (IntKind.i64.wrap ((↑(length x0.2.2.2.1):Int)+(↑(length x0.2.2.2.2.1):Int))+(↑(length x0.2.2.2.2.2.2.1):Int))+(↑(length x0.2.2.2.2.2.2.2.1):Int))+(↑(length x0.2.2.2.2.2.2.2.2.2.1):Int))+(↑(length x0.2.2.2.2.2.2.2.2.2.2.1):Int))==0 then bif jw x0.2.2.2.2.2.2.2.2.1 then jw x0.2.2.2.2.2.2.2.2.2.2.2.1 else false else false else false)
def dv (x0:Sem zo):Bool:=(if decide (length x0.2.1+length x0.2.2.1≤1099511627776)=true then if decide (length (x0.2.1++x0.2.2.1)+length x0.2.2.2.2.2.1≤1099511627776)=true then if decide (length (x0.2.1++x0.2.2.1++x0.2.2.2.2.2.1)+length x0.2.2.2.2.2.2.2.2.2.2.2.2≤1099511627776)=true then true else false else false else false)
def F87:zF:=zG [zo] [Sh.bool] (fun x=>dv x.1) fun x=>(fJ x.1,())
theorem zbM:FK 156 F87:=by
 refine zR (zfl) fun x hc C hC=>?_
 unfold dv at hc
 refine zk cA (zfl) (fun id _=>hC id) (zhJ x.1) ?_
 generalize hy:fJ x.1=y
 unfold fJ at hy
 try simp only [ze.eta]
 repeat' (first | with_reducible refine fe hy hc (fun _ hy hc=>?_) (fun _ hy hc=>?_) | with_reducible refine bd hy (fun _ hy=>?_) (fun _ hy=>?_) | with_reducible refine bz hc (fun hc=>?_) | with_reducible refine zr ?_)
 all_goals first | (cases hc; done) | (subst hy; first | rfl)

abbrev zix:Nat→aj:=fun _=>{ unroll:=true }
theorem zft:zA (dM).P 168 Tryz.f168 1:=aS (by kernel_rfl)
theorem zhU (x0:TS):rn dM 0 zix Tryz.f168 [zz Sh.str x0] []=Tr.br true (Tr.chk true (Tr.br (decide ((↑(aA aK cm x0):Int) > 0)) (Tr.chk (decide (0≤0)&&decide (0≤(↑(aA aK cm x0):Int))&&decide ((↑(aA aK cm x0):Int)≤(↑(length x0):Int))) (Tr.ok (zt.ret (AV.tup [AV.agg [ai 1,AV.str (List.take ((↑(aA aK cm x0):Int).toNat - toNat 0) (List.drop (toNat 0) x0))],ai (↑(aA aK cm x0):Int)]) []))) (Tr.br true (Tr.chk true (Tr.br (decide ((↑(aA zV zV x0):Int) > 0)) (Tr.chk (decide (0≤0)&&decide (0≤(↑(aA zV zV x0):Int))&&decide ((↑(aA zV zV x0):Int)≤(↑(length x0):Int))) (Tr.ok (zt.ret (AV.tup [AV.agg [ai 2,AV.str (List.take ((↑(aA zV zV x0):Int).toNat - toNat 0) (List.drop (toNat 0) x0))],ai (↑(aA zV zV x0):Int)]) []))) (Tr.br false Tr.err (Tr.chk (zI 0 (length x0)) (Tr.br ((↑(getD x0 (toNat 0) 0).toNat:Int)==39) (Tr.chk (ja x0) (Tr.ok (zt.ret (AV.tup [AV.agg [ai (quoted x0).1.1,AV.str (quoted x0).1.2],ai (quoted x0).2]) []))) (Tr.chk (decide (0≤0)&&decide (0≤1)&&decide (1≤(↑(length x0):Int))) (Tr.ok (zt.ret (AV.tup
 [AV.agg [ai 4,AV.str (List.take (toNat 1 - toNat 0) (List.drop (toNat 0) x0))],ai 1]) [])))))))) (Tr.chk (zI 0 (length x0)) (Tr.br ((↑(getD x0 (toNat 0) 0).toNat:Int)==39) (Tr.chk (ja x0) (Tr.ok (zt.ret (AV.tup [AV.agg [ai (quoted x0).1.1,AV.str (quoted x0).1.2],ai (quoted x0).2]) []))) (Tr.chk (decide (0≤0)&&decide (0≤1)&&decide (1≤(↑(length x0):Int))) (Tr.ok (zt.ret (AV.tup [AV.agg [ai 4,AV.str (List.take (toNat 1 - toNat 0) (List.drop (toNat 0) x0))],ai 1]) [])))))))) (Tr.chk (zI 0 (length x0)) (Tr.br ((↑(getD x0 (toNat 0) 0).toNat:Int)==39) (Tr.chk (ja x0) (Tr.ok (zt.ret (AV.tup [AV.agg [ai (quoted x0).1.1,AV.str (quoted x0).1.2],ai (quoted x0).2]) []))) (Tr.chk (decide (0≤0)&&decide (0≤1)&&decide (1≤(↑(length x0):Int))) (Tr.ok (zt.ret (AV.tup [AV.agg [ai 4,AV.str (List.take (toNat 1 - toNat 0) (List.drop (toNat 0) x0))],ai 1]) []))))):=by kernel_rfl
def bh (x0:TS):Sem eA×Sem zg:=(if true=true then if decide ((↑(aA aK cm x0):Int) > 0)=true then ((1,List.take ((↑(aA aK cm x0):Int).toNat - toNat 0) (List.drop (toNat 0) x0)),(↑(aA aK cm x0):Int)) else if true=true then if decide ((↑(aA zV zV x0):Int) > 0)=true then ((2,List.take ((↑(aA zV zV x0):Int).toNat - toNat 0) (List.drop (toNat 0) x0)),(↑(aA zV zV x0):Int)) else if false=true then default else if ((↑(getD x0 (toNat 0) 0).toNat:Int)==39)=true then ((quoted x0).1,(quoted x0).2) else ((4,List.take (toNat 1 - toNat 0) (List.drop (toNat 0) x0)),1) else if ((↑(getD x0 (toNat 0) 0).toNat:Int)==39)=true then ((quoted x0).1,(quoted x0).2) else ((4,List.take (toNat 1 - toNat 0) (List.drop (toNat 0) x0)),1) else if ((↑(getD x0 (toNat 0) 0).toNat:Int)==39)=true then ((quoted x0).1,(quoted x0).2) else ((4,List.take (toNat 1 - toNat 0) (List.drop (toNat 0) x0)),1))
def jp (x0:TS):Bool:=(if true=true then if true=true then if decide ((↑(aA aK cm x0):Int) > 0)=true then if (decide (0≤0)&&decide (0≤(↑(aA aK cm x0):Int))&&decide ((↑(aA aK cm x0):Int)≤(↑(length x0):Int)))=true then true else false else if true=true then if true=true then if decide ((↑(aA zV zV x0):Int) > 0)=true then if (decide (0≤0)&&decide (0≤(↑(aA zV zV x0):Int))&&decide ((↑(aA zV zV x0):Int)≤(↑(length x0):Int)))=true then true else false else if false=true then false else if zI 0 (length x0)=true then if ((↑(getD x0 (toNat 0) 0).toNat:Int)==39)=true then if ja x0=true then true else false else if (decide (0≤0)&&decide (0≤1)&&decide (1≤(↑(length x0):Int)))=true then true else false else false else false else if zI 0 (length x0)=true then if ((↑(getD x0 (toNat 0) 0).toNat:Int)==39)=true then if ja x0=true then true else false else if (decide (0≤0)&&decide (0≤1)&&decide (1≤(↑(length x0):Int)))=true then true else false else false else false else if zI 0 (length x0)=true then if ((↑(getD x0 (toNat 0) 0).toNat:Int)==39)=true then if ja x0=true then true else false else if (decide (0≤0)&&decide (0≤1)&&decide (1≤(↑(length x0):Int)))=true then true else false else false)
def F99:zF:=zG [Sh.str] [eA,zg] (fun x=>jp x.1) fun x=>((bh x.1).1,(bh x.1).2,())
theorem zbZ:FK 168 F99:=by
 refine zR (zft) fun x hc C hC=>?_
 unfold jp at hc
 refine zk cA (zft) (fun id _=>hC id) (zhU x.1) ?_
 generalize hy:bh x.1=y
 unfold bh at hy
 try simp only [ze.eta,zm]
 repeat' (first | with_reducible refine fe hy hc (fun _ hy hc=>?_) (fun _ hy hc=>?_) | with_reducible refine bd hy (fun _ hy=>?_) (fun _ hy=>?_) | with_reducible refine bz hc (fun hc=>?_) | with_reducible refine zr ?_)
 all_goals first | (cases hc; done) | (subst hy; first | rfl)

abbrev Tn:Nat→aj:=fun j=>if j=3 then { slots:=[1,5,8,9,10],prom:=[(5,none,.str)] } else { }
abbrev xk (l8:LC) (i9:Int) (i10:Int) (lh_0:LS):St:={ tmps:=(tm 23 [(1,AV.clo (Fn.func 228) [] []),(5,AV.vec 0),(8,AV.sl zi l8),(9,ai i9),(10,ai i10)]),heap:=[AO.vec Sh.str lh_0] }
theorem H3:zA (dM).P 227 Tryz.f227 2:=aS (by kernel_rfl)
theorem zcW (x0:Sem zi.sl):rn dM 0 Tn Tryz.f227 [zz zi.sl x0,AV.clo (Fn.func 228) [] []] []=Tr.ok (zt.head 3 (zy Tryz.f227 3) (xk x0 (↑(length x0):Int) 0 [])):=by kernel_rfl
theorem Id (l8:LC) (i9:Int) (i10:Int) (lh_0:LS):rh dM 0 Tn Tryz.f227 3 (xk l8 i9 i10 lh_0)=Tr.br (decide (i10 < i9)) (Tr.chk (zI i10 l8.length) (Tr.chk (ic (l8.getD i10.toNat (zj zi))) (Tr.chk (decide (lh_0.length+[dW (l8.getD i10.toNat (zj zi))].length≤1073741824)) (Tr.ok (zt.head 3 (zy Tryz.f227 3) (xk l8 i9 (IntKind.i64.wrap (i10+1)) (lh_0++[dW (l8.getD i10.toNat (zj zi))]))))))) (Tr.chk (decide (lh_0.length≤140737488355328)&&decide ((Lib.join lh_0 [32,44,32]).length≤140737488355328)) (Tr.ok (zt.ret (AV.str (Lib.join lh_0 [32,44,32])) []))):=by kernel_rfl
def cO:List (Sem zi)→Int→List (Sem Sh.str)→Sem Sh.str
 | [],_,lh_0=>(Lib.join lh_0 [32,44,32])
 | x::r,i10,lh_0=>(cO r (i10+1) (lh_0++[dW x]))
def di:List (Sem zi)→Int→List (Sem Sh.str)→Bool
 | [],_,lh_0=>(if (decide (lh_0.length≤140737488355328)&&decide ((Lib.join lh_0 [32,44,32]).length≤140737488355328))=true then true else false)
 | x::r,i10,lh_0=>(if ic x=true then if decide (lh_0.length+[dW x].length≤1073741824)=true then di r (i10+1) (lh_0++[dW x]) else false
else false)
theorem P4 {C:cI} (hC:∀ id,C.ρ0 id=none) (l8:LC) (hl:l8.length≤zB):∀ (m i:Nat) (lh_0:LS),l8.length - i=m→i≤l8.length→di (l8.drop i) i lh_0=true→
  Reach (dM) C 227 (zy Tryz.f227 3) (xk l8 (l8.length:Int) (i:Int) lh_0) (fun r h=>ah h [Sh.str] r=some (cO (l8.drop i) i lh_0,())):=by
 intro m
 induction m with
 | zero=>
  intro i lh_0 hm hi hc
  obtain rfl:i=l8.length:=by omega
  rw [cL] at hc ⊢
  refine zk cA (H3) (fun id _=>hC id) (Id _ _ _ _) ?_
  rw [di] at hc
  generalize hy:cO [] _ lh_0=y
  rw [cO] at hy
  simp only [zY,Tr.val_brF]
  repeat' (first | with_reducible refine fe hy hc (fun _ hy hc=>?_) (fun _ hy hc=>?_) | with_reducible refine bd hy (fun _ hy=>?_) (fun _ hy=>?_) | with_reducible refine bz hc (fun hc=>?_) | with_reducible refine zr ?_)
  all_goals first | (cases hc; done) | (subst hy; first | rfl)
 | succ m IH=>
  intro i lh_0 hm hi hc
  have hlt:i < l8.length:=by omega
  have IH:=IH (i+1)
  have hcast:((i:Int)+1)=((i+1:Nat):Int):=by omega
  have hwr:=zD i (by omega)
  rw [cX hlt] at hc ⊢
  refine zk cA (H3) (fun id _=>hC id) (Id _ _ _ _) ?_
  rw [di] at hc
  generalize hy:cO (l8[i]::l8.drop (i+1)) (i:Int) lh_0=y
  rw [cO] at hy
  simp only [zT hlt,zC hlt,ae l8 _ hlt,hwr,Tr.val_brT,Tr.val_chkT]
  clear hwr
  try simp only [zC hlt] at hy
  simp only [hcast] at hy
  try simp only [zC hlt] at hc
  try simp only [hcast] at hc
  repeat' (first | with_reducible refine fe hy hc (fun _ hy hc=>?_) (fun _ hy hc=>?_) | with_reducible refine bd hy (fun _ hy=>?_) (fun _ hy=>?_) | with_reducible refine bz hc (fun hc=>?_) | with_reducible refine zr ?_)
  all_goals first | (cases hc; done) | (subst hy; first | (change Reach _ _ _ _ _ _; apply IH <;> first | omega | assumption) | rfl)
theorem KT {C:cI} (hC:∀ id,C.ρ0 id=none) (l8:LC) (lh_0:LS) (hc:di l8 0 lh_0=true):
  Reach (dM) C 227 (zy Tryz.f227 3) (xk l8 (l8.length:Int) 0 lh_0) (fun r h=>ah h [Sh.str] r=some (cO l8 0 lh_0,())):=
 Reach.len 8 (zi) l8 rfl fun hl=>P4 hC l8 hl _ 0 lh_0 rfl (aV _) hc
def dB (x0:Sem zi.sl):Sem Sh.str:=(cO x0 0 [])
def jh (x0:Sem zi.sl):Bool:=(di x0 0 [])
def Zk:zF:=wP [zi.sl] [Sh.str] [(228,(fun x=>jh x.1),fun x=>(dB x.1,()))]
theorem Uo:FK 227 Zk:=by
 refine ls (H3) fun j c g hm x hc C hC=>?_
 simp only [bL,bv] at hm
 obtain ⟨rfl,rfl,rfl⟩:=hm
 replace hc:jh x.1=true:=hc
 unfold jh at hc
 refine zk cA (H3) (fun id _=>hC id) (zcW x.1) ?_
 generalize hy:dB x.1=y
 unfold dB at hy
 repeat' (first | with_reducible refine fe hy hc (fun _ hy hc=>?_) (fun _ hy hc=>?_) | with_reducible refine bd hy (fun _ hy=>?_) (fun _ hy=>?_) | with_reducible refine bz hc (fun hc=>?_) | with_reducible refine zr ?_)
 all_goals first | (cases hc; done) | (subst hy; first | (change Reach _ _ _ _ _ _; apply KT hC <;> first | assumption | exact hc) | rfl)

abbrev zet:Nat→aj:=fun j=>if j=3 then { slots:=[1,5,8,9,10],prom:=[(5,none,.str)] } else { }
abbrev EJ (l8:LS) (i9:Int) (i10:Int) (lh_0:LS):St:={ tmps:=(tm 23 [(1,AV.clo (Fn.func 157) [] []),(5,AV.vec 0),(8,AV.sl Sh.str l8),(9,ai i9),(10,ai i10)]),heap:=[AO.vec Sh.str lh_0] }
theorem Q2:zA (dM).P 166 Tryz.f166 2:=aS (by kernel_rfl)
theorem zhS (x0:Sem Sh.str.sl):rn dM 0 zet Tryz.f166 [zz Sh.str.sl x0,AV.clo (Fn.func 157) [] []] []=Tr.ok (zt.head 3 (zy Tryz.f166 3) (EJ x0 (↑(length x0):Int) 0 [])):=by kernel_rfl
theorem NO (l8:LS) (i9:Int) (i10:Int) (lh_0:LS):rh dM 0 zet Tryz.f166 3 (EJ l8 i9 i10 lh_0)=Tr.br (decide (i10 < i9)) (Tr.chk (zI i10 l8.length) (Tr.chk (decide (lh_0.length+[mr (l8.getD i10.toNat (zj Sh.str))].length≤1073741824)) (Tr.ok (zt.head 3 (zy Tryz.f166 3) (EJ l8 i9 (IntKind.i64.wrap (i10+1)) (lh_0++[mr (l8.getD i10.toNat (zj Sh.str))])))))) (Tr.chk (decide (lh_0.length≤140737488355328)&&decide ((Lib.join lh_0 [32,44,32]).length≤140737488355328)) (Tr.ok (zt.ret (AV.str (Lib.join lh_0 [32,44,32])) []))):=by kernel_rfl
def cU:List (Sem Sh.str)→Int→List (Sem Sh.str)→Sem Sh.str
 | [],_,lh_0=>(Lib.join lh_0 [32,44,32])
 | x::r,i10,lh_0=>(cU r (i10+1) (lh_0++[mr x]))
def dl:List (Sem Sh.str)→Int→List (Sem Sh.str)→Bool
 | [],_,lh_0=>(if (decide (lh_0.length≤140737488355328)&&decide ((Lib.join lh_0 [32,44,32]).length≤140737488355328))=true then true else false)
 | x::r,i10,lh_0=>(if decide (lh_0.length+[mr x].length≤1073741824)=true then dl r (i10+1) (lh_0++[mr x]) else false)
theorem Wh {C:cI} (hC:∀ id,C.ρ0 id=none) (l8:LS) (hl:l8.length≤zB):∀ (m i:Nat) (lh_0:LS),l8.length - i=m→i≤l8.length→dl (l8.drop i) i lh_0=true→
  Reach (dM) C 166 (zy Tryz.f166 3) (EJ l8 (l8.length:Int) (i:Int) lh_0) (fun r h=>ah h [Sh.str] r=some (cU (l8.drop i) i lh_0,())):=by
 intro m
 induction m with
 | zero=>
  intro i lh_0 hm hi hc
  obtain rfl:i=l8.length:=by omega
  rw [cL] at hc ⊢
  refine zk cA (Q2) (fun id _=>hC id) (NO _ _ _ _) ?_
  rw [dl] at hc
  generalize hy:cU [] _ lh_0=y
  rw [cU] at hy
  simp only [zY,Tr.val_brF]
  repeat' (first | with_reducible refine fe hy hc (fun _ hy hc=>?_) (fun _ hy hc=>?_) | with_reducible refine bd hy (fun _ hy=>?_) (fun _ hy=>?_) | with_reducible refine bz hc (fun hc=>?_) | with_reducible refine zr ?_)
  all_goals first | (cases hc; done) | (subst hy; first | rfl)
 | succ m IH=>
  intro i lh_0 hm hi hc
  have hlt:i < l8.length:=by omega
  have IH:=IH (i+1)
  have hcast:((i:Int)+1)=((i+1:Nat):Int):=by omega
  have hwr:=zD i (by omega)
  rw [cX hlt] at hc ⊢
  refine zk cA (Q2) (fun id _=>hC id) (NO _ _ _ _) ?_
  rw [dl] at hc
  generalize hy:cU (l8[i]::l8.drop (i+1)) (i:Int) lh_0=y
  rw [cU] at hy
  simp only [zT hlt,zC hlt,ae l8 _ hlt,hwr,Tr.val_brT,Tr.val_chkT]
  clear hwr
  try simp only [zC hlt] at hy
  simp only [hcast] at hy
  try simp only [zC hlt] at hc
  try simp only [hcast] at hc
  repeat' (first | with_reducible refine fe hy hc (fun _ hy hc=>?_) (fun _ hy hc=>?_) | with_reducible refine bd hy (fun _ hy=>?_) (fun _ hy=>?_) | with_reducible refine bz hc (fun hc=>?_) | with_reducible refine zr ?_)
  all_goals first | (cases hc; done) | (subst hy; first | (change Reach _ _ _ _ _ _; apply IH <;> first | omega | assumption) | rfl)
theorem Qc {C:cI} (hC:∀ id,C.ρ0 id=none) (l8:LS) (lh_0:LS) (hc:dl l8 0 lh_0=true):
  Reach (dM) C 166 (zy Tryz.f166 3) (EJ l8 (l8.length:Int) 0 lh_0) (fun r h=>ah h [Sh.str] r=some (cU l8 0 lh_0,())):=
 Reach.len 8 (Sh.str) l8 rfl fun hl=>Wh hC l8 hl _ 0 lh_0 rfl (aV _) hc
def lg (x0:Sem Sh.str.sl):Sem Sh.str:=(cU x0 0 [])
def lh (x0:Sem Sh.str.sl):Bool:=(dl x0 0 [])
def F97:zF:=wP [Sh.str.sl] [Sh.str] [(157,(fun x=>lh x.1),fun x=>(lg x.1,()))]
theorem zbX:FK 166 F97:=by
 refine ls (Q2) fun j c g hm x hc C hC=>?_
 simp only [bL,bv] at hm
 obtain ⟨rfl,rfl,rfl⟩:=hm
 replace hc:lh x.1=true:=hc
 unfold lh at hc
 refine zk cA (Q2) (fun id _=>hC id) (zhS x.1) ?_
 generalize hy:lg x.1=y
 unfold lg at hy
 repeat' (first | with_reducible refine fe hy hc (fun _ hy hc=>?_) (fun _ hy hc=>?_) | with_reducible refine bd hy (fun _ hy=>?_) (fun _ hy=>?_) | with_reducible refine bz hc (fun hc=>?_) | with_reducible refine zr ?_)
 all_goals first | (cases hc; done) | (subst hy; first | (change Reach _ _ _ _ _ _; apply Qc hC <;> first | assumption | exact hc) | rfl)

noncomputable def kJ:=dM.addL [(154,F85),(210,Y7),(211,Y8),(152,F83),(161,F92),(156,F87),(168,F99),(227,Zk),(166,F97)]
theorem ei:zl kJ:=cA.addL <| fc zbK <| fc Ub <| fc Uc <| fc zbI <| fc zbS <| fc zbM <| fc zbZ <| fc Uo <| fc zbX jn
noncomputable section

def Zu:zF:=zU (List.replicate 2 none) (bZ kJ Tryz.f253 (List.replicate 2 none))
theorem Uy:FK 253 Zu:=aw _ ei (aS (by kernel_rfl))

def Zw:zF:=zU (List.replicate 2 none) (bZ kJ Tryz.f255 (List.replicate 2 none))
theorem UA:FK 255 Zw:=aw _ ei (aS (by kernel_rfl))

def Zi:zF:=zU (List.replicate 2 none) (bZ kJ Tryz.f220 (List.replicate 2 none))
theorem Um:FK 220 Zi:=aw _ ei (aS (by kernel_rfl))

def Zd:zF:=zU (List.replicate 2 none) (bZ kJ Tryz.f215 (List.replicate 2 none))
theorem Uh:FK 215 Zd:=aw _ ei (aS (by kernel_rfl))

def Zf:zF:=zU (List.replicate 2 none) (bZ kJ Tryz.f217 (List.replicate 2 none))
theorem Uj:FK 217 Zf:=aw _ ei (aS (by kernel_rfl))

abbrev zer:Nat→aj:=fun j=>if j=3 then { slots:=[1,5,8,9,10],prom:=[(5,none,.str)] } else { }
abbrev EH (l8:LV) (i9:Int) (i10:Int) (lh_0:LS):St:={ tmps:=(tm 23 [(1,AV.clo (Fn.func 161) [] []),(5,AV.vec 0),(8,AV.sl zf l8),(9,ai i9),(10,ai i10)]),heap:=[AO.vec Sh.str lh_0] }
theorem Q0:zA (kJ).P 160 Tryz.f160 2:=aS (by kernel_rfl)
theorem zhM (x0:Sem zf.sl):rn kJ 0 zer Tryz.f160 [zz zf.sl x0,AV.clo (Fn.func 161) [] []] []=Tr.ok (zt.head 3 (zy Tryz.f160 3) (EH x0 (↑(length x0):Int) 0 [])):=by kernel_rfl
theorem NL (l8:LV) (i9:Int) (i10:Int) (lh_0:LS):rh kJ 0 zer Tryz.f160 3 (EH l8 i9 i10 lh_0)=Tr.br (decide (i10 < i9)) (Tr.chk (zI i10 l8.length) (Tr.chk (lW (l8.getD i10.toNat (zj zf))) (Tr.chk (decide (lh_0.length+[gC (l8.getD i10.toNat (zj zf))].length≤1073741824)) (Tr.ok (zt.head 3 (zy Tryz.f160 3) (EH l8 i9 (IntKind.i64.wrap (i10+1)) (lh_0++[gC (l8.getD i10.toNat (zj zf))]))))))) (Tr.chk (decide (lh_0.length≤140737488355328)&&decide ((Lib.join lh_0 [32,44,32]).length≤140737488355328)) (Tr.ok (zt.ret (AV.str (Lib.join lh_0 [32,44,32])) []))):=by kernel_rfl
def cV:List (Sem zf)→Int→List (Sem Sh.str)→Sem Sh.str
 | [],_,lh_0=>(Lib.join lh_0 [32,44,32])
 | x::r,i10,lh_0=>(cV r (i10+1) (lh_0++[gC x]))
def dp:List (Sem zf)→Int→List (Sem Sh.str)→Bool
 | [],_,lh_0=>(if (decide (lh_0.length≤140737488355328)&&decide ((Lib.join lh_0 [32,44,32]).length≤140737488355328))=true then true else false)
 | x::r,i10,lh_0=>(if lW x=true then if decide (lh_0.length+[gC x].length≤1073741824)=true then dp r (i10+1) (lh_0++[gC x]) else false else false)
theorem Wf {C:cI} (hC:∀ id,C.ρ0 id=none) (l8:LV) (hl:l8.length≤zB):∀ (m i:Nat) (lh_0:LS),l8.length - i=m→i≤l8.length→dp (l8.drop i) i lh_0=true→
  Reach (kJ) C 160 (zy Tryz.f160 3) (EH l8 (l8.length:Int) (i:Int) lh_0) (fun r h=>ah h [Sh.str] r=some (cV (l8.drop i) i lh_0,())):=by
 intro m
 induction m with
 | zero=>
  intro i lh_0 hm hi hc
  obtain rfl:i=l8.length:=by omega
  rw [cL] at hc ⊢
  refine zk ei (Q0) (fun id _=>hC id) (NL _ _ _ _) ?_
  rw [dp] at hc
  generalize hy:cV [] _ lh_0=y
  rw [cV] at hy
  simp only [zY,Tr.val_brF]
  repeat' (first | with_reducible refine fe hy hc (fun _ hy hc=>?_) (fun _ hy hc=>?_) | with_reducible refine bd hy (fun _ hy=>?_) (fun _ hy=>?_) | with_reducible refine bz hc (fun hc=>?_) | with_reducible refine zr ?_)
  all_goals first | (cases hc; done) | (subst hy; first | rfl)
 | succ m IH=>
  intro i lh_0 hm hi hc
  have hlt:i < l8.length:=by omega
  have IH:=IH (i+1)
  have hcast:((i:Int)+1)=((i+1:Nat):Int):=by omega
  have hwr:=zD i (by omega)
  rw [cX hlt] at hc ⊢
  refine zk ei (Q0) (fun id _=>hC id) (NL _ _ _ _) ?_
  rw [dp] at hc
  generalize hy:cV (l8[i]::l8.drop (i+1)) (i:Int) lh_0=y
  rw [cV] at hy
  simp only [zT hlt,zC hlt,ae l8 _ hlt,hwr,Tr.val_brT,Tr.val_chkT]
  clear hwr
  try simp only [zC hlt] at hy
  simp only [hcast] at hy
  try simp only [zC hlt] at hc
  try simp only [hcast] at hc
  repeat' (first | with_reducible refine fe hy hc (fun _ hy hc=>?_) (fun _ hy hc=>?_) | with_reducible refine bd hy (fun _ hy=>?_) (fun _ hy=>?_) | with_reducible refine bz hc (fun hc=>?_) | with_reducible refine zr ?_)
  all_goals first | (cases hc; done) | (subst hy; first | (change Reach _ _ _ _ _ _; apply IH <;> first | omega | assumption) | rfl)
theorem Qa {C:cI} (hC:∀ id,C.ρ0 id=none) (l8:LV) (lh_0:LS) (hc:dp l8 0 lh_0=true):
  Reach (kJ) C 160 (zy Tryz.f160 3) (EH l8 (l8.length:Int) 0 lh_0) (fun r h=>ah h [Sh.str] r=some (cV l8 0 lh_0,())):=
 Reach.len 8 (zf) l8 rfl fun hl=>Wf hC l8 hl _ 0 lh_0 rfl (aV _) hc
def ln (x0:Sem zf.sl):Sem Sh.str:=(cV x0 0 [])
def lp (x0:Sem zf.sl):Bool:=(dp x0 0 [])
def F91:zF:=wP [zf.sl] [Sh.str] [(161,(fun x=>lp x.1),fun x=>(ln x.1,()))]
theorem zbR:FK 160 F91:=by
 refine ls (Q0) fun j c g hm x hc C hC=>?_
 simp only [bL,bv] at hm
 obtain ⟨rfl,rfl,rfl⟩:=hm
 replace hc:lp x.1=true:=hc
 unfold lp at hc
 refine zk ei (Q0) (fun id _=>hC id) (zhM x.1) ?_
 generalize hy:ln x.1=y
 unfold ln at hy
 repeat' (first | with_reducible refine fe hy hc (fun _ hy hc=>?_) (fun _ hy hc=>?_) | with_reducible refine bd hy (fun _ hy=>?_) (fun _ hy=>?_) | with_reducible refine bz hc (fun hc=>?_) | with_reducible refine zr ?_)
 all_goals first | (cases hc; done) | (subst hy; first | (change Reach _ _ _ _ _ _; apply Qa hC <;> first | assumption | exact hc) | rfl)

def Lq (g:Sem Sh.expr→Sem Sh.str) (c:Sem Sh.expr→Bool):bx:=kJ.add 268 (zG [Sh.expr] [Sh.str] (fun x=>c x.1) fun x=>(g x.1,()))
theorem Jj {g:Sem Sh.expr→Sem Sh.str} {c:Sem Sh.expr→Bool} (hg:FK 268 (zG [Sh.expr] [Sh.str] (fun x=>c x.1) fun x=>(g x.1,()))):zl (Lq g c):=ei.add hg
abbrev XC:Nat→aj:=fun _=>{ }
theorem wF (g:Sem Sh.expr→Sem Sh.str) (c:Sem Sh.expr→Bool):zA (Lq g c).P 268 Tryz.f268 1:=aS (by kernel_rfl)
theorem WL (g:Sem Sh.expr→Sem Sh.str) (c:Sem Sh.expr→Bool) (x0:Sem Sh.expr):rn (Lq g c) 0 XC Tryz.f268 [zz Sh.expr x0] []=Tr.br (ze.op x0==[108,105,116]) (Tr.chk (lW (ze.v x0)) (Tr.ok (zt.ret (AV.str (gC (ze.v x0))) []))) (Tr.br (ze.op x0==[99,111,108]) (Tr.ok (zt.ret (AV.str (ze.s x0)) [])) (Tr.br (ze.op x0==[110,111,116]) (Tr.chk (zI 0 (ze.l x0).length) (Tr.chk (c (zE ((ze.l x0).getD (toNat 0) (zj Sh.expr)))) (Tr.chk (decide ([40,78,79,84,32].length+length (g (zE ((ze.l x0).getD (toNat 0) (zj Sh.expr))))≤1099511627776)) (Tr.chk (decide (length ([40,78,79,84,32]++g (zE ((ze.l x0).getD (toNat 0) (zj Sh.expr))))+[41].length≤1099511627776)) (Tr.ok (zt.ret (AV.str ([40,78,79,84,32]++g (zE ((ze.l x0).getD (toNat 0) (zj Sh.expr)))++[41])) [])))))) (Tr.br (ze.op x0==[110,117,108,108]) (Tr.chk (zI 0 (ze.l x0).length) (Tr.chk (c (zE ((ze.l x0).getD (toNat 0) (zj Sh.expr)))) (Tr.chk (decide ([40].length+length (g (zE ((ze.l x0).getD (toNat 0) (zj Sh.expr))))≤1099511627776)) (Tr.chk (decide (length ([40]++g (zE ((ze.l x0).getD (toNat 0) (zj Sh.expr))))+[32,73,83,32,78,85,76,76,41].length≤1099511627776)) (Tr.ok (zt.ret (AV.str ([40]++g
 (zE ((ze.l x0).getD (toNat 0) (zj Sh.expr)))++[32,73,83,32,78,85,76,76,41])) [])))))) (Tr.chk (zI 0 (ze.l x0).length) (Tr.chk (c (zE ((ze.l x0).getD (toNat 0) (zj Sh.expr)))) (Tr.chk (decide ([40].length+length (g (zE ((ze.l x0).getD (toNat 0) (zj Sh.expr))))≤1099511627776)) (Tr.chk (decide (length ([40]++g (zE ((ze.l x0).getD (toNat 0) (zj Sh.expr))))+[32].length≤1099511627776)) (Tr.chk (decide (length (ze.op x0)≤140737488355328)&&List.all (ze.op x0) fun b=>decide (b.toNat < 128)) (Tr.chk (decide (length ([40]++g (zE ((ze.l x0).getD (toNat 0) (zj Sh.expr)))++[32])+(Lib.toUpperA (ze.op x0)).length≤1099511627776)) (Tr.chk (decide (length ([40]++g (zE ((ze.l x0).getD (toNat 0) (zj Sh.expr)))++[32]++Lib.toUpperA (ze.op x0))+[32].length≤1099511627776)) (Tr.chk (zI 1 (ze.l x0).length) (Tr.chk (c (zE ((ze.l x0).getD (toNat 1) (zj Sh.expr)))) (Tr.chk (decide (length ([40]++g (zE ((ze.l x0).getD (toNat 0) (zj Sh.expr)))++[32]++Lib.toUpperA (ze.op x0)++[32])+length (g (zE ((ze.l x0).getD (toNat 1) (zj Sh.expr))))≤1099511627776)) (Tr.chk (decide (length ([40]++g (zE ((ze.l x0).getD (toNat 0) (zj Sh.expr)))++[32]++Lib.toUpperA (ze.op x0)++[32]++g (zE ((ze.l x0).getD (toNat 1) (zj Sh.expr))))+[41].length≤1099511627776)) (Tr.ok
 (zt.ret (AV.str ([40]++g (zE ((ze.l x0).getD (toNat 0) (zj Sh.expr)))++[32]++Lib.toUpperA (ze.op x0)++[32]++g (zE ((ze.l x0).getD (toNat 1) (zj Sh.expr)))++[41])) [])))))))))))))))):=by kernel_rfl
def u7 (g:Sem Sh.expr→Sem Sh.str) (_:Sem Sh.expr→Bool) (x0:Sem Sh.expr):Sem Sh.str:=(if (ze.op x0==[108,105,116])=true then gC (ze.v x0) else if (ze.op x0==[99,111,108])=true then ze.s x0 else if (ze.op x0==[110,111,116])=true then [40,78,79,84,32]++g ((ze.l x0).getD (toNat 0) (zj Sh.expr))++[41] else if (ze.op x0==[110,117,108,108])=true then [40]++g ((ze.l x0).getD (toNat 0) (zj Sh.expr))++[32,73,83,32,78,85,76,76,41] else [40]++g ((ze.l x0).getD (toNat 0) (zj Sh.expr))++[32]++Lib.toUpperA (ze.op x0)++[32]++g ((ze.l x0).getD (toNat 1) (zj Sh.expr))++[41])
def tL (g:Sem Sh.expr→Sem Sh.str) (c:Sem Sh.expr→Bool) (x0:Sem Sh.expr):Bool:=(if (ze.op x0==[108,105,116])=true then if lW (ze.v x0)=true then true else false else if (ze.op x0==[99,111,108])=true then true else if (ze.op x0==[110,111,116])=true then if zI 0 (ze.l x0).length=true then if c ((ze.l x0).getD (toNat 0) (zj Sh.expr))=true then if decide ([40,78,79,84,32].length+length (g ((ze.l x0).getD (toNat 0) (zj Sh.expr)))≤1099511627776)=true then if decide (length ([40,78,79,84,32]++g ((ze.l x0).getD (toNat 0) (zj Sh.expr)))+[41].length≤1099511627776)=true then true else false else false else false else false else if (ze.op x0==[110,117,108,108])=true then if zI 0 (ze.l x0).length=true then if c ((ze.l x0).getD (toNat 0) (zj Sh.expr))=true then if decide ([40].length+length (g ((ze.l x0).getD (toNat 0) (zj Sh.expr)))≤1099511627776)=true then if decide (length ([40]++g ((ze.l x0).getD (toNat 0) (zj Sh.expr)))+[32,73,83,32,78,85,76,76,41].length≤1099511627776)=true then true else false else false else false else false else if zI 0 (ze.l x0).length=true then if c ((ze.l x0).getD (toNat 0) (zj Sh.expr))=true then if decide ([40].length+length (g ((ze.l x0).getD (toNat 0) (zj Sh.expr)))≤1099511627776)=true then
 if decide (length ([40]++g ((ze.l x0).getD (toNat 0) (zj Sh.expr)))+[32].length≤1099511627776)=true then if (decide (length (ze.op x0)≤140737488355328)&&List.all (ze.op x0) fun b=>decide (b.toNat < 128))=true then if decide (length ([40]++g ((ze.l x0).getD (toNat 0) (zj Sh.expr))++[32])+(Lib.toUpperA (ze.op x0)).length≤1099511627776)=true then if decide (length ([40]++g ((ze.l x0).getD (toNat 0) (zj Sh.expr))++[32]++Lib.toUpperA (ze.op x0))+[32].length≤1099511627776)=true then if zI 1 (ze.l x0).length=true then if c ((ze.l x0).getD (toNat 1) (zj Sh.expr))=true then if decide (length ([40]++g ((ze.l x0).getD (toNat 0) (zj Sh.expr))++[32]++Lib.toUpperA (ze.op x0)++[32])+length (g ((ze.l x0).getD (toNat 1) (zj Sh.expr)))≤1099511627776)=true then if decide (length ([40]++g ((ze.l x0).getD (toNat 0) (zj Sh.expr))++[32]++Lib.toUpperA (ze.op x0)++[32]++g ((ze.l x0).getD (toNat 1) (zj Sh.expr)))+[41].length≤1099511627776)=true then true else false else false else false else false else false else false else false else false else false else false else false)
def ZE (g:Sem Sh.expr→Sem Sh.str) (c:Sem Sh.expr→Bool):zF:=zG [Sh.expr] [Sh.str] (fun x=>tL g c x.1) fun x=>(u7 g c x.1,())
theorem PC (g:Sem Sh.expr→Sem Sh.str) (c:Sem Sh.expr→Bool) (hg:FK 268 (zG [Sh.expr] [Sh.str] (fun x=>c x.1) fun x=>(g x.1,()))):FK 268 (ZE g c):=by
 refine zR (wF g c) fun x hc C hC=>?_
 unfold tL at hc
 refine zk (Jj hg) (wF g c) (fun id _=>hC id) (WL g c x.1) ?_
 generalize hy:u7 g c x.1=y
 unfold u7 at hy
 try simp only [ze.eta]
 repeat' (first | with_reducible refine fe hy hc (fun _ hy hc=>?_) (fun _ hy hc=>?_) | with_reducible refine bd hy (fun _ hy=>?_) (fun _ hy=>?_) | with_reducible refine bz hc (fun hc=>?_) | with_reducible refine zr ?_)
 all_goals first | (cases hc; done) | (subst hy; first | rfl)
mutual
def gH:Nat→Sem Sh.expr→Sem Sh.str
 | 0=>fun _=>default
 | n+1=>u7 (gH n) (gY n)
def gY:Nat→Sem Sh.expr→Bool
 | 0=>fun _=>false
 | n+1=>tL (gH n) (gY n)
end
theorem Ha:∀ n,FK 268 (zG [Sh.expr] [Sh.str] (fun x=>gY n x.1) fun x=>(gH n x.1,()))
 | 0=>dz ⟨Tryz.f268,(wF default default).1,(wF default default).2.1,(wF default default).2.2.1⟩ (fun _=>rfl)
 | n+1=>PC (gH n) (gY n) (Ha n)
def ZD:zF:=zG [Sh.expr] [Sh.str] (fun x=>gY 16 x.1) fun x=>(gH 16 x.1,())
theorem UH:FK 268 ZD:=Ha 16

def eK:=kJ.addL [(253,Zu),(255,Zw),(220,Zi),(215,Zd),(217,Zf),(160,F91),(268,ZD)]
theorem cB:zl eK:=ei.addL <| fc Uy <| fc UA <| fc Um <| fc Uh <| fc Uj <| fc zbR <| fc UH jn
end

abbrev qI (l:LC) (i:Int):St:={ tmps:=[.sl zi l,.clo (.func 253) [] [.ptr 0 0],.any,.any,.any,.any,.any,.int .i64 l.length,.int .i64 i,.any,.any,.any,.any,.any,.any,.any,.any,.any,.any],heap:=[.box [.clo (.func 210) [] []]] }
theorem JH (l:LC):run eK 1 mw Tryz.f126.results.toList 300 (aC Tryz.f126) (ar Tryz.f126.ntmps [.sl zi l,.clo (.func 253) [] [.ptr 0 0]] [.box [.clo (.func 210) [] []]])=.ok (.head 2 (zy Tryz.f126 2) (qI l 0)):=by kernel_rfl
theorem J3 (l:LC) (i:Int):run eK 1 mw Tryz.f126.results.toList 300 (zy Tryz.f126 2) (qI l i)=iG (K:=zy Tryz.f126 2) (e:=zi) l (fun x => !hZ x) (qI l) [.box [.clo (.func 210) [] []]] i:=by kernel_rfl

theorem Nv:zA eK.P 126 Tryz.f126 2:=aS (by kernel_rfl)
def zb6:cG [some (.sl zi),none]:=fun x h=>match x,h with
 | (l,.clo (.func 253) [] [.ptr 0 0],_),[.box [.clo (.func 210) [] []]]=>.ok (.int .i64 (zL (fun x => !hZ x) l 0),[.box [.clo (.func 210) [] []]])
 | _,_=>.err
def ZS:zF:=zU [some (.sl zi),none] zb6
theorem UX:FK 126 ZS:=by
 refine bC Nv fun x h0 res hx C hC=>?_
 unfold zb6 at hx
 split at hx
 ·rename_i l u
  simp only [Tr.val_ok,ap] at hx
  subst hx
  refine Reach.len 0 zi l rfl fun hl=>?_
  refine zk (n0:=1) cB Nv hC (JH l) ?_
  exact eY l (fun x => !hZ x) (qI l) cB Nv hC (J3 l) hl _ 0 rfl (aV _)
 ·simp at hx

abbrev qH (l:List (Sem bJ)) (i:Int):St:={ tmps:=[.sl bJ l,.clo (.func 255) [] [.ptr 0 0],.any,.any,.any,.any,.any,.int .i64 l.length,.int .i64 i,.any,.any,.any,.any,.any,.any,.any,.any,.any,.any],heap:=[.box [.clo (.func 211) [] []]] }
theorem JG (l:List (Sem bJ)):run eK 1 mw Tryz.f279.results.toList 300 (aC Tryz.f279) (ar Tryz.f279.ntmps [.sl bJ l,.clo (.func 255) [] [.ptr 0 0]] [.box [.clo (.func 211) [] []]])=.ok (.head 2 (zy Tryz.f279 2) (qH l 0)):=by kernel_rfl
theorem J2 (l:List (Sem bJ)) (i:Int):run eK 1 mw Tryz.f279.results.toList 300 (zy Tryz.f279 2) (qH l i)=iG (K:=zy Tryz.f279 2) (e:=bJ) l (fun x => !ni x) (qH l) [.box [.clo (.func 211) [] []]] i:=by kernel_rfl

theorem Nr:zA eK.P 279 Tryz.f279 2:=aS (by kernel_rfl)
def zb5:cG [some (.sl bJ),none]:=fun x h=>match x,h with
 | (l,.clo (.func 255) [] [.ptr 0 0],_),[.box [.clo (.func 211) [] []]]=>.ok (.int .i64 (zL (fun x => !ni x) l 0),[.box [.clo (.func 211) [] []]])
 | _,_=>.err
def ZG:zF:=zU [some (.sl bJ),none] zb5
theorem UJ:FK 279 ZG:=by
 refine bC Nr fun x h0 res hx C hC=>?_
 unfold zb5 at hx
 split at hx
 ·rename_i l u
  simp only [Tr.val_ok,ap] at hx
  subst hx
  refine Reach.len 0 bJ l rfl fun hl=>?_
  refine zk (n0:=1) cB Nr hC (JG l) ?_
  exact eY l (fun x => !ni x) (qH l) cB Nr hC (J2 l) hl _ 0 rfl (aV _)
 ·simp at hx

abbrev qG (l:LS) (i:Int):St:={ tmps:=[.sl Sh.str l,.clo (.func 220) [] [.ptr 0 0],.any,.any,.any,.any,.any,.int .i64 l.length,.int .i64 i,.any,.any,.any,.any,.any,.any,.any,.any,.any,.any],heap:=[.box [.clo (.func 149) [] []]] }
theorem JF (l:LS):run eK 1 mw Tryz.f258.results.toList 300 (aC Tryz.f258) (ar Tryz.f258.ntmps [.sl Sh.str l,.clo (.func 220) [] [.ptr 0 0]] [.box [.clo (.func 149) [] []]])=.ok (.head 2 (zy Tryz.f258 2) (qG l 0)):=by kernel_rfl
theorem J1 (l:LS) (i:Int):run eK 1 mw Tryz.f258.results.toList 300 (zy Tryz.f258 2) (qG l i)=iG (K:=zy Tryz.f258 2) (e:=Sh.str) l (fun x => !bt x) (qG l) [.box [.clo (.func 149) [] []]] i:=by kernel_rfl

theorem Nq:zA eK.P 258 Tryz.f258 2:=aS (by kernel_rfl)
def zb4:cG [some (.sl Sh.str),none]:=fun x h=>match x,h with
 | (l,.clo (.func 220) [] [.ptr 0 0],_),[.box [.clo (.func 149) [] []]]=>.ok (.int .i64 (zL (fun x => !bt x) l 0),[.box [.clo (.func 149) [] []]])
 | _,_=>.err
def Zz:zF:=zU [some (.sl Sh.str),none] zb4
theorem UD:FK 258 Zz:=by
 refine bC Nq fun x h0 res hx C hC=>?_
 unfold zb4 at hx
 split at hx
 ·rename_i l u
  simp only [Tr.val_ok,ap] at hx
  subst hx
  refine Reach.len 0 Sh.str l rfl fun hl=>?_
  refine zk (n0:=1) cB Nq hC (JF l) ?_
  exact eY l (fun x => !bt x) (qG l) cB Nq hC (J1 l) hl _ 0 rfl (aV _)
 ·simp at hx

abbrev qE (l:LV) (i:Int):St:={ tmps:=[.sl zf l,.clo (.func 215) [] [.ptr 0 0],.any,.any,.any,.any,.any,.int .i64 l.length,.int .i64 i,.any,.any,.any,.any,.any,.any,.any,.any,.any,.any],heap:=[.box [.clo (.func 94) [] []]] }
theorem JD (l:LV):run eK 1 mw Tryz.f256.results.toList 300 (aC Tryz.f256) (ar Tryz.f256.ntmps [.sl zf l,.clo (.func 215) [] [.ptr 0 0]] [.box [.clo (.func 94) [] []]])=.ok (.head 2 (zy Tryz.f256 2) (qE l 0)):=by kernel_rfl
theorem JZ (l:LV) (i:Int):run eK 1 mw Tryz.f256.results.toList 300 (zy Tryz.f256 2) (qE l i)=iG (K:=zy Tryz.f256 2) (e:=zf) l (fun x => !gy x) (qE l) [.box [.clo (.func 94) [] []]] i:=by kernel_rfl

theorem No:zA eK.P 256 Tryz.f256 2:=aS (by kernel_rfl)
def zb2:cG [some (.sl zf),none]:=fun x h=>match x,h with
 | (l,.clo (.func 215) [] [.ptr 0 0],_),[.box [.clo (.func 94) [] []]]=>.ok (.int .i64 (zL (fun x => !gy x) l 0),[.box [.clo (.func 94) [] []]])
 | _,_=>.err
def Zx:zF:=zU [some (.sl zf),none] zb2
theorem UB:FK 256 Zx:=by
 refine bC No fun x h0 res hx C hC=>?_
 unfold zb2 at hx
 split at hx
 ·rename_i l u
  simp only [Tr.val_ok,ap] at hx
  subst hx
  refine Reach.len 0 zf l rfl fun hl=>?_
  refine zk (n0:=1) cB No hC (JD l) ?_
  exact eY l (fun x => !gy x) (qE l) cB No hC (JZ l) hl _ 0 rfl (aV _)
 ·simp at hx

abbrev qF (l:List (Sem aN)) (i:Int):St:={ tmps:=[.sl aN l,.clo (.func 217) [] [.ptr 0 0],.any,.any,.any,.any,.any,.int .i64 l.length,.int .i64 i,.any,.any,.any,.any,.any,.any,.any,.any,.any,.any],heap:=[.box [.clo (.func 152) [] []]] }
theorem JE (l:List (Sem aN)):run eK 1 mw Tryz.f257.results.toList 300 (aC Tryz.f257) (ar Tryz.f257.ntmps [.sl aN l,.clo (.func 217) [] [.ptr 0 0]] [.box [.clo (.func 152) [] []]])=.ok (.head 2 (zy Tryz.f257 2) (qF l 0)):=by kernel_rfl
theorem J0 (l:List (Sem aN)) (i:Int):run eK 1 mw Tryz.f257.results.toList 300 (zy Tryz.f257 2) (qF l i)=iG (K:=zy Tryz.f257 2) (e:=aN) l (fun x => !xx x) (qF l) [.box [.clo (.func 152) [] []]] i:=by kernel_rfl

theorem Np:zA eK.P 257 Tryz.f257 2:=aS (by kernel_rfl)
def zb3:cG [some (.sl aN),none]:=fun x h=>match x,h with
 | (l,.clo (.func 217) [] [.ptr 0 0],_),[.box [.clo (.func 152) [] []]]=>.ok (.int .i64 (zL (fun x => !xx x) l 0),[.box [.clo (.func 152) [] []]])
 | _,_=>.err
def Zy:zF:=zU [some (.sl aN),none] zb3
theorem UC:FK 257 Zy:=by
 refine bC Np fun x h0 res hx C hC=>?_
 unfold zb3 at hx
 split at hx
 ·rename_i l u
  simp only [Tr.val_ok,ap] at hx
  subst hx
  refine Reach.len 0 aN l rfl fun hl=>?_
  refine zk (n0:=1) cB Np hC (JE l) ?_
  exact eY l (fun x => !xx x) (qF l) cB Np hC (J0 l) hl _ 0 rfl (aV _)
 ·simp at hx

abbrev zd1:Nat→aj:=fun _=>{ }
theorem TH:zA (eK).P 232 Tryz.f232 1:=aS (by kernel_rfl)
theorem zcY (x0:Sem Sh.expr):rn eK 0 zd1 Tryz.f232 [zz Sh.expr x0] []=Tr.br (!kf (zE x0)) (Tr.ok (zt.ret (AV.tup [AV.str [],ai 1]) [])) (Tr.chk (gY 16 (zE x0)) (Tr.ok (zt.ret (AV.tup [AV.str (gH 16 (zE x0)),ai 0]) []))):=by kernel_rfl
def mQ (x0:Sem Sh.expr):Sem Sh.str×Sem zg:=(if (!kf x0)=true then ([],1) else (gH 16 x0,0))
def nL (x0:Sem Sh.expr):Bool:=(if (!kf x0)=true then true else if gY 16 x0=true then true else false)
def Zp:zF:=zG [Sh.expr] [Sh.str,zg] (fun x=>nL x.1) fun x=>((mQ x.1).1,(mQ x.1).2,())
theorem Ut:FK 232 Zp:=by
 refine zR (TH) fun x hc C hC=>?_
 unfold nL at hc
 refine zk cB (TH) (fun id _=>hC id) (zcY x.1) ?_
 generalize hy:mQ x.1=y
 unfold mQ at hy
 try simp only [ze.eta]
 repeat' (first | with_reducible refine fe hy hc (fun _ hy hc=>?_) (fun _ hy hc=>?_) | with_reducible refine bd hy (fun _ hy=>?_) (fun _ hy=>?_) | with_reducible refine bz hc (fun hc=>?_) | with_reducible refine zr ?_)
 all_goals first | (cases hc; done) | (subst hy; first | rfl)

abbrev zej:Nat→aj:=fun j=>if j=3 then { slots:=[0,4,5],prom:=[(4,none,eA)] } else { }
abbrev ED (s0:TS) (i5:Int) (lh_0:LF):St:={ tmps:=(tm 47 [(0,AV.str s0),(4,AV.vec 0),(5,ai i5)]),heap:=[AO.vec zq lh_0] }
theorem X6:zA (eK).P 91 Tryz.f91 1:=aS (by kernel_rfl)
theorem zhA (x0:TS):rn eK 0 zej Tryz.f91 [zz Sh.str x0] []=Tr.ok (zt.head 3 (zy Tryz.f91 3) (ED x0 0 [])):=by kernel_rfl
theorem Yh (s0:TS) (i5:Int) (lh_0:LF):rh eK 0 zej Tryz.f91 3 (ED s0 i5 lh_0)=Tr.br (decide (i5 < (↑(length s0):Int))) (Tr.chk (zI i5 (length s0)&&bif (↑(getD s0 i5.toNat 0).toNat:Int)==32 then true else zI i5 (length s0)) (Tr.br (bif (↑(getD s0 i5.toNat 0).toNat:Int)==32 then true else (↑(getD s0 i5.toNat 0).toNat:Int)==10) (Tr.ok (zt.head 3 (zy Tryz.f91 3) (ED s0 (IntKind.i64.wrap (i5+1)) lh_0))) (Tr.chk (decide (0≤i5)&&decide (i5≤(↑(length s0):Int))&&decide ((↑(length s0):Int)≤(↑(length s0):Int))) (Tr.chk (jp (List.take ((↑(length s0):Int).toNat - i5.toNat) (List.drop i5.toNat s0))) (Tr.chk (om (bh (List.take ((↑(length s0):Int).toNat - i5.toNat) (List.drop i5.toNat s0))).1) (Tr.br (bif !fL (bh (List.take ((↑(length s0):Int).toNat - i5.toNat) (List.drop i5.toNat s0))).1 then true else (↑lh_0.length:Int)==400) (Tr.ok (zt.ret (AV.tup [AV.nils,ai 2]) [])) (Tr.chk (decide (lh_0.length+[(bh (List.take ((↑(length s0):Int).toNat - i5.toNat) (List.drop i5.toNat s0))).1].length≤1073741824)) (Tr.ok (zt.head 3 (zy Tryz.f91 3) (ED s0 (IntKind.i64.wrap (i5+(bh (List.take ((↑(length s0):Int).toNat - i5.toNat) (List.drop i5.toNat s0))).2))
 (lh_0++[(bh (List.take ((↑(length s0):Int).toNat - i5.toNat) (List.drop i5.toNat s0))).1]))))))))))) (Tr.ok (zt.ret (AV.tup [AV.vec 0,ai 0]) [AO.vec zq lh_0])):=by kernel_rfl
def pQ:Nat→(Sem Sh.str)→Int→(List (Sem zq))→Sem eA.sl×Sem zg
 | 0,_,_,_=>default
 | n+1,s0,i5,lh_0=>(if decide (i5 < (↑(length s0):Int))=true then
 if (bif (↑(getD s0 i5.toNat 0).toNat:Int)==32 then true else (↑(getD s0 i5.toNat 0).toNat:Int)==10)=true then
  pQ n s0 (IntKind.i64.wrap (i5+1)) lh_0
 else
  if
    (bif !fL (bh (List.take ((↑(length s0):Int).toNat - i5.toNat) (List.drop i5.toNat s0))).1 then true
     else (↑lh_0.length:Int)==400)=
     true then
   ([],2)
  else
   pQ n s0 (IntKind.i64.wrap (i5+(bh (List.take ((↑(length s0):Int).toNat - i5.toNat) (List.drop i5.toNat s0))).2))
    (lh_0++[(bh (List.take ((↑(length s0):Int).toNat - i5.toNat) (List.drop i5.toNat s0))).1])
else (lh_0,0))
def oY:Nat→(Sem Sh.str)→Int→(List (Sem zq))→Bool
 | 0,_,_,_=>false
 | n+1,s0,i5,lh_0=>(if decide (i5 < (↑(length s0):Int))=true then
 if (zI i5 (length s0)&&bif (↑(getD s0 i5.toNat 0).toNat:Int)==32 then true else zI i5 (length s0))=true then
  if (bif (↑(getD s0 i5.toNat 0).toNat:Int)==32 then true else (↑(getD s0 i5.toNat 0).toNat:Int)==10)=true then
   oY n s0 (IntKind.i64.wrap (i5+1)) lh_0
  else
   if (decide (0≤i5)&&decide (i5≤(↑(length s0):Int))&&decide ((↑(length s0):Int)≤(↑(length s0):Int)))=true then
    if jp (List.take ((↑(length s0):Int).toNat - i5.toNat) (List.drop i5.toNat s0))=true then
     if om (bh (List.take ((↑(length s0):Int).toNat - i5.toNat) (List.drop i5.toNat s0))).1=true then
      if
        (bif !fL (bh (List.take ((↑(length s0):Int).toNat - i5.toNat) (List.drop i5.toNat s0))).1 then true
         else (↑lh_0.length:Int)==400)=
         true then
       true
      else
       if
         decide (lh_0.length+[(bh (List.take ((↑(length s0):Int).toNat - i5.toNat) (List.drop i5.toNat s0))).1].length≤1073741824)=
          true then
        oY n s0 (IntKind.i64.wrap (i5+(bh (List.take ((↑(length s0):Int).toNat - i5.toNat) (List.drop i5.toNat s0))).2))
         (lh_0++[(bh (List.take ((↑(length s0):Int).toNat - i5.toNat) (List.drop i5.toNat s0))).1])
       else false
     else false
    else false
   else false
 else false
else true)
theorem KY {C:cI} (hC:∀ id,C.ρ0 id=none):∀ (n:Nat) (s0:TS) (i5:Int) (lh_0:LF),oY n s0 i5 lh_0=true→
  Reach (eK) C 91 (zy Tryz.f91 3) (ED s0 i5 lh_0) (fun r h=>ah h [eA.sl,zg] r=some ((pQ n s0 i5 lh_0).1,(pQ n s0 i5 lh_0).2,()))
 | 0,s0,i5,lh_0,hc=>by cases hc
 | n+1,s0,i5,lh_0,hc=>by
  refine zk cB (X6) (fun id _=>hC id) (Yh _ _ _) ?_
  rw [oY] at hc
  generalize hy:pQ (n+1) s0 i5 lh_0=y
  rw [pQ] at hy
  try simp only [ze.eta,zm]
  repeat' (first | with_reducible refine fe hy hc (fun _ hy hc=>?_) (fun _ hy hc=>?_) | with_reducible refine bd hy (fun _ hy=>?_) (fun _ hy=>?_) | with_reducible refine bz hc (fun hc=>?_) | with_reducible refine zr ?_)
  all_goals first | (cases hc; done) | (subst hy; first | (change Reach _ _ _ _ _ _; refine KY hC n _ _ _ ?_ <;> exact hc) | rfl)
def cut (x0:TS):Sem eA.sl×Sem zg:=(pQ (length x0+1) x0 0 [])
def K7 (x0:TS):Bool:=(oY (length x0+1) x0 0 [])
def F69:zF:=zG [Sh.str] [eA.sl,zg] (fun x=>K7 x.1) fun x=>((cut x.1).1,(cut x.1).2,())
theorem zbt:FK 91 F69:=by
 refine zR (X6) fun x hc C hC=>?_
 unfold K7 at hc
 refine zk cB (X6) (fun id _=>hC id) (zhA x.1) ?_
 generalize hy:cut x.1=y
 unfold cut at hy
 try simp only [ze.eta,zm]
 repeat' (first | with_reducible refine fe hy hc (fun _ hy hc=>?_) (fun _ hy hc=>?_) | with_reducible refine bd hy (fun _ hy=>?_) (fun _ hy=>?_) | with_reducible refine bz hc (fun hc=>?_) | with_reducible refine zr ?_)
 all_goals first | (cases hc; done) | (subst hy; first | (change Reach _ _ _ _ _ _; refine KY hC _ _ _ _ ?_ <;> exact hc) | rfl)

noncomputable def pX:=eK.addL [(126,ZS),(279,ZG),(258,Zz),(256,Zx),(257,Zy),(232,Zp),(91,F69)]
theorem gN:zl pX:=cB.addL <| fc UX <| fc UJ <| fc UD <| fc UB <| fc UC <| fc Ut <| fc zbt jn

noncomputable def Zt:zF:=zU (List.replicate 2 none) (bZ pX Tryz.f252 (List.replicate 2 none))
theorem Ux:FK 252 Zt:=aw _ gN (aS (by kernel_rfl))

noncomputable def Zv:zF:=zU (List.replicate 2 none) (bZ pX Tryz.f254 (List.replicate 2 none))
theorem Uz:FK 254 Zv:=aw _ gN (aS (by kernel_rfl))

noncomputable def Zh:zF:=zU (List.replicate 2 none) (bZ pX Tryz.f219 (List.replicate 2 none))
theorem Ul:FK 219 Zh:=aw _ gN (aS (by kernel_rfl))

noncomputable def Zb:zF:=zU (List.replicate 2 none) (bZ pX Tryz.f214 (List.replicate 2 none))
theorem Uf:FK 214 Zb:=aw _ gN (aS (by kernel_rfl))

noncomputable def Ze:zF:=zU (List.replicate 2 none) (bZ pX Tryz.f216 (List.replicate 2 none))
theorem Ui:FK 216 Ze:=aw _ gN (aS (by kernel_rfl))

abbrev ziu:Nat→aj:=fun _=>{ }
theorem zfq:zA (pX).P 163 Tryz.f163 1:=aS (by kernel_rfl)
theorem zhP (x0:Sem Sh.expr):rn pX 0 ziu Tryz.f163 [zz Sh.expr x0] []=Tr.chk (nL (zE x0)) (Tr.ok (zt.ret (AV.str (mQ (zE x0)).1) [])):=by kernel_rfl
def cW (x0:Sem Sh.expr):Sem Sh.str:=((mQ x0).1)
def gu (x0:Sem Sh.expr):Bool:=(if nL x0=true then true else false)
def F94:zF:=zG [Sh.expr] [Sh.str] (fun x=>gu x.1) fun x=>(cW x.1,())
theorem zbU:FK 163 F94:=by
 refine zR (zfq) fun x hc C hC=>?_
 unfold gu at hc
 refine zk gN (zfq) (fun id _=>hC id) (zhP x.1) ?_
 generalize hy:cW x.1=y
 unfold cW at hy
 try simp only [ze.eta]
 repeat' (first | with_reducible refine fe hy hc (fun _ hy hc=>?_) (fun _ hy hc=>?_) | with_reducible refine bd hy (fun _ hy=>?_) (fun _ hy=>?_) | with_reducible refine bz hc (fun hc=>?_) | with_reducible refine zr ?_)
 all_goals first | (cases hc; done) | (subst hy; first | rfl)

noncomputable def kK:=pX.addL [(252,Zt),(254,Zv),(219,Zh),(214,Zb),(216,Ze),(163,F94)]
theorem eV:zl kK:=gN.addL <| fc Ux <| fc Uz <| fc Ul <| fc Uf <| fc Ui <| fc zbU jn

noncomputable def Y9:zF:=zU (List.replicate 4 none) (bZ kK Tryz.f212 (List.replicate 4 none))
theorem Ud:FK 212 Y9:=aw _ eV (aS (by kernel_rfl))

noncomputable def Za:zF:=zU (List.replicate 4 none) (bZ kK Tryz.f213 (List.replicate 4 none))
theorem Ue:FK 213 Za:=aw _ eV (aS (by kernel_rfl))

noncomputable def F86:zF:=zU (List.replicate 4 none) (bZ kK Tryz.f155 (List.replicate 4 none))
theorem zbL:FK 155 F86:=aw _ eV (aS (by kernel_rfl))

noncomputable def F82:zF:=zU (List.replicate 4 none) (bZ kK Tryz.f151 (List.replicate 4 none))
theorem zbH:FK 151 F82:=aw _ eV (aS (by kernel_rfl))

noncomputable def F84:zF:=zU (List.replicate 4 none) (bZ kK Tryz.f153 (List.replicate 4 none))
theorem zbJ:FK 153 F84:=aw _ eV (aS (by kernel_rfl))

abbrev ziv:Nat→aj:=fun _=>{ }
theorem zfr:zA (kK).P 165 Tryz.f165 1:=aS (by kernel_rfl)
theorem zhR (x0:Sem Sh.expr):rn kK 0 ziv Tryz.f165 [zz Sh.expr x0] []=Tr.br (jw (zE x0)) (Tr.ok (zt.ret (AV.str []) [])) (Tr.chk (gu (zE x0)) (Tr.chk (decide ([32,87,72,69,82,69,32].length+length (cW (zE x0))≤1099511627776)) (Tr.ok (zt.ret (AV.str ([32,87,72,69,82,69,32]++cW (zE x0))) [])))):=by kernel_rfl
def A3 (x0:Sem Sh.expr):Sem Sh.str:=(if jw x0=true then [] else [32,87,72,69,82,69,32]++cW x0)
def xQ (x0:Sem Sh.expr):Bool:=(if jw x0=true then true else if gu x0=true then if decide ([32,87,72,69,82,69,32].length+length (cW x0)≤1099511627776)=true then true else false else false)
def F96:zF:=zG [Sh.expr] [Sh.str] (fun x=>xQ x.1) fun x=>(A3 x.1,())
theorem zbW:FK 165 F96:=by
 refine zR (zfr) fun x hc C hC=>?_
 unfold xQ at hc
 refine zk eV (zfr) (fun id _=>hC id) (zhR x.1) ?_
 generalize hy:A3 x.1=y
 unfold A3 at hy
 try simp only [ze.eta]
 repeat' (first | with_reducible refine fe hy hc (fun _ hy hc=>?_) (fun _ hy hc=>?_) | with_reducible refine bd hy (fun _ hy=>?_) (fun _ hy=>?_) | with_reducible refine bz hc (fun hc=>?_) | with_reducible refine zr ?_)
 all_goals first | (cases hc; done) | (subst hy; first | rfl)

abbrev ziw:Nat→aj:=fun _=>{ }
theorem zfs:zA (kK).P 167 Tryz.f167 2:=aS (by kernel_rfl)
theorem zhT (x0:TS) (x1:Sem Sh.expr):rn kK 0 ziw Tryz.f167 [zz Sh.str x0,zz Sh.expr x1] []=Tr.br (jw (zE x1)) (Tr.ok (zt.ret (AV.str []) [])) (Tr.chk (decide (length x0+[67,72,69,67,75,32,40,32].length≤1099511627776)) (Tr.chk (gu (zE x1)) (Tr.chk (decide (length (x0++[67,72,69,67,75,32,40,32])+length (cW (zE x1))≤1099511627776)) (Tr.chk (decide (length (x0++[67,72,69,67,75,32,40,32]++cW (zE x1))+[32,41].length≤1099511627776)) (Tr.ok (zt.ret (AV.str (x0++[67,72,69,67,75,32,40,32]++cW (zE x1)++[32,41])) [])))))):=by kernel_rfl
def iF (x0:TS) (x1:Sem Sh.expr):Sem Sh.str:=(if jw x1=true then [] else x0++[67,72,69,67,75,32,40,32]++cW x1++[32,41])
def lz (x0:TS) (x1:Sem Sh.expr):Bool:=(if jw x1=true then true else if decide (length x0+[67,72,69,67,75,32,40,32].length≤1099511627776)=true then if gu x1=true then if decide (length (x0++[67,72,69,67,75,32,40,32])+length (cW x1)≤1099511627776)=true then if decide (length (x0++[67,72,69,67,75,32,40,32]++cW x1)+[32,41].length≤1099511627776)=true then true else false else false else false else false)
def F98:zF:=zG [Sh.str,Sh.expr] [Sh.str] (fun x=>lz x.1 x.2.1) fun x=>(iF x.1 x.2.1,())
theorem zbY:FK 167 F98:=by
 refine zR (zfs) fun x hc C hC=>?_
 unfold lz at hc
 refine zk eV (zfs) (fun id _=>hC id) (zhT x.1 x.2.1) ?_
 generalize hy:iF x.1 x.2.1=y
 unfold iF at hy
 try simp only [ze.eta]
 repeat' (first | with_reducible refine fe hy hc (fun _ hy hc=>?_) (fun _ hy hc=>?_) | with_reducible refine bd hy (fun _ hy=>?_) (fun _ hy=>?_) | with_reducible refine bz hc (fun hc=>?_) | with_reducible refine zr ?_)
 all_goals first | (cases hc; done) | (subst hy; first | rfl)

abbrev zit:Nat→aj:=fun _=>{ }
theorem zfp:zA (kK).P 162 Tryz.f162 1:=aS (by kernel_rfl)
theorem zhO (x0:Sem aN):rn kK 0 zit Tryz.f162 [zz aN x0] []=Tr.chk (decide (length x0.1+[32,61,32].length≤1099511627776)) (Tr.chk (gu (zE x0.2)) (Tr.chk (decide (length (x0.1++[32,61,32])+length (cW (zE x0.2))≤1099511627776)) (Tr.ok (zt.ret (AV.str (x0.1++[32,61,32]++cW (zE x0.2))) [])))):=by kernel_rfl
def ez (x0:Sem aN):Sem Sh.str:=(x0.1++[32,61,32]++cW x0.2)
def jH (x0:Sem aN):Bool:=(if decide (length x0.1+[32,61,32].length≤1099511627776)=true then if gu x0.2=true then if decide (length (x0.1++[32,61,32])+length (cW x0.2)≤1099511627776)=true then true else false else false else false)
def F93:zF:=zG [aN] [Sh.str] (fun x=>jH x.1) fun x=>(ez x.1,())
theorem zbT:FK 162 F93:=by
 refine zR (zfp) fun x hc C hC=>?_
 unfold jH at hc
 refine zk eV (zfp) (fun id _=>hC id) (zhO x.1) ?_
 generalize hy:ez x.1=y
 unfold ez at hy
 try simp only [ze.eta]
 repeat' (first | with_reducible refine fe hy hc (fun _ hy hc=>?_) (fun _ hy hc=>?_) | with_reducible refine bd hy (fun _ hy=>?_) (fun _ hy=>?_) | with_reducible refine bz hc (fun hc=>?_) | with_reducible refine zr ?_)
 all_goals first | (cases hc; done) | (subst hy; first | rfl)

noncomputable def im:=kK.addL [(212,Y9),(213,Za),(155,F86),(151,F82),(153,F84),(165,F96),(167,F98),(162,F93)]
theorem ej:zl im:=eV.addL <| fc Ud <| fc Ue <| fc zbL <| fc zbH <| fc zbJ <| fc zbW <| fc zbY <| fc zbT jn
end Cad
