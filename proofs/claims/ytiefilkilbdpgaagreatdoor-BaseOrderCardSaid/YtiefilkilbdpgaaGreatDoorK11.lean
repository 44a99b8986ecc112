/- slices.Clone: what it answers is memory of its own. schema.copied is its argument, of what is not too deep. Functions from plain data and a function to plain data. Statements: words of columns, tokens. Statements: parts. Statements: the ways of many; expressions' texts. Statements: the ways of many, again; tokens. Statements: the ways of many, once more. Statements: many; checks' texts. -/
import Derived.Test.YtiefilkilbdpgaaGreatDoorK10
import Derived.Test.YtiefilkilbdpgaaGreatDoorK09
namespace Cad
open Go Go.Proofs
open Int (toNat)
open List (getD)
open List (length)

theorem Reach.promNil {E:bb} {C:cd} {fn:FuncId} {todo:List Item} {st:St} (e:Sh) (hC:∀ id,C.ρ0 id=none) (h:Reach E C fn todo st (fun r h=>(r,h)=(.nils,[]))):Reach E C fn todo st (fun r h=>(r,h)=(.vec 0,[.vec e []])):=by
 intro b cs a w U ρ h1 h2 hc hW
 obtain ⟨en,w',fr,⟨v,r,h',U',ρ',he,hq,hrv,hH,hnew,hr0,hWd⟩,hcm,hf,hl⟩:=h b cs a w U ρ h1 h2 hc hW
 cases hq
 cases hrv with
 | nils ad=>
 have hno:∀ id o b,o=(AO.vec e []:AO)∨o=AO.dead→¬ zN (fun id=>if id=0 then some (.slice ad 0 0) else none) id o b:=by
  rintro id o b ho ⟨h3,x,h4,h5⟩
  rcases ho with rfl | rfl
  ·simp only at h4
   split at h4
   ·cases h4
    cases ad <;> simp [dW] at h5
   ·cases h4
  ·simp [AO.owns] at h3
 have hob:∀ id,(([AO.vec e []]:List AO).getD id .dead)=(if id=0 then AO.vec e [] else AO.dead):=by
  intro id
  cases id <;> simp
 refine ⟨en,w',fr,⟨_,_,_,U',fun id=>if id=0 then some (.slice ad 0 0) else none,he,rfl,.vec 0 _ (by simp) (by simp [Value.oneCell']),⟨fun id=>?_,fun id1 id2 b o=>?_,fun id b o=>?_⟩,fun id hid=>?_,fun id v hv=>?_,hWd⟩,hcm,hf,hl⟩
 ·show aV w' U' _ id (([AO.vec e []]:List AO).getD id .dead)
  rw [hob]
  split
  ·rename_i h0
   subst h0
   exact ⟨ad,0,by simp,by simp,.inl ⟨rfl,rfl⟩⟩
  ·trivial
 ·exfalso
  have o':zN (fun id=>if id=0 then some (.slice ad 0 0) else none) id1 (([AO.vec e []]:List AO).getD id1 .dead) b:=o
  rw [hob] at o'
  split at o'
  ·exact hno _ _ _ (.inl rfl) o'
  ·exact hno _ _ _ (.inr rfl) o'
 ·exfalso
  have o':zN (fun id=>if id=0 then some (.slice ad 0 0) else none) id (([AO.vec e []]:List AO).getD id .dead) b:=o
  rw [hob] at o'
  split at o'
  ·exact hno _ _ _ (.inl rfl) o'
  ·exact hno _ _ _ (.inr rfl) o'
 ·simp at hid
  simp; omega
 ·rw [hC id] at hv; cases hv

def aj:Tr zp→List Item×List Item×St
 | .ok (.fork _ k1 k2 st)=>(k1,k2,st)
 | _=>([],[],⟨[],[]⟩)

abbrev vC:Nat→zT:=fun _=>{ }

noncomputable abbrev AH (l:List ze):Tr zp:=run mH 0 vC (Func.results Tryz.f125).toList 300 (ao Tryz.f125) (zU (Func.ntmps Tryz.f125) [.sl .expr l] [])
theorem MY:zz mH.P 125 Tryz.f125 1:=aG (by kernel_rfl)
theorem zcf (l:List ze):AH l=.ok (.fork l.isEmpty (aj (AH l)).1 (aj (AH l)).2.1 (aj (AH l)).2.2):=by kernel_rfl
theorem zav (l:List ze):run mH 0 vC (Func.results Tryz.f125).toList 300 (aj (AH l)).1 (aj (AH l)).2.2=.ok (.ret .nils []):=by kernel_rfl
theorem zaw (l:List ze):run mH 0 vC (Func.results Tryz.f125).toList 300 (aj (AH l)).2.1 (aj (AH l)).2.2=.chk (decide (l.length≤1073741824)) (.ok (.ret (.vec 0) [.vec .expr l])):=by kernel_rfl
def G53:cg [some (.sl .expr)]:=fun x h=>match h with
 | []=>.chk (decide (length x.1≤1073741824)) (.ok (.vec 0,[.vec .expr x.1]))
 | _=>.err
def F53:zB:=zP [some (.sl .expr)] G53
theorem Ws:FK 125 F53:=by
 refine bc MY fun x h0 res hx C hC=>?_
 unfold G53 at hx
 split at hx
 ·simp only [Tr.val] at hx
  split at hx
  ·rename_i hl
   simp only [ae] at hx
   subst hx
   obtain ⟨l,u⟩:=x
   refine zk (n0:=0) fD MY hC (zcf l) ?_
   refine ⟨fun he=>?_,?_⟩
   ·have hn:l=[]:=List.isEmpty_iff.1 he
    refine Reach.weaken (Q:=fun r h=>(r,h)=(.vec 0,[.vec .expr []])) (Reach.promNil .expr (fun id=>hC id (by simp)) (zk (n0:=0) fD MY hC (zav l) rfl)) ?_
    intro r h hq
    cases hq
    refine ⟨_,?_,fun _ _ _ _ h=>h⟩
    show (AV.vec 0,[AO.vec Sh.expr []])=(AV.vec 0,[AO.vec Sh.expr l])
    rw [hn]
   ·exact zk (n0:=0) fD MY hC (zaw l) (cy hl rfl)
  ·cases hx
 ·simp at hx

noncomputable abbrev AG (l:List (Sem zi)):Tr zp:=run mH 0 vC (Func.results Tryz.f71).toList 300 (ao Tryz.f71) (zU (Func.ntmps Tryz.f71) [.sl zi l] [])
theorem MW:zz mH.P 71 Tryz.f71 1:=aG (by kernel_rfl)
theorem zbX (l:List (Sem zi)):AG l=.ok (.fork l.isEmpty (aj (AG l)).1 (aj (AG l)).2.1 (aj (AG l)).2.2):=by kernel_rfl
theorem zap (l:List (Sem zi)):run mH 0 vC (Func.results Tryz.f71).toList 300 (aj (AG l)).1 (aj (AG l)).2.2=.ok (.ret .nils []):=by kernel_rfl
theorem zaq (l:List (Sem zi)):run mH 0 vC (Func.results Tryz.f71).toList 300 (aj (AG l)).2.1 (aj (AG l)).2.2=.chk (decide (l.length≤1073741824)) (.ok (.ret (.vec 0) [.vec zi l])):=by kernel_rfl
def G32:cg [some (.sl zi)]:=fun x h=>match h with
 | []=>.chk (decide (length x.1≤1073741824)) (.ok (.vec 0,[.vec zi x.1]))
 | _=>.err
def F32:zB:=zP [some (.sl zi)] G32
theorem V7:FK 71 F32:=by
 refine bc MW fun x h0 res hx C hC=>?_
 unfold G32 at hx
 split at hx
 ·simp only [Tr.val] at hx
  split at hx
  ·rename_i hl
   simp only [ae] at hx
   subst hx
   obtain ⟨l,u⟩:=x
   refine zk (n0:=0) fD MW hC (zbX l) ?_
   refine ⟨fun he=>?_,?_⟩
   ·have hn:l=[]:=List.isEmpty_iff.1 he
    refine Reach.weaken (Q:=fun r h=>(r,h)=(.vec 0,[.vec zi []])) (Reach.promNil zi (fun id=>hC id (by simp)) (zk (n0:=0) fD MW hC (zap l) rfl)) ?_
    intro r h hq
    cases hq
    refine ⟨_,?_,fun _ _ _ _ h=>h⟩
    show (AV.vec 0,[AO.vec zi []])=(AV.vec 0,[AO.vec zi l])
    rw [hn]
   ·exact zk (n0:=0) fD MW hC (zaq l) (cy hl rfl)
  ·cases hx
 ·simp at hx

noncomputable def My:=mH.addL [(125,F53),(71,F32)]
theorem sU:zm My:=fD.addL <| fc Ws <| fc V7 g6
def Hd (c:ze→Bool):zB:=zA [.expr] [.expr] (fun x=>c x.1) fun x=>(x.1,())
noncomputable def FY (c:ze→Bool):bb:=My.add 200 (Hd c)
theorem sI {c:ze→Bool} (hg:FK 200 (Hd c)):zm (FY c):=sU.add hg
abbrev Y5:Nat→zT:=fun j=>if j=3 then { slots:=[1,2,10,11] } else { }
abbrev Fk (i10:Int) (i11:Int) (ja0:zq) (ja1:Int) (ja2:Int) (ja3:zq) (ja4:zq) (lh_2:List (Sem Sh.expr)):St:={
 tmps:=
  (tm 26 [(1,AV.ptr 0 0),(2,AV.ptr 1 0),(10,AV.int .i64 i10),(11,AV.int .i64 i11)]),
 heap:=
  [AO.box [AV.str ja0,AV.int .i64 ja1,AV.int .i64 ja2,AV.str ja3,AV.str ja4,AV.vec 2],
   AO.box [AV.str [],AV.int .i64 0,AV.int .i64 0,AV.str [],AV.str [],AV.nils],AO.vec Sh.expr lh_2] }
theorem Df (c:ze→Bool):zz (FY c).P 200 Tryz.f200 1:=aG (by kernel_rfl)
theorem zbY (c:ze→Bool) (op:zq) (v:V) (s:zq) (l:List ze):rn (FY c) 0 Y5 Tryz.f200 [zy Sh.expr (ze.mk op v s l)] []=
 Tr.chk (decide (l.length≤1073741824)) (Tr.ok (zp.head 3 (zw Tryz.f200 3) (Fk (↑l.length:Int) 0 op v.1 v.2.1 v.2.2 s l))):=by kernel_rfl
theorem JK (c:ze→Bool) (i10:Int) (i11:Int) (ja0:zq) (ja1:Int) (ja2:Int) (ja3:zq) (ja4:zq) (lh_2:List (Sem Sh.expr)):rh (FY c) 0 Y5 Tryz.f200 3 (Fk i10 i11 ja0 ja1 ja2 ja3 ja4 lh_2)=
 Tr.br (decide (i11 < i10))
 (Tr.chk (zJ i11 lh_2.length)
  (Tr.chk (decide (i11.toNat < lh_2.length))
   (Tr.chk (c (zC (lh_2.getD i11.toNat (zj Sh.expr))))
    (Tr.chk (zJ i11 lh_2.length)
     (Tr.chk (decide (i11.toNat < lh_2.length))
      (Tr.ok
       (zp.head 3 (zw Tryz.f200 3)
        (Fk i10 (IntKind.i64.wrap (i11+1)) ja0 ja1 ja2 ja3 ja4
         (lh_2.set i11.toNat
          (zC (lh_2.getD i11.toNat (zj Sh.expr))))))))))))
 (Tr.ok
  (zp.ret (AV.agg [AV.str ja0,AV.int .i64 ja1,AV.int .i64 ja2,AV.str ja3,AV.str ja4,AV.vec 0]) [AO.vec Sh.expr lh_2])):=by kernel_rfl

theorem zbl {c:ze→Bool} (hg:FK 200 (Hd c)) {C:cd} (hC:∀ id,C.ρ0 id=none) (op:zq) (v:V) (s:zq) (l:List ze) (hl:l.length≤1073741824) (hcl:l.all c=true):
  ∀ (k i:Nat),l.length - i=k→i≤l.length→Reach (FY c) C 200 (zw Tryz.f200 3) (Fk l.length i op v.1 v.2.1 v.2.2 s l) (fun r h=>zY h [.expr] r=some (ze.mk op v s l,())):=by
 intro k
 induction k with
 | zero=>
  intro i hk hi
  obtain rfl:i=l.length:=by omega
  refine zk (n0:=0) (sI hg) (Df c) (fun id _=>hC id) (JK c _ _ _ _ _ _ _ _) ?_
  simp only [af,Tr.val_brF]
  rfl
 | succ k IH=>
  intro i hk hi
  have hlt:i < l.length:=by omega
  refine zk (n0:=0) (sI hg) (Df c) (fun id _=>hC id) (JK c _ _ _ _ _ _ _ _) ?_
  have h1:c l[i]=true:=cA.1 hcl _ (cR hlt)
  have h2:decide ((i:Int).toNat < l.length)=true:=by simpa using hlt
  have h3:l.set (i:Int).toNat l[i]=l:=by simp
  simp only [zV hlt,zF hlt,zZ l _ hlt,ze.eta,Tr.val_brT,Tr.val_chkT,h1,h2,h3,zG i (by unfold zD; omega)]
  exact IH (i+1) (by omega) (by omega)

def kK:Nat→ze→Bool
 | 0,_=>false
 | n+1,.mk _ _ _ l=>decide (l.length≤1073741824)&&l.all (kK n)

theorem Cf:∀ n,FK 200 (Hd (kK n))
 | 0=>cQ ⟨Tryz.f200,(Df (fun _=>false)).1,(Df (fun _=>false)).2.1,(Df (fun _=>false)).2.2.1⟩ (fun _=>rfl)
 | n+1=>by
  refine zM (E:=FY (kK n)) (Df _) fun x hc C hC=>?_
  obtain ⟨⟨op,v,s,l⟩,u⟩:=x
  have hc:(decide (l.length≤1073741824)&&l.all (kK n))=true:=hc
  simp only [aE,ah] at hc
  refine zk (n0:=0) (sI (Cf n)) (Df _) (fun id _=>hC id) (zbY _ op v s l) ?_
  refine cy (by simpa using hc.1) ?_
  exact zbl (Cf n) hC op v s l hc.1 hc.2 _ 0 rfl (be _)
def F33:zB:=Hd (kK 16)
theorem V8:FK 200 F33:=Cf 16
noncomputable def gy:=My.add 200 F33
theorem eI:zm gy:=sU.add V8
open Go

def ns:(ks:List Sh)→zu (ks.map some++[none])→zu (ks.map some)×AV
 | [],x=>((),x.1)
 | _::ks,x=>((x.1,(ns ks x.2).1),(ns ks x.2).2)

theorem se:∀ (ks:List Sh) (x:zu (ks.map some++[none])),fv (ks.map some++[none]) x=fv (ks.map some) (ns ks x).1++[(ns ks x).2]
 | [],_=>rfl
 | s::ks,x=>congrArg (zy s x.1 :: ·) (se ks x.2)

def IL (k:Nat):AV→Bool
 | .clo (.func j) [] []=>j==k
 | _=>false

theorem IM {k:Nat} {v:AV} (h:IL k v=true):v=.clo (.func k) [] []:=by
 unfold IL at h
 split at h
 ·rw [eG] at h; rw [h]
 ·cases h

abbrev Hb (ks outs:List Sh):=Nat×(zu (ks.map some)→Bool)×(zu (ks.map some)→zu (outs.map some))

def L2 {ks outs:List Sh} (v:AV):List (Hb ks outs)→Option ((zu (ks.map some)→Bool)×(zu (ks.map some)→zu (outs.map some)))
 | []=>none
 | (k,a)::r=>if IL k v then some a else L2 v r

theorem AD {ks outs:List Sh} {v:AV} {a}:∀ {l:List (Hb ks outs)},L2 v l=some a→∃ k,v=.clo (.func k) [] []∧(k,a)∈l
 | [],h=>by cases h
 | (k,b)::r,h=>by
  unfold L2 at h
  split at h
  ·rename_i hk
   cases h
   exact ⟨k,IM hk,v6 ..⟩
  ·obtain ⟨j,h1,h2⟩:=AD h
   exact ⟨j,h1,kT _ h2⟩

def E3 (ks outs:List Sh) (l:List (Hb ks outs)):cg (ks.map some++[none]):=fun x h=>match h with
 | []=>match L2 (ns ks x).2 l with
  | some (c,g)=>.chk (c (ns ks x).1) (.ok (qA outs (g (ns ks x).1),[]))
  | none=>.err
 | _=>.err

def uf (ks outs:List Sh) (l:List (Hb ks outs)):zB:=zP (ks.map some++[none]) (E3 ks outs l)

theorem jN {P:Program} {gl:Nat→AV} {E:bb} {k:FuncId} {f:Func} {ks outs:List Sh} {l:List (Hb ks outs)} (hf:zz E.P k f (ks.length+1))
  (h:∀ j c g,(j,c,g)∈l→∀ x,c x=true→∀ C:cd,(∀ id,C.ρ0 id=none)→Reach E C k (ao f) (zU f.ntmps (fv (ks.map some) x++[.clo (.func j) [] []]) []) (fun r h=>zY h outs r=some (g x))) (qp:E.P=P:=by rfl) (qg:E.gl=gl:=by rfl):kJ P gl k (uf ks outs l):=by
 subst qp qg
 refine bc (by simpa using hf) fun x h0 res hx C hC=>?_
 unfold E3 at hx
 split at hx
 ·split at hx
  ·rename_i c g hal
   obtain ⟨j,hv,hm⟩:=AD hal
   simp only [Tr.val] at hx
   split at hx
   ·rename_i hc
    simp only [ae] at hx
    subst hx
    rw [se,hv]
    exact Reach.plain (fun id=>hC id (by simp)) (h j c g hm _ hc C (fun id=>hC id (by simp)))
   ·simp at hx
  ·simp at hx
 ·simp at hx

set_option maxHeartbeats 4000000
abbrev bI:Sh:=.pr .str .str
abbrev aJ:Sh:=.pr .str .expr
abbrev zx:Sh:=.pr .str (.pr .str (.pr .str (.pr (.sl .str) (.pr (.sl zi) (.pr .str (.pr (.sl .str) (.pr (.sl bI) (.pr .expr (.pr (.sl zf) (.pr (.sl aJ) (.pr .expr .str)))))))))))
def vt (x:Sem zx):Sem zx:=(x.1,x.2.1,x.2.2.1,x.2.2.2.1,x.2.2.2.2.1,x.2.2.2.2.2.1,x.2.2.2.2.2.2.1,x.2.2.2.2.2.2.2.1,zC x.2.2.2.2.2.2.2.2.1,x.2.2.2.2.2.2.2.2.2.1,x.2.2.2.2.2.2.2.2.2.2.1,zC x.2.2.2.2.2.2.2.2.2.2.2.1,x.2.2.2.2.2.2.2.2.2.2.2.2)
theorem Ep (x:Sem zx):vt x=x:=by unfold vt; rw [zt,zt]

abbrev Pi:Nat→zT:=fun j=>if j=2 then { slots:=[0,2,4] } else { }
abbrev uA (s0:TS) (i4:Int) (ja0:Int) (ja1:List UInt8):St:={ tmps:=(tm 37 [(0,AV.str s0),(2,AV.ptr 0 0),(4,ai i4)]),heap:=[AO.box [ai ja0,AV.str ja1]] }
theorem Js:zz (gy).P 235 Tryz.f235 1:=aG (by kernel_rfl)
theorem X4 (x0:TS):rn gy 0 Pi Tryz.f235 [zy Sh.str x0] []=Tr.ok (zp.head 2 (zw Tryz.f235 2) (uA x0 1 0 [])):=by kernel_rfl
theorem M3 (s0:TS) (i4:Int) (ja0:Int) (ja1:List UInt8):rh gy 0 Pi Tryz.f235 2 (uA s0 i4 ja0 ja1)=Tr.br (decide (i4 < (↑(length s0):Int))) (Tr.chk (zJ i4 (length s0)) (Tr.br ((↑(getD s0 i4.toNat 0).toNat:Int) != 39) (Tr.ok (zp.head 2 (zw Tryz.f235 2) (uA s0 (IntKind.i64.wrap (i4+1)) ja0 ja1))) (Tr.chk (bif decide (IntKind.i64.wrap (i4+1) < (↑(length s0):Int)) then zJ (IntKind.i64.wrap (i4+1)) (length s0) else true) (Tr.br (bif decide (IntKind.i64.wrap (i4+1) < (↑(length s0):Int)) then (↑(getD s0 (IntKind.i64.wrap (i4+1)).toNat 0).toNat:Int)==39 else false) (Tr.ok (zp.head 2 (zw Tryz.f235 2) (uA s0 (IntKind.i64.wrap (IntKind.i64.wrap (i4+1)+1)) ja0 ja1))) (Tr.chk (decide (0≤1)&&decide (1≤i4)&&decide (i4≤(↑(length s0):Int))) (Tr.chk (ow (List.take (i4.toNat - toNat 1) (List.drop (toNat 1) s0)) [39,39] [39]) (Tr.ok (zp.ret (AV.tup [AV.agg [ai 3,AV.str (Lib.replaceAll (List.take (i4.toNat - toNat 1) (List.drop (toNat 1) s0)) [39,39] [39])],ai (IntKind.i64.wrap (i4+1))]) [])))))))) (Tr.ok (zp.ret (AV.tup [AV.agg [ai 0,AV.str []],ai 0]) [])):=by kernel_rfl
def ek:Nat→(Sem Sh.str)→Int→Int→(List UInt8)→Sem dY×Sem zg
 | 0,_,_,_,_=>default
 | n+1,s0,i4,ja0,ja1=>(if decide (i4 < (↑(length s0):Int))=true then
 if ((↑(getD s0 i4.toNat 0).toNat:Int) != 39)=true then ek n s0 (IntKind.i64.wrap (i4+1)) ja0 ja1
 else
  if
    (bif decide (IntKind.i64.wrap (i4+1) < (↑(length s0):Int)) then (↑(getD s0 (IntKind.i64.wrap (i4+1)).toNat 0).toNat:Int)==39
     else false)=
     true then
   ek n s0 (IntKind.i64.wrap (IntKind.i64.wrap (i4+1)+1)) ja0 ja1
  else ((3,Lib.replaceAll (List.take (i4.toNat - toNat 1) (List.drop (toNat 1) s0)) [39,39] [39]),IntKind.i64.wrap (i4+1))
else ((0,[]),0))
def fJ:Nat→(Sem Sh.str)→Int→Int→(List UInt8)→Bool
 | 0,_,_,_,_=>false
 | n+1,s0,i4,ja0,ja1=>(if decide (i4 < (↑(length s0):Int))=true then
 if zJ i4 (length s0)=true then
  if ((↑(getD s0 i4.toNat 0).toNat:Int) != 39)=true then fJ n s0 (IntKind.i64.wrap (i4+1)) ja0 ja1
  else
   if (bif decide (IntKind.i64.wrap (i4+1) < (↑(length s0):Int)) then zJ (IntKind.i64.wrap (i4+1)) (length s0) else true)=true then
    if
      (bif decide (IntKind.i64.wrap (i4+1) < (↑(length s0):Int)) then (↑(getD s0 (IntKind.i64.wrap (i4+1)).toNat 0).toNat:Int)==39
       else false)=
       true then
     fJ n s0 (IntKind.i64.wrap (IntKind.i64.wrap (i4+1)+1)) ja0 ja1
    else
     if (decide (0≤1)&&decide (1≤i4)&&decide (i4≤(↑(length s0):Int)))=true then
      if ow (List.take (i4.toNat - toNat 1) (List.drop (toNat 1) s0)) [39,39] [39]=true then true else false
     else false
   else false
 else false
else true)
theorem D4 {C:cd} (hC:∀ id,C.ρ0 id=none):∀ (n:Nat) (s0:TS) (i4:Int) (ja0:Int) (ja1:List UInt8),fJ n s0 i4 ja0 ja1=true→
  Reach (gy) C 235 (zw Tryz.f235 2) (uA s0 i4 ja0 ja1) (fun r h=>zY h [dY,zg] r=some ((ek n s0 i4 ja0 ja1).1,(ek n s0 i4 ja0 ja1).2,()))
 | 0,s0,i4,ja0,ja1,hc=>by cases hc
 | n+1,s0,i4,ja0,ja1,hc=>by
  refine zk eI (Js) (fun id _=>hC id) (M3 _ _ _ _) ?_
  rw [fJ] at hc
  generalize hy:ek (n+1) s0 i4 ja0 ja1=y
  rw [ek] at hy
  try simp only [ze.eta,zt]
  repeat' (first | with_reducible refine ed hy hc (fun _ hy hc=>?_) (fun _ hy hc=>?_) | with_reducible refine aL hy (fun _ hy=>?_) (fun _ hy=>?_) | with_reducible refine aZ hc (fun hc=>?_) | with_reducible refine zn ?_)
  all_goals first | (cases hc; done) | (subst hy; first | (change Reach _ _ _ _ _ _; refine D4 hC n _ _ _ _ ?_ <;> exact hc) | rfl)
def cY (x0:TS):Sem dY×Sem zg:=(ek (length x0+1) x0 1 0 [])
def gN (x0:TS):Bool:=(fJ (length x0+1) x0 1 0 [])
def UH:zB:=zA [Sh.str] [dY,zg] (fun x=>gN x.1) fun x=>((cY x.1).1,(cY x.1).2,())
theorem Qc:FK 235 UH:=by
 refine zM (Js) fun x hc C hC=>?_
 unfold gN at hc
 refine zk eI (Js) (fun id _=>hC id) (X4 x.1) ?_
 generalize hy:cY x.1=y
 unfold cY at hy
 try simp only [ze.eta,zt]
 repeat' (first | with_reducible refine ed hy hc (fun _ hy hc=>?_) (fun _ hy hc=>?_) | with_reducible refine aL hy (fun _ hy=>?_) (fun _ hy=>?_) | with_reducible refine aZ hc (fun hc=>?_) | with_reducible refine zn ?_)
 all_goals first | (cases hc; done) | (subst hy; first | (change Reach _ _ _ _ _ _; refine D4 hC _ _ _ _ _ ?_ <;> exact hc) | rfl)

abbrev YY:Nat→zT:=fun _=>{ }
theorem Pu:zz (gy).P 218 Tryz.f218 1:=aG (by kernel_rfl)
theorem X0 (x0:Sem Sh.expr):rn gy 0 YY Tryz.f218 [zy Sh.expr x0] []=Tr.ok (zp.ret (AV.bool (bif ze.op x0==[] then bif (ze.v x0).1==0&&((ze.v x0).2.1==0&&((ze.v x0).2.2==[]&&true)) then bif ze.s x0==[] then (↑(ze.l x0).length:Int)==0 else false else false else false)) []):=by kernel_rfl
def hP (x0:Sem Sh.expr):Sem Sh.bool:=(bif ze.op x0==[] then bif (ze.v x0).1==0&&((ze.v x0).2.1==0&&((ze.v x0).2.2==[]&&true)) then bif ze.s x0==[] then (↑(ze.l x0).length:Int)==0 else false else false else false)
def Ux:zB:=zX [Sh.expr] [Sh.bool] fun x=>(hP x.1,())
theorem P2:FK 218 Ux:=by
 refine zO (Pu) fun x C hC=>?_
 refine zk eI (Pu) (fun id _=>hC id) (X0 x.1) ?_
 generalize hy:hP x.1=y
 unfold hP at hy
 try simp only [ze.eta,zt]
 repeat' (first | with_reducible refine aL hy (fun _ hy=>?_) (fun _ hy=>?_) | with_reducible refine zn ?_)
 all_goals first | (cases hc; done) | (subst hy; first | rfl)

abbrev YZ:Nat→zT:=fun _=>{ }
theorem Pv:zz (gy).P 228 Tryz.f228 1:=aG (by kernel_rfl)
theorem X2 (x0:Sem zi):rn gy 0 YZ Tryz.f228 [zy zi x0] []=Tr.br x0.2.2 (Tr.chk (decide (length x0.1+[32].length≤1099511627776)&&(zJ (IntKind.i64.wrap (x0.2.1 - 1)) 3&&bif IntKind.i64.wrap (x0.2.1 - 1)==(↑0:Int) then decide (length (x0.1++[32])+[73,78,84].length≤1099511627776)&&decide (length (x0.1++[32]++[73,78,84])+[32,78,79,84,32,78,85,76,76].length≤1099511627776) else bif IntKind.i64.wrap (x0.2.1 - 1)==(↑(0+1):Int) then decide (length (x0.1++[32])+[84,69,88,84].length≤1099511627776)&&decide (length (x0.1++[32]++[84,69,88,84])+[32,78,79,84,32,78,85,76,76].length≤1099511627776) else decide (length (x0.1++[32])+[66,79,79,76].length≤1099511627776)&&decide (length (x0.1++[32]++[66,79,79,76])+[32,78,79,84,32,78,85,76,76].length≤1099511627776))) (Tr.ok (zp.ret (AV.str (bif IntKind.i64.wrap (x0.2.1 - 1)==(↑0:Int) then x0.1++[32]++[73,78,84]++[32,78,79,84,32,78,85,76,76] else bif IntKind.i64.wrap (x0.2.1 - 1)==(↑(0+1):Int) then x0.1++[32]++[84,69,88,84]++[32,78,79,84,32,78,85,76,76] else x0.1++[32]++[66,79,79,76]++[32,78,79,84,32,78,85,76,76])) []))) (Tr.chk (decide (length x0.1+[32].length≤1099511627776)&&(zJ (IntKind.i64.wrap (x0.2.1 - 1)) 3&&
 bif IntKind.i64.wrap (x0.2.1 - 1)==(↑0:Int) then decide (length (x0.1++[32])+[73,78,84].length≤1099511627776) else bif IntKind.i64.wrap (x0.2.1 - 1)==(↑(0+1):Int) then decide (length (x0.1++[32])+[84,69,88,84].length≤1099511627776) else decide (length (x0.1++[32])+[66,79,79,76].length≤1099511627776))) (Tr.ok (zp.ret (AV.str (bif IntKind.i64.wrap (x0.2.1 - 1)==(↑0:Int) then x0.1++[32]++[73,78,84] else bif IntKind.i64.wrap (x0.2.1 - 1)==(↑(0+1):Int) then x0.1++[32]++[84,69,88,84] else x0.1++[32]++[66,79,79,76])) []))):=by kernel_rfl
def c8 (x0:Sem zi):Sem Sh.str:=(if x0.2.2=true then bif IntKind.i64.wrap (x0.2.1 - 1)==(↑0:Int) then x0.1++[32]++[73,78,84]++[32,78,79,84,32,78,85,76,76] else bif IntKind.i64.wrap (x0.2.1 - 1)==(↑(0+1):Int) then x0.1++[32]++[84,69,88,84]++[32,78,79,84,32,78,85,76,76] else x0.1++[32]++[66,79,79,76]++[32,78,79,84,32,78,85,76,76] else bif IntKind.i64.wrap (x0.2.1 - 1)==(↑0:Int) then x0.1++[32]++[73,78,84] else bif IntKind.i64.wrap (x0.2.1 - 1)==(↑(0+1):Int) then x0.1++[32]++[84,69,88,84] else x0.1++[32]++[66,79,79,76])
def fT (x0:Sem zi):Bool:=(if x0.2.2=true then if (decide (length x0.1+[32].length≤1099511627776)&&(zJ (IntKind.i64.wrap (x0.2.1 - 1)) 3&&bif IntKind.i64.wrap (x0.2.1 - 1)==(↑0:Int) then decide (length (x0.1++[32])+[73,78,84].length≤1099511627776)&&decide (length (x0.1++[32]++[73,78,84])+[32,78,79,84,32,78,85,76,76].length≤1099511627776) else bif IntKind.i64.wrap (x0.2.1 - 1)==(↑(0+1):Int) then decide (length (x0.1++[32])+[84,69,88,84].length≤1099511627776)&&decide (length (x0.1++[32]++[84,69,88,84])+[32,78,79,84,32,78,85,76,76].length≤1099511627776) else decide (length (x0.1++[32])+[66,79,79,76].length≤1099511627776)&&decide (length (x0.1++[32]++[66,79,79,76])+[32,78,79,84,32,78,85,76,76].length≤1099511627776)))=true then true else false else if (decide (length x0.1+[32].length≤1099511627776)&&(zJ (IntKind.i64.wrap (x0.2.1 - 1)) 3&&bif IntKind.i64.wrap (x0.2.1 - 1)==(↑0:Int) then decide (length (x0.1++[32])+[73,78,84].length≤1099511627776) else bif IntKind.i64.wrap (x0.2.1 - 1)==(↑(0+1):Int) then decide (length (x0.1++[32])+[84,69,88,84].length≤1099511627776) else decide (length (x0.1++[32])+[66,79,79,76].length≤1099511627776)))=true then true else false)
def UC:zB:=zA [zi] [Sh.str] (fun x=>fT x.1) fun x=>(c8 x.1,())
theorem P7:FK 228 UC:=by
 refine zM (Pv) fun x hc C hC=>?_
 unfold fT at hc
 refine zk eI (Pv) (fun id _=>hC id) (X2 x.1) ?_
 generalize hy:c8 x.1=y
 unfold c8 at hy
 try simp only [ze.eta,zt]
 repeat' (first | with_reducible refine ed hy hc (fun _ hy hc=>?_) (fun _ hy hc=>?_) | with_reducible refine aL hy (fun _ hy=>?_) (fun _ hy=>?_) | with_reducible refine aZ hc (fun hc=>?_) | with_reducible refine zn ?_)
 all_goals first | (cases hc; done) | (subst hy; first | rfl)

abbrev zdi:Nat→zT:=fun _=>{ }
theorem zah:zz (gy).P 157 Tryz.f157 1:=aG (by kernel_rfl)
theorem zcy (x0:TS):rn gy 0 zdi Tryz.f157 [zy Sh.str x0] []=Tr.ok (zp.ret (AV.str x0) []):=by kernel_rfl
def kG (x0:TS):Sem Sh.str:=(x0)
def F88:zB:=zX [Sh.str] [Sh.str] fun x=>(kG x.1,())
theorem WZ:FK 157 F88:=by
 refine zO (zah) fun x C hC=>?_
 refine zk eI (zah) (fun id _=>hC id) (zcy x.1) ?_
 generalize hy:kG x.1=y
 unfold kG at hy
 try simp only [ze.eta,zt]
 repeat' (first | with_reducible refine aL hy (fun _ hy=>?_) (fun _ hy=>?_) | with_reducible refine zn ?_)
 all_goals first | (cases hc; done) | (subst hy; first | rfl)

abbrev zdd:Nat→zT:=fun _=>{ }
theorem zab:zz (gy).P 149 Tryz.f149 1:=aG (by kernel_rfl)
theorem zct (x0:TS):rn gy 0 zdd Tryz.f149 [zy Sh.str x0] []=Tr.ok (zp.ret (AV.bool (bif mY x0 then !BR x0 else false)) []):=by kernel_rfl
def bL (x0:TS):Sem Sh.bool:=(bif mY x0 then !BR x0 else false)
def F80:zB:=zX [Sh.str] [Sh.bool] fun x=>(bL x.1,())
theorem WR:FK 149 F80:=by
 refine zO (zab) fun x C hC=>?_
 refine zk eI (zab) (fun id _=>hC id) (zct x.1) ?_
 generalize hy:bL x.1=y
 unfold bL at hy
 try simp only [ze.eta,zt]
 repeat' (first | with_reducible refine aL hy (fun _ hy=>?_) (fun _ hy=>?_) | with_reducible refine zn ?_)
 all_goals first | (cases hc; done) | (subst hy; first | rfl)

abbrev Za:Nat→zT:=fun _=>{ unroll:=true }
theorem Py:zz (gy).P 169 Tryz.f169 1:=aG (by kernel_rfl)
theorem Yc (x0:Sem dY):rn gy 0 Za Tryz.f169 [zy dY x0] []=Tr.br (x0.1==3) (Tr.ok (zp.ret (AV.bool (gT (2,0,x0.2))) [])) (Tr.br (x0.1==4) (Tr.chk (bif (↑(length x0.2):Int)==1 then length x0.2==1 else true) (Tr.ok (zp.ret (AV.bool (bif (↑(length x0.2):Int)==1 then decide (0≤Lib.indexByte [40,41,44,61,60,43,45,42] (List.headD x0.2 0)) else false)) []))) (Tr.br true (Tr.chk true (Tr.br (1==x0.1) (Tr.ok (zp.ret (AV.bool (bif decide ((↑(length x0.2):Int) ≥ 1) then bif decide ((↑(length x0.2):Int)≤16) then (↑(aH bq dt x0.2):Int)==(↑(length x0.2):Int) else false else false)) [])) (Tr.br true (Tr.chk true (Tr.br (2==x0.1) (Tr.ok (zp.ret (AV.bool (bif decide ((↑(length x0.2):Int) ≥ 1) then bif decide ((↑(length x0.2):Int)≤19) then (↑(aH ay ay x0.2):Int)==(↑(length x0.2):Int) else false else false)) [])) (Tr.br false Tr.err (Tr.ok (zp.ret (AV.kb false) []))))) (Tr.ok (zp.ret (AV.kb false) []))))) (Tr.ok (zp.ret (AV.kb false) [])))):=by kernel_rfl
def kh (x0:Sem dY):Sem Sh.bool:=(if (x0.1==3)=true then gT (2,0,x0.2) else if (x0.1==4)=true then bif (↑(length x0.2):Int)==1 then decide (0≤Lib.indexByte [40,41,44,61,60,43,45,42] (List.headD x0.2 0)) else false else if true=true then if (1==x0.1)=true then bif decide ((↑(length x0.2):Int) ≥ 1) then bif decide ((↑(length x0.2):Int)≤16) then (↑(aH bq dt x0.2):Int)==(↑(length x0.2):Int) else false else false else if true=true then if (2==x0.1)=true then bif decide ((↑(length x0.2):Int) ≥ 1) then bif decide ((↑(length x0.2):Int)≤19) then (↑(aH ay ay x0.2):Int)==(↑(length x0.2):Int) else false else false else if false=true then default else false else false else false)
def ms (x0:Sem dY):Bool:=(if (x0.1==3)=true then true else if (x0.1==4)=true then if (bif (↑(length x0.2):Int)==1 then length x0.2==1 else true)=true then true else false else if true=true then if true=true then if (1==x0.1)=true then true else if true=true then if true=true then if (2==x0.1)=true then true else if false=true then false else true else false else true else false else true)
def Vo:zB:=zA [dY] [Sh.bool] (fun x=>ms x.1) fun x=>(kh x.1,())
theorem QU:FK 169 Vo:=by
 refine zM (Py) fun x hc C hC=>?_
 unfold ms at hc
 refine zk eI (Py) (fun id _=>hC id) (Yc x.1) ?_
 generalize hy:kh x.1=y
 unfold kh at hy
 try simp only [ze.eta,zt]
 repeat' (first | with_reducible refine ed hy hc (fun _ hy hc=>?_) (fun _ hy hc=>?_) | with_reducible refine aL hy (fun _ hy=>?_) (fun _ hy=>?_) | with_reducible refine aZ hc (fun hc=>?_) | with_reducible refine zn ?_)
 all_goals first | (cases hc; done) | (subst hy; first | rfl)

noncomputable def c7:=gy.addL [(235,UH),(218,Ux),(228,UC),(157,F88),(149,F80),(169,Vo)]
theorem bU:zm c7:=eI.addL <| fc Qc <| fc P2 <| fc P7 <| fc WZ <| fc WR <| fc QU g6

abbrev zdg:Nat→zT:=fun _=>{ }
theorem zaf:zz (c7).P 154 Tryz.f154 1:=aG (by kernel_rfl)
theorem zcw (x0:Sem Sh.expr):rn c7 0 zdg Tryz.f154 [zy Sh.expr x0] []=Tr.ok (zp.ret (AV.bool (bif hP (zC x0) then true else iR (zC x0))) []):=by kernel_rfl
def m9 (x0:Sem Sh.expr):Sem Sh.bool:=(bif hP x0 then true else iR x0)
def F85:zB:=zX [Sh.expr] [Sh.bool] fun x=>(m9 x.1,())
theorem WW:FK 154 F85:=by
 refine zO (zaf) fun x C hC=>?_
 refine zk bU (zaf) (fun id _=>hC id) (zcw x.1) ?_
 generalize hy:m9 x.1=y
 unfold m9 at hy
 try simp only [ze.eta]
 repeat' (first | with_reducible refine aL hy (fun _ hy=>?_) (fun _ hy=>?_) | with_reducible refine zn ?_)
 all_goals first | (cases hc; done) | (subst hy; first | rfl)

abbrev YW:Nat→zT:=fun _=>{ }
theorem Ps:zz (c7).P 210 Tryz.f210 1:=aG (by kernel_rfl)
theorem XY (x0:Sem zi):rn c7 0 YW Tryz.f210 [zy zi x0] []=Tr.ok (zp.ret (AV.bool (bif bL x0.1 then bif decide (x0.2.1 ≥ 1) then decide (x0.2.1≤3) else false else false)) []):=by kernel_rfl
def iA (x0:Sem zi):Sem Sh.bool:=(bif bL x0.1 then bif decide (x0.2.1 ≥ 1) then decide (x0.2.1≤3) else false else false)
def Uo:zB:=zX [zi] [Sh.bool] fun x=>(iA x.1,())
theorem PT:FK 210 Uo:=by
 refine zO (Ps) fun x C hC=>?_
 refine zk bU (Ps) (fun id _=>hC id) (XY x.1) ?_
 generalize hy:iA x.1=y
 unfold iA at hy
 try simp only [ze.eta,zt]
 repeat' (first | with_reducible refine aL hy (fun _ hy=>?_) (fun _ hy=>?_) | with_reducible refine zn ?_)
 all_goals first | (cases hc; done) | (subst hy; first | rfl)

abbrev YX:Nat→zT:=fun _=>{ }
theorem Pt:zz (c7).P 211 Tryz.f211 1:=aG (by kernel_rfl)
theorem XZ (x0:Sem bI):rn c7 0 YX Tryz.f211 [zy bI x0] []=Tr.ok (zp.ret (AV.bool (bif bL x0.1 then bL x0.2 else false)) []):=by kernel_rfl
def qz (x0:Sem bI):Sem Sh.bool:=(bif bL x0.1 then bL x0.2 else false)
def Up:zB:=zX [bI] [Sh.bool] fun x=>(qz x.1,())
theorem PU:FK 211 Up:=by
 refine zO (Pt) fun x C hC=>?_
 refine zk bU (Pt) (fun id _=>hC id) (XZ x.1) ?_
 generalize hy:qz x.1=y
 unfold qz at hy
 try simp only [ze.eta,zt]
 repeat' (first | with_reducible refine aL hy (fun _ hy=>?_) (fun _ hy=>?_) | with_reducible refine zn ?_)
 all_goals first | (cases hc; done) | (subst hy; first | rfl)

abbrev zdf:Nat→zT:=fun _=>{ }
theorem zad:zz (c7).P 152 Tryz.f152 1:=aG (by kernel_rfl)
theorem zcv (x0:Sem aJ):rn c7 0 zdf Tryz.f152 [zy aJ x0] []=Tr.ok (zp.ret (AV.bool (bif bL x0.1 then iR (zC x0.2) else false)) []):=by kernel_rfl
def uI (x0:Sem aJ):Sem Sh.bool:=(bif bL x0.1 then iR x0.2 else false)
def F83:zB:=zX [aJ] [Sh.bool] fun x=>(uI x.1,())
theorem WU:FK 152 F83:=by
 refine zO (zad) fun x C hC=>?_
 refine zk bU (zad) (fun id _=>hC id) (zcv x.1) ?_
 generalize hy:uI x.1=y
 unfold uI at hy
 try simp only [ze.eta]
 repeat' (first | with_reducible refine aL hy (fun _ hy=>?_) (fun _ hy=>?_) | with_reducible refine zn ?_)
 all_goals first | (cases hc; done) | (subst hy; first | rfl)

abbrev zdk:Nat→zT:=fun _=>{ }
theorem zaj:zz (c7).P 161 Tryz.f161 1:=aG (by kernel_rfl)
theorem zcB (x0:Sem zf):rn c7 0 zdk Tryz.f161 [zy zf x0] []=Tr.br (!gT x0) (Tr.ok (zp.ret (AV.str []) [])) (Tr.br (x0.1==1) (Tr.chk (10==10) (Tr.ok (zp.ret (AV.str (qn x0.2.1)) []))) (Tr.br (x0.1==2) (Tr.chk (ow x0.2.2 [39] [39,39]) (Tr.chk (decide ([39].length+(Lib.replaceAll x0.2.2 [39] [39,39]).length≤1099511627776)) (Tr.chk (decide (length ([39]++Lib.replaceAll x0.2.2 [39] [39,39])+[39].length≤1099511627776)) (Tr.ok (zp.ret (AV.str ([39]++Lib.replaceAll x0.2.2 [39] [39,39]++[39])) []))))) (Tr.br (x0.1==3) (Tr.br (dA x0==2) (Tr.ok (zp.ret (AV.str [84,82,85,69]) [])) (Tr.ok (zp.ret (AV.str [70,65,76,83,69]) []))) (Tr.ok (zp.ret (AV.str [78,85,76,76]) []))))):=by kernel_rfl
def gA (x0:Sem zf):Sem Sh.str:=(if (!gT x0)=true then [] else if (x0.1==1)=true then qn x0.2.1 else if (x0.1==2)=true then [39]++Lib.replaceAll x0.2.2 [39] [39,39]++[39] else if (x0.1==3)=true then if (dA x0==2)=true then [84,82,85,69] else [70,65,76,83,69] else [78,85,76,76])
def ki (x0:Sem zf):Bool:=(if (!gT x0)=true then true else if (x0.1==1)=true then if (10==10)=true then true else false else if (x0.1==2)=true then if ow x0.2.2 [39] [39,39]=true then if decide ([39].length+(Lib.replaceAll x0.2.2 [39] [39,39]).length≤1099511627776)=true then if decide (length ([39]++Lib.replaceAll x0.2.2 [39] [39,39])+[39].length≤1099511627776)=true then true else false else false else false else true)
def F92:zB:=zA [zf] [Sh.str] (fun x=>ki x.1) fun x=>(gA x.1,())
theorem W4:FK 161 F92:=by
 refine zM (zaj) fun x hc C hC=>?_
 unfold ki at hc
 refine zk bU (zaj) (fun id _=>hC id) (zcB x.1) ?_
 generalize hy:gA x.1=y
 unfold gA at hy
 try simp only [ze.eta,zt]
 repeat' (first | with_reducible refine ed hy hc (fun _ hy hc=>?_) (fun _ hy hc=>?_) | with_reducible refine aL hy (fun _ hy=>?_) (fun _ hy=>?_) | with_reducible refine aZ hc (fun hc=>?_) | with_reducible refine zn ?_)
 all_goals first | (cases hc; done) | (subst hy; first | rfl)

abbrev zdh:Nat→zT:=fun _=>{ }
theorem zag:zz (c7).P 156 Tryz.f156 1:=aG (by kernel_rfl)
theorem zcx (x0:Sem zx):rn c7 0 zdh Tryz.f156 [zy zx x0] []=Tr.chk (decide (length x0.2.1+length x0.2.2.1≤1099511627776)) (Tr.chk (decide (length (x0.2.1++x0.2.2.1)+length x0.2.2.2.2.2.1≤1099511627776)) (Tr.chk (decide (length (x0.2.1++x0.2.2.1++x0.2.2.2.2.2.1)+length x0.2.2.2.2.2.2.2.2.2.2.2.2≤1099511627776)) (Tr.ok (zp.ret (AV.bool (bif x0.2.1++x0.2.2.1++x0.2.2.2.2.2.1++x0.2.2.2.2.2.2.2.2.2.2.2.2==[] then bif IntKind.i64.wrap (IntKind.i64.wrap (IntKind.i64.wrap (IntKind.i64.wrap (IntKind.i64.wrap ((↑(length x0.2.2.2.1):Int)+(↑(length x0.2.2.2.2.1):Int))+(↑(length x0.2.2.2.2.2.2.1):Int))+(↑(length x0.2.2.2.2.2.2.2.1):Int))+(↑(length x0.2.2.2.2.2.2.2.2.2.1):Int))+(↑(length x0.2.2.2.2.2.2.2.2.2.2.1):Int))==0 then bif hP (zC x0.2.2.2.2.2.2.2.2.1) then hP (zC x0.2.2.2.2.2.2.2.2.2.2.2.1) else false else false else false)) [])))):=by kernel_rfl
def eC (x0:Sem zx):Sem Sh.bool:=(bif x0.2.1++x0.2.2.1++x0.2.2.2.2.2.1++x0.2.2.2.2.2.2.2.2.2.2.2.2==[] then bif IntKind.i64.wrap (IntKind.i64.wrap (IntKind.i64.wrap (IntKind.i64.wrap (IntKind.i64.wrap ((↑(length x0.2.2.2.1):Int)+(↑(length x0.2.2.2.2.1):Int))+(↑(length x0.2.2.2.2.2.2.1):Int))+(↑(length x0.2.2.2.2.2.2.2.1):Int))+(↑(length x0.2.2.2.2.2.2.2.2.2.1):Int))+(↑(length x0.2.2.2.2.2.2.2.2.2.2.1):Int))==0 then bif hP x0.2.2.2.2.2.2.2.2.1 then hP x0.2.2.2.2.2.2.2.2.2.2.2.1 else false else false else false)
def cO (x0:Sem zx):Bool:=(if decide (length x0.2.1+length x0.2.2.1≤1099511627776)=true then if decide (length (x0.2.1++x0.2.2.1)+length x0.2.2.2.2.2.1≤1099511627776)=true then if decide (length (x0.2.1++x0.2.2.1++x0.2.2.2.2.2.1)+length x0.2.2.2.2.2.2.2.2.2.2.2.2≤1099511627776)=true then true else false else false else false)
def F87:zB:=zA [zx] [Sh.bool] (fun x=>cO x.1) fun x=>(eC x.1,())
theorem WY:FK 156 F87:=by
 refine zM (zag) fun x hc C hC=>?_
 unfold cO at hc
 refine zk bU (zag) (fun id _=>hC id) (zcx x.1) ?_
 generalize hy:eC x.1=y
 unfold eC at hy
 try simp only [ze.eta]
 repeat' (first | with_reducible refine ed hy hc (fun _ hy hc=>?_) (fun _ hy hc=>?_) | with_reducible refine aL hy (fun _ hy=>?_) (fun _ hy=>?_) | with_reducible refine aZ hc (fun hc=>?_) | with_reducible refine zn ?_)
 all_goals first | (cases hc; done) | (subst hy; first | rfl)

abbrev zdp:Nat→zT:=fun _=>{ unroll:=true }
theorem zao:zz (c7).P 168 Tryz.f168 1:=aG (by kernel_rfl)
theorem zcI (x0:TS):rn c7 0 zdp Tryz.f168 [zy Sh.str x0] []=Tr.br true (Tr.chk true (Tr.br (decide ((↑(aH bq dt x0):Int) > 0)) (Tr.chk (decide (0≤0)&&decide (0≤(↑(aH bq dt x0):Int))&&decide ((↑(aH bq dt x0):Int)≤(↑(length x0):Int))) (Tr.ok (zp.ret (AV.tup [AV.agg [ai 1,AV.str (List.take ((↑(aH bq dt x0):Int).toNat - toNat 0) (List.drop (toNat 0) x0))],ai (↑(aH bq dt x0):Int)]) []))) (Tr.br true (Tr.chk true (Tr.br (decide ((↑(aH ay ay x0):Int) > 0)) (Tr.chk (decide (0≤0)&&decide (0≤(↑(aH ay ay x0):Int))&&decide ((↑(aH ay ay x0):Int)≤(↑(length x0):Int))) (Tr.ok (zp.ret (AV.tup [AV.agg [ai 2,AV.str (List.take ((↑(aH ay ay x0):Int).toNat - toNat 0) (List.drop (toNat 0) x0))],ai (↑(aH ay ay x0):Int)]) []))) (Tr.br false Tr.err (Tr.chk (zJ 0 (length x0)) (Tr.br ((↑(getD x0 (toNat 0) 0).toNat:Int)==39) (Tr.chk (gN x0) (Tr.ok (zp.ret (AV.tup [AV.agg [ai (cY x0).1.1,AV.str (cY x0).1.2],ai (cY x0).2]) []))) (Tr.chk (decide (0≤0)&&decide (0≤1)&&decide (1≤(↑(length x0):Int))) (Tr.ok (zp.ret (AV.tup
 [AV.agg [ai 4,AV.str (List.take (toNat 1 - toNat 0) (List.drop (toNat 0) x0))],ai 1]) [])))))))) (Tr.chk (zJ 0 (length x0)) (Tr.br ((↑(getD x0 (toNat 0) 0).toNat:Int)==39) (Tr.chk (gN x0) (Tr.ok (zp.ret (AV.tup [AV.agg [ai (cY x0).1.1,AV.str (cY x0).1.2],ai (cY x0).2]) []))) (Tr.chk (decide (0≤0)&&decide (0≤1)&&decide (1≤(↑(length x0):Int))) (Tr.ok (zp.ret (AV.tup [AV.agg [ai 4,AV.str (List.take (toNat 1 - toNat 0) (List.drop (toNat 0) x0))],ai 1]) [])))))))) (Tr.chk (zJ 0 (length x0)) (Tr.br ((↑(getD x0 (toNat 0) 0).toNat:Int)==39) (Tr.chk (gN x0) (Tr.ok (zp.ret (AV.tup [AV.agg [ai (cY x0).1.1,AV.str (cY x0).1.2],ai (cY x0).2]) []))) (Tr.chk (decide (0≤0)&&decide (0≤1)&&decide (1≤(↑(length x0):Int))) (Tr.ok (zp.ret (AV.tup [AV.agg [ai 4,AV.str (List.take (toNat 1 - toNat 0) (List.drop (toNat 0) x0))],ai 1]) []))))):=by kernel_rfl
def aY (x0:TS):Sem dY×Sem zg:=(if true=true then if decide ((↑(aH bq dt x0):Int) > 0)=true then ((1,List.take ((↑(aH bq dt x0):Int).toNat - toNat 0) (List.drop (toNat 0) x0)),(↑(aH bq dt x0):Int)) else if true=true then if decide ((↑(aH ay ay x0):Int) > 0)=true then ((2,List.take ((↑(aH ay ay x0):Int).toNat - toNat 0) (List.drop (toNat 0) x0)),(↑(aH ay ay x0):Int)) else if false=true then default else if ((↑(getD x0 (toNat 0) 0).toNat:Int)==39)=true then ((cY x0).1,(cY x0).2) else ((4,List.take (toNat 1 - toNat 0) (List.drop (toNat 0) x0)),1) else if ((↑(getD x0 (toNat 0) 0).toNat:Int)==39)=true then ((cY x0).1,(cY x0).2) else ((4,List.take (toNat 1 - toNat 0) (List.drop (toNat 0) x0)),1) else if ((↑(getD x0 (toNat 0) 0).toNat:Int)==39)=true then ((cY x0).1,(cY x0).2) else ((4,List.take (toNat 1 - toNat 0) (List.drop (toNat 0) x0)),1))
def g8 (x0:TS):Bool:=(if true=true then if true=true then if decide ((↑(aH bq dt x0):Int) > 0)=true then if (decide (0≤0)&&decide (0≤(↑(aH bq dt x0):Int))&&decide ((↑(aH bq dt x0):Int)≤(↑(length x0):Int)))=true then true else false else if true=true then if true=true then if decide ((↑(aH ay ay x0):Int) > 0)=true then if (decide (0≤0)&&decide (0≤(↑(aH ay ay x0):Int))&&decide ((↑(aH ay ay x0):Int)≤(↑(length x0):Int)))=true then true else false else if false=true then false else if zJ 0 (length x0)=true then if ((↑(getD x0 (toNat 0) 0).toNat:Int)==39)=true then if gN x0=true then true else false else if (decide (0≤0)&&decide (0≤1)&&decide (1≤(↑(length x0):Int)))=true then true else false else false else false else if zJ 0 (length x0)=true then if ((↑(getD x0 (toNat 0) 0).toNat:Int)==39)=true then if gN x0=true then true else false else if (decide (0≤0)&&decide (0≤1)&&decide (1≤(↑(length x0):Int)))=true then true else false else false else false else if zJ 0 (length x0)=true then if ((↑(getD x0 (toNat 0) 0).toNat:Int)==39)=true then if gN x0=true then true else false else if (decide (0≤0)&&decide (0≤1)&&decide (1≤(↑(length x0):Int)))=true then true else false else false)
def F99:zB:=zA [Sh.str] [dY,zg] (fun x=>g8 x.1) fun x=>((aY x.1).1,(aY x.1).2,())
theorem Xb:FK 168 F99:=by
 refine zM (zao) fun x hc C hC=>?_
 unfold g8 at hc
 refine zk bU (zao) (fun id _=>hC id) (zcI x.1) ?_
 generalize hy:aY x.1=y
 unfold aY at hy
 try simp only [ze.eta,zt]
 repeat' (first | with_reducible refine ed hy hc (fun _ hy hc=>?_) (fun _ hy hc=>?_) | with_reducible refine aL hy (fun _ hy=>?_) (fun _ hy=>?_) | with_reducible refine aZ hc (fun hc=>?_) | with_reducible refine zn ?_)
 all_goals first | (cases hc; done) | (subst hy; first | rfl)

abbrev Ph:Nat→zT:=fun j=>if j=3 then { slots:=[1,5,8,9,10],prom:=[(5,none,.str)] } else { }
abbrev uz (l8:LC) (i9:Int) (i10:Int) (lh_0:LS):St:={ tmps:=(tm 23 [(1,AV.clo (Fn.func 228) [] []),(5,AV.vec 0),(8,AV.sl zi l8),(9,ai i9),(10,ai i10)]),heap:=[AO.vec Sh.str lh_0] }
theorem EJ:zz (c7).P 227 Tryz.f227 2:=aG (by kernel_rfl)
theorem X1 (x0:Sem zi.sl):rn c7 0 Ph Tryz.f227 [zy zi.sl x0,AV.clo (Fn.func 228) [] []] []=Tr.ok (zp.head 3 (zw Tryz.f227 3) (uz x0 (↑(length x0):Int) 0 [])):=by kernel_rfl
theorem ET (l8:LC) (i9:Int) (i10:Int) (lh_0:LS):rh c7 0 Ph Tryz.f227 3 (uz l8 i9 i10 lh_0)=Tr.br (decide (i10 < i9)) (Tr.chk (zJ i10 l8.length) (Tr.chk (fT (l8.getD i10.toNat (zj zi))) (Tr.chk (decide (lh_0.length+[c8 (l8.getD i10.toNat (zj zi))].length≤1073741824)) (Tr.ok (zp.head 3 (zw Tryz.f227 3) (uz l8 i9 (IntKind.i64.wrap (i10+1)) (lh_0++[c8 (l8.getD i10.toNat (zj zi))]))))))) (Tr.chk (decide (lh_0.length≤140737488355328)&&decide ((Lib.join lh_0 [32,44,32]).length≤140737488355328)) (Tr.ok (zp.ret (AV.str (Lib.join lh_0 [32,44,32])) []))):=by kernel_rfl
def cj:List (Sem zi)→Int→List (Sem Sh.str)→Sem Sh.str
 | [],_,lh_0=>(Lib.join lh_0 [32,44,32])
 | x::r,i10,lh_0=>(cj r (i10+1) (lh_0++[c8 x]))
def cC:List (Sem zi)→Int→List (Sem Sh.str)→Bool
 | [],_,lh_0=>(if (decide (lh_0.length≤140737488355328)&&decide ((Lib.join lh_0 [32,44,32]).length≤140737488355328))=true then true else false)
 | x::r,i10,lh_0=>(if fT x=true then if decide (lh_0.length+[c8 x].length≤1073741824)=true then cC r (i10+1) (lh_0++[c8 x]) else false
else false)
theorem L5 {C:cd} (hC:∀ id,C.ρ0 id=none) (l8:LC) (hl:l8.length≤zD):∀ (m i:Nat) (lh_0:LS),l8.length - i=m→i≤l8.length→cC (l8.drop i) i lh_0=true→
  Reach (c7) C 227 (zw Tryz.f227 3) (uz l8 (l8.length:Int) (i:Int) lh_0) (fun r h=>zY h [Sh.str] r=some (cj (l8.drop i) i lh_0,())):=by
 intro m
 induction m with
 | zero=>
  intro i lh_0 hm hi hc
  obtain rfl:i=l8.length:=by omega
  rw [dq] at hc ⊢
  refine zk bU (EJ) (fun id _=>hC id) (ET _ _ _ _) ?_
  rw [cC] at hc
  generalize hy:cj [] _ lh_0=y
  rw [cj] at hy
  simp only [af,Tr.val_brF]
  repeat' (first | with_reducible refine ed hy hc (fun _ hy hc=>?_) (fun _ hy hc=>?_) | with_reducible refine aL hy (fun _ hy=>?_) (fun _ hy=>?_) | with_reducible refine aZ hc (fun hc=>?_) | with_reducible refine zn ?_)
  all_goals first | (cases hc; done) | (subst hy; first | rfl)
 | succ m IH=>
  intro i lh_0 hm hi hc
  have hlt:i < l8.length:=by omega
  have IH:=IH (i+1)
  have hcast:((i:Int)+1)=((i+1:Nat):Int):=by omega
  have hwr:=zG i (by omega)
  rw [ez hlt] at hc ⊢
  refine zk bU (EJ) (fun id _=>hC id) (ET _ _ _ _) ?_
  rw [cC] at hc
  generalize hy:cj (l8[i]::l8.drop (i+1)) (i:Int) lh_0=y
  rw [cj] at hy
  simp only [zV hlt,zF hlt,zZ l8 _ hlt,hwr,Tr.val_brT,Tr.val_chkT]
  clear hwr
  try simp only [zF hlt] at hy
  simp only [hcast] at hy
  try simp only [zF hlt] at hc
  try simp only [hcast] at hc
  repeat' (first | with_reducible refine ed hy hc (fun _ hy hc=>?_) (fun _ hy hc=>?_) | with_reducible refine aL hy (fun _ hy=>?_) (fun _ hy=>?_) | with_reducible refine aZ hc (fun hc=>?_) | with_reducible refine zn ?_)
  all_goals first | (cases hc; done) | (subst hy; first | (change Reach _ _ _ _ _ _; apply IH <;> first | omega | assumption) | rfl)
theorem Hu {C:cd} (hC:∀ id,C.ρ0 id=none) (l8:LC) (lh_0:LS) (hc:cC l8 0 lh_0=true):
  Reach (c7) C 227 (zw Tryz.f227 3) (uz l8 (l8.length:Int) 0 lh_0) (fun r h=>zY h [Sh.str] r=some (cj l8 0 lh_0,())):=
 Reach.len 8 (zi) l8 rfl fun hl=>L5 hC l8 hl _ 0 lh_0 rfl (be _) hc
def cT (x0:Sem zi.sl):Sem Sh.str:=(cj x0 0 [])
def gV (x0:Sem zi.sl):Bool:=(cC x0 0 [])
def UB:zB:=uf [zi.sl] [Sh.str] [(228,(fun x=>gV x.1),fun x=>(cT x.1,()))]
theorem P6:FK 227 UB:=by
 refine jN (EJ) fun j c g hm x hc C hC=>?_
 simp only [bF,bm] at hm
 obtain ⟨rfl,rfl,rfl⟩:=hm
 replace hc:gV x.1=true:=hc
 unfold gV at hc
 refine zk bU (EJ) (fun id _=>hC id) (X1 x.1) ?_
 generalize hy:cT x.1=y
 unfold cT at hy
 repeat' (first | with_reducible refine ed hy hc (fun _ hy hc=>?_) (fun _ hy hc=>?_) | with_reducible refine aL hy (fun _ hy=>?_) (fun _ hy=>?_) | with_reducible refine aZ hc (fun hc=>?_) | with_reducible refine zn ?_)
 all_goals first | (cases hc; done) | (subst hy; first | (change Reach _ _ _ _ _ _; apply Hu hC <;> first | assumption | exact hc) | rfl)

abbrev Zq:Nat→zT:=fun j=>if j=3 then { slots:=[1,5,8,9,10],prom:=[(5,none,.str)] } else { }
abbrev B1 (l8:LS) (i9:Int) (i10:Int) (lh_0:LS):St:={ tmps:=(tm 23 [(1,AV.clo (Fn.func 157) [] []),(5,AV.vec 0),(8,AV.sl Sh.str l8),(9,ai i9),(10,ai i10)]),heap:=[AO.vec Sh.str lh_0] }
theorem M2:zz (c7).P 166 Tryz.f166 2:=aG (by kernel_rfl)
theorem zcG (x0:Sem Sh.str.sl):rn c7 0 Zq Tryz.f166 [zy Sh.str.sl x0,AV.clo (Fn.func 157) [] []] []=Tr.ok (zp.head 3 (zw Tryz.f166 3) (B1 x0 (↑(length x0):Int) 0 [])):=by kernel_rfl
theorem JT (l8:LS) (i9:Int) (i10:Int) (lh_0:LS):rh c7 0 Zq Tryz.f166 3 (B1 l8 i9 i10 lh_0)=Tr.br (decide (i10 < i9)) (Tr.chk (zJ i10 l8.length) (Tr.chk (decide (lh_0.length+[kG (l8.getD i10.toNat (zj Sh.str))].length≤1073741824)) (Tr.ok (zp.head 3 (zw Tryz.f166 3) (B1 l8 i9 (IntKind.i64.wrap (i10+1)) (lh_0++[kG (l8.getD i10.toNat (zj Sh.str))])))))) (Tr.chk (decide (lh_0.length≤140737488355328)&&decide ((Lib.join lh_0 [32,44,32]).length≤140737488355328)) (Tr.ok (zp.ret (AV.str (Lib.join lh_0 [32,44,32])) []))):=by kernel_rfl
def cr:List (Sem Sh.str)→Int→List (Sem Sh.str)→Sem Sh.str
 | [],_,lh_0=>(Lib.join lh_0 [32,44,32])
 | x::r,i10,lh_0=>(cr r (i10+1) (lh_0++[kG x]))
def cH:List (Sem Sh.str)→Int→List (Sem Sh.str)→Bool
 | [],_,lh_0=>(if (decide (lh_0.length≤140737488355328)&&decide ((Lib.join lh_0 [32,44,32]).length≤140737488355328))=true then true else false)
 | x::r,i10,lh_0=>(if decide (lh_0.length+[kG x].length≤1073741824)=true then cH r (i10+1) (lh_0++[kG x]) else false)
theorem RL {C:cd} (hC:∀ id,C.ρ0 id=none) (l8:LS) (hl:l8.length≤zD):∀ (m i:Nat) (lh_0:LS),l8.length - i=m→i≤l8.length→cH (l8.drop i) i lh_0=true→
  Reach (c7) C 166 (zw Tryz.f166 3) (B1 l8 (l8.length:Int) (i:Int) lh_0) (fun r h=>zY h [Sh.str] r=some (cr (l8.drop i) i lh_0,())):=by
 intro m
 induction m with
 | zero=>
  intro i lh_0 hm hi hc
  obtain rfl:i=l8.length:=by omega
  rw [dq] at hc ⊢
  refine zk bU (M2) (fun id _=>hC id) (JT _ _ _ _) ?_
  rw [cH] at hc
  generalize hy:cr [] _ lh_0=y
  rw [cr] at hy
  simp only [af,Tr.val_brF]
  repeat' (first | with_reducible refine ed hy hc (fun _ hy hc=>?_) (fun _ hy hc=>?_) | with_reducible refine aL hy (fun _ hy=>?_) (fun _ hy=>?_) | with_reducible refine aZ hc (fun hc=>?_) | with_reducible refine zn ?_)
  all_goals first | (cases hc; done) | (subst hy; first | rfl)
 | succ m IH=>
  intro i lh_0 hm hi hc
  have hlt:i < l8.length:=by omega
  have IH:=IH (i+1)
  have hcast:((i:Int)+1)=((i+1:Nat):Int):=by omega
  have hwr:=zG i (by omega)
  rw [ez hlt] at hc ⊢
  refine zk bU (M2) (fun id _=>hC id) (JT _ _ _ _) ?_
  rw [cH] at hc
  generalize hy:cr (l8[i]::l8.drop (i+1)) (i:Int) lh_0=y
  rw [cr] at hy
  simp only [zV hlt,zF hlt,zZ l8 _ hlt,hwr,Tr.val_brT,Tr.val_chkT]
  clear hwr
  try simp only [zF hlt] at hy
  simp only [hcast] at hy
  try simp only [zF hlt] at hc
  try simp only [hcast] at hc
  repeat' (first | with_reducible refine ed hy hc (fun _ hy hc=>?_) (fun _ hy hc=>?_) | with_reducible refine aL hy (fun _ hy=>?_) (fun _ hy=>?_) | with_reducible refine aZ hc (fun hc=>?_) | with_reducible refine zn ?_)
  all_goals first | (cases hc; done) | (subst hy; first | (change Reach _ _ _ _ _ _; apply IH <;> first | omega | assumption) | rfl)
theorem Md {C:cd} (hC:∀ id,C.ρ0 id=none) (l8:LS) (lh_0:LS) (hc:cH l8 0 lh_0=true):
  Reach (c7) C 166 (zw Tryz.f166 3) (B1 l8 (l8.length:Int) 0 lh_0) (fun r h=>zY h [Sh.str] r=some (cr l8 0 lh_0,())):=
 Reach.len 8 (Sh.str) l8 rfl fun hl=>RL hC l8 hl _ 0 lh_0 rfl (be _) hc
def jF (x0:Sem Sh.str.sl):Sem Sh.str:=(cr x0 0 [])
def jG (x0:Sem Sh.str.sl):Bool:=(cH x0 0 [])
def F97:zB:=uf [Sh.str.sl] [Sh.str] [(157,(fun x=>jG x.1),fun x=>(jF x.1,()))]
theorem W9:FK 166 F97:=by
 refine jN (M2) fun j c g hm x hc C hC=>?_
 simp only [bF,bm] at hm
 obtain ⟨rfl,rfl,rfl⟩:=hm
 replace hc:jG x.1=true:=hc
 unfold jG at hc
 refine zk bU (M2) (fun id _=>hC id) (zcG x.1) ?_
 generalize hy:jF x.1=y
 unfold jF at hy
 repeat' (first | with_reducible refine ed hy hc (fun _ hy hc=>?_) (fun _ hy hc=>?_) | with_reducible refine aL hy (fun _ hy=>?_) (fun _ hy=>?_) | with_reducible refine aZ hc (fun hc=>?_) | with_reducible refine zn ?_)
 all_goals first | (cases hc; done) | (subst hy; first | (change Reach _ _ _ _ _ _; apply Md hC <;> first | assumption | exact hc) | rfl)

noncomputable def jo:=c7.addL [(154,F85),(210,Uo),(211,Up),(152,F83),(161,F92),(156,F87),(168,F99),(227,UB),(166,F97)]
theorem dl:zm jo:=bU.addL <| fc WW <| fc PT <| fc PU <| fc WU <| fc W4 <| fc WY <| fc Xb <| fc P6 <| fc W9 g6
noncomputable section

def UL:zB:=zP (List.replicate 2 none) (bH jo Tryz.f253 (List.replicate 2 none))
theorem Qg:FK 253 UL:=ac _ dl (aG (by kernel_rfl))

def UN:zB:=zP (List.replicate 2 none) (bH jo Tryz.f255 (List.replicate 2 none))
theorem Qi:FK 255 UN:=ac _ dl (aG (by kernel_rfl))

def Uz:zB:=zP (List.replicate 2 none) (bH jo Tryz.f220 (List.replicate 2 none))
theorem P4:FK 220 Uz:=ac _ dl (aG (by kernel_rfl))

def Uu:zB:=zP (List.replicate 2 none) (bH jo Tryz.f215 (List.replicate 2 none))
theorem PZ:FK 215 Uu:=ac _ dl (aG (by kernel_rfl))

def Uw:zB:=zP (List.replicate 2 none) (bH jo Tryz.f217 (List.replicate 2 none))
theorem P1:FK 217 Uw:=ac _ dl (aG (by kernel_rfl))

abbrev Zo:Nat→zT:=fun j=>if j=3 then { slots:=[1,5,8,9,10],prom:=[(5,none,.str)] } else { }
abbrev BY (l8:LV) (i9:Int) (i10:Int) (lh_0:LS):St:={ tmps:=(tm 23 [(1,AV.clo (Fn.func 161) [] []),(5,AV.vec 0),(8,AV.sl zf l8),(9,ai i9),(10,ai i10)]),heap:=[AO.vec Sh.str lh_0] }
theorem M0:zz (jo).P 160 Tryz.f160 2:=aG (by kernel_rfl)
theorem zcA (x0:Sem zf.sl):rn jo 0 Zo Tryz.f160 [zy zf.sl x0,AV.clo (Fn.func 161) [] []] []=Tr.ok (zp.head 3 (zw Tryz.f160 3) (BY x0 (↑(length x0):Int) 0 [])):=by kernel_rfl
theorem JQ (l8:LV) (i9:Int) (i10:Int) (lh_0:LS):rh jo 0 Zo Tryz.f160 3 (BY l8 i9 i10 lh_0)=Tr.br (decide (i10 < i9)) (Tr.chk (zJ i10 l8.length) (Tr.chk (ki (l8.getD i10.toNat (zj zf))) (Tr.chk (decide (lh_0.length+[gA (l8.getD i10.toNat (zj zf))].length≤1073741824)) (Tr.ok (zp.head 3 (zw Tryz.f160 3) (BY l8 i9 (IntKind.i64.wrap (i10+1)) (lh_0++[gA (l8.getD i10.toNat (zj zf))]))))))) (Tr.chk (decide (lh_0.length≤140737488355328)&&decide ((Lib.join lh_0 [32,44,32]).length≤140737488355328)) (Tr.ok (zp.ret (AV.str (Lib.join lh_0 [32,44,32])) []))):=by kernel_rfl
def cu:List (Sem zf)→Int→List (Sem Sh.str)→Sem Sh.str
 | [],_,lh_0=>(Lib.join lh_0 [32,44,32])
 | x::r,i10,lh_0=>(cu r (i10+1) (lh_0++[gA x]))
def cJ:List (Sem zf)→Int→List (Sem Sh.str)→Bool
 | [],_,lh_0=>(if (decide (lh_0.length≤140737488355328)&&decide ((Lib.join lh_0 [32,44,32]).length≤140737488355328))=true then true else false)
 | x::r,i10,lh_0=>(if ki x=true then if decide (lh_0.length+[gA x].length≤1073741824)=true then cJ r (i10+1) (lh_0++[gA x]) else false else false)
theorem RJ {C:cd} (hC:∀ id,C.ρ0 id=none) (l8:LV) (hl:l8.length≤zD):∀ (m i:Nat) (lh_0:LS),l8.length - i=m→i≤l8.length→cJ (l8.drop i) i lh_0=true→
  Reach (jo) C 160 (zw Tryz.f160 3) (BY l8 (l8.length:Int) (i:Int) lh_0) (fun r h=>zY h [Sh.str] r=some (cu (l8.drop i) i lh_0,())):=by
 intro m
 induction m with
 | zero=>
  intro i lh_0 hm hi hc
  obtain rfl:i=l8.length:=by omega
  rw [dq] at hc ⊢
  refine zk dl (M0) (fun id _=>hC id) (JQ _ _ _ _) ?_
  rw [cJ] at hc
  generalize hy:cu [] _ lh_0=y
  rw [cu] at hy
  simp only [af,Tr.val_brF]
  repeat' (first | with_reducible refine ed hy hc (fun _ hy hc=>?_) (fun _ hy hc=>?_) | with_reducible refine aL hy (fun _ hy=>?_) (fun _ hy=>?_) | with_reducible refine aZ hc (fun hc=>?_) | with_reducible refine zn ?_)
  all_goals first | (cases hc; done) | (subst hy; first | rfl)
 | succ m IH=>
  intro i lh_0 hm hi hc
  have hlt:i < l8.length:=by omega
  have IH:=IH (i+1)
  have hcast:((i:Int)+1)=((i+1:Nat):Int):=by omega
  have hwr:=zG i (by omega)
  rw [ez hlt] at hc ⊢
  refine zk dl (M0) (fun id _=>hC id) (JQ _ _ _ _) ?_
  rw [cJ] at hc
  generalize hy:cu (l8[i]::l8.drop (i+1)) (i:Int) lh_0=y
  rw [cu] at hy
  simp only [zV hlt,zF hlt,zZ l8 _ hlt,hwr,Tr.val_brT,Tr.val_chkT]
  clear hwr
  try simp only [zF hlt] at hy
  simp only [hcast] at hy
  try simp only [zF hlt] at hc
  try simp only [hcast] at hc
  repeat' (first | with_reducible refine ed hy hc (fun _ hy hc=>?_) (fun _ hy hc=>?_) | with_reducible refine aL hy (fun _ hy=>?_) (fun _ hy=>?_) | with_reducible refine aZ hc (fun hc=>?_) | with_reducible refine zn ?_)
  all_goals first | (cases hc; done) | (subst hy; first | (change Reach _ _ _ _ _ _; apply IH <;> first | omega | assumption) | rfl)
theorem Mb {C:cd} (hC:∀ id,C.ρ0 id=none) (l8:LV) (lh_0:LS) (hc:cJ l8 0 lh_0=true):
  Reach (jo) C 160 (zw Tryz.f160 3) (BY l8 (l8.length:Int) 0 lh_0) (fun r h=>zY h [Sh.str] r=some (cu l8 0 lh_0,())):=
 Reach.len 8 (zf) l8 rfl fun hl=>RJ hC l8 hl _ 0 lh_0 rfl (be _) hc
def jJ (x0:Sem zf.sl):Sem Sh.str:=(cu x0 0 [])
def jK (x0:Sem zf.sl):Bool:=(cJ x0 0 [])
def F91:zB:=uf [zf.sl] [Sh.str] [(161,(fun x=>jK x.1),fun x=>(jJ x.1,()))]
theorem W3:FK 160 F91:=by
 refine jN (M0) fun j c g hm x hc C hC=>?_
 simp only [bF,bm] at hm
 obtain ⟨rfl,rfl,rfl⟩:=hm
 replace hc:jK x.1=true:=hc
 unfold jK at hc
 refine zk dl (M0) (fun id _=>hC id) (zcA x.1) ?_
 generalize hy:jJ x.1=y
 unfold jJ at hy
 repeat' (first | with_reducible refine ed hy hc (fun _ hy hc=>?_) (fun _ hy hc=>?_) | with_reducible refine aL hy (fun _ hy=>?_) (fun _ hy=>?_) | with_reducible refine aZ hc (fun hc=>?_) | with_reducible refine zn ?_)
 all_goals first | (cases hc; done) | (subst hy; first | (change Reach _ _ _ _ _ _; apply Mb hC <;> first | assumption | exact hc) | rfl)

def HT (g:Sem Sh.expr→Sem Sh.str) (c:Sem Sh.expr→Bool):bb:=jo.add 268 (zA [Sh.expr] [Sh.str] (fun x=>c x.1) fun x=>(g x.1,()))
theorem FV {g:Sem Sh.expr→Sem Sh.str} {c:Sem Sh.expr→Bool} (hg:FK 268 (zA [Sh.expr] [Sh.str] (fun x=>c x.1) fun x=>(g x.1,()))):zm (HT g c):=dl.add hg
abbrev SV:Nat→zT:=fun _=>{ }
theorem tX (g:Sem Sh.expr→Sem Sh.str) (c:Sem Sh.expr→Bool):zz (HT g c).P 268 Tryz.f268 1:=aG (by kernel_rfl)
theorem Sd (g:Sem Sh.expr→Sem Sh.str) (c:Sem Sh.expr→Bool) (x0:Sem Sh.expr):rn (HT g c) 0 SV Tryz.f268 [zy Sh.expr x0] []=Tr.br (ze.op x0==[108,105,116]) (Tr.chk (ki (ze.v x0)) (Tr.ok (zp.ret (AV.str (gA (ze.v x0))) []))) (Tr.br (ze.op x0==[99,111,108]) (Tr.ok (zp.ret (AV.str (ze.s x0)) [])) (Tr.br (ze.op x0==[110,111,116]) (Tr.chk (zJ 0 (ze.l x0).length) (Tr.chk (c (zC ((ze.l x0).getD (toNat 0) (zj Sh.expr)))) (Tr.chk (decide ([40,78,79,84,32].length+length (g (zC ((ze.l x0).getD (toNat 0) (zj Sh.expr))))≤1099511627776)) (Tr.chk (decide (length ([40,78,79,84,32]++g (zC ((ze.l x0).getD (toNat 0) (zj Sh.expr))))+[41].length≤1099511627776)) (Tr.ok (zp.ret (AV.str ([40,78,79,84,32]++g (zC ((ze.l x0).getD (toNat 0) (zj Sh.expr)))++[41])) [])))))) (Tr.br (ze.op x0==[110,117,108,108]) (Tr.chk (zJ 0 (ze.l x0).length) (Tr.chk (c (zC ((ze.l x0).getD (toNat 0) (zj Sh.expr)))) (Tr.chk (decide ([40].length+length (g (zC ((ze.l x0).getD (toNat 0) (zj Sh.expr))))≤1099511627776)) (Tr.chk (decide (length ([40]++g (zC ((ze.l x0).getD (toNat 0) (zj Sh.expr))))+[32,73,83,32,78,85,76,76,41].length≤1099511627776)) (Tr.ok (zp.ret (AV.str ([40]++g
 (zC ((ze.l x0).getD (toNat 0) (zj Sh.expr)))++[32,73,83,32,78,85,76,76,41])) [])))))) (Tr.chk (zJ 0 (ze.l x0).length) (Tr.chk (c (zC ((ze.l x0).getD (toNat 0) (zj Sh.expr)))) (Tr.chk (decide ([40].length+length (g (zC ((ze.l x0).getD (toNat 0) (zj Sh.expr))))≤1099511627776)) (Tr.chk (decide (length ([40]++g (zC ((ze.l x0).getD (toNat 0) (zj Sh.expr))))+[32].length≤1099511627776)) (Tr.chk (decide (length (ze.op x0)≤140737488355328)&&List.all (ze.op x0) fun b=>decide (b.toNat < 128)) (Tr.chk (decide (length ([40]++g (zC ((ze.l x0).getD (toNat 0) (zj Sh.expr)))++[32])+(Lib.toUpperA (ze.op x0)).length≤1099511627776)) (Tr.chk (decide (length ([40]++g (zC ((ze.l x0).getD (toNat 0) (zj Sh.expr)))++[32]++Lib.toUpperA (ze.op x0))+[32].length≤1099511627776)) (Tr.chk (zJ 1 (ze.l x0).length) (Tr.chk (c (zC ((ze.l x0).getD (toNat 1) (zj Sh.expr)))) (Tr.chk (decide (length ([40]++g (zC ((ze.l x0).getD (toNat 0) (zj Sh.expr)))++[32]++Lib.toUpperA (ze.op x0)++[32])+length (g (zC ((ze.l x0).getD (toNat 1) (zj Sh.expr))))≤1099511627776)) (Tr.chk (decide (length ([40]++g (zC ((ze.l x0).getD (toNat 0) (zj Sh.expr)))++[32]++Lib.toUpperA (ze.op x0)++[32]++g (zC ((ze.l x0).getD (toNat 1) (zj Sh.expr))))+[41].length≤1099511627776)) (Tr.ok
 (zp.ret (AV.str ([40]++g (zC ((ze.l x0).getD (toNat 0) (zj Sh.expr)))++[32]++Lib.toUpperA (ze.op x0)++[32]++g (zC ((ze.l x0).getD (toNat 1) (zj Sh.expr)))++[41])) [])))))))))))))))):=by kernel_rfl
def sB (g:Sem Sh.expr→Sem Sh.str) (_:Sem Sh.expr→Bool) (x0:Sem Sh.expr):Sem Sh.str:=(if (ze.op x0==[108,105,116])=true then gA (ze.v x0) else if (ze.op x0==[99,111,108])=true then ze.s x0 else if (ze.op x0==[110,111,116])=true then [40,78,79,84,32]++g ((ze.l x0).getD (toNat 0) (zj Sh.expr))++[41] else if (ze.op x0==[110,117,108,108])=true then [40]++g ((ze.l x0).getD (toNat 0) (zj Sh.expr))++[32,73,83,32,78,85,76,76,41] else [40]++g ((ze.l x0).getD (toNat 0) (zj Sh.expr))++[32]++Lib.toUpperA (ze.op x0)++[32]++g ((ze.l x0).getD (toNat 1) (zj Sh.expr))++[41])
def qV (g:Sem Sh.expr→Sem Sh.str) (c:Sem Sh.expr→Bool) (x0:Sem Sh.expr):Bool:=(if (ze.op x0==[108,105,116])=true then if ki (ze.v x0)=true then true else false else if (ze.op x0==[99,111,108])=true then true else if (ze.op x0==[110,111,116])=true then if zJ 0 (ze.l x0).length=true then if c ((ze.l x0).getD (toNat 0) (zj Sh.expr))=true then if decide ([40,78,79,84,32].length+length (g ((ze.l x0).getD (toNat 0) (zj Sh.expr)))≤1099511627776)=true then if decide (length ([40,78,79,84,32]++g ((ze.l x0).getD (toNat 0) (zj Sh.expr)))+[41].length≤1099511627776)=true then true else false else false else false else false else if (ze.op x0==[110,117,108,108])=true then if zJ 0 (ze.l x0).length=true then if c ((ze.l x0).getD (toNat 0) (zj Sh.expr))=true then if decide ([40].length+length (g ((ze.l x0).getD (toNat 0) (zj Sh.expr)))≤1099511627776)=true then if decide (length ([40]++g ((ze.l x0).getD (toNat 0) (zj Sh.expr)))+[32,73,83,32,78,85,76,76,41].length≤1099511627776)=true then true else false else false else false else false else if zJ 0 (ze.l x0).length=true then if c ((ze.l x0).getD (toNat 0) (zj Sh.expr))=true then if decide ([40].length+length (g ((ze.l x0).getD (toNat 0) (zj Sh.expr)))≤1099511627776)=true then
 if decide (length ([40]++g ((ze.l x0).getD (toNat 0) (zj Sh.expr)))+[32].length≤1099511627776)=true then if (decide (length (ze.op x0)≤140737488355328)&&List.all (ze.op x0) fun b=>decide (b.toNat < 128))=true then if decide (length ([40]++g ((ze.l x0).getD (toNat 0) (zj Sh.expr))++[32])+(Lib.toUpperA (ze.op x0)).length≤1099511627776)=true then if decide (length ([40]++g ((ze.l x0).getD (toNat 0) (zj Sh.expr))++[32]++Lib.toUpperA (ze.op x0))+[32].length≤1099511627776)=true then if zJ 1 (ze.l x0).length=true then if c ((ze.l x0).getD (toNat 1) (zj Sh.expr))=true then if decide (length ([40]++g ((ze.l x0).getD (toNat 0) (zj Sh.expr))++[32]++Lib.toUpperA (ze.op x0)++[32])+length (g ((ze.l x0).getD (toNat 1) (zj Sh.expr)))≤1099511627776)=true then if decide (length ([40]++g ((ze.l x0).getD (toNat 0) (zj Sh.expr))++[32]++Lib.toUpperA (ze.op x0)++[32]++g ((ze.l x0).getD (toNat 1) (zj Sh.expr)))+[41].length≤1099511627776)=true then true else false else false else false else false else false else false else false else false else false else false else false)
def UV (g:Sem Sh.expr→Sem Sh.str) (c:Sem Sh.expr→Bool):zB:=zA [Sh.expr] [Sh.str] (fun x=>qV g c x.1) fun x=>(sB g c x.1,())
theorem Lu (g:Sem Sh.expr→Sem Sh.str) (c:Sem Sh.expr→Bool) (hg:FK 268 (zA [Sh.expr] [Sh.str] (fun x=>c x.1) fun x=>(g x.1,()))):FK 268 (UV g c):=by
 refine zM (tX g c) fun x hc C hC=>?_
 unfold qV at hc
 refine zk (FV hg) (tX g c) (fun id _=>hC id) (Sd g c x.1) ?_
 generalize hy:sB g c x.1=y
 unfold sB at hy
 try simp only [ze.eta]
 repeat' (first | with_reducible refine ed hy hc (fun _ hy hc=>?_) (fun _ hy hc=>?_) | with_reducible refine aL hy (fun _ hy=>?_) (fun _ hy=>?_) | with_reducible refine aZ hc (fun hc=>?_) | with_reducible refine zn ?_)
 all_goals first | (cases hc; done) | (subst hy; first | rfl)
mutual
def fx:Nat→Sem Sh.expr→Sem Sh.str
 | 0=>fun _=>default
 | n+1=>sB (fx n) (fN n)
def fN:Nat→Sem Sh.expr→Bool
 | 0=>fun _=>false
 | n+1=>qV (fx n) (fN n)
end
theorem DW:∀ n,FK 268 (zA [Sh.expr] [Sh.str] (fun x=>fN n x.1) fun x=>(fx n x.1,()))
 | 0=>cQ ⟨Tryz.f268,(tX default default).1,(tX default default).2.1,(tX default default).2.2.1⟩ (fun _=>rfl)
 | n+1=>Lu (fx n) (fN n) (DW n)
def UU:zB:=zA [Sh.expr] [Sh.str] (fun x=>fN 16 x.1) fun x=>(fx 16 x.1,())
theorem Qp:FK 268 UU:=DW 16

def dF:=jo.addL [(253,UL),(255,UN),(220,Uz),(215,Uu),(217,Uw),(160,F91),(268,UU)]
theorem bV:zm dF:=dl.addL <| fc Qg <| fc Qi <| fc P4 <| fc PZ <| fc P1 <| fc W3 <| fc Qp g6
end

abbrev oE (l:LC) (i:Int):St:={ tmps:=[.sl zi l,.clo (.func 253) [] [.ptr 0 0],.any,.any,.any,.any,.any,.int .i64 l.length,.int .i64 i,.any,.any,.any,.any,.any,.any,.any,.any,.any,.any],heap:=[.box [.clo (.func 210) [] []]] }
theorem Gn (l:LC):run dF 1 kM Tryz.f126.results.toList 300 (ao Tryz.f126) (zU Tryz.f126.ntmps [.sl zi l,.clo (.func 253) [] [.ptr 0 0]] [.box [.clo (.func 210) [] []]])=.ok (.head 2 (zw Tryz.f126 2) (oE l 0)):=by kernel_rfl
theorem GH (l:LC) (i:Int):run dF 1 kM Tryz.f126.results.toList 300 (zw Tryz.f126 2) (oE l i)=gq (K:=zw Tryz.f126 2) (e:=zi) l (fun x => !iA x) (oE l) [.box [.clo (.func 210) [] []]] i:=by kernel_rfl

theorem JA:zz dF.P 126 Tryz.f126 2:=aG (by kernel_rfl)
def Xj:cg [some (.sl zi),none]:=fun x h=>match x,h with
 | (l,.clo (.func 253) [] [.ptr 0 0],_),[.box [.clo (.func 210) [] []]]=>.ok (.int .i64 (zQ (fun x => !iA x) l 0),[.box [.clo (.func 210) [] []]])
 | _,_=>.err
def U9:zB:=zP [some (.sl zi),none] Xj
theorem QD:FK 126 U9:=by
 refine bc JA fun x h0 res hx C hC=>?_
 unfold Xj at hx
 split at hx
 ·rename_i l u
  simp only [Tr.val_ok,ae] at hx
  subst hx
  refine Reach.len 0 zi l rfl fun hl=>?_
  refine zk (n0:=1) bV JA hC (Gn l) ?_
  exact dR l (fun x => !iA x) (oE l) bV JA hC (GH l) hl _ 0 rfl (be _)
 ·simp at hx

abbrev oD (l:List (Sem bI)) (i:Int):St:={ tmps:=[.sl bI l,.clo (.func 255) [] [.ptr 0 0],.any,.any,.any,.any,.any,.int .i64 l.length,.int .i64 i,.any,.any,.any,.any,.any,.any,.any,.any,.any,.any],heap:=[.box [.clo (.func 211) [] []]] }
theorem Gm (l:List (Sem bI)):run dF 1 kM Tryz.f279.results.toList 300 (ao Tryz.f279) (zU Tryz.f279.ntmps [.sl bI l,.clo (.func 255) [] [.ptr 0 0]] [.box [.clo (.func 211) [] []]])=.ok (.head 2 (zw Tryz.f279 2) (oD l 0)):=by kernel_rfl
theorem GG (l:List (Sem bI)) (i:Int):run dF 1 kM Tryz.f279.results.toList 300 (zw Tryz.f279 2) (oD l i)=gq (K:=zw Tryz.f279 2) (e:=bI) l (fun x => !qz x) (oD l) [.box [.clo (.func 211) [] []]] i:=by kernel_rfl

theorem Jw:zz dF.P 279 Tryz.f279 2:=aG (by kernel_rfl)
def Xi:cg [some (.sl bI),none]:=fun x h=>match x,h with
 | (l,.clo (.func 255) [] [.ptr 0 0],_),[.box [.clo (.func 211) [] []]]=>.ok (.int .i64 (zQ (fun x => !qz x) l 0),[.box [.clo (.func 211) [] []]])
 | _,_=>.err
def UX:zB:=zP [some (.sl bI),none] Xi
theorem Qr:FK 279 UX:=by
 refine bc Jw fun x h0 res hx C hC=>?_
 unfold Xi at hx
 split at hx
 ·rename_i l u
  simp only [Tr.val_ok,ae] at hx
  subst hx
  refine Reach.len 0 bI l rfl fun hl=>?_
  refine zk (n0:=1) bV Jw hC (Gm l) ?_
  exact dR l (fun x => !qz x) (oD l) bV Jw hC (GG l) hl _ 0 rfl (be _)
 ·simp at hx

abbrev oC (l:LS) (i:Int):St:={ tmps:=[.sl Sh.str l,.clo (.func 220) [] [.ptr 0 0],.any,.any,.any,.any,.any,.int .i64 l.length,.int .i64 i,.any,.any,.any,.any,.any,.any,.any,.any,.any,.any],heap:=[.box [.clo (.func 149) [] []]] }
theorem Gl (l:LS):run dF 1 kM Tryz.f258.results.toList 300 (ao Tryz.f258) (zU Tryz.f258.ntmps [.sl Sh.str l,.clo (.func 220) [] [.ptr 0 0]] [.box [.clo (.func 149) [] []]])=.ok (.head 2 (zw Tryz.f258 2) (oC l 0)):=by kernel_rfl
theorem GF (l:LS) (i:Int):run dF 1 kM Tryz.f258.results.toList 300 (zw Tryz.f258 2) (oC l i)=gq (K:=zw Tryz.f258 2) (e:=Sh.str) l (fun x => !bL x) (oC l) [.box [.clo (.func 149) [] []]] i:=by kernel_rfl

theorem Jv:zz dF.P 258 Tryz.f258 2:=aG (by kernel_rfl)
def Xh:cg [some (.sl Sh.str),none]:=fun x h=>match x,h with
 | (l,.clo (.func 220) [] [.ptr 0 0],_),[.box [.clo (.func 149) [] []]]=>.ok (.int .i64 (zQ (fun x => !bL x) l 0),[.box [.clo (.func 149) [] []]])
 | _,_=>.err
def UQ:zB:=zP [some (.sl Sh.str),none] Xh
theorem Ql:FK 258 UQ:=by
 refine bc Jv fun x h0 res hx C hC=>?_
 unfold Xh at hx
 split at hx
 ·rename_i l u
  simp only [Tr.val_ok,ae] at hx
  subst hx
  refine Reach.len 0 Sh.str l rfl fun hl=>?_
  refine zk (n0:=1) bV Jv hC (Gl l) ?_
  exact dR l (fun x => !bL x) (oC l) bV Jv hC (GF l) hl _ 0 rfl (be _)
 ·simp at hx

abbrev oA (l:LV) (i:Int):St:={ tmps:=[.sl zf l,.clo (.func 215) [] [.ptr 0 0],.any,.any,.any,.any,.any,.int .i64 l.length,.int .i64 i,.any,.any,.any,.any,.any,.any,.any,.any,.any,.any],heap:=[.box [.clo (.func 94) [] []]] }
theorem Gj (l:LV):run dF 1 kM Tryz.f256.results.toList 300 (ao Tryz.f256) (zU Tryz.f256.ntmps [.sl zf l,.clo (.func 215) [] [.ptr 0 0]] [.box [.clo (.func 94) [] []]])=.ok (.head 2 (zw Tryz.f256 2) (oA l 0)):=by kernel_rfl
theorem GC (l:LV) (i:Int):run dF 1 kM Tryz.f256.results.toList 300 (zw Tryz.f256 2) (oA l i)=gq (K:=zw Tryz.f256 2) (e:=zf) l (fun x => !gT x) (oA l) [.box [.clo (.func 94) [] []]] i:=by kernel_rfl

theorem Jt:zz dF.P 256 Tryz.f256 2:=aG (by kernel_rfl)
def Xf:cg [some (.sl zf),none]:=fun x h=>match x,h with
 | (l,.clo (.func 215) [] [.ptr 0 0],_),[.box [.clo (.func 94) [] []]]=>.ok (.int .i64 (zQ (fun x => !gT x) l 0),[.box [.clo (.func 94) [] []]])
 | _,_=>.err
def UO:zB:=zP [some (.sl zf),none] Xf
theorem Qj:FK 256 UO:=by
 refine bc Jt fun x h0 res hx C hC=>?_
 unfold Xf at hx
 split at hx
 ·rename_i l u
  simp only [Tr.val_ok,ae] at hx
  subst hx
  refine Reach.len 0 zf l rfl fun hl=>?_
  refine zk (n0:=1) bV Jt hC (Gj l) ?_
  exact dR l (fun x => !gT x) (oA l) bV Jt hC (GC l) hl _ 0 rfl (be _)
 ·simp at hx

abbrev oB (l:List (Sem aJ)) (i:Int):St:={ tmps:=[.sl aJ l,.clo (.func 217) [] [.ptr 0 0],.any,.any,.any,.any,.any,.int .i64 l.length,.int .i64 i,.any,.any,.any,.any,.any,.any,.any,.any,.any,.any],heap:=[.box [.clo (.func 152) [] []]] }
theorem Gk (l:List (Sem aJ)):run dF 1 kM Tryz.f257.results.toList 300 (ao Tryz.f257) (zU Tryz.f257.ntmps [.sl aJ l,.clo (.func 217) [] [.ptr 0 0]] [.box [.clo (.func 152) [] []]])=.ok (.head 2 (zw Tryz.f257 2) (oB l 0)):=by kernel_rfl
theorem GD (l:List (Sem aJ)) (i:Int):run dF 1 kM Tryz.f257.results.toList 300 (zw Tryz.f257 2) (oB l i)=gq (K:=zw Tryz.f257 2) (e:=aJ) l (fun x => !uI x) (oB l) [.box [.clo (.func 152) [] []]] i:=by kernel_rfl

theorem Ju:zz dF.P 257 Tryz.f257 2:=aG (by kernel_rfl)
def Xg:cg [some (.sl aJ),none]:=fun x h=>match x,h with
 | (l,.clo (.func 217) [] [.ptr 0 0],_),[.box [.clo (.func 152) [] []]]=>.ok (.int .i64 (zQ (fun x => !uI x) l 0),[.box [.clo (.func 152) [] []]])
 | _,_=>.err
def UP:zB:=zP [some (.sl aJ),none] Xg
theorem Qk:FK 257 UP:=by
 refine bc Ju fun x h0 res hx C hC=>?_
 unfold Xg at hx
 split at hx
 ·rename_i l u
  simp only [Tr.val_ok,ae] at hx
  subst hx
  refine Reach.len 0 aJ l rfl fun hl=>?_
  refine zk (n0:=1) bV Ju hC (Gk l) ?_
  exact dR l (fun x => !uI x) (oB l) bV Ju hC (GD l) hl _ 0 rfl (be _)
 ·simp at hx

abbrev Y0:Nat→zT:=fun _=>{ }
theorem Pw:zz (dF).P 232 Tryz.f232 1:=aG (by kernel_rfl)
theorem X3 (x0:Sem Sh.expr):rn dF 0 Y0 Tryz.f232 [zy Sh.expr x0] []=Tr.br (!iR (zC x0)) (Tr.ok (zp.ret (AV.tup [AV.str [],ai 1]) [])) (Tr.chk (fN 16 (zC x0)) (Tr.ok (zp.ret (AV.tup [AV.str (fx 16 (zC x0)),ai 0]) []))):=by kernel_rfl
def lg (x0:Sem Sh.expr):Sem Sh.str×Sem zg:=(if (!iR x0)=true then ([],1) else (fx 16 x0,0))
def lV (x0:Sem Sh.expr):Bool:=(if (!iR x0)=true then true else if fN 16 x0=true then true else false)
def UG:zB:=zA [Sh.expr] [Sh.str,zg] (fun x=>lV x.1) fun x=>((lg x.1).1,(lg x.1).2,())
theorem Qb:FK 232 UG:=by
 refine zM (Pw) fun x hc C hC=>?_
 unfold lV at hc
 refine zk bV (Pw) (fun id _=>hC id) (X3 x.1) ?_
 generalize hy:lg x.1=y
 unfold lg at hy
 try simp only [ze.eta]
 repeat' (first | with_reducible refine ed hy hc (fun _ hy hc=>?_) (fun _ hy hc=>?_) | with_reducible refine aL hy (fun _ hy=>?_) (fun _ hy=>?_) | with_reducible refine aZ hc (fun hc=>?_) | with_reducible refine zn ?_)
 all_goals first | (cases hc; done) | (subst hy; first | rfl)

abbrev Zg:Nat→zT:=fun j=>if j=3 then { slots:=[0,4,5],prom:=[(4,none,dY)] } else { }
abbrev BU (s0:TS) (i5:Int) (lh_0:LF):St:={ tmps:=(tm 47 [(0,AV.str s0),(4,AV.vec 0),(5,ai i5)]),heap:=[AO.vec zo lh_0] }
theorem To:zz (dF).P 91 Tryz.f91 1:=aG (by kernel_rfl)
theorem zco (x0:TS):rn dF 0 Zg Tryz.f91 [zy Sh.str x0] []=Tr.ok (zp.head 3 (zw Tryz.f91 3) (BU x0 0 [])):=by kernel_rfl
theorem TA (s0:TS) (i5:Int) (lh_0:LF):rh dF 0 Zg Tryz.f91 3 (BU s0 i5 lh_0)=Tr.br (decide (i5 < (↑(length s0):Int))) (Tr.chk (zJ i5 (length s0)&&bif (↑(getD s0 i5.toNat 0).toNat:Int)==32 then true else zJ i5 (length s0)) (Tr.br (bif (↑(getD s0 i5.toNat 0).toNat:Int)==32 then true else (↑(getD s0 i5.toNat 0).toNat:Int)==10) (Tr.ok (zp.head 3 (zw Tryz.f91 3) (BU s0 (IntKind.i64.wrap (i5+1)) lh_0))) (Tr.chk (decide (0≤i5)&&decide (i5≤(↑(length s0):Int))&&decide ((↑(length s0):Int)≤(↑(length s0):Int))) (Tr.chk (g8 (List.take ((↑(length s0):Int).toNat - i5.toNat) (List.drop i5.toNat s0))) (Tr.chk (ms (aY (List.take ((↑(length s0):Int).toNat - i5.toNat) (List.drop i5.toNat s0))).1) (Tr.br (bif !kh (aY (List.take ((↑(length s0):Int).toNat - i5.toNat) (List.drop i5.toNat s0))).1 then true else (↑lh_0.length:Int)==400) (Tr.ok (zp.ret (AV.tup [AV.nils,ai 2]) [])) (Tr.chk (decide (lh_0.length+[(aY (List.take ((↑(length s0):Int).toNat - i5.toNat) (List.drop i5.toNat s0))).1].length≤1073741824)) (Tr.ok (zp.head 3 (zw Tryz.f91 3) (BU s0 (IntKind.i64.wrap (i5+(aY (List.take ((↑(length s0):Int).toNat - i5.toNat) (List.drop i5.toNat s0))).2))
 (lh_0++[(aY (List.take ((↑(length s0):Int).toNat - i5.toNat) (List.drop i5.toNat s0))).1]))))))))))) (Tr.ok (zp.ret (AV.tup [AV.vec 0,ai 0]) [AO.vec zo lh_0])):=by kernel_rfl
def sm:Nat→(Sem Sh.str)→Int→(List (Sem zo))→Sem dY.sl×Sem zg
 | 0,_,_,_=>default
 | n+1,s0,i5,lh_0=>(if decide (i5 < (↑(length s0):Int))=true then
 if (bif (↑(getD s0 i5.toNat 0).toNat:Int)==32 then true else (↑(getD s0 i5.toNat 0).toNat:Int)==10)=true then
  sm n s0 (IntKind.i64.wrap (i5+1)) lh_0
 else
  if
    (bif !kh (aY (List.take ((↑(length s0):Int).toNat - i5.toNat) (List.drop i5.toNat s0))).1 then true
     else (↑lh_0.length:Int)==400)=
     true then
   ([],2)
  else
   sm n s0 (IntKind.i64.wrap (i5+(aY (List.take ((↑(length s0):Int).toNat - i5.toNat) (List.drop i5.toNat s0))).2))
    (lh_0++[(aY (List.take ((↑(length s0):Int).toNat - i5.toNat) (List.drop i5.toNat s0))).1])
else (lh_0,0))
def m6:Nat→(Sem Sh.str)→Int→(List (Sem zo))→Bool
 | 0,_,_,_=>false
 | n+1,s0,i5,lh_0=>(if decide (i5 < (↑(length s0):Int))=true then
 if (zJ i5 (length s0)&&bif (↑(getD s0 i5.toNat 0).toNat:Int)==32 then true else zJ i5 (length s0))=true then
  if (bif (↑(getD s0 i5.toNat 0).toNat:Int)==32 then true else (↑(getD s0 i5.toNat 0).toNat:Int)==10)=true then
   m6 n s0 (IntKind.i64.wrap (i5+1)) lh_0
  else
   if (decide (0≤i5)&&decide (i5≤(↑(length s0):Int))&&decide ((↑(length s0):Int)≤(↑(length s0):Int)))=true then
    if g8 (List.take ((↑(length s0):Int).toNat - i5.toNat) (List.drop i5.toNat s0))=true then
     if ms (aY (List.take ((↑(length s0):Int).toNat - i5.toNat) (List.drop i5.toNat s0))).1=true then
      if
        (bif !kh (aY (List.take ((↑(length s0):Int).toNat - i5.toNat) (List.drop i5.toNat s0))).1 then true
         else (↑lh_0.length:Int)==400)=
         true then
       true
      else
       if
         decide (lh_0.length+[(aY (List.take ((↑(length s0):Int).toNat - i5.toNat) (List.drop i5.toNat s0))).1].length≤1073741824)=
          true then
        m6 n s0 (IntKind.i64.wrap (i5+(aY (List.take ((↑(length s0):Int).toNat - i5.toNat) (List.drop i5.toNat s0))).2))
         (lh_0++[(aY (List.take ((↑(length s0):Int).toNat - i5.toNat) (List.drop i5.toNat s0))).1])
       else false
     else false
    else false
   else false
 else false
else true)
theorem Hz {C:cd} (hC:∀ id,C.ρ0 id=none):∀ (n:Nat) (s0:TS) (i5:Int) (lh_0:LF),m6 n s0 i5 lh_0=true→
  Reach (dF) C 91 (zw Tryz.f91 3) (BU s0 i5 lh_0) (fun r h=>zY h [dY.sl,zg] r=some ((sm n s0 i5 lh_0).1,(sm n s0 i5 lh_0).2,()))
 | 0,s0,i5,lh_0,hc=>by cases hc
 | n+1,s0,i5,lh_0,hc=>by
  refine zk bV (To) (fun id _=>hC id) (TA _ _ _) ?_
  rw [m6] at hc
  generalize hy:sm (n+1) s0 i5 lh_0=y
  rw [sm] at hy
  try simp only [ze.eta,zt]
  repeat' (first | with_reducible refine ed hy hc (fun _ hy hc=>?_) (fun _ hy hc=>?_) | with_reducible refine aL hy (fun _ hy=>?_) (fun _ hy=>?_) | with_reducible refine aZ hc (fun hc=>?_) | with_reducible refine zn ?_)
  all_goals first | (cases hc; done) | (subst hy; first | (change Reach _ _ _ _ _ _; refine Hz hC n _ _ _ ?_ <;> exact hc) | rfl)
def cut (x0:TS):Sem dY.sl×Sem zg:=(sm (length x0+1) x0 0 [])
def HE (x0:TS):Bool:=(m6 (length x0+1) x0 0 [])
def F69:zB:=zA [Sh.str] [dY.sl,zg] (fun x=>HE x.1) fun x=>((cut x.1).1,(cut x.1).2,())
theorem WG:FK 91 F69:=by
 refine zM (To) fun x hc C hC=>?_
 unfold HE at hc
 refine zk bV (To) (fun id _=>hC id) (zco x.1) ?_
 generalize hy:cut x.1=y
 unfold cut at hy
 try simp only [ze.eta,zt]
 repeat' (first | with_reducible refine ed hy hc (fun _ hy hc=>?_) (fun _ hy hc=>?_) | with_reducible refine aL hy (fun _ hy=>?_) (fun _ hy=>?_) | with_reducible refine aZ hc (fun hc=>?_) | with_reducible refine zn ?_)
 all_goals first | (cases hc; done) | (subst hy; first | (change Reach _ _ _ _ _ _; refine Hz hC _ _ _ _ ?_ <;> exact hc) | rfl)

noncomputable def nR:=dF.addL [(126,U9),(279,UX),(258,UQ),(256,UO),(257,UP),(232,UG),(91,F69)]
theorem fE:zm nR:=bV.addL <| fc QD <| fc Qr <| fc Ql <| fc Qj <| fc Qk <| fc Qb <| fc WG g6

noncomputable def UK:zB:=zP (List.replicate 2 none) (bH nR Tryz.f252 (List.replicate 2 none))
theorem Qf:FK 252 UK:=ac _ fE (aG (by kernel_rfl))

noncomputable def UM:zB:=zP (List.replicate 2 none) (bH nR Tryz.f254 (List.replicate 2 none))
theorem Qh:FK 254 UM:=ac _ fE (aG (by kernel_rfl))

noncomputable def Uy:zB:=zP (List.replicate 2 none) (bH nR Tryz.f219 (List.replicate 2 none))
theorem P3:FK 219 Uy:=ac _ fE (aG (by kernel_rfl))

noncomputable def Us:zB:=zP (List.replicate 2 none) (bH nR Tryz.f214 (List.replicate 2 none))
theorem PX:FK 214 Us:=ac _ fE (aG (by kernel_rfl))

noncomputable def Uv:zB:=zP (List.replicate 2 none) (bH nR Tryz.f216 (List.replicate 2 none))
theorem P0:FK 216 Uv:=ac _ fE (aG (by kernel_rfl))

abbrev zdm:Nat→zT:=fun _=>{ }
theorem zal:zz (nR).P 163 Tryz.f163 1:=aG (by kernel_rfl)
theorem zcD (x0:Sem Sh.expr):rn nR 0 zdm Tryz.f163 [zy Sh.expr x0] []=Tr.chk (lV (zC x0)) (Tr.ok (zp.ret (AV.str (lg (zC x0)).1) [])):=by kernel_rfl
def cw (x0:Sem Sh.expr):Sem Sh.str:=((lg x0).1)
def fk (x0:Sem Sh.expr):Bool:=(if lV x0=true then true else false)
def F94:zB:=zA [Sh.expr] [Sh.str] (fun x=>fk x.1) fun x=>(cw x.1,())
theorem W6:FK 163 F94:=by
 refine zM (zal) fun x hc C hC=>?_
 unfold fk at hc
 refine zk fE (zal) (fun id _=>hC id) (zcD x.1) ?_
 generalize hy:cw x.1=y
 unfold cw at hy
 try simp only [ze.eta]
 repeat' (first | with_reducible refine ed hy hc (fun _ hy hc=>?_) (fun _ hy hc=>?_) | with_reducible refine aL hy (fun _ hy=>?_) (fun _ hy=>?_) | with_reducible refine aZ hc (fun hc=>?_) | with_reducible refine zn ?_)
 all_goals first | (cases hc; done) | (subst hy; first | rfl)

noncomputable def jp:=nR.addL [(252,UK),(254,UM),(219,Uy),(214,Us),(216,Uv),(163,F94)]
theorem dO:zm jp:=fE.addL <| fc Qf <| fc Qh <| fc P3 <| fc PX <| fc P0 <| fc W6 g6

noncomputable def Uq:zB:=zP (List.replicate 4 none) (bH jp Tryz.f212 (List.replicate 4 none))
theorem PV:FK 212 Uq:=ac _ dO (aG (by kernel_rfl))

noncomputable def Ur:zB:=zP (List.replicate 4 none) (bH jp Tryz.f213 (List.replicate 4 none))
theorem PW:FK 213 Ur:=ac _ dO (aG (by kernel_rfl))

noncomputable def F86:zB:=zP (List.replicate 4 none) (bH jp Tryz.f155 (List.replicate 4 none))
theorem WX:FK 155 F86:=ac _ dO (aG (by kernel_rfl))

noncomputable def F82:zB:=zP (List.replicate 4 none) (bH jp Tryz.f151 (List.replicate 4 none))
theorem WT:FK 151 F82:=ac _ dO (aG (by kernel_rfl))

noncomputable def F84:zB:=zP (List.replicate 4 none) (bH jp Tryz.f153 (List.replicate 4 none))
theorem WV:FK 153 F84:=ac _ dO (aG (by kernel_rfl))

abbrev zdn:Nat→zT:=fun _=>{ }
theorem zam:zz (jp).P 165 Tryz.f165 1:=aG (by kernel_rfl)
theorem zcF (x0:Sem Sh.expr):rn jp 0 zdn Tryz.f165 [zy Sh.expr x0] []=Tr.br (hP (zC x0)) (Tr.ok (zp.ret (AV.str []) [])) (Tr.chk (fk (zC x0)) (Tr.chk (decide ([32,87,72,69,82,69,32].length+length (cw (zC x0))≤1099511627776)) (Tr.ok (zp.ret (AV.str ([32,87,72,69,82,69,32]++cw (zC x0))) [])))):=by kernel_rfl
def xu (x0:Sem Sh.expr):Sem Sh.str:=(if hP x0=true then [] else [32,87,72,69,82,69,32]++cw x0)
def uY (x0:Sem Sh.expr):Bool:=(if hP x0=true then true else if fk x0=true then if decide ([32,87,72,69,82,69,32].length+length (cw x0)≤1099511627776)=true then true else false else false)
def F96:zB:=zA [Sh.expr] [Sh.str] (fun x=>uY x.1) fun x=>(xu x.1,())
theorem W8:FK 165 F96:=by
 refine zM (zam) fun x hc C hC=>?_
 unfold uY at hc
 refine zk dO (zam) (fun id _=>hC id) (zcF x.1) ?_
 generalize hy:xu x.1=y
 unfold xu at hy
 try simp only [ze.eta]
 repeat' (first | with_reducible refine ed hy hc (fun _ hy hc=>?_) (fun _ hy hc=>?_) | with_reducible refine aL hy (fun _ hy=>?_) (fun _ hy=>?_) | with_reducible refine aZ hc (fun hc=>?_) | with_reducible refine zn ?_)
 all_goals first | (cases hc; done) | (subst hy; first | rfl)

abbrev zdo:Nat→zT:=fun _=>{ }
theorem zan:zz (jp).P 167 Tryz.f167 2:=aG (by kernel_rfl)
theorem zcH (x0:TS) (x1:Sem Sh.expr):rn jp 0 zdo Tryz.f167 [zy Sh.str x0,zy Sh.expr x1] []=Tr.br (hP (zC x1)) (Tr.ok (zp.ret (AV.str []) [])) (Tr.chk (decide (length x0+[67,72,69,67,75,32,40,32].length≤1099511627776)) (Tr.chk (fk (zC x1)) (Tr.chk (decide (length (x0++[67,72,69,67,75,32,40,32])+length (cw (zC x1))≤1099511627776)) (Tr.chk (decide (length (x0++[67,72,69,67,75,32,40,32]++cw (zC x1))+[32,41].length≤1099511627776)) (Tr.ok (zp.ret (AV.str (x0++[67,72,69,67,75,32,40,32]++cw (zC x1)++[32,41])) [])))))):=by kernel_rfl
def gp (x0:TS) (x1:Sem Sh.expr):Sem Sh.str:=(if hP x1=true then [] else x0++[67,72,69,67,75,32,40,32]++cw x1++[32,41])
def jS (x0:TS) (x1:Sem Sh.expr):Bool:=(if hP x1=true then true else if decide (length x0+[67,72,69,67,75,32,40,32].length≤1099511627776)=true then if fk x1=true then if decide (length (x0++[67,72,69,67,75,32,40,32])+length (cw x1)≤1099511627776)=true then if decide (length (x0++[67,72,69,67,75,32,40,32]++cw x1)+[32,41].length≤1099511627776)=true then true else false else false else false else false)
def F98:zB:=zA [Sh.str,Sh.expr] [Sh.str] (fun x=>jS x.1 x.2.1) fun x=>(gp x.1 x.2.1,())
theorem Xa:FK 167 F98:=by
 refine zM (zan) fun x hc C hC=>?_
 unfold jS at hc
 refine zk dO (zan) (fun id _=>hC id) (zcH x.1 x.2.1) ?_
 generalize hy:gp x.1 x.2.1=y
 unfold gp at hy
 try simp only [ze.eta]
 repeat' (first | with_reducible refine ed hy hc (fun _ hy hc=>?_) (fun _ hy hc=>?_) | with_reducible refine aL hy (fun _ hy=>?_) (fun _ hy=>?_) | with_reducible refine aZ hc (fun hc=>?_) | with_reducible refine zn ?_)
 all_goals first | (cases hc; done) | (subst hy; first | rfl)

abbrev zdl:Nat→zT:=fun _=>{ }
theorem zak:zz (jp).P 162 Tryz.f162 1:=aG (by kernel_rfl)
theorem zcC (x0:Sem aJ):rn jp 0 zdl Tryz.f162 [zy aJ x0] []=Tr.chk (decide (length x0.1+[32,61,32].length≤1099511627776)) (Tr.chk (fk (zC x0.2)) (Tr.chk (decide (length (x0.1++[32,61,32])+length (cw (zC x0.2))≤1099511627776)) (Tr.ok (zp.ret (AV.str (x0.1++[32,61,32]++cw (zC x0.2))) [])))):=by kernel_rfl
def dv (x0:Sem aJ):Sem Sh.str:=(x0.1++[32,61,32]++cw x0.2)
def im (x0:Sem aJ):Bool:=(if decide (length x0.1+[32,61,32].length≤1099511627776)=true then if fk x0.2=true then if decide (length (x0.1++[32,61,32])+length (cw x0.2)≤1099511627776)=true then true else false else false else false)
def F93:zB:=zA [aJ] [Sh.str] (fun x=>im x.1) fun x=>(dv x.1,())
theorem W5:FK 162 F93:=by
 refine zM (zak) fun x hc C hC=>?_
 unfold im at hc
 refine zk dO (zak) (fun id _=>hC id) (zcC x.1) ?_
 generalize hy:dv x.1=y
 unfold dv at hy
 try simp only [ze.eta]
 repeat' (first | with_reducible refine ed hy hc (fun _ hy hc=>?_) (fun _ hy hc=>?_) | with_reducible refine aL hy (fun _ hy=>?_) (fun _ hy=>?_) | with_reducible refine aZ hc (fun hc=>?_) | with_reducible refine zn ?_)
 all_goals first | (cases hc; done) | (subst hy; first | rfl)

noncomputable def fV:=jp.addL [(212,Uq),(213,Ur),(155,F86),(151,F82),(153,F84),(165,F96),(167,F98),(162,F93)]
theorem dm:zm fV:=dO.addL <| fc PV <| fc PW <| fc WX <| fc WT <| fc WV <| fc W8 <| fc Xa <| fc W5 g6
end Cad
