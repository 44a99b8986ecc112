/- slices.Clone: what it answers is memory of its own. schema.copied is its argument, of what is not too deep. Functions from plain data and a function to plain data. Statements: words of columns, tokens. Statements: parts. Statements: the ways of many; expressions' texts. Statements: the ways of many, again; tokens. Statements: the ways of many, once more. Statements: many; checks' texts. -/
import Derived.Test.YtiefilkilbdpgaaGreatDoorG10
import Derived.Test.YtiefilkilbdpgaaGreatDoorG09
namespace Cad
open Go Go.Proofs
open Int (toNat)
open List (getD)
open List (length)

theorem Reach.promNil {E:ba} {C:bW} {fn:FuncId} {todo:List Item} {st:St} (e:Sh) (hC:∀ id,C.ρ0 id=none) (h:Reach E C fn todo st (fun r h=>(r,h)=(.nils,[]))):Reach E C fn todo st (fun r h=>(r,h)=(.vec 0,[.vec e []])):=by
 intro b cs a w U ρ h1 h2 hc hW
 obtain ⟨en,w',fr,⟨v,r,h',U',ρ',he,hq,hrv,hH,hnew,hr0,hWd⟩,hcm,hf,hl⟩:=h b cs a w U ρ h1 h2 hc hW
 cases hq
 cases hrv with
 | nils ad=>
 have hno:∀ id o b,o=(AO.vec e []:AO)∨o=AO.dead→¬ zM (fun id=>if id=0 then some (.slice ad 0 0) else none) id o b:=by
  rintro id o b ho ⟨h3,x,h4,h5⟩
  rcases ho with rfl | rfl
  ·simp only at h4
   split at h4
   ·cases h4
    cases ad <;> simp [dV] at h5
   ·cases h4
  ·simp [AO.owns] at h3
 have hob:∀ id,(([AO.vec e []]:List AO).getD id .dead)=(if id=0 then AO.vec e [] else AO.dead):=by
  intro id
  cases id <;> simp
 refine ⟨en,w',fr,⟨_,_,_,U',fun id=>if id=0 then some (.slice ad 0 0) else none,he,rfl,.vec 0 _ (by simp) (by simp [Value.oneCell']),⟨fun id=>?_,fun id1 id2 b o=>?_,fun id b o=>?_⟩,fun id hid=>?_,fun id v hv=>?_,hWd⟩,hcm,hf,hl⟩
 ·show aU w' U' _ id (([AO.vec e []]:List AO).getD id .dead)
  rw [hob]
  split
  ·rename_i h0
   subst h0
   exact ⟨ad,0,by simp,by simp,.inl ⟨rfl,rfl⟩⟩
  ·trivial
 ·exfalso
  have o':zM (fun id=>if id=0 then some (.slice ad 0 0) else none) id1 (([AO.vec e []]:List AO).getD id1 .dead) b:=o
  rw [hob] at o'
  split at o'
  ·exact hno _ _ _ (.inl rfl) o'
  ·exact hno _ _ _ (.inr rfl) o'
 ·exfalso
  have o':zM (fun id=>if id=0 then some (.slice ad 0 0) else none) id (([AO.vec e []]:List AO).getD id .dead) b:=o
  rw [hob] at o'
  split at o'
  ·exact hno _ _ _ (.inl rfl) o'
  ·exact hno _ _ _ (.inr rfl) o'
 ·simp at hid
  simp; omega
 ·rw [hC id] at hv; cases hv

def af:Tr zp→List Item×List Item×St
 | .ok (.fork _ k1 k2 st)=>(k1,k2,st)
 | _=>([],[],⟨[],[]⟩)

abbrev uP:Nat→zS:=fun _=>{ }

noncomputable abbrev y5 (l:List ze):Tr zp:=run mt 0 uP (Func.results Tryz.f125).toList 300 (ah Tryz.f125) (zU (Func.ntmps Tryz.f125) [.sl .expr l] [])
theorem LO:zz mt.P 125 Tryz.f125 1:=aG (by kernel_rfl)
theorem zaK (l:List ze):y5 l=.ok (.fork l.isEmpty (af (y5 l)).1 (af (y5 l)).2.1 (af (y5 l)).2.2):=by kernel_rfl
theorem Y7 (l:List ze):run mt 0 uP (Func.results Tryz.f125).toList 300 (af (y5 l)).1 (af (y5 l)).2.2=.ok (.ret .nils []):=by kernel_rfl
theorem Y8 (l:List ze):run mt 0 uP (Func.results Tryz.f125).toList 300 (af (y5 l)).2.1 (af (y5 l)).2.2=.chk (decide (l.length≤1073741824)) (.ok (.ret (.vec 0) [.vec .expr l])):=by kernel_rfl
def G53:b7 [some (.sl .expr)]:=fun x h=>match h with
 | []=>.chk (decide (length x.1≤1073741824)) (.ok (.vec 0,[.vec .expr x.1]))
 | _=>.err
def F53:zB:=zP [some (.sl .expr)] G53
theorem UY:FK 125 F53:=by
 refine bb LO fun x h0 res hx C hC=>?_
 unfold G53 at hx
 split at hx
 ·simp only [Tr.val] at hx
  split at hx
  ·rename_i hl
   simp only [zZ] at hx
   subst hx
   obtain ⟨l,u⟩:=x
   refine zk (n0:=0) fy LO hC (zaK l) ?_
   refine ⟨fun he=>?_,?_⟩
   ·have hn:l=[]:=List.isEmpty_iff.1 he
    refine Reach.weaken (Q:=fun r h=>(r,h)=(.vec 0,[.vec .expr []])) (Reach.promNil .expr (fun id=>hC id (by simp)) (zk (n0:=0) fy LO hC (Y7 l) rfl)) ?_
    intro r h hq
    cases hq
    refine ⟨_,?_,fun _ _ _ _ h=>h⟩
    show (AV.vec 0,[AO.vec Sh.expr []])=(AV.vec 0,[AO.vec Sh.expr l])
    rw [hn]
   ·exact zk (n0:=0) fy LO hC (Y8 l) (cu hl rfl)
  ·cases hx
 ·simp at hx

noncomputable abbrev y4 (l:List (Sem zi)):Tr zp:=run mt 0 uP (Func.results Tryz.f71).toList 300 (ah Tryz.f71) (zU (Func.ntmps Tryz.f71) [.sl zi l] [])
theorem LM:zz mt.P 71 Tryz.f71 1:=aG (by kernel_rfl)
theorem zas (l:List (Sem zi)):y4 l=.ok (.fork l.isEmpty (af (y4 l)).1 (af (y4 l)).2.1 (af (y4 l)).2.2):=by kernel_rfl
theorem Y1 (l:List (Sem zi)):run mt 0 uP (Func.results Tryz.f71).toList 300 (af (y4 l)).1 (af (y4 l)).2.2=.ok (.ret .nils []):=by kernel_rfl
theorem Y2 (l:List (Sem zi)):run mt 0 uP (Func.results Tryz.f71).toList 300 (af (y4 l)).2.1 (af (y4 l)).2.2=.chk (decide (l.length≤1073741824)) (.ok (.ret (.vec 0) [.vec zi l])):=by kernel_rfl
def G32:b7 [some (.sl zi)]:=fun x h=>match h with
 | []=>.chk (decide (length x.1≤1073741824)) (.ok (.vec 0,[.vec zi x.1]))
 | _=>.err
def F32:zB:=zP [some (.sl zi)] G32
theorem UE:FK 71 F32:=by
 refine bb LM fun x h0 res hx C hC=>?_
 unfold G32 at hx
 split at hx
 ·simp only [Tr.val] at hx
  split at hx
  ·rename_i hl
   simp only [zZ] at hx
   subst hx
   obtain ⟨l,u⟩:=x
   refine zk (n0:=0) fy LM hC (zas l) ?_
   refine ⟨fun he=>?_,?_⟩
   ·have hn:l=[]:=List.isEmpty_iff.1 he
    refine Reach.weaken (Q:=fun r h=>(r,h)=(.vec 0,[.vec zi []])) (Reach.promNil zi (fun id=>hC id (by simp)) (zk (n0:=0) fy LM hC (Y1 l) rfl)) ?_
    intro r h hq
    cases hq
    refine ⟨_,?_,fun _ _ _ _ h=>h⟩
    show (AV.vec 0,[AO.vec zi []])=(AV.vec 0,[AO.vec zi l])
    rw [hn]
   ·exact zk (n0:=0) fy LM hC (Y2 l) (cu hl rfl)
  ·cases hx
 ·simp at hx

noncomputable def Ll:=mt.addL [(125,F53),(71,F32)]
theorem sA:zm Ll:=fy.addL <| fc UY <| fc UE gX
def FR (c:ze→Bool):zB:=zA [.expr] [.expr] (fun x=>c x.1) fun x=>(x.1,())
noncomputable def EV (c:ze→Bool):ba:=Ll.add 200 (FR c)
theorem sk {c:ze→Bool} (hg:FK 200 (FR c)):zm (EV c):=sA.add hg
abbrev XH:Nat→zS:=fun j=>if j=3 then { slots:=[1,2,10,11] } else { }
abbrev El (i10:Int) (i11:Int) (ja0:zn) (ja1:Int) (ja2:Int) (ja3:zn) (ja4:zn) (lh_2:List (Sem Sh.expr)):St:={
 tmps:=
  (tm 26 [(1,AV.ptr 0 0),(2,AV.ptr 1 0),(10,AV.int .i64 i10),(11,AV.int .i64 i11)]),
 heap:=
  [AO.box [AV.str ja0,AV.int .i64 ja1,AV.int .i64 ja2,AV.str ja3,AV.str ja4,AV.vec 2],
   AO.box [AV.str [],AV.int .i64 0,AV.int .i64 0,AV.str [],AV.str [],AV.nils],AO.vec Sh.expr lh_2] }
theorem Cz (c:ze→Bool):zz (EV c).P 200 Tryz.f200 1:=aG (by kernel_rfl)
theorem zat (c:ze→Bool) (op:zn) (v:V) (s:zn) (l:List ze):rn (EV c) 0 XH Tryz.f200 [zy Sh.expr (ze.mk op v s l)] []=
 Tr.chk (decide (l.length≤1073741824)) (Tr.ok (zp.head 3 (zx Tryz.f200 3) (El (↑l.length:Int) 0 op v.1 v.2.1 v.2.2 s l))):=by kernel_rfl
theorem Iw (c:ze→Bool) (i10:Int) (i11:Int) (ja0:zn) (ja1:Int) (ja2:Int) (ja3:zn) (ja4:zn) (lh_2:List (Sem Sh.expr)):rh (EV c) 0 XH Tryz.f200 3 (El i10 i11 ja0 ja1 ja2 ja3 ja4 lh_2)=
 Tr.br (decide (i11 < i10))
 (Tr.chk (zH i11 lh_2.length)
  (Tr.chk (decide (i11.toNat < lh_2.length))
   (Tr.chk (c (zC (lh_2.getD i11.toNat (zj Sh.expr))))
    (Tr.chk (zH i11 lh_2.length)
     (Tr.chk (decide (i11.toNat < lh_2.length))
      (Tr.ok
       (zp.head 3 (zx Tryz.f200 3)
        (El i10 (IntKind.i64.wrap (i11+1)) ja0 ja1 ja2 ja3 ja4
         (lh_2.set i11.toNat
          (zC (lh_2.getD i11.toNat (zj Sh.expr))))))))))))
 (Tr.ok
  (zp.ret (AV.agg [AV.str ja0,AV.int .i64 ja1,AV.int .i64 ja2,AV.str ja3,AV.str ja4,AV.vec 0]) [AO.vec Sh.expr lh_2])):=by kernel_rfl

theorem ZS {c:ze→Bool} (hg:FK 200 (FR c)) {C:bW} (hC:∀ id,C.ρ0 id=none) (op:zn) (v:V) (s:zn) (l:List ze) (hl:l.length≤1073741824) (hcl:l.all c=true):
  ∀ (k i:Nat),l.length - i=k→i≤l.length→Reach (EV c) C 200 (zx Tryz.f200 3) (El l.length i op v.1 v.2.1 v.2.2 s l) (fun r h=>zX h [.expr] r=some (ze.mk op v s l,())):=by
 intro k
 induction k with
 | zero=>
  intro i hk hi
  obtain rfl:i=l.length:=by omega
  refine zk (n0:=0) (sk hg) (Cz c) (fun id _=>hC id) (Iw c _ _ _ _ _ _ _ _) ?_
  simp only [ap,Tr.val_brF]
  rfl
 | succ k IH=>
  intro i hk hi
  have hlt:i < l.length:=by omega
  refine zk (n0:=0) (sk hg) (Cz c) (fun id _=>hC id) (Iw c _ _ _ _ _ _ _ _) ?_
  have h1:c l[i]=true:=cH.1 hcl _ (cI hlt)
  have h2:decide ((i:Int).toNat < l.length)=true:=by simpa using hlt
  have h3:l.set (i:Int).toNat l[i]=l:=by simp
  simp only [aH hlt,zN hlt,ag l _ hlt,ze.eta,Tr.val_brT,Tr.val_chkT,h1,h2,h3,zG i (by unfold zD; omega)]
  exact IH (i+1) (by omega) (by omega)

def nD:Nat→ze→Bool
 | 0,_=>false
 | n+1,.mk _ _ _ l=>decide (l.length≤1073741824)&&l.all (nD n)

theorem BH:∀ n,FK 200 (FR (nD n))
 | 0=>cO ⟨Tryz.f200,(Cz (fun _=>false)).1,(Cz (fun _=>false)).2.1,(Cz (fun _=>false)).2.2.1⟩ (fun _=>rfl)
 | n+1=>by
  refine zL (E:=EV (nD n)) (Cz _) fun x hc C hC=>?_
  obtain ⟨⟨op,v,s,l⟩,u⟩:=x
  have hc:(decide (l.length≤1073741824)&&l.all (nD n))=true:=hc
  simp only [aC,ae] at hc
  refine zk (n0:=0) (sk (BH n)) (Cz _) (fun id _=>hC id) (zat _ op v s l) ?_
  refine cu (by simpa using hc.1) ?_
  exact ZS (BH n) hC op v s l hc.1 hc.2 _ 0 rfl (aZ _)
def F33:zB:=FR (nD 16)
theorem UF:FK 200 F33:=BH 16
noncomputable def gw:=Ll.add 200 F33
theorem eG:zm gw:=sA.add UF
open Go

def nd:(ks:List Sh)→zw (ks.map some++[none])→zw (ks.map some)×AV
 | [],x=>((),x.1)
 | _::ks,x=>((x.1,(nd ks x.2).1),(nd ks x.2).2)

theorem rL:∀ (ks:List Sh) (x:zw (ks.map some++[none])),fm (ks.map some++[none]) x=fm (ks.map some) (nd ks x).1++[(nd ks x).2]
 | [],_=>rfl
 | s::ks,x=>congrArg (zy s x.1 :: ·) (rL ks x.2)

def Hv (k:Nat):AV→Bool
 | .clo (.func j) [] []=>j==k
 | _=>false

theorem Hw {k:Nat} {v:AV} (h:Hv k v=true):v=.clo (.func k) [] []:=by
 unfold Hv at h
 split at h
 ·rw [ee] at h; rw [h]
 ·cases h

abbrev FQ (ks outs:List Sh):=Nat×(zw (ks.map some)→Bool)×(zw (ks.map some)→zw (outs.map some))

def KM {ks outs:List Sh} (v:AV):List (FQ ks outs)→Option ((zw (ks.map some)→Bool)×(zw (ks.map some)→zw (outs.map some)))
 | []=>none
 | (k,a)::r=>if Hv k v then some a else KM v r

theorem y2 {ks outs:List Sh} {v:AV} {a}:∀ {l:List (FQ ks outs)},KM v l=some a→∃ k,v=.clo (.func k) [] []∧(k,a)∈l
 | [],h=>by cases h
 | (k,b)::r,h=>by
  unfold KM at h
  split at h
  ·rename_i hk
   cases h
   exact ⟨k,Hw hk,List.mem_cons_self ..⟩
  ·obtain ⟨j,h1,h2⟩:=y2 h
   exact ⟨j,h1,kF _ h2⟩

def D4 (ks outs:List Sh) (l:List (FQ ks outs)):b7 (ks.map some++[none]):=fun x h=>match h with
 | []=>match KM (nd ks x).2 l with
  | some (c,g)=>.chk (c (nd ks x).1) (.ok (qo outs (g (nd ks x).1),[]))
  | none=>.err
 | _=>.err

def tI (ks outs:List Sh) (l:List (FQ ks outs)):zB:=zP (ks.map some++[none]) (D4 ks outs l)

theorem jD {P:Program} {gl:Nat→AV} {E:ba} {k:FuncId} {f:Func} {ks outs:List Sh} {l:List (FQ ks outs)} (hf:zz E.P k f (ks.length+1))
  (h:∀ j c g,(j,c,g)∈l→∀ x,c x=true→∀ C:bW,(∀ id,C.ρ0 id=none)→Reach E C k (ah f) (zU f.ntmps (fm (ks.map some) x++[.clo (.func j) [] []]) []) (fun r h=>zX h outs r=some (g x))) (qp:E.P=P:=by rfl) (qg:E.gl=gl:=by rfl):kx P gl k (tI ks outs l):=by
 subst qp qg
 refine bb (by simpa using hf) fun x h0 res hx C hC=>?_
 unfold D4 at hx
 split at hx
 ·split at hx
  ·rename_i c g hal
   obtain ⟨j,hv,hm⟩:=y2 hal
   simp only [Tr.val] at hx
   split at hx
   ·rename_i hc
    simp only [zZ] at hx
    subst hx
    rw [rL,hv]
    exact Reach.plain (fun id=>hC id (by simp)) (h j c g hm _ hc C (fun id=>hC id (by simp)))
   ·simp at hx
  ·simp at hx
 ·simp at hx

set_option maxHeartbeats 4000000
abbrev bu:Sh:=.pr .str .str
abbrev aF:Sh:=.pr .str .expr
abbrev zq:Sh:=.pr .str (.pr .str (.pr .str (.pr (.sl .str) (.pr (.sl zi) (.pr .str (.pr (.sl .str) (.pr (.sl bu) (.pr .expr (.pr (.sl zf) (.pr (.sl aF) (.pr .expr .str)))))))))))
def uK (x:Sem zq):Sem zq:=(x.1,x.2.1,x.2.2.1,x.2.2.2.1,x.2.2.2.2.1,x.2.2.2.2.2.1,x.2.2.2.2.2.2.1,x.2.2.2.2.2.2.2.1,zC x.2.2.2.2.2.2.2.2.1,x.2.2.2.2.2.2.2.2.2.1,x.2.2.2.2.2.2.2.2.2.2.1,zC x.2.2.2.2.2.2.2.2.2.2.2.1,x.2.2.2.2.2.2.2.2.2.2.2.2)
theorem Dx (x:Sem zq):uK x=x:=by unfold uK; rw [zt,zt]

abbrev N1:Nat→zS:=fun j=>if j=2 then { slots:=[0,2,4] } else { }
abbrev t7 (s0:TS) (i4:Int) (ja0:Int) (ja1:List UInt8):St:={ tmps:=(tm 37 [(0,AV.str s0),(2,AV.ptr 0 0),(4,ai i4)]),heap:=[AO.box [ai ja0,AV.str ja1]] }
theorem Id:zz (gw).P 235 Tryz.f235 1:=aG (by kernel_rfl)
theorem WE (x0:TS):rn gw 0 N1 Tryz.f235 [zy Sh.str x0] []=Tr.ok (zp.head 2 (zx Tryz.f235 2) (t7 x0 1 0 [])):=by kernel_rfl
theorem LW (s0:TS) (i4:Int) (ja0:Int) (ja1:List UInt8):rh gw 0 N1 Tryz.f235 2 (t7 s0 i4 ja0 ja1)=Tr.br (decide (i4 < (↑(length s0):Int))) (Tr.chk (zH i4 (length s0)) (Tr.br ((↑(getD s0 i4.toNat 0).toNat:Int) != 39) (Tr.ok (zp.head 2 (zx Tryz.f235 2) (t7 s0 (IntKind.i64.wrap (i4+1)) ja0 ja1))) (Tr.chk (bif decide (IntKind.i64.wrap (i4+1) < (↑(length s0):Int)) then zH (IntKind.i64.wrap (i4+1)) (length s0) else true) (Tr.br (bif decide (IntKind.i64.wrap (i4+1) < (↑(length s0):Int)) then (↑(getD s0 (IntKind.i64.wrap (i4+1)).toNat 0).toNat:Int)==39 else false) (Tr.ok (zp.head 2 (zx Tryz.f235 2) (t7 s0 (IntKind.i64.wrap (IntKind.i64.wrap (i4+1)+1)) ja0 ja1))) (Tr.chk (decide (0≤1)&&decide (1≤i4)&&decide (i4≤(↑(length s0):Int))) (Tr.chk (oh (List.take (i4.toNat - toNat 1) (List.drop (toNat 1) s0)) [39,39] [39]) (Tr.ok (zp.ret (AV.tup [AV.agg [ai 3,AV.str (Lib.replaceAll (List.take (i4.toNat - toNat 1) (List.drop (toNat 1) s0)) [39,39] [39])],ai (IntKind.i64.wrap (i4+1))]) [])))))))) (Tr.ok (zp.ret (AV.tup [AV.agg [ai 0,AV.str []],ai 0]) [])):=by kernel_rfl
def de:Nat→(Sem Sh.str)→Int→Int→(List UInt8)→Sem dI×Sem zg
 | 0,_,_,_,_=>default
 | n+1,s0,i4,ja0,ja1=>(if decide (i4 < (↑(length s0):Int))=true then
 if ((↑(getD s0 i4.toNat 0).toNat:Int) != 39)=true then de n s0 (IntKind.i64.wrap (i4+1)) ja0 ja1
 else
  if
    (bif decide (IntKind.i64.wrap (i4+1) < (↑(length s0):Int)) then (↑(getD s0 (IntKind.i64.wrap (i4+1)).toNat 0).toNat:Int)==39
     else false)=
     true then
   de n s0 (IntKind.i64.wrap (IntKind.i64.wrap (i4+1)+1)) ja0 ja1
  else ((3,Lib.replaceAll (List.take (i4.toNat - toNat 1) (List.drop (toNat 1) s0)) [39,39] [39]),IntKind.i64.wrap (i4+1))
else ((0,[]),0))
def fE:Nat→(Sem Sh.str)→Int→Int→(List UInt8)→Bool
 | 0,_,_,_,_=>false
 | n+1,s0,i4,ja0,ja1=>(if decide (i4 < (↑(length s0):Int))=true then
 if zH i4 (length s0)=true then
  if ((↑(getD s0 i4.toNat 0).toNat:Int) != 39)=true then fE n s0 (IntKind.i64.wrap (i4+1)) ja0 ja1
  else
   if (bif decide (IntKind.i64.wrap (i4+1) < (↑(length s0):Int)) then zH (IntKind.i64.wrap (i4+1)) (length s0) else true)=true then
    if
      (bif decide (IntKind.i64.wrap (i4+1) < (↑(length s0):Int)) then (↑(getD s0 (IntKind.i64.wrap (i4+1)).toNat 0).toNat:Int)==39
       else false)=
       true then
     fE n s0 (IntKind.i64.wrap (IntKind.i64.wrap (i4+1)+1)) ja0 ja1
    else
     if (decide (0≤1)&&decide (1≤i4)&&decide (i4≤(↑(length s0):Int)))=true then
      if oh (List.take (i4.toNat - toNat 1) (List.drop (toNat 1) s0)) [39,39] [39]=true then true else false
     else false
   else false
 else false
else true)
theorem Df {C:bW} (hC:∀ id,C.ρ0 id=none):∀ (n:Nat) (s0:TS) (i4:Int) (ja0:Int) (ja1:List UInt8),fE n s0 i4 ja0 ja1=true→
  Reach (gw) C 235 (zx Tryz.f235 2) (t7 s0 i4 ja0 ja1) (fun r h=>zX h [dI,zg] r=some ((de n s0 i4 ja0 ja1).1,(de n s0 i4 ja0 ja1).2,()))
 | 0,s0,i4,ja0,ja1,hc=>by cases hc
 | n+1,s0,i4,ja0,ja1,hc=>by
  refine zk eG (Id) (fun id _=>hC id) (LW _ _ _ _) ?_
  rw [fE] at hc
  generalize hy:de (n+1) s0 i4 ja0 ja1=y
  rw [de] at hy
  try simp only [ze.eta,zt]
  repeat' (first | with_reducible refine ea hy hc (fun _ hy hc=>?_) (fun _ hy hc=>?_) | with_reducible refine aM hy (fun _ hy=>?_) (fun _ hy=>?_) | with_reducible refine aX hc (fun hc=>?_) | with_reducible refine zo ?_)
  all_goals first | (cases hc; done) | (subst hy; first | (change Reach _ _ _ _ _ _; refine Df hC n _ _ _ _ ?_ <;> exact hc) | rfl)
def cE (x0:TS):Sem dI×Sem zg:=(de (length x0+1) x0 1 0 [])
def gJ (x0:TS):Bool:=(fE (length x0+1) x0 1 0 [])
def Te:zB:=zA [Sh.str] [dI,zg] (fun x=>gJ x.1) fun x=>((cE x.1).1,(cE x.1).2,())
theorem OW:FK 235 Te:=by
 refine zL (Id) fun x hc C hC=>?_
 unfold gJ at hc
 refine zk eG (Id) (fun id _=>hC id) (WE x.1) ?_
 generalize hy:cE x.1=y
 unfold cE at hy
 try simp only [ze.eta,zt]
 repeat' (first | with_reducible refine ea hy hc (fun _ hy hc=>?_) (fun _ hy hc=>?_) | with_reducible refine aM hy (fun _ hy=>?_) (fun _ hy=>?_) | with_reducible refine aX hc (fun hc=>?_) | with_reducible refine zo ?_)
 all_goals first | (cases hc; done) | (subst hy; first | (change Reach _ _ _ _ _ _; refine Df hC _ _ _ _ _ ?_ <;> exact hc) | rfl)

abbrev XB:Nat→zS:=fun _=>{ }
theorem Od:zz (gw).P 218 Tryz.f218 1:=aG (by kernel_rfl)
theorem WA (x0:Sem Sh.expr):rn gw 0 XB Tryz.f218 [zy Sh.expr x0] []=Tr.ok (zp.ret (AV.bool (bif ze.op x0==[] then bif (ze.v x0).1==0&&((ze.v x0).2.1==0&&((ze.v x0).2.2==[]&&true)) then bif ze.s x0==[] then (↑(ze.l x0).length:Int)==0 else false else false else false)) []):=by kernel_rfl
def hD (x0:Sem Sh.expr):Sem Sh.bool:=(bif ze.op x0==[] then bif (ze.v x0).1==0&&((ze.v x0).2.1==0&&((ze.v x0).2.2==[]&&true)) then bif ze.s x0==[] then (↑(ze.l x0).length:Int)==0 else false else false else false)
def S4:zB:=zW [Sh.expr] [Sh.bool] fun x=>(hD x.1,())
theorem OM:FK 218 S4:=by
 refine zO (Od) fun x C hC=>?_
 refine zk eG (Od) (fun id _=>hC id) (WA x.1) ?_
 generalize hy:hD x.1=y
 unfold hD at hy
 try simp only [ze.eta,zt]
 repeat' (first | with_reducible refine aM hy (fun _ hy=>?_) (fun _ hy=>?_) | with_reducible refine zo ?_)
 all_goals first | (cases hc; done) | (subst hy; first | rfl)

abbrev XC:Nat→zS:=fun _=>{ }
theorem Oe:zz (gw).P 228 Tryz.f228 1:=aG (by kernel_rfl)
theorem WC (x0:Sem zi):rn gw 0 XC Tryz.f228 [zy zi x0] []=Tr.br x0.2.2 (Tr.chk (decide (length x0.1+[32].length≤1099511627776)&&(zH (IntKind.i64.wrap (x0.2.1 - 1)) 3&&bif IntKind.i64.wrap (x0.2.1 - 1)==(↑0:Int) then decide (length (x0.1++[32])+[73,78,84].length≤1099511627776)&&decide (length (x0.1++[32]++[73,78,84])+[32,78,79,84,32,78,85,76,76].length≤1099511627776) else bif IntKind.i64.wrap (x0.2.1 - 1)==(↑(0+1):Int) then decide (length (x0.1++[32])+[84,69,88,84].length≤1099511627776)&&decide (length (x0.1++[32]++[84,69,88,84])+[32,78,79,84,32,78,85,76,76].length≤1099511627776) else decide (length (x0.1++[32])+[66,79,79,76].length≤1099511627776)&&decide (length (x0.1++[32]++[66,79,79,76])+[32,78,79,84,32,78,85,76,76].length≤1099511627776))) (Tr.ok (zp.ret (AV.str (bif IntKind.i64.wrap (x0.2.1 - 1)==(↑0:Int) then x0.1++[32]++[73,78,84]++[32,78,79,84,32,78,85,76,76] else bif IntKind.i64.wrap (x0.2.1 - 1)==(↑(0+1):Int) then x0.1++[32]++[84,69,88,84]++[32,78,79,84,32,78,85,76,76] else x0.1++[32]++[66,79,79,76]++[32,78,79,84,32,78,85,76,76])) []))) (Tr.chk (decide (length x0.1+[32].length≤1099511627776)&&(zH (IntKind.i64.wrap (x0.2.1 - 1)) 3&&
 bif IntKind.i64.wrap (x0.2.1 - 1)==(↑0:Int) then decide (length (x0.1++[32])+[73,78,84].length≤1099511627776) else bif IntKind.i64.wrap (x0.2.1 - 1)==(↑(0+1):Int) then decide (length (x0.1++[32])+[84,69,88,84].length≤1099511627776) else decide (length (x0.1++[32])+[66,79,79,76].length≤1099511627776))) (Tr.ok (zp.ret (AV.str (bif IntKind.i64.wrap (x0.2.1 - 1)==(↑0:Int) then x0.1++[32]++[73,78,84] else bif IntKind.i64.wrap (x0.2.1 - 1)==(↑(0+1):Int) then x0.1++[32]++[84,69,88,84] else x0.1++[32]++[66,79,79,76])) []))):=by kernel_rfl
def c7 (x0:Sem zi):Sem Sh.str:=(if x0.2.2=true then bif IntKind.i64.wrap (x0.2.1 - 1)==(↑0:Int) then x0.1++[32]++[73,78,84]++[32,78,79,84,32,78,85,76,76] else bif IntKind.i64.wrap (x0.2.1 - 1)==(↑(0+1):Int) then x0.1++[32]++[84,69,88,84]++[32,78,79,84,32,78,85,76,76] else x0.1++[32]++[66,79,79,76]++[32,78,79,84,32,78,85,76,76] else bif IntKind.i64.wrap (x0.2.1 - 1)==(↑0:Int) then x0.1++[32]++[73,78,84] else bif IntKind.i64.wrap (x0.2.1 - 1)==(↑(0+1):Int) then x0.1++[32]++[84,69,88,84] else x0.1++[32]++[66,79,79,76])
def fN (x0:Sem zi):Bool:=(if x0.2.2=true then if (decide (length x0.1+[32].length≤1099511627776)&&(zH (IntKind.i64.wrap (x0.2.1 - 1)) 3&&bif IntKind.i64.wrap (x0.2.1 - 1)==(↑0:Int) then decide (length (x0.1++[32])+[73,78,84].length≤1099511627776)&&decide (length (x0.1++[32]++[73,78,84])+[32,78,79,84,32,78,85,76,76].length≤1099511627776) else bif IntKind.i64.wrap (x0.2.1 - 1)==(↑(0+1):Int) then decide (length (x0.1++[32])+[84,69,88,84].length≤1099511627776)&&decide (length (x0.1++[32]++[84,69,88,84])+[32,78,79,84,32,78,85,76,76].length≤1099511627776) else decide (length (x0.1++[32])+[66,79,79,76].length≤1099511627776)&&decide (length (x0.1++[32]++[66,79,79,76])+[32,78,79,84,32,78,85,76,76].length≤1099511627776)))=true then true else false else if (decide (length x0.1+[32].length≤1099511627776)&&(zH (IntKind.i64.wrap (x0.2.1 - 1)) 3&&bif IntKind.i64.wrap (x0.2.1 - 1)==(↑0:Int) then decide (length (x0.1++[32])+[73,78,84].length≤1099511627776) else bif IntKind.i64.wrap (x0.2.1 - 1)==(↑(0+1):Int) then decide (length (x0.1++[32])+[84,69,88,84].length≤1099511627776) else decide (length (x0.1++[32])+[66,79,79,76].length≤1099511627776)))=true then true else false)
def S9:zB:=zA [zi] [Sh.str] (fun x=>fN x.1) fun x=>(c7 x.1,())
theorem OR:FK 228 S9:=by
 refine zL (Oe) fun x hc C hC=>?_
 unfold fN at hc
 refine zk eG (Oe) (fun id _=>hC id) (WC x.1) ?_
 generalize hy:c7 x.1=y
 unfold c7 at hy
 try simp only [ze.eta,zt]
 repeat' (first | with_reducible refine ea hy hc (fun _ hy hc=>?_) (fun _ hy hc=>?_) | with_reducible refine aM hy (fun _ hy=>?_) (fun _ hy=>?_) | with_reducible refine aX hc (fun hc=>?_) | with_reducible refine zo ?_)
 all_goals first | (cases hc; done) | (subst hy; first | rfl)

abbrev zbK:Nat→zS:=fun _=>{ }
theorem YT:zz (gw).P 157 Tryz.f157 1:=aG (by kernel_rfl)
theorem za3 (x0:TS):rn gw 0 zbK Tryz.f157 [zy Sh.str x0] []=Tr.ok (zp.ret (AV.str x0) []):=by kernel_rfl
def kr (x0:TS):Sem Sh.str:=(x0)
def F88:zB:=zW [Sh.str] [Sh.str] fun x=>(kr x.1,())
theorem Vx:FK 157 F88:=by
 refine zO (YT) fun x C hC=>?_
 refine zk eG (YT) (fun id _=>hC id) (za3 x.1) ?_
 generalize hy:kr x.1=y
 unfold kr at hy
 try simp only [ze.eta,zt]
 repeat' (first | with_reducible refine aM hy (fun _ hy=>?_) (fun _ hy=>?_) | with_reducible refine zo ?_)
 all_goals first | (cases hc; done) | (subst hy; first | rfl)

abbrev zbF:Nat→zS:=fun _=>{ }
theorem YN:zz (gw).P 149 Tryz.f149 1:=aG (by kernel_rfl)
theorem zaY (x0:TS):rn gw 0 zbF Tryz.f149 [zy Sh.str x0] []=Tr.ok (zp.ret (AV.bool (bif mI x0 then !Bj x0 else false)) []):=by kernel_rfl
def bF (x0:TS):Sem Sh.bool:=(bif mI x0 then !Bj x0 else false)
def F80:zB:=zW [Sh.str] [Sh.bool] fun x=>(bF x.1,())
theorem Vp:FK 149 F80:=by
 refine zO (YN) fun x C hC=>?_
 refine zk eG (YN) (fun id _=>hC id) (zaY x.1) ?_
 generalize hy:bF x.1=y
 unfold bF at hy
 try simp only [ze.eta,zt]
 repeat' (first | with_reducible refine aM hy (fun _ hy=>?_) (fun _ hy=>?_) | with_reducible refine zo ?_)
 all_goals first | (cases hc; done) | (subst hy; first | rfl)

abbrev XM:Nat→zS:=fun _=>{ unroll:=true }
theorem Oh:zz (gw).P 169 Tryz.f169 1:=aG (by kernel_rfl)
theorem WM (x0:Sem dI):rn gw 0 XM Tryz.f169 [zy dI x0] []=Tr.br (x0.1==3) (Tr.ok (zp.ret (AV.bool (gP (2,0,x0.2))) [])) (Tr.br (x0.1==4) (Tr.chk (bif (↑(length x0.2):Int)==1 then length x0.2==1 else true) (Tr.ok (zp.ret (AV.bool (bif (↑(length x0.2):Int)==1 then decide (0≤Lib.indexByte [40,41,44,61,60,43,45,42] (List.headD x0.2 0)) else false)) []))) (Tr.br true (Tr.chk true (Tr.br (1==x0.1) (Tr.ok (zp.ret (AV.bool (bif decide ((↑(length x0.2):Int) ≥ 1) then bif decide ((↑(length x0.2):Int)≤16) then (↑(aA aS cJ x0.2):Int)==(↑(length x0.2):Int) else false else false)) [])) (Tr.br true (Tr.chk true (Tr.br (2==x0.1) (Tr.ok (zp.ret (AV.bool (bif decide ((↑(length x0.2):Int) ≥ 1) then bif decide ((↑(length x0.2):Int)≤19) then (↑(aA zT zT x0.2):Int)==(↑(length x0.2):Int) else false else false)) [])) (Tr.br false Tr.err (Tr.ok (zp.ret (AV.kb false) []))))) (Tr.ok (zp.ret (AV.kb false) []))))) (Tr.ok (zp.ret (AV.kb false) [])))):=by kernel_rfl
def gp (x0:Sem dI):Sem Sh.bool:=(if (x0.1==3)=true then gP (2,0,x0.2) else if (x0.1==4)=true then bif (↑(length x0.2):Int)==1 then decide (0≤Lib.indexByte [40,41,44,61,60,43,45,42] (List.headD x0.2 0)) else false else if true=true then if (1==x0.1)=true then bif decide ((↑(length x0.2):Int) ≥ 1) then bif decide ((↑(length x0.2):Int)≤16) then (↑(aA aS cJ x0.2):Int)==(↑(length x0.2):Int) else false else false else if true=true then if (2==x0.1)=true then bif decide ((↑(length x0.2):Int) ≥ 1) then bif decide ((↑(length x0.2):Int)≤19) then (↑(aA zT zT x0.2):Int)==(↑(length x0.2):Int) else false else false else if false=true then default else false else false else false)
def ma (x0:Sem dI):Bool:=(if (x0.1==3)=true then true else if (x0.1==4)=true then if (bif (↑(length x0.2):Int)==1 then length x0.2==1 else true)=true then true else false else if true=true then if true=true then if (1==x0.1)=true then true else if true=true then if true=true then if (2==x0.1)=true then true else if false=true then false else true else false else true else false else true)
def TU:zB:=zA [dI] [Sh.bool] (fun x=>ma x.1) fun x=>(gp x.1,())
theorem PD:FK 169 TU:=by
 refine zL (Oh) fun x hc C hC=>?_
 unfold ma at hc
 refine zk eG (Oh) (fun id _=>hC id) (WM x.1) ?_
 generalize hy:gp x.1=y
 unfold gp at hy
 try simp only [ze.eta,zt]
 repeat' (first | with_reducible refine ea hy hc (fun _ hy hc=>?_) (fun _ hy hc=>?_) | with_reducible refine aM hy (fun _ hy=>?_) (fun _ hy=>?_) | with_reducible refine aX hc (fun hc=>?_) | with_reducible refine zo ?_)
 all_goals first | (cases hc; done) | (subst hy; first | rfl)

noncomputable def c5:=gw.addL [(235,Te),(218,S4),(228,S9),(157,F88),(149,F80),(169,TU)]
theorem bO:zm c5:=eG.addL <| fc OW <| fc OM <| fc OR <| fc Vx <| fc Vp <| fc PD gX

abbrev zbI:Nat→zS:=fun _=>{ }
theorem YR:zz (c5).P 154 Tryz.f154 1:=aG (by kernel_rfl)
theorem za1 (x0:Sem Sh.expr):rn c5 0 zbI Tryz.f154 [zy Sh.expr x0] []=Tr.ok (zp.ret (AV.bool (bif hD (zC x0) then true else iL (zC x0))) []):=by kernel_rfl
def mR (x0:Sem Sh.expr):Sem Sh.bool:=(bif hD x0 then true else iL x0)
def F85:zB:=zW [Sh.expr] [Sh.bool] fun x=>(mR x.1,())
theorem Vu:FK 154 F85:=by
 refine zO (YR) fun x C hC=>?_
 refine zk bO (YR) (fun id _=>hC id) (za1 x.1) ?_
 generalize hy:mR x.1=y
 unfold mR at hy
 try simp only [ze.eta]
 repeat' (first | with_reducible refine aM hy (fun _ hy=>?_) (fun _ hy=>?_) | with_reducible refine zo ?_)
 all_goals first | (cases hc; done) | (subst hy; first | rfl)

abbrev Xz:Nat→zS:=fun _=>{ }
theorem Ob:zz (c5).P 210 Tryz.f210 1:=aG (by kernel_rfl)
theorem Wy (x0:Sem zi):rn c5 0 Xz Tryz.f210 [zy zi x0] []=Tr.ok (zp.ret (AV.bool (bif bF x0.1 then bif decide (x0.2.1 ≥ 1) then decide (x0.2.1≤3) else false else false)) []):=by kernel_rfl
def iv (x0:Sem zi):Sem Sh.bool:=(bif bF x0.1 then bif decide (x0.2.1 ≥ 1) then decide (x0.2.1≤3) else false else false)
def SV:zB:=zW [zi] [Sh.bool] fun x=>(iv x.1,())
theorem OD:FK 210 SV:=by
 refine zO (Ob) fun x C hC=>?_
 refine zk bO (Ob) (fun id _=>hC id) (Wy x.1) ?_
 generalize hy:iv x.1=y
 unfold iv at hy
 try simp only [ze.eta,zt]
 repeat' (first | with_reducible refine aM hy (fun _ hy=>?_) (fun _ hy=>?_) | with_reducible refine zo ?_)
 all_goals first | (cases hc; done) | (subst hy; first | rfl)

abbrev XA:Nat→zS:=fun _=>{ }
theorem Oc:zz (c5).P 211 Tryz.f211 1:=aG (by kernel_rfl)
theorem Wz (x0:Sem bu):rn c5 0 XA Tryz.f211 [zy bu x0] []=Tr.ok (zp.ret (AV.bool (bif bF x0.1 then bF x0.2 else false)) []):=by kernel_rfl
def qn (x0:Sem bu):Sem Sh.bool:=(bif bF x0.1 then bF x0.2 else false)
def SW:zB:=zW [bu] [Sh.bool] fun x=>(qn x.1,())
theorem OE:FK 211 SW:=by
 refine zO (Oc) fun x C hC=>?_
 refine zk bO (Oc) (fun id _=>hC id) (Wz x.1) ?_
 generalize hy:qn x.1=y
 unfold qn at hy
 try simp only [ze.eta,zt]
 repeat' (first | with_reducible refine aM hy (fun _ hy=>?_) (fun _ hy=>?_) | with_reducible refine zo ?_)
 all_goals first | (cases hc; done) | (subst hy; first | rfl)

abbrev zbH:Nat→zS:=fun _=>{ }
theorem YP:zz (c5).P 152 Tryz.f152 1:=aG (by kernel_rfl)
theorem za0 (x0:Sem aF):rn c5 0 zbH Tryz.f152 [zy aF x0] []=Tr.ok (zp.ret (AV.bool (bif bF x0.1 then iL (zC x0.2) else false)) []):=by kernel_rfl
def ui (x0:Sem aF):Sem Sh.bool:=(bif bF x0.1 then iL x0.2 else false)
def F83:zB:=zW [aF] [Sh.bool] fun x=>(ui x.1,())
theorem Vs:FK 152 F83:=by
 refine zO (YP) fun x C hC=>?_
 refine zk bO (YP) (fun id _=>hC id) (za0 x.1) ?_
 generalize hy:ui x.1=y
 unfold ui at hy
 try simp only [ze.eta]
 repeat' (first | with_reducible refine aM hy (fun _ hy=>?_) (fun _ hy=>?_) | with_reducible refine zo ?_)
 all_goals first | (cases hc; done) | (subst hy; first | rfl)

abbrev zbM:Nat→zS:=fun _=>{ }
theorem YV:zz (c5).P 161 Tryz.f161 1:=aG (by kernel_rfl)
theorem za6 (x0:Sem zf):rn c5 0 zbM Tryz.f161 [zy zf x0] []=Tr.br (!gP x0) (Tr.ok (zp.ret (AV.str []) [])) (Tr.br (x0.1==1) (Tr.chk (10==10) (Tr.ok (zp.ret (AV.str (qe x0.2.1)) []))) (Tr.br (x0.1==2) (Tr.chk (oh x0.2.2 [39] [39,39]) (Tr.chk (decide ([39].length+(Lib.replaceAll x0.2.2 [39] [39,39]).length≤1099511627776)) (Tr.chk (decide (length ([39]++Lib.replaceAll x0.2.2 [39] [39,39])+[39].length≤1099511627776)) (Tr.ok (zp.ret (AV.str ([39]++Lib.replaceAll x0.2.2 [39] [39,39]++[39])) []))))) (Tr.br (x0.1==3) (Tr.br (dw x0==2) (Tr.ok (zp.ret (AV.str [84,82,85,69]) [])) (Tr.ok (zp.ret (AV.str [70,65,76,83,69]) []))) (Tr.ok (zp.ret (AV.str [78,85,76,76]) []))))):=by kernel_rfl
def gy (x0:Sem zf):Sem Sh.str:=(if (!gP x0)=true then [] else if (x0.1==1)=true then qe x0.2.1 else if (x0.1==2)=true then [39]++Lib.replaceAll x0.2.2 [39] [39,39]++[39] else if (x0.1==3)=true then if (dw x0==2)=true then [84,82,85,69] else [70,65,76,83,69] else [78,85,76,76])
def j5 (x0:Sem zf):Bool:=(if (!gP x0)=true then true else if (x0.1==1)=true then if (10==10)=true then true else false else if (x0.1==2)=true then if oh x0.2.2 [39] [39,39]=true then if decide ([39].length+(Lib.replaceAll x0.2.2 [39] [39,39]).length≤1099511627776)=true then if decide (length ([39]++Lib.replaceAll x0.2.2 [39] [39,39])+[39].length≤1099511627776)=true then true else false else false else false else true)
def F92:zB:=zA [zf] [Sh.str] (fun x=>j5 x.1) fun x=>(gy x.1,())
theorem VC:FK 161 F92:=by
 refine zL (YV) fun x hc C hC=>?_
 unfold j5 at hc
 refine zk bO (YV) (fun id _=>hC id) (za6 x.1) ?_
 generalize hy:gy x.1=y
 unfold gy at hy
 try simp only [ze.eta,zt]
 repeat' (first | with_reducible refine ea hy hc (fun _ hy hc=>?_) (fun _ hy hc=>?_) | with_reducible refine aM hy (fun _ hy=>?_) (fun _ hy=>?_) | with_reducible refine aX hc (fun hc=>?_) | with_reducible refine zo ?_)
 all_goals first | (cases hc; done) | (subst hy; first | rfl)

abbrev zbJ:Nat→zS:=fun _=>{ }
theorem YS:zz (c5).P 156 Tryz.f156 1:=aG (by kernel_rfl)
theorem za2 (x0:Sem zq):rn c5 0 zbJ Tryz.f156 [zy zq x0] []=Tr.chk (decide (length x0.2.1+length x0.2.2.1≤1099511627776)) (Tr.chk (decide (length (x0.2.1++x0.2.2.1)+length x0.2.2.2.2.2.1≤1099511627776)) (Tr.chk (decide (length (x0.2.1++x0.2.2.1++x0.2.2.2.2.2.1)+length x0.2.2.2.2.2.2.2.2.2.2.2.2≤1099511627776)) (Tr.ok (zp.ret (AV.bool (bif x0.2.1++x0.2.2.1++x0.2.2.2.2.2.1++x0.2.2.2.2.2.2.2.2.2.2.2.2==[] then bif IntKind.i64.wrap (IntKind.i64.wrap (IntKind.i64.wrap (IntKind.i64.wrap (IntKind.i64.wrap ((↑(length x0.2.2.2.1):Int)+(↑(length x0.2.2.2.2.1):Int))+(↑(length x0.2.2.2.2.2.2.1):Int))+(↑(length x0.2.2.2.2.2.2.2.1):Int))+(↑(length x0.2.2.2.2.2.2.2.2.2.1):Int))+(↑(length x0.2.2.2.2.2.2.2.2.2.2.1):Int))==0 then bif hD (zC x0.2.2.2.2.2.2.2.2.1) then hD (zC x0.2.2.2.2.2.2.2.2.2.2.2.1) else false else false else false)) [])))):=by kernel_rfl
def ey (x0:Sem zq):Sem Sh.bool:=(bif x0.2.1++x0.2.2.1++x0.2.2.2.2.2.1++x0.2.2.2.2.2.2.2.2.2.2.2.2==[] then bif IntKind.i64.wrap (IntKind.i64.wrap (IntKind.i64.wrap (IntKind.i64.wrap (IntKind.i64.wrap ((↑(length x0.2.2.2.1):Int)+(↑(length x0.2.2.2.2.1):Int))+(↑(length x0.2.2.2.2.2.2.1):Int))+(↑(length x0.2.2.2.2.2.2.2.1):Int))+(↑(length x0.2.2.2.2.2.2.2.2.2.1):Int))+(↑(length x0.2.2.2.2.2.2.2.2.2.2.1):Int))==0 then bif hD x0.2.2.2.2.2.2.2.2.1 then hD x0.2.2.2.2.2.2.2.2.2.2.2.1 else false else false else false)
def cN (x0:Sem zq):Bool:=(if decide (length x0.2.1+length x0.2.2.1≤1099511627776)=true then if decide (length (x0.2.1++x0.2.2.1)+length x0.2.2.2.2.2.1≤1099511627776)=true then if decide (length (x0.2.1++x0.2.2.1++x0.2.2.2.2.2.1)+length x0.2.2.2.2.2.2.2.2.2.2.2.2≤1099511627776)=true then true else false else false else false)
def F87:zB:=zA [zq] [Sh.bool] (fun x=>cN x.1) fun x=>(ey x.1,())
theorem Vw:FK 156 F87:=by
 refine zL (YS) fun x hc C hC=>?_
 unfold cN at hc
 refine zk bO (YS) (fun id _=>hC id) (za2 x.1) ?_
 generalize hy:ey x.1=y
 unfold ey at hy
 try simp only [ze.eta]
 repeat' (first | with_reducible refine ea hy hc (fun _ hy hc=>?_) (fun _ hy hc=>?_) | with_reducible refine aM hy (fun _ hy=>?_) (fun _ hy=>?_) | with_reducible refine aX hc (fun hc=>?_) | with_reducible refine zo ?_)
 all_goals first | (cases hc; done) | (subst hy; first | rfl)

abbrev zbR:Nat→zS:=fun _=>{ unroll:=true }
theorem Y0:zz (c5).P 168 Tryz.f168 1:=aG (by kernel_rfl)
theorem zbd (x0:TS):rn c5 0 zbR Tryz.f168 [zy Sh.str x0] []=Tr.br true (Tr.chk true (Tr.br (decide ((↑(aA aS cJ x0):Int) > 0)) (Tr.chk (decide (0≤0)&&decide (0≤(↑(aA aS cJ x0):Int))&&decide ((↑(aA aS cJ x0):Int)≤(↑(length x0):Int))) (Tr.ok (zp.ret (AV.tup [AV.agg [ai 1,AV.str (List.take ((↑(aA aS cJ x0):Int).toNat - toNat 0) (List.drop (toNat 0) x0))],ai (↑(aA aS cJ x0):Int)]) []))) (Tr.br true (Tr.chk true (Tr.br (decide ((↑(aA zT zT x0):Int) > 0)) (Tr.chk (decide (0≤0)&&decide (0≤(↑(aA zT zT x0):Int))&&decide ((↑(aA zT zT x0):Int)≤(↑(length x0):Int))) (Tr.ok (zp.ret (AV.tup [AV.agg [ai 2,AV.str (List.take ((↑(aA zT zT x0):Int).toNat - toNat 0) (List.drop (toNat 0) x0))],ai (↑(aA zT zT x0):Int)]) []))) (Tr.br false Tr.err (Tr.chk (zH 0 (length x0)) (Tr.br ((↑(getD x0 (toNat 0) 0).toNat:Int)==39) (Tr.chk (gJ x0) (Tr.ok (zp.ret (AV.tup [AV.agg [ai (cE x0).1.1,AV.str (cE x0).1.2],ai (cE x0).2]) []))) (Tr.chk (decide (0≤0)&&decide (0≤1)&&decide (1≤(↑(length x0):Int))) (Tr.ok (zp.ret (AV.tup
 [AV.agg [ai 4,AV.str (List.take (toNat 1 - toNat 0) (List.drop (toNat 0) x0))],ai 1]) [])))))))) (Tr.chk (zH 0 (length x0)) (Tr.br ((↑(getD x0 (toNat 0) 0).toNat:Int)==39) (Tr.chk (gJ x0) (Tr.ok (zp.ret (AV.tup [AV.agg [ai (cE x0).1.1,AV.str (cE x0).1.2],ai (cE x0).2]) []))) (Tr.chk (decide (0≤0)&&decide (0≤1)&&decide (1≤(↑(length x0):Int))) (Tr.ok (zp.ret (AV.tup [AV.agg [ai 4,AV.str (List.take (toNat 1 - toNat 0) (List.drop (toNat 0) x0))],ai 1]) [])))))))) (Tr.chk (zH 0 (length x0)) (Tr.br ((↑(getD x0 (toNat 0) 0).toNat:Int)==39) (Tr.chk (gJ x0) (Tr.ok (zp.ret (AV.tup [AV.agg [ai (cE x0).1.1,AV.str (cE x0).1.2],ai (cE x0).2]) []))) (Tr.chk (decide (0≤0)&&decide (0≤1)&&decide (1≤(↑(length x0):Int))) (Tr.ok (zp.ret (AV.tup [AV.agg [ai 4,AV.str (List.take (toNat 1 - toNat 0) (List.drop (toNat 0) x0))],ai 1]) []))))):=by kernel_rfl
def aP (x0:TS):Sem dI×Sem zg:=(if true=true then if decide ((↑(aA aS cJ x0):Int) > 0)=true then ((1,List.take ((↑(aA aS cJ x0):Int).toNat - toNat 0) (List.drop (toNat 0) x0)),(↑(aA aS cJ x0):Int)) else if true=true then if decide ((↑(aA zT zT x0):Int) > 0)=true then ((2,List.take ((↑(aA zT zT x0):Int).toNat - toNat 0) (List.drop (toNat 0) x0)),(↑(aA zT zT x0):Int)) else if false=true then default else if ((↑(getD x0 (toNat 0) 0).toNat:Int)==39)=true then ((cE x0).1,(cE x0).2) else ((4,List.take (toNat 1 - toNat 0) (List.drop (toNat 0) x0)),1) else if ((↑(getD x0 (toNat 0) 0).toNat:Int)==39)=true then ((cE x0).1,(cE x0).2) else ((4,List.take (toNat 1 - toNat 0) (List.drop (toNat 0) x0)),1) else if ((↑(getD x0 (toNat 0) 0).toNat:Int)==39)=true then ((cE x0).1,(cE x0).2) else ((4,List.take (toNat 1 - toNat 0) (List.drop (toNat 0) x0)),1))
def gZ (x0:TS):Bool:=(if true=true then if true=true then if decide ((↑(aA aS cJ x0):Int) > 0)=true then if (decide (0≤0)&&decide (0≤(↑(aA aS cJ x0):Int))&&decide ((↑(aA aS cJ x0):Int)≤(↑(length x0):Int)))=true then true else false else if true=true then if true=true then if decide ((↑(aA zT zT x0):Int) > 0)=true then if (decide (0≤0)&&decide (0≤(↑(aA zT zT x0):Int))&&decide ((↑(aA zT zT x0):Int)≤(↑(length x0):Int)))=true then true else false else if false=true then false else if zH 0 (length x0)=true then if ((↑(getD x0 (toNat 0) 0).toNat:Int)==39)=true then if gJ x0=true then true else false else if (decide (0≤0)&&decide (0≤1)&&decide (1≤(↑(length x0):Int)))=true then true else false else false else false else if zH 0 (length x0)=true then if ((↑(getD x0 (toNat 0) 0).toNat:Int)==39)=true then if gJ x0=true then true else false else if (decide (0≤0)&&decide (0≤1)&&decide (1≤(↑(length x0):Int)))=true then true else false else false else false else if zH 0 (length x0)=true then if ((↑(getD x0 (toNat 0) 0).toNat:Int)==39)=true then if gJ x0=true then true else false else if (decide (0≤0)&&decide (0≤1)&&decide (1≤(↑(length x0):Int)))=true then true else false else false)
def F99:zB:=zA [Sh.str] [dI,zg] (fun x=>gZ x.1) fun x=>((aP x.1).1,(aP x.1).2,())
theorem VJ:FK 168 F99:=by
 refine zL (Y0) fun x hc C hC=>?_
 unfold gZ at hc
 refine zk bO (Y0) (fun id _=>hC id) (zbd x.1) ?_
 generalize hy:aP x.1=y
 unfold aP at hy
 try simp only [ze.eta,zt]
 repeat' (first | with_reducible refine ea hy hc (fun _ hy hc=>?_) (fun _ hy hc=>?_) | with_reducible refine aM hy (fun _ hy=>?_) (fun _ hy=>?_) | with_reducible refine aX hc (fun hc=>?_) | with_reducible refine zo ?_)
 all_goals first | (cases hc; done) | (subst hy; first | rfl)

abbrev N0:Nat→zS:=fun j=>if j=3 then { slots:=[1,5,8,9,10],prom:=[(5,none,.str)] } else { }
abbrev tZ (l8:LC) (i9:Int) (i10:Int) (lh_0:LS):St:={ tmps:=(tm 23 [(1,AV.clo (Fn.func 228) [] []),(5,AV.vec 0),(8,AV.sl zi l8),(9,ai i9),(10,ai i10)]),heap:=[AO.vec Sh.str lh_0] }
theorem DL:zz (c5).P 227 Tryz.f227 2:=aG (by kernel_rfl)
theorem WB (x0:Sem zi.sl):rn c5 0 N0 Tryz.f227 [zy zi.sl x0,AV.clo (Fn.func 228) [] []] []=Tr.ok (zp.head 3 (zx Tryz.f227 3) (tZ x0 (↑(length x0):Int) 0 [])):=by kernel_rfl
theorem DV (l8:LC) (i9:Int) (i10:Int) (lh_0:LS):rh c5 0 N0 Tryz.f227 3 (tZ l8 i9 i10 lh_0)=Tr.br (decide (i10 < i9)) (Tr.chk (zH i10 l8.length) (Tr.chk (fN (l8.getD i10.toNat (zj zi))) (Tr.chk (decide (lh_0.length+[c7 (l8.getD i10.toNat (zj zi))].length≤1073741824)) (Tr.ok (zp.head 3 (zx Tryz.f227 3) (tZ l8 i9 (IntKind.i64.wrap (i10+1)) (lh_0++[c7 (l8.getD i10.toNat (zj zi))]))))))) (Tr.chk (decide (lh_0.length≤140737488355328)&&decide ((Lib.join lh_0 [32,44,32]).length≤140737488355328)) (Tr.ok (zp.ret (AV.str (Lib.join lh_0 [32,44,32])) []))):=by kernel_rfl
def ce:List (Sem zi)→Int→List (Sem Sh.str)→Sem Sh.str
 | [],_,lh_0=>(Lib.join lh_0 [32,44,32])
 | x::r,i10,lh_0=>(ce r (i10+1) (lh_0++[c7 x]))
def cw:List (Sem zi)→Int→List (Sem Sh.str)→Bool
 | [],_,lh_0=>(if (decide (lh_0.length≤140737488355328)&&decide ((Lib.join lh_0 [32,44,32]).length≤140737488355328))=true then true else false)
 | x::r,i10,lh_0=>(if fN x=true then if decide (lh_0.length+[c7 x].length≤1073741824)=true then cw r (i10+1) (lh_0++[c7 x]) else false
else false)
theorem KP {C:bW} (hC:∀ id,C.ρ0 id=none) (l8:LC) (hl:l8.length≤zD):∀ (m i:Nat) (lh_0:LS),l8.length - i=m→i≤l8.length→cw (l8.drop i) i lh_0=true→
  Reach (c5) C 227 (zx Tryz.f227 3) (tZ l8 (l8.length:Int) (i:Int) lh_0) (fun r h=>zX h [Sh.str] r=some (ce (l8.drop i) i lh_0,())):=by
 intro m
 induction m with
 | zero=>
  intro i lh_0 hm hi hc
  obtain rfl:i=l8.length:=by omega
  rw [cQ] at hc ⊢
  refine zk bO (DL) (fun id _=>hC id) (DV _ _ _ _) ?_
  rw [cw] at hc
  generalize hy:ce [] _ lh_0=y
  rw [ce] at hy
  simp only [ap,Tr.val_brF]
  repeat' (first | with_reducible refine ea hy hc (fun _ hy hc=>?_) (fun _ hy hc=>?_) | with_reducible refine aM hy (fun _ hy=>?_) (fun _ hy=>?_) | with_reducible refine aX hc (fun hc=>?_) | with_reducible refine zo ?_)
  all_goals first | (cases hc; done) | (subst hy; first | rfl)
 | succ m IH=>
  intro i lh_0 hm hi hc
  have hlt:i < l8.length:=by omega
  have IH:=IH (i+1)
  have hcast:((i:Int)+1)=((i+1:Nat):Int):=by omega
  have hwr:=zG i (by omega)
  rw [c6 hlt] at hc ⊢
  refine zk bO (DL) (fun id _=>hC id) (DV _ _ _ _) ?_
  rw [cw] at hc
  generalize hy:ce (l8[i]::l8.drop (i+1)) (i:Int) lh_0=y
  rw [ce] at hy
  simp only [aH hlt,zN hlt,ag l8 _ hlt,hwr,Tr.val_brT,Tr.val_chkT]
  clear hwr
  try simp only [zN hlt] at hy
  simp only [hcast] at hy
  try simp only [zN hlt] at hc
  try simp only [hcast] at hc
  repeat' (first | with_reducible refine ea hy hc (fun _ hy hc=>?_) (fun _ hy hc=>?_) | with_reducible refine aM hy (fun _ hy=>?_) (fun _ hy=>?_) | with_reducible refine aX hc (fun hc=>?_) | with_reducible refine zo ?_)
  all_goals first | (cases hc; done) | (subst hy; first | (change Reach _ _ _ _ _ _; apply IH <;> first | omega | assumption) | rfl)
theorem Gb {C:bW} (hC:∀ id,C.ρ0 id=none) (l8:LC) (lh_0:LS) (hc:cw l8 0 lh_0=true):
  Reach (c5) C 227 (zx Tryz.f227 3) (tZ l8 (l8.length:Int) 0 lh_0) (fun r h=>zX h [Sh.str] r=some (ce l8 0 lh_0,())):=
 Reach.len 8 (zi) l8 rfl fun hl=>KP hC l8 hl _ 0 lh_0 rfl (aZ _) hc
def cS (x0:Sem zi.sl):Sem Sh.str:=(ce x0 0 [])
def gR (x0:Sem zi.sl):Bool:=(cw x0 0 [])
def S8:zB:=tI [zi.sl] [Sh.str] [(228,(fun x=>gR x.1),fun x=>(cS x.1,()))]
theorem OQ:FK 227 S8:=by
 refine jD (DL) fun j c g hm x hc C hC=>?_
 simp only [bz,bp] at hm
 obtain ⟨rfl,rfl,rfl⟩:=hm
 replace hc:gR x.1=true:=hc
 unfold gR at hc
 refine zk bO (DL) (fun id _=>hC id) (WB x.1) ?_
 generalize hy:cS x.1=y
 unfold cS at hy
 repeat' (first | with_reducible refine ea hy hc (fun _ hy hc=>?_) (fun _ hy hc=>?_) | with_reducible refine aM hy (fun _ hy=>?_) (fun _ hy=>?_) | with_reducible refine aX hc (fun hc=>?_) | with_reducible refine zo ?_)
 all_goals first | (cases hc; done) | (subst hy; first | (change Reach _ _ _ _ _ _; apply Gb hC <;> first | assumption | exact hc) | rfl)

abbrev X1:Nat→zS:=fun j=>if j=3 then { slots:=[1,5,8,9,10],prom:=[(5,none,.str)] } else { }
abbrev Bs (l8:LS) (i9:Int) (i10:Int) (lh_0:LS):St:={ tmps:=(tm 23 [(1,AV.clo (Fn.func 157) [] []),(5,AV.vec 0),(8,AV.sl Sh.str l8),(9,ai i9),(10,ai i10)]),heap:=[AO.vec Sh.str lh_0] }
theorem LU:zz (c5).P 166 Tryz.f166 2:=aG (by kernel_rfl)
theorem zbb (x0:Sem Sh.str.sl):rn c5 0 X1 Tryz.f166 [zy Sh.str.sl x0,AV.clo (Fn.func 157) [] []] []=Tr.ok (zp.head 3 (zx Tryz.f166 3) (Bs x0 (↑(length x0):Int) 0 [])):=by kernel_rfl
theorem IF (l8:LS) (i9:Int) (i10:Int) (lh_0:LS):rh c5 0 X1 Tryz.f166 3 (Bs l8 i9 i10 lh_0)=Tr.br (decide (i10 < i9)) (Tr.chk (zH i10 l8.length) (Tr.chk (decide (lh_0.length+[kr (l8.getD i10.toNat (zj Sh.str))].length≤1073741824)) (Tr.ok (zp.head 3 (zx Tryz.f166 3) (Bs l8 i9 (IntKind.i64.wrap (i10+1)) (lh_0++[kr (l8.getD i10.toNat (zj Sh.str))])))))) (Tr.chk (decide (lh_0.length≤140737488355328)&&decide ((Lib.join lh_0 [32,44,32]).length≤140737488355328)) (Tr.ok (zp.ret (AV.str (Lib.join lh_0 [32,44,32])) []))):=by kernel_rfl
def cm:List (Sem Sh.str)→Int→List (Sem Sh.str)→Sem Sh.str
 | [],_,lh_0=>(Lib.join lh_0 [32,44,32])
 | x::r,i10,lh_0=>(cm r (i10+1) (lh_0++[kr x]))
def cB:List (Sem Sh.str)→Int→List (Sem Sh.str)→Bool
 | [],_,lh_0=>(if (decide (lh_0.length≤140737488355328)&&decide ((Lib.join lh_0 [32,44,32]).length≤140737488355328))=true then true else false)
 | x::r,i10,lh_0=>(if decide (lh_0.length+[kr x].length≤1073741824)=true then cB r (i10+1) (lh_0++[kr x]) else false)
theorem Qr {C:bW} (hC:∀ id,C.ρ0 id=none) (l8:LS) (hl:l8.length≤zD):∀ (m i:Nat) (lh_0:LS),l8.length - i=m→i≤l8.length→cB (l8.drop i) i lh_0=true→
  Reach (c5) C 166 (zx Tryz.f166 3) (Bs l8 (l8.length:Int) (i:Int) lh_0) (fun r h=>zX h [Sh.str] r=some (cm (l8.drop i) i lh_0,())):=by
 intro m
 induction m with
 | zero=>
  intro i lh_0 hm hi hc
  obtain rfl:i=l8.length:=by omega
  rw [cQ] at hc ⊢
  refine zk bO (LU) (fun id _=>hC id) (IF _ _ _ _) ?_
  rw [cB] at hc
  generalize hy:cm [] _ lh_0=y
  rw [cm] at hy
  simp only [ap,Tr.val_brF]
  repeat' (first | with_reducible refine ea hy hc (fun _ hy hc=>?_) (fun _ hy hc=>?_) | with_reducible refine aM hy (fun _ hy=>?_) (fun _ hy=>?_) | with_reducible refine aX hc (fun hc=>?_) | with_reducible refine zo ?_)
  all_goals first | (cases hc; done) | (subst hy; first | rfl)
 | succ m IH=>
  intro i lh_0 hm hi hc
  have hlt:i < l8.length:=by omega
  have IH:=IH (i+1)
  have hcast:((i:Int)+1)=((i+1:Nat):Int):=by omega
  have hwr:=zG i (by omega)
  rw [c6 hlt] at hc ⊢
  refine zk bO (LU) (fun id _=>hC id) (IF _ _ _ _) ?_
  rw [cB] at hc
  generalize hy:cm (l8[i]::l8.drop (i+1)) (i:Int) lh_0=y
  rw [cm] at hy
  simp only [aH hlt,zN hlt,ag l8 _ hlt,hwr,Tr.val_brT,Tr.val_chkT]
  clear hwr
  try simp only [zN hlt] at hy
  simp only [hcast] at hy
  try simp only [zN hlt] at hc
  try simp only [hcast] at hc
  repeat' (first | with_reducible refine ea hy hc (fun _ hy hc=>?_) (fun _ hy hc=>?_) | with_reducible refine aM hy (fun _ hy=>?_) (fun _ hy=>?_) | with_reducible refine aX hc (fun hc=>?_) | with_reducible refine zo ?_)
  all_goals first | (cases hc; done) | (subst hy; first | (change Reach _ _ _ _ _ _; apply IH <;> first | omega | assumption) | rfl)
theorem KX {C:bW} (hC:∀ id,C.ρ0 id=none) (l8:LS) (lh_0:LS) (hc:cB l8 0 lh_0=true):
  Reach (c5) C 166 (zx Tryz.f166 3) (Bs l8 (l8.length:Int) 0 lh_0) (fun r h=>zX h [Sh.str] r=some (cm l8 0 lh_0,())):=
 Reach.len 8 (Sh.str) l8 rfl fun hl=>Qr hC l8 hl _ 0 lh_0 rfl (aZ _) hc
def jw (x0:Sem Sh.str.sl):Sem Sh.str:=(cm x0 0 [])
def jx (x0:Sem Sh.str.sl):Bool:=(cB x0 0 [])
def F97:zB:=tI [Sh.str.sl] [Sh.str] [(157,(fun x=>jx x.1),fun x=>(jw x.1,()))]
theorem VH:FK 166 F97:=by
 refine jD (LU) fun j c g hm x hc C hC=>?_
 simp only [bz,bp] at hm
 obtain ⟨rfl,rfl,rfl⟩:=hm
 replace hc:jx x.1=true:=hc
 unfold jx at hc
 refine zk bO (LU) (fun id _=>hC id) (zbb x.1) ?_
 generalize hy:jw x.1=y
 unfold jw at hy
 repeat' (first | with_reducible refine ea hy hc (fun _ hy hc=>?_) (fun _ hy hc=>?_) | with_reducible refine aM hy (fun _ hy=>?_) (fun _ hy=>?_) | with_reducible refine aX hc (fun hc=>?_) | with_reducible refine zo ?_)
 all_goals first | (cases hc; done) | (subst hy; first | (change Reach _ _ _ _ _ _; apply KX hC <;> first | assumption | exact hc) | rfl)

noncomputable def jh:=c5.addL [(154,F85),(210,SV),(211,SW),(152,F83),(161,F92),(156,F87),(168,F99),(227,S8),(166,F97)]
theorem dj:zm jh:=bO.addL <| fc Vu <| fc OD <| fc OE <| fc Vs <| fc VC <| fc Vw <| fc VJ <| fc OQ <| fc VH gX
noncomputable section

def Th:zB:=zP (List.replicate 2 none) (bA jh Tryz.f253 (List.replicate 2 none))
theorem OZ:FK 253 Th:=zY _ dj (aG (by kernel_rfl))

def Tj:zB:=zP (List.replicate 2 none) (bA jh Tryz.f255 (List.replicate 2 none))
theorem O1:FK 255 Tj:=zY _ dj (aG (by kernel_rfl))

def S6:zB:=zP (List.replicate 2 none) (bA jh Tryz.f220 (List.replicate 2 none))
theorem OO:FK 220 S6:=zY _ dj (aG (by kernel_rfl))

def S1:zB:=zP (List.replicate 2 none) (bA jh Tryz.f215 (List.replicate 2 none))
theorem OJ:FK 215 S1:=zY _ dj (aG (by kernel_rfl))

def S3:zB:=zP (List.replicate 2 none) (bA jh Tryz.f217 (List.replicate 2 none))
theorem OL:FK 217 S3:=zY _ dj (aG (by kernel_rfl))

abbrev XZ:Nat→zS:=fun j=>if j=3 then { slots:=[1,5,8,9,10],prom:=[(5,none,.str)] } else { }
abbrev Bq (l8:LV) (i9:Int) (i10:Int) (lh_0:LS):St:={ tmps:=(tm 23 [(1,AV.clo (Fn.func 161) [] []),(5,AV.vec 0),(8,AV.sl zf l8),(9,ai i9),(10,ai i10)]),heap:=[AO.vec Sh.str lh_0] }
theorem LQ:zz (jh).P 160 Tryz.f160 2:=aG (by kernel_rfl)
theorem za5 (x0:Sem zf.sl):rn jh 0 XZ Tryz.f160 [zy zf.sl x0,AV.clo (Fn.func 161) [] []] []=Tr.ok (zp.head 3 (zx Tryz.f160 3) (Bq x0 (↑(length x0):Int) 0 [])):=by kernel_rfl
theorem IC (l8:LV) (i9:Int) (i10:Int) (lh_0:LS):rh jh 0 XZ Tryz.f160 3 (Bq l8 i9 i10 lh_0)=Tr.br (decide (i10 < i9)) (Tr.chk (zH i10 l8.length) (Tr.chk (j5 (l8.getD i10.toNat (zj zf))) (Tr.chk (decide (lh_0.length+[gy (l8.getD i10.toNat (zj zf))].length≤1073741824)) (Tr.ok (zp.head 3 (zx Tryz.f160 3) (Bq l8 i9 (IntKind.i64.wrap (i10+1)) (lh_0++[gy (l8.getD i10.toNat (zj zf))]))))))) (Tr.chk (decide (lh_0.length≤140737488355328)&&decide ((Lib.join lh_0 [32,44,32]).length≤140737488355328)) (Tr.ok (zp.ret (AV.str (Lib.join lh_0 [32,44,32])) []))):=by kernel_rfl
def cn:List (Sem zf)→Int→List (Sem Sh.str)→Sem Sh.str
 | [],_,lh_0=>(Lib.join lh_0 [32,44,32])
 | x::r,i10,lh_0=>(cn r (i10+1) (lh_0++[gy x]))
def cD:List (Sem zf)→Int→List (Sem Sh.str)→Bool
 | [],_,lh_0=>(if (decide (lh_0.length≤140737488355328)&&decide ((Lib.join lh_0 [32,44,32]).length≤140737488355328))=true then true else false)
 | x::r,i10,lh_0=>(if j5 x=true then if decide (lh_0.length+[gy x].length≤1073741824)=true then cD r (i10+1) (lh_0++[gy x]) else false else false)
theorem Qp {C:bW} (hC:∀ id,C.ρ0 id=none) (l8:LV) (hl:l8.length≤zD):∀ (m i:Nat) (lh_0:LS),l8.length - i=m→i≤l8.length→cD (l8.drop i) i lh_0=true→
  Reach (jh) C 160 (zx Tryz.f160 3) (Bq l8 (l8.length:Int) (i:Int) lh_0) (fun r h=>zX h [Sh.str] r=some (cn (l8.drop i) i lh_0,())):=by
 intro m
 induction m with
 | zero=>
  intro i lh_0 hm hi hc
  obtain rfl:i=l8.length:=by omega
  rw [cQ] at hc ⊢
  refine zk dj (LQ) (fun id _=>hC id) (IC _ _ _ _) ?_
  rw [cD] at hc
  generalize hy:cn [] _ lh_0=y
  rw [cn] at hy
  simp only [ap,Tr.val_brF]
  repeat' (first | with_reducible refine ea hy hc (fun _ hy hc=>?_) (fun _ hy hc=>?_) | with_reducible refine aM hy (fun _ hy=>?_) (fun _ hy=>?_) | with_reducible refine aX hc (fun hc=>?_) | with_reducible refine zo ?_)
  all_goals first | (cases hc; done) | (subst hy; first | rfl)
 | succ m IH=>
  intro i lh_0 hm hi hc
  have hlt:i < l8.length:=by omega
  have IH:=IH (i+1)
  have hcast:((i:Int)+1)=((i+1:Nat):Int):=by omega
  have hwr:=zG i (by omega)
  rw [c6 hlt] at hc ⊢
  refine zk dj (LQ) (fun id _=>hC id) (IC _ _ _ _) ?_
  rw [cD] at hc
  generalize hy:cn (l8[i]::l8.drop (i+1)) (i:Int) lh_0=y
  rw [cn] at hy
  simp only [aH hlt,zN hlt,ag l8 _ hlt,hwr,Tr.val_brT,Tr.val_chkT]
  clear hwr
  try simp only [zN hlt] at hy
  simp only [hcast] at hy
  try simp only [zN hlt] at hc
  try simp only [hcast] at hc
  repeat' (first | with_reducible refine ea hy hc (fun _ hy hc=>?_) (fun _ hy hc=>?_) | with_reducible refine aM hy (fun _ hy=>?_) (fun _ hy=>?_) | with_reducible refine aX hc (fun hc=>?_) | with_reducible refine zo ?_)
  all_goals first | (cases hc; done) | (subst hy; first | (change Reach _ _ _ _ _ _; apply IH <;> first | omega | assumption) | rfl)
theorem KV {C:bW} (hC:∀ id,C.ρ0 id=none) (l8:LV) (lh_0:LS) (hc:cD l8 0 lh_0=true):
  Reach (jh) C 160 (zx Tryz.f160 3) (Bq l8 (l8.length:Int) 0 lh_0) (fun r h=>zX h [Sh.str] r=some (cn l8 0 lh_0,())):=
 Reach.len 8 (zf) l8 rfl fun hl=>Qp hC l8 hl _ 0 lh_0 rfl (aZ _) hc
def jz (x0:Sem zf.sl):Sem Sh.str:=(cn x0 0 [])
def jA (x0:Sem zf.sl):Bool:=(cD x0 0 [])
def F91:zB:=tI [zf.sl] [Sh.str] [(161,(fun x=>jA x.1),fun x=>(jz x.1,()))]
theorem VB:FK 160 F91:=by
 refine jD (LQ) fun j c g hm x hc C hC=>?_
 simp only [bz,bp] at hm
 obtain ⟨rfl,rfl,rfl⟩:=hm
 replace hc:jA x.1=true:=hc
 unfold jA at hc
 refine zk dj (LQ) (fun id _=>hC id) (za5 x.1) ?_
 generalize hy:jz x.1=y
 unfold jz at hy
 repeat' (first | with_reducible refine ea hy hc (fun _ hy hc=>?_) (fun _ hy hc=>?_) | with_reducible refine aM hy (fun _ hy=>?_) (fun _ hy=>?_) | with_reducible refine aX hc (fun hc=>?_) | with_reducible refine zo ?_)
 all_goals first | (cases hc; done) | (subst hy; first | (change Reach _ _ _ _ _ _; apply KV hC <;> first | assumption | exact hc) | rfl)

def GB (g:Sem Sh.expr→Sem Sh.str) (c:Sem Sh.expr→Bool):ba:=jh.add 268 (zA [Sh.expr] [Sh.str] (fun x=>c x.1) fun x=>(g x.1,()))
theorem ES {g:Sem Sh.expr→Sem Sh.str} {c:Sem Sh.expr→Bool} (hg:FK 268 (zA [Sh.expr] [Sh.str] (fun x=>c x.1) fun x=>(g x.1,()))):zm (GB g c):=dj.add hg
abbrev Rr:Nat→zS:=fun _=>{ }
theorem tz (g:Sem Sh.expr→Sem Sh.str) (c:Sem Sh.expr→Bool):zz (GB g c).P 268 Tryz.f268 1:=aG (by kernel_rfl)
theorem QQ (g:Sem Sh.expr→Sem Sh.str) (c:Sem Sh.expr→Bool) (x0:Sem Sh.expr):rn (GB g c) 0 Rr Tryz.f268 [zy Sh.expr x0] []=Tr.br (ze.op x0==[108,105,116]) (Tr.chk (j5 (ze.v x0)) (Tr.ok (zp.ret (AV.str (gy (ze.v x0))) []))) (Tr.br (ze.op x0==[99,111,108]) (Tr.ok (zp.ret (AV.str (ze.s x0)) [])) (Tr.br (ze.op x0==[110,111,116]) (Tr.chk (zH 0 (ze.l x0).length) (Tr.chk (c (zC ((ze.l x0).getD (toNat 0) (zj Sh.expr)))) (Tr.chk (decide ([40,78,79,84,32].length+length (g (zC ((ze.l x0).getD (toNat 0) (zj Sh.expr))))≤1099511627776)) (Tr.chk (decide (length ([40,78,79,84,32]++g (zC ((ze.l x0).getD (toNat 0) (zj Sh.expr))))+[41].length≤1099511627776)) (Tr.ok (zp.ret (AV.str ([40,78,79,84,32]++g (zC ((ze.l x0).getD (toNat 0) (zj Sh.expr)))++[41])) [])))))) (Tr.br (ze.op x0==[110,117,108,108]) (Tr.chk (zH 0 (ze.l x0).length) (Tr.chk (c (zC ((ze.l x0).getD (toNat 0) (zj Sh.expr)))) (Tr.chk (decide ([40].length+length (g (zC ((ze.l x0).getD (toNat 0) (zj Sh.expr))))≤1099511627776)) (Tr.chk (decide (length ([40]++g (zC ((ze.l x0).getD (toNat 0) (zj Sh.expr))))+[32,73,83,32,78,85,76,76,41].length≤1099511627776)) (Tr.ok (zp.ret (AV.str ([40]++g
 (zC ((ze.l x0).getD (toNat 0) (zj Sh.expr)))++[32,73,83,32,78,85,76,76,41])) [])))))) (Tr.chk (zH 0 (ze.l x0).length) (Tr.chk (c (zC ((ze.l x0).getD (toNat 0) (zj Sh.expr)))) (Tr.chk (decide ([40].length+length (g (zC ((ze.l x0).getD (toNat 0) (zj Sh.expr))))≤1099511627776)) (Tr.chk (decide (length ([40]++g (zC ((ze.l x0).getD (toNat 0) (zj Sh.expr))))+[32].length≤1099511627776)) (Tr.chk (decide (length (ze.op x0)≤140737488355328)&&List.all (ze.op x0) fun b=>decide (b.toNat < 128)) (Tr.chk (decide (length ([40]++g (zC ((ze.l x0).getD (toNat 0) (zj Sh.expr)))++[32])+(Lib.toUpperA (ze.op x0)).length≤1099511627776)) (Tr.chk (decide (length ([40]++g (zC ((ze.l x0).getD (toNat 0) (zj Sh.expr)))++[32]++Lib.toUpperA (ze.op x0))+[32].length≤1099511627776)) (Tr.chk (zH 1 (ze.l x0).length) (Tr.chk (c (zC ((ze.l x0).getD (toNat 1) (zj Sh.expr)))) (Tr.chk (decide (length ([40]++g (zC ((ze.l x0).getD (toNat 0) (zj Sh.expr)))++[32]++Lib.toUpperA (ze.op x0)++[32])+length (g (zC ((ze.l x0).getD (toNat 1) (zj Sh.expr))))≤1099511627776)) (Tr.chk (decide (length ([40]++g (zC ((ze.l x0).getD (toNat 0) (zj Sh.expr)))++[32]++Lib.toUpperA (ze.op x0)++[32]++g (zC ((ze.l x0).getD (toNat 1) (zj Sh.expr))))+[41].length≤1099511627776)) (Tr.ok
 (zp.ret (AV.str ([40]++g (zC ((ze.l x0).getD (toNat 0) (zj Sh.expr)))++[32]++Lib.toUpperA (ze.op x0)++[32]++g (zC ((ze.l x0).getD (toNat 1) (zj Sh.expr)))++[41])) [])))))))))))))))):=by kernel_rfl
def r9 (g:Sem Sh.expr→Sem Sh.str) (_:Sem Sh.expr→Bool) (x0:Sem Sh.expr):Sem Sh.str:=(if (ze.op x0==[108,105,116])=true then gy (ze.v x0) else if (ze.op x0==[99,111,108])=true then ze.s x0 else if (ze.op x0==[110,111,116])=true then [40,78,79,84,32]++g ((ze.l x0).getD (toNat 0) (zj Sh.expr))++[41] else if (ze.op x0==[110,117,108,108])=true then [40]++g ((ze.l x0).getD (toNat 0) (zj Sh.expr))++[32,73,83,32,78,85,76,76,41] else [40]++g ((ze.l x0).getD (toNat 0) (zj Sh.expr))++[32]++Lib.toUpperA (ze.op x0)++[32]++g ((ze.l x0).getD (toNat 1) (zj Sh.expr))++[41])
def qO (g:Sem Sh.expr→Sem Sh.str) (c:Sem Sh.expr→Bool) (x0:Sem Sh.expr):Bool:=(if (ze.op x0==[108,105,116])=true then if j5 (ze.v x0)=true then true else false else if (ze.op x0==[99,111,108])=true then true else if (ze.op x0==[110,111,116])=true then if zH 0 (ze.l x0).length=true then if c ((ze.l x0).getD (toNat 0) (zj Sh.expr))=true then if decide ([40,78,79,84,32].length+length (g ((ze.l x0).getD (toNat 0) (zj Sh.expr)))≤1099511627776)=true then if decide (length ([40,78,79,84,32]++g ((ze.l x0).getD (toNat 0) (zj Sh.expr)))+[41].length≤1099511627776)=true then true else false else false else false else false else if (ze.op x0==[110,117,108,108])=true then if zH 0 (ze.l x0).length=true then if c ((ze.l x0).getD (toNat 0) (zj Sh.expr))=true then if decide ([40].length+length (g ((ze.l x0).getD (toNat 0) (zj Sh.expr)))≤1099511627776)=true then if decide (length ([40]++g ((ze.l x0).getD (toNat 0) (zj Sh.expr)))+[32,73,83,32,78,85,76,76,41].length≤1099511627776)=true then true else false else false else false else false else if zH 0 (ze.l x0).length=true then if c ((ze.l x0).getD (toNat 0) (zj Sh.expr))=true then if decide ([40].length+length (g ((ze.l x0).getD (toNat 0) (zj Sh.expr)))≤1099511627776)=true then
 if decide (length ([40]++g ((ze.l x0).getD (toNat 0) (zj Sh.expr)))+[32].length≤1099511627776)=true then if (decide (length (ze.op x0)≤140737488355328)&&List.all (ze.op x0) fun b=>decide (b.toNat < 128))=true then if decide (length ([40]++g ((ze.l x0).getD (toNat 0) (zj Sh.expr))++[32])+(Lib.toUpperA (ze.op x0)).length≤1099511627776)=true then if decide (length ([40]++g ((ze.l x0).getD (toNat 0) (zj Sh.expr))++[32]++Lib.toUpperA (ze.op x0))+[32].length≤1099511627776)=true then if zH 1 (ze.l x0).length=true then if c ((ze.l x0).getD (toNat 1) (zj Sh.expr))=true then if decide (length ([40]++g ((ze.l x0).getD (toNat 0) (zj Sh.expr))++[32]++Lib.toUpperA (ze.op x0)++[32])+length (g ((ze.l x0).getD (toNat 1) (zj Sh.expr)))≤1099511627776)=true then if decide (length ([40]++g ((ze.l x0).getD (toNat 0) (zj Sh.expr))++[32]++Lib.toUpperA (ze.op x0)++[32]++g ((ze.l x0).getD (toNat 1) (zj Sh.expr)))+[41].length≤1099511627776)=true then true else false else false else false else false else false else false else false else false else false else false else false)
def Ts (g:Sem Sh.expr→Sem Sh.str) (c:Sem Sh.expr→Bool):zB:=zA [Sh.expr] [Sh.str] (fun x=>qO g c x.1) fun x=>(r9 g c x.1,())
theorem Kn (g:Sem Sh.expr→Sem Sh.str) (c:Sem Sh.expr→Bool) (hg:FK 268 (zA [Sh.expr] [Sh.str] (fun x=>c x.1) fun x=>(g x.1,()))):FK 268 (Ts g c):=by
 refine zL (tz g c) fun x hc C hC=>?_
 unfold qO at hc
 refine zk (ES hg) (tz g c) (fun id _=>hC id) (QQ g c x.1) ?_
 generalize hy:r9 g c x.1=y
 unfold r9 at hy
 try simp only [ze.eta]
 repeat' (first | with_reducible refine ea hy hc (fun _ hy hc=>?_) (fun _ hy hc=>?_) | with_reducible refine aM hy (fun _ hy=>?_) (fun _ hy=>?_) | with_reducible refine aX hc (fun hc=>?_) | with_reducible refine zo ?_)
 all_goals first | (cases hc; done) | (subst hy; first | rfl)
mutual
def ft:Nat→Sem Sh.expr→Sem Sh.str
 | 0=>fun _=>default
 | n+1=>r9 (ft n) (fH n)
def fH:Nat→Sem Sh.expr→Bool
 | 0=>fun _=>false
 | n+1=>qO (ft n) (fH n)
end
theorem C6:∀ n,FK 268 (zA [Sh.expr] [Sh.str] (fun x=>fH n x.1) fun x=>(ft n x.1,()))
 | 0=>cO ⟨Tryz.f268,(tz default default).1,(tz default default).2.1,(tz default default).2.2.1⟩ (fun _=>rfl)
 | n+1=>Kn (ft n) (fH n) (C6 n)
def Tq:zB:=zA [Sh.expr] [Sh.str] (fun x=>fH 16 x.1) fun x=>(ft 16 x.1,())
theorem O8:FK 268 Tq:=C6 16

def dC:=jh.addL [(253,Th),(255,Tj),(220,S6),(215,S1),(217,S3),(160,F91),(268,Tq)]
theorem bP:zm dC:=dj.addL <| fc OZ <| fc O1 <| fc OO <| fc OJ <| fc OL <| fc VB <| fc O8 gX
end

abbrev ow (l:LC) (i:Int):St:={ tmps:=[.sl zi l,.clo (.func 253) [] [.ptr 0 0],.any,.any,.any,.any,.any,.int .i64 l.length,.int .i64 i,.any,.any,.any,.any,.any,.any,.any,.any,.any,.any],heap:=[.box [.clo (.func 210) [] []]] }
theorem Fg (l:LC):run dC 1 kz Tryz.f126.results.toList 300 (ah Tryz.f126) (zU Tryz.f126.ntmps [.sl zi l,.clo (.func 253) [] [.ptr 0 0]] [.box [.clo (.func 210) [] []]])=.ok (.head 2 (zx Tryz.f126 2) (ow l 0)):=by kernel_rfl
theorem Fw (l:LC) (i:Int):run dC 1 kz Tryz.f126.results.toList 300 (zx Tryz.f126 2) (ow l i)=gh (K:=zx Tryz.f126 2) (e:=zi) l (fun x => !iv x) (ow l) [.box [.clo (.func 210) [] []]] i:=by kernel_rfl

theorem Il:zz dC.P 126 Tryz.f126 2:=aG (by kernel_rfl)
def VR:b7 [some (.sl zi),none]:=fun x h=>match x,h with
 | (l,.clo (.func 253) [] [.ptr 0 0],_),[.box [.clo (.func 210) [] []]]=>.ok (.int .i64 (zQ (fun x => !iv x) l 0),[.box [.clo (.func 210) [] []]])
 | _,_=>.err
def TE:zB:=zP [some (.sl zi),none] VR
theorem Pm:FK 126 TE:=by
 refine bb Il fun x h0 res hx C hC=>?_
 unfold VR at hx
 split at hx
 ·rename_i l u
  simp only [Tr.val_ok,zZ] at hx
  subst hx
  refine Reach.len 0 zi l rfl fun hl=>?_
  refine zk (n0:=1) bP Il hC (Fg l) ?_
  exact dR l (fun x => !iv x) (ow l) bP Il hC (Fw l) hl _ 0 rfl (aZ _)
 ·simp at hx

abbrev ov (l:List (Sem bu)) (i:Int):St:={ tmps:=[.sl bu l,.clo (.func 255) [] [.ptr 0 0],.any,.any,.any,.any,.any,.int .i64 l.length,.int .i64 i,.any,.any,.any,.any,.any,.any,.any,.any,.any,.any],heap:=[.box [.clo (.func 211) [] []]] }
theorem Ff (l:List (Sem bu)):run dC 1 kz Tryz.f279.results.toList 300 (ah Tryz.f279) (zU Tryz.f279.ntmps [.sl bu l,.clo (.func 255) [] [.ptr 0 0]] [.box [.clo (.func 211) [] []]])=.ok (.head 2 (zx Tryz.f279 2) (ov l 0)):=by kernel_rfl
theorem Fv (l:List (Sem bu)) (i:Int):run dC 1 kz Tryz.f279.results.toList 300 (zx Tryz.f279 2) (ov l i)=gh (K:=zx Tryz.f279 2) (e:=bu) l (fun x => !qn x) (ov l) [.box [.clo (.func 211) [] []]] i:=by kernel_rfl

theorem Ih:zz dC.P 279 Tryz.f279 2:=aG (by kernel_rfl)
def VQ:b7 [some (.sl bu),none]:=fun x h=>match x,h with
 | (l,.clo (.func 255) [] [.ptr 0 0],_),[.box [.clo (.func 211) [] []]]=>.ok (.int .i64 (zQ (fun x => !qn x) l 0),[.box [.clo (.func 211) [] []]])
 | _,_=>.err
def Tu:zB:=zP [some (.sl bu),none] VQ
theorem Pa:FK 279 Tu:=by
 refine bb Ih fun x h0 res hx C hC=>?_
 unfold VQ at hx
 split at hx
 ·rename_i l u
  simp only [Tr.val_ok,zZ] at hx
  subst hx
  refine Reach.len 0 bu l rfl fun hl=>?_
  refine zk (n0:=1) bP Ih hC (Ff l) ?_
  exact dR l (fun x => !qn x) (ov l) bP Ih hC (Fv l) hl _ 0 rfl (aZ _)
 ·simp at hx

abbrev ou (l:LS) (i:Int):St:={ tmps:=[.sl Sh.str l,.clo (.func 220) [] [.ptr 0 0],.any,.any,.any,.any,.any,.int .i64 l.length,.int .i64 i,.any,.any,.any,.any,.any,.any,.any,.any,.any,.any],heap:=[.box [.clo (.func 149) [] []]] }
theorem Fe (l:LS):run dC 1 kz Tryz.f258.results.toList 300 (ah Tryz.f258) (zU Tryz.f258.ntmps [.sl Sh.str l,.clo (.func 220) [] [.ptr 0 0]] [.box [.clo (.func 149) [] []]])=.ok (.head 2 (zx Tryz.f258 2) (ou l 0)):=by kernel_rfl
theorem Fu (l:LS) (i:Int):run dC 1 kz Tryz.f258.results.toList 300 (zx Tryz.f258 2) (ou l i)=gh (K:=zx Tryz.f258 2) (e:=Sh.str) l (fun x => !bF x) (ou l) [.box [.clo (.func 149) [] []]] i:=by kernel_rfl

theorem Ig:zz dC.P 258 Tryz.f258 2:=aG (by kernel_rfl)
def VP:b7 [some (.sl Sh.str),none]:=fun x h=>match x,h with
 | (l,.clo (.func 220) [] [.ptr 0 0],_),[.box [.clo (.func 149) [] []]]=>.ok (.int .i64 (zQ (fun x => !bF x) l 0),[.box [.clo (.func 149) [] []]])
 | _,_=>.err
def Tm:zB:=zP [some (.sl Sh.str),none] VP
theorem O4:FK 258 Tm:=by
 refine bb Ig fun x h0 res hx C hC=>?_
 unfold VP at hx
 split at hx
 ·rename_i l u
  simp only [Tr.val_ok,zZ] at hx
  subst hx
  refine Reach.len 0 Sh.str l rfl fun hl=>?_
  refine zk (n0:=1) bP Ig hC (Fe l) ?_
  exact dR l (fun x => !bF x) (ou l) bP Ig hC (Fu l) hl _ 0 rfl (aZ _)
 ·simp at hx

abbrev oq (l:LV) (i:Int):St:={ tmps:=[.sl zf l,.clo (.func 215) [] [.ptr 0 0],.any,.any,.any,.any,.any,.int .i64 l.length,.int .i64 i,.any,.any,.any,.any,.any,.any,.any,.any,.any,.any],heap:=[.box [.clo (.func 94) [] []]] }
theorem Fc (l:LV):run dC 1 kz Tryz.f256.results.toList 300 (ah Tryz.f256) (zU Tryz.f256.ntmps [.sl zf l,.clo (.func 215) [] [.ptr 0 0]] [.box [.clo (.func 94) [] []]])=.ok (.head 2 (zx Tryz.f256 2) (oq l 0)):=by kernel_rfl
theorem Fs (l:LV) (i:Int):run dC 1 kz Tryz.f256.results.toList 300 (zx Tryz.f256 2) (oq l i)=gh (K:=zx Tryz.f256 2) (e:=zf) l (fun x => !gP x) (oq l) [.box [.clo (.func 94) [] []]] i:=by kernel_rfl

theorem Ie:zz dC.P 256 Tryz.f256 2:=aG (by kernel_rfl)
def VN:b7 [some (.sl zf),none]:=fun x h=>match x,h with
 | (l,.clo (.func 215) [] [.ptr 0 0],_),[.box [.clo (.func 94) [] []]]=>.ok (.int .i64 (zQ (fun x => !gP x) l 0),[.box [.clo (.func 94) [] []]])
 | _,_=>.err
def Tk:zB:=zP [some (.sl zf),none] VN
theorem O2:FK 256 Tk:=by
 refine bb Ie fun x h0 res hx C hC=>?_
 unfold VN at hx
 split at hx
 ·rename_i l u
  simp only [Tr.val_ok,zZ] at hx
  subst hx
  refine Reach.len 0 zf l rfl fun hl=>?_
  refine zk (n0:=1) bP Ie hC (Fc l) ?_
  exact dR l (fun x => !gP x) (oq l) bP Ie hC (Fs l) hl _ 0 rfl (aZ _)
 ·simp at hx

abbrev ot (l:List (Sem aF)) (i:Int):St:={ tmps:=[.sl aF l,.clo (.func 217) [] [.ptr 0 0],.any,.any,.any,.any,.any,.int .i64 l.length,.int .i64 i,.any,.any,.any,.any,.any,.any,.any,.any,.any,.any],heap:=[.box [.clo (.func 152) [] []]] }
theorem Fd (l:List (Sem aF)):run dC 1 kz Tryz.f257.results.toList 300 (ah Tryz.f257) (zU Tryz.f257.ntmps [.sl aF l,.clo (.func 217) [] [.ptr 0 0]] [.box [.clo (.func 152) [] []]])=.ok (.head 2 (zx Tryz.f257 2) (ot l 0)):=by kernel_rfl
theorem Ft (l:List (Sem aF)) (i:Int):run dC 1 kz Tryz.f257.results.toList 300 (zx Tryz.f257 2) (ot l i)=gh (K:=zx Tryz.f257 2) (e:=aF) l (fun x => !ui x) (ot l) [.box [.clo (.func 152) [] []]] i:=by kernel_rfl

theorem If:zz dC.P 257 Tryz.f257 2:=aG (by kernel_rfl)
def VO:b7 [some (.sl aF),none]:=fun x h=>match x,h with
 | (l,.clo (.func 217) [] [.ptr 0 0],_),[.box [.clo (.func 152) [] []]]=>.ok (.int .i64 (zQ (fun x => !ui x) l 0),[.box [.clo (.func 152) [] []]])
 | _,_=>.err
def Tl:zB:=zP [some (.sl aF),none] VO
theorem O3:FK 257 Tl:=by
 refine bb If fun x h0 res hx C hC=>?_
 unfold VO at hx
 split at hx
 ·rename_i l u
  simp only [Tr.val_ok,zZ] at hx
  subst hx
  refine Reach.len 0 aF l rfl fun hl=>?_
  refine zk (n0:=1) bP If hC (Fd l) ?_
  exact dR l (fun x => !ui x) (ot l) bP If hC (Ft l) hl _ 0 rfl (aZ _)
 ·simp at hx

abbrev XD:Nat→zS:=fun _=>{ }
theorem Of:zz (dC).P 232 Tryz.f232 1:=aG (by kernel_rfl)
theorem WD (x0:Sem Sh.expr):rn dC 0 XD Tryz.f232 [zy Sh.expr x0] []=Tr.br (!iL (zC x0)) (Tr.ok (zp.ret (AV.tup [AV.str [],ai 1]) [])) (Tr.chk (fH 16 (zC x0)) (Tr.ok (zp.ret (AV.tup [AV.str (ft 16 (zC x0)),ai 0]) []))):=by kernel_rfl
def kP (x0:Sem Sh.expr):Sem Sh.str×Sem zg:=(if (!iL x0)=true then ([],1) else (ft 16 x0,0))
def lG (x0:Sem Sh.expr):Bool:=(if (!iL x0)=true then true else if fH 16 x0=true then true else false)
def Td:zB:=zA [Sh.expr] [Sh.str,zg] (fun x=>lG x.1) fun x=>((kP x.1).1,(kP x.1).2,())
theorem OV:FK 232 Td:=by
 refine zL (Of) fun x hc C hC=>?_
 unfold lG at hc
 refine zk bP (Of) (fun id _=>hC id) (WD x.1) ?_
 generalize hy:kP x.1=y
 unfold kP at hy
 try simp only [ze.eta]
 repeat' (first | with_reducible refine ea hy hc (fun _ hy hc=>?_) (fun _ hy hc=>?_) | with_reducible refine aM hy (fun _ hy=>?_) (fun _ hy=>?_) | with_reducible refine aX hc (fun hc=>?_) | with_reducible refine zo ?_)
 all_goals first | (cases hc; done) | (subst hy; first | rfl)

abbrev XR:Nat→zS:=fun j=>if j=3 then { slots:=[0,4,5],prom:=[(4,none,dI)] } else { }
abbrev Bm (s0:TS) (i5:Int) (lh_0:LF):St:={ tmps:=(tm 47 [(0,AV.str s0),(4,AV.vec 0),(5,ai i5)]),heap:=[AO.vec zr lh_0] }
theorem RY:zz (dC).P 91 Tryz.f91 1:=aG (by kernel_rfl)
theorem zaT (x0:TS):rn dC 0 XR Tryz.f91 [zy Sh.str x0] []=Tr.ok (zp.head 3 (zx Tryz.f91 3) (Bm x0 0 [])):=by kernel_rfl
theorem R9 (s0:TS) (i5:Int) (lh_0:LF):rh dC 0 XR Tryz.f91 3 (Bm s0 i5 lh_0)=Tr.br (decide (i5 < (↑(length s0):Int))) (Tr.chk (zH i5 (length s0)&&bif (↑(getD s0 i5.toNat 0).toNat:Int)==32 then true else zH i5 (length s0)) (Tr.br (bif (↑(getD s0 i5.toNat 0).toNat:Int)==32 then true else (↑(getD s0 i5.toNat 0).toNat:Int)==10) (Tr.ok (zp.head 3 (zx Tryz.f91 3) (Bm s0 (IntKind.i64.wrap (i5+1)) lh_0))) (Tr.chk (decide (0≤i5)&&decide (i5≤(↑(length s0):Int))&&decide ((↑(length s0):Int)≤(↑(length s0):Int))) (Tr.chk (gZ (List.take ((↑(length s0):Int).toNat - i5.toNat) (List.drop i5.toNat s0))) (Tr.chk (ma (aP (List.take ((↑(length s0):Int).toNat - i5.toNat) (List.drop i5.toNat s0))).1) (Tr.br (bif !gp (aP (List.take ((↑(length s0):Int).toNat - i5.toNat) (List.drop i5.toNat s0))).1 then true else (↑lh_0.length:Int)==400) (Tr.ok (zp.ret (AV.tup [AV.nils,ai 2]) [])) (Tr.chk (decide (lh_0.length+[(aP (List.take ((↑(length s0):Int).toNat - i5.toNat) (List.drop i5.toNat s0))).1].length≤1073741824)) (Tr.ok (zp.head 3 (zx Tryz.f91 3) (Bm s0 (IntKind.i64.wrap (i5+(aP (List.take ((↑(length s0):Int).toNat - i5.toNat) (List.drop i5.toNat s0))).2))
 (lh_0++[(aP (List.take ((↑(length s0):Int).toNat - i5.toNat) (List.drop i5.toNat s0))).1]))))))))))) (Tr.ok (zp.ret (AV.tup [AV.vec 0,ai 0]) [AO.vec zr lh_0])):=by kernel_rfl
def nE:Nat→(Sem Sh.str)→Int→(List (Sem zr))→Sem dI.sl×Sem zg
 | 0,_,_,_=>default
 | n+1,s0,i5,lh_0=>(if decide (i5 < (↑(length s0):Int))=true then
 if (bif (↑(getD s0 i5.toNat 0).toNat:Int)==32 then true else (↑(getD s0 i5.toNat 0).toNat:Int)==10)=true then
  nE n s0 (IntKind.i64.wrap (i5+1)) lh_0
 else
  if
    (bif !gp (aP (List.take ((↑(length s0):Int).toNat - i5.toNat) (List.drop i5.toNat s0))).1 then true
     else (↑lh_0.length:Int)==400)=
     true then
   ([],2)
  else
   nE n s0 (IntKind.i64.wrap (i5+(aP (List.take ((↑(length s0):Int).toNat - i5.toNat) (List.drop i5.toNat s0))).2))
    (lh_0++[(aP (List.take ((↑(length s0):Int).toNat - i5.toNat) (List.drop i5.toNat s0))).1])
else (lh_0,0))
def mM:Nat→(Sem Sh.str)→Int→(List (Sem zr))→Bool
 | 0,_,_,_=>false
 | n+1,s0,i5,lh_0=>(if decide (i5 < (↑(length s0):Int))=true then
 if (zH i5 (length s0)&&bif (↑(getD s0 i5.toNat 0).toNat:Int)==32 then true else zH i5 (length s0))=true then
  if (bif (↑(getD s0 i5.toNat 0).toNat:Int)==32 then true else (↑(getD s0 i5.toNat 0).toNat:Int)==10)=true then
   mM n s0 (IntKind.i64.wrap (i5+1)) lh_0
  else
   if (decide (0≤i5)&&decide (i5≤(↑(length s0):Int))&&decide ((↑(length s0):Int)≤(↑(length s0):Int)))=true then
    if gZ (List.take ((↑(length s0):Int).toNat - i5.toNat) (List.drop i5.toNat s0))=true then
     if ma (aP (List.take ((↑(length s0):Int).toNat - i5.toNat) (List.drop i5.toNat s0))).1=true then
      if
        (bif !gp (aP (List.take ((↑(length s0):Int).toNat - i5.toNat) (List.drop i5.toNat s0))).1 then true
         else (↑lh_0.length:Int)==400)=
         true then
       true
      else
       if
         decide (lh_0.length+[(aP (List.take ((↑(length s0):Int).toNat - i5.toNat) (List.drop i5.toNat s0))).1].length≤1073741824)=
          true then
        mM n s0 (IntKind.i64.wrap (i5+(aP (List.take ((↑(length s0):Int).toNat - i5.toNat) (List.drop i5.toNat s0))).2))
         (lh_0++[(aP (List.take ((↑(length s0):Int).toNat - i5.toNat) (List.drop i5.toNat s0))).1])
       else false
     else false
    else false
   else false
 else false
else true)
theorem Gg {C:bW} (hC:∀ id,C.ρ0 id=none):∀ (n:Nat) (s0:TS) (i5:Int) (lh_0:LF),mM n s0 i5 lh_0=true→
  Reach (dC) C 91 (zx Tryz.f91 3) (Bm s0 i5 lh_0) (fun r h=>zX h [dI.sl,zg] r=some ((nE n s0 i5 lh_0).1,(nE n s0 i5 lh_0).2,()))
 | 0,s0,i5,lh_0,hc=>by cases hc
 | n+1,s0,i5,lh_0,hc=>by
  refine zk bP (RY) (fun id _=>hC id) (R9 _ _ _) ?_
  rw [mM] at hc
  generalize hy:nE (n+1) s0 i5 lh_0=y
  rw [nE] at hy
  try simp only [ze.eta,zt]
  repeat' (first | with_reducible refine ea hy hc (fun _ hy hc=>?_) (fun _ hy hc=>?_) | with_reducible refine aM hy (fun _ hy=>?_) (fun _ hy=>?_) | with_reducible refine aX hc (fun hc=>?_) | with_reducible refine zo ?_)
  all_goals first | (cases hc; done) | (subst hy; first | (change Reach _ _ _ _ _ _; refine Gg hC n _ _ _ ?_ <;> exact hc) | rfl)
def cut (x0:TS):Sem dI.sl×Sem zg:=(nE (length x0+1) x0 0 [])
def Gl (x0:TS):Bool:=(mM (length x0+1) x0 0 [])
def F69:zB:=zA [Sh.str] [dI.sl,zg] (fun x=>Gl x.1) fun x=>((cut x.1).1,(cut x.1).2,())
theorem Vd:FK 91 F69:=by
 refine zL (RY) fun x hc C hC=>?_
 unfold Gl at hc
 refine zk bP (RY) (fun id _=>hC id) (zaT x.1) ?_
 generalize hy:cut x.1=y
 unfold cut at hy
 try simp only [ze.eta,zt]
 repeat' (first | with_reducible refine ea hy hc (fun _ hy hc=>?_) (fun _ hy hc=>?_) | with_reducible refine aM hy (fun _ hy=>?_) (fun _ hy=>?_) | with_reducible refine aX hc (fun hc=>?_) | with_reducible refine zo ?_)
 all_goals first | (cases hc; done) | (subst hy; first | (change Reach _ _ _ _ _ _; refine Gg hC _ _ _ _ ?_ <;> exact hc) | rfl)

noncomputable def nI:=dC.addL [(126,TE),(279,Tu),(258,Tm),(256,Tk),(257,Tl),(232,Td),(91,F69)]
theorem fA:zm nI:=bP.addL <| fc Pm <| fc Pa <| fc O4 <| fc O2 <| fc O3 <| fc OV <| fc Vd gX

noncomputable def Tg:zB:=zP (List.replicate 2 none) (bA nI Tryz.f252 (List.replicate 2 none))
theorem OY:FK 252 Tg:=zY _ fA (aG (by kernel_rfl))

noncomputable def Ti:zB:=zP (List.replicate 2 none) (bA nI Tryz.f254 (List.replicate 2 none))
theorem O0:FK 254 Ti:=zY _ fA (aG (by kernel_rfl))

noncomputable def S5:zB:=zP (List.replicate 2 none) (bA nI Tryz.f219 (List.replicate 2 none))
theorem ON:FK 219 S5:=zY _ fA (aG (by kernel_rfl))

noncomputable def SZ:zB:=zP (List.replicate 2 none) (bA nI Tryz.f214 (List.replicate 2 none))
theorem OH:FK 214 SZ:=zY _ fA (aG (by kernel_rfl))

noncomputable def S2:zB:=zP (List.replicate 2 none) (bA nI Tryz.f216 (List.replicate 2 none))
theorem OK:FK 216 S2:=zY _ fA (aG (by kernel_rfl))

abbrev zbO:Nat→zS:=fun _=>{ }
theorem YX:zz (nI).P 163 Tryz.f163 1:=aG (by kernel_rfl)
theorem za8 (x0:Sem Sh.expr):rn nI 0 zbO Tryz.f163 [zy Sh.expr x0] []=Tr.chk (lG (zC x0)) (Tr.ok (zp.ret (AV.str (kP (zC x0)).1) [])):=by kernel_rfl
def cr (x0:Sem Sh.expr):Sem Sh.str:=((kP x0).1)
def fg (x0:Sem Sh.expr):Bool:=(if lG x0=true then true else false)
def F94:zB:=zA [Sh.expr] [Sh.str] (fun x=>fg x.1) fun x=>(cr x.1,())
theorem VE:FK 163 F94:=by
 refine zL (YX) fun x hc C hC=>?_
 unfold fg at hc
 refine zk fA (YX) (fun id _=>hC id) (za8 x.1) ?_
 generalize hy:cr x.1=y
 unfold cr at hy
 try simp only [ze.eta]
 repeat' (first | with_reducible refine ea hy hc (fun _ hy hc=>?_) (fun _ hy hc=>?_) | with_reducible refine aM hy (fun _ hy=>?_) (fun _ hy=>?_) | with_reducible refine aX hc (fun hc=>?_) | with_reducible refine zo ?_)
 all_goals first | (cases hc; done) | (subst hy; first | rfl)

noncomputable def ji:=nI.addL [(252,Tg),(254,Ti),(219,S5),(214,SZ),(216,S2),(163,F94)]
theorem dN:zm ji:=fA.addL <| fc OY <| fc O0 <| fc ON <| fc OH <| fc OK <| fc VE gX

noncomputable def SX:zB:=zP (List.replicate 4 none) (bA ji Tryz.f212 (List.replicate 4 none))
theorem OF:FK 212 SX:=zY _ dN (aG (by kernel_rfl))

noncomputable def SY:zB:=zP (List.replicate 4 none) (bA ji Tryz.f213 (List.replicate 4 none))
theorem OG:FK 213 SY:=zY _ dN (aG (by kernel_rfl))

noncomputable def F86:zB:=zP (List.replicate 4 none) (bA ji Tryz.f155 (List.replicate 4 none))
theorem Vv:FK 155 F86:=zY _ dN (aG (by kernel_rfl))

noncomputable def F82:zB:=zP (List.replicate 4 none) (bA ji Tryz.f151 (List.replicate 4 none))
theorem Vr:FK 151 F82:=zY _ dN (aG (by kernel_rfl))

noncomputable def F84:zB:=zP (List.replicate 4 none) (bA ji Tryz.f153 (List.replicate 4 none))
theorem Vt:FK 153 F84:=zY _ dN (aG (by kernel_rfl))

abbrev zbP:Nat→zS:=fun _=>{ }
theorem YY:zz (ji).P 165 Tryz.f165 1:=aG (by kernel_rfl)
theorem zba (x0:Sem Sh.expr):rn ji 0 zbP Tryz.f165 [zy Sh.expr x0] []=Tr.br (hD (zC x0)) (Tr.ok (zp.ret (AV.str []) [])) (Tr.chk (fg (zC x0)) (Tr.chk (decide ([32,87,72,69,82,69,32].length+length (cr (zC x0))≤1099511627776)) (Tr.ok (zp.ret (AV.str ([32,87,72,69,82,69,32]++cr (zC x0))) [])))):=by kernel_rfl
def lu (x0:Sem Sh.expr):Sem Sh.str:=(if hD x0=true then [] else [32,87,72,69,82,69,32]++cr x0)
def uv (x0:Sem Sh.expr):Bool:=(if hD x0=true then true else if fg x0=true then if decide ([32,87,72,69,82,69,32].length+length (cr x0)≤1099511627776)=true then true else false else false)
def F96:zB:=zA [Sh.expr] [Sh.str] (fun x=>uv x.1) fun x=>(lu x.1,())
theorem VG:FK 165 F96:=by
 refine zL (YY) fun x hc C hC=>?_
 unfold uv at hc
 refine zk dN (YY) (fun id _=>hC id) (zba x.1) ?_
 generalize hy:lu x.1=y
 unfold lu at hy
 try simp only [ze.eta]
 repeat' (first | with_reducible refine ea hy hc (fun _ hy hc=>?_) (fun _ hy hc=>?_) | with_reducible refine aM hy (fun _ hy=>?_) (fun _ hy=>?_) | with_reducible refine aX hc (fun hc=>?_) | with_reducible refine zo ?_)
 all_goals first | (cases hc; done) | (subst hy; first | rfl)

abbrev zbQ:Nat→zS:=fun _=>{ }
theorem YZ:zz (ji).P 167 Tryz.f167 2:=aG (by kernel_rfl)
theorem zbc (x0:TS) (x1:Sem Sh.expr):rn ji 0 zbQ Tryz.f167 [zy Sh.str x0,zy Sh.expr x1] []=Tr.br (hD (zC x1)) (Tr.ok (zp.ret (AV.str []) [])) (Tr.chk (decide (length x0+[67,72,69,67,75,32,40,32].length≤1099511627776)) (Tr.chk (fg (zC x1)) (Tr.chk (decide (length (x0++[67,72,69,67,75,32,40,32])+length (cr (zC x1))≤1099511627776)) (Tr.chk (decide (length (x0++[67,72,69,67,75,32,40,32]++cr (zC x1))+[32,41].length≤1099511627776)) (Tr.ok (zp.ret (AV.str (x0++[67,72,69,67,75,32,40,32]++cr (zC x1)++[32,41])) [])))))):=by kernel_rfl
def gg (x0:TS) (x1:Sem Sh.expr):Sem Sh.str:=(if hD x1=true then [] else x0++[67,72,69,67,75,32,40,32]++cr x1++[32,41])
def jJ (x0:TS) (x1:Sem Sh.expr):Bool:=(if hD x1=true then true else if decide (length x0+[67,72,69,67,75,32,40,32].length≤1099511627776)=true then if fg x1=true then if decide (length (x0++[67,72,69,67,75,32,40,32])+length (cr x1)≤1099511627776)=true then if decide (length (x0++[67,72,69,67,75,32,40,32]++cr x1)+[32,41].length≤1099511627776)=true then true else false else false else false else false)
def F98:zB:=zA [Sh.str,Sh.expr] [Sh.str] (fun x=>jJ x.1 x.2.1) fun x=>(gg x.1 x.2.1,())
theorem VI:FK 167 F98:=by
 refine zL (YZ) fun x hc C hC=>?_
 unfold jJ at hc
 refine zk dN (YZ) (fun id _=>hC id) (zbc x.1 x.2.1) ?_
 generalize hy:gg x.1 x.2.1=y
 unfold gg at hy
 try simp only [ze.eta]
 repeat' (first | with_reducible refine ea hy hc (fun _ hy hc=>?_) (fun _ hy hc=>?_) | with_reducible refine aM hy (fun _ hy=>?_) (fun _ hy=>?_) | with_reducible refine aX hc (fun hc=>?_) | with_reducible refine zo ?_)
 all_goals first | (cases hc; done) | (subst hy; first | rfl)

abbrev zbN:Nat→zS:=fun _=>{ }
theorem YW:zz (ji).P 162 Tryz.f162 1:=aG (by kernel_rfl)
theorem za7 (x0:Sem aF):rn ji 0 zbN Tryz.f162 [zy aF x0] []=Tr.chk (decide (length x0.1+[32,61,32].length≤1099511627776)) (Tr.chk (fg (zC x0.2)) (Tr.chk (decide (length (x0.1++[32,61,32])+length (cr (zC x0.2))≤1099511627776)) (Tr.ok (zp.ret (AV.str (x0.1++[32,61,32]++cr (zC x0.2))) [])))):=by kernel_rfl
def dt (x0:Sem aF):Sem Sh.str:=(x0.1++[32,61,32]++cr x0.2)
def ig (x0:Sem aF):Bool:=(if decide (length x0.1+[32,61,32].length≤1099511627776)=true then if fg x0.2=true then if decide (length (x0.1++[32,61,32])+length (cr x0.2)≤1099511627776)=true then true else false else false else false)
def F93:zB:=zA [aF] [Sh.str] (fun x=>ig x.1) fun x=>(dt x.1,())
theorem VD:FK 162 F93:=by
 refine zL (YW) fun x hc C hC=>?_
 unfold ig at hc
 refine zk dN (YW) (fun id _=>hC id) (za7 x.1) ?_
 generalize hy:dt x.1=y
 unfold dt at hy
 try simp only [ze.eta]
 repeat' (first | with_reducible refine ea hy hc (fun _ hy hc=>?_) (fun _ hy hc=>?_) | with_reducible refine aM hy (fun _ hy=>?_) (fun _ hy=>?_) | with_reducible refine aX hc (fun hc=>?_) | with_reducible refine zo ?_)
 all_goals first | (cases hc; done) | (subst hy; first | rfl)

noncomputable def fP:=ji.addL [(212,SX),(213,SY),(155,F86),(151,F82),(153,F84),(165,F96),(167,F98),(162,F93)]
theorem dk:zm fP:=dN.addL <| fc OF <| fc OG <| fc Vv <| fc Vr <| fc Vt <| fc VG <| fc VI <| fc VD gX
end Cad
