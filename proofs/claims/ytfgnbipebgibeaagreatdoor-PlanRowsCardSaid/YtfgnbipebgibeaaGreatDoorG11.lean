/- The library's functions over texts. slices.Clone: what it answers is memory of its own. schema.copied is its argument, of what is not too deep. Statements: words of columns, tokens. Statements: parts. Statements: the ways of many; expressions' texts. Statements: the ways of many, again; tokens. Statements: the ways of many, once more. Statements: many; checks' texts. -/
import Derived.Test.YtfgnbipebgibeaaGreatDoorG10
import Derived.Test.YtfgnbipebgibeaaGreatDoorG06
namespace Cad
open Go Go.Proofs

open Go.RowKit Go.Lib in
theorem zNh:FOk zd7.P zd7.gl 186 (zG [.str,.str] [.bool] (fun x=>x.2.1.length==1) fun x=>(decide (0≤Lib.indexByte x.1 (x.2.1.headD 0)),())):=by
 refine zeP ⟨Tryz.f186,by kernel_rfl,by kernel_rfl,by kernel_rfl⟩ fun x h0 res hx=>?_
 unfold ze5 at hx
 split at hx
 ·simp only [Tr.val] at hx
  split at hx
  ·rename_i hc
   simp only [Option.some.injEq] at hx
   subst hx
   obtain ⟨s,sub,u⟩:=x
   have hc:(sub.length==1)=true:=hc
   match sub,hc with
   | [c],_=>
    intro C w U ρ vals _ hr hH hnew hr0 hW
    have hl:=hr.len
    match vals,hl,hr with
    | [v1,v2],_,hr=>
     have h1:=hr.rv 0 (.str s) v1 rfl rfl
     have h2:=hr.rv 1 (.str [c]) v2 rfl rfl
     cases h1 with
     | str _ hs=>
     cases h2 with
     | str _ hs2=>
     refine (Tryz.strings_Contains_one ⟨s.toArray⟩ c w).mono ?_
     rintro e w' ⟨rfl,rfl⟩
     exact zdQ hH hnew hr0 hW (Below.refl _ _) (.bool _)
  ·cases hx
 ·simp at hx
def F63:zJ:=zG [.str,.str] [.bool] (fun x=>x.2.1.length==1) fun x=>(decide (0≤Lib.indexByte x.1 (x.2.1.headD 0)),())
theorem zVJ:FOk zd7.P zd7.gl 186 F63:=zNh

def F89:zJ:=zG [.str] [.str] (fun x=>decide (x.1.length≤140737488355328)&&x.1.all fun b=>decide (b.toNat < 128)) fun x=>(Lib.toUpperA x.1,())
open Go.RowKit Go.Lib in
theorem zTL:FOk zd7.P zd7.gl 161 F89:=by
 refine zeP ⟨Tryz.f161,by kernel_rfl,by kernel_rfl,by kernel_rfl⟩ fun x h0 res hx=>?_
 unfold ze5 at hx
 split at hx
 ·simp only [Tr.val] at hx
  split at hx
  ·rename_i hc
   simp only [Option.some.injEq] at hx
   subst hx
   obtain ⟨s,u⟩:=x
   have hc:(decide (s.length≤140737488355328)&&s.all fun b=>decide (b.toNat < 128))=true:=hc
   simp only [Bool.and_eq_true,decide_eq_true_eq] at hc
   obtain ⟨hc0,hc⟩:=hc
   intro C w U ρ vals _ hr hH hnew hr0 hW
   have hl:=hr.len
   match vals,hl,hr with
   | [v1],_,hr=>
    have h1:=hr.rv 0 (.str s) v1 rfl rfl
    cases h1 with
    | str _ hs=>
    refine (Tryz.strings_ToUpper_ascii ⟨s.toArray⟩ w (by simpa [ByteArray.size] using hc0) (fun j b hj=>?_)).mono ?_
    ·have hm:b∈s:=List.mem_of_getElem? (by simpa using hj)
     simp only [List.all_eq_true,decide_eq_true_eq] at hc
     exact hc b hm
    ·rintro e w' ⟨rfl,hb⟩
     have hbb:=zdQ (r:=.str (Lib.toUpperA s)) hH hnew hr0 hW hb (.str _ (by simpa [Lib.toUpperA] using hs))
     exact hbb
  ·cases hx
 ·simp at hx

def zwl:Nat→Nat→Str
 | 0,_=>[]
 | f+1,n=>if n < 10 then [UInt8.ofNat (48+n)] else zwl f (n / 10)++[UInt8.ofNat (48+n % 10)]
def zn2 (n:Int):Str:=if n < 0 then 45::zwl 20 n.natAbs else zwl 20 n.natAbs
theorem zvf:∀ (f n:Nat),n < 10 ^ f→0 < f→zwl f n=Lib.decDigits n
 | 0,_,_,h=>by omega
 | f+1,n,h,_=>by
  rw [zwl,Lib.decDigits]
  split
  ·rfl
  ·rename_i hn
   have hf:0 < f:=by
    cases f with
    | zero=>simp at h; omega
    | succ f=>omega
   rw [zvf f (n / 10) (by rw [Nat.pow_succ] at h; omega) hf]
theorem zxl:∀ (f n:Nat),(zwl f n).length≤f
 | 0,_=>by simp [zwl]
 | f+1,n=>by
  rw [zwl]
  split
  ·simp
  ·have:=zxl f (n / 10)
   simp; omega
theorem zsF (n:Int):(zn2 n).length≤21:=by
 unfold zn2
 have:=zxl 20 n.natAbs
 split <;> simp <;> omega
theorem zFj (n:Int) (h:zbN .i64 n):Lib.itoa n=zn2 n:=by
 have h1:-9223372036854775808≤n:=h.1
 have h2:n≤9223372036854775807:=h.2
 unfold Lib.itoa zn2
 split
 ·rw [zvf 20 _ (by omega) (by omega)]
 ·rw [zvf 20 _ (by omega) (by omega)]
  congr 1
  omega
def zT5:zJ:=zG [zg,zg] [.str] (fun x=>x.2.1==10) fun x=>(zn2 x.1,())
open Go.RowKit Go.Lib in
theorem zPx:FOk zd7.P zd7.gl 213 zT5:=by
 refine zeP ⟨Tryz.f213,by kernel_rfl,by kernel_rfl,by kernel_rfl⟩ fun x h0 res hx=>?_
 unfold ze5 at hx
 split at hx
 ·simp only [Tr.val] at hx
  split at hx
  ·rename_i hc
   simp only [Option.some.injEq] at hx
   subst hx
   obtain ⟨n,b,u⟩:=x
   have hc:(b==10)=true:=hc
   simp only [beq_iff_eq] at hc
   subst hc
   intro C w U ρ vals _ hr hH hnew hr0 hW
   have hl:=hr.len
   match vals,hl,hr with
   | [v1,v2],_,hr=>
    have h1:=hr.rv 0 (.int .i64 n) v1 rfl rfl
    have h2:=hr.rv 1 (.int .i64 10) v2 rfl rfl
    cases h1 with
    | int _ _ hn=>
    cases h2
    have h5:Rv w U (fun _=>none) (.tab .u64 zgO) (.pointer (some ⟨5,0,none⟩)):=hW.gl 5
    have htab:Lib.TabIs Tryz.prog w "internal/strconv.uint64pow10" .u64 Lib.pow10Tab:=by
     cases h5 with
     | tab _ _ _ T fr hb hU=>
     have hg:Tryz.prog.globalNamed "internal/strconv.uint64pow10" = some 5:=by kernel_rfl
     have ht:Lib.pow10Tab=zgO:=by decide +kernel
     unfold Lib.TabIs World.var?
     rw [hg,ht]
     simp only [Option.bind_some,hb]
    refine (Tryz.strconv_FormatInt_10 n hn.1 hn.2 w htab).mono ?_
    rintro e w' ⟨rfl,k,os,rfl⟩
    rw [zFj n hn]
    exact zdQ (r:=.str (zn2 n)) hH hnew hr0 hW ⟨rfl,rfl,rfl,by show w.heap.size≤(w.heap++os).size; simp,fun j hj=>by show (w.heap++os)[j]?=w.heap[j]?; rw [Array.getElem?_append_left hj]⟩ (.str _ (by have:=zsF n; unfold zI; omega))
  ·cases hx
 ·simp at hx

theorem zmB (old new:Str):∀ (k:Nat) (s:Str),(Lib.replaceK old new k s).length≤s.length+k * new.length
 | 0,s=>by simp [Lib.replaceK]
 | k+1,s=>by
  rw [Lib.replaceK]
  split
  ·omega
  ·have:=zmB old new k (s.drop ((Lib.index s old).toNat+old.length))
   simp only [List.length_append,List.length_take,List.length_drop] at this ⊢
   rw [Nat.succ_mul]
   omega
theorem zgi (s old new:Str):(Lib.replaceAll s old new).length≤s.length+(s.length+1) * new.length:=by
 unfold Lib.replaceAll Lib.replace
 split
 ·omega
 ·refine Nat.le_trans (zmB old new _ s) ?_
  have hc:=Lib.count_le s old
  have:Lib.replaceNum s old (-1)=Lib.count s old:=by unfold Lib.replaceNum; rw [if_pos (.inl (by omega))]
  rw [this]
  have:=Nat.mul_le_mul_right new.length hc
  omega
def zlY (s old new:Str):Bool:=decide (s.length≤4000000000)&&(decide (1≤old.length)&&decide (new.length≤1000))
def zSY:zJ:=zG [.str,.str,.str] [.str] (fun x=>zlY x.1 x.2.1 x.2.2.1) fun x=>(Lib.replaceAll x.1 x.2.1 x.2.2.1,())
open Go.RowKit Go.Lib in
theorem zM7:FOk zd7.P zd7.gl 214 zSY:=by
 refine zeP ⟨Tryz.f214,by kernel_rfl,by kernel_rfl,by kernel_rfl⟩ fun x h0 res hx=>?_
 unfold ze5 at hx
 split at hx
 ·simp only [Tr.val] at hx
  split at hx
  ·rename_i hc
   simp only [Option.some.injEq] at hx
   subst hx
   obtain ⟨s,old,new,u⟩:=x
   have hc:zlY s old new=true:=hc
   unfold zlY at hc
   simp only [Bool.and_eq_true,decide_eq_true_eq] at hc
   obtain ⟨hc1,hc2,hc3⟩:=hc
   intro C w U ρ vals _ hr hH hnew hr0 hW
   have hl:=hr.len
   match vals,hl,hr with
   | [v1,v2,v3],_,hr=>
    have h1:=hr.rv 0 (.str s) v1 rfl rfl
    have h2:=hr.rv 1 (.str old) v2 rfl rfl
    have h3:=hr.rv 2 (.str new) v3 rfl rfl
    cases h1 with
    | str _ hs1=>
    cases h2 with
    | str _ hs2=>
    cases h3 with
    | str _ hs3=>
    have hg1:Rv w U (fun _=>none) .gint (.pointer (some ⟨2,0,none⟩)):=hW.gl 2
    have hmm:∃ m:Int,w.cell? ⟨2,0,none⟩=some (.int .i64 m):=by
     cases hg1 with
     | gint m _ T fr _ hb _=>exact ⟨m,by simp [World.cell?,hb]⟩
    obtain ⟨m,hm⟩:=hmm
    have hcb:=Lib.countB_le (⟨old.toArray⟩:ByteArray) (by simpa [ByteArray.size] using hc2) s.length (⟨s.toArray⟩:ByteArray) (by simp [ByteArray.size])
    have hsz:(⟨s.toArray⟩:ByteArray).size=s.length:=by simp [ByteArray.size]
    have hnz:(⟨new.toArray⟩:ByteArray).size=new.length:=by simp [ByteArray.size]
    have hmul:Lib.countB (⟨s.toArray⟩:ByteArray) ⟨old.toArray⟩ * new.length≤4000000000 * 1000:=Nat.mul_le_mul (by omega) hc3
    refine (Tryz.strings_ReplaceAll ⟨s.toArray⟩ ⟨old.toArray⟩ ⟨new.toArray⟩ m w (by rw [hsz]; omega) hm (by simpa [ByteArray.size] using hc2) (by rw [hsz,hnz]; omega)).mono ?_
    rintro e w' ⟨rfl,hbel⟩
    refine zdQ (r:=.str (Lib.replaceAll s old new)) hH hnew hr0 hW hbel (.str _ ?_)
    have hlen:=zgi s old new
    have hmul2:(s.length+1) * new.length≤4000000001 * 1000:=Nat.mul_le_mul (by omega) hc3
    unfold zI
    omega
  ·cases hx
 ·simp at hx

def zRW:zJ:=zG [.sl .str,.str] [.str] (fun x=>decide (x.1.length≤140737488355328)&&decide ((Lib.join x.1 x.2.1).length≤140737488355328)) fun x=>(Lib.join x.1 x.2.1,())
open Go.RowKit Go.Lib in
theorem zMj:FOk zd7.P zd7.gl 212 zRW:=by
 refine zeP ⟨Tryz.f212,by kernel_rfl,by kernel_rfl,by kernel_rfl⟩ fun x h0 res hx=>?_
 unfold ze5 at hx
 split at hx
 ·simp only [Tr.val] at hx
  split at hx
  ·rename_i hc
   simp only [Option.some.injEq] at hx
   subst hx
   obtain ⟨l,sep,u⟩:=x
   have hc:(decide (l.length≤140737488355328)&&decide ((Lib.join l sep).length≤140737488355328))=true:=hc
   simp only [Bool.and_eq_true,decide_eq_true_eq] at hc
   obtain ⟨hc0,hc⟩:=hc
   have hms:zI=9223372036854775807:=rfl
   intro C w U ρ vals _ hr hH hnew hr0 hW
   have hl:=hr.len
   match vals,hl,hr with
   | [v1,v2],_,hr=>
    have h1:=hr.rv 0 (.sl .str l) v1 rfl rfl
    have h2:=hr.rv 1 (.str sep) v2 rfl rfl
    cases h2 with
    | str _ hs2=>
    generalize hl0:l=l0 at h1 hc hc0 hr
    cases h1 with
    | sl0 _ a c=>
     subst hl0
     refine (Tryz.strings_Join_none a c ⟨sep.toArray⟩ w).mono ?_
     rintro e w' ⟨rfl,rfl⟩
     exact zdQ (r:=.str []) hH hnew hr0 hW (Below.refl _ _) (.str _ (by simp))
    | sl _ _ b o c vals' hcc hm hb hU hcell hrr=>
     subst hl0
     have hx:∀ (j:Nat) x,(l.map fun s=>(⟨s.toArray⟩:ByteArray))[j]?=some x→w.cell? ⟨b,o+j,none⟩=some (.string x):=by
      intro j x hj
      simp only [List.getElem?_map,Option.map_eq_some_iff] at hj
      obtain ⟨s,hs,rfl⟩:=hj
      obtain ⟨hlt,rfl⟩:=List.getElem?_eq_some_iff.1 hs
      have h3:=hcell j 0 hlt (by simp [Sh.size])
      have h4:=hrr j hlt 0 (.str l[j]) rfl
      simp only [Sh.size,Nat.mul_one,Nat.add_zero] at h3
      rw [h3]
      generalize vals' j 0=vv at h4
      cases h4
      rfl
     have hmap:(l.map fun s=>(⟨s.toArray⟩:ByteArray)).map (·.data.toList)=l:=by
      simp [List.map_map,Function.comp_def]
     have hj:=Tryz.strings_Join b o c (l.map fun s=>(⟨s.toArray⟩:ByteArray)) ⟨sep.toArray⟩ w hx hb (by simpa using hc0) (by simpa using hcc) (by rw [hmap]; exact hc)
     rw [hmap] at hj
     simp only [List.length_map] at hj
     refine hj.mono ?_
     rintro e w' ⟨rfl,hbel⟩
     exact zdQ (r:=.str (Lib.join l sep)) hH hnew hr0 hW hbel (.str _ (by omega))
  ·cases hx
 ·simp at hx

noncomputable def zfh:Env:=(((((zd7.add 186 F63).add 161 F89).add 213 zT5).add 214 zSY).add 212 zRW)
theorem zeO:zi zfh:=(zi.addS (zi.addS (zi.addS (zi.addS (zi.addS zB7 (zB.refl zd7) zVJ) ((zB.refl zd7).add _ _) zTL) (((zB.refl zd7).add _ _).add _ _) zPx) ((((zB.refl zd7).add _ _).add _ _).add _ _) zM7) (((((zB.refl zd7).add _ _).add _ _).add _ _).add _ _) zMj)
theorem zeL:zfh.P.follows .mixedOrders=true:=(zm (zm (zm (zm (zm zCX _ _) _ _) _ _) _ _) _ _)
open Go Go.Proofs

theorem Reach.promNil {E:Env} {C:Ctx} {fn:FuncId} {todo:List Item} {st:St} (e:Sh) (hC:∀ id,C.ρ0 id=none) (h:Reach E C fn todo st (fun r h=>(r,h)=(.nils,[]))):Reach E C fn todo st (fun r h=>(r,h)=(.vec 0,[.vec e []])):=by
 intro b cs a w U ρ h1 h2 hc hW
 obtain ⟨en,w',fr,⟨v,r,h',U',ρ',he,hq,hrv,hH,hnew,hr0,hWd⟩,hcm,hf,hl⟩:=h b cs a w U ρ h1 h2 hc hW
 cases hq
 cases hrv with
 | nils ad=>
 have hno:∀ id o b,o=(AO.vec e []:AO)∨o=AO.dead→¬ zW (fun id=>if id=0 then some (.slice ad 0 0) else none) id o b:=by
  rintro id o b ho ⟨h3,x,h4,h5⟩
  rcases ho with rfl | rfl
  ·simp only at h4
   split at h4
   ·cases h4
    cases ad <;> simp [zdG] at h5
   ·cases h4
  ·simp [AO.owns] at h3
 have hob:∀ id,(([AO.vec e []]:List AO).getD id .dead)=(if id=0 then AO.vec e [] else AO.dead):=by
  intro id
  cases id <;> simp
 refine ⟨en,w',fr,⟨_,_,_,U',fun id=>if id=0 then some (.slice ad 0 0) else none,he,rfl,.vec 0 _ (by simp) (by simp [Value.oneCell']),⟨fun id=>?_,fun id1 id2 b o=>?_,fun id b o=>?_⟩,fun id hid=>?_,fun id v hv=>?_,hWd⟩,hcm,hf,hl⟩
 ·show zaR w' U' _ id (([AO.vec e []]:List AO).getD id .dead)
  rw [hob]
  split
  ·rename_i h0
   subst h0
   exact ⟨ad,0,by simp,by simp,.inl ⟨rfl,rfl⟩⟩
  ·trivial
 ·exfalso
  have o':zW (fun id=>if id=0 then some (.slice ad 0 0) else none) id1 (([AO.vec e []]:List AO).getD id1 .dead) b:=o
  rw [hob] at o'
  split at o'
  ·exact hno _ _ _ (.inl rfl) o'
  ·exact hno _ _ _ (.inr rfl) o'
 ·exfalso
  have o':zW (fun id=>if id=0 then some (.slice ad 0 0) else none) id (([AO.vec e []]:List AO).getD id .dead) b:=o
  rw [hob] at o'
  split at o'
  ·exact hno _ _ _ (.inl rfl) o'
  ·exact hno _ _ _ (.inr rfl) o'
 ·simp at hid
  simp; omega
 ·rw [hC id] at hv; cases hv

def zew:Tr zD→List Item×List Item×St
 | .ok (.fork _ k1 k2 st)=>(k1,k2,st)
 | _=>([],[],⟨[],[]⟩)

abbrev kpC:Nat→zQ:=fun _=>{ }

noncomputable abbrev zwd (l:List ze):Tr zD:=run zfh 0 kpC (Func.results Tryz.f73).toList 300 (zq Tryz.f73) (zp (Func.ntmps Tryz.f73) [.sl .expr l] [])
theorem zIR:zF zfh.P 73 Tryz.f73 1:=by refine ⟨?_,?_,?_,?_⟩ <;> kernel_rfl
theorem zWK (l:List ze):zwd l=.ok (.fork l.isEmpty (zew (zwd l)).1 (zew (zwd l)).2.1 (zew (zwd l)).2.2):=by kernel_rfl
theorem zV8 (l:List ze):run zfh 0 kpC (Func.results Tryz.f73).toList 300 (zew (zwd l)).1 (zew (zwd l)).2.2=.ok (.ret .nils []):=by kernel_rfl
theorem zTx (l:List ze):run zfh 0 kpC (Func.results Tryz.f73).toList 300 (zew (zwd l)).2.1 (zew (zwd l)).2.2=.chk (decide (l.length≤1073741824)) (.ok (.ret (.vec 0) [.vec .expr l])):=by kernel_rfl
def G53:zdS [some (.sl .expr)]:=fun x h=>match h with
 | []=>.chk (decide (List.length x.1≤1073741824)) (.ok (.vec 0,[.vec .expr x.1]))
 | _=>.err
def F53:zJ:=zai [some (.sl .expr)] G53
theorem zTQ:FOk zfh.P zfh.gl 73 F53:=by
 refine zbC zIR fun x h0 res hx C hC=>?_
 unfold G53 at hx
 split at hx
 ·simp only [Tr.val] at hx
  split at hx
  ·rename_i hl
   simp only [Option.some.injEq] at hx
   subst hx
   obtain ⟨l,u⟩:=x
   refine zr (n0:=0) zeO zeL zIR hC (zWK l) ?_
   refine ⟨fun he=>?_,?_⟩
   ·have hn:l=[]:=List.isEmpty_iff.1 he
    refine Reach.weaken (Q:=fun r h=>(r,h)=(.vec 0,[.vec .expr []])) (Reach.promNil .expr (fun id=>hC id (by simp)) (zr (n0:=0) zeO zeL zIR hC (zV8 l) rfl)) ?_
    intro r h hq
    cases hq
    refine ⟨_,?_,fun _ _ _ _ h=>h⟩
    show (AV.vec 0,[AO.vec Sh.expr []])=(AV.vec 0,[AO.vec Sh.expr l])
    rw [hn]
   ·exact zr (n0:=0) zeO zeL zIR hC (zTx l) (zhn hl rfl)
  ·cases hx
 ·simp at hx

noncomputable abbrev zwT (l:List (Sem zh)):Tr zD:=run zfh 0 kpC (Func.results Tryz.f69).toList 300 (zq Tryz.f69) (zp (Func.ntmps Tryz.f69) [.sl zh l] [])
theorem zJL:zF zfh.P 69 Tryz.f69 1:=by refine ⟨?_,?_,?_,?_⟩ <;> kernel_rfl
theorem zXx (l:List (Sem zh)):zwT l=.ok (.fork l.isEmpty (zew (zwT l)).1 (zew (zwT l)).2.1 (zew (zwT l)).2.2):=by kernel_rfl
theorem zR4 (l:List (Sem zh)):run zfh 0 kpC (Func.results Tryz.f69).toList 300 (zew (zwT l)).1 (zew (zwT l)).2.2=.ok (.ret .nils []):=by kernel_rfl
theorem zU3 (l:List (Sem zh)):run zfh 0 kpC (Func.results Tryz.f69).toList 300 (zew (zwT l)).2.1 (zew (zwT l)).2.2=.chk (decide (l.length≤1073741824)) (.ok (.ret (.vec 0) [.vec zh l])):=by kernel_rfl
def G32:zdS [some (.sl zh)]:=fun x h=>match h with
 | []=>.chk (decide (List.length x.1≤1073741824)) (.ok (.vec 0,[.vec zh x.1]))
 | _=>.err
def F32:zJ:=zai [some (.sl zh)] G32
theorem zVT:FOk zfh.P zfh.gl 69 F32:=by
 refine zbC zJL fun x h0 res hx C hC=>?_
 unfold G32 at hx
 split at hx
 ·simp only [Tr.val] at hx
  split at hx
  ·rename_i hl
   simp only [Option.some.injEq] at hx
   subst hx
   obtain ⟨l,u⟩:=x
   refine zr (n0:=0) zeO zeL zJL hC (zXx l) ?_
   refine ⟨fun he=>?_,?_⟩
   ·have hn:l=[]:=List.isEmpty_iff.1 he
    refine Reach.weaken (Q:=fun r h=>(r,h)=(.vec 0,[.vec zh []])) (Reach.promNil zh (fun id=>hC id (by simp)) (zr (n0:=0) zeO zeL zJL hC (zR4 l) rfl)) ?_
    intro r h hq
    cases hq
    refine ⟨_,?_,fun _ _ _ _ h=>h⟩
    show (AV.vec 0,[AO.vec zh []])=(AV.vec 0,[AO.vec zh l])
    rw [hn]
   ·exact zr (n0:=0) zeO zeL zJL hC (zU3 l) (zhn hl rfl)
  ·cases hx
 ·simp at hx
open Go Go.Proofs

noncomputable def zmX:Env:=(zfh.add 73 F53).add 69 F32
theorem zwr:zi zmX:=(zi.addS (zi.addS zeO (zB.refl zfh) zTQ) ((zB.refl zfh).add _ _) zVT)
theorem zws:zmX.P.follows .mixedOrders=true:=(zm (zm zeL _ _) _ _)
def zGD (c:ze→Bool):zJ:=zG [.expr] [.expr] (fun x=>c x.1) fun x=>(x.1,())
noncomputable def zza (c:ze→Bool):Env:=zmX.add 35 (zGD c)
theorem zqy {c:ze→Bool} (hg:FOk zmX.P zmX.gl 35 (zGD c)):zi (zza c):=zwr.add hg
theorem zql {c:ze→Bool}:(zza c).P.follows .mixedOrders=true:=zm zws _ _
abbrev zQi:Nat→zQ:=fun j=>if j=3 then { slots:=[1,2,10,11] } else { }
abbrev zAT (i10:Int) (i11:Int) (ja0:Str) (ja1:Int) (ja2:Int) (ja3:Str) (ja4:Str) (lh_2:List (Sem Sh.expr)):St:={
 tmps:=
  [AV.any,AV.ptr 0 0,AV.ptr 1 0,AV.any,AV.any,AV.any,AV.any,AV.any,AV.any,AV.any,AV.int .i64 i10,AV.int .i64 i11,AV.any,AV.any,
   AV.any,AV.any,AV.any,AV.any,AV.any,AV.any,AV.any,AV.any,AV.any,AV.any,AV.any,AV.any],
 heap:=
  [AO.box [AV.str ja0,AV.int .i64 ja1,AV.int .i64 ja2,AV.str ja3,AV.str ja4,AV.vec 2],
   AO.box [AV.str [],AV.int .i64 0,AV.int .i64 0,AV.str [],AV.str [],AV.nils],AO.vec Sh.expr lh_2] }
theorem zx8 (c:ze→Bool):zF (zza c).P 35 Tryz.f35 1:=by refine ⟨?_,?_,?_,?_⟩ <;> kernel_rfl
theorem zW8 (c:ze→Bool) (op:Str) (v:V) (s:Str) (l:List ze):run (zza c) 0 zQi (Func.results Tryz.f35).toList 400 (zq Tryz.f35) (zp (Func.ntmps Tryz.f35) [zx Sh.expr (ze.mk op v s l)] [])=
 Tr.chk (decide (l.length≤1073741824)) (Tr.ok (zD.head 3 (zA Tryz.f35 3) (zAT (↑l.length:Int) 0 op v.1 v.2.1 v.2.2 s l))):=by kernel_rfl
theorem zDC (c:ze→Bool) (i10:Int) (i11:Int) (ja0:Str) (ja1:Int) (ja2:Int) (ja3:Str) (ja4:Str) (lh_2:List (Sem Sh.expr)):run (zza c) 0 zQi (Func.results Tryz.f35).toList 400 (zA Tryz.f35 3) (zAT i10 i11 ja0 ja1 ja2 ja3 ja4 lh_2)=
 Tr.br (decide (i11 < i10))
 (Tr.chk (inB i11 lh_2.length)
  (Tr.chk (decide (i11.toNat < lh_2.length))
   (Tr.chk (c (zz (lh_2.getD i11.toNat (zl Sh.expr))))
    (Tr.chk (inB i11 lh_2.length)
     (Tr.chk (decide (i11.toNat < lh_2.length))
      (Tr.ok
       (zD.head 3 (zA Tryz.f35 3)
        (zAT i10 (IntKind.i64.wrap (i11+1)) ja0 ja1 ja2 ja3 ja4
         (lh_2.set i11.toNat
          (zz (lh_2.getD i11.toNat (zl Sh.expr))))))))))))
 (Tr.ok
  (zD.ret (AV.agg [AV.str ja0,AV.int .i64 ja1,AV.int .i64 ja2,AV.str ja3,AV.str ja4,AV.vec 0]) [AO.vec Sh.expr lh_2])):=by kernel_rfl

theorem zXC {c:ze→Bool} (hg:FOk zmX.P zmX.gl 35 (zGD c)) {C:Ctx} (hC:∀ id,C.ρ0 id=none) (op:Str) (v:V) (s:Str) (l:List ze) (hl:l.length≤1073741824) (hcl:l.all c=true):
  ∀ (k i:Nat),l.length - i=k→i≤l.length→Reach (zza c) C 35 (zA Tryz.f35 3) (zAT l.length i op v.1 v.2.1 v.2.2 s l) (fun r h=>zac h [.expr] r=some (ze.mk op v s l,())):=by
 intro k
 induction k with
 | zero=>
  intro i hk hi
  obtain rfl:i=l.length:=by omega
  refine zr (n0:=0) (zqy hg) zql (zx8 c) (fun id _=>hC id) (zDC c _ _ _ _ _ _ _ _) ?_
  simp only [zP,Tr.val_brF]
  rfl
 | succ k IH=>
  intro i hk hi
  have hlt:i < l.length:=by omega
  refine zr (n0:=0) (zqy hg) zql (zx8 c) (fun id _=>hC id) (zDC c _ _ _ _ _ _ _ _) ?_
  have h1:c l[i]=true:=List.all_eq_true.1 hcl _ (List.getElem_mem hlt)
  have h2:decide ((i:Int).toNat < l.length)=true:=by simpa using hlt
  have h3:l.set (i:Int).toNat l[i]=l:=by simp
  simp only [zV hlt,zK hlt,zaD l _ hlt,ze.eta,Tr.val_brT,Tr.val_chkT,h1,h2,h3,zH i (by unfold zI; omega)]
  exact IH (i+1) (by omega) (by omega)

def cpC:Nat→ze→Bool
 | 0,_=>false
 | n+1,.mk _ _ _ l=>decide (l.length≤1073741824)&&l.all (cpC n)

theorem zy0:∀ n,FOk zmX.P zmX.gl 35 (zGD (cpC n))
 | 0=>zdK ⟨Tryz.f35,(zx8 (fun _=>false)).1,(zx8 (fun _=>false)).2.1,(zx8 (fun _=>false)).2.2.1⟩ (fun _=>rfl)
 | n+1=>by
  refine zT (E:=zza (cpC n)) (zx8 _) fun x hc C hC=>?_
  obtain ⟨⟨op,v,s,l⟩,u⟩:=x
  have hc:(decide (l.length≤1073741824)&&l.all (cpC n))=true:=hc
  simp only [Bool.and_eq_true,decide_eq_true_eq] at hc
  refine zr (n0:=0) (zqy (zy0 n)) zql (zx8 _) (fun id _=>hC id) (zW8 _ op v s l) ?_
  refine zhn (by simpa using hc.1) ?_
  exact zXC (zy0 n) hC op v s l hc.1 hc.2 _ 0 rfl (Nat.zero_le _)
def F33:zJ:=zGD (cpC 16)
theorem zVI:FOk zmX.P zmX.gl 35 F33:=zy0 16
noncomputable def zbr:Env:=zmX.add 35 F33
theorem zd2:zi zbr:=(zi.addS zwr (zB.refl zmX) zVI)
theorem zdZ:zbr.P.follows .mixedOrders=true:=(zm zws _ _)
open Go Go.Proofs
set_option maxHeartbeats 4000000
abbrev zaT:Sh:=.pr .str .str
abbrev zan:Sh:=.pr .str .expr
abbrev zu:Sh:=.pr .str (.pr .str (.pr .str (.pr (.sl .str) (.pr (.sl zh) (.pr .str (.pr (.sl .str) (.pr (.sl zaT) (.pr .expr (.pr (.sl zf) (.pr (.sl zan) (.pr .expr .str)))))))))))
def zr1 (x:Sem zu):Sem zu:=(x.1,x.2.1,x.2.2.1,x.2.2.2.1,x.2.2.2.2.1,x.2.2.2.2.2.1,x.2.2.2.2.2.2.1,x.2.2.2.2.2.2.2.1,zz x.2.2.2.2.2.2.2.2.1,x.2.2.2.2.2.2.2.2.2.1,x.2.2.2.2.2.2.2.2.2.2.1,zz x.2.2.2.2.2.2.2.2.2.2.2.1,x.2.2.2.2.2.2.2.2.2.2.2.2)
theorem zBC (x:Sem zu):zr1 x=x:=by unfold zr1; rw [zw,zw]

abbrev zJ0:Nat→zQ:=fun j=>if j=2 then { slots:=[0,2,4] } else { }
abbrev zpB (s0:TS) (i4:Int) (ja0:Int) (ja1:List UInt8):St:={ tmps:=[AV.str s0,ny,AV.ptr 0 0,ny,ai i4,ny,ny,ny,ny,ny,ny,ny,ny,ny,ny,ny,ny,ny,ny,ny,ny,ny,ny,ny,ny,ny,ny,ny,ny,ny,ny,ny,ny,ny,ny,ny,ny],heap:=[AO.box [ai ja0,AV.str ja1]] }
theorem zGC:zF (zbr).P 217 Tryz.f217 1:=by refine ⟨?_,?_,?_,?_⟩ <;> kernel_rfl
theorem zVw (x0:TS):run (zbr) 0 zJ0 (Func.results Tryz.f217).toList 400 (zq Tryz.f217) (zp (Func.ntmps Tryz.f217) [zx Sh.str x0] [])=Tr.ok (zD.head 2 (zA Tryz.f217 2) (zpB x0 1 0 [])):=by kernel_rfl
theorem zJJ (s0:TS) (i4:Int) (ja0:Int) (ja1:List UInt8):run (zbr) 0 zJ0 (Func.results Tryz.f217).toList 400 (zA Tryz.f217 2) (zpB s0 i4 ja0 ja1)=Tr.br (decide (i4 < (↑(List.length s0):Int))) (Tr.chk (inB i4 (List.length s0)) (Tr.br ((↑(List.getD s0 i4.toNat 0).toNat:Int) != 39) (Tr.ok (zD.head 2 (zA Tryz.f217 2) (zpB s0 (IntKind.i64.wrap (i4+1)) ja0 ja1))) (Tr.chk (bif decide (IntKind.i64.wrap (i4+1) < (↑(List.length s0):Int)) then inB (IntKind.i64.wrap (i4+1)) (List.length s0) else true) (Tr.br (bif decide (IntKind.i64.wrap (i4+1) < (↑(List.length s0):Int)) then (↑(List.getD s0 (IntKind.i64.wrap (i4+1)).toNat 0).toNat:Int)==39 else false) (Tr.ok (zD.head 2 (zA Tryz.f217 2) (zpB s0 (IntKind.i64.wrap (IntKind.i64.wrap (i4+1)+1)) ja0 ja1))) (Tr.chk (decide (0≤1)&&decide (1≤i4)&&decide (i4≤(↑(List.length s0):Int))) (Tr.chk (zlY (List.take (i4.toNat - Int.toNat 1) (List.drop (Int.toNat 1) s0)) [39,39] [39]) (Tr.ok (zD.ret (AV.tup [AV.agg [ai 3,AV.str (Lib.replaceAll (List.take (i4.toNat - Int.toNat 1) (List.drop (Int.toNat 1) s0)) [39,39] [39])],ai (IntKind.i64.wrap (i4+1))]) [])))))))) (Tr.ok (zD.ret (AV.tup [AV.agg [ai 0,AV.str []],ai 0]) [])):=by kernel_rfl
def zdJ:Nat→(Sem Sh.str)→Int→Int→(List UInt8)→Sem zdx×Sem zg
 | 0,_,_,_,_=>default
 | n+1,s0,i4,ja0,ja1=>(if decide (i4 < (↑(List.length s0):Int))=true then
 if ((↑(List.getD s0 i4.toNat 0).toNat:Int) != 39)=true then zdJ n s0 (IntKind.i64.wrap (i4+1)) ja0 ja1
 else
  if
    (bif decide (IntKind.i64.wrap (i4+1) < (↑(List.length s0):Int)) then (↑(List.getD s0 (IntKind.i64.wrap (i4+1)).toNat 0).toNat:Int)==39
     else false)=
     true then
   zdJ n s0 (IntKind.i64.wrap (IntKind.i64.wrap (i4+1)+1)) ja0 ja1
  else ((3,Lib.replaceAll (List.take (i4.toNat - Int.toNat 1) (List.drop (Int.toNat 1) s0)) [39,39] [39]),IntKind.i64.wrap (i4+1))
else ((0,[]),0))
def zeV:Nat→(Sem Sh.str)→Int→Int→(List UInt8)→Bool
 | 0,_,_,_,_=>false
 | n+1,s0,i4,ja0,ja1=>(if decide (i4 < (↑(List.length s0):Int))=true then
 if inB i4 (List.length s0)=true then
  if ((↑(List.getD s0 i4.toNat 0).toNat:Int) != 39)=true then zeV n s0 (IntKind.i64.wrap (i4+1)) ja0 ja1
  else
   if (bif decide (IntKind.i64.wrap (i4+1) < (↑(List.length s0):Int)) then inB (IntKind.i64.wrap (i4+1)) (List.length s0) else true)=true then
    if
      (bif decide (IntKind.i64.wrap (i4+1) < (↑(List.length s0):Int)) then (↑(List.getD s0 (IntKind.i64.wrap (i4+1)).toNat 0).toNat:Int)==39
       else false)=
       true then
     zeV n s0 (IntKind.i64.wrap (IntKind.i64.wrap (i4+1)+1)) ja0 ja1
    else
     if (decide (0≤1)&&decide (1≤i4)&&decide (i4≤(↑(List.length s0):Int)))=true then
      if zlY (List.take (i4.toNat - Int.toNat 1) (List.drop (Int.toNat 1) s0)) [39,39] [39]=true then true else false
     else false
   else false
 else false
else true)
theorem zAs {C:Ctx} (hC:∀ id,C.ρ0 id=none):∀ (n:Nat) (s0:TS) (i4:Int) (ja0:Int) (ja1:List UInt8),zeV n s0 i4 ja0 ja1=true→
  Reach (zbr) C 217 (zA Tryz.f217 2) (zpB s0 i4 ja0 ja1) (fun r h=>zac h [zdx,zg] r=some ((zdJ n s0 i4 ja0 ja1).1,(zdJ n s0 i4 ja0 ja1).2,()))
 | 0,s0,i4,ja0,ja1,hc=>by cases hc
 | n+1,s0,i4,ja0,ja1,hc=>by
  refine zr zd2 zdZ (zGC) (fun id _=>hC id) (zJJ _ _ _ _) ?_
  rw [zeV] at hc
  generalize hy:zdJ (n+1) s0 i4 ja0 ja1=y
  rw [zdJ] at hy
  try simp only [ze.eta,zw]
  repeat' (first | with_reducible refine obr hy hc (fun _ hy hc=>?_) (fun _ hy hc=>?_) | with_reducible refine zay hy (fun _ hy=>?_) (fun _ hy=>?_) | with_reducible refine zaZ hc (fun hc=>?_) | with_reducible refine zy ?_)
  all_goals first | (cases hc; done) | (subst hy; first | (change Reach _ _ _ _ _ _; refine zAs hC n _ _ _ _ ?_ <;> exact hc) | rfl)
def zcn (x0:TS):Sem zdx×Sem zg:=(zdJ (List.length x0+1) x0 1 0 [])
def zfz (x0:TS):Bool:=(zeV (List.length x0+1) x0 1 0 [])
def zQI:zJ:=zG [Sh.str] [zdx,zg] (fun x=>zfz x.1) fun x=>((zcn x.1).1,(zcn x.1).2,())
theorem zOw:FOk (zbr).P (zbr).gl 217 zQI:=by
 refine zT (zGC) fun x hc C hC=>?_
 unfold zfz at hc
 refine zr zd2 zdZ (zGC) (fun id _=>hC id) (zVw x.1) ?_
 generalize hy:zcn x.1=y
 unfold zcn at hy
 try simp only [ze.eta,zw]
 repeat' (first | with_reducible refine obr hy hc (fun _ hy hc=>?_) (fun _ hy hc=>?_) | with_reducible refine zay hy (fun _ hy=>?_) (fun _ hy=>?_) | with_reducible refine zaZ hc (fun hc=>?_) | with_reducible refine zy ?_)
 all_goals first | (cases hc; done) | (subst hy; first | (change Reach _ _ _ _ _ _; refine zAs hC _ _ _ _ _ ?_ <;> exact hc) | rfl)

abbrev zQM:Nat→zQ:=fun _=>{ }
theorem zJ3:zF (zbr).P 201 Tryz.f201 1:=by refine ⟨?_,?_,?_,?_⟩ <;> kernel_rfl
theorem zQ2 (x0:Sem Sh.expr):run (zbr) 0 zQM (Func.results Tryz.f201).toList 400 (zq Tryz.f201) (zp (Func.ntmps Tryz.f201) [zx Sh.expr x0] [])=Tr.ok (zD.ret (AV.bool (bif ze.op x0==[] then bif (ze.v x0).1==0&&((ze.v x0).2.1==0&&((ze.v x0).2.2==[]&&true)) then bif ze.s x0==[] then (↑(ze.l x0).length:Int)==0 else false else false else false)) []):=by kernel_rfl
def zgs (x0:Sem Sh.expr):Sem Sh.bool:=(bif ze.op x0==[] then bif (ze.v x0).1==0&&((ze.v x0).2.1==0&&((ze.v x0).2.2==[]&&true)) then bif ze.s x0==[] then (↑(ze.l x0).length:Int)==0 else false else false else false)
def zSE:zJ:=zaf [Sh.expr] [Sh.bool] fun x=>(zgs x.1,())
theorem zNq:FOk (zbr).P (zbr).gl 201 zSE:=by
 refine zN (zJ3) fun x C hC=>?_
 refine zr zd2 zdZ (zJ3) (fun id _=>hC id) (zQ2 x.1) ?_
 generalize hy:zgs x.1=y
 unfold zgs at hy
 try simp only [ze.eta,zw]
 repeat' (first | with_reducible refine zay hy (fun _ hy=>?_) (fun _ hy=>?_) | with_reducible refine zy ?_)
 all_goals first | (cases hc; done) | (subst hy; first | rfl)

abbrev zQt:Nat→zQ:=fun _=>{ }
theorem zLm:zF (zbr).P 211 Tryz.f211 1:=by refine ⟨?_,?_,?_,?_⟩ <;> kernel_rfl
theorem zVO (x0:Sem zh):run (zbr) 0 zQt (Func.results Tryz.f211).toList 400 (zq Tryz.f211) (zp (Func.ntmps Tryz.f211) [zx zh x0] [])=Tr.br x0.2.2 (Tr.chk (decide (List.length x0.1+[32].length≤1099511627776)&&(inB (IntKind.i64.wrap (x0.2.1 - 1)) 3&&bif IntKind.i64.wrap (x0.2.1 - 1)==(↑0:Int) then decide (List.length (x0.1++[32])+[73,78,84].length≤1099511627776)&&decide (List.length (x0.1++[32]++[73,78,84])+[32,78,79,84,32,78,85,76,76].length≤1099511627776) else bif IntKind.i64.wrap (x0.2.1 - 1)==(↑(0+1):Int) then decide (List.length (x0.1++[32])+[84,69,88,84].length≤1099511627776)&&decide (List.length (x0.1++[32]++[84,69,88,84])+[32,78,79,84,32,78,85,76,76].length≤1099511627776) else decide (List.length (x0.1++[32])+[66,79,79,76].length≤1099511627776)&&decide (List.length (x0.1++[32]++[66,79,79,76])+[32,78,79,84,32,78,85,76,76].length≤1099511627776))) (Tr.ok (zD.ret (AV.str (bif IntKind.i64.wrap (x0.2.1 - 1)==(↑0:Int) then x0.1++[32]++[73,78,84]++[32,78,79,84,32,78,85,76,76] else bif IntKind.i64.wrap (x0.2.1 - 1)==(↑(0+1):Int) then x0.1++[32]++[84,69,88,84]++[32,78,79,84,32,78,85,76,76] else x0.1++[32]++[66,79,79,76]++[32,78,79,84,32,78,85,76,76])) []))) (Tr.chk (decide (List.length x0.1+[32].length≤1099511627776)&&(inB (IntKind.i64.wrap (x0.2.1 - 1)) 3&&
 bif IntKind.i64.wrap (x0.2.1 - 1)==(↑0:Int) then decide (List.length (x0.1++[32])+[73,78,84].length≤1099511627776) else bif IntKind.i64.wrap (x0.2.1 - 1)==(↑(0+1):Int) then decide (List.length (x0.1++[32])+[84,69,88,84].length≤1099511627776) else decide (List.length (x0.1++[32])+[66,79,79,76].length≤1099511627776))) (Tr.ok (zD.ret (AV.str (bif IntKind.i64.wrap (x0.2.1 - 1)==(↑0:Int) then x0.1++[32]++[73,78,84] else bif IntKind.i64.wrap (x0.2.1 - 1)==(↑(0+1):Int) then x0.1++[32]++[84,69,88,84] else x0.1++[32]++[66,79,79,76])) []))):=by kernel_rfl
def zcC (x0:Sem zh):Sem Sh.str:=(if x0.2.2=true then bif IntKind.i64.wrap (x0.2.1 - 1)==(↑0:Int) then x0.1++[32]++[73,78,84]++[32,78,79,84,32,78,85,76,76] else bif IntKind.i64.wrap (x0.2.1 - 1)==(↑(0+1):Int) then x0.1++[32]++[84,69,88,84]++[32,78,79,84,32,78,85,76,76] else x0.1++[32]++[66,79,79,76]++[32,78,79,84,32,78,85,76,76] else bif IntKind.i64.wrap (x0.2.1 - 1)==(↑0:Int) then x0.1++[32]++[73,78,84] else bif IntKind.i64.wrap (x0.2.1 - 1)==(↑(0+1):Int) then x0.1++[32]++[84,69,88,84] else x0.1++[32]++[66,79,79,76])
def zfl (x0:Sem zh):Bool:=(if x0.2.2=true then if (decide (List.length x0.1+[32].length≤1099511627776)&&(inB (IntKind.i64.wrap (x0.2.1 - 1)) 3&&bif IntKind.i64.wrap (x0.2.1 - 1)==(↑0:Int) then decide (List.length (x0.1++[32])+[73,78,84].length≤1099511627776)&&decide (List.length (x0.1++[32]++[73,78,84])+[32,78,79,84,32,78,85,76,76].length≤1099511627776) else bif IntKind.i64.wrap (x0.2.1 - 1)==(↑(0+1):Int) then decide (List.length (x0.1++[32])+[84,69,88,84].length≤1099511627776)&&decide (List.length (x0.1++[32]++[84,69,88,84])+[32,78,79,84,32,78,85,76,76].length≤1099511627776) else decide (List.length (x0.1++[32])+[66,79,79,76].length≤1099511627776)&&decide (List.length (x0.1++[32]++[66,79,79,76])+[32,78,79,84,32,78,85,76,76].length≤1099511627776)))=true then true else false else if (decide (List.length x0.1+[32].length≤1099511627776)&&(inB (IntKind.i64.wrap (x0.2.1 - 1)) 3&&bif IntKind.i64.wrap (x0.2.1 - 1)==(↑0:Int) then decide (List.length (x0.1++[32])+[73,78,84].length≤1099511627776) else bif IntKind.i64.wrap (x0.2.1 - 1)==(↑(0+1):Int) then decide (List.length (x0.1++[32])+[84,69,88,84].length≤1099511627776) else decide (List.length (x0.1++[32])+[66,79,79,76].length≤1099511627776)))=true then true else false)
def zVq:zJ:=zG [zh] [Sh.str] (fun x=>zfl x.1) fun x=>(zcC x.1,())
theorem zOe:FOk (zbr).P (zbr).gl 211 zVq:=by
 refine zT (zLm) fun x hc C hC=>?_
 unfold zfl at hc
 refine zr zd2 zdZ (zLm) (fun id _=>hC id) (zVO x.1) ?_
 generalize hy:zcC x.1=y
 unfold zcC at hy
 try simp only [ze.eta,zw]
 repeat' (first | with_reducible refine obr hy hc (fun _ hy hc=>?_) (fun _ hy hc=>?_) | with_reducible refine zay hy (fun _ hy=>?_) (fun _ hy=>?_) | with_reducible refine zaZ hc (fun hc=>?_) | with_reducible refine zy ?_)
 all_goals first | (cases hc; done) | (subst hy; first | rfl)

abbrev zWA:Nat→zQ:=fun _=>{ }
theorem zSU:zF (zbr).P 160 Tryz.f160 1:=by refine ⟨?_,?_,?_,?_⟩ <;> kernel_rfl
theorem zXG (x0:TS):run (zbr) 0 zWA (Func.results Tryz.f160).toList 400 (zq Tryz.f160) (zp (Func.ntmps Tryz.f160) [zx Sh.str x0] [])=Tr.ok (zD.ret (AV.str x0) []):=by kernel_rfl
def zig (x0:TS):Sem Sh.str:=(x0)
def F88:zJ:=zaf [Sh.str] [Sh.str] fun x=>(zig x.1,())
theorem zUF:FOk (zbr).P (zbr).gl 160 F88:=by
 refine zN (zSU) fun x C hC=>?_
 refine zr zd2 zdZ (zSU) (fun id _=>hC id) (zXG x.1) ?_
 generalize hy:zig x.1=y
 unfold zig at hy
 try simp only [ze.eta,zw]
 repeat' (first | with_reducible refine zay hy (fun _ hy=>?_) (fun _ hy=>?_) | with_reducible refine zy ?_)
 all_goals first | (cases hc; done) | (subst hy; first | rfl)

abbrev zW5:Nat→zQ:=fun _=>{ }
theorem zRs:zF (zbr).P 151 Tryz.f151 1:=by refine ⟨?_,?_,?_,?_⟩ <;> kernel_rfl
theorem zX7 (x0:TS):run (zbr) 0 zW5 (Func.results Tryz.f151).toList 400 (zq Tryz.f151) (zp (Func.ntmps Tryz.f151) [zx Sh.str x0] [])=Tr.ok (zD.ret (AV.bool (bif zcf x0 then !zeW x0 else false)) []):=by kernel_rfl
def zbp (x0:TS):Sem Sh.bool:=(bif zcf x0 then !zeW x0 else false)
def F80:zJ:=zaf [Sh.str] [Sh.bool] fun x=>(zbp x.1,())
theorem zP8:FOk (zbr).P (zbr).gl 151 F80:=by
 refine zN (zRs) fun x C hC=>?_
 refine zr zd2 zdZ (zRs) (fun id _=>hC id) (zX7 x.1) ?_
 generalize hy:zbp x.1=y
 unfold zbp at hy
 try simp only [ze.eta,zw]
 repeat' (first | with_reducible refine zay hy (fun _ hy=>?_) (fun _ hy=>?_) | with_reducible refine zy ?_)
 all_goals first | (cases hc; done) | (subst hy; first | rfl)

abbrev zQB:Nat→zQ:=fun _=>{ unroll:=true }
theorem zK6:zF (zbr).P 141 Tryz.f141 1:=by refine ⟨?_,?_,?_,?_⟩ <;> kernel_rfl
theorem zTd (x0:Sem zdx):run (zbr) 0 zQB (Func.results Tryz.f141).toList 400 (zq Tryz.f141) (zp (Func.ntmps Tryz.f141) [zx zdx x0] [])=Tr.br (x0.1==3) (Tr.ok (zD.ret (AV.bool (zbj (2,0,x0.2))) [])) (Tr.br (x0.1==4) (Tr.chk (bif (↑(List.length x0.2):Int)==1 then List.length x0.2==1 else true) (Tr.ok (zD.ret (AV.bool (bif (↑(List.length x0.2):Int)==1 then decide (0≤Lib.indexByte [40,41,44,61,60,43,45,42] (List.headD x0.2 0)) else false)) []))) (Tr.br true (Tr.chk true (Tr.br (1==x0.1) (Tr.ok (zD.ret (AV.bool (bif decide ((↑(List.length x0.2):Int) ≥ 1) then bif decide ((↑(List.length x0.2):Int)≤16) then (↑(zaA zaE zbd x0.2):Int)==(↑(List.length x0.2):Int) else false else false)) [])) (Tr.br true (Tr.chk true (Tr.br (2==x0.1) (Tr.ok (zD.ret (AV.bool (bif decide ((↑(List.length x0.2):Int) ≥ 1) then bif decide ((↑(List.length x0.2):Int)≤19) then (↑(zaA zaq zaq x0.2):Int)==(↑(List.length x0.2):Int) else false else false)) [])) (Tr.br false Tr.err (Tr.ok (zD.ret (AV.kb false) []))))) (Tr.ok (zD.ret (AV.kb false) []))))) (Tr.ok (zD.ret (AV.kb false) [])))):=by kernel_rfl
def zia (x0:Sem zdx):Sem Sh.bool:=(if (x0.1==3)=true then zbj (2,0,x0.2) else if (x0.1==4)=true then bif (↑(List.length x0.2):Int)==1 then decide (0≤Lib.indexByte [40,41,44,61,60,43,45,42] (List.headD x0.2 0)) else false else if true=true then if (1==x0.1)=true then bif decide ((↑(List.length x0.2):Int) ≥ 1) then bif decide ((↑(List.length x0.2):Int)≤16) then (↑(zaA zaE zbd x0.2):Int)==(↑(List.length x0.2):Int) else false else false else if true=true then if (2==x0.1)=true then bif decide ((↑(List.length x0.2):Int) ≥ 1) then bif decide ((↑(List.length x0.2):Int)≤19) then (↑(zaA zaq zaq x0.2):Int)==(↑(List.length x0.2):Int) else false else false else if false=true then default else false else false else false)
def zjq (x0:Sem zdx):Bool:=(if (x0.1==3)=true then true else if (x0.1==4)=true then if (bif (↑(List.length x0.2):Int)==1 then List.length x0.2==1 else true)=true then true else false else if true=true then if true=true then if (1==x0.1)=true then true else if true=true then if true=true then if (2==x0.1)=true then true else if false=true then false else true else false else true else false else true)
def zQU:zJ:=zG [zdx] [Sh.bool] (fun x=>zjq x.1) fun x=>(zia x.1,())
theorem zL7:FOk (zbr).P (zbr).gl 141 zQU:=by
 refine zT (zK6) fun x hc C hC=>?_
 unfold zjq at hc
 refine zr zd2 zdZ (zK6) (fun id _=>hC id) (zTd x.1) ?_
 generalize hy:zia x.1=y
 unfold zia at hy
 try simp only [ze.eta,zw]
 repeat' (first | with_reducible refine obr hy hc (fun _ hy hc=>?_) (fun _ hy hc=>?_) | with_reducible refine zay hy (fun _ hy=>?_) (fun _ hy=>?_) | with_reducible refine zaZ hc (fun hc=>?_) | with_reducible refine zy ?_)
 all_goals first | (cases hc; done) | (subst hy; first | rfl)

noncomputable def zaJ:Env:=((((((zbr.add 217 zQI).add 201 zSE).add 211 zVq).add 160 F88).add 151 F80).add 141 zQU)
theorem zbz:zi zaJ:=(zi.addS (zi.addS (zi.addS (zi.addS (zi.addS (zi.addS zd2 (zB.refl zbr) zOw) ((zB.refl zbr).add _ _) zNq) (((zB.refl zbr).add _ _).add _ _) zOe) ((((zB.refl zbr).add _ _).add _ _).add _ _) zUF) (((((zB.refl zbr).add _ _).add _ _).add _ _).add _ _) zP8) ((((((zB.refl zbr).add _ _).add _ _).add _ _).add _ _).add _ _) zL7)
theorem zby:zaJ.P.follows .mixedOrders=true:=(zm (zm (zm (zm (zm (zm zdZ _ _) _ _) _ _) _ _) _ _) _ _)
open Go Go.Proofs
set_option maxHeartbeats 4000000

abbrev zWE:Nat→zQ:=fun _=>{ }
theorem zRJ:zF (zaJ).P 157 Tryz.f157 1:=by refine ⟨?_,?_,?_,?_⟩ <;> kernel_rfl
theorem zXZ (x0:Sem Sh.expr):run (zaJ) 0 zWE (Func.results Tryz.f157).toList 400 (zq Tryz.f157) (zp (Func.ntmps Tryz.f157) [zx Sh.expr x0] [])=Tr.ok (zD.ret (AV.bool (bif zgs (zz x0) then true else zc1 (zz x0))) []):=by kernel_rfl
def zkF (x0:Sem Sh.expr):Sem Sh.bool:=(bif zgs x0 then true else zc1 x0)
def F85:zJ:=zaf [Sh.expr] [Sh.bool] fun x=>(zkF x.1,())
theorem zRR:FOk (zaJ).P (zaJ).gl 157 F85:=by
 refine zN (zRJ) fun x C hC=>?_
 refine zr zbz zby (zRJ) (fun id _=>hC id) (zXZ x.1) ?_
 generalize hy:zkF x.1=y
 unfold zkF at hy
 try simp only [ze.eta]
 repeat' (first | with_reducible refine zay hy (fun _ hy=>?_) (fun _ hy=>?_) | with_reducible refine zy ?_)
 all_goals first | (cases hc; done) | (subst hy; first | rfl)

abbrev zWe:Nat→zQ:=fun _=>{ }
theorem zJ4:zF (zaJ).P 191 Tryz.f191 1:=by refine ⟨?_,?_,?_,?_⟩ <;> kernel_rfl
theorem zUZ (x0:Sem zh):run (zaJ) 0 zWe (Func.results Tryz.f191).toList 400 (zq Tryz.f191) (zp (Func.ntmps Tryz.f191) [zx zh x0] [])=Tr.ok (zD.ret (AV.bool (bif zbp x0.1 then bif decide (x0.2.1 ≥ 1) then decide (x0.2.1≤3) else false else false)) []):=by kernel_rfl
def zgH (x0:Sem zh):Sem Sh.bool:=(bif zbp x0.1 then bif decide (x0.2.1 ≥ 1) then decide (x0.2.1≤3) else false else false)
def zSZ:zJ:=zaf [zh] [Sh.bool] fun x=>(zgH x.1,())
theorem zMQ:FOk (zaJ).P (zaJ).gl 191 zSZ:=by
 refine zN (zJ4) fun x C hC=>?_
 refine zr zbz zby (zJ4) (fun id _=>hC id) (zUZ x.1) ?_
 generalize hy:zgH x.1=y
 unfold zgH at hy
 try simp only [ze.eta,zw]
 repeat' (first | with_reducible refine zay hy (fun _ hy=>?_) (fun _ hy=>?_) | with_reducible refine zy ?_)
 all_goals first | (cases hc; done) | (subst hy; first | rfl)

abbrev zTE:Nat→zQ:=fun _=>{ }
theorem zKr:zF (zaJ).P 192 Tryz.f192 1:=by refine ⟨?_,?_,?_,?_⟩ <;> kernel_rfl
theorem zQ5 (x0:Sem zaT):run (zaJ) 0 zTE (Func.results Tryz.f192).toList 400 (zq Tryz.f192) (zp (Func.ntmps Tryz.f192) [zx zaT x0] [])=Tr.ok (zD.ret (AV.bool (bif zbp x0.1 then zbp x0.2 else false)) []):=by kernel_rfl
def zn4 (x0:Sem zaT):Sem Sh.bool:=(bif zbp x0.1 then zbp x0.2 else false)
def zQc:zJ:=zaf [zaT] [Sh.bool] fun x=>(zn4 x.1,())
theorem zL3:FOk (zaJ).P (zaJ).gl 192 zQc:=by
 refine zN (zKr) fun x C hC=>?_
 refine zr zbz zby (zKr) (fun id _=>hC id) (zQ5 x.1) ?_
 generalize hy:zn4 x.1=y
 unfold zn4 at hy
 try simp only [ze.eta,zw]
 repeat' (first | with_reducible refine zay hy (fun _ hy=>?_) (fun _ hy=>?_) | with_reducible refine zy ?_)
 all_goals first | (cases hc; done) | (subst hy; first | rfl)

abbrev zWV:Nat→zQ:=fun _=>{ }
theorem zQh:zF (zaJ).P 155 Tryz.f155 1:=by refine ⟨?_,?_,?_,?_⟩ <;> kernel_rfl
theorem zXY (x0:Sem zan):run (zaJ) 0 zWV (Func.results Tryz.f155).toList 400 (zq Tryz.f155) (zp (Func.ntmps Tryz.f155) [zx zan x0] [])=Tr.ok (zD.ret (AV.bool (bif zbp x0.1 then zc1 (zz x0.2) else false)) []):=by kernel_rfl
def zqW (x0:Sem zan):Sem Sh.bool:=(bif zbp x0.1 then zc1 x0.2 else false)
def F83:zJ:=zaf [zan] [Sh.bool] fun x=>(zqW x.1,())
theorem zQx:FOk (zaJ).P (zaJ).gl 155 F83:=by
 refine zN (zQh) fun x C hC=>?_
 refine zr zbz zby (zQh) (fun id _=>hC id) (zXY x.1) ?_
 generalize hy:zqW x.1=y
 unfold zqW at hy
 try simp only [ze.eta]
 repeat' (first | with_reducible refine zay hy (fun _ hy=>?_) (fun _ hy=>?_) | with_reducible refine zy ?_)
 all_goals first | (cases hc; done) | (subst hy; first | rfl)

abbrev zW0:Nat→zQ:=fun _=>{ }
theorem zUA:zF (zaJ).P 164 Tryz.f164 1:=by refine ⟨?_,?_,?_,?_⟩ <;> kernel_rfl
theorem zWQ (x0:Sem zf):run (zaJ) 0 zW0 (Func.results Tryz.f164).toList 400 (zq Tryz.f164) (zp (Func.ntmps Tryz.f164) [zx zf x0] [])=Tr.br (!zbj x0) (Tr.ok (zD.ret (AV.str []) [])) (Tr.br (x0.1==1) (Tr.chk (10==10) (Tr.ok (zD.ret (AV.str (zn2 x0.2.1)) []))) (Tr.br (x0.1==2) (Tr.chk (zlY x0.2.2 [39] [39,39]) (Tr.chk (decide ([39].length+(Lib.replaceAll x0.2.2 [39] [39,39]).length≤1099511627776)) (Tr.chk (decide (List.length ([39]++Lib.replaceAll x0.2.2 [39] [39,39])+[39].length≤1099511627776)) (Tr.ok (zD.ret (AV.str ([39]++Lib.replaceAll x0.2.2 [39] [39,39]++[39])) []))))) (Tr.br (x0.1==3) (Tr.br (zcp x0==2) (Tr.ok (zD.ret (AV.str [84,82,85,69]) [])) (Tr.ok (zD.ret (AV.str [70,65,76,83,69]) []))) (Tr.ok (zD.ret (AV.str [78,85,76,76]) []))))):=by kernel_rfl
def zfx (x0:Sem zf):Sem Sh.str:=(if (!zbj x0)=true then [] else if (x0.1==1)=true then zn2 x0.2.1 else if (x0.1==2)=true then [39]++Lib.replaceAll x0.2.2 [39] [39,39]++[39] else if (x0.1==3)=true then if (zcp x0==2)=true then [84,82,85,69] else [70,65,76,83,69] else [78,85,76,76])
def zhI (x0:Sem zf):Bool:=(if (!zbj x0)=true then true else if (x0.1==1)=true then if (10==10)=true then true else false else if (x0.1==2)=true then if zlY x0.2.2 [39] [39,39]=true then if decide ([39].length+(Lib.replaceAll x0.2.2 [39] [39,39]).length≤1099511627776)=true then if decide (List.length ([39]++Lib.replaceAll x0.2.2 [39] [39,39])+[39].length≤1099511627776)=true then true else false else false else false else true)
def F92:zJ:=zG [zf] [Sh.str] (fun x=>zhI x.1) fun x=>(zfx x.1,())
theorem zRY:FOk (zaJ).P (zaJ).gl 164 F92:=by
 refine zT (zUA) fun x hc C hC=>?_
 unfold zhI at hc
 refine zr zbz zby (zUA) (fun id _=>hC id) (zWQ x.1) ?_
 generalize hy:zfx x.1=y
 unfold zfx at hy
 try simp only [ze.eta,zw]
 repeat' (first | with_reducible refine obr hy hc (fun _ hy hc=>?_) (fun _ hy hc=>?_) | with_reducible refine zay hy (fun _ hy=>?_) (fun _ hy=>?_) | with_reducible refine zaZ hc (fun hc=>?_) | with_reducible refine zy ?_)
 all_goals first | (cases hc; done) | (subst hy; first | rfl)

abbrev zXw:Nat→zQ:=fun _=>{ }
theorem zUs:zF (zaJ).P 159 Tryz.f159 1:=by refine ⟨?_,?_,?_,?_⟩ <;> kernel_rfl
theorem zWR (x0:Sem zu):run (zaJ) 0 zXw (Func.results Tryz.f159).toList 400 (zq Tryz.f159) (zp (Func.ntmps Tryz.f159) [zx zu x0] [])=Tr.chk (decide (List.length x0.2.1+List.length x0.2.2.1≤1099511627776)) (Tr.chk (decide (List.length (x0.2.1++x0.2.2.1)+List.length x0.2.2.2.2.2.1≤1099511627776)) (Tr.chk (decide (List.length (x0.2.1++x0.2.2.1++x0.2.2.2.2.2.1)+List.length x0.2.2.2.2.2.2.2.2.2.2.2.2≤1099511627776)) (Tr.ok (zD.ret (AV.bool (bif x0.2.1++x0.2.2.1++x0.2.2.2.2.2.1++x0.2.2.2.2.2.2.2.2.2.2.2.2==[] then bif IntKind.i64.wrap (IntKind.i64.wrap (IntKind.i64.wrap (IntKind.i64.wrap (IntKind.i64.wrap ((↑(List.length x0.2.2.2.1):Int)+(↑(List.length x0.2.2.2.2.1):Int))+(↑(List.length x0.2.2.2.2.2.2.1):Int))+(↑(List.length x0.2.2.2.2.2.2.2.1):Int))+(↑(List.length x0.2.2.2.2.2.2.2.2.2.1):Int))+(↑(List.length x0.2.2.2.2.2.2.2.2.2.2.1):Int))==0 then bif zgs (zz x0.2.2.2.2.2.2.2.2.1) then zgs (zz x0.2.2.2.2.2.2.2.2.2.2.2.1) else false else false else false)) [])))):=by kernel_rfl
def zdR (x0:Sem zu):Sem Sh.bool:=(bif x0.2.1++x0.2.2.1++x0.2.2.2.2.2.1++x0.2.2.2.2.2.2.2.2.2.2.2.2==[] then bif IntKind.i64.wrap (IntKind.i64.wrap (IntKind.i64.wrap (IntKind.i64.wrap (IntKind.i64.wrap ((↑(List.length x0.2.2.2.1):Int)+(↑(List.length x0.2.2.2.2.1):Int))+(↑(List.length x0.2.2.2.2.2.2.1):Int))+(↑(List.length x0.2.2.2.2.2.2.2.1):Int))+(↑(List.length x0.2.2.2.2.2.2.2.2.2.1):Int))+(↑(List.length x0.2.2.2.2.2.2.2.2.2.2.1):Int))==0 then bif zgs x0.2.2.2.2.2.2.2.2.1 then zgs x0.2.2.2.2.2.2.2.2.2.2.2.1 else false else false else false)
def zci (x0:Sem zu):Bool:=(if decide (List.length x0.2.1+List.length x0.2.2.1≤1099511627776)=true then if decide (List.length (x0.2.1++x0.2.2.1)+List.length x0.2.2.2.2.2.1≤1099511627776)=true then if decide (List.length (x0.2.1++x0.2.2.1++x0.2.2.2.2.2.1)+List.length x0.2.2.2.2.2.2.2.2.2.2.2.2≤1099511627776)=true then true else false else false else false)
def F87:zJ:=zG [zu] [Sh.bool] (fun x=>zci x.1) fun x=>(zdR x.1,())
theorem zTS:FOk (zaJ).P (zaJ).gl 159 F87:=by
 refine zT (zUs) fun x hc C hC=>?_
 unfold zci at hc
 refine zr zbz zby (zUs) (fun id _=>hC id) (zWR x.1) ?_
 generalize hy:zdR x.1=y
 unfold zdR at hy
 try simp only [ze.eta]
 repeat' (first | with_reducible refine obr hy hc (fun _ hy hc=>?_) (fun _ hy hc=>?_) | with_reducible refine zay hy (fun _ hy=>?_) (fun _ hy=>?_) | with_reducible refine zaZ hc (fun hc=>?_) | with_reducible refine zy ?_)
 all_goals first | (cases hc; done) | (subst hy; first | rfl)

abbrev zWL:Nat→zQ:=fun _=>{ unroll:=true }
theorem zVh:zF (zaJ).P 171 Tryz.f171 1:=by refine ⟨?_,?_,?_,?_⟩ <;> kernel_rfl
theorem zX5 (x0:TS):run (zaJ) 0 zWL (Func.results Tryz.f171).toList 400 (zq Tryz.f171) (zp (Func.ntmps Tryz.f171) [zx Sh.str x0] [])=Tr.br true (Tr.chk true (Tr.br (decide ((↑(zaA zaE zbd x0):Int) > 0)) (Tr.chk (decide (0≤0)&&decide (0≤(↑(zaA zaE zbd x0):Int))&&decide ((↑(zaA zaE zbd x0):Int)≤(↑(List.length x0):Int))) (Tr.ok (zD.ret (AV.tup [AV.agg [ai 1,AV.str (List.take ((↑(zaA zaE zbd x0):Int).toNat - Int.toNat 0) (List.drop (Int.toNat 0) x0))],ai (↑(zaA zaE zbd x0):Int)]) []))) (Tr.br true (Tr.chk true (Tr.br (decide ((↑(zaA zaq zaq x0):Int) > 0)) (Tr.chk (decide (0≤0)&&decide (0≤(↑(zaA zaq zaq x0):Int))&&decide ((↑(zaA zaq zaq x0):Int)≤(↑(List.length x0):Int))) (Tr.ok (zD.ret (AV.tup [AV.agg [ai 2,AV.str (List.take ((↑(zaA zaq zaq x0):Int).toNat - Int.toNat 0) (List.drop (Int.toNat 0) x0))],ai (↑(zaA zaq zaq x0):Int)]) []))) (Tr.br false Tr.err (Tr.chk (inB 0 (List.length x0)) (Tr.br ((↑(List.getD x0 (Int.toNat 0) 0).toNat:Int)==39) (Tr.chk (zfz x0) (Tr.ok (zD.ret (AV.tup [AV.agg [ai (zcn x0).1.1,AV.str (zcn x0).1.2],ai (zcn x0).2]) []))) (Tr.chk (decide (0≤0)&&decide (0≤1)&&decide (1≤(↑(List.length x0):Int))) (Tr.ok (zD.ret (AV.tup
 [AV.agg [ai 4,AV.str (List.take (Int.toNat 1 - Int.toNat 0) (List.drop (Int.toNat 0) x0))],ai 1]) [])))))))) (Tr.chk (inB 0 (List.length x0)) (Tr.br ((↑(List.getD x0 (Int.toNat 0) 0).toNat:Int)==39) (Tr.chk (zfz x0) (Tr.ok (zD.ret (AV.tup [AV.agg [ai (zcn x0).1.1,AV.str (zcn x0).1.2],ai (zcn x0).2]) []))) (Tr.chk (decide (0≤0)&&decide (0≤1)&&decide (1≤(↑(List.length x0):Int))) (Tr.ok (zD.ret (AV.tup [AV.agg [ai 4,AV.str (List.take (Int.toNat 1 - Int.toNat 0) (List.drop (Int.toNat 0) x0))],ai 1]) [])))))))) (Tr.chk (inB 0 (List.length x0)) (Tr.br ((↑(List.getD x0 (Int.toNat 0) 0).toNat:Int)==39) (Tr.chk (zfz x0) (Tr.ok (zD.ret (AV.tup [AV.agg [ai (zcn x0).1.1,AV.str (zcn x0).1.2],ai (zcn x0).2]) []))) (Tr.chk (decide (0≤0)&&decide (0≤1)&&decide (1≤(↑(List.length x0):Int))) (Tr.ok (zD.ret (AV.tup [AV.agg [ai 4,AV.str (List.take (Int.toNat 1 - Int.toNat 0) (List.drop (Int.toNat 0) x0))],ai 1]) []))))):=by kernel_rfl
def zaX (x0:TS):Sem zdx×Sem zg:=(if true=true then if decide ((↑(zaA zaE zbd x0):Int) > 0)=true then ((1,List.take ((↑(zaA zaE zbd x0):Int).toNat - Int.toNat 0) (List.drop (Int.toNat 0) x0)),(↑(zaA zaE zbd x0):Int)) else if true=true then if decide ((↑(zaA zaq zaq x0):Int) > 0)=true then ((2,List.take ((↑(zaA zaq zaq x0):Int).toNat - Int.toNat 0) (List.drop (Int.toNat 0) x0)),(↑(zaA zaq zaq x0):Int)) else if false=true then default else if ((↑(List.getD x0 (Int.toNat 0) 0).toNat:Int)==39)=true then ((zcn x0).1,(zcn x0).2) else ((4,List.take (Int.toNat 1 - Int.toNat 0) (List.drop (Int.toNat 0) x0)),1) else if ((↑(List.getD x0 (Int.toNat 0) 0).toNat:Int)==39)=true then ((zcn x0).1,(zcn x0).2) else ((4,List.take (Int.toNat 1 - Int.toNat 0) (List.drop (Int.toNat 0) x0)),1) else if ((↑(List.getD x0 (Int.toNat 0) 0).toNat:Int)==39)=true then ((zcn x0).1,(zcn x0).2) else ((4,List.take (Int.toNat 1 - Int.toNat 0) (List.drop (Int.toNat 0) x0)),1))
def zfV (x0:TS):Bool:=(if true=true then if true=true then if decide ((↑(zaA zaE zbd x0):Int) > 0)=true then if (decide (0≤0)&&decide (0≤(↑(zaA zaE zbd x0):Int))&&decide ((↑(zaA zaE zbd x0):Int)≤(↑(List.length x0):Int)))=true then true else false else if true=true then if true=true then if decide ((↑(zaA zaq zaq x0):Int) > 0)=true then if (decide (0≤0)&&decide (0≤(↑(zaA zaq zaq x0):Int))&&decide ((↑(zaA zaq zaq x0):Int)≤(↑(List.length x0):Int)))=true then true else false else if false=true then false else if inB 0 (List.length x0)=true then if ((↑(List.getD x0 (Int.toNat 0) 0).toNat:Int)==39)=true then if zfz x0=true then true else false else if (decide (0≤0)&&decide (0≤1)&&decide (1≤(↑(List.length x0):Int)))=true then true else false else false else false else if inB 0 (List.length x0)=true then if ((↑(List.getD x0 (Int.toNat 0) 0).toNat:Int)==39)=true then if zfz x0=true then true else false else if (decide (0≤0)&&decide (0≤1)&&decide (1≤(↑(List.length x0):Int)))=true then true else false else false else false else if inB 0 (List.length x0)=true then if ((↑(List.getD x0 (Int.toNat 0) 0).toNat:Int)==39)=true then if zfz x0=true then true else false else if (decide (0≤0)&&decide (0≤1)&&decide (1≤(↑(List.length x0):Int)))=true then true else false else false)
def F99:zJ:=zG [Sh.str] [zdx,zg] (fun x=>zfV x.1) fun x=>((zaX x.1).1,(zaX x.1).2,())
theorem zTV:FOk (zaJ).P (zaJ).gl 171 F99:=by
 refine zT (zVh) fun x hc C hC=>?_
 unfold zfV at hc
 refine zr zbz zby (zVh) (fun id _=>hC id) (zX5 x.1) ?_
 generalize hy:zaX x.1=y
 unfold zaX at hy
 try simp only [ze.eta,zw]
 repeat' (first | with_reducible refine obr hy hc (fun _ hy hc=>?_) (fun _ hy hc=>?_) | with_reducible refine zay hy (fun _ hy=>?_) (fun _ hy=>?_) | with_reducible refine zaZ hc (fun hc=>?_) | with_reducible refine zy ?_)
 all_goals first | (cases hc; done) | (subst hy; first | rfl)

abbrev zLi:Nat→zQ:=fun j=>if j=3 then { slots:=[1,5,8,9,10],prom:=[(5,none,.str)] } else { }
abbrev zqf (l8:LC) (i9:Int) (i10:Int) (lh_0:LS):St:={ tmps:=[ny,AV.clo (Fn.func 211) [] [],ny,ny,ny,AV.vec 0,ny,ny,AV.sl zh l8,ai i9,ai i10,ny,ny,ny,ny,ny,ny,ny,ny,ny,ny,ny,ny],heap:=[AO.vec Sh.str lh_0] }
theorem zAi:zF (zaJ).P 210 Tryz.f210 2:=by refine ⟨?_,?_,?_,?_⟩ <;> kernel_rfl
theorem zR7 (x0:Sem zh.sl):run (zaJ) 0 zLi (Func.results Tryz.f210).toList 400 (zq Tryz.f210) (zp (Func.ntmps Tryz.f210) [zx zh.sl x0,AV.clo (Fn.func 211) [] []] [])=Tr.ok (zD.head 3 (zA Tryz.f210 3) (zqf x0 (↑(List.length x0):Int) 0 [])):=by kernel_rfl
theorem zBB (l8:LC) (i9:Int) (i10:Int) (lh_0:LS):run (zaJ) 0 zLi (Func.results Tryz.f210).toList 400 (zA Tryz.f210 3) (zqf l8 i9 i10 lh_0)=Tr.br (decide (i10 < i9)) (Tr.chk (inB i10 l8.length) (Tr.chk (zfl (l8.getD i10.toNat (zl zh))) (Tr.chk (decide (lh_0.length+[zcC (l8.getD i10.toNat (zl zh))].length≤1073741824)) (Tr.ok (zD.head 3 (zA Tryz.f210 3) (zqf l8 i9 (IntKind.i64.wrap (i10+1)) (lh_0++[zcC (l8.getD i10.toNat (zl zh))]))))))) (Tr.chk (decide (lh_0.length≤140737488355328)&&decide ((Lib.join lh_0 [32,44,32]).length≤140737488355328)) (Tr.ok (zD.ret (AV.str (Lib.join lh_0 [32,44,32])) []))):=by kernel_rfl
def zbU:List (Sem zh)→Int→List (Sem Sh.str)→Sem Sh.str
 | [],_,lh_0=>(Lib.join lh_0 [32,44,32])
 | x::r,i10,lh_0=>(zbU r (i10+1) (lh_0++[zcC x]))
def zb4:List (Sem zh)→Int→List (Sem Sh.str)→Bool
 | [],_,lh_0=>(if (decide (lh_0.length≤140737488355328)&&decide ((Lib.join lh_0 [32,44,32]).length≤140737488355328))=true then true else false)
 | x::r,i10,lh_0=>(if zfl x=true then if decide (lh_0.length+[zcC x].length≤1073741824)=true then zb4 r (i10+1) (lh_0++[zcC x]) else false
else false)
theorem zH7 {C:Ctx} (hC:∀ id,C.ρ0 id=none) (l8:LC) (hl:l8.length≤zI):∀ (m i:Nat) (lh_0:LS),l8.length - i=m→i≤l8.length→zb4 (l8.drop i) i lh_0=true→
  Reach (zaJ) C 210 (zA Tryz.f210 3) (zqf l8 (l8.length:Int) (i:Int) lh_0) (fun r h=>zac h [Sh.str] r=some (zbU (l8.drop i) i lh_0,())):=by
 intro m
 induction m with
 | zero=>
  intro i lh_0 hm hi hc
  obtain rfl:i=l8.length:=by omega
  rw [List.drop_length] at hc ⊢
  refine zr zbz zby (zAi) (fun id _=>hC id) (zBB _ _ _ _) ?_
  rw [zb4] at hc
  generalize hy:zbU [] _ lh_0=y
  rw [zbU] at hy
  simp only [zP,Tr.val_brF]
  repeat' (first | with_reducible refine obr hy hc (fun _ hy hc=>?_) (fun _ hy hc=>?_) | with_reducible refine zay hy (fun _ hy=>?_) (fun _ hy=>?_) | with_reducible refine zaZ hc (fun hc=>?_) | with_reducible refine zy ?_)
  all_goals first | (cases hc; done) | (subst hy; first | rfl)
 | succ m IH=>
  intro i lh_0 hm hi hc
  have hlt:i < l8.length:=by omega
  have IH:=IH (i+1)
  have hcast:((i:Int)+1)=((i+1:Nat):Int):=by omega
  have hwr:=zH i (by omega)
  rw [List.drop_eq_getElem_cons hlt] at hc ⊢
  refine zr zbz zby (zAi) (fun id _=>hC id) (zBB _ _ _ _) ?_
  rw [zb4] at hc
  generalize hy:zbU (l8[i]::l8.drop (i+1)) (i:Int) lh_0=y
  rw [zbU] at hy
  simp only [zV hlt,zK hlt,zaD l8 _ hlt,hwr,Tr.val_brT,Tr.val_chkT]
  clear hwr
  try simp only [zK hlt] at hy
  simp only [hcast] at hy
  try simp only [zK hlt] at hc
  try simp only [hcast] at hc
  repeat' (first | with_reducible refine obr hy hc (fun _ hy hc=>?_) (fun _ hy hc=>?_) | with_reducible refine zay hy (fun _ hy=>?_) (fun _ hy=>?_) | with_reducible refine zaZ hc (fun hc=>?_) | with_reducible refine zy ?_)
  all_goals first | (cases hc; done) | (subst hy; first | (change Reach _ _ _ _ _ _; apply IH <;> first | omega | assumption) | rfl)
theorem zDK {C:Ctx} (hC:∀ id,C.ρ0 id=none) (l8:LC) (lh_0:LS) (hc:zb4 l8 0 lh_0=true):
  Reach (zaJ) C 210 (zA Tryz.f210 3) (zqf l8 (l8.length:Int) 0 lh_0) (fun r h=>zac h [Sh.str] r=some (zbU l8 0 lh_0,())):=
 Reach.len 8 (zh) l8 rfl fun hl=>zH7 hC l8 hl _ 0 lh_0 rfl (Nat.zero_le _) hc
def zcr (x0:Sem zh.sl):Sem Sh.str:=(zbU x0 0 [])
def zf0 (x0:Sem zh.sl):Bool:=(zb4 x0 0 [])
def zP7:zJ:=zp2 [zh.sl] [Sh.str] [(211,(fun x=>zf0 x.1),fun x=>(zcr x.1,()))]
theorem zM9:FOk (zaJ).P (zaJ).gl 210 zP7:=by
 refine zhP (zAi) fun j c g hm x hc C hC=>?_
 simp only [List.mem_singleton,Prod.mk.injEq] at hm
 obtain ⟨rfl,rfl,rfl⟩:=hm
 replace hc:zf0 x.1=true:=hc
 unfold zf0 at hc
 refine zr zbz zby (zAi) (fun id _=>hC id) (zR7 x.1) ?_
 generalize hy:zcr x.1=y
 unfold zcr at hy
 repeat' (first | with_reducible refine obr hy hc (fun _ hy hc=>?_) (fun _ hy hc=>?_) | with_reducible refine zay hy (fun _ hy=>?_) (fun _ hy=>?_) | with_reducible refine zaZ hc (fun hc=>?_) | with_reducible refine zy ?_)
 all_goals first | (cases hc; done) | (subst hy; first | (change Reach _ _ _ _ _ _; apply zDK hC <;> first | assumption | exact hc) | rfl)

abbrev zSQ:Nat→zQ:=fun j=>if j=3 then { slots:=[1,5,8,9,10],prom:=[(5,none,.str)] } else { }
abbrev zxh (l8:LS) (i9:Int) (i10:Int) (lh_0:LS):St:={ tmps:=[ny,AV.clo (Fn.func 160) [] [],ny,ny,ny,AV.vec 0,ny,ny,AV.sl Sh.str l8,ai i9,ai i10,ny,ny,ny,ny,ny,ny,ny,ny,ny,ny,ny,ny],heap:=[AO.vec Sh.str lh_0] }
theorem zIK:zF (zaJ).P 169 Tryz.f169 2:=by refine ⟨?_,?_,?_,?_⟩ <;> kernel_rfl
theorem zXB (x0:Sem Sh.str.sl):run (zaJ) 0 zSQ (Func.results Tryz.f169).toList 400 (zq Tryz.f169) (zp (Func.ntmps Tryz.f169) [zx Sh.str.sl x0,AV.clo (Fn.func 160) [] []] [])=Tr.ok (zD.head 3 (zA Tryz.f169 3) (zxh x0 (↑(List.length x0):Int) 0 [])):=by kernel_rfl
theorem zEx (l8:LS) (i9:Int) (i10:Int) (lh_0:LS):run (zaJ) 0 zSQ (Func.results Tryz.f169).toList 400 (zA Tryz.f169 3) (zxh l8 i9 i10 lh_0)=Tr.br (decide (i10 < i9)) (Tr.chk (inB i10 l8.length) (Tr.chk (decide (lh_0.length+[zig (l8.getD i10.toNat (zl Sh.str))].length≤1073741824)) (Tr.ok (zD.head 3 (zA Tryz.f169 3) (zxh l8 i9 (IntKind.i64.wrap (i10+1)) (lh_0++[zig (l8.getD i10.toNat (zl Sh.str))])))))) (Tr.chk (decide (lh_0.length≤140737488355328)&&decide ((Lib.join lh_0 [32,44,32]).length≤140737488355328)) (Tr.ok (zD.ret (AV.str (Lib.join lh_0 [32,44,32])) []))):=by kernel_rfl
def zbR:List (Sem Sh.str)→Int→List (Sem Sh.str)→Sem Sh.str
 | [],_,lh_0=>(Lib.join lh_0 [32,44,32])
 | x::r,i10,lh_0=>(zbR r (i10+1) (lh_0++[zig x]))
def zcd:List (Sem Sh.str)→Int→List (Sem Sh.str)→Bool
 | [],_,lh_0=>(if (decide (lh_0.length≤140737488355328)&&decide ((Lib.join lh_0 [32,44,32]).length≤140737488355328))=true then true else false)
 | x::r,i10,lh_0=>(if decide (lh_0.length+[zig x].length≤1073741824)=true then zcd r (i10+1) (lh_0++[zig x]) else false)
theorem zOs {C:Ctx} (hC:∀ id,C.ρ0 id=none) (l8:LS) (hl:l8.length≤zI):∀ (m i:Nat) (lh_0:LS),l8.length - i=m→i≤l8.length→zcd (l8.drop i) i lh_0=true→
  Reach (zaJ) C 169 (zA Tryz.f169 3) (zxh l8 (l8.length:Int) (i:Int) lh_0) (fun r h=>zac h [Sh.str] r=some (zbR (l8.drop i) i lh_0,())):=by
 intro m
 induction m with
 | zero=>
  intro i lh_0 hm hi hc
  obtain rfl:i=l8.length:=by omega
  rw [List.drop_length] at hc ⊢
  refine zr zbz zby (zIK) (fun id _=>hC id) (zEx _ _ _ _) ?_
  rw [zcd] at hc
  generalize hy:zbR [] _ lh_0=y
  rw [zbR] at hy
  simp only [zP,Tr.val_brF]
  repeat' (first | with_reducible refine obr hy hc (fun _ hy hc=>?_) (fun _ hy hc=>?_) | with_reducible refine zay hy (fun _ hy=>?_) (fun _ hy=>?_) | with_reducible refine zaZ hc (fun hc=>?_) | with_reducible refine zy ?_)
  all_goals first | (cases hc; done) | (subst hy; first | rfl)
 | succ m IH=>
  intro i lh_0 hm hi hc
  have hlt:i < l8.length:=by omega
  have IH:=IH (i+1)
  have hcast:((i:Int)+1)=((i+1:Nat):Int):=by omega
  have hwr:=zH i (by omega)
  rw [List.drop_eq_getElem_cons hlt] at hc ⊢
  refine zr zbz zby (zIK) (fun id _=>hC id) (zEx _ _ _ _) ?_
  rw [zcd] at hc
  generalize hy:zbR (l8[i]::l8.drop (i+1)) (i:Int) lh_0=y
  rw [zbR] at hy
  simp only [zV hlt,zK hlt,zaD l8 _ hlt,hwr,Tr.val_brT,Tr.val_chkT]
  clear hwr
  try simp only [zK hlt] at hy
  simp only [hcast] at hy
  try simp only [zK hlt] at hc
  try simp only [hcast] at hc
  repeat' (first | with_reducible refine obr hy hc (fun _ hy hc=>?_) (fun _ hy hc=>?_) | with_reducible refine zay hy (fun _ hy=>?_) (fun _ hy=>?_) | with_reducible refine zaZ hc (fun hc=>?_) | with_reducible refine zy ?_)
  all_goals first | (cases hc; done) | (subst hy; first | (change Reach _ _ _ _ _ _; apply IH <;> first | omega | assumption) | rfl)
theorem zJA {C:Ctx} (hC:∀ id,C.ρ0 id=none) (l8:LS) (lh_0:LS) (hc:zcd l8 0 lh_0=true):
  Reach (zaJ) C 169 (zA Tryz.f169 3) (zxh l8 (l8.length:Int) 0 lh_0) (fun r h=>zac h [Sh.str] r=some (zbR l8 0 lh_0,())):=
 Reach.len 8 (Sh.str) l8 rfl fun hl=>zOs hC l8 hl _ 0 lh_0 rfl (Nat.zero_le _) hc
def zhl (x0:Sem Sh.str.sl):Sem Sh.str:=(zbR x0 0 [])
def zhy (x0:Sem Sh.str.sl):Bool:=(zcd x0 0 [])
def F97:zJ:=zp2 [Sh.str.sl] [Sh.str] [(160,(fun x=>zhy x.1),fun x=>(zhl x.1,()))]
theorem zUh:FOk (zaJ).P (zaJ).gl 169 F97:=by
 refine zhP (zIK) fun j c g hm x hc C hC=>?_
 simp only [List.mem_singleton,Prod.mk.injEq] at hm
 obtain ⟨rfl,rfl,rfl⟩:=hm
 replace hc:zhy x.1=true:=hc
 unfold zhy at hc
 refine zr zbz zby (zIK) (fun id _=>hC id) (zXB x.1) ?_
 generalize hy:zhl x.1=y
 unfold zhl at hy
 repeat' (first | with_reducible refine obr hy hc (fun _ hy hc=>?_) (fun _ hy hc=>?_) | with_reducible refine zay hy (fun _ hy=>?_) (fun _ hy=>?_) | with_reducible refine zaZ hc (fun hc=>?_) | with_reducible refine zy ?_)
 all_goals first | (cases hc; done) | (subst hy; first | (change Reach _ _ _ _ _ _; apply zJA hC <;> first | assumption | exact hc) | rfl)

noncomputable def za7:Env:=(((((((((zaJ.add 157 F85).add 191 zSZ).add 192 zQc).add 155 F83).add 164 F92).add 159 F87).add 171 F99).add 210 zP7).add 169 F97)
theorem zcM:zi za7:=(zi.addS (zi.addS (zi.addS (zi.addS (zi.addS (zi.addS (zi.addS (zi.addS (zi.addS zbz (zB.refl zaJ) zRR) ((zB.refl zaJ).add _ _) zMQ) (((zB.refl zaJ).add _ _).add _ _) zL3) ((((zB.refl zaJ).add _ _).add _ _).add _ _) zQx) (((((zB.refl zaJ).add _ _).add _ _).add _ _).add _ _) zRY) ((((((zB.refl zaJ).add _ _).add _ _).add _ _).add _ _).add _ _) zTS) (((((((zB.refl zaJ).add _ _).add _ _).add _ _).add _ _).add _ _).add _ _) zTV) ((((((((zB.refl zaJ).add _ _).add _ _).add _ _).add _ _).add _ _).add _ _).add _ _) zM9) (((((((((zB.refl zaJ).add _ _).add _ _).add _ _).add _ _).add _ _).add _ _).add _ _).add _ _) zUh)
theorem zcP:za7.P.follows .mixedOrders=true:=(zm (zm (zm (zm (zm (zm (zm (zm (zm zby _ _) _ _) _ _) _ _) _ _) _ _) _ _) _ _) _ _)
open Go Go.Proofs
noncomputable section
set_option maxHeartbeats 4000000

def zSF:zJ:=zai (List.replicate 2 none) (zbx za7 Tryz.f235 (List.replicate 2 none))
theorem zLP:FOk za7.P za7.gl 235 zSF:=zav _ zcM zcP (by refine ⟨?_,?_,?_,?_⟩ <;> kernel_rfl)

def zQA:zJ:=zai (List.replicate 2 none) (zbx za7 Tryz.f237 (List.replicate 2 none))
theorem zOE:FOk za7.P za7.gl 237 zQA:=zav _ zcM zcP (by refine ⟨?_,?_,?_,?_⟩ <;> kernel_rfl)

def zVB:zJ:=zai (List.replicate 2 none) (zbx za7 Tryz.f203 (List.replicate 2 none))
theorem zPv:FOk za7.P za7.gl 203 zVB:=zav _ zcM zcP (by refine ⟨?_,?_,?_,?_⟩ <;> kernel_rfl)

def zRm:zJ:=zai (List.replicate 2 none) (zbx za7 Tryz.f196 (List.replicate 2 none))
theorem zND:FOk za7.P za7.gl 196 zRm:=zav _ zcM zcP (by refine ⟨?_,?_,?_,?_⟩ <;> kernel_rfl)

def zUU:zJ:=zai (List.replicate 2 none) (zbx za7 Tryz.f200 (List.replicate 2 none))
theorem zMg:FOk za7.P za7.gl 200 zUU:=zav _ zcM zcP (by refine ⟨?_,?_,?_,?_⟩ <;> kernel_rfl)

abbrev zU6:Nat→zQ:=fun j=>if j=3 then { slots:=[1,5,8,9,10],prom:=[(5,none,.str)] } else { }
abbrev zxf (l8:LV) (i9:Int) (i10:Int) (lh_0:LS):St:={ tmps:=[ny,AV.clo (Fn.func 164) [] [],ny,ny,ny,AV.vec 0,ny,ny,AV.sl zf l8,ai i9,ai i10,ny,ny,ny,ny,ny,ny,ny,ny,ny,ny,ny,ny],heap:=[AO.vec Sh.str lh_0] }
theorem zIB:zF (za7).P 163 Tryz.f163 2:=by refine ⟨?_,?_,?_,?_⟩ <;> kernel_rfl
theorem zWu (x0:Sem zf.sl):run (za7) 0 zU6 (Func.results Tryz.f163).toList 400 (zq Tryz.f163) (zp (Func.ntmps Tryz.f163) [zx zf.sl x0,AV.clo (Fn.func 164) [] []] [])=Tr.ok (zD.head 3 (zA Tryz.f163 3) (zxf x0 (↑(List.length x0):Int) 0 [])):=by kernel_rfl
theorem zEg (l8:LV) (i9:Int) (i10:Int) (lh_0:LS):run (za7) 0 zU6 (Func.results Tryz.f163).toList 400 (zA Tryz.f163 3) (zxf l8 i9 i10 lh_0)=Tr.br (decide (i10 < i9)) (Tr.chk (inB i10 l8.length) (Tr.chk (zhI (l8.getD i10.toNat (zl zf))) (Tr.chk (decide (lh_0.length+[zfx (l8.getD i10.toNat (zl zf))].length≤1073741824)) (Tr.ok (zD.head 3 (zA Tryz.f163 3) (zxf l8 i9 (IntKind.i64.wrap (i10+1)) (lh_0++[zfx (l8.getD i10.toNat (zl zf))]))))))) (Tr.chk (decide (lh_0.length≤140737488355328)&&decide ((Lib.join lh_0 [32,44,32]).length≤140737488355328)) (Tr.ok (zD.ret (AV.str (Lib.join lh_0 [32,44,32])) []))):=by kernel_rfl
def zbW:List (Sem zf)→Int→List (Sem Sh.str)→Sem Sh.str
 | [],_,lh_0=>(Lib.join lh_0 [32,44,32])
 | x::r,i10,lh_0=>(zbW r (i10+1) (lh_0++[zfx x]))
def zb6:List (Sem zf)→Int→List (Sem Sh.str)→Bool
 | [],_,lh_0=>(if (decide (lh_0.length≤140737488355328)&&decide ((Lib.join lh_0 [32,44,32]).length≤140737488355328))=true then true else false)
 | x::r,i10,lh_0=>(if zhI x=true then if decide (lh_0.length+[zfx x].length≤1073741824)=true then zb6 r (i10+1) (lh_0++[zfx x]) else false else false)
theorem zNG {C:Ctx} (hC:∀ id,C.ρ0 id=none) (l8:LV) (hl:l8.length≤zI):∀ (m i:Nat) (lh_0:LS),l8.length - i=m→i≤l8.length→zb6 (l8.drop i) i lh_0=true→
  Reach (za7) C 163 (zA Tryz.f163 3) (zxf l8 (l8.length:Int) (i:Int) lh_0) (fun r h=>zac h [Sh.str] r=some (zbW (l8.drop i) i lh_0,())):=by
 intro m
 induction m with
 | zero=>
  intro i lh_0 hm hi hc
  obtain rfl:i=l8.length:=by omega
  rw [List.drop_length] at hc ⊢
  refine zr zcM zcP (zIB) (fun id _=>hC id) (zEg _ _ _ _) ?_
  rw [zb6] at hc
  generalize hy:zbW [] _ lh_0=y
  rw [zbW] at hy
  simp only [zP,Tr.val_brF]
  repeat' (first | with_reducible refine obr hy hc (fun _ hy hc=>?_) (fun _ hy hc=>?_) | with_reducible refine zay hy (fun _ hy=>?_) (fun _ hy=>?_) | with_reducible refine zaZ hc (fun hc=>?_) | with_reducible refine zy ?_)
  all_goals first | (cases hc; done) | (subst hy; first | rfl)
 | succ m IH=>
  intro i lh_0 hm hi hc
  have hlt:i < l8.length:=by omega
  have IH:=IH (i+1)
  have hcast:((i:Int)+1)=((i+1:Nat):Int):=by omega
  have hwr:=zH i (by omega)
  rw [List.drop_eq_getElem_cons hlt] at hc ⊢
  refine zr zcM zcP (zIB) (fun id _=>hC id) (zEg _ _ _ _) ?_
  rw [zb6] at hc
  generalize hy:zbW (l8[i]::l8.drop (i+1)) (i:Int) lh_0=y
  rw [zbW] at hy
  simp only [zV hlt,zK hlt,zaD l8 _ hlt,hwr,Tr.val_brT,Tr.val_chkT]
  clear hwr
  try simp only [zK hlt] at hy
  simp only [hcast] at hy
  try simp only [zK hlt] at hc
  try simp only [hcast] at hc
  repeat' (first | with_reducible refine obr hy hc (fun _ hy hc=>?_) (fun _ hy hc=>?_) | with_reducible refine zay hy (fun _ hy=>?_) (fun _ hy=>?_) | with_reducible refine zaZ hc (fun hc=>?_) | with_reducible refine zy ?_)
  all_goals first | (cases hc; done) | (subst hy; first | (change Reach _ _ _ _ _ _; apply IH <;> first | omega | assumption) | rfl)
theorem zH2 {C:Ctx} (hC:∀ id,C.ρ0 id=none) (l8:LV) (lh_0:LS) (hc:zb6 l8 0 lh_0=true):
  Reach (za7) C 163 (zA Tryz.f163 3) (zxf l8 (l8.length:Int) 0 lh_0) (fun r h=>zac h [Sh.str] r=some (zbW l8 0 lh_0,())):=
 Reach.len 8 (zf) l8 rfl fun hl=>zNG hC l8 hl _ 0 lh_0 rfl (Nat.zero_le _) hc
def zg6 (x0:Sem zf.sl):Sem Sh.str:=(zbW x0 0 [])
def zhq (x0:Sem zf.sl):Bool:=(zb6 x0 0 [])
def F91:zJ:=zp2 [zf.sl] [Sh.str] [(164,(fun x=>zhq x.1),fun x=>(zg6 x.1,()))]
theorem zRQ:FOk (za7).P (za7).gl 163 F91:=by
 refine zhP (zIB) fun j c g hm x hc C hC=>?_
 simp only [List.mem_singleton,Prod.mk.injEq] at hm
 obtain ⟨rfl,rfl,rfl⟩:=hm
 replace hc:zhq x.1=true:=hc
 unfold zhq at hc
 refine zr zcM zcP (zIB) (fun id _=>hC id) (zWu x.1) ?_
 generalize hy:zg6 x.1=y
 unfold zg6 at hy
 repeat' (first | with_reducible refine obr hy hc (fun _ hy hc=>?_) (fun _ hy hc=>?_) | with_reducible refine zay hy (fun _ hy=>?_) (fun _ hy=>?_) | with_reducible refine zaZ hc (fun hc=>?_) | with_reducible refine zy ?_)
 all_goals first | (cases hc; done) | (subst hy; first | (change Reach _ _ _ _ _ _; apply zH2 hC <;> first | assumption | exact hc) | rfl)

def ztH (g:Sem Sh.expr→Sem Sh.str) (c:Sem Sh.expr→Bool):Env:=za7.add 251 (zG [Sh.expr] [Sh.str] (fun x=>c x.1) fun x=>(g x.1,()))
theorem zCo {g:Sem Sh.expr→Sem Sh.str} {c:Sem Sh.expr→Bool} (hg:FOk za7.P za7.gl 251 (zG [Sh.expr] [Sh.str] (fun x=>c x.1) fun x=>(g x.1,()))):zi (ztH g c):=zcM.add hg
theorem zCU {g:Sem Sh.expr→Sem Sh.str} {c:Sem Sh.expr→Bool}:(ztH g c).P.follows .mixedOrders=true:=zm zcP _ _
abbrev zNB:Nat→zQ:=fun _=>{ }
theorem zrS (g:Sem Sh.expr→Sem Sh.str) (c:Sem Sh.expr→Bool):zF (ztH g c).P 251 Tryz.f251 1:=by refine ⟨?_,?_,?_,?_⟩ <;> kernel_rfl
theorem zOI (g:Sem Sh.expr→Sem Sh.str) (c:Sem Sh.expr→Bool) (x0:Sem Sh.expr):run (ztH g c) 0 zNB (Func.results Tryz.f251).toList 400 (zq Tryz.f251) (zp (Func.ntmps Tryz.f251) [zx Sh.expr x0] [])=Tr.br (ze.op x0==[108,105,116]) (Tr.chk (zhI (ze.v x0)) (Tr.ok (zD.ret (AV.str (zfx (ze.v x0))) []))) (Tr.br (ze.op x0==[99,111,108]) (Tr.ok (zD.ret (AV.str (ze.s x0)) [])) (Tr.br (ze.op x0==[110,111,116]) (Tr.chk (inB 0 (ze.l x0).length) (Tr.chk (c (zz ((ze.l x0).getD (Int.toNat 0) (zl Sh.expr)))) (Tr.chk (decide ([40,78,79,84,32].length+List.length (g (zz ((ze.l x0).getD (Int.toNat 0) (zl Sh.expr))))≤1099511627776)) (Tr.chk (decide (List.length ([40,78,79,84,32]++g (zz ((ze.l x0).getD (Int.toNat 0) (zl Sh.expr))))+[41].length≤1099511627776)) (Tr.ok (zD.ret (AV.str ([40,78,79,84,32]++g (zz ((ze.l x0).getD (Int.toNat 0) (zl Sh.expr)))++[41])) [])))))) (Tr.br (ze.op x0==[110,117,108,108]) (Tr.chk (inB 0 (ze.l x0).length) (Tr.chk (c (zz ((ze.l x0).getD (Int.toNat 0) (zl Sh.expr)))) (Tr.chk (decide ([40].length+List.length (g (zz ((ze.l x0).getD (Int.toNat 0) (zl Sh.expr))))≤1099511627776)) (Tr.chk (decide (List.length ([40]++g (zz ((ze.l x0).getD (Int.toNat 0) (zl Sh.expr))))+[32,73,83,32,78,85,76,76,41].length≤1099511627776)) (Tr.ok (zD.ret (AV.str ([40]++g
 (zz ((ze.l x0).getD (Int.toNat 0) (zl Sh.expr)))++[32,73,83,32,78,85,76,76,41])) [])))))) (Tr.chk (inB 0 (ze.l x0).length) (Tr.chk (c (zz ((ze.l x0).getD (Int.toNat 0) (zl Sh.expr)))) (Tr.chk (decide ([40].length+List.length (g (zz ((ze.l x0).getD (Int.toNat 0) (zl Sh.expr))))≤1099511627776)) (Tr.chk (decide (List.length ([40]++g (zz ((ze.l x0).getD (Int.toNat 0) (zl Sh.expr))))+[32].length≤1099511627776)) (Tr.chk (decide (List.length (ze.op x0)≤140737488355328)&&List.all (ze.op x0) fun b=>decide (b.toNat < 128)) (Tr.chk (decide (List.length ([40]++g (zz ((ze.l x0).getD (Int.toNat 0) (zl Sh.expr)))++[32])+(Lib.toUpperA (ze.op x0)).length≤1099511627776)) (Tr.chk (decide (List.length ([40]++g (zz ((ze.l x0).getD (Int.toNat 0) (zl Sh.expr)))++[32]++Lib.toUpperA (ze.op x0))+[32].length≤1099511627776)) (Tr.chk (inB 1 (ze.l x0).length) (Tr.chk (c (zz ((ze.l x0).getD (Int.toNat 1) (zl Sh.expr)))) (Tr.chk (decide (List.length ([40]++g (zz ((ze.l x0).getD (Int.toNat 0) (zl Sh.expr)))++[32]++Lib.toUpperA (ze.op x0)++[32])+List.length (g (zz ((ze.l x0).getD (Int.toNat 1) (zl Sh.expr))))≤1099511627776)) (Tr.chk (decide (List.length ([40]++g (zz ((ze.l x0).getD (Int.toNat 0) (zl Sh.expr)))++[32]++Lib.toUpperA (ze.op x0)++[32]++g (zz ((ze.l x0).getD (Int.toNat 1) (zl Sh.expr))))+[41].length≤1099511627776)) (Tr.ok
 (zD.ret (AV.str ([40]++g (zz ((ze.l x0).getD (Int.toNat 0) (zl Sh.expr)))++[32]++Lib.toUpperA (ze.op x0)++[32]++g (zz ((ze.l x0).getD (Int.toNat 1) (zl Sh.expr)))++[41])) [])))))))))))))))):=by kernel_rfl
def zrp (g:Sem Sh.expr→Sem Sh.str) (_:Sem Sh.expr→Bool) (x0:Sem Sh.expr):Sem Sh.str:=(if (ze.op x0==[108,105,116])=true then zfx (ze.v x0) else if (ze.op x0==[99,111,108])=true then ze.s x0 else if (ze.op x0==[110,111,116])=true then [40,78,79,84,32]++g ((ze.l x0).getD (Int.toNat 0) (zl Sh.expr))++[41] else if (ze.op x0==[110,117,108,108])=true then [40]++g ((ze.l x0).getD (Int.toNat 0) (zl Sh.expr))++[32,73,83,32,78,85,76,76,41] else [40]++g ((ze.l x0).getD (Int.toNat 0) (zl Sh.expr))++[32]++Lib.toUpperA (ze.op x0)++[32]++g ((ze.l x0).getD (Int.toNat 1) (zl Sh.expr))++[41])
def zpa (g:Sem Sh.expr→Sem Sh.str) (c:Sem Sh.expr→Bool) (x0:Sem Sh.expr):Bool:=(if (ze.op x0==[108,105,116])=true then if zhI (ze.v x0)=true then true else false else if (ze.op x0==[99,111,108])=true then true else if (ze.op x0==[110,111,116])=true then if inB 0 (ze.l x0).length=true then if c ((ze.l x0).getD (Int.toNat 0) (zl Sh.expr))=true then if decide ([40,78,79,84,32].length+List.length (g ((ze.l x0).getD (Int.toNat 0) (zl Sh.expr)))≤1099511627776)=true then if decide (List.length ([40,78,79,84,32]++g ((ze.l x0).getD (Int.toNat 0) (zl Sh.expr)))+[41].length≤1099511627776)=true then true else false else false else false else false else if (ze.op x0==[110,117,108,108])=true then if inB 0 (ze.l x0).length=true then if c ((ze.l x0).getD (Int.toNat 0) (zl Sh.expr))=true then if decide ([40].length+List.length (g ((ze.l x0).getD (Int.toNat 0) (zl Sh.expr)))≤1099511627776)=true then if decide (List.length ([40]++g ((ze.l x0).getD (Int.toNat 0) (zl Sh.expr)))+[32,73,83,32,78,85,76,76,41].length≤1099511627776)=true then true else false else false else false else false else if inB 0 (ze.l x0).length=true then if c ((ze.l x0).getD (Int.toNat 0) (zl Sh.expr))=true then if decide ([40].length+List.length (g ((ze.l x0).getD (Int.toNat 0) (zl Sh.expr)))≤1099511627776)=true then
 if decide (List.length ([40]++g ((ze.l x0).getD (Int.toNat 0) (zl Sh.expr)))+[32].length≤1099511627776)=true then if (decide (List.length (ze.op x0)≤140737488355328)&&List.all (ze.op x0) fun b=>decide (b.toNat < 128))=true then if decide (List.length ([40]++g ((ze.l x0).getD (Int.toNat 0) (zl Sh.expr))++[32])+(Lib.toUpperA (ze.op x0)).length≤1099511627776)=true then if decide (List.length ([40]++g ((ze.l x0).getD (Int.toNat 0) (zl Sh.expr))++[32]++Lib.toUpperA (ze.op x0))+[32].length≤1099511627776)=true then if inB 1 (ze.l x0).length=true then if c ((ze.l x0).getD (Int.toNat 1) (zl Sh.expr))=true then if decide (List.length ([40]++g ((ze.l x0).getD (Int.toNat 0) (zl Sh.expr))++[32]++Lib.toUpperA (ze.op x0)++[32])+List.length (g ((ze.l x0).getD (Int.toNat 1) (zl Sh.expr)))≤1099511627776)=true then if decide (List.length ([40]++g ((ze.l x0).getD (Int.toNat 0) (zl Sh.expr))++[32]++Lib.toUpperA (ze.op x0)++[32]++g ((ze.l x0).getD (Int.toNat 1) (zl Sh.expr)))+[41].length≤1099511627776)=true then true else false else false else false else false else false else false else false else false else false else false else false)
def zTi (g:Sem Sh.expr→Sem Sh.str) (c:Sem Sh.expr→Bool):zJ:=zG [Sh.expr] [Sh.str] (fun x=>zpa g c x.1) fun x=>(zrp g c x.1,())
theorem zIQ (g:Sem Sh.expr→Sem Sh.str) (c:Sem Sh.expr→Bool) (hg:FOk za7.P za7.gl 251 (zG [Sh.expr] [Sh.str] (fun x=>c x.1) fun x=>(g x.1,()))):FOk (ztH g c).P (ztH g c).gl 251 (zTi g c):=by
 refine zT (zrS g c) fun x hc C hC=>?_
 unfold zpa at hc
 refine zr (zCo hg) zCU (zrS g c) (fun id _=>hC id) (zOI g c x.1) ?_
 generalize hy:zrp g c x.1=y
 unfold zrp at hy
 try simp only [ze.eta]
 repeat' (first | with_reducible refine obr hy hc (fun _ hy hc=>?_) (fun _ hy hc=>?_) | with_reducible refine zay hy (fun _ hy=>?_) (fun _ hy=>?_) | with_reducible refine zaZ hc (fun hc=>?_) | with_reducible refine zy ?_)
 all_goals first | (cases hc; done) | (subst hy; first | rfl)
mutual
def zeB:Nat→Sem Sh.expr→Sem Sh.str
 | 0=>fun _=>default
 | n+1=>zrp (zeB n) (ze9 n)
def ze9:Nat→Sem Sh.expr→Bool
 | 0=>fun _=>false
 | n+1=>zpa (zeB n) (ze9 n)
end
theorem zBk:∀ n,FOk za7.P za7.gl 251 (zG [Sh.expr] [Sh.str] (fun x=>ze9 n x.1) fun x=>(zeB n x.1,()))
 | 0=>zdK ⟨Tryz.f251,(zrS default default).1,(zrS default default).2.1,(zrS default default).2.2.1⟩ (fun _=>rfl)
 | n+1=>zIQ (zeB n) (ze9 n) (zBk n)
def zU9:zJ:=zG [Sh.expr] [Sh.str] (fun x=>ze9 16 x.1) fun x=>(zeB 16 x.1,())
theorem zOr:FOk za7.P za7.gl 251 zU9:=zBk 16

def zaW:Env:=(((((((za7.add 235 zSF).add 237 zQA).add 203 zVB).add 196 zRm).add 200 zUU).add 163 F91).add 251 zU9)
theorem zbB:zi zaW:=(zi.addS (zi.addS (zi.addS (zi.addS (zi.addS (zi.addS (zi.addS zcM (zB.refl za7) zLP) ((zB.refl za7).add _ _) zOE) (((zB.refl za7).add _ _).add _ _) zPv) ((((zB.refl za7).add _ _).add _ _).add _ _) zND) (((((zB.refl za7).add _ _).add _ _).add _ _).add _ _) zMg) ((((((zB.refl za7).add _ _).add _ _).add _ _).add _ _).add _ _) zRQ) (((((((zB.refl za7).add _ _).add _ _).add _ _).add _ _).add _ _).add _ _) zOr)
theorem zbA:zaW.P.follows .mixedOrders=true:=(zm (zm (zm (zm (zm (zm (zm zcP _ _) _ _) _ _) _ _) _ _) _ _) _ _)
end
open Go Go.Proofs
set_option maxHeartbeats 4000000

abbrev zlG (l:LC) (i:Int):St:={ tmps:=[.sl zh l,.clo (.func 235) [] [.ptr 0 0],.any,.any,.any,.any,.any,.int .i64 l.length,.int .i64 i,.any,.any,.any,.any,.any,.any,.any,.any,.any,.any],heap:=[.box [.clo (.func 191) [] []]] }
theorem zCD (l:LC):run zaW 1 zis Tryz.f54.results.toList 300 (zq Tryz.f54) (zp Tryz.f54.ntmps [.sl zh l,.clo (.func 235) [] [.ptr 0 0]] [.box [.clo (.func 191) [] []]])=.ok (.head 2 (zA Tryz.f54 2) (zlG l 0)):=by kernel_rfl
theorem zCb (l:LC) (i:Int):run zaW 1 zis Tryz.f54.results.toList 300 (zA Tryz.f54 2) (zlG l i)=zfp (K:=zA Tryz.f54 2) (e:=zh) l (fun x => !zgH x) (zlG l) [.box [.clo (.func 191) [] []]] i:=by kernel_rfl

theorem zDQ:zF zaW.P 54 Tryz.f54 2:=by refine ⟨?_,?_,?_,?_⟩ <;> kernel_rfl
def zVf:zdS [some (.sl zh),none]:=fun x h=>match x,h with
 | (l,.clo (.func 235) [] [.ptr 0 0],_),[.box [.clo (.func 191) [] []]]=>.ok (.int .i64 (zaa (fun x => !zgH x) l 0),[.box [.clo (.func 191) [] []]])
 | _,_=>.err
def zVg:zJ:=zai [some (.sl zh),none] zVf
theorem zMR:FOk zaW.P zaW.gl 54 zVg:=by
 refine zbC zDQ fun x h0 res hx C hC=>?_
 unfold zVf at hx
 split at hx
 ·rename_i l u
  simp only [Tr.val_ok,Option.some.injEq] at hx
  subst hx
  refine Reach.len 0 zh l rfl fun hl=>?_
  refine zr (n0:=1) zbB zbA zDQ hC (zCD l) ?_
  exact zdg l (fun x => !zgH x) (zlG l) zbB zbA zDQ hC (zCb l) hl _ 0 rfl (Nat.zero_le _)
 ·simp at hx

abbrev zlj (l:List (Sem zaT)) (i:Int):St:={ tmps:=[.sl zaT l,.clo (.func 237) [] [.ptr 0 0],.any,.any,.any,.any,.any,.int .i64 l.length,.int .i64 i,.any,.any,.any,.any,.any,.any,.any,.any,.any,.any],heap:=[.box [.clo (.func 192) [] []]] }
theorem zCm (l:List (Sem zaT)):run zaW 1 zis Tryz.f266.results.toList 300 (zq Tryz.f266) (zp Tryz.f266.ntmps [.sl zaT l,.clo (.func 237) [] [.ptr 0 0]] [.box [.clo (.func 192) [] []]])=.ok (.head 2 (zA Tryz.f266 2) (zlj l 0)):=by kernel_rfl
theorem zCe (l:List (Sem zaT)) (i:Int):run zaW 1 zis Tryz.f266.results.toList 300 (zA Tryz.f266 2) (zlj l i)=zfp (K:=zA Tryz.f266 2) (e:=zaT) l (fun x => !zn4 x) (zlj l) [.box [.clo (.func 192) [] []]] i:=by kernel_rfl

theorem zDD:zF zaW.P 266 Tryz.f266 2:=by refine ⟨?_,?_,?_,?_⟩ <;> kernel_rfl
def zRh:zdS [some (.sl zaT),none]:=fun x h=>match x,h with
 | (l,.clo (.func 237) [] [.ptr 0 0],_),[.box [.clo (.func 192) [] []]]=>.ok (.int .i64 (zaa (fun x => !zn4 x) l 0),[.box [.clo (.func 192) [] []]])
 | _,_=>.err
def zVV:zJ:=zai [some (.sl zaT),none] zRh
theorem zOn:FOk zaW.P zaW.gl 266 zVV:=by
 refine zbC zDD fun x h0 res hx C hC=>?_
 unfold zRh at hx
 split at hx
 ·rename_i l u
  simp only [Tr.val_ok,Option.some.injEq] at hx
  subst hx
  refine Reach.len 0 zaT l rfl fun hl=>?_
  refine zr (n0:=1) zbB zbA zDD hC (zCm l) ?_
  exact zdg l (fun x => !zn4 x) (zlj l) zbB zbA zDD hC (zCe l) hl _ 0 rfl (Nat.zero_le _)
 ·simp at hx

abbrev zlZ (l:LS) (i:Int):St:={ tmps:=[.sl Sh.str l,.clo (.func 203) [] [.ptr 0 0],.any,.any,.any,.any,.any,.int .i64 l.length,.int .i64 i,.any,.any,.any,.any,.any,.any,.any,.any,.any,.any],heap:=[.box [.clo (.func 151) [] []]] }
theorem zCy (l:LS):run zaW 1 zis Tryz.f241.results.toList 300 (zq Tryz.f241) (zp Tryz.f241.ntmps [.sl Sh.str l,.clo (.func 203) [] [.ptr 0 0]] [.box [.clo (.func 151) [] []]])=.ok (.head 2 (zA Tryz.f241 2) (zlZ l 0)):=by kernel_rfl
theorem zCi (l:LS) (i:Int):run zaW 1 zis Tryz.f241.results.toList 300 (zA Tryz.f241 2) (zlZ l i)=zfp (K:=zA Tryz.f241 2) (e:=Sh.str) l (fun x => !zbp x) (zlZ l) [.box [.clo (.func 151) [] []]] i:=by kernel_rfl

theorem zEj:zF zaW.P 241 Tryz.f241 2:=by refine ⟨?_,?_,?_,?_⟩ <;> kernel_rfl
def zQy:zdS [some (.sl Sh.str),none]:=fun x h=>match x,h with
 | (l,.clo (.func 203) [] [.ptr 0 0],_),[.box [.clo (.func 151) [] []]]=>.ok (.int .i64 (zaa (fun x => !zbp x) l 0),[.box [.clo (.func 151) [] []]])
 | _,_=>.err
def zUk:zJ:=zai [some (.sl Sh.str),none] zQy
theorem zO0:FOk zaW.P zaW.gl 241 zUk:=by
 refine zbC zEj fun x h0 res hx C hC=>?_
 unfold zQy at hx
 split at hx
 ·rename_i l u
  simp only [Tr.val_ok,Option.some.injEq] at hx
  subst hx
  refine Reach.len 0 Sh.str l rfl fun hl=>?_
  refine zr (n0:=1) zbB zbA zEj hC (zCy l) ?_
  exact zdg l (fun x => !zbp x) (zlZ l) zbB zbA zEj hC (zCi l) hl _ 0 rfl (Nat.zero_le _)
 ·simp at hx

abbrev zme (l:LV) (i:Int):St:={ tmps:=[.sl zf l,.clo (.func 196) [] [.ptr 0 0],.any,.any,.any,.any,.any,.int .i64 l.length,.int .i64 i,.any,.any,.any,.any,.any,.any,.any,.any,.any,.any],heap:=[.box [.clo (.func 154) [] []]] }
theorem zBO (l:LV):run zaW 1 zis Tryz.f238.results.toList 300 (zq Tryz.f238) (zp Tryz.f238.ntmps [.sl zf l,.clo (.func 196) [] [.ptr 0 0]] [.box [.clo (.func 154) [] []]])=.ok (.head 2 (zA Tryz.f238 2) (zme l 0)):=by kernel_rfl
theorem zB0 (l:LV) (i:Int):run zaW 1 zis Tryz.f238.results.toList 300 (zA Tryz.f238 2) (zme l i)=zfp (K:=zA Tryz.f238 2) (e:=zf) l (fun x => !zbj x) (zme l) [.box [.clo (.func 154) [] []]] i:=by kernel_rfl

theorem zE1:zF zaW.P 238 Tryz.f238 2:=by refine ⟨?_,?_,?_,?_⟩ <;> kernel_rfl
def zPO:zdS [some (.sl zf),none]:=fun x h=>match x,h with
 | (l,.clo (.func 196) [] [.ptr 0 0],_),[.box [.clo (.func 154) [] []]]=>.ok (.int .i64 (zaa (fun x => !zbj x) l 0),[.box [.clo (.func 154) [] []]])
 | _,_=>.err
def zQq:zJ:=zai [some (.sl zf),none] zPO
theorem zLM:FOk zaW.P zaW.gl 238 zQq:=by
 refine zbC zE1 fun x h0 res hx C hC=>?_
 unfold zPO at hx
 split at hx
 ·rename_i l u
  simp only [Tr.val_ok,Option.some.injEq] at hx
  subst hx
  refine Reach.len 0 zf l rfl fun hl=>?_
  refine zr (n0:=1) zbB zbA zE1 hC (zBO l) ?_
  exact zdg l (fun x => !zbj x) (zme l) zbB zbA zE1 hC (zB0 l) hl _ 0 rfl (Nat.zero_le _)
 ·simp at hx

abbrev zlC (l:List (Sem zan)) (i:Int):St:={ tmps:=[.sl zan l,.clo (.func 200) [] [.ptr 0 0],.any,.any,.any,.any,.any,.int .i64 l.length,.int .i64 i,.any,.any,.any,.any,.any,.any,.any,.any,.any,.any],heap:=[.box [.clo (.func 155) [] []]] }
theorem zBV (l:List (Sem zan)):run zaW 1 zis Tryz.f240.results.toList 300 (zq Tryz.f240) (zp Tryz.f240.ntmps [.sl zan l,.clo (.func 200) [] [.ptr 0 0]] [.box [.clo (.func 155) [] []]])=.ok (.head 2 (zA Tryz.f240 2) (zlC l 0)):=by kernel_rfl
theorem zCF (l:List (Sem zan)) (i:Int):run zaW 1 zis Tryz.f240.results.toList 300 (zA Tryz.f240 2) (zlC l i)=zfp (K:=zA Tryz.f240 2) (e:=zan) l (fun x => !zqW x) (zlC l) [.box [.clo (.func 155) [] []]] i:=by kernel_rfl

theorem zHl:zF zaW.P 240 Tryz.f240 2:=by refine ⟨?_,?_,?_,?_⟩ <;> kernel_rfl
def zQ3:zdS [some (.sl zan),none]:=fun x h=>match x,h with
 | (l,.clo (.func 200) [] [.ptr 0 0],_),[.box [.clo (.func 155) [] []]]=>.ok (.int .i64 (zaa (fun x => !zqW x) l 0),[.box [.clo (.func 155) [] []]])
 | _,_=>.err
def zTg:zJ:=zai [some (.sl zan),none] zQ3
theorem zOD:FOk zaW.P zaW.gl 240 zTg:=by
 refine zbC zHl fun x h0 res hx C hC=>?_
 unfold zQ3 at hx
 split at hx
 ·rename_i l u
  simp only [Tr.val_ok,Option.some.injEq] at hx
  subst hx
  refine Reach.len 0 zan l rfl fun hl=>?_
  refine zr (n0:=1) zbB zbA zHl hC (zBV l) ?_
  exact zdg l (fun x => !zqW x) (zlC l) zbB zbA zHl hC (zCF l) hl _ 0 rfl (Nat.zero_le _)
 ·simp at hx

abbrev zV1:Nat→zQ:=fun _=>{ }
theorem zK9:zF (zaW).P 216 Tryz.f216 1:=by refine ⟨?_,?_,?_,?_⟩ <;> kernel_rfl
theorem zR8 (x0:Sem Sh.expr):run (zaW) 0 zV1 (Func.results Tryz.f216).toList 400 (zq Tryz.f216) (zp (Func.ntmps Tryz.f216) [zx Sh.expr x0] [])=Tr.br (!zc1 (zz x0)) (Tr.ok (zD.ret (AV.tup [AV.str [],ai 1]) [])) (Tr.chk (ze9 16 (zz x0)) (Tr.ok (zD.ret (AV.tup [AV.str (zeB 16 (zz x0)),ai 0]) []))):=by kernel_rfl
def ziL (x0:Sem Sh.expr):Sem Sh.str×Sem zg:=(if (!zc1 x0)=true then ([],1) else (zeB 16 x0,0))
def zjj (x0:Sem Sh.expr):Bool:=(if (!zc1 x0)=true then true else if ze9 16 x0=true then true else false)
def zV9:zJ:=zG [Sh.expr] [Sh.str,zg] (fun x=>zjj x.1) fun x=>((ziL x.1).1,(ziL x.1).2,())
theorem zL9:FOk (zaW).P (zaW).gl 216 zV9:=by
 refine zT (zK9) fun x hc C hC=>?_
 unfold zjj at hc
 refine zr zbB zbA (zK9) (fun id _=>hC id) (zR8 x.1) ?_
 generalize hy:ziL x.1=y
 unfold ziL at hy
 try simp only [ze.eta]
 repeat' (first | with_reducible refine obr hy hc (fun _ hy hc=>?_) (fun _ hy hc=>?_) | with_reducible refine zay hy (fun _ hy=>?_) (fun _ hy=>?_) | with_reducible refine zaZ hc (fun hc=>?_) | with_reducible refine zy ?_)
 all_goals first | (cases hc; done) | (subst hy; first | rfl)

abbrev zTy:Nat→zQ:=fun j=>if j=3 then { slots:=[0,4,5],prom:=[(4,none,zdx)] } else { }
abbrev zwG (s0:TS) (i5:Int) (lh_0:LF):St:={ tmps:=[AV.str s0,ny,ny,ny,AV.vec 0,ai i5,ny,ny,ny,ny,ny,ny,ny,ny,ny,ny,ny,ny,ny,ny,ny,ny,ny,ny,ny,ny,ny,ny,ny,ny,ny,ny,ny,ny,ny,ny,ny,ny,ny,ny,ny,ny,ny,ny,ny,ny,ny],heap:=[AO.vec zt lh_0] }
theorem zNr:zF (zaW).P 120 Tryz.f120 1:=by refine ⟨?_,?_,?_,?_⟩ <;> kernel_rfl
theorem zXn (x0:TS):run (zaW) 0 zTy (Func.results Tryz.f120).toList 400 (zq Tryz.f120) (zp (Func.ntmps Tryz.f120) [zx Sh.str x0] [])=Tr.ok (zD.head 3 (zA Tryz.f120 3) (zwG x0 0 [])):=by kernel_rfl
theorem zNW (s0:TS) (i5:Int) (lh_0:LF):run (zaW) 0 zTy (Func.results Tryz.f120).toList 400 (zA Tryz.f120 3) (zwG s0 i5 lh_0)=Tr.br (decide (i5 < (↑(List.length s0):Int))) (Tr.chk (inB i5 (List.length s0)&&bif (↑(List.getD s0 i5.toNat 0).toNat:Int)==32 then true else inB i5 (List.length s0)) (Tr.br (bif (↑(List.getD s0 i5.toNat 0).toNat:Int)==32 then true else (↑(List.getD s0 i5.toNat 0).toNat:Int)==10) (Tr.ok (zD.head 3 (zA Tryz.f120 3) (zwG s0 (IntKind.i64.wrap (i5+1)) lh_0))) (Tr.chk (decide (0≤i5)&&decide (i5≤(↑(List.length s0):Int))&&decide ((↑(List.length s0):Int)≤(↑(List.length s0):Int))) (Tr.chk (zfV (List.take ((↑(List.length s0):Int).toNat - i5.toNat) (List.drop i5.toNat s0))) (Tr.chk (zjq (zaX (List.take ((↑(List.length s0):Int).toNat - i5.toNat) (List.drop i5.toNat s0))).1) (Tr.br (bif !zia (zaX (List.take ((↑(List.length s0):Int).toNat - i5.toNat) (List.drop i5.toNat s0))).1 then true else (↑lh_0.length:Int)==400) (Tr.ok (zD.ret (AV.tup [AV.nils,ai 2]) [])) (Tr.chk (decide (lh_0.length+[(zaX (List.take ((↑(List.length s0):Int).toNat - i5.toNat) (List.drop i5.toNat s0))).1].length≤1073741824)) (Tr.ok (zD.head 3 (zA Tryz.f120 3) (zwG s0 (IntKind.i64.wrap (i5+(zaX (List.take ((↑(List.length s0):Int).toNat - i5.toNat) (List.drop i5.toNat s0))).2))
 (lh_0++[(zaX (List.take ((↑(List.length s0):Int).toNat - i5.toNat) (List.drop i5.toNat s0))).1]))))))))))) (Tr.ok (zD.ret (AV.tup [AV.vec 0,ai 0]) [AO.vec zt lh_0])):=by kernel_rfl
def zpW:Nat→(Sem Sh.str)→Int→(List (Sem zt))→Sem zdx.sl×Sem zg
 | 0,_,_,_=>default
 | n+1,s0,i5,lh_0=>(if decide (i5 < (↑(List.length s0):Int))=true then
 if (bif (↑(List.getD s0 i5.toNat 0).toNat:Int)==32 then true else (↑(List.getD s0 i5.toNat 0).toNat:Int)==10)=true then
  zpW n s0 (IntKind.i64.wrap (i5+1)) lh_0
 else
  if
    (bif !zia (zaX (List.take ((↑(List.length s0):Int).toNat - i5.toNat) (List.drop i5.toNat s0))).1 then true
     else (↑lh_0.length:Int)==400)=
     true then
   ([],2)
  else
   zpW n s0 (IntKind.i64.wrap (i5+(zaX (List.take ((↑(List.length s0):Int).toNat - i5.toNat) (List.drop i5.toNat s0))).2))
    (lh_0++[(zaX (List.take ((↑(List.length s0):Int).toNat - i5.toNat) (List.drop i5.toNat s0))).1])
else (lh_0,0))
def zkY:Nat→(Sem Sh.str)→Int→(List (Sem zt))→Bool
 | 0,_,_,_=>false
 | n+1,s0,i5,lh_0=>(if decide (i5 < (↑(List.length s0):Int))=true then
 if (inB i5 (List.length s0)&&bif (↑(List.getD s0 i5.toNat 0).toNat:Int)==32 then true else inB i5 (List.length s0))=true then
  if (bif (↑(List.getD s0 i5.toNat 0).toNat:Int)==32 then true else (↑(List.getD s0 i5.toNat 0).toNat:Int)==10)=true then
   zkY n s0 (IntKind.i64.wrap (i5+1)) lh_0
  else
   if (decide (0≤i5)&&decide (i5≤(↑(List.length s0):Int))&&decide ((↑(List.length s0):Int)≤(↑(List.length s0):Int)))=true then
    if zfV (List.take ((↑(List.length s0):Int).toNat - i5.toNat) (List.drop i5.toNat s0))=true then
     if zjq (zaX (List.take ((↑(List.length s0):Int).toNat - i5.toNat) (List.drop i5.toNat s0))).1=true then
      if
        (bif !zia (zaX (List.take ((↑(List.length s0):Int).toNat - i5.toNat) (List.drop i5.toNat s0))).1 then true
         else (↑lh_0.length:Int)==400)=
         true then
       true
      else
       if
         decide (lh_0.length+[(zaX (List.take ((↑(List.length s0):Int).toNat - i5.toNat) (List.drop i5.toNat s0))).1].length≤1073741824)=
          true then
        zkY n s0 (IntKind.i64.wrap (i5+(zaX (List.take ((↑(List.length s0):Int).toNat - i5.toNat) (List.drop i5.toNat s0))).2))
         (lh_0++[(zaX (List.take ((↑(List.length s0):Int).toNat - i5.toNat) (List.drop i5.toNat s0))).1])
       else false
     else false
    else false
   else false
 else false
else true)
theorem zDb {C:Ctx} (hC:∀ id,C.ρ0 id=none):∀ (n:Nat) (s0:TS) (i5:Int) (lh_0:LF),zkY n s0 i5 lh_0=true→
  Reach (zaW) C 120 (zA Tryz.f120 3) (zwG s0 i5 lh_0) (fun r h=>zac h [zdx.sl,zg] r=some ((zpW n s0 i5 lh_0).1,(zpW n s0 i5 lh_0).2,()))
 | 0,s0,i5,lh_0,hc=>by cases hc
 | n+1,s0,i5,lh_0,hc=>by
  refine zr zbB zbA (zNr) (fun id _=>hC id) (zNW _ _ _) ?_
  rw [zkY] at hc
  generalize hy:zpW (n+1) s0 i5 lh_0=y
  rw [zpW] at hy
  try simp only [ze.eta,zw]
  repeat' (first | with_reducible refine obr hy hc (fun _ hy hc=>?_) (fun _ hy hc=>?_) | with_reducible refine zay hy (fun _ hy=>?_) (fun _ hy=>?_) | with_reducible refine zaZ hc (fun hc=>?_) | with_reducible refine zy ?_)
  all_goals first | (cases hc; done) | (subst hy; first | (change Reach _ _ _ _ _ _; refine zDb hC n _ _ _ ?_ <;> exact hc) | rfl)
def cut (x0:TS):Sem zdx.sl×Sem zg:=(zpW (List.length x0+1) x0 0 [])
def zFQ (x0:TS):Bool:=(zkY (List.length x0+1) x0 0 [])
def F69:zJ:=zG [Sh.str] [zdx.sl,zg] (fun x=>zFQ x.1) fun x=>((cut x.1).1,(cut x.1).2,())
theorem zVj:FOk (zaW).P (zaW).gl 120 F69:=by
 refine zT (zNr) fun x hc C hC=>?_
 unfold zFQ at hc
 refine zr zbB zbA (zNr) (fun id _=>hC id) (zXn x.1) ?_
 generalize hy:cut x.1=y
 unfold cut at hy
 try simp only [ze.eta,zw]
 repeat' (first | with_reducible refine obr hy hc (fun _ hy hc=>?_) (fun _ hy hc=>?_) | with_reducible refine zay hy (fun _ hy=>?_) (fun _ hy=>?_) | with_reducible refine zaZ hc (fun hc=>?_) | with_reducible refine zy ?_)
 all_goals first | (cases hc; done) | (subst hy; first | (change Reach _ _ _ _ _ _; refine zDb hC _ _ _ _ ?_ <;> exact hc) | rfl)

noncomputable def zcg:Env:=(((((((zaW.add 54 zVg).add 266 zVV).add 241 zUk).add 238 zQq).add 240 zTg).add 216 zV9).add 120 F69)
theorem zeE:zi zcg:=(zi.addS (zi.addS (zi.addS (zi.addS (zi.addS (zi.addS (zi.addS zbB (zB.refl zaW) zMR) ((zB.refl zaW).add _ _) zOn) (((zB.refl zaW).add _ _).add _ _) zO0) ((((zB.refl zaW).add _ _).add _ _).add _ _) zLM) (((((zB.refl zaW).add _ _).add _ _).add _ _).add _ _) zOD) ((((((zB.refl zaW).add _ _).add _ _).add _ _).add _ _).add _ _) zL9) (((((((zB.refl zaW).add _ _).add _ _).add _ _).add _ _).add _ _).add _ _) zVj)
theorem zeY:zcg.P.follows .mixedOrders=true:=(zm (zm (zm (zm (zm (zm (zm zbA _ _) _ _) _ _) _ _) _ _) _ _) _ _)
open Go Go.Proofs
set_option maxHeartbeats 4000000

noncomputable def zR2:zJ:=zai (List.replicate 2 none) (zbx zcg Tryz.f234 (List.replicate 2 none))
theorem zOZ:FOk zcg.P zcg.gl 234 zR2:=zav _ zeE zeY (by refine ⟨?_,?_,?_,?_⟩ <;> kernel_rfl)

noncomputable def zU0:zJ:=zai (List.replicate 2 none) (zbx zcg Tryz.f236 (List.replicate 2 none))
theorem zMz:FOk zcg.P zcg.gl 236 zU0:=zav _ zeE zeY (by refine ⟨?_,?_,?_,?_⟩ <;> kernel_rfl)

noncomputable def zTf:zJ:=zai (List.replicate 2 none) (zbx zcg Tryz.f202 (List.replicate 2 none))
theorem zNU:FOk zcg.P zcg.gl 202 zTf:=zav _ zeE zeY (by refine ⟨?_,?_,?_,?_⟩ <;> kernel_rfl)

noncomputable def zVa:zJ:=zai (List.replicate 2 none) (zbx zcg Tryz.f195 (List.replicate 2 none))
theorem zMC:FOk zcg.P zcg.gl 195 zVa:=zav _ zeE zeY (by refine ⟨?_,?_,?_,?_⟩ <;> kernel_rfl)

noncomputable def zQF:zJ:=zai (List.replicate 2 none) (zbx zcg Tryz.f199 (List.replicate 2 none))
theorem zMF:FOk zcg.P zcg.gl 199 zQF:=zav _ zeE zeY (by refine ⟨?_,?_,?_,?_⟩ <;> kernel_rfl)

abbrev zXb:Nat→zQ:=fun _=>{ }
theorem zTu:zF (zcg).P 166 Tryz.f166 1:=by refine ⟨?_,?_,?_,?_⟩ <;> kernel_rfl
theorem zXl (x0:Sem Sh.expr):run (zcg) 0 zXb (Func.results Tryz.f166).toList 400 (zq Tryz.f166) (zp (Func.ntmps Tryz.f166) [zx Sh.expr x0] [])=Tr.chk (zjj (zz x0)) (Tr.ok (zD.ret (AV.str (ziL (zz x0)).1) [])):=by kernel_rfl
def zbZ (x0:Sem Sh.expr):Sem Sh.str:=((ziL x0).1)
def zed (x0:Sem Sh.expr):Bool:=(if zjj x0=true then true else false)
def F94:zJ:=zG [Sh.expr] [Sh.str] (fun x=>zed x.1) fun x=>(zbZ x.1,())
theorem zQv:FOk (zcg).P (zcg).gl 166 F94:=by
 refine zT (zTu) fun x hc C hC=>?_
 unfold zed at hc
 refine zr zeE zeY (zTu) (fun id _=>hC id) (zXl x.1) ?_
 generalize hy:zbZ x.1=y
 unfold zbZ at hy
 try simp only [ze.eta]
 repeat' (first | with_reducible refine obr hy hc (fun _ hy hc=>?_) (fun _ hy hc=>?_) | with_reducible refine zay hy (fun _ hy=>?_) (fun _ hy=>?_) | with_reducible refine zaZ hc (fun hc=>?_) | with_reducible refine zy ?_)
 all_goals first | (cases hc; done) | (subst hy; first | rfl)

noncomputable def zbh:Env:=((((((zcg.add 234 zR2).add 236 zU0).add 202 zTf).add 195 zVa).add 199 zQF).add 166 F94)
theorem zdn:zi zbh:=(zi.addS (zi.addS (zi.addS (zi.addS (zi.addS (zi.addS zeE (zB.refl zcg) zOZ) ((zB.refl zcg).add _ _) zMz) (((zB.refl zcg).add _ _).add _ _) zNU) ((((zB.refl zcg).add _ _).add _ _).add _ _) zMC) (((((zB.refl zcg).add _ _).add _ _).add _ _).add _ _) zMF) ((((((zB.refl zcg).add _ _).add _ _).add _ _).add _ _).add _ _) zQv)
theorem zdt:zbh.P.follows .mixedOrders=true:=(zm (zm (zm (zm (zm (zm zeY _ _) _ _) _ _) _ _) _ _) _ _)
open Go Go.Proofs
set_option maxHeartbeats 4000000

noncomputable def zQm:zJ:=zai (List.replicate 4 none) (zbx zbh Tryz.f193 (List.replicate 4 none))
theorem zLK:FOk zbh.P zbh.gl 193 zQm:=zav _ zdn zdt (by refine ⟨?_,?_,?_,?_⟩ <;> kernel_rfl)

noncomputable def zTC:zJ:=zai (List.replicate 4 none) (zbx zbh Tryz.f194 (List.replicate 4 none))
theorem zOy:FOk zbh.P zbh.gl 194 zTC:=zav _ zdn zdt (by refine ⟨?_,?_,?_,?_⟩ <;> kernel_rfl)

noncomputable def F86:zJ:=zai (List.replicate 4 none) (zbx zbh Tryz.f158 (List.replicate 4 none))
theorem zS3:FOk zbh.P zbh.gl 158 F86:=zav _ zdn zdt (by refine ⟨?_,?_,?_,?_⟩ <;> kernel_rfl)

noncomputable def F82:zJ:=zai (List.replicate 4 none) (zbx zbh Tryz.f153 (List.replicate 4 none))
theorem zUD:FOk zbh.P zbh.gl 153 F82:=zav _ zdn zdt (by refine ⟨?_,?_,?_,?_⟩ <;> kernel_rfl)

noncomputable def F84:zJ:=zai (List.replicate 4 none) (zbx zbh Tryz.f156 (List.replicate 4 none))
theorem zUv:FOk zbh.P zbh.gl 156 F84:=zav _ zdn zdt (by refine ⟨?_,?_,?_,?_⟩ <;> kernel_rfl)

abbrev zXh:Nat→zQ:=fun _=>{ }
theorem zRM:zF (zbh).P 168 Tryz.f168 1:=by refine ⟨?_,?_,?_,?_⟩ <;> kernel_rfl
theorem zXL (x0:Sem Sh.expr):run (zbh) 0 zXh (Func.results Tryz.f168).toList 400 (zq Tryz.f168) (zp (Func.ntmps Tryz.f168) [zx Sh.expr x0] [])=Tr.br (zgs (zz x0)) (Tr.ok (zD.ret (AV.str []) [])) (Tr.chk (zed (zz x0)) (Tr.chk (decide ([32,87,72,69,82,69,32].length+List.length (zbZ (zz x0))≤1099511627776)) (Tr.ok (zD.ret (AV.str ([32,87,72,69,82,69,32]++zbZ (zz x0))) [])))):=by kernel_rfl
def zsC (x0:Sem Sh.expr):Sem Sh.str:=(if zgs x0=true then [] else [32,87,72,69,82,69,32]++zbZ x0)
def zpk (x0:Sem Sh.expr):Bool:=(if zgs x0=true then true else if zed x0=true then if decide ([32,87,72,69,82,69,32].length+List.length (zbZ x0)≤1099511627776)=true then true else false else false)
def F96:zJ:=zG [Sh.expr] [Sh.str] (fun x=>zpk x.1) fun x=>(zsC x.1,())
theorem zQg:FOk (zbh).P (zbh).gl 168 F96:=by
 refine zT (zRM) fun x hc C hC=>?_
 unfold zpk at hc
 refine zr zdn zdt (zRM) (fun id _=>hC id) (zXL x.1) ?_
 generalize hy:zsC x.1=y
 unfold zsC at hy
 try simp only [ze.eta]
 repeat' (first | with_reducible refine obr hy hc (fun _ hy hc=>?_) (fun _ hy hc=>?_) | with_reducible refine zay hy (fun _ hy=>?_) (fun _ hy=>?_) | with_reducible refine zaZ hc (fun hc=>?_) | with_reducible refine zy ?_)
 all_goals first | (cases hc; done) | (subst hy; first | rfl)

abbrev zWU:Nat→zQ:=fun _=>{ }
theorem zQu:zF (zbh).P 170 Tryz.f170 2:=by refine ⟨?_,?_,?_,?_⟩ <;> kernel_rfl
theorem zXA (x0:TS) (x1:Sem Sh.expr):run (zbh) 0 zWU (Func.results Tryz.f170).toList 400 (zq Tryz.f170) (zp (Func.ntmps Tryz.f170) [zx Sh.str x0,zx Sh.expr x1] [])=Tr.br (zgs (zz x1)) (Tr.ok (zD.ret (AV.str []) [])) (Tr.chk (decide (List.length x0+[67,72,69,67,75,32,40,32].length≤1099511627776)) (Tr.chk (zed (zz x1)) (Tr.chk (decide (List.length (x0++[67,72,69,67,75,32,40,32])+List.length (zbZ (zz x1))≤1099511627776)) (Tr.chk (decide (List.length (x0++[67,72,69,67,75,32,40,32]++zbZ (zz x1))+[32,41].length≤1099511627776)) (Tr.ok (zD.ret (AV.str (x0++[67,72,69,67,75,32,40,32]++zbZ (zz x1)++[32,41])) [])))))):=by kernel_rfl
def zfu (x0:TS) (x1:Sem Sh.expr):Sem Sh.str:=(if zgs x1=true then [] else x0++[67,72,69,67,75,32,40,32]++zbZ x1++[32,41])
def zhE (x0:TS) (x1:Sem Sh.expr):Bool:=(if zgs x1=true then true else if decide (List.length x0+[67,72,69,67,75,32,40,32].length≤1099511627776)=true then if zed x1=true then if decide (List.length (x0++[67,72,69,67,75,32,40,32])+List.length (zbZ x1)≤1099511627776)=true then if decide (List.length (x0++[67,72,69,67,75,32,40,32]++zbZ x1)+[32,41].length≤1099511627776)=true then true else false else false else false else false)
def F98:zJ:=zG [Sh.str,Sh.expr] [Sh.str] (fun x=>zhE x.1 x.2.1) fun x=>(zfu x.1 x.2.1,())
theorem zR6:FOk (zbh).P (zbh).gl 170 F98:=by
 refine zT (zQu) fun x hc C hC=>?_
 unfold zhE at hc
 refine zr zdn zdt (zQu) (fun id _=>hC id) (zXA x.1 x.2.1) ?_
 generalize hy:zfu x.1 x.2.1=y
 unfold zfu at hy
 try simp only [ze.eta]
 repeat' (first | with_reducible refine obr hy hc (fun _ hy hc=>?_) (fun _ hy hc=>?_) | with_reducible refine zay hy (fun _ hy=>?_) (fun _ hy=>?_) | with_reducible refine zaZ hc (fun hc=>?_) | with_reducible refine zy ?_)
 all_goals first | (cases hc; done) | (subst hy; first | rfl)

abbrev zWx:Nat→zQ:=fun _=>{ }
theorem zUK:zF (zbh).P 165 Tryz.f165 1:=by refine ⟨?_,?_,?_,?_⟩ <;> kernel_rfl
theorem zXd (x0:Sem zan):run (zbh) 0 zWx (Func.results Tryz.f165).toList 400 (zq Tryz.f165) (zp (Func.ntmps Tryz.f165) [zx zan x0] [])=Tr.chk (decide (List.length x0.1+[32,61,32].length≤1099511627776)) (Tr.chk (zed (zz x0.2)) (Tr.chk (decide (List.length (x0.1++[32,61,32])+List.length (zbZ (zz x0.2))≤1099511627776)) (Tr.ok (zD.ret (AV.str (x0.1++[32,61,32]++zbZ (zz x0.2))) [])))):=by kernel_rfl
def zc0 (x0:Sem zan):Sem Sh.str:=(x0.1++[32,61,32]++zbZ x0.2)
def zf4 (x0:Sem zan):Bool:=(if decide (List.length x0.1+[32,61,32].length≤1099511627776)=true then if zed x0.2=true then if decide (List.length (x0.1++[32,61,32])+List.length (zbZ x0.2)≤1099511627776)=true then true else false else false else false)
def F93:zJ:=zG [zan] [Sh.str] (fun x=>zf4 x.1) fun x=>(zc0 x.1,())
theorem zU1:FOk (zbh).P (zbh).gl 165 F93:=by
 refine zT (zUK) fun x hc C hC=>?_
 unfold zf4 at hc
 refine zr zdn zdt (zUK) (fun id _=>hC id) (zXd x.1) ?_
 generalize hy:zc0 x.1=y
 unfold zc0 at hy
 try simp only [ze.eta]
 repeat' (first | with_reducible refine obr hy hc (fun _ hy hc=>?_) (fun _ hy hc=>?_) | with_reducible refine zay hy (fun _ hy=>?_) (fun _ hy=>?_) | with_reducible refine zaZ hc (fun hc=>?_) | with_reducible refine zy ?_)
 all_goals first | (cases hc; done) | (subst hy; first | rfl)

noncomputable def zcl:Env:=((((((((zbh.add 193 zQm).add 194 zTC).add 158 F86).add 153 F82).add 156 F84).add 168 F96).add 170 F98).add 165 F93)
theorem zcO:zi zcl:=(zi.addS (zi.addS (zi.addS (zi.addS (zi.addS (zi.addS (zi.addS (zi.addS zdn (zB.refl zbh) zLK) ((zB.refl zbh).add _ _) zOy) (((zB.refl zbh).add _ _).add _ _) zS3) ((((zB.refl zbh).add _ _).add _ _).add _ _) zUD) (((((zB.refl zbh).add _ _).add _ _).add _ _).add _ _) zUv) ((((((zB.refl zbh).add _ _).add _ _).add _ _).add _ _).add _ _) zQg) (((((((zB.refl zbh).add _ _).add _ _).add _ _).add _ _).add _ _).add _ _) zR6) ((((((((zB.refl zbh).add _ _).add _ _).add _ _).add _ _).add _ _).add _ _).add _ _) zU1)
theorem zcQ:zcl.P.follows .mixedOrders=true:=(zm (zm (zm (zm (zm (zm (zm (zm zdt _ _) _ _) _ _) _ _) _ _) _ _) _ _) _ _)
end Cad
