/- Plans: what is named: always an answer. Plans: copies, groups, joins: always an answer. Few of anything: always an answer, and a short one. Tables with rows that may be: no value twice. Tables with rows that may be. Bases that may be. Plans: the whole: always an answer, and what one that is made has. A plan hangs on schemas alone: of a base without rows it is the same. The document's reader: letters, words. -/
import Derived.Test.YtfgnbipebgibeaaGreatDoorG13
import Derived.Test.YtfgnbipebgibeaaGreatDoorG12
import Derived.Test.YtfgnbipebgibeaaGreatDoorG06
namespace Cad
open Go Go.Proofs
set_option maxHeartbeats 4000000

theorem zuh (t:Sem zn) (s:Str):zbF t s=(-1:Int)∨((0:Int)≤zbF t s∧LT.lt (α:=Int) (zbF t s) (List.length t.2.1)):=by
 have:=zeq (fun c:Sem zh=>c.1==s) t.2.1 0
 unfold zbF
 simpa using this

theorem zso {t:Sem zn} {s:Str} (h:¬ LT.lt (α:=Int) (zbF t s) 0):inB (zbF t s) (List.length t.2.1)=true:=by
 rcases zuh t s with h1 | ⟨h1,h2⟩
 ·rw [h1] at h; simp at h
 ·simp only [inB,Bool.and_eq_true,decide_eq_true_eq]; exact ⟨h1,h2⟩

theorem zkw {α:Type} {l:List α} {i:Nat} (h:i < l.length):l.take (i+1)=l.take i++[l[i]]:=by
 rw [List.take_add_one,List.getElem?_eq_getElem h]
 rfl

def zzV (y:zj zal) (z:zj zbO):Prop:=z.1=y.1∧z.2.1=y.2.1∧z.2.2.1=y.2.2.1∧z.2.2.2.1=y.2.2.2.1∧z.2.2.2.2.1=y.2.2.2.2.1∧z.2.2.2.2.2.1=y.2.2.2.2.2.1∧z.2.2.2.2.2.2.1=y.2.2.2.2.2.2.1∧z.2.2.2.2.2.2.2.1=y.2.2.2.2.2.2.2.1∧
 z.2.2.2.2.2.2.2.2.2.1=y.2.2.2.2.2.2.2.2.1∧z.2.2.2.2.2.2.2.2.2.2.1=y.2.2.2.2.2.2.2.2.2.1∧z.2.2.2.2.2.2.2.2.2.2.2.2=y.2.2.2.2.2.2.2.2.2.2

abbrev zee (z:zj zbO):List (Sem zh):=z.2.2.2.2.2.2.2.2.1
abbrev zea (z:zj zbO):List (Sem zg):=z.2.2.2.2.2.2.2.2.2.2.2.1

def NmI (y:zj zal) (l:List Str) (z:zj zbO):Prop:=zzV y z∧zea z=l.map (fun s=>zbF y.2.2.1 s)∧zee z=l.map (fun s=>List.getD y.2.2.1.2.1 (Int.toNat (zbF y.2.2.1 s)) (zl zh))∧∀ s∈l,¬ LT.lt (α:=Int) (zbF y.2.2.1 s) 0

def NmR (y:zj zal) (r:Raw):Prop:=∃ (e:Int) (z:zj zbO),r=(.int .i64 e,zY zX z)∧zzV y z∧(e=0→NmI y y.2.1.2.2.2.1 z)

theorem zSL (y:zj zal) (z:zj zbO) (hz:NmI y y.2.1.2.2.2.1 z) (hl:(zea z).length≤1000000) (m:Nat):∀ (i n:Nat),(zea z).length - i=m→i≤(zea z).length→1+m≤n→∃ r,zb8 zgu n (.h12b ((zea z).length:Int) (i:Int) z)=some r∧NmR y r:=by
 intro i n hm hi hn
 refine zdf (t:=zgu) (β:=Unit) (zea z).length (fun _ i=>.h12b ((zea z).length:Int) (i:Int) z) (fun _ _=>True) (NmR y) 1 ?_ ?_ m i () n hm hi trivial hn
 ·intro b i hi _
  have hd:(decide (0≤0)&&decide ((0:Int)≤(i:Int))&&decide ((i:Int)≤((zea z).length:Int)))=true:=by simp; omega
  simp only [zgu,zmx,zjk,Tr.val,zV hi,zK hi,if_true,hd]
  rw [zH i (by unfold zI; omega)]
  split
  ·exact Or.inr ⟨_,rfl,7,z,rfl,hz.1,fun h=>by cases h⟩
  ·exact Or.inl ⟨(),trivial,rfl⟩
 ·intro b n _ hn
  obtain ⟨n,rfl⟩:∃ k,n=k+1:=⟨n - 1,by omega⟩
  rw [zcm]
  simp only [zgu,zmx,zjk,Tr.val,zP]
  exact ⟨_,rfl,0,z,rfl,hz.1,fun _=>hz⟩

theorem zX1 (y:zj zal) (z:zj zbO) (hz:NmI y y.2.1.2.2.2.1 z) (hl:(zea z).length≤1000000) (n:Nat) (hn:2+(zea z).length≤n):∃ r,zb8 zgu n (.h12 ((zea z).length:Int) 0 z)=some r∧NmR y r:=by
 obtain ⟨n,rfl⟩:∃ k,n=k+1:=⟨n - 1,by omega⟩
 rw [zcm]
 by_cases h:0 < (zea z).length
 ·have hd:(decide (0≤0)&&decide ((0:Int)≤((0:Nat):Int))&&decide (((0:Nat):Int)≤((zea z).length:Int)))=true:=by simp
  have hv:(∃ r,(zgu (.h12 ((zea z).length:Int) ((0:Nat):Int) z)).val=some (.inr r)∧NmR y r)∨(zgu (.h12 ((zea z).length:Int) ((0:Nat):Int) z)).val=some (.inl (.h12b ((zea z).length:Int) ((1:Nat):Int) z)):=by
   simp only [zgu,zo2,zlc,Tr.val,zV h,zK h,ztw h,if_true,hd]
   rw [zH 0 (by unfold zI; omega)]
   split
   ·exact Or.inl ⟨_,rfl,7,z,rfl,hz.1,fun h=>by cases h⟩
   ·exact Or.inr rfl
  rw [Int.ofNat_zero] at hv
  rcases hv with ⟨r,h1,h2⟩ | h1
  ·rw [h1]; exact ⟨r,rfl,h2⟩
  ·rw [h1]; exact zSL y z hz hl _ 1 n rfl (by omega) (by omega)
 ·have h0:(zea z).length=0:=by omega
  have hv:(zgu (.h12 ((zea z).length:Int) 0 z)).val=some (.inr (.int .i64 0,zY zX z)):=by
   rw [h0]
   simp [zgu,zo2,zlc,Tr.val]
  rw [hv]
  exact ⟨_,rfl,0,z,rfl,hz.1,fun _=>hz⟩

theorem nm3 (y:zj zal) (z:zj zbO) (hz:NmI y [] z) (hl:y.2.1.2.2.2.1.length≤1000000) (n:Nat) (hn:3+y.2.1.2.2.2.1.length+y.2.1.2.2.2.1.length≤n):∃ r,zb8 zgu n (.h3 y.2.1.2.2.2.1 (y.2.1.2.2.2.1.length:Int) 0 z)=some r∧NmR y r:=by
  refine zdf (t:=zgu) (β:=zj zbO) y.2.1.2.2.2.1.length (fun z i=>.h3 y.2.1.2.2.2.1 (y.2.1.2.2.2.1.length:Int) (i:Int) z) (fun z i=>NmI y (y.2.1.2.2.2.1.take i) z) (NmR y) (3+y.2.1.2.2.2.1.length) ?_ ?_ y.2.1.2.2.2.1.length 0 z n rfl (Nat.zero_le _) (by simpa using hz) hn
  · intro z i hi hI
    obtain ⟨hk,hx,hc,hp⟩:=hI
    have hkl:(zea z).length≤1000000:=by rw [hx,List.length_map,List.length_take]; omega
    have hcl:(zee z).length≤1000000:=by rw [hc,List.length_map,List.length_take]; omega
    have e3:z.2.2.1=y.2.2.1:=hk.2.2.1
    simp only [zgu,zvA,zoo,Tr.val,zV hi,zK hi,if_true,zl2 _ _ hi,zw,Prod.eta]
    rw [zH i (by unfold zI; omega)]
    by_cases c1:LT.lt (α:=Int) (zbF z.2.2.1 y.2.1.2.2.2.1[i]) 0
    · simp only [decide_eq_true c1,if_true]
      exact Or.inr ⟨_,rfl,4,z,rfl,hk,fun h=>by cases h⟩
    · simp only [decide_eq_false c1,zso c1]
      refine Or.inl ⟨(z.1,z.2.1,z.2.2.1,z.2.2.2.1,z.2.2.2.2.1,z.2.2.2.2.2.1,z.2.2.2.2.2.2.1,z.2.2.2.2.2.2.2.1,z.2.2.2.2.2.2.2.2.1++[List.getD z.2.2.1.2.1 (Int.toNat (zbF z.2.2.1 y.2.1.2.2.2.1[i])) (zl zh)],z.2.2.2.2.2.2.2.2.2.1,z.2.2.2.2.2.2.2.2.2.2.1,z.2.2.2.2.2.2.2.2.2.2.2.1++[zbF z.2.2.1 y.2.1.2.2.2.1[i]],z.2.2.2.2.2.2.2.2.2.2.2.2),⟨hk,?_,?_,?_⟩,?_⟩
      rotate_left 3
      · rw [if_neg (by simp),if_pos (by have:z.2.2.2.2.2.2.2.2.2.2.2.1.length≤1000000:=hkl; simp; omega),if_pos trivial,if_pos (by have:z.2.2.2.2.2.2.2.2.1.length≤1000000:=hcl; simp; omega)]
      · show zea z++[zbF z.2.2.1 y.2.1.2.2.2.1[i]]=_
        rw [hx,e3,zkw hi,List.map_append]
        rfl
      · show zee z++[List.getD z.2.2.1.2.1 (Int.toNat (zbF z.2.2.1 y.2.1.2.2.2.1[i])) (zl zh)]=_
        rw [hc,e3,zkw hi,List.map_append]
        rfl
      · intro s hs
        rw [zkw hi,List.mem_append] at hs
        rcases hs with hs | hs
        · exact hp s hs
        · rw [List.mem_singleton] at hs
          rw [hs,← e3]; exact c1
  · intro z n hI hn
    obtain ⟨n,rfl⟩:∃ k,n=k+1:=⟨n - 1,by omega⟩
    rw [List.take_length] at hI
    have hkl:(zea z).length=y.2.1.2.2.2.1.length:=by rw [hI.2.1,List.length_map]
    rw [zcm]
    simp only [zgu,zvA,zoo,Tr.val,zP]
    exact zX1 y z hI (by omega) n (by have:2+(zea z).length≤n:=by rw [hkl]; omega
                                      exact this)

theorem zsN (y:zj zal) (hl:y.2.1.2.2.2.1.length≤1000000):∃ (e:Int) (z:zj zbO),zgw y=some ((e,()),z)∧zzV y z∧(e=0→NmI y y.2.1.2.2.2.1 z):=by
 obtain ⟨r,h1,e,z,rfl,h2⟩:=nm3 y (y.1,y.2.1,y.2.2.1,y.2.2.2.1,y.2.2.2.2.1,y.2.2.2.2.2.1,y.2.2.2.2.2.2.1,y.2.2.2.2.2.2.2.1,[],y.2.2.2.2.2.2.2.2.1,y.2.2.2.2.2.2.2.2.2.1,[],y.2.2.2.2.2.2.2.2.2.2)
  ⟨⟨rfl,rfl,rfl,rfl,rfl,rfl,rfl,rfl,rfl,rfl,rfl⟩,rfl,rfl,by simp⟩ hl 100000000 (by omega)
 refine ⟨e,z,?_,h2⟩
 unfold zgw zfE zbk
 simp only [zJy,Tr.val]
 rw [h1]
 exact zbs (outs:=[zg]) (r:=.int .i64 e) (a:=(e,())) (ps:=zX) z rfl
open Go Go.Proofs
set_option maxHeartbeats 4000000

theorem zLq (y:zj zal):zj0 y=y:=by
 unfold zj0
 rw [zw,zw,zw,zw,zw]

theorem zka (x:Int):∀ (l:List Int) (i:Int),zej x l i=(-1:Int)∨∃ (j:Nat) (h:j < l.length),zej x l i=i+(j:Int)∧l[j]=x
 | [],_=>.inl rfl
 | a::r,i=>by
  rw [zej]
  split
  ·rename_i h
   exact .inr ⟨0,by simp,by simp,by simpa using (eq_of_beq h).symm⟩
  ·rcases zka x r (i+1) with h | ⟨j,hj,h3,h4⟩
   ·exact .inl h
   ·refine .inr ⟨j+1,by simpa using hj,?_,by simpa using h4⟩
    rw [h3]
    show i+1+(j:Int)=i+((j+1:Nat):Int)
    omega

theorem zw6 (l:List Int) (x:Int):zix l x=(-1:Int)∨∃ (j:Nat) (h:j < l.length),zix l x=(j:Int)∧l[j]=x:=by
 rcases zka x l 0 with h | ⟨j,hj,h3,h4⟩
 ·exact .inl h
 ·exact .inr ⟨j,hj,by rw [zix,h3]; exact Int.zero_add _,h4⟩

structure zBx (y:zj zal) (z:zj zX):Prop where
 cols:∀ c∈z.2.2.2.2.2.2.2.2.1,∃ d,(d∈y.2.2.1.2.1∨(y.2.1.1=[106,111,105,110]∧d∈y.2.2.2.1.2.1))∧c.1=d.1∧c.2.1=d.2.1
 key:∃ (k:Nat) (h:k < z.2.2.2.2.2.2.2.2.1.length),z.2.2.2.2.2.2.2.2.2.1=(k:Int)∧∃ d∈y.2.2.1.2.1,(z.2.2.2.2.2.2.2.2.1[k]).1=d.1
 few:z.2.2.2.2.2.2.2.2.1.length≤1000000
 ints:z.2.2.2.2.2.2.2.2.2.2.2.1.length≤1000000

def zi4 (y:zj zal) (z:zj zX):Prop:=z.1=y.1∧z.2.1=y.2.1∧z.2.2.1=y.2.2.1∧z.2.2.2.1=y.2.2.2.1∧z.2.2.2.2.1=y.2.2.2.2.1∧z.2.2.2.2.2.1=y.2.2.2.2.2.1∧z.2.2.2.2.2.2.1=y.2.2.2.2.2.2.1∧z.2.2.2.2.2.2.2.1=y.2.2.2.2.2.2.2.1

theorem zxI {α:Type} (l:List α) (d:α) {i:Nat} (h:i < l.length):l.getD i d∈l:=by
 rw [List.getD_eq_getElem?_getD,List.getElem?_eq_getElem h,Option.getD_some]
 exact List.getElem_mem h

theorem zGV {t:Sem zn} {s:Str} (h:¬ LT.lt (α:=Int) (zbF t s) 0):Int.toNat (zbF t s) < List.length t.2.1:=by
 have:=zso h
 simp only [inB,Bool.and_eq_true,decide_eq_true_eq] at this
 omega

theorem zvw {y:zj zal} {z:zj zbO} {l:List Str} (h:NmI y l z):∀ c∈zee z,c∈y.2.2.1.2.1:=by
 intro c hc
 rw [h.2.2.1,List.mem_map] at hc
 obtain ⟨s,hs,rfl⟩:=hc
 exact zxI _ _ (zGV (h.2.2.2 s hs))

theorem zLL (y:zj zal):zCM y=zAa y y (zcS y) (zix (zcS y).2.2.2.2.2.2.2.2.2.2.2.2.1 (zcS y).2.2.2.1.2.2.1):=by
 unfold zCM
 rw [zLq]

theorem zFm (y:zj zal) (hl:y.2.1.2.2.2.1.length≤1000):∃ (e:Int) (z:zj zX),zi5 y=some ((e,()),z)∧zi4 y z∧z.2.2.2.2.2.2.2.2.2.2.1=y.2.2.2.2.2.2.2.2.2.1∧(e=0→zBx y z):=by
 obtain ⟨e,z,h1,hk,h2⟩:=zsN y (by omega)
 have hn:zcS y=(e,z):=by unfold zcS; rw [h1]; rfl
 have hc:ze3 y=true:=by unfold ze3; rw [h1]; rfl
 unfold zi5 zfE zbk
 rw [zLL]
 simp only [zAa,Tr.val,hn,hc,if_true]
 by_cases he:e=0
 ·have hI:=h2 he
  simp only [he,bne_self_eq_false,Bool.false_eq_true,if_false]
  by_cases hx:LT.lt (α:=Int) (zix (zea z) z.2.2.1.2.2.1) 0
  ·simp only [decide_eq_true hx,if_true]
   refine ⟨1,_,zbs (outs:=[zg]) (r:=.int .i64 1) (a:=(1,())) (ps:=zX) _ rfl,⟨hk.1,hk.2.1,hk.2.2.1,hk.2.2.2.1,hk.2.2.2.2.1,hk.2.2.2.2.2.1,hk.2.2.2.2.2.2.1,hk.2.2.2.2.2.2.2.1⟩,hk.2.2.2.2.2.2.2.2.2.1,fun h=>by cases h⟩
  ·simp only [decide_eq_false hx]
   refine ⟨0,_,zbs (outs:=[zg]) (r:=.int .i64 0) (a:=(0,())) (ps:=zX) _ rfl,⟨hk.1,hk.2.1,hk.2.2.1,hk.2.2.2.1,hk.2.2.2.2.1,hk.2.2.2.2.2.1,hk.2.2.2.2.2.2.1,hk.2.2.2.2.2.2.2.1⟩,hk.2.2.2.2.2.2.2.2.2.1,fun _=>⟨?_,?_,?_,?_⟩⟩
   ·intro c hc
    exact ⟨c,.inl (zvw hI c hc),rfl,rfl⟩
   ·rcases zw6 (zea z) z.2.2.1.2.2.1 with h | ⟨j,hj,h3,h4⟩
    ·exfalso
     apply hx
     rw [h]; decide
    ·have hj':j < (zee z).length:=by
      rw [hI.2.2.1,List.length_map]
      rw [hI.2.1,List.length_map] at hj
      exact hj
     exact ⟨j,hj',h3,_,zvw hI _ (List.getElem_mem hj'),rfl⟩
   ·show (zee z).length≤_
    rw [hI.2.2.1,List.length_map]; omega
   ·show (zea z).length≤_
    rw [hI.2.1,List.length_map]; omega
 ·have hb:(e != 0)=true:=by simpa using he
  simp only [hb,if_true]
  refine ⟨e,_,zbs (outs:=[zg]) (r:=.int .i64 e) (a:=(e,())) (ps:=zX) z rfl,⟨hk.1,hk.2.1,hk.2.2.1,hk.2.2.2.1,hk.2.2.2.2.1,hk.2.2.2.2.2.1,hk.2.2.2.2.2.2.1,hk.2.2.2.2.2.2.2.1⟩,hk.2.2.2.2.2.2.2.2.2.1,fun h=>absurd h he⟩

theorem zOc (y:zj zal):zCB y=(let a1:=zcS y
  let a2:=a1.2.2.2.2.2.2.2.2.2.1.getD (Int.toNat 1) (zl zh)
  let a3:=a1.2.2.2.2.2.2.2.2.2.1.getD (Int.toNat 0) (zl zh)
  let a4:=a1.2.2.2.2.2.2.2.2.2.1.set (Int.toNat 0) (a3.1,a3.2.1,true)
  let a5:=a4.getD (Int.toNat 1) (zl zh)
  zA2 y y a1 a2 a3 a4 a5):=by
 unfold zCB
 rw [zLq]

theorem zCd (y:zj zal) (hl:y.2.1.2.2.2.1.length=2) (hk0:y.2.2.2.2.2.2.2.2.1=(0:Int)):∃ (e:Int) (z:zj zX),zgI y=some ((e,()),z)∧zi4 y z∧z.2.2.2.2.2.2.2.2.2.2.1=y.2.2.2.2.2.2.2.2.2.1∧(e=0→zBx y z):=by
 obtain ⟨e,z,h1,hk,h2⟩:=zsN y (by omega)
 have hn:zcS y=(e,z):=by unfold zcS; rw [h1]; rfl
 have hc:ze3 y=true:=by unfold ze3; rw [h1]; rfl
 have hkk:zi4 y z:=⟨hk.1,hk.2.1,hk.2.2.1,hk.2.2.2.1,hk.2.2.2.2.1,hk.2.2.2.2.2.1,hk.2.2.2.2.2.2.1,hk.2.2.2.2.2.2.2.1⟩
 have hch:z.2.2.2.2.2.2.2.2.2.2.1=y.2.2.2.2.2.2.2.2.2.1:=hk.2.2.2.2.2.2.2.2.2.1
 have hkey:z.2.2.2.2.2.2.2.2.2.1=y.2.2.2.2.2.2.2.2.1:=hk.2.2.2.2.2.2.2.2.1
 unfold zgI zfE zbk
 rw [zOc]
 simp only [zA2,hn]
 by_cases he:e=0
 ·have hI:=h2 he
  have hlen:(zee z).length=2:=by rw [hI.2.2.1,List.length_map]; exact hl
  have hm:=zvw hI
  have hil:(zea z).length≤1000000:=by rw [hI.2.1,List.length_map]; omega
  obtain ⟨z0,z1,z2,z3,z4,z5,z6,z7,cols,z9⟩:=z
  obtain ⟨c0,c1,rfl⟩:∃ c0 c1,cols=[c0,c1]:=by
   match cols,hlen with
   | [c0,c1],_=>exact ⟨c0,c1,rfl⟩
  simp only [Tr.val,hc,if_true,he,bne_self_eq_false,Bool.false_eq_true,if_false]
  have e1:inB 1 (List.length [c0,c1])=true:=rfl
  have e0:inB 0 (List.length [c0,c1])=true:=rfl
  by_cases hty:(c1.2.1 != 1)=true
  ·refine ⟨5,(z0,z1,z2,z3,z4,z5,z6,z7,[c0,c1],z9),?_,hkk,hch,fun h=>by cases h⟩
   simp [hty,List.getD]
   exact zbs (outs:=[zg]) (r:=.int .i64 5) (a:=(5,())) (ps:=zX) (z0,z1,z2,z3,z4,z5,z6,z7,[c0,c1],z9) rfl
  ·refine ⟨0,(z0,z1,z2,z3,z4,z5,z6,z7,[(c0.1,c0.2.1,true),(c1.1,c1.2.1,false)],z9),?_,hkk,hch,fun _=>⟨?_,?_,?_,hil⟩⟩
   ·simp at hty
    simp [hty,List.getD,inB]
    exact zbs (outs:=[zg]) (r:=.int .i64 0) (a:=(0,())) (ps:=zX) (z0,z1,z2,z3,z4,z5,z6,z7,[(c0.1,c0.2.1,true),(c1.1,1,false)],z9) rfl
   ·intro c hc
    simp only [List.mem_cons,List.not_mem_nil,or_false] at hc
    rcases hc with rfl | rfl
    ·exact ⟨c0,.inl (hm c0 (show c0∈[c0,c1] by simp)),rfl,rfl⟩
    ·exact ⟨c1,.inl (hm c1 (show c1∈[c0,c1] by simp)),rfl,rfl⟩
   ·exact ⟨0,by simp,hkey.trans hk0,c0,hm c0 (show c0∈[c0,c1] by simp),rfl⟩
   ·simp
 ·have hb:(e != 0)=true:=by simpa using he
  simp only [Tr.val,hc,hb,if_true]
  exact ⟨e,z,zbs (outs:=[zg]) (r:=.int .i64 e) (a:=(e,())) (ps:=zX) z rfl,hkk,hch,fun h=>absurd h he⟩

def JnI (y:zj zal) (i:Nat) (z:zj zbO):Prop:=zi4 y z∧z.2.2.2.2.2.2.2.2.2.2.1=y.2.2.2.2.2.2.2.2.2.1∧z.2.2.2.2.2.2.2.2.2.1=y.2.2.1.2.2.1∧(zea z).length≤i∧∃ l,zee z=y.2.2.1.2.1++l∧l.length≤i∧∀ c∈l,c∈y.2.2.2.1.2.1

def JnR (y:zj zal) (r:Raw):Prop:=∃ (e:Int) (z:zj zbO),r=(.int .i64 e,zY zX z)∧zi4 y z∧z.2.2.2.2.2.2.2.2.2.2.1=y.2.2.2.2.2.2.2.2.2.1∧(e=0→JnI y (List.length y.2.2.2.1.2.1) z)

theorem zXX (y:zj zal) (z:zj zbO) (hz:JnI y 0 z) (hf:List.length y.2.2.1.2.1≤1000) (hl:List.length y.2.2.2.1.2.1≤1000) (n:Nat) (hn:1+List.length y.2.2.2.1.2.1≤n):∃ r,zb8 zqB n (.h11 y.2.2.2.1.2.1 (List.length y.2.2.2.1.2.1:Int) 0 z)=some r∧JnR y r:=by
 refine zdf (t:=zqB) (β:=zj zbO) (List.length y.2.2.2.1.2.1) (fun z i=>.h11 y.2.2.2.1.2.1 (List.length y.2.2.2.1.2.1:Int) (i:Int) z) (fun z i=>JnI y i z) (JnR y) 1 ?_ ?_ (List.length y.2.2.2.1.2.1) 0 z n rfl (Nat.zero_le _) hz hn
 ·intro z i hi hI
  obtain ⟨hk,hch,hkey,hx,l,hc,hll,hm⟩:=hI
  have hcl:(zee z).length≤2000:=by rw [hc,List.length_append]; omega
  simp only [zqB,zoQ,zms,Tr.val,zV hi,zK hi,if_true,zl2 _ _ hi]
  rw [zH i (by unfold zI; omega)]
  refine Or.inl ?_
  split
  ·refine ⟨(z.1,z.2.1,z.2.2.1,z.2.2.2.1,z.2.2.2.2.1,z.2.2.2.2.2.1,z.2.2.2.2.2.2.1,z.2.2.2.2.2.2.2.1,z.2.2.2.2.2.2.2.2.1++[y.2.2.2.1.2.1[i]],z.2.2.2.2.2.2.2.2.2.1,z.2.2.2.2.2.2.2.2.2.2.1,z.2.2.2.2.2.2.2.2.2.2.2.1++[(i:Int)],z.2.2.2.2.2.2.2.2.2.2.2.2),⟨hk,hch,hkey,?_,l++[y.2.2.2.1.2.1[i]],?_,?_,?_⟩,?_⟩
   rotate_left 4
   ·rw [if_pos (by have:z.2.2.2.2.2.2.2.2.2.2.2.1.length≤2000:=(by omega:(zea z).length≤2000); simp; omega),if_pos (by have:z.2.2.2.2.2.2.2.2.1.length≤2000:=hcl; simp; omega)]
   ·show (zea z++[(i:Int)]).length≤i+1
    simp; omega
   ·show zee z++[y.2.2.2.1.2.1[i]]=_
    rw [hc,List.append_assoc]
   ·simp; omega
   ·intro c hc
    rcases List.mem_append.1 hc with hc | hc
    ·exact hm c hc
    ·rw [List.mem_singleton] at hc
     rw [hc]; exact List.getElem_mem hi
  ·exact ⟨z,⟨hk,hch,hkey,by omega,l,hc,by omega,hm⟩,rfl⟩
 ·intro z n hI hn
  obtain ⟨n,rfl⟩:∃ k,n=k+1:=⟨n - 1,by omega⟩
  rw [zcm]
  simp only [zqB,zoQ,zms,Tr.val,zP]
  exact ⟨_,rfl,0,z,rfl,hI.1,hI.2.1,fun _=>hI⟩

theorem zDr (y:zj zal) (ho:y.2.1.1=[106,111,105,110]) (hf:List.length y.2.2.1.2.1≤1000) (hl:List.length y.2.2.2.1.2.1≤1000) (hkf:inC y.2.2.1.2.2.1 (List.length y.2.2.1.2.1)):∃ (e:Int) (z:zj zX),ziC y=some ((e,()),z)∧zi4 y z∧z.2.2.2.2.2.2.2.2.2.2.1=y.2.2.2.2.2.2.2.2.2.1∧(e=0→zBx y z):=by
 have hk:∀ (a:List (Sem zh)) (b:Int) (c:ze) (d:List Int) (e:Int),zi4 y (y.1,y.2.1,y.2.2.1,y.2.2.2.1,y.2.2.2.2.1,y.2.2.2.2.2.1,y.2.2.2.2.2.2.1,y.2.2.2.2.2.2.2.1,a,b,c,d,e,()):=fun _ _ _ _ _=>⟨rfl,rfl,rfl,rfl,rfl,rfl,rfl,rfl⟩
 have hv:(∃ r,(zxY y).val=some (.inr r)∧JnR y r)∨∃ a0:Int,(zxY y).val=some (.inl (.h11 y.2.2.2.1.2.1 (List.length y.2.2.2.1.2.1:Int) 0 (y.1,y.2.1,y.2.2.1,y.2.2.2.1,y.2.2.2.2.1,y.2.2.2.2.2.1,y.2.2.2.2.2.2.1,y.2.2.2.2.2.2.2.1,y.2.2.1.2.1,y.2.2.1.2.2.1,y.2.2.2.2.2.2.2.2.2.1,[],a0,()))):=by
  simp only [zxY,zF0,Tr.val]
  split
  ·exact Or.inl ⟨_,rfl,4,_,rfl,hk _ _ _ _ _,rfl,fun h=>by cases h⟩
  ·split
   ·exact Or.inl ⟨_,rfl,10,_,rfl,hk _ _ _ _ _,rfl,fun h=>by cases h⟩
   ·split
    ·exact Or.inl ⟨_,rfl,13,_,rfl,hk _ _ _ _ _,rfl,fun h=>by cases h⟩
    ·rw [if_pos (by simp; omega)]
     exact Or.inr ⟨_,rfl⟩
 have hR:∃ r,zbk zqB 100000000 (zxY y)=some r∧JnR y r:=by
  unfold zbk
  rcases hv with ⟨r,h1,h2⟩ | ⟨a0,h1⟩
  ·rw [h1]; exact ⟨r,rfl,h2⟩
  ·rw [h1]
   exact zXX y _ ⟨hk _ _ _ _ _,rfl,rfl,Nat.le_refl _,[],(List.append_nil _).symm,Nat.le_refl _,by simp⟩ hf hl 100000000 (by omega)
 obtain ⟨r,h1,e,z,rfl,hk,hch,h2⟩:=hR
 unfold ziC zfE
 rw [h1]
 refine ⟨e,z,zbs (outs:=[zg]) (r:=.int .i64 e) (a:=(e,())) (ps:=zX) z rfl,hk,hch,fun he=>?_⟩
 obtain ⟨_,_,hkey,hix,l,hc,hll,hm⟩:=h2 he
 refine ⟨?_,?_,?_,by show (zea z).length≤_; omega⟩
 ·intro c hcm
  rw [show z.2.2.2.2.2.2.2.2.1=zee z from rfl,hc] at hcm
  rcases List.mem_append.1 hcm with h | h
  ·exact ⟨c,.inl h,rfl,rfl⟩
  ·exact ⟨c,.inr ⟨ho,hm c h⟩,rfl,rfl⟩
 ·obtain ⟨k1,k2⟩:=hkf
  obtain ⟨k,hkn⟩:∃ k:Nat,y.2.2.1.2.2.1=(k:Int):=⟨Int.toNat y.2.2.1.2.2.1,(Int.toNat_of_nonneg k1).symm⟩
  rw [hkn] at k2
  have hk':k < List.length y.2.2.1.2.1:=by omega
  have hk2:k < (zee z).length:=by rw [hc,List.length_append]; omega
  refine ⟨k,hk2,by rw [hkey,hkn],_,List.getElem_mem hk',?_⟩
  show ((zee z)[k]).1=_
  simp only [hc,List.getElem_append_left hk']
 ·show (zee z).length≤_
  rw [hc,List.length_append]; omega
open Go Go.Proofs
set_option maxHeartbeats 4000000

def zuH (l rows:List (Sem (.sl zf))):Prop:=rows.length≤201∧∀ r∈rows,∃ r0∈l,r=zj5 r0
theorem zXc (n:Nat) (i4:Int) (hi4:i4≤201) (h0:0≤i4) (z0:zj cpR) (z1:zj zFg) (t:Sem zn) (hn:300≤n):∃ rows:List (Sem (.sl zf)),zuH z0.1.2 rows∧∃ r,zb8 zw4 n (.h6 i4 0 z0 z1 (t,[],()))=some r∧zac r.2 [zk] r.1=some (((t,rows):Sem zk),()):=by
 obtain ⟨N,hN⟩:∃ N:Nat,i4=(N:Int):=⟨Int.toNat i4,by omega⟩
 have h:=zdf (t:=zw4) (β:=List (Sem (.sl zf))) (min N (List.length z0.1.2)) (fun b i=>.h6 i4 (i:Int) z0 z1 (t,b,())) (fun b i=>b.length=i∧∀ r∈b,∃ r0∈z0.1.2,r=zj5 r0) (fun r=>∃ rows:List (Sem (.sl zf)),zuH z0.1.2 rows∧zac r.2 [zk] r.1=some (((t,rows):Sem zk),())) 1 (by
   intro b i hi hb
   have h1:(i:Int) < (List.length z0.1.2:Int):=by omega
   have h2:(i:Int) < i4:=by omega
   have h3:inB (i:Int) (List.length z0.1.2)=true:=zK (by omega)
   refine Or.inl ⟨b++[zj5 (List.getD z0.1.2 (i:Int).toNat (zl zf.sl))],⟨by simp [hb.1],fun r hr=>?_⟩,?_⟩
   ·rcases List.mem_append.1 hr with hr | hr
    ·exact hb.2 r hr
    ·rw [List.mem_singleton] at hr
     refine ⟨_,?_,hr⟩
     rw [Int.toNat_natCast,List.getD_eq_getElem?_getD,List.getElem?_eq_getElem (by omega),Option.getD_some]
     exact List.getElem_mem _
   simp only [zw4,zyV,zuY,Tr.val,decide_eq_true h1,decide_eq_true h2,cond_true,if_true,h3]
   rw [zH i (by unfold zI; omega),if_pos (by simp; omega)]) (by
   intro b n hb hn
   obtain ⟨n,rfl⟩:∃ k,n=k+1:=⟨n - 1,by omega⟩
   rw [zcm]
   have hf:(bif decide (((min N (List.length z0.1.2):Nat):Int) < (List.length z0.1.2:Int)) then decide (((min N (List.length z0.1.2):Nat):Int) < i4) else false)=false:=by
    by_cases h:N≤List.length z0.1.2
    ·rw [Nat.min_eq_left h,hN]
     simp
    ·rw [Nat.min_eq_right (by omega)]
     simp
   simp only [zw4,zyV,zuY,Tr.val,hf]
   refine ⟨_,rfl,b,⟨by have:=hb.1; omega,hb.2⟩,?_⟩
   obtain ⟨t0,t1,t2,t3,t4,t5⟩:=t
   cases t5
   rfl) (min N (List.length z0.1.2)) 0 [] n rfl (Nat.zero_le _) ⟨rfl,by simp⟩ (by omega)
 obtain ⟨r,h1,rows,h2,h3⟩:=h
 exact ⟨rows,h2,r,h1,h3⟩

theorem zxR (x:Sem zk):∃ rows:List (Sem (.sl zf)),zuH x.2 rows∧zuR x=some (((zmS x.1,rows):Sem zk),()):=by
 have e:zmS (x.1.1,x.1.2.1,x.1.2.2.1,x.1.2.2.2.1,x.1.2.2.2.2.1,zz x.1.2.2.2.2.2)=zmS x.1:=by rw [zw]
 have hv:∃ k:Int,0≤k∧k≤201∧(zG9 x).val=some (.inl (.h6 k 0 (x,()) ([],0,[],0,0,[],[],()) (zmS x.1,[],()))):=by
  simp only [zG9,zK1,Tr.val,e]
  split
  ·exact ⟨201,by omega,by omega,rfl⟩
  ·exact ⟨40,by omega,by omega,rfl⟩
 obtain ⟨k,k1,k2,hv⟩:=hv
 obtain ⟨rows,h1,r,h2,h3⟩:=zXc 100000000 k k2 k1 (x,()) ([],0,[],0,0,[],[],()) (zmS x.1) (by omega)
 refine ⟨rows,h1,?_⟩
 unfold zuR zaj zbk
 rw [hv]
 show (zb8 zw4 100000000 _).bind _=_
 rw [h2]
 exact h3

theorem zxG (x:Sem zk):zvb x=true:=by
 obtain ⟨rows,h1,h2⟩:=zxR x
 unfold zvb
 rw [h2]; rfl

theorem zGB (db:List (Sem zk)):∃ db':List (Sem zk),zuj db=some (db',())∧db'.length≤13∧∀ x∈db',∃ y∈db,x=zmv y:=by
 have h:=zdf (t:=t7p) (β:=List (Sem zk)) (min 13 db.length) (fun b i=>.h3 db (i:Int) b) (fun b i=>b.length=i∧∀ x∈b,∃ y∈db,x=zmv y) (fun r=>∃ db':List (Sem zk),zac r.2 [zk.sl] r.1=some (db',())∧db'.length≤13∧∀ x∈db',∃ y∈db,x=zmv y) 1 (by
   intro b i hi hb
   have h1:(i:Int) < (db.length:Int):=by omega
   have h2:(i:Int) < 13:=by omega
   have h3:inB (i:Int) db.length=true:=zK (by omega)
   refine Or.inl ⟨b++[zmv (db.getD (i:Int).toNat (zl zk))],⟨by simp [hb.1],?_⟩,?_⟩
   ·intro x hx
    rcases List.mem_append.1 hx with hx | hx
    ·exact hb.2 x hx
    ·rw [List.mem_singleton] at hx
     refine ⟨_,?_,hx⟩
     rw [Int.toNat_natCast,List.getD_eq_getElem?_getD,List.getElem?_eq_getElem (by omega),Option.getD_some]
     exact List.getElem_mem _
   ·simp only [t7p,zFR,zx5,Tr.val,decide_eq_true h1,decide_eq_true h2,cond_true,if_true,h3,zw,Prod.eta,zxG]
    rw [zH i (by unfold zI; omega),if_pos (by simp; omega)]) (by
   intro b n hb hn
   obtain ⟨n,rfl⟩:∃ k,n=k+1:=⟨n - 1,by omega⟩
   rw [zcm]
   have hf:(bif decide (((min 13 db.length:Nat):Int) < (db.length:Int)) then decide (((min 13 db.length:Nat):Int) < 13) else false)=false:=by
    by_cases h:13≤db.length
    ·rw [Nat.min_eq_left h]
     simp
    ·rw [Nat.min_eq_right (by omega)]
     simp
   simp only [t7p,zFR,zx5,Tr.val,hf]
   exact ⟨_,rfl,b,rfl,by omega,hb.2⟩) (min 13 db.length) 0 [] 100000000 rfl (Nat.zero_le _) ⟨rfl,by simp⟩ (by omega)
 obtain ⟨r,h1,db',h2,h3,h4⟩:=h
 refine ⟨db',?_,h3,h4⟩
 unfold zuj zaj zbk
 simp only [i7p,Tr.val]
 have h1':zb8 t7p 100000000 (.h3 db 0 [])=some r:=h1
 rw [h1']
 exact h2

theorem zfy (s:Str):zcV s=true:=by
 unfold zcV
 split
 ·rename_i h
  have:20 < s.length:=by simp at h; omega
  rw [if_pos (by simp; omega)]
 ·rfl
theorem zcB (s:Str):(zbu s).length≤20:=by
 unfold zbu
 split
 ·simp; omega
 ·rename_i h
  have:¬ 20 < s.length:=by simp at h; omega
  omega
theorem zih:∀ (l:List Str) (i:Int) (acc:List Str),(acc.length:Int)≤i→zc9 l i acc=true
 | [],_,_,_=>rfl
 | x::r,i,acc,h=>by
  rw [zc9]
  split
  ·rename_i hi
   simp only [decide_eq_true_eq] at hi
   rw [if_pos (zfy x),if_pos (by simp; omega)]
   exact zih r (i+1) _ (by simp; omega)
  ·rfl
theorem zrX (l:List Str):ziR l=true:=zih l 0 [] (by simp)
theorem zkb:∀ (l:List Str) (i:Int) (acc:List Str),(acc.length:Int)≤i→acc.length≤10→(∀ x∈acc,List.length x≤20)→List.length (zcw l i acc)≤10∧∀ x∈zcw l i acc,List.length x≤20
 | [],_,acc,_,h,ha=>⟨h,ha⟩
 | x::r,i,acc,h,hl,ha=>by
  rw [zcw]
  split
  ·rename_i hi
   simp only [decide_eq_true_eq] at hi
   refine zkb r (i+1) _ (by simp; omega) (by simp; omega) (fun y hy=>?_)
   rcases List.mem_append.1 hy with hy | hy
   ·exact ha y hy
   ·rw [List.mem_singleton] at hy
    rw [hy]; exact zcB x
  ·exact ⟨hl,ha⟩
theorem znT (l:List Str):List.length (zfC l)≤10∧∀ x∈zfC l,List.length x≤20:=zkb l 0 [] (by simp) (by simp) (by simp)
theorem ziX:∀ (l:List (Sem zh)) (i:Int) (acc:List (Sem zh)),(acc.length:Int)≤i→acc.length≤10→(∀ x∈acc,List.length x.1≤20)→List.length (zdo l i acc)≤10∧∀ x∈zdo l i acc,List.length x.1≤20
 | [],_,acc,_,h,ha=>⟨h,ha⟩
 | x :: r,i,acc,h,hl,ha=>by
  rw [zdo]
  split
  ·rename_i hi
   simp only [decide_eq_true_eq] at hi
   split
   ·refine ziX r (i+1) _ (by simp; omega) (by simp; omega) (fun y hy=>?_)
    rcases List.mem_append.1 hy with hy | hy
    ·exact ha y hy
    ·rw [List.mem_singleton] at hy
     rw [hy]; simp; omega
   ·rename_i hx
    have hx:¬ 20 < List.length x.1:=by simp at hx; omega
    refine ziX r (i+1) _ (by simp; omega) (by simp; omega) (fun y hy=>?_)
    rcases List.mem_append.1 hy with hy | hy
    ·exact ha y hy
    ·rw [List.mem_singleton] at hy
     rw [hy]; omega
  ·exact ⟨hl,ha⟩
theorem zBU (l:List (Sem zh)):List.length (zke l)≤10∧∀ x∈zke l,List.length x.1≤20:=ziX l 0 [] (by simp) (by simp) (by simp)
theorem znC:∀ (l:List (Sem zf)) (i:Int) (acc:List (Sem zf)),(acc.length:Int)≤i→acc.length≤14→List.length (ze4 l i acc)≤14
 | [],_,acc,_,h=>h
 | x::r,i,acc,h,hl=>by
  rw [ze4]
  split
  ·rename_i hi
   simp only [decide_eq_true_eq] at hi
   exact znC r (i+1) _ (by simp; omega) (by simp; omega)
  ·exact hl
theorem zCJ (l:List (Sem zf)):List.length (zj5 l)≤14:=znC l 0 [] (by simp) (by simp)

theorem zAp {g:Sem Sh.expr→Sem zg→Sem zg→Sem Sh.expr×Sem zg} {c:Sem Sh.expr→Sem zg→Sem zg→Bool} {i1:Int} {N:Nat} (h:∀ x n,0 < i1→cpC N (g x (IntKind.i64.wrap (i1 - 1)) n).1=true) {a0 a1 a2 a3 a4 b0 b1 b2 b3 b4 d0 d1 d2 d3 d4}:
  ∀ (l:List (Sem Sh.expr)) (i n:Int) (acc:List (Sem Sh.expr)),(acc.length:Int)≤i→acc.length≤3→(∀ x∈acc,cpC N x=true)→cpC (N+1) (zbe g c i1 a0 a1 a2 a3 a4 b0 b1 b2 b3 b4 d0 d1 d2 d3 d4 l i n acc).1=true
 | [],_,_,acc,_,hl,ha=>by
  rw [zbe]
  show (decide (acc.length≤1073741824)&&acc.all (cpC N))=true
  rw [List.all_eq_true.2 ha]
  simp; omega
 | x::r,i,n,acc,hi,hl,ha=>by
  rw [zbe]
  split
  ·rename_i hk
   have h3:i < 3∧i1 > 0:=by
    cases h1:decide (i < 3) <;> cases h2:decide (i1 > 0) <;> simp_all
   refine zAp h r (i+1) _ _ (by simp; omega) (by simp; omega) (fun y hy=>?_)
   rcases List.mem_append.1 hy with hy | hy
   ·exact ha y hy
   ·rw [List.mem_singleton] at hy
    rw [hy]; exact h x n h3.2
  ·show (decide (acc.length≤1073741824)&&acc.all (cpC N))=true
   rw [List.all_eq_true.2 ha]
   simp; omega
theorem zJQ {g:Sem Sh.expr→Sem zg→Sem zg→Sem Sh.expr×Sem zg} {c:Sem Sh.expr→Sem zg→Sem zg→Bool} {i1:Int} {N:Nat} (h:∀ x n,0 < i1→cpC N (g x (IntKind.i64.wrap (i1 - 1)) n).1=true) (e:ze) (n:Int):cpC (N+1) (zv1 g c e i1 n).1=true:=by
 unfold zv1
 repeat' split
 all_goals exact zAp h _ _ _ _ (by simp) (by simp) (by simp)
theorem zAh:∀ (N:Nat) (e:ze) (d n:Int),0≤d→d < N→N≤100→cpC N (zgt N e d n).1=true
 | 0,_,_,_,h1,h2,_=>by omega
 | N+1,e,d,n,h1,h2,h3=>by
  rw [zgt]
  refine zJQ (fun x m hd=>?_) e n
  rw [zhJ _ (by omega) (by omega)]
  exact zAh N x (d - 1) m (by omega) (by omega) (by omega)
theorem zJB (e:ze):cpC 16 (zdr e)=true:=by
 have h:=zAh 16 e 14 80 (by omega) (by omega) (by omega)
 unfold zdr
 rw [ze.eta]
 exact h

structure zOM (s:Sem zu):Prop where
 sh:zqq s
 cp:cpC 16 s.2.2.2.2.2.2.2.2.1=true

def F3I (i:Nat) (z:zj zzt):Prop:=z.1.length≤20∧z.2.1.length≤20∧z.2.2.1.length≤20∧(List.length z.2.2.2.1≤10∧∀ x∈z.2.2.2.1,List.length x≤20)∧(List.length z.2.2.2.2.1≤10∧∀ x∈z.2.2.2.2.1,List.length x.1≤20)∧z.2.2.2.2.2.1.length≤20∧
 (List.length z.2.2.2.2.2.2.1≤10∧∀ x∈z.2.2.2.2.2.2.1,List.length x≤20)∧(List.length z.2.2.2.2.2.2.2.1=i∧∀ x∈z.2.2.2.2.2.2.2.1,List.length x.1≤20∧List.length x.2≤20)∧cpC 16 z.2.2.2.2.2.2.2.2.1=true∧List.length z.2.2.2.2.2.2.2.2.2.1≤14∧z.2.2.2.2.2.2.2.2.2.2.2.1.length≤20

def F7I (i:Nat) (z:zj zzF):Prop:=z.1.length≤20∧z.2.1.length≤20∧z.2.2.1.length≤20∧(List.length z.2.2.2.1≤10∧∀ x∈z.2.2.2.1,List.length x≤20)∧(List.length z.2.2.2.2.1≤10∧∀ x∈z.2.2.2.2.1,List.length x.1≤20)∧z.2.2.2.2.2.1.length≤20∧
 (List.length z.2.2.2.2.2.2.1≤10∧∀ x∈z.2.2.2.2.2.2.1,List.length x≤20)∧(List.length z.2.2.2.2.2.2.2.1≤10∧∀ x∈z.2.2.2.2.2.2.2.1,List.length x.1≤20∧List.length x.2≤20)∧cpC 16 z.2.2.2.2.2.2.2.2.1=true∧List.length z.2.2.2.2.2.2.2.2.2.1≤14∧
 (List.length z.2.2.2.2.2.2.2.2.2.2.1=i∧∀ x∈z.2.2.2.2.2.2.2.2.2.2.1,List.length x.1≤20)∧z.2.2.2.2.2.2.2.2.2.2.2.2.1.length≤20

def zI5 (r:Raw):Prop:=∃ s:Sem zu,zac r.2 [zu] r.1=some (s,())∧zOM s

theorem fs7 (z0:zj cpS) (z1:zj zce) (z:zj zzF) (hz:F7I 0 z) (n:Nat) (hn:20≤n):∃ r,zb8 t8p n (.h7 0 z0 z1 z)=some r∧zI5 r:=by
 refine zdf (t:=t8p) (β:=zj zzF) (min 10 (List.length z0.1.2.2.2.2.2.2.2.2.2.2.1)) (fun z i=>.h7 (i:Int) z0 z1 z) (fun z i=>F7I i z) zI5 1 ?_ ?_ (min 10 (List.length z0.1.2.2.2.2.2.2.2.2.2.2.1)) 0 z n rfl (Nat.zero_le _) hz (by omega)
 ·intro z i hi hb
  obtain ⟨h0,h1,h2,h3,h4,h5,h6,h7,h8,h9,h10,h11⟩:=hb
  have k1:(i:Int) < (List.length z0.1.2.2.2.2.2.2.2.2.2.2.1:Int):=by omega
  have k2:(i:Int) < 10:=by omega
  have k3:inB (i:Int) (List.length z0.1.2.2.2.2.2.2.2.2.2.2.1)=true:=zK (by omega)
  refine Or.inl ⟨(z.1,z.2.1,z.2.2.1,z.2.2.2.1,z.2.2.2.2.1,z.2.2.2.2.2.1,z.2.2.2.2.2.2.1,z.2.2.2.2.2.2.2.1,z.2.2.2.2.2.2.2.2.1,z.2.2.2.2.2.2.2.2.2.1,z.2.2.2.2.2.2.2.2.2.2.1++[(zbu (List.getD z0.1.2.2.2.2.2.2.2.2.2.2.1 (i:Int).toNat (zl zan)).1,zz (zdr (zz (List.getD z0.1.2.2.2.2.2.2.2.2.2.2.1 (i:Int).toNat (zl zan)).2)))],z.2.2.2.2.2.2.2.2.2.2.2),⟨h0,h1,h2,h3,h4,h5,h6,h7,h8,h9,?_,h11⟩,?_⟩
  rotate_left 1
  ·simp only [t8p,zGs,zyC,Tr.val,decide_eq_true k1,decide_eq_true k2,cond_true,if_true,k3,zfy]
   rw [zH i (by unfold zI; omega),if_pos (by have:=h10.1; simp; omega)]
  ·refine ⟨?_,fun x hx=>?_⟩
   ·simp [h10.1]
   ·rcases List.mem_append.1 hx with hx | hx
    ·exact h10.2 x hx
    ·rw [List.mem_singleton] at hx
     rw [hx]; exact zcB _
 ·intro z n hb hn
  obtain ⟨n,rfl⟩:∃ k,n=k+1:=⟨n - 1,by omega⟩
  obtain ⟨h0,h1,h2,h3,h4,h5,h6,h7,h8,h9,h10,h11⟩:=hb
  rw [zcm]
  have hf:(bif decide (((min 10 (List.length z0.1.2.2.2.2.2.2.2.2.2.2.1):Nat):Int) < (List.length z0.1.2.2.2.2.2.2.2.2.2.2.1:Int)) then decide (((min 10 (List.length z0.1.2.2.2.2.2.2.2.2.2.2.1):Nat):Int) < 10) else false)=false:=by
   by_cases h:10≤List.length z0.1.2.2.2.2.2.2.2.2.2.2.1
   ·rw [Nat.min_eq_left h]
    simp
   ·rw [Nat.min_eq_right (by omega)]
    simp
  simp only [t8p,zGs,zyC,Tr.val,hf]
  refine ⟨_,rfl,(z.1,z.2.1,z.2.2.1,z.2.2.2.1,z.2.2.2.2.1,z.2.2.2.2.2.1,z.2.2.2.2.2.2.1,z.2.2.2.2.2.2.2.1,z.2.2.2.2.2.2.2.2.1,z.2.2.2.2.2.2.2.2.2.1,z.2.2.2.2.2.2.2.2.2.2.1,z.2.2.2.2.2.2.2.2.2.2.2.1,z.2.2.2.2.2.2.2.2.2.2.2.2.1),?_,⟨?_,h8⟩⟩
  ·obtain ⟨z0,z1,z2,z3,z4,z5,z6,z7,z8,z9,z10,z11,z12,z13⟩:=z
   cases z8
   cases z11
   rfl
  ·refine ⟨by show z.1.length≤_; omega,by show z.2.1.length≤_; omega,by show z.2.2.1.length≤_; omega,⟨by have:=h3.1; show List.length z.2.2.2.1≤_; omega,fun x hx=>by have:=h3.2 x hx; omega⟩,⟨by have:=h4.1; show List.length z.2.2.2.2.1≤_; omega,fun x hx=>by have:=h4.2 x hx; omega⟩,by show z.2.2.2.2.2.1.length≤_; omega,⟨by have:=h6.1; show List.length z.2.2.2.2.2.2.1≤_; omega,fun x hx=>by have:=h6.2 x hx; omega⟩,⟨by have:=h7.1; show List.length z.2.2.2.2.2.2.2.1≤_; omega,fun x hx=>by have:=h7.2 x hx; omega⟩,by show List.length z.2.2.2.2.2.2.2.2.2.1≤_; omega,⟨by have:=h10.1; show List.length z.2.2.2.2.2.2.2.2.2.2.1≤_; omega,fun x hx=>by have:=h10.2 x hx; omega⟩,by show z.2.2.2.2.2.2.2.2.2.2.2.2.1.length≤_; omega⟩

theorem fs3 (z0:zj cpS) (z1:zj zce) (z:zj zzt) (hz:F3I 0 z) (n:Nat) (hn:40≤n):∃ r,zb8 t8p n (.h3 0 z0 z1 z)=some r∧zI5 r:=by
 refine zdf (t:=t8p) (β:=zj zzt) (min 10 (List.length z0.1.2.2.2.2.2.2.2.1)) (fun z i=>.h3 (i:Int) z0 z1 z) (fun z i=>F3I i z) zI5 21 ?_ ?_ (min 10 (List.length z0.1.2.2.2.2.2.2.2.1)) 0 z n rfl (Nat.zero_le _) hz (by omega)
 ·intro z i hi hb
  obtain ⟨h0,h1,h2,h3,h4,h5,h6,h7,h8⟩:=hb
  have k1:(i:Int) < (List.length z0.1.2.2.2.2.2.2.2.1:Int):=by omega
  have k2:(i:Int) < 10:=by omega
  have k3:inB (i:Int) (List.length z0.1.2.2.2.2.2.2.2.1)=true:=zK (by omega)
  refine Or.inl ⟨(z.1,z.2.1,z.2.2.1,z.2.2.2.1,z.2.2.2.2.1,z.2.2.2.2.2.1,z.2.2.2.2.2.2.1,z.2.2.2.2.2.2.2.1++[(zbu (List.getD z0.1.2.2.2.2.2.2.2.1 (i:Int).toNat (zl zaT)).1,zbu (List.getD z0.1.2.2.2.2.2.2.2.1 (i:Int).toNat (zl zaT)).2)],z.2.2.2.2.2.2.2.2),⟨h0,h1,h2,h3,h4,h5,h6,?_,h8⟩,?_⟩
  rotate_left 1
  ·simp only [t8p,zFS,zy7,Tr.val,decide_eq_true k1,decide_eq_true k2,cond_true,if_true,k3,zfy]
   rw [zH i (by unfold zI; omega),if_pos (by have:=h7.1; simp; omega)]
  ·refine ⟨?_,fun x hx=>?_⟩
   ·simp [h7.1]
   ·rcases List.mem_append.1 hx with hx | hx
    ·exact h7.2 x hx
    ·rw [List.mem_singleton] at hx
     rw [hx]; exact ⟨zcB _,zcB _⟩
 ·intro z n hb hn
  obtain ⟨n,rfl⟩:∃ k,n=k+1:=⟨n - 1,by omega⟩
  obtain ⟨h0,h1,h2,h3,h4,h5,h6,h7,h8,h9,h10⟩:=hb
  rw [zcm]
  have hf:(bif decide (((min 10 (List.length z0.1.2.2.2.2.2.2.2.1):Nat):Int) < (List.length z0.1.2.2.2.2.2.2.2.1:Int)) then decide (((min 10 (List.length z0.1.2.2.2.2.2.2.2.1):Nat):Int) < 10) else false)=false:=by
   by_cases h:10≤List.length z0.1.2.2.2.2.2.2.2.1
   ·rw [Nat.min_eq_left h]
    simp
   ·rw [Nat.min_eq_right (by omega)]
    simp
  simp only [t8p,zFS,zy7,Tr.val,hf]
  exact fs7 z0 z1 _ ⟨h0,h1,h2,h3,h4,h5,h6,⟨by have:=h7.1; show List.length z.2.2.2.2.2.2.2.1≤_; omega,h7.2⟩,h8,h9,⟨rfl,by simp⟩,h10⟩ n (by omega)

theorem zDL (s:Sem zu):∃ s':Sem zu,ztW s=some (s',())∧zOM s':=by
 unfold ztW zaj zbk
 simp only [i8p,Tr.val,zfy,zrX,if_true]
 obtain ⟨r,h1,s',h2,h3⟩:=fs3 (s,()) ([],[],[],[],[],0,0,[],[],[],0,0,[],[],[],()) (zbu s.1,zbu s.2.1,zbu s.2.2.1,zfC s.2.2.2.1,zke s.2.2.2.2.1,
  zbu s.2.2.2.2.2.1,zfC s.2.2.2.2.2.2.1,[],zdr (zz s.2.2.2.2.2.2.2.2.1),zj5 s.2.2.2.2.2.2.2.2.2.1,zdr (zz s.2.2.2.2.2.2.2.2.2.2.2.1),zbu s.2.2.2.2.2.2.2.2.2.2.2.2,())
  ⟨zcB _,zcB _,zcB _,znT _,zBU _,zcB _,znT _,⟨rfl,by simp⟩,zJB _,zCJ _,zcB _⟩ 100000000 (by omega)
 refine ⟨s',?_,h3⟩
 rw [h1]
 exact h2
open Go Go.Proofs
set_option maxHeartbeats 4000000

abbrev zab (c:Int) (r:List (Sem zf)):Sem zf:=List.getD r (Int.toNat c) (zl zf)
def zj1 (rows:List (List (Sem zf))) (c:Int):Prop:=rows.Pairwise fun a b=>(zab c a).1≠0→zab c a≠zab c b

theorem ziv:∀ (es:List ((Int×Int×Str)×Int)) (k:Int×Int×Str) (x:Int),zfw (zfk es k) (zgb es k) x=zha es k x
 | [],k,x=>by simp [zfk,zgZ,zgb,zfw,zha]
 | p::r,k,x=>by
  have h:=ziv r k x
  cases hk:(k==p.1) with
  | true=>
   have e:k=p.1:=eq_of_beq hk
   simp [zfk,zgZ,zgb,zfw,zha,e]
  | false=>
   have e:zfk (p::r) k=p::zfk r k:=by
    simp only [zfk,zgZ,List.any_cons,hk,Bool.false_or]
    cases (r.any fun p=>k==p.1) <;> rfl
   rw [e,zgb,zha,hk]
   show p::zfw (zfk r k) (zgb r k) x=p::zha r k x
   rw [h]
theorem zsm (es:List ((Int×Int×Str)×Int)) (k k':Int×Int×Str) (x:Int):zdB (zha es k x) k'=if k'=k then x else zdB es k':=by
 induction es with
 | nil=>
  by_cases h:k'=k
  ·subst h; simp [zha,zdB]
  ·simp [zha,zdB,h]
 | cons p r ih=>
  rw [zha]
  cases hk:(k==p.1) with
  | true=>
   have e:k=p.1:=eq_of_beq hk
   by_cases h:k'=k
   ·simp [zdB,h]
   ·have h2:(k'==p.1)=false:=by rw [← e]; simpa using h
    have h3:(k'==k)=false:=by simpa using h
    simp only [cond_true,zdB,List.find?_cons,h2,h3,if_neg h]
  | false=>
   show zdB (p::zha r k x) k'=_
   cases hp:(k'==p.1) with
   | true=>
    have e:k'=p.1:=eq_of_beq hp
    have h:k'≠k:=by intro h; rw [← h,hp] at hk; cases hk
    simp only [zdB,List.find?_cons,hp,if_neg h]
   | false=>
    simp only [zdB,List.find?_cons,hp] at ih ⊢
    exact ih

def zlT:List (Sem zf)→List ((Int×Int×Str)×Int)
 | []=>[]
 | v::r=>zha (zlT r) v (IntKind.i64.wrap (zdB (zlT r) v+1))
theorem zxu:∀ l:List (Sem zf),(zlT l).length≤l.length
 | []=>Nat.le_refl _
 | v::r=>by
  rw [zlT,← ziv,zrv]
  have:=zGf (zlT r) v
  have:=zxu r
  simp; omega
theorem zrQ:∀ (l:List (Sem zf)) (v:Sem zf),l.length≤1000000→zdB (zlT l) v=(l.count v:Int)
 | [],v,_=>by simp [zlT,zdB]
 | u::r,v,h=>by
  simp only [List.length_cons] at h
  have h1:=zrQ r u (by omega)
  have h2:=zrQ r v (by omega)
  have h3:r.count u≤r.length:=List.count_le_length
  rw [zlT,zsm,h1,h2,zH _ (by unfold zI; omega)]
  by_cases e:v=u
  ·subst e; simp
  ·have e':¬ (u==v)=true:=by intro h; exact e (eq_of_beq h).symm
   rw [if_neg e,List.count_cons,if_neg e']; rfl

theorem zxe {x:Sem zk} {c:Int} (hc:∀ r∈x.2,inB c (List.length r)=true) (hl:x.2.length≤1000000):∃ b,zvi x c=some (b,())∧(b=false↔zj1 x.2 c):=by
  let key:Nat→Sem zf:=fun i=>zab c (List.getD x.2 i (zl zf.sl))
  let mm:Nat→List ((Int×Int×Str)×Int):=fun i=>zlT (((x.2.take i).map (zab c)).reverse)
  have hm:∀ i,i < x.2.length→mm (i+1)=zha (mm i) (key i) (IntKind.i64.wrap (zdB (mm i) (key i)+1)):=by
    intro i hi
    show zlT (((x.2.take (i+1)).map (zab c)).reverse)=_
    rw [List.take_succ_eq_append_getElem hi,List.map_append,List.reverse_append]
    show zlT (zab c x.2[i]::_)=_
    rw [zlT]
    have:key i=zab c x.2[i]:=by
      show zab c (List.getD x.2 i _)=_
      rw [List.getD_eq_getElem?_getD,List.getElem?_eq_getElem hi,Option.getD_some]
    rw [this]
    rfl
  have hlen:∀ i,i≤x.2.length→(mm i).length≤i:=by
    intro i hi
    have:=zxu (((x.2.take i).map (zab c)).reverse)
    simp at this
    have h2:(mm i).length=(zlT (((x.2.take i).map (zab c)).reverse)).length:=rfl
    simp at h2
    omega
  have hget:∀ i v,i≤x.2.length→zdB (mm i) v=((((x.2.take i).map (zab c)).count v:Nat):Int):=by
    intro i v hi
    show zdB (zlT _) v=_
    rw [zrQ _ _ (by simp; omega),List.count_reverse]
  have hf:=For (t:=zwy) (Φ:=fun r=>zac r.2 [Sh.bool] r.1=some (true,())) 1 (fun i=>.h3 c x.2 (x.2.length:Int) (i:Int) (mm i)) (fun i=>(key i).1≠0→((x.2.take i).map (zab c)).count (key i)=0) x.2.length (by
    intro i hi _
    have k0:List.getD x.2 (i:Int).toNat (zl zf.sl)=List.getD x.2 i (zl zf.sl):=by rw [Int.toNat_natCast]
    have k1:List.getD x.2 i (zl zf.sl)=x.2[i]:=by rw [List.getD_eq_getElem?_getD,List.getElem?_eq_getElem hi,Option.getD_some]
    have k2:inB c (List.length x.2[i])=true:=hc _ (List.getElem_mem hi)
    have k3:key i=zab c x.2[i]:=by show zab c (List.getD x.2 i _)=_; rw [k1]
    have k4:inB ((zgb (mm i) (key i):Nat):Int) (zfk (mm i) (key i)).length=true:=zK (zI7 _ _)
    have k5:decide ((mm i).length≤1073741824)=true:=decide_eq_true (by have:=hlen i (by omega); omega)
    have k6:zfw (zfk (mm i) (key i)) ((zgb (mm i) (key i):Nat):Int).toNat (IntKind.i64.wrap (zdB (mm i) (key i)+1))=mm (i+1):=by rw [Int.toNat_natCast,ziv,hm i hi]
    have k7:zdB (mm (i+1)) (key i)=((((x.2.take i).map (zab c)).count (key i)+1:Nat):Int):=by
      have h3:((x.2.take i).map (zab c)).count (key i)≤((x.2.take i).map (zab c)).length:=List.count_le_length
      simp only [List.length_map,List.length_take] at h3
      rw [hm i hi,zsm,if_pos rfl,hget i _ (by omega),zH _ (by unfold zI; omega)]
    have hv:(zwy (.h3 c x.2 (x.2.length:Int) (i:Int) (mm i))).val=if (bif (key i).1 != 0 then decide (((((x.2.take i).map (zab c)).count (key i)+1:Nat):Int) > 1) else false)=true then some (.inr (.kb true,[])) else some (.inl (.h3 c x.2 (x.2.length:Int) ((i+1:Nat):Int) (mm (i+1)))):=by
      show (zlS c x.2 _ _ _).val=_
      unfold zlS
      simp only [k0,k1]
      rw [show List.getD x.2[i] (Int.toNat c) (zl zf)=key i from k3.symm]
      simp only [zpt,Tr.val,zV hi,zK hi,k2,k4,k5,if_true,k6,k7]
      rw [zH i (by unfold zI; omega)]
    by_cases h1:(key i).1=0
    · refine .inl ⟨fun h=>absurd h1 h,zaz.of ?_⟩
      rw [hv,if_neg (by simp [h1])]
    · by_cases h2:((x.2.take i).map (zab c)).count (key i)=0
      · refine .inl ⟨fun _=>h2,zaz.of ?_⟩
        rw [hv,if_neg (by rw [h2]; simp)]
      · refine .inr ⟨fun h => h2 (h h1),(.kb true,[]),zaI.of ?_,rfl⟩
        rw [hv, if_pos (by have:((key i).1 != 0)=true:=by simpa using h1
                           rw [this]; simp only [cond_true,decide_eq_true_eq]; omega)])
  have hu:(∀ i,i < x.2.length→(key i).1≠0→((x.2.take i).map (zab c)).count (key i)=0)↔zj1 x.2 c:=by
    unfold zj1
    rw [List.pairwise_iff_getElem]
    constructor
    · intro h j i hj hi hji hne e
      have k3:key i=zab c x.2[i]:=by show zab c (List.getD x.2 i _)=_; rw [List.getD_eq_getElem?_getD,List.getElem?_eq_getElem hi,Option.getD_some]
      have:=h i hi (by rw [k3,← e]; exact hne)
      rw [List.count_eq_zero,k3,← e] at this
      exact this (List.mem_map.2 ⟨_,List.mem_take_iff_getElem.2 ⟨j,by omega,rfl⟩,rfl⟩)
    · intro h i hi hne
      have k3:key i=zab c x.2[i]:=by show zab c (List.getD x.2 i _)=_; rw [List.getD_eq_getElem?_getD,List.getElem?_eq_getElem hi,Option.getD_some]
      rw [List.count_eq_zero]
      intro hmem
      obtain ⟨r,hr,e⟩:=List.mem_map.1 hmem
      obtain ⟨j,hj,rfl⟩:=List.mem_take_iff_getElem.1 hr
      rw [k3] at e hne
      exact h j i (by omega) hi (by omega) (by rw [e]; exact hne) e
  have hgo:(zAY x c).val=some (.inl (.h3 c x.2 (x.2.length:Int) ((0:Nat):Int) (mm 0))):=rfl
  rcases hf with ⟨h1,h2⟩ | ⟨h1,r,h2,h3⟩
  · refine ⟨false,?_,fun _=>hu.1 h1,fun _=>rfl⟩
    refine zO hgo (h2.ends (zaI.of (r:=(.kb false,[])) ?_)) (by omega) rfl
    show (zlS c x.2 _ _ _).val=_
    simp only [zlS,zpt,Tr.val,zP]
    rfl
  · refine ⟨true,zO hgo h2 (by omega) h3,⟨fun h=>?_,fun h=>absurd (hu.2 h) h1⟩⟩
    cases h
open Go Go.Proofs
set_option maxHeartbeats 4000000

theorem zZ {α:Type} {l:List α} {d:α} {Q:α→Prop}:(∀ i,i < l.length→Q (l.getD i d))↔∀ x∈l,Q x:=by
 constructor
 ·intro h x hx
  obtain ⟨i,hi,rfl⟩:=List.getElem_of_mem hx
  have:=h i hi
  rwa [List.getD_eq_getElem?_getD,List.getElem?_eq_getElem hi,Option.getD_some] at this
 ·intro h i hi
  rw [List.getD_eq_getElem?_getD,List.getElem?_eq_getElem hi,Option.getD_some]
  exact h _ (List.getElem_mem hi)
theorem zaO {α:Type} {l:List α} {d:α} {i:Nat} (hi:i < l.length):l.getD i d∈l:=by
 rw [List.getD_eq_getElem?_getD,List.getElem?_eq_getElem hi,Option.getD_some]
 exact List.getElem_mem hi
theorem ziQ (i:Nat) (h:i < zI):IntKind.i64.wrap (((i+1:Nat):Int) - 1)=(i:Int):=by
 have:zI=9223372036854775807:=rfl
 rw [IntKind.wrap_i64]
 omega

def vLt (a b:Sem zf):Prop:=LT.lt (α:=Int) (zb1 a b) 0
theorem zA6 {a b:Sem zf}:decide (GE.ge (α:=Int) (zb1 a b) 0)=true↔¬ vLt a b:=by
 unfold vLt
 rw [decide_eq_true_eq]
 omega

structure zgE (x:Sem zk):Prop where
 may:zdi x.1=true
 few:x.2.length≤200
 fits:∀ r∈x.2,zcL x.1 r=(0:Int)
 key:zj1 x.2 x.1.2.2.1
 uniq:∀ u∈x.1.2.2.2.1,zj1 x.2 u
 rise:∀ i,i < x.2.length - 1→vLt (zab x.1.2.2.1 (List.getD x.2 i (zl zf.sl))) (zab x.1.2.2.1 (List.getD x.2 (i+1) (zl zf.sl)))

def Err (r:Raw):Prop:=∃ e:Int,r=(.int .i64 e,[])∧e≠0

theorem zwj {x:Sem zk} (hs:zhQ x):∃ e:Int,zju x=some (e,())∧(e=0↔zgE x):=by
 have hsw:=hs.rw
 have hsu:=hs.uq
 have fin:∀ {k:Nat} {r:Raw},zaI zl7 k (.h6 x.2 (x.2.length:Int) ((0:Nat):Int) (x,())) r→k≤100000000→(zwY x).val=some (.inl (.h6 x.2 (x.2.length:Int) ((0:Nat):Int) (x,())))→∀ e:Int,r=(.int .i64 e,[])→zju x=some (e,()):=by
  intro k r h hk hi e he
  subst he
  exact zO hi h hk rfl
 by_cases hm:zdi x.1=true
 case neg=>
  refine ⟨1,?_,fun h=>(by cases h),fun h=>absurd h.may hm⟩
  unfold zju zaj zbk
  simp only [zwY,zw,Tr.val]
  rw [if_pos (by simpa using hm)]
  rfl
 by_cases hw:x.2.length≤200
 case neg=>
  refine ⟨13,?_,fun h=>(by cases h),fun h=>absurd h.few hw⟩
  unfold zju zaj zbk
  simp only [zwY,zw,Tr.val]
  rw [if_neg (by simpa using hm),if_pos (by simp; omega)]
  rfl
 have hi:(zwY x).val=some (.inl (.h6 x.2 (x.2.length:Int) ((0:Nat):Int) (x,()))):=by
  simp only [zwY,zw,Tr.val]
  rw [if_neg (by simpa using hm),if_neg (by simp; omega)]
  rfl
 obtain ⟨hkc,hrc,huc,_,_⟩:=zfP hm
 have h6:=For (t:=zl7) (Φ:=Err) 1 (fun i=>.h6 x.2 (x.2.length:Int) (i:Int) (x,())) (fun i=>zcL x.1 (List.getD x.2 i (zl zf.sl))=(0:Int)) x.2.length (by
  intro i hi _
  have hv:(zl7 (.h6 x.2 (x.2.length:Int) (i:Int) (x,()))).val=if (zcL x.1 (List.getD x.2 i (zl zf.sl)) != 0)=true then some (.inr (.int .i64 (zcL x.1 (List.getD x.2 i (zl zf.sl))),[])) else some (.inl (.h6 x.2 (x.2.length:Int) ((i+1:Nat):Int) (x,()))):=by
   show (zrI x.2 _ _ _).val=_
   unfold zrI
   simp only [zw,zuI,Tr.val,zV hi,zK hi,if_true,Int.toNat_natCast]
   rw [zH i (by unfold zI; omega)]
  by_cases h:zcL x.1 (List.getD x.2 i (zl zf.sl))=(0:Int)
  ·refine .inl ⟨h,zaz.of ?_⟩
   rw [hv,if_neg (by rw [h]; simp)]
  ·refine .inr ⟨h,_,zaI.of (by rw [hv,if_pos (by simpa using h)]),_,rfl,h⟩)
 rcases h6 with ⟨hf,h6⟩ | ⟨hf,r,h6,e,he,hne⟩
 case inr=>
  exact ⟨e,fin h6 (by omega) hi e he,fun h=>absurd h hne,fun h=>absurd ((zZ (Q:=fun r=>zcL x.1 r=(0:Int))).2 h.fits) hf⟩
 have hfits:=(zZ (Q:=fun r=>zcL x.1 r=(0:Int))).1 hf
 have hlen:∀ r∈x.2,List.length r=x.1.2.1.length:=fun r hr=>zpR (by simpa using hfits r hr)
 have hin:∀ c,inC c x.1.2.1.length→∀ r∈x.2,inB c (List.length r)=true:=fun c hc r hr=>by
  rw [hlen r hr]; exact zlz hc
 obtain ⟨b,hb,hbu⟩:=zxe (x:=x) (c:=x.1.2.2.1) (hin _ hkc) (by omega)
 have hbc:zhK x x.1.2.2.1=true:=by unfold zhK; rw [hb]; rfl
 have hbv:zkC x x.1.2.2.1=b:=by unfold zkC; rw [hb]; rfl
 have hv6:(zl7 (.h6 x.2 (x.2.length:Int) (x.2.length:Int) (x,()))).val=if b=true then some (.inr (.int .i64 7,[])) else some (.inl (.h15 x.1.2.2.2.1 (x.1.2.2.2.1.length:Int) ((0:Nat):Int) (x,()))):=by
  show (zrI x.2 _ _ _).val=_
  unfold zrI
  simp only [zw,zuI,Tr.val,zP,hbc,hbv,if_true]
  rfl
 by_cases hb1:b=true
 ·refine ⟨7,fin (h6.ends (zaI.of (by rw [hv6,if_pos hb1]))) (by omega) hi 7 rfl,fun h=>(by cases h),fun h=>?_⟩
  have:=hbu.2 h.key
  rw [hb1] at this; cases this
 have hkey:zj1 x.2 x.1.2.2.1:=hbu.1 (by simpa using hb1)
 have g15:zaz zl7 _ (.h6 x.2 (x.2.length:Int) ((0:Nat):Int) (x,())) _:=h6.trans (zaz.of (by rw [hv6,if_neg hb1]))
 have h15:=For (t:=zl7) (Φ:=Err) 1 (fun i=>.h15 x.1.2.2.2.1 (x.1.2.2.2.1.length:Int) (i:Int) (x,())) (fun i=>zj1 x.2 (List.getD x.1.2.2.2.1 i (zl zg))) x.1.2.2.2.1.length (by
  intro i hi _
  obtain ⟨b,hb,hbu⟩:=zxe (x:=x) (c:=List.getD x.1.2.2.2.1 i (zl zg)) (hin _ (huc _ (zaO hi))) (by omega)
  have hbc:zhK x (List.getD x.1.2.2.2.1 i (zl zg))=true:=by unfold zhK; rw [hb]; rfl
  have hbv:zkC x (List.getD x.1.2.2.2.1 i (zl zg))=b:=by unfold zkC; rw [hb]; rfl
  have hv:(zl7 (.h15 x.1.2.2.2.1 (x.1.2.2.2.1.length:Int) (i:Int) (x,()))).val=if b=true then some (.inr (.int .i64 7,[])) else some (.inl (.h15 x.1.2.2.2.1 (x.1.2.2.2.1.length:Int) ((i+1:Nat):Int) (x,()))):=by
   show (zk2 _ _ _ _).val=_
   unfold zk2
   simp only [zw,zq9,Tr.val,zV hi,zK hi,if_true,Int.toNat_natCast,hbc,hbv]
   rw [zH i (by unfold zI; omega)]
  by_cases h:b=true
  ·refine .inr ⟨fun hu=>?_,_,zaI.of (by rw [hv,if_pos h]),7,rfl,by decide⟩
   have:=hbu.2 hu
   rw [h] at this; cases this
  ·exact .inl ⟨hbu.1 (by simpa using h),zaz.of (by rw [hv,if_neg h])⟩)
 rcases h15 with ⟨hq,h15⟩ | ⟨hq,r,h15,e,he,hne⟩
 case inr=>
  exact ⟨e,fin (g15.ends h15) (by omega) hi e he,fun h=>absurd h hne,fun h=>absurd ((zZ (Q:=fun u=>zj1 x.2 u)).2 h.uniq) hq⟩
 have huniq:=(zZ (Q:=fun u=>zj1 x.2 u)).1 hq
 have hv15:(zl7 (.h15 x.1.2.2.2.1 (x.1.2.2.2.1.length:Int) (x.1.2.2.2.1.length:Int) (x,()))).val=some (.inl (.h21 ((0+1:Nat):Int) (x,()))):=by
  show (zk2 _ _ _ _).val=_
  unfold zk2
  simp only [zq9,Tr.val,zP]
  rfl
 have g21:=(g15.trans h15).trans (zaz.of hv15)
 have h21:=For (t:=zl7) (Φ:=Err) 1 (fun i=>.h21 ((i+1:Nat):Int) (x,())) (fun i=>vLt (zab x.1.2.2.1 (List.getD x.2 i (zl zf.sl))) (zab x.1.2.2.1 (List.getD x.2 (i+1) (zl zf.sl)))) (x.2.length - 1) (by
  intro i hi _
  have h1:i < x.2.length:=by omega
  have h2:i+1 < x.2.length:=by omega
  have hv:(zl7 (.h21 ((i+1:Nat):Int) (x,()))).val=if decide (GE.ge (α:=Int) (zb1 (zab x.1.2.2.1 (List.getD x.2 i (zl zf.sl))) (zab x.1.2.2.1 (List.getD x.2 (i+1) (zl zf.sl)))) 0)=true then some (.inr (.int .i64 15,[])) else some (.inl (.h21 ((i+1+1:Nat):Int) (x,()))):=by
   show (zlL _ _).val=_
   unfold zlL
   simp only [ziQ i (by unfold zI; omega)]
   simp only [zpw,Tr.val,zV h2,zK h2,zK h1,Int.toNat_natCast,hin _ hkc _ (zaO h1),hin _ hkc _ (zaO h2),if_true]
   rw [zH (i+1) (by unfold zI; omega)]
  by_cases h:vLt (zab x.1.2.2.1 (List.getD x.2 i (zl zf.sl))) (zab x.1.2.2.1 (List.getD x.2 (i+1) (zl zf.sl)))
  ·exact .inl ⟨h,zaz.of (by rw [hv,if_neg (fun h2=>zA6.1 h2 h)])⟩
  ·exact .inr ⟨h,_,zaI.of (by rw [hv,if_pos (zA6.2 h)]),15,rfl,by decide⟩)
 rcases h21 with ⟨hr,h21⟩ | ⟨hr,r,h21,e,he,hne⟩
 case inr=>
  exact ⟨e,fin (g21.ends h21) (by omega) hi e he,fun h=>absurd h hne,fun h=>absurd h.rise hr⟩
 have hv21:(zl7 (.h21 ((x.2.length - 1+1:Nat):Int) (x,()))).val=some (.inr (.int .i64 0,[])):=by
  show (zlL _ _).val=_
  unfold zlL
  simp only [zpw,Tr.val]
  rw [if_neg (by simp; omega)]
 exact ⟨0,fin (g21.ends (h21.ends (zaI.of hv21))) (by omega) hi 0 rfl,fun _=>⟨hm,hw,hfits,hkey,huniq,hr⟩,fun _=>rfl⟩
open Go Go.Proofs
set_option maxHeartbeats 4000000

abbrev zaL (db:List (Sem zk)) (s:Str):Sem zk:=List.getD db (Int.toNat (zak db s)) (zl zk)
def zx1 (db:List (Sem zk)):Prop:=∀ x∈db,∀ f∈x.1.2.2.2.2.1,LE.le (α:=Int) 0 (zak db f.2)∧∀ row∈x.2,(zab f.1 row).1≠0→zdU (zaL db f.2) (zaL db f.2).1.2.2.1 (zab f.1 row)=true

def IsF (r:Raw):Prop:=r=(.kb false,[])

theorem zH0 {db:List (Sem zk)} {x:Sem zk} {f:Sem zt} {i k:Nat} (hf:LE.le (α:=Int) 0 (zak db f.2)) (hc:∀ row∈x.2,inB f.1 (List.length row)=true) (hl:x.2.length≤1000):
  ((∀ j,j < x.2.length→(zab f.1 (List.getD x.2 j (zl zf.sl))).1≠0→zdU (zaL db f.2) (zaL db f.2).1.2.2.1 (zab f.1 (List.getD x.2 j (zl zf.sl)))=true)∧
   zaz zjW (x.2.length * 1) (.h11 db (zak db f.2) db (db.length:Int) (i:Int) x.1.2.2.2.2.1 (x.1.2.2.2.2.1.length:Int) (k:Int) x.2 (x.2.length:Int) ((0:Nat):Int) (x,()) (f,()))
    (.h11 db (zak db f.2) db (db.length:Int) (i:Int) x.1.2.2.2.2.1 (x.1.2.2.2.2.1.length:Int) (k:Int) x.2 (x.2.length:Int) (x.2.length:Int) (x,()) (f,())))∨
  ((¬ ∀ j,j < x.2.length→(zab f.1 (List.getD x.2 j (zl zf.sl))).1≠0→zdU (zaL db f.2) (zaL db f.2).1.2.2.1 (zab f.1 (List.getD x.2 j (zl zf.sl)))=true)∧
   ∃ r,zaI zjW (x.2.length * 1) (.h11 db (zak db f.2) db (db.length:Int) (i:Int) x.1.2.2.2.2.1 (x.1.2.2.2.2.1.length:Int) (k:Int) x.2 (x.2.length:Int) ((0:Nat):Int) (x,()) (f,())) r∧IsF r):=by
 refine For (t:=zjW) (Φ:=IsF) 1 (fun j=>.h11 db (zak db f.2) db (db.length:Int) (i:Int) x.1.2.2.2.2.1 (x.1.2.2.2.2.1.length:Int) (k:Int) x.2 (x.2.length:Int) (j:Int) (x,()) (f,())) (fun j=>(zab f.1 (List.getD x.2 j (zl zf.sl))).1≠0→zdU (zaL db f.2) (zaL db f.2).1.2.2.1 (zab f.1 (List.getD x.2 j (zl zf.sl)))=true) x.2.length ?_
 intro j hj _
 have hv:(zjW (.h11 db (zak db f.2) db (db.length:Int) (i:Int) x.1.2.2.2.2.1 (x.1.2.2.2.2.1.length:Int) (k:Int) x.2 (x.2.length:Int) (j:Int) (x,()) (f,()))).val=
   if (bif (zab f.1 (List.getD x.2 j (zl zf.sl))).1 != 0 then !zdU (zaL db f.2) (zaL db f.2).1.2.2.1 (zab f.1 (List.getD x.2 j (zl zf.sl))) else false)=true then some (.inr (.kb false,[])) else
   some (.inl (.h11 db (zak db f.2) db (db.length:Int) (i:Int) x.1.2.2.2.2.1 (x.1.2.2.2.2.1.length:Int) (k:Int) x.2 (x.2.length:Int) ((j+1:Nat):Int) (x,()) (f,()))):=by
  show (zli _ _ _ _ _ _ _ _ _ _ _ _ _).val=_
  unfold zli
  simp only [zw,zp6,Tr.val,zV hj,zK hj,hc _ (zaO hj),ziy hf,Int.toNat_natCast,if_true,Bool.and_self]
  rw [if_pos (by cases ((List.getD (List.getD x.2 j (zl zf.sl)) (Int.toNat f.1) (zl zf)).1 != 0) <;> rfl)]
  rw [zH j (by unfold zI; omega)]
 by_cases h1:(zab f.1 (List.getD x.2 j (zl zf.sl))).1=0
 ·exact .inl ⟨fun h=>absurd h1 h,zaz.of (by rw [hv,if_neg (by rw [h1]; simp)])⟩
 ·have h1':((zab f.1 (List.getD x.2 j (zl zf.sl))).1 != 0)=true:=by simpa using h1
  by_cases h2:zdU (zaL db f.2) (zaL db f.2).1.2.2.1 (zab f.1 (List.getD x.2 j (zl zf.sl)))=true
  ·exact .inl ⟨fun _=>h2,zaz.of (by rw [hv,if_neg (by rw [h2,h1']; simp)])⟩
  ·exact .inr ⟨fun h=>h2 (h h1),_,zaI.of (by rw [hv,if_pos (by rw [h1']; simpa using h2)]),rfl⟩

theorem zPw {db:List (Sem zk)} {x:Sem zk} {i:Nat} (hc:∀ f∈x.1.2.2.2.2.1,∀ row∈x.2,inB f.1 (List.length row)=true) (hl:x.2.length≤1000) (hr:x.1.2.2.2.2.1.length≤1000):
  let P:Nat→Prop:=fun k=>LE.le (α:=Int) 0 (zak db (List.getD x.1.2.2.2.2.1 k (zl zt)).2)∧∀ row∈x.2,(zab (List.getD x.1.2.2.2.2.1 k (zl zt)).1 row).1≠0→zdU (zaL db (List.getD x.1.2.2.2.2.1 k (zl zt)).2) (zaL db (List.getD x.1.2.2.2.2.1 k (zl zt)).2).1.2.2.1 (zab (List.getD x.1.2.2.2.2.1 k (zl zt)).1 row)=true
  ((∀ k,k < x.1.2.2.2.2.1.length→P k)∧zaz zjW (x.1.2.2.2.2.1.length * 1002) (.h5 db db (db.length:Int) (i:Int) x.1.2.2.2.2.1 (x.1.2.2.2.2.1.length:Int) ((0:Nat):Int) (x,())) (.h5 db db (db.length:Int) (i:Int) x.1.2.2.2.2.1 (x.1.2.2.2.2.1.length:Int) (x.1.2.2.2.2.1.length:Int) (x,())))∨
  ((¬ ∀ k,k < x.1.2.2.2.2.1.length→P k)∧∃ r,zaI zjW (x.1.2.2.2.2.1.length * 1002) (.h5 db db (db.length:Int) (i:Int) x.1.2.2.2.2.1 (x.1.2.2.2.2.1.length:Int) ((0:Nat):Int) (x,())) r∧IsF r):=by
 intro P
 refine For (t:=zjW) (Φ:=IsF) 1002 (fun k=>.h5 db db (db.length:Int) (i:Int) x.1.2.2.2.2.1 (x.1.2.2.2.2.1.length:Int) (k:Int) (x,())) P x.1.2.2.2.2.1.length ?_
 intro k hk _
 have hv:(zjW (.h5 db db (db.length:Int) (i:Int) x.1.2.2.2.2.1 (x.1.2.2.2.2.1.length:Int) (k:Int) (x,()))).val=
   if decide (LT.lt (α:=Int) (zak db (List.getD x.1.2.2.2.2.1 k (zl zt)).2) 0)=true then some (.inr (.kb false,[])) else
   some (.inl (.h11 db (zak db (List.getD x.1.2.2.2.2.1 k (zl zt)).2) db (db.length:Int) (i:Int) x.1.2.2.2.2.1 (x.1.2.2.2.2.1.length:Int) (k:Int) x.2 (x.2.length:Int) ((0:Nat):Int) (x,()) (List.getD x.1.2.2.2.2.1 k (zl zt),()))):=by
  show (zqZ _ _ _ _ _ _ _ _).val=_
  unfold zqZ
  simp only [zu7,Tr.val,zV hk,zK hk,Int.toNat_natCast,if_true]
  rfl
 by_cases h1:LE.le (α:=Int) 0 (zak db (List.getD x.1.2.2.2.2.1 k (zl zt)).2)
 ·have g1:=zaz.of (t:=zjW) (s:=.h5 db db (db.length:Int) (i:Int) x.1.2.2.2.2.1 (x.1.2.2.2.2.1.length:Int) (k:Int) (x,())) (by rw [hv,if_neg (by rw [decide_eq_true_eq]; omega)])
  rcases zH0 (db:=db) (x:=x) (f:=List.getD x.1.2.2.2.2.1 k (zl zt)) (i:=i) (k:=k) h1 (hc _ (zaO hk)) hl with ⟨h2,h3⟩ | ⟨h2,r,h3,h4⟩
  ·have hv2:(zjW (.h11 db (zak db (List.getD x.1.2.2.2.2.1 k (zl zt)).2) db (db.length:Int) (i:Int) x.1.2.2.2.2.1 (x.1.2.2.2.2.1.length:Int) (k:Int) x.2 (x.2.length:Int) (x.2.length:Int) (x,()) (List.getD x.1.2.2.2.2.1 k (zl zt),()))).val=
     some (.inl (.h5 db db (db.length:Int) (i:Int) x.1.2.2.2.2.1 (x.1.2.2.2.2.1.length:Int) ((k+1:Nat):Int) (x,()))):=by
    show (zli _ _ _ _ _ _ _ _ _ _ _ _ _).val=_
    unfold zli
    simp only [zp6,Tr.val,zP]
    rw [zH k (by unfold zI; omega)]
    rfl
   refine .inl ⟨⟨h1,?_⟩,((g1.trans h3).trans (zaz.of hv2)).mono (by omega)⟩
   exact (zZ (Q:=fun row=>(zab (List.getD x.1.2.2.2.2.1 k (zl zt)).1 row).1≠0→zdU (zaL db (List.getD x.1.2.2.2.2.1 k (zl zt)).2) (zaL db (List.getD x.1.2.2.2.2.1 k (zl zt)).2).1.2.2.1 (zab (List.getD x.1.2.2.2.2.1 k (zl zt)).1 row)=true)).1 h2
  ·refine .inr ⟨fun h=>h2 ?_,r,(g1.ends h3).mono (by omega),h4⟩
   exact (zZ (Q:=fun row=>(zab (List.getD x.1.2.2.2.2.1 k (zl zt)).1 row).1≠0→zdU (zaL db (List.getD x.1.2.2.2.2.1 k (zl zt)).2) (zaL db (List.getD x.1.2.2.2.2.1 k (zl zt)).2).1.2.2.1 (zab (List.getD x.1.2.2.2.2.1 k (zl zt)).1 row)=true)).2 h.2
 ·exact .inr ⟨fun h=>h1 h.1,_,(zaI.of (by rw [hv,if_pos (by rw [decide_eq_true_eq]; omega)])).mono (by omega),rfl⟩

theorem zv4 {db:List (Sem zk)} (hc:∀ x∈db,∀ f∈x.1.2.2.2.2.1,∀ row∈x.2,inB f.1 (List.length row)=true) (hs:∀ x∈db,zhQ x) (hl:db.length≤13):∃ b,zuf db=some (b,())∧(b=true↔zx1 db):=by
 have h2:=For (t:=zjW) (Φ:=IsF) 1010000 (fun i=>.h2 db db (db.length:Int) (i:Int)) (fun i=>∀ f∈(List.getD db i (zl zk)).1.2.2.2.2.1,LE.le (α:=Int) 0 (zak db f.2)∧∀ row∈(List.getD db i (zl zk)).2,(zab f.1 row).1≠0→zdU (zaL db f.2) (zaL db f.2).1.2.2.1 (zab f.1 row)=true) db.length (by
  intro i hi _
  have hm:=zaO (d:=zl zk) hi
  have hS:=hs _ hm
  have s1:=hS.rf
  have s2:=hS.rw
  have hv:(zjW (.h2 db db (db.length:Int) (i:Int))).val=some (.inl (.h5 db db (db.length:Int) (i:Int) (List.getD db i (zl zk)).1.2.2.2.2.1 ((List.getD db i (zl zk)).1.2.2.2.2.1.length:Int) ((0:Nat):Int) (List.getD db i (zl zk),()))):=by
   show (zqN _ _ _ _).val=_
   unfold zqN
   simp only [zu1,Tr.val,zV hi,zK hi,Int.toNat_natCast,if_true]
   rfl
  have g1:=zaz.of hv
  rcases zPw (db:=db) (x:=List.getD db i (zl zk)) (i:=i) (hc _ hm) s2 s1 with ⟨h2,h3⟩ | ⟨h2,r,h3,h4⟩
  ·have hv2:(zjW (.h5 db db (db.length:Int) (i:Int) (List.getD db i (zl zk)).1.2.2.2.2.1 ((List.getD db i (zl zk)).1.2.2.2.2.1.length:Int) ((List.getD db i (zl zk)).1.2.2.2.2.1.length:Int) (List.getD db i (zl zk),()))).val=some (.inl (.h2 db db (db.length:Int) ((i+1:Nat):Int))):=by
    show (zqZ _ _ _ _ _ _ _ _).val=_
    unfold zqZ
    simp only [zu7,Tr.val,zP]
    rw [zH i (by unfold zI; omega)]
    rfl
   refine .inl ⟨?_,((g1.trans h3).trans (zaz.of hv2)).mono (by omega)⟩
   exact (zZ (Q:=fun f:Sem zt=>LE.le (α:=Int) 0 (zak db f.2)∧∀ row∈(List.getD db i (zl zk)).2,(zab f.1 row).1≠0→zdU (zaL db f.2) (zaL db f.2).1.2.2.1 (zab f.1 row)=true)).1 h2
  ·refine .inr ⟨fun h=>h2 ?_,r,(g1.ends h3).mono (by omega),h4⟩
   exact (zZ (Q:=fun f:Sem zt=>LE.le (α:=Int) 0 (zak db f.2)∧∀ row∈(List.getD db i (zl zk)).2,(zab f.1 row).1≠0→zdU (zaL db f.2) (zaL db f.2).1.2.2.1 (zab f.1 row)=true)).2 h)
 have hb:(∀ i,i < db.length→∀ f∈(List.getD db i (zl zk)).1.2.2.2.2.1,LE.le (α:=Int) 0 (zak db f.2)∧∀ row∈(List.getD db i (zl zk)).2,(zab f.1 row).1≠0→zdU (zaL db f.2) (zaL db f.2).1.2.2.1 (zab f.1 row)=true)↔zx1 db:=
  zZ (Q:=fun x:Sem zk=>∀ f∈x.1.2.2.2.2.1,LE.le (α:=Int) 0 (zak db f.2)∧∀ row∈x.2,(zab f.1 row).1≠0→zdU (zaL db f.2) (zaL db f.2).1.2.2.1 (zab f.1 row)=true)
 have hi:(zIP db).val=some (.inl (.h2 db db (db.length:Int) ((0:Nat):Int))):=rfl
 rcases h2 with ⟨h2,h3⟩ | ⟨h2,r,h3,h4⟩
 ·refine ⟨true,zO hi (h3.ends (zaI.of (r:=(.kb true,[])) ?_)) (by omega) rfl,fun _=>hb.1 h2,fun _=>rfl⟩
  show (zqN _ _ _ _).val=_
  unfold zqN
  simp only [zu1,Tr.val,zP]
  rfl
 ·unfold IsF at h4
  subst h4
  exact ⟨false,zO hi h3 (by omega) rfl,fun h=>(by cases h),fun h=>absurd (hb.2 h) h2⟩

structure zpm (db:List (Sem zk)):Prop where
 few:db.length≤12
 names:∀ i,i < db.length - 1→Op.bytesLess (List.getD db i (zl zk)).1.1 (List.getD db (i+1) (zl zk)).1.1=true
 rels:∀ x∈db,zgE x
 bound:zx1 db

theorem zgE.cols {x:Sem zk} (h:zgE x):∀ f∈x.1.2.2.2.2.1,∀ row∈x.2,inB f.1 (List.length row)=true:=by
 intro f hf row hr
 obtain ⟨_,h1,_,_,_⟩:=zfP h.may
 rw [zpR (by simpa using h.fits row hr)]
 exact zlz (h1 f hf)

theorem znW {db:List (Sem zk)} (hs:∀ x∈db,zhQ x):∃ e:Int,zpb db=some (e,())∧(e=0↔zpm db):=by
 by_cases hw:db.length≤12
 case neg=>
  refine ⟨13,?_,fun h=>(by cases h),fun h=>absurd h.few hw⟩
  unfold zpb zaj zbk
  simp only [zCk,Tr.val]
  rw [if_pos (by simp; omega)]
  rfl
 have hi:(zCk db).val=some (.inl (.h4 db ((0+1:Nat):Int))):=by
  simp only [zCk,Tr.val]
  rw [if_neg (by simp; omega)]
  rfl
 have h4:=For (t:=ztV) (Φ:=Err) 1 (fun i=>.h4 db ((i+1:Nat):Int)) (fun i=>Op.bytesLess (List.getD db i (zl zk)).1.1 (List.getD db (i+1) (zl zk)).1.1=true) (db.length - 1) (by
  intro i hi _
  have h1:i < db.length:=by omega
  have h2:i+1 < db.length:=by omega
  have hv:(ztV (.h4 db ((i+1:Nat):Int))).val=if (!Op.bytesLess (List.getD db i (zl zk)).1.1 (List.getD db (i+1) (zl zk)).1.1)=true then some (.inr (.int .i64 15,[])) else some (.inl (.h4 db ((i+1+1:Nat):Int))):=by
   show (zpA _ _).val=_
   unfold zpA
   simp only [ziQ i (by unfold zI; omega)]
   simp only [zuT,Tr.val,zV h2,zK h2,zK h1,Int.toNat_natCast,if_true]
   rw [zH (i+1) (by unfold zI; omega)]
  by_cases h:Op.bytesLess (List.getD db i (zl zk)).1.1 (List.getD db (i+1) (zl zk)).1.1=true
  ·exact .inl ⟨h,zaz.of (by rw [hv,if_neg (by rw [h]; simp)])⟩
  ·exact .inr ⟨h,_,zaI.of (by rw [hv,if_pos (by simpa using h)]),15,rfl,by decide⟩)
 rcases h4 with ⟨hn,h4⟩ | ⟨hn,r,h4,e,he,hne⟩
 case inr=>
  subst he
  exact ⟨e,zO hi h4 (by omega) rfl,fun h=>absurd h hne,fun h=>absurd h.names hn⟩
 have hv4:(ztV (.h4 db ((db.length - 1+1:Nat):Int))).val=some (.inl (.h9 db db (db.length:Int) ((0:Nat):Int))):=by
  show (zpA _ _).val=_
  unfold zpA
  simp only [zuT,Tr.val]
  rw [if_neg (by simp; omega)]
  rfl
 have g9:=h4.trans (zaz.of hv4)
 have h9:=For (t:=ztV) (Φ:=Err) 1 (fun i=>.h9 db db (db.length:Int) (i:Int)) (fun i=>zgE (List.getD db i (zl zk))) db.length (by
  intro i hi _
  obtain ⟨e,he,heq⟩:=zwj (hs _ (zaO (d:=zl zk) hi))
  have hc:zpc (List.getD db i (zl zk))=true:=by unfold zpc; rw [he]; rfl
  have hv0:zt6 (List.getD db i (zl zk))=e:=by unfold zt6; rw [he]; rfl
  have hv:(ztV (.h9 db db (db.length:Int) (i:Int))).val=if (e != 0)=true then some (.inr (.int .i64 e,[])) else some (.inl (.h9 db db (db.length:Int) ((i+1:Nat):Int))):=by
   show (zqr _ _ _ _).val=_
   unfold zqr
   simp only [zw,zvW,Tr.val,zV hi,zK hi,Int.toNat_natCast,if_true,Prod.eta,hc,hv0]
   rw [zH i (by unfold zI; omega)]
  by_cases h:e=0
  ·exact .inl ⟨heq.1 h,zaz.of (by rw [hv,if_neg (by rw [h]; simp)])⟩
  ·exact .inr ⟨fun hr=>h (heq.2 hr),_,zaI.of (by rw [hv,if_pos (by simpa using h)]),e,rfl,h⟩)
 rcases h9 with ⟨hr,h9⟩ | ⟨hr,r,h9,e,he,hne⟩
 case inr=>
  subst he
  exact ⟨e,zO hi (g9.ends h9) (by omega) rfl,fun h=>absurd h hne,fun h=>absurd ((zZ (Q:=zgE)).2 h.rels) hr⟩
 have hrels:=(zZ (Q:=zgE)).1 hr
 obtain ⟨b,hb,hbb⟩:=zv4 (db:=db) (fun x hx=>(hrels x hx).cols) hs (by omega)
 have hc:zoT db=true:=by unfold zoT; rw [hb]; rfl
 have hv0:zt9 db=b:=by unfold zt9; rw [hb]; rfl
 have hv9:(ztV (.h9 db db (db.length:Int) (db.length:Int))).val=if (!b)=true then some (.inr (.int .i64 10,[])) else some (.inr (.int .i64 0,[])):=by
  show (zqr _ _ _ _).val=_
  unfold zqr
  simp only [zvW,Tr.val,zP,hc,hv0,if_true]
  rfl
 by_cases h:b=true
 ·exact ⟨0,zO hi (g9.ends (h9.ends (zaI.of (by rw [hv9,if_neg (by rw [h]; simp)])))) (by omega) rfl,fun _=>⟨hw,hn,hrels,hbb.1 h⟩,fun _=>rfl⟩
 ·exact ⟨10,zO hi (g9.ends (h9.ends (zaI.of (by rw [hv9,if_pos (by simpa using h)])))) (by omega) rfl,fun h=>(by cases h),fun hB=>absurd (hbb.2 hB.bound) h⟩
theorem zhS {db:List (Sem zk)} (hs:∀ x∈db,zhQ x):ze2 db=true:=by
 obtain ⟨e,h,_⟩:=znW hs
 unfold ze2; rw [h]; rfl
theorem zmP {db:List (Sem zk)} (hs:∀ x∈db,zhQ x):zf3 db=(0:Int)↔zpm db:=by
 obtain ⟨e,h,h2⟩:=znW hs
 unfold zf3; rw [h]; exact h2
open Go Go.Proofs
set_option maxHeartbeats 4000000

abbrev y11 (x0:Sem zk.sl) (x1:Sem zu):zj zal:=(x0,x1,([],[],0,[],[],ze.mk [] (0,0,[]) [] []),([],[],0,[],[],ze.mk [] (0,0,[]) [] []),x1.1,x1.2.2.1,x1.2.2.2.2.2.2.2.2.2.2.2.2,x1.2.1,0,x1.2.2.2.2.2.2.2.2.1,0,())

theorem zvJ (x0:Sem zk.sl) (x1:Sem zu):zyO x0 x1=(let a8:=zde (y11 x0 x1)
  let a11:=zim a8.2
  let a14:=zij a8.2
  let a17:=zfv a8.2
  zw2 x0 x1 x1.2.2.2.2.2.2.2.2.1 x1 (!zfd x1) (zhY x1&&bif !zfd x1 then true else ze2 x0) (bif !zfd x1 then true else zf3 x0 != 0) (cpC 16 x1.2.2.2.2.2.2.2.2.1) (y11 x0 x1) (zd0 (y11 x0 x1)) a8 (a8.1==0) a8.2 a11 a11.2 (zbX a11.2) a14 a14.2 (zbX a14.2) a17 a17.2 (zbX a17.2)):=by
 unfold zyO
 simp only [zj0,zBm,zw]

abbrev zDS (z:zj zX):Sem zas:=(z.2.2.2.2.1,z.2.2.2.2.2.1,z.2.2.2.2.2.2.1,(z.2.2.2.2.2.2.2.1,z.2.2.2.2.2.2.2.2.1,z.2.2.2.2.2.2.2.2.2.1,[],[],z.2.2.2.2.2.2.2.2.2.2.1),z.2.2.2.2.2.2.2.2.2.2.2.1,z.2.2.2.2.2.2.2.2.2.2.2.2.1)
abbrev zwx:Sem zas:=([],[],[],([],[],0,[],[],ze.mk [] (0,0,[]) [] []),[],0)

structure zNJ (x0:Sem zk.sl) (x1:Sem zu) (p:Sem zas):Prop where
 ok:zf3 x0=(0:Int)
 parts:zdW x1=true
 ex:∃ (y:zj zal) (z:zj zX),zG2 (y11 x0 x1) y∧y.1=x0∧y.2.1=x1∧y.2.2.2.2=(y11 x0 x1).2.2.2.2∧zi4 y z∧z.2.2.2.2.2.2.2.2.2.2.1=x1.2.2.2.2.2.2.2.2.1∧zBx y z∧p=zDS z

abbrev zwS (op:Str):Prop:=op=[99,111,112,121]∨op=[106,111,105,110]∨op=[103,114,111,117,112]

theorem zxD {s:Sem zu} (h:zfd s=true):zdW s=true:=by
 unfold zfd zkV at h
 by_cases hp:zdW s=true
 ·exact hp
 ·exfalso
  simp only [Bool.not_eq_true] at hp
  simp [hp] at h

theorem zxX {db:List (Sem zk)} {s:Str} (h:(0:Int)≤zak db s):db.getD (Int.toNat (zak db s)) (zl zk)∈db:=by
 have:=ziy h
 simp only [inB,Bool.and_eq_true,decide_eq_true_eq] at this
 exact zxI _ _ (by omega)

theorem zwA {s:Sem zu} (h:zdW s=true) (ho:s.1=[103,114,111,117,112]):s.2.2.2.1.length=2:=by
 rcases zz2 h with ⟨h1,_⟩ | ⟨_,h2⟩ | h1
 ·rw [ho] at h1; simp at h1
 ·exact h2
 ·rw [ho] at h1; simp at h1

theorem zrw (e:Int):zac [] [zas,zg] (AV.tup [AV.agg [AV.str [],AV.str [],AV.str [],AV.str [],AV.nils,AV.int .i64 0,AV.nils,AV.nils,AV.str [],AV.int .i64 0,AV.int .i64 0,AV.str [],AV.str [],AV.nils,AV.nils,AV.int .i64 0],AV.int .i64 e])=some (zwx,e,()):=rfl

theorem zPI (z:zj zX):zac [AO.vec zh z.2.2.2.2.2.2.2.2.1] [zas,zg] (AV.tup [AV.agg [AV.str z.2.2.2.2.1,AV.str z.2.2.2.2.2.1,AV.str z.2.2.2.2.2.2.1,AV.str z.2.2.2.2.2.2.2.1,AV.vec 0,
  AV.int .i64 z.2.2.2.2.2.2.2.2.2.1,AV.nils,AV.nils,AV.str (ze.op z.2.2.2.2.2.2.2.2.2.2.1),AV.int .i64 (ze.v z.2.2.2.2.2.2.2.2.2.2.1).1,AV.int .i64 (ze.v z.2.2.2.2.2.2.2.2.2.2.1).2.1,AV.str (ze.v z.2.2.2.2.2.2.2.2.2.2.1).2.2,AV.str (ze.s z.2.2.2.2.2.2.2.2.2.2.1),AV.sl Sh.expr (ze.l z.2.2.2.2.2.2.2.2.2.2.1),
  AV.sl zg z.2.2.2.2.2.2.2.2.2.2.2.1,AV.int .i64 z.2.2.2.2.2.2.2.2.2.2.2.2.1],AV.int .i64 0])=some (zDS z,0,()):=by
 obtain ⟨z0,z1,z2,z3,z4,z5,z6,z7,z8,z9,z10,z11,z12,z13⟩:=z
 cases z10
 rfl

def PfR (x0:Sem zk.sl) (x1:Sem zu) (o:Option (zo (List.map some [zas,zg]))):Prop:=∃ (p:Sem zas) (e:Int),o=some (p,e,())∧(¬ zwS x1.1→e=1∧p=zwx)∧(e≠0→p=zwx)∧(e=0→zNJ x0 x1 p)

theorem zog {x0:Sem zk.sl} {x1:Sem zu} {o:Option (zo (List.map some [zas,zg]))} (e:Int) (h:o=some (zwx,e,())) (he:e≠0) (hm:¬ zwS x1.1→e=1):PfR x0 x1 o:=
 ⟨zwx,e,h,fun h=>⟨hm h,rfl⟩,fun _=>rfl,fun h=>absurd h he⟩

theorem zI2 {x0:Sem zk.sl} {x1:Sem zu} (hM:zhY x1=true) (hB:ze2 x0=true) (hmay:(bif !zfd x1 then true else zf3 x0 != 0)=true):PfR x0 x1 (zsb x0 x1):=by
 have h3:(zhY x1&&bif !zfd x1 then true else ze2 x0)=true:=by rw [hM,hB]; cases zfd x1 <;> rfl
 refine zog 1 ?_ (by decide) (fun _=>rfl)
 unfold zsb zaj zbk
 rw [zvJ]
 simp only [zw2,Tr.val,h3,hmay,if_true]
 by_cases o1:(x1.1==[99,111,112,121])=true
 ·simp only [o1,if_true]; rfl
 ·by_cases o2:(x1.1==[106,111,105,110])=true
  ·simp only [o1,o2,if_true]; rfl
  ·by_cases o3:(x1.1==[103,114,111,117,112])=true
   ·simp only [o1,o2,o3,if_true]; rfl
   ·simp only [o1,o2,o3]; rfl

theorem zOQ {x0:Sem zk.sl} {x1:Sem zu} (hdb:∀ x∈x0,zhQ x) (hl:List.length x0≤13) (hs:zOM x1):PfR x0 x1 (zsb x0 x1):=by
 have hM:=zv2 hs.sh
 have hB:=zhS hdb
 by_cases hmay:(bif !zfd x1 then true else zf3 x0 != 0)=true
 ·exact zI2 hM hB hmay
 have h3:(zhY x1&&bif !zfd x1 then true else ze2 x0)=true:=by rw [hM,hB]; cases zfd x1 <;> rfl
 have hm1:zfd x1=true:=by
  cases h:zfd x1
  ·rw [h] at hmay; simp at hmay
  ·rfl
 have hb1:zf3 x0=(0:Int):=by
  rw [hm1] at hmay; simpa using hmay
 have hparts:=zxD hm1
 have hrels:=((zmP hdb).1 hb1).rels
 obtain ⟨e8,y8,h8,k1,k2,k3,k4⟩:=zxw (y11 x0 x1) (by show List.length x0≤_; omega)
 have s8:zde (y11 x0 x1)=(e8,y8):=by unfold zde; rw [h8]; rfl
 have c8:zd0 (y11 x0 x1)=true:=by unfold zd0; rw [h8]; rfl
 unfold zsb zaj zbk
 rw [zvJ]
 simp only [zw2,Tr.val,h3,hmay,hs.cp,s8,c8,if_true]
 by_cases e80:e8=0
 ·have hsrc:=k4 e80
  have n2:y8.2.1=x1:=k2
  have n1:y8.1=x0:=k1
  have nk:y8.2.2.2.2.2.2.2.2.1=(0:Int):=by rw [k3]
  have nch:y8.2.2.2.2.2.2.2.2.2.1=x1.2.2.2.2.2.2.2.2.1:=by rw [k3]
  have hfrom:y8.2.2.1=(List.getD x0 (Int.toNat (zak x0 x1.2.2.1)) (zl zk)).1:=hsrc.2.2.2.2.1
  have hwith:y8.2.2.2.1=(if x1.2.2.2.2.2.2.2.2.2.2.2.2=[] then ([],[],0,[],[],ze.mk [] (0,0,[]) [] []) else (List.getD x0 (Int.toNat (zak x0 x1.2.2.2.2.2.2.2.2.2.2.2.2)) (zl zk)).1):=hsrc.2.2.2.2.2
  have mayf:=zfP (hrels _ (zxX (db:=x0) (s:=x1.2.2.1) hsrc.1)).may
  rw [← hfrom] at mayf
  have hwl:List.length y8.2.2.2.1.2.1≤1000:=by
   rw [hwith]
   split
   ·simp
   ·rename_i hw
    have:=(zfP (hrels _ (zxX (db:=x0) (s:=x1.2.2.2.2.2.2.2.2.2.2.2.2) (hsrc.2.1.resolve_left hw))).may).2.2.2.1
    omega
  have e8b:(e8==0)=true:=by simpa using e80
  simp only [e8b,if_true]
  by_cases o1:(x1.1==[99,111,112,121])=true
  ·have hx:x1.1=[99,111,112,121]:=eq_of_beq o1
   have hmg:zwS x1.1:=Or.inl hx
   obtain ⟨e11,z,h11,hk,hch,hok⟩:=zFm y8 (by rw [n2]; have:=hs.sh.names.1; omega)
   have s11:zim y8=(e11,z):=by unfold zim; rw [h11]; rfl
   have c11:zkX y8=true:=by unfold zkX; rw [h11]; rfl
   simp only [o1,s11,c11,if_true]
   by_cases e0:e11=0
   ·have hA:=hok e0
    obtain ⟨e13,h13⟩:=zkR z hA.few
    have s13:zbX z=(e13,z):=by unfold zbX; rw [h13]; rfl
    have c13:zcq z=true:=by unfold zcq; rw [h13]; rfl
    have e0b:(e11==0)=true:=by simpa using e0
    simp only [e0b,s13,c13,if_true]
    by_cases f0:e13=0
    ·have f0c:(e13 != 0)=false:=by simp [f0]
     simp only [f0c]
     exact ⟨zDS z,0,zPI z,fun h=>absurd hmg h,fun h=>absurd rfl h,fun _=>⟨hb1,hparts,y8,z,hsrc,n1,n2,k3,hk,hch.trans nch,hA,rfl⟩⟩
    ·have f0c:(e13 != 0)=true:=by simpa using f0
     simp only [f0c,if_true]
     exact zog e13 (zrw e13) f0 (fun h=>absurd hmg h)
   ·have e0b:(e11==0)=false:=by simpa using e0
    have e0c:(e11 != 0)=true:=by simpa using e0
    simp only [e0b,e0c,if_true]
    exact zog e11 (zrw e11) e0 (fun h=>absurd hmg h)
  ·by_cases o2:(x1.1==[106,111,105,110])=true
   ·have hx:x1.1=[106,111,105,110]:=eq_of_beq o2
    have hmg:zwS x1.1:=Or.inr (Or.inl hx)
    obtain ⟨e11,z,h11,hk,hch,hok⟩:=zDr y8 (by rw [n2]; exact hx) (by have:=mayf.2.2.2.1; omega) hwl mayf.1
    have s11:zij y8=(e11,z):=by unfold zij; rw [h11]; rfl
    have c11:zkA y8=true:=by unfold zkA; rw [h11]; rfl
    simp only [o1,o2,s11,c11,if_true]
    by_cases e0:e11=0
    ·have hA:=hok e0
     obtain ⟨e13,h13⟩:=zkR z hA.few
     have s13:zbX z=(e13,z):=by unfold zbX; rw [h13]; rfl
     have c13:zcq z=true:=by unfold zcq; rw [h13]; rfl
     have e0b:(e11==0)=true:=by simpa using e0
     simp only [e0b,s13,c13,if_true]
     by_cases f0:e13=0
     ·have f0c:(e13 != 0)=false:=by simp [f0]
      simp only [f0c]
      exact ⟨zDS z,0,zPI z,fun h=>absurd hmg h,fun h=>absurd rfl h,fun _=>⟨hb1,hparts,y8,z,hsrc,n1,n2,k3,hk,hch.trans nch,hA,rfl⟩⟩
     ·have f0c:(e13 != 0)=true:=by simpa using f0
      simp only [f0c,if_true]
      exact zog e13 (zrw e13) f0 (fun h=>absurd hmg h)
    ·have e0b:(e11==0)=false:=by simpa using e0
     have e0c:(e11 != 0)=true:=by simpa using e0
     simp only [e0b,e0c,if_true]
     exact zog e11 (zrw e11) e0 (fun h=>absurd hmg h)
   ·by_cases o3:(x1.1==[103,114,111,117,112])=true
    ·have hx:x1.1=[103,114,111,117,112]:=eq_of_beq o3
     have hmg:zwS x1.1:=Or.inr (Or.inr hx)
     obtain ⟨e11,z,h11,hk,hch,hok⟩:=zCd y8 (by rw [n2]; exact zwA hparts hx) nk
     have s11:zfv y8=(e11,z):=by unfold zfv; rw [h11]; rfl
     have c11:zhA y8=true:=by unfold zhA; rw [h11]; rfl
     simp only [o1,o2,o3,s11,c11,if_true]
     by_cases e0:e11=0
     ·have hA:=hok e0
      obtain ⟨e13,h13⟩:=zkR z hA.few
      have s13:zbX z=(e13,z):=by unfold zbX; rw [h13]; rfl
      have c13:zcq z=true:=by unfold zcq; rw [h13]; rfl
      have e0b:(e11==0)=true:=by simpa using e0
      simp only [e0b,s13,c13,if_true]
      by_cases f0:e13=0
      ·have f0c:(e13 != 0)=false:=by simp [f0]
       simp only [f0c]
       exact ⟨zDS z,0,zPI z,fun h=>absurd hmg h,fun h=>absurd rfl h,fun _=>⟨hb1,hparts,y8,z,hsrc,n1,n2,k3,hk,hch.trans nch,hA,rfl⟩⟩
      ·have f0c:(e13 != 0)=true:=by simpa using f0
       simp only [f0c,if_true]
       exact zog e13 (zrw e13) f0 (fun h=>absurd hmg h)
     ·have e0b:(e11==0)=false:=by simpa using e0
      have e0c:(e11 != 0)=true:=by simpa using e0
      simp only [e0b,e0c,if_true]
      exact zog e11 (zrw e11) e0 (fun h=>absurd hmg h)
    ·simp only [o1,o2,o3]
     exact zog 1 (zrw 1) (by decide) (fun _=>rfl)
 ·have e8b:(e8==0)=false:=by simpa using e80
  have e8c:(e8 != 0)=true:=by simpa using e80
  simp only [e8b,e8c,if_true]
  by_cases o1:(x1.1==[99,111,112,121])=true
  ·simp only [o1,if_true]
   exact zog e8 (zrw e8) e80 (fun h=>absurd (Or.inl (eq_of_beq o1)) h)
  ·by_cases o2:(x1.1==[106,111,105,110])=true
   ·simp only [o1,o2,if_true]
    exact zog e8 (zrw e8) e80 (fun h=>absurd (Or.inr (Or.inl (eq_of_beq o2))) h)
   ·by_cases o3:(x1.1==[103,114,111,117,112])=true
    ·simp only [o1,o2,o3,if_true]
     exact zog e8 (zrw e8) e80 (fun h=>absurd (Or.inr (Or.inr (eq_of_beq o3))) h)
    ·simp only [o1,o2,o3]
     exact zog 1 (zrw 1) (by decide) (fun _=>rfl)
open Go Go.Proofs
set_option maxHeartbeats 4000000

section
variable {σ:Type}
def zag (m:σ→σ) (R:Raw→Raw→Prop):Option (σ ⊕ Raw)→Option (σ ⊕ Raw)→Prop
 | none,none=>True
 | some (.inl s),some (.inl s')=>s'=m s
 | some (.inr r),some (.inr r')=>R r r'
 | _,_=>False
theorem zag.br {m:σ→σ} {R:Raw→Raw→Prop} {c:Bool} {t t' f f':Tr (σ ⊕ Raw)} (h1:zag m R t.val t'.val) (h2:zag m R f.val f'.val):zag m R (Tr.br c t f).val (Tr.br c t' f').val:=by
 cases c
 ·exact h2
 ·exact h1
theorem zag.chk {m:σ→σ} {R:Raw→Raw→Prop} {c:Bool} {t t':Tr (σ ⊕ Raw)} (h1:zag m R t.val t'.val):zag m R (Tr.chk c t).val (Tr.chk c t').val:=by
 cases c
 ·exact trivial
 ·exact h1
theorem zag.err {m:σ→σ} {R:Raw→Raw→Prop}:zag m R (Tr.err:Tr (σ ⊕ Raw)).val (Tr.err:Tr (σ ⊕ Raw)).val:=trivial
theorem zag.to {m:σ→σ} {R:Raw→Raw→Prop} (s:σ):zag m R (Tr.to s).val (Tr.to (m s)).val:=rfl
theorem zag.re {m:σ→σ} {R:Raw→Raw→Prop} {v v':AV} {h h':List AO} (hr:R (v,h) (v',h')):zag m R (Tr.re v h).val (Tr.re v' h').val:=hr

def zVW {α:Type} (R:α→α→Prop):Option α→Option α→Prop
 | none,none=>True
 | some r,some r'=>R r r'
 | _,_=>False

theorem ztB {t:σ→Tr (σ ⊕ Raw)} {m:σ→σ} {R:Raw→Raw→Prop} (h:∀ s,zag m R (t s).val (t (m s)).val):∀ n s,zVW R (zb8 t n s) (zb8 t n (m s))
 | 0,_=>trivial
 | n + 1,s=>by
  have hs:=h s
  unfold zb8
  cases h1:(t s).val with
  | none=>
   rw [h1] at hs
   cases h2:(t (m s)).val with
   | none=>trivial
   | some x=>rw [h2] at hs; exact absurd hs (by cases x <;> exact id)
  | some x=>
   rw [h1] at hs
   cases h2:(t (m s)).val with
   | none=>rw [h2] at hs; exact absurd hs (by cases x <;> exact id)
   | some y=>
    rw [h2] at hs
    cases x with
    | inl x=>
     cases y with
     | inl y=>
      have:y=m x:=hs
      subst this
      exact ztB h n x
     | inr y=>exact absurd hs id
    | inr x=>
     cases y with
     | inl y=>exact absurd hs id
     | inr y=>exact hs

theorem zET {t:σ→Tr (σ ⊕ Raw)} {m:σ→σ} {R:Raw→Raw→Prop} (h:∀ s,zag m R (t s).val (t (m s)).val) {i i':Tr (σ ⊕ Raw)} (hi:zag m R i.val i'.val) (n:Nat):zVW R (zbk t n i) (zbk t n i'):=by
 unfold zbk
 cases h1:i.val with
 | none=>
  rw [h1] at hi
  cases h2:i'.val with
  | none=>trivial
  | some x=>rw [h2] at hi; exact absurd hi (by cases x <;> exact id)
 | some x=>
  rw [h1] at hi
  cases h2:i'.val with
  | none=>rw [h2] at hi; exact absurd hi (by cases x <;> exact id)
  | some y=>
   rw [h2] at hi
   cases x with
   | inl x=>
    cases y with
    | inl y=>
     have:y=m x:=hi
     subst this
     exact ztB h n x
    | inr y=>exact absurd hi id
   | inr x=>
    cases y with
    | inl y=>exact absurd hi id
    | inr y=>exact hi
end

abbrev zAf (x:Sem zk):Sem zk:=(x.1,[])
def bare (l:List (Sem zk)):List (Sem zk):=l.map zAf
theorem zgY (l:List (Sem zk)):(bare l).length=l.length:=by simp [bare]
theorem zfN (l:List (Sem zk)) (i:Nat):List.getD (bare l) i (zl zk)=zAf (List.getD l i (zl zk)):=by
 unfold bare
 rw [List.getD_eq_getElem?_getD,List.getD_eq_getElem?_getD,List.getElem?_map]
 cases l[i]? <;> rfl
theorem zqX {α β:Type} (f:α→β) (p:β→Bool):∀ (l:List α) (i:Nat),zaa p (l.map f) i=zaa (fun x=>p (f x)) l i
 | [],_=>rfl
 | x::r,i=>by simp only [List.map_cons,zaa,zqX f p r]
theorem zky (l:List (Sem zk)) (s:Str):zak (bare l) s=zak l s:=zqX zAf _ l 0

abbrev zaY {ps:List CP} (y:zj (.d (.sl zk)::ps)):zj (.d (.sl zk)::ps):=(bare y.1,y.2)
def zCN (ps:List CP) (r r':Raw):Prop:=∃ (v:AV) (y:zj (.d (.sl zk)::ps)),r=(v,zY (.d (.sl zk)::ps) y)∧r'=(v,zY (.d (.sl zk)::ps) (zaY y))

def m36:ziI→ziI
 | .h3 a b c z d=>.h3 a b c (zaY z) d
 | .h11 a b c z d=>.h11 (bare a) b c (zaY z) d
theorem zPZ:∀ s,zag m36 (zCN zal.tail) (zko s).val (zko (m36 s)).val
 | .h3 a b c z d=>by
  simp only [zko,ztO,m36,zky]
  unfold zoJ
  refine zag.br (zag.chk (zag.br (zag.re ⟨_,z,rfl,rfl⟩) (zag.to (m:=m36) (.h3 _ _ _ z _)))) (zag.br (zag.re ⟨_,z,rfl,rfl⟩) ?_)
  show zag m36 _ _ (Tr.to (ziI.h11 (bare z.1) ((bare z.1).length:Int) 0 (zaY z) d)).val
  rw [zgY]
  exact zag.to (m:=m36) (.h11 _ _ _ z _)
 | .h11 a b c z d=>by
  simp only [zko,zo6,m36,zky]
  unfold zlt
  rw [zgY a,zfN a]
  rw [zgY z.1,zfN z.1,zfN z.1]
  refine zag.br (zag.chk (zag.br (zag.br (zag.re ⟨_,z,rfl,rfl⟩) (zag.to (m:=m36) (.h11 _ _ _ z _))) (zag.to (m:=m36) (.h11 _ _ _ z _)))) (zag.chk (zag.br (zag.chk (zag.re ⟨_,(z.1,z.2.1,_,_,z.2.2.2.2),rfl,rfl⟩)) (zag.re ⟨_,(z.1,z.2.1,_,z.2.2.2),rfl,rfl⟩)))

theorem zyF (ps:List CP) (outs:List Sh) (v:AV) (y:zj ps):ziN ps outs v (zY ps y)=(zac [] outs v).map fun a=>(a,y):=by
 cases h:zac [] outs v with
 | some a=>exact zbs y h
 | none=>
  unfold ziN zY
  simp only [zaN,if_true,h]
  rfl

theorem zfL {σ:Type} {t:σ→Tr (σ ⊕ Raw)} {m:σ→σ} {ps:List CP} {outs:List Sh} (h:∀ s,zag m (zCN ps) (t s).val (t (m s)).val) {i i':Tr (σ ⊕ Raw)} (hi:zag m (zCN ps) i.val i'.val) (n:Nat):
  zfE outs (.d (.sl zk)::ps) t n i'=(zfE outs (.d (.sl zk)::ps) t n i).map fun r=>(r.1,zaY r.2):=by
 have hr:=zET h hi n
 unfold zfE
 cases h1:zbk t n i with
 | none=>
  rw [h1] at hr
  cases h2:zbk t n i' with
  | none=>rfl
  | some x=>rw [h2] at hr; exact absurd hr id
 | some x=>
  rw [h1] at hr
  cases h2:zbk t n i' with
  | none=>rw [h2] at hr; exact absurd hr id
  | some x'=>
   rw [h2] at hr
   obtain ⟨v,y,rfl,rfl⟩:=hr
   simp only [Option.bind_some,zyF]
   cases zac [] outs v <;> rfl

theorem zQj {R:Raw→Raw→Prop}:∀ s:Empty,zag id R (t0 s).val (t0 (id s)).val:=fun s=>nomatch s

abbrev psM:List CP:=zal.tail
abbrev zwh:List CP:=zX.tail
theorem zpK (y:zj zal):zd6 (zaY y)=(zd6 y).map fun r=>(r.1,zaY r.2):=by
 unfold zd6
 refine zfL (ps:=psM) zPZ ?_ _
 exact zag.to (m:=m36) (.h3 _ _ 0 y _)
theorem zj6 (y:zj zal):zd0 (zaY y)=zd0 y∧zde (zaY y)=((zde y).1,zaY (zde y).2):=by
 unfold zd0 zde
 rw [zpK]
 cases zd6 y <;> exact ⟨rfl,rfl⟩

def m66:ziB→ziB
 | .h3 a b c z=>.h3 a b c (zaY z)
 | .h12 a b z=>.h12 a b (zaY z)
 | .h12b a b z=>.h12b a b (zaY z)
theorem zUz:∀ s,zag m66 (zCN zwh) (zgu s).val (zgu (m66 s)).val
 | .h3 a b c z=>by
  simp only [zgu,zvA,m66]
  unfold zoo
  exact zag.br (zag.chk (zag.br (zag.re ⟨_,z,rfl,rfl⟩) (zag.chk (zag.chk (zag.chk (zag.to (m:=m66) (.h3 _ _ _ (z.1,z.2.1,z.2.2.1,z.2.2.2.1,z.2.2.2.2.1,z.2.2.2.2.2.1,z.2.2.2.2.2.2.1,z.2.2.2.2.2.2.2.1,_,z.2.2.2.2.2.2.2.2.2.1,z.2.2.2.2.2.2.2.2.2.2.1,_,z.2.2.2.2.2.2.2.2.2.2.2.2)))))))) (zag.to (m:=m66) (.h12 _ _ z))
 | .h12 a b z=>by
  simp only [zgu,zo2,m66]
  unfold zlc
  exact zag.br (zag.chk (zag.chk (zag.chk (zag.br (zag.re ⟨_,z,rfl,rfl⟩) (zag.to (m:=m66) (.h12b _ _ z)))))) (zag.re ⟨_,z,rfl,rfl⟩)
 | .h12b a b z=>by
  simp only [zgu,zmx,m66]
  unfold zjk
  exact zag.br (zag.chk (zag.chk (zag.br (zag.re ⟨_,z,rfl,rfl⟩) (zag.to (m:=m66) (.h12b _ _ z))))) (zag.re ⟨_,z,rfl,rfl⟩)
theorem zvs (y:zj zal):zgw (zaY y)=(zgw y).map fun r=>(r.1,zaY r.2):=by
 unfold zgw
 refine zfL (ps:=zwh) zUz ?_ _
 exact zag.to (m:=m66) (.h3 _ _ 0 (y.1,y.2.1,y.2.2.1,y.2.2.2.1,y.2.2.2.2.1,y.2.2.2.2.2.1,y.2.2.2.2.2.2.1,y.2.2.2.2.2.2.2.1,[],y.2.2.2.2.2.2.2.2.1,y.2.2.2.2.2.2.2.2.2.1,[],y.2.2.2.2.2.2.2.2.2.2))
theorem zgG (y:zj zal):ze3 (zaY y)=ze3 y∧zcS (zaY y)=((zcS y).1,zaY (zcS y).2):=by
 unfold ze3 zcS
 rw [zvs]
 cases zgw y <;> exact ⟨rfl,rfl⟩

theorem zw5 (y:zj zal):zi5 (zaY y)=(zi5 y).map fun r=>(r.1,zaY r.2):=by
 unfold zi5
 refine zfL (ps:=zwh) (m:=id) zQj ?_ _
 simp only [zCM,zAa,show zj0 (zaY y)=zaY (zj0 y) from rfl,(zgG (zj0 y)).1,(zgG (zj0 y)).2]
 generalize zcS (zj0 y)=w
 exact zag.chk (zag.br (zag.re ⟨_,w.2,rfl,rfl⟩) (zag.br (zag.re ⟨_,(w.2.1,w.2.2.1,w.2.2.2.1,w.2.2.2.2.1,w.2.2.2.2.2.1,w.2.2.2.2.2.2.1,w.2.2.2.2.2.2.2.1,w.2.2.2.2.2.2.2.2.1,w.2.2.2.2.2.2.2.2.2.1,_,w.2.2.2.2.2.2.2.2.2.2.2),rfl,rfl⟩) (zag.re ⟨_,(w.2.1,w.2.2.1,w.2.2.2.1,w.2.2.2.2.1,w.2.2.2.2.2.1,w.2.2.2.2.2.2.1,w.2.2.2.2.2.2.2.1,w.2.2.2.2.2.2.2.2.1,w.2.2.2.2.2.2.2.2.2.1,_,w.2.2.2.2.2.2.2.2.2.2.2),rfl,rfl⟩)))
theorem zkk (y:zj zal):zkX (zaY y)=zkX y∧zim (zaY y)=((zim y).1,zaY (zim y).2):=by
 unfold zkX zim
 rw [zw5]
 cases zi5 y <;> exact ⟨rfl,rfl⟩

theorem zvj (y:zj zal):zgI (zaY y)=(zgI y).map fun r=>(r.1,zaY r.2):=by
 unfold zgI
 refine zfL (ps:=zwh) (m:=id) zQj ?_ _
 simp only [zCB,zA2,show zj0 (zaY y)=zaY (zj0 y) from rfl,(zgG (zj0 y)).1,(zgG (zj0 y)).2]
 generalize zcS (zj0 y)=w
 exact zag.chk (zag.br (zag.re ⟨_,w.2,rfl,rfl⟩) (zag.chk (zag.chk (zag.br (zag.re ⟨_,w.2,rfl,rfl⟩) (zag.chk (zag.chk (zag.chk (zag.chk (zag.re ⟨_,(w.2.1,w.2.2.1,w.2.2.2.1,w.2.2.2.2.1,w.2.2.2.2.2.1,w.2.2.2.2.2.2.1,w.2.2.2.2.2.2.2.1,w.2.2.2.2.2.2.2.2.1,_,w.2.2.2.2.2.2.2.2.2.2),rfl,rfl⟩)))))))))
theorem ziY (y:zj zal):zhA (zaY y)=zhA y∧zfv (zaY y)=((zfv y).1,zaY (zfv y).2):=by
 unfold zhA zfv
 rw [zvj]
 cases zgI y <;> exact ⟨rfl,rfl⟩

def m31:zok→zok
 | .h11 a b c z=>.h11 a b c (zaY z)
theorem zV6:∀ s,zag m31 (zCN zwh) (zqB s).val (zqB (m31 s)).val
 | .h11 a b c z=>by
  simp only [zqB,zoQ,m31]
  unfold zms
  exact zag.br (zag.chk (zag.br (zag.chk (zag.chk (zag.to (m:=m31) (.h11 _ _ _ (z.1,z.2.1,z.2.2.1,z.2.2.2.1,z.2.2.2.2.1,z.2.2.2.2.2.1,z.2.2.2.2.2.2.1,z.2.2.2.2.2.2.2.1,_,z.2.2.2.2.2.2.2.2.2.1,z.2.2.2.2.2.2.2.2.2.2.1,_,z.2.2.2.2.2.2.2.2.2.2.2.2))))) (zag.to (m:=m31) (.h11 _ _ _ z)))) (zag.re ⟨_,z,rfl,rfl⟩)
theorem zwo (y:zj zal):ziC (zaY y)=(ziC y).map fun r=>(r.1,zaY r.2):=by
 unfold ziC
 refine zfL (ps:=zwh) zV6 ?_ _
 unfold zxY zF0
 exact zag.br (zag.re ⟨_,(y.1,y.2.1,y.2.2.1,y.2.2.2.1,y.2.2.2.2.1,y.2.2.2.2.2.1,y.2.2.2.2.2.2.1,y.2.2.2.2.2.2.2.1,[],y.2.2.2.2.2.2.2.2.1,_),rfl,rfl⟩) (zag.br (zag.re ⟨_,(y.1,y.2.1,y.2.2.1,y.2.2.2.1,y.2.2.2.2.1,y.2.2.2.2.2.1,y.2.2.2.2.2.2.1,y.2.2.2.2.2.2.2.1,[],y.2.2.2.2.2.2.2.2.1,_),rfl,rfl⟩) (zag.br (zag.re ⟨_,(y.1,y.2.1,y.2.2.1,y.2.2.2.1,y.2.2.2.2.1,y.2.2.2.2.2.1,y.2.2.2.2.2.2.1,y.2.2.2.2.2.2.2.1,[],y.2.2.2.2.2.2.2.2.1,_),rfl,rfl⟩) (zag.chk (zag.to (m:=m31) (.h11 _ _ 0 (y.1,y.2.1,y.2.2.1,y.2.2.2.1,y.2.2.2.2.1,y.2.2.2.2.2.1,y.2.2.2.2.2.2.1,y.2.2.2.2.2.2.2.1,y.2.2.1.2.1,y.2.2.1.2.2.1,_))))))
theorem zkN (y:zj zal):zkA (zaY y)=zkA y∧zij (zaY y)=((zij y).1,zaY (zij y).2):=by
 unfold zkA zij
 rw [zwo]
 cases ziC y <;> exact ⟨rfl,rfl⟩

def m37:zrV→zrV
 | .h2 a b z=>.h2 a b (zaY z)
theorem zVX:∀ s,zag m37 (zCN zwh) (zrn s).val (zrn (m37 s)).val
 | .h2 a b z=>by
  simp only [zrn,zux,m37]
  unfold zoM
  exact zag.br (zag.chk (zag.chk (zag.br (zag.re ⟨_,z,rfl,rfl⟩) (zag.to (m:=m37) (.h2 _ _ z))))) (zag.br (zag.re ⟨_,z,rfl,rfl⟩) (zag.br (zag.re ⟨_,z,rfl,rfl⟩) (zag.re ⟨_,z,rfl,rfl⟩)))
theorem zrU (y:zj zX):zfa (zaY y)=(zfa y).map fun r=>(r.1,zaY r.2):=by
 unfold zfa
 refine zfL (ps:=zwh) zVX ?_ _
 exact zag.to (m:=m37) (.h2 _ 0 y)
theorem zds (y:zj zX):zcq (zaY y)=zcq y∧zbX (zaY y)=((zbX y).1,zaY (zbX y).2):=by
 unfold zcq zbX
 rw [zrU]
 cases zfa y <;> exact ⟨rfl,rfl⟩

theorem zEV {db:List (Sem zk)} {s:Sem zu} (hc:ze2 (bare db)=ze2 db) (hb:zf3 (bare db)=zf3 db):zsb (bare db) s=zsb db s:=by
 unfold zsb
 have h:zyO (bare db) s=zyO db s:=by
  rw [zvJ,zvJ,hc,hb,show y11 (bare db) s=zaY (y11 db s) from rfl,(zj6 (y11 db s)).1,(zj6 (y11 db s)).2]
  generalize zde (y11 db s)=w
  simp only [(zkk w.2).2,(zkN w.2).2,(ziY w.2).2]
  rw [(zds (zim w.2).2).2,(zds (zij w.2).2).2,(zds (zfv w.2).2).2]
  unfold zw2
  rw [(zds (zim w.2).2).1,(zds (zij w.2).2).1,(zds (zfv w.2).2).1,(zkk w.2).1,(zkN w.2).1,(ziY w.2).1]
 rw [h]
open Go Go.Proofs
noncomputable section
set_option maxHeartbeats 4000000
abbrev zL:List CP:=[.d (.sl zt),.d zg,.d .bool]

abbrev zF4:Nat→zQ:=fun _=>{ }
theorem zNk:zF zb0.P 134 Tryz.f134 1:=by refine ⟨?_,?_,?_,?_⟩ <;> kernel_rfl
def zF1 (x0:Sem (Sh.int IntKind.u8)) (a0:Bool):Tr (Empty ⊕ Raw):=
 Tr.re (AV.bool (bif decide (65≤x0) then bif decide (x0≤90) then true else a0 else a0)) []
def zz8 (x0:Sem (Sh.int IntKind.u8)):Tr (Empty ⊕ Raw):=
 let a0:=bif decide (97≤x0) then decide (x0≤122) else false
 zF1 x0 a0
theorem zMD (x0:Sem (Sh.int IntKind.u8)):run zb0 0 zF4 (Func.results Tryz.f134).toList 400 (zq Tryz.f134) (zp (Func.ntmps Tryz.f134) [zx (Sh.int IntKind.u8) x0] [])=(zz8 x0).map (lf Tryz.f134 e0):=by kernel_rfl
def zjp (x0:Sem (Sh.int IntKind.u8)):Option (zo (List.map some [Sh.bool])):=zaj [Sh.bool] t0 100000000 (zz8 x0)
def zeC (x0:Sem (Sh.int IntKind.u8)):Bool:=(zjp x0).isSome
def zgc (x0:Sem (Sh.int IntKind.u8)):Sem Sh.bool:=(fun r:zo (List.map some [Sh.bool])=>r.1) ((zjp x0).getD (zad [Sh.bool]))
def zLe:zJ:=zG [Sh.int IntKind.u8] [Sh.bool] (fun x=>zeC x.1) fun x=>(zgc x.1,())
theorem zHx:FOk zb0.P zb0.gl 134 zLe:=zae (ks:=[Sh.int IntKind.u8]) (outs:=[Sh.bool]) (keep:=zF4) (gas:=400) (n:=100000000) (e:=e0) (t:=t0) (i:=fun x=>zz8 x.1) zfS zfR zNk (fun x=>zMD x.1) (on0 _ _ _ _ _) (fun _=>by kernel_rfl) (fun _=>by kernel_rfl)

abbrev zDo:Nat→zQ:=fun _=>{ }
theorem zL4:zF zb0.P 136 Tryz.f136 1:=by refine ⟨?_,?_,?_,?_⟩ <;> kernel_rfl
def zGn (x0:Sem (Sh.int IntKind.u8)):Tr (Empty ⊕ Raw):=
 Tr.re (AV.bool (bif decide (48≤x0) then decide (x0≤57) else false)) []
theorem zPf (x0:Sem (Sh.int IntKind.u8)):run zb0 0 zDo (Func.results Tryz.f136).toList 400 (zq Tryz.f136) (zp (Func.ntmps Tryz.f136) [zx (Sh.int IntKind.u8) x0] [])=(zGn x0).map (lf Tryz.f136 e0):=by kernel_rfl
def zrs (x0:Sem (Sh.int IntKind.u8)):Option (zo (List.map some [Sh.bool])):=zaj [Sh.bool] t0 100000000 (zGn x0)
def zc6 (x0:Sem (Sh.int IntKind.u8)):Bool:=(zrs x0).isSome
def zdM (x0:Sem (Sh.int IntKind.u8)):Sem Sh.bool:=(fun r:zo (List.map some [Sh.bool])=>r.1) ((zrs x0).getD (zad [Sh.bool]))
def zJZ:zJ:=zG [Sh.int IntKind.u8] [Sh.bool] (fun x=>zc6 x.1) fun x=>(zdM x.1,())
theorem zJG:FOk zb0.P zb0.gl 136 zJZ:=zae (ks:=[Sh.int IntKind.u8]) (outs:=[Sh.bool]) (keep:=zDo) (gas:=400) (n:=100000000) (e:=e0) (t:=t0) (i:=fun x=>zGn x.1) zfS zfR zL4 (fun x=>zPf x.1) (on0 _ _ _ _ _) (fun _=>by kernel_rfl) (fun _=>by kernel_rfl)

abbrev zDU:Nat→zQ:=fun j=>if j=2 then { slots:=[0,1,5] } else { }
inductive zyc where
 | h2 (l0:LS) (s1:TS) (i5:Int)
abbrev zGQ:zyc→Nat×St
 | .h2 l0 s1 i5=>(2,⟨tm 18 [(0,AV.sl Sh.str l0),(1,AV.str s1),(5,AV.int .i64 i5)],[]⟩)
theorem zRX:zF zb0.P 82 Tryz.f82 2:=by refine ⟨?_,?_,?_,?_⟩ <;> kernel_rfl
def zM6 (x0:Sem Sh.str.sl) (x1:TS):Tr (zyc ⊕ Raw):=
 Tr.to (zyc.h2 x0 x1 0)
def zON (l0:LS) (s1:TS) (i5:Int):Tr (zyc ⊕ Raw):=
 Tr.br (decide (i5 < (↑l0.length:Int)))
 (Tr.chk (inB i5 l0.length) (Tr.br (l0.getD i5.toNat (zl Sh.str)==s1) (Tr.re (AV.kb true) []) (Tr.to (zyc.h2 l0 s1 (IntKind.i64.wrap (i5+1))))))
 (Tr.re (AV.kb false) [])
theorem zSl (x0:Sem Sh.str.sl) (x1:TS):run zb0 0 zDU (Func.results Tryz.f82).toList 400 (zq Tryz.f82) (zp (Func.ntmps Tryz.f82) [zx Sh.str.sl x0,zx Sh.str x1] [])=(zM6 x0 x1).map (lf Tryz.f82 zGQ):=by kernel_rfl
def zLV:zyc→Tr (zyc ⊕ Raw)
 | .h2 l0 s1 i5=>zON l0 s1 i5
theorem zSD:∀ s,run zb0 0 zDU (Func.results Tryz.f82).toList 400 (zA Tryz.f82 (zGQ s).1) (zGQ s).2=(zLV s).map (lf Tryz.f82 zGQ)
 | .h2 l0 s1 i5=>by kernel_rfl
def zKu (x0:Sem Sh.str.sl) (x1:TS):Option (zo (List.map some [Sh.bool])):=zaj [Sh.bool] zLV 100000000 (zM6 x0 x1)
def zSc (x0:Sem Sh.str.sl) (x1:TS):Bool:=(zKu x0 x1).isSome
def zXy (x0:Sem Sh.str.sl) (x1:TS):Sem Sh.bool:=(fun r:zo (List.map some [Sh.bool])=>r.1) ((zKu x0 x1).getD (zad [Sh.bool]))
def zSG:zJ:=zG [Sh.str.sl,Sh.str] [Sh.bool] (fun x=>zSc x.1 x.2.1) fun x=>(zXy x.1 x.2.1,())
theorem zO6:FOk zb0.P zb0.gl 82 zSG:=zae (ks:=[Sh.str.sl,Sh.str]) (outs:=[Sh.bool]) (keep:=zDU) (gas:=400) (n:=100000000) (e:=zGQ) (t:=zLV) (i:=fun x=>zM6 x.1 x.2.1) zfS zfR zRX (fun x=>zSl x.1 x.2.1) zSD (fun _=>by kernel_rfl) (fun _=>by kernel_rfl)

abbrev zHh:Nat→zQ:=fun _=>{ }
theorem zOg:zF zb0.P 112 Tryz.f112 2:=by refine ⟨?_,?_,?_,?_⟩ <;> kernel_rfl
def zOR (y:zj zL) (_:TS) (a0:Bool) (a1:Bool) (_:Sem zt) (a3:Bool) (a4:Bool) (a5:Bool):Tr (Empty ⊕ Raw):=
 Tr.chk (bif a0 then a1&&bif a3 then a1 else a1&&bif a4 then a1 else true else true)
 (Tr.re (AV.bool (bif a0 then bif a3 then a5 else bif a4 then a5 else false else false)) (zY zL y))
def zHo (y:zj zL) (x0:TS):Tr (Empty ⊕ Raw):=
 let a0:=decide (y.2.1 < (↑(List.length y.1):Int))
 let a1:=inB y.2.1 (List.length y.1)
 let a2:=List.getD y.1 (Int.toNat y.2.1) (zl zt)
 let a3:=a2.1==1
 let a4:=a2.1==4
 let a5:=a2.2==x0
 zOR y x0 a0 a1 a2 a3 a4 a5
theorem zMM (y:zj zL) (x0:TS):run zb0 1 zHh (Func.results Tryz.f112).toList 400 (zq Tryz.f112) (zp (Func.ntmps Tryz.f112) [AV.ptr 0 0,zx Sh.str x0] (zY zL y))=(zHo y x0).map (lf Tryz.f112 e0):=by kernel_rfl
def zGk (y:zj zL) (x0:TS):Option (zo (List.map some [Sh.bool])×zj zL):=zfE [Sh.bool] zL t0 100000000 (zHo y x0)
def zui (y:zj zL) (x0:TS):Bool:=(zGk y x0).isSome
def zw1 (y:zj zL) (x0:TS):(Sem Sh.bool)×zj zL:=(fun r:zo (List.map some [Sh.bool])×zj zL=>(r.1.1,r.2)) ((zGk y x0).getD (zad [Sh.bool],zdv zL))
def zJY:zJ:=zk0 zL [Sh.str] [Sh.bool] zL (fun y x=>zui y x.1) fun y x=>(((zw1 y x.1).1,()),(zw1 y x.1).2)
theorem zHQ:FOk zb0.P zb0.gl 112 zJY:=zgr (ps:=zL) (ks:=[Sh.str]) (outs:=[Sh.bool]) (keep:=zHh) (gas:=400) (n:=100000000) (e:=e0) (t:=t0) (i:=fun y x=>zHo y x.1) zfS zfR zOg (fun y x=>zMM y x.1) (on0 _ _ _ _ _) (fun _ _=>by kernel_rfl) (fun _ _=>by kernel_rfl)

abbrev zFM:Nat→zQ:=fun j=>if j=4 then { slots:=[2,3,5] } else { }
inductive zCV where
 | h4 (i5:Int) (ja0:Str) (ja1:Int) (ja2:Int) (ja3:Str) (ja4:Str) (ja5:LX) (jb0:Str) (jb1:Int) (jb2:Int) (jb3:Str) (jb4:Str) (jb5:LX)
abbrev zEz:zCV→Nat×St
 | .h4 i5 ja0 ja1 ja2 ja3 ja4 ja5 jb0 jb1 jb2 jb3 jb4 jb5=>(4,⟨tm 53 [(2,AV.ptr 0 0),(3,AV.ptr 1 0),(5,AV.int .i64 i5)],[AO.box [AV.str ja0,AV.int .i64 ja1,AV.int .i64 ja2,AV.str ja3,AV.str ja4,AV.sl Sh.expr ja5],AO.box [AV.str jb0,AV.int .i64 jb1,AV.int .i64 jb2,AV.str jb3,AV.str jb4,AV.sl Sh.expr jb5]]⟩)
theorem zSA:zF zb0.P 77 Tryz.f77 2:=by refine ⟨?_,?_,?_,?_⟩ <;> kernel_rfl
def zPL (x0:Sem Sh.expr) (x1:Sem Sh.expr):Tr (zCV ⊕ Raw):=
 Tr.br
 (bif !ze.op x0==ze.op x1 then true
 else
  bif !((ze.v x0).1==(ze.v x1).1&&((ze.v x0).2.1==(ze.v x1).2.1&&((ze.v x0).2.2==(ze.v x1).2.2&&true))) then true
  else bif !ze.s x0==ze.s x1 then true else (↑(ze.l x0).length:Int) != (↑(ze.l x1).length:Int))
 (Tr.re (AV.kb false) [])
 (Tr.to
  (zCV.h4 0 (ze.op x0) (ze.v x0).1 (ze.v x0).2.1 (ze.v x0).2.2 (ze.s x0) (ze.l x0) (ze.op x1) (ze.v x1).1 (ze.v x1).2.1 (ze.v x1).2.2 (ze.s x1) (ze.l x1)))
def zMd (i5:Int) (_:Str) (_:Int) (_:Int) (_:Str) (_:Str) (ja5:LX) (_:Str) (_:Int) (_:Int) (_:Str) (_:Str) (jb5:LX):Tr (zCV ⊕ Raw):=
 Tr.br (decide (i5 < (↑ja5.length:Int))) (Tr.chk (inB i5 ja5.length) (Tr.chk (inB i5 jb5.length) Tr.err)) (Tr.re (AV.kb true) [])
theorem zRk (x0:Sem Sh.expr) (x1:Sem Sh.expr):run zb0 0 zFM (Func.results Tryz.f77).toList 400 (zq Tryz.f77) (zp (Func.ntmps Tryz.f77) [zx Sh.expr x0,zx Sh.expr x1] [])=(zPL x0 x1).map (lf Tryz.f77 zEz):=by kernel_rfl
def zNR:zCV→Tr (zCV ⊕ Raw)
 | .h4 i5 ja0 ja1 ja2 ja3 ja4 ja5 jb0 jb1 jb2 jb3 jb4 jb5=>zMd i5 ja0 ja1 ja2 ja3 ja4 ja5 jb0 jb1 jb2 jb3 jb4 jb5
theorem zQp:∀ s,run zb0 0 zFM (Func.results Tryz.f77).toList 400 (zA Tryz.f77 (zEz s).1) (zEz s).2=(zNR s).map (lf Tryz.f77 zEz)
 | .h4 i5 ja0 ja1 ja2 ja3 ja4 ja5 jb0 jb1 jb2 jb3 jb4 jb5=>by kernel_rfl
def zAC (x0:Sem Sh.expr) (x1:Sem Sh.expr):Option (zo (List.map some [Sh.bool])):=zaj [Sh.bool] zNR 100000000 (zPL x0 x1)
def zlR (x0:Sem Sh.expr) (x1:Sem Sh.expr):Bool:=(zAC x0 x1).isSome
def zqe (x0:Sem Sh.expr) (x1:Sem Sh.expr):Sem Sh.bool:=(fun r:zo (List.map some [Sh.bool])=>r.1) ((zAC x0 x1).getD (zad [Sh.bool]))
def zV4:zJ:=zG [Sh.expr,Sh.expr] [Sh.bool] (fun x=>zlR x.1 x.2.1) fun x=>(zqe x.1 x.2.1,())
theorem zLX:FOk zb0.P zb0.gl 77 zV4:=zae (ks:=[Sh.expr,Sh.expr]) (outs:=[Sh.bool]) (keep:=zFM) (gas:=400) (n:=100000000) (e:=zEz) (t:=zNR) (i:=fun x=>zPL x.1 x.2.1) zfS zfR zSA (fun x=>zRk x.1 x.2.1) zQp (fun _=>by kernel_rfl) (fun _=>by kernel_rfl)

def zcI:Env:=(((((zb0.add 134 zLe).add 136 zJZ).add 82 zSG).add 112 zJY).add 77 zV4)
theorem zhk:zi zcI:=(zi.addS (zi.addS (zi.addS (zi.addS (zi.addS zfS (zB.refl zb0) zHx) ((zB.refl zb0).add _ _) zJG) (((zB.refl zb0).add _ _).add _ _) zO6) ((((zB.refl zb0).add _ _).add _ _).add _ _) zHQ) (((((zB.refl zb0).add _ _).add _ _).add _ _).add _ _) zLX)
theorem zht:zcI.P.follows .mixedOrders=true:=(zm (zm (zm (zm (zm zfR _ _) _ _) _ _) _ _) _ _)
end
end Cad
